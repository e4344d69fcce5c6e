/-
  A number of 64 bits by its bits. No program in sight.
-/
namespace Go.Proofs.Ytahanpobeekhiaa
/-- the number whose bits below m are those of b -/
def num (b : Nat → Bool) : Nat → Nat
  | 0 => 0
  | m + 1 => num b m + (if b m then 2 ^ m else 0)
theorem num_lt (b : Nat → Bool) : ∀ m, num b m < 2 ^ m
  | 0 => by simp [num]
  | m + 1 => by
    have h := num_lt b m
    simp only [num, Nat.pow_succ]
    split <;> omega
theorem num_bit (b : Nat → Bool) : ∀ (m i : Nat), (num b m).testBit i = (decide (i < m) && b i)
  | 0, i => by simp [num]
  | m + 1, i => by
    have h := num_bit b m i
    have hl := num_lt b m
    simp only [num]
    cases hb : b m with
    | false =>
      simp only [Bool.false_eq_true, if_false, Nat.add_zero, h]
      by_cases hi : i = m
      · subst hi; simp [hb]
      · have e : decide (i < m + 1) = decide (i < m) := by
          congr 1
          exact propext ⟨fun h => by omega, fun h => by omega⟩
        rw [e]
    | true =>
      simp only [if_true]
      rw [Nat.add_comm]
      by_cases hi : i = m
      · subst hi
        rw [Nat.testBit_two_pow_add_eq, Nat.testBit_lt_two_pow hl]
        simp [hb]
      · by_cases hlt : i < m
        · rw [Nat.testBit_two_pow_add_gt hlt, h]
          simp [hlt, Nat.lt_succ_of_lt hlt]
        · have hbig : 2 ^ m + num b m < 2 ^ i := by
            have : 2 ^ (m + 1) ≤ 2 ^ i := Nat.pow_le_pow_right (by decide) (by omega)
            rw [Nat.pow_succ] at this
            omega
          rw [Nat.testBit_lt_two_pow hbig]
          simp
          omega
theorem num_ext {n m : Nat} (h : n < 2 ^ m) {b : Nat → Bool} (hb : ∀ i, i < m → n.testBit i = b i) : n = num b m := by
  apply Nat.eq_of_testBit_eq
  intro i
  rw [num_bit]
  by_cases hi : i < m
  · rw [hb i hi]; simp [hi]
  · rw [Nat.testBit_lt_two_pow (Nat.lt_of_lt_of_le h (Nat.pow_le_pow_right (by decide) (by omega)))]
    simp [hi]
theorem num_self {n m : Nat} (h : n < 2 ^ m) : n = num n.testBit m := num_ext h fun _ _ => rfl
theorem num_congr {b c : Nat → Bool} {m : Nat} (h : ∀ i, i < m → b i = c i) : num b m = num c m :=
  num_ext (num_lt b m) fun i hi => by rw [num_bit]; simp [hi, h i hi]
end Go.Proofs.Ytahanpobeekhiaa
