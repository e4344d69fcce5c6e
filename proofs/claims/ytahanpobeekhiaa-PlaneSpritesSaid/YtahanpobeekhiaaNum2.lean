/-
  Shifts of numbers of 64 bits, and rows moved.
-/
import Derived.Test.YtahanpobeekhiaaRowB06
namespace Go.Proofs.Ytahanpobeekhiaa
open Go Go.RowKit
set_option linter.unusedVariables false
set_option linter.unusedSimpArgs false
set_option maxHeartbeats 2000000

theorem wrapU (z : Int) : IntKind.u64.wrap z = z % 18446744073709551616 := by
  unfold IntKind.wrap
  simp [IntKind.signed, IntKind.bits]
theorem num_or (b c : Nat → Bool) (m : Nat) : num b m ||| num c m = num (fun i => b i || c i) m :=
  num_ext (Nat.or_lt_two_pow (num_lt b m) (num_lt c m)) fun i hi => by rw [Nat.testBit_or, num_bit, num_bit]; simp [hi]
theorem shr64 {x : Nat} (hx : x < 2 ^ 64) (n : Nat) : ((x : Nat) : Int).fdiv (2 ^ (min ((n : Nat) : Int).toNat IntKind.u64.bits)) = ((x >>> n : Nat) : Int) := by
  have e : ((n : Nat) : Int).toNat = n := rfl
  have e2 : IntKind.u64.bits = 64 := rfl
  rw [e, e2]
  rw [Int.fdiv_eq_ediv_of_nonneg _ (Int.le_of_lt (Int.pow_pos (by decide)))]
  rw [show ((2 : Int) ^ min n 64) = ((2 ^ min n 64 : Nat) : Int) by simp, ← Int.natCast_ediv]
  congr 1
  rw [Nat.shiftRight_eq_div_pow]
  by_cases h : n ≤ 64
  · rw [Nat.min_eq_left h]
  · rw [Nat.min_eq_right (by omega), Nat.div_eq_of_lt hx, Nat.div_eq_of_lt (Nat.lt_of_lt_of_le hx (Nat.pow_le_pow_right (by decide) (by omega)))]
theorem shl64 {x : Nat} (n : Nat) : IntKind.u64.wrap (((x : Nat) : Int) * 2 ^ (min ((n : Nat) : Int).toNat IntKind.u64.bits)) = ((x <<< n % 2 ^ 64 : Nat) : Int) := by
  have e : ((n : Nat) : Int).toNat = n := rfl
  have e2 : IntKind.u64.bits = 64 := rfl
  rw [e, e2, wrapU]
  rw [show ((2 : Int) ^ min n 64) = ((2 ^ min n 64 : Nat) : Int) by simp, ← Int.natCast_mul, show (18446744073709551616 : Int) = ((2 ^ 64 : Nat) : Int) by decide, ← Int.natCast_emod]
  congr 1
  rw [Nat.shiftLeft_eq]
  by_cases h : n ≤ 64
  · rw [Nat.min_eq_left h]
  · rw [Nat.min_eq_right (by omega)]
    obtain ⟨k, rfl⟩ : ∃ k, n = 64 + k := ⟨n - 64, by omega⟩
    rw [Nat.pow_add, ← Nat.mul_assoc, Nat.mul_mod_left, Nat.mul_right_comm, Nat.mul_mod_left]
theorem num_shr (b : Nat → Bool) (n : Nat) : num b 64 >>> n = num (fun i => decide (i + n < 64) && b (i + n)) 64 :=
  num_ext (Nat.lt_of_le_of_lt (by rw [Nat.shiftRight_eq_div_pow]; exact Nat.div_le_self _ _) (num_lt b 64)) fun i hi => by rw [Nat.testBit_shiftRight, num_bit, Nat.add_comm]
theorem num_shl (b : Nat → Bool) (n : Nat) : num b 64 <<< n % 2 ^ 64 = num (fun i => decide (n ≤ i) && b (i - n)) 64 :=
  num_ext (Nat.mod_lt _ (by decide)) fun i hi => by
    rw [Nat.testBit_mod_two_pow, Nat.testBit_shiftLeft, num_bit]
    have h : i - n < 64 := by omega
    simp [hi, h]
theorem shrN (b : Nat → Bool) (n : Nat) : ((num b 64 : Nat) : Int).fdiv (2 ^ (min ((n : Nat) : Int).toNat IntKind.u64.bits)) = ((num (fun i => decide (i + n < 64) && b (i + n)) 64 : Nat) : Int) := by
  rw [shr64 (num_lt b 64) n, num_shr]
theorem shlN (b : Nat → Bool) (n : Nat) : IntKind.u64.wrap (((num b 64 : Nat) : Int) * 2 ^ (min ((n : Nat) : Int).toNat IntKind.u64.bits)) = ((num (fun i => decide (n ≤ i) && b (i - n)) 64 : Nat) : Int) := by
  rw [shl64 n, num_shl]
theorem num_zero (m : Nat) : num (fun _ => false) m = 0 := (num_ext (Nat.two_pow_pos m) fun i _ => by simp).symm
def sN (n : Nat) : Nat := if n ≤ 64 then 64 - n else 18446744073709551680 - n
def tN (n : Nat) : Nat := if 64 ≤ n then n - 64 else 18446744073709551552 + n
theorem sN_eq {n : Nat} (h : n < 9223372036854775808) : IntKind.u64.wrap (64 - (n : Int)) = ((sN n : Nat) : Int) := by
  rw [wrapU]; unfold sN; split <;> omega
theorem tN_eq {n : Nat} (h : n < 9223372036854775808) : IntKind.u64.wrap ((n : Int) - 64) = ((tN n : Nat) : Int) := by
  rw [wrapU]; unfold tN; split <;> omega
def rightP (p : Nat → Bool) (n x : Nat) : Bool := decide (n ≤ x) && p (x - n)
def leftP (p : Nat → Bool) (n x : Nat) : Bool := decide (x + n < 128) && p (x + n)
theorem right_hi (p : Nat → Bool) (n : Nat) : num (fun i => decide (i + n < 64) && (fun i => p (63 - i)) (i + n)) 64 = hiN (rightP p n) :=
  num_congr fun i hi => by
    unfold rightP
    by_cases h : i + n < 64
    · have h2 : n ≤ 63 - i := by omega
      simp only [h, h2, decide_true, Bool.true_and]; congr 1; omega
    · have h2 : ¬ n ≤ 63 - i := by omega
      simp [h, h2]
theorem right_lo (p : Nat → Bool) {n : Nat} (hn : n < 9223372036854775808) :
    num (fun i => (decide (i + n < 64) && (fun i => p (127 - i)) (i + n)) || (decide (sN n ≤ i) && (fun i => p (63 - i)) (i - sN n)) || (decide (i + tN n < 64) && (fun i => p (63 - i)) (i + tN n))) 64 = loN (rightP p n) :=
  num_congr fun i hi => by
    unfold rightP
    by_cases h1 : i + n < 64
    · have a1 : ¬ sN n ≤ i := by unfold sN; split <;> omega
      have a2 : ¬ i + tN n < 64 := by unfold tN; split <;> omega
      have a3 : n ≤ 127 - i := by omega
      simp only [h1, a1, a2, a3, decide_true, decide_false, Bool.true_and, Bool.false_and, Bool.or_false]; congr 1; omega
    · by_cases h2 : n ≤ 64
      · have a1 : sN n ≤ i := by unfold sN; split <;> omega
        have a3 : n ≤ 127 - i := by omega
        have a4 : 63 - (i - sN n) = 127 - i - n := by
          have e : sN n = 64 - n := by unfold sN; rw [if_pos h2]
          omega
        by_cases h3 : n = 64
        · have a2 : i + tN n < 64 := by unfold tN; split <;> omega
          have a5 : 63 - (i + tN n) = 127 - i - n := by unfold tN; split <;> omega
          simp [h1, a1, a2, a3, a4, a5]
        · have a2 : ¬ i + tN n < 64 := by unfold tN; split <;> omega
          simp [h1, a1, a2, a3, a4]
      · have a1 : ¬ sN n ≤ i := by unfold sN; split <;> omega
        by_cases h3 : n ≤ 127 - i
        · have a2 : i + tN n < 64 := by unfold tN; split <;> omega
          have a5 : 63 - (i + tN n) = 127 - i - n := by unfold tN; split <;> omega
          simp [h1, a1, a2, h3, a5]
        · have a2 : ¬ i + tN n < 64 := by unfold tN; split <;> omega
          simp [h1, a1, a2, h3]
theorem left_lo (p : Nat → Bool) (n : Nat) : num (fun i => decide (n ≤ i) && (fun i => p (127 - i)) (i - n)) 64 = loN (leftP p n) :=
  num_congr fun i hi => by
    unfold leftP
    by_cases h : n ≤ i
    · have h2 : 127 - i + n < 128 := by omega
      simp only [h, h2, decide_true, Bool.true_and]; congr 1; omega
    · have h2 : ¬ 127 - i + n < 128 := by omega
      simp [h, h2]
theorem left_hi (p : Nat → Bool) {n : Nat} (hn : n < 9223372036854775808) :
    num (fun i => (decide (n ≤ i) && (fun i => p (63 - i)) (i - n)) || (decide (i + sN n < 64) && (fun i => p (127 - i)) (i + sN n)) || (decide (tN n ≤ i) && (fun i => p (127 - i)) (i - tN n))) 64 = hiN (leftP p n) :=
  num_congr fun i hi => by
    unfold leftP
    by_cases h1 : n ≤ i
    · have a1 : ¬ i + sN n < 64 := by unfold sN; split <;> omega
      have a2 : ¬ tN n ≤ i := by unfold tN; split <;> omega
      have a3 : 63 - i + n < 128 := by omega
      simp only [h1, a1, a2, a3, decide_true, decide_false, Bool.true_and, Bool.false_and, Bool.or_false]; congr 1; omega
    · by_cases h2 : n ≤ 64
      · have a1 : i + sN n < 64 := by unfold sN; split <;> omega
        have a3 : 63 - i + n < 128 := by omega
        have a4 : 127 - (i + sN n) = 63 - i + n := by unfold sN; split <;> omega
        by_cases h3 : n = 64
        · have a2 : tN n ≤ i := by unfold tN; split <;> omega
          have a5 : 127 - (i - tN n) = 63 - i + n := by unfold tN; split <;> omega
          simp [h1, a1, a2, a3, a4, a5]
        · have a2 : ¬ tN n ≤ i := by unfold tN; split <;> omega
          simp [h1, a1, a2, a3, a4]
      · have a1 : ¬ i + sN n < 64 := by unfold sN; split <;> omega
        by_cases h3 : 63 - i + n < 128
        · have a2 : tN n ≤ i := by unfold tN; split <;> omega
          have a5 : 127 - (i - tN n) = 63 - i + n := by unfold tN; split <;> omega
          simp [h1, a1, a2, h3, a5]
        · have a2 : ¬ tN n ≤ i := by unfold tN; split <;> omega
          simp [h1, a1, a2, h3]
theorem top_shr (k : Nat) (h : k < 64) : ((9223372036854775808 : Int)).fdiv (2 ^ (min ((k : Nat) : Int).toNat IntKind.u64.bits)) = ((num (fun i => i == 63 - k) 64 : Nat) : Int) := by
  rw [show (9223372036854775808 : Int) = ((9223372036854775808 : Nat) : Int) by rfl, shr64 (by decide) k, num_one (show 63 - k < 64 by omega)]
  congr 1
  rw [Nat.shiftRight_eq_div_pow, show (9223372036854775808 : Nat) = 2 ^ 63 by decide, Nat.pow_div (by omega) (by decide)]
theorem pix_hi {k : Nat} (h : k < 64) : #[Value.int .u64 ((num (fun i => i == 63 - k) 64 : Nat) : Int), .int .u64 0] = rowV (fun x => x == k) := by
  unfold rowV hiN loN
  rw [num_congr (b := fun i => (127 - i) == k) (c := fun _ => false) (fun i hi => by simp; omega), num_zero]
  rw [num_congr (b := fun i => (63 - i) == k) (c := fun i => i == 63 - k) (fun i hi => by
    by_cases e : i = 63 - k
    · subst e; simp; omega
    · have : ¬ (63 - i = k) := by omega
      exact (beq_eq_false_iff_ne.2 this).trans (beq_eq_false_iff_ne.2 e).symm)]
  rfl
theorem pix_lo {k : Nat} (h : k < 64) : #[Value.int .u64 0, Value.int .u64 ((num (fun i => i == 63 - k) 64 : Nat) : Int)] = rowV (fun x => x == k + 64) := by
  unfold rowV hiN loN
  rw [num_congr (b := fun i => (63 - i) == k + 64) (c := fun _ => false) (fun i hi => by simp; omega), num_zero]
  rw [num_congr (b := fun i => (127 - i) == k + 64) (c := fun i => i == 63 - k) (fun i hi => by
    by_cases e : i = 63 - k
    · subst e; simp; omega
    · have : ¬ (127 - i = k + 64) := by omega
      exact (beq_eq_false_iff_ne.2 this).trans (beq_eq_false_iff_ne.2 e).symm)]
  rfl
theorem one_empty (p : Nat → Bool) {k : Nat} (h : k < 128) : (!eqB (fun y => p y && (y == k)) noneP) = p k := by
  cases hp : p k with
  | false =>
    rw [(eqB_iff _ _).2 fun x hx => ?_]
    · rfl
    · by_cases e : x = k
      · subst e; simp [hp, noneP]
      · simp [e, noneP]
  | true =>
    cases he : eqB (fun y => p y && (y == k)) noneP with
    | false => rfl
    | true => have h2 := (eqB_iff _ _).1 he k h; simp [hp, noneP] at h2

end Go.Proofs.Ytahanpobeekhiaa
