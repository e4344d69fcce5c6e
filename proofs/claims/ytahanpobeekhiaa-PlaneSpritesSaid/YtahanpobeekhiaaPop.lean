/-
  Numbers by fields of bits, and the number of lit bits of a number of 64 bits. No program in sight.
-/
import Derived.Test.YtahanpobeekhiaaNum
namespace Go.Proofs.Ytahanpobeekhiaa
set_option linter.unusedVariables false
set_option linter.unusedSimpArgs false
/-- the number with fields f of w bits -/
def flds (w : Nat) (f : Nat → Nat) : Nat → Nat
  | 0 => 0
  | m + 1 => 2 ^ (w * m) * f m + flds w f m
theorem flds_lt {w : Nat} {f : Nat → Nat} (h : ∀ i, f i < 2 ^ w) : ∀ m, flds w f m < 2 ^ (w * m)
  | 0 => by simp [flds]
  | m + 1 => by
    have h1 := flds_lt h m
    have h2 := h m
    have h3 : 2 ^ (w * m) * (f m + 1) ≤ 2 ^ (w * m) * 2 ^ w := Nat.mul_le_mul_left _ h2
    rw [Nat.mul_succ, Nat.pow_add]
    simp only [flds]
    rw [Nat.mul_add] at h3
    omega
theorem flds_bit {w : Nat} (hw : 0 < w) {f : Nat → Nat} (h : ∀ i, f i < 2 ^ w) : ∀ (m j : Nat), (flds w f m).testBit j = (decide (j < w * m) && (f (j / w)).testBit (j % w))
  | 0, j => by simp [flds]
  | m + 1, j => by
    simp only [flds]
    rw [Nat.testBit_two_pow_mul_add _ (flds_lt h m)]
    rw [flds_bit hw h m j]
    by_cases h1 : j < w * m
    · have h2 : j < w * (m + 1) := by rw [Nat.mul_succ]; omega
      simp [h1, h2]
    · simp only [h1, if_false]
      by_cases h2 : j < w * (m + 1)
      · rw [Nat.mul_succ] at h2
        have h3 : j / w = m := by
          rw [Nat.div_eq_iff hw]
          rw [Nat.mul_comm w m] at h1 h2
          constructor <;> omega
        have h4 : j % w = j - w * m := by
          have := Nat.div_add_mod j w
          rw [h3] at this
          omega
        have h5 : j < w * (m + 1) := by rw [Nat.mul_succ]; omega
        rw [h3, h4]
        simp [h5]
      · have h3 : w ≤ j - w * m := by rw [Nat.mul_succ] at h2; omega
        rw [Nat.testBit_lt_two_pow (Nat.lt_of_lt_of_le (h m) (Nat.pow_le_pow_right (by decide) h3))]
        simp [h2]
theorem flds_congr {w : Nat} {f g : Nat → Nat} : ∀ {m : Nat}, (∀ i, i < m → f i = g i) → flds w f m = flds w g m
  | 0, _ => rfl
  | m + 1, h => by simp only [flds]; rw [h m (by omega), flds_congr fun i hi => h i (by omega)]
theorem flds_add {w : Nat} (f g : Nat → Nat) : ∀ m, flds w f m + flds w g m = flds w (fun i => f i + g i) m
  | 0 => rfl
  | m + 1 => by simp only [flds]; rw [← flds_add f g m, Nat.mul_add]; omega
theorem flds_shr {w : Nat} (hw : 0 < w) {f : Nat → Nat} (h : ∀ i, f i < 2 ^ w) {m : Nat} (h0 : ∀ i, m ≤ i → f i = 0) (k : Nat) {s : Nat} (hs : s = w * k) : flds w f m >>> s = flds w (fun i => f (i + k)) m := by
  subst hs
  apply Nat.eq_of_testBit_eq
  intro j
  rw [Nat.testBit_shiftRight, flds_bit hw h, flds_bit hw (fun i => h _)]
  rw [Nat.mul_add_div hw, Nat.mul_add_mod, Nat.add_comm k]
  by_cases h1 : j < w * m
  · by_cases h2 : w * k + j < w * m
    · simp [h1, h2]
    · have h3 : m ≤ j / w + k := by
        have h4 : m ≤ (w * k + j) / w := (Nat.le_div_iff_mul_le hw).2 (by rw [Nat.mul_comm]; omega)
        rw [Nat.mul_add_div hw] at h4
        omega
      simp [h2, h0 _ h3]
  · have h2 : ¬ w * k + j < w * m := by omega
    simp [h1, h2]
/-- every other field, in fields that are twice as wide -/
theorem flds_mask {w : Nat} (hw : 0 < w) {f : Nat → Nat} (h : ∀ i, f i < 2 ^ w) {m2 m : Nat} (hm : m2 = 2 * m) {M : Nat} (hM : M = flds w (fun i => if i % 2 = 0 then 2 ^ w - 1 else 0) m2) :
    flds w f m2 &&& M = flds (2 * w) (fun i => f (2 * i)) m := by
  have hp : 2 ^ w - 1 < 2 ^ w := Nat.sub_lt (Nat.two_pow_pos w) (by decide)
  have hM' : ∀ i, (if i % 2 = 0 then 2 ^ w - 1 else 0) < 2 ^ w := fun i => by split; exact hp; exact Nat.two_pow_pos w
  have h2 : ∀ i, f (2 * i) < 2 ^ (2 * w) := fun i => Nat.lt_of_lt_of_le (h _) (Nat.pow_le_pow_right (by decide) (by omega))
  subst hm
  apply Nat.eq_of_testBit_eq
  intro j
  rw [Nat.testBit_and, hM, flds_bit hw h, flds_bit hw hM', flds_bit (by omega) h2]
  have e1 : 2 * w * m = w * (2 * m) := by rw [Nat.mul_comm 2 w, Nat.mul_assoc]
  rw [e1]
  by_cases h1 : j < w * (2 * m)
  · simp only [h1, decide_true, Bool.true_and]
    have hd : j / (2 * w) = j / w / 2 := by rw [Nat.mul_comm 2 w, Nat.div_div_eq_div_mul]
    have hmw : j % w < w := Nat.mod_lt _ hw
    have hj := Nat.div_add_mod j w
    have hj2 := Nat.div_add_mod (j / w) 2
    rw [hd]
    generalize j / w = q at *
    generalize j % w = r at *
    rcases Nat.mod_two_eq_zero_or_one q with hq | hq
    · simp only [hq, if_true]
      rw [hq] at hj2
      have e2 : 2 * (q / 2) = q := by omega
      have e3 : j % (2 * w) = r := by
        rw [← hj, ← e2, ← Nat.mul_assoc, Nat.mul_comm w 2, Nat.mul_add_mod]
        exact Nat.mod_eq_of_lt (by omega)
      rw [e2, e3]
      rw [Nat.testBit_two_pow_sub_one]
      simp [hmw]
    · rw [hq] at hj2
      have e3 : j % (2 * w) = w + r := by
        have : j = 2 * w * (q / 2) + (w + r) := by
          rw [← hj, ← hj2, Nat.mul_add, ← Nat.mul_assoc, Nat.mul_comm w 2]
          have : (2 * (q / 2) + 1) / 2 = q / 2 := by omega
          rw [this]; omega
        rw [this, Nat.mul_add_mod]
        exact Nat.mod_eq_of_lt (by omega)
      rw [e3]
      have e4 : (f (2 * (q / 2))).testBit (w + r) = false := Nat.testBit_lt_two_pow (Nat.lt_of_lt_of_le (h _) (Nat.pow_le_pow_right (by decide) (by omega)))
      rw [e4]
      simp [hq]
  · simp [h1]
/-- how many of the first m are lit -/
def cnt (b : Nat → Bool) : Nat → Nat
  | 0 => 0
  | m + 1 => cnt b m + (b m).toNat
theorem num_flds (b : Nat → Bool) : ∀ m, num b m = flds 1 (fun i => (b i).toNat) m
  | 0 => rfl
  | m + 1 => by
    simp only [num, flds, num_flds b m, Nat.one_mul]
    cases b m <;> simp <;> omega
/-- fields that end -/
def upto (m : Nat) (f : Nat → Nat) (i : Nat) : Nat := if i < m then f i else 0
theorem upto_le {m c : Nat} {f : Nat → Nat} (h : ∀ i, f i ≤ c) (i : Nat) : upto m f i ≤ c := by unfold upto; split; exact h i; omega
theorem upto_zero {m : Nat} {f : Nat → Nat} (i : Nat) (h : m ≤ i) : upto m f i = 0 := by unfold upto; rw [if_neg (by omega)]
theorem flds_upto (w : Nat) (f : Nat → Nat) (m : Nat) : flds w f m = flds w (upto m f) m := flds_congr fun i hi => by simp [upto, hi]
def pop1 (b : Nat → Bool) (i : Nat) : Nat := (b i).toNat
def pop2 (b : Nat → Bool) (i : Nat) : Nat := upto 64 (pop1 b) (2 * i + 1) + upto 64 (pop1 b) (2 * i)
def pop4 (b : Nat → Bool) (i : Nat) : Nat := upto 32 (pop2 b) (2 * i + 1) + upto 32 (pop2 b) (2 * i)
def pop8a (b : Nat → Bool) (i : Nat) : Nat := upto 16 (pop4 b) (i + 1) + upto 16 (pop4 b) i
def pop8 (b : Nat → Bool) (i : Nat) : Nat := upto 16 (pop8a b) (2 * i)
def pop16 (b : Nat → Bool) (i : Nat) : Nat := upto 8 (pop8 b) i + upto 8 (pop8 b) (i + 1)
def pop32 (b : Nat → Bool) (i : Nat) : Nat := upto 8 (pop16 b) i + upto 8 (pop16 b) (i + 2)
def pop64 (b : Nat → Bool) (i : Nat) : Nat := upto 8 (pop32 b) i + upto 8 (pop32 b) (i + 4)
theorem pop1_le (b : Nat → Bool) (i : Nat) : pop1 b i ≤ 1 := by unfold pop1; cases b i <;> decide
theorem pop2_le (b : Nat → Bool) (i : Nat) : pop2 b i ≤ 2 := by have h1 := upto_le (m := 64) (pop1_le b) (2 * i + 1); have h2 := upto_le (m := 64) (pop1_le b) (2 * i); unfold pop2; omega
theorem pop4_le (b : Nat → Bool) (i : Nat) : pop4 b i ≤ 4 := by have h1 := upto_le (m := 32) (pop2_le b) (2 * i + 1); have h2 := upto_le (m := 32) (pop2_le b) (2 * i); unfold pop4; omega
theorem pop8a_le (b : Nat → Bool) (i : Nat) : pop8a b i ≤ 8 := by have h1 := upto_le (m := 16) (pop4_le b) (i + 1); have h2 := upto_le (m := 16) (pop4_le b) i; unfold pop8a; omega
theorem pop8_le (b : Nat → Bool) (i : Nat) : pop8 b i ≤ 8 := upto_le (pop8a_le b) _
theorem pop16_le (b : Nat → Bool) (i : Nat) : pop16 b i ≤ 16 := by have h1 := upto_le (m := 8) (pop8_le b) (i + 1); have h2 := upto_le (m := 8) (pop8_le b) i; unfold pop16; omega
theorem pop32_le (b : Nat → Bool) (i : Nat) : pop32 b i ≤ 32 := by have h1 := upto_le (m := 8) (pop16_le b) (i + 2); have h2 := upto_le (m := 8) (pop16_le b) i; unfold pop32; omega
theorem pop64_le (b : Nat → Bool) (i : Nat) : pop64 b i ≤ 64 := by have h1 := upto_le (m := 8) (pop32_le b) (i + 4); have h2 := upto_le (m := 8) (pop32_le b) i; unfold pop64; omega
theorem lt_of_le' {f : Nat → Nat} {c n : Nat} (h : ∀ i, f i ≤ c) (hc : c < n) (i : Nat) : f i < n := Nat.lt_of_le_of_lt (h i) hc
theorem st1 (b : Nat → Bool) : ((num b 64 >>> 1) &&& 6148914691236517205) = flds 2 (fun i => upto 64 (pop1 b) (2 * i + 1)) 32 ∧ (num b 64 &&& 6148914691236517205) = flds 2 (fun i => upto 64 (pop1 b) (2 * i)) 32 := by
  have hl := lt_of_le' (upto_le (m := 64) (pop1_le b)) (show 1 < 2 ^ 1 by decide)
  have hM : 6148914691236517205 = flds 1 (fun i => if i % 2 = 0 then 2 ^ 1 - 1 else 0) 64 := by decide +kernel
  have e1 := flds_shr (w := 1) (by decide) hl (m := 64) (fun i => upto_zero i) 1 (s := 1) rfl
  have e2 := flds_mask (w := 1) (by decide) (f := fun i => upto 64 (pop1 b) (i + 1)) (fun i => hl _) (m := 32) rfl hM
  have e3 := flds_mask (w := 1) (by decide) hl (m := 32) rfl hM
  have e0 : num b 64 = flds 1 (upto 64 (pop1 b)) 64 := (num_flds b 64).trans (flds_upto 1 (pop1 b) 64)
  generalize flds 1 (upto 64 (pop1 b)) 64 = X at *
  generalize 6148914691236517205 = M at *
  rw [e0]
  exact ⟨(congrArg (· &&& M) e1).trans e2, e3⟩
theorem st2 (b : Nat → Bool) : ((flds 2 (pop2 b) 32 >>> 2) &&& 3689348814741910323) = flds 4 (fun i => upto 32 (pop2 b) (2 * i + 1)) 16 ∧ (flds 2 (pop2 b) 32 &&& 3689348814741910323) = flds 4 (fun i => upto 32 (pop2 b) (2 * i)) 16 := by
  have hl := lt_of_le' (upto_le (m := 32) (pop2_le b)) (show 2 < 2 ^ 2 by decide)
  have hM : 3689348814741910323 = flds 2 (fun i => if i % 2 = 0 then 2 ^ 2 - 1 else 0) 32 := by decide +kernel
  have e1 := flds_shr (w := 2) (by decide) hl (m := 32) (fun i => upto_zero i) 1 (s := 2) rfl
  have e2 := flds_mask (w := 2) (by decide) (f := fun i => upto 32 (pop2 b) (i + 1)) (fun i => hl _) (m := 16) rfl hM
  have e3 := flds_mask (w := 2) (by decide) hl (m := 16) rfl hM
  have e0 := flds_upto 2 (pop2 b) 32
  generalize flds 2 (upto 32 (pop2 b)) 32 = X at *
  generalize 3689348814741910323 = M at *
  rw [e0]
  exact ⟨(congrArg (· &&& M) e1).trans e2, e3⟩
theorem st3 (b : Nat → Bool) : (flds 4 (pop4 b) 16 >>> 4) = flds 4 (fun i => upto 16 (pop4 b) (i + 1)) 16 ∧ (flds 4 (pop8a b) 16 &&& 1085102592571150095) = flds 8 (pop8 b) 8 := by
  have hl := lt_of_le' (upto_le (m := 16) (pop4_le b)) (show 4 < 2 ^ 4 by decide)
  have hl2 := lt_of_le' (upto_le (m := 16) (pop8a_le b)) (show 8 < 2 ^ 4 by decide)
  have hM : 1085102592571150095 = flds 4 (fun i => if i % 2 = 0 then 2 ^ 4 - 1 else 0) 16 := by decide +kernel
  have e1 := flds_shr (w := 4) (by decide) hl (m := 16) (fun i => upto_zero i) 1 (s := 4) rfl
  have e3 := flds_mask (w := 4) (by decide) hl2 (m := 8) rfl hM
  have e0 := flds_upto 4 (pop4 b) 16
  have e4 := flds_upto 4 (pop8a b) 16
  generalize flds 4 (upto 16 (pop4 b)) 16 = X at *
  generalize flds 4 (upto 16 (pop8a b)) 16 = Y at *
  generalize 1085102592571150095 = M at *
  rw [e0, e4]
  exact ⟨e1, e3⟩
theorem st4 (b : Nat → Bool) : (flds 8 (pop8 b) 8 >>> 8) = flds 8 (fun i => upto 8 (pop8 b) (i + 1)) 8 := by
  rw [flds_upto 8 (pop8 b) 8]
  exact flds_shr (w := 8) (by decide) (lt_of_le' (upto_le (m := 8) (pop8_le b)) (by decide)) (fun i => upto_zero i) 1 rfl
theorem st5 (b : Nat → Bool) : (flds 8 (pop16 b) 8 >>> 16) = flds 8 (fun i => upto 8 (pop16 b) (i + 2)) 8 := by
  rw [flds_upto 8 (pop16 b) 8]
  exact flds_shr (w := 8) (by decide) (lt_of_le' (upto_le (m := 8) (pop16_le b)) (by decide)) (fun i => upto_zero i) 2 rfl
theorem st6 (b : Nat → Bool) : (flds 8 (pop32 b) 8 >>> 32) = flds 8 (fun i => upto 8 (pop32 b) (i + 4)) 8 := by
  rw [flds_upto 8 (pop32 b) 8]
  exact flds_shr (w := 8) (by decide) (lt_of_le' (upto_le (m := 8) (pop32_le b)) (by decide)) (fun i => upto_zero i) 4 rfl
theorem st7 (b : Nat → Bool) : flds 8 (pop64 b) 8 &&& 127 = pop64 b 0 := by
  have h := pop64_le b 0
  rw [show (127 : Nat) = 2 ^ 7 - 1 by decide, Nat.and_two_pow_sub_one_eq_mod]
  simp only [flds]
  omega
theorem pop64_cnt (b : Nat → Bool) : pop64 b 0 = cnt b 64 := by
  simp only [pop64, pop32, pop16, pop8, pop8a, pop4, pop2, pop1, upto, cnt, Nat.reduceAdd, Nat.reduceMul, Nat.reduceLT, if_true]
  omega
end Go.Proofs.Ytahanpobeekhiaa
