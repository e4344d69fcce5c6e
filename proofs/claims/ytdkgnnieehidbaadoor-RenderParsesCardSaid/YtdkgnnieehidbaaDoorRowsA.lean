/-
  A number of 64 bits by its bits. No program in sight.
-/
import Derived.Test.YtdkgnnieehidbaaDoorChecked
import Derived.Test.YtdkgnnieehidbaaDoorBytes
import Derived.Test.YtdkgnnieehidbaaDoorPtr
import Derived.Lib.SlBytesConst
import Derived.Laws.BytesString
namespace Go.Proofs.YtdkgnnieehidbaaDoor
section
set_option maxRecDepth 4000
/-- the number whose bits below m are those of b -/
def num (b : Nat → Bool) : Nat → Nat
  | 0 => 0
  | m + 1 => num b m + (if b m then 2 ^ m else 0)
theorem num_lt (b : Nat → Bool) : ∀ m, num b m < 2 ^ m
  | 0 => by simp [num]
  | m + 1 => by
    have h := num_lt b m
    simp only [num, Nat.pow_succ]
    split <;> omega
theorem num_bit (b : Nat → Bool) : ∀ (m i : Nat), (num b m).testBit i = (decide (i < m) && b i)
  | 0, i => by simp [num]
  | m + 1, i => by
    have h := num_bit b m i
    have hl := num_lt b m
    simp only [num]
    cases hb : b m with
    | false =>
      simp only [Bool.false_eq_true, if_false, Nat.add_zero, h]
      by_cases hi : i = m
      · subst hi; simp [hb]
      · have e : decide (i < m + 1) = decide (i < m) := by
          congr 1
          exact propext ⟨fun h => by omega, fun h => by omega⟩
        rw [e]
    | true =>
      simp only [if_true]
      rw [Nat.add_comm]
      by_cases hi : i = m
      · subst hi
        rw [Nat.testBit_two_pow_add_eq, Nat.testBit_lt_two_pow hl]
        simp [hb]
      · by_cases hlt : i < m
        · rw [Nat.testBit_two_pow_add_gt hlt, h]
          simp [hlt, Nat.lt_succ_of_lt hlt]
        · have hbig : 2 ^ m + num b m < 2 ^ i := by
            have : 2 ^ (m + 1) ≤ 2 ^ i := Nat.pow_le_pow_right (by decide) (by omega)
            rw [Nat.pow_succ] at this
            omega
          rw [Nat.testBit_lt_two_pow hbig]
          simp
          omega
theorem num_ext {n m : Nat} (h : n < 2 ^ m) {b : Nat → Bool} (hb : ∀ i, i < m → n.testBit i = b i) : n = num b m := by
  apply Nat.eq_of_testBit_eq
  intro i
  rw [num_bit]
  by_cases hi : i < m
  · rw [hb i hi]; simp [hi]
  · rw [Nat.testBit_lt_two_pow (Nat.lt_of_lt_of_le h (Nat.pow_le_pow_right (by decide) (by omega)))]
    simp [hi]
theorem num_self {n m : Nat} (h : n < 2 ^ m) : n = num n.testBit m := num_ext h fun _ _ => rfl
theorem num_congr {b c : Nat → Bool} {m : Nat} (h : ∀ i, i < m → b i = c i) : num b m = num c m :=
  num_ext (num_lt b m) fun i hi => by rw [num_bit]; simp [hi, h i hi]
end
section
set_option maxRecDepth 4000
open Go Go.RowKit
set_option linter.unusedVariables false
set_option linter.unusedSimpArgs false
set_option maxHeartbeats 2000000
attribute [local irreducible] mix

def hiN (p : Nat → Bool) : Nat := num (fun i => p (63 - i)) 64
def loN (p : Nat → Bool) : Nat := num (fun i => p (127 - i)) 64
/-- the row whose lit pixels p tells -/
def rowV (p : Nat → Bool) : Array Value := #[.int .u64 (hiN p : Nat), .int .u64 (loN p : Nat)]
theorem rowV_congr {p q : Nat → Bool} (h : ∀ x, x < 128 → p x = q x) : rowV p = rowV q := by
  unfold rowV hiN loN
  rw [num_congr (fun i hi => h (63 - i) (by omega)), num_congr (fun i hi => h (127 - i) (by omega))]
theorem u64_bits {x y : Nat} (hx : x < 2 ^ 64) (hy : y < 2 ^ 64) :
    IntKind.u64.wrap (BitVec.ofInt IntKind.u64.bits (x : Int) &&& BitVec.ofInt IntKind.u64.bits (y : Int)).toNat = ((x &&& y : Nat) : Int) ∧
    IntKind.u64.wrap (BitVec.ofInt IntKind.u64.bits (x : Int) ||| BitVec.ofInt IntKind.u64.bits (y : Int)).toNat = ((x ||| y : Nat) : Int) ∧
    IntKind.u64.wrap (BitVec.ofInt IntKind.u64.bits (x : Int) ^^^ BitVec.ofInt IntKind.u64.bits (y : Int)).toNat = ((x ^^^ y : Nat) : Int) := by
  have e : ∀ z : Nat, z < 2 ^ 64 → (BitVec.ofInt IntKind.u64.bits (z : Int)).toNat = z := fun z hz => by
    show (BitVec.ofInt 64 (z : Int)).toNat = z
    rw [BitVec.ofInt_natCast, BitVec.toNat_ofNat]
    exact Nat.mod_eq_of_lt hz
  have h1 : x &&& y < 2 ^ 64 := Nat.and_lt_two_pow x hy
  have h2 : x ||| y < 2 ^ 64 := Nat.or_lt_two_pow hx hy
  have h3 : x ^^^ y < 2 ^ 64 := Nat.xor_lt_two_pow hx hy
  refine ⟨?_, ?_, ?_⟩
  · rw [BitVec.toNat_and, e x hx, e y hy]; exact IntWalk.u64_in _ ⟨by omega, by omega⟩
  · rw [BitVec.toNat_or, e x hx, e y hy]; exact IntWalk.u64_in _ ⟨by omega, by omega⟩
  · rw [BitVec.toNat_xor, e x hx, e y hy]; exact IntWalk.u64_in _ ⟨by omega, by omega⟩
theorem num_and (b c : Nat → Bool) (m : Nat) : num b m &&& num c m = num (fun i => b i && c i) m :=
  num_ext (Nat.and_lt_two_pow _ (num_lt c m)) fun i hi => by rw [Nat.testBit_and, num_bit, num_bit]; simp [hi]
theorem num_xor (b c : Nat → Bool) (m : Nat) : num b m ^^^ num c m = num (fun i => b i ^^ c i) m :=
  num_ext (Nat.xor_lt_two_pow (num_lt b m) (num_lt c m)) fun i hi => by rw [Nat.testBit_xor, num_bit, num_bit]; simp [hi]


theorem rowAnd (p q : Nat → Bool) (w : World) :
    Calls Tryd.prog 61 #[.agg (rowV p), .agg (rowV q)] w fun e w' => e = .returned (.agg (rowV (fun x => p x && q x))) ∧ Sat w [] [] w' := by
  refine enter Tryd.func61 rfl rfl rfl ?_
  refine r_seq ?_
  refine r_region ?_
  refine r_boxV rfl rfl fun b2 => ?_
  refine r_boxV rfl rfl fun b3 => ?_
  refine r_allocV (cs := #[.int .u64 0, .int .u64 0]) rfl rfl fun b4 => ?_
  refine r_nil ?_
  refine r_tn ?_
  refine r_seq ?_
  refine r_region ?_
  refine r_fieldAddr (off := 0) (o' := 0) rfl rfl rfl rfl ?_
  refine r_load1 rfl rfl rfl (by rfl) ?_
  refine r_fieldAddr (off := 0) (o' := 0) rfl rfl rfl rfl ?_
  refine r_load1 rfl rfl rfl (by rfl) ?_
  refine r_and rfl rfl rfl (((u64_bits (num_lt _ 64) (num_lt _ 64)).1).trans (congrArg (fun z : Nat => (z : Int)) (num_and _ _ 64))) ?_
  refine r_fieldAddr (off := 1) (o' := 1) rfl rfl rfl rfl ?_
  refine r_load1 rfl rfl rfl (by rfl) ?_
  refine r_fieldAddr (off := 1) (o' := 1) rfl rfl rfl rfl ?_
  refine r_load1 rfl rfl rfl (by rfl) ?_
  refine r_and rfl rfl rfl (((u64_bits (num_lt _ 64) (num_lt _ 64)).1).trans (congrArg (fun z : Nat => (z : Int)) (num_and _ _ 64))) ?_
  refine r_build (cells := rowV (fun x => p x && q x)) rfl rfl (by kernel_rfl) ?_
  refine r_storeV rfl rfl rfl rfl rfl rfl ?_
  refine r_nil ?_
  refine r_tn ?_
  refine r_ret ?_
  exact r_done1 (.inl rfl) rfl (res_cellV rfl rfl rfl rfl) fun w hw => ⟨rfl, hw.clear⟩

theorem rowXor (p q : Nat → Bool) (w : World) :
    Calls Tryd.prog 62 #[.agg (rowV p), .agg (rowV q)] w fun e w' => e = .returned (.agg (rowV (fun x => p x ^^ q x))) ∧ Sat w [] [] w' := by
  refine enter Tryd.func62 rfl rfl rfl ?_
  refine r_seq ?_
  refine r_region ?_
  refine r_boxV rfl rfl fun b2 => ?_
  refine r_boxV rfl rfl fun b3 => ?_
  refine r_allocV (cs := #[.int .u64 0, .int .u64 0]) rfl rfl fun b4 => ?_
  refine r_nil ?_
  refine r_tn ?_
  refine r_seq ?_
  refine r_region ?_
  refine r_fieldAddr (off := 0) (o' := 0) rfl rfl rfl rfl ?_
  refine r_load1 rfl rfl rfl (by rfl) ?_
  refine r_fieldAddr (off := 0) (o' := 0) rfl rfl rfl rfl ?_
  refine r_load1 rfl rfl rfl (by rfl) ?_
  refine r_xor rfl rfl rfl (((u64_bits (num_lt _ 64) (num_lt _ 64)).2.2).trans (congrArg (fun z : Nat => (z : Int)) (num_xor _ _ 64))) ?_
  refine r_fieldAddr (off := 1) (o' := 1) rfl rfl rfl rfl ?_
  refine r_load1 rfl rfl rfl (by rfl) ?_
  refine r_fieldAddr (off := 1) (o' := 1) rfl rfl rfl rfl ?_
  refine r_load1 rfl rfl rfl (by rfl) ?_
  refine r_xor rfl rfl rfl (((u64_bits (num_lt _ 64) (num_lt _ 64)).2.2).trans (congrArg (fun z : Nat => (z : Int)) (num_xor _ _ 64))) ?_
  refine r_build (cells := rowV (fun x => p x ^^ q x)) rfl rfl (by kernel_rfl) ?_
  refine r_storeV rfl rfl rfl rfl rfl rfl ?_
  refine r_nil ?_
  refine r_tn ?_
  refine r_ret ?_
  exact r_done1 (.inl rfl) rfl (res_cellV rfl rfl rfl rfl) fun w hw => ⟨rfl, hw.clear⟩
end
section
set_option maxRecDepth 4000
open Go Go.RowKit
set_option linter.unusedVariables false
set_option linter.unusedSimpArgs false
set_option maxHeartbeats 2000000
attribute [local irreducible] mix

theorem rowIn (x : Int) (w : World) :
    Calls Tryd.prog 64 #[.int .i64 x] w fun e w' => e = .returned (.bool (decide (0 ≤ x) && decide (x < 128))) ∧ Sat w [] [] w' := by
  refine enter Tryd.func64 rfl rfl rfl ?_
  refine r_seq ?_
  refine r_region ?_
  refine r_assign rfl rfl ?_
  refine r_nil ?_
  refine r_tn ?_
  refine r_seq ?_
  refine r_region ?_
  refine r_move rfl rfl ?_
  refine r_geq rfl rfl rfl rfl ?_
  refine r_move rfl rfl ?_
  refine r_split 5 rfl (fun hb5 => ?_) (fun hb5 => ?_)
  · refine r_go rfl rfl ?_
    refine r_move rfl rfl ?_
    refine r_go rfl rfl ?_
    refine r_lss rfl rfl rfl rfl ?_
    refine r_pick_t rfl rfl rfl ?_
    refine r_assign rfl rfl ?_
    refine r_nil ?_
    refine r_tn ?_
    refine r_ret ?_
    exact r_done1 (.inl rfl) rfl (res_tmp rfl) fun w hw => ⟨by congr 2; simp_all <;> omega, hw.clear⟩
  · refine r_pass rfl rfl rfl rfl ?_
    refine r_pass rfl rfl rfl rfl ?_
    refine r_pick_f rfl rfl rfl ?_
    refine r_assign rfl rfl ?_
    refine r_nil ?_
    refine r_tn ?_
    refine r_ret ?_
    exact r_done1 (.inl rfl) rfl (res_tmp rfl) fun w hw => ⟨by congr 2; simp_all <;> omega, hw.clear⟩

theorem rowFlat : flatT Tryd.prog 42 [.i .u64, .i .u64] := ⟨by kernel_rfl, by kernel_rfl, by kernel_rfl⟩
theorem rowV_ok (p : Nat → Bool) : cellsOk [.i .u64, .i .u64] (rowV p).toList = true := rfl
def noneP : Nat → Bool := fun _ => false
theorem rowV_none : rowV noneP = #[.int .u64 0, .int .u64 0] := by rfl


theorem rowV_inj {p q : Nat → Bool} (h : rowV p = rowV q) : ∀ x, x < 128 → p x = q x := by
  have h1 : hiN p = hiN q ∧ loN p = loN q := by
    simp only [rowV] at h
    injection h with h
    injection h with h2 h3
    injection h3 with h3 _
    injection h2 with _ h2
    injection h3 with _ h3
    exact ⟨Int.ofNat.inj h2, Int.ofNat.inj h3⟩
  intro x hx
  by_cases h64 : x < 64
  · have e : ∀ r : Nat → Bool, r x = (hiN r).testBit (63 - x) := fun r => by
      unfold hiN; rw [num_bit, show 63 - (63 - x) = x by omega]; simp; omega
    rw [e p, e q, h1.1]
  · have e : ∀ r : Nat → Bool, r x = (loN r).testBit (127 - x) := fun r => by
      unfold loN; rw [num_bit, show 127 - (127 - x) = x by omega]; simp; omega
    rw [e p, e q, h1.2]


def emptyB (p : Nat → Bool) : Bool := (List.range 128).all fun x => !p x
theorem emptyB_iff (p : Nat → Bool) : emptyB p = true ↔ ∀ x, x < 128 → p x = false := by
  simp [emptyB, List.all_eq_true]
def eqB (p q : Nat → Bool) : Bool := (List.range 128).all fun x => p x == q x
theorem eqB_iff (p q : Nat → Bool) : eqB p q = true ↔ ∀ x, x < 128 → p x = q x := by
  simp [eqB, List.all_eq_true]
theorem row_eq (p q : Nat → Bool) : cellsEq (rowV p).toList (rowV q).toList = eqB p q := by
  cases hq : eqB p q with
  | true =>
    rw [rowV_congr ((eqB_iff p q).1 hq)]
    exact cellsEq_self (rowV_ok q)
  | false =>
    cases he : cellsEq (rowV p).toList (rowV q).toList with
    | false => rfl
    | true =>
      have h := (eqB_iff p q).2 (rowV_inj (Array.ext' (cellsEq_eq (rowV_ok p) (rowV_ok q) he)))
      rw [hq] at h; cases h


theorem rowEmpty (p : Nat → Bool) (w : World) :
    Calls Tryd.prog 60 #[.agg (rowV p)] w fun e w' => e = .returned (.bool (eqB p noneP)) ∧ Sat w [] [] w' := by
  refine enter Tryd.func60 rfl rfl rfl ?_
  refine r_seq ?_
  refine r_region ?_
  refine r_boxV rfl rfl fun b1 => ?_
  refine r_assign rfl rfl ?_
  refine r_nil ?_
  refine r_tn ?_
  refine r_seq ?_
  refine r_region ?_
  refine r_loadV rfl rfl rfl rfl rfl ?_
  refine r_build (cells := rowV noneP) rfl rfl (by kernel_rfl) ?_
  refine r_eqlAgg rfl rfl rfl rowFlat (rowV_ok p) (rowV_ok noneP) (row_eq p noneP) ?_
  refine r_assign rfl rfl ?_
  refine r_nil ?_
  refine r_tn ?_
  refine r_ret ?_
  exact r_done1 (.inl rfl) rfl (res_tmp rfl) fun w hw => ⟨rfl, hw.clear⟩

theorem num_one {k m : Nat} (h : k < m) : num (fun i => i == k) m = 2 ^ k := by
  symm
  refine num_ext (Nat.pow_lt_pow_right (by decide) h) fun i hi => ?_
  rw [Nat.testBit_two_pow]
  by_cases e : k = i
  · subst e; simp
  · simp [e, Ne.symm e]
end
section
open Go Go.RowKit
set_option linter.unusedVariables false
set_option linter.unusedSimpArgs false
set_option maxHeartbeats 2000000
set_option maxRecDepth 4000

theorem wrapU (z : Int) : IntKind.u64.wrap z = z % 18446744073709551616 := by
  unfold IntKind.wrap
  simp [IntKind.signed, IntKind.bits]
theorem num_or (b c : Nat → Bool) (m : Nat) : num b m ||| num c m = num (fun i => b i || c i) m :=
  num_ext (Nat.or_lt_two_pow (num_lt b m) (num_lt c m)) fun i hi => by rw [Nat.testBit_or, num_bit, num_bit]; simp [hi]
theorem shr64 {x : Nat} (hx : x < 2 ^ 64) (n : Nat) : ((x : Nat) : Int).fdiv (2 ^ (min ((n : Nat) : Int).toNat IntKind.u64.bits)) = ((x >>> n : Nat) : Int) := by
  have e : ((n : Nat) : Int).toNat = n := rfl
  have e2 : IntKind.u64.bits = 64 := rfl
  rw [e, e2]
  rw [Int.fdiv_eq_ediv_of_nonneg _ (Int.le_of_lt (Int.pow_pos (by decide)))]
  rw [show ((2 : Int) ^ min n 64) = ((2 ^ min n 64 : Nat) : Int) by simp, ← Int.natCast_ediv]
  congr 1
  rw [Nat.shiftRight_eq_div_pow]
  by_cases h : n ≤ 64
  · rw [Nat.min_eq_left h]
  · rw [Nat.min_eq_right (by omega), Nat.div_eq_of_lt hx, Nat.div_eq_of_lt (Nat.lt_of_lt_of_le hx (Nat.pow_le_pow_right (by decide) (by omega)))]
theorem shl64 {x : Nat} (n : Nat) : IntKind.u64.wrap (((x : Nat) : Int) * 2 ^ (min ((n : Nat) : Int).toNat IntKind.u64.bits)) = ((x <<< n % 2 ^ 64 : Nat) : Int) := by
  have e : ((n : Nat) : Int).toNat = n := rfl
  have e2 : IntKind.u64.bits = 64 := rfl
  rw [e, e2, wrapU]
  rw [show ((2 : Int) ^ min n 64) = ((2 ^ min n 64 : Nat) : Int) by simp, ← Int.natCast_mul, show (18446744073709551616 : Int) = ((2 ^ 64 : Nat) : Int) by decide, ← Int.natCast_emod]
  congr 1
  rw [Nat.shiftLeft_eq]
  by_cases h : n ≤ 64
  · rw [Nat.min_eq_left h]
  · rw [Nat.min_eq_right (by omega)]
    obtain ⟨k, rfl⟩ : ∃ k, n = 64 + k := ⟨n - 64, by omega⟩
    rw [Nat.pow_add, ← Nat.mul_assoc, Nat.mul_mod_left, Nat.mul_right_comm, Nat.mul_mod_left]
theorem num_shr (b : Nat → Bool) (n : Nat) : num b 64 >>> n = num (fun i => decide (i + n < 64) && b (i + n)) 64 :=
  num_ext (Nat.lt_of_le_of_lt (by rw [Nat.shiftRight_eq_div_pow]; exact Nat.div_le_self _ _) (num_lt b 64)) fun i hi => by rw [Nat.testBit_shiftRight, num_bit, Nat.add_comm]
theorem num_shl (b : Nat → Bool) (n : Nat) : num b 64 <<< n % 2 ^ 64 = num (fun i => decide (n ≤ i) && b (i - n)) 64 :=
  num_ext (Nat.mod_lt _ (by decide)) fun i hi => by
    rw [Nat.testBit_mod_two_pow, Nat.testBit_shiftLeft, num_bit]
    have h : i - n < 64 := by omega
    simp [hi, h]
theorem shrN (b : Nat → Bool) (n : Nat) : ((num b 64 : Nat) : Int).fdiv (2 ^ (min ((n : Nat) : Int).toNat IntKind.u64.bits)) = ((num (fun i => decide (i + n < 64) && b (i + n)) 64 : Nat) : Int) := by
  rw [shr64 (num_lt b 64) n, num_shr]
theorem shlN (b : Nat → Bool) (n : Nat) : IntKind.u64.wrap (((num b 64 : Nat) : Int) * 2 ^ (min ((n : Nat) : Int).toNat IntKind.u64.bits)) = ((num (fun i => decide (n ≤ i) && b (i - n)) 64 : Nat) : Int) := by
  rw [shl64 n, num_shl]
theorem num_zero (m : Nat) : num (fun _ => false) m = 0 := (num_ext (Nat.two_pow_pos m) fun i _ => by simp).symm
def sN (n : Nat) : Nat := if n ≤ 64 then 64 - n else 18446744073709551680 - n
def tN (n : Nat) : Nat := if 64 ≤ n then n - 64 else 18446744073709551552 + n
theorem sN_eq {n : Nat} (h : n < 9223372036854775808) : IntKind.u64.wrap (64 - (n : Int)) = ((sN n : Nat) : Int) := by
  rw [wrapU]; unfold sN; split <;> omega
theorem tN_eq {n : Nat} (h : n < 9223372036854775808) : IntKind.u64.wrap ((n : Int) - 64) = ((tN n : Nat) : Int) := by
  rw [wrapU]; unfold tN; split <;> omega
def rightP (p : Nat → Bool) (n x : Nat) : Bool := decide (n ≤ x) && p (x - n)
def leftP (p : Nat → Bool) (n x : Nat) : Bool := decide (x + n < 128) && p (x + n)
theorem right_hi (p : Nat → Bool) (n : Nat) : num (fun i => decide (i + n < 64) && (fun i => p (63 - i)) (i + n)) 64 = hiN (rightP p n) :=
  num_congr fun i hi => by
    unfold rightP
    by_cases h : i + n < 64
    · have h2 : n ≤ 63 - i := by omega
      simp only [h, h2, decide_true, Bool.true_and]; congr 1; omega
    · have h2 : ¬ n ≤ 63 - i := by omega
      simp [h, h2]
theorem right_lo (p : Nat → Bool) {n : Nat} (hn : n < 9223372036854775808) :
    num (fun i => (decide (i + n < 64) && (fun i => p (127 - i)) (i + n)) || (decide (sN n ≤ i) && (fun i => p (63 - i)) (i - sN n)) || (decide (i + tN n < 64) && (fun i => p (63 - i)) (i + tN n))) 64 = loN (rightP p n) :=
  num_congr fun i hi => by
    unfold rightP
    by_cases h1 : i + n < 64
    · have a1 : ¬ sN n ≤ i := by unfold sN; split <;> omega
      have a2 : ¬ i + tN n < 64 := by unfold tN; split <;> omega
      have a3 : n ≤ 127 - i := by omega
      simp only [h1, a1, a2, a3, decide_true, decide_false, Bool.true_and, Bool.false_and, Bool.or_false]; congr 1; omega
    · by_cases h2 : n ≤ 64
      · have a1 : sN n ≤ i := by unfold sN; split <;> omega
        have a3 : n ≤ 127 - i := by omega
        have a4 : 63 - (i - sN n) = 127 - i - n := by
          have e : sN n = 64 - n := by unfold sN; rw [if_pos h2]
          omega
        by_cases h3 : n = 64
        · have a2 : i + tN n < 64 := by unfold tN; split <;> omega
          have a5 : 63 - (i + tN n) = 127 - i - n := by unfold tN; split <;> omega
          simp [h1, a1, a2, a3, a4, a5]
        · have a2 : ¬ i + tN n < 64 := by unfold tN; split <;> omega
          simp [h1, a1, a2, a3, a4]
      · have a1 : ¬ sN n ≤ i := by unfold sN; split <;> omega
        by_cases h3 : n ≤ 127 - i
        · have a2 : i + tN n < 64 := by unfold tN; split <;> omega
          have a5 : 63 - (i + tN n) = 127 - i - n := by unfold tN; split <;> omega
          simp [h1, a1, a2, h3, a5]
        · have a2 : ¬ i + tN n < 64 := by unfold tN; split <;> omega
          simp [h1, a1, a2, h3]
theorem left_lo (p : Nat → Bool) (n : Nat) : num (fun i => decide (n ≤ i) && (fun i => p (127 - i)) (i - n)) 64 = loN (leftP p n) :=
  num_congr fun i hi => by
    unfold leftP
    by_cases h : n ≤ i
    · have h2 : 127 - i + n < 128 := by omega
      simp only [h, h2, decide_true, Bool.true_and]; congr 1; omega
    · have h2 : ¬ 127 - i + n < 128 := by omega
      simp [h, h2]
theorem left_hi (p : Nat → Bool) {n : Nat} (hn : n < 9223372036854775808) :
    num (fun i => (decide (n ≤ i) && (fun i => p (63 - i)) (i - n)) || (decide (i + sN n < 64) && (fun i => p (127 - i)) (i + sN n)) || (decide (tN n ≤ i) && (fun i => p (127 - i)) (i - tN n))) 64 = hiN (leftP p n) :=
  num_congr fun i hi => by
    unfold leftP
    by_cases h1 : n ≤ i
    · have a1 : ¬ i + sN n < 64 := by unfold sN; split <;> omega
      have a2 : ¬ tN n ≤ i := by unfold tN; split <;> omega
      have a3 : 63 - i + n < 128 := by omega
      simp only [h1, a1, a2, a3, decide_true, decide_false, Bool.true_and, Bool.false_and, Bool.or_false]; congr 1; omega
    · by_cases h2 : n ≤ 64
      · have a1 : i + sN n < 64 := by unfold sN; split <;> omega
        have a3 : 63 - i + n < 128 := by omega
        have a4 : 127 - (i + sN n) = 63 - i + n := by unfold sN; split <;> omega
        by_cases h3 : n = 64
        · have a2 : tN n ≤ i := by unfold tN; split <;> omega
          have a5 : 127 - (i - tN n) = 63 - i + n := by unfold tN; split <;> omega
          simp [h1, a1, a2, a3, a4, a5]
        · have a2 : ¬ tN n ≤ i := by unfold tN; split <;> omega
          simp [h1, a1, a2, a3, a4]
      · have a1 : ¬ i + sN n < 64 := by unfold sN; split <;> omega
        by_cases h3 : 63 - i + n < 128
        · have a2 : tN n ≤ i := by unfold tN; split <;> omega
          have a5 : 127 - (i - tN n) = 63 - i + n := by unfold tN; split <;> omega
          simp [h1, a1, a2, h3, a5]
        · have a2 : ¬ tN n ≤ i := by unfold tN; split <;> omega
          simp [h1, a1, a2, h3]
theorem top_shr (k : Nat) (h : k < 64) : ((9223372036854775808 : Int)).fdiv (2 ^ (min ((k : Nat) : Int).toNat IntKind.u64.bits)) = ((num (fun i => i == 63 - k) 64 : Nat) : Int) := by
  rw [show (9223372036854775808 : Int) = ((9223372036854775808 : Nat) : Int) by rfl, shr64 (by decide) k, num_one (show 63 - k < 64 by omega)]
  congr 1
  rw [Nat.shiftRight_eq_div_pow, show (9223372036854775808 : Nat) = 2 ^ 63 by decide, Nat.pow_div (by omega) (by decide)]
theorem pix_hi {k : Nat} (h : k < 64) : #[Value.int .u64 ((num (fun i => i == 63 - k) 64 : Nat) : Int), .int .u64 0] = rowV (fun x => x == k) := by
  unfold rowV hiN loN
  rw [num_congr (b := fun i => (127 - i) == k) (c := fun _ => false) (fun i hi => by simp; omega), num_zero]
  rw [num_congr (b := fun i => (63 - i) == k) (c := fun i => i == 63 - k) (fun i hi => by
    by_cases e : i = 63 - k
    · subst e; simp; omega
    · have : ¬ (63 - i = k) := by omega
      exact (beq_eq_false_iff_ne.2 this).trans (beq_eq_false_iff_ne.2 e).symm)]
  rfl
theorem pix_lo {k : Nat} (h : k < 64) : #[Value.int .u64 0, Value.int .u64 ((num (fun i => i == 63 - k) 64 : Nat) : Int)] = rowV (fun x => x == k + 64) := by
  unfold rowV hiN loN
  rw [num_congr (b := fun i => (63 - i) == k + 64) (c := fun _ => false) (fun i hi => by simp; omega), num_zero]
  rw [num_congr (b := fun i => (127 - i) == k + 64) (c := fun i => i == 63 - k) (fun i hi => by
    by_cases e : i = 63 - k
    · subst e; simp; omega
    · have : ¬ (127 - i = k + 64) := by omega
      exact (beq_eq_false_iff_ne.2 this).trans (beq_eq_false_iff_ne.2 e).symm)]
  rfl
theorem one_empty (p : Nat → Bool) {k : Nat} (h : k < 128) : (!eqB (fun y => p y && (y == k)) noneP) = p k := by
  cases hp : p k with
  | false =>
    rw [(eqB_iff _ _).2 fun x hx => ?_]
    · rfl
    · by_cases e : x = k
      · subst e; simp [hp, noneP]
      · simp [e, noneP]
  | true =>
    cases he : eqB (fun y => p y && (y == k)) noneP with
    | false => rfl
    | true => have h2 := (eqB_iff _ _).1 he k h; simp [hp, noneP] at h2
end
section
open Go Go.RowKit
set_option linter.unusedVariables false
set_option linter.unusedSimpArgs false
set_option maxHeartbeats 2000000
set_option maxRecDepth 4000
attribute [local irreducible] mix

theorem rowPixel (x : Int) (w : World) (hx : 0 ≤ x ∧ x < 128) :
    Calls Tryd.prog 65 #[.int .i64 x] w fun e w' => e = .returned (.agg (rowV (fun y => y == x.toNat))) ∧ Sat w [] [] w' := by
  obtain ⟨k, rfl⟩ := Int.eq_ofNat_of_zero_le hx.1
  refine enter Tryd.func65 rfl rfl rfl ?_
  refine r_seq ?_
  refine r_region ?_
  refine r_allocV (cs := #[.int .u64 0, .int .u64 0]) rfl rfl fun b2 => ?_
  refine r_nil ?_
  refine r_tn ?_
  refine r_seq ?_
  refine r_seq ?_
  refine r_region ?_
  refine r_move rfl rfl ?_
  refine r_lss rfl rfl rfl rfl ?_
  refine r_nil ?_
  refine r_tn ?_
  refine r_cond rfl (fun hc => ?_) (fun hc => ?_)
  · refine r_seq ?_
    refine r_region ?_
    refine r_move rfl rfl ?_
    refine r_convert (r := (k : Int)) rfl rfl rfl rfl (IntWalk.u64_in _ ⟨by omega, by omega⟩) ?_
    have hk := of_decide_eq_true hc
    refine r_shr rfl rfl rfl (by omega) (top_shr k (by omega)) ?_
    refine r_build (cells := #[.int .u64 ((num (fun i => i == 63 - k) 64 : Nat) : Int), .int .u64 0]) rfl rfl (by kernel_rfl) ?_
    refine r_storeV rfl rfl rfl rfl rfl rfl ?_
    refine r_nil ?_
    refine r_tn ?_
    refine r_ret ?_
    refine r_tr ?_
    exact r_done1 (.inl rfl) rfl (res_cellV rfl rfl rfl rfl) fun w hw => ⟨congrArg (fun c => Ending.returned (.agg c)) (pix_hi (by omega)), hw.clear⟩
  · refine r_skip ?_
    refine r_tn ?_
    refine r_seq ?_
    refine r_region ?_
    refine r_move rfl rfl ?_
    refine r_sub rfl rfl rfl (w64 (by omega)) ?_
    have hk := of_decide_eq_false hc
    refine r_convert (r := ((k - 64 : Nat) : Int)) rfl rfl rfl rfl ((IntWalk.u64_in _ ⟨by omega, by omega⟩).trans (by omega)) ?_
    refine r_shr rfl rfl rfl (by omega) (top_shr (k - 64) (by omega)) ?_
    refine r_build (cells := #[.int .u64 0, .int .u64 ((num (fun i => i == 63 - (k - 64)) 64 : Nat) : Int)]) rfl rfl (by kernel_rfl) ?_
    refine r_storeV rfl rfl rfl rfl rfl rfl ?_
    refine r_nil ?_
    refine r_tn ?_
    refine r_ret ?_
    exact r_done1 (.inl rfl) rfl (res_cellV rfl rfl rfl rfl) fun w hw => ⟨congrArg (fun c => Ending.returned (.agg c)) ((pix_lo (by omega)).trans (rowV_congr fun x _ => by rw [show k - 64 + 64 = ((k : Nat) : Int).toNat by simp; omega])), hw.clear⟩

def getB (p : Nat → Bool) (x : Int) : Bool := decide (0 ≤ x) && decide (x < 128) && p x.toNat
def setP (p : Nat → Bool) (x : Int) (on : Bool) (y : Nat) : Bool := if (y : Int) = x then on else p y
theorem in_range {x : Int} (h : (decide (0 ≤ x) && decide (x < 128)) = true) : 0 ≤ x ∧ x < 128 := by simpa using h


theorem rowGet (p : Nat → Bool) (x : Int) (w : World) :
    Calls Tryd.prog 52 #[.agg (rowV p), .int .i64 x] w fun e w' => e = .returned (.bool (getB p x)) ∧ Sat w [] [] w' := by
  refine enter Tryd.func52 rfl rfl rfl ?_
  refine r_seq ?_
  refine r_region ?_
  refine r_boxV rfl rfl fun b2 => ?_
  refine r_assign rfl rfl ?_
  refine r_nil ?_
  refine r_tn ?_
  refine r_seq ?_
  refine r_mixedD { xb := [], rb := [b2], rs := [8], fs := [], acs := [10] } (by kernel_rfl) (by kernel_rfl) (fun w hw k hk => by
    simp only [List.mem_cons, List.not_mem_nil, or_false] at hk
    rcases hk with rfl <;> exact Sat.lt hw) ?_
  refine r_move rfl rfl ?_
  refine r_call rfl rfl rfl (by kernel_rfl) rfl (fun w hw => by exact rowIn x w) ?_
  refine r_move rfl rfl ?_
  refine r_split 7 rfl (fun hb7 => ?_) (fun hb7 => ?_)
  · refine r_go rfl rfl ?_
    refine r_loadV rfl rfl rfl rfl rfl ?_
    refine r_go rfl rfl ?_
    refine r_move rfl rfl ?_
    refine r_go rfl rfl ?_
    refine r_call rfl rfl rfl (by kernel_rfl) rfl (fun w hw => by exact rowPixel x w (in_range hb7)) ?_
    refine r_go rfl rfl ?_
    refine r_call rfl rfl rfl (by kernel_rfl) rfl (fun w hw => by exact rowAnd p (fun y => y == x.toNat) w) ?_
    refine r_go rfl rfl ?_
    refine r_call rfl rfl rfl (by kernel_rfl) rfl (fun w hw => by exact rowEmpty (fun y => p y && (y == x.toNat)) w) ?_
    refine r_go rfl rfl ?_
    refine r_not rfl rfl rfl ?_
    refine r_pick_t rfl rfl rfl ?_
    refine r_assign rfl rfl ?_
    refine r_nil ?_
    refine r_tn ?_
    refine r_ret ?_
    exact r_done1 (.inl rfl) rfl (res_tmp rfl) fun w hw => ⟨by have h := in_range hb7; rw [one_empty p (by omega)]; simp [getB, h.1, h.2], hw.clear⟩
  · refine r_pass rfl rfl rfl rfl ?_
    refine r_pass rfl rfl rfl rfl ?_
    refine r_pass rfl rfl rfl rfl ?_
    refine r_pass rfl rfl rfl rfl ?_
    refine r_pass rfl rfl rfl rfl ?_
    refine r_pass rfl rfl rfl rfl ?_
    refine r_pick_f rfl rfl rfl ?_
    refine r_assign rfl rfl ?_
    refine r_nil ?_
    refine r_tn ?_
    refine r_ret ?_
    exact r_done1 (.inl rfl) rfl (res_tmp rfl) fun w hw => ⟨by unfold getB; rw [hb7]; rfl, hw.clear⟩

theorem set_out {p : Nat → Bool} {x : Int} {on : Bool} (h : ¬ (0 ≤ x ∧ x < 128)) : rowV p = rowV (setP p x on) := rowV_congr fun y hy => by
  unfold setP; rw [if_neg (by omega)]
theorem set_same {p : Nat → Bool} {x : Int} {on : Bool} (h : 0 ≤ x ∧ x < 128) (he : getB p x = on) : rowV p = rowV (setP p x on) := rowV_congr fun y hy => by
  unfold setP
  split
  · next e => subst e; rw [← he]; simp [getB, h.2]
  · rfl
theorem set_flip {p : Nat → Bool} {x : Int} {on : Bool} (h : 0 ≤ x ∧ x < 128) (he : getB p x ≠ on) : rowV (fun y => p y ^^ (y == x.toNat)) = rowV (setP p x on) := rowV_congr fun y hy => by
  obtain ⟨k, rfl⟩ := Int.eq_ofNat_of_zero_le h.1
  unfold setP
  by_cases e : y = k
  · subst e
    have h2 : y < 128 := hy
    simp [getB, h2] at he
    have h3 : ((y : Nat) : Int).toNat = y := rfl
    simp [h3]
    cases hp : p y <;> cases on <;> simp_all
  · have e2 : ¬ ((y : Int) = (k : Nat)) := by omega
    rw [if_neg e2]
    have h3 : ((k : Nat) : Int).toNat = k := rfl
    show (p y ^^ (y == ((k : Nat) : Int).toNat)) = p y
    rw [h3, beq_eq_false_iff_ne.2 e, Bool.xor_false]


theorem rowSet (p : Nat → Bool) (x : Int) (on : Bool) (w : World) :
    Calls Tryd.prog 70 #[.agg (rowV p), .int .i64 x, .bool on] w fun e w' => e = .returned (.agg (rowV (setP p x on))) ∧ Sat w [] [] w' := by
  refine enter Tryd.func70 rfl rfl rfl ?_
  refine r_seq ?_
  refine r_region ?_
  refine r_boxV rfl rfl fun b3 => ?_
  refine r_allocV (cs := #[.int .u64 0, .int .u64 0]) rfl rfl fun b6 => ?_
  refine r_nil ?_
  refine r_tn ?_
  refine r_seq ?_
  refine r_seq ?_
  refine r_region ?_
  refine r_move rfl rfl ?_
  refine r_call rfl rfl rfl (by kernel_rfl) rfl (fun w hw => by exact rowIn x w) ?_
  refine r_not rfl rfl rfl ?_
  refine r_move rfl rfl ?_
  refine r_split 10 rfl (fun hb10 => ?_) (fun hb10 => ?_)
  · refine r_pass rfl rfl rfl rfl ?_
    refine r_pass rfl rfl rfl rfl ?_
    refine r_pass rfl rfl rfl rfl ?_
    refine r_pass rfl rfl rfl rfl ?_
    refine r_pass rfl rfl rfl rfl ?_
    refine r_pick_t rfl rfl rfl ?_
    refine r_nil ?_
    refine r_tn ?_
    refine r_cond_t rfl ?_
    refine r_seq ?_
    refine r_region ?_
    refine r_loadV rfl rfl rfl rfl rfl ?_
    refine r_storeV rfl rfl rfl rfl rfl rfl ?_
    refine r_nil ?_
    refine r_tn ?_
    refine r_ret ?_
    refine r_tr ?_
    exact r_done1 (.inl rfl) rfl (res_cellV rfl rfl rfl rfl) fun w hw => ⟨congrArg (fun c => Ending.returned (.agg c)) (set_out (by have h := hb10; simp at h; omega)), hw.clear⟩
  · refine r_go rfl rfl ?_
    refine r_loadV rfl rfl rfl rfl rfl ?_
    refine r_go rfl rfl ?_
    refine r_move rfl rfl ?_
    refine r_go rfl rfl ?_
    refine r_call rfl rfl rfl (by kernel_rfl) rfl (fun w hw => by exact rowGet p x w) ?_
    refine r_go rfl rfl ?_
    refine r_move rfl rfl ?_
    refine r_go rfl rfl ?_
    refine r_eql_bool (p := getB p x == on) rfl rfl rfl rfl rfl ?_
    refine r_pick_f rfl rfl rfl ?_
    refine r_nil ?_
    refine r_tn ?_
    refine r_cond rfl (fun hc => ?_) (fun hc => ?_)
    · refine r_seq ?_
      refine r_region ?_
      refine r_loadV rfl rfl rfl rfl rfl ?_
      refine r_storeV rfl rfl rfl rfl rfl rfl ?_
      refine r_nil ?_
      refine r_tn ?_
      refine r_ret ?_
      refine r_tr ?_
      exact r_done1 (.inl rfl) rfl (res_cellV rfl rfl rfl rfl) fun w hw => ⟨congrArg (fun c => Ending.returned (.agg c)) (set_same (in_range (by simpa using hb10)) (by simpa using hc)), hw.clear⟩
    · refine r_skip ?_
      refine r_tn ?_
      refine r_seq ?_
      refine r_mixedD { xb := [], rb := [b3], rs := [18], fs := [], acs := [20] } (by kernel_rfl) (by kernel_rfl) (fun w hw k hk => by
        simp only [List.mem_cons, List.not_mem_nil, or_false] at hk
        rcases hk with rfl <;> exact Sat.lt hw) ?_
      refine r_loadV rfl rfl rfl rfl rfl ?_
      refine r_move rfl rfl ?_
      refine r_call rfl rfl rfl (by kernel_rfl) rfl (fun w hw => by exact rowPixel x w (in_range (by simpa using hb10))) ?_
      refine r_call rfl rfl rfl (by kernel_rfl) rfl (fun w hw => by exact rowXor p (fun y => y == x.toNat) w) ?_
      refine r_storeV rfl rfl rfl rfl rfl rfl ?_
      refine r_nil ?_
      refine r_tn ?_
      refine r_ret ?_
      exact r_done1 (.inl rfl) rfl (res_cellV rfl rfl rfl rfl) fun w hw => ⟨congrArg (fun c => Ending.returned (.agg c)) (set_flip (in_range (by simpa using hb10)) (by simpa using hc)), hw.clear⟩
end
section
set_option maxRecDepth 4000
open Go Go.RowKit
set_option linter.unusedVariables false
section
variable {P : Program} {n : Nat} {w0 : World} {S : List Nat} {E : List (Nat × Value)} {H G : List Res} {Q : Exit → Act → World → Prop}
variable {dr : Option Dr} {ops : Array Oper} {K : Act → World → Prop} {rest : List Oper} {d : Nat} {ty : TypeId} {pos : String} {after : Array Edge} {x y : Operand}
theorem r_loadRd {t : TypeId} {b off m : Nat} {vs : List Value} (hx : ev E x = some (.pointer (some ⟨b, off, none⟩)))
    (ht : isAggT P t = some true) (hm : (P.info? t).map (·.size) = some m) (hd : Nat.blt d n = true) (hl : vs.length = m) (hv : ∀ w, Sat w0 S H w → Rd w (some ⟨b, off, none⟩) vs)
    (hk : Run n w0 S ((d, .agg vs.toArray) :: E) H (mix P dr ops K rest)) (hok : OkRead dr d b := by first | exact True.intro | (simp [OkRead]; done) | (simp [OkRead, *]; done)) :
    Run n w0 S E H (mix P dr ops K (⟨some d, .load t x, ty, pos, after, none⟩ :: rest)) :=
  r_read hd (by cases dr <;> rfl) rfl hx hok (fun a ha w hw w' hb => by
    obtain ⟨i, hi, hs⟩ := Option.map_eq_some_iff.1 hm
    have h1 := run_loadCells_list (P := P) w' ⟨b, off, none⟩ vs (fun j v hj => by
      have hadd : (⟨b, off, none⟩ : Addr).add j = ⟨b, off + j, none⟩ := by unfold Addr.add; split <;> simp_all
      rw [hadd]
      exact (World.cell?_of_block (a := ⟨b, off + j, none⟩) (w := w) hb).trans ((hv w hw).cell hj rfl))
    rw [hl] at h1
    simp [execOp, ha.ev hx, Instr.loadAt, Instr.sureAddr, loadVar, Sem.run_bind, run_isAgg ht, Result.andThen, sizeOf, typeInfo, hi, hs, h1]) hk
theorem r_callbw {b : Nat} {o : Obj} {ι : Type} {f : Operand} {args : List Operand} {tys : Array TypeId} {g : FuncId} {vs cs us : List Value} {v : ι → Value} {A' : ι → List Res} {φ : ι → Prop} [hb : HasBlk b H o G]
    (hf : ev E f = some (.func (.func g) #[] cs.toArray)) (ha : evs E args = some vs) (hu : vs ++ cs = us) (hg : callable P g = true) (hd : Nat.blt d n = true)
    (hc : ∀ w, Sat w0 S H w → Sat w [b] [.blk b o] w → Calls P g us.toArray w fun e w' => ∃ i, e = .returned (v i) ∧ φ i ∧ Sat w [b] (A' i) w')
    (hk : ∀ i, φ i → Run n w0 S ((d, v i) :: E) (A' i ++ G) (mix P dr ops K rest)) (hok : OkAct dr (some d) [b] := by first | exact True.intro | (simp [OkAct, dstIn]; done) | (simp [OkAct, dstIn, *]; done)) :
    Run n w0 S E H (mix P dr ops K (⟨some d, .call { callee := .value f, args := args.toArray, argTypes := tys }, ty, pos, after, none⟩ :: rest)) :=
  r_callm (A := [.blk b o]) (G := G) hb.pick.perm hf ha hu hg hd (fun w hw hs => hc w (hw.perm hb.pick.perm.symm) hs) hk hok
theorem r_callbw0 {b : Nat} {o : Obj} {f : Operand} {args : List Operand} {tys : Array TypeId} {g : FuncId} {vs cs us : List Value} {v : Value} {A' : List Res} [hb : HasBlk b H o G]
    (hf : ev E f = some (.func (.func g) #[] cs.toArray)) (ha : evs E args = some vs) (hu : vs ++ cs = us) (hg : callable P g = true) (hd : Nat.blt d n = true)
    (hc : ∀ w, Sat w0 S H w → Sat w [b] [.blk b o] w → Calls P g us.toArray w fun e w' => e = .returned v ∧ Sat w [b] A' w')
    (hk : Run n w0 S ((d, v) :: E) (A' ++ G) (mix P dr ops K rest)) (hok : OkAct dr (some d) [b] := by first | exact True.intro | (simp [OkAct, dstIn]; done) | (simp [OkAct, dstIn, *]; done)) :
    Run n w0 S E H (mix P dr ops K (⟨some d, .call { callee := .value f, args := args.toArray, argTypes := tys }, ty, pos, after, none⟩ :: rest)) :=
  r_callbw (ι := Unit) (v := fun _ => v) (A' := fun _ => A') (φ := fun _ => True) (b := b) hf ha hu hg hd (fun w hw hs => (hc w hw hs).mono fun _ _ ⟨he, hs⟩ => ⟨(), he, trivial, hs⟩) (fun _ _ => hk) hok
end
end
section
open Go Go.RowKit
set_option linter.unusedVariables false
set_option linter.unusedSimpArgs false
set_option maxHeartbeats 2000000
set_option maxRecDepth 4000
attribute [local irreducible] mix

/-- a row's width -/
abbrev wd (wide : Bool) : Nat := if wide then 128 else 64
def wideP (wide : Bool) (x : Nat) : Bool := decide (x < wd wide)

def mk1 (p q : Nat → Bool) (k x : Nat) : Bool := if k = 0 then p x else p x && q x

/-- a row of a width moved to the right -/
def shiftP (p : Nat → Bool) (n : Int) (wide : Bool) (x : Nat) : Bool := decide (x < wd wide) && (decide (0 ≤ (x : Int) - n) && decide ((x : Int) - n < 128) && p ((x : Int) - n).toNat)
theorem shift_left (p : Nat → Bool) (wide : Bool) {n : Int} (h : n < 0) (x : Nat) (hx : x < 128) : (leftP p (-n).toNat x && wideP wide x) = shiftP p n wide x := by
  unfold leftP wideP shiftP
  rw [Bool.and_comm]
  congr 1
  have e : x + (-n).toNat = ((x : Int) - n).toNat := by omega
  rw [e]
  have e1 : decide (((x : Int) - n).toNat < 128) = decide ((x : Int) - n < 128) := by congr 1; exact propext ⟨fun _ => by omega, fun _ => by omega⟩
  have e2 : decide (0 ≤ (x : Int) - n) = true := decide_eq_true (by omega)
  rw [e1, e2, Bool.true_and]
theorem shift_right (p : Nat → Bool) (wide : Bool) {n : Int} (h : ¬ n < 0) (x : Nat) (hx : x < 128) : (rightP p n.toNat x && wideP wide x) = shiftP p n wide x := by
  unfold rightP wideP shiftP
  rw [Bool.and_comm]
  congr 1
  have e1 : decide (n.toNat ≤ x) = decide (0 ≤ (x : Int) - n) := by congr 1; exact propext ⟨fun _ => by omega, fun _ => by omega⟩
  have e2 : decide ((x : Int) - n < 128) = true := decide_eq_true (by omega)
  have e : x - n.toNat = ((x : Int) - n).toNat := by omega
  rw [e, e1, e2, Bool.and_true]
end
section
set_option maxRecDepth 4000
open Go Go.RowKit
set_option linter.unusedVariables false
theorem run_append_full {P : Program} (w : World) (t ty e : TypeId) (i : TypeInfo) (z : Value) (size bytes : Nat) (ht : P.underlying t = some (.slice e)) (hi : P.info? e = some i) (hz : i.zero = some z)
    (hsize : i.size = size) (hby : i.bytes = bytes) (hzs : z.cells.size = size) (b : Addr) (n cap : Nat) (xs : List Value) (hlo : xs.length = n * size) (holds : ∀ j v, xs[j]? = some v → w.cell? (b.add j) = some v)
    (a : Addr) (m c : Nat) (news : List Value) (hl : news.length = m * size) (hnews : ∀ j u, news[j]? = some u → w.cell? (a.add j) = some u) (hg : cap < n + m) (hcn : cap ≤ n)
    (h63 : n + m ≤ maxLen) (hbytes : (n + m) * bytes ≤ 140737488355328) :
    ∃ c' w', (Builtin.append_ #[t, t] ty #[.slice (some b) n cap, .slice (some a) m c]).run P w = .ok (.slice (some ⟨w.heap.size, 0, none⟩) (n + m) c') w' ∧ w'.ownsRow 0 e size (.slice (some ⟨w.heap.size, 0, none⟩) (n + m) c') (n + m) (xs ++ news) ∧ w.grownBy w' none := by
  subst hsize
  subst hby
  have hsmall : n + m ≤ 9223372036854775807 := by simp only [maxLen] at h63; omega
  have hlen : (xs ++ news).length = (n + m) * i.size := by rw [List.length_append, hlo, hl, Nat.add_mul]
  have hr := run_append_grow (P := P) w t ty e i z ht hi hz b n cap xs hlo holds a m c news hl hnews hg (by omega) (growslice_fits (by omega) hbytes)
  have hge := grownCap_ge w (n + m) cap e
  have hcm : grownCap w (n + m) cap e ≤ maxLen := grownCap_le_maxLen w (n + m) cap e h63
  refine ⟨_, _, hr, ⟨hlen, .inr ⟨w.heap.size, _, _, rfl, Nat.zero_le _, heap_alloc_new w.drew _, hge, hcm, ?_, ?_⟩⟩, ⟨rfl, rfl, rfl, by simp, fun k hk _ => (Below.heap_alloc w.drew _ k hk)⟩⟩
  · simp only [Array.size_append, List.size_toArray, size_zeroCells, hzs, hlo, hl, ← Nat.add_mul]
    congr 1
    omega
  · simp only [Array.toList_append, List.append_assoc]
    rw [← List.append_assoc, ← hlen]
    exact List.take_left
section
variable {P : Program} {n : Nat} {w0 : World} {S : List Nat} {E : List (Nat × Value)} {H G : List Res} {Q : Exit → Act → World → Prop}
variable {dr : Option Dr} {ops : Array Oper} {K : Act → World → Prop} {rest : List Oper} {d : Nat} {ty : TypeId} {pos : String} {after : Array Edge} {x y : Operand}
theorem r_appendG {t e : TypeId} {sz bytes m c k c2 : Nat} {z : Value} {b1 o1 b2 o2 : Nat} {xs news : List Value} (hd : Nat.blt d n = true) (hx : ev E x = some (.slice (some ⟨b1, o1, none⟩) m c)) (hy : ev E y = some (.slice (some ⟨b2, o2, none⟩) k c2))
    (ht : P.underlying t = some (.slice e)) (hinfo : (P.info? e).map (fun i => (i.zero, i.size, i.bytes)) = some (some z, sz, bytes)) (hzs : z.cells.size = sz)
    (hold : ∀ w, Sat w0 S H w → Rd w (some ⟨b1, o1, none⟩) xs) (hlo : xs.length = m * sz) (hsrc : ∀ w, Sat w0 S H w → Rd w (some ⟨b2, o2, none⟩) news) (hl : news.length = k * sz) (hg : c < m + k) (hcn : c ≤ m) (hb : (m + k) * bytes ≤ 140737488355328) (h63 : m + k ≤ maxLen)
    (hk : ∀ A' c', Run n w0 S ((d, .slice A' (m + k) c') :: E) (.own e sz (.slice A' (m + k) c') (m + k) (xs ++ news) :: H) (mix P dr ops K rest)) :
    Run n w0 S E H (mix P dr ops K (⟨some d, .call { callee := .builtin .append, args := #[x, y], argTypes := #[t, t] }, ty, pos, after, none⟩ :: rest)) :=
  r_act (X := []) (by cases dr <;> rfl) okAct_nil fun a w ha hw => by
    obtain ⟨i, hi, hz0, hz1, hz2⟩ := info_parts hinfo
    obtain ⟨c', w', hrun, ho, hgr⟩ := run_append_full (P := P) w t ty e i z sz bytes ht hi hz0 hz1 hz2 hzs ⟨b1, o1, none⟩ m c xs hlo (fun j v hj => by rw [addr_add]; exact (hold w hw).cell hj rfl) ⟨b2, o2, none⟩ k c2 news hl (fun j v hj => by rw [addr_add]; exact (hsrc w hw).cell hj rfl) hg hcn h63 hb
    have h := hk _ c' _ w' (ha.put hd _) ((hw.ownNil e sz).grown (r' := .own e sz (.slice (some ⟨w.heap.size, 0, none⟩) (m + k) c') (m + k) (xs ++ news)) hgr (fun q hq => by simp [Res.foot, Value.ownBlock] at hq; exact .inr (by omega)) ho)
    simp [execOp, resolve, invoke, builtin, ha.ev hx, ha.ev hy, hrun, actUpon]
    exact ⟨⟨hgr.size, fun k hk hX => hgr.block k hk (by simp)⟩, h⟩

theorem freeze_row {w : World} {g k : Nat} {cur : Array Value} {e : TypeId} (hg : w.heap[g]? = some (.cells cur e (0, 0))) :
    (w.freeze ⟨g, k, none⟩ 1).heap[g]? = some (.cells cur e (k, k + 1)) ∧ w.grownBy (w.freeze ⟨g, k, none⟩ 1) (some g) := by
  unfold World.freeze
  rw [if_neg (by decide)]
  refine ⟨?_, ⟨rfl, rfl, rfl, by simp, fun j hj hne => ?_⟩⟩
  · simp only [Array.getElem?_modify, if_true, hg]
    rfl
  · simp only [Array.getElem?_modify]
    rw [if_neg (fun h => hne (by rw [h]))]
/-- a constant's bytes: the literal's row gets the run-time's mark -/
theorem r_convConst {t e : TypeId} {g m c : Nat} {cur : Array Value} (hd : Nat.blt d n = true) (hx : ev E x = some (.slice (some ⟨g, 0, none⟩) m c)) [hb : HasBlk g H (.cells cur e (0, 0)) G] (ht : P.underlying t = some (.slice e)) (he : P.underlying e = some (.int .u8))
    (hk : Run n w0 S ((d, .slice (some ⟨g, 0, none⟩) m c) :: E) (.blk g (.cells cur e (cur.size, cur.size + 1)) :: G) (mix P none ops K rest)) :
    Run n w0 S E H (mix P none ops K (⟨some d, .convert t t x, ty, pos, after, none⟩ :: rest)) :=
  r_act (X := [g]) rfl True.intro fun a w ha hw => by
    have hw' := hw.pick hb.pick
    have hg : w.heap[g]? = some (.cells cur e (0, 0)) := hw.look hb.pick
    have hsh : w.shape? g = some (e, cur.size) := by unfold World.shape?; rw [hg]
    obtain ⟨h1, h2⟩ := freeze_row (k := cur.size) hg
    have h := hk _ _ (ha.put hd _) (hw'.grown (r' := .blk g (.cells cur e (cur.size, cur.size + 1))) h2 (fun q hq => .inl hq) h1)
    have hrun : (convert t t (.slice (some ⟨g, 0, none⟩) m c)).run P w = .ok (.slice (some ⟨g, 0, none⟩) m c) (w.freeze ⟨g, cur.size, none⟩ 1) := by
      simp [convert, run_underlying ht, run_underlying he, markStringish, hsh]
    simp [execOp, ha.ev hx, hrun, actUpon]
    exact ⟨⟨h2.size, fun k hk hX => h2.block k hk (by simpa using hX)⟩, h⟩
def strOf (l : List Int) : ByteArray := l.foldl (fun r z => r.push (UInt8.ofNat z.toNat)) ByteArray.empty
/-- bytes as a text -/
theorem r_bytesStr {t t2 e : TypeId} {b o m c : Nat} {l : List Int} (hd : Nat.blt d n = true) (hx : ev E x = some (.slice (some ⟨b, o, none⟩) m c)) (ht : P.underlying t = some (.slice e)) (he : P.underlying e = some (.int .u8)) (ht2 : P.underlying t2 = some .string) (hl : l.length = m)
    (hv : ∀ w, Sat w0 S H w → Rd w (some ⟨b, o, none⟩) (l.map (Value.int .u8)))
    (hk : Run n w0 S ((d, .string (strOf l)) :: E) H (mix P none ops K rest)) :
    Run n w0 S E H (mix P none ops K (⟨some d, .convert t t2 x, ty, pos, after, none⟩ :: rest)) :=
  r_act (X := []) rfl True.intro fun a w ha hw => by
    have h1 := run_loadCells_list (P := P) w ⟨b, o, none⟩ (l.map (Value.int .u8)) (fun j v hj => by rw [addr_add]; exact (hv w hw).cell hj rfl)
    rw [List.length_map, hl] at h1
    have h2 := run_bytesToString (P := P) w ⟨b, o, none⟩ m c l h1
    have h := hk _ _ (ha.put hd (.string (strOf l))) hw
    have hrun : (convert t t2 (.slice (some ⟨b, o, none⟩) m c)).run P w = .ok (.string (strOf l)) w := by
      simp [convert, run_underlying ht, run_underlying ht2, run_underlying he]
      exact h2
    simp [execOp, ha.ev hx, hrun, actUpon]
    exact ⟨⟨Nat.le_refl _, fun k hk hX => rfl⟩, h⟩
theorem r_neq_string {t t' : TypeId} {a b : ByteArray} {p : Bool} (hd : Nat.blt d n = true) (hx : ev E x = some (.string a)) (hy : ev E y = some (.string b)) (hr : (!(a.toList == b.toList)) = p) (hk : Run n w0 S ((d, .bool p) :: E) H (mix P dr ops K rest)) :
    Run n w0 S E H (mix P dr ops K (⟨some d, .binOp .neq t x y t', ty, pos, after, none⟩ :: rest)) :=
  r_bin hd hx hy (fun w => by simp [eqGuard]) (fun w => by
    subst hr
    simp [binOp, Op.stringOp, Sem.run_pure]) hk
/-- a call of a bound method's value -/
theorem r_callm1 {ι : Type} {f : Operand} {args : List Operand} {tys : Array TypeId} {g : FuncId} {fs vs cs us : List Value} {A : List Res} {v : ι → Value} {A' : ι → List Res} {φ : ι → Prop}
    (hp : H.Perm (A ++ G)) (hf : ev E f = some (.func (.func g) fs.toArray cs.toArray)) (ha : evs E args = some vs) (hu : fs ++ vs ++ cs = us) (hg : callable P g = true) (hd : Nat.blt d n = true)
    (hc : ∀ w, Sat w0 S (A ++ G) w → Sat w (A.filterMap Res.foot) A w → Calls P g us.toArray w fun e w' => ∃ i, e = .returned (v i) ∧ φ i ∧ Sat w (A.filterMap Res.foot) (A' i) w')
    (hk : ∀ i, φ i → Run n w0 S ((d, v i) :: E) (A' i ++ G) (mix P dr ops K rest)) (hok : OkAct dr (some d) (A.filterMap Res.foot) := by first | exact True.intro | (simp [OkAct, dstIn]; done) | (simp [OkAct, dstIn, *]; done)) :
    Run n w0 S E H (mix P dr ops K (⟨some d, .call { callee := .value f, args := args.toArray, argTypes := tys }, ty, pos, after, none⟩ :: rest)) :=
  r_act (X := A.filterMap Res.foot) (by cases dr <;> rfl) hok fun a w ha' hw => by
    have hw' := hw.perm hp
    have hrun : (execOp a.eval ⟨some d, .call { callee := .value f, args := args.toArray, argTypes := tys }, ty, pos, after, none⟩).run P w = .ok (.enter g us.toArray) w := by
      have e1 := ha'.evs ha
      subst hu
      simp [execOp, resolve, ha'.ev hf, Deferred.ofValue, invoke, run_call hg, e1]
    rw [hrun]
    refine (hc w hw' hw'.hand).mono fun e w' ⟨i, he, hφ, hs⟩ => ⟨v i, he, hs.kept, ?_⟩
    refine hk i hφ _ w' (ha'.put hd _) (hw'.call hs fun k hk => ?_)
    obtain ⟨r, hr, hf⟩ := List.mem_filterMap.1 hk
    exact ⟨r, hr, hf⟩
theorem r_callb1 {b : Nat} {o : Obj} {ι : Type} {f : Operand} {args : List Operand} {tys : Array TypeId} {g : FuncId} {fs vs cs us : List Value} {v : ι → Value} {A' : ι → List Res} {φ : ι → Prop} [hb : HasBlk b H o G]
    (hf : ev E f = some (.func (.func g) fs.toArray cs.toArray)) (ha : evs E args = some vs) (hu : fs ++ vs ++ cs = us) (hg : callable P g = true) (hd : Nat.blt d n = true)
    (hc : ∀ w, Sat w0 S H w → Sat w [b] [.blk b o] w → Calls P g us.toArray w fun e w' => ∃ i, e = .returned (v i) ∧ φ i ∧ Sat w [b] (A' i) w')
    (hk : ∀ i, φ i → Run n w0 S ((d, v i) :: E) (A' i ++ G) (mix P dr ops K rest)) (hok : OkAct dr (some d) [b] := by first | exact True.intro | (simp [OkAct, dstIn]; done) | (simp [OkAct, dstIn, *]; done)) :
    Run n w0 S E H (mix P dr ops K (⟨some d, .call { callee := .value f, args := args.toArray, argTypes := tys }, ty, pos, after, none⟩ :: rest)) :=
  r_callm1 (A := [.blk b o]) (G := G) hb.pick.perm hf ha hu hg hd (fun w hw hs => hc w (hw.perm hb.pick.perm.symm) hs) hk hok
end
end
section
set_option maxRecDepth 4000
set_option linter.unusedVariables false
set_option linter.unusedSimpArgs false
/-- the number with fields f of w bits -/
def flds (w : Nat) (f : Nat → Nat) : Nat → Nat
  | 0 => 0
  | m + 1 => 2 ^ (w * m) * f m + flds w f m
theorem flds_lt {w : Nat} {f : Nat → Nat} (h : ∀ i, f i < 2 ^ w) : ∀ m, flds w f m < 2 ^ (w * m)
  | 0 => by simp [flds]
  | m + 1 => by
    have h1 := flds_lt h m
    have h2 := h m
    have h3 : 2 ^ (w * m) * (f m + 1) ≤ 2 ^ (w * m) * 2 ^ w := Nat.mul_le_mul_left _ h2
    rw [Nat.mul_succ, Nat.pow_add]
    simp only [flds]
    rw [Nat.mul_add] at h3
    omega
theorem flds_bit {w : Nat} (hw : 0 < w) {f : Nat → Nat} (h : ∀ i, f i < 2 ^ w) : ∀ (m j : Nat), (flds w f m).testBit j = (decide (j < w * m) && (f (j / w)).testBit (j % w))
  | 0, j => by simp [flds]
  | m + 1, j => by
    simp only [flds]
    rw [Nat.testBit_two_pow_mul_add _ (flds_lt h m)]
    rw [flds_bit hw h m j]
    by_cases h1 : j < w * m
    · have h2 : j < w * (m + 1) := by rw [Nat.mul_succ]; omega
      simp [h1, h2]
    · simp only [h1, if_false]
      by_cases h2 : j < w * (m + 1)
      · rw [Nat.mul_succ] at h2
        have h3 : j / w = m := by
          rw [Nat.div_eq_iff hw]
          rw [Nat.mul_comm w m] at h1 h2
          constructor <;> omega
        have h4 : j % w = j - w * m := by
          have := Nat.div_add_mod j w
          rw [h3] at this
          omega
        have h5 : j < w * (m + 1) := by rw [Nat.mul_succ]; omega
        rw [h3, h4]
        simp [h5]
      · have h3 : w ≤ j - w * m := by rw [Nat.mul_succ] at h2; omega
        rw [Nat.testBit_lt_two_pow (Nat.lt_of_lt_of_le (h m) (Nat.pow_le_pow_right (by decide) h3))]
        simp [h2]
theorem flds_congr {w : Nat} {f g : Nat → Nat} : ∀ {m : Nat}, (∀ i, i < m → f i = g i) → flds w f m = flds w g m
  | 0, _ => rfl
  | m + 1, h => by simp only [flds]; rw [h m (by omega), flds_congr fun i hi => h i (by omega)]
theorem flds_add {w : Nat} (f g : Nat → Nat) : ∀ m, flds w f m + flds w g m = flds w (fun i => f i + g i) m
  | 0 => rfl
  | m + 1 => by simp only [flds]; rw [← flds_add f g m, Nat.mul_add]; omega
theorem flds_shr {w : Nat} (hw : 0 < w) {f : Nat → Nat} (h : ∀ i, f i < 2 ^ w) {m : Nat} (h0 : ∀ i, m ≤ i → f i = 0) (k : Nat) {s : Nat} (hs : s = w * k) : flds w f m >>> s = flds w (fun i => f (i + k)) m := by
  subst hs
  apply Nat.eq_of_testBit_eq
  intro j
  rw [Nat.testBit_shiftRight, flds_bit hw h, flds_bit hw (fun i => h _)]
  rw [Nat.mul_add_div hw, Nat.mul_add_mod, Nat.add_comm k]
  by_cases h1 : j < w * m
  · by_cases h2 : w * k + j < w * m
    · simp [h1, h2]
    · have h3 : m ≤ j / w + k := by
        have h4 : m ≤ (w * k + j) / w := (Nat.le_div_iff_mul_le hw).2 (by rw [Nat.mul_comm]; omega)
        rw [Nat.mul_add_div hw] at h4
        omega
      simp [h2, h0 _ h3]
  · have h2 : ¬ w * k + j < w * m := by omega
    simp [h1, h2]
/-- every other field, in fields that are twice as wide -/
theorem flds_mask {w : Nat} (hw : 0 < w) {f : Nat → Nat} (h : ∀ i, f i < 2 ^ w) {m2 m : Nat} (hm : m2 = 2 * m) {M : Nat} (hM : M = flds w (fun i => if i % 2 = 0 then 2 ^ w - 1 else 0) m2) :
    flds w f m2 &&& M = flds (2 * w) (fun i => f (2 * i)) m := by
  have hp : 2 ^ w - 1 < 2 ^ w := Nat.sub_lt (Nat.two_pow_pos w) (by decide)
  have hM' : ∀ i, (if i % 2 = 0 then 2 ^ w - 1 else 0) < 2 ^ w := fun i => by split; exact hp; exact Nat.two_pow_pos w
  have h2 : ∀ i, f (2 * i) < 2 ^ (2 * w) := fun i => Nat.lt_of_lt_of_le (h _) (Nat.pow_le_pow_right (by decide) (by omega))
  subst hm
  apply Nat.eq_of_testBit_eq
  intro j
  rw [Nat.testBit_and, hM, flds_bit hw h, flds_bit hw hM', flds_bit (by omega) h2]
  have e1 : 2 * w * m = w * (2 * m) := by rw [Nat.mul_comm 2 w, Nat.mul_assoc]
  rw [e1]
  by_cases h1 : j < w * (2 * m)
  · simp only [h1, decide_true, Bool.true_and]
    have hd : j / (2 * w) = j / w / 2 := by rw [Nat.mul_comm 2 w, Nat.div_div_eq_div_mul]
    have hmw : j % w < w := Nat.mod_lt _ hw
    have hj := Nat.div_add_mod j w
    have hj2 := Nat.div_add_mod (j / w) 2
    rw [hd]
    generalize j / w = q at *
    generalize j % w = r at *
    rcases Nat.mod_two_eq_zero_or_one q with hq | hq
    · simp only [hq, if_true]
      rw [hq] at hj2
      have e2 : 2 * (q / 2) = q := by omega
      have e3 : j % (2 * w) = r := by
        rw [← hj, ← e2, ← Nat.mul_assoc, Nat.mul_comm w 2, Nat.mul_add_mod]
        exact Nat.mod_eq_of_lt (by omega)
      rw [e2, e3]
      rw [Nat.testBit_two_pow_sub_one]
      simp [hmw]
    · rw [hq] at hj2
      have e3 : j % (2 * w) = w + r := by
        have : j = 2 * w * (q / 2) + (w + r) := by
          rw [← hj, ← hj2, Nat.mul_add, ← Nat.mul_assoc, Nat.mul_comm w 2]
          have : (2 * (q / 2) + 1) / 2 = q / 2 := by omega
          rw [this]; omega
        rw [this, Nat.mul_add_mod]
        exact Nat.mod_eq_of_lt (by omega)
      rw [e3]
      have e4 : (f (2 * (q / 2))).testBit (w + r) = false := Nat.testBit_lt_two_pow (Nat.lt_of_lt_of_le (h _) (Nat.pow_le_pow_right (by decide) (by omega)))
      rw [e4]
      simp [hq]
  · simp [h1]
/-- how many of the first m are lit -/
def cnt (b : Nat → Bool) : Nat → Nat
  | 0 => 0
  | m + 1 => cnt b m + (b m).toNat
theorem num_flds (b : Nat → Bool) : ∀ m, num b m = flds 1 (fun i => (b i).toNat) m
  | 0 => rfl
  | m + 1 => by
    simp only [num, flds, num_flds b m, Nat.one_mul]
    cases b m <;> simp <;> omega
/-- fields that end -/
def upto (m : Nat) (f : Nat → Nat) (i : Nat) : Nat := if i < m then f i else 0
theorem upto_le {m c : Nat} {f : Nat → Nat} (h : ∀ i, f i ≤ c) (i : Nat) : upto m f i ≤ c := by unfold upto; split; exact h i; omega
theorem upto_zero {m : Nat} {f : Nat → Nat} (i : Nat) (h : m ≤ i) : upto m f i = 0 := by unfold upto; rw [if_neg (by omega)]
theorem flds_upto (w : Nat) (f : Nat → Nat) (m : Nat) : flds w f m = flds w (upto m f) m := flds_congr fun i hi => by simp [upto, hi]
def pop1 (b : Nat → Bool) (i : Nat) : Nat := (b i).toNat
def pop2 (b : Nat → Bool) (i : Nat) : Nat := upto 64 (pop1 b) (2 * i + 1) + upto 64 (pop1 b) (2 * i)
def pop4 (b : Nat → Bool) (i : Nat) : Nat := upto 32 (pop2 b) (2 * i + 1) + upto 32 (pop2 b) (2 * i)
def pop8a (b : Nat → Bool) (i : Nat) : Nat := upto 16 (pop4 b) (i + 1) + upto 16 (pop4 b) i
def pop8 (b : Nat → Bool) (i : Nat) : Nat := upto 16 (pop8a b) (2 * i)
def pop16 (b : Nat → Bool) (i : Nat) : Nat := upto 8 (pop8 b) i + upto 8 (pop8 b) (i + 1)
def pop32 (b : Nat → Bool) (i : Nat) : Nat := upto 8 (pop16 b) i + upto 8 (pop16 b) (i + 2)
def pop64 (b : Nat → Bool) (i : Nat) : Nat := upto 8 (pop32 b) i + upto 8 (pop32 b) (i + 4)
theorem pop1_le (b : Nat → Bool) (i : Nat) : pop1 b i ≤ 1 := by unfold pop1; cases b i <;> decide
theorem pop2_le (b : Nat → Bool) (i : Nat) : pop2 b i ≤ 2 := by have h1 := upto_le (m := 64) (pop1_le b) (2 * i + 1); have h2 := upto_le (m := 64) (pop1_le b) (2 * i); unfold pop2; omega
theorem pop4_le (b : Nat → Bool) (i : Nat) : pop4 b i ≤ 4 := by have h1 := upto_le (m := 32) (pop2_le b) (2 * i + 1); have h2 := upto_le (m := 32) (pop2_le b) (2 * i); unfold pop4; omega
theorem pop8a_le (b : Nat → Bool) (i : Nat) : pop8a b i ≤ 8 := by have h1 := upto_le (m := 16) (pop4_le b) (i + 1); have h2 := upto_le (m := 16) (pop4_le b) i; unfold pop8a; omega
theorem pop8_le (b : Nat → Bool) (i : Nat) : pop8 b i ≤ 8 := upto_le (pop8a_le b) _
theorem pop16_le (b : Nat → Bool) (i : Nat) : pop16 b i ≤ 16 := by have h1 := upto_le (m := 8) (pop8_le b) (i + 1); have h2 := upto_le (m := 8) (pop8_le b) i; unfold pop16; omega
theorem pop32_le (b : Nat → Bool) (i : Nat) : pop32 b i ≤ 32 := by have h1 := upto_le (m := 8) (pop16_le b) (i + 2); have h2 := upto_le (m := 8) (pop16_le b) i; unfold pop32; omega
theorem pop64_le (b : Nat → Bool) (i : Nat) : pop64 b i ≤ 64 := by have h1 := upto_le (m := 8) (pop32_le b) (i + 4); have h2 := upto_le (m := 8) (pop32_le b) i; unfold pop64; omega
theorem lt_of_le' {f : Nat → Nat} {c n : Nat} (h : ∀ i, f i ≤ c) (hc : c < n) (i : Nat) : f i < n := Nat.lt_of_le_of_lt (h i) hc
theorem st1 (b : Nat → Bool) : ((num b 64 >>> 1) &&& 6148914691236517205) = flds 2 (fun i => upto 64 (pop1 b) (2 * i + 1)) 32 ∧ (num b 64 &&& 6148914691236517205) = flds 2 (fun i => upto 64 (pop1 b) (2 * i)) 32 := by
  have hl := lt_of_le' (upto_le (m := 64) (pop1_le b)) (show 1 < 2 ^ 1 by decide)
  have hM : 6148914691236517205 = flds 1 (fun i => if i % 2 = 0 then 2 ^ 1 - 1 else 0) 64 := by decide +kernel
  have e1 := flds_shr (w := 1) (by decide) hl (m := 64) (fun i => upto_zero i) 1 (s := 1) rfl
  have e2 := flds_mask (w := 1) (by decide) (f := fun i => upto 64 (pop1 b) (i + 1)) (fun i => hl _) (m := 32) rfl hM
  have e3 := flds_mask (w := 1) (by decide) hl (m := 32) rfl hM
  have e0 : num b 64 = flds 1 (upto 64 (pop1 b)) 64 := (num_flds b 64).trans (flds_upto 1 (pop1 b) 64)
  generalize flds 1 (upto 64 (pop1 b)) 64 = X at *
  generalize 6148914691236517205 = M at *
  rw [e0]
  exact ⟨(congrArg (· &&& M) e1).trans e2, e3⟩
theorem st2 (b : Nat → Bool) : ((flds 2 (pop2 b) 32 >>> 2) &&& 3689348814741910323) = flds 4 (fun i => upto 32 (pop2 b) (2 * i + 1)) 16 ∧ (flds 2 (pop2 b) 32 &&& 3689348814741910323) = flds 4 (fun i => upto 32 (pop2 b) (2 * i)) 16 := by
  have hl := lt_of_le' (upto_le (m := 32) (pop2_le b)) (show 2 < 2 ^ 2 by decide)
  have hM : 3689348814741910323 = flds 2 (fun i => if i % 2 = 0 then 2 ^ 2 - 1 else 0) 32 := by decide +kernel
  have e1 := flds_shr (w := 2) (by decide) hl (m := 32) (fun i => upto_zero i) 1 (s := 2) rfl
  have e2 := flds_mask (w := 2) (by decide) (f := fun i => upto 32 (pop2 b) (i + 1)) (fun i => hl _) (m := 16) rfl hM
  have e3 := flds_mask (w := 2) (by decide) hl (m := 16) rfl hM
  have e0 := flds_upto 2 (pop2 b) 32
  generalize flds 2 (upto 32 (pop2 b)) 32 = X at *
  generalize 3689348814741910323 = M at *
  rw [e0]
  exact ⟨(congrArg (· &&& M) e1).trans e2, e3⟩
theorem st3 (b : Nat → Bool) : (flds 4 (pop4 b) 16 >>> 4) = flds 4 (fun i => upto 16 (pop4 b) (i + 1)) 16 ∧ (flds 4 (pop8a b) 16 &&& 1085102592571150095) = flds 8 (pop8 b) 8 := by
  have hl := lt_of_le' (upto_le (m := 16) (pop4_le b)) (show 4 < 2 ^ 4 by decide)
  have hl2 := lt_of_le' (upto_le (m := 16) (pop8a_le b)) (show 8 < 2 ^ 4 by decide)
  have hM : 1085102592571150095 = flds 4 (fun i => if i % 2 = 0 then 2 ^ 4 - 1 else 0) 16 := by decide +kernel
  have e1 := flds_shr (w := 4) (by decide) hl (m := 16) (fun i => upto_zero i) 1 (s := 4) rfl
  have e3 := flds_mask (w := 4) (by decide) hl2 (m := 8) rfl hM
  have e0 := flds_upto 4 (pop4 b) 16
  have e4 := flds_upto 4 (pop8a b) 16
  generalize flds 4 (upto 16 (pop4 b)) 16 = X at *
  generalize flds 4 (upto 16 (pop8a b)) 16 = Y at *
  generalize 1085102592571150095 = M at *
  rw [e0, e4]
  exact ⟨e1, e3⟩
theorem st4 (b : Nat → Bool) : (flds 8 (pop8 b) 8 >>> 8) = flds 8 (fun i => upto 8 (pop8 b) (i + 1)) 8 := by
  rw [flds_upto 8 (pop8 b) 8]
  exact flds_shr (w := 8) (by decide) (lt_of_le' (upto_le (m := 8) (pop8_le b)) (by decide)) (fun i => upto_zero i) 1 rfl
theorem st5 (b : Nat → Bool) : (flds 8 (pop16 b) 8 >>> 16) = flds 8 (fun i => upto 8 (pop16 b) (i + 2)) 8 := by
  rw [flds_upto 8 (pop16 b) 8]
  exact flds_shr (w := 8) (by decide) (lt_of_le' (upto_le (m := 8) (pop16_le b)) (by decide)) (fun i => upto_zero i) 2 rfl
theorem st6 (b : Nat → Bool) : (flds 8 (pop32 b) 8 >>> 32) = flds 8 (fun i => upto 8 (pop32 b) (i + 4)) 8 := by
  rw [flds_upto 8 (pop32 b) 8]
  exact flds_shr (w := 8) (by decide) (lt_of_le' (upto_le (m := 8) (pop32_le b)) (by decide)) (fun i => upto_zero i) 4 rfl
theorem st7 (b : Nat → Bool) : flds 8 (pop64 b) 8 &&& 127 = pop64 b 0 := by
  have h := pop64_le b 0
  rw [show (127 : Nat) = 2 ^ 7 - 1 by decide, Nat.and_two_pow_sub_one_eq_mod]
  simp only [flds]
  omega
theorem pop64_cnt (b : Nat → Bool) : pop64 b 0 = cnt b 64 := by
  simp only [pop64, pop32, pop16, pop8, pop8a, pop4, pop2, pop1, upto, cnt, Nat.reduceAdd, Nat.reduceMul, Nat.reduceLT, if_true]
  omega
end
section
open Go Go.RowKit
set_option linter.unusedVariables false
set_option linter.unusedSimpArgs false
set_option maxHeartbeats 2000000
set_option maxRecDepth 4000
attribute [local irreducible] mix

theorem addU {x y z : Nat} (h : x + y = z) (hz : z < 2 ^ 64) : IntKind.u64.wrap ((x : Int) + (y : Int)) = ((z : Nat) : Int) := by
  rw [← h] at hz ⊢
  exact (IntWalk.u64_in _ ⟨by omega, by omega⟩).trans (by omega)
theorem shr_lt {x : Nat} (h : x < 2 ^ 64) (k : Nat) : x >>> k < 2 ^ 64 := Nat.lt_of_le_of_lt (by rw [Nat.shiftRight_eq_div_pow]; exact Nat.div_le_self _ _) h
theorem add3 (b : Nat → Bool) : flds 4 (pop4 b) 16 >>> 4 + flds 4 (pop4 b) 16 = flds 4 (pop8a b) 16 := by
  rw [(st3 b).1]
  conv => lhs; rhs; rw [flds_upto 4 (pop4 b) 16]
  exact flds_add _ _ 16
theorem add4 (b : Nat → Bool) : flds 8 (pop8 b) 8 + flds 8 (pop8 b) 8 >>> 8 = flds 8 (pop16 b) 8 := by
  rw [st4 b]
  conv => lhs; lhs; rw [flds_upto 8 (pop8 b) 8]
  exact flds_add _ _ 8
theorem add5 (b : Nat → Bool) : flds 8 (pop16 b) 8 + flds 8 (pop16 b) 8 >>> 16 = flds 8 (pop32 b) 8 := by
  rw [st5 b]
  conv => lhs; lhs; rw [flds_upto 8 (pop16 b) 8]
  exact flds_add _ _ 8
theorem add6 (b : Nat → Bool) : flds 8 (pop32 b) 8 + flds 8 (pop32 b) 8 >>> 32 = flds 8 (pop64 b) 8 := by
  rw [st6 b]
  conv => lhs; lhs; rw [flds_upto 8 (pop32 b) 8]
  exact flds_add _ _ 8
theorem pop_top (b : Nat → Bool) : flds 8 (pop64 b) 8 < 9223372036854775808 := by
  have h := pop64_le b
  have h0 := h 0; have h1 := h 1; have h2 := h 2; have h3 := h 3; have h4 := h 4; have h5 := h 5; have h6 := h 6; have h7 := h 7
  simp only [flds]
  omega
theorem and127 {x : Nat} (h : x < 9223372036854775808) : IntKind.i64.wrap (BitVec.ofInt IntKind.i64.bits (x : Int) &&& BitVec.ofInt IntKind.i64.bits 127).toNat = ((x &&& 127 : Nat) : Int) := by
  have e : ∀ z : Nat, z < 2 ^ 64 → (BitVec.ofInt IntKind.i64.bits (z : Int)).toNat = z := fun z hz => by
    show (BitVec.ofInt 64 (z : Int)).toNat = z
    rw [BitVec.ofInt_natCast, BitVec.toNat_ofNat]
    exact Nat.mod_eq_of_lt hz
  rw [BitVec.toNat_and, e x (by omega), show (BitVec.ofInt IntKind.i64.bits 127).toNat = 127 from e 127 (by decide)]
  have h2 : x &&& 127 < 2 ^ 7 := Nat.and_lt_two_pow x (by decide)
  exact w64 (by omega)

theorem cnt_le (b : Nat → Bool) : ∀ m, cnt b m ≤ m
  | 0 => Nat.le_refl _
  | m + 1 => by have h := cnt_le b m; have h2 := Bool.toNat_le (b m); simp only [cnt]; omega
theorem cnt_halves (p : Nat → Bool) : cnt (fun i => p (63 - i)) 64 + cnt (fun i => p (127 - i)) 64 = cnt p 128 := by
  simp only [cnt, Nat.reduceSub]
  omega
end
section
open Go Go.RowKit
set_option linter.unusedVariables false
set_option linter.unusedSimpArgs false
set_option maxHeartbeats 2000000
set_option maxRecDepth 4000
attribute [local irreducible] mix

/-- a pixel plotted: clipped, or wrapped around a width w -/
def plotP (q : Nat → Bool) (at_ w : Nat) (clip : Bool) : Nat → Bool :=
  if at_ < w then setP q at_ true else if clip then q else setP q ((at_ : Int) - w) true
/-- the first pixels of a pattern -/
def sprK (bits count x w : Nat) (clip : Bool) : Nat → Nat → Bool
  | 0 => noneP
  | i + 1 => bif bits.testBit (count - 1 - i) then plotP (sprK bits count x w clip i) (x + i) w clip else sprK bits count x w clip i
theorem shr16 {x : Nat} (hx : x < 65536) (n : Nat) : ((x : Nat) : Int).fdiv (2 ^ (min ((n : Nat) : Int).toNat IntKind.u16.bits)) = ((x >>> n : Nat) : Int) := by
  have e : ((n : Nat) : Int).toNat = n := rfl
  have e2 : IntKind.u16.bits = 16 := rfl
  have hx : x < 2 ^ 16 := hx
  rw [e, e2]
  rw [Int.fdiv_eq_ediv_of_nonneg _ (Int.le_of_lt (Int.pow_pos (by decide)))]
  rw [show ((2 : Int) ^ min n 16) = ((2 ^ min n 16 : Nat) : Int) by simp, ← Int.natCast_ediv]
  congr 1
  rw [Nat.shiftRight_eq_div_pow]
  by_cases h : n ≤ 16
  · rw [Nat.min_eq_left h]
  · rw [Nat.min_eq_right (by omega), Nat.div_eq_of_lt hx, Nat.div_eq_of_lt (Nat.lt_of_lt_of_le hx (Nat.pow_le_pow_right (by decide) (by omega)))]
theorem and16 {x : Nat} (h : x < 65536) : IntKind.u16.wrap (BitVec.ofInt IntKind.u16.bits (x : Int) &&& BitVec.ofInt IntKind.u16.bits 1).toNat = ((x % 2 : Nat) : Int) := by
  have e : ∀ z : Nat, z < 65536 → (BitVec.ofInt IntKind.u16.bits (z : Int)).toNat = z := fun z hz => by
    show (BitVec.ofInt 16 (z : Int)).toNat = z
    rw [BitVec.ofInt_natCast, BitVec.toNat_ofNat]
    exact Nat.mod_eq_of_lt hz
  rw [BitVec.toNat_and, e x h, show (BitVec.ofInt IntKind.u16.bits 1).toNat = 1 from e 1 (by decide), Nat.and_one_is_mod]
  exact IntWalk.u16_in _ ⟨by omega, by omega⟩
theorem bit_dec (x k : Nat) : decide ((((x >>> k) % 2 : Nat) : Int) = 1) = x.testBit k := by
  rw [Nat.testBit_eq_decide_div_mod_eq, Nat.shiftRight_eq_div_pow]
  congr 1
  exact propext ⟨fun h => by omega, fun h => by omega⟩
theorem sh_le (x k : Nat) : x >>> k ≤ x := by rw [Nat.shiftRight_eq_div_pow]; exact Nat.div_le_self _ _


theorem plot06 (q : Nat → Bool) (at_ wd_ : Nat) (clip : Bool) (b1 b2 b3 : Nat) (n1 : b1 ≠ b2) (n3 : b3 ≠ b2) (ha : at_ < 4611686018427387904) (hwd : wd_ < 4611686018427387904) (w : World) (h1 : Rd w (some ⟨b1, 0, none⟩) [.int .i64 wd_]) (h3 : Rd w (some ⟨b3, 0, none⟩) [.bool clip])
    (hS : Sat w [b2] [.blk b2 (.cells (rowV q) 42 (0, 0))] w) :
    Calls Tryd.prog 69 #[.int .i64 at_, .pointer (some ⟨b1, 0, none⟩), .pointer (some ⟨b2, 0, none⟩), .pointer (some ⟨b3, 0, none⟩)] w fun e w' => e = .returned (.tuple #[]) ∧ Sat w [b2] [.blk b2 (.cells (rowV (plotP q at_ wd_ clip)) 42 (0, 0))] w' := by
  refine enterS Tryd.func69 rfl rfl rfl hS ?_
  refine r_block ?_
  refine r_seq ?_
  refine r_region ?_
  refine r_move rfl rfl ?_
  refine r_loadC rfl rfl rfl (fun w hw => (h1.keepS hw (by intro a ha; injection ha with ha; subst ha; simpa using n1)).cell (j := 0) rfl rfl) ?_
  refine r_lss rfl rfl rfl rfl ?_
  refine r_assign rfl rfl ?_
  refine r_nil ?_
  refine r_tn ?_
  refine r_cond rfl (fun hc => ?_) (fun hc => ?_)
  · refine r_region ?_
    refine r_loadV rfl rfl rfl rfl rfl ?_
    refine r_move rfl rfl ?_
    refine r_call rfl rfl rfl (by kernel_rfl) rfl (fun w hw => by exact rowSet q (at_ : Int) true w) ?_
    refine r_storeV rfl rfl rfl rfl rfl rfl ?_
    refine r_nil ?_
    refine r_bn ?_
    exact r_done0 (.inr rfl) rfl  fun w hw => ⟨rfl, by unfold plotP; rw [if_pos (show at_ < wd_ by have h := of_decide_eq_true hc; omega)]; exact hw⟩
  · refine r_seq ?_
    refine r_region ?_
    refine r_loadC rfl rfl rfl (fun w hw => (h3.keepS hw (by intro a ha; injection ha with ha; subst ha; simpa using n3)).cell (j := 0) rfl rfl) ?_
    refine r_not rfl rfl rfl ?_
    refine r_assign rfl rfl ?_
    refine r_nil ?_
    refine r_tn ?_
    have hc1 := hc
    refine r_cond rfl (fun hc => ?_) (fun hc => ?_)
    · refine r_region ?_
      refine r_loadV rfl rfl rfl rfl rfl ?_
      refine r_move rfl rfl ?_
      refine r_loadC rfl rfl rfl (fun w hw => (h1.keepS hw (by intro a ha; injection ha with ha; subst ha; simpa using n1)).cell (j := 0) rfl rfl) ?_
      refine r_sub rfl rfl rfl (w64 (by omega)) ?_
      refine r_call rfl rfl rfl (by kernel_rfl) rfl (fun w hw => by exact rowSet q ((at_ : Int) - wd_) true w) ?_
      refine r_storeV rfl rfl rfl rfl rfl rfl ?_
      refine r_nil ?_
      refine r_bn ?_
      exact r_done0 (.inr rfl) rfl  fun w hw => ⟨rfl, by unfold plotP; rw [if_neg (show ¬ at_ < wd_ by have h := of_decide_eq_false hc1; omega), if_neg (by simpa using hc)]; exact hw⟩
    · refine r_skip ?_
      refine r_bn ?_
      exact r_done0 (.inr rfl) rfl  fun w hw => ⟨rfl, by unfold plotP; rw [if_neg (show ¬ at_ < wd_ by have h := of_decide_eq_false hc1; omega), if_pos (by simpa using hc)]; exact hw⟩

theorem rowSprite (bits count x wd_ : Nat) (clip : Bool) (w : World) (hb : bits < 65536) (hcn : count ≤ 64) (hx : x < 2305843009213693952) (hwd : wd_ ≤ 128) :
    Calls Tryd.prog 63 #[.int .u16 (bits : Int), .int .i64 (count : Int), .int .i64 (x : Int), .int .i64 (wd_ : Int), .bool clip] w fun e w' => e = .returned (.agg (rowV (sprK bits count x wd_ clip count))) ∧ Sat w [] [] w' := by
  refine enter Tryd.func63 rfl rfl rfl ?_
  refine r_seq ?_
  refine r_region ?_
  refine r_box1 rfl rfl rfl fun b8 => ?_
  refine r_box1 rfl rfl rfl fun b9 => ?_
  refine r_allocV (cs := #[.int .u64 0, .int .u64 0]) rfl rfl fun b10 => ?_
  refine r_nil ?_
  refine r_tn ?_
  refine r_seq ?_
  refine r_region ?_
  refine r_allocV (cs := rowV (sprK bits count x wd_ clip 0)) rfl rfl fun b11 => ?_
  refine r_nil ?_
  refine r_tn ?_
  refine r_seq ?_
  refine r_region ?_
  refine r_makeFunc rfl rfl rfl ?_
  refine r_assign rfl rfl ?_
  refine r_nil ?_
  refine r_tn ?_
  refine r_seq ?_
  refine r_seq ?_
  refine r_region ?_
  refine r_move rfl rfl ?_
  refine r_move rfl rfl ?_
  refine r_nil ?_
  refine r_tn ?_
  refine r_block ?_
  refine r_loopN (fun i => [(0, .int .u16 (bits : Int)), (1, .int .i64 (count : Int)), (2, .int .i64 (x : Int)), (10, .pointer (some ⟨b10, 0, none⟩)), (11, .pointer (some ⟨b11, 0, none⟩)), (12, .func (.func 69) #[] #[.pointer (some ⟨b8, 0, none⟩), .pointer (some ⟨b11, 0, none⟩), .pointer (some ⟨b9, 0, none⟩)]), (15, .int .i64 (count : Int)), (16, .int .i64 (i : Int))]) (fun i => [.blk b8 (.cells #[.int .i64 wd_] 3 (0, 0)), .blk b9 (.cells #[.bool clip] 4 (0, 0)), .blk b10 (.cells #[.int .u64 0, .int .u64 0] 42 (0, 0)), .blk b11 (.cells (rowV (sprK bits count x wd_ clip i)) 42 (0, 0))]) (fun i => i ≤ count) count 0 (by omega) ⟨rfl, rfl, rfl, rfl, rfl, rfl, rfl, rfl, trivial⟩ (fun w hw => hw.sub) fun i hi => ?_
  refine r_seq ?_
  refine r_region ?_
  refine r_lss rfl rfl rfl rfl ?_
  refine r_nil ?_
  refine r_tn ?_
  refine r_seq ?_
  refine r_cond rfl (fun hc => ?_) (fun hc => ?_)
  · refine r_skip ?_
    refine r_tn ?_
    refine r_seq ?_
    refine r_block ?_
    refine r_seq ?_
    refine r_region ?_
    have hi2 : i < count := by have h := of_decide_eq_true hc; omega
    refine r_move rfl rfl ?_
    refine r_assign rfl rfl ?_
    refine r_nil ?_
    refine r_tn ?_
    refine r_seq ?_
    refine r_region ?_
    refine r_move rfl rfl ?_
    refine r_move rfl rfl ?_
    refine r_sub rfl rfl rfl (w64 (by omega)) ?_
    refine r_move rfl rfl ?_
    refine r_sub rfl rfl rfl (w64 (by omega)) ?_
    refine r_convert (r := ((count - 1 - i : Nat) : Int)) rfl rfl rfl rfl ((IntWalk.u64_in _ ⟨by omega, by omega⟩).trans (by omega)) ?_
    refine r_shr (r := ((bits >>> (count - 1 - i) : Nat) : Int)) rfl rfl rfl (by omega) (shr16 hb _) ?_
    refine r_and rfl rfl rfl (and16 (Nat.lt_of_le_of_lt (sh_le _ _) hb)) ?_
    refine r_eql rfl rfl rfl (bit_dec bits (count - 1 - i)) ?_
    refine r_nil ?_
    refine r_tn ?_
    refine r_cond rfl (fun hc => ?_) (fun hc => ?_)
    · refine r_region ?_
      refine r_move rfl rfl ?_
      refine r_move rfl rfl ?_
      refine r_move rfl rfl ?_
      refine r_add (r := ((x + i : Nat) : Int)) rfl rfl rfl ((w64 (by omega)).trans (by omega)) ?_
      refine r_callbw0 (b := b11) rfl rfl rfl (by kernel_rfl) rfl (fun w hw hs => by exact plot06 (sprK bits count x wd_ clip i) (x + i) wd_ clip b8 b11 b9 (Sat.ne (b1 := b8) (b2 := b11) hw) (Sat.ne (b1 := b9) (b2 := b11) hw) (by omega) (by omega) w (Rd.blk (hw.look (HasBlk.pick (b := b8))) (fun j u h => by simpa using h)) (Rd.blk (hw.look (HasBlk.pick (b := b9))) (fun j u h => by simpa using h)) hs) ?_
      refine r_nil ?_
      refine r_bn ?_
      refine r_tn ?_
      refine r_region ?_
      refine r_add rfl rfl rfl (w64 (by omega)) ?_
      refine r_move rfl rfl ?_
      refine r_nil ?_
      refine r_tn ?_
      exact r_againN (i + 1) (by omega) (by omega) ⟨rfl, rfl, rfl, rfl, rfl, rfl, rfl, rfl, trivial⟩ (fun w hw => by have e : sprK bits count x wd_ clip (i + 1) = _ := rfl; simp only [sprK, hc, cond_true, cond_false]; exact hw.sub)
    · refine r_skip ?_
      refine r_bn ?_
      refine r_tn ?_
      refine r_region ?_
      refine r_add rfl rfl rfl (w64 (by omega)) ?_
      refine r_move rfl rfl ?_
      refine r_nil ?_
      refine r_tn ?_
      exact r_againN (i + 1) (by omega) (by omega) ⟨rfl, rfl, rfl, rfl, rfl, rfl, rfl, rfl, trivial⟩ (fun w hw => by have e : sprK bits count x wd_ clip (i + 1) = _ := rfl; simp only [sprK, hc, cond_true, cond_false]; exact hw.sub)
  · refine r_exit ?_
    refine r_te ?_
    refine r_te ?_
    refine r_be ?_
    refine r_tn ?_
    refine r_seq ?_
    refine r_region ?_
    refine r_loadV rfl rfl rfl rfl rfl ?_
    refine r_storeV rfl rfl rfl rfl rfl rfl ?_
    refine r_nil ?_
    refine r_tn ?_
    refine r_ret ?_
    have hi2 : i = count := by have h := of_decide_eq_false hc; omega
    subst hi2
    exact r_done1 (.inl rfl) rfl (res_cellV rfl rfl rfl rfl) fun w hw => ⟨rfl, hw.clear⟩
end
end Go.Proofs.YtdkgnnieehidbaaDoor
