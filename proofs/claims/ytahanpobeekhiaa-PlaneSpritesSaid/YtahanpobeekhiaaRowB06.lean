/-
  Rows of pixels (chapter 06), further.
-/
import Derived.Test.YtahanpobeekhiaaRow06
namespace Go.Proofs.Ytahanpobeekhiaa
open Go Go.RowKit
set_option linter.unusedVariables false
set_option linter.unusedSimpArgs false
set_option maxHeartbeats 2000000

theorem rowIn (x : Int) (w : World) :
    Calls Try.prog 46 #[.int .i64 x] w fun e w' => e = .returned (.bool (decide (0 ≤ x) && decide (x < 128))) ∧ Sat w [] [] w' := by
  refine enter Try.func46 rfl rfl rfl ?_
  refine r_seq ?_
  refine r_region ?_
  refine r_assign rfl rfl ?_
  refine r_nil ?_
  refine r_tn ?_
  refine r_seq ?_
  refine r_region ?_
  refine r_move rfl rfl ?_
  refine r_geq rfl rfl rfl rfl ?_
  refine r_move rfl rfl ?_
  refine r_split 5 rfl (fun hb5 => ?_) (fun hb5 => ?_)
  · refine r_go rfl rfl ?_
    refine r_move rfl rfl ?_
    refine r_go rfl rfl ?_
    refine r_lss rfl rfl rfl rfl ?_
    refine r_pick_t rfl rfl rfl ?_
    refine r_assign rfl rfl ?_
    refine r_nil ?_
    refine r_tn ?_
    refine r_ret ?_
    exact r_done1 (.inl rfl) rfl (res_tmp rfl) fun w hw => ⟨by congr 2; simp_all <;> omega, hw.clear⟩
  · refine r_pass rfl rfl rfl rfl ?_
    refine r_pass rfl rfl rfl rfl ?_
    refine r_pick_f rfl rfl rfl ?_
    refine r_assign rfl rfl ?_
    refine r_nil ?_
    refine r_tn ?_
    refine r_ret ?_
    exact r_done1 (.inl rfl) rfl (res_tmp rfl) fun w hw => ⟨by congr 2; simp_all <;> omega, hw.clear⟩

theorem rowFlat : flatT Try.prog 27 [.i .u64, .i .u64] := ⟨by kernel_rfl, by kernel_rfl, by kernel_rfl⟩
theorem rowV_ok (p : Nat → Bool) : cellsOk [.i .u64, .i .u64] (rowV p).toList = true := rfl
def noneP : Nat → Bool := fun _ => false
theorem rowV_none : rowV noneP = #[.int .u64 0, .int .u64 0] := by rfl


theorem rowV_inj {p q : Nat → Bool} (h : rowV p = rowV q) : ∀ x, x < 128 → p x = q x := by
  have h1 : hiN p = hiN q ∧ loN p = loN q := by
    simp only [rowV] at h
    injection h with h
    injection h with h2 h3
    injection h3 with h3 _
    injection h2 with _ h2
    injection h3 with _ h3
    exact ⟨Int.ofNat.inj h2, Int.ofNat.inj h3⟩
  intro x hx
  by_cases h64 : x < 64
  · have e : ∀ r : Nat → Bool, r x = (hiN r).testBit (63 - x) := fun r => by
      unfold hiN; rw [num_bit, show 63 - (63 - x) = x by omega]; simp; omega
    rw [e p, e q, h1.1]
  · have e : ∀ r : Nat → Bool, r x = (loN r).testBit (127 - x) := fun r => by
      unfold loN; rw [num_bit, show 127 - (127 - x) = x by omega]; simp; omega
    rw [e p, e q, h1.2]


def emptyB (p : Nat → Bool) : Bool := (List.range 128).all fun x => !p x
theorem emptyB_iff (p : Nat → Bool) : emptyB p = true ↔ ∀ x, x < 128 → p x = false := by
  simp [emptyB, List.all_eq_true]
def eqB (p q : Nat → Bool) : Bool := (List.range 128).all fun x => p x == q x
theorem eqB_iff (p q : Nat → Bool) : eqB p q = true ↔ ∀ x, x < 128 → p x = q x := by
  simp [eqB, List.all_eq_true]
theorem row_eq (p q : Nat → Bool) : cellsEq (rowV p).toList (rowV q).toList = eqB p q := by
  cases hq : eqB p q with
  | true =>
    rw [rowV_congr ((eqB_iff p q).1 hq)]
    exact cellsEq_self (rowV_ok q)
  | false =>
    cases he : cellsEq (rowV p).toList (rowV q).toList with
    | false => rfl
    | true =>
      have h := (eqB_iff p q).2 (rowV_inj (Array.ext' (cellsEq_eq (rowV_ok p) (rowV_ok q) he)))
      rw [hq] at h; cases h


theorem rowEmpty (p : Nat → Bool) (w : World) :
    Calls Try.prog 25 #[.agg (rowV p)] w fun e w' => e = .returned (.bool (eqB p noneP)) ∧ Sat w [] [] w' := by
  refine enter Try.func25 rfl rfl rfl ?_
  refine r_seq ?_
  refine r_region ?_
  refine r_boxV rfl rfl fun b1 => ?_
  refine r_assign rfl rfl ?_
  refine r_nil ?_
  refine r_tn ?_
  refine r_seq ?_
  refine r_region ?_
  refine r_loadV rfl rfl rfl rfl rfl ?_
  refine r_build (cells := rowV noneP) rfl rfl (by kernel_rfl) ?_
  refine r_eqlAgg rfl rfl rfl rowFlat (rowV_ok p) (rowV_ok noneP) (row_eq p noneP) ?_
  refine r_assign rfl rfl ?_
  refine r_nil ?_
  refine r_tn ?_
  refine r_ret ?_
  exact r_done1 (.inl rfl) rfl (res_tmp rfl) fun w hw => ⟨rfl, hw.clear⟩

theorem num_one {k m : Nat} (h : k < m) : num (fun i => i == k) m = 2 ^ k := by
  symm
  refine num_ext (Nat.pow_lt_pow_right (by decide) h) fun i hi => ?_
  rw [Nat.testBit_two_pow]
  by_cases e : k = i
  · subst e; simp
  · simp [e, Ne.symm e]

end Go.Proofs.Ytahanpobeekhiaa
