/-
  Rendering (chapter 24): plain laws of records.
-/
import Derived.Test.YtdkgnnieehidbaaDoorOf23
namespace Go.Proofs.YtdkgnnieehidbaaDoor
open Go Go.RowKit
set_option linter.unusedVariables false
set_option linter.unusedSimpArgs false
set_option maxHeartbeats 2000000
set_option maxRecDepth 4000
attribute [local irreducible] mix
theorem fitsB_iff (P : Nat → Nat → Bool) (hires : Bool) : fitsB P hires = true ↔ ∀ y, y < 64 → ∀ x, x < 128 → P y x = true → x < wd hires ∧ y < ht hires := by
  unfold fitsB
  rw [eqQ_iff]
  constructor
  · intro h y hy x hx hp
    have h2 := h y hy x hx
    rw [hp] at h2
    unfold scrollQ partQ scrollRow at h2
    by_cases c1 : y < ht hires
    · rw [if_pos c1, if_pos (by omega)] at h2
      unfold shiftP at h2
      rw [Bool.and_eq_true] at h2
      exact ⟨of_decide_eq_true h2.1, c1⟩
    · rw [if_neg c1] at h2
      have h3 : false = true := h2
      cases h3
  · intro h y hy x hx
    unfold scrollQ partQ scrollRow
    by_cases c1 : y < ht hires
    · rw [if_pos c1, if_pos (by omega)]
      unfold shiftP
      rw [show ((y : Int) - 0).toNat = y by omega, show ((x : Int) - 0).toNat = x by omega, decide_eq_true (show (0 : Int) ≤ (x : Int) - 0 by omega), decide_eq_true (show (x : Int) - 0 < 128 by omega)]
      rw [Bool.true_and, Bool.true_and]
      cases hp : P y x with
      | false => rw [Bool.and_false]
      | true => rw [decide_eq_true (h y hy x hx hp).1]; rfl
    · rw [if_neg c1]
      cases hp : P y x with
      | false => rfl
      | true => exact absurd (h y hy x hx hp).2 c1
theorem fitsK_no (P : Nat → Nat → Nat → Bool) (hires : Bool) {k : Nat} (h : fitsB (P k) hires = false) : ∀ m, k < m → fitsK P hires m = false
  | 0, hk => by omega
  | m + 1, hk => by
    simp only [fitsK]
    by_cases e : k = m
    · subst e; rw [h, Bool.and_false]
    · rw [fitsK_no P hires h m (by omega)]; rfl
theorem valid_no (r : Rec) {k : Nat} (hk : k < 4) (h : fitsB (r.P k) r.hires = false) : validR r = false := by
  unfold validR; rw [fitsK_no r.P r.hires h 4 hk]; rfl
end Go.Proofs.YtdkgnnieehidbaaDoor
