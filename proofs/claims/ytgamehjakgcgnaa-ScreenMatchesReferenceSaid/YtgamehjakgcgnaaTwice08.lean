/-
  Screens (chapter 08): drawing twice, drawing on no plane.
-/
import Derived.Test.YtgamehjakgcgnaaPlain08
namespace Go.Proofs.Ytgamehjakgcgnaa
open Go Go.RowKit
set_option linter.unusedVariables false
set_option linter.unusedSimpArgs false
set_option maxHeartbeats 2000000
set_option maxRecDepth 4000
attribute [local irreducible] mix

theorem need_le {m n : Nat} (hn : n ≤ 32) (big : Bool) : (sel m).length * perN n big ≤ 128 := Nat.mul_le_mul (selK_len m 4) (perN_le hn big)
theorem drwP_mask (s : Scr) (x y n : Nat) (big clip : Bool) (d : List Int) : (drwP s x y n big clip d).mask = s.mask := rfl
theorem drwP_hires (s : Scr) (x y n : Nat) (big clip : Bool) (d : List Int) : (drwP s x y n big clip d).hires = s.hires := rfl
theorem drwP_P (s : Scr) (x y n : Nat) (big clip : Bool) (d : List Int) : (drwP s x y n big clip d).P = (stP (ffD s.hires x y n big clip d) s.P (sel s.mask)).1 := rfl
theorem scr_ext {s t : Scr} (h1 : ∀ i, s.P i = t.P i) (h2 : s.hires = t.hires) (h3 : s.mask = t.mask) : s = t := by
  cases s; cases t
  have h : _ = _ := funext h1
  cases h; cases h2; cases h3; rfl
theorem xorQ_twice (P Q : Nat → Nat → Bool) : xorQ (xorQ P Q) Q = P := by
  funext y x
  unfold xorQ
  cases P y x <;> cases Q y x <;> rfl
theorem drwP_twice (s : Scr) (x y n : Nat) (big clip : Bool) (d : List Int) : drwP (drwP s x y n big clip d) x y n big clip d = s := by
  refine scr_ext (fun i => ?_) rfl rfl
  rw [drwP_P, drwP_P, drwP_hires, drwP_mask, stP_sel, stP_sel]
  by_cases h : i < 4 ∧ s.mask.testBit i = true
  · rw [if_pos h, if_pos h]
    exact xorQ_twice _ _
  · rw [if_neg h, if_neg h]
theorem sel_zero : sel 0 = [] := by decide
theorem drwP_none (s : Scr) (x y n : Nat) (big clip : Bool) (d : List Int) : drwP ⟨s.P, s.hires, 0⟩ x y n big clip d = ⟨s.P, s.hires, 0⟩ := by
  show (⟨(stP _ s.P (sel 0)).1, s.hires, 0⟩ : Scr) = _
  rw [sel_zero]; rfl
theorem drwH_none (s : Scr) (x y n : Nat) (big clip : Bool) (d : List Int) : drwH ⟨s.P, s.hires, 0⟩ x y n big clip d = false := by
  show stH _ _ s.P (sel 0) = false
  rw [sel_zero]; rfl
theorem drawN08 (s : Scr) (x y n : Nat) (hn : n < 16) (big clip : Bool) (w : World) : Calls Try.prog 20 #[.agg (scrV ⟨s.P, s.hires, 0⟩), .int .i64 (x : Int), .int .i64 (y : Int), .int .i64 (n : Int), .bool big, .bool clip, .slice none 0 0] w fun e w' => e = .returned (.tuple #[.agg (scrV ⟨s.P, s.hires, 0⟩), .bool false]) ∧ Sat w [] [] w' := by
  have e : (sel 0).length * perN n big = 0 := Nat.zero_mul _
  have h := drawF08 ⟨s.P, s.hires, 0⟩ (by show 0 < 16; decide) x y n hn big clip none 0 [] e.symm (Nat.le_refl 0) (fun z hz => (by cases hz)) w (Rd.nil _ _)
  rw [show (Scr.mk s.P s.hires 0).mask = 0 from rfl, e, drwP_none, drwH_none] at h
  exact h

end Go.Proofs.Ytgamehjakgcgnaa
