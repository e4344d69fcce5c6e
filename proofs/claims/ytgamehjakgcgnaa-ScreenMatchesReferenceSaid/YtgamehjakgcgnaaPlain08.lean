/-
  Screens (chapter 08): what becomes of the planes.
-/
import Derived.Test.YtgamehjakgcgnaaDo08
namespace Go.Proofs.Ytgamehjakgcgnaa
open Go Go.RowKit
set_option linter.unusedVariables false
set_option linter.unusedSimpArgs false
set_option maxHeartbeats 2000000
set_option maxRecDepth 4000
attribute [local irreducible] mix

theorem selK_idx {m k : Nat} (hk : k ≤ 4) : ∀ x ∈ selK m k, x.val < k ∧ m.testBit x.val = true := by
  induction k with
  | zero => intro x hx; cases hx
  | succ k ih =>
    intro x hx
    cases hb : m.testBit k with
    | false =>
      rw [selK_no (by omega) hb] at hx
      have h := ih (by omega) x hx
      exact ⟨by omega, h.2⟩
    | true =>
      rw [selK_yes (by omega) hb] at hx
      rcases List.mem_append.1 hx with hx | hx
      · have h := ih (by omega) x hx
        exact ⟨by omega, h.2⟩
      · rw [List.mem_singleton.1 hx]
        exact ⟨by show k < k + 1; omega, hb⟩
/-- what the selected planes become -/
theorem stP_at (ff : Nat → (Nat → Nat → Bool) → (Nat → Nat → Bool)) (P : Nat → Nat → Nat → Bool) (m : Nat) : ∀ (k : Nat), k ≤ 4 → ∀ i, (stP ff P (selK m k)).1 i = if i < k ∧ m.testBit i = true then ff (selK m i).length (P i) else P i
  | 0, _, i => by
    rw [if_neg (by omega)]; rfl
  | k + 1, hk, i => by
    have ih := stP_at ff P m k (by omega)
    cases hb : m.testBit k with
    | false =>
      rw [selK_no (by omega) hb, ih i]
      by_cases h : i < k ∧ m.testBit i = true
      · rw [if_pos h, if_pos ⟨by omega, h.2⟩]
      · rw [if_neg h, if_neg fun h2 => h ⟨Nat.lt_of_le_of_ne (by omega) (fun e => by rw [e, hb] at h2; cases h2.2), h2.2⟩]
    | true =>
      rw [selK_yes (by omega) hb, stP_snoc]
      unfold setPl
      by_cases he : i = k
      · subst he
        rw [if_pos rfl, if_pos ⟨by omega, hb⟩]
        show ff _ ((stP ff P (selK m i)).1 i) = _
        rw [ih i, if_neg (by omega)]
      · rw [if_neg he, ih i]
        by_cases h : i < k ∧ m.testBit i = true
        · rw [if_pos h, if_pos ⟨by omega, h.2⟩]
        · rw [if_neg h, if_neg fun h2 => h ⟨by omega, h2.2⟩]
theorem stP_sel (ff : Nat → (Nat → Nat → Bool) → (Nat → Nat → Bool)) (P : Nat → Nat → Nat → Bool) (m i : Nat) : (stP ff P (sel m)).1 i = if i < 4 ∧ m.testBit i = true then ff (selK m i).length (P i) else P i := stP_at ff P m 4 (Nat.le_refl 4) i
theorem stH_yes (ff : Nat → (Nat → Nat → Bool) → (Nat → Nat → Bool)) (hh : Nat → (Nat → Nat → Bool) → Bool) (P : Nat → Nat → Nat → Bool) {m k : Nat} (hk : k < 4) (hb : m.testBit k = true) : stH ff hh P (selK m (k + 1)) = (stH ff hh P (selK m k) || hh (selK m k).length (P k)) := by
  rw [selK_yes hk hb, stH_snoc]
  show (_ || hh _ ((stP ff P (selK m k)).1 k)) = _
  rw [stP_at ff P m k (by omega) k, if_neg (by omega)]
theorem doS_keeps {s : Scr} {t : StepD} (h0 : t.kind ≠ 0) (h2 : t.kind ≠ 2) : (doS s t).1.mask = s.mask ∧ (doS s t).1.hires = s.hires ∧ ∀ i, s.mask.testBit i = false → (doS s t).1.P i = s.P i := by
  unfold doS
  rw [if_neg h0]
  split
  · refine ⟨rfl, rfl, fun i hi => ?_⟩
    show (stP _ s.P (sel s.mask)).1 i = _
    rw [stP_sel, if_neg (by rw [hi]; simp)]
  · split
    · refine ⟨rfl, rfl, fun i hi => ?_⟩
      show (stP _ s.P (sel s.mask)).1 i = _
      rw [stP_sel, if_neg (by rw [hi]; simp)]
    · refine ⟨rfl, rfl, fun i hi => ?_⟩
      unfold drwP
      show (stP _ s.P (sel s.mask)).1 i = _
      rw [stP_sel, if_neg (by rw [hi]; simp)]
theorem onN08 (s : Scr) (x y : Int) (i : Nat) (hi : i < 4) (w : World) : Calls Try.prog 16 #[.int .i64 ((num (fun i => pixQ (s.P i) x y) 4 : Nat) : Int), .int .i64 (i : Int)] w fun e w' => e = .returned (.bool (pixQ (s.P i) x y)) ∧ Sat w [] [] w' := by
  have h := on08 (num (fun i => pixQ (s.P i) x y) 4) i (num_lt _ 4) (by omega) w
  rw [num_bit, show (decide (i < 4) && pixQ (s.P i) x y) = pixQ (s.P i) x y by rw [decide_eq_true hi]; rfl] at h
  exact h
theorem newN08 (w : World) : Calls Try.prog 9 #[] w fun e w' => e = .returned (.agg (scrV scr1)) ∧ Sat w [] [] w' := new08 w
theorem wfu8' {z : Int} (h : (Lit.int .u8 z).wf = true) : 0 ≤ z ∧ z ≤ 255 := by
  simp only [Lit.wf, Bool.and_eq_true, decide_eq_true_eq] at h
  rwa [show IntKind.u8.min = 0 from by rfl, show IntKind.u8.max = 255 from by rfl] at h

attribute [local irreducible] scrV stP planeV stH sprD drwP drwH scrA scrB fillL doS
end Go.Proofs.Ytgamehjakgcgnaa
