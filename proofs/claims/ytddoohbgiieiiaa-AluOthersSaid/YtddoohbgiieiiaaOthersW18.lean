/-
  AluOthers, for every instruction.
-/
import Derived.Test.YtddoohbgiieiiaaOthers18
namespace Go.Proofs.Ytddoohbgiieiiaa
open Go Go.RowKit
set_option linter.unusedVariables false
set_option linter.unusedSimpArgs false
set_option maxHeartbeats 2000000

theorem outM_8 (x y nn s : Int) (r : Bool) : outM 8 x y nn s r = some (nn, -1) := rfl

theorem outM_9 (x y nn s : Int) (r : Bool) : outM 9 x y nn s r = some (x + nn, -1) := rfl

theorem outM_10 (x y nn s : Int) (r : Bool) : outM 10 x y nn s r = some (y, -1) := rfl

theorem outM_11 (x y nn s : Int) (r : Bool) : outM 11 x y nn s r = some (((x.toNat ||| y.toNat : Nat) : Int), logF r) := rfl

theorem outM_12 (x y nn s : Int) (r : Bool) : outM 12 x y nn s r = some (((x.toNat &&& y.toNat : Nat) : Int), logF r) := rfl

theorem outM_13 (x y nn s : Int) (r : Bool) : outM 13 x y nn s r = some (((x.toNat ^^^ y.toNat : Nat) : Int), logF r) := rfl

theorem outM_14 (x y nn s : Int) (r : Bool) : outM 14 x y nn s r = some (x + y, if decide (255 < x + y) then 1 else 0) := rfl

theorem outM_15 (x y nn s : Int) (r : Bool) : outM 15 x y nn s r = some (x - y, if decide (y ≤ x) then 1 else 0) := rfl

theorem outM_16 (x y nn s : Int) (r : Bool) : outM 16 x y nn s r = some (s / 2, if decide (s % 2 = 1) then 1 else 0) := rfl

theorem outM_17 (x y nn s : Int) (r : Bool) : outM 17 x y nn s r = some (y - x, if decide (x ≤ y) then 1 else 0) := rfl

theorem outM_18 (x y nn s : Int) (r : Bool) : outM 18 x y nn s r = some (2 * s, if decide (128 ≤ s) then 1 else 0) := rfl

theorem bool_rng (b : Bool) : 0 ≤ (if b = true then (1 : Int) else 0) ∧ (if b = true then (1 : Int) else 0) ≤ 1 := by cases b <;> decide
theorem right_rng2 {X Y NN : Int} (h : rightM X Y NN = true) : (0 ≤ X ∧ X ≤ 15) ∧ (0 ≤ Y ∧ Y ≤ 15) ∧ (0 ≤ NN ∧ NN ≤ 255) := by
  simp only [rightM, Bool.and_eq_true, decide_eq_true_eq] at h
  omega
theorem AluOthers_walk (l : List Int) (op X Y N NN Ad Ln lv : Int) (a b c r d e f : Bool) (W : World) (hl : l.length = 16) (hw : l.all (fun x => decide (0 ≤ x) && decide (x ≤ 255)) = true) (_ : (Lit.int .i64 op).wf = true) (_ : (Lit.int .i64 X).wf = true) (_ : (Lit.int .i64 Y).wf = true) (_ : (Lit.int .i64 N).wf = true) (_ : (Lit.int .i64 NN).wf = true) (_ : (Lit.int .i64 Ad).wf = true) (_ : (Lit.int .i64 Ln).wf = true) (_ : (Lit.int .i64 lv).wf = true) :
    Calls Try.prog 5 #[.agg (fl l), .agg (ins op X Y N NN Ad Ln), .agg (pro lv a b c r d e f)] W fun e w' => e = .returned (.bool true) ∧ Sat W [] [] w' := by
  by_cases hF : rightM X Y NN = false
  · exact AluOthers_no l op X Y N NN Ad Ln lv a b c r d e f W hl hF
  have hR : rightM X Y NN = true := by simpa using hF
  obtain ⟨hX, hY, hN⟩ := right_rng2 hR
  have hr := getD_rng hw
  by_cases hop : op = 8
  · subst hop
    exact AluOthers_8 l X Y N NN Ad Ln lv a b c r d e f _ _ W hl hX hR (rfl) (fun w => do18 l 8 X Y N NN Ad Ln lv a b c r d e f hl hr hX hY hN (outM_8 _ _ _ _ _) w)
  by_cases hop : op = 9
  · subst hop
    exact AluOthers_9 l X Y N NN Ad Ln lv a b c r d e f _ _ W hl hX hR (rfl) (fun w => do18 l 9 X Y N NN Ad Ln lv a b c r d e f hl hr hX hY hN (outM_9 _ _ _ _ _) w)
  by_cases hop : op = 10
  · subst hop
    exact AluOthers_10 l X Y N NN Ad Ln lv a b c r d e f _ _ W hl hX hR (rfl) (fun w => do18 l 10 X Y N NN Ad Ln lv a b c r d e f hl hr hX hY hN (outM_10 _ _ _ _ _) w)
  by_cases hop : op = 11
  · subst hop
    cases r
    · exact AluOthers_11k l X Y N NN Ad Ln lv a b c d e f _ (-1) W hl hX hR rfl (fun w => do18 l 11 X Y N NN Ad Ln lv a b c false d e f hl hr hX hY hN (outM_11 _ _ _ _ _) w)
    · exact AluOthers_11r l X Y N NN Ad Ln lv a b c d e f _ 0 W hl hX hR rfl (fun w => do18 l 11 X Y N NN Ad Ln lv a b c true d e f hl hr hX hY hN (outM_11 _ _ _ _ _) w)
  by_cases hop : op = 12
  · subst hop
    cases r
    · exact AluOthers_12k l X Y N NN Ad Ln lv a b c d e f _ (-1) W hl hX hR rfl (fun w => do18 l 12 X Y N NN Ad Ln lv a b c false d e f hl hr hX hY hN (outM_12 _ _ _ _ _) w)
    · exact AluOthers_12r l X Y N NN Ad Ln lv a b c d e f _ 0 W hl hX hR rfl (fun w => do18 l 12 X Y N NN Ad Ln lv a b c true d e f hl hr hX hY hN (outM_12 _ _ _ _ _) w)
  by_cases hop : op = 13
  · subst hop
    cases r
    · exact AluOthers_13k l X Y N NN Ad Ln lv a b c d e f _ (-1) W hl hX hR rfl (fun w => do18 l 13 X Y N NN Ad Ln lv a b c false d e f hl hr hX hY hN (outM_13 _ _ _ _ _) w)
    · exact AluOthers_13r l X Y N NN Ad Ln lv a b c d e f _ 0 W hl hX hR rfl (fun w => do18 l 13 X Y N NN Ad Ln lv a b c true d e f hl hr hX hY hN (outM_13 _ _ _ _ _) w)
  by_cases hop : op = 14
  · subst hop
    exact AluOthers_14 l X Y N NN Ad Ln lv a b c r d e f _ _ W hl hX hR (bool_rng _) (fun w => do18 l 14 X Y N NN Ad Ln lv a b c r d e f hl hr hX hY hN (outM_14 _ _ _ _ _) w)
  by_cases hop : op = 15
  · subst hop
    exact AluOthers_15 l X Y N NN Ad Ln lv a b c r d e f _ _ W hl hX hR (bool_rng _) (fun w => do18 l 15 X Y N NN Ad Ln lv a b c r d e f hl hr hX hY hN (outM_15 _ _ _ _ _) w)
  by_cases hop : op = 16
  · subst hop
    exact AluOthers_16 l X Y N NN Ad Ln lv a b c r d e f _ _ W hl hX hR (bool_rng _) (fun w => do18 l 16 X Y N NN Ad Ln lv a b c r d e f hl hr hX hY hN (outM_16 _ _ _ _ _) w)
  by_cases hop : op = 17
  · subst hop
    exact AluOthers_17 l X Y N NN Ad Ln lv a b c r d e f _ _ W hl hX hR (bool_rng _) (fun w => do18 l 17 X Y N NN Ad Ln lv a b c r d e f hl hr hX hY hN (outM_17 _ _ _ _ _) w)
  by_cases hop : op = 18
  · subst hop
    exact AluOthers_18 l X Y N NN Ad Ln lv a b c r d e f _ _ W hl hX hR (bool_rng _) (fun w => do18 l 18 X Y N NN Ad Ln lv a b c r d e f hl hr hX hY hN (outM_18 _ _ _ _ _) w)
  have h : outM op (l.getD X.toNat 0) (l.getD Y.toNat 0) NN 0 r = none := by simp_all [outM]
  exact AluOthers_out l op X Y N NN Ad Ln lv a b c r d e f 0 0 W hl hX hR (fun w => do_none l op X Y N NN Ad Ln lv a b c r d e f hl h w)
end Go.Proofs.Ytddoohbgiieiiaa
