/-
  AluOthers returns true, for all registers, instructions and profiles: the other registers stay as they were.
-/
import Derived.Test.YtddoohbgiieiiaaRows
import Derived.Test.YtddoohbgiieiiaaFlat
import Derived.Test.YtddoohbgiieiiaaOthersW18
import Derived.WalkKit
import Derived.ProofKit
import Derived.OpenShut
import Derived.ShutString
import Derived.ChangeOld
import Derived.Below
import Derived.SizedLaws
namespace Go.Proofs.Ytddoohbgiieiiaa.aluOthers
open Go Go.ChangeShapes Go.WideShapes Go.ChangeAt Go.RowKit
open Go.ChangeMaps (open_string shut_string)
set_option linter.unusedVariables false
theorem own : ownKnob Try.prog.godebug = none := by kernel_rfl
theorem laidOut : laidOutB Try.prog = true := by kernel_rfl
set_option maxRecDepth 100000 in
theorem lifted (os : Os) (started : os.Started) (H : Type) (enc : TypeId × Value → H) :
    ReturnsInHanded {} Try.checked os 5 .any (Rows.aluOthersSpec.pre6 enc Try.prog Try.f5 Rows.aluOthersRow.domain false) (Rows.aluOthersSpec.post enc Try.prog Try.f5 false true false false) := by
  refine returnsInHanded_of_change_sized (C := Try.checked) own started (by kernel_rfl) Try.func5
    (ChangeSpec.witness6 (enc := enc) (C := Try.checked) false ⟨#[], #[.agg #[.int .u8 0, .int .u8 0, .int .u8 0, .int .u8 0, .int .u8 0, .int .u8 0, .int .u8 0, .int .u8 0, .int .u8 0, .int .u8 0, .int .u8 0, .int .u8 0, .int .u8 0, .int .u8 0, .int .u8 0, .int .u8 0], .agg #[.int .i64 0, .int .i64 0, .int .i64 0, .int .i64 0, .int .i64 0, .int .i64 0, .int .i64 0], .agg #[.int .i64 0, .bool false, .bool false, .bool false, .bool false, .bool false, .bool false, .bool false]], []⟩ 8 (by kernel_rfl) (by kernel_rfl) (by kernel_rfl) (by kernel_rfl)) ?_
  intro W base args ds gs before hval0 hW hcnd hsz0 _
  have hsz : (DataW.weightsEach Try.prog (Try.f5.params.toList ++ Rows.aluOthersSpec.plain.varTypes Try.prog) (ds ++ gs)).all (· ≤ reachBytes) = true := hsz0
  have hval : ∀ (j : Nat) t v, Try.f5.params[j]? = some t → args[j]? = some v → Value.okWide Try.prog W .any base t v := hval0
  have hW' := hW
  obtain ⟨p, q, hA0, hV, rfl, hfz, hnd⟩ := hW
  have hA : DataW.TrodAll enc Try.prog W 0 (fun _ => true) true Try.f5.params.toList args.toList ds p := hA0
  rw [Try.params5] at hA hval hsz
  obtain ⟨v0, vs0, d0, ds0, p0, q0, hargs, rfl, rfl, h0, r0⟩ := trodAll_cons hA
  obtain ⟨v1, vs1, d1, ds1, p1, q1, rfl, rfl, rfl, h1, r1⟩ := trodAll_cons r0
  obtain ⟨v2, vs2, d2, ds2, p2, q2, rfl, rfl, rfl, h2, r2⟩ := trodAll_cons r1
  obtain ⟨rfl, rfl, rfl⟩ := trodAll_nil r2
  obtain rfl : args = #[v0, v1, v2] := by cases args; simp_all
  obtain ⟨rfl, rfl⟩ := trodVars_none hV
  obtain ⟨cs0, rfl, q0, lt0⟩ := row_flat (dp := 40) (ls := List.replicate 16 (.i .u8) ++ []) (by kernel_rfl) (by kernel_rfl) (hval 0 22 v0 rfl rfl) h0
  obtain ⟨l0, e0, hcs0, hl0, hw0, en0⟩ := cellsWf_bytes q0
  obtain rfl := cellsWf_nil en0
  obtain rfl : cs0 = (l0.map (Value.int .u8)).toArray := by
    apply Array.ext'
    rw [hcs0]
    simp
  have k0 := h0
  obtain ⟨cs1, rfl, q1_0, lt1⟩ := row_flat (dp := 40) (ls := [.i .i64, .i .i64, .i .i64, .i .i64, .i .i64, .i .i64, .i .i64]) (by kernel_rfl) (by kernel_rfl) (hval 1 24 v1 rfl rfl) h1
  obtain ⟨x1_0, r1_0, e1_0, w1_0, q1_1⟩ := cellsWf_int q1_0
  obtain ⟨x1_1, r1_1, e1_1, w1_1, q1_2⟩ := cellsWf_int q1_1
  obtain ⟨x1_2, r1_2, e1_2, w1_2, q1_3⟩ := cellsWf_int q1_2
  obtain ⟨x1_3, r1_3, e1_3, w1_3, q1_4⟩ := cellsWf_int q1_3
  obtain ⟨x1_4, r1_4, e1_4, w1_4, q1_5⟩ := cellsWf_int q1_4
  obtain ⟨x1_5, r1_5, e1_5, w1_5, q1_6⟩ := cellsWf_int q1_5
  obtain ⟨x1_6, r1_6, e1_6, w1_6, q1_7⟩ := cellsWf_int q1_6
  have en1 := cellsWf_nil q1_7
  obtain rfl : cs1 = #[.int .i64 x1_0, .int .i64 x1_1, .int .i64 x1_2, .int .i64 x1_3, .int .i64 x1_4, .int .i64 x1_5, .int .i64 x1_6] := by
    apply Array.ext'
    rw [e1_0, e1_1, e1_2, e1_3, e1_4, e1_5, e1_6, en1]
  have k1 := h1
  obtain ⟨cs2, rfl, q2_0, lt2⟩ := row_flat (dp := 40) (ls := [.i .i64, .b, .b, .b, .b, .b, .b, .b]) (by kernel_rfl) (by kernel_rfl) (hval 2 26 v2 rfl rfl) h2
  obtain ⟨x2_0, r2_0, e2_0, w2_0, q2_1⟩ := cellsWf_int q2_0
  obtain ⟨x2_1, r2_1, e2_1, q2_2⟩ := cellsWf_bool q2_1
  obtain ⟨x2_2, r2_2, e2_2, q2_3⟩ := cellsWf_bool q2_2
  obtain ⟨x2_3, r2_3, e2_3, q2_4⟩ := cellsWf_bool q2_3
  obtain ⟨x2_4, r2_4, e2_4, q2_5⟩ := cellsWf_bool q2_4
  obtain ⟨x2_5, r2_5, e2_5, q2_6⟩ := cellsWf_bool q2_5
  obtain ⟨x2_6, r2_6, e2_6, q2_7⟩ := cellsWf_bool q2_6
  obtain ⟨x2_7, r2_7, e2_7, q2_8⟩ := cellsWf_bool q2_7
  have en2 := cellsWf_nil q2_8
  obtain rfl : cs2 = #[.int .i64 x2_0, .bool x2_1, .bool x2_2, .bool x2_3, .bool x2_4, .bool x2_5, .bool x2_6, .bool x2_7] := by
    apply Array.ext'
    rw [e2_0, e2_1, e2_2, e2_3, e2_4, e2_5, e2_6, e2_7, en2]
  have k2 := h2
  refine (Go.Proofs.Ytddoohbgiieiiaa.AluOthers_walk l0 x1_0 x1_1 x1_2 x1_3 x1_4 x1_5 x1_6 x2_0 x2_1 x2_2 x2_3 x2_4 x2_5 x2_6 x2_7 W hl0 hw0 w1_0 w1_1 w1_2 w1_3 w1_4 w1_5 w1_6 w2_0).mono fun e W' ⟨he, hsat⟩ => ?_
  have bel := hsat.below
  subst he
  exact ⟨_, rfl, _, _, _, [], _, [], hW', trodAll_mk1 (shut_bool Try.underlying4 _), (trodAll_cons_mk (Below.trod laidOut (by kernel_rfl) (of_decide_eq_true (by kernel_rfl)) k0 bel lt0) (trodAll_cons_mk (Below.trod laidOut (by kernel_rfl) (of_decide_eq_true (by kernel_rfl)) k1 bel lt1) (trodAll_cons_mk (Below.trod laidOut (by kernel_rfl) (of_decide_eq_true (by kernel_rfl)) k2 bel lt2) trodAll_mk0))), rfl, bel.frame _, fun h => by cases h⟩
theorem proved : Rows.AluOthersSaid :=
  OpenClaim.holds_of_wide 5 Try.f5 rfl rfl rfl rfl rfl rfl rfl ⟨rfl, rfl, rfl, rfl, rfl⟩ rfl rfl rfl rfl rfl (by kernel_rfl) Try.func5 (by kernel_rfl)
    (of_decide_eq_true (by kernel_rfl)) (by unfold Func.isWrapper; first | (rw [if_pos (by decide +kernel)]; kernel_rfl) | (rw [if_neg (by decide +kernel)]; exact ⟨rfl, rfl⟩))
    (fun os started H enc _ => lifted os started H enc)
end Go.Proofs.Ytddoohbgiieiiaa.aluOthers
namespace Go.Proofs.Ytddoohbgiieiiaa
theorem aluOthers_holds : Rows.AluOthersSaid := aluOthers.proved
end Go.Proofs.Ytddoohbgiieiiaa
