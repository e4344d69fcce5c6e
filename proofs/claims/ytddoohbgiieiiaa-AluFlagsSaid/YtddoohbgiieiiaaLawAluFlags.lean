/-
  AluFlags returns true for all bytes and every profile: the flag tells what does not fit into the byte.
-/
import Derived.Test.YtddoohbgiieiiaaRows
import Derived.Test.YtddoohbgiieiiaaFlat
import Derived.Test.YtddoohbgiieiiaaFlags18
import Derived.WalkKit
import Derived.ProofKit
import Derived.OpenShut
import Derived.ShutString
import Derived.ChangeOld
import Derived.Below
import Derived.SizedLaws
namespace Go.Proofs.Ytddoohbgiieiiaa.aluFlags
open Go Go.ChangeShapes Go.WideShapes Go.ChangeAt Go.RowKit
open Go.ChangeMaps (open_string shut_string)
set_option linter.unusedVariables false
theorem own : ownKnob Try.prog.godebug = none := by kernel_rfl
theorem laidOut : laidOutB Try.prog = true := by kernel_rfl
set_option maxRecDepth 100000 in
theorem lifted (os : Os) (started : os.Started) (H : Type) (enc : TypeId × Value → H) :
    ReturnsInHanded {} Try.checked os 4 .any (Rows.aluFlagsSpec.pre6 enc Try.prog Try.f4 Rows.aluFlagsRow.domain false) (Rows.aluFlagsSpec.post enc Try.prog Try.f4 false true false false) := by
  refine returnsInHanded_of_change_sized (C := Try.checked) own started (by kernel_rfl) Try.func4
    (ChangeSpec.witness6 (enc := enc) (C := Try.checked) false ⟨#[], #[.int .u8 0, .int .u8 0, .agg #[.int .i64 0, .bool false, .bool false, .bool false, .bool false, .bool false, .bool false, .bool false]], []⟩ 8 (by kernel_rfl) (by kernel_rfl) (by kernel_rfl) (by kernel_rfl)) ?_
  intro W base args ds gs before hval0 hW hcnd hsz0 _
  have hsz : (DataW.weightsEach Try.prog (Try.f4.params.toList ++ Rows.aluFlagsSpec.plain.varTypes Try.prog) (ds ++ gs)).all (· ≤ reachBytes) = true := hsz0
  have hval : ∀ (j : Nat) t v, Try.f4.params[j]? = some t → args[j]? = some v → Value.okWide Try.prog W .any base t v := hval0
  have hW' := hW
  obtain ⟨p, q, hA0, hV, rfl, hfz, hnd⟩ := hW
  have hA : DataW.TrodAll enc Try.prog W 0 (fun _ => true) true Try.f4.params.toList args.toList ds p := hA0
  rw [Try.params4] at hA hval hsz
  obtain ⟨v0, vs0, d0, ds0, p0, q0, hargs, rfl, rfl, h0, r0⟩ := trodAll_cons hA
  obtain ⟨v1, vs1, d1, ds1, p1, q1, rfl, rfl, rfl, h1, r1⟩ := trodAll_cons r0
  obtain ⟨v2, vs2, d2, ds2, p2, q2, rfl, rfl, rfl, h2, r2⟩ := trodAll_cons r1
  obtain ⟨rfl, rfl, rfl⟩ := trodAll_nil r2
  obtain rfl : args = #[v0, v1, v2] := by cases args; simp_all
  obtain ⟨rfl, rfl⟩ := trodVars_none hV
  obtain ⟨a0, rfl, rfl, rfl, w0⟩ := open_int Try.underlying5 (hval 0 5 v0 rfl rfl) h0
  obtain ⟨a1, rfl, rfl, rfl, w1⟩ := open_int Try.underlying5 (hval 1 5 v1 rfl rfl) h1
  obtain ⟨cs2, rfl, q2_0, lt2⟩ := row_flat (dp := 40) (ls := [.i .i64, .b, .b, .b, .b, .b, .b, .b]) (by kernel_rfl) (by kernel_rfl) (hval 2 26 v2 rfl rfl) h2
  obtain ⟨x2_0, r2_0, e2_0, w2_0, q2_1⟩ := cellsWf_int q2_0
  obtain ⟨x2_1, r2_1, e2_1, q2_2⟩ := cellsWf_bool q2_1
  obtain ⟨x2_2, r2_2, e2_2, q2_3⟩ := cellsWf_bool q2_2
  obtain ⟨x2_3, r2_3, e2_3, q2_4⟩ := cellsWf_bool q2_3
  obtain ⟨x2_4, r2_4, e2_4, q2_5⟩ := cellsWf_bool q2_4
  obtain ⟨x2_5, r2_5, e2_5, q2_6⟩ := cellsWf_bool q2_5
  obtain ⟨x2_6, r2_6, e2_6, q2_7⟩ := cellsWf_bool q2_6
  obtain ⟨x2_7, r2_7, e2_7, q2_8⟩ := cellsWf_bool q2_7
  have en2 := cellsWf_nil q2_8
  obtain rfl : cs2 = #[.int .i64 x2_0, .bool x2_1, .bool x2_2, .bool x2_3, .bool x2_4, .bool x2_5, .bool x2_6, .bool x2_7] := by
    apply Array.ext'
    rw [e2_0, e2_1, e2_2, e2_3, e2_4, e2_5, e2_6, e2_7, en2]
  have k2 := h2
  refine (Go.Proofs.Ytddoohbgiieiiaa.AluFlags_walk a0 a1 x2_0 x2_1 x2_2 x2_3 x2_4 x2_5 x2_6 x2_7 W w0 w1 w2_0).mono fun e W' ⟨he, hsat⟩ => ?_
  have bel := hsat.below
  subst he
  exact ⟨_, rfl, _, _, _, [], _, [], hW', trodAll_mk1 (shut_bool Try.underlying4 _), (trodAll_cons_mk (shut_int Try.underlying5 w0) (trodAll_cons_mk (shut_int Try.underlying5 w1) (trodAll_cons_mk (Below.trod laidOut (by kernel_rfl) (of_decide_eq_true (by kernel_rfl)) k2 bel lt2) trodAll_mk0))), rfl, bel.frame _, fun h => by cases h⟩
theorem proved : Rows.AluFlagsSaid :=
  OpenClaim.holds_of_wide 4 Try.f4 rfl rfl rfl rfl rfl rfl rfl ⟨rfl, rfl, rfl, rfl, rfl⟩ rfl rfl rfl rfl rfl (by kernel_rfl) Try.func4 (by kernel_rfl)
    (of_decide_eq_true (by kernel_rfl)) (by unfold Func.isWrapper; first | (rw [if_pos (by decide +kernel)]; kernel_rfl) | (rw [if_neg (by decide +kernel)]; exact ⟨rfl, rfl⟩))
    (fun os started H enc _ => lifted os started H enc)
end Go.Proofs.Ytddoohbgiieiiaa.aluFlags
namespace Go.Proofs.Ytddoohbgiieiiaa
theorem aluFlags_holds : Rows.AluFlagsSaid := aluFlags.proved
end Go.Proofs.Ytddoohbgiieiiaa
