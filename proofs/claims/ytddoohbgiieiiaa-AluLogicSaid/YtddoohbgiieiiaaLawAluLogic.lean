/-
  AluLogic returns true for all bytes and every profile: or, and, exclusive or fit together, and the flag is what the profile says.
-/
import Derived.Test.YtddoohbgiieiiaaRows
import Derived.Test.YtddoohbgiieiiaaFlat
import Derived.Test.YtddoohbgiieiiaaLogic18
import Derived.WalkKit
import Derived.ProofKit
import Derived.OpenShut
import Derived.ShutString
import Derived.ChangeOld
import Derived.Below
import Derived.SizedLaws
namespace Go.Proofs.Ytddoohbgiieiiaa.aluLogic
open Go Go.ChangeShapes Go.WideShapes Go.ChangeAt Go.RowKit
open Go.ChangeMaps (open_string shut_string)
set_option linter.unusedVariables false
theorem own : ownKnob Try.prog.godebug = none := by kernel_rfl
theorem laidOut : laidOutB Try.prog = true := by kernel_rfl
set_option maxRecDepth 100000 in
theorem lifted (os : Os) (started : os.Started) (H : Type) (enc : TypeId × Value → H) :
    ReturnsInHanded {} Try.checked os 7 .any (Rows.aluLogicSpec.pre6 enc Try.prog Try.f7 Rows.aluLogicRow.domain false) (Rows.aluLogicSpec.post enc Try.prog Try.f7 false true false false) := by
  refine returnsInHanded_of_change_sized (C := Try.checked) own started (by kernel_rfl) Try.func7
    (ChangeSpec.witness6 (enc := enc) (C := Try.checked) false ⟨#[], #[.int .u8 0, .int .u8 0, .int .u8 0, .agg #[.int .i64 0, .bool false, .bool false, .bool false, .bool false, .bool false, .bool false, .bool false]], []⟩ 8 (by kernel_rfl) (by kernel_rfl) (by kernel_rfl) (by kernel_rfl)) ?_
  intro W base args ds gs before hval0 hW hcnd hsz0 _
  have hsz : (DataW.weightsEach Try.prog (Try.f7.params.toList ++ Rows.aluLogicSpec.plain.varTypes Try.prog) (ds ++ gs)).all (· ≤ reachBytes) = true := hsz0
  have hval : ∀ (j : Nat) t v, Try.f7.params[j]? = some t → args[j]? = some v → Value.okWide Try.prog W .any base t v := hval0
  have hW' := hW
  obtain ⟨p, q, hA0, hV, rfl, hfz, hnd⟩ := hW
  have hA : DataW.TrodAll enc Try.prog W 0 (fun _ => true) true Try.f7.params.toList args.toList ds p := hA0
  rw [Try.params7] at hA hval hsz
  obtain ⟨v0, vs0, d0, ds0, p0, q0, hargs, rfl, rfl, h0, r0⟩ := trodAll_cons hA
  obtain ⟨v1, vs1, d1, ds1, p1, q1, rfl, rfl, rfl, h1, r1⟩ := trodAll_cons r0
  obtain ⟨v2, vs2, d2, ds2, p2, q2, rfl, rfl, rfl, h2, r2⟩ := trodAll_cons r1
  obtain ⟨v3, vs3, d3, ds3, p3, q3, rfl, rfl, rfl, h3, r3⟩ := trodAll_cons r2
  obtain ⟨rfl, rfl, rfl⟩ := trodAll_nil r3
  obtain rfl : args = #[v0, v1, v2, v3] := by cases args; simp_all
  obtain ⟨rfl, rfl⟩ := trodVars_none hV
  obtain ⟨a0, rfl, rfl, rfl, w0⟩ := open_int Try.underlying5 (hval 0 5 v0 rfl rfl) h0
  obtain ⟨a1, rfl, rfl, rfl, w1⟩ := open_int Try.underlying5 (hval 1 5 v1 rfl rfl) h1
  obtain ⟨a2, rfl, rfl, rfl, w2⟩ := open_int Try.underlying5 (hval 2 5 v2 rfl rfl) h2
  obtain ⟨cs3, rfl, q3_0, lt3⟩ := row_flat (dp := 40) (ls := [.i .i64, .b, .b, .b, .b, .b, .b, .b]) (by kernel_rfl) (by kernel_rfl) (hval 3 26 v3 rfl rfl) h3
  obtain ⟨x3_0, r3_0, e3_0, w3_0, q3_1⟩ := cellsWf_int q3_0
  obtain ⟨x3_1, r3_1, e3_1, q3_2⟩ := cellsWf_bool q3_1
  obtain ⟨x3_2, r3_2, e3_2, q3_3⟩ := cellsWf_bool q3_2
  obtain ⟨x3_3, r3_3, e3_3, q3_4⟩ := cellsWf_bool q3_3
  obtain ⟨x3_4, r3_4, e3_4, q3_5⟩ := cellsWf_bool q3_4
  obtain ⟨x3_5, r3_5, e3_5, q3_6⟩ := cellsWf_bool q3_5
  obtain ⟨x3_6, r3_6, e3_6, q3_7⟩ := cellsWf_bool q3_6
  obtain ⟨x3_7, r3_7, e3_7, q3_8⟩ := cellsWf_bool q3_7
  have en3 := cellsWf_nil q3_8
  obtain rfl : cs3 = #[.int .i64 x3_0, .bool x3_1, .bool x3_2, .bool x3_3, .bool x3_4, .bool x3_5, .bool x3_6, .bool x3_7] := by
    apply Array.ext'
    rw [e3_0, e3_1, e3_2, e3_3, e3_4, e3_5, e3_6, e3_7, en3]
  have k3 := h3
  refine (Go.Proofs.Ytddoohbgiieiiaa.AluLogic_walk a0 a1 a2 x3_0 x3_1 x3_2 x3_3 x3_4 x3_5 x3_6 x3_7 W w0 w1 w2 w3_0).mono fun e W' ⟨he, hsat⟩ => ?_
  have bel := hsat.below
  subst he
  exact ⟨_, rfl, _, _, _, [], _, [], hW', trodAll_mk1 (shut_bool Try.underlying4 _), (trodAll_cons_mk (shut_int Try.underlying5 w0) (trodAll_cons_mk (shut_int Try.underlying5 w1) (trodAll_cons_mk (shut_int Try.underlying5 w2) (trodAll_cons_mk (Below.trod laidOut (by kernel_rfl) (of_decide_eq_true (by kernel_rfl)) k3 bel lt3) trodAll_mk0)))), rfl, bel.frame _, fun h => by cases h⟩
theorem proved : Rows.AluLogicSaid :=
  OpenClaim.holds_of_wide 7 Try.f7 rfl rfl rfl rfl rfl rfl rfl ⟨rfl, rfl, rfl, rfl, rfl⟩ rfl rfl rfl rfl rfl (by kernel_rfl) Try.func7 (by kernel_rfl)
    (of_decide_eq_true (by kernel_rfl)) (by unfold Func.isWrapper; first | (rw [if_pos (by decide +kernel)]; kernel_rfl) | (rw [if_neg (by decide +kernel)]; exact ⟨rfl, rfl⟩))
    (fun os started H enc _ => lifted os started H enc)
end Go.Proofs.Ytddoohbgiieiiaa.aluLogic
namespace Go.Proofs.Ytddoohbgiieiiaa
theorem aluLogic_holds : Rows.AluLogicSaid := aluLogic.proved
end Go.Proofs.Ytddoohbgiieiiaa
