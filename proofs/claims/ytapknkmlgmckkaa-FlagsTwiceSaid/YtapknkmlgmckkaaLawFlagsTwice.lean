/-
  FlagsTwice returns true, for all lists of bytes: of two that are saved the second lies over the first.
-/
import Derived.Test.YtapknkmlgmckkaaRows
import Derived.Test.YtapknkmlgmckkaaRowk
import Derived.Test.YtapknkmlgmckkaaTwice12
import Derived.WalkKit
import Derived.ProofKit
import Derived.OpenShut
import Derived.ShutString
import Derived.ChangeOld
import Derived.Below
import Derived.SizedLaws
namespace Go.Proofs.Ytapknkmlgmckkaa.flagsTwice
open Go Go.ChangeShapes Go.WideShapes Go.ChangeAt Go.RowKit
open Go.ChangeMaps (open_string shut_string)
set_option linter.unusedVariables false
theorem own : ownKnob Try.prog.godebug = none := by kernel_rfl
theorem laidOut : laidOutB Try.prog = true := by kernel_rfl
set_option maxRecDepth 100000 in
theorem lifted (os : Os) (started : os.Started) (H : Type) (enc : TypeId × Value → H) :
    ReturnsInHanded {} Try.checked os 7 .any (Rows.flagsTwiceSpec.pre6 enc Try.prog Try.f7 Rows.flagsTwiceRow.domain false) (Rows.flagsTwiceSpec.post enc Try.prog Try.f7 false true false false) := by
  refine returnsInHanded_of_change_sized (C := Try.checked) own started (by kernel_rfl) Try.func7
    (ChangeSpec.witness6 (enc := enc) (C := Try.checked) false ⟨#[], #[.slice none 0 0, .slice none 0 0], []⟩ 8 (by kernel_rfl) (by kernel_rfl) (by kernel_rfl) (by kernel_rfl)) ?_
  intro W base args ds gs before hval0 hW hcnd hsz0 _
  have hsz : (DataW.weightsEach Try.prog (Try.f7.params.toList ++ Rows.flagsTwiceSpec.plain.varTypes Try.prog) (ds ++ gs)).all (· ≤ reachBytes) = true := hsz0
  have hval : ∀ (j : Nat) t v, Try.f7.params[j]? = some t → args[j]? = some v → Value.okWide Try.prog W .any base t v := hval0
  have hW' := hW
  obtain ⟨p, q, hA0, hV, rfl, hfz, hnd⟩ := hW
  have hA : DataW.TrodAll enc Try.prog W 0 (fun _ => true) true Try.f7.params.toList args.toList ds p := hA0
  rw [Try.params7] at hA hval hsz
  obtain ⟨v0, vs0, d0, ds0, p0, q0, hargs, rfl, rfl, h0, r0⟩ := trodAll_cons hA
  obtain ⟨v1, vs1, d1, ds1, p1, q1, rfl, rfl, rfl, h1, r1⟩ := trodAll_cons r0
  obtain ⟨rfl, rfl, rfl⟩ := trodAll_nil r1
  obtain rfl : args = #[v0, v1] := by cases args; simp_all
  obtain ⟨rfl, rfl⟩ := trodVars_none hV
  obtain ⟨A0, len0, c0, l0, rfl, rfl, hr0, hm0, hw0, lt0, cp0⟩ := row_ints (B := 1) hsz (j := 0) rfl rfl Try.underlying33 Try.underlying5 (by kernel_rfl) (by kernel_rfl) (hval 0 33 v0 rfl rfl) h0
  have k0 := h0
  obtain ⟨A1, len1, c1, l1, rfl, rfl, hr1, hm1, hw1, lt1, cp1⟩ := row_ints (B := 1) hsz (j := 1) rfl rfl Try.underlying33 Try.underlying5 (by kernel_rfl) (by kernel_rfl) (hval 1 33 v1 rfl rfl) h1
  have k1 := h1
  refine (Go.Proofs.Ytapknkmlgmckkaa.FlagsTwice_walk A0 c0 l0 A1 c1 l1 W hr0 (by have := hm0; omega) (by have := cp0; omega) hr1 (by have := hm1; omega) (by have := cp1; omega)).mono fun e W' ⟨he, hsat⟩ => ?_
  have bel := hsat.below
  subst he
  exact ⟨_, rfl, _, _, _, [], _, [], hW', trodAll_mk1 (shut_bool Try.underlying4 _), (trodAll_cons_mk (Below.trod laidOut (by kernel_rfl) (of_decide_eq_true (by kernel_rfl)) k0 bel lt0) (trodAll_cons_mk (Below.trod laidOut (by kernel_rfl) (of_decide_eq_true (by kernel_rfl)) k1 bel lt1) trodAll_mk0)), rfl, bel.frame _, fun h => by cases h⟩
theorem proved : Rows.FlagsTwiceSaid :=
  OpenClaim.holds_of_wide 7 Try.f7 rfl rfl rfl rfl rfl rfl rfl ⟨rfl, rfl, rfl, rfl, rfl⟩ rfl rfl rfl rfl rfl (by kernel_rfl) Try.func7 (by kernel_rfl)
    (of_decide_eq_true (by kernel_rfl)) (by unfold Func.isWrapper; first | (rw [if_pos (by decide +kernel)]; kernel_rfl) | (rw [if_neg (by decide +kernel)]; exact ⟨rfl, rfl⟩))
    (fun os started H enc _ => lifted os started H enc)
end Go.Proofs.Ytapknkmlgmckkaa.flagsTwice
namespace Go.Proofs.Ytapknkmlgmckkaa
theorem flagsTwice_holds : Rows.FlagsTwiceSaid := flagsTwice.proved
end Go.Proofs.Ytapknkmlgmckkaa
