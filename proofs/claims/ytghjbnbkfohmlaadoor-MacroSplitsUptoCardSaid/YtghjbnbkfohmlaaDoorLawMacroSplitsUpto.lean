/-
  MacroSplits (P30.1), for arguments of a bounded bulk: the row and the card.
-/
import Derived.Test.YtghjbnbkfohmlaaDoorLaid30
import Derived.Test.YtghjbnbkfohmlaaDoorBulk30
import Derived.Test.YtghjbnbkfohmlaaDoorTie
import Derived.Test.YtghjbnbkfohmlaaDoorCards
import Derived.Test.YtghjbnbkfohmlaaDoorSpl30
import Derived.WalkKit
import Derived.ProofKit
import Derived.OpenShut
import Derived.ShutString
import Derived.ChangeOld
import Derived.Below
import Derived.SizedLaws
import Derived.Handed
import Derived.SevenTiedAt
import Derived.Deep.DeepHandedRow
import Derived.JoinedCond
namespace Go.Proofs.YtghjbnbkfohmlaaDoor.macroSplitsUpto
open Go Go.ChangeShapes Go.WideShapes Go.ChangeAt Go.RowKit
set_option linter.unusedVariables false
set_option maxRecDepth 100000
theorem own : ownKnob Tryd.prog.godebug = none := by kernel_rfl
theorem laidOut : laidOutB Tryd.prog = true := by kernel_rfl
/-- what is read at the witness -/
theorem reads (os : Os) {H : Type} (enc : TypeId × Value → H) : ∃ places, DataW.whole enc Tryd.prog ((World.laidAll Tryd.prog os laid8).forCall (fun _ _ => 0) ⟨#[], #[.slice none 0 0, .int .u8 0, .slice none 0 0], []⟩).memory Tryd.f7.params.toList Rows.macroSplitsSpec.vars false #[Value.slice none 0 0, .int .u8 0, .slice none 0 0].toList 8 = some ([.nil, .lit (.int .u8 0), .nil], [], places) :=
  ⟨[], by kernel_rfl⟩
theorem witness (os : Os) (H : Type) (enc : TypeId × Value → H) :
    ∃ (w : World) (tape : Tape) (i : Input), w.os = os ∧ (w.forCall tape i).Shaped Tryd.prog ∧ i.vars = [] ∧ Input.okWide Tryd.prog (w.forCall tape i) .any w.heap.size 7 i ∧
      (Rows.OpenSpec.upto Rows.macroSplitsSpec).preRow enc Tryd.prog Tryd.f7 [] false laid8 (w.forCall tape i).memory i.args ∧ ({} : Assume).holds Tryd.prog (lone (Frame.enter Tryd.prog 7 i.args .normal) [] (w.forCall tape i)) := by
  obtain ⟨places, hx⟩ := reads os enc
  have hok : Input.okWideB Tryd.prog ((World.laidAll Tryd.prog os laid8).forCall (fun _ _ => 0) ⟨#[], #[.slice none 0 0, .int .u8 0, .slice none 0 0], []⟩) 7 ⟨#[], #[.slice none 0 0, .int .u8 0, .slice none 0 0], []⟩ = true := by kernel_rfl
  exact ⟨World.laidAll Tryd.prog os laid8, fun _ _ => 0, ⟨#[], #[.slice none 0 0, .int .u8 0, .slice none 0 0], []⟩, World.laidAll_os _ _ _, laid_shaped os, (Input.okWide_of_okWideB (base := 0) hok).1, (Input.okWide_of_okWideB hok).2,
    OpenSpec.preRow_of_cond 8 hx (by kernel_rfl) (fun k hk => by cases hk; kernel_rfl) (by kernel_rfl) (laid_met os _), by
      simp only [Assume.holds]
      exact ⟨by simp, by simp, fun _ => Modest.zero, by simp, by simp⟩⟩
theorem lifted (os : Os) (started : os.Started) (H : Type) (enc : TypeId × Value → H) (F : Stop.Interp) :
    ReturnsInHanded {} Tryd.checked os 7 .any ((Rows.OpenSpec.upto Rows.macroSplitsSpec).preRow enc Tryd.prog Tryd.f7 [] false laid8) (((Rows.OpenSpec.upto Rows.macroSplitsSpec).at F).post enc Tryd.prog Tryd.f7 false true false false) := by
  refine returnsInHanded_of_row (C := Tryd.checked) (s := Rows.OpenSpec.upto Rows.macroSplitsSpec) own started (by kernel_rfl) Tryd.func7 (witness os H enc) ?_
  intro W base args ds gs before hval0 hW _ hcond _ hL hsh _
  have hG := globs_of hL hsh
  have hbulk := bulk_bound (hcond _ rfl)
  have hval : ∀ (j : Nat) t v, Tryd.f7.params[j]? = some t → args[j]? = some v → Value.okWide Tryd.prog W .any base t v := hval0
  have hW' := hW
  obtain ⟨p, q, hA0, hV, rfl, hfz, hnd⟩ := hW
  have hA : DataW.TrodAll enc Tryd.prog W 0 (fun _ => true) true Tryd.f7.params.toList args.toList ds p := hA0
  rw [Tryd.params7] at hA hval
  obtain ⟨v0, vs0, d0, ds0, p0, q0, hargs, rfl, rfl, h0, r0⟩ := trodAll_cons hA
  obtain ⟨v1, vs1, d1, ds1, p1, q1, rfl, rfl, rfl, h1, r1⟩ := trodAll_cons r0
  obtain ⟨v2, vs2, d2, ds2, p2, q2, rfl, rfl, rfl, h2, r2⟩ := trodAll_cons r1
  obtain ⟨rfl, rfl, rfl⟩ := trodAll_nil r2
  obtain rfl : args = #[v0, v1, v2] := by cases args; simp_all
  obtain ⟨rfl, rfl⟩ := trodVars_none hV
  obtain ⟨A0, c0, l0, rfl, hr0, lt0⟩ := row_strs Tryd.underlying26 Tryd.underlying9 (by kernel_rfl) (hval 0 26 v0 rfl rfl) h0
  obtain ⟨a1, rfl, rfl, rfl, w1⟩ := open_int Tryd.underlying5 (hval 1 5 v1 rfl rfl) h1
  obtain ⟨A2, c2, l2, rfl, hr2, lt2⟩ := row_strs Tryd.underlying26 Tryd.underlying9 (by kernel_rfl) (hval 2 26 v2 rfl rfl) h2
  have k0 := h0
  have k2 := h2
  have b0 := strs_bulk Tryd.underlying26 Tryd.underlying9 (by kernel_rfl) h0 hr0
  have b2 := strs_bulk Tryd.underlying26 Tryd.underlying9 (by kernel_rfl) h2 hr2
  have s0 := bulk_part (d := d0) (l := [d0, .lit (.int .u8 a1), d2] ++ []) (by simp)
  have s2 := bulk_part (d := d2) (l := [d0, .lit (.int .u8 a1), d2] ++ []) (by simp)
  refine (Go.Proofs.YtghjbnbkfohmlaaDoor.MacroSplits_walk l0 A0 c0 a1 l2 A2 c2 w1 (fun x hx => by have := b0 x hx; omega) (fun x hx => by have := b2 x hx; omega) W hG hr0 hr2).mono fun e W' ⟨he, hsat⟩ => ?_
  have bel := hsat.below
  subst he
  exact ⟨_, rfl, _, _, _, [], _, [], hW', trodAll_mk1 (shut_bool Tryd.underlying4 _), (trodAll_cons_mk (Below.trod laidOut (by kernel_rfl) (of_decide_eq_true (by kernel_rfl)) k0 bel lt0) (trodAll_cons_mk (shut_int Tryd.underlying5 w1) (trodAll_cons_mk (Below.trod laidOut (by kernel_rfl) (of_decide_eq_true (by kernel_rfl)) k2 bel lt2) trodAll_mk0))), rfl, bel.frame _, fun h => by cases h⟩
theorem proved : Rows.MacroSplitsUptoSaid :=
  OpenClaim.holds_of_cond 7 Tryd.f7 rfl rfl rfl rfl rfl rfl rfl ⟨rfl, rfl, rfl, rfl, rfl⟩ rfl rfl rfl rfl rfl (by kernel_rfl) Tryd.func7 (by kernel_rfl)
    (of_decide_eq_true (by kernel_rfl)) (by unfold Func.isWrapper; first | (rw [if_pos (by decide +kernel)]; kernel_rfl) | (rw [if_neg (by decide +kernel)]; exact ⟨rfl, rfl⟩))
    (fun os started H enc _ F => by rw [OpenClaim.pre_eq_preRow]; exact lifted os started H enc F)
/-- the tied card -/
theorem card : Rows.MacroSplitsUptoCardSaid :=
  Claim7.holds_tied_plain_at .later [] [.data, .data, .data, .data, .sentinel, .sentinel, .data, .pinned] true (true, "3aa30ec0933b6f05d82194c1a3f2109078f52a8b5f69bc06c1063bf768d0bdb6") true
    proved (fun _ h => by cases h) (by kernel_rfl) (fun _ h => by cases h) macroSplitsUpto_row_tie rfl ⟨rfl, rfl⟩ (by kernel_rfl) rfl
    (fun f fn hf hfn => by
      obtain rfl : f = 7 := Option.some.inj ((show Tryd.prog.funcNamed "cosmac/cosmaclaw30.MacroSplits" = some 7 by kernel_rfl).symm.trans hf) |>.symm
      obtain rfl : fn = Tryd.f7 := (Option.some.inj (Tryd.func7.symm.trans hfn)).symm
      exact ⟨by kernel_rfl, fun j t ht => by
        rw [Tryd.params7] at ht
        have hm : t ∈ ([26, 5, 26] : List TypeId) := by simpa using Array.mem_of_getElem? ht
        have hall : (([26, 5, 26] : List TypeId).all fun u => !Tryd.prog.wantsStandIn u) = true := by kernel_rfl
        exact (show Tryd.prog.wantsStandIn t = false by simpa using List.all_eq_true.1 hall t hm)⟩)
    (by kernel_rfl)
end Go.Proofs.YtghjbnbkfohmlaaDoor.macroSplitsUpto
namespace Go.Proofs.YtghjbnbkfohmlaaDoor
theorem macroSplitsUptoCard_holds : Rows.MacroSplitsUptoCardSaid := macroSplitsUpto.card
end Go.Proofs.YtghjbnbkfohmlaaDoor
