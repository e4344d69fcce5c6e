/-
  Rendering (chapter 24): the variables, out of the row's condition.
-/
import Derived.Test.YtdkgnnieehidbaaDoorAwake24
import Derived.Test.YtdkgnnieehidbaaDoorRows
import Derived.Test.YtdkgnnieehidbaaDoorFlats
import Derived.Test.YtdkgnnieehidbaaDoorFlat
import Derived.LaidMore
import Derived.OpenShut
import Derived.MakeChecks
import Derived.ProofKit
import Derived.Stop.Joined
import Derived.Stop.LaidErr
import Derived.Lib.LaidTab
namespace Go.Proofs.YtdkgnnieehidbaaDoor
open Go Go.RowKit
set_option linter.unusedVariables false
set_option linter.unusedSimpArgs false
set_option maxHeartbeats 2000000
set_option maxRecDepth 4000
attribute [local irreducible] mix
def laid5 : List (String × DataW Unit) := [("math/bits.deBruijn32tab", Rows.laid_math_bits_deBruijn32tab), ("math/bits.deBruijn64tab", Rows.laid_math_bits_deBruijn64tab), ("internal/strconv.uint64pow10", Rows.laid_internal_strconv_uint64pow10), ("cosmac/render.kinds", Rows.laid_cosmac_render_kinds), ("cosmac/render.causes", Rows.laid_cosmac_render_causes)]
theorem gPow : Tryd.prog.globalNamed "internal/strconv.uint64pow10" = some 2 := by kernel_rfl
theorem tPow : (Tryd.prog.globals[2]?).map (·.type) = some 129 := by kernel_rfl
theorem gKin : Tryd.prog.globalNamed "cosmac/render.kinds" = some 0 := by kernel_rfl
theorem tKin : (Tryd.prog.globals[0]?).map (·.type) = some 86 := by kernel_rfl
theorem gCau : Tryd.prog.globalNamed "cosmac/render.causes" = some 1 := by kernel_rfl
theorem tCau : (Tryd.prog.globals[1]?).map (·.type) = some 87 := by kernel_rfl
theorem powEq : (Rows.laid_internal_strconv_uint64pow10 : DataW Unit) = Lib.tabData .u64 Lib.pow10Tab := by kernel_rfl
theorem kinEq : (Rows.laid_cosmac_render_kinds : DataW Unit) = .agg (kindsL.map fun l => .lit (.string l)) := by kernel_rfl
theorem cauEq : (Rows.laid_cosmac_render_causes : DataW Unit) = .agg (causesL.map fun l => .lit (.string l)) := by kernel_rfl
/-- an array of strings that reads as these bytes holds these strings -/
theorem strs_of {H : Type} {enc : TypeId × Value → H} {P : Program} {w : World} {base : Nat} {sp : Nat → Bool} {held : Bool} {fuel : Nat} {t e : TypeId} {n : Nat} {cs : List Value} {ls : List (List UInt8)} {p : List MemPlace}
    (ht : P.underlying t = some (.array n e)) (he : P.underlying e = some .string) (hce : P.cellsOf e = 1) (hct : P.cellsOf t = n)
    (h : DataW.trod enc P w base sp held fuel t cs = some (.agg (ls.map fun l => .lit (.string l)), p)) : cs = ls.map txV := by
  obtain ⟨xs, m, rfl, hx, hl, hn, hel⟩ := DataW.trod_array ht h
  rw [hct] at hl
  simp only [Prod.mk.injEq, DataW.agg.injEq] at hx
  have hlen : ls.length = n := by
    have := congrArg List.length hx.1
    simpa [hn] using this
  apply List.ext_getElem?
  intro i
  by_cases hi : i < n
  · have hd := hel i hi
    rw [hce, Nat.mul_one] at hd
    have hxi : xs[i]? = some (xs[i]'(by omega)) := List.getElem?_eq_getElem (by omega)
    rw [hxi] at hd
    obtain ⟨s, hc, e2, _⟩ := DataW.trod_string he hd
    have h1 : cs[i]? = some (.string s) := by
      have := congrArg (·[0]?) hc
      simpa [List.getElem?_take, List.getElem?_drop] using this
    have h2 := congrArg (·[i]?) hx.1
    simp only [List.getElem?_map, hxi, Option.map_some, e2] at h2
    obtain ⟨l, hl2, e3⟩ := Option.map_eq_some_iff.1 h2
    rw [h1, List.getElem?_map, hl2]
    have e4 : l = s.data.toList := by injection e3 with e3; injection e3
    subst e4
    rfl
  · rw [List.getElem?_eq_none (by omega), List.getElem?_eq_none (by simp; omega)]
theorem globs_of {W : World} (h : laidMetH Tryd.prog laid5 W) : Globs W := by
  rw [MakeChecks.laidMetH_plain _ _ _ (by kernel_rfl)] at h
  have h2 := h.tail.tail
  have h3 := h2.tail
  rw [powEq] at h2
  refine ⟨?_, ?_, Lib.tabIs_of_head (n := 20) gPow tPow Tryd.underlying129 Tryd.underlying40 (by kernel_rfl) (by kernel_rfl) h2⟩
  · rw [kinEq] at h3
    obtain ⟨ps, ⟨g0, t0, cs0, f0, p0, q0, hg0, ht0, hv0, hd0, _, _⟩, _, _⟩ := h3
    obtain rfl := Option.some.inj (gKin.symm.trans hg0)
    obtain rfl := Option.some.inj (tKin.symm.trans ht0)
    have hc := strs_of (n := 4) Tryd.underlying86 Tryd.underlying9 (by kernel_rfl) (by kernel_rfl) hd0
    intro j u hj
    refine ⟨_, 0, rfl, ?_⟩
    rw [← hc, Array.getElem?_toList] at hj
    rw [Nat.zero_add, World.var?_cell hg0 hv0 j]
    exact hj
  · have h4 := h3.tail
    rw [cauEq] at h4
    obtain ⟨ps, ⟨g0, t0, cs0, f0, p0, q0, hg0, ht0, hv0, hd0, _, _⟩, _, _⟩ := h4
    obtain rfl := Option.some.inj (gCau.symm.trans hg0)
    obtain rfl := Option.some.inj (tCau.symm.trans ht0)
    have hc := strs_of (n := 5) Tryd.underlying87 Tryd.underlying9 (by kernel_rfl) (by kernel_rfl) hd0
    intro j u hj
    refine ⟨_, 0, rfl, ?_⟩
    rw [← hc, Array.getElem?_toList] at hj
    rw [Nat.zero_add, World.var?_cell hg0 hv0 j]
    exact hj
/-- the door's own heap meets the condition -/
theorem door_met (os : Os) (args : Array Value) : laidMetH Tryd.prog laid5 ((World.doorLaid Tryd.prog 34 os).forCall (fun _ _ => 0) ⟨#[], args, []⟩).memory :=
  laidMetH_of_parts3 (fuel := 8) (laidMet_of_run' 8 (by kernel_rfl) (by kernel_rfl)) (by kernel_rfl) (by kernel_rfl)
abbrev bytesB (l : List Int) : Prop := ∀ z ∈ l, 0 ≤ z ∧ z ≤ 255
def okCard (c : Card) : Prop := okC c ∧ bytesB c.pat ∧ (0 ≤ c.pitch ∧ c.pitch ≤ 255)
def cardLs : List LeafK := List.replicate 12 (.i .i64) ++ (.b :: .b :: .b :: (List.replicate 16 (.i .u8) ++ (.i .u8 :: .i .i64 :: .i .i64 :: .i .i64 :: .i .i64 :: [])))
theorem card_of {cs : List Value} (h : cellsWf cardLs cs = true) : ∃ c : Card, okCard c ∧ cs = cardL c := by
  obtain ⟨sd, cs1, e1, hsd, _, h1⟩ := cellsWf_ints .i64 h
  obtain ⟨wide, cs2, e2, h2⟩ := cellsWf_bool h1
  obtain ⟨hires, cs3, e3, h3⟩ := cellsWf_bool h2
  obtain ⟨sound, cs4, e4, h4⟩ := cellsWf_bool h3
  obtain ⟨pat, cs5, e5, hpat, hpb, h5⟩ := cellsWf_ints .u8 h4
  obtain ⟨pitch, cs6, e6, hpi, h6⟩ := cellsWf_int h5
  obtain ⟨kind, cs7, e7, _, h7⟩ := cellsWf_int h6
  obtain ⟨cause, cs8, e8, _, h8⟩ := cellsWf_int h7
  obtain ⟨pc, cs9, e9, _, h9⟩ := cellsWf_int h8
  obtain ⟨cycle, cs10, e10, _, h10⟩ := cellsWf_int h9
  have e11 := cellsWf_nil h10
  subst e11 e10 e9 e8 e7 e6 e5 e4 e3 e2 e1
  exact ⟨⟨sd, wide, hires, sound, pat, pitch, kind, cause, pc, cycle⟩, ⟨⟨hsd, hpat⟩, fun z hz => wfu8 (hpb z hz), wfu8 hpi⟩, rfl⟩
end Go.Proofs.YtdkgnnieehidbaaDoor
