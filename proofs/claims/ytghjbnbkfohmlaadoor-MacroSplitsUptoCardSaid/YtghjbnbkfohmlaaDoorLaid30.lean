/-
  Macros (chapter 30): the variables, out of the row's condition and the world's shape; the wrap that hands on both.
-/
import Derived.Test.YtghjbnbkfohmlaaDoorAwake30
import Derived.Test.YtghjbnbkfohmlaaDoorRows
import Derived.Lay
import Derived.LaidMore
import Derived.OpenShut
import Derived.MakeChecks
import Derived.ProofKit
import Derived.Stop.Joined
import Derived.Stop.LaidErr
import Derived.Lib.LaidTab
import Derived.Shelf.Vars
import Derived.WideShapes
import Derived.SizedLaws
import Derived.Handed
namespace Go.Proofs.YtghjbnbkfohmlaaDoor
open Go Go.RowKit Go.ChangeShapes Go.WideShapes
set_option linter.unusedVariables false
set_option linter.unusedSimpArgs false
set_option maxHeartbeats 2000000
set_option maxRecDepth 4000
attribute [local irreducible] mix
def laid8 : List (String × DataW Unit) := [("math/bits.deBruijn32tab", Rows.laid_math_bits_deBruijn32tab), ("math/bits.deBruijn64tab", Rows.laid_math_bits_deBruijn64tab), ("internal/strconv.uint64pow10", Rows.laid_internal_strconv_uint64pow10), ("unicode/utf8.acceptRanges", Rows.laid_unicode_utf8_acceptRanges), ("strconv.ErrRange", Rows.laid_strconv_ErrRange), ("strconv.ErrSyntax", Rows.laid_strconv_ErrSyntax), ("cosmac/macro.keys", Rows.laid_cosmac_macro_keys), ("unicode/utf8.first", Rows.laid_unicode_utf8_first)]
theorem gPow : Tryd.prog.globalNamed "internal/strconv.uint64pow10" = some 1 := by kernel_rfl
theorem tPow : (Tryd.prog.globals[1]?).map (·.type) = some 87 := by kernel_rfl
theorem gKeys : Tryd.prog.globalNamed "cosmac/macro.keys" = some 0 := by kernel_rfl
theorem tKeys : (Tryd.prog.globals[0]?).map (·.type) = some 80 := by kernel_rfl
theorem gRan : Tryd.prog.globalNamed "strconv.ErrRange" = some 8 := by kernel_rfl
theorem tRan : (Tryd.prog.globals[8]?).map (·.type) = some 82 := by kernel_rfl
theorem gSyn : Tryd.prog.globalNamed "strconv.ErrSyntax" = some 7 := by kernel_rfl
theorem tSyn : (Tryd.prog.globals[7]?).map (·.type) = some 82 := by kernel_rfl
theorem powEq : (Rows.laid_internal_strconv_uint64pow10 : DataW Unit) = Lib.tabData .u64 Lib.pow10Tab := by kernel_rfl
theorem keysEq : (Rows.laid_cosmac_macro_keys : DataW Unit) = .agg (((List.range 16).map fun n => [hexC n]).map fun l => .lit (.string l)) := by kernel_rfl
/-- an array of strings that reads as these bytes holds these strings -/
theorem strs_of {H : Type} {enc : TypeId × Value → H} {P : Program} {w : World} {base : Nat} {sp : Nat → Bool} {held : Bool} {fuel : Nat} {t e : TypeId} {n : Nat} {cs : List Value} {ls : List (List UInt8)} {p : List MemPlace}
    (ht : P.underlying t = some (.array n e)) (he : P.underlying e = some .string) (hce : P.cellsOf e = 1) (hct : P.cellsOf t = n)
    (h : DataW.trod enc P w base sp held fuel t cs = some (.agg (ls.map fun l => .lit (.string l)), p)) : cs = ls.map txV := by
  obtain ⟨xs, m, rfl, hx, hl, hn, hel⟩ := DataW.trod_array ht h
  rw [hct] at hl
  simp only [Prod.mk.injEq, DataW.agg.injEq] at hx
  have hlen : ls.length = n := by
    have := congrArg List.length hx.1
    simpa [hn] using this
  apply List.ext_getElem?
  intro i
  by_cases hi : i < n
  · have hd := hel i hi
    rw [hce, Nat.mul_one] at hd
    have hxi : xs[i]? = some (xs[i]'(by omega)) := List.getElem?_eq_getElem (by omega)
    rw [hxi] at hd
    obtain ⟨s, hc, e2, _⟩ := DataW.trod_string he hd
    have h1 : cs[i]? = some (.string s) := by
      have := congrArg (·[0]?) hc
      simpa [List.getElem?_take, List.getElem?_drop] using this
    have h2 := congrArg (·[i]?) hx.1
    simp only [List.getElem?_map, hxi, Option.map_some, e2] at h2
    obtain ⟨l, hl2, e3⟩ := Option.map_eq_some_iff.1 h2
    rw [h1, List.getElem?_map, hl2]
    have e4 : l = s.data.toList := by injection e3 with e3; injection e3
    subst e4
    rfl
  · rw [List.getElem?_eq_none (by omega), List.getElem?_eq_none (by simp; omega)]
/-- a variable of an interface type that is listed as an interface value holds one -/
theorem iface_of {w : World} {n nm : String} {d : DataW Unit} {r : List (String × DataW Unit)} {g : Nat} {ti : TypeId} {ms : Array (String × TypeId)}
    (h : laidMet Tryd.prog ((n, .iface nm d) :: r) w) (hg : Tryd.prog.globalNamed n = some g) (ht : (Tryd.prog.globals[g]?).map (·.type) = some ti) (hi : Tryd.prog.underlying ti = some (.interface ms)) :
    ∃ tp p, Rd w (some ⟨g, 0, none⟩) [.iface tp p] := by
  obtain ⟨ps, ⟨g0, t0, cs0, f0, p0, q0, hg0, ht0, hv0, hd0, _, _⟩, _, _⟩ := h
  obtain rfl := Option.some.inj (hg.symm.trans hg0)
  obtain rfl := Option.some.inj (ht.symm.trans ht0)
  have key : ∃ tp p, cs0.toList = [.iface tp p] := by
    obtain ⟨f1, rfl⟩ : ∃ k, f0 = k + 1 := by
      cases f0 with
      | zero => unfold DataW.trod at hd0; cases hd0
      | succ k => exact ⟨k, rfl⟩
    unfold DataW.trod at hd0
    rw [hi] at hd0
    simp only at hd0
    split at hd0
    all_goals first
      | (rename_i heq; exact ⟨_, _, heq⟩)
      | (exfalso; first | (cases hd0; done) | (simp at hd0; done))
      | (rename_i h1 h2; cases h1; done)
      | (rename_i h1; cases h1; done)
      | skip
  obtain ⟨tp, p, e⟩ := key
  refine ⟨tp, p, fun j u hj => ⟨_, 0, rfl, ?_⟩⟩
  rw [← e, Array.getElem?_toList] at hj
  rw [Nat.zero_add, World.var?_cell hg0 hv0 j]
  exact hj
theorem maxlen_of {W : World} (h : W.ShapedOpen Tryd.prog) : ∃ m, Rd W (some ⟨2, 0, none⟩) [.int .i64 m] := by
  obtain ⟨m, hm⟩ := Go.Proofs.cell_of_shapedOpen_int (g := 2) (t := 3) (zero := #[.int .i64 0]) (k := .i64) h (of_decide_eq_true (by kernel_rfl)) (by kernel_rfl) rfl (by kernel_rfl) (by kernel_rfl) Tryd.underlying3
  refine ⟨m, fun j u hj => ⟨_, 0, rfl, ?_⟩⟩
  cases j with
  | zero => cases hj; exact hm
  | succ j => simp at hj
theorem globs_of {W : World} (h : laidMetH Tryd.prog laid8 W) (hs : W.ShapedOpen Tryd.prog) : Glob30 W := by
  rw [MakeChecks.laidMetH_plain _ _ _ (by kernel_rfl)] at h
  have h2 := h.tail.tail
  have h4 := h2.tail.tail
  have h5 := h4.tail
  have h6 := h5.tail
  rw [powEq] at h2
  refine ⟨?_, Lib.tabIs_of_head (n := 20) gPow tPow Tryd.underlying87 Tryd.underlying72 (by kernel_rfl) (by kernel_rfl) h2, maxlen_of hs, iface_of h5 gSyn tSyn Tryd.underlying82, iface_of h4 gRan tRan Tryd.underlying82⟩
  rw [keysEq] at h6
  obtain ⟨ps, ⟨g0, t0, cs0, f0, p0, q0, hg0, ht0, hv0, hd0, _, _⟩, _, _⟩ := h6
  obtain rfl := Option.some.inj (gKeys.symm.trans hg0)
  obtain rfl := Option.some.inj (tKeys.symm.trans ht0)
  have hc := strs_of (n := 16) Tryd.underlying80 Tryd.underlying9 (by kernel_rfl) (by kernel_rfl) hd0
  rw [List.map_map] at hc
  intro j u hj
  refine ⟨_, 0, rfl, ?_⟩
  rw [show ((List.range 16).map fun n => txV [hexC n]) = cs0.toList from hc.symm, Array.getElem?_toList] at hj
  rw [Nat.zero_add, World.var?_cell hg0 hv0 j]
  exact hj
/-- the world that holds what is listed meets the condition -/
theorem laid_met (os : Os) (args : Array Value) : laidMetH Tryd.prog laid8 ((World.laidAll Tryd.prog os laid8).forCall (fun _ _ => 0) ⟨#[], args, []⟩).memory := by
  rw [MakeChecks.laidMetH_plain _ _ _ (by kernel_rfl)]
  exact laidMet_laidAll _ (by kernel_rfl) (by kernel_rfl)
theorem laid_shaped (os : Os) : (World.laidAll Tryd.prog os laid8).Shaped Tryd.prog := World.shaped_of_ZipB (by kernel_rfl) (by kernel_rfl)
variable {H : Type} {enc : TypeId × Value → H}
/-- the wrap: the variables listed, and the world's shape, handed on -/
theorem returns_row {C : Checked} {os : Os} {f : FuncId} {fn : Func} {s : ChangeSpec} {conds : List PathCond} {apart fresh handsOn again : Bool} {X : World → Array Value → Prop} {a : Assume}
    (hX : ∀ (w w' : World) (args : Array Value), w.heap = w'.heap → X w args → X w' args)
    (own : ownKnob C.prog.godebug = none) (started : os.Started) (noInit : C.prog.inits.idxOf? f = none) (hfn : C.prog.funcs[f]? = some fn)
    (witness : ∃ (w : World) (tape : Tape) (i : Input), w.os = os ∧ (w.forCall tape i).Shaped C.prog ∧ i.vars = [] ∧ Input.okWide C.prog (w.forCall tape i) .any w.heap.size f i ∧
      ((s.pre enc C.prog fn conds apart (w.forCall tape i).memory i.args ∧ X (w.forCall tape i).memory i.args) ∧ sizedMet enc C.prog fn (OpenSpec.ofChange s) apart (w.forCall tape i).memory i.args) ∧ a.holds C.prog (lone (Frame.enter C.prog f i.args .normal) [] (w.forCall tape i)))
    (contract : ∀ (W : World) (base : Nat) (args : Array Value) (ds gs : List (DataW H)) (before : List MemPlace),
      (∀ (j : Nat) t v, fn.params[j]? = some t → args[j]? = some v → Value.okWide C.prog W .any base t v) →
      DataW.Whole enc C.prog fn.params.toList s.vars apart W args.toList ds gs before →
      conds.all (PathCond.test C.prog ⟨fn.params.toList, ds, s.plain.varTypes C.prog, gs⟩) = true →
      (DataW.weightsEach C.prog (fn.params.toList ++ s.plain.varTypes C.prog) (ds ++ gs)).all (· ≤ reachBytes) = true → X W args → W.ShapedOpen C.prog →
      Calls C.prog f args W fun e W' => ∃ v, e = .returned v ∧ s.post enc C.prog fn apart fresh handsOn again W args v W') :
    ReturnsInHanded a C os f .any (fun w args => (s.pre enc C.prog fn conds apart w args ∧ X w args) ∧ sizedMet enc C.prog fn (OpenSpec.ofChange s) apart w args) (s.post enc C.prog fn apart fresh handsOn again) := by
  refine returnsInHanded_of_calls own started noInit witness ?_
  intro w tape i _ hsh _ hok hpre _
  obtain ⟨_, _, _, fn', hfn', _, _, _, _, hval⟩ := hok
  obtain rfl : fn' = fn := Option.some.inj (hfn'.symm.trans hfn)
  obtain ⟨⟨⟨ds, gs, before, hw, hc⟩, hx⟩, hz⟩ := hpre
  have hw' := DataW.Whole.of_heap (w' := w.forCall tape i) (by rfl) hw
  refine (contract (w.forCall tape i) w.heap.size i.args ds gs before hval hw' hc (hz.weights hw) (hX _ _ _ (by rfl) hx) hsh).mono fun e W' ⟨v, he, hp⟩ => ?_
  subst he
  exact ChangeSpec.post_blind hp
end Go.Proofs.YtghjbnbkfohmlaaDoor
