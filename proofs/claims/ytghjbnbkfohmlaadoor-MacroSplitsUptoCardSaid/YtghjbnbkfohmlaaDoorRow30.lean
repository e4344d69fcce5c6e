/-
  Macros (chapter 30): what a row's argument tells that is a slice of strings, or a slice of slices of key events.
-/
import Derived.Test.YtghjbnbkfohmlaaDoorFlats
import Derived.Test.YtghjbnbkfohmlaaDoorSame30
namespace Go.Proofs.YtghjbnbkfohmlaaDoor
open Go Go.RowKit Go.ChangeShapes Go.WideShapes Go.ChangeAt
set_option linter.unusedVariables false
set_option maxRecDepth 4000
theorem trod_each {H' : Type} {enc : TypeId × Value → H'} {P : Program} {W : World} {t e : TypeId} {cs0 : List Value} {y0 : DataW H' × List MemPlace} {fuel m : Nat} {Q : List Value → Prop} (hu : P.underlying t = some (.slice e)) (hco : P.cellsOf e = m) (h0 : 0 < m)
    (hq : ∀ n cs y, cs.length = m → DataW.trod enc P W 0 (fun _ => true) true n e cs = some y → Q cs)
    (hf : DataW.trod enc P W 0 (fun _ => true) true fuel t cs0 = some y0) :
    ∃ (A : Option Addr) (len c : Nat) (ch : Nat → List Value), cs0 = [.slice A len c] ∧ (∀ i, i < len → Q (ch i)) ∧ Rd W A ((List.range len).flatMap ch) ∧ len ≤ c := by
  rcases DataW.trod_slice hu hf with ⟨hcs, _⟩ | ⟨a, len, cap, elems, rest, n, _, hcs, _, hb, hlc, hm, hlen, hel, _, _⟩
  · exact ⟨none, 0, 0, fun _ => [], hcs, fun i hi => by omega, Rd.nil _ _, Nat.le_refl _⟩
  · have each : ∀ i, i < len → ∃ cs, W.cells? 0 (a.add (i * m)) m = some cs ∧ Q cs := fun i hi => by
      have h1 := hel i hi
      rw [List.getElem?_eq_getElem (by omega), Option.bind_eq_some_iff, hco] at h1
      obtain ⟨cs, h2, h3⟩ := h1
      exact ⟨cs, h2, hq _ _ _ (World.cells?_some h2).2.1 h3⟩
    have hch : ∀ i, ∃ cs, i < len → W.cells? 0 (a.add (i * m)) m = some cs ∧ Q cs := fun i => by
      by_cases hi : i < len
      · obtain ⟨cs, h1⟩ := each i hi
        exact ⟨cs, fun _ => h1⟩
      · exact ⟨[], fun h => absurd h hi⟩
    refine ⟨_, _, _, fun i => Classical.choose (hch i), hcs, fun i hi => (Classical.choose_spec (hch i) hi).2, ?_, hlc⟩
    generalize hF : (fun i => Classical.choose (hch i)) = F
    have hF2 : ∀ i, i < len → W.cells? 0 (a.add (i * m)) m = some (F i) := fun i hi => by rw [← hF]; exact (Classical.choose_spec (hch i) hi).1
    obtain ⟨c1, c2⟩ := chunk_at (f := F) h0 (len := len) (fun i hi => (World.cells?_some (hF2 i hi)).2.1)
    intro j u hj
    have hjl : j < len * m := by rw [← c1]; exact (List.getElem?_eq_some_iff.1 hj).1
    rw [c2 j hjl] at hj
    have hq : j / m < len := by
      rw [Nat.div_lt_iff_lt_mul h0]; exact hjl
    have hl0 : 0 < len := Nat.lt_of_le_of_lt (Nat.zero_le _) hq
    have hr : j % m < m := Nat.mod_lt _ h0
    have key := (World.cells?_some (hF2 _ hq)).2.2 _ hr
    rw [hj] at key
    obtain ⟨b, o, s⟩ := a
    have hs : s = none := by
      have h0' := (World.cells?_some (hF2 0 hl0)).2.2 0 h0
      have h1 := (World.cells?_some (hF2 0 hl0)).2.1
      rw [Nat.zero_mul, List.getElem?_eq_getElem (by omega)] at h0'
      simp only [Addr.add, if_true, World.cell?] at h0'
      cases s with
      | none => rfl
      | some x =>
        split at h0'
        · simp at h0'
        · cases h0'
    subst hs
    refine ⟨b, o, rfl, ?_⟩
    rw [addr_add, addr_add] at key
    rw [← key]
    congr 2
    have := Nat.div_add_mod j m
    rw [Nat.mul_comm] at this
    omega
theorem flat_list {α : Type} {Q : α → List Value → Prop} {ch : Nat → List Value} : ∀ {len : Nat}, (∀ i, i < len → ∃ s, Q s (ch i)) → ∃ l : List α, l.length = len ∧ ∀ i (h : i < l.length), Q l[i] (ch i)
  | 0, _ => ⟨[], rfl, fun i h => (by simp at h)⟩
  | len + 1, h => by
    obtain ⟨l, h1, h2⟩ := flat_list (len := len) (fun i hi => h i (by omega))
    obtain ⟨c, hc⟩ := h len (by omega)
    refine ⟨l ++ [c], by simp [h1], fun i hi => ?_⟩
    by_cases hlt : i < l.length
    · rw [List.getElem_append_left hlt]; exact h2 i hlt
    · have e : i = l.length := by
        rw [List.length_append, List.length_singleton] at hi
        omega
      subst e
      rw [List.getElem_append_right (Nat.le_refl _)]
      simp only [Nat.sub_self, List.getElem_singleton]
      rw [h1]
      exact hc
theorem one_map {f : Nat → Value} {ch : Nat → List Value} : ∀ {len : Nat}, (∀ i, i < len → ch i = [f i]) → (List.range len).flatMap ch = (List.range len).map f
  | 0, _ => rfl
  | len + 1, h => by
    rw [List.range_succ, List.flatMap_append, List.map_append, one_map (len := len) (fun i hi => h i (by omega)), List.flatMap_cons, List.flatMap_nil, List.append_nil, h len (by omega)]
    rfl
/-- a slice of strings -/
theorem row_strs {H' : Type} {enc : TypeId × Value → H'} {P : Program} {W : World} {base : Nat} {t e : TypeId} {v : Value} {d : DataW H'} {ps : List MemPlace} (hu : P.underlying t = some (.slice e)) (he : P.underlying e = some .string) (hc : P.cellsOf e = 1)
    (hv : Value.okWide P W .any base t v) (h : DataW.Trod enc P W 0 (fun _ => true) true t v d ps) :
    ∃ (A : Option Addr) (c : Nat) (l : List (List UInt8)), v = .slice A l.length c ∧ Rd W A (l.map txV) ∧ ∀ x ∈ ps, x.block < W.heap.size := by
  obtain ⟨A0, len0, c0, rfl⟩ := okWide_slice hu hv
  obtain ⟨fuel, hf⟩ := h
  have hlt : ∀ x ∈ ps, x.block < W.heap.size := DataW.trod_lt fuel _ _ _ hf
  obtain ⟨A, len, c, ch, e1, hq, hr, _⟩ := trod_each (Q := fun cs => ∃ l : List UInt8, cs = [txV l]) hu hc (by decide) (fun n cs y hl ht => by
    obtain ⟨s, hs, _, _⟩ := DataW.trod_string he ht
    exact ⟨s.data.toList, hs⟩) hf
  simp [Value.cells] at e1
  obtain ⟨rfl, rfl, rfl⟩ := e1
  obtain ⟨l, hl, hi⟩ := flat_list (Q := fun (s : List UInt8) cs => cs = [txV s]) hq
  subst hl
  refine ⟨A0, c0, l, rfl, ?_, hlt⟩
  have e2 : (List.range l.length).flatMap ch = l.map txV := by
    rw [one_map (f := fun i => txV (l.getD i [])) (fun i h => by rw [hi i h, List.getD_eq_getElem?_getD, List.getElem?_eq_getElem h]; rfl)]
    apply List.ext_getElem (by simp)
    intro i h1 h2
    simp only [List.getElem_map, List.getElem_range]
    rw [List.getD_eq_getElem?_getD, List.getElem?_eq_getElem (by simpa using h2)]
    rfl
  rw [← e2]
  exact hr
theorem ev_leaves : leaves Tryd.prog 40 32 = some [.i .i64, .b] := by kernel_rfl
theorem ev_cells : Tryd.prog.cellsOf 32 = 2 := by kernel_rfl
theorem evs_cells : Tryd.prog.cellsOf 25 = 1 := by kernel_rfl
/-- a slice of key events -/
theorem trod_evs {H' : Type} {enc : TypeId × Value → H'} {W : World} {cs0 : List Value} {y0 : DataW H' × List MemPlace} {fuel : Nat} (hf : DataW.trod enc Tryd.prog W 0 (fun _ => true) true fuel 25 cs0 = some y0) :
    ∃ (A : Option Addr) (c : Nat) (f : List Ev), cs0 = [.slice A f.length c] ∧ Rd W A (evsL f) := by
  obtain ⟨A, len, c, ch, e1, hq, hr, _⟩ := trod_each (Q := fun cs => cellsWf [.i .i64, .b] cs = true) Tryd.underlying25 ev_cells (by decide) (fun n cs y hl ht => trod_leaves 40 32 _ ev_leaves n _ _ ht (by rw [hl]; rfl)) hf
  obtain ⟨f, hl, hi⟩ := flat_list (ch := ch) (len := len) (Q := fun (x : Ev) cs => cs = [.int .i64 x.1, .bool x.2]) (fun i h => by
    obtain ⟨a, v1, h1, _, h2⟩ := cellsWf_int (hq i h)
    obtain ⟨b, v2, h3, h4⟩ := cellsWf_bool h2
    exact ⟨(a, b), by rw [h1, h3, cellsWf_nil h4]⟩)
  subst hl
  refine ⟨A, c, f, e1, ?_⟩
  have key : ∀ (g : List Ev) (ch : Nat → List Value), (∀ i (h : i < g.length), ch i = [.int .i64 g[i].1, .bool g[i].2]) → (List.range g.length).flatMap ch = evsL g := by
    intro g
    induction g with
    | nil => intro ch h; rw [evsL_nil]; rfl
    | cons x g ih =>
      intro ch h
      have h1 := ih (fun i => ch (i + 1)) (fun i hi => by have := h (i + 1) (by simpa using hi); simpa using this)
      have h0 := h 0 (by simp)
      rw [List.length_cons, List.range_succ_eq_map, List.flatMap_cons, evsL_cons, h0, List.flatMap_map]
      show _ :: _ :: _ = _
      rw [← h1]
      rfl
  rw [← key f ch hi]
  exact hr
/-- a slice of slices of key events -/
theorem row_frames {H' : Type} {enc : TypeId × Value → H'} {W : World} {base : Nat} {v : Value} {d : DataW H'} {ps : List MemPlace} (hv : Value.okWide Tryd.prog W .any base 22 v) (h : DataW.Trod enc Tryd.prog W 0 (fun _ => true) true 22 v d ps) :
    ∃ (A : Option Addr) (c : Nat) (hv1 : List Value) (fs : List (List Ev)), v = .slice A fs.length c ∧ Rd W A hv1 ∧ FrRd W hv1 fs ∧ ∀ x ∈ ps, x.block < W.heap.size := by
  obtain ⟨A0, len0, c0, rfl⟩ := okWide_slice Tryd.underlying22 hv
  obtain ⟨fuel, hf⟩ := h
  have hlt : ∀ x ∈ ps, x.block < W.heap.size := DataW.trod_lt fuel _ _ _ hf
  obtain ⟨A, len, c, ch, e1, hq, hr, _⟩ := trod_each (Q := fun cs => ∃ (A : Option Addr) (c : Nat) (f : List Ev), cs = [.slice A f.length c] ∧ Rd W A (evsL f)) Tryd.underlying22 evs_cells (by decide) (fun n cs y hl ht => trod_evs ht) hf
  simp [Value.cells] at e1
  obtain ⟨rfl, rfl, rfl⟩ := e1
  obtain ⟨l, hl, hi⟩ := flat_list (ch := ch) (len := len0) (Q := fun (x : Option Addr × Nat × List Ev) cs => cs = [.slice x.1 x.2.2.length x.2.1] ∧ Rd W x.1 (evsL x.2.2)) (fun i h => by
    obtain ⟨A, c, f, h1, h2⟩ := hq i h
    exact ⟨(A, c, f), h1, h2⟩)
  subst hl
  refine ⟨A0, c0, (List.range l.length).flatMap ch, l.map fun x => x.2.2, by rw [List.length_map], hr, ⟨?_, fun i h => ?_⟩, hlt⟩
  · rw [one_map (f := fun i => ((ch i)[0]?).getD (.int .i64 0)) (fun i h => by rw [(hi i h).1]; rfl)]
    simp
  · rw [List.length_map] at h
    refine ⟨l[i].1, l[i].2.1, ?_, ?_⟩
    · rw [one_map (f := fun i => ((ch i)[0]?).getD (.int .i64 0)) (fun i h => by rw [(hi i h).1]; rfl), List.getElem?_map, List.getElem?_range h]
      simp only [Option.map_some, List.getElem_map]
      rw [(hi i h).1]
      rfl
    · simp only [List.getElem_map]
      exact (hi i h).2
end Go.Proofs.YtghjbnbkfohmlaaDoor
