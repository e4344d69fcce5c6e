/-
  What a row's argument tells that is a slice of flat structs: its elements' cells, each in its range.
-/
import Derived.Test.YtghjbnbkfohmlaaDoorFlat
import Derived.Test.YtghjbnbkfohmlaaDoorRowk
namespace Go.Proofs.YtghjbnbkfohmlaaDoor
open Go Go.RowKit Go.ChangeShapes Go.WideShapes Go.ChangeAt
set_option linter.unusedVariables false
theorem chunk_at {f : Nat → List Value} {m : Nat} (hm : 0 < m) : ∀ {len : Nat}, (∀ i, i < len → (f i).length = m) → ((List.range len).flatMap f).length = len * m ∧ ∀ j, j < len * m → ((List.range len).flatMap f)[j]? = (f (j / m))[j % m]?
  | 0, _ => ⟨by simp, fun j hj => by omega⟩
  | len + 1, h => by
    obtain ⟨h1, h2⟩ := chunk_at hm (len := len) (fun i hi => h i (by omega))
    have h3 := h len (by omega)
    rw [List.range_succ, List.flatMap_append, List.flatMap_cons, List.flatMap_nil, List.append_nil]
    refine ⟨by rw [List.length_append, h1, h3, Nat.succ_mul], fun j hj => ?_⟩
    rw [Nat.succ_mul] at hj
    rw [List.getElem?_append, h1]
    by_cases hlt : j < len * m
    · rw [if_pos hlt, h2 j hlt]
    · rw [if_neg hlt]
      have e : j = len * m + (j - len * m) := by omega
      have e1 : j / m = len := by
        rw [e, Nat.mul_comm, Nat.mul_add_div hm, Nat.div_eq_of_lt (by rw [Nat.mul_comm]; omega), Nat.add_zero]
      have e2 : j % m = j - len * m := by
        have := Nat.div_add_mod j m
        rw [e1, Nat.mul_comm] at this
        omega
      rw [e1, e2]
theorem row_flats {H' : Type} {enc : TypeId × Value → H'} {P : Program} {W : World} {base : Nat} {t e : TypeId} {v : Value} {d : DataW H'} {ps : List MemPlace} {dp : Nat} {ls : List LeafK} (hu : P.underlying t = some (.slice e)) (hl : leaves P dp e = some ls) (h0 : 0 < ls.length)
    (hv : Value.okWide P W .any base t v) (h : DataW.Trod enc P W 0 (fun _ => true) true t v d ps) :
    ∃ (A : Option Addr) (len c : Nat) (ch : Nat → List Value), v = .slice A len c ∧ (∀ i, i < len → cellsWf ls (ch i) = true) ∧ Rd W A ((List.range len).flatMap ch) ∧ (∀ x ∈ ps, x.block < W.heap.size) ∧ len ≤ c := by
  have hco : P.cellsOf e = ls.length := cellsOf_of (leaves_size hl).1
  obtain ⟨A, len, c, rfl⟩ := okWide_slice hu hv
  obtain ⟨fuel, hf⟩ := h
  have hlt : ∀ x ∈ ps, x.block < W.heap.size := DataW.trod_lt fuel _ _ _ hf
  rcases DataW.trod_slice hu hf with ⟨hcs, _⟩ | ⟨a, len', cap, elems, rest, n, _, hcs, _, hb, hlc, hm, hlen, hel, _, _⟩
  · simp [Value.cells] at hcs
    obtain ⟨rfl, rfl, rfl⟩ := hcs
    exact ⟨none, 0, 0, fun _ => [], rfl, fun i hi => by omega, Rd.nil _ _, hlt, Nat.le_refl _⟩
  · simp [Value.cells] at hcs
    obtain ⟨rfl, rfl, rfl⟩ := hcs
    have each : ∀ i, i < len → ∃ cs, W.cells? 0 (a.add (i * ls.length)) ls.length = some cs ∧ cellsWf ls cs = true := fun i hi => by
      have h1 := hel i hi
      rw [List.getElem?_eq_getElem (by omega), Option.bind_eq_some_iff, hco] at h1
      obtain ⟨cs, h2, h3⟩ := h1
      exact ⟨cs, h2, trod_leaves dp e ls hl n _ _ h3 (World.cells?_some h2).2.1⟩
    have hch : ∀ i, ∃ cs, i < len → W.cells? 0 (a.add (i * ls.length)) ls.length = some cs ∧ cellsWf ls cs = true := fun i => by
      by_cases hi : i < len
      · obtain ⟨cs, h1⟩ := each i hi
        exact ⟨cs, fun _ => h1⟩
      · exact ⟨[], fun h => absurd h hi⟩
    refine ⟨_, _, _, fun i => Classical.choose (hch i), rfl, fun i hi => (Classical.choose_spec (hch i) hi).2, ?_, hlt, hlc⟩
    generalize hF : (fun i => Classical.choose (hch i)) = F
    have hF2 : ∀ i, i < len → W.cells? 0 (a.add (i * ls.length)) ls.length = some (F i) := fun i hi => by rw [← hF]; exact (Classical.choose_spec (hch i) hi).1
    obtain ⟨c1, c2⟩ := chunk_at (f := F) h0 (len := len) (fun i hi => (World.cells?_some (hF2 i hi)).2.1)
    intro j u hj
    have hjl : j < len * ls.length := by rw [← c1]; exact (List.getElem?_eq_some_iff.1 hj).1
    rw [c2 j hjl] at hj
    have hq : j / ls.length < len := by
      rw [Nat.div_lt_iff_lt_mul h0]; exact hjl
    have hl0 : 0 < len := Nat.lt_of_le_of_lt (Nat.zero_le _) hq
    have hr : j % ls.length < ls.length := Nat.mod_lt _ h0
    have key := (World.cells?_some (hF2 _ hq)).2.2 _ hr
    rw [hj] at key
    obtain ⟨b, o, s⟩ := a
    have hs : s = none := by
      have h0' := (World.cells?_some (hF2 0 hl0)).2.2 0 h0
      have h1 := (World.cells?_some (hF2 0 hl0)).2.1
      rw [Nat.zero_mul, List.getElem?_eq_getElem (by omega)] at h0'
      simp only [Addr.add, if_true, World.cell?] at h0'
      cases s with
      | none => rfl
      | some x =>
        split at h0'
        · simp at h0'
        · cases h0'
    subst hs
    refine ⟨b, o, rfl, ?_⟩
    rw [addr_add, addr_add] at key
    rw [← key]
    congr 2
    have := Nat.div_add_mod j ls.length
    rw [Nat.mul_comm] at this
    omega
theorem cellsWf_ints (k : IntKind) : ∀ {m : Nat} {ks : List LeafK} {vs : List Value}, cellsWf (List.replicate m (.i k) ++ ks) vs = true → ∃ (l : List Int) (vs' : List Value), vs = l.map (Value.int k) ++ vs' ∧ l.length = m ∧ (∀ n ∈ l, (Lit.int k n).wf = true) ∧ cellsWf ks vs' = true
  | 0, ks, vs, h => ⟨[], vs, rfl, rfl, fun n hn => (by cases hn), h⟩
  | m + 1, ks, vs, h => by
    rw [List.replicate_succ, List.cons_append] at h
    obtain ⟨n, vs', rfl, hw, hr⟩ := cellsWf_int h
    obtain ⟨l, vs2, rfl, hl, ha, hk⟩ := cellsWf_ints k hr
    exact ⟨n :: l, vs2, rfl, by simp [hl], fun z hz => by
      rcases List.mem_cons.1 hz with rfl | hz
      · exact hw
      · exact ha z hz, hk⟩
end Go.Proofs.YtghjbnbkfohmlaaDoor
