/-
  Macros (chapter 30): what the bound on the arguments' bulk gives: each string of a slice of strings is short.
-/
import Derived.Test.YtghjbnbkfohmlaaDoorRows
import Derived.Test.YtghjbnbkfohmlaaDoorRow30
import Derived.SliceStrings
namespace Go.Proofs.YtghjbnbkfohmlaaDoor
open Go Go.RowKit Go.ChangeShapes Go.WideShapes Go.ChangeAt
set_option linter.unusedVariables false
set_option maxRecDepth 4000
theorem bulk_part {H : Type} {d : DataW H} {l : List (DataW H)} (h : d ∈ l) : Rows.uptoBulk d ≤ Rows.uptoBulkAll l := by
  induction l with
  | nil => cases h
  | cons x r ih =>
    simp only [Rows.uptoBulkAll]
    rcases List.mem_cons.1 h with e | e
    · subst e; omega
    · have := ih e; omega
theorem bulk_string {H : Type} (bytes : List UInt8) : Rows.uptoBulk (DataW.lit (H := H) (.string bytes)) = bytes.length + 1 := by simp [Rows.uptoBulk]
theorem bulk_slice {H : Type} (elems spare : List (DataW H)) : Rows.uptoBulkAll elems ≤ Rows.uptoBulk (.slice elems spare) := by
  simp only [Rows.uptoBulk]
  omega
theorem bulk_bound {H : Type} {l : List (DataW H)} (hk : Rows.uptoSmall H l = true) : Rows.uptoBulkAll l ≤ 1048576 := of_decide_eq_true hk
theorem strs_bulk {H' : Type} {enc : TypeId × Value → H'} {P : Program} {W : World} {t e : TypeId} {A : Option Addr} {c : Nat} {l : List (List UInt8)} {d : DataW H'} {ps : List MemPlace} (hu : P.underlying t = some (.slice e)) (he : P.underlying e = some .string) (hc : P.cellsOf e = 1)
    (h : DataW.Trod enc P W 0 (fun _ => true) true t (.slice A l.length c) d ps) (hr : Rd W A (l.map txV)) : ∀ x ∈ l, x.length ≤ Rows.uptoBulk d := by
  intro x hx
  obtain ⟨i, hi, rfl⟩ := List.mem_iff_getElem.1 hx
  obtain ⟨b, o, rfl, hcell⟩ := hr i (txV l[i]) (by rw [List.getElem?_map, List.getElem?_eq_getElem hi]; rfl)
  obtain ⟨fuel, hf⟩ := h
  rcases open_strings hu he hc hf with ⟨hcs, _⟩ | ⟨a, len, cap, ss, hcs, _, hl, hm, hz, hx2, hc2, hsz⟩
  · simp [Value.cells] at hcs
  · simp [Value.cells] at hcs
    obtain ⟨rfl, rfl, rfl⟩ := hcs
    have hlen : ss.length = c := by simpa using hz
    have h1 := hc2 i (by omega)
    rw [addr_add] at h1
    rw [h1] at hcell
    have e1 : ss.getD i ByteArray.empty = tx l[i] := by
      have := Option.some.inj hcell
      injection this
    have hi2 : i < ss.length := by omega
    have e2 : ss[i] = tx l[i] := by
      rw [← e1, List.getD_eq_getElem?_getD, List.getElem?_eq_getElem hi2]
      rfl
    have hd : d = .slice (strs (ss.take l.length)) (strs (ss.drop l.length)) := (Prod.mk.inj hx2).1
    have hmem : (DataW.lit (.string (ss[i]).data.toList) : DataW H') ∈ strs (ss.take l.length) := by
      unfold strs
      refine List.mem_map.2 ⟨ss[i], ?_, rfl⟩
      rw [← List.getElem_take (j := l.length) (h := by rw [List.length_take]; omega)]
      exact List.getElem_mem _
    have h2 := bulk_part hmem
    rw [bulk_string, e2] at h2
    have h3 := bulk_slice (strs (H := H') (ss.take l.length)) (strs (ss.drop l.length))
    rw [← hd] at h3
    have h4 : (tx l[i]).data.toList.length = l[i].length := by unfold tx; simp
    omega
end Go.Proofs.YtghjbnbkfohmlaaDoor
