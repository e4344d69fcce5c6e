/-
  What a row's argument of numbers tells, in the words of the walks.
-/
import Derived.Test.YtghjbnbkfohmlaaDoorSlice
import Derived.WalkKit
import Derived.ProofKit
import Derived.SizedLaws
import Derived.ChangeSlices
namespace Go.Proofs.YtghjbnbkfohmlaaDoor
open Go Go.RowKit Go.ChangeShapes Go.WideShapes Go.ChangeAt
set_option linter.unusedVariables false
theorem rd_of_cells {W : World} {a : Addr} {k : IntKind} {zs : List Int} (h : ∀ i, i < zs.length → W.cell? (a.add i) = some (.int k (zs.getD i 0))) : Rd W (some a) (zs.map (Value.int k)) := fun j u hj => by
  have hlt : j < zs.length := by simpa using (List.getElem?_eq_some_iff.1 hj).1
  obtain ⟨b, o, s⟩ := a
  have hs : s = none := by
    have h0 := h 0 (by omega)
    simp only [Addr.add, if_true, World.cell?] at h0
    cases s with
    | none => rfl
    | some x =>
      split at h0
      · simp at h0
      · cases h0
  subst hs
  refine ⟨b, o, rfl, ?_⟩
  have h1 := h j hlt
  rw [addr_add] at h1
  rw [h1, ← hj]
  simp [List.getD, hlt]
theorem row_ints {H' : Type} {enc : TypeId × Value → H'} {P : Program} {W : World} {base : Nat} {t e : TypeId} {k : IntKind} {v : Value} {d : DataW H'} {ps : List MemPlace} {ts : List TypeId} {ds : List (DataW H')} {j : Nat}
    (hsz : (DataW.weightsEach P ts ds).all (· ≤ reachBytes) = true) (ht : ts[j]? = some t) (hd : ds[j]? = some d) (hu : P.underlying t = some (.slice e)) (he : P.underlying e = some (.int k)) (hc : P.cellsOf e = 1) {B : Nat} (hB : P.bytesOf e = B)
    (hv : Value.okWide P W .any base t v) (h : DataW.Trod enc P W 0 (fun _ => true) true t v d ps) :
    ∃ (A : Option Addr) (len c : Nat) (l : List Int), v = .slice A len c ∧ l.length = len ∧ Rd W A (l.map (Value.int k)) ∧ len * B ≤ 140737488351232 ∧ (∀ n ∈ l, (Lit.int k n).wf = true) ∧ (∀ x ∈ ps, x.block < W.heap.size) ∧ len ≤ c := by
  have h' := h
  obtain ⟨A, len, c, rfl⟩ := okWide_slice hu hv
  obtain ⟨fuel, hf⟩ := h
  have hlt : ∀ x ∈ ps, x.block < W.heap.size := DataW.trod_lt fuel _ _ _ hf
  rcases open_ints hu he hc hf with ⟨hcs, _⟩ | ⟨x, l, cp, zs, hcs, _, hl, hm, hz, hx, hcell, hwz⟩
  · simp [Value.cells] at hcs
    obtain ⟨rfl, rfl, rfl⟩ := hcs
    exact ⟨none, 0, 0, [], rfl, rfl, Rd.nil _ _, by simp, by simp, hlt, Nat.le_refl _⟩
  · simp [Value.cells] at hcs
    obtain ⟨rfl, rfl, rfl⟩ := hcs
    have hz' : zs.length = c := by simpa using hz
    obtain ⟨hx, _⟩ := Prod.mk.inj hx
    subst hx
    have z := sized_slice hsz ht hd hu
    rw [hB] at z
    have h1 : (lits (H := H') k (zs.take len)).length + (lits (H := H') k (zs.drop len)).length = zs.length := by
      simp [lits]
      omega
    rw [h1] at z
    refine ⟨_, _, _, zs.take len, rfl, by simp; omega, ?_, Nat.le_trans (Nat.mul_le_mul_right _ (by omega)) z, fun n hn => hwz n (List.mem_of_mem_take hn), hlt, hl⟩
    rw [List.map_take]
    exact (rd_of_cells hcell).take len
end Go.Proofs.YtghjbnbkfohmlaaDoor
