/-
  What a row's argument tells that is an array or a struct of numbers, Bools and strings: its cells, each in its range.
-/
import Derived.Test.YtghjbnbkfohmlaaDoorEq
import Derived.WalkKit
import Derived.ProofKit
import Derived.SizedLaws
namespace Go.Proofs.YtghjbnbkfohmlaaDoor
open Go Go.RowKit Go.ChangeShapes Go.WideShapes
set_option linter.unusedVariables false
def leafWf : LeafK → Value → Bool
  | .b, .bool _ => true
  | .s, .string s => decide (s.size ≤ maxLen)
  | .i k, .int k' n => decide (k = k') && (Lit.int k n).wf
  | _, _ => false
def cellsWf : List LeafK → List Value → Bool
  | [], [] => true
  | k :: ks, v :: vs => leafWf k v && cellsWf ks vs
  | _, _ => false
theorem leafWf_ok {k : LeafK} {v : Value} (h : leafWf k v = true) : leafOk k v = true := by
  cases k <;> cases v <;> simp_all [leafWf, leafOk]
theorem cellsWf_ok : ∀ {ks : List LeafK} {vs : List Value}, cellsWf ks vs = true → cellsOk ks vs = true
  | [], [], _ => rfl
  | [], _ :: _, h => by simp [cellsWf] at h
  | _ :: _, [], h => by simp [cellsWf] at h
  | k :: ks, v :: vs, h => by
    simp only [cellsWf, Bool.and_eq_true] at h
    simp only [cellsOk, Bool.and_eq_true]
    exact ⟨leafWf_ok h.1, cellsWf_ok h.2⟩
theorem cellsWf_append : ∀ {k1 : List LeafK} {k2 : List LeafK} {v1 v2 : List Value}, cellsWf k1 v1 = true → cellsWf k2 v2 = true → cellsWf (k1 ++ k2) (v1 ++ v2) = true
  | [], _, [], _, _, h => h
  | [], _, _ :: _, _, h, _ => by simp [cellsWf] at h
  | _ :: _, _, [], _, h, _ => by simp [cellsWf] at h
  | k :: ks, k2, v :: vs, v2, h, h2 => by
    simp only [cellsWf, Bool.and_eq_true] at h
    simp only [List.cons_append, cellsWf, Bool.and_eq_true]
    exact ⟨h.1, cellsWf_append h.2 h2⟩
theorem mapM_all {α β : Type} {f : α → Option β} : ∀ {l : List α} {r : List β}, l.mapM f = some r → ∀ a ∈ l, ∃ y, f a = some y
  | [], _, _, a, ha => by cases ha
  | x :: l, r, h, a, ha => by
    rw [List.mapM_cons] at h
    cases hx : f x with
    | none => rw [hx] at h; cases h
    | some y =>
      rw [hx] at h
      cases hl : l.mapM f with
      | none => rw [hl] at h; cases h
      | some r' =>
        rcases List.mem_cons.1 ha with rfl | ha
        · exact ⟨y, hx⟩
        · exact mapM_all hl a ha
section
variable {H' : Type} {enc : TypeId × Value → H'} {P : Program} {w : World} {base : Nat} {spare : Nat → Bool} {held : Bool}
theorem cellsOf_of {t : TypeId} {m : Nat} (h : (P.info? t).map (·.size) = some m) : P.cellsOf t = m := by
  simp [Program.cellsOf, h]
theorem wf_fields {rec : TypeId → Option (List LeafK)} {n : Nat} (cs : List Value) (hr : ∀ t l, rec t = some l → P.cellsOf t = l.length)
    (ih : ∀ t l, rec t = some l → ∀ cs y, DataW.trod enc P w base spare held n t cs = some y → cs.length = l.length → cellsWf l cs = true) :
    ∀ (fs : List Field) (off : Nat) (l : List LeafK), leavesF rec fs off = some l → (∀ f ∈ fs, ∃ y, DataW.trod enc P w base spare held n f.type ((cs.drop f.offset).take (P.cellsOf f.type)) = some y) → cs.length = off + l.length → cellsWf l (cs.drop off) = true
  | [], off, l, h, _, hl => by
    simp only [leavesF, Option.some.injEq] at h
    subst h
    rw [List.drop_of_length_le (by simp at hl; omega)]
    rfl
  | f :: fs, off, l, h, hm, hl => by
    unfold leavesF at h
    split at h
    · cases h
    · rename_i hno
      have ho : f.offset = off := Classical.byContradiction fun hne => hno (.inr hne)
      cases hf : rec f.type with
      | none => rw [hf] at h; cases h
      | some lf =>
        simp only [hf] at h
        split at h
        · cases h
        · cases hrest : leavesF rec fs (off + lf.length) with
          | none => rw [hrest] at h; cases h
          | some l' =>
            rw [hrest] at h
            simp only [Option.map_some, Option.some.injEq] at h
            subst h
            rw [List.length_append] at hl
            obtain ⟨y, hy⟩ := hm f (.head _)
            rw [ho, hr _ _ hf] at hy
            have h1 := ih _ _ hf _ _ hy (by simp; omega)
            have h2 := wf_fields cs hr ih fs (off + lf.length) l' hrest (fun g hg => hm g (.tail _ hg)) (by omega)
            have h3 := cellsWf_append h1 h2
            rwa [← List.drop_drop, List.take_append_drop] at h3
theorem wf_elems {n e : Nat} {l : List LeafK} (cs : List Value) (he : P.cellsOf e = l.length)
    (ih : ∀ cs y, DataW.trod enc P w base spare held n e cs = some y → cs.length = l.length → cellsWf l cs = true) :
    ∀ (m i : Nat), (∀ j, j < i + m → ∃ y, DataW.trod enc P w base spare held n e ((cs.drop (j * P.cellsOf e)).take (P.cellsOf e)) = some y) → cs.length = (i + m) * l.length → cellsWf (List.replicate m l).flatten (cs.drop (i * l.length)) = true
  | 0, i, _, hl => by
    rw [List.drop_of_length_le (by simp at hl; omega)]
    rfl
  | m + 1, i, hm, hl => by
    have hl2 : cs.length = i * l.length + l.length + m * l.length := by
      rw [hl, Nat.add_mul, Nat.succ_mul]; omega
    obtain ⟨y, hy⟩ := hm i (by omega)
    rw [he] at hy
    have h1 := ih _ _ hy (by simp; omega)
    have h2 := wf_elems cs he ih m (i + 1) (fun j hj => hm j (by omega)) (by rw [hl]; congr 1; omega)
    rw [List.replicate_succ, List.flatten_cons]
    have h3 := cellsWf_append h1 h2
    rwa [show (i + 1) * l.length = i * l.length + l.length by rw [Nat.succ_mul], ← List.drop_drop, List.take_append_drop] at h3
theorem trod_leaves : ∀ (d : Nat) (t : TypeId) (l : List LeafK), leaves P d t = some l → ∀ (fuel : Nat) (cs : List Value) (y : DataW H' × List MemPlace), DataW.trod enc P w base spare held fuel t cs = some y → cs.length = l.length → cellsWf l cs = true
  | 0, _, _, h, _, _, _, _, _ => by simp [leaves] at h
  | d + 1, t, l, h, 0, cs, y, ht, _ => by simp [DataW.trod] at ht
  | d + 1, t, l, h, fuel + 1, cs, y, ht, hlen => by
    have hr : ∀ t l, leaves P d t = some l → P.cellsOf t = l.length := fun t l hl => cellsOf_of (leaves_size hl).1
    have ih := fun t l hl cs y => trod_leaves d t l hl fuel cs y
    unfold leaves at h
    split at h
    · rename_i hu hs
      simp only [Option.some.injEq] at h
      subst h
      unfold DataW.trod at ht
      rw [hu] at ht
      cases cs with
      | nil => simp at hlen
      | cons v cs =>
        cases cs with
        | cons _ _ => simp at hlen
        | nil => cases v <;> first | rfl | (simp at ht)
    · rename_i hu hs
      simp only [Option.some.injEq] at h
      subst h
      unfold DataW.trod at ht
      rw [hu] at ht
      cases cs with
      | nil => simp at hlen
      | cons v cs =>
        cases cs with
        | cons _ _ => simp at hlen
        | nil =>
          cases v <;> first | (simp at ht; done) | skip
          simp only at ht
          split at ht
          · rename_i hsz; simp [cellsWf, leafWf, hsz]
          · cases ht
    · rename_i k hu hs
      simp only [Option.some.injEq] at h
      subst h
      unfold DataW.trod at ht
      rw [hu] at ht
      cases cs with
      | nil => simp at hlen
      | cons v cs =>
        cases cs with
        | cons _ _ => simp at hlen
        | nil =>
          cases v <;> first | (simp at ht; done) | skip
          simp only at ht
          split at ht
          · rename_i hk; obtain ⟨rfl, hw⟩ := hk; simp [cellsWf, leafWf, hw]
          · cases ht
    · rename_i fs n hu hs
      split at h
      · cases h
      · split at h
        · rename_i l0 hl0
          split at h
          · simp only [Option.some.injEq] at h
            subst h
            unfold DataW.trod at ht
            simp only [hu] at ht
            split at ht
            · obtain ⟨xs, hxs, _⟩ := Option.map_eq_some_iff.1 ht
              have h0 := wf_fields (enc := enc) (w := w) (base := base) (spare := spare) (held := held) (n := fuel) cs hr ih fs.toList 0 l0 hl0 (fun f hf => mapM_all hxs f hf) (by omega)
              simpa using h0
            · cases ht
          · cases h
        · cases h
    · rename_i m e n hu hs
      split at h
      · rename_i l0 hl0
        split at h
        · rename_i hn
          simp only [Option.some.injEq] at h
          subst h
          unfold DataW.trod at ht
          simp only [hu] at ht
          split at ht
          · obtain ⟨xs, hxs, _⟩ := Option.map_eq_some_iff.1 ht
            have h0 := wf_elems (enc := enc) (w := w) (base := base) (spare := spare) (held := held) (n := fuel) cs (hr _ _ hl0) (fun cs y => ih _ _ hl0 cs y) m 0 (fun j hj => mapM_all hxs j (List.mem_range.2 (by omega))) (by rw [hlen]; simp [List.length_flatten])
            simpa using h0
          · cases ht
        · cases h
      · cases h
    · cases h
end
theorem cellsWf_int {k : IntKind} {ks : List LeafK} {vs : List Value} (h : cellsWf (.i k :: ks) vs = true) : ∃ n vs', vs = .int k n :: vs' ∧ (Lit.int k n).wf = true ∧ cellsWf ks vs' = true := by
  cases vs with
  | nil => simp [cellsWf] at h
  | cons v vs =>
    simp only [cellsWf, Bool.and_eq_true] at h
    cases v <;> first | (simp [leafWf] at h; done) | skip
    have h1 := h.1
    simp only [leafWf, Bool.and_eq_true, decide_eq_true_eq] at h1
    obtain ⟨rfl, hw⟩ := h1
    exact ⟨_, vs, rfl, hw, h.2⟩
theorem cellsWf_bool {ks : List LeafK} {vs : List Value} (h : cellsWf (.b :: ks) vs = true) : ∃ n vs', vs = .bool n :: vs' ∧ cellsWf ks vs' = true := by
  cases vs with
  | nil => simp [cellsWf] at h
  | cons v vs =>
    simp only [cellsWf, Bool.and_eq_true] at h
    cases v <;> first | (simp [leafWf] at h; done) | skip
    exact ⟨_, vs, rfl, h.2⟩
theorem cellsWf_nil {vs : List Value} (h : cellsWf [] vs = true) : vs = [] := by
  cases vs with
  | nil => rfl
  | cons v vs => simp [cellsWf] at h
theorem cellsWf_bytes : ∀ {m : Nat} {ks : List LeafK} {vs : List Value}, cellsWf (List.replicate m (.i .u8) ++ ks) vs = true → ∃ (l : List Int) (vs' : List Value), vs = l.map (Value.int .u8) ++ vs' ∧ l.length = m ∧ l.all (fun x => decide (0 ≤ x) && decide (x ≤ 255)) = true ∧ cellsWf ks vs' = true
  | 0, ks, vs, h => ⟨[], vs, rfl, rfl, rfl, h⟩
  | m + 1, ks, vs, h => by
    rw [List.replicate_succ, List.cons_append] at h
    obtain ⟨n, vs', rfl, hw, hr⟩ := cellsWf_int h
    obtain ⟨l, vs2, rfl, hl, ha, hk⟩ := cellsWf_bytes hr
    simp only [Lit.wf, Bool.and_eq_true, decide_eq_true_eq] at hw
    rw [show IntKind.u8.min = 0 from by rfl, show IntKind.u8.max = 255 from by rfl] at hw
    exact ⟨n :: l, vs2, rfl, by simp [hl], by simp [ha, hw.1, hw.2], hk⟩
theorem okWide_agg {P : Program} {W : World} {base : Nat} {t : TypeId} {v : Value} (hg : isAggT P t = some true) (hv : Value.okWide P W .any base t v) : ∃ cs, v = .agg cs ∧ cs.size = P.cellsOf t := by
  unfold Value.okWide at hv
  unfold isAggT at hg
  split at hv
  · obtain ⟨cs, h1, h2, _⟩ := hv; exact ⟨cs, h1, h2⟩
  · obtain ⟨cs, h1, h2, _⟩ := hv; exact ⟨cs, h1, h2⟩
  · rename_i h1 h2
    cases hu : P.underlying t with
    | none => simp [hu] at hg
    | some u =>
      cases u <;> simp [hu] at hg
      all_goals first | exact absurd hu (h1 _) | exact absurd hu (h2 _ _)
theorem row_flat {H' : Type} {enc : TypeId × Value → H'} {P : Program} {W : World} {base : Nat} {t : TypeId} {v : Value} {d : DataW H'} {ps : List MemPlace} {dp : Nat} {ls : List LeafK} (hl : leaves P dp t = some ls) (hg : isAggT P t = some true)
    (hv : Value.okWide P W .any base t v) (h : DataW.Trod enc P W 0 (fun _ => true) true t v d ps) :
    ∃ cs : Array Value, v = .agg cs ∧ cellsWf ls cs.toList = true ∧ (∀ x ∈ ps, x.block < W.heap.size) := by
  obtain ⟨cs, rfl, hsz⟩ := okWide_agg hg hv
  obtain ⟨fuel, hf⟩ := h
  refine ⟨cs, rfl, ?_, DataW.trod_lt fuel _ _ _ hf⟩
  exact trod_leaves dp t ls hl fuel _ _ hf (by rw [Array.length_toList, hsz]; exact cellsOf_of (leaves_size hl).1)
end Go.Proofs.YtghjbnbkfohmlaaDoor
