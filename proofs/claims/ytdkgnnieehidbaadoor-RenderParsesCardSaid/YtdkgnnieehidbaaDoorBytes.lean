/-
  An array of bytes as a list of numbers.
-/
import Derived.Test.YtdkgnnieehidbaaDoorPtr
namespace Go.Proofs.YtdkgnnieehidbaaDoor
open Go Go.RowKit
set_option linter.unusedVariables false
def fl (f : List Int) : Array Value := (f.map (Value.int .u8)).toArray
theorem fl_len (f : List Int) : (fl f).size = f.length := by simp [fl]
theorem fl_size {f : List Int} {m : Nat} (h : f.length = m) : (fl f).size = m := by rw [fl_len, h]
theorem fl_one (f : List Int) : (fl f).toList.all Value.oneCell' = true := by
  refine List.all_eq_true.2 fun v hv => ?_
  simp only [fl, List.mem_map] at hv
  obtain ⟨x, _, rfl⟩ := hv
  rfl
theorem ints_one (l : List Int) (k : IntKind) : ∀ u ∈ l.map (Value.int k), u.oneCell' = true := fun u hu => by
  obtain ⟨x, _, rfl⟩ := List.mem_map.1 hu
  rfl
theorem fl_at {l : List Int} {k : Nat} (h : k < l.length) : (fl l)[k]? = some (.int .u8 (l.getD k 0)) := by
  simp [fl, List.getD, h]
theorem fl_set (l : List Int) (k : Nat) (v : Int) : (fl l).setIfInBounds k (.int .u8 v) = fl (l.set k v) := by
  simp [fl, List.map_set]
theorem fl_rd {w0 w : World} {S : List Nat} {H G : List Res} {b : Nat} {l : List Int} {T : TypeId} {fr : Nat × Nat} [hp : HasBlk b H (.cells (fl l) T fr) G] (hw : Sat w0 S H w) (n : Nat) : Rd w (some ⟨b, 0, none⟩) ((l.take n).map (Value.int .u8)) := by
  refine Rd.blk (hw.look hp.pick) fun j u hj => ?_
  rw [List.map_take, List.getElem?_take] at hj
  split at hj
  · rw [Nat.zero_add]
    simpa [fl] using hj
  · cases hj
theorem fl_rdA {w0 w : World} {S : List Nat} {H G : List Res} {b : Nat} {l : List Int} {T : TypeId} {fr : Nat × Nat} [hp : HasBlk b H (.cells (fl l) T fr) G] (hw : Sat w0 S H w) : Rd w (some ⟨b, 0, none⟩) (l.map (Value.int .u8)) := by
  have h := fl_rd (b := b) (l := l) hw l.length
  rwa [List.take_length] at h
theorem ok_ints8 : ∀ (l : List Value) (m : Nat), l.length = m → (∀ v ∈ l, ∃ n, v = .int .u8 n) → cellsOk (List.replicate m (.i .u8)) l = true
  | [], 0, _, _ => rfl
  | [], m + 1, h, _ => by simp at h
  | v :: l, 0, h, _ => by simp at h
  | v :: l, m + 1, h, hv => by
    obtain ⟨n, rfl⟩ := hv v (.head _)
    simp only [List.replicate_succ, cellsOk, leafOk, decide_true, Bool.true_and]
    exact ok_ints8 l m (by simpa using h) fun v hv' => hv v (.tail _ hv')
theorem fl_ok {l : List Int} {m : Nat} (h : l.length = m) : cellsOk (List.replicate m (.i .u8)) (fl l).toList = true := by
  refine ok_ints8 _ _ (by simp [fl, h]) fun v hv => ?_
  simp only [fl, List.mem_map] at hv
  obtain ⟨x, _, rfl⟩ := hv
  exact ⟨_, rfl⟩
theorem fl_self {l : List Int} {m : Nat} (h : l.length = m) : cellsEq (fl l).toList (fl l).toList = true := cellsEq_self (fl_ok h)
/-- what is said of an argument that is an array of bytes -/
theorem bytes_of_wf {m : Nat} : ∀ {cs : List Value} {m : Nat}, cellsOk (List.replicate m (.i .u8)) cs = true → ∃ l : List Int, l.length = m ∧ cs = l.map (Value.int .u8)
  | [], 0, _ => ⟨[], rfl, rfl⟩
  | [], m + 1, h => by simp [List.replicate_succ, cellsOk] at h
  | v :: cs, 0, h => by simp [cellsOk] at h
  | v :: cs, m + 1, h => by
    simp only [List.replicate_succ, cellsOk, Bool.and_eq_true] at h
    obtain ⟨l, hl, rfl⟩ := bytes_of_wf (m := m) h.2
    have hv : ∃ n, v = .int .u8 n := by
      cases v <;> simp [leafOk] at h
      obtain ⟨rfl, _⟩ := h
      exact ⟨_, rfl⟩
    obtain ⟨n, rfl⟩ := hv
    exact ⟨n :: l, by simp [hl], rfl⟩
end Go.Proofs.YtdkgnnieehidbaaDoor
