/-
  Rendering (chapter 24): the variables, Itoa, Join. No walk.
-/
import Derived.Test.YtdkgnnieehidbaaDoorHex24
import Derived.Test.YtdkgnnieehidbaaDoorShelf24
import Derived.Lib.ItoaLen
namespace Go.Proofs.YtdkgnnieehidbaaDoor
open Go Go.RowKit
set_option linter.unusedVariables false
set_option linter.unusedSimpArgs false
set_option maxHeartbeats 2000000
set_option maxRecDepth 4000
attribute [local irreducible] mix

def kindsL : List (List UInt8) := [[114, 117, 110, 110, 105, 110, 103], [119, 97, 105, 116, 105, 110, 103], [104, 97, 108, 116, 101, 100], [102, 97, 117, 108, 116, 101, 100]]
def causesL : List (List UInt8) := [[], [105, 108, 108, 101, 103, 97, 108], [111, 118, 101, 114, 102, 108, 111, 119], [114, 101, 116, 117, 114, 110], [114, 97, 110, 103, 101]]
def kindT (k : Nat) : List UInt8 := kindsL.getD k []
def causeT (k : Nat) : List UInt8 := causesL.getD k []
def txV (l : List UInt8) : Value := .string (tx l)
/-- what the variables hold -/
def Globs (w : World) : Prop := Rd w (some ⟨0, 0, none⟩) (kindsL.map txV) ∧ Rd w (some ⟨1, 0, none⟩) (causesL.map txV) ∧ Lib.TabIs Tryd.prog w "internal/strconv.uint64pow10" .u64 Lib.pow10Tab
theorem Globs.keep {w w1 : World} {H : List Res} (h : Globs w) (hw : Sat w [] H w1) : Globs w1 := by
  refine ⟨h.1.keep hw, h.2.1.keep hw, ?_⟩
  have h3 := h.2.2
  unfold Lib.TabIs World.var? at h3 ⊢
  obtain ⟨g, hg, h4⟩ := Option.bind_eq_some_iff.1 h3
  rw [hg]
  show (match w1.heap[g]? with | some (.cells cs _ _) => some cs | _ => none) = _
  have hlt : g < w.heap.size := by
    apply Classical.byContradiction
    intro hn
    rw [Array.getElem?_eq_none (by omega)] at h4
    cases h4
  rw [hw.keep g hlt (by simp)]
  exact h4
theorem sat_below {w w1 : World} (h : Below w.heap.size w w1) : Sat w [] [] w1 := ⟨h.os, h.tape, h.output, h.size, fun k hk _ => h.block k hk, by simp, by simp, .nil⟩
theorem itoa24 (n : Int) (h0 : -9223372036854775808 ≤ n) (h1 : n ≤ 9223372036854775807) (w : World) (hG : Globs w) : Calls Tryd.prog 42 #[.int .i64 n] w fun e w' => e = .returned (.string (tx (Lib.itoa n))) ∧ Sat w [] [] w' :=
  (Tryd.strconv_Itoa n h0 h1 w hG.2.2).mono fun e w1 ⟨he, k, os, hw⟩ => ⟨he, by
    rw [hw]
    exact sat_below ⟨rfl, rfl, rfl, by first | (simp [Go.Sort.grow]; done) | (simp [Go.Sort.grow]; omega), fun i hi => by
      show ((w.drewN k).heap ++ os)[i]? = _
      rw [Array.getElem?_append_left (by show i < w.heap.size; omega)]
      rfl⟩⟩
theorem join24 (g c : Nat) (xs : List (List UInt8)) (m : Nat) (hm : xs.length = m) (hc : m ≤ c) (h0 : 0 < m) (hl : (Lib.join xs [32]).length ≤ 1000) (hx : m ≤ 1000) (w : World) (hR : Rd w (some ⟨g, 0, none⟩) (xs.map txV)) : Calls Tryd.prog 43 #[.slice (some ⟨g, 0, none⟩) m c, .string (ByteArray.mk #[32])] w fun e w' => e = .returned (.string (tx (Lib.join xs [32]))) ∧ Sat w [] [] w' := by
  subst hm
  have e1 : (xs.map tx).map (fun s : ByteArray => s.data.toList) = xs := by
    rw [List.map_map]
    exact (List.map_congr_left (fun l _ => rfl)).trans (List.map_id _)
  have h := Tryd.strings_Join g 0 c (xs.map tx) (ByteArray.mk #[32]) w (fun j s hj => by
      rw [List.getElem?_map] at hj
      obtain ⟨l, hl2, rfl⟩ := Option.map_eq_some_iff.1 hj
      obtain ⟨b, o, e, hcell⟩ := hR j (txV l) (by rw [List.getElem?_map, hl2]; rfl)
      injection e with e
      injection e with e1 e2 _
      subst e1; subst e2
      exact hcell) (by
      obtain ⟨b, o, e, hcell⟩ := hR 0 (txV (xs[0]'h0)) (by rw [List.getElem?_map, List.getElem?_eq_getElem h0]; rfl)
      injection e with e
      injection e with e1 _ _
      rw [e1]
      exact World.block_lt_of_cell? w ⟨b, o + 0, none⟩ hcell) (by rw [List.length_map]; omega) (by rw [List.length_map]; exact hc) (by rw [e1]; exact Nat.le_trans hl (by decide))
  rw [e1, List.length_map] at h
  exact h.mono fun e w1 ⟨he, hb⟩ => ⟨he, sat_below hb⟩
/-- the words of a status -/
def partsS (k ca : Nat) (pc : Nat) (cy : Int) : List (List UInt8) := if k < 2 then [kindT k] else if k = 2 then [kindT k, [97, 116], hexB pc, [99, 121, 99, 108, 101], Lib.itoa cy] else [kindT k, causeT ca, [97, 116], hexB pc, [99, 121, 99, 108, 101], Lib.itoa cy]
def statT (k ca pc : Nat) (cy : Int) : List UInt8 := Lib.join (partsS k ca pc cy) [32]
theorem join_le : ∀ (xs : List (List UInt8)) (m : Nat), (∀ x ∈ xs, x.length ≤ m) → (Lib.join xs [32]).length ≤ xs.length * (m + 1)
  | [], m, _ => by simp [Lib.join_nil]
  | [x], m, h => by
    rw [Lib.join_one]
    have := h x (.head _)
    simp; omega
  | x :: y :: l, m, h => by
    have ih := join_le (y :: l) m (fun z hz => h z (.tail _ hz))
    have hx := h x (.head _)
    have e : Lib.join (x :: y :: l) [32] = x ++ [32] ++ Lib.join (y :: l) [32] := by
      show [32].intercalate (x :: y :: l) = x ++ [32] ++ [32].intercalate (y :: l)
      simp [List.intercalate]
    rw [e]
    simp only [List.length_append, List.length_cons, List.length_nil] at ih ⊢
    have : (l.length + 1 + 1) * (m + 1) = (l.length + 1) * (m + 1) + (m + 1) := Nat.succ_mul _ _
    omega
theorem kindT_le : ∀ k, (kindT k).length ≤ 21
  | 0 => by decide
  | 1 => by decide
  | 2 => by decide
  | 3 => by decide
  | k + 4 => by simp [kindT, kindsL]
theorem causeT_le : ∀ k, (causeT k).length ≤ 21
  | 0 => by decide
  | 1 => by decide
  | 2 => by decide
  | 3 => by decide
  | 4 => by decide
  | k + 5 => by simp [causeT, causesL]
theorem statT_le (k ca pc : Nat) {cy : Int} (h0 : -9223372036854775808 ≤ cy) (h1 : cy ≤ 9223372036854775807) : (statT k ca pc cy).length ≤ 1000 := by
  have h2 := Lib.itoa_length_le cy h0 h1
  have h3 := kindT_le k
  have h4 := causeT_le ca
  have h5 : (hexB pc).length ≤ 21 := by show 4 ≤ 21; decide
  refine Nat.le_trans (join_le _ 21 ?_) ?_
  · intro x hx
    unfold partsS at hx
    split at hx
    · rw [List.mem_singleton.1 hx]; exact h3
    · split at hx
      · simp only [List.mem_cons, List.not_mem_nil, or_false] at hx
        rcases hx with rfl | rfl | rfl | rfl | rfl <;> first | exact h3 | exact h5 | exact h2 | decide
      · simp only [List.mem_cons, List.not_mem_nil, or_false] at hx
        rcases hx with rfl | rfl | rfl | rfl | rfl | rfl <;> first | exact h3 | exact h4 | exact h5 | exact h2 | decide
  · unfold partsS
    split
    · simp
    · split <;> simp
theorem kinds_at {k : Nat} (h : k < 4) : (kindsL.map txV)[k]? = some (txV (kindT k)) := by
  rw [List.getElem?_map]
  unfold kindT
  rw [List.getD_eq_getElem?_getD, List.getElem?_eq_getElem (show k < kindsL.length from h)]
  rfl
theorem causes_at {k : Nat} (h : k < 5) : (causesL.map txV)[k]? = some (txV (causeT k)) := by
  rw [List.getElem?_map]
  unfold causeT
  rw [List.getD_eq_getElem?_getD, List.getElem?_eq_getElem (show k < causesL.length from h)]
  rfl

end Go.Proofs.YtdkgnnieehidbaaDoor
