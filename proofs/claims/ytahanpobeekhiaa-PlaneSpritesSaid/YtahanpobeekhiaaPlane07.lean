/-
  Planes of pixels (chapter 07): their cells. No walk.
-/
import Derived.Test.YtahanpobeekhiaaAw06
namespace Go.Proofs.Ytahanpobeekhiaa
open Go Go.RowKit
set_option linter.unusedVariables false
set_option linter.unusedSimpArgs false
set_option maxHeartbeats 2000000

/-- the words of a plane -/
def cellP (P : Nat → Nat → Bool) (j : Nat) : Nat := if j % 2 = 0 then hiN (P (j / 2)) else loN (P (j / 2))
def planeV (P : Nat → Nat → Bool) : Array Value := ((List.range 128).map fun j => Value.int .u64 ((cellP P j : Nat) : Int)).toArray
theorem planeV_size (P : Nat → Nat → Bool) : (planeV P).size = 128 := by simp [planeV]
theorem planeV_at (P : Nat → Nat → Bool) {j : Nat} (h : j < 128) : (planeV P)[j]? = some (.int .u64 ((cellP P j : Nat) : Int)) := by simp [planeV, h]
theorem rowV_at (p : Nat → Bool) (i : Nat) : (rowV p)[i]? = if i = 0 then some (.int .u64 ((hiN p : Nat) : Int)) else if i = 1 then some (.int .u64 ((loN p : Nat) : Int)) else none := by
  rcases i with _ | _ | i <;> simp [rowV]
theorem cellP_hi (P : Nat → Nat → Bool) (y : Nat) : cellP P (2 * y) = hiN (P y) := by
  unfold cellP; rw [if_pos (by omega), show 2 * y / 2 = y by omega]
theorem cellP_lo (P : Nat → Nat → Bool) (y : Nat) : cellP P (2 * y + 1) = loN (P y) := by
  unfold cellP; rw [if_neg (by omega), show (2 * y + 1) / 2 = y by omega]
theorem planeV_row (P : Nat → Nat → Bool) {y : Nat} (h : y < 64) : (planeV P).extract (2 * y) (2 * y + 2) = rowV (P y) := by
  apply Array.ext_getElem?
  intro i
  rw [Array.getElem?_extract, rowV_at, planeV_size]
  by_cases h0 : i = 0
  · subst h0
    rw [if_pos (by omega), if_pos rfl, planeV_at P (by omega), Nat.add_zero, cellP_hi]
  · by_cases h1 : i = 1
    · subst h1
      rw [if_pos (by omega), if_neg h0, if_pos rfl, planeV_at P (by omega), cellP_lo]
    · rw [if_neg (by omega), if_neg h0, if_neg h1]
def setRow (P : Nat → Nat → Bool) (y : Nat) (q : Nat → Bool) (y1 : Nat) : Nat → Bool := if y1 = y then q else P y1
theorem planeV_set (P : Nat → Nat → Bool) {y : Nat} (h : y < 64) (q : Nat → Bool) : splice (planeV P) (2 * y) (rowV q) = planeV (setRow P y q) := by
  unfold splice
  apply Array.ext_getElem?
  intro j
  have e : (rowV q).size = 2 := rfl
  rw [e]
  have hl : (planeV P).toList.length = 128 := by rw [Array.length_toList, planeV_size]
  have hp : ∀ j, (planeV P).toList[j]? = (planeV P)[j]? := fun j => Array.getElem?_toList
  have hr : ∀ j, (rowV q).toList[j]? = (rowV q)[j]? := fun j => Array.getElem?_toList
  have hc : ∀ j, j / 2 ≠ y → cellP (setRow P y q) j = cellP P j := fun j hj => by unfold cellP setRow; rw [if_neg hj]
  rw [List.getElem?_toArray, List.append_assoc, List.getElem?_append, List.length_take, hl, List.getElem?_take]
  by_cases h1 : j < 2 * y
  · rw [if_pos (by omega), if_pos h1, hp, planeV_at P (by omega), planeV_at _ (by omega), hc j (by omega)]
  · rw [if_neg (by omega), show min (2 * y) 128 = 2 * y by omega, List.getElem?_append, hr, rowV_at]
    have e2 : (rowV q).toList.length = 2 := rfl
    rw [e2]
    by_cases h2 : j < 2 * y + 2
    · rw [if_pos (by omega)]
      by_cases h3 : j = 2 * y
      · subst h3
        rw [if_pos (by omega), planeV_at _ (by omega), cellP_hi]
        simp [setRow]
      · have h4 : j = 2 * y + 1 := by omega
        subst h4
        rw [if_neg (by omega), if_pos (by omega), planeV_at _ (by omega), cellP_lo]
        simp [setRow]
    · rw [if_neg (by omega), List.getElem?_drop, hp, show 2 * y + 2 + (j - 2 * y - 2) = j by omega]
      by_cases h5 : j < 128
      · rw [planeV_at P h5, planeV_at _ h5, hc j (by omega)]
      · rw [Array.getElem?_eq_none (by rw [planeV_size]; omega), Array.getElem?_eq_none (by rw [planeV_size]; omega)]
theorem planeV_one (P : Nat → Nat → Bool) : (planeV P).toList.all Value.oneCell' = true := by
  refine List.all_eq_true.2 fun v hv => ?_
  simp only [planeV, List.mem_map] at hv
  obtain ⟨x, _, rfl⟩ := hv
  rfl
theorem ok_ints (f : Nat → Int) : ∀ l : List Nat, cellsOk (List.replicate l.length (.i .u64)) (l.map fun j => Value.int .u64 (f j)) = true
  | [] => rfl
  | a :: l => by simp only [List.length_cons, List.replicate_succ, List.map_cons, cellsOk, ok_ints f l, Bool.and_true]; rfl
theorem planeV_ok (P : Nat → Nat → Bool) : cellsOk (List.replicate 128 (.i .u64)) (planeV P).toList = true := by
  have h := ok_ints (fun j => ((cellP P j : Nat) : Int)) (List.range 128)
  rw [List.length_range] at h
  exact h
theorem planeV_congr {P Q : Nat → Nat → Bool} (h : ∀ y, y < 64 → ∀ x, x < 128 → P y x = Q y x) : planeV P = planeV Q := by
  unfold planeV
  congr 1
  apply List.map_congr_left
  intro j hj
  have hj := List.mem_range.1 hj
  have e1 : hiN (P (j / 2)) = hiN (Q (j / 2)) := num_congr fun i hi => h _ (by omega) _ (by omega)
  have e2 : loN (P (j / 2)) = loN (Q (j / 2)) := num_congr fun i hi => h _ (by omega) _ (by omega)
  unfold cellP
  rw [e1, e2]
def eqQ (P Q : Nat → Nat → Bool) : Bool := (List.range 64).all fun y => eqB (P y) (Q y)
theorem eqQ_iff (P Q : Nat → Nat → Bool) : eqQ P Q = true ↔ ∀ y, y < 64 → ∀ x, x < 128 → P y x = Q y x := by
  simp only [eqQ, List.all_eq_true, List.mem_range]
  exact ⟨fun h y hy => (eqB_iff _ _).1 (h y hy), fun h y hy => (eqB_iff _ _).2 (h y hy)⟩
theorem planeV_inj {P Q : Nat → Nat → Bool} (h : planeV P = planeV Q) : ∀ y, y < 64 → ∀ x, x < 128 → P y x = Q y x := fun y hy =>
  rowV_inj (by rw [← planeV_row P hy, ← planeV_row Q hy, h])
theorem plane_eq (P Q : Nat → Nat → Bool) : cellsEq (planeV P).toList (planeV Q).toList = eqQ P Q := by
  cases hq : eqQ P Q with
  | true =>
    rw [planeV_congr ((eqQ_iff P Q).1 hq)]
    exact cellsEq_self (planeV_ok Q)
  | false =>
    cases he : cellsEq (planeV P).toList (planeV Q).toList with
    | false => rfl
    | true =>
      have h := (eqQ_iff P Q).2 (planeV_inj (Array.ext' (cellsEq_eq (planeV_ok P) (planeV_ok Q) he)))
      rw [hq] at h; cases h
theorem planeFlat : flatT Try.prog 54 (List.replicate 128 (.i .u64)) := ⟨by kernel_rfl, by kernel_rfl, by kernel_rfl⟩
def noneQ : Nat → Nat → Bool := fun _ => noneP
theorem Rd_row {w : World} {b : Nat} {P : Nat → Nat → Bool} (h : Rd w (some ⟨b, 0, none⟩) (planeV P).toList) {k : Nat} (hk : k < 64) : Rd w (some ⟨b, 2 * k, none⟩) (rowV (P k)).toList := fun j u hj => by
  refine ⟨b, 2 * k, rfl, ?_⟩
  rw [Array.getElem?_toList, rowV_at] at hj
  have hx : (planeV P).toList[2 * k + j]? = some u := by
    rw [Array.getElem?_toList]
    by_cases h0 : j = 0
    · subst h0
      rw [if_pos rfl] at hj
      rw [planeV_at P (by omega), Nat.add_zero, cellP_hi]; exact hj
    · rw [if_neg h0] at hj
      by_cases h1 : j = 1
      · subst h1
        rw [if_pos rfl] at hj
        rw [planeV_at P (by omega), cellP_lo]; exact hj
      · rw [if_neg h1] at hj; cases hj
  have := h.cell hx rfl
  simpa using this
def cntR (P : Nat → Nat → Bool) : Nat → Nat
  | 0 => 0
  | m + 1 => cntR P m + cnt (P m) 128
theorem cntR_le (P : Nat → Nat → Bool) : ∀ m, cntR P m ≤ 128 * m
  | 0 => Nat.le_refl _
  | m + 1 => by have h := cntR_le P m; have h2 := cnt_le (P m) 128; simp only [cntR]; omega
abbrev ht (hires : Bool) : Nat := if hires then 64 else 32
def partQ (f : Nat → Nat → Bool) (n y : Nat) : Nat → Bool := if y < n then f y else noneP
theorem partQ_succ (f : Nat → Nat → Bool) (k : Nat) : setRow (partQ f k) k (f k) = partQ f (k + 1) := by
  funext y
  unfold setRow partQ
  by_cases h : y = k
  · subst h; rw [if_pos rfl, if_pos (Nat.lt_succ_self _)]
  · rw [if_neg h]
    by_cases h2 : y < k
    · rw [if_pos h2, if_pos (by omega)]
    · rw [if_neg h2, if_neg (by omega)]

end Go.Proofs.Ytahanpobeekhiaa
