/-
  Screens (chapter 08): their cells. No walk.
-/
import Derived.Test.YtgamehjakgcgnaaPlanesA
import Derived.Test.YtgamehjakgcgnaaRound
namespace Go.Proofs.Ytgamehjakgcgnaa
open Go Go.RowKit
set_option linter.unusedVariables false
set_option linter.unusedSimpArgs false
set_option maxHeartbeats 2000000
set_option maxRecDepth 4000
attribute [local irreducible] mix

/-- the words of four planes -/
def planesL (P : Nat → Nat → Nat → Bool) : List Value := (List.range 512).map fun j => Value.int .u64 ((cellP (P (j / 128)) (j % 128) : Nat) : Int)
theorem planesL_len (P : Nat → Nat → Nat → Bool) : (planesL P).length = 512 := by simp [planesL]
theorem planesL_at (P : Nat → Nat → Nat → Bool) {j : Nat} (h : j < 512) : (planesL P)[j]? = some (.int .u64 ((cellP (P (j / 128)) (j % 128) : Nat) : Int)) := by simp [planesL, h]
def PEq (P Q : Nat → Nat → Nat → Bool) : Prop := ∀ k, k < 4 → ∀ y, y < 64 → ∀ x, x < 128 → P k y x = Q k y x
theorem planesL_congr {P Q : Nat → Nat → Nat → Bool} (h : PEq P Q) : planesL P = planesL Q := by
  unfold planesL
  apply List.map_congr_left
  intro j hj
  have hj := List.mem_range.1 hj
  have e1 : hiN (P (j / 128) (j % 128 / 2)) = hiN (Q (j / 128) (j % 128 / 2)) := num_congr fun i hi => h _ (by omega) _ (by omega) _ (by omega)
  have e2 : loN (P (j / 128) (j % 128 / 2)) = loN (Q (j / 128) (j % 128 / 2)) := num_congr fun i hi => h _ (by omega) _ (by omega) _ (by omega)
  unfold cellP
  rw [e1, e2]
def setPl (P : Nat → Nat → Nat → Bool) (k : Nat) (Q : Nat → Nat → Bool) (i : Nat) : Nat → Nat → Bool := if i = k then Q else P i
theorem splice_planes {P : Nat → Nat → Nat → Bool} {T : List Value} {k : Nat} (hk : k < 4) (Q : Nat → Nat → Bool) : splice (planesL P ++ T).toArray (128 * k) (planeV Q) = (planesL (setPl P k Q) ++ T).toArray := by
  unfold splice
  apply Array.ext_getElem?
  intro j
  have hp : ∀ j : Nat, ((planesL P ++ T).toArray).toList[j]? = (planesL P ++ T)[j]? := fun j => rfl
  have hl : ((planesL P ++ T).toArray).toList.length = 512 + T.length := by rw [show (planesL P ++ T).toArray.toList = planesL P ++ T from rfl, List.length_append, planesL_len]
  have hq : ∀ j : Nat, (planeV Q).toList[j]? = (planeV Q)[j]? := fun j => Array.getElem?_toList
  have hpl : ∀ (P : Nat → Nat → Nat → Bool) (j : Nat), j < 512 → (planesL P ++ T)[j]? = some (.int .u64 ((cellP (P (j / 128)) (j % 128) : Nat) : Int)) := fun P j hj => by
    rw [List.getElem?_append, planesL_len, if_pos hj, planesL_at _ hj]
  have htl : ∀ j : Nat, 512 ≤ j → (planesL (setPl P k Q) ++ T)[j]? = (planesL P ++ T)[j]? := fun j hj => by
    rw [List.getElem?_append, List.getElem?_append, planesL_len, planesL_len, if_neg (by omega), if_neg (by omega)]
  rw [List.getElem?_toArray, List.getElem?_toArray, List.append_assoc, List.getElem?_append, List.length_take, hl, List.getElem?_take, planeV_size]
  by_cases h1 : j < 128 * k
  · rw [if_pos (by omega), if_pos h1, hp, hpl _ _ (by omega), hpl _ _ (by omega)]
    unfold setPl
    rw [if_neg (show ¬ j / 128 = k by omega)]
  · rw [if_neg (by omega), show min (128 * k) (512 + T.length) = 128 * k by omega, List.getElem?_append, hq, Array.length_toList, planeV_size]
    by_cases h2 : j < 128 * k + 128
    · rw [if_pos (by omega), planeV_at _ (by omega), hpl _ _ (by omega)]
      unfold setPl
      rw [if_pos (show j / 128 = k by omega), show j % 128 = j - 128 * k by omega]
    · rw [if_neg (by omega), List.getElem?_drop, hp, show 128 * k + 128 + (j - 128 * k - 128) = j by omega]
      by_cases h3 : j < 512
      · rw [hpl _ _ h3, hpl _ _ h3]
        unfold setPl
        rw [if_neg (show ¬ j / 128 = k by omega)]
      · rw [htl j (by omega)]
theorem extract_planes {P : Nat → Nat → Nat → Bool} {T : List Value} {k : Nat} (hk : k < 4) : (planesL P ++ T).toArray.extract (128 * k) (128 * k + 128) = planeV (P k) := by
  apply Array.ext_getElem?
  intro i
  rw [Array.getElem?_extract, List.size_toArray, List.length_append, planesL_len]
  by_cases hi : i < 128
  · rw [if_pos (by omega), planeV_at _ hi, List.getElem?_toArray, List.getElem?_append, planesL_len, if_pos (by omega), planesL_at P (by omega), show (128 * k + i) / 128 = k by omega, show (128 * k + i) % 128 = i by omega]
  · rw [if_neg (by omega), Array.getElem?_eq_none (by rw [planeV_size]; omega)]
structure Scr where
  P : Nat → Nat → Nat → Bool
  hires : Bool
  mask : Nat
def scrT (s : Scr) : List Value := [.bool s.hires, .int .i64 (s.mask : Int)]
def scrL (s : Scr) : List Value := planesL s.P ++ scrT s
def scrV (s : Scr) : Array Value := (scrL s).toArray
theorem scrV_size (s : Scr) : (scrV s).size = 514 := by
  show (scrL s).toArray.size = 514
  rw [List.size_toArray]
  unfold scrL scrT
  rw [List.length_append, planesL_len]; rfl
theorem scr_tail (s : Scr) (i : Nat) : (scrV s)[512 + i]? = (scrT s)[i]? := by
  show (scrL s).toArray[512 + i]? = _
  rw [List.getElem?_toArray]
  unfold scrL
  rw [List.getElem?_append, planesL_len, if_neg (by omega), Nat.add_sub_cancel_left]
theorem scr_hires (s : Scr) : (scrV s)[512]? = some (.bool s.hires) := scr_tail s 0
theorem scr_mask (s : Scr) : (scrV s)[513]? = some (.int .i64 (s.mask : Int)) := scr_tail s 1
theorem scr_plane (s : Scr) {k : Nat} (hk : k < 4) : (scrV s).extract (128 * k) (128 * k + 128) = planeV (s.P k) := extract_planes hk
theorem scr_set (s : Scr) {k : Nat} (hk : k < 4) (Q : Nat → Nat → Bool) : splice (scrV s) (128 * k) (planeV Q) = scrV ⟨setPl s.P k Q, s.hires, s.mask⟩ := splice_planes hk Q
theorem scrV_one (s : Scr) : (scrV s).toList.all Value.oneCell' = true := by
  refine List.all_eq_true.2 fun v hv => ?_
  have hv : v ∈ planesL s.P ++ scrT s := hv
  rcases List.mem_append.1 hv with hv | hv
  · obtain ⟨x, _, rfl⟩ := List.mem_map.1 hv
    rfl
  · rcases List.mem_cons.1 hv with rfl | hv
    · rfl
    · rw [List.mem_singleton.1 hv]; rfl
theorem scrV_congr {s t : Scr} (h : PEq s.P t.P) (h1 : s.hires = t.hires) (h2 : s.mask = t.mask) : scrV s = scrV t := by
  unfold scrV scrL scrT
  rw [planesL_congr h, h1, h2]
def scr0 : Scr := ⟨fun _ => noneQ, false, 0⟩
/-- the selected planes among the first -/
def selK (m : Nat) : Nat → List (Fin 4)
  | 0 => []
  | k + 1 => selK m k ++ (if h : k < 4 then (if m.testBit k then [⟨k, h⟩] else []) else [])
def sel (m : Nat) : List (Fin 4) := selK m 4
theorem selK_len (m : Nat) : ∀ k, (selK m k).length ≤ k
  | 0 => Nat.le_refl _
  | k + 1 => by
    have h := selK_len m k
    unfold selK
    rw [List.length_append]
    split
    · split
      · simp; omega
      · simp; omega
    · simp; omega
theorem selK_yes {m k : Nat} (h : k < 4) (hb : m.testBit k = true) : selK m (k + 1) = selK m k ++ [⟨k, h⟩] := by
  show selK m k ++ _ = _
  rw [dif_pos h, if_pos hb]
theorem selK_no {m k : Nat} (h : k < 4) (hb : m.testBit k = false) : selK m (k + 1) = selK m k := by
  show selK m k ++ _ = _
  rw [dif_pos h, if_neg (by rw [hb]; simp), List.append_nil]
theorem shr4 : ∀ m : Nat, m < 16 → ∀ k : Nat, k < 4 → ((m : Nat) : Int).fdiv (2 ^ (min ((k : Nat) : Int).toNat IntKind.i64.bits)) = ((m >>> k : Nat) : Int) := by decide +kernel
theorem and4 : ∀ x : Nat, x < 16 → IntKind.i64.wrap ((BitVec.ofInt IntKind.i64.bits ((x : Nat) : Int) &&& BitVec.ofInt IntKind.i64.bits 1).toNat : Int) = ((x % 2 : Nat) : Int) := by decide +kernel
theorem bit4 : ∀ m : Nat, m < 16 → ∀ k : Nat, k < 4 → decide ((((m >>> k) % 2 : Nat) : Int) = 1) = m.testBit k := by decide +kernel
theorem shr_lt4 : ∀ m : Nat, m < 16 → ∀ k : Nat, k < 4 → m >>> k < 16 := by decide +kernel

end Go.Proofs.Ytgamehjakgcgnaa
