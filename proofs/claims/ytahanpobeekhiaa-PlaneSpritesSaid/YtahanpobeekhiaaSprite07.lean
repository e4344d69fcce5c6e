/-
  Planes of pixels (chapter 07): Sprite.
-/
import Derived.Test.YtahanpobeekhiaaDraw07
namespace Go.Proofs.Ytahanpobeekhiaa
open Go Go.RowKit
set_option linter.unusedVariables false
set_option linter.unusedSimpArgs false
set_option maxHeartbeats 2000000
attribute [local irreducible] mix

def bitsAt (l : List Int) (i : Nat) : Nat := (l.getD i 0).toNat
theorem bitsAt_rng {l : List Int} (h : l.all (fun z => decide (0 ≤ z) && decide (z ≤ 65535)) = true) (i : Nat) : bitsAt l i < 65536 ∧ 0 ≤ l.getD i 0 := by
  unfold bitsAt
  by_cases hi : i < l.length
  · have h2 := List.all_eq_true.1 h l[i] (List.getElem_mem hi)
    rw [List.getD_eq_getElem?_getD, List.getElem?_eq_getElem hi]
    simp at h2 ⊢
    omega
  · rw [List.getD_eq_getElem?_getD, List.getElem?_eq_none (by omega)]
    simp
theorem bitsAt_get {l : List Int} (h : l.all (fun z => decide (0 ≤ z) && decide (z ≤ 65535)) = true) {i : Nat} (hi : i < l.length) : (l.map (Value.int .u16))[i]? = some (.int .u16 ((bitsAt l i : Nat) : Int)) := by
  have h2 := (bitsAt_rng h i).2
  unfold bitsAt
  rw [Int.toNat_of_nonneg h2, List.getElem?_map, List.getElem?_eq_getElem hi, List.getD_eq_getElem?_getD, List.getElem?_eq_getElem hi]
  rfl
/-- the first rows of a pattern -/
def sprQ (l : List Int) (count x y : Nat) (hires clip : Bool) (k y1 : Nat) : Nat → Bool :=
  if y ≤ y1 ∧ y1 < ht hires ∧ y1 - y < k then sprK (bitsAt l (y1 - y)) count x (wd hires) clip count
  else if clip = false ∧ y1 < y ∧ y1 + ht hires - y < k then sprK (bitsAt l (y1 + ht hires - y)) count x (wd hires) clip count else noneP
theorem sprQ_zero (l : List Int) (count x y : Nat) (hires clip : Bool) : sprQ l count x y hires clip 0 = noneQ := by
  funext y1
  unfold sprQ
  rw [if_neg (by omega), if_neg (by omega)]; rfl
theorem sprQ_straight {l : List Int} {count x y : Nat} {hires clip : Bool} {i y1 : Nat} (hy : y < ht hires) (h : ¬ ht hires ≤ y + i) :
    setRow (sprQ l count x y hires clip i) (y + i) (sprK (bitsAt l i) count x (wd hires) clip count) y1 = sprQ l count x y hires clip (i + 1) y1 := by
  unfold setRow sprQ
  by_cases e : y1 = y + i
  · subst e
    rw [if_pos rfl, if_pos (by omega), show y + i - y = i by omega]
  · rw [if_neg e]
    by_cases h1 : y ≤ y1 ∧ y1 < ht hires ∧ y1 - y < i
    · rw [if_pos h1, if_pos (by omega)]
    · rw [if_neg h1, if_neg (show ¬ (y ≤ y1 ∧ y1 < ht hires ∧ y1 - y < i + 1) by omega)]
      by_cases h2 : clip = false ∧ y1 < y ∧ y1 + ht hires - y < i
      · rw [if_pos h2, if_pos ⟨h2.1, by omega, by omega⟩]
      · rw [if_neg h2, if_neg (fun h3 => h2 ⟨h3.1, h3.2.1, by omega⟩)]
theorem sprQ_wrap {l : List Int} {count x y : Nat} {hires clip : Bool} {i y1 : Nat} (hc : clip = false) (hy : y < ht hires) (h : ht hires ≤ y + i) (hi : i < 16) (hh : 16 < ht hires) :
    setRow (sprQ l count x y hires clip i) (y + i - ht hires) (sprK (bitsAt l i) count x (wd hires) clip count) y1 = sprQ l count x y hires clip (i + 1) y1 := by
  unfold setRow sprQ
  by_cases e : y1 = y + i - ht hires
  · subst e
    rw [if_pos rfl, if_neg (by omega), if_pos ⟨hc, by omega, by omega⟩, show y + i - ht hires + ht hires - y = i by omega]
  · rw [if_neg e]
    by_cases h1 : y ≤ y1 ∧ y1 < ht hires ∧ y1 - y < i
    · rw [if_pos h1, if_pos (by omega)]
    · rw [if_neg h1, if_neg (show ¬ (y ≤ y1 ∧ y1 < ht hires ∧ y1 - y < i + 1) by omega)]
      by_cases h2 : clip = false ∧ y1 < y ∧ y1 + ht hires - y < i
      · rw [if_pos h2, if_pos ⟨h2.1, by omega, by omega⟩]
      · rw [if_neg h2, if_neg (fun h3 => h2 ⟨h3.1, h3.2.1, by omega⟩)]
theorem sprQ_break {l : List Int} {count x y : Nat} {hires clip : Bool} {i n : Nat} (hc : clip = true) (hy : y < ht hires) (h : ht hires ≤ y + i) (hn : i ≤ n) (y1 : Nat) : sprQ l count x y hires clip i y1 = sprQ l count x y hires clip n y1 := by
  unfold sprQ
  have h3 : ∀ k : Nat, ¬ (clip = false ∧ y1 < y ∧ y1 + ht hires - y < k) := fun k h => by rw [hc] at h; cases h.1
  rw [if_neg (h3 i), if_neg (h3 n)]
  by_cases h1 : y ≤ y1 ∧ y1 < ht hires ∧ y1 - y < i
  · rw [if_pos h1, if_pos (by omega)]
  · rw [if_neg h1, if_neg (show ¬ (y ≤ y1 ∧ y1 < ht hires ∧ y1 - y < n) by omega)]
theorem sprite07 (A : Option Addr) (c : Nat) (l : List Int) (count x y : Nat) (hires clip : Bool) (w : World) (hA : Rd w A (l.map (Value.int .u16))) (hw : l.all (fun z => decide (0 ≤ z) && decide (z ≤ 65535)) = true) (hl : l.length ≤ 16) (hcn : count ≤ 64) (hx : x < wd hires) (hy : y < ht hires) :
    Calls Try.prog 41 #[.slice A l.length c, .int .i64 (count : Int), .int .i64 (x : Int), .int .i64 (y : Int), .bool hires, .bool clip] w fun e w' => e = .returned (.agg (planeV (sprQ l count x y hires clip l.length))) ∧ Sat w [] [] w' := by
  have hwd : wd hires ≤ 128 := by cases hires <;> decide
  have hht : ht hires ≤ 64 := by cases hires <;> decide
  have hht2 : 32 ≤ ht hires := by cases hires <;> decide
  refine enter Try.func41 rfl rfl rfl ?_
  refine r_seq ?_
  refine r_region ?_
  refine r_allocV (cs := planeV noneQ) (by kernel_rfl) rfl fun b12 => ?_
  refine r_nil ?_
  refine r_tn ?_
  refine r_seq ?_
  refine r_region ?_
  refine r_move rfl rfl ?_
  refine r_call rfl rfl rfl (by kernel_rfl) rfl (fun w hw => by exact size07 hires w) ?_
  refine r_move rfl rfl ?_
  refine r_extract rfl rfl rfl ?_
  refine r_extract rfl rfl rfl ?_
  refine r_assign rfl rfl ?_
  refine r_assign rfl rfl ?_
  refine r_nil ?_
  refine r_tn ?_
  refine r_seq ?_
  refine r_region ?_
  refine r_allocV (cs := planeV noneQ) (by kernel_rfl) rfl fun b15 => ?_
  refine r_nil ?_
  refine r_tn ?_
  refine r_seq ?_
  refine r_seq ?_
  refine r_region ?_
  refine r_move rfl rfl ?_
  refine r_len rfl rfl rfl ?_
  refine r_move rfl rfl ?_
  refine r_nil ?_
  refine r_tn ?_
  refine r_block ?_
  refine r_loopN (fun i => [(1, .int .i64 (count : Int)), (2, .int .i64 (x : Int)), (3, .int .i64 (y : Int)), (5, .bool clip), (12, .pointer (some ⟨b12, 0, none⟩)), (13, .int .i64 (wd hires : Nat)), (14, .int .i64 (ht hires : Nat)), (15, .pointer (some ⟨b15, 0, none⟩)), (24, .slice A l.length c), (25, .int .i64 (l.length : Int)), (26, .int .i64 (i : Int))]) (fun i => [.blk b12 (.cells (planeV noneQ) 54 (0, 0)), .blk b15 (.cells (planeV (sprQ l count x y hires clip i)) 54 (0, 0))]) (fun i => i ≤ l.length) l.length 0 (by omega) ⟨rfl, rfl, rfl, rfl, rfl, rfl, rfl, rfl, rfl, rfl, rfl, trivial⟩ (fun w hw => by rw [show sprQ l count x y hires clip 0 = noneQ from sprQ_zero ..]; exact hw.sub) fun i hi => ?_
  refine r_seq ?_
  refine r_region ?_
  refine r_lss rfl rfl rfl rfl ?_
  refine r_nil ?_
  refine r_tn ?_
  refine r_seq ?_
  refine r_cond rfl (fun hc => ?_) (fun hc => ?_)
  · refine r_skip ?_
    refine r_tn ?_
    refine r_seq ?_
    refine r_block ?_
    refine r_seq ?_
    refine r_region ?_
    have hi2 : i < l.length := by have h := of_decide_eq_true hc; omega
    clear hc
    obtain ⟨hz0, hz1⟩ := bitsAt_rng hw i
    have hji : (l.map (Value.int .u16))[i]? = some (.int .u16 ((bitsAt l i : Nat) : Int)) := bitsAt_get hw hi2
    obtain ⟨ba, oa, rfl, hca⟩ := hA i _ hji
    refine r_move rfl rfl ?_
    refine r_indexSl (sz := 1) (o' := oa + i) rfl rfl rfl rfl rfl (by omega) (by omega) (by simp) ?_
    refine r_loadC (p := ⟨ba, oa + i, none⟩) rfl rfl rfl (fun w hw => ((hA.keep hw).cell hji rfl)) ?_
    refine r_assign rfl rfl ?_
    refine r_assign rfl rfl ?_
    refine r_nil ?_
    refine r_tn ?_
    refine r_seq ?_
    refine r_region ?_
    refine r_move rfl rfl ?_
    refine r_move rfl rfl ?_
    refine r_add (r := ((y + i : Nat) : Int)) rfl rfl rfl ((w64 (by omega)).trans (by omega)) ?_
    refine r_assign rfl rfl ?_
    refine r_nil ?_
    refine r_tn ?_
    refine r_seq ?_
    refine r_seq ?_
    refine r_region ?_
    refine r_move rfl rfl ?_
    refine r_move rfl rfl ?_
    refine r_geq (p := decide (ht hires ≤ y + i)) rfl rfl rfl (by congr 1; exact propext ⟨fun _ => by omega, fun _ => by omega⟩) ?_
    refine r_nil ?_
    refine r_tn ?_
    refine r_cond rfl (fun hc => ?_) (fun hc => ?_)
    · refine r_seq ?_
      refine r_seq ?_
      refine r_region ?_
      have hge : ht hires ≤ y + i := of_decide_eq_true hc
      refine r_move rfl rfl ?_
      refine r_nil ?_
      refine r_tn ?_
      refine r_cond rfl (fun hc => ?_) (fun hc => ?_)
      · refine r_exit ?_
        refine r_te ?_
        refine r_te ?_
        refine r_bx rfl ?_
        refine r_te ?_
        refine r_te ?_
        refine r_be ?_
        refine r_tn ?_
        refine r_seq ?_
        refine r_region ?_
        refine r_loadV rfl rfl rfl rfl (planeV_size _) ?_
        refine r_storeV rfl rfl rfl (planeV_size _) (planeV_size _) (planeV_one _) ?_
        refine r_nil ?_
        refine r_tn ?_
        refine r_ret ?_
        exact r_done1 (.inl rfl) rfl (res_cellV rfl rfl rfl (planeV_size _)) fun w hw => ⟨congrArg (fun c => Ending.returned (.agg c)) (planeV_congr fun y1 hy1 x1 _ => by rw [sprQ_break (show clip = true from hc) hy hge (by omega) y1]), hw.clear⟩
      · refine r_skip ?_
        refine r_tn ?_
        refine r_region ?_
        refine r_move rfl rfl ?_
        refine r_move rfl rfl ?_
        refine r_sub (r := ((y + i - ht hires : Nat) : Int)) rfl rfl rfl ((w64 (by omega)).trans (by omega)) ?_
        refine r_assign rfl rfl ?_
        refine r_nil ?_
        refine r_tn ?_
        refine r_region ?_
        refine r_move rfl rfl ?_
        refine r_move rfl rfl ?_
        refine r_move rfl rfl ?_
        refine r_move rfl rfl ?_
        refine r_move rfl rfl ?_
        refine r_move rfl rfl ?_
        refine r_call rfl rfl rfl (by kernel_rfl) rfl (fun w hw => by exact rowSprite (bitsAt l i) count x (wd hires) clip w (by omega) (by omega) (by omega) (by omega)) ?_
        refine r_fieldAddr (off := 0) (o' := 0) rfl rfl rfl rfl ?_
        refine r_indexArr (sz := 2) (o' := 2 * (y + i - ht hires)) rfl rfl rfl rfl rfl (by omega) (by omega) (by omega) ?_
        refine r_store (m := 2) (cs' := planeV (sprQ l count x y hires clip (i + 1))) rfl rfl rfl rfl (by rw [planeV_size]; omega) rfl ((planeV_set _ (by omega) _).trans (planeV_congr fun y1 _ x1 _ => by rw [sprQ_wrap (show clip = false from hc) hy hge (by omega) (by omega)])) ?_
        refine r_nil ?_
        refine r_bn ?_
        refine r_tn ?_
        refine r_region ?_
        refine r_add rfl rfl rfl (w64 (by omega)) ?_
        refine r_move rfl rfl ?_
        refine r_nil ?_
        refine r_tn ?_
        exact r_againN (i + 1) (by omega) (by omega) ⟨rfl, rfl, rfl, rfl, rfl, rfl, rfl, rfl, rfl, rfl, rfl, trivial⟩ (fun w hw => hw.sub)
    · refine r_skip ?_
      refine r_tn ?_
      refine r_region ?_
      refine r_move rfl rfl ?_
      refine r_move rfl rfl ?_
      refine r_move rfl rfl ?_
      refine r_move rfl rfl ?_
      refine r_move rfl rfl ?_
      refine r_move rfl rfl ?_
      refine r_call rfl rfl rfl (by kernel_rfl) rfl (fun w hw => by exact rowSprite (bitsAt l i) count x (wd hires) clip w (by omega) (by omega) (by omega) (by omega)) ?_
      refine r_fieldAddr (off := 0) (o' := 0) rfl rfl rfl rfl ?_
      have hlt2 : ¬ ht hires ≤ y + i := of_decide_eq_false hc
      refine r_indexArr (sz := 2) (o' := 2 * (y + i)) rfl rfl rfl rfl rfl (by omega) (by omega) (by omega) ?_
      refine r_store (m := 2) (cs' := planeV (sprQ l count x y hires clip (i + 1))) rfl rfl rfl rfl (by rw [planeV_size]; omega) rfl ((planeV_set _ (by omega) _).trans (planeV_congr fun y1 _ x1 _ => by rw [sprQ_straight hy (show ¬ ht hires ≤ y + i from of_decide_eq_false hc)])) ?_
      refine r_nil ?_
      refine r_bn ?_
      refine r_tn ?_
      refine r_region ?_
      refine r_add rfl rfl rfl (w64 (by omega)) ?_
      refine r_move rfl rfl ?_
      refine r_nil ?_
      refine r_tn ?_
      exact r_againN (i + 1) (by omega) (by omega) ⟨rfl, rfl, rfl, rfl, rfl, rfl, rfl, rfl, rfl, rfl, rfl, trivial⟩ (fun w hw => hw.sub)
  · refine r_exit ?_
    refine r_te ?_
    refine r_te ?_
    refine r_be ?_
    refine r_tn ?_
    refine r_seq ?_
    refine r_region ?_
    refine r_loadV rfl rfl rfl rfl (planeV_size _) ?_
    refine r_storeV rfl rfl rfl (planeV_size _) (planeV_size _) (planeV_one _) ?_
    refine r_nil ?_
    refine r_tn ?_
    refine r_ret ?_
    have hi3 : i = l.length := by have h := of_decide_eq_false hc; omega
    subst hi3
    exact r_done1 (.inl rfl) rfl (res_cellV rfl rfl rfl (planeV_size _)) fun w hw => ⟨rfl, hw.clear⟩
end Go.Proofs.Ytahanpobeekhiaa
