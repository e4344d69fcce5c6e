/-
  Planes of pixels (chapter 07): Scroll.
-/
import Derived.Test.YtahanpobeekhiaaPlaneB07
namespace Go.Proofs.Ytahanpobeekhiaa
open Go Go.RowKit
set_option linter.unusedVariables false
set_option linter.unusedSimpArgs false
set_option maxHeartbeats 2000000
attribute [local irreducible] mix

def scrollRow (P : Nat → Nat → Bool) (dx dy : Int) (hires : Bool) (k : Nat) : Nat → Bool := if 0 ≤ (k : Int) - dy ∧ (k : Int) - dy < ht hires then shiftP (P ((k : Int) - dy).toNat) dx hires else noneP
theorem scrollRow07 (P : Nat → Nat → Bool) (dx dy : Int) (hires : Bool) (k b1 b2 b3 b4 b5 : Nat) (w : World) (h1 : Rd w (some ⟨b1, 0, none⟩) [.int .i64 dy]) (h2 : Rd w (some ⟨b2, 0, none⟩) [.int .i64 (ht hires : Nat)]) (h3 : Rd w (some ⟨b3, 0, none⟩) (planeV P).toList) (h4 : Rd w (some ⟨b4, 0, none⟩) [.int .i64 dx]) (h5 : Rd w (some ⟨b5, 0, none⟩) [.int .i64 (wd hires : Nat)])
    (hk : k < 64) (hdx : -4611686018427387904 ≤ dx ∧ dx ≤ 4611686018427387904) (hdy : -4611686018427387904 ≤ dy ∧ dy ≤ 4611686018427387904) :
    Calls Try.prog 57 #[.int .i64 (k : Int), .pointer (some ⟨b1, 0, none⟩), .pointer (some ⟨b2, 0, none⟩), .pointer (some ⟨b3, 0, none⟩), .pointer (some ⟨b4, 0, none⟩), .pointer (some ⟨b5, 0, none⟩)] w fun e w' => e = .returned (.agg (rowV (scrollRow P dx dy hires k))) ∧ Sat w [] [] w' := by
  have hh : ht hires ≤ 64 := by cases hires <;> decide
  refine enter Try.func57 rfl rfl rfl ?_
  refine r_seq ?_
  refine r_region ?_
  refine r_allocV (cs := #[.int .u64 0, .int .u64 0]) rfl rfl fun b7 => ?_
  refine r_nil ?_
  refine r_tn ?_
  refine r_seq ?_
  refine r_seq ?_
  refine r_region ?_
  refine r_move rfl rfl ?_
  refine r_loadC (p := ⟨b1, 0, none⟩) rfl rfl rfl (fun w hw => (h1.keep hw).cell (j := 0) rfl rfl) ?_
  refine r_sub rfl rfl rfl (w64 (by omega)) ?_
  refine r_lss rfl rfl rfl rfl ?_
  refine r_move rfl rfl ?_
  refine r_split 12 rfl (fun hb12 => ?_) (fun hb12 => ?_)
  · refine r_pass rfl rfl rfl rfl ?_
    refine r_pass rfl rfl rfl rfl ?_
    refine r_pass rfl rfl rfl rfl ?_
    refine r_pass rfl rfl rfl rfl ?_
    refine r_pass rfl rfl rfl rfl ?_
    refine r_pick_t rfl rfl rfl ?_
    refine r_nil ?_
    refine r_tn ?_
    refine r_cond_t rfl ?_
    refine r_seq ?_
    refine r_region ?_
    refine r_build (cells := rowV noneP) rfl rfl (by kernel_rfl) ?_
    refine r_storeV rfl rfl rfl rfl rfl rfl ?_
    refine r_nil ?_
    refine r_tn ?_
    refine r_ret ?_
    refine r_tr ?_
    exact r_done1 (.inl rfl) rfl (res_cellV rfl rfl rfl rfl) fun w hw => ⟨congrArg (fun c => Ending.returned (.agg c)) (by unfold scrollRow; rw [if_neg (fun h => by have h1 := of_decide_eq_true hb12; omega)]), hw.clear⟩
  · refine r_go rfl rfl ?_
    refine r_move rfl rfl ?_
    refine r_go rfl rfl ?_
    refine r_loadC (p := ⟨b1, 0, none⟩) rfl rfl rfl (fun w hw => (h1.keep hw).cell (j := 0) rfl rfl) ?_
    refine r_go rfl rfl ?_
    refine r_sub rfl rfl rfl (w64 (by omega)) ?_
    refine r_go rfl rfl ?_
    refine r_loadC (p := ⟨b2, 0, none⟩) rfl rfl rfl (fun w hw => (h2.keep hw).cell (j := 0) rfl rfl) ?_
    refine r_go rfl rfl ?_
    refine r_geq rfl rfl rfl rfl ?_
    refine r_pick_f rfl rfl rfl ?_
    refine r_nil ?_
    refine r_tn ?_
    refine r_cond rfl (fun hc => ?_) (fun hc => ?_)
    · refine r_seq ?_
      refine r_region ?_
      refine r_build (cells := rowV noneP) rfl rfl (by kernel_rfl) ?_
      refine r_storeV rfl rfl rfl rfl rfl rfl ?_
      refine r_nil ?_
      refine r_tn ?_
      refine r_ret ?_
      refine r_tr ?_
      exact r_done1 (.inl rfl) rfl (res_cellV rfl rfl rfl rfl) fun w hw => ⟨congrArg (fun c => Ending.returned (.agg c)) (by unfold scrollRow; rw [if_neg (fun h => by have h1 := of_decide_eq_true hc; omega)]), hw.clear⟩
    · refine r_skip ?_
      refine r_tn ?_
      refine r_seq ?_
      refine r_mixed (by kernel_rfl) (by kernel_rfl) ?_
      refine r_move rfl rfl ?_
      refine r_loadC (p := ⟨b1, 0, none⟩) rfl rfl rfl (fun w hw => (h1.keep hw).cell (j := 0) rfl rfl) ?_
      refine r_sub rfl rfl rfl (w64 (by omega)) ?_
      refine r_fieldAddr (off := 0) rfl rfl rfl rfl ?_
      have hin : 0 ≤ (k : Int) - dy ∧ (k : Int) - dy < ht hires := by have h1 := of_decide_eq_false hb12; have h2 := of_decide_eq_false hc; omega
      refine r_indexArr (sz := 2) (o' := 2 * (((k : Int) - dy).toNat)) rfl rfl rfl rfl rfl (by omega) (by omega) (by omega) ?_
      refine r_loadRd (vs := (rowV (P ((k : Int) - dy).toNat)).toList) rfl rfl rfl rfl rfl (fun w hw => (Rd_row h3 (by omega)).keep hw) ?_
      refine r_loadC (p := ⟨b4, 0, none⟩) rfl rfl rfl (fun w hw => (h4.keep hw).cell (j := 0) rfl rfl) ?_
      refine r_loadC (p := ⟨b5, 0, none⟩) rfl rfl rfl (fun w hw => (h5.keep hw).cell (j := 0) rfl rfl) ?_
      refine r_call rfl rfl rfl (by kernel_rfl) rfl (fun w hw => by exact rowShift (P ((k : Int) - dy).toNat) dx hires w hdx) ?_
      refine r_storeV rfl rfl rfl rfl rfl rfl ?_
      refine r_nil ?_
      refine r_tn ?_
      refine r_ret ?_
      exact r_done1 (.inl rfl) rfl (res_cellV rfl rfl rfl rfl) fun w hw => ⟨congrArg (fun c => Ending.returned (.agg c)) (by unfold scrollRow; rw [if_pos hin]), hw.clear⟩

def scrollQ (P : Nat → Nat → Bool) (dx dy : Int) (hires : Bool) : Nat → Nat → Bool := partQ (scrollRow P dx dy hires) (ht hires)

theorem scroll07 (P : Nat → Nat → Bool) (dx dy : Int) (hires : Bool) (w : World) (hdx : -4611686018427387904 ≤ dx ∧ dx ≤ 4611686018427387904) (hdy : -4611686018427387904 ≤ dy ∧ dy ≤ 4611686018427387904) :
    Calls Try.prog 37 #[.agg (planeV P), .int .i64 dx, .int .i64 dy, .bool hires] w fun e w' => e = .returned (.agg (planeV (scrollQ P dx dy hires))) ∧ Sat w [] [] w' := by
  have hh : ht hires ≤ 64 := by cases hires <;> decide
  refine enter Try.func37 rfl rfl rfl ?_
  refine r_seq ?_
  refine r_region ?_
  refine r_boxV rfl rfl fun b4 => ?_
  refine r_box1 rfl rfl rfl fun b5 => ?_
  refine r_box1 rfl rfl rfl fun b6 => ?_
  refine r_allocV (cs := planeV noneQ) (by kernel_rfl) rfl fun b8 => ?_
  refine r_nil ?_
  refine r_tn ?_
  refine r_seq ?_
  refine r_region ?_
  refine r_move rfl rfl ?_
  refine r_call rfl rfl rfl (by kernel_rfl) rfl (fun w hw => by exact size07 hires w) ?_
  refine r_move rfl rfl ?_
  refine r_extract rfl rfl rfl ?_
  refine r_extract rfl rfl rfl ?_
  refine r_alloc rfl rfl fun b9 => ?_
  refine r_alloc rfl rfl fun b10 => ?_
  refine r_store1 rfl rfl rfl rfl rfl (Nat.le_of_ble_eq_true rfl) ?_
  refine r_store1 rfl rfl rfl rfl rfl (Nat.le_of_ble_eq_true rfl) ?_
  refine r_nil ?_
  refine r_tn ?_
  refine r_seq ?_
  refine r_region ?_
  refine r_load1 rfl rfl rfl (by rfl) ?_
  refine r_makeFunc rfl rfl rfl ?_
  refine r_call rfl rfl rfl (by kernel_rfl) rfl (fun w hw => by exact each07 (ht hires) (scrollRow P dx dy hires) 57 [.pointer (some ⟨b6, 0, none⟩), .pointer (some ⟨b10, 0, none⟩), .pointer (some ⟨b4, 0, none⟩), .pointer (some ⟨b5, 0, none⟩), .pointer (some ⟨b9, 0, none⟩)] (by kernel_rfl) hh w (fun k hk w1 hw1 => scrollRow07 P dx dy hires k b6 b10 b4 b5 b9 w1 (Rd.keep (Rd.blk (hw.look (HasBlk.pick (b := b6))) (fun j u h => by rw [Nat.zero_add]; exact Array.getElem?_toList.symm.trans h)) hw1) (Rd.keep (Rd.blk (hw.look (HasBlk.pick (b := b10))) (fun j u h => by rw [Nat.zero_add]; exact Array.getElem?_toList.symm.trans h)) hw1) (Rd.keep (Rd.blk (hw.look (HasBlk.pick (b := b4))) (fun j u h => by rw [Nat.zero_add, ← Array.getElem?_toList]; exact h)) hw1) (Rd.keep (Rd.blk (hw.look (HasBlk.pick (b := b5))) (fun j u h => by rw [Nat.zero_add]; exact Array.getElem?_toList.symm.trans h)) hw1) (Rd.keep (Rd.blk (hw.look (HasBlk.pick (b := b9))) (fun j u h => by rw [Nat.zero_add]; exact Array.getElem?_toList.symm.trans h)) hw1) (by omega) hdx hdy)) ?_
  refine r_storeV rfl rfl rfl (planeV_size _) (planeV_size _) (planeV_one _) ?_
  refine r_nil ?_
  refine r_tn ?_
  refine r_ret ?_
  exact r_done1 (.inl rfl) rfl (res_cellV rfl rfl rfl (planeV_size _)) fun w hw => ⟨rfl, hw.clear⟩
end Go.Proofs.Ytahanpobeekhiaa
