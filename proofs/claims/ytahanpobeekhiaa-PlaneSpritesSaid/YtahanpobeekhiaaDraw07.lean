/-
  Planes of pixels (chapter 07): Draw, Count.
-/
import Derived.Test.YtahanpobeekhiaaScroll07
namespace Go.Proofs.Ytahanpobeekhiaa
open Go Go.RowKit
set_option linter.unusedVariables false
set_option linter.unusedSimpArgs false
set_option maxHeartbeats 2000000
attribute [local irreducible] mix

theorem drawRow07 (P Q : Nat → Nat → Bool) (old : Bool) (k b1 b2 b3 : Nat) (w : World) (n2 : b2 ≠ b1) (n3 : b3 ≠ b1) (h2 : Rd w (some ⟨b2, 0, none⟩) (planeV P).toList) (h3 : Rd w (some ⟨b3, 0, none⟩) (planeV Q).toList) (hk : k < 64) (hS : Sat w [b1] [.blk b1 (.cells #[.bool old] 4 (0, 0))] w) :
    Calls Try.prog 58 #[.int .i64 (k : Int), .pointer (some ⟨b1, 0, none⟩), .pointer (some ⟨b2, 0, none⟩), .pointer (some ⟨b3, 0, none⟩)] w fun e w' => e = .returned (.agg (rowV (fun x => P k x ^^ Q k x))) ∧ Sat w [b1] [.blk b1 (.cells #[.bool (old || !(eqB (fun x => P k x && Q k x) noneP))] 4 (0, 0))] w' := by
  refine enterS Try.func58 rfl rfl rfl hS ?_
  refine r_seq ?_
  refine r_region ?_
  refine r_allocV (cs := #[.int .u64 0, .int .u64 0]) rfl rfl fun b5 => ?_
  refine r_nil ?_
  refine r_tn ?_
  refine r_seq ?_
  refine r_mixed (by kernel_rfl) (by kernel_rfl) ?_
  refine r_load1 (v := .bool old) rfl rfl rfl (by rfl) ?_
  refine r_move rfl rfl ?_
  refine r_split 7 rfl (fun hb7 => ?_) (fun hb7 => ?_)
  · refine r_pass rfl rfl rfl rfl ?_
    refine r_pass rfl rfl rfl rfl ?_
    refine r_pass rfl rfl rfl rfl ?_
    refine r_pass rfl rfl rfl rfl ?_
    refine r_pass rfl rfl rfl rfl ?_
    refine r_pass rfl rfl rfl rfl ?_
    refine r_pass rfl rfl rfl rfl ?_
    refine r_pass rfl rfl rfl rfl ?_
    refine r_pass rfl rfl rfl rfl ?_
    refine r_pass rfl rfl rfl rfl ?_
    refine r_pass rfl rfl rfl rfl ?_
    refine r_pick_t rfl rfl rfl ?_
    refine r_store1 rfl rfl rfl rfl rfl (Nat.le_of_ble_eq_true rfl) ?_
    refine r_nil ?_
    refine r_tn ?_
    refine r_seq ?_
    refine r_mixed (by kernel_rfl) (by kernel_rfl) ?_
    refine r_move rfl rfl ?_
    refine r_fieldAddr (off := 0) (o' := 0) rfl rfl rfl rfl ?_
    refine r_indexArr (sz := 2) (o' := 2 * (k)) rfl rfl rfl rfl rfl (by omega) (by omega) (by omega) ?_
    refine r_loadRd (vs := (rowV (P k)).toList) rfl rfl rfl rfl rfl (fun w hw => (Rd_row h2 hk).keepS hw (by intro a ha; injection ha with ha; subst ha; simpa using n2)) ?_
    refine r_move rfl rfl ?_
    refine r_fieldAddr (off := 0) (o' := 0) rfl rfl rfl rfl ?_
    refine r_indexArr (sz := 2) (o' := 2 * (k)) rfl rfl rfl rfl rfl (by omega) (by omega) (by omega) ?_
    refine r_loadRd (vs := (rowV (Q k)).toList) rfl rfl rfl rfl rfl (fun w hw => (Rd_row h3 hk).keepS hw (by intro a ha; injection ha with ha; subst ha; simpa using n3)) ?_
    refine r_call rfl rfl rfl (by kernel_rfl) rfl (fun w hw => by exact rowXor (P k) (Q k) w) ?_
    refine r_storeV rfl rfl rfl rfl rfl rfl ?_
    refine r_nil ?_
    refine r_tn ?_
    refine r_ret ?_
    exact r_done1 (.inl rfl) rfl (res_cellV rfl rfl rfl rfl) fun w hw => ⟨rfl, by rw [show (old || !(eqB (fun x => P k x && Q k x) noneP)) = true from by rw [show old = true from hb7]; rfl]; exact (hw.sub : Sat _ _ [.blk b1 (.cells (#[Value.bool old].setIfInBounds 0 (.bool true)) 4 (0, 0))] w)⟩
  · refine r_go rfl rfl ?_
    refine r_move rfl rfl ?_
    refine r_go rfl rfl ?_
    refine r_fieldAddr (off := 0) (o' := 0) rfl rfl rfl rfl ?_
    refine r_go rfl rfl ?_
    refine r_indexArr (sz := 2) (o' := 2 * (k)) rfl rfl rfl rfl rfl (by omega) (by omega) (by omega) ?_
    refine r_go rfl rfl ?_
    refine r_loadRd (vs := (rowV (P k)).toList) rfl rfl rfl rfl rfl (fun w hw => (Rd_row h2 hk).keepS hw (by intro a ha; injection ha with ha; subst ha; simpa using n2)) ?_
    refine r_go rfl rfl ?_
    refine r_move rfl rfl ?_
    refine r_go rfl rfl ?_
    refine r_fieldAddr (off := 0) (o' := 0) rfl rfl rfl rfl ?_
    refine r_go rfl rfl ?_
    refine r_indexArr (sz := 2) (o' := 2 * (k)) rfl rfl rfl rfl rfl (by omega) (by omega) (by omega) ?_
    refine r_go rfl rfl ?_
    refine r_loadRd (vs := (rowV (Q k)).toList) rfl rfl rfl rfl rfl (fun w hw => (Rd_row h3 hk).keepS hw (by intro a ha; injection ha with ha; subst ha; simpa using n3)) ?_
    refine r_go rfl rfl ?_
    refine r_call rfl rfl rfl (by kernel_rfl) rfl (fun w hw => by exact rowAnd (P k) (Q k) w) ?_
    refine r_go rfl rfl ?_
    refine r_call rfl rfl rfl (by kernel_rfl) rfl (fun w hw => by exact rowEmpty (fun x => P k x && Q k x) w) ?_
    refine r_go rfl rfl ?_
    refine r_not rfl rfl rfl ?_
    refine r_pick_f rfl rfl rfl ?_
    refine r_store1 rfl rfl rfl rfl rfl (Nat.le_of_ble_eq_true rfl) ?_
    refine r_nil ?_
    refine r_tn ?_
    refine r_seq ?_
    refine r_mixed (by kernel_rfl) (by kernel_rfl) ?_
    refine r_move rfl rfl ?_
    refine r_fieldAddr (off := 0) (o' := 0) rfl rfl rfl rfl ?_
    refine r_indexArr (sz := 2) (o' := 2 * (k)) rfl rfl rfl rfl rfl (by omega) (by omega) (by omega) ?_
    refine r_loadRd (vs := (rowV (P k)).toList) rfl rfl rfl rfl rfl (fun w hw => (Rd_row h2 hk).keepS hw (by intro a ha; injection ha with ha; subst ha; simpa using n2)) ?_
    refine r_move rfl rfl ?_
    refine r_fieldAddr (off := 0) (o' := 0) rfl rfl rfl rfl ?_
    refine r_indexArr (sz := 2) (o' := 2 * (k)) rfl rfl rfl rfl rfl (by omega) (by omega) (by omega) ?_
    refine r_loadRd (vs := (rowV (Q k)).toList) rfl rfl rfl rfl rfl (fun w hw => (Rd_row h3 hk).keepS hw (by intro a ha; injection ha with ha; subst ha; simpa using n3)) ?_
    refine r_call rfl rfl rfl (by kernel_rfl) rfl (fun w hw => by exact rowXor (P k) (Q k) w) ?_
    refine r_storeV rfl rfl rfl rfl rfl rfl ?_
    refine r_nil ?_
    refine r_tn ?_
    refine r_ret ?_
    exact r_done1 (.inl rfl) rfl (res_cellV rfl rfl rfl rfl) fun w hw => ⟨rfl, by rw [show (old || !(eqB (fun x => P k x && Q k x) noneP)) = !(eqB (fun x => P k x && Q k x) noneP) from by rw [show old = false from hb7]; rfl]; exact (hw.sub : Sat _ _ [.blk b1 (.cells (#[Value.bool old].setIfInBounds 0 (.bool (!(eqB (fun x => P k x && Q k x) noneP)))) 4 (0, 0))] w)⟩

def xorQ (P Q : Nat → Nat → Bool) (y x : Nat) : Bool := P y x ^^ Q y x
def hitK (P Q : Nat → Nat → Bool) : Nat → Bool
  | 0 => false
  | k + 1 => hitK P Q k || !eqB (fun x => P k x && Q k x) noneP

theorem draw07 (P Q : Nat → Nat → Bool) (w : World) :
    Calls Try.prog 42 #[.agg (planeV P), .agg (planeV Q)] w fun e w' => e = .returned (.tuple #[.agg (planeV (xorQ P Q)), .bool (hitK P Q 64)]) ∧ Sat w [] [] w' := by
  refine enter Try.func42 rfl rfl rfl ?_
  refine r_seq ?_
  refine r_region ?_
  refine r_boxV rfl rfl fun b2 => ?_
  refine r_boxV rfl rfl fun b3 => ?_
  refine r_allocV (cs := planeV noneQ) (by kernel_rfl) rfl fun b4 => ?_
  refine r_assign rfl rfl ?_
  refine r_nil ?_
  refine r_tn ?_
  refine r_seq ?_
  refine r_region ?_
  refine r_alloc rfl rfl fun b6 => ?_
  refine r_store1 rfl rfl rfl rfl rfl (Nat.le_of_ble_eq_true rfl) ?_
  refine r_nil ?_
  refine r_tn ?_
  refine r_seq ?_
  refine r_region ?_
  refine r_makeFunc rfl rfl rfl ?_
  refine r_callbw0 (b := b6) rfl rfl rfl (by kernel_rfl) rfl (fun w hw hs => by exact each07b b6 (fun k => .bool (hitK P Q k)) 64 (xorQ P Q) 58 [.pointer (some ⟨b6, 0, none⟩), .pointer (some ⟨b2, 0, none⟩), .pointer (some ⟨b3, 0, none⟩)] (by kernel_rfl) (by decide) w (fun k hk w1 hkeep hs1 => by have hd := drawRow07 P Q (hitK P Q k) k b6 b2 b3 w1 (Ne.symm (Sat.ne (b1 := b6) (b2 := b2) hw)) (Ne.symm (Sat.ne (b1 := b6) (b2 := b3) hw)) (Rd.blk ((hkeep b2 (Sat.lt hw) (Ne.symm (Sat.ne (b1 := b6) (b2 := b2) hw))).trans (hw.look (HasBlk.pick (b := b2)))) (fun j u h => by rw [Nat.zero_add, ← Array.getElem?_toList]; exact h)) (Rd.blk ((hkeep b3 (Sat.lt hw) (Ne.symm (Sat.ne (b1 := b6) (b2 := b3) hw))).trans (hw.look (HasBlk.pick (b := b3)))) (fun j u h => by rw [Nat.zero_add, ← Array.getElem?_toList]; exact h)) hk hs1; exact hd) hs) ?_
  refine r_allocV (cs := planeV noneQ) (by kernel_rfl) rfl fun b7 => ?_
  refine r_storeV rfl rfl rfl (planeV_size _) (planeV_size _) (planeV_one _) ?_
  refine r_nil ?_
  refine r_tn ?_
  refine r_seq ?_
  refine r_have (fun w hw => Sat.ne (b1 := b6) (b2 := b4) hw) fun hne0_b6 => ?_
  refine r_mixedD { xb := [b4], rb := [b6], rs := [11], fs := [4], acs := [] } (by kernel_rfl) (by kernel_rfl) (fun w hw k hk => by
    simp only [List.mem_cons, List.not_mem_nil, or_false] at hk
    rcases hk with rfl <;> exact Sat.lt hw) ?_
  refine r_loadV rfl rfl rfl rfl (planeV_size _) ?_
  refine r_load1 (v := .bool (hitK P Q 64)) rfl rfl rfl (by rfl) ?_
  refine r_storeV rfl rfl rfl (planeV_size _) (planeV_size _) (planeV_one _) ?_
  refine r_assign rfl rfl ?_
  refine r_nil ?_
  refine r_tn ?_
  refine r_ret ?_
  exact r_done2 (.inl rfl) rfl (res_cellV rfl rfl rfl (planeV_size _)) (res_tmp rfl) fun w hw => ⟨congrArg (fun c => Ending.returned (.tuple #[.agg c, .bool (hitK P Q 64)])) (planeV_congr fun y hy x _ => by unfold partQ; rw [if_pos hy]), hw.clear⟩

theorem count07 (P : Nat → Nat → Bool) (w : World) :
    Calls Try.prog 44 #[.agg (planeV P)] w fun e w' => e = .returned (.int .i64 ((cntR P 64 : Nat) : Int)) ∧ Sat w [] [] w' := by
  refine enter Try.func44 rfl rfl rfl ?_
  refine r_seq ?_
  refine r_region ?_
  refine r_boxV rfl rfl fun b1 => ?_
  refine r_assign rfl rfl ?_
  refine r_nil ?_
  refine r_tn ?_
  refine r_seq ?_
  refine r_region ?_
  refine r_assign rfl rfl ?_
  refine r_nil ?_
  refine r_tn ?_
  refine r_seq ?_
  refine r_seq ?_
  refine r_region ?_
  refine r_fieldAddr (off := 0) (o' := 0) rfl rfl rfl rfl ?_
  refine r_loadV rfl rfl rfl rfl (planeV_size _) ?_
  refine r_move rfl rfl ?_
  refine r_nil ?_
  refine r_tn ?_
  refine r_block ?_
  refine r_loopN (fun k => [(3, .int .i64 ((cntR P k : Nat) : Int)), (7, .agg (planeV P)), (8, .int .i64 (k : Int))]) (fun k => []) (fun k => k ≤ 64) 64 0 (by omega) ⟨rfl, rfl, rfl, trivial⟩ (fun w hw => hw.sub) fun k hk => ?_
  refine r_seq ?_
  refine r_region ?_
  refine r_lss rfl rfl rfl rfl ?_
  refine r_nil ?_
  refine r_tn ?_
  refine r_seq ?_
  refine r_cond rfl (fun hc => ?_) (fun hc => ?_)
  · refine r_skip ?_
    refine r_tn ?_
    refine r_seq ?_
    refine r_block ?_
    refine r_seq ?_
    refine r_region ?_
    have hk2 : k < 64 := by have h := of_decide_eq_true hc; omega
    refine r_indexAgg (i' := k) (sz := 2) (vs := rowV (P k)) rfl rfl rfl rfl rfl rfl rfl hk2 (by rw [Nat.mul_comm]; exact planeV_row P hk2) ?_
    refine r_allocV (cs := #[.int .u64 0, .int .u64 0]) rfl rfl fun b5 => ?_
    refine r_storeV rfl rfl rfl rfl rfl rfl ?_
    refine r_nil ?_
    refine r_tn ?_
    refine r_region ?_
    refine r_move rfl rfl ?_
    refine r_loadV rfl rfl rfl rfl rfl ?_
    refine r_call rfl rfl rfl (by kernel_rfl) rfl (fun w hw => by exact rowCount (P k) w) ?_
    have h1 := cntR_le P k
    have h2 := cnt_le (P k) 128
    refine r_add (r := ((cntR P (k + 1) : Nat) : Int)) rfl rfl rfl ((w64 (by omega)).trans (by simp only [cntR]; omega)) ?_
    refine r_assign rfl rfl ?_
    refine r_nil ?_
    refine r_bn ?_
    refine r_tn ?_
    refine r_region ?_
    refine r_add rfl rfl rfl (w64 (by omega)) ?_
    refine r_move rfl rfl ?_
    refine r_nil ?_
    refine r_tn ?_
    exact r_againN (k + 1) (by omega) (by omega) ⟨rfl, rfl, rfl, trivial⟩ (fun w hw => hw.sub)
  · refine r_exit ?_
    refine r_te ?_
    refine r_te ?_
    refine r_be ?_
    refine r_tn ?_
    refine r_seq ?_
    refine r_region ?_
    refine r_move rfl rfl ?_
    refine r_assign rfl rfl ?_
    refine r_nil ?_
    refine r_tn ?_
    refine r_ret ?_
    have hk2 : k = 64 := by have h := of_decide_eq_false hc; omega
    subst hk2
    exact r_done1 (.inl rfl) rfl (res_tmp rfl) fun w hw => ⟨rfl, hw.clear⟩
end Go.Proofs.Ytahanpobeekhiaa
