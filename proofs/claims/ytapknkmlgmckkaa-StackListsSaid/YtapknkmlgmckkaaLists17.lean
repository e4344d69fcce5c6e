/-
  StackLists: the list of a stack is what was pushed, and it is popped in the opposite order.
-/
import Derived.Test.YtapknkmlgmckkaaRef17
namespace Go.Proofs.Ytapknkmlgmckkaa
open Go Go.RowKit
set_option linter.unusedVariables false

theorem StackLists_many (A : Option Addr) (c : Nat) (l : List Int) (W : World) (hl : 16 < l.length) (hm : l.length ≤ 140737488351232) (hR : Rd W A (l.map (Value.int .i64))) :
    Calls Try.prog 9 #[.slice A l.length c] W fun e w' => e = .returned (.bool true) ∧ Sat W [] [] w' := by
  refine enter Try.func9 rfl rfl rfl ?_
  refine r_seq ?_
  refine r_region ?_
  refine r_assign rfl rfl ?_
  refine r_nil ?_
  refine r_tn ?_
  refine r_seq ?_
  refine r_seq ?_
  refine r_region ?_
  refine r_call rfl rfl rfl (by kernel_rfl) rfl (fun w hw => by exact awake17 w) ?_
  refine r_not rfl rfl rfl ?_
  refine r_move rfl rfl ?_
  refine r_go rfl rfl ?_
  refine r_move rfl rfl ?_
  refine r_go rfl rfl ?_
  refine r_len rfl rfl rfl ?_
  refine r_go rfl rfl ?_
  refine r_gtr rfl rfl rfl (decide_eq_true (by omega)) ?_
  refine r_pick_f rfl rfl rfl ?_
  refine r_nil ?_
  refine r_tn ?_
  refine r_cond_t rfl ?_
  refine r_seq ?_
  refine r_region ?_
  refine r_call rfl rfl rfl (by kernel_rfl) rfl (fun w hw => by exact awake17 w) ?_
  refine r_assign rfl rfl ?_
  refine r_nil ?_
  refine r_tn ?_
  refine r_ret ?_
  refine r_tr ?_
  exact r_done1 (.inl rfl) rfl (res_tmp rfl) fun w hw => ⟨rfl, hw.clear⟩

theorem StackLists_ok (A : Option Addr) (c : Nat) (l : List Int) (W : World) (hl : l.length ≤ 16) (hm : l.length ≤ 140737488351232) (hR : Rd W A (l.map (Value.int .i64))) :
    Calls Try.prog 9 #[.slice A l.length c] W fun e w' => e = .returned (.bool true) ∧ Sat W [] [] w' := by
  refine enter Try.func9 rfl rfl rfl ?_
  refine r_seq ?_
  refine r_region ?_
  refine r_assign rfl rfl ?_
  refine r_nil ?_
  refine r_tn ?_
  refine r_seq ?_
  refine r_seq ?_
  refine r_region ?_
  refine r_call rfl rfl rfl (by kernel_rfl) rfl (fun w hw => by exact awake17 w) ?_
  refine r_not rfl rfl rfl ?_
  refine r_move rfl rfl ?_
  refine r_go rfl rfl ?_
  refine r_move rfl rfl ?_
  refine r_go rfl rfl ?_
  refine r_len rfl rfl rfl ?_
  refine r_go rfl rfl ?_
  refine r_gtr rfl rfl rfl (decide_eq_false (by omega)) ?_
  refine r_pick_f rfl rfl rfl ?_
  refine r_nil ?_
  refine r_tn ?_
  refine r_cond_f rfl ?_
  refine r_skip ?_
  refine r_tn ?_
  refine r_seq ?_
  refine r_region ?_
  refine r_alloc rfl rfl fun b3 => ?_
  refine r_nil ?_
  refine r_tn ?_
  refine r_seq ?_
  refine r_seq ?_
  refine r_region ?_
  refine r_assign rfl rfl ?_
  refine r_nil ?_
  refine r_tn ?_
  refine r_block ?_
  refine r_loopN (fun k => [(0, .slice A l.length c), (3, .pointer (some ⟨b3, 0, none⟩)), (4, .int .i64 (k : Int))]) (fun k => [.blk b3 (.cells (stk (l.take k)) 26 (0, 0))]) (fun k => k ≤ l.length) l.length 0 (by omega) ⟨rfl, rfl, rfl, trivial⟩ (fun w hw => hw) fun k hk => ?_
  refine r_seq ?_
  refine r_seq ?_
  refine r_region ?_
  refine r_move rfl rfl ?_
  refine r_move rfl rfl ?_
  refine r_len rfl rfl rfl ?_
  refine r_lss rfl rfl rfl rfl ?_
  refine r_nil ?_
  refine r_tn ?_
  have hlk : (l.take k).length = k := by simp; omega
  refine r_cond rfl (fun hc => ?_) (fun hc => ?_)
  · refine r_skip ?_
    refine r_tn ?_
    refine r_seq ?_
    refine r_block ?_
    refine r_mixed (by kernel_rfl) (by kernel_rfl) ?_
    have hlt : k < l.length := by simpa using hc
    have hjk : (l.map (Value.int .i64))[k]? = some (.int .i64 l[k]) := by simp [hlt]
    obtain ⟨ba, oa, rfl, hcell⟩ := hR k _ hjk
    refine r_loadV rfl rfl rfl rfl (stk_size (by omega)) ?_
    refine r_move rfl rfl ?_
    refine r_move rfl rfl ?_
    refine r_indexSl (sz := 1) rfl rfl rfl rfl rfl (by omega) (by omega) (show _ = oa + k by simp) ?_
    refine r_loadC rfl rfl rfl (fun w hw => (hR.keep hw).cell hjk rfl) ?_
    refine r_call rfl rfl rfl (by kernel_rfl) rfl (fun w hw => by exact Push_ok (l.take k) (by omega) (l[k]'hlt) w) ?_
    refine r_move rfl rfl ?_
    refine r_extract rfl rfl rfl ?_
    refine r_extract rfl rfl rfl ?_
    refine r_storeV rfl rfl rfl (stk_size (by first | omega | (simp; done) | (simp; omega))) (stk_size (by omega)) (stk_one _) ?_
    refine r_nil ?_
    refine r_bn ?_
    refine r_tn ?_
    refine r_region ?_
    refine r_move rfl rfl ?_
    refine r_add rfl rfl rfl (w64 (by omega)) ?_
    refine r_assign rfl rfl ?_
    refine r_nil ?_
    refine r_tn ?_
    have ht : l.take k ++ [l[k]] = l.take (k + 1) := by rw [List.take_succ_eq_append_getElem]
    exact r_againN (k + 1) (by omega) (by omega) ⟨rfl, rfl, rfl, trivial⟩ (fun w hw => by simpa only [ht] using (hw.pick (HasBlk.pick (b := b3))).only)
  · refine r_exit ?_
    refine r_te ?_
    refine r_te ?_
    refine r_be ?_
    refine r_tn ?_
    refine r_seq ?_
    refine r_seq ?_
    refine r_region ?_
    have hnk : ¬ k < l.length := by simpa using hc
    have hkl : k = l.length := by omega
    subst hkl
    rw [List.take_length]
    refine r_loadV rfl rfl rfl rfl (stk_size (by omega)) ?_
    refine r_callx rfl rfl rfl (by kernel_rfl) rfl (fun w hw => list17 l (by omega) w) ?_
    rintro ⟨A33, c33⟩ _
    refine r_move rfl rfl ?_
    refine r_call (v := .bool true) rfl rfl rfl (by kernel_rfl) rfl (fun w hw => by have h := numbers A33 A c33 c l l w (by omega) (own_rd (A := A33) (m := l.length) (c := c33) hw) (hR.keep hw); simpa using h) ?_
    refine r_not rfl rfl rfl ?_
    refine r_nil ?_
    refine r_tn ?_
    refine r_cond_f rfl ?_
    refine r_skip ?_
    refine r_tn ?_
    refine r_seq ?_
    refine r_seq ?_
    refine r_region ?_
    refine r_move rfl rfl ?_
    refine r_len rfl rfl rfl ?_
    refine r_sub rfl rfl rfl (w64 (by omega)) ?_
    refine r_assign rfl rfl ?_
    refine r_nil ?_
    refine r_tn ?_
    refine r_block ?_
    refine r_loopN (fun k => [(0, .slice A l.length c), (3, .pointer (some ⟨b3, 0, none⟩)), (5, .int .i64 ((l.length : Int) - 1 - k))]) (fun k => [.blk b3 (.cells (stk (l.take (l.length - k))) 26 (0, 0))]) (fun k => k ≤ l.length) l.length 0 (by omega) ⟨rfl, rfl, by simp [lk], trivial⟩ (fun w hw => by simpa using (hw.pick (HasBlk.pick (b := b3))).only) fun k hk => ?_
    refine r_seq ?_
    refine r_seq ?_
    refine r_region ?_
    refine r_move rfl rfl ?_
    refine r_geq rfl rfl rfl rfl ?_
    refine r_nil ?_
    refine r_tn ?_
    have hlk : (l.take (l.length - k)).length = l.length - k := by first | (simp; done) | (simp; omega)
    refine r_cond rfl (fun hc => ?_) (fun hc => ?_)
    · refine r_skip ?_
      refine r_tn ?_
      refine r_seq ?_
      refine r_block ?_
      refine r_seq ?_
      refine r_region ?_
      have hc2 : (0 : Int) ≤ (l.length : Int) - 1 - k := by simpa using hc
      have hlt : l.length - (k + 1) < l.length := by omega
      have hn1 : l.take (l.length - (k + 1)) ++ [l[l.length - (k + 1)]] = l.take (l.length - k) := by rw [show l.length - k = l.length - (k + 1) + 1 by omega, List.take_succ_eq_append_getElem hlt]
      have hlk1 : (l.take (l.length - (k + 1))).length = l.length - (k + 1) := by first | (simp; done) | (simp; omega)
      have hjk : (l.map (Value.int .i64))[l.length - (k + 1)]? = some (.int .i64 l[l.length - (k + 1)]) := by simp [hlt]
      obtain ⟨ba, oa, rfl, hcell⟩ := hR _ _ hjk
      rw [← hn1]
      refine r_loadV rfl rfl rfl rfl (stk_size (by first | omega | (simp; done) | (simp; omega))) ?_
      refine r_call rfl rfl rfl (by kernel_rfl) rfl (fun w hw => by exact Pop_ok (l.take (l.length - (k + 1))) (by omega) (l[l.length - (k + 1)]'hlt) w) ?_
      refine r_move rfl rfl ?_
      refine r_extract rfl rfl rfl ?_
      refine r_extract rfl rfl rfl ?_
      refine r_extract rfl rfl rfl ?_
      refine r_alloc rfl rfl fun b6 => ?_
      refine r_storeV rfl rfl rfl (stk_size (by omega)) rfl (stk_one _) ?_
      refine r_assign rfl rfl ?_
      refine r_assign rfl rfl ?_
      refine r_nil ?_
      refine r_tn ?_
      refine r_seq ?_
      refine r_seq ?_
      refine r_region ?_
      refine r_move rfl rfl ?_
      refine r_move rfl rfl ?_
      refine r_move rfl rfl ?_
      refine r_indexSl (sz := 1) rfl rfl rfl rfl rfl (by omega) (by omega) (show _ = oa + (l.length - (k + 1)) by omega) ?_
      refine r_loadC rfl rfl rfl (fun w hw => (hR.keep hw).cell hjk rfl) ?_
      refine r_neq rfl rfl rfl (decide_eq_false (by simp)) ?_
      refine r_move rfl rfl ?_
      refine r_go rfl rfl ?_
      refine r_move rfl rfl ?_
      refine r_go rfl rfl ?_
      refine r_neq rfl rfl rfl (decide_eq_false (by simp)) ?_
      refine r_pick_f rfl rfl rfl ?_
      refine r_nil ?_
      refine r_tn ?_
      refine r_cond_f rfl ?_
      refine r_skip ?_
      refine r_tn ?_
      refine r_region ?_
      refine r_loadV rfl rfl rfl rfl (stk_size (by omega)) ?_
      refine r_storeV rfl rfl rfl (stk_size (by omega)) (stk_size (by first | omega | (simp; done) | (simp; omega))) (stk_one _) ?_
      refine r_nil ?_
      refine r_bn ?_
      refine r_tn ?_
      refine r_region ?_
      refine r_move rfl rfl ?_
      refine r_sub rfl rfl rfl (w64 (by omega)) ?_
      refine r_assign rfl rfl ?_
      refine r_nil ?_
      refine r_tn ?_
      exact r_againN (k + 1) (by omega) (by omega) ⟨rfl, rfl, by first | (simp [lk]; done) | (simp [lk]; omega), trivial⟩ (fun w hw => by simpa only [hn1] using (hw.pick (HasBlk.pick (b := b3))).only)
    · refine r_exit ?_
      refine r_te ?_
      refine r_te ?_
      refine r_be ?_
      refine r_tn ?_
      refine r_seq ?_
      refine r_region ?_
      have hc3 : ¬ (0 : Int) ≤ (l.length : Int) - 1 - k := by simpa using hc
      rw [show l.length - k = 0 by omega, List.take_zero]
      refine r_loadV rfl rfl rfl rfl (stk_size (by simp)) ?_
      refine r_build (cells := stk []) rfl rfl (by kernel_rfl) ?_
      refine r_eqlAgg rfl rfl rfl stkFlat (stk_ok (by simp)) (stk_ok (by simp)) (stk_self (by simp)) ?_
      refine r_assign rfl rfl ?_
      refine r_nil ?_
      refine r_tn ?_
      refine r_ret ?_
      exact r_done1 (.inl rfl) rfl (res_tmp rfl) fun w hw => ⟨rfl, hw.clear⟩

theorem StackLists_walk (A : Option Addr) (c : Nat) (l : List Int) (W : World) (hR : Rd W A (l.map (Value.int .i64))) (hm : l.length ≤ 140737488351232) :
    Calls Try.prog 9 #[.slice A l.length c] W fun e w' => e = .returned (.bool true) ∧ Sat W [] [] w' := by
  by_cases h : l.length ≤ 16
  · exact StackLists_ok A c l W h hm hR
  · exact StackLists_many A c l W (by omega) hm hR
end Go.Proofs.Ytapknkmlgmckkaa
