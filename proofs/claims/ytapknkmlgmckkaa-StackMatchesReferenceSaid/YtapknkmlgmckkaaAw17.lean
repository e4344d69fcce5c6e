/-
  The laws of the stack (chapter 17): the examples of the documentation hold; StackInverse.
-/
import Derived.Test.YtapknkmlgmckkaaStk
import Derived.Test.YtapknkmlgmckkaaMore
namespace Go.Proofs.Ytapknkmlgmckkaa
open Go Go.RowKit
set_option linter.unusedVariables false

def stkLs : List LeafK := List.replicate 17 (.i .i64)
theorem stkFlat : flatT Try.prog 26 stkLs := ⟨by kernel_rfl, by kernel_rfl, by kernel_rfl⟩
theorem ok_ints : ∀ (l : List Value) (m : Nat), l.length = m → (∀ v ∈ l, ∃ n, v = .int .i64 n) → cellsOk (List.replicate m (.i .i64)) l = true
  | [], 0, _, _ => rfl
  | [], m + 1, h, _ => by simp at h
  | v :: l, 0, h, _ => by simp at h
  | v :: l, m + 1, h, hv => by
    obtain ⟨n, rfl⟩ := hv v (.head _)
    simp only [List.replicate_succ, cellsOk, leafOk, decide_true, Bool.true_and]
    exact ok_ints l m (by simpa using h) fun v hv' => hv v (.tail _ hv')
theorem stk_ok {l : List Int} (h : l.length ≤ 16) : cellsOk stkLs (stk l).toList = true := by
  refine ok_ints _ _ (by rw [Array.length_toList]; exact stk_size h) fun v hv => ?_
  simp only [stk, List.mem_append, List.mem_map, List.mem_singleton] at hv
  rcases hv with ⟨x, _, rfl⟩ | rfl
  · exact ⟨_, rfl⟩
  · exact ⟨_, rfl⟩
theorem stk_self {l : List Int} (h : l.length ≤ 16) : cellsEq (stk l).toList (stk l).toList = true := cellsEq_self (stk_ok h)

theorem awake17 (w : World) : Calls Try.prog 14 #[] w fun e w' => e = .returned (.bool true) ∧ Sat w [] [] w' := by
  refine enter (args := []) Try.func14 rfl rfl rfl ?_
  refine r_seq ?_
  refine r_region ?_
  refine r_assign rfl rfl ?_
  refine r_nil ?_
  refine r_tn ?_
  refine r_seq ?_
  refine r_region ?_
  refine r_build (cells := stk []) rfl rfl (by kernel_rfl) ?_
  refine r_call rfl rfl rfl (by kernel_rfl) rfl (fun w hw => by exact Push_ok [] (by decide) 514 w) ?_
  refine r_move rfl rfl ?_
  refine r_extract rfl rfl rfl ?_
  refine r_extract rfl rfl rfl ?_
  refine r_alloc rfl rfl fun b1 => ?_
  refine r_storeV rfl rfl rfl rfl rfl rfl ?_
  refine r_assign rfl rfl ?_
  refine r_nil ?_
  refine r_tn ?_
  refine r_seq ?_
  refine r_region ?_
  refine r_loadV rfl rfl rfl rfl rfl ?_
  refine r_call rfl rfl rfl (by kernel_rfl) rfl (fun w hw => by exact Push_ok [514] (by decide) 600 w) ?_
  refine r_move rfl rfl ?_
  refine r_extract rfl rfl rfl ?_
  refine r_extract rfl rfl rfl ?_
  refine r_alloc rfl rfl fun b3 => ?_
  refine r_storeV rfl rfl rfl rfl rfl rfl ?_
  refine r_assign rfl rfl ?_
  refine r_nil ?_
  refine r_tn ?_
  refine r_seq ?_
  refine r_region ?_
  refine r_loadV rfl rfl rfl rfl rfl ?_
  refine r_call rfl rfl rfl (by kernel_rfl) rfl (fun w hw => by exact Pop_ok [514] (by decide) 600 w) ?_
  refine r_move rfl rfl ?_
  refine r_extract rfl rfl rfl ?_
  refine r_extract rfl rfl rfl ?_
  refine r_extract rfl rfl rfl ?_
  refine r_alloc rfl rfl fun b5 => ?_
  refine r_storeV rfl rfl rfl rfl rfl rfl ?_
  refine r_assign rfl rfl ?_
  refine r_assign rfl rfl ?_
  refine r_nil ?_
  refine r_tn ?_
  refine r_seq ?_
  refine r_region ?_
  refine r_loadV rfl rfl rfl rfl rfl ?_
  refine r_call rfl rfl rfl (by kernel_rfl) rfl (fun w hw => by exact Pop_ok [] (by decide) 514 w) ?_
  refine r_move rfl rfl ?_
  refine r_extract rfl rfl rfl ?_
  refine r_extract rfl rfl rfl ?_
  refine r_extract rfl rfl rfl ?_
  refine r_alloc rfl rfl fun b8 => ?_
  refine r_storeV rfl rfl rfl rfl rfl rfl ?_
  refine r_assign rfl rfl ?_
  refine r_assign rfl rfl ?_
  refine r_nil ?_
  refine r_tn ?_
  refine r_seq ?_
  refine r_region ?_
  refine r_loadV rfl rfl rfl rfl rfl ?_
  refine r_call rfl rfl rfl (by kernel_rfl) rfl (fun w hw => by exact Pop_empty w) ?_
  refine r_move rfl rfl ?_
  refine r_extract rfl rfl rfl ?_
  refine r_extract rfl rfl rfl ?_
  refine r_extract rfl rfl rfl ?_
  refine r_alloc rfl rfl fun b11 => ?_
  refine r_storeV rfl rfl rfl rfl rfl rfl ?_
  refine r_assign rfl rfl ?_
  refine r_assign rfl rfl ?_
  refine r_nil ?_
  refine r_tn ?_
  refine r_seq ?_
  refine r_region ?_
  refine r_move rfl rfl ?_
  refine r_eql rfl rfl rfl (decide_eq_true rfl) ?_
  refine r_move rfl rfl ?_
  refine r_go rfl rfl ?_
  refine r_move rfl rfl ?_
  refine r_go rfl rfl ?_
  refine r_eql rfl rfl rfl (decide_eq_true rfl) ?_
  refine r_pick_t rfl rfl rfl ?_
  refine r_move rfl rfl ?_
  refine r_go rfl rfl ?_
  refine r_move rfl rfl ?_
  refine r_go rfl rfl ?_
  refine r_eql rfl rfl rfl (decide_eq_true rfl) ?_
  refine r_pick_t rfl rfl rfl ?_
  refine r_move rfl rfl ?_
  refine r_go rfl rfl ?_
  refine r_move rfl rfl ?_
  refine r_go rfl rfl ?_
  refine r_eql rfl rfl rfl (decide_eq_true rfl) ?_
  refine r_pick_t rfl rfl rfl ?_
  refine r_move rfl rfl ?_
  refine r_go rfl rfl ?_
  refine r_loadV rfl rfl rfl rfl rfl ?_
  refine r_go rfl rfl ?_
  refine r_loadV rfl rfl rfl rfl rfl ?_
  refine r_go rfl rfl ?_
  refine r_eqlAgg rfl rfl rfl stkFlat (stk_ok (by decide)) (stk_ok (by decide)) (stk_self (by decide)) ?_
  refine r_pick_t rfl rfl rfl ?_
  refine r_move rfl rfl ?_
  refine r_go rfl rfl ?_
  refine r_move rfl rfl ?_
  refine r_go rfl rfl ?_
  refine r_eql rfl rfl rfl (decide_eq_true rfl) ?_
  refine r_pick_t rfl rfl rfl ?_
  refine r_move rfl rfl ?_
  refine r_go rfl rfl ?_
  refine r_move rfl rfl ?_
  refine r_go rfl rfl ?_
  refine r_eql rfl rfl rfl (decide_eq_true rfl) ?_
  refine r_pick_t rfl rfl rfl ?_
  refine r_move rfl rfl ?_
  refine r_go rfl rfl ?_
  refine r_loadV rfl rfl rfl rfl rfl ?_
  refine r_go rfl rfl ?_
  refine r_build (cells := stk []) rfl rfl (by kernel_rfl) ?_
  refine r_go rfl rfl ?_
  refine r_eqlAgg rfl rfl rfl stkFlat (stk_ok (by decide)) (stk_ok (by decide)) (stk_self (by decide)) ?_
  refine r_pick_t rfl rfl rfl ?_
  refine r_move rfl rfl ?_
  refine r_go rfl rfl ?_
  refine r_move rfl rfl ?_
  refine r_go rfl rfl ?_
  refine r_eql rfl rfl rfl (decide_eq_true rfl) ?_
  refine r_pick_t rfl rfl rfl ?_
  refine r_move rfl rfl ?_
  refine r_go rfl rfl ?_
  refine r_move rfl rfl ?_
  refine r_go rfl rfl ?_
  refine r_eql rfl rfl rfl (decide_eq_true rfl) ?_
  refine r_pick_t rfl rfl rfl ?_
  refine r_assign rfl rfl ?_
  refine r_nil ?_
  refine r_tn ?_
  refine r_ret ?_
  exact r_done1 (.inl rfl) rfl (res_tmp rfl) fun w hw => ⟨rfl, hw.clear⟩

theorem StackInverse_many (A : Option Addr) (c : Nat) (l : List Int) (a : Int) (W : World) (hl : 16 < l.length) (hm : l.length ≤ 140737488351232) (hR : Rd W A (l.map (Value.int .i64))) :
    Calls Try.prog 3 #[.slice A l.length c, .int .i64 a] W fun e w' => e = .returned (.bool true) ∧ Sat W [] [] w' := by
  refine enter Try.func3 rfl rfl rfl ?_
  refine r_seq ?_
  refine r_region ?_
  refine r_assign rfl rfl ?_
  refine r_nil ?_
  refine r_tn ?_
  refine r_seq ?_
  refine r_seq ?_
  refine r_region ?_
  refine r_call rfl rfl rfl (by kernel_rfl) rfl (fun w hw => by exact awake17 w) ?_
  refine r_not rfl rfl rfl ?_
  refine r_move rfl rfl ?_
  refine r_go rfl rfl ?_
  refine r_move rfl rfl ?_
  refine r_go rfl rfl ?_
  refine r_len rfl rfl rfl ?_
  refine r_go rfl rfl ?_
  refine r_gtr rfl rfl rfl (decide_eq_true (by omega)) ?_
  refine r_pick_f rfl rfl rfl ?_
  refine r_nil ?_
  refine r_tn ?_
  refine r_cond_t rfl ?_
  refine r_seq ?_
  refine r_region ?_
  refine r_call rfl rfl rfl (by kernel_rfl) rfl (fun w hw => by exact awake17 w) ?_
  refine r_assign rfl rfl ?_
  refine r_nil ?_
  refine r_tn ?_
  refine r_ret ?_
  refine r_tr ?_
  exact r_done1 (.inl rfl) rfl (res_tmp rfl) fun w hw => ⟨rfl, hw.clear⟩

theorem StackInverse_ok (A : Option Addr) (c : Nat) (l : List Int) (a : Int) (W : World) (hl : l.length < 16) (hm : l.length ≤ 140737488351232) (hR : Rd W A (l.map (Value.int .i64))) :
    Calls Try.prog 3 #[.slice A l.length c, .int .i64 a] W fun e w' => e = .returned (.bool true) ∧ Sat W [] [] w' := by
  refine enter Try.func3 rfl rfl rfl ?_
  refine r_seq ?_
  refine r_region ?_
  refine r_assign rfl rfl ?_
  refine r_nil ?_
  refine r_tn ?_
  refine r_seq ?_
  refine r_seq ?_
  refine r_region ?_
  refine r_call rfl rfl rfl (by kernel_rfl) rfl (fun w hw => by exact awake17 w) ?_
  refine r_not rfl rfl rfl ?_
  refine r_move rfl rfl ?_
  refine r_go rfl rfl ?_
  refine r_move rfl rfl ?_
  refine r_go rfl rfl ?_
  refine r_len rfl rfl rfl ?_
  refine r_go rfl rfl ?_
  refine r_gtr rfl rfl rfl (decide_eq_false (by omega)) ?_
  refine r_pick_f rfl rfl rfl ?_
  refine r_nil ?_
  refine r_tn ?_
  refine r_cond_f rfl ?_
  refine r_skip ?_
  refine r_tn ?_
  refine r_seq ?_
  refine r_region ?_
  refine r_alloc rfl rfl fun b5 => ?_
  refine r_nil ?_
  refine r_tn ?_
  refine r_seq ?_
  refine r_seq ?_
  refine r_region ?_
  refine r_assign rfl rfl ?_
  refine r_nil ?_
  refine r_tn ?_
  refine r_block ?_
  refine r_loopN (fun k => [(0, .slice A l.length c), (1, .int .i64 a), (5, .pointer (some ⟨b5, 0, none⟩)), (6, .int .i64 (k : Int))]) (fun k => [.blk b5 (.cells (stk (l.take k)) 26 (0, 0))]) (fun k => k ≤ l.length) l.length 0 (by omega) ⟨rfl, rfl, rfl, rfl, trivial⟩ (fun w hw => hw) fun k hk => ?_
  refine r_seq ?_
  refine r_seq ?_
  refine r_region ?_
  refine r_move rfl rfl ?_
  refine r_move rfl rfl ?_
  refine r_len rfl rfl rfl ?_
  refine r_lss rfl rfl rfl rfl ?_
  refine r_nil ?_
  refine r_tn ?_
  have hlk : (l.take k).length = k := by simp; omega
  refine r_cond rfl (fun hc => ?_) (fun hc => ?_)
  · refine r_skip ?_
    refine r_tn ?_
    refine r_seq ?_
    refine r_block ?_
    refine r_seq ?_
    have hlt : k < l.length := by simpa using hc
    have hjk : (l.map (Value.int .i64))[k]? = some (.int .i64 l[k]) := by simp [hlt]
    obtain ⟨ba, oa, rfl, hcell⟩ := hR k _ hjk
    refine r_tree { xb := [], rb := [b5, ba], rs := [29, 33], fs := [], acs := [7] } (.take 0 (.take 1 (.take 2 (.take 3 (.take 4 (.fork 5 (.take 6 (.take 7 (.take 8 (.take 9 (.take 10 (.take 11 .done)))))) 9 (.take 5 (.take 6 (.take 7 (.take 8 (.take 10 (.take 11 .done)))))))))))) (by kernel_rfl) (by kernel_rfl) (fun w hw k hk => by
      simp only [List.mem_cons, List.not_mem_nil, or_false] at hk
      rcases hk with rfl | rfl
      · exact Sat.lt hw
      · exact Nat.lt_of_lt_of_le (World.block_lt_of_cell? W _ hcell) hw.size) ?_
    refine r_take rfl ?_
    have hlt : k < l.length := by simpa using hc
    refine r_loadV rfl rfl rfl rfl (stk_size (by omega)) ?_
    refine r_nil ?_
    refine r_take rfl ?_
    refine r_move rfl rfl ?_
    refine r_nil ?_
    refine r_take rfl ?_
    refine r_move rfl rfl ?_
    refine r_nil ?_
    refine r_take rfl ?_
    refine r_indexSl (sz := 1) rfl rfl rfl rfl rfl (by omega) (by omega) (show _ = oa + k by simp) ?_
    refine r_nil ?_
    refine r_take rfl ?_
    refine r_loadC rfl rfl rfl (fun w hw => (hR.keep hw).cell hjk rfl) ?_
    refine r_nil ?_
    refine r_fork rfl rfl ?_ ?_
    · refine r_call rfl rfl rfl (by kernel_rfl) rfl (fun w hw => by exact Push_ok (l.take k) (by omega) (l[k]'hlt) w) ?_
      refine r_nil ?_
      refine r_take rfl ?_
      refine r_move rfl rfl ?_
      refine r_nil ?_
      refine r_take rfl ?_
      refine r_extract rfl rfl rfl ?_
      refine r_nil ?_
      refine r_take rfl ?_
      refine r_extract rfl rfl rfl ?_
      refine r_nil ?_
      refine r_take rfl ?_
      refine r_alloc rfl rfl fun b7 => ?_
      refine r_nil ?_
      refine r_take rfl ?_
      refine r_storeV rfl rfl rfl (stk_size (by simp; omega)) rfl (stk_one _) ?_
      refine r_nil ?_
      refine r_take rfl ?_
      refine r_assign rfl rfl ?_
      refine r_nil ?_
      refine r_treeEnd ?_
      refine r_tn ?_
      refine r_seq ?_
      refine r_region ?_
      refine r_loadV rfl rfl rfl rfl (stk_size (by simp; omega)) ?_
      refine r_storeV rfl rfl rfl (stk_size (by simp; omega)) (stk_size (by omega)) (stk_one _) ?_
      refine r_nil ?_
      refine r_tn ?_
      refine r_seq ?_
      refine r_region ?_
      refine r_move rfl rfl ?_
      refine r_neq rfl rfl rfl (decide_eq_false (by simp)) ?_
      refine r_nil ?_
      refine r_tn ?_
      refine r_cond_f rfl ?_
      refine r_skip ?_
      refine r_bn ?_
      refine r_tn ?_
      refine r_region ?_
      refine r_move rfl rfl ?_
      refine r_add rfl rfl rfl (w64 (by omega)) ?_
      refine r_assign rfl rfl ?_
      refine r_nil ?_
      refine r_tn ?_
      have ht : l.take k ++ [l[k]] = l.take (k + 1) := by rw [List.take_succ_eq_append_getElem]
      exact r_againN (k + 1) (by omega) (by omega) ⟨rfl, rfl, rfl, rfl, trivial⟩ (fun w hw => by simpa only [ht] using (hw.pick (HasBlk.pick (b := b5))).only)
    · refine r_alloc rfl rfl fun b7 => ?_
      refine r_nil ?_
      refine r_take rfl ?_
      refine r_call rfl rfl rfl (by kernel_rfl) rfl (fun w hw => by exact Push_ok (l.take k) (by omega) (l[k]'hlt) w) ?_
      refine r_nil ?_
      refine r_take rfl ?_
      refine r_move rfl rfl ?_
      refine r_nil ?_
      refine r_take rfl ?_
      refine r_extract rfl rfl rfl ?_
      refine r_nil ?_
      refine r_take rfl ?_
      refine r_extract rfl rfl rfl ?_
      refine r_nil ?_
      refine r_take rfl ?_
      refine r_storeV rfl rfl rfl (stk_size (by simp; omega)) rfl (stk_one _) ?_
      refine r_nil ?_
      refine r_take rfl ?_
      refine r_assign rfl rfl ?_
      refine r_nil ?_
      refine r_treeEnd ?_
      refine r_tn ?_
      refine r_seq ?_
      refine r_region ?_
      refine r_loadV rfl rfl rfl rfl (stk_size (by simp; omega)) ?_
      refine r_storeV rfl rfl rfl (stk_size (by simp; omega)) (stk_size (by omega)) (stk_one _) ?_
      refine r_nil ?_
      refine r_tn ?_
      refine r_seq ?_
      refine r_region ?_
      refine r_move rfl rfl ?_
      refine r_neq rfl rfl rfl (decide_eq_false (by simp)) ?_
      refine r_nil ?_
      refine r_tn ?_
      refine r_cond_f rfl ?_
      refine r_skip ?_
      refine r_bn ?_
      refine r_tn ?_
      refine r_region ?_
      refine r_move rfl rfl ?_
      refine r_add rfl rfl rfl (w64 (by omega)) ?_
      refine r_assign rfl rfl ?_
      refine r_nil ?_
      refine r_tn ?_
      have ht : l.take k ++ [l[k]] = l.take (k + 1) := by rw [List.take_succ_eq_append_getElem]
      exact r_againN (k + 1) (by omega) (by omega) ⟨rfl, rfl, rfl, rfl, trivial⟩ (fun w hw => by simpa only [ht] using (hw.pick (HasBlk.pick (b := b5))).only)
  · refine r_exit ?_
    refine r_te ?_
    refine r_te ?_
    refine r_be ?_
    refine r_tn ?_
    refine r_seq ?_
    refine r_region ?_
    have hnk : ¬ k < l.length := by simpa using hc
    have hkl : k = l.length := by omega
    subst hkl
    rw [List.take_length]
    refine r_loadV rfl rfl rfl rfl (stk_size (by omega)) ?_
    refine r_move rfl rfl ?_
    refine r_call rfl rfl rfl (by kernel_rfl) rfl (fun w hw => by exact Push_ok l (by omega) a w) ?_
    refine r_move rfl rfl ?_
    refine r_extract rfl rfl rfl ?_
    refine r_extract rfl rfl rfl ?_
    refine r_alloc rfl rfl fun b9 => ?_
    refine r_storeV rfl rfl rfl (stk_size (by simp; omega)) rfl (stk_one _) ?_
    refine r_assign rfl rfl ?_
    refine r_nil ?_
    refine r_tn ?_
    refine r_seq ?_
    refine r_seq ?_
    refine r_region ?_
    refine r_move rfl rfl ?_
    refine r_len rfl rfl rfl ?_
    refine r_eql rfl rfl rfl (decide_eq_false (by omega)) ?_
    refine r_nil ?_
    refine r_tn ?_
    refine r_cond_f rfl ?_
    refine r_skip ?_
    refine r_tn ?_
    refine r_seq ?_
    refine r_region ?_
    refine r_loadV rfl rfl rfl rfl (stk_size (by simp; omega)) ?_
    refine r_call rfl rfl rfl (by kernel_rfl) rfl (fun w hw => by exact Pop_ok l (by omega) a w) ?_
    refine r_move rfl rfl ?_
    refine r_extract rfl rfl rfl ?_
    refine r_extract rfl rfl rfl ?_
    refine r_extract rfl rfl rfl ?_
    refine r_alloc rfl rfl fun b11 => ?_
    refine r_storeV rfl rfl rfl (stk_size (by omega)) rfl (stk_one _) ?_
    refine r_assign rfl rfl ?_
    refine r_assign rfl rfl ?_
    refine r_nil ?_
    refine r_tn ?_
    refine r_seq ?_
    refine r_region ?_
    refine r_move rfl rfl ?_
    refine r_eql rfl rfl rfl (decide_eq_true rfl) ?_
    refine r_move rfl rfl ?_
    refine r_go rfl rfl ?_
    refine r_move rfl rfl ?_
    refine r_go rfl rfl ?_
    refine r_eql rfl rfl rfl (decide_eq_true rfl) ?_
    refine r_pick_t rfl rfl rfl ?_
    refine r_move rfl rfl ?_
    refine r_go rfl rfl ?_
    refine r_move rfl rfl ?_
    refine r_go rfl rfl ?_
    refine r_move rfl rfl ?_
    refine r_go rfl rfl ?_
    refine r_eql rfl rfl rfl (decide_eq_true rfl) ?_
    refine r_pick_t rfl rfl rfl ?_
    refine r_move rfl rfl ?_
    refine r_go rfl rfl ?_
    refine r_loadV rfl rfl rfl rfl (stk_size (by omega)) ?_
    refine r_go rfl rfl ?_
    refine r_loadV rfl rfl rfl rfl (stk_size (by omega)) ?_
    refine r_go rfl rfl ?_
    refine r_eqlAgg rfl rfl rfl stkFlat (stk_ok (by omega)) (stk_ok (by omega)) (stk_self (by omega)) ?_
    refine r_pick_t rfl rfl rfl ?_
    refine r_assign rfl rfl ?_
    refine r_nil ?_
    refine r_tn ?_
    refine r_ret ?_
    exact r_done1 (.inl rfl) rfl (res_tmp rfl) fun w hw => ⟨rfl, hw.clear⟩

theorem StackInverse_full (A : Option Addr) (c : Nat) (l : List Int) (a : Int) (W : World) (hl : l.length = 16) (hm : l.length ≤ 140737488351232) (hR : Rd W A (l.map (Value.int .i64))) :
    Calls Try.prog 3 #[.slice A l.length c, .int .i64 a] W fun e w' => e = .returned (.bool true) ∧ Sat W [] [] w' := by
  refine enter Try.func3 rfl rfl rfl ?_
  refine r_seq ?_
  refine r_region ?_
  refine r_assign rfl rfl ?_
  refine r_nil ?_
  refine r_tn ?_
  refine r_seq ?_
  refine r_seq ?_
  refine r_region ?_
  refine r_call rfl rfl rfl (by kernel_rfl) rfl (fun w hw => by exact awake17 w) ?_
  refine r_not rfl rfl rfl ?_
  refine r_move rfl rfl ?_
  refine r_go rfl rfl ?_
  refine r_move rfl rfl ?_
  refine r_go rfl rfl ?_
  refine r_len rfl rfl rfl ?_
  refine r_go rfl rfl ?_
  refine r_gtr rfl rfl rfl (decide_eq_false (by omega)) ?_
  refine r_pick_f rfl rfl rfl ?_
  refine r_nil ?_
  refine r_tn ?_
  refine r_cond_f rfl ?_
  refine r_skip ?_
  refine r_tn ?_
  refine r_seq ?_
  refine r_region ?_
  refine r_alloc rfl rfl fun b5 => ?_
  refine r_nil ?_
  refine r_tn ?_
  refine r_seq ?_
  refine r_seq ?_
  refine r_region ?_
  refine r_assign rfl rfl ?_
  refine r_nil ?_
  refine r_tn ?_
  refine r_block ?_
  refine r_loopN (fun k => [(0, .slice A l.length c), (1, .int .i64 a), (5, .pointer (some ⟨b5, 0, none⟩)), (6, .int .i64 (k : Int))]) (fun k => [.blk b5 (.cells (stk (l.take k)) 26 (0, 0))]) (fun k => k ≤ l.length) l.length 0 (by omega) ⟨rfl, rfl, rfl, rfl, trivial⟩ (fun w hw => hw) fun k hk => ?_
  refine r_seq ?_
  refine r_seq ?_
  refine r_region ?_
  refine r_move rfl rfl ?_
  refine r_move rfl rfl ?_
  refine r_len rfl rfl rfl ?_
  refine r_lss rfl rfl rfl rfl ?_
  refine r_nil ?_
  refine r_tn ?_
  have hlk : (l.take k).length = k := by simp; omega
  refine r_cond rfl (fun hc => ?_) (fun hc => ?_)
  · refine r_skip ?_
    refine r_tn ?_
    refine r_seq ?_
    refine r_block ?_
    refine r_seq ?_
    have hlt : k < l.length := by simpa using hc
    have hjk : (l.map (Value.int .i64))[k]? = some (.int .i64 l[k]) := by simp [hlt]
    obtain ⟨ba, oa, rfl, hcell⟩ := hR k _ hjk
    refine r_tree { xb := [], rb := [b5, ba], rs := [29, 33], fs := [], acs := [7] } (.take 0 (.take 1 (.take 2 (.take 3 (.take 4 (.fork 5 (.take 6 (.take 7 (.take 8 (.take 9 (.take 10 (.take 11 .done)))))) 9 (.take 5 (.take 6 (.take 7 (.take 8 (.take 10 (.take 11 .done)))))))))))) (by kernel_rfl) (by kernel_rfl) (fun w hw k hk => by
      simp only [List.mem_cons, List.not_mem_nil, or_false] at hk
      rcases hk with rfl | rfl
      · exact Sat.lt hw
      · exact Nat.lt_of_lt_of_le (World.block_lt_of_cell? W _ hcell) hw.size) ?_
    refine r_take rfl ?_
    have hlt : k < l.length := by simpa using hc
    refine r_loadV rfl rfl rfl rfl (stk_size (by omega)) ?_
    refine r_nil ?_
    refine r_take rfl ?_
    refine r_move rfl rfl ?_
    refine r_nil ?_
    refine r_take rfl ?_
    refine r_move rfl rfl ?_
    refine r_nil ?_
    refine r_take rfl ?_
    refine r_indexSl (sz := 1) rfl rfl rfl rfl rfl (by omega) (by omega) (show _ = oa + k by simp) ?_
    refine r_nil ?_
    refine r_take rfl ?_
    refine r_loadC rfl rfl rfl (fun w hw => (hR.keep hw).cell hjk rfl) ?_
    refine r_nil ?_
    refine r_fork rfl rfl ?_ ?_
    · refine r_call rfl rfl rfl (by kernel_rfl) rfl (fun w hw => by exact Push_ok (l.take k) (by omega) (l[k]'hlt) w) ?_
      refine r_nil ?_
      refine r_take rfl ?_
      refine r_move rfl rfl ?_
      refine r_nil ?_
      refine r_take rfl ?_
      refine r_extract rfl rfl rfl ?_
      refine r_nil ?_
      refine r_take rfl ?_
      refine r_extract rfl rfl rfl ?_
      refine r_nil ?_
      refine r_take rfl ?_
      refine r_alloc rfl rfl fun b7 => ?_
      refine r_nil ?_
      refine r_take rfl ?_
      refine r_storeV rfl rfl rfl (stk_size (by simp; omega)) rfl (stk_one _) ?_
      refine r_nil ?_
      refine r_take rfl ?_
      refine r_assign rfl rfl ?_
      refine r_nil ?_
      refine r_treeEnd ?_
      refine r_tn ?_
      refine r_seq ?_
      refine r_region ?_
      refine r_loadV rfl rfl rfl rfl (stk_size (by simp; omega)) ?_
      refine r_storeV rfl rfl rfl (stk_size (by simp; omega)) (stk_size (by omega)) (stk_one _) ?_
      refine r_nil ?_
      refine r_tn ?_
      refine r_seq ?_
      refine r_region ?_
      refine r_move rfl rfl ?_
      refine r_neq rfl rfl rfl (decide_eq_false (by simp)) ?_
      refine r_nil ?_
      refine r_tn ?_
      refine r_cond_f rfl ?_
      refine r_skip ?_
      refine r_bn ?_
      refine r_tn ?_
      refine r_region ?_
      refine r_move rfl rfl ?_
      refine r_add rfl rfl rfl (w64 (by omega)) ?_
      refine r_assign rfl rfl ?_
      refine r_nil ?_
      refine r_tn ?_
      have ht : l.take k ++ [l[k]] = l.take (k + 1) := by rw [List.take_succ_eq_append_getElem]
      exact r_againN (k + 1) (by omega) (by omega) ⟨rfl, rfl, rfl, rfl, trivial⟩ (fun w hw => by simpa only [ht] using (hw.pick (HasBlk.pick (b := b5))).only)
    · refine r_alloc rfl rfl fun b7 => ?_
      refine r_nil ?_
      refine r_take rfl ?_
      refine r_call rfl rfl rfl (by kernel_rfl) rfl (fun w hw => by exact Push_ok (l.take k) (by omega) (l[k]'hlt) w) ?_
      refine r_nil ?_
      refine r_take rfl ?_
      refine r_move rfl rfl ?_
      refine r_nil ?_
      refine r_take rfl ?_
      refine r_extract rfl rfl rfl ?_
      refine r_nil ?_
      refine r_take rfl ?_
      refine r_extract rfl rfl rfl ?_
      refine r_nil ?_
      refine r_take rfl ?_
      refine r_storeV rfl rfl rfl (stk_size (by simp; omega)) rfl (stk_one _) ?_
      refine r_nil ?_
      refine r_take rfl ?_
      refine r_assign rfl rfl ?_
      refine r_nil ?_
      refine r_treeEnd ?_
      refine r_tn ?_
      refine r_seq ?_
      refine r_region ?_
      refine r_loadV rfl rfl rfl rfl (stk_size (by simp; omega)) ?_
      refine r_storeV rfl rfl rfl (stk_size (by simp; omega)) (stk_size (by omega)) (stk_one _) ?_
      refine r_nil ?_
      refine r_tn ?_
      refine r_seq ?_
      refine r_region ?_
      refine r_move rfl rfl ?_
      refine r_neq rfl rfl rfl (decide_eq_false (by simp)) ?_
      refine r_nil ?_
      refine r_tn ?_
      refine r_cond_f rfl ?_
      refine r_skip ?_
      refine r_bn ?_
      refine r_tn ?_
      refine r_region ?_
      refine r_move rfl rfl ?_
      refine r_add rfl rfl rfl (w64 (by omega)) ?_
      refine r_assign rfl rfl ?_
      refine r_nil ?_
      refine r_tn ?_
      have ht : l.take k ++ [l[k]] = l.take (k + 1) := by rw [List.take_succ_eq_append_getElem]
      exact r_againN (k + 1) (by omega) (by omega) ⟨rfl, rfl, rfl, rfl, trivial⟩ (fun w hw => by simpa only [ht] using (hw.pick (HasBlk.pick (b := b5))).only)
  · refine r_exit ?_
    refine r_te ?_
    refine r_te ?_
    refine r_be ?_
    refine r_tn ?_
    refine r_seq ?_
    refine r_region ?_
    have hnk : ¬ k < l.length := by simpa using hc
    have hkl : k = l.length := by omega
    subst hkl
    rw [List.take_length]
    refine r_loadV rfl rfl rfl rfl (stk_size (by omega)) ?_
    refine r_move rfl rfl ?_
    refine r_call rfl rfl rfl (by kernel_rfl) rfl (fun w hw => by exact Push_full l (by omega) a w) ?_
    refine r_move rfl rfl ?_
    refine r_extract rfl rfl rfl ?_
    refine r_extract rfl rfl rfl ?_
    refine r_alloc rfl rfl fun b9 => ?_
    refine r_storeV rfl rfl rfl (stk_size (by omega)) rfl (stk_one _) ?_
    refine r_assign rfl rfl ?_
    refine r_nil ?_
    refine r_tn ?_
    refine r_seq ?_
    refine r_seq ?_
    refine r_region ?_
    refine r_move rfl rfl ?_
    refine r_len rfl rfl rfl ?_
    refine r_eql rfl rfl rfl (decide_eq_true (by omega)) ?_
    refine r_nil ?_
    refine r_tn ?_
    refine r_cond_t rfl ?_
    refine r_seq ?_
    refine r_region ?_
    refine r_move rfl rfl ?_
    refine r_eql rfl rfl rfl (decide_eq_true rfl) ?_
    refine r_move rfl rfl ?_
    refine r_go rfl rfl ?_
    refine r_loadV rfl rfl rfl rfl (stk_size (by omega)) ?_
    refine r_go rfl rfl ?_
    refine r_loadV rfl rfl rfl rfl (stk_size (by omega)) ?_
    refine r_go rfl rfl ?_
    refine r_eqlAgg rfl rfl rfl stkFlat (stk_ok (by omega)) (stk_ok (by omega)) (stk_self (by omega)) ?_
    refine r_pick_t rfl rfl rfl ?_
    refine r_assign rfl rfl ?_
    refine r_nil ?_
    refine r_tn ?_
    refine r_ret ?_
    refine r_tr ?_
    exact r_done1 (.inl rfl) rfl (res_tmp rfl) fun w hw => ⟨rfl, hw.clear⟩

theorem StackInverse_walk (A : Option Addr) (c : Nat) (l : List Int) (a : Int) (W : World) (hR : Rd W A (l.map (Value.int .i64))) (hm : l.length ≤ 140737488351232) :
    Calls Try.prog 3 #[.slice A l.length c, .int .i64 a] W fun e w' => e = .returned (.bool true) ∧ Sat W [] [] w' := by
  rcases Nat.lt_trichotomy l.length 16 with h | h | h
  · exact StackInverse_ok A c l a W h hm hR
  · exact StackInverse_full A c l a W h hm hR
  · exact StackInverse_many A c l a W h hm hR

end Go.Proofs.Ytapknkmlgmckkaa
