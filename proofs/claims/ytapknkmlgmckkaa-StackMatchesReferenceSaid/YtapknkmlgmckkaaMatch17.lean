/-
  StackMatchesReference: the stack does what the reference does.
-/
import Derived.Test.YtapknkmlgmckkaaRef17
namespace Go.Proofs.Ytapknkmlgmckkaa
open Go Go.RowKit
set_option linter.unusedVariables false

set_option maxHeartbeats 2000000 in
theorem StackMatchesReference_many (A : Option Addr) (c : Nat) (l : List Int) (W : World) (hl : 200 < l.length) (hm : l.length ≤ 140737488351232) (hR : Rd W A (l.map (Value.int .i64))) :
    Calls Try.prog 8 #[.slice A l.length c] W fun e w' => e = .returned (.bool true) ∧ Sat W [] [] w' := by
  refine enter Try.func8 rfl rfl rfl ?_
  refine r_seq ?_
  refine r_region ?_
  refine r_assign rfl rfl ?_
  refine r_nil ?_
  refine r_tn ?_
  refine r_seq ?_
  refine r_seq ?_
  refine r_region ?_
  refine r_call rfl rfl rfl (by kernel_rfl) rfl (fun w hw => by exact awake17 w) ?_
  refine r_not rfl rfl rfl ?_
  refine r_move rfl rfl ?_
  refine r_go rfl rfl ?_
  refine r_move rfl rfl ?_
  refine r_go rfl rfl ?_
  refine r_len rfl rfl rfl ?_
  refine r_go rfl rfl ?_
  refine r_gtr rfl rfl rfl (decide_eq_true (by omega)) ?_
  refine r_pick_f rfl rfl rfl ?_
  refine r_nil ?_
  refine r_tn ?_
  refine r_cond_t rfl ?_
  refine r_seq ?_
  refine r_region ?_
  refine r_call rfl rfl rfl (by kernel_rfl) rfl (fun w hw => by exact awake17 w) ?_
  refine r_assign rfl rfl ?_
  refine r_nil ?_
  refine r_tn ?_
  refine r_ret ?_
  refine r_tr ?_
  exact r_done1 (.inl rfl) rfl (res_tmp rfl) fun w hw => ⟨rfl, hw.clear⟩

set_option maxHeartbeats 2000000 in
theorem StackMatchesReference_ok (A : Option Addr) (c : Nat) (l : List Int) (W : World) (hl : l.length ≤ 200) (hm : l.length ≤ 140737488351232) (hR : Rd W A (l.map (Value.int .i64))) :
    Calls Try.prog 8 #[.slice A l.length c] W fun e w' => e = .returned (.bool true) ∧ Sat W [] [] w' := by
  refine enter Try.func8 rfl rfl rfl ?_
  refine r_seq ?_
  refine r_region ?_
  refine r_assign rfl rfl ?_
  refine r_nil ?_
  refine r_tn ?_
  refine r_seq ?_
  refine r_seq ?_
  refine r_region ?_
  refine r_call rfl rfl rfl (by kernel_rfl) rfl (fun w hw => by exact awake17 w) ?_
  refine r_not rfl rfl rfl ?_
  refine r_move rfl rfl ?_
  refine r_go rfl rfl ?_
  refine r_move rfl rfl ?_
  refine r_go rfl rfl ?_
  refine r_len rfl rfl rfl ?_
  refine r_go rfl rfl ?_
  refine r_gtr rfl rfl rfl (decide_eq_false (by omega)) ?_
  refine r_pick_f rfl rfl rfl ?_
  refine r_nil ?_
  refine r_tn ?_
  refine r_cond_f rfl ?_
  refine r_skip ?_
  refine r_tn ?_
  refine r_seq ?_
  refine r_region ?_
  refine r_alloc rfl rfl fun b3 => ?_
  refine r_nil ?_
  refine r_tn ?_
  refine r_seq ?_
  refine r_region ?_
  refine r_assign rfl rfl ?_
  refine r_nil ?_
  refine r_tn ?_
  refine r_seq ?_
  refine r_seq ?_
  refine r_region ?_
  refine r_assign rfl rfl ?_
  refine r_nil ?_
  refine r_tn ?_
  refine r_block ?_
  refine Run.ownNil 3 1 ?_
  refine r_loop3 (fun k m B d => [(0, .slice A l.length c), (3, .pointer (some ⟨b3, 0, none⟩)), (4, .slice B m.length d), (5, .int .i64 (k : Int))]) (fun k m B d => [.blk b3 (.cells (stk m) 26 (0, 0)), .own 3 1 (.slice B m.length d) m.length (m.map (Value.int .i64))]) (fun k m B d => k ≤ l.length ∧ m.length ≤ 16) l.length 0 ([] : List Int) none 0 (by simp) ⟨rfl, rfl, rfl, rfl, trivial⟩ (fun w hw => hw.perm (.swap _ _ _)) fun k m B d hk => ?_
  obtain ⟨hk, hm16⟩ := hk
  refine r_seq ?_
  refine r_seq ?_
  refine r_region ?_
  refine r_move rfl rfl ?_
  refine r_move rfl rfl ?_
  refine r_len rfl rfl rfl ?_
  refine r_lss rfl rfl rfl rfl ?_
  refine r_nil ?_
  refine r_tn ?_
  refine r_cond rfl (fun hc => ?_) (fun hc => ?_)
  · refine r_skip ?_
    refine r_tn ?_
    refine r_seq ?_
    refine r_block ?_
    refine r_seq ?_
    refine r_cut (fun i : { i : List Int × Option Addr × Nat // i.1.length ≤ 16 } => ([(0, .slice A l.length c), (3, .pointer (some ⟨b3, 0, none⟩)), (4, .slice i.1.2.1 i.1.1.length i.1.2.2), (5, .int .i64 (k : Int))], [.blk b3 (.cells (stk i.1.1) 26 (0, 0)), .own 3 1 (.slice i.1.2.1 i.1.1.length i.1.2.2) i.1.1.length (i.1.1.map (Value.int .i64))])) ?_ ?_
    · refine r_seq ?_
      refine r_region ?_
      have hlt : k < l.length := by simpa using hc
      have hjk : (l.map (Value.int .i64))[k]? = some (.int .i64 l[k]) := by simp [hlt]
      obtain ⟨ba, oa, rfl, hcell⟩ := hR k _ hjk
      refine r_move rfl rfl ?_
      refine r_move rfl rfl ?_
      refine r_indexSl (sz := 1) rfl rfl rfl rfl rfl (by omega) (by omega) (show _ = oa + k by simp) ?_
      refine r_loadC rfl rfl rfl (fun w hw => (hR.keep hw).cell hjk rfl) ?_
      refine r_lss rfl rfl rfl rfl ?_
      refine r_nil ?_
      refine r_tn ?_
      refine r_cond rfl (fun hc => ?_) (fun hc => ?_)
      · refine r_seq ?_
        refine r_region ?_
        refine r_loadV rfl rfl rfl rfl (stk_size (hm16)) ?_
        refine r_call rfl rfl rfl (by kernel_rfl) rfl (fun w hw => by exact Pop_any m hm16 w) ?_
        refine r_move rfl rfl ?_
        refine r_extract rfl rfl rfl ?_
        refine r_extract rfl rfl rfl ?_
        refine r_extract rfl rfl rfl ?_
        refine r_alloc rfl rfl fun b6 => ?_
        refine r_storeV rfl rfl rfl (stk_size (Nat.le_trans (popM_le m) hm16)) rfl (stk_one _) ?_
        refine r_assign rfl rfl ?_
        refine r_assign rfl rfl ?_
        refine r_nil ?_
        refine r_tn ?_
        refine r_seq ?_
        refine r_region ?_
        refine r_move rfl rfl ?_
        refine r_have (fun w hw => own_cap (A := B) (m := m.length) (c := d) hw) fun hcap => ?_
        refine r_call rfl rfl rfl (by kernel_rfl) rfl (fun w hw => by exact refPop_any B d m hm16 hcap w (own_rd (A := B) (m := m.length) (c := d) hw)) ?_
        refine r_move rfl rfl ?_
        refine r_extract rfl rfl rfl ?_
        refine r_extract rfl rfl rfl ?_
        refine r_extract rfl rfl rfl ?_
        refine r_assign rfl rfl ?_
        refine r_assign rfl rfl ?_
        refine r_assign rfl rfl ?_
        refine r_nil ?_
        refine r_tn ?_
        refine r_seq ?_
        refine r_region ?_
        refine r_loadV rfl rfl rfl rfl (stk_size (Nat.le_trans (popM_le m) hm16)) ?_
        refine r_storeV rfl rfl rfl (stk_size (Nat.le_trans (popM_le m) hm16)) (stk_size hm16) (stk_one _) ?_
        refine r_nil ?_
        refine r_tn ?_
        refine r_seq ?_
        refine r_region ?_
        refine r_move rfl rfl ?_
        refine r_assign rfl rfl ?_
        refine r_nil ?_
        refine r_tn ?_
        refine r_seq ?_
        refine r_region ?_
        refine r_move rfl rfl ?_
        refine r_move rfl rfl ?_
        refine r_neq rfl rfl rfl (decide_eq_false (by simp)) ?_
        refine r_move rfl rfl ?_
        refine r_go rfl rfl ?_
        refine r_move rfl rfl ?_
        refine r_go rfl rfl ?_
        refine r_move rfl rfl ?_
        refine r_go rfl rfl ?_
        refine r_neq rfl rfl rfl (decide_eq_false (by simp)) ?_
        refine r_pick_f rfl rfl rfl ?_
        refine r_nil ?_
        refine r_tn ?_
        refine r_cond_f rfl ?_
        refine r_skip ?_
        refine r_tn ?_
        refine Run.ownTake (.slice B m.length d) rfl (popM_le m) ?_
        rw [show (m.map (Value.int .i64)).take ((popM m).1.length * 1) = (popM m).1.map (Value.int .i64) by rw [Nat.mul_one, ← List.map_take, ← popM_take]]
        exact r_at ⟨((popM m).1, B, d), Nat.le_trans (popM_le m) hm16⟩ ⟨rfl, rfl, rfl, rfl, trivial⟩ (fun w hw => hw.sub)
      · refine r_seq ?_
        refine r_tree { xb := [], rb := [b3, ba], rs := [59, 63], fs := [], acs := [12] } (.take 0 (.take 1 (.take 2 (.take 3 (.take 4 (.fork 5 (.take 6 (.take 7 (.take 8 (.take 9 (.take 10 (.take 11 .done)))))) 9 (.take 5 (.take 6 (.take 7 (.take 8 (.take 10 (.take 11 .done)))))))))))) (by kernel_rfl) (by kernel_rfl) (fun w hw k hk => by
          simp only [List.mem_cons, List.not_mem_nil, or_false] at hk
          rcases hk with rfl | rfl
          · exact Sat.lt hw
          · exact Nat.lt_of_lt_of_le (World.block_lt_of_cell? W _ hcell) hw.size) ?_
        refine r_take rfl ?_
        refine r_loadV rfl rfl rfl rfl (stk_size (hm16)) ?_
        refine r_nil ?_
        refine r_take rfl ?_
        refine r_move rfl rfl ?_
        refine r_nil ?_
        refine r_take rfl ?_
        refine r_move rfl rfl ?_
        refine r_nil ?_
        refine r_take rfl ?_
        refine r_indexSl (sz := 1) rfl rfl rfl rfl rfl (by omega) (by omega) (show _ = oa + k by simp) ?_
        refine r_nil ?_
        refine r_take rfl ?_
        refine r_loadC rfl rfl rfl (fun w hw => (hR.keep hw).cell hjk rfl) ?_
        refine r_nil ?_
        refine r_fork rfl rfl ?_ ?_
        · refine r_call rfl rfl rfl (by kernel_rfl) rfl (fun w hw => by exact Push_any m hm16 (l[k]'hlt) w) ?_
          refine r_nil ?_
          refine r_take rfl ?_
          refine r_move rfl rfl ?_
          refine r_nil ?_
          refine r_take rfl ?_
          refine r_extract rfl rfl rfl ?_
          refine r_nil ?_
          refine r_take rfl ?_
          refine r_extract rfl rfl rfl ?_
          refine r_nil ?_
          refine r_take rfl ?_
          refine r_alloc rfl rfl fun b12 => ?_
          refine r_nil ?_
          refine r_take rfl ?_
          have hpl : (pushM m l[k]).1.length ≤ 16 := by unfold pushM; split <;> simp <;> omega
          refine r_storeV rfl rfl rfl (stk_size hpl) rfl (stk_one _) ?_
          refine r_nil ?_
          refine r_take rfl ?_
          refine r_assign rfl rfl ?_
          refine r_nil ?_
          refine r_treeEnd ?_
          refine r_tn ?_
          refine r_seq ?_
          refine r_region ?_
          refine r_move rfl rfl ?_
          refine r_move rfl rfl ?_
          refine r_move rfl rfl ?_
          refine r_indexSl (sz := 1) rfl rfl rfl rfl rfl (by omega) (by omega) (show _ = oa + k by simp) ?_
          refine r_loadC rfl rfl rfl (fun w hw => (hR.keep hw).cell hjk rfl) ?_
          refine r_callo (.slice B m.length d) rfl rfl rfl (by kernel_rfl) rfl (fun w hs => by exact refPush_any B d m hm16 (l[k]'hlt) w hs) ?_
          rintro ⟨A73, c73⟩ _
          refine r_move rfl rfl ?_
          refine r_extract rfl rfl rfl ?_
          refine r_extract rfl rfl rfl ?_
          refine r_assign rfl rfl ?_
          refine r_assign rfl rfl ?_
          refine r_nil ?_
          refine r_tn ?_
          refine r_seq ?_
          refine r_region ?_
          refine r_loadV rfl rfl rfl rfl (stk_size hpl) ?_
          refine r_storeV rfl rfl rfl (stk_size hpl) (stk_size hm16) (stk_one _) ?_
          refine r_nil ?_
          refine r_tn ?_
          refine r_seq ?_
          refine r_region ?_
          refine r_move rfl rfl ?_
          refine r_assign rfl rfl ?_
          refine r_nil ?_
          refine r_tn ?_
          refine r_seq ?_
          refine r_region ?_
          refine r_move rfl rfl ?_
          refine r_move rfl rfl ?_
          refine r_neq rfl rfl rfl (decide_eq_false (by simp)) ?_
          refine r_nil ?_
          refine r_tn ?_
          refine r_cond_f rfl ?_
          refine r_skip ?_
          refine r_tn ?_
          exact r_at ⟨((pushM m l[k]).1, A73, c73), hpl⟩ ⟨rfl, rfl, rfl, rfl, trivial⟩ (fun w hw => hw.sub)
        · refine r_alloc rfl rfl fun b12 => ?_
          refine r_nil ?_
          refine r_take rfl ?_
          refine r_call rfl rfl rfl (by kernel_rfl) rfl (fun w hw => by exact Push_any m hm16 (l[k]'hlt) w) ?_
          refine r_nil ?_
          refine r_take rfl ?_
          refine r_move rfl rfl ?_
          refine r_nil ?_
          refine r_take rfl ?_
          refine r_extract rfl rfl rfl ?_
          refine r_nil ?_
          refine r_take rfl ?_
          refine r_extract rfl rfl rfl ?_
          refine r_nil ?_
          refine r_take rfl ?_
          have hpl : (pushM m l[k]).1.length ≤ 16 := by unfold pushM; split <;> simp <;> omega
          refine r_storeV rfl rfl rfl (stk_size hpl) rfl (stk_one _) ?_
          refine r_nil ?_
          refine r_take rfl ?_
          refine r_assign rfl rfl ?_
          refine r_nil ?_
          refine r_treeEnd ?_
          refine r_tn ?_
          refine r_seq ?_
          refine r_region ?_
          refine r_move rfl rfl ?_
          refine r_move rfl rfl ?_
          refine r_move rfl rfl ?_
          refine r_indexSl (sz := 1) rfl rfl rfl rfl rfl (by omega) (by omega) (show _ = oa + k by simp) ?_
          refine r_loadC rfl rfl rfl (fun w hw => (hR.keep hw).cell hjk rfl) ?_
          refine r_callo (.slice B m.length d) rfl rfl rfl (by kernel_rfl) rfl (fun w hs => by exact refPush_any B d m hm16 (l[k]'hlt) w hs) ?_
          rintro ⟨A73, c73⟩ _
          refine r_move rfl rfl ?_
          refine r_extract rfl rfl rfl ?_
          refine r_extract rfl rfl rfl ?_
          refine r_assign rfl rfl ?_
          refine r_assign rfl rfl ?_
          refine r_nil ?_
          refine r_tn ?_
          refine r_seq ?_
          refine r_region ?_
          refine r_loadV rfl rfl rfl rfl (stk_size hpl) ?_
          refine r_storeV rfl rfl rfl (stk_size hpl) (stk_size hm16) (stk_one _) ?_
          refine r_nil ?_
          refine r_tn ?_
          refine r_seq ?_
          refine r_region ?_
          refine r_move rfl rfl ?_
          refine r_assign rfl rfl ?_
          refine r_nil ?_
          refine r_tn ?_
          refine r_seq ?_
          refine r_region ?_
          refine r_move rfl rfl ?_
          refine r_move rfl rfl ?_
          refine r_neq rfl rfl rfl (decide_eq_false (by simp)) ?_
          refine r_nil ?_
          refine r_tn ?_
          refine r_cond_f rfl ?_
          refine r_skip ?_
          refine r_tn ?_
          exact r_at ⟨((pushM m l[k]).1, A73, c73), hpl⟩ ⟨rfl, rfl, rfl, rfl, trivial⟩ (fun w hw => hw.sub)
    have hlt : k < l.length := by simpa using hc
    rintro ⟨⟨m2, B2, d2⟩, hm2⟩
    dsimp only at hm2 ⊢
    refine r_seq ?_
    refine r_seq ?_
    refine r_region ?_
    refine r_fieldAddr (off := 16) rfl rfl rfl rfl ?_
    refine r_load1 rfl rfl rfl (stk_depth hm2) ?_
    refine r_move rfl rfl ?_
    refine r_len rfl rfl rfl ?_
    refine r_neq rfl rfl rfl (decide_eq_false (by simp)) ?_
    refine r_move rfl rfl ?_
    refine r_go rfl rfl ?_
    refine r_loadV rfl rfl rfl rfl (stk_size (hm2)) ?_
    refine r_go rfl rfl ?_
    refine r_callx rfl rfl rfl (by kernel_rfl) rfl (fun w hw => list17 m2 hm2 w) ?_
    rintro ⟨A88, c88⟩ _
    refine r_go rfl rfl ?_
    refine r_move rfl rfl ?_
    refine r_go rfl rfl ?_
    refine r_call (v := .bool true) rfl rfl rfl (by kernel_rfl) rfl (fun w hw => by have h := numbers A88 B2 c88 d2 m2 m2 w (by omega) (own_rd (A := A88) (m := m2.length) (c := c88) hw) (own_rd (A := B2) (m := m2.length) (c := d2) hw); simpa using h) ?_
    refine r_go rfl rfl ?_
    refine r_not rfl rfl rfl ?_
    refine r_pick_f rfl rfl rfl ?_
    refine r_nil ?_
    refine r_tn ?_
    refine r_cond_f rfl ?_
    refine r_skip ?_
    refine r_tn ?_
    refine r_seq ?_
    refine r_region ?_
    refine r_move rfl rfl ?_
    refine r_len rfl rfl rfl ?_
    refine r_assign rfl rfl ?_
    refine r_nil ?_
    refine r_tn ?_
    refine r_block ?_
    refine r_loopN (fun q => [(0, .slice A l.length c), (3, .pointer (some ⟨b3, 0, none⟩)), (4, .slice B2 m2.length d2), (5, .int .i64 (k : Int)), (16, .int .i64 (q : Int))]) (fun q => [.blk b3 (.cells (stk m2) 26 (0, 0)), .own 3 1 (.slice B2 m2.length d2) m2.length (m2.map (Value.int .i64))]) (fun q => m2.length ≤ q ∧ q ≤ 16) 16 m2.length (by omega) ⟨rfl, rfl, rfl, rfl, rfl, trivial⟩ (fun w hw => hw.sub) fun q hq => ?_
    refine r_seq ?_
    refine r_seq ?_
    refine r_region ?_
    refine r_move rfl rfl ?_
    refine r_lss rfl rfl rfl rfl ?_
    refine r_nil ?_
    refine r_tn ?_
    refine r_cond rfl (fun hc => ?_) (fun hc => ?_)
    · refine r_skip ?_
      refine r_tn ?_
      refine r_seq ?_
      refine r_block ?_
      refine r_seq ?_
      refine r_region ?_
      refine r_move rfl rfl ?_
      refine r_fieldAddr (off := 0) rfl rfl rfl rfl ?_
      have hq2 : q < 16 := by have h := of_decide_eq_true hc; omega
      refine r_indexArr (sz := 1) rfl rfl rfl rfl rfl (by omega) (by omega) (show _ = q by simp) ?_
      refine r_load1 rfl rfl rfl (stk_zero hq.1 hq2) ?_
      refine r_neq rfl rfl rfl (decide_eq_false (by simp)) ?_
      refine r_nil ?_
      refine r_tn ?_
      refine r_cond_f rfl ?_
      refine r_skip ?_
      refine r_bn ?_
      refine r_tn ?_
      refine r_region ?_
      refine r_move rfl rfl ?_
      refine r_add rfl rfl rfl (w64 (by omega)) ?_
      refine r_assign rfl rfl ?_
      refine r_nil ?_
      refine r_tn ?_
      exact r_againN (q + 1) (by omega) (by omega) ⟨rfl, rfl, rfl, rfl, rfl, trivial⟩ (fun w hw => hw)
    · refine r_exit ?_
      refine r_te ?_
      refine r_te ?_
      refine r_be ?_
      refine r_bn ?_
      refine r_tn ?_
      refine r_region ?_
      refine r_move rfl rfl ?_
      refine r_add rfl rfl rfl (w64 (by omega)) ?_
      refine r_assign rfl rfl ?_
      refine r_nil ?_
      refine r_tn ?_
      exact r_again3 (k + 1) m2 B2 d2 ⟨by omega, hm2⟩ (by omega) ⟨rfl, rfl, rfl, rfl, trivial⟩ (fun w hw => hw.sub)
  · refine r_exit ?_
    refine r_te ?_
    refine r_te ?_
    refine r_be ?_
    refine r_tn ?_
    refine r_seq ?_
    refine r_region ?_
    refine r_assign rfl rfl ?_
    refine r_nil ?_
    refine r_tn ?_
    refine r_ret ?_
    exact r_done1 (.inl rfl) rfl (res_tmp rfl) fun w hw => ⟨rfl, hw.clear⟩

theorem StackMatchesReference_walk (A : Option Addr) (c : Nat) (l : List Int) (W : World) (hR : Rd W A (l.map (Value.int .i64))) (hm : l.length ≤ 140737488351232) :
    Calls Try.prog 8 #[.slice A l.length c] W fun e w' => e = .returned (.bool true) ∧ Sat W [] [] w' := by
  by_cases h : l.length ≤ 200
  · exact StackMatchesReference_ok A c l W h hm hR
  · exact StackMatchesReference_many A c l W (by omega) hm hR
end Go.Proofs.Ytapknkmlgmckkaa
