/-
  AluOthers: the arithmetic unit leaves the other registers as they were.
-/
import Derived.Test.YtddoohbgiieiiaaAw18
import Derived.Test.YtddoohbgiieiiaaBits18
namespace Go.Proofs.Ytddoohbgiieiiaa
open Go Go.RowKit
set_option linter.unusedVariables false
set_option linter.unusedSimpArgs false
set_option maxHeartbeats 2000000

theorem doL_other {l : List Int} (h : l.length = 16) {X res flg : Int} {i : Nat} (hX : 0 ≤ X) (h1 : (i : Int) ≠ X) (h2 : i ≠ 15 ∨ flg < 0) : (doL l X res flg).getD i 0 = l.getD i 0 := by
  have hne : X.toNat ≠ i := by omega
  unfold doL
  simp only [List.getD]
  split
  · rw [List.getElem?_set_ne (by omega), List.getElem?_set_ne hne]
  · rw [List.getElem?_set_ne hne]
theorem doL_flag {l : List Int} (h : l.length = 16) {X res flg : Int} (hf : 0 ≤ flg ∧ flg ≤ 1) : (doL l X res flg).getD 15 0 = flg := by
  unfold doL
  rw [if_pos hf.1]
  simp only [List.getD]
  rw [List.getElem?_set_self (by simp [h])]
  exact IntWalk.u8_in flg ⟨by omega, by omega⟩


theorem AluOthers_out (l : List Int) (op X Y N NN Ad Ln lv : Int) (a b c r d e f : Bool) (res flg : Int) (W : World) (hl : l.length = 16) (hX : 0 ≤ X ∧ X ≤ 15) (hR : rightM X Y NN = true) (hdo : ∀ w, Calls Try.prog 10 #[.agg (fl l), .agg (ins op X Y N NN Ad Ln), .agg (pro lv a b c r d e f)] w fun e w' => e = .returned (.tuple #[.agg (fl l), .bool false]) ∧ Sat w [] [] w') :
    Calls Try.prog 5 #[.agg (fl l), .agg (ins op X Y N NN Ad Ln), .agg (pro lv a b c r d e f)] W fun e w' => e = .returned (.bool true) ∧ Sat W [] [] w' := by
  refine enter Try.func5 rfl rfl rfl ?_
  refine r_seq ?_
  refine r_region ?_
  refine r_boxV rfl rfl fun b3 => ?_
  refine r_boxV rfl rfl fun b4 => ?_
  refine r_boxV rfl rfl fun b5 => ?_
  refine r_assign rfl rfl ?_
  refine r_nil ?_
  refine r_tn ?_
  refine r_seq ?_
  refine r_seq ?_
  refine r_region ?_
  refine r_call rfl rfl rfl (by kernel_rfl) rfl (fun w hw => by exact awake18 w) ?_
  refine r_not rfl rfl rfl ?_
  refine r_move rfl rfl ?_
  refine r_go rfl rfl ?_
  refine r_loadV rfl rfl rfl rfl rfl ?_
  refine r_go rfl rfl ?_
  refine r_call (v := .bool true) rfl rfl rfl (by kernel_rfl) rfl (fun w hw => by have h := right18 op X Y N NN Ad Ln w; rw [hR] at h; exact h) ?_
  refine r_go rfl rfl ?_
  refine r_not rfl rfl rfl ?_
  refine r_pick_f rfl rfl rfl ?_
  refine r_nil ?_
  refine r_tn ?_
  refine r_cond_f rfl ?_
  refine r_skip ?_
  refine r_tn ?_
  refine r_seq ?_
  refine r_region ?_
  refine r_loadV rfl rfl rfl rfl (fl_size hl) ?_
  refine r_loadV rfl rfl rfl rfl rfl ?_
  refine r_loadV rfl rfl rfl rfl rfl ?_
  refine r_call rfl rfl rfl (by kernel_rfl) rfl (fun w hw => by exact hdo w) ?_
  refine r_move rfl rfl ?_
  refine r_extract rfl rfl rfl ?_
  refine r_extract rfl rfl rfl ?_
  refine r_allocV (cs := fl (List.replicate 16 0)) rfl rfl fun b7 => ?_
  refine r_storeV rfl rfl rfl (fl_size hl) rfl (fl_one _) ?_
  refine r_assign rfl rfl ?_
  refine r_nil ?_
  refine r_tn ?_
  refine r_seq ?_
  refine r_seq ?_
  refine r_region ?_
  refine r_move rfl rfl ?_
  refine r_not rfl rfl rfl ?_
  refine r_nil ?_
  refine r_tn ?_
  refine r_cond_t rfl ?_
  refine r_seq ?_
  refine r_region ?_
  refine r_loadV rfl rfl rfl rfl (fl_size hl) ?_
  refine r_loadV rfl rfl rfl rfl (fl_size hl) ?_
  refine r_eqlAgg rfl rfl rfl vFlat (fl_ok hl) (fl_ok hl) (fl_self hl) ?_
  refine r_assign rfl rfl ?_
  refine r_nil ?_
  refine r_tn ?_
  refine r_ret ?_
  refine r_tr ?_
  exact r_done1 (.inl rfl) rfl (res_tmp rfl) fun w hw => ⟨rfl, hw.clear⟩

theorem AluOthers_8 (l : List Int) (X Y N NN Ad Ln lv : Int) (a b c r d e f : Bool) (res flg : Int) (W : World) (hl : l.length = 16) (hX : 0 ≤ X ∧ X ≤ 15) (hR : rightM X Y NN = true) (hf : flg = -1) (hdo : ∀ w, Calls Try.prog 10 #[.agg (fl l), .agg (ins 8 X Y N NN Ad Ln), .agg (pro lv a b c r d e f)] w fun e w' => e = .returned (.tuple #[.agg (fl (doL l X res flg)), .bool true]) ∧ Sat w [] [] w') :
    Calls Try.prog 5 #[.agg (fl l), .agg (ins 8 X Y N NN Ad Ln), .agg (pro lv a b c r d e f)] W fun e w' => e = .returned (.bool true) ∧ Sat W [] [] w' := by
  refine enter Try.func5 rfl rfl rfl ?_
  refine r_seq ?_
  refine r_region ?_
  refine r_boxV rfl rfl fun b3 => ?_
  refine r_boxV rfl rfl fun b4 => ?_
  refine r_boxV rfl rfl fun b5 => ?_
  refine r_assign rfl rfl ?_
  refine r_nil ?_
  refine r_tn ?_
  refine r_seq ?_
  refine r_seq ?_
  refine r_region ?_
  refine r_call rfl rfl rfl (by kernel_rfl) rfl (fun w hw => by exact awake18 w) ?_
  refine r_not rfl rfl rfl ?_
  refine r_move rfl rfl ?_
  refine r_go rfl rfl ?_
  refine r_loadV rfl rfl rfl rfl rfl ?_
  refine r_go rfl rfl ?_
  refine r_call (v := .bool true) rfl rfl rfl (by kernel_rfl) rfl (fun w hw => by have h := right18 8 X Y N NN Ad Ln w; rw [hR] at h; exact h) ?_
  refine r_go rfl rfl ?_
  refine r_not rfl rfl rfl ?_
  refine r_pick_f rfl rfl rfl ?_
  refine r_nil ?_
  refine r_tn ?_
  refine r_cond_f rfl ?_
  refine r_skip ?_
  refine r_tn ?_
  refine r_seq ?_
  refine r_region ?_
  refine r_loadV rfl rfl rfl rfl (fl_size hl) ?_
  refine r_loadV rfl rfl rfl rfl rfl ?_
  refine r_loadV rfl rfl rfl rfl rfl ?_
  refine r_call rfl rfl rfl (by kernel_rfl) rfl (fun w hw => by exact hdo w) ?_
  refine r_move rfl rfl ?_
  refine r_extract rfl rfl rfl ?_
  refine r_extract rfl rfl rfl ?_
  refine r_allocV (cs := fl (List.replicate 16 0)) rfl rfl fun b7 => ?_
  refine r_storeV rfl rfl rfl (fl_size (doL_len hl X res flg)) rfl (fl_one _) ?_
  refine r_assign rfl rfl ?_
  refine r_nil ?_
  refine r_tn ?_
  refine r_seq ?_
  refine r_seq ?_
  refine r_region ?_
  refine r_move rfl rfl ?_
  refine r_not rfl rfl rfl ?_
  refine r_nil ?_
  refine r_tn ?_
  refine r_cond_f rfl ?_
  refine r_skip ?_
  refine r_tn ?_
  refine r_seq ?_
  refine r_region ?_
  refine r_fieldAddr (off := 0) (o' := 0) rfl rfl rfl rfl ?_
  refine r_load1 rfl rfl rfl (by rfl) ?_
  refine r_eql rfl rfl rfl (decide_eq_false (by decide)) ?_
  refine r_move rfl rfl ?_
  refine r_go rfl rfl ?_
  refine r_fieldAddr (off := 0) (o' := 0) rfl rfl rfl rfl ?_
  refine r_go rfl rfl ?_
  refine r_load1 rfl rfl rfl (by rfl) ?_
  refine r_go rfl rfl ?_
  refine r_eql rfl rfl rfl (decide_eq_false (by decide)) ?_
  refine r_pick_f rfl rfl rfl ?_
  refine r_move rfl rfl ?_
  refine r_go rfl rfl ?_
  refine r_fieldAddr (off := 0) (o' := 0) rfl rfl rfl rfl ?_
  refine r_go rfl rfl ?_
  refine r_load1 rfl rfl rfl (by rfl) ?_
  refine r_go rfl rfl ?_
  refine r_eql rfl rfl rfl (decide_eq_false (by decide)) ?_
  refine r_pick_f rfl rfl rfl ?_
  refine r_assign rfl rfl ?_
  refine r_nil ?_
  refine r_tn ?_
  refine r_seq ?_
  refine r_region ?_
  refine r_fieldAddr (off := 0) (o' := 0) rfl rfl rfl rfl ?_
  refine r_load1 rfl rfl rfl (by rfl) ?_
  refine r_geq rfl rfl rfl (decide_eq_false (by decide)) ?_
  refine r_move rfl rfl ?_
  refine r_pass rfl rfl rfl rfl ?_
  refine r_pass rfl rfl rfl rfl ?_
  refine r_pass rfl rfl rfl rfl ?_
  refine r_pick_f rfl rfl rfl ?_
  refine r_move rfl rfl ?_
  refine r_go rfl rfl ?_
  refine r_move rfl rfl ?_
  refine r_go rfl rfl ?_
  refine r_move rfl rfl ?_
  refine r_pass rfl rfl rfl rfl ?_
  refine r_pass rfl rfl rfl rfl ?_
  refine r_go rfl rfl ?_
  refine r_pick_f rfl rfl rfl ?_
  refine r_pick_f rfl rfl rfl ?_
  refine r_assign rfl rfl ?_
  refine r_nil ?_
  refine r_tn ?_
  refine r_seq ?_
  refine r_seq ?_
  refine r_region ?_
  refine r_assign rfl rfl ?_
  refine r_nil ?_
  refine r_tn ?_
  refine r_block ?_
  refine r_loopN (fun i => [(3, .pointer (some ⟨b3, 0, none⟩)), (4, .pointer (some ⟨b4, 0, none⟩)), (7, .pointer (some ⟨b7, 0, none⟩)), (9, .bool false), (10, .bool false), (11, .int .i64 (i : Int))]) (fun i => [.blk b3 (.cells (fl l) 22 (0, 0)), .blk b4 (.cells (ins 8 X Y N NN Ad Ln) 24 (0, 0)), .blk b7 (.cells (fl (doL l X res flg)) 22 (0, 0))]) (fun i => i ≤ 16) 16 0 (by omega) ⟨rfl, rfl, rfl, rfl, rfl, rfl, trivial⟩ (fun w hw => hw.sub) fun i hi => ?_
  refine r_seq ?_
  refine r_seq ?_
  refine r_region ?_
  refine r_move rfl rfl ?_
  refine r_lss rfl rfl rfl rfl ?_
  refine r_nil ?_
  refine r_tn ?_
  refine r_cond rfl (fun hc => ?_) (fun hc => ?_)
  · refine r_skip ?_
    refine r_tn ?_
    refine r_seq ?_
    refine r_block ?_
    refine r_seq ?_
    refine r_mixed (by kernel_rfl) (by kernel_rfl) ?_
    have hi16 : i < 16 := by have h := of_decide_eq_true hc; omega
    refine r_move rfl rfl ?_
    refine r_fieldAddr (off := 1) rfl rfl rfl rfl ?_
    refine r_load1 rfl rfl rfl (by rfl) ?_
    refine r_neq rfl rfl rfl rfl ?_
    refine r_move rfl rfl ?_
    refine r_split 68 rfl (fun hb68 => ?_) (fun hb68 => ?_)
    · refine r_go rfl rfl ?_
      refine r_move rfl rfl ?_
      refine r_go rfl rfl ?_
      refine r_neq rfl rfl rfl rfl ?_
      refine r_go rfl rfl ?_
      refine r_move rfl rfl ?_
      refine r_split 71 rfl (fun hb71 => ?_) (fun hb71 => ?_)
      · refine r_pass rfl rfl rfl rfl ?_
        refine r_pass rfl rfl rfl rfl ?_
        refine r_go rfl rfl ?_
        refine r_pick_t rfl rfl rfl ?_
        refine r_pick_t rfl rfl rfl ?_
        refine r_move rfl rfl ?_
        refine r_go rfl rfl ?_
        refine r_move rfl rfl ?_
        refine r_go rfl rfl ?_
        refine r_indexArr (sz := 1) rfl rfl rfl rfl rfl (by omega) (by omega) (show _ = i by simp) ?_
        refine r_go rfl rfl ?_
        refine r_load1 rfl rfl rfl (fl_at (k := i) (by rw [(doL_len hl X res flg)]; exact hi16)) ?_
        refine r_go rfl rfl ?_
        refine r_move rfl rfl ?_
        refine r_go rfl rfl ?_
        refine r_indexArr (sz := 1) rfl rfl rfl rfl rfl (by omega) (by omega) (show _ = i by simp) ?_
        refine r_go rfl rfl ?_
        refine r_load1 rfl rfl rfl (fl_at (k := i) (by omega)) ?_
        refine r_go rfl rfl ?_
        refine r_neq rfl rfl rfl (decide_eq_false (fun hn => hn (doL_other hl hX.1 (of_decide_eq_true hb68) (.inr (by omega))))) ?_
        refine r_pick_t rfl rfl rfl ?_
        refine r_nil ?_
        refine r_tn ?_
        refine r_cond_f rfl ?_
        refine r_skip ?_
        refine r_bn ?_
        refine r_tn ?_
        refine r_region ?_
        refine r_move rfl rfl ?_
        refine r_add rfl rfl rfl (w64 (by omega)) ?_
        refine r_assign rfl rfl ?_
        refine r_nil ?_
        refine r_tn ?_
        exact r_againN (i + 1) (by omega) (by omega) ⟨rfl, rfl, rfl, rfl, rfl, rfl, trivial⟩ (fun w hw => hw.sub)
      · refine r_go rfl rfl ?_
        refine r_move rfl rfl ?_
        refine r_go rfl rfl ?_
        refine r_not rfl rfl rfl ?_
        refine r_go rfl rfl ?_
        refine r_pick_f rfl rfl rfl ?_
        refine r_pick_t rfl rfl rfl ?_
        refine r_move rfl rfl ?_
        refine r_go rfl rfl ?_
        refine r_move rfl rfl ?_
        refine r_go rfl rfl ?_
        refine r_indexArr (sz := 1) rfl rfl rfl rfl rfl (by omega) (by omega) (show _ = i by simp) ?_
        refine r_go rfl rfl ?_
        refine r_load1 rfl rfl rfl (fl_at (k := i) (by rw [(doL_len hl X res flg)]; exact hi16)) ?_
        refine r_go rfl rfl ?_
        refine r_move rfl rfl ?_
        refine r_go rfl rfl ?_
        refine r_indexArr (sz := 1) rfl rfl rfl rfl rfl (by omega) (by omega) (show _ = i by simp) ?_
        refine r_go rfl rfl ?_
        refine r_load1 rfl rfl rfl (fl_at (k := i) (by omega)) ?_
        refine r_go rfl rfl ?_
        refine r_neq rfl rfl rfl (decide_eq_false (fun hn => hn (doL_other hl hX.1 (of_decide_eq_true hb68) (.inr (by omega))))) ?_
        refine r_pick_t rfl rfl rfl ?_
        refine r_nil ?_
        refine r_tn ?_
        refine r_cond_f rfl ?_
        refine r_skip ?_
        refine r_bn ?_
        refine r_tn ?_
        refine r_region ?_
        refine r_move rfl rfl ?_
        refine r_add rfl rfl rfl (w64 (by omega)) ?_
        refine r_assign rfl rfl ?_
        refine r_nil ?_
        refine r_tn ?_
        exact r_againN (i + 1) (by omega) (by omega) ⟨rfl, rfl, rfl, rfl, rfl, rfl, trivial⟩ (fun w hw => hw.sub)
    · refine r_pass rfl rfl rfl rfl ?_
      refine r_pass rfl rfl rfl rfl ?_
      refine r_pass rfl rfl rfl rfl ?_
      refine r_passU rfl rfl rfl ?_
      refine r_passU rfl rfl rfl ?_
      refine r_pass rfl rfl rfl rfl ?_
      refine r_pick_f rfl rfl rfl ?_
      refine r_move rfl rfl ?_
      refine r_pass rfl rfl rfl rfl ?_
      refine r_pass rfl rfl rfl rfl ?_
      refine r_pass rfl rfl rfl rfl ?_
      refine r_pass rfl rfl rfl rfl ?_
      refine r_pass rfl rfl rfl rfl ?_
      refine r_pass rfl rfl rfl rfl ?_
      refine r_pass rfl rfl rfl rfl ?_
      refine r_pick_f rfl rfl rfl ?_
      refine r_nil ?_
      refine r_tn ?_
      refine r_cond_f rfl ?_
      refine r_skip ?_
      refine r_bn ?_
      refine r_tn ?_
      refine r_region ?_
      refine r_move rfl rfl ?_
      refine r_add rfl rfl rfl (w64 (by omega)) ?_
      refine r_assign rfl rfl ?_
      refine r_nil ?_
      refine r_tn ?_
      exact r_againN (i + 1) (by omega) (by omega) ⟨rfl, rfl, rfl, rfl, rfl, rfl, trivial⟩ (fun w hw => hw.sub)
  · refine r_exit ?_
    refine r_te ?_
    refine r_te ?_
    refine r_be ?_
    refine r_tn ?_
    refine r_seq ?_
    refine r_region ?_
    refine r_move rfl rfl ?_
    refine r_not rfl rfl rfl ?_
    refine r_move rfl rfl ?_
    refine r_pass rfl rfl rfl rfl ?_
    refine r_pass rfl rfl rfl rfl ?_
    refine r_pass rfl rfl rfl rfl ?_
    refine r_pass rfl rfl rfl rfl ?_
    refine r_passU rfl rfl rfl ?_
    refine r_passU rfl rfl rfl ?_
    refine r_passU rfl rfl rfl ?_
    refine r_passU rfl rfl rfl ?_
    refine r_passU rfl rfl rfl ?_
    refine r_passU rfl rfl rfl ?_
    refine r_passU rfl rfl rfl ?_
    refine r_pass rfl rfl rfl rfl ?_
    refine r_pick_t rfl rfl rfl ?_
    refine r_assign rfl rfl ?_
    refine r_nil ?_
    refine r_tn ?_
    refine r_ret ?_
    exact r_done1 (.inl rfl) rfl (res_tmp rfl) fun w hw => ⟨rfl, hw.clear⟩

theorem AluOthers_9 (l : List Int) (X Y N NN Ad Ln lv : Int) (a b c r d e f : Bool) (res flg : Int) (W : World) (hl : l.length = 16) (hX : 0 ≤ X ∧ X ≤ 15) (hR : rightM X Y NN = true) (hf : flg = -1) (hdo : ∀ w, Calls Try.prog 10 #[.agg (fl l), .agg (ins 9 X Y N NN Ad Ln), .agg (pro lv a b c r d e f)] w fun e w' => e = .returned (.tuple #[.agg (fl (doL l X res flg)), .bool true]) ∧ Sat w [] [] w') :
    Calls Try.prog 5 #[.agg (fl l), .agg (ins 9 X Y N NN Ad Ln), .agg (pro lv a b c r d e f)] W fun e w' => e = .returned (.bool true) ∧ Sat W [] [] w' := by
  refine enter Try.func5 rfl rfl rfl ?_
  refine r_seq ?_
  refine r_region ?_
  refine r_boxV rfl rfl fun b3 => ?_
  refine r_boxV rfl rfl fun b4 => ?_
  refine r_boxV rfl rfl fun b5 => ?_
  refine r_assign rfl rfl ?_
  refine r_nil ?_
  refine r_tn ?_
  refine r_seq ?_
  refine r_seq ?_
  refine r_region ?_
  refine r_call rfl rfl rfl (by kernel_rfl) rfl (fun w hw => by exact awake18 w) ?_
  refine r_not rfl rfl rfl ?_
  refine r_move rfl rfl ?_
  refine r_go rfl rfl ?_
  refine r_loadV rfl rfl rfl rfl rfl ?_
  refine r_go rfl rfl ?_
  refine r_call (v := .bool true) rfl rfl rfl (by kernel_rfl) rfl (fun w hw => by have h := right18 9 X Y N NN Ad Ln w; rw [hR] at h; exact h) ?_
  refine r_go rfl rfl ?_
  refine r_not rfl rfl rfl ?_
  refine r_pick_f rfl rfl rfl ?_
  refine r_nil ?_
  refine r_tn ?_
  refine r_cond_f rfl ?_
  refine r_skip ?_
  refine r_tn ?_
  refine r_seq ?_
  refine r_region ?_
  refine r_loadV rfl rfl rfl rfl (fl_size hl) ?_
  refine r_loadV rfl rfl rfl rfl rfl ?_
  refine r_loadV rfl rfl rfl rfl rfl ?_
  refine r_call rfl rfl rfl (by kernel_rfl) rfl (fun w hw => by exact hdo w) ?_
  refine r_move rfl rfl ?_
  refine r_extract rfl rfl rfl ?_
  refine r_extract rfl rfl rfl ?_
  refine r_allocV (cs := fl (List.replicate 16 0)) rfl rfl fun b7 => ?_
  refine r_storeV rfl rfl rfl (fl_size (doL_len hl X res flg)) rfl (fl_one _) ?_
  refine r_assign rfl rfl ?_
  refine r_nil ?_
  refine r_tn ?_
  refine r_seq ?_
  refine r_seq ?_
  refine r_region ?_
  refine r_move rfl rfl ?_
  refine r_not rfl rfl rfl ?_
  refine r_nil ?_
  refine r_tn ?_
  refine r_cond_f rfl ?_
  refine r_skip ?_
  refine r_tn ?_
  refine r_seq ?_
  refine r_region ?_
  refine r_fieldAddr (off := 0) (o' := 0) rfl rfl rfl rfl ?_
  refine r_load1 rfl rfl rfl (by rfl) ?_
  refine r_eql rfl rfl rfl (decide_eq_false (by decide)) ?_
  refine r_move rfl rfl ?_
  refine r_go rfl rfl ?_
  refine r_fieldAddr (off := 0) (o' := 0) rfl rfl rfl rfl ?_
  refine r_go rfl rfl ?_
  refine r_load1 rfl rfl rfl (by rfl) ?_
  refine r_go rfl rfl ?_
  refine r_eql rfl rfl rfl (decide_eq_false (by decide)) ?_
  refine r_pick_f rfl rfl rfl ?_
  refine r_move rfl rfl ?_
  refine r_go rfl rfl ?_
  refine r_fieldAddr (off := 0) (o' := 0) rfl rfl rfl rfl ?_
  refine r_go rfl rfl ?_
  refine r_load1 rfl rfl rfl (by rfl) ?_
  refine r_go rfl rfl ?_
  refine r_eql rfl rfl rfl (decide_eq_false (by decide)) ?_
  refine r_pick_f rfl rfl rfl ?_
  refine r_assign rfl rfl ?_
  refine r_nil ?_
  refine r_tn ?_
  refine r_seq ?_
  refine r_region ?_
  refine r_fieldAddr (off := 0) (o' := 0) rfl rfl rfl rfl ?_
  refine r_load1 rfl rfl rfl (by rfl) ?_
  refine r_geq rfl rfl rfl (decide_eq_false (by decide)) ?_
  refine r_move rfl rfl ?_
  refine r_pass rfl rfl rfl rfl ?_
  refine r_pass rfl rfl rfl rfl ?_
  refine r_pass rfl rfl rfl rfl ?_
  refine r_pick_f rfl rfl rfl ?_
  refine r_move rfl rfl ?_
  refine r_go rfl rfl ?_
  refine r_move rfl rfl ?_
  refine r_go rfl rfl ?_
  refine r_move rfl rfl ?_
  refine r_pass rfl rfl rfl rfl ?_
  refine r_pass rfl rfl rfl rfl ?_
  refine r_go rfl rfl ?_
  refine r_pick_f rfl rfl rfl ?_
  refine r_pick_f rfl rfl rfl ?_
  refine r_assign rfl rfl ?_
  refine r_nil ?_
  refine r_tn ?_
  refine r_seq ?_
  refine r_seq ?_
  refine r_region ?_
  refine r_assign rfl rfl ?_
  refine r_nil ?_
  refine r_tn ?_
  refine r_block ?_
  refine r_loopN (fun i => [(3, .pointer (some ⟨b3, 0, none⟩)), (4, .pointer (some ⟨b4, 0, none⟩)), (7, .pointer (some ⟨b7, 0, none⟩)), (9, .bool false), (10, .bool false), (11, .int .i64 (i : Int))]) (fun i => [.blk b3 (.cells (fl l) 22 (0, 0)), .blk b4 (.cells (ins 9 X Y N NN Ad Ln) 24 (0, 0)), .blk b7 (.cells (fl (doL l X res flg)) 22 (0, 0))]) (fun i => i ≤ 16) 16 0 (by omega) ⟨rfl, rfl, rfl, rfl, rfl, rfl, trivial⟩ (fun w hw => hw.sub) fun i hi => ?_
  refine r_seq ?_
  refine r_seq ?_
  refine r_region ?_
  refine r_move rfl rfl ?_
  refine r_lss rfl rfl rfl rfl ?_
  refine r_nil ?_
  refine r_tn ?_
  refine r_cond rfl (fun hc => ?_) (fun hc => ?_)
  · refine r_skip ?_
    refine r_tn ?_
    refine r_seq ?_
    refine r_block ?_
    refine r_seq ?_
    refine r_mixed (by kernel_rfl) (by kernel_rfl) ?_
    have hi16 : i < 16 := by have h := of_decide_eq_true hc; omega
    refine r_move rfl rfl ?_
    refine r_fieldAddr (off := 1) rfl rfl rfl rfl ?_
    refine r_load1 rfl rfl rfl (by rfl) ?_
    refine r_neq rfl rfl rfl rfl ?_
    refine r_move rfl rfl ?_
    refine r_split 68 rfl (fun hb68 => ?_) (fun hb68 => ?_)
    · refine r_go rfl rfl ?_
      refine r_move rfl rfl ?_
      refine r_go rfl rfl ?_
      refine r_neq rfl rfl rfl rfl ?_
      refine r_go rfl rfl ?_
      refine r_move rfl rfl ?_
      refine r_split 71 rfl (fun hb71 => ?_) (fun hb71 => ?_)
      · refine r_pass rfl rfl rfl rfl ?_
        refine r_pass rfl rfl rfl rfl ?_
        refine r_go rfl rfl ?_
        refine r_pick_t rfl rfl rfl ?_
        refine r_pick_t rfl rfl rfl ?_
        refine r_move rfl rfl ?_
        refine r_go rfl rfl ?_
        refine r_move rfl rfl ?_
        refine r_go rfl rfl ?_
        refine r_indexArr (sz := 1) rfl rfl rfl rfl rfl (by omega) (by omega) (show _ = i by simp) ?_
        refine r_go rfl rfl ?_
        refine r_load1 rfl rfl rfl (fl_at (k := i) (by rw [(doL_len hl X res flg)]; exact hi16)) ?_
        refine r_go rfl rfl ?_
        refine r_move rfl rfl ?_
        refine r_go rfl rfl ?_
        refine r_indexArr (sz := 1) rfl rfl rfl rfl rfl (by omega) (by omega) (show _ = i by simp) ?_
        refine r_go rfl rfl ?_
        refine r_load1 rfl rfl rfl (fl_at (k := i) (by omega)) ?_
        refine r_go rfl rfl ?_
        refine r_neq rfl rfl rfl (decide_eq_false (fun hn => hn (doL_other hl hX.1 (of_decide_eq_true hb68) (.inr (by omega))))) ?_
        refine r_pick_t rfl rfl rfl ?_
        refine r_nil ?_
        refine r_tn ?_
        refine r_cond_f rfl ?_
        refine r_skip ?_
        refine r_bn ?_
        refine r_tn ?_
        refine r_region ?_
        refine r_move rfl rfl ?_
        refine r_add rfl rfl rfl (w64 (by omega)) ?_
        refine r_assign rfl rfl ?_
        refine r_nil ?_
        refine r_tn ?_
        exact r_againN (i + 1) (by omega) (by omega) ⟨rfl, rfl, rfl, rfl, rfl, rfl, trivial⟩ (fun w hw => hw.sub)
      · refine r_go rfl rfl ?_
        refine r_move rfl rfl ?_
        refine r_go rfl rfl ?_
        refine r_not rfl rfl rfl ?_
        refine r_go rfl rfl ?_
        refine r_pick_f rfl rfl rfl ?_
        refine r_pick_t rfl rfl rfl ?_
        refine r_move rfl rfl ?_
        refine r_go rfl rfl ?_
        refine r_move rfl rfl ?_
        refine r_go rfl rfl ?_
        refine r_indexArr (sz := 1) rfl rfl rfl rfl rfl (by omega) (by omega) (show _ = i by simp) ?_
        refine r_go rfl rfl ?_
        refine r_load1 rfl rfl rfl (fl_at (k := i) (by rw [(doL_len hl X res flg)]; exact hi16)) ?_
        refine r_go rfl rfl ?_
        refine r_move rfl rfl ?_
        refine r_go rfl rfl ?_
        refine r_indexArr (sz := 1) rfl rfl rfl rfl rfl (by omega) (by omega) (show _ = i by simp) ?_
        refine r_go rfl rfl ?_
        refine r_load1 rfl rfl rfl (fl_at (k := i) (by omega)) ?_
        refine r_go rfl rfl ?_
        refine r_neq rfl rfl rfl (decide_eq_false (fun hn => hn (doL_other hl hX.1 (of_decide_eq_true hb68) (.inr (by omega))))) ?_
        refine r_pick_t rfl rfl rfl ?_
        refine r_nil ?_
        refine r_tn ?_
        refine r_cond_f rfl ?_
        refine r_skip ?_
        refine r_bn ?_
        refine r_tn ?_
        refine r_region ?_
        refine r_move rfl rfl ?_
        refine r_add rfl rfl rfl (w64 (by omega)) ?_
        refine r_assign rfl rfl ?_
        refine r_nil ?_
        refine r_tn ?_
        exact r_againN (i + 1) (by omega) (by omega) ⟨rfl, rfl, rfl, rfl, rfl, rfl, trivial⟩ (fun w hw => hw.sub)
    · refine r_pass rfl rfl rfl rfl ?_
      refine r_pass rfl rfl rfl rfl ?_
      refine r_pass rfl rfl rfl rfl ?_
      refine r_passU rfl rfl rfl ?_
      refine r_passU rfl rfl rfl ?_
      refine r_pass rfl rfl rfl rfl ?_
      refine r_pick_f rfl rfl rfl ?_
      refine r_move rfl rfl ?_
      refine r_pass rfl rfl rfl rfl ?_
      refine r_pass rfl rfl rfl rfl ?_
      refine r_pass rfl rfl rfl rfl ?_
      refine r_pass rfl rfl rfl rfl ?_
      refine r_pass rfl rfl rfl rfl ?_
      refine r_pass rfl rfl rfl rfl ?_
      refine r_pass rfl rfl rfl rfl ?_
      refine r_pick_f rfl rfl rfl ?_
      refine r_nil ?_
      refine r_tn ?_
      refine r_cond_f rfl ?_
      refine r_skip ?_
      refine r_bn ?_
      refine r_tn ?_
      refine r_region ?_
      refine r_move rfl rfl ?_
      refine r_add rfl rfl rfl (w64 (by omega)) ?_
      refine r_assign rfl rfl ?_
      refine r_nil ?_
      refine r_tn ?_
      exact r_againN (i + 1) (by omega) (by omega) ⟨rfl, rfl, rfl, rfl, rfl, rfl, trivial⟩ (fun w hw => hw.sub)
  · refine r_exit ?_
    refine r_te ?_
    refine r_te ?_
    refine r_be ?_
    refine r_tn ?_
    refine r_seq ?_
    refine r_region ?_
    refine r_move rfl rfl ?_
    refine r_not rfl rfl rfl ?_
    refine r_move rfl rfl ?_
    refine r_pass rfl rfl rfl rfl ?_
    refine r_pass rfl rfl rfl rfl ?_
    refine r_pass rfl rfl rfl rfl ?_
    refine r_pass rfl rfl rfl rfl ?_
    refine r_passU rfl rfl rfl ?_
    refine r_passU rfl rfl rfl ?_
    refine r_passU rfl rfl rfl ?_
    refine r_passU rfl rfl rfl ?_
    refine r_passU rfl rfl rfl ?_
    refine r_passU rfl rfl rfl ?_
    refine r_passU rfl rfl rfl ?_
    refine r_pass rfl rfl rfl rfl ?_
    refine r_pick_t rfl rfl rfl ?_
    refine r_assign rfl rfl ?_
    refine r_nil ?_
    refine r_tn ?_
    refine r_ret ?_
    exact r_done1 (.inl rfl) rfl (res_tmp rfl) fun w hw => ⟨rfl, hw.clear⟩

theorem AluOthers_10 (l : List Int) (X Y N NN Ad Ln lv : Int) (a b c r d e f : Bool) (res flg : Int) (W : World) (hl : l.length = 16) (hX : 0 ≤ X ∧ X ≤ 15) (hR : rightM X Y NN = true) (hf : flg = -1) (hdo : ∀ w, Calls Try.prog 10 #[.agg (fl l), .agg (ins 10 X Y N NN Ad Ln), .agg (pro lv a b c r d e f)] w fun e w' => e = .returned (.tuple #[.agg (fl (doL l X res flg)), .bool true]) ∧ Sat w [] [] w') :
    Calls Try.prog 5 #[.agg (fl l), .agg (ins 10 X Y N NN Ad Ln), .agg (pro lv a b c r d e f)] W fun e w' => e = .returned (.bool true) ∧ Sat W [] [] w' := by
  refine enter Try.func5 rfl rfl rfl ?_
  refine r_seq ?_
  refine r_region ?_
  refine r_boxV rfl rfl fun b3 => ?_
  refine r_boxV rfl rfl fun b4 => ?_
  refine r_boxV rfl rfl fun b5 => ?_
  refine r_assign rfl rfl ?_
  refine r_nil ?_
  refine r_tn ?_
  refine r_seq ?_
  refine r_seq ?_
  refine r_region ?_
  refine r_call rfl rfl rfl (by kernel_rfl) rfl (fun w hw => by exact awake18 w) ?_
  refine r_not rfl rfl rfl ?_
  refine r_move rfl rfl ?_
  refine r_go rfl rfl ?_
  refine r_loadV rfl rfl rfl rfl rfl ?_
  refine r_go rfl rfl ?_
  refine r_call (v := .bool true) rfl rfl rfl (by kernel_rfl) rfl (fun w hw => by have h := right18 10 X Y N NN Ad Ln w; rw [hR] at h; exact h) ?_
  refine r_go rfl rfl ?_
  refine r_not rfl rfl rfl ?_
  refine r_pick_f rfl rfl rfl ?_
  refine r_nil ?_
  refine r_tn ?_
  refine r_cond_f rfl ?_
  refine r_skip ?_
  refine r_tn ?_
  refine r_seq ?_
  refine r_region ?_
  refine r_loadV rfl rfl rfl rfl (fl_size hl) ?_
  refine r_loadV rfl rfl rfl rfl rfl ?_
  refine r_loadV rfl rfl rfl rfl rfl ?_
  refine r_call rfl rfl rfl (by kernel_rfl) rfl (fun w hw => by exact hdo w) ?_
  refine r_move rfl rfl ?_
  refine r_extract rfl rfl rfl ?_
  refine r_extract rfl rfl rfl ?_
  refine r_allocV (cs := fl (List.replicate 16 0)) rfl rfl fun b7 => ?_
  refine r_storeV rfl rfl rfl (fl_size (doL_len hl X res flg)) rfl (fl_one _) ?_
  refine r_assign rfl rfl ?_
  refine r_nil ?_
  refine r_tn ?_
  refine r_seq ?_
  refine r_seq ?_
  refine r_region ?_
  refine r_move rfl rfl ?_
  refine r_not rfl rfl rfl ?_
  refine r_nil ?_
  refine r_tn ?_
  refine r_cond_f rfl ?_
  refine r_skip ?_
  refine r_tn ?_
  refine r_seq ?_
  refine r_region ?_
  refine r_fieldAddr (off := 0) (o' := 0) rfl rfl rfl rfl ?_
  refine r_load1 rfl rfl rfl (by rfl) ?_
  refine r_eql rfl rfl rfl (decide_eq_false (by decide)) ?_
  refine r_move rfl rfl ?_
  refine r_go rfl rfl ?_
  refine r_fieldAddr (off := 0) (o' := 0) rfl rfl rfl rfl ?_
  refine r_go rfl rfl ?_
  refine r_load1 rfl rfl rfl (by rfl) ?_
  refine r_go rfl rfl ?_
  refine r_eql rfl rfl rfl (decide_eq_false (by decide)) ?_
  refine r_pick_f rfl rfl rfl ?_
  refine r_move rfl rfl ?_
  refine r_go rfl rfl ?_
  refine r_fieldAddr (off := 0) (o' := 0) rfl rfl rfl rfl ?_
  refine r_go rfl rfl ?_
  refine r_load1 rfl rfl rfl (by rfl) ?_
  refine r_go rfl rfl ?_
  refine r_eql rfl rfl rfl (decide_eq_false (by decide)) ?_
  refine r_pick_f rfl rfl rfl ?_
  refine r_assign rfl rfl ?_
  refine r_nil ?_
  refine r_tn ?_
  refine r_seq ?_
  refine r_region ?_
  refine r_fieldAddr (off := 0) (o' := 0) rfl rfl rfl rfl ?_
  refine r_load1 rfl rfl rfl (by rfl) ?_
  refine r_geq rfl rfl rfl (decide_eq_false (by decide)) ?_
  refine r_move rfl rfl ?_
  refine r_pass rfl rfl rfl rfl ?_
  refine r_pass rfl rfl rfl rfl ?_
  refine r_pass rfl rfl rfl rfl ?_
  refine r_pick_f rfl rfl rfl ?_
  refine r_move rfl rfl ?_
  refine r_go rfl rfl ?_
  refine r_move rfl rfl ?_
  refine r_go rfl rfl ?_
  refine r_move rfl rfl ?_
  refine r_pass rfl rfl rfl rfl ?_
  refine r_pass rfl rfl rfl rfl ?_
  refine r_go rfl rfl ?_
  refine r_pick_f rfl rfl rfl ?_
  refine r_pick_f rfl rfl rfl ?_
  refine r_assign rfl rfl ?_
  refine r_nil ?_
  refine r_tn ?_
  refine r_seq ?_
  refine r_seq ?_
  refine r_region ?_
  refine r_assign rfl rfl ?_
  refine r_nil ?_
  refine r_tn ?_
  refine r_block ?_
  refine r_loopN (fun i => [(3, .pointer (some ⟨b3, 0, none⟩)), (4, .pointer (some ⟨b4, 0, none⟩)), (7, .pointer (some ⟨b7, 0, none⟩)), (9, .bool false), (10, .bool false), (11, .int .i64 (i : Int))]) (fun i => [.blk b3 (.cells (fl l) 22 (0, 0)), .blk b4 (.cells (ins 10 X Y N NN Ad Ln) 24 (0, 0)), .blk b7 (.cells (fl (doL l X res flg)) 22 (0, 0))]) (fun i => i ≤ 16) 16 0 (by omega) ⟨rfl, rfl, rfl, rfl, rfl, rfl, trivial⟩ (fun w hw => hw.sub) fun i hi => ?_
  refine r_seq ?_
  refine r_seq ?_
  refine r_region ?_
  refine r_move rfl rfl ?_
  refine r_lss rfl rfl rfl rfl ?_
  refine r_nil ?_
  refine r_tn ?_
  refine r_cond rfl (fun hc => ?_) (fun hc => ?_)
  · refine r_skip ?_
    refine r_tn ?_
    refine r_seq ?_
    refine r_block ?_
    refine r_seq ?_
    refine r_mixed (by kernel_rfl) (by kernel_rfl) ?_
    have hi16 : i < 16 := by have h := of_decide_eq_true hc; omega
    refine r_move rfl rfl ?_
    refine r_fieldAddr (off := 1) rfl rfl rfl rfl ?_
    refine r_load1 rfl rfl rfl (by rfl) ?_
    refine r_neq rfl rfl rfl rfl ?_
    refine r_move rfl rfl ?_
    refine r_split 68 rfl (fun hb68 => ?_) (fun hb68 => ?_)
    · refine r_go rfl rfl ?_
      refine r_move rfl rfl ?_
      refine r_go rfl rfl ?_
      refine r_neq rfl rfl rfl rfl ?_
      refine r_go rfl rfl ?_
      refine r_move rfl rfl ?_
      refine r_split 71 rfl (fun hb71 => ?_) (fun hb71 => ?_)
      · refine r_pass rfl rfl rfl rfl ?_
        refine r_pass rfl rfl rfl rfl ?_
        refine r_go rfl rfl ?_
        refine r_pick_t rfl rfl rfl ?_
        refine r_pick_t rfl rfl rfl ?_
        refine r_move rfl rfl ?_
        refine r_go rfl rfl ?_
        refine r_move rfl rfl ?_
        refine r_go rfl rfl ?_
        refine r_indexArr (sz := 1) rfl rfl rfl rfl rfl (by omega) (by omega) (show _ = i by simp) ?_
        refine r_go rfl rfl ?_
        refine r_load1 rfl rfl rfl (fl_at (k := i) (by rw [(doL_len hl X res flg)]; exact hi16)) ?_
        refine r_go rfl rfl ?_
        refine r_move rfl rfl ?_
        refine r_go rfl rfl ?_
        refine r_indexArr (sz := 1) rfl rfl rfl rfl rfl (by omega) (by omega) (show _ = i by simp) ?_
        refine r_go rfl rfl ?_
        refine r_load1 rfl rfl rfl (fl_at (k := i) (by omega)) ?_
        refine r_go rfl rfl ?_
        refine r_neq rfl rfl rfl (decide_eq_false (fun hn => hn (doL_other hl hX.1 (of_decide_eq_true hb68) (.inr (by omega))))) ?_
        refine r_pick_t rfl rfl rfl ?_
        refine r_nil ?_
        refine r_tn ?_
        refine r_cond_f rfl ?_
        refine r_skip ?_
        refine r_bn ?_
        refine r_tn ?_
        refine r_region ?_
        refine r_move rfl rfl ?_
        refine r_add rfl rfl rfl (w64 (by omega)) ?_
        refine r_assign rfl rfl ?_
        refine r_nil ?_
        refine r_tn ?_
        exact r_againN (i + 1) (by omega) (by omega) ⟨rfl, rfl, rfl, rfl, rfl, rfl, trivial⟩ (fun w hw => hw.sub)
      · refine r_go rfl rfl ?_
        refine r_move rfl rfl ?_
        refine r_go rfl rfl ?_
        refine r_not rfl rfl rfl ?_
        refine r_go rfl rfl ?_
        refine r_pick_f rfl rfl rfl ?_
        refine r_pick_t rfl rfl rfl ?_
        refine r_move rfl rfl ?_
        refine r_go rfl rfl ?_
        refine r_move rfl rfl ?_
        refine r_go rfl rfl ?_
        refine r_indexArr (sz := 1) rfl rfl rfl rfl rfl (by omega) (by omega) (show _ = i by simp) ?_
        refine r_go rfl rfl ?_
        refine r_load1 rfl rfl rfl (fl_at (k := i) (by rw [(doL_len hl X res flg)]; exact hi16)) ?_
        refine r_go rfl rfl ?_
        refine r_move rfl rfl ?_
        refine r_go rfl rfl ?_
        refine r_indexArr (sz := 1) rfl rfl rfl rfl rfl (by omega) (by omega) (show _ = i by simp) ?_
        refine r_go rfl rfl ?_
        refine r_load1 rfl rfl rfl (fl_at (k := i) (by omega)) ?_
        refine r_go rfl rfl ?_
        refine r_neq rfl rfl rfl (decide_eq_false (fun hn => hn (doL_other hl hX.1 (of_decide_eq_true hb68) (.inr (by omega))))) ?_
        refine r_pick_t rfl rfl rfl ?_
        refine r_nil ?_
        refine r_tn ?_
        refine r_cond_f rfl ?_
        refine r_skip ?_
        refine r_bn ?_
        refine r_tn ?_
        refine r_region ?_
        refine r_move rfl rfl ?_
        refine r_add rfl rfl rfl (w64 (by omega)) ?_
        refine r_assign rfl rfl ?_
        refine r_nil ?_
        refine r_tn ?_
        exact r_againN (i + 1) (by omega) (by omega) ⟨rfl, rfl, rfl, rfl, rfl, rfl, trivial⟩ (fun w hw => hw.sub)
    · refine r_pass rfl rfl rfl rfl ?_
      refine r_pass rfl rfl rfl rfl ?_
      refine r_pass rfl rfl rfl rfl ?_
      refine r_passU rfl rfl rfl ?_
      refine r_passU rfl rfl rfl ?_
      refine r_pass rfl rfl rfl rfl ?_
      refine r_pick_f rfl rfl rfl ?_
      refine r_move rfl rfl ?_
      refine r_pass rfl rfl rfl rfl ?_
      refine r_pass rfl rfl rfl rfl ?_
      refine r_pass rfl rfl rfl rfl ?_
      refine r_pass rfl rfl rfl rfl ?_
      refine r_pass rfl rfl rfl rfl ?_
      refine r_pass rfl rfl rfl rfl ?_
      refine r_pass rfl rfl rfl rfl ?_
      refine r_pick_f rfl rfl rfl ?_
      refine r_nil ?_
      refine r_tn ?_
      refine r_cond_f rfl ?_
      refine r_skip ?_
      refine r_bn ?_
      refine r_tn ?_
      refine r_region ?_
      refine r_move rfl rfl ?_
      refine r_add rfl rfl rfl (w64 (by omega)) ?_
      refine r_assign rfl rfl ?_
      refine r_nil ?_
      refine r_tn ?_
      exact r_againN (i + 1) (by omega) (by omega) ⟨rfl, rfl, rfl, rfl, rfl, rfl, trivial⟩ (fun w hw => hw.sub)
  · refine r_exit ?_
    refine r_te ?_
    refine r_te ?_
    refine r_be ?_
    refine r_tn ?_
    refine r_seq ?_
    refine r_region ?_
    refine r_move rfl rfl ?_
    refine r_not rfl rfl rfl ?_
    refine r_move rfl rfl ?_
    refine r_pass rfl rfl rfl rfl ?_
    refine r_pass rfl rfl rfl rfl ?_
    refine r_pass rfl rfl rfl rfl ?_
    refine r_pass rfl rfl rfl rfl ?_
    refine r_passU rfl rfl rfl ?_
    refine r_passU rfl rfl rfl ?_
    refine r_passU rfl rfl rfl ?_
    refine r_passU rfl rfl rfl ?_
    refine r_passU rfl rfl rfl ?_
    refine r_passU rfl rfl rfl ?_
    refine r_passU rfl rfl rfl ?_
    refine r_pass rfl rfl rfl rfl ?_
    refine r_pick_t rfl rfl rfl ?_
    refine r_assign rfl rfl ?_
    refine r_nil ?_
    refine r_tn ?_
    refine r_ret ?_
    exact r_done1 (.inl rfl) rfl (res_tmp rfl) fun w hw => ⟨rfl, hw.clear⟩

theorem AluOthers_11r (l : List Int) (X Y N NN Ad Ln lv : Int) (a b c d e f : Bool) (res flg : Int) (W : World) (hl : l.length = 16) (hX : 0 ≤ X ∧ X ≤ 15) (hR : rightM X Y NN = true) (hf : flg = 0) (hdo : ∀ w, Calls Try.prog 10 #[.agg (fl l), .agg (ins 11 X Y N NN Ad Ln), .agg (pro lv a b c true d e f)] w fun e w' => e = .returned (.tuple #[.agg (fl (doL l X res flg)), .bool true]) ∧ Sat w [] [] w') :
    Calls Try.prog 5 #[.agg (fl l), .agg (ins 11 X Y N NN Ad Ln), .agg (pro lv a b c true d e f)] W fun e w' => e = .returned (.bool true) ∧ Sat W [] [] w' := by
  refine enter Try.func5 rfl rfl rfl ?_
  refine r_seq ?_
  refine r_region ?_
  refine r_boxV rfl rfl fun b3 => ?_
  refine r_boxV rfl rfl fun b4 => ?_
  refine r_boxV rfl rfl fun b5 => ?_
  refine r_assign rfl rfl ?_
  refine r_nil ?_
  refine r_tn ?_
  refine r_seq ?_
  refine r_seq ?_
  refine r_region ?_
  refine r_call rfl rfl rfl (by kernel_rfl) rfl (fun w hw => by exact awake18 w) ?_
  refine r_not rfl rfl rfl ?_
  refine r_move rfl rfl ?_
  refine r_go rfl rfl ?_
  refine r_loadV rfl rfl rfl rfl rfl ?_
  refine r_go rfl rfl ?_
  refine r_call (v := .bool true) rfl rfl rfl (by kernel_rfl) rfl (fun w hw => by have h := right18 11 X Y N NN Ad Ln w; rw [hR] at h; exact h) ?_
  refine r_go rfl rfl ?_
  refine r_not rfl rfl rfl ?_
  refine r_pick_f rfl rfl rfl ?_
  refine r_nil ?_
  refine r_tn ?_
  refine r_cond_f rfl ?_
  refine r_skip ?_
  refine r_tn ?_
  refine r_seq ?_
  refine r_region ?_
  refine r_loadV rfl rfl rfl rfl (fl_size hl) ?_
  refine r_loadV rfl rfl rfl rfl rfl ?_
  refine r_loadV rfl rfl rfl rfl rfl ?_
  refine r_call rfl rfl rfl (by kernel_rfl) rfl (fun w hw => by exact hdo w) ?_
  refine r_move rfl rfl ?_
  refine r_extract rfl rfl rfl ?_
  refine r_extract rfl rfl rfl ?_
  refine r_allocV (cs := fl (List.replicate 16 0)) rfl rfl fun b7 => ?_
  refine r_storeV rfl rfl rfl (fl_size (doL_len hl X res flg)) rfl (fl_one _) ?_
  refine r_assign rfl rfl ?_
  refine r_nil ?_
  refine r_tn ?_
  refine r_seq ?_
  refine r_seq ?_
  refine r_region ?_
  refine r_move rfl rfl ?_
  refine r_not rfl rfl rfl ?_
  refine r_nil ?_
  refine r_tn ?_
  refine r_cond_f rfl ?_
  refine r_skip ?_
  refine r_tn ?_
  refine r_seq ?_
  refine r_region ?_
  refine r_fieldAddr (off := 0) (o' := 0) rfl rfl rfl rfl ?_
  refine r_load1 rfl rfl rfl (by rfl) ?_
  refine r_eql rfl rfl rfl (decide_eq_true (by decide)) ?_
  refine r_move rfl rfl ?_
  refine r_pass rfl rfl rfl rfl ?_
  refine r_pass rfl rfl rfl rfl ?_
  refine r_pass rfl rfl rfl rfl ?_
  refine r_pick_t rfl rfl rfl ?_
  refine r_move rfl rfl ?_
  refine r_pass rfl rfl rfl rfl ?_
  refine r_pass rfl rfl rfl rfl ?_
  refine r_pass rfl rfl rfl rfl ?_
  refine r_pick_t rfl rfl rfl ?_
  refine r_assign rfl rfl ?_
  refine r_nil ?_
  refine r_tn ?_
  refine r_seq ?_
  refine r_region ?_
  refine r_fieldAddr (off := 0) (o' := 0) rfl rfl rfl rfl ?_
  refine r_load1 rfl rfl rfl (by rfl) ?_
  refine r_geq rfl rfl rfl (decide_eq_false (by decide)) ?_
  refine r_move rfl rfl ?_
  refine r_pass rfl rfl rfl rfl ?_
  refine r_pass rfl rfl rfl rfl ?_
  refine r_pass rfl rfl rfl rfl ?_
  refine r_pick_f rfl rfl rfl ?_
  refine r_move rfl rfl ?_
  refine r_go rfl rfl ?_
  refine r_move rfl rfl ?_
  refine r_go rfl rfl ?_
  refine r_move rfl rfl ?_
  refine r_go rfl rfl ?_
  refine r_fieldAddr (off := 4) (o' := 4) rfl rfl rfl rfl ?_
  refine r_go rfl rfl ?_
  refine r_load1 rfl rfl rfl (by rfl) ?_
  refine r_go rfl rfl ?_
  refine r_pick_t rfl rfl rfl ?_
  refine r_pick_f rfl rfl rfl ?_
  refine r_assign rfl rfl ?_
  refine r_nil ?_
  refine r_tn ?_
  refine r_seq ?_
  refine r_seq ?_
  refine r_region ?_
  refine r_assign rfl rfl ?_
  refine r_nil ?_
  refine r_tn ?_
  refine r_block ?_
  refine r_loopN (fun i => [(3, .pointer (some ⟨b3, 0, none⟩)), (4, .pointer (some ⟨b4, 0, none⟩)), (7, .pointer (some ⟨b7, 0, none⟩)), (9, .bool true), (10, .bool true), (11, .int .i64 (i : Int))]) (fun i => [.blk b3 (.cells (fl l) 22 (0, 0)), .blk b4 (.cells (ins 11 X Y N NN Ad Ln) 24 (0, 0)), .blk b7 (.cells (fl (doL l X res flg)) 22 (0, 0))]) (fun i => i ≤ 16) 16 0 (by omega) ⟨rfl, rfl, rfl, rfl, rfl, rfl, trivial⟩ (fun w hw => hw.sub) fun i hi => ?_
  refine r_seq ?_
  refine r_seq ?_
  refine r_region ?_
  refine r_move rfl rfl ?_
  refine r_lss rfl rfl rfl rfl ?_
  refine r_nil ?_
  refine r_tn ?_
  refine r_cond rfl (fun hc => ?_) (fun hc => ?_)
  · refine r_skip ?_
    refine r_tn ?_
    refine r_seq ?_
    refine r_block ?_
    refine r_seq ?_
    refine r_mixed (by kernel_rfl) (by kernel_rfl) ?_
    have hi16 : i < 16 := by have h := of_decide_eq_true hc; omega
    refine r_move rfl rfl ?_
    refine r_fieldAddr (off := 1) rfl rfl rfl rfl ?_
    refine r_load1 rfl rfl rfl (by rfl) ?_
    refine r_neq rfl rfl rfl rfl ?_
    refine r_move rfl rfl ?_
    refine r_split 68 rfl (fun hb68 => ?_) (fun hb68 => ?_)
    · refine r_go rfl rfl ?_
      refine r_move rfl rfl ?_
      refine r_go rfl rfl ?_
      refine r_neq rfl rfl rfl rfl ?_
      refine r_go rfl rfl ?_
      refine r_move rfl rfl ?_
      refine r_split 71 rfl (fun hb71 => ?_) (fun hb71 => ?_)
      · refine r_pass rfl rfl rfl rfl ?_
        refine r_pass rfl rfl rfl rfl ?_
        refine r_go rfl rfl ?_
        refine r_pick_t rfl rfl rfl ?_
        refine r_pick_t rfl rfl rfl ?_
        refine r_move rfl rfl ?_
        refine r_go rfl rfl ?_
        refine r_move rfl rfl ?_
        refine r_go rfl rfl ?_
        refine r_indexArr (sz := 1) rfl rfl rfl rfl rfl (by omega) (by omega) (show _ = i by simp) ?_
        refine r_go rfl rfl ?_
        refine r_load1 rfl rfl rfl (fl_at (k := i) (by rw [(doL_len hl X res flg)]; exact hi16)) ?_
        refine r_go rfl rfl ?_
        refine r_move rfl rfl ?_
        refine r_go rfl rfl ?_
        refine r_indexArr (sz := 1) rfl rfl rfl rfl rfl (by omega) (by omega) (show _ = i by simp) ?_
        refine r_go rfl rfl ?_
        refine r_load1 rfl rfl rfl (fl_at (k := i) (by omega)) ?_
        refine r_go rfl rfl ?_
        refine r_neq rfl rfl rfl (decide_eq_false (fun hn => hn (doL_other hl hX.1 (of_decide_eq_true hb68) (.inl (by have h := of_decide_eq_true hb71; omega))))) ?_
        refine r_pick_t rfl rfl rfl ?_
        refine r_nil ?_
        refine r_tn ?_
        refine r_cond_f rfl ?_
        refine r_skip ?_
        refine r_bn ?_
        refine r_tn ?_
        refine r_region ?_
        refine r_move rfl rfl ?_
        refine r_add rfl rfl rfl (w64 (by omega)) ?_
        refine r_assign rfl rfl ?_
        refine r_nil ?_
        refine r_tn ?_
        exact r_againN (i + 1) (by omega) (by omega) ⟨rfl, rfl, rfl, rfl, rfl, rfl, trivial⟩ (fun w hw => hw.sub)
      · refine r_go rfl rfl ?_
        refine r_move rfl rfl ?_
        refine r_go rfl rfl ?_
        refine r_not rfl rfl rfl ?_
        refine r_go rfl rfl ?_
        refine r_pick_f rfl rfl rfl ?_
        refine r_pick_t rfl rfl rfl ?_
        refine r_move rfl rfl ?_
        refine r_pass rfl rfl rfl rfl ?_
        refine r_pass rfl rfl rfl rfl ?_
        refine r_pass rfl rfl rfl rfl ?_
        refine r_pass rfl rfl rfl rfl ?_
        refine r_pass rfl rfl rfl rfl ?_
        refine r_pass rfl rfl rfl rfl ?_
        refine r_pass rfl rfl rfl rfl ?_
        refine r_pick_f rfl rfl rfl ?_
        refine r_nil ?_
        refine r_tn ?_
        refine r_cond_f rfl ?_
        refine r_skip ?_
        refine r_bn ?_
        refine r_tn ?_
        refine r_region ?_
        refine r_move rfl rfl ?_
        refine r_add rfl rfl rfl (w64 (by omega)) ?_
        refine r_assign rfl rfl ?_
        refine r_nil ?_
        refine r_tn ?_
        exact r_againN (i + 1) (by omega) (by omega) ⟨rfl, rfl, rfl, rfl, rfl, rfl, trivial⟩ (fun w hw => hw.sub)
    · refine r_pass rfl rfl rfl rfl ?_
      refine r_pass rfl rfl rfl rfl ?_
      refine r_pass rfl rfl rfl rfl ?_
      refine r_passU rfl rfl rfl ?_
      refine r_passU rfl rfl rfl ?_
      refine r_pass rfl rfl rfl rfl ?_
      refine r_pick_f rfl rfl rfl ?_
      refine r_move rfl rfl ?_
      refine r_pass rfl rfl rfl rfl ?_
      refine r_pass rfl rfl rfl rfl ?_
      refine r_pass rfl rfl rfl rfl ?_
      refine r_pass rfl rfl rfl rfl ?_
      refine r_pass rfl rfl rfl rfl ?_
      refine r_pass rfl rfl rfl rfl ?_
      refine r_pass rfl rfl rfl rfl ?_
      refine r_pick_f rfl rfl rfl ?_
      refine r_nil ?_
      refine r_tn ?_
      refine r_cond_f rfl ?_
      refine r_skip ?_
      refine r_bn ?_
      refine r_tn ?_
      refine r_region ?_
      refine r_move rfl rfl ?_
      refine r_add rfl rfl rfl (w64 (by omega)) ?_
      refine r_assign rfl rfl ?_
      refine r_nil ?_
      refine r_tn ?_
      exact r_againN (i + 1) (by omega) (by omega) ⟨rfl, rfl, rfl, rfl, rfl, rfl, trivial⟩ (fun w hw => hw.sub)
  · refine r_exit ?_
    refine r_te ?_
    refine r_te ?_
    refine r_be ?_
    refine r_tn ?_
    refine r_seq ?_
    refine r_region ?_
    refine r_move rfl rfl ?_
    refine r_not rfl rfl rfl ?_
    refine r_move rfl rfl ?_
    refine r_go rfl rfl ?_
    refine r_indexArr (sz := 1) rfl rfl rfl rfl rfl (by omega) (by omega) (show _ = 15 by simp) ?_
    refine r_go rfl rfl ?_
    refine r_load1 rfl rfl rfl (fl_at (k := 15) (by rw [(doL_len hl X res flg)]; decide)) ?_
    refine r_go rfl rfl ?_
    refine r_leq rfl rfl rfl (decide_eq_true (by rw [doL_flag hl (by omega)]; omega)) ?_
    refine r_go rfl rfl ?_
    refine r_move rfl rfl ?_
    refine r_go rfl rfl ?_
    refine r_move rfl rfl ?_
    refine r_go rfl rfl ?_
    refine r_not rfl rfl rfl ?_
    refine r_go rfl rfl ?_
    refine r_move rfl rfl ?_
    refine r_go rfl rfl ?_
    refine r_indexArr (sz := 1) rfl rfl rfl rfl rfl (by omega) (by omega) (show _ = 15 by simp) ?_
    refine r_go rfl rfl ?_
    refine r_load1 rfl rfl rfl (fl_at (k := 15) (by rw [(doL_len hl X res flg)]; decide)) ?_
    refine r_go rfl rfl ?_
    refine r_eql rfl rfl rfl (decide_eq_true (by rw [doL_flag hl (by omega)]; omega)) ?_
    refine r_go rfl rfl ?_
    refine r_pick_f rfl rfl rfl ?_
    refine r_go rfl rfl ?_
    refine r_pick_t rfl rfl rfl ?_
    refine r_pick_f rfl rfl rfl ?_
    refine r_assign rfl rfl ?_
    refine r_nil ?_
    refine r_tn ?_
    refine r_ret ?_
    exact r_done1 (.inl rfl) rfl (res_tmp rfl) fun w hw => ⟨rfl, hw.clear⟩

theorem AluOthers_11k (l : List Int) (X Y N NN Ad Ln lv : Int) (a b c d e f : Bool) (res flg : Int) (W : World) (hl : l.length = 16) (hX : 0 ≤ X ∧ X ≤ 15) (hR : rightM X Y NN = true) (hf : flg = -1) (hdo : ∀ w, Calls Try.prog 10 #[.agg (fl l), .agg (ins 11 X Y N NN Ad Ln), .agg (pro lv a b c false d e f)] w fun e w' => e = .returned (.tuple #[.agg (fl (doL l X res flg)), .bool true]) ∧ Sat w [] [] w') :
    Calls Try.prog 5 #[.agg (fl l), .agg (ins 11 X Y N NN Ad Ln), .agg (pro lv a b c false d e f)] W fun e w' => e = .returned (.bool true) ∧ Sat W [] [] w' := by
  refine enter Try.func5 rfl rfl rfl ?_
  refine r_seq ?_
  refine r_region ?_
  refine r_boxV rfl rfl fun b3 => ?_
  refine r_boxV rfl rfl fun b4 => ?_
  refine r_boxV rfl rfl fun b5 => ?_
  refine r_assign rfl rfl ?_
  refine r_nil ?_
  refine r_tn ?_
  refine r_seq ?_
  refine r_seq ?_
  refine r_region ?_
  refine r_call rfl rfl rfl (by kernel_rfl) rfl (fun w hw => by exact awake18 w) ?_
  refine r_not rfl rfl rfl ?_
  refine r_move rfl rfl ?_
  refine r_go rfl rfl ?_
  refine r_loadV rfl rfl rfl rfl rfl ?_
  refine r_go rfl rfl ?_
  refine r_call (v := .bool true) rfl rfl rfl (by kernel_rfl) rfl (fun w hw => by have h := right18 11 X Y N NN Ad Ln w; rw [hR] at h; exact h) ?_
  refine r_go rfl rfl ?_
  refine r_not rfl rfl rfl ?_
  refine r_pick_f rfl rfl rfl ?_
  refine r_nil ?_
  refine r_tn ?_
  refine r_cond_f rfl ?_
  refine r_skip ?_
  refine r_tn ?_
  refine r_seq ?_
  refine r_region ?_
  refine r_loadV rfl rfl rfl rfl (fl_size hl) ?_
  refine r_loadV rfl rfl rfl rfl rfl ?_
  refine r_loadV rfl rfl rfl rfl rfl ?_
  refine r_call rfl rfl rfl (by kernel_rfl) rfl (fun w hw => by exact hdo w) ?_
  refine r_move rfl rfl ?_
  refine r_extract rfl rfl rfl ?_
  refine r_extract rfl rfl rfl ?_
  refine r_allocV (cs := fl (List.replicate 16 0)) rfl rfl fun b7 => ?_
  refine r_storeV rfl rfl rfl (fl_size (doL_len hl X res flg)) rfl (fl_one _) ?_
  refine r_assign rfl rfl ?_
  refine r_nil ?_
  refine r_tn ?_
  refine r_seq ?_
  refine r_seq ?_
  refine r_region ?_
  refine r_move rfl rfl ?_
  refine r_not rfl rfl rfl ?_
  refine r_nil ?_
  refine r_tn ?_
  refine r_cond_f rfl ?_
  refine r_skip ?_
  refine r_tn ?_
  refine r_seq ?_
  refine r_region ?_
  refine r_fieldAddr (off := 0) (o' := 0) rfl rfl rfl rfl ?_
  refine r_load1 rfl rfl rfl (by rfl) ?_
  refine r_eql rfl rfl rfl (decide_eq_true (by decide)) ?_
  refine r_move rfl rfl ?_
  refine r_pass rfl rfl rfl rfl ?_
  refine r_pass rfl rfl rfl rfl ?_
  refine r_pass rfl rfl rfl rfl ?_
  refine r_pick_t rfl rfl rfl ?_
  refine r_move rfl rfl ?_
  refine r_pass rfl rfl rfl rfl ?_
  refine r_pass rfl rfl rfl rfl ?_
  refine r_pass rfl rfl rfl rfl ?_
  refine r_pick_t rfl rfl rfl ?_
  refine r_assign rfl rfl ?_
  refine r_nil ?_
  refine r_tn ?_
  refine r_seq ?_
  refine r_region ?_
  refine r_fieldAddr (off := 0) (o' := 0) rfl rfl rfl rfl ?_
  refine r_load1 rfl rfl rfl (by rfl) ?_
  refine r_geq rfl rfl rfl (decide_eq_false (by decide)) ?_
  refine r_move rfl rfl ?_
  refine r_pass rfl rfl rfl rfl ?_
  refine r_pass rfl rfl rfl rfl ?_
  refine r_pass rfl rfl rfl rfl ?_
  refine r_pick_f rfl rfl rfl ?_
  refine r_move rfl rfl ?_
  refine r_go rfl rfl ?_
  refine r_move rfl rfl ?_
  refine r_go rfl rfl ?_
  refine r_move rfl rfl ?_
  refine r_go rfl rfl ?_
  refine r_fieldAddr (off := 4) (o' := 4) rfl rfl rfl rfl ?_
  refine r_go rfl rfl ?_
  refine r_load1 rfl rfl rfl (by rfl) ?_
  refine r_go rfl rfl ?_
  refine r_pick_t rfl rfl rfl ?_
  refine r_pick_f rfl rfl rfl ?_
  refine r_assign rfl rfl ?_
  refine r_nil ?_
  refine r_tn ?_
  refine r_seq ?_
  refine r_seq ?_
  refine r_region ?_
  refine r_assign rfl rfl ?_
  refine r_nil ?_
  refine r_tn ?_
  refine r_block ?_
  refine r_loopN (fun i => [(3, .pointer (some ⟨b3, 0, none⟩)), (4, .pointer (some ⟨b4, 0, none⟩)), (7, .pointer (some ⟨b7, 0, none⟩)), (9, .bool true), (10, .bool false), (11, .int .i64 (i : Int))]) (fun i => [.blk b3 (.cells (fl l) 22 (0, 0)), .blk b4 (.cells (ins 11 X Y N NN Ad Ln) 24 (0, 0)), .blk b7 (.cells (fl (doL l X res flg)) 22 (0, 0))]) (fun i => i ≤ 16) 16 0 (by omega) ⟨rfl, rfl, rfl, rfl, rfl, rfl, trivial⟩ (fun w hw => hw.sub) fun i hi => ?_
  refine r_seq ?_
  refine r_seq ?_
  refine r_region ?_
  refine r_move rfl rfl ?_
  refine r_lss rfl rfl rfl rfl ?_
  refine r_nil ?_
  refine r_tn ?_
  refine r_cond rfl (fun hc => ?_) (fun hc => ?_)
  · refine r_skip ?_
    refine r_tn ?_
    refine r_seq ?_
    refine r_block ?_
    refine r_seq ?_
    refine r_mixed (by kernel_rfl) (by kernel_rfl) ?_
    have hi16 : i < 16 := by have h := of_decide_eq_true hc; omega
    refine r_move rfl rfl ?_
    refine r_fieldAddr (off := 1) rfl rfl rfl rfl ?_
    refine r_load1 rfl rfl rfl (by rfl) ?_
    refine r_neq rfl rfl rfl rfl ?_
    refine r_move rfl rfl ?_
    refine r_split 68 rfl (fun hb68 => ?_) (fun hb68 => ?_)
    · refine r_go rfl rfl ?_
      refine r_move rfl rfl ?_
      refine r_go rfl rfl ?_
      refine r_neq rfl rfl rfl rfl ?_
      refine r_go rfl rfl ?_
      refine r_move rfl rfl ?_
      refine r_split 71 rfl (fun hb71 => ?_) (fun hb71 => ?_)
      · refine r_pass rfl rfl rfl rfl ?_
        refine r_pass rfl rfl rfl rfl ?_
        refine r_go rfl rfl ?_
        refine r_pick_t rfl rfl rfl ?_
        refine r_pick_t rfl rfl rfl ?_
        refine r_move rfl rfl ?_
        refine r_go rfl rfl ?_
        refine r_move rfl rfl ?_
        refine r_go rfl rfl ?_
        refine r_indexArr (sz := 1) rfl rfl rfl rfl rfl (by omega) (by omega) (show _ = i by simp) ?_
        refine r_go rfl rfl ?_
        refine r_load1 rfl rfl rfl (fl_at (k := i) (by rw [(doL_len hl X res flg)]; exact hi16)) ?_
        refine r_go rfl rfl ?_
        refine r_move rfl rfl ?_
        refine r_go rfl rfl ?_
        refine r_indexArr (sz := 1) rfl rfl rfl rfl rfl (by omega) (by omega) (show _ = i by simp) ?_
        refine r_go rfl rfl ?_
        refine r_load1 rfl rfl rfl (fl_at (k := i) (by omega)) ?_
        refine r_go rfl rfl ?_
        refine r_neq rfl rfl rfl (decide_eq_false (fun hn => hn (doL_other hl hX.1 (of_decide_eq_true hb68) (.inr (by omega))))) ?_
        refine r_pick_t rfl rfl rfl ?_
        refine r_nil ?_
        refine r_tn ?_
        refine r_cond_f rfl ?_
        refine r_skip ?_
        refine r_bn ?_
        refine r_tn ?_
        refine r_region ?_
        refine r_move rfl rfl ?_
        refine r_add rfl rfl rfl (w64 (by omega)) ?_
        refine r_assign rfl rfl ?_
        refine r_nil ?_
        refine r_tn ?_
        exact r_againN (i + 1) (by omega) (by omega) ⟨rfl, rfl, rfl, rfl, rfl, rfl, trivial⟩ (fun w hw => hw.sub)
      · refine r_go rfl rfl ?_
        refine r_move rfl rfl ?_
        refine r_go rfl rfl ?_
        refine r_not rfl rfl rfl ?_
        refine r_go rfl rfl ?_
        refine r_pick_f rfl rfl rfl ?_
        refine r_pick_t rfl rfl rfl ?_
        refine r_move rfl rfl ?_
        refine r_go rfl rfl ?_
        refine r_move rfl rfl ?_
        refine r_go rfl rfl ?_
        refine r_indexArr (sz := 1) rfl rfl rfl rfl rfl (by omega) (by omega) (show _ = i by simp) ?_
        refine r_go rfl rfl ?_
        refine r_load1 rfl rfl rfl (fl_at (k := i) (by rw [(doL_len hl X res flg)]; exact hi16)) ?_
        refine r_go rfl rfl ?_
        refine r_move rfl rfl ?_
        refine r_go rfl rfl ?_
        refine r_indexArr (sz := 1) rfl rfl rfl rfl rfl (by omega) (by omega) (show _ = i by simp) ?_
        refine r_go rfl rfl ?_
        refine r_load1 rfl rfl rfl (fl_at (k := i) (by omega)) ?_
        refine r_go rfl rfl ?_
        refine r_neq rfl rfl rfl (decide_eq_false (fun hn => hn (doL_other hl hX.1 (of_decide_eq_true hb68) (.inr (by omega))))) ?_
        refine r_pick_t rfl rfl rfl ?_
        refine r_nil ?_
        refine r_tn ?_
        refine r_cond_f rfl ?_
        refine r_skip ?_
        refine r_bn ?_
        refine r_tn ?_
        refine r_region ?_
        refine r_move rfl rfl ?_
        refine r_add rfl rfl rfl (w64 (by omega)) ?_
        refine r_assign rfl rfl ?_
        refine r_nil ?_
        refine r_tn ?_
        exact r_againN (i + 1) (by omega) (by omega) ⟨rfl, rfl, rfl, rfl, rfl, rfl, trivial⟩ (fun w hw => hw.sub)
    · refine r_pass rfl rfl rfl rfl ?_
      refine r_pass rfl rfl rfl rfl ?_
      refine r_pass rfl rfl rfl rfl ?_
      refine r_passU rfl rfl rfl ?_
      refine r_passU rfl rfl rfl ?_
      refine r_pass rfl rfl rfl rfl ?_
      refine r_pick_f rfl rfl rfl ?_
      refine r_move rfl rfl ?_
      refine r_pass rfl rfl rfl rfl ?_
      refine r_pass rfl rfl rfl rfl ?_
      refine r_pass rfl rfl rfl rfl ?_
      refine r_pass rfl rfl rfl rfl ?_
      refine r_pass rfl rfl rfl rfl ?_
      refine r_pass rfl rfl rfl rfl ?_
      refine r_pass rfl rfl rfl rfl ?_
      refine r_pick_f rfl rfl rfl ?_
      refine r_nil ?_
      refine r_tn ?_
      refine r_cond_f rfl ?_
      refine r_skip ?_
      refine r_bn ?_
      refine r_tn ?_
      refine r_region ?_
      refine r_move rfl rfl ?_
      refine r_add rfl rfl rfl (w64 (by omega)) ?_
      refine r_assign rfl rfl ?_
      refine r_nil ?_
      refine r_tn ?_
      exact r_againN (i + 1) (by omega) (by omega) ⟨rfl, rfl, rfl, rfl, rfl, rfl, trivial⟩ (fun w hw => hw.sub)
  · refine r_exit ?_
    refine r_te ?_
    refine r_te ?_
    refine r_be ?_
    refine r_tn ?_
    refine r_seq ?_
    refine r_region ?_
    refine r_move rfl rfl ?_
    refine r_not rfl rfl rfl ?_
    refine r_move rfl rfl ?_
    refine r_pass rfl rfl rfl rfl ?_
    refine r_pass rfl rfl rfl rfl ?_
    refine r_pass rfl rfl rfl rfl ?_
    refine r_pass rfl rfl rfl rfl ?_
    refine r_passU rfl rfl rfl ?_
    refine r_passU rfl rfl rfl ?_
    refine r_passU rfl rfl rfl ?_
    refine r_passU rfl rfl rfl ?_
    refine r_passU rfl rfl rfl ?_
    refine r_passU rfl rfl rfl ?_
    refine r_passU rfl rfl rfl ?_
    refine r_pass rfl rfl rfl rfl ?_
    refine r_pick_t rfl rfl rfl ?_
    refine r_assign rfl rfl ?_
    refine r_nil ?_
    refine r_tn ?_
    refine r_ret ?_
    exact r_done1 (.inl rfl) rfl (res_tmp rfl) fun w hw => ⟨rfl, hw.clear⟩

theorem AluOthers_12r (l : List Int) (X Y N NN Ad Ln lv : Int) (a b c d e f : Bool) (res flg : Int) (W : World) (hl : l.length = 16) (hX : 0 ≤ X ∧ X ≤ 15) (hR : rightM X Y NN = true) (hf : flg = 0) (hdo : ∀ w, Calls Try.prog 10 #[.agg (fl l), .agg (ins 12 X Y N NN Ad Ln), .agg (pro lv a b c true d e f)] w fun e w' => e = .returned (.tuple #[.agg (fl (doL l X res flg)), .bool true]) ∧ Sat w [] [] w') :
    Calls Try.prog 5 #[.agg (fl l), .agg (ins 12 X Y N NN Ad Ln), .agg (pro lv a b c true d e f)] W fun e w' => e = .returned (.bool true) ∧ Sat W [] [] w' := by
  refine enter Try.func5 rfl rfl rfl ?_
  refine r_seq ?_
  refine r_region ?_
  refine r_boxV rfl rfl fun b3 => ?_
  refine r_boxV rfl rfl fun b4 => ?_
  refine r_boxV rfl rfl fun b5 => ?_
  refine r_assign rfl rfl ?_
  refine r_nil ?_
  refine r_tn ?_
  refine r_seq ?_
  refine r_seq ?_
  refine r_region ?_
  refine r_call rfl rfl rfl (by kernel_rfl) rfl (fun w hw => by exact awake18 w) ?_
  refine r_not rfl rfl rfl ?_
  refine r_move rfl rfl ?_
  refine r_go rfl rfl ?_
  refine r_loadV rfl rfl rfl rfl rfl ?_
  refine r_go rfl rfl ?_
  refine r_call (v := .bool true) rfl rfl rfl (by kernel_rfl) rfl (fun w hw => by have h := right18 12 X Y N NN Ad Ln w; rw [hR] at h; exact h) ?_
  refine r_go rfl rfl ?_
  refine r_not rfl rfl rfl ?_
  refine r_pick_f rfl rfl rfl ?_
  refine r_nil ?_
  refine r_tn ?_
  refine r_cond_f rfl ?_
  refine r_skip ?_
  refine r_tn ?_
  refine r_seq ?_
  refine r_region ?_
  refine r_loadV rfl rfl rfl rfl (fl_size hl) ?_
  refine r_loadV rfl rfl rfl rfl rfl ?_
  refine r_loadV rfl rfl rfl rfl rfl ?_
  refine r_call rfl rfl rfl (by kernel_rfl) rfl (fun w hw => by exact hdo w) ?_
  refine r_move rfl rfl ?_
  refine r_extract rfl rfl rfl ?_
  refine r_extract rfl rfl rfl ?_
  refine r_allocV (cs := fl (List.replicate 16 0)) rfl rfl fun b7 => ?_
  refine r_storeV rfl rfl rfl (fl_size (doL_len hl X res flg)) rfl (fl_one _) ?_
  refine r_assign rfl rfl ?_
  refine r_nil ?_
  refine r_tn ?_
  refine r_seq ?_
  refine r_seq ?_
  refine r_region ?_
  refine r_move rfl rfl ?_
  refine r_not rfl rfl rfl ?_
  refine r_nil ?_
  refine r_tn ?_
  refine r_cond_f rfl ?_
  refine r_skip ?_
  refine r_tn ?_
  refine r_seq ?_
  refine r_region ?_
  refine r_fieldAddr (off := 0) (o' := 0) rfl rfl rfl rfl ?_
  refine r_load1 rfl rfl rfl (by rfl) ?_
  refine r_eql rfl rfl rfl (decide_eq_false (by decide)) ?_
  refine r_move rfl rfl ?_
  refine r_go rfl rfl ?_
  refine r_fieldAddr (off := 0) (o' := 0) rfl rfl rfl rfl ?_
  refine r_go rfl rfl ?_
  refine r_load1 rfl rfl rfl (by rfl) ?_
  refine r_go rfl rfl ?_
  refine r_eql rfl rfl rfl (decide_eq_true (by decide)) ?_
  refine r_pick_f rfl rfl rfl ?_
  refine r_move rfl rfl ?_
  refine r_pass rfl rfl rfl rfl ?_
  refine r_pass rfl rfl rfl rfl ?_
  refine r_pass rfl rfl rfl rfl ?_
  refine r_pick_t rfl rfl rfl ?_
  refine r_assign rfl rfl ?_
  refine r_nil ?_
  refine r_tn ?_
  refine r_seq ?_
  refine r_region ?_
  refine r_fieldAddr (off := 0) (o' := 0) rfl rfl rfl rfl ?_
  refine r_load1 rfl rfl rfl (by rfl) ?_
  refine r_geq rfl rfl rfl (decide_eq_false (by decide)) ?_
  refine r_move rfl rfl ?_
  refine r_pass rfl rfl rfl rfl ?_
  refine r_pass rfl rfl rfl rfl ?_
  refine r_pass rfl rfl rfl rfl ?_
  refine r_pick_f rfl rfl rfl ?_
  refine r_move rfl rfl ?_
  refine r_go rfl rfl ?_
  refine r_move rfl rfl ?_
  refine r_go rfl rfl ?_
  refine r_move rfl rfl ?_
  refine r_go rfl rfl ?_
  refine r_fieldAddr (off := 4) (o' := 4) rfl rfl rfl rfl ?_
  refine r_go rfl rfl ?_
  refine r_load1 rfl rfl rfl (by rfl) ?_
  refine r_go rfl rfl ?_
  refine r_pick_t rfl rfl rfl ?_
  refine r_pick_f rfl rfl rfl ?_
  refine r_assign rfl rfl ?_
  refine r_nil ?_
  refine r_tn ?_
  refine r_seq ?_
  refine r_seq ?_
  refine r_region ?_
  refine r_assign rfl rfl ?_
  refine r_nil ?_
  refine r_tn ?_
  refine r_block ?_
  refine r_loopN (fun i => [(3, .pointer (some ⟨b3, 0, none⟩)), (4, .pointer (some ⟨b4, 0, none⟩)), (7, .pointer (some ⟨b7, 0, none⟩)), (9, .bool true), (10, .bool true), (11, .int .i64 (i : Int))]) (fun i => [.blk b3 (.cells (fl l) 22 (0, 0)), .blk b4 (.cells (ins 12 X Y N NN Ad Ln) 24 (0, 0)), .blk b7 (.cells (fl (doL l X res flg)) 22 (0, 0))]) (fun i => i ≤ 16) 16 0 (by omega) ⟨rfl, rfl, rfl, rfl, rfl, rfl, trivial⟩ (fun w hw => hw.sub) fun i hi => ?_
  refine r_seq ?_
  refine r_seq ?_
  refine r_region ?_
  refine r_move rfl rfl ?_
  refine r_lss rfl rfl rfl rfl ?_
  refine r_nil ?_
  refine r_tn ?_
  refine r_cond rfl (fun hc => ?_) (fun hc => ?_)
  · refine r_skip ?_
    refine r_tn ?_
    refine r_seq ?_
    refine r_block ?_
    refine r_seq ?_
    refine r_mixed (by kernel_rfl) (by kernel_rfl) ?_
    have hi16 : i < 16 := by have h := of_decide_eq_true hc; omega
    refine r_move rfl rfl ?_
    refine r_fieldAddr (off := 1) rfl rfl rfl rfl ?_
    refine r_load1 rfl rfl rfl (by rfl) ?_
    refine r_neq rfl rfl rfl rfl ?_
    refine r_move rfl rfl ?_
    refine r_split 68 rfl (fun hb68 => ?_) (fun hb68 => ?_)
    · refine r_go rfl rfl ?_
      refine r_move rfl rfl ?_
      refine r_go rfl rfl ?_
      refine r_neq rfl rfl rfl rfl ?_
      refine r_go rfl rfl ?_
      refine r_move rfl rfl ?_
      refine r_split 71 rfl (fun hb71 => ?_) (fun hb71 => ?_)
      · refine r_pass rfl rfl rfl rfl ?_
        refine r_pass rfl rfl rfl rfl ?_
        refine r_go rfl rfl ?_
        refine r_pick_t rfl rfl rfl ?_
        refine r_pick_t rfl rfl rfl ?_
        refine r_move rfl rfl ?_
        refine r_go rfl rfl ?_
        refine r_move rfl rfl ?_
        refine r_go rfl rfl ?_
        refine r_indexArr (sz := 1) rfl rfl rfl rfl rfl (by omega) (by omega) (show _ = i by simp) ?_
        refine r_go rfl rfl ?_
        refine r_load1 rfl rfl rfl (fl_at (k := i) (by rw [(doL_len hl X res flg)]; exact hi16)) ?_
        refine r_go rfl rfl ?_
        refine r_move rfl rfl ?_
        refine r_go rfl rfl ?_
        refine r_indexArr (sz := 1) rfl rfl rfl rfl rfl (by omega) (by omega) (show _ = i by simp) ?_
        refine r_go rfl rfl ?_
        refine r_load1 rfl rfl rfl (fl_at (k := i) (by omega)) ?_
        refine r_go rfl rfl ?_
        refine r_neq rfl rfl rfl (decide_eq_false (fun hn => hn (doL_other hl hX.1 (of_decide_eq_true hb68) (.inl (by have h := of_decide_eq_true hb71; omega))))) ?_
        refine r_pick_t rfl rfl rfl ?_
        refine r_nil ?_
        refine r_tn ?_
        refine r_cond_f rfl ?_
        refine r_skip ?_
        refine r_bn ?_
        refine r_tn ?_
        refine r_region ?_
        refine r_move rfl rfl ?_
        refine r_add rfl rfl rfl (w64 (by omega)) ?_
        refine r_assign rfl rfl ?_
        refine r_nil ?_
        refine r_tn ?_
        exact r_againN (i + 1) (by omega) (by omega) ⟨rfl, rfl, rfl, rfl, rfl, rfl, trivial⟩ (fun w hw => hw.sub)
      · refine r_go rfl rfl ?_
        refine r_move rfl rfl ?_
        refine r_go rfl rfl ?_
        refine r_not rfl rfl rfl ?_
        refine r_go rfl rfl ?_
        refine r_pick_f rfl rfl rfl ?_
        refine r_pick_t rfl rfl rfl ?_
        refine r_move rfl rfl ?_
        refine r_pass rfl rfl rfl rfl ?_
        refine r_pass rfl rfl rfl rfl ?_
        refine r_pass rfl rfl rfl rfl ?_
        refine r_pass rfl rfl rfl rfl ?_
        refine r_pass rfl rfl rfl rfl ?_
        refine r_pass rfl rfl rfl rfl ?_
        refine r_pass rfl rfl rfl rfl ?_
        refine r_pick_f rfl rfl rfl ?_
        refine r_nil ?_
        refine r_tn ?_
        refine r_cond_f rfl ?_
        refine r_skip ?_
        refine r_bn ?_
        refine r_tn ?_
        refine r_region ?_
        refine r_move rfl rfl ?_
        refine r_add rfl rfl rfl (w64 (by omega)) ?_
        refine r_assign rfl rfl ?_
        refine r_nil ?_
        refine r_tn ?_
        exact r_againN (i + 1) (by omega) (by omega) ⟨rfl, rfl, rfl, rfl, rfl, rfl, trivial⟩ (fun w hw => hw.sub)
    · refine r_pass rfl rfl rfl rfl ?_
      refine r_pass rfl rfl rfl rfl ?_
      refine r_pass rfl rfl rfl rfl ?_
      refine r_passU rfl rfl rfl ?_
      refine r_passU rfl rfl rfl ?_
      refine r_pass rfl rfl rfl rfl ?_
      refine r_pick_f rfl rfl rfl ?_
      refine r_move rfl rfl ?_
      refine r_pass rfl rfl rfl rfl ?_
      refine r_pass rfl rfl rfl rfl ?_
      refine r_pass rfl rfl rfl rfl ?_
      refine r_pass rfl rfl rfl rfl ?_
      refine r_pass rfl rfl rfl rfl ?_
      refine r_pass rfl rfl rfl rfl ?_
      refine r_pass rfl rfl rfl rfl ?_
      refine r_pick_f rfl rfl rfl ?_
      refine r_nil ?_
      refine r_tn ?_
      refine r_cond_f rfl ?_
      refine r_skip ?_
      refine r_bn ?_
      refine r_tn ?_
      refine r_region ?_
      refine r_move rfl rfl ?_
      refine r_add rfl rfl rfl (w64 (by omega)) ?_
      refine r_assign rfl rfl ?_
      refine r_nil ?_
      refine r_tn ?_
      exact r_againN (i + 1) (by omega) (by omega) ⟨rfl, rfl, rfl, rfl, rfl, rfl, trivial⟩ (fun w hw => hw.sub)
  · refine r_exit ?_
    refine r_te ?_
    refine r_te ?_
    refine r_be ?_
    refine r_tn ?_
    refine r_seq ?_
    refine r_region ?_
    refine r_move rfl rfl ?_
    refine r_not rfl rfl rfl ?_
    refine r_move rfl rfl ?_
    refine r_go rfl rfl ?_
    refine r_indexArr (sz := 1) rfl rfl rfl rfl rfl (by omega) (by omega) (show _ = 15 by simp) ?_
    refine r_go rfl rfl ?_
    refine r_load1 rfl rfl rfl (fl_at (k := 15) (by rw [(doL_len hl X res flg)]; decide)) ?_
    refine r_go rfl rfl ?_
    refine r_leq rfl rfl rfl (decide_eq_true (by rw [doL_flag hl (by omega)]; omega)) ?_
    refine r_go rfl rfl ?_
    refine r_move rfl rfl ?_
    refine r_go rfl rfl ?_
    refine r_move rfl rfl ?_
    refine r_go rfl rfl ?_
    refine r_not rfl rfl rfl ?_
    refine r_go rfl rfl ?_
    refine r_move rfl rfl ?_
    refine r_go rfl rfl ?_
    refine r_indexArr (sz := 1) rfl rfl rfl rfl rfl (by omega) (by omega) (show _ = 15 by simp) ?_
    refine r_go rfl rfl ?_
    refine r_load1 rfl rfl rfl (fl_at (k := 15) (by rw [(doL_len hl X res flg)]; decide)) ?_
    refine r_go rfl rfl ?_
    refine r_eql rfl rfl rfl (decide_eq_true (by rw [doL_flag hl (by omega)]; omega)) ?_
    refine r_go rfl rfl ?_
    refine r_pick_f rfl rfl rfl ?_
    refine r_go rfl rfl ?_
    refine r_pick_t rfl rfl rfl ?_
    refine r_pick_f rfl rfl rfl ?_
    refine r_assign rfl rfl ?_
    refine r_nil ?_
    refine r_tn ?_
    refine r_ret ?_
    exact r_done1 (.inl rfl) rfl (res_tmp rfl) fun w hw => ⟨rfl, hw.clear⟩

theorem AluOthers_12k (l : List Int) (X Y N NN Ad Ln lv : Int) (a b c d e f : Bool) (res flg : Int) (W : World) (hl : l.length = 16) (hX : 0 ≤ X ∧ X ≤ 15) (hR : rightM X Y NN = true) (hf : flg = -1) (hdo : ∀ w, Calls Try.prog 10 #[.agg (fl l), .agg (ins 12 X Y N NN Ad Ln), .agg (pro lv a b c false d e f)] w fun e w' => e = .returned (.tuple #[.agg (fl (doL l X res flg)), .bool true]) ∧ Sat w [] [] w') :
    Calls Try.prog 5 #[.agg (fl l), .agg (ins 12 X Y N NN Ad Ln), .agg (pro lv a b c false d e f)] W fun e w' => e = .returned (.bool true) ∧ Sat W [] [] w' := by
  refine enter Try.func5 rfl rfl rfl ?_
  refine r_seq ?_
  refine r_region ?_
  refine r_boxV rfl rfl fun b3 => ?_
  refine r_boxV rfl rfl fun b4 => ?_
  refine r_boxV rfl rfl fun b5 => ?_
  refine r_assign rfl rfl ?_
  refine r_nil ?_
  refine r_tn ?_
  refine r_seq ?_
  refine r_seq ?_
  refine r_region ?_
  refine r_call rfl rfl rfl (by kernel_rfl) rfl (fun w hw => by exact awake18 w) ?_
  refine r_not rfl rfl rfl ?_
  refine r_move rfl rfl ?_
  refine r_go rfl rfl ?_
  refine r_loadV rfl rfl rfl rfl rfl ?_
  refine r_go rfl rfl ?_
  refine r_call (v := .bool true) rfl rfl rfl (by kernel_rfl) rfl (fun w hw => by have h := right18 12 X Y N NN Ad Ln w; rw [hR] at h; exact h) ?_
  refine r_go rfl rfl ?_
  refine r_not rfl rfl rfl ?_
  refine r_pick_f rfl rfl rfl ?_
  refine r_nil ?_
  refine r_tn ?_
  refine r_cond_f rfl ?_
  refine r_skip ?_
  refine r_tn ?_
  refine r_seq ?_
  refine r_region ?_
  refine r_loadV rfl rfl rfl rfl (fl_size hl) ?_
  refine r_loadV rfl rfl rfl rfl rfl ?_
  refine r_loadV rfl rfl rfl rfl rfl ?_
  refine r_call rfl rfl rfl (by kernel_rfl) rfl (fun w hw => by exact hdo w) ?_
  refine r_move rfl rfl ?_
  refine r_extract rfl rfl rfl ?_
  refine r_extract rfl rfl rfl ?_
  refine r_allocV (cs := fl (List.replicate 16 0)) rfl rfl fun b7 => ?_
  refine r_storeV rfl rfl rfl (fl_size (doL_len hl X res flg)) rfl (fl_one _) ?_
  refine r_assign rfl rfl ?_
  refine r_nil ?_
  refine r_tn ?_
  refine r_seq ?_
  refine r_seq ?_
  refine r_region ?_
  refine r_move rfl rfl ?_
  refine r_not rfl rfl rfl ?_
  refine r_nil ?_
  refine r_tn ?_
  refine r_cond_f rfl ?_
  refine r_skip ?_
  refine r_tn ?_
  refine r_seq ?_
  refine r_region ?_
  refine r_fieldAddr (off := 0) (o' := 0) rfl rfl rfl rfl ?_
  refine r_load1 rfl rfl rfl (by rfl) ?_
  refine r_eql rfl rfl rfl (decide_eq_false (by decide)) ?_
  refine r_move rfl rfl ?_
  refine r_go rfl rfl ?_
  refine r_fieldAddr (off := 0) (o' := 0) rfl rfl rfl rfl ?_
  refine r_go rfl rfl ?_
  refine r_load1 rfl rfl rfl (by rfl) ?_
  refine r_go rfl rfl ?_
  refine r_eql rfl rfl rfl (decide_eq_true (by decide)) ?_
  refine r_pick_f rfl rfl rfl ?_
  refine r_move rfl rfl ?_
  refine r_pass rfl rfl rfl rfl ?_
  refine r_pass rfl rfl rfl rfl ?_
  refine r_pass rfl rfl rfl rfl ?_
  refine r_pick_t rfl rfl rfl ?_
  refine r_assign rfl rfl ?_
  refine r_nil ?_
  refine r_tn ?_
  refine r_seq ?_
  refine r_region ?_
  refine r_fieldAddr (off := 0) (o' := 0) rfl rfl rfl rfl ?_
  refine r_load1 rfl rfl rfl (by rfl) ?_
  refine r_geq rfl rfl rfl (decide_eq_false (by decide)) ?_
  refine r_move rfl rfl ?_
  refine r_pass rfl rfl rfl rfl ?_
  refine r_pass rfl rfl rfl rfl ?_
  refine r_pass rfl rfl rfl rfl ?_
  refine r_pick_f rfl rfl rfl ?_
  refine r_move rfl rfl ?_
  refine r_go rfl rfl ?_
  refine r_move rfl rfl ?_
  refine r_go rfl rfl ?_
  refine r_move rfl rfl ?_
  refine r_go rfl rfl ?_
  refine r_fieldAddr (off := 4) (o' := 4) rfl rfl rfl rfl ?_
  refine r_go rfl rfl ?_
  refine r_load1 rfl rfl rfl (by rfl) ?_
  refine r_go rfl rfl ?_
  refine r_pick_t rfl rfl rfl ?_
  refine r_pick_f rfl rfl rfl ?_
  refine r_assign rfl rfl ?_
  refine r_nil ?_
  refine r_tn ?_
  refine r_seq ?_
  refine r_seq ?_
  refine r_region ?_
  refine r_assign rfl rfl ?_
  refine r_nil ?_
  refine r_tn ?_
  refine r_block ?_
  refine r_loopN (fun i => [(3, .pointer (some ⟨b3, 0, none⟩)), (4, .pointer (some ⟨b4, 0, none⟩)), (7, .pointer (some ⟨b7, 0, none⟩)), (9, .bool true), (10, .bool false), (11, .int .i64 (i : Int))]) (fun i => [.blk b3 (.cells (fl l) 22 (0, 0)), .blk b4 (.cells (ins 12 X Y N NN Ad Ln) 24 (0, 0)), .blk b7 (.cells (fl (doL l X res flg)) 22 (0, 0))]) (fun i => i ≤ 16) 16 0 (by omega) ⟨rfl, rfl, rfl, rfl, rfl, rfl, trivial⟩ (fun w hw => hw.sub) fun i hi => ?_
  refine r_seq ?_
  refine r_seq ?_
  refine r_region ?_
  refine r_move rfl rfl ?_
  refine r_lss rfl rfl rfl rfl ?_
  refine r_nil ?_
  refine r_tn ?_
  refine r_cond rfl (fun hc => ?_) (fun hc => ?_)
  · refine r_skip ?_
    refine r_tn ?_
    refine r_seq ?_
    refine r_block ?_
    refine r_seq ?_
    refine r_mixed (by kernel_rfl) (by kernel_rfl) ?_
    have hi16 : i < 16 := by have h := of_decide_eq_true hc; omega
    refine r_move rfl rfl ?_
    refine r_fieldAddr (off := 1) rfl rfl rfl rfl ?_
    refine r_load1 rfl rfl rfl (by rfl) ?_
    refine r_neq rfl rfl rfl rfl ?_
    refine r_move rfl rfl ?_
    refine r_split 68 rfl (fun hb68 => ?_) (fun hb68 => ?_)
    · refine r_go rfl rfl ?_
      refine r_move rfl rfl ?_
      refine r_go rfl rfl ?_
      refine r_neq rfl rfl rfl rfl ?_
      refine r_go rfl rfl ?_
      refine r_move rfl rfl ?_
      refine r_split 71 rfl (fun hb71 => ?_) (fun hb71 => ?_)
      · refine r_pass rfl rfl rfl rfl ?_
        refine r_pass rfl rfl rfl rfl ?_
        refine r_go rfl rfl ?_
        refine r_pick_t rfl rfl rfl ?_
        refine r_pick_t rfl rfl rfl ?_
        refine r_move rfl rfl ?_
        refine r_go rfl rfl ?_
        refine r_move rfl rfl ?_
        refine r_go rfl rfl ?_
        refine r_indexArr (sz := 1) rfl rfl rfl rfl rfl (by omega) (by omega) (show _ = i by simp) ?_
        refine r_go rfl rfl ?_
        refine r_load1 rfl rfl rfl (fl_at (k := i) (by rw [(doL_len hl X res flg)]; exact hi16)) ?_
        refine r_go rfl rfl ?_
        refine r_move rfl rfl ?_
        refine r_go rfl rfl ?_
        refine r_indexArr (sz := 1) rfl rfl rfl rfl rfl (by omega) (by omega) (show _ = i by simp) ?_
        refine r_go rfl rfl ?_
        refine r_load1 rfl rfl rfl (fl_at (k := i) (by omega)) ?_
        refine r_go rfl rfl ?_
        refine r_neq rfl rfl rfl (decide_eq_false (fun hn => hn (doL_other hl hX.1 (of_decide_eq_true hb68) (.inr (by omega))))) ?_
        refine r_pick_t rfl rfl rfl ?_
        refine r_nil ?_
        refine r_tn ?_
        refine r_cond_f rfl ?_
        refine r_skip ?_
        refine r_bn ?_
        refine r_tn ?_
        refine r_region ?_
        refine r_move rfl rfl ?_
        refine r_add rfl rfl rfl (w64 (by omega)) ?_
        refine r_assign rfl rfl ?_
        refine r_nil ?_
        refine r_tn ?_
        exact r_againN (i + 1) (by omega) (by omega) ⟨rfl, rfl, rfl, rfl, rfl, rfl, trivial⟩ (fun w hw => hw.sub)
      · refine r_go rfl rfl ?_
        refine r_move rfl rfl ?_
        refine r_go rfl rfl ?_
        refine r_not rfl rfl rfl ?_
        refine r_go rfl rfl ?_
        refine r_pick_f rfl rfl rfl ?_
        refine r_pick_t rfl rfl rfl ?_
        refine r_move rfl rfl ?_
        refine r_go rfl rfl ?_
        refine r_move rfl rfl ?_
        refine r_go rfl rfl ?_
        refine r_indexArr (sz := 1) rfl rfl rfl rfl rfl (by omega) (by omega) (show _ = i by simp) ?_
        refine r_go rfl rfl ?_
        refine r_load1 rfl rfl rfl (fl_at (k := i) (by rw [(doL_len hl X res flg)]; exact hi16)) ?_
        refine r_go rfl rfl ?_
        refine r_move rfl rfl ?_
        refine r_go rfl rfl ?_
        refine r_indexArr (sz := 1) rfl rfl rfl rfl rfl (by omega) (by omega) (show _ = i by simp) ?_
        refine r_go rfl rfl ?_
        refine r_load1 rfl rfl rfl (fl_at (k := i) (by omega)) ?_
        refine r_go rfl rfl ?_
        refine r_neq rfl rfl rfl (decide_eq_false (fun hn => hn (doL_other hl hX.1 (of_decide_eq_true hb68) (.inr (by omega))))) ?_
        refine r_pick_t rfl rfl rfl ?_
        refine r_nil ?_
        refine r_tn ?_
        refine r_cond_f rfl ?_
        refine r_skip ?_
        refine r_bn ?_
        refine r_tn ?_
        refine r_region ?_
        refine r_move rfl rfl ?_
        refine r_add rfl rfl rfl (w64 (by omega)) ?_
        refine r_assign rfl rfl ?_
        refine r_nil ?_
        refine r_tn ?_
        exact r_againN (i + 1) (by omega) (by omega) ⟨rfl, rfl, rfl, rfl, rfl, rfl, trivial⟩ (fun w hw => hw.sub)
    · refine r_pass rfl rfl rfl rfl ?_
      refine r_pass rfl rfl rfl rfl ?_
      refine r_pass rfl rfl rfl rfl ?_
      refine r_passU rfl rfl rfl ?_
      refine r_passU rfl rfl rfl ?_
      refine r_pass rfl rfl rfl rfl ?_
      refine r_pick_f rfl rfl rfl ?_
      refine r_move rfl rfl ?_
      refine r_pass rfl rfl rfl rfl ?_
      refine r_pass rfl rfl rfl rfl ?_
      refine r_pass rfl rfl rfl rfl ?_
      refine r_pass rfl rfl rfl rfl ?_
      refine r_pass rfl rfl rfl rfl ?_
      refine r_pass rfl rfl rfl rfl ?_
      refine r_pass rfl rfl rfl rfl ?_
      refine r_pick_f rfl rfl rfl ?_
      refine r_nil ?_
      refine r_tn ?_
      refine r_cond_f rfl ?_
      refine r_skip ?_
      refine r_bn ?_
      refine r_tn ?_
      refine r_region ?_
      refine r_move rfl rfl ?_
      refine r_add rfl rfl rfl (w64 (by omega)) ?_
      refine r_assign rfl rfl ?_
      refine r_nil ?_
      refine r_tn ?_
      exact r_againN (i + 1) (by omega) (by omega) ⟨rfl, rfl, rfl, rfl, rfl, rfl, trivial⟩ (fun w hw => hw.sub)
  · refine r_exit ?_
    refine r_te ?_
    refine r_te ?_
    refine r_be ?_
    refine r_tn ?_
    refine r_seq ?_
    refine r_region ?_
    refine r_move rfl rfl ?_
    refine r_not rfl rfl rfl ?_
    refine r_move rfl rfl ?_
    refine r_pass rfl rfl rfl rfl ?_
    refine r_pass rfl rfl rfl rfl ?_
    refine r_pass rfl rfl rfl rfl ?_
    refine r_pass rfl rfl rfl rfl ?_
    refine r_passU rfl rfl rfl ?_
    refine r_passU rfl rfl rfl ?_
    refine r_passU rfl rfl rfl ?_
    refine r_passU rfl rfl rfl ?_
    refine r_passU rfl rfl rfl ?_
    refine r_passU rfl rfl rfl ?_
    refine r_passU rfl rfl rfl ?_
    refine r_pass rfl rfl rfl rfl ?_
    refine r_pick_t rfl rfl rfl ?_
    refine r_assign rfl rfl ?_
    refine r_nil ?_
    refine r_tn ?_
    refine r_ret ?_
    exact r_done1 (.inl rfl) rfl (res_tmp rfl) fun w hw => ⟨rfl, hw.clear⟩

theorem AluOthers_13r (l : List Int) (X Y N NN Ad Ln lv : Int) (a b c d e f : Bool) (res flg : Int) (W : World) (hl : l.length = 16) (hX : 0 ≤ X ∧ X ≤ 15) (hR : rightM X Y NN = true) (hf : flg = 0) (hdo : ∀ w, Calls Try.prog 10 #[.agg (fl l), .agg (ins 13 X Y N NN Ad Ln), .agg (pro lv a b c true d e f)] w fun e w' => e = .returned (.tuple #[.agg (fl (doL l X res flg)), .bool true]) ∧ Sat w [] [] w') :
    Calls Try.prog 5 #[.agg (fl l), .agg (ins 13 X Y N NN Ad Ln), .agg (pro lv a b c true d e f)] W fun e w' => e = .returned (.bool true) ∧ Sat W [] [] w' := by
  refine enter Try.func5 rfl rfl rfl ?_
  refine r_seq ?_
  refine r_region ?_
  refine r_boxV rfl rfl fun b3 => ?_
  refine r_boxV rfl rfl fun b4 => ?_
  refine r_boxV rfl rfl fun b5 => ?_
  refine r_assign rfl rfl ?_
  refine r_nil ?_
  refine r_tn ?_
  refine r_seq ?_
  refine r_seq ?_
  refine r_region ?_
  refine r_call rfl rfl rfl (by kernel_rfl) rfl (fun w hw => by exact awake18 w) ?_
  refine r_not rfl rfl rfl ?_
  refine r_move rfl rfl ?_
  refine r_go rfl rfl ?_
  refine r_loadV rfl rfl rfl rfl rfl ?_
  refine r_go rfl rfl ?_
  refine r_call (v := .bool true) rfl rfl rfl (by kernel_rfl) rfl (fun w hw => by have h := right18 13 X Y N NN Ad Ln w; rw [hR] at h; exact h) ?_
  refine r_go rfl rfl ?_
  refine r_not rfl rfl rfl ?_
  refine r_pick_f rfl rfl rfl ?_
  refine r_nil ?_
  refine r_tn ?_
  refine r_cond_f rfl ?_
  refine r_skip ?_
  refine r_tn ?_
  refine r_seq ?_
  refine r_region ?_
  refine r_loadV rfl rfl rfl rfl (fl_size hl) ?_
  refine r_loadV rfl rfl rfl rfl rfl ?_
  refine r_loadV rfl rfl rfl rfl rfl ?_
  refine r_call rfl rfl rfl (by kernel_rfl) rfl (fun w hw => by exact hdo w) ?_
  refine r_move rfl rfl ?_
  refine r_extract rfl rfl rfl ?_
  refine r_extract rfl rfl rfl ?_
  refine r_allocV (cs := fl (List.replicate 16 0)) rfl rfl fun b7 => ?_
  refine r_storeV rfl rfl rfl (fl_size (doL_len hl X res flg)) rfl (fl_one _) ?_
  refine r_assign rfl rfl ?_
  refine r_nil ?_
  refine r_tn ?_
  refine r_seq ?_
  refine r_seq ?_
  refine r_region ?_
  refine r_move rfl rfl ?_
  refine r_not rfl rfl rfl ?_
  refine r_nil ?_
  refine r_tn ?_
  refine r_cond_f rfl ?_
  refine r_skip ?_
  refine r_tn ?_
  refine r_seq ?_
  refine r_region ?_
  refine r_fieldAddr (off := 0) (o' := 0) rfl rfl rfl rfl ?_
  refine r_load1 rfl rfl rfl (by rfl) ?_
  refine r_eql rfl rfl rfl (decide_eq_false (by decide)) ?_
  refine r_move rfl rfl ?_
  refine r_go rfl rfl ?_
  refine r_fieldAddr (off := 0) (o' := 0) rfl rfl rfl rfl ?_
  refine r_go rfl rfl ?_
  refine r_load1 rfl rfl rfl (by rfl) ?_
  refine r_go rfl rfl ?_
  refine r_eql rfl rfl rfl (decide_eq_false (by decide)) ?_
  refine r_pick_f rfl rfl rfl ?_
  refine r_move rfl rfl ?_
  refine r_go rfl rfl ?_
  refine r_fieldAddr (off := 0) (o' := 0) rfl rfl rfl rfl ?_
  refine r_go rfl rfl ?_
  refine r_load1 rfl rfl rfl (by rfl) ?_
  refine r_go rfl rfl ?_
  refine r_eql rfl rfl rfl (decide_eq_true (by decide)) ?_
  refine r_pick_f rfl rfl rfl ?_
  refine r_assign rfl rfl ?_
  refine r_nil ?_
  refine r_tn ?_
  refine r_seq ?_
  refine r_region ?_
  refine r_fieldAddr (off := 0) (o' := 0) rfl rfl rfl rfl ?_
  refine r_load1 rfl rfl rfl (by rfl) ?_
  refine r_geq rfl rfl rfl (decide_eq_false (by decide)) ?_
  refine r_move rfl rfl ?_
  refine r_pass rfl rfl rfl rfl ?_
  refine r_pass rfl rfl rfl rfl ?_
  refine r_pass rfl rfl rfl rfl ?_
  refine r_pick_f rfl rfl rfl ?_
  refine r_move rfl rfl ?_
  refine r_go rfl rfl ?_
  refine r_move rfl rfl ?_
  refine r_go rfl rfl ?_
  refine r_move rfl rfl ?_
  refine r_go rfl rfl ?_
  refine r_fieldAddr (off := 4) (o' := 4) rfl rfl rfl rfl ?_
  refine r_go rfl rfl ?_
  refine r_load1 rfl rfl rfl (by rfl) ?_
  refine r_go rfl rfl ?_
  refine r_pick_t rfl rfl rfl ?_
  refine r_pick_f rfl rfl rfl ?_
  refine r_assign rfl rfl ?_
  refine r_nil ?_
  refine r_tn ?_
  refine r_seq ?_
  refine r_seq ?_
  refine r_region ?_
  refine r_assign rfl rfl ?_
  refine r_nil ?_
  refine r_tn ?_
  refine r_block ?_
  refine r_loopN (fun i => [(3, .pointer (some ⟨b3, 0, none⟩)), (4, .pointer (some ⟨b4, 0, none⟩)), (7, .pointer (some ⟨b7, 0, none⟩)), (9, .bool true), (10, .bool true), (11, .int .i64 (i : Int))]) (fun i => [.blk b3 (.cells (fl l) 22 (0, 0)), .blk b4 (.cells (ins 13 X Y N NN Ad Ln) 24 (0, 0)), .blk b7 (.cells (fl (doL l X res flg)) 22 (0, 0))]) (fun i => i ≤ 16) 16 0 (by omega) ⟨rfl, rfl, rfl, rfl, rfl, rfl, trivial⟩ (fun w hw => hw.sub) fun i hi => ?_
  refine r_seq ?_
  refine r_seq ?_
  refine r_region ?_
  refine r_move rfl rfl ?_
  refine r_lss rfl rfl rfl rfl ?_
  refine r_nil ?_
  refine r_tn ?_
  refine r_cond rfl (fun hc => ?_) (fun hc => ?_)
  · refine r_skip ?_
    refine r_tn ?_
    refine r_seq ?_
    refine r_block ?_
    refine r_seq ?_
    refine r_mixed (by kernel_rfl) (by kernel_rfl) ?_
    have hi16 : i < 16 := by have h := of_decide_eq_true hc; omega
    refine r_move rfl rfl ?_
    refine r_fieldAddr (off := 1) rfl rfl rfl rfl ?_
    refine r_load1 rfl rfl rfl (by rfl) ?_
    refine r_neq rfl rfl rfl rfl ?_
    refine r_move rfl rfl ?_
    refine r_split 68 rfl (fun hb68 => ?_) (fun hb68 => ?_)
    · refine r_go rfl rfl ?_
      refine r_move rfl rfl ?_
      refine r_go rfl rfl ?_
      refine r_neq rfl rfl rfl rfl ?_
      refine r_go rfl rfl ?_
      refine r_move rfl rfl ?_
      refine r_split 71 rfl (fun hb71 => ?_) (fun hb71 => ?_)
      · refine r_pass rfl rfl rfl rfl ?_
        refine r_pass rfl rfl rfl rfl ?_
        refine r_go rfl rfl ?_
        refine r_pick_t rfl rfl rfl ?_
        refine r_pick_t rfl rfl rfl ?_
        refine r_move rfl rfl ?_
        refine r_go rfl rfl ?_
        refine r_move rfl rfl ?_
        refine r_go rfl rfl ?_
        refine r_indexArr (sz := 1) rfl rfl rfl rfl rfl (by omega) (by omega) (show _ = i by simp) ?_
        refine r_go rfl rfl ?_
        refine r_load1 rfl rfl rfl (fl_at (k := i) (by rw [(doL_len hl X res flg)]; exact hi16)) ?_
        refine r_go rfl rfl ?_
        refine r_move rfl rfl ?_
        refine r_go rfl rfl ?_
        refine r_indexArr (sz := 1) rfl rfl rfl rfl rfl (by omega) (by omega) (show _ = i by simp) ?_
        refine r_go rfl rfl ?_
        refine r_load1 rfl rfl rfl (fl_at (k := i) (by omega)) ?_
        refine r_go rfl rfl ?_
        refine r_neq rfl rfl rfl (decide_eq_false (fun hn => hn (doL_other hl hX.1 (of_decide_eq_true hb68) (.inl (by have h := of_decide_eq_true hb71; omega))))) ?_
        refine r_pick_t rfl rfl rfl ?_
        refine r_nil ?_
        refine r_tn ?_
        refine r_cond_f rfl ?_
        refine r_skip ?_
        refine r_bn ?_
        refine r_tn ?_
        refine r_region ?_
        refine r_move rfl rfl ?_
        refine r_add rfl rfl rfl (w64 (by omega)) ?_
        refine r_assign rfl rfl ?_
        refine r_nil ?_
        refine r_tn ?_
        exact r_againN (i + 1) (by omega) (by omega) ⟨rfl, rfl, rfl, rfl, rfl, rfl, trivial⟩ (fun w hw => hw.sub)
      · refine r_go rfl rfl ?_
        refine r_move rfl rfl ?_
        refine r_go rfl rfl ?_
        refine r_not rfl rfl rfl ?_
        refine r_go rfl rfl ?_
        refine r_pick_f rfl rfl rfl ?_
        refine r_pick_t rfl rfl rfl ?_
        refine r_move rfl rfl ?_
        refine r_pass rfl rfl rfl rfl ?_
        refine r_pass rfl rfl rfl rfl ?_
        refine r_pass rfl rfl rfl rfl ?_
        refine r_pass rfl rfl rfl rfl ?_
        refine r_pass rfl rfl rfl rfl ?_
        refine r_pass rfl rfl rfl rfl ?_
        refine r_pass rfl rfl rfl rfl ?_
        refine r_pick_f rfl rfl rfl ?_
        refine r_nil ?_
        refine r_tn ?_
        refine r_cond_f rfl ?_
        refine r_skip ?_
        refine r_bn ?_
        refine r_tn ?_
        refine r_region ?_
        refine r_move rfl rfl ?_
        refine r_add rfl rfl rfl (w64 (by omega)) ?_
        refine r_assign rfl rfl ?_
        refine r_nil ?_
        refine r_tn ?_
        exact r_againN (i + 1) (by omega) (by omega) ⟨rfl, rfl, rfl, rfl, rfl, rfl, trivial⟩ (fun w hw => hw.sub)
    · refine r_pass rfl rfl rfl rfl ?_
      refine r_pass rfl rfl rfl rfl ?_
      refine r_pass rfl rfl rfl rfl ?_
      refine r_passU rfl rfl rfl ?_
      refine r_passU rfl rfl rfl ?_
      refine r_pass rfl rfl rfl rfl ?_
      refine r_pick_f rfl rfl rfl ?_
      refine r_move rfl rfl ?_
      refine r_pass rfl rfl rfl rfl ?_
      refine r_pass rfl rfl rfl rfl ?_
      refine r_pass rfl rfl rfl rfl ?_
      refine r_pass rfl rfl rfl rfl ?_
      refine r_pass rfl rfl rfl rfl ?_
      refine r_pass rfl rfl rfl rfl ?_
      refine r_pass rfl rfl rfl rfl ?_
      refine r_pick_f rfl rfl rfl ?_
      refine r_nil ?_
      refine r_tn ?_
      refine r_cond_f rfl ?_
      refine r_skip ?_
      refine r_bn ?_
      refine r_tn ?_
      refine r_region ?_
      refine r_move rfl rfl ?_
      refine r_add rfl rfl rfl (w64 (by omega)) ?_
      refine r_assign rfl rfl ?_
      refine r_nil ?_
      refine r_tn ?_
      exact r_againN (i + 1) (by omega) (by omega) ⟨rfl, rfl, rfl, rfl, rfl, rfl, trivial⟩ (fun w hw => hw.sub)
  · refine r_exit ?_
    refine r_te ?_
    refine r_te ?_
    refine r_be ?_
    refine r_tn ?_
    refine r_seq ?_
    refine r_region ?_
    refine r_move rfl rfl ?_
    refine r_not rfl rfl rfl ?_
    refine r_move rfl rfl ?_
    refine r_go rfl rfl ?_
    refine r_indexArr (sz := 1) rfl rfl rfl rfl rfl (by omega) (by omega) (show _ = 15 by simp) ?_
    refine r_go rfl rfl ?_
    refine r_load1 rfl rfl rfl (fl_at (k := 15) (by rw [(doL_len hl X res flg)]; decide)) ?_
    refine r_go rfl rfl ?_
    refine r_leq rfl rfl rfl (decide_eq_true (by rw [doL_flag hl (by omega)]; omega)) ?_
    refine r_go rfl rfl ?_
    refine r_move rfl rfl ?_
    refine r_go rfl rfl ?_
    refine r_move rfl rfl ?_
    refine r_go rfl rfl ?_
    refine r_not rfl rfl rfl ?_
    refine r_go rfl rfl ?_
    refine r_move rfl rfl ?_
    refine r_go rfl rfl ?_
    refine r_indexArr (sz := 1) rfl rfl rfl rfl rfl (by omega) (by omega) (show _ = 15 by simp) ?_
    refine r_go rfl rfl ?_
    refine r_load1 rfl rfl rfl (fl_at (k := 15) (by rw [(doL_len hl X res flg)]; decide)) ?_
    refine r_go rfl rfl ?_
    refine r_eql rfl rfl rfl (decide_eq_true (by rw [doL_flag hl (by omega)]; omega)) ?_
    refine r_go rfl rfl ?_
    refine r_pick_f rfl rfl rfl ?_
    refine r_go rfl rfl ?_
    refine r_pick_t rfl rfl rfl ?_
    refine r_pick_f rfl rfl rfl ?_
    refine r_assign rfl rfl ?_
    refine r_nil ?_
    refine r_tn ?_
    refine r_ret ?_
    exact r_done1 (.inl rfl) rfl (res_tmp rfl) fun w hw => ⟨rfl, hw.clear⟩

theorem AluOthers_13k (l : List Int) (X Y N NN Ad Ln lv : Int) (a b c d e f : Bool) (res flg : Int) (W : World) (hl : l.length = 16) (hX : 0 ≤ X ∧ X ≤ 15) (hR : rightM X Y NN = true) (hf : flg = -1) (hdo : ∀ w, Calls Try.prog 10 #[.agg (fl l), .agg (ins 13 X Y N NN Ad Ln), .agg (pro lv a b c false d e f)] w fun e w' => e = .returned (.tuple #[.agg (fl (doL l X res flg)), .bool true]) ∧ Sat w [] [] w') :
    Calls Try.prog 5 #[.agg (fl l), .agg (ins 13 X Y N NN Ad Ln), .agg (pro lv a b c false d e f)] W fun e w' => e = .returned (.bool true) ∧ Sat W [] [] w' := by
  refine enter Try.func5 rfl rfl rfl ?_
  refine r_seq ?_
  refine r_region ?_
  refine r_boxV rfl rfl fun b3 => ?_
  refine r_boxV rfl rfl fun b4 => ?_
  refine r_boxV rfl rfl fun b5 => ?_
  refine r_assign rfl rfl ?_
  refine r_nil ?_
  refine r_tn ?_
  refine r_seq ?_
  refine r_seq ?_
  refine r_region ?_
  refine r_call rfl rfl rfl (by kernel_rfl) rfl (fun w hw => by exact awake18 w) ?_
  refine r_not rfl rfl rfl ?_
  refine r_move rfl rfl ?_
  refine r_go rfl rfl ?_
  refine r_loadV rfl rfl rfl rfl rfl ?_
  refine r_go rfl rfl ?_
  refine r_call (v := .bool true) rfl rfl rfl (by kernel_rfl) rfl (fun w hw => by have h := right18 13 X Y N NN Ad Ln w; rw [hR] at h; exact h) ?_
  refine r_go rfl rfl ?_
  refine r_not rfl rfl rfl ?_
  refine r_pick_f rfl rfl rfl ?_
  refine r_nil ?_
  refine r_tn ?_
  refine r_cond_f rfl ?_
  refine r_skip ?_
  refine r_tn ?_
  refine r_seq ?_
  refine r_region ?_
  refine r_loadV rfl rfl rfl rfl (fl_size hl) ?_
  refine r_loadV rfl rfl rfl rfl rfl ?_
  refine r_loadV rfl rfl rfl rfl rfl ?_
  refine r_call rfl rfl rfl (by kernel_rfl) rfl (fun w hw => by exact hdo w) ?_
  refine r_move rfl rfl ?_
  refine r_extract rfl rfl rfl ?_
  refine r_extract rfl rfl rfl ?_
  refine r_allocV (cs := fl (List.replicate 16 0)) rfl rfl fun b7 => ?_
  refine r_storeV rfl rfl rfl (fl_size (doL_len hl X res flg)) rfl (fl_one _) ?_
  refine r_assign rfl rfl ?_
  refine r_nil ?_
  refine r_tn ?_
  refine r_seq ?_
  refine r_seq ?_
  refine r_region ?_
  refine r_move rfl rfl ?_
  refine r_not rfl rfl rfl ?_
  refine r_nil ?_
  refine r_tn ?_
  refine r_cond_f rfl ?_
  refine r_skip ?_
  refine r_tn ?_
  refine r_seq ?_
  refine r_region ?_
  refine r_fieldAddr (off := 0) (o' := 0) rfl rfl rfl rfl ?_
  refine r_load1 rfl rfl rfl (by rfl) ?_
  refine r_eql rfl rfl rfl (decide_eq_false (by decide)) ?_
  refine r_move rfl rfl ?_
  refine r_go rfl rfl ?_
  refine r_fieldAddr (off := 0) (o' := 0) rfl rfl rfl rfl ?_
  refine r_go rfl rfl ?_
  refine r_load1 rfl rfl rfl (by rfl) ?_
  refine r_go rfl rfl ?_
  refine r_eql rfl rfl rfl (decide_eq_false (by decide)) ?_
  refine r_pick_f rfl rfl rfl ?_
  refine r_move rfl rfl ?_
  refine r_go rfl rfl ?_
  refine r_fieldAddr (off := 0) (o' := 0) rfl rfl rfl rfl ?_
  refine r_go rfl rfl ?_
  refine r_load1 rfl rfl rfl (by rfl) ?_
  refine r_go rfl rfl ?_
  refine r_eql rfl rfl rfl (decide_eq_true (by decide)) ?_
  refine r_pick_f rfl rfl rfl ?_
  refine r_assign rfl rfl ?_
  refine r_nil ?_
  refine r_tn ?_
  refine r_seq ?_
  refine r_region ?_
  refine r_fieldAddr (off := 0) (o' := 0) rfl rfl rfl rfl ?_
  refine r_load1 rfl rfl rfl (by rfl) ?_
  refine r_geq rfl rfl rfl (decide_eq_false (by decide)) ?_
  refine r_move rfl rfl ?_
  refine r_pass rfl rfl rfl rfl ?_
  refine r_pass rfl rfl rfl rfl ?_
  refine r_pass rfl rfl rfl rfl ?_
  refine r_pick_f rfl rfl rfl ?_
  refine r_move rfl rfl ?_
  refine r_go rfl rfl ?_
  refine r_move rfl rfl ?_
  refine r_go rfl rfl ?_
  refine r_move rfl rfl ?_
  refine r_go rfl rfl ?_
  refine r_fieldAddr (off := 4) (o' := 4) rfl rfl rfl rfl ?_
  refine r_go rfl rfl ?_
  refine r_load1 rfl rfl rfl (by rfl) ?_
  refine r_go rfl rfl ?_
  refine r_pick_t rfl rfl rfl ?_
  refine r_pick_f rfl rfl rfl ?_
  refine r_assign rfl rfl ?_
  refine r_nil ?_
  refine r_tn ?_
  refine r_seq ?_
  refine r_seq ?_
  refine r_region ?_
  refine r_assign rfl rfl ?_
  refine r_nil ?_
  refine r_tn ?_
  refine r_block ?_
  refine r_loopN (fun i => [(3, .pointer (some ⟨b3, 0, none⟩)), (4, .pointer (some ⟨b4, 0, none⟩)), (7, .pointer (some ⟨b7, 0, none⟩)), (9, .bool true), (10, .bool false), (11, .int .i64 (i : Int))]) (fun i => [.blk b3 (.cells (fl l) 22 (0, 0)), .blk b4 (.cells (ins 13 X Y N NN Ad Ln) 24 (0, 0)), .blk b7 (.cells (fl (doL l X res flg)) 22 (0, 0))]) (fun i => i ≤ 16) 16 0 (by omega) ⟨rfl, rfl, rfl, rfl, rfl, rfl, trivial⟩ (fun w hw => hw.sub) fun i hi => ?_
  refine r_seq ?_
  refine r_seq ?_
  refine r_region ?_
  refine r_move rfl rfl ?_
  refine r_lss rfl rfl rfl rfl ?_
  refine r_nil ?_
  refine r_tn ?_
  refine r_cond rfl (fun hc => ?_) (fun hc => ?_)
  · refine r_skip ?_
    refine r_tn ?_
    refine r_seq ?_
    refine r_block ?_
    refine r_seq ?_
    refine r_mixed (by kernel_rfl) (by kernel_rfl) ?_
    have hi16 : i < 16 := by have h := of_decide_eq_true hc; omega
    refine r_move rfl rfl ?_
    refine r_fieldAddr (off := 1) rfl rfl rfl rfl ?_
    refine r_load1 rfl rfl rfl (by rfl) ?_
    refine r_neq rfl rfl rfl rfl ?_
    refine r_move rfl rfl ?_
    refine r_split 68 rfl (fun hb68 => ?_) (fun hb68 => ?_)
    · refine r_go rfl rfl ?_
      refine r_move rfl rfl ?_
      refine r_go rfl rfl ?_
      refine r_neq rfl rfl rfl rfl ?_
      refine r_go rfl rfl ?_
      refine r_move rfl rfl ?_
      refine r_split 71 rfl (fun hb71 => ?_) (fun hb71 => ?_)
      · refine r_pass rfl rfl rfl rfl ?_
        refine r_pass rfl rfl rfl rfl ?_
        refine r_go rfl rfl ?_
        refine r_pick_t rfl rfl rfl ?_
        refine r_pick_t rfl rfl rfl ?_
        refine r_move rfl rfl ?_
        refine r_go rfl rfl ?_
        refine r_move rfl rfl ?_
        refine r_go rfl rfl ?_
        refine r_indexArr (sz := 1) rfl rfl rfl rfl rfl (by omega) (by omega) (show _ = i by simp) ?_
        refine r_go rfl rfl ?_
        refine r_load1 rfl rfl rfl (fl_at (k := i) (by rw [(doL_len hl X res flg)]; exact hi16)) ?_
        refine r_go rfl rfl ?_
        refine r_move rfl rfl ?_
        refine r_go rfl rfl ?_
        refine r_indexArr (sz := 1) rfl rfl rfl rfl rfl (by omega) (by omega) (show _ = i by simp) ?_
        refine r_go rfl rfl ?_
        refine r_load1 rfl rfl rfl (fl_at (k := i) (by omega)) ?_
        refine r_go rfl rfl ?_
        refine r_neq rfl rfl rfl (decide_eq_false (fun hn => hn (doL_other hl hX.1 (of_decide_eq_true hb68) (.inr (by omega))))) ?_
        refine r_pick_t rfl rfl rfl ?_
        refine r_nil ?_
        refine r_tn ?_
        refine r_cond_f rfl ?_
        refine r_skip ?_
        refine r_bn ?_
        refine r_tn ?_
        refine r_region ?_
        refine r_move rfl rfl ?_
        refine r_add rfl rfl rfl (w64 (by omega)) ?_
        refine r_assign rfl rfl ?_
        refine r_nil ?_
        refine r_tn ?_
        exact r_againN (i + 1) (by omega) (by omega) ⟨rfl, rfl, rfl, rfl, rfl, rfl, trivial⟩ (fun w hw => hw.sub)
      · refine r_go rfl rfl ?_
        refine r_move rfl rfl ?_
        refine r_go rfl rfl ?_
        refine r_not rfl rfl rfl ?_
        refine r_go rfl rfl ?_
        refine r_pick_f rfl rfl rfl ?_
        refine r_pick_t rfl rfl rfl ?_
        refine r_move rfl rfl ?_
        refine r_go rfl rfl ?_
        refine r_move rfl rfl ?_
        refine r_go rfl rfl ?_
        refine r_indexArr (sz := 1) rfl rfl rfl rfl rfl (by omega) (by omega) (show _ = i by simp) ?_
        refine r_go rfl rfl ?_
        refine r_load1 rfl rfl rfl (fl_at (k := i) (by rw [(doL_len hl X res flg)]; exact hi16)) ?_
        refine r_go rfl rfl ?_
        refine r_move rfl rfl ?_
        refine r_go rfl rfl ?_
        refine r_indexArr (sz := 1) rfl rfl rfl rfl rfl (by omega) (by omega) (show _ = i by simp) ?_
        refine r_go rfl rfl ?_
        refine r_load1 rfl rfl rfl (fl_at (k := i) (by omega)) ?_
        refine r_go rfl rfl ?_
        refine r_neq rfl rfl rfl (decide_eq_false (fun hn => hn (doL_other hl hX.1 (of_decide_eq_true hb68) (.inr (by omega))))) ?_
        refine r_pick_t rfl rfl rfl ?_
        refine r_nil ?_
        refine r_tn ?_
        refine r_cond_f rfl ?_
        refine r_skip ?_
        refine r_bn ?_
        refine r_tn ?_
        refine r_region ?_
        refine r_move rfl rfl ?_
        refine r_add rfl rfl rfl (w64 (by omega)) ?_
        refine r_assign rfl rfl ?_
        refine r_nil ?_
        refine r_tn ?_
        exact r_againN (i + 1) (by omega) (by omega) ⟨rfl, rfl, rfl, rfl, rfl, rfl, trivial⟩ (fun w hw => hw.sub)
    · refine r_pass rfl rfl rfl rfl ?_
      refine r_pass rfl rfl rfl rfl ?_
      refine r_pass rfl rfl rfl rfl ?_
      refine r_passU rfl rfl rfl ?_
      refine r_passU rfl rfl rfl ?_
      refine r_pass rfl rfl rfl rfl ?_
      refine r_pick_f rfl rfl rfl ?_
      refine r_move rfl rfl ?_
      refine r_pass rfl rfl rfl rfl ?_
      refine r_pass rfl rfl rfl rfl ?_
      refine r_pass rfl rfl rfl rfl ?_
      refine r_pass rfl rfl rfl rfl ?_
      refine r_pass rfl rfl rfl rfl ?_
      refine r_pass rfl rfl rfl rfl ?_
      refine r_pass rfl rfl rfl rfl ?_
      refine r_pick_f rfl rfl rfl ?_
      refine r_nil ?_
      refine r_tn ?_
      refine r_cond_f rfl ?_
      refine r_skip ?_
      refine r_bn ?_
      refine r_tn ?_
      refine r_region ?_
      refine r_move rfl rfl ?_
      refine r_add rfl rfl rfl (w64 (by omega)) ?_
      refine r_assign rfl rfl ?_
      refine r_nil ?_
      refine r_tn ?_
      exact r_againN (i + 1) (by omega) (by omega) ⟨rfl, rfl, rfl, rfl, rfl, rfl, trivial⟩ (fun w hw => hw.sub)
  · refine r_exit ?_
    refine r_te ?_
    refine r_te ?_
    refine r_be ?_
    refine r_tn ?_
    refine r_seq ?_
    refine r_region ?_
    refine r_move rfl rfl ?_
    refine r_not rfl rfl rfl ?_
    refine r_move rfl rfl ?_
    refine r_pass rfl rfl rfl rfl ?_
    refine r_pass rfl rfl rfl rfl ?_
    refine r_pass rfl rfl rfl rfl ?_
    refine r_pass rfl rfl rfl rfl ?_
    refine r_passU rfl rfl rfl ?_
    refine r_passU rfl rfl rfl ?_
    refine r_passU rfl rfl rfl ?_
    refine r_passU rfl rfl rfl ?_
    refine r_passU rfl rfl rfl ?_
    refine r_passU rfl rfl rfl ?_
    refine r_passU rfl rfl rfl ?_
    refine r_pass rfl rfl rfl rfl ?_
    refine r_pick_t rfl rfl rfl ?_
    refine r_assign rfl rfl ?_
    refine r_nil ?_
    refine r_tn ?_
    refine r_ret ?_
    exact r_done1 (.inl rfl) rfl (res_tmp rfl) fun w hw => ⟨rfl, hw.clear⟩

theorem AluOthers_14 (l : List Int) (X Y N NN Ad Ln lv : Int) (a b c r d e f : Bool) (res flg : Int) (W : World) (hl : l.length = 16) (hX : 0 ≤ X ∧ X ≤ 15) (hR : rightM X Y NN = true) (hf : 0 ≤ flg ∧ flg ≤ 1) (hdo : ∀ w, Calls Try.prog 10 #[.agg (fl l), .agg (ins 14 X Y N NN Ad Ln), .agg (pro lv a b c r d e f)] w fun e w' => e = .returned (.tuple #[.agg (fl (doL l X res flg)), .bool true]) ∧ Sat w [] [] w') :
    Calls Try.prog 5 #[.agg (fl l), .agg (ins 14 X Y N NN Ad Ln), .agg (pro lv a b c r d e f)] W fun e w' => e = .returned (.bool true) ∧ Sat W [] [] w' := by
  refine enter Try.func5 rfl rfl rfl ?_
  refine r_seq ?_
  refine r_region ?_
  refine r_boxV rfl rfl fun b3 => ?_
  refine r_boxV rfl rfl fun b4 => ?_
  refine r_boxV rfl rfl fun b5 => ?_
  refine r_assign rfl rfl ?_
  refine r_nil ?_
  refine r_tn ?_
  refine r_seq ?_
  refine r_seq ?_
  refine r_region ?_
  refine r_call rfl rfl rfl (by kernel_rfl) rfl (fun w hw => by exact awake18 w) ?_
  refine r_not rfl rfl rfl ?_
  refine r_move rfl rfl ?_
  refine r_go rfl rfl ?_
  refine r_loadV rfl rfl rfl rfl rfl ?_
  refine r_go rfl rfl ?_
  refine r_call (v := .bool true) rfl rfl rfl (by kernel_rfl) rfl (fun w hw => by have h := right18 14 X Y N NN Ad Ln w; rw [hR] at h; exact h) ?_
  refine r_go rfl rfl ?_
  refine r_not rfl rfl rfl ?_
  refine r_pick_f rfl rfl rfl ?_
  refine r_nil ?_
  refine r_tn ?_
  refine r_cond_f rfl ?_
  refine r_skip ?_
  refine r_tn ?_
  refine r_seq ?_
  refine r_region ?_
  refine r_loadV rfl rfl rfl rfl (fl_size hl) ?_
  refine r_loadV rfl rfl rfl rfl rfl ?_
  refine r_loadV rfl rfl rfl rfl rfl ?_
  refine r_call rfl rfl rfl (by kernel_rfl) rfl (fun w hw => by exact hdo w) ?_
  refine r_move rfl rfl ?_
  refine r_extract rfl rfl rfl ?_
  refine r_extract rfl rfl rfl ?_
  refine r_allocV (cs := fl (List.replicate 16 0)) rfl rfl fun b7 => ?_
  refine r_storeV rfl rfl rfl (fl_size (doL_len hl X res flg)) rfl (fl_one _) ?_
  refine r_assign rfl rfl ?_
  refine r_nil ?_
  refine r_tn ?_
  refine r_seq ?_
  refine r_seq ?_
  refine r_region ?_
  refine r_move rfl rfl ?_
  refine r_not rfl rfl rfl ?_
  refine r_nil ?_
  refine r_tn ?_
  refine r_cond_f rfl ?_
  refine r_skip ?_
  refine r_tn ?_
  refine r_seq ?_
  refine r_region ?_
  refine r_fieldAddr (off := 0) (o' := 0) rfl rfl rfl rfl ?_
  refine r_load1 rfl rfl rfl (by rfl) ?_
  refine r_eql rfl rfl rfl (decide_eq_false (by decide)) ?_
  refine r_move rfl rfl ?_
  refine r_go rfl rfl ?_
  refine r_fieldAddr (off := 0) (o' := 0) rfl rfl rfl rfl ?_
  refine r_go rfl rfl ?_
  refine r_load1 rfl rfl rfl (by rfl) ?_
  refine r_go rfl rfl ?_
  refine r_eql rfl rfl rfl (decide_eq_false (by decide)) ?_
  refine r_pick_f rfl rfl rfl ?_
  refine r_move rfl rfl ?_
  refine r_go rfl rfl ?_
  refine r_fieldAddr (off := 0) (o' := 0) rfl rfl rfl rfl ?_
  refine r_go rfl rfl ?_
  refine r_load1 rfl rfl rfl (by rfl) ?_
  refine r_go rfl rfl ?_
  refine r_eql rfl rfl rfl (decide_eq_false (by decide)) ?_
  refine r_pick_f rfl rfl rfl ?_
  refine r_assign rfl rfl ?_
  refine r_nil ?_
  refine r_tn ?_
  refine r_seq ?_
  refine r_region ?_
  refine r_fieldAddr (off := 0) (o' := 0) rfl rfl rfl rfl ?_
  refine r_load1 rfl rfl rfl (by rfl) ?_
  refine r_geq rfl rfl rfl (decide_eq_true (by decide)) ?_
  refine r_move rfl rfl ?_
  refine r_go rfl rfl ?_
  refine r_fieldAddr (off := 0) (o' := 0) rfl rfl rfl rfl ?_
  refine r_go rfl rfl ?_
  refine r_load1 rfl rfl rfl (by rfl) ?_
  refine r_go rfl rfl ?_
  refine r_leq rfl rfl rfl (decide_eq_true (by decide)) ?_
  refine r_pick_t rfl rfl rfl ?_
  refine r_move rfl rfl ?_
  refine r_pass rfl rfl rfl rfl ?_
  refine r_pass rfl rfl rfl rfl ?_
  refine r_passU rfl rfl rfl ?_
  refine r_passU rfl rfl rfl ?_
  refine r_pass rfl rfl rfl rfl ?_
  refine r_pick_t rfl rfl rfl ?_
  refine r_assign rfl rfl ?_
  refine r_nil ?_
  refine r_tn ?_
  refine r_seq ?_
  refine r_seq ?_
  refine r_region ?_
  refine r_assign rfl rfl ?_
  refine r_nil ?_
  refine r_tn ?_
  refine r_block ?_
  refine r_loopN (fun i => [(3, .pointer (some ⟨b3, 0, none⟩)), (4, .pointer (some ⟨b4, 0, none⟩)), (7, .pointer (some ⟨b7, 0, none⟩)), (9, .bool false), (10, .bool true), (11, .int .i64 (i : Int))]) (fun i => [.blk b3 (.cells (fl l) 22 (0, 0)), .blk b4 (.cells (ins 14 X Y N NN Ad Ln) 24 (0, 0)), .blk b7 (.cells (fl (doL l X res flg)) 22 (0, 0))]) (fun i => i ≤ 16) 16 0 (by omega) ⟨rfl, rfl, rfl, rfl, rfl, rfl, trivial⟩ (fun w hw => hw.sub) fun i hi => ?_
  refine r_seq ?_
  refine r_seq ?_
  refine r_region ?_
  refine r_move rfl rfl ?_
  refine r_lss rfl rfl rfl rfl ?_
  refine r_nil ?_
  refine r_tn ?_
  refine r_cond rfl (fun hc => ?_) (fun hc => ?_)
  · refine r_skip ?_
    refine r_tn ?_
    refine r_seq ?_
    refine r_block ?_
    refine r_seq ?_
    refine r_mixed (by kernel_rfl) (by kernel_rfl) ?_
    have hi16 : i < 16 := by have h := of_decide_eq_true hc; omega
    refine r_move rfl rfl ?_
    refine r_fieldAddr (off := 1) rfl rfl rfl rfl ?_
    refine r_load1 rfl rfl rfl (by rfl) ?_
    refine r_neq rfl rfl rfl rfl ?_
    refine r_move rfl rfl ?_
    refine r_split 68 rfl (fun hb68 => ?_) (fun hb68 => ?_)
    · refine r_go rfl rfl ?_
      refine r_move rfl rfl ?_
      refine r_go rfl rfl ?_
      refine r_neq rfl rfl rfl rfl ?_
      refine r_go rfl rfl ?_
      refine r_move rfl rfl ?_
      refine r_split 71 rfl (fun hb71 => ?_) (fun hb71 => ?_)
      · refine r_pass rfl rfl rfl rfl ?_
        refine r_pass rfl rfl rfl rfl ?_
        refine r_go rfl rfl ?_
        refine r_pick_t rfl rfl rfl ?_
        refine r_pick_t rfl rfl rfl ?_
        refine r_move rfl rfl ?_
        refine r_go rfl rfl ?_
        refine r_move rfl rfl ?_
        refine r_go rfl rfl ?_
        refine r_indexArr (sz := 1) rfl rfl rfl rfl rfl (by omega) (by omega) (show _ = i by simp) ?_
        refine r_go rfl rfl ?_
        refine r_load1 rfl rfl rfl (fl_at (k := i) (by rw [(doL_len hl X res flg)]; exact hi16)) ?_
        refine r_go rfl rfl ?_
        refine r_move rfl rfl ?_
        refine r_go rfl rfl ?_
        refine r_indexArr (sz := 1) rfl rfl rfl rfl rfl (by omega) (by omega) (show _ = i by simp) ?_
        refine r_go rfl rfl ?_
        refine r_load1 rfl rfl rfl (fl_at (k := i) (by omega)) ?_
        refine r_go rfl rfl ?_
        refine r_neq rfl rfl rfl (decide_eq_false (fun hn => hn (doL_other hl hX.1 (of_decide_eq_true hb68) (.inl (by have h := of_decide_eq_true hb71; omega))))) ?_
        refine r_pick_t rfl rfl rfl ?_
        refine r_nil ?_
        refine r_tn ?_
        refine r_cond_f rfl ?_
        refine r_skip ?_
        refine r_bn ?_
        refine r_tn ?_
        refine r_region ?_
        refine r_move rfl rfl ?_
        refine r_add rfl rfl rfl (w64 (by omega)) ?_
        refine r_assign rfl rfl ?_
        refine r_nil ?_
        refine r_tn ?_
        exact r_againN (i + 1) (by omega) (by omega) ⟨rfl, rfl, rfl, rfl, rfl, rfl, trivial⟩ (fun w hw => hw.sub)
      · refine r_go rfl rfl ?_
        refine r_move rfl rfl ?_
        refine r_go rfl rfl ?_
        refine r_not rfl rfl rfl ?_
        refine r_go rfl rfl ?_
        refine r_pick_f rfl rfl rfl ?_
        refine r_pick_t rfl rfl rfl ?_
        refine r_move rfl rfl ?_
        refine r_pass rfl rfl rfl rfl ?_
        refine r_pass rfl rfl rfl rfl ?_
        refine r_pass rfl rfl rfl rfl ?_
        refine r_pass rfl rfl rfl rfl ?_
        refine r_pass rfl rfl rfl rfl ?_
        refine r_pass rfl rfl rfl rfl ?_
        refine r_pass rfl rfl rfl rfl ?_
        refine r_pick_f rfl rfl rfl ?_
        refine r_nil ?_
        refine r_tn ?_
        refine r_cond_f rfl ?_
        refine r_skip ?_
        refine r_bn ?_
        refine r_tn ?_
        refine r_region ?_
        refine r_move rfl rfl ?_
        refine r_add rfl rfl rfl (w64 (by omega)) ?_
        refine r_assign rfl rfl ?_
        refine r_nil ?_
        refine r_tn ?_
        exact r_againN (i + 1) (by omega) (by omega) ⟨rfl, rfl, rfl, rfl, rfl, rfl, trivial⟩ (fun w hw => hw.sub)
    · refine r_pass rfl rfl rfl rfl ?_
      refine r_pass rfl rfl rfl rfl ?_
      refine r_pass rfl rfl rfl rfl ?_
      refine r_passU rfl rfl rfl ?_
      refine r_passU rfl rfl rfl ?_
      refine r_pass rfl rfl rfl rfl ?_
      refine r_pick_f rfl rfl rfl ?_
      refine r_move rfl rfl ?_
      refine r_pass rfl rfl rfl rfl ?_
      refine r_pass rfl rfl rfl rfl ?_
      refine r_pass rfl rfl rfl rfl ?_
      refine r_pass rfl rfl rfl rfl ?_
      refine r_pass rfl rfl rfl rfl ?_
      refine r_pass rfl rfl rfl rfl ?_
      refine r_pass rfl rfl rfl rfl ?_
      refine r_pick_f rfl rfl rfl ?_
      refine r_nil ?_
      refine r_tn ?_
      refine r_cond_f rfl ?_
      refine r_skip ?_
      refine r_bn ?_
      refine r_tn ?_
      refine r_region ?_
      refine r_move rfl rfl ?_
      refine r_add rfl rfl rfl (w64 (by omega)) ?_
      refine r_assign rfl rfl ?_
      refine r_nil ?_
      refine r_tn ?_
      exact r_againN (i + 1) (by omega) (by omega) ⟨rfl, rfl, rfl, rfl, rfl, rfl, trivial⟩ (fun w hw => hw.sub)
  · refine r_exit ?_
    refine r_te ?_
    refine r_te ?_
    refine r_be ?_
    refine r_tn ?_
    refine r_seq ?_
    refine r_region ?_
    refine r_move rfl rfl ?_
    refine r_not rfl rfl rfl ?_
    refine r_move rfl rfl ?_
    refine r_go rfl rfl ?_
    refine r_indexArr (sz := 1) rfl rfl rfl rfl rfl (by omega) (by omega) (show _ = 15 by simp) ?_
    refine r_go rfl rfl ?_
    refine r_load1 rfl rfl rfl (fl_at (k := 15) (by rw [(doL_len hl X res flg)]; decide)) ?_
    refine r_go rfl rfl ?_
    refine r_leq rfl rfl rfl (decide_eq_true (by rw [doL_flag hl (by omega)]; omega)) ?_
    refine r_go rfl rfl ?_
    refine r_move rfl rfl ?_
    refine r_go rfl rfl ?_
    refine r_move rfl rfl ?_
    refine r_go rfl rfl ?_
    refine r_not rfl rfl rfl ?_
    refine r_go rfl rfl ?_
    refine r_move rfl rfl ?_
    refine r_pass rfl rfl rfl rfl ?_
    refine r_pass rfl rfl rfl rfl ?_
    refine r_pass rfl rfl rfl rfl ?_
    refine r_go rfl rfl ?_
    refine r_pick_t rfl rfl rfl ?_
    refine r_go rfl rfl ?_
    refine r_pick_t rfl rfl rfl ?_
    refine r_pick_f rfl rfl rfl ?_
    refine r_assign rfl rfl ?_
    refine r_nil ?_
    refine r_tn ?_
    refine r_ret ?_
    exact r_done1 (.inl rfl) rfl (res_tmp rfl) fun w hw => ⟨rfl, hw.clear⟩

theorem AluOthers_15 (l : List Int) (X Y N NN Ad Ln lv : Int) (a b c r d e f : Bool) (res flg : Int) (W : World) (hl : l.length = 16) (hX : 0 ≤ X ∧ X ≤ 15) (hR : rightM X Y NN = true) (hf : 0 ≤ flg ∧ flg ≤ 1) (hdo : ∀ w, Calls Try.prog 10 #[.agg (fl l), .agg (ins 15 X Y N NN Ad Ln), .agg (pro lv a b c r d e f)] w fun e w' => e = .returned (.tuple #[.agg (fl (doL l X res flg)), .bool true]) ∧ Sat w [] [] w') :
    Calls Try.prog 5 #[.agg (fl l), .agg (ins 15 X Y N NN Ad Ln), .agg (pro lv a b c r d e f)] W fun e w' => e = .returned (.bool true) ∧ Sat W [] [] w' := by
  refine enter Try.func5 rfl rfl rfl ?_
  refine r_seq ?_
  refine r_region ?_
  refine r_boxV rfl rfl fun b3 => ?_
  refine r_boxV rfl rfl fun b4 => ?_
  refine r_boxV rfl rfl fun b5 => ?_
  refine r_assign rfl rfl ?_
  refine r_nil ?_
  refine r_tn ?_
  refine r_seq ?_
  refine r_seq ?_
  refine r_region ?_
  refine r_call rfl rfl rfl (by kernel_rfl) rfl (fun w hw => by exact awake18 w) ?_
  refine r_not rfl rfl rfl ?_
  refine r_move rfl rfl ?_
  refine r_go rfl rfl ?_
  refine r_loadV rfl rfl rfl rfl rfl ?_
  refine r_go rfl rfl ?_
  refine r_call (v := .bool true) rfl rfl rfl (by kernel_rfl) rfl (fun w hw => by have h := right18 15 X Y N NN Ad Ln w; rw [hR] at h; exact h) ?_
  refine r_go rfl rfl ?_
  refine r_not rfl rfl rfl ?_
  refine r_pick_f rfl rfl rfl ?_
  refine r_nil ?_
  refine r_tn ?_
  refine r_cond_f rfl ?_
  refine r_skip ?_
  refine r_tn ?_
  refine r_seq ?_
  refine r_region ?_
  refine r_loadV rfl rfl rfl rfl (fl_size hl) ?_
  refine r_loadV rfl rfl rfl rfl rfl ?_
  refine r_loadV rfl rfl rfl rfl rfl ?_
  refine r_call rfl rfl rfl (by kernel_rfl) rfl (fun w hw => by exact hdo w) ?_
  refine r_move rfl rfl ?_
  refine r_extract rfl rfl rfl ?_
  refine r_extract rfl rfl rfl ?_
  refine r_allocV (cs := fl (List.replicate 16 0)) rfl rfl fun b7 => ?_
  refine r_storeV rfl rfl rfl (fl_size (doL_len hl X res flg)) rfl (fl_one _) ?_
  refine r_assign rfl rfl ?_
  refine r_nil ?_
  refine r_tn ?_
  refine r_seq ?_
  refine r_seq ?_
  refine r_region ?_
  refine r_move rfl rfl ?_
  refine r_not rfl rfl rfl ?_
  refine r_nil ?_
  refine r_tn ?_
  refine r_cond_f rfl ?_
  refine r_skip ?_
  refine r_tn ?_
  refine r_seq ?_
  refine r_region ?_
  refine r_fieldAddr (off := 0) (o' := 0) rfl rfl rfl rfl ?_
  refine r_load1 rfl rfl rfl (by rfl) ?_
  refine r_eql rfl rfl rfl (decide_eq_false (by decide)) ?_
  refine r_move rfl rfl ?_
  refine r_go rfl rfl ?_
  refine r_fieldAddr (off := 0) (o' := 0) rfl rfl rfl rfl ?_
  refine r_go rfl rfl ?_
  refine r_load1 rfl rfl rfl (by rfl) ?_
  refine r_go rfl rfl ?_
  refine r_eql rfl rfl rfl (decide_eq_false (by decide)) ?_
  refine r_pick_f rfl rfl rfl ?_
  refine r_move rfl rfl ?_
  refine r_go rfl rfl ?_
  refine r_fieldAddr (off := 0) (o' := 0) rfl rfl rfl rfl ?_
  refine r_go rfl rfl ?_
  refine r_load1 rfl rfl rfl (by rfl) ?_
  refine r_go rfl rfl ?_
  refine r_eql rfl rfl rfl (decide_eq_false (by decide)) ?_
  refine r_pick_f rfl rfl rfl ?_
  refine r_assign rfl rfl ?_
  refine r_nil ?_
  refine r_tn ?_
  refine r_seq ?_
  refine r_region ?_
  refine r_fieldAddr (off := 0) (o' := 0) rfl rfl rfl rfl ?_
  refine r_load1 rfl rfl rfl (by rfl) ?_
  refine r_geq rfl rfl rfl (decide_eq_true (by decide)) ?_
  refine r_move rfl rfl ?_
  refine r_go rfl rfl ?_
  refine r_fieldAddr (off := 0) (o' := 0) rfl rfl rfl rfl ?_
  refine r_go rfl rfl ?_
  refine r_load1 rfl rfl rfl (by rfl) ?_
  refine r_go rfl rfl ?_
  refine r_leq rfl rfl rfl (decide_eq_true (by decide)) ?_
  refine r_pick_t rfl rfl rfl ?_
  refine r_move rfl rfl ?_
  refine r_pass rfl rfl rfl rfl ?_
  refine r_pass rfl rfl rfl rfl ?_
  refine r_passU rfl rfl rfl ?_
  refine r_passU rfl rfl rfl ?_
  refine r_pass rfl rfl rfl rfl ?_
  refine r_pick_t rfl rfl rfl ?_
  refine r_assign rfl rfl ?_
  refine r_nil ?_
  refine r_tn ?_
  refine r_seq ?_
  refine r_seq ?_
  refine r_region ?_
  refine r_assign rfl rfl ?_
  refine r_nil ?_
  refine r_tn ?_
  refine r_block ?_
  refine r_loopN (fun i => [(3, .pointer (some ⟨b3, 0, none⟩)), (4, .pointer (some ⟨b4, 0, none⟩)), (7, .pointer (some ⟨b7, 0, none⟩)), (9, .bool false), (10, .bool true), (11, .int .i64 (i : Int))]) (fun i => [.blk b3 (.cells (fl l) 22 (0, 0)), .blk b4 (.cells (ins 15 X Y N NN Ad Ln) 24 (0, 0)), .blk b7 (.cells (fl (doL l X res flg)) 22 (0, 0))]) (fun i => i ≤ 16) 16 0 (by omega) ⟨rfl, rfl, rfl, rfl, rfl, rfl, trivial⟩ (fun w hw => hw.sub) fun i hi => ?_
  refine r_seq ?_
  refine r_seq ?_
  refine r_region ?_
  refine r_move rfl rfl ?_
  refine r_lss rfl rfl rfl rfl ?_
  refine r_nil ?_
  refine r_tn ?_
  refine r_cond rfl (fun hc => ?_) (fun hc => ?_)
  · refine r_skip ?_
    refine r_tn ?_
    refine r_seq ?_
    refine r_block ?_
    refine r_seq ?_
    refine r_mixed (by kernel_rfl) (by kernel_rfl) ?_
    have hi16 : i < 16 := by have h := of_decide_eq_true hc; omega
    refine r_move rfl rfl ?_
    refine r_fieldAddr (off := 1) rfl rfl rfl rfl ?_
    refine r_load1 rfl rfl rfl (by rfl) ?_
    refine r_neq rfl rfl rfl rfl ?_
    refine r_move rfl rfl ?_
    refine r_split 68 rfl (fun hb68 => ?_) (fun hb68 => ?_)
    · refine r_go rfl rfl ?_
      refine r_move rfl rfl ?_
      refine r_go rfl rfl ?_
      refine r_neq rfl rfl rfl rfl ?_
      refine r_go rfl rfl ?_
      refine r_move rfl rfl ?_
      refine r_split 71 rfl (fun hb71 => ?_) (fun hb71 => ?_)
      · refine r_pass rfl rfl rfl rfl ?_
        refine r_pass rfl rfl rfl rfl ?_
        refine r_go rfl rfl ?_
        refine r_pick_t rfl rfl rfl ?_
        refine r_pick_t rfl rfl rfl ?_
        refine r_move rfl rfl ?_
        refine r_go rfl rfl ?_
        refine r_move rfl rfl ?_
        refine r_go rfl rfl ?_
        refine r_indexArr (sz := 1) rfl rfl rfl rfl rfl (by omega) (by omega) (show _ = i by simp) ?_
        refine r_go rfl rfl ?_
        refine r_load1 rfl rfl rfl (fl_at (k := i) (by rw [(doL_len hl X res flg)]; exact hi16)) ?_
        refine r_go rfl rfl ?_
        refine r_move rfl rfl ?_
        refine r_go rfl rfl ?_
        refine r_indexArr (sz := 1) rfl rfl rfl rfl rfl (by omega) (by omega) (show _ = i by simp) ?_
        refine r_go rfl rfl ?_
        refine r_load1 rfl rfl rfl (fl_at (k := i) (by omega)) ?_
        refine r_go rfl rfl ?_
        refine r_neq rfl rfl rfl (decide_eq_false (fun hn => hn (doL_other hl hX.1 (of_decide_eq_true hb68) (.inl (by have h := of_decide_eq_true hb71; omega))))) ?_
        refine r_pick_t rfl rfl rfl ?_
        refine r_nil ?_
        refine r_tn ?_
        refine r_cond_f rfl ?_
        refine r_skip ?_
        refine r_bn ?_
        refine r_tn ?_
        refine r_region ?_
        refine r_move rfl rfl ?_
        refine r_add rfl rfl rfl (w64 (by omega)) ?_
        refine r_assign rfl rfl ?_
        refine r_nil ?_
        refine r_tn ?_
        exact r_againN (i + 1) (by omega) (by omega) ⟨rfl, rfl, rfl, rfl, rfl, rfl, trivial⟩ (fun w hw => hw.sub)
      · refine r_go rfl rfl ?_
        refine r_move rfl rfl ?_
        refine r_go rfl rfl ?_
        refine r_not rfl rfl rfl ?_
        refine r_go rfl rfl ?_
        refine r_pick_f rfl rfl rfl ?_
        refine r_pick_t rfl rfl rfl ?_
        refine r_move rfl rfl ?_
        refine r_pass rfl rfl rfl rfl ?_
        refine r_pass rfl rfl rfl rfl ?_
        refine r_pass rfl rfl rfl rfl ?_
        refine r_pass rfl rfl rfl rfl ?_
        refine r_pass rfl rfl rfl rfl ?_
        refine r_pass rfl rfl rfl rfl ?_
        refine r_pass rfl rfl rfl rfl ?_
        refine r_pick_f rfl rfl rfl ?_
        refine r_nil ?_
        refine r_tn ?_
        refine r_cond_f rfl ?_
        refine r_skip ?_
        refine r_bn ?_
        refine r_tn ?_
        refine r_region ?_
        refine r_move rfl rfl ?_
        refine r_add rfl rfl rfl (w64 (by omega)) ?_
        refine r_assign rfl rfl ?_
        refine r_nil ?_
        refine r_tn ?_
        exact r_againN (i + 1) (by omega) (by omega) ⟨rfl, rfl, rfl, rfl, rfl, rfl, trivial⟩ (fun w hw => hw.sub)
    · refine r_pass rfl rfl rfl rfl ?_
      refine r_pass rfl rfl rfl rfl ?_
      refine r_pass rfl rfl rfl rfl ?_
      refine r_passU rfl rfl rfl ?_
      refine r_passU rfl rfl rfl ?_
      refine r_pass rfl rfl rfl rfl ?_
      refine r_pick_f rfl rfl rfl ?_
      refine r_move rfl rfl ?_
      refine r_pass rfl rfl rfl rfl ?_
      refine r_pass rfl rfl rfl rfl ?_
      refine r_pass rfl rfl rfl rfl ?_
      refine r_pass rfl rfl rfl rfl ?_
      refine r_pass rfl rfl rfl rfl ?_
      refine r_pass rfl rfl rfl rfl ?_
      refine r_pass rfl rfl rfl rfl ?_
      refine r_pick_f rfl rfl rfl ?_
      refine r_nil ?_
      refine r_tn ?_
      refine r_cond_f rfl ?_
      refine r_skip ?_
      refine r_bn ?_
      refine r_tn ?_
      refine r_region ?_
      refine r_move rfl rfl ?_
      refine r_add rfl rfl rfl (w64 (by omega)) ?_
      refine r_assign rfl rfl ?_
      refine r_nil ?_
      refine r_tn ?_
      exact r_againN (i + 1) (by omega) (by omega) ⟨rfl, rfl, rfl, rfl, rfl, rfl, trivial⟩ (fun w hw => hw.sub)
  · refine r_exit ?_
    refine r_te ?_
    refine r_te ?_
    refine r_be ?_
    refine r_tn ?_
    refine r_seq ?_
    refine r_region ?_
    refine r_move rfl rfl ?_
    refine r_not rfl rfl rfl ?_
    refine r_move rfl rfl ?_
    refine r_go rfl rfl ?_
    refine r_indexArr (sz := 1) rfl rfl rfl rfl rfl (by omega) (by omega) (show _ = 15 by simp) ?_
    refine r_go rfl rfl ?_
    refine r_load1 rfl rfl rfl (fl_at (k := 15) (by rw [(doL_len hl X res flg)]; decide)) ?_
    refine r_go rfl rfl ?_
    refine r_leq rfl rfl rfl (decide_eq_true (by rw [doL_flag hl (by omega)]; omega)) ?_
    refine r_go rfl rfl ?_
    refine r_move rfl rfl ?_
    refine r_go rfl rfl ?_
    refine r_move rfl rfl ?_
    refine r_go rfl rfl ?_
    refine r_not rfl rfl rfl ?_
    refine r_go rfl rfl ?_
    refine r_move rfl rfl ?_
    refine r_pass rfl rfl rfl rfl ?_
    refine r_pass rfl rfl rfl rfl ?_
    refine r_pass rfl rfl rfl rfl ?_
    refine r_go rfl rfl ?_
    refine r_pick_t rfl rfl rfl ?_
    refine r_go rfl rfl ?_
    refine r_pick_t rfl rfl rfl ?_
    refine r_pick_f rfl rfl rfl ?_
    refine r_assign rfl rfl ?_
    refine r_nil ?_
    refine r_tn ?_
    refine r_ret ?_
    exact r_done1 (.inl rfl) rfl (res_tmp rfl) fun w hw => ⟨rfl, hw.clear⟩

theorem AluOthers_16 (l : List Int) (X Y N NN Ad Ln lv : Int) (a b c r d e f : Bool) (res flg : Int) (W : World) (hl : l.length = 16) (hX : 0 ≤ X ∧ X ≤ 15) (hR : rightM X Y NN = true) (hf : 0 ≤ flg ∧ flg ≤ 1) (hdo : ∀ w, Calls Try.prog 10 #[.agg (fl l), .agg (ins 16 X Y N NN Ad Ln), .agg (pro lv a b c r d e f)] w fun e w' => e = .returned (.tuple #[.agg (fl (doL l X res flg)), .bool true]) ∧ Sat w [] [] w') :
    Calls Try.prog 5 #[.agg (fl l), .agg (ins 16 X Y N NN Ad Ln), .agg (pro lv a b c r d e f)] W fun e w' => e = .returned (.bool true) ∧ Sat W [] [] w' := by
  refine enter Try.func5 rfl rfl rfl ?_
  refine r_seq ?_
  refine r_region ?_
  refine r_boxV rfl rfl fun b3 => ?_
  refine r_boxV rfl rfl fun b4 => ?_
  refine r_boxV rfl rfl fun b5 => ?_
  refine r_assign rfl rfl ?_
  refine r_nil ?_
  refine r_tn ?_
  refine r_seq ?_
  refine r_seq ?_
  refine r_region ?_
  refine r_call rfl rfl rfl (by kernel_rfl) rfl (fun w hw => by exact awake18 w) ?_
  refine r_not rfl rfl rfl ?_
  refine r_move rfl rfl ?_
  refine r_go rfl rfl ?_
  refine r_loadV rfl rfl rfl rfl rfl ?_
  refine r_go rfl rfl ?_
  refine r_call (v := .bool true) rfl rfl rfl (by kernel_rfl) rfl (fun w hw => by have h := right18 16 X Y N NN Ad Ln w; rw [hR] at h; exact h) ?_
  refine r_go rfl rfl ?_
  refine r_not rfl rfl rfl ?_
  refine r_pick_f rfl rfl rfl ?_
  refine r_nil ?_
  refine r_tn ?_
  refine r_cond_f rfl ?_
  refine r_skip ?_
  refine r_tn ?_
  refine r_seq ?_
  refine r_region ?_
  refine r_loadV rfl rfl rfl rfl (fl_size hl) ?_
  refine r_loadV rfl rfl rfl rfl rfl ?_
  refine r_loadV rfl rfl rfl rfl rfl ?_
  refine r_call rfl rfl rfl (by kernel_rfl) rfl (fun w hw => by exact hdo w) ?_
  refine r_move rfl rfl ?_
  refine r_extract rfl rfl rfl ?_
  refine r_extract rfl rfl rfl ?_
  refine r_allocV (cs := fl (List.replicate 16 0)) rfl rfl fun b7 => ?_
  refine r_storeV rfl rfl rfl (fl_size (doL_len hl X res flg)) rfl (fl_one _) ?_
  refine r_assign rfl rfl ?_
  refine r_nil ?_
  refine r_tn ?_
  refine r_seq ?_
  refine r_seq ?_
  refine r_region ?_
  refine r_move rfl rfl ?_
  refine r_not rfl rfl rfl ?_
  refine r_nil ?_
  refine r_tn ?_
  refine r_cond_f rfl ?_
  refine r_skip ?_
  refine r_tn ?_
  refine r_seq ?_
  refine r_region ?_
  refine r_fieldAddr (off := 0) (o' := 0) rfl rfl rfl rfl ?_
  refine r_load1 rfl rfl rfl (by rfl) ?_
  refine r_eql rfl rfl rfl (decide_eq_false (by decide)) ?_
  refine r_move rfl rfl ?_
  refine r_go rfl rfl ?_
  refine r_fieldAddr (off := 0) (o' := 0) rfl rfl rfl rfl ?_
  refine r_go rfl rfl ?_
  refine r_load1 rfl rfl rfl (by rfl) ?_
  refine r_go rfl rfl ?_
  refine r_eql rfl rfl rfl (decide_eq_false (by decide)) ?_
  refine r_pick_f rfl rfl rfl ?_
  refine r_move rfl rfl ?_
  refine r_go rfl rfl ?_
  refine r_fieldAddr (off := 0) (o' := 0) rfl rfl rfl rfl ?_
  refine r_go rfl rfl ?_
  refine r_load1 rfl rfl rfl (by rfl) ?_
  refine r_go rfl rfl ?_
  refine r_eql rfl rfl rfl (decide_eq_false (by decide)) ?_
  refine r_pick_f rfl rfl rfl ?_
  refine r_assign rfl rfl ?_
  refine r_nil ?_
  refine r_tn ?_
  refine r_seq ?_
  refine r_region ?_
  refine r_fieldAddr (off := 0) (o' := 0) rfl rfl rfl rfl ?_
  refine r_load1 rfl rfl rfl (by rfl) ?_
  refine r_geq rfl rfl rfl (decide_eq_true (by decide)) ?_
  refine r_move rfl rfl ?_
  refine r_go rfl rfl ?_
  refine r_fieldAddr (off := 0) (o' := 0) rfl rfl rfl rfl ?_
  refine r_go rfl rfl ?_
  refine r_load1 rfl rfl rfl (by rfl) ?_
  refine r_go rfl rfl ?_
  refine r_leq rfl rfl rfl (decide_eq_true (by decide)) ?_
  refine r_pick_t rfl rfl rfl ?_
  refine r_move rfl rfl ?_
  refine r_pass rfl rfl rfl rfl ?_
  refine r_pass rfl rfl rfl rfl ?_
  refine r_passU rfl rfl rfl ?_
  refine r_passU rfl rfl rfl ?_
  refine r_pass rfl rfl rfl rfl ?_
  refine r_pick_t rfl rfl rfl ?_
  refine r_assign rfl rfl ?_
  refine r_nil ?_
  refine r_tn ?_
  refine r_seq ?_
  refine r_seq ?_
  refine r_region ?_
  refine r_assign rfl rfl ?_
  refine r_nil ?_
  refine r_tn ?_
  refine r_block ?_
  refine r_loopN (fun i => [(3, .pointer (some ⟨b3, 0, none⟩)), (4, .pointer (some ⟨b4, 0, none⟩)), (7, .pointer (some ⟨b7, 0, none⟩)), (9, .bool false), (10, .bool true), (11, .int .i64 (i : Int))]) (fun i => [.blk b3 (.cells (fl l) 22 (0, 0)), .blk b4 (.cells (ins 16 X Y N NN Ad Ln) 24 (0, 0)), .blk b7 (.cells (fl (doL l X res flg)) 22 (0, 0))]) (fun i => i ≤ 16) 16 0 (by omega) ⟨rfl, rfl, rfl, rfl, rfl, rfl, trivial⟩ (fun w hw => hw.sub) fun i hi => ?_
  refine r_seq ?_
  refine r_seq ?_
  refine r_region ?_
  refine r_move rfl rfl ?_
  refine r_lss rfl rfl rfl rfl ?_
  refine r_nil ?_
  refine r_tn ?_
  refine r_cond rfl (fun hc => ?_) (fun hc => ?_)
  · refine r_skip ?_
    refine r_tn ?_
    refine r_seq ?_
    refine r_block ?_
    refine r_seq ?_
    refine r_mixed (by kernel_rfl) (by kernel_rfl) ?_
    have hi16 : i < 16 := by have h := of_decide_eq_true hc; omega
    refine r_move rfl rfl ?_
    refine r_fieldAddr (off := 1) rfl rfl rfl rfl ?_
    refine r_load1 rfl rfl rfl (by rfl) ?_
    refine r_neq rfl rfl rfl rfl ?_
    refine r_move rfl rfl ?_
    refine r_split 68 rfl (fun hb68 => ?_) (fun hb68 => ?_)
    · refine r_go rfl rfl ?_
      refine r_move rfl rfl ?_
      refine r_go rfl rfl ?_
      refine r_neq rfl rfl rfl rfl ?_
      refine r_go rfl rfl ?_
      refine r_move rfl rfl ?_
      refine r_split 71 rfl (fun hb71 => ?_) (fun hb71 => ?_)
      · refine r_pass rfl rfl rfl rfl ?_
        refine r_pass rfl rfl rfl rfl ?_
        refine r_go rfl rfl ?_
        refine r_pick_t rfl rfl rfl ?_
        refine r_pick_t rfl rfl rfl ?_
        refine r_move rfl rfl ?_
        refine r_go rfl rfl ?_
        refine r_move rfl rfl ?_
        refine r_go rfl rfl ?_
        refine r_indexArr (sz := 1) rfl rfl rfl rfl rfl (by omega) (by omega) (show _ = i by simp) ?_
        refine r_go rfl rfl ?_
        refine r_load1 rfl rfl rfl (fl_at (k := i) (by rw [(doL_len hl X res flg)]; exact hi16)) ?_
        refine r_go rfl rfl ?_
        refine r_move rfl rfl ?_
        refine r_go rfl rfl ?_
        refine r_indexArr (sz := 1) rfl rfl rfl rfl rfl (by omega) (by omega) (show _ = i by simp) ?_
        refine r_go rfl rfl ?_
        refine r_load1 rfl rfl rfl (fl_at (k := i) (by omega)) ?_
        refine r_go rfl rfl ?_
        refine r_neq rfl rfl rfl (decide_eq_false (fun hn => hn (doL_other hl hX.1 (of_decide_eq_true hb68) (.inl (by have h := of_decide_eq_true hb71; omega))))) ?_
        refine r_pick_t rfl rfl rfl ?_
        refine r_nil ?_
        refine r_tn ?_
        refine r_cond_f rfl ?_
        refine r_skip ?_
        refine r_bn ?_
        refine r_tn ?_
        refine r_region ?_
        refine r_move rfl rfl ?_
        refine r_add rfl rfl rfl (w64 (by omega)) ?_
        refine r_assign rfl rfl ?_
        refine r_nil ?_
        refine r_tn ?_
        exact r_againN (i + 1) (by omega) (by omega) ⟨rfl, rfl, rfl, rfl, rfl, rfl, trivial⟩ (fun w hw => hw.sub)
      · refine r_go rfl rfl ?_
        refine r_move rfl rfl ?_
        refine r_go rfl rfl ?_
        refine r_not rfl rfl rfl ?_
        refine r_go rfl rfl ?_
        refine r_pick_f rfl rfl rfl ?_
        refine r_pick_t rfl rfl rfl ?_
        refine r_move rfl rfl ?_
        refine r_pass rfl rfl rfl rfl ?_
        refine r_pass rfl rfl rfl rfl ?_
        refine r_pass rfl rfl rfl rfl ?_
        refine r_pass rfl rfl rfl rfl ?_
        refine r_pass rfl rfl rfl rfl ?_
        refine r_pass rfl rfl rfl rfl ?_
        refine r_pass rfl rfl rfl rfl ?_
        refine r_pick_f rfl rfl rfl ?_
        refine r_nil ?_
        refine r_tn ?_
        refine r_cond_f rfl ?_
        refine r_skip ?_
        refine r_bn ?_
        refine r_tn ?_
        refine r_region ?_
        refine r_move rfl rfl ?_
        refine r_add rfl rfl rfl (w64 (by omega)) ?_
        refine r_assign rfl rfl ?_
        refine r_nil ?_
        refine r_tn ?_
        exact r_againN (i + 1) (by omega) (by omega) ⟨rfl, rfl, rfl, rfl, rfl, rfl, trivial⟩ (fun w hw => hw.sub)
    · refine r_pass rfl rfl rfl rfl ?_
      refine r_pass rfl rfl rfl rfl ?_
      refine r_pass rfl rfl rfl rfl ?_
      refine r_passU rfl rfl rfl ?_
      refine r_passU rfl rfl rfl ?_
      refine r_pass rfl rfl rfl rfl ?_
      refine r_pick_f rfl rfl rfl ?_
      refine r_move rfl rfl ?_
      refine r_pass rfl rfl rfl rfl ?_
      refine r_pass rfl rfl rfl rfl ?_
      refine r_pass rfl rfl rfl rfl ?_
      refine r_pass rfl rfl rfl rfl ?_
      refine r_pass rfl rfl rfl rfl ?_
      refine r_pass rfl rfl rfl rfl ?_
      refine r_pass rfl rfl rfl rfl ?_
      refine r_pick_f rfl rfl rfl ?_
      refine r_nil ?_
      refine r_tn ?_
      refine r_cond_f rfl ?_
      refine r_skip ?_
      refine r_bn ?_
      refine r_tn ?_
      refine r_region ?_
      refine r_move rfl rfl ?_
      refine r_add rfl rfl rfl (w64 (by omega)) ?_
      refine r_assign rfl rfl ?_
      refine r_nil ?_
      refine r_tn ?_
      exact r_againN (i + 1) (by omega) (by omega) ⟨rfl, rfl, rfl, rfl, rfl, rfl, trivial⟩ (fun w hw => hw.sub)
  · refine r_exit ?_
    refine r_te ?_
    refine r_te ?_
    refine r_be ?_
    refine r_tn ?_
    refine r_seq ?_
    refine r_region ?_
    refine r_move rfl rfl ?_
    refine r_not rfl rfl rfl ?_
    refine r_move rfl rfl ?_
    refine r_go rfl rfl ?_
    refine r_indexArr (sz := 1) rfl rfl rfl rfl rfl (by omega) (by omega) (show _ = 15 by simp) ?_
    refine r_go rfl rfl ?_
    refine r_load1 rfl rfl rfl (fl_at (k := 15) (by rw [(doL_len hl X res flg)]; decide)) ?_
    refine r_go rfl rfl ?_
    refine r_leq rfl rfl rfl (decide_eq_true (by rw [doL_flag hl (by omega)]; omega)) ?_
    refine r_go rfl rfl ?_
    refine r_move rfl rfl ?_
    refine r_go rfl rfl ?_
    refine r_move rfl rfl ?_
    refine r_go rfl rfl ?_
    refine r_not rfl rfl rfl ?_
    refine r_go rfl rfl ?_
    refine r_move rfl rfl ?_
    refine r_pass rfl rfl rfl rfl ?_
    refine r_pass rfl rfl rfl rfl ?_
    refine r_pass rfl rfl rfl rfl ?_
    refine r_go rfl rfl ?_
    refine r_pick_t rfl rfl rfl ?_
    refine r_go rfl rfl ?_
    refine r_pick_t rfl rfl rfl ?_
    refine r_pick_f rfl rfl rfl ?_
    refine r_assign rfl rfl ?_
    refine r_nil ?_
    refine r_tn ?_
    refine r_ret ?_
    exact r_done1 (.inl rfl) rfl (res_tmp rfl) fun w hw => ⟨rfl, hw.clear⟩

theorem AluOthers_17 (l : List Int) (X Y N NN Ad Ln lv : Int) (a b c r d e f : Bool) (res flg : Int) (W : World) (hl : l.length = 16) (hX : 0 ≤ X ∧ X ≤ 15) (hR : rightM X Y NN = true) (hf : 0 ≤ flg ∧ flg ≤ 1) (hdo : ∀ w, Calls Try.prog 10 #[.agg (fl l), .agg (ins 17 X Y N NN Ad Ln), .agg (pro lv a b c r d e f)] w fun e w' => e = .returned (.tuple #[.agg (fl (doL l X res flg)), .bool true]) ∧ Sat w [] [] w') :
    Calls Try.prog 5 #[.agg (fl l), .agg (ins 17 X Y N NN Ad Ln), .agg (pro lv a b c r d e f)] W fun e w' => e = .returned (.bool true) ∧ Sat W [] [] w' := by
  refine enter Try.func5 rfl rfl rfl ?_
  refine r_seq ?_
  refine r_region ?_
  refine r_boxV rfl rfl fun b3 => ?_
  refine r_boxV rfl rfl fun b4 => ?_
  refine r_boxV rfl rfl fun b5 => ?_
  refine r_assign rfl rfl ?_
  refine r_nil ?_
  refine r_tn ?_
  refine r_seq ?_
  refine r_seq ?_
  refine r_region ?_
  refine r_call rfl rfl rfl (by kernel_rfl) rfl (fun w hw => by exact awake18 w) ?_
  refine r_not rfl rfl rfl ?_
  refine r_move rfl rfl ?_
  refine r_go rfl rfl ?_
  refine r_loadV rfl rfl rfl rfl rfl ?_
  refine r_go rfl rfl ?_
  refine r_call (v := .bool true) rfl rfl rfl (by kernel_rfl) rfl (fun w hw => by have h := right18 17 X Y N NN Ad Ln w; rw [hR] at h; exact h) ?_
  refine r_go rfl rfl ?_
  refine r_not rfl rfl rfl ?_
  refine r_pick_f rfl rfl rfl ?_
  refine r_nil ?_
  refine r_tn ?_
  refine r_cond_f rfl ?_
  refine r_skip ?_
  refine r_tn ?_
  refine r_seq ?_
  refine r_region ?_
  refine r_loadV rfl rfl rfl rfl (fl_size hl) ?_
  refine r_loadV rfl rfl rfl rfl rfl ?_
  refine r_loadV rfl rfl rfl rfl rfl ?_
  refine r_call rfl rfl rfl (by kernel_rfl) rfl (fun w hw => by exact hdo w) ?_
  refine r_move rfl rfl ?_
  refine r_extract rfl rfl rfl ?_
  refine r_extract rfl rfl rfl ?_
  refine r_allocV (cs := fl (List.replicate 16 0)) rfl rfl fun b7 => ?_
  refine r_storeV rfl rfl rfl (fl_size (doL_len hl X res flg)) rfl (fl_one _) ?_
  refine r_assign rfl rfl ?_
  refine r_nil ?_
  refine r_tn ?_
  refine r_seq ?_
  refine r_seq ?_
  refine r_region ?_
  refine r_move rfl rfl ?_
  refine r_not rfl rfl rfl ?_
  refine r_nil ?_
  refine r_tn ?_
  refine r_cond_f rfl ?_
  refine r_skip ?_
  refine r_tn ?_
  refine r_seq ?_
  refine r_region ?_
  refine r_fieldAddr (off := 0) (o' := 0) rfl rfl rfl rfl ?_
  refine r_load1 rfl rfl rfl (by rfl) ?_
  refine r_eql rfl rfl rfl (decide_eq_false (by decide)) ?_
  refine r_move rfl rfl ?_
  refine r_go rfl rfl ?_
  refine r_fieldAddr (off := 0) (o' := 0) rfl rfl rfl rfl ?_
  refine r_go rfl rfl ?_
  refine r_load1 rfl rfl rfl (by rfl) ?_
  refine r_go rfl rfl ?_
  refine r_eql rfl rfl rfl (decide_eq_false (by decide)) ?_
  refine r_pick_f rfl rfl rfl ?_
  refine r_move rfl rfl ?_
  refine r_go rfl rfl ?_
  refine r_fieldAddr (off := 0) (o' := 0) rfl rfl rfl rfl ?_
  refine r_go rfl rfl ?_
  refine r_load1 rfl rfl rfl (by rfl) ?_
  refine r_go rfl rfl ?_
  refine r_eql rfl rfl rfl (decide_eq_false (by decide)) ?_
  refine r_pick_f rfl rfl rfl ?_
  refine r_assign rfl rfl ?_
  refine r_nil ?_
  refine r_tn ?_
  refine r_seq ?_
  refine r_region ?_
  refine r_fieldAddr (off := 0) (o' := 0) rfl rfl rfl rfl ?_
  refine r_load1 rfl rfl rfl (by rfl) ?_
  refine r_geq rfl rfl rfl (decide_eq_true (by decide)) ?_
  refine r_move rfl rfl ?_
  refine r_go rfl rfl ?_
  refine r_fieldAddr (off := 0) (o' := 0) rfl rfl rfl rfl ?_
  refine r_go rfl rfl ?_
  refine r_load1 rfl rfl rfl (by rfl) ?_
  refine r_go rfl rfl ?_
  refine r_leq rfl rfl rfl (decide_eq_true (by decide)) ?_
  refine r_pick_t rfl rfl rfl ?_
  refine r_move rfl rfl ?_
  refine r_pass rfl rfl rfl rfl ?_
  refine r_pass rfl rfl rfl rfl ?_
  refine r_passU rfl rfl rfl ?_
  refine r_passU rfl rfl rfl ?_
  refine r_pass rfl rfl rfl rfl ?_
  refine r_pick_t rfl rfl rfl ?_
  refine r_assign rfl rfl ?_
  refine r_nil ?_
  refine r_tn ?_
  refine r_seq ?_
  refine r_seq ?_
  refine r_region ?_
  refine r_assign rfl rfl ?_
  refine r_nil ?_
  refine r_tn ?_
  refine r_block ?_
  refine r_loopN (fun i => [(3, .pointer (some ⟨b3, 0, none⟩)), (4, .pointer (some ⟨b4, 0, none⟩)), (7, .pointer (some ⟨b7, 0, none⟩)), (9, .bool false), (10, .bool true), (11, .int .i64 (i : Int))]) (fun i => [.blk b3 (.cells (fl l) 22 (0, 0)), .blk b4 (.cells (ins 17 X Y N NN Ad Ln) 24 (0, 0)), .blk b7 (.cells (fl (doL l X res flg)) 22 (0, 0))]) (fun i => i ≤ 16) 16 0 (by omega) ⟨rfl, rfl, rfl, rfl, rfl, rfl, trivial⟩ (fun w hw => hw.sub) fun i hi => ?_
  refine r_seq ?_
  refine r_seq ?_
  refine r_region ?_
  refine r_move rfl rfl ?_
  refine r_lss rfl rfl rfl rfl ?_
  refine r_nil ?_
  refine r_tn ?_
  refine r_cond rfl (fun hc => ?_) (fun hc => ?_)
  · refine r_skip ?_
    refine r_tn ?_
    refine r_seq ?_
    refine r_block ?_
    refine r_seq ?_
    refine r_mixed (by kernel_rfl) (by kernel_rfl) ?_
    have hi16 : i < 16 := by have h := of_decide_eq_true hc; omega
    refine r_move rfl rfl ?_
    refine r_fieldAddr (off := 1) rfl rfl rfl rfl ?_
    refine r_load1 rfl rfl rfl (by rfl) ?_
    refine r_neq rfl rfl rfl rfl ?_
    refine r_move rfl rfl ?_
    refine r_split 68 rfl (fun hb68 => ?_) (fun hb68 => ?_)
    · refine r_go rfl rfl ?_
      refine r_move rfl rfl ?_
      refine r_go rfl rfl ?_
      refine r_neq rfl rfl rfl rfl ?_
      refine r_go rfl rfl ?_
      refine r_move rfl rfl ?_
      refine r_split 71 rfl (fun hb71 => ?_) (fun hb71 => ?_)
      · refine r_pass rfl rfl rfl rfl ?_
        refine r_pass rfl rfl rfl rfl ?_
        refine r_go rfl rfl ?_
        refine r_pick_t rfl rfl rfl ?_
        refine r_pick_t rfl rfl rfl ?_
        refine r_move rfl rfl ?_
        refine r_go rfl rfl ?_
        refine r_move rfl rfl ?_
        refine r_go rfl rfl ?_
        refine r_indexArr (sz := 1) rfl rfl rfl rfl rfl (by omega) (by omega) (show _ = i by simp) ?_
        refine r_go rfl rfl ?_
        refine r_load1 rfl rfl rfl (fl_at (k := i) (by rw [(doL_len hl X res flg)]; exact hi16)) ?_
        refine r_go rfl rfl ?_
        refine r_move rfl rfl ?_
        refine r_go rfl rfl ?_
        refine r_indexArr (sz := 1) rfl rfl rfl rfl rfl (by omega) (by omega) (show _ = i by simp) ?_
        refine r_go rfl rfl ?_
        refine r_load1 rfl rfl rfl (fl_at (k := i) (by omega)) ?_
        refine r_go rfl rfl ?_
        refine r_neq rfl rfl rfl (decide_eq_false (fun hn => hn (doL_other hl hX.1 (of_decide_eq_true hb68) (.inl (by have h := of_decide_eq_true hb71; omega))))) ?_
        refine r_pick_t rfl rfl rfl ?_
        refine r_nil ?_
        refine r_tn ?_
        refine r_cond_f rfl ?_
        refine r_skip ?_
        refine r_bn ?_
        refine r_tn ?_
        refine r_region ?_
        refine r_move rfl rfl ?_
        refine r_add rfl rfl rfl (w64 (by omega)) ?_
        refine r_assign rfl rfl ?_
        refine r_nil ?_
        refine r_tn ?_
        exact r_againN (i + 1) (by omega) (by omega) ⟨rfl, rfl, rfl, rfl, rfl, rfl, trivial⟩ (fun w hw => hw.sub)
      · refine r_go rfl rfl ?_
        refine r_move rfl rfl ?_
        refine r_go rfl rfl ?_
        refine r_not rfl rfl rfl ?_
        refine r_go rfl rfl ?_
        refine r_pick_f rfl rfl rfl ?_
        refine r_pick_t rfl rfl rfl ?_
        refine r_move rfl rfl ?_
        refine r_pass rfl rfl rfl rfl ?_
        refine r_pass rfl rfl rfl rfl ?_
        refine r_pass rfl rfl rfl rfl ?_
        refine r_pass rfl rfl rfl rfl ?_
        refine r_pass rfl rfl rfl rfl ?_
        refine r_pass rfl rfl rfl rfl ?_
        refine r_pass rfl rfl rfl rfl ?_
        refine r_pick_f rfl rfl rfl ?_
        refine r_nil ?_
        refine r_tn ?_
        refine r_cond_f rfl ?_
        refine r_skip ?_
        refine r_bn ?_
        refine r_tn ?_
        refine r_region ?_
        refine r_move rfl rfl ?_
        refine r_add rfl rfl rfl (w64 (by omega)) ?_
        refine r_assign rfl rfl ?_
        refine r_nil ?_
        refine r_tn ?_
        exact r_againN (i + 1) (by omega) (by omega) ⟨rfl, rfl, rfl, rfl, rfl, rfl, trivial⟩ (fun w hw => hw.sub)
    · refine r_pass rfl rfl rfl rfl ?_
      refine r_pass rfl rfl rfl rfl ?_
      refine r_pass rfl rfl rfl rfl ?_
      refine r_passU rfl rfl rfl ?_
      refine r_passU rfl rfl rfl ?_
      refine r_pass rfl rfl rfl rfl ?_
      refine r_pick_f rfl rfl rfl ?_
      refine r_move rfl rfl ?_
      refine r_pass rfl rfl rfl rfl ?_
      refine r_pass rfl rfl rfl rfl ?_
      refine r_pass rfl rfl rfl rfl ?_
      refine r_pass rfl rfl rfl rfl ?_
      refine r_pass rfl rfl rfl rfl ?_
      refine r_pass rfl rfl rfl rfl ?_
      refine r_pass rfl rfl rfl rfl ?_
      refine r_pick_f rfl rfl rfl ?_
      refine r_nil ?_
      refine r_tn ?_
      refine r_cond_f rfl ?_
      refine r_skip ?_
      refine r_bn ?_
      refine r_tn ?_
      refine r_region ?_
      refine r_move rfl rfl ?_
      refine r_add rfl rfl rfl (w64 (by omega)) ?_
      refine r_assign rfl rfl ?_
      refine r_nil ?_
      refine r_tn ?_
      exact r_againN (i + 1) (by omega) (by omega) ⟨rfl, rfl, rfl, rfl, rfl, rfl, trivial⟩ (fun w hw => hw.sub)
  · refine r_exit ?_
    refine r_te ?_
    refine r_te ?_
    refine r_be ?_
    refine r_tn ?_
    refine r_seq ?_
    refine r_region ?_
    refine r_move rfl rfl ?_
    refine r_not rfl rfl rfl ?_
    refine r_move rfl rfl ?_
    refine r_go rfl rfl ?_
    refine r_indexArr (sz := 1) rfl rfl rfl rfl rfl (by omega) (by omega) (show _ = 15 by simp) ?_
    refine r_go rfl rfl ?_
    refine r_load1 rfl rfl rfl (fl_at (k := 15) (by rw [(doL_len hl X res flg)]; decide)) ?_
    refine r_go rfl rfl ?_
    refine r_leq rfl rfl rfl (decide_eq_true (by rw [doL_flag hl (by omega)]; omega)) ?_
    refine r_go rfl rfl ?_
    refine r_move rfl rfl ?_
    refine r_go rfl rfl ?_
    refine r_move rfl rfl ?_
    refine r_go rfl rfl ?_
    refine r_not rfl rfl rfl ?_
    refine r_go rfl rfl ?_
    refine r_move rfl rfl ?_
    refine r_pass rfl rfl rfl rfl ?_
    refine r_pass rfl rfl rfl rfl ?_
    refine r_pass rfl rfl rfl rfl ?_
    refine r_go rfl rfl ?_
    refine r_pick_t rfl rfl rfl ?_
    refine r_go rfl rfl ?_
    refine r_pick_t rfl rfl rfl ?_
    refine r_pick_f rfl rfl rfl ?_
    refine r_assign rfl rfl ?_
    refine r_nil ?_
    refine r_tn ?_
    refine r_ret ?_
    exact r_done1 (.inl rfl) rfl (res_tmp rfl) fun w hw => ⟨rfl, hw.clear⟩

theorem AluOthers_18 (l : List Int) (X Y N NN Ad Ln lv : Int) (a b c r d e f : Bool) (res flg : Int) (W : World) (hl : l.length = 16) (hX : 0 ≤ X ∧ X ≤ 15) (hR : rightM X Y NN = true) (hf : 0 ≤ flg ∧ flg ≤ 1) (hdo : ∀ w, Calls Try.prog 10 #[.agg (fl l), .agg (ins 18 X Y N NN Ad Ln), .agg (pro lv a b c r d e f)] w fun e w' => e = .returned (.tuple #[.agg (fl (doL l X res flg)), .bool true]) ∧ Sat w [] [] w') :
    Calls Try.prog 5 #[.agg (fl l), .agg (ins 18 X Y N NN Ad Ln), .agg (pro lv a b c r d e f)] W fun e w' => e = .returned (.bool true) ∧ Sat W [] [] w' := by
  refine enter Try.func5 rfl rfl rfl ?_
  refine r_seq ?_
  refine r_region ?_
  refine r_boxV rfl rfl fun b3 => ?_
  refine r_boxV rfl rfl fun b4 => ?_
  refine r_boxV rfl rfl fun b5 => ?_
  refine r_assign rfl rfl ?_
  refine r_nil ?_
  refine r_tn ?_
  refine r_seq ?_
  refine r_seq ?_
  refine r_region ?_
  refine r_call rfl rfl rfl (by kernel_rfl) rfl (fun w hw => by exact awake18 w) ?_
  refine r_not rfl rfl rfl ?_
  refine r_move rfl rfl ?_
  refine r_go rfl rfl ?_
  refine r_loadV rfl rfl rfl rfl rfl ?_
  refine r_go rfl rfl ?_
  refine r_call (v := .bool true) rfl rfl rfl (by kernel_rfl) rfl (fun w hw => by have h := right18 18 X Y N NN Ad Ln w; rw [hR] at h; exact h) ?_
  refine r_go rfl rfl ?_
  refine r_not rfl rfl rfl ?_
  refine r_pick_f rfl rfl rfl ?_
  refine r_nil ?_
  refine r_tn ?_
  refine r_cond_f rfl ?_
  refine r_skip ?_
  refine r_tn ?_
  refine r_seq ?_
  refine r_region ?_
  refine r_loadV rfl rfl rfl rfl (fl_size hl) ?_
  refine r_loadV rfl rfl rfl rfl rfl ?_
  refine r_loadV rfl rfl rfl rfl rfl ?_
  refine r_call rfl rfl rfl (by kernel_rfl) rfl (fun w hw => by exact hdo w) ?_
  refine r_move rfl rfl ?_
  refine r_extract rfl rfl rfl ?_
  refine r_extract rfl rfl rfl ?_
  refine r_allocV (cs := fl (List.replicate 16 0)) rfl rfl fun b7 => ?_
  refine r_storeV rfl rfl rfl (fl_size (doL_len hl X res flg)) rfl (fl_one _) ?_
  refine r_assign rfl rfl ?_
  refine r_nil ?_
  refine r_tn ?_
  refine r_seq ?_
  refine r_seq ?_
  refine r_region ?_
  refine r_move rfl rfl ?_
  refine r_not rfl rfl rfl ?_
  refine r_nil ?_
  refine r_tn ?_
  refine r_cond_f rfl ?_
  refine r_skip ?_
  refine r_tn ?_
  refine r_seq ?_
  refine r_region ?_
  refine r_fieldAddr (off := 0) (o' := 0) rfl rfl rfl rfl ?_
  refine r_load1 rfl rfl rfl (by rfl) ?_
  refine r_eql rfl rfl rfl (decide_eq_false (by decide)) ?_
  refine r_move rfl rfl ?_
  refine r_go rfl rfl ?_
  refine r_fieldAddr (off := 0) (o' := 0) rfl rfl rfl rfl ?_
  refine r_go rfl rfl ?_
  refine r_load1 rfl rfl rfl (by rfl) ?_
  refine r_go rfl rfl ?_
  refine r_eql rfl rfl rfl (decide_eq_false (by decide)) ?_
  refine r_pick_f rfl rfl rfl ?_
  refine r_move rfl rfl ?_
  refine r_go rfl rfl ?_
  refine r_fieldAddr (off := 0) (o' := 0) rfl rfl rfl rfl ?_
  refine r_go rfl rfl ?_
  refine r_load1 rfl rfl rfl (by rfl) ?_
  refine r_go rfl rfl ?_
  refine r_eql rfl rfl rfl (decide_eq_false (by decide)) ?_
  refine r_pick_f rfl rfl rfl ?_
  refine r_assign rfl rfl ?_
  refine r_nil ?_
  refine r_tn ?_
  refine r_seq ?_
  refine r_region ?_
  refine r_fieldAddr (off := 0) (o' := 0) rfl rfl rfl rfl ?_
  refine r_load1 rfl rfl rfl (by rfl) ?_
  refine r_geq rfl rfl rfl (decide_eq_true (by decide)) ?_
  refine r_move rfl rfl ?_
  refine r_go rfl rfl ?_
  refine r_fieldAddr (off := 0) (o' := 0) rfl rfl rfl rfl ?_
  refine r_go rfl rfl ?_
  refine r_load1 rfl rfl rfl (by rfl) ?_
  refine r_go rfl rfl ?_
  refine r_leq rfl rfl rfl (decide_eq_true (by decide)) ?_
  refine r_pick_t rfl rfl rfl ?_
  refine r_move rfl rfl ?_
  refine r_pass rfl rfl rfl rfl ?_
  refine r_pass rfl rfl rfl rfl ?_
  refine r_passU rfl rfl rfl ?_
  refine r_passU rfl rfl rfl ?_
  refine r_pass rfl rfl rfl rfl ?_
  refine r_pick_t rfl rfl rfl ?_
  refine r_assign rfl rfl ?_
  refine r_nil ?_
  refine r_tn ?_
  refine r_seq ?_
  refine r_seq ?_
  refine r_region ?_
  refine r_assign rfl rfl ?_
  refine r_nil ?_
  refine r_tn ?_
  refine r_block ?_
  refine r_loopN (fun i => [(3, .pointer (some ⟨b3, 0, none⟩)), (4, .pointer (some ⟨b4, 0, none⟩)), (7, .pointer (some ⟨b7, 0, none⟩)), (9, .bool false), (10, .bool true), (11, .int .i64 (i : Int))]) (fun i => [.blk b3 (.cells (fl l) 22 (0, 0)), .blk b4 (.cells (ins 18 X Y N NN Ad Ln) 24 (0, 0)), .blk b7 (.cells (fl (doL l X res flg)) 22 (0, 0))]) (fun i => i ≤ 16) 16 0 (by omega) ⟨rfl, rfl, rfl, rfl, rfl, rfl, trivial⟩ (fun w hw => hw.sub) fun i hi => ?_
  refine r_seq ?_
  refine r_seq ?_
  refine r_region ?_
  refine r_move rfl rfl ?_
  refine r_lss rfl rfl rfl rfl ?_
  refine r_nil ?_
  refine r_tn ?_
  refine r_cond rfl (fun hc => ?_) (fun hc => ?_)
  · refine r_skip ?_
    refine r_tn ?_
    refine r_seq ?_
    refine r_block ?_
    refine r_seq ?_
    refine r_mixed (by kernel_rfl) (by kernel_rfl) ?_
    have hi16 : i < 16 := by have h := of_decide_eq_true hc; omega
    refine r_move rfl rfl ?_
    refine r_fieldAddr (off := 1) rfl rfl rfl rfl ?_
    refine r_load1 rfl rfl rfl (by rfl) ?_
    refine r_neq rfl rfl rfl rfl ?_
    refine r_move rfl rfl ?_
    refine r_split 68 rfl (fun hb68 => ?_) (fun hb68 => ?_)
    · refine r_go rfl rfl ?_
      refine r_move rfl rfl ?_
      refine r_go rfl rfl ?_
      refine r_neq rfl rfl rfl rfl ?_
      refine r_go rfl rfl ?_
      refine r_move rfl rfl ?_
      refine r_split 71 rfl (fun hb71 => ?_) (fun hb71 => ?_)
      · refine r_pass rfl rfl rfl rfl ?_
        refine r_pass rfl rfl rfl rfl ?_
        refine r_go rfl rfl ?_
        refine r_pick_t rfl rfl rfl ?_
        refine r_pick_t rfl rfl rfl ?_
        refine r_move rfl rfl ?_
        refine r_go rfl rfl ?_
        refine r_move rfl rfl ?_
        refine r_go rfl rfl ?_
        refine r_indexArr (sz := 1) rfl rfl rfl rfl rfl (by omega) (by omega) (show _ = i by simp) ?_
        refine r_go rfl rfl ?_
        refine r_load1 rfl rfl rfl (fl_at (k := i) (by rw [(doL_len hl X res flg)]; exact hi16)) ?_
        refine r_go rfl rfl ?_
        refine r_move rfl rfl ?_
        refine r_go rfl rfl ?_
        refine r_indexArr (sz := 1) rfl rfl rfl rfl rfl (by omega) (by omega) (show _ = i by simp) ?_
        refine r_go rfl rfl ?_
        refine r_load1 rfl rfl rfl (fl_at (k := i) (by omega)) ?_
        refine r_go rfl rfl ?_
        refine r_neq rfl rfl rfl (decide_eq_false (fun hn => hn (doL_other hl hX.1 (of_decide_eq_true hb68) (.inl (by have h := of_decide_eq_true hb71; omega))))) ?_
        refine r_pick_t rfl rfl rfl ?_
        refine r_nil ?_
        refine r_tn ?_
        refine r_cond_f rfl ?_
        refine r_skip ?_
        refine r_bn ?_
        refine r_tn ?_
        refine r_region ?_
        refine r_move rfl rfl ?_
        refine r_add rfl rfl rfl (w64 (by omega)) ?_
        refine r_assign rfl rfl ?_
        refine r_nil ?_
        refine r_tn ?_
        exact r_againN (i + 1) (by omega) (by omega) ⟨rfl, rfl, rfl, rfl, rfl, rfl, trivial⟩ (fun w hw => hw.sub)
      · refine r_go rfl rfl ?_
        refine r_move rfl rfl ?_
        refine r_go rfl rfl ?_
        refine r_not rfl rfl rfl ?_
        refine r_go rfl rfl ?_
        refine r_pick_f rfl rfl rfl ?_
        refine r_pick_t rfl rfl rfl ?_
        refine r_move rfl rfl ?_
        refine r_pass rfl rfl rfl rfl ?_
        refine r_pass rfl rfl rfl rfl ?_
        refine r_pass rfl rfl rfl rfl ?_
        refine r_pass rfl rfl rfl rfl ?_
        refine r_pass rfl rfl rfl rfl ?_
        refine r_pass rfl rfl rfl rfl ?_
        refine r_pass rfl rfl rfl rfl ?_
        refine r_pick_f rfl rfl rfl ?_
        refine r_nil ?_
        refine r_tn ?_
        refine r_cond_f rfl ?_
        refine r_skip ?_
        refine r_bn ?_
        refine r_tn ?_
        refine r_region ?_
        refine r_move rfl rfl ?_
        refine r_add rfl rfl rfl (w64 (by omega)) ?_
        refine r_assign rfl rfl ?_
        refine r_nil ?_
        refine r_tn ?_
        exact r_againN (i + 1) (by omega) (by omega) ⟨rfl, rfl, rfl, rfl, rfl, rfl, trivial⟩ (fun w hw => hw.sub)
    · refine r_pass rfl rfl rfl rfl ?_
      refine r_pass rfl rfl rfl rfl ?_
      refine r_pass rfl rfl rfl rfl ?_
      refine r_passU rfl rfl rfl ?_
      refine r_passU rfl rfl rfl ?_
      refine r_pass rfl rfl rfl rfl ?_
      refine r_pick_f rfl rfl rfl ?_
      refine r_move rfl rfl ?_
      refine r_pass rfl rfl rfl rfl ?_
      refine r_pass rfl rfl rfl rfl ?_
      refine r_pass rfl rfl rfl rfl ?_
      refine r_pass rfl rfl rfl rfl ?_
      refine r_pass rfl rfl rfl rfl ?_
      refine r_pass rfl rfl rfl rfl ?_
      refine r_pass rfl rfl rfl rfl ?_
      refine r_pick_f rfl rfl rfl ?_
      refine r_nil ?_
      refine r_tn ?_
      refine r_cond_f rfl ?_
      refine r_skip ?_
      refine r_bn ?_
      refine r_tn ?_
      refine r_region ?_
      refine r_move rfl rfl ?_
      refine r_add rfl rfl rfl (w64 (by omega)) ?_
      refine r_assign rfl rfl ?_
      refine r_nil ?_
      refine r_tn ?_
      exact r_againN (i + 1) (by omega) (by omega) ⟨rfl, rfl, rfl, rfl, rfl, rfl, trivial⟩ (fun w hw => hw.sub)
  · refine r_exit ?_
    refine r_te ?_
    refine r_te ?_
    refine r_be ?_
    refine r_tn ?_
    refine r_seq ?_
    refine r_region ?_
    refine r_move rfl rfl ?_
    refine r_not rfl rfl rfl ?_
    refine r_move rfl rfl ?_
    refine r_go rfl rfl ?_
    refine r_indexArr (sz := 1) rfl rfl rfl rfl rfl (by omega) (by omega) (show _ = 15 by simp) ?_
    refine r_go rfl rfl ?_
    refine r_load1 rfl rfl rfl (fl_at (k := 15) (by rw [(doL_len hl X res flg)]; decide)) ?_
    refine r_go rfl rfl ?_
    refine r_leq rfl rfl rfl (decide_eq_true (by rw [doL_flag hl (by omega)]; omega)) ?_
    refine r_go rfl rfl ?_
    refine r_move rfl rfl ?_
    refine r_go rfl rfl ?_
    refine r_move rfl rfl ?_
    refine r_go rfl rfl ?_
    refine r_not rfl rfl rfl ?_
    refine r_go rfl rfl ?_
    refine r_move rfl rfl ?_
    refine r_pass rfl rfl rfl rfl ?_
    refine r_pass rfl rfl rfl rfl ?_
    refine r_pass rfl rfl rfl rfl ?_
    refine r_go rfl rfl ?_
    refine r_pick_t rfl rfl rfl ?_
    refine r_go rfl rfl ?_
    refine r_pick_t rfl rfl rfl ?_
    refine r_pick_f rfl rfl rfl ?_
    refine r_assign rfl rfl ?_
    refine r_nil ?_
    refine r_tn ?_
    refine r_ret ?_
    exact r_done1 (.inl rfl) rfl (res_tmp rfl) fun w hw => ⟨rfl, hw.clear⟩

theorem AluOthers_no (l : List Int) (op X Y N NN Ad Ln lv : Int) (a b c r d e f : Bool) (W : World) (hl : l.length = 16) (hR : rightM X Y NN = false) :
    Calls Try.prog 5 #[.agg (fl l), .agg (ins op X Y N NN Ad Ln), .agg (pro lv a b c r d e f)] W fun e w' => e = .returned (.bool true) ∧ Sat W [] [] w' := by
  refine enter Try.func5 rfl rfl rfl ?_
  refine r_seq ?_
  refine r_region ?_
  refine r_boxV rfl rfl fun b3 => ?_
  refine r_boxV rfl rfl fun b4 => ?_
  refine r_boxV rfl rfl fun b5 => ?_
  refine r_assign rfl rfl ?_
  refine r_nil ?_
  refine r_tn ?_
  refine r_seq ?_
  refine r_seq ?_
  refine r_region ?_
  refine r_call rfl rfl rfl (by kernel_rfl) rfl (fun w hw => by exact awake18 w) ?_
  refine r_not rfl rfl rfl ?_
  refine r_move rfl rfl ?_
  refine r_go rfl rfl ?_
  refine r_loadV rfl rfl rfl rfl rfl ?_
  refine r_go rfl rfl ?_
  refine r_call (v := .bool false) rfl rfl rfl (by kernel_rfl) rfl (fun w hw => by have h := right18 op X Y N NN Ad Ln w; rw [hR] at h; exact h) ?_
  refine r_go rfl rfl ?_
  refine r_not rfl rfl rfl ?_
  refine r_pick_f rfl rfl rfl ?_
  refine r_nil ?_
  refine r_tn ?_
  refine r_cond_t rfl ?_
  refine r_seq ?_
  refine r_region ?_
  refine r_call rfl rfl rfl (by kernel_rfl) rfl (fun w hw => by exact awake18 w) ?_
  refine r_assign rfl rfl ?_
  refine r_nil ?_
  refine r_tn ?_
  refine r_ret ?_
  refine r_tr ?_
  exact r_done1 (.inl rfl) rfl (res_tmp rfl) fun w hw => ⟨rfl, hw.clear⟩
end Go.Proofs.Ytddoohbgiieiiaa
