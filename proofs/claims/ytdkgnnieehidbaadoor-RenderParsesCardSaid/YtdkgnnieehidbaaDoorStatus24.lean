/-
  Rendering (chapter 24): Status.
-/
import Derived.Test.YtdkgnnieehidbaaDoorGlob24
namespace Go.Proofs.YtdkgnnieehidbaaDoor
open Go Go.RowKit
set_option linter.unusedVariables false
set_option linter.unusedSimpArgs false
set_option maxHeartbeats 2000000
set_option maxRecDepth 4000
attribute [local irreducible] mix
attribute [local irreducible] kindT causeT hexB kindsL causesL

theorem stat24A (k ca pc : Nat) (cy : Int) (hk : k < 2) (hpc : pc < 65536) (h0 : -9223372036854775808 ≤ cy) (h1 : cy ≤ 9223372036854775807) (w : World) (hG : Globs w) :
    Calls Tryd.prog 16 #[.agg #[.int .i64 (k : Int), .int .i64 (ca : Int), .int .i64 (pc : Int), .int .i64 cy]] w fun e w' => e = .returned (.string (tx (statT k ca pc cy))) ∧ Sat w [] [] w' := by
  have hst : statT k ca pc cy = Lib.join [kindT k] [32] := by unfold statT partsS; rw [if_pos hk]
  refine enter Tryd.func16 rfl rfl rfl ?_
  refine r_seq ?_
  refine r_region ?_
  refine r_boxV rfl rfl fun b1 => ?_
  refine r_assign rfl rfl ?_
  refine r_nil ?_
  refine r_tn ?_
  refine r_seq ?_
  refine r_seq ?_
  refine r_region ?_
  refine r_fieldAddr (off := 0) (o' := 0) rfl rfl rfl rfl ?_
  refine r_load1 rfl rfl rfl (by rfl) ?_
  refine r_lss (p := false) rfl rfl rfl (decide_eq_false (by omega)) ?_
  refine r_move rfl rfl ?_
  refine r_go rfl rfl ?_
  refine r_fieldAddr (off := 0) (o' := 0) rfl rfl rfl rfl ?_
  refine r_go rfl rfl ?_
  refine r_load1 rfl rfl rfl (by rfl) ?_
  refine r_go rfl rfl ?_
  refine r_geq (p := false) rfl rfl rfl (decide_eq_false (by omega)) ?_
  refine r_pick_f rfl rfl rfl ?_
  refine r_nil ?_
  refine r_tn ?_
  refine r_cond_f rfl ?_
  refine r_skip ?_
  refine r_tn ?_
  refine r_seq ?_
  refine r_region ?_
  refine r_fieldAddr (off := 0) (o' := 0) rfl rfl rfl rfl ?_
  refine r_load1 rfl rfl rfl (by rfl) ?_
  refine r_indexArr (sz := 1) (o' := 0 + k) rfl rfl rfl rfl rfl (by omega) (by omega) (by omega) ?_
  refine r_loadC (p := ⟨0, 0 + k, none⟩) (v := txV (kindT k)) rfl rfl rfl (fun w hw => (hG.keep hw).1.cell (kinds_at (show k < 4 by omega)) rfl) ?_
  refine r_lit (sz := 1) (pv := [(0, txV (kindT k))]) (cells := #[txV (kindT k)]) rfl rfl rfl rfl rfl rfl (by kernel_rfl) rfl (fun b16 => ?_) (by decide)
  refine r_assign rfl rfl ?_
  refine r_nil ?_
  refine r_tn ?_
  refine r_seq ?_
  refine r_seq ?_
  refine r_region ?_
  refine r_fieldAddr (off := 0) (o' := 0) rfl rfl rfl rfl ?_
  refine r_load1 rfl rfl rfl (by rfl) ?_
  refine r_eql (p := false) rfl rfl rfl (decide_eq_false (by omega)) ?_
  refine r_move rfl rfl ?_
  refine r_pass rfl rfl rfl rfl ?_
  refine r_pass rfl rfl rfl rfl ?_
  refine r_pass rfl rfl rfl rfl ?_
  refine r_pick_f rfl rfl rfl ?_
  refine r_move rfl rfl ?_
  refine r_pass rfl rfl rfl rfl ?_
  refine r_pass rfl rfl rfl rfl ?_
  refine r_pass rfl rfl rfl rfl ?_
  refine r_pick_f rfl rfl rfl ?_
  refine r_nil ?_
  refine r_tn ?_
  refine r_cond_f rfl ?_
  refine r_skip ?_
  refine r_tn ?_
  refine r_seq ?_
  refine r_seq ?_
  refine r_region ?_
  refine r_fieldAddr (off := 0) (o' := 0) rfl rfl rfl rfl ?_
  refine r_load1 rfl rfl rfl (by rfl) ?_
  refine r_geq (p := false) rfl rfl rfl (decide_eq_false (by omega)) ?_
  refine r_nil ?_
  refine r_tn ?_
  refine r_cond_f rfl ?_
  refine r_skip ?_
  refine r_tn ?_
  refine r_seq ?_
  refine r_region ?_
  refine r_move rfl rfl ?_
  refine r_call rfl rfl rfl (by kernel_rfl) rfl (fun w hw => by exact join24 b16 1 [kindT k] 1 rfl (by omega) (by omega) (hst ▸ statT_le k ca pc h0 h1) (by omega) w (own_rd (A := some ⟨b16, 0, none⟩) (m := 1) (c := 1) hw)) ?_
  refine r_assign rfl rfl ?_
  refine r_nil ?_
  refine r_tn ?_
  refine r_ret ?_
  rw [hst]
  exact r_done1 (.inl rfl) rfl (res_tmp rfl) fun w hw => ⟨rfl, hw.clear⟩

theorem stat24B (k ca pc : Nat) (cy : Int) (hk : k = 2) (hpc : pc < 65536) (h0 : -9223372036854775808 ≤ cy) (h1 : cy ≤ 9223372036854775807) (w : World) (hG : Globs w) :
    Calls Tryd.prog 16 #[.agg #[.int .i64 (k : Int), .int .i64 (ca : Int), .int .i64 (pc : Int), .int .i64 cy]] w fun e w' => e = .returned (.string (tx (statT k ca pc cy))) ∧ Sat w [] [] w' := by
  have hst : statT k ca pc cy = Lib.join [kindT k, [97, 116], hexB pc, [99, 121, 99, 108, 101], Lib.itoa cy] [32] := by unfold statT partsS; rw [if_neg (show ¬ k < 2 by omega), if_pos hk]
  refine enter Tryd.func16 rfl rfl rfl ?_
  refine r_seq ?_
  refine r_region ?_
  refine r_boxV rfl rfl fun b1 => ?_
  refine r_assign rfl rfl ?_
  refine r_nil ?_
  refine r_tn ?_
  refine r_seq ?_
  refine r_seq ?_
  refine r_region ?_
  refine r_fieldAddr (off := 0) (o' := 0) rfl rfl rfl rfl ?_
  refine r_load1 rfl rfl rfl (by rfl) ?_
  refine r_lss (p := false) rfl rfl rfl (decide_eq_false (by omega)) ?_
  refine r_move rfl rfl ?_
  refine r_go rfl rfl ?_
  refine r_fieldAddr (off := 0) (o' := 0) rfl rfl rfl rfl ?_
  refine r_go rfl rfl ?_
  refine r_load1 rfl rfl rfl (by rfl) ?_
  refine r_go rfl rfl ?_
  refine r_geq (p := false) rfl rfl rfl (decide_eq_false (by omega)) ?_
  refine r_pick_f rfl rfl rfl ?_
  refine r_nil ?_
  refine r_tn ?_
  refine r_cond_f rfl ?_
  refine r_skip ?_
  refine r_tn ?_
  refine r_seq ?_
  refine r_region ?_
  refine r_fieldAddr (off := 0) (o' := 0) rfl rfl rfl rfl ?_
  refine r_load1 rfl rfl rfl (by rfl) ?_
  refine r_indexArr (sz := 1) (o' := 0 + k) rfl rfl rfl rfl rfl (by omega) (by omega) (by omega) ?_
  refine r_loadC (p := ⟨0, 0 + k, none⟩) (v := txV (kindT k)) rfl rfl rfl (fun w hw => (hG.keep hw).1.cell (kinds_at (show k < 4 by omega)) rfl) ?_
  refine r_lit (sz := 1) (pv := [(0, txV (kindT k))]) (cells := #[txV (kindT k)]) rfl rfl rfl rfl rfl rfl (by kernel_rfl) rfl (fun b16 => ?_) (by decide)
  refine r_assign rfl rfl ?_
  refine r_nil ?_
  refine r_tn ?_
  refine r_seq ?_
  refine r_seq ?_
  refine r_region ?_
  refine r_fieldAddr (off := 0) (o' := 0) rfl rfl rfl rfl ?_
  refine r_load1 rfl rfl rfl (by rfl) ?_
  refine r_eql (p := false) rfl rfl rfl (decide_eq_false (by omega)) ?_
  refine r_move rfl rfl ?_
  refine r_pass rfl rfl rfl rfl ?_
  refine r_pass rfl rfl rfl rfl ?_
  refine r_pass rfl rfl rfl rfl ?_
  refine r_pick_f rfl rfl rfl ?_
  refine r_move rfl rfl ?_
  refine r_pass rfl rfl rfl rfl ?_
  refine r_pass rfl rfl rfl rfl ?_
  refine r_pass rfl rfl rfl rfl ?_
  refine r_pick_f rfl rfl rfl ?_
  refine r_nil ?_
  refine r_tn ?_
  refine r_cond_f rfl ?_
  refine r_skip ?_
  refine r_tn ?_
  refine r_seq ?_
  refine r_seq ?_
  refine r_region ?_
  refine r_fieldAddr (off := 0) (o' := 0) rfl rfl rfl rfl ?_
  refine r_load1 rfl rfl rfl (by rfl) ?_
  refine r_geq (p := true) rfl rfl rfl (decide_eq_true (by omega)) ?_
  refine r_nil ?_
  refine r_tn ?_
  refine r_cond_t rfl ?_
  refine r_mixedD { xb := [], rb := [b1], rs := [45], fs := [], acs := [43] } (by kernel_rfl) (by kernel_rfl) (fun w hw k hk => by
    simp only [List.mem_cons, List.not_mem_nil, or_false] at hk
    rcases hk with rfl <;> exact Sat.lt hw) ?_
  refine r_move rfl rfl ?_
  refine r_fieldAddr (off := 2) (o' := 2) rfl rfl rfl rfl ?_
  refine r_load1 rfl rfl rfl (by rfl) ?_
  refine r_call rfl rfl rfl (by kernel_rfl) rfl (fun w hw => by exact hex24 pc hpc w) ?_
  refine r_fieldAddr (off := 3) (o' := 3) rfl rfl rfl rfl ?_
  refine r_load1 rfl rfl rfl (by rfl) ?_
  refine r_call rfl rfl rfl (by kernel_rfl) rfl (fun w hw => by exact itoa24 cy h0 h1 w (hG.keep hw)) ?_
  refine r_lit (sz := 1) (pv := [(0, txV [97, 116]), (1, txV (hexB pc)), (2, txV [99, 121, 99, 108, 101]), (3, txV (Lib.itoa cy))]) (cells := #[txV [97, 116], txV (hexB pc), txV [99, 121, 99, 108, 101], txV (Lib.itoa cy)]) rfl rfl rfl rfl rfl rfl (by kernel_rfl) rfl (fun b47 => ?_) (by decide)
  refine r_append (k := 4) (news := [txV [97, 116], txV (hexB pc), txV [99, 121, 99, 108, 101], txV (Lib.itoa cy)]) (sz := 1) (bytes := 16) rfl rfl rfl rfl rfl rfl (by decide) (fun w hw => own_rd (A := some ⟨b47, 0, none⟩) (m := 4) (c := 4) hw) rfl (fun u hu => by simp only [List.mem_cons, List.not_mem_nil, or_false] at hu; rcases hu with rfl | rfl | rfl | rfl <;> rfl) (by omega) (by unfold maxLen; omega) fun A48 c48 => ?_
  refine r_assign rfl rfl ?_
  refine r_nil ?_
  refine r_tn ?_
  refine r_seq ?_
  refine r_region ?_
  refine r_move rfl rfl ?_
  refine r_have (fun w hw => own_some (A := A48) (m := 5) (c := c48) hw (by decide)) fun hg => ?_
  obtain ⟨g, rfl⟩ := hg
  refine r_have (fun w hw => own_le (A := some ⟨g, 0, none⟩) (m := 5) (c := c48) hw) fun hle => ?_
  refine r_call rfl rfl rfl (by kernel_rfl) rfl (fun w hw => by exact join24 g c48 [kindT k, [97, 116], hexB pc, [99, 121, 99, 108, 101], Lib.itoa cy] 5 rfl hle (by omega) (hst ▸ statT_le k ca pc h0 h1) (by omega) w (own_rd (A := some ⟨g, 0, none⟩) (m := 5) (c := c48) hw)) ?_
  refine r_assign rfl rfl ?_
  refine r_nil ?_
  refine r_tn ?_
  refine r_ret ?_
  rw [hst]
  exact r_done1 (.inl rfl) rfl (res_tmp rfl) fun w hw => ⟨rfl, hw.clear⟩

theorem stat24C (k ca pc : Nat) (cy : Int) (hk : k = 3) (hca : ca < 5) (hpc : pc < 65536) (h0 : -9223372036854775808 ≤ cy) (h1 : cy ≤ 9223372036854775807) (w : World) (hG : Globs w) :
    Calls Tryd.prog 16 #[.agg #[.int .i64 (k : Int), .int .i64 (ca : Int), .int .i64 (pc : Int), .int .i64 cy]] w fun e w' => e = .returned (.string (tx (statT k ca pc cy))) ∧ Sat w [] [] w' := by
  have hst : statT k ca pc cy = Lib.join [kindT k, causeT ca, [97, 116], hexB pc, [99, 121, 99, 108, 101], Lib.itoa cy] [32] := by unfold statT partsS; rw [if_neg (show ¬ k < 2 by omega), if_neg (show ¬ k = 2 by omega)]
  refine enter Tryd.func16 rfl rfl rfl ?_
  refine r_seq ?_
  refine r_region ?_
  refine r_boxV rfl rfl fun b1 => ?_
  refine r_assign rfl rfl ?_
  refine r_nil ?_
  refine r_tn ?_
  refine r_seq ?_
  refine r_seq ?_
  refine r_region ?_
  refine r_fieldAddr (off := 0) (o' := 0) rfl rfl rfl rfl ?_
  refine r_load1 rfl rfl rfl (by rfl) ?_
  refine r_lss (p := false) rfl rfl rfl (decide_eq_false (by omega)) ?_
  refine r_move rfl rfl ?_
  refine r_go rfl rfl ?_
  refine r_fieldAddr (off := 0) (o' := 0) rfl rfl rfl rfl ?_
  refine r_go rfl rfl ?_
  refine r_load1 rfl rfl rfl (by rfl) ?_
  refine r_go rfl rfl ?_
  refine r_geq (p := false) rfl rfl rfl (decide_eq_false (by omega)) ?_
  refine r_pick_f rfl rfl rfl ?_
  refine r_nil ?_
  refine r_tn ?_
  refine r_cond_f rfl ?_
  refine r_skip ?_
  refine r_tn ?_
  refine r_seq ?_
  refine r_region ?_
  refine r_fieldAddr (off := 0) (o' := 0) rfl rfl rfl rfl ?_
  refine r_load1 rfl rfl rfl (by rfl) ?_
  refine r_indexArr (sz := 1) (o' := 0 + k) rfl rfl rfl rfl rfl (by omega) (by omega) (by omega) ?_
  refine r_loadC (p := ⟨0, 0 + k, none⟩) (v := txV (kindT k)) rfl rfl rfl (fun w hw => (hG.keep hw).1.cell (kinds_at (show k < 4 by omega)) rfl) ?_
  refine r_lit (sz := 1) (pv := [(0, txV (kindT k))]) (cells := #[txV (kindT k)]) rfl rfl rfl rfl rfl rfl (by kernel_rfl) rfl (fun b16 => ?_) (by decide)
  refine r_assign rfl rfl ?_
  refine r_nil ?_
  refine r_tn ?_
  refine r_seq ?_
  refine r_seq ?_
  refine r_region ?_
  refine r_fieldAddr (off := 0) (o' := 0) rfl rfl rfl rfl ?_
  refine r_load1 rfl rfl rfl (by rfl) ?_
  refine r_eql (p := true) rfl rfl rfl (decide_eq_true (by omega)) ?_
  refine r_move rfl rfl ?_
  refine r_go rfl rfl ?_
  refine r_fieldAddr (off := 1) (o' := 1) rfl rfl rfl rfl ?_
  refine r_go rfl rfl ?_
  refine r_load1 rfl rfl rfl (by rfl) ?_
  refine r_go rfl rfl ?_
  refine r_geq (p := true) rfl rfl rfl (decide_eq_true (by omega)) ?_
  refine r_pick_t rfl rfl rfl ?_
  refine r_move rfl rfl ?_
  refine r_go rfl rfl ?_
  refine r_fieldAddr (off := 1) (o' := 1) rfl rfl rfl rfl ?_
  refine r_go rfl rfl ?_
  refine r_load1 rfl rfl rfl (by rfl) ?_
  refine r_go rfl rfl ?_
  refine r_lss (p := true) rfl rfl rfl (decide_eq_true (by omega)) ?_
  refine r_pick_t rfl rfl rfl ?_
  refine r_nil ?_
  refine r_tn ?_
  refine r_cond_t rfl ?_
  refine r_region ?_
  refine r_move rfl rfl ?_
  refine r_fieldAddr (off := 1) (o' := 1) rfl rfl rfl rfl ?_
  refine r_load1 rfl rfl rfl (by rfl) ?_
  refine r_indexArr (sz := 1) (o' := 0 + ca) rfl rfl rfl rfl rfl (by omega) (by omega) (by omega) ?_
  refine r_loadC (p := ⟨1, 0 + ca, none⟩) (v := txV (causeT ca)) rfl rfl rfl (fun w hw => (hG.keep hw).2.1.cell (causes_at (show ca < 5 by omega)) rfl) ?_
  refine r_lit (sz := 1) (pv := [(0, txV (causeT ca))]) (cells := #[txV (causeT ca)]) rfl rfl rfl rfl rfl rfl (by kernel_rfl) rfl (fun b35 => ?_) (by decide)
  refine r_append (k := 1) (news := [txV (causeT ca)]) (sz := 1) (bytes := 16) rfl rfl rfl rfl rfl rfl (by decide) (fun w hw => own_rd (A := some ⟨b35, 0, none⟩) (m := 1) (c := 1) hw) rfl (fun u hu => by simp only [List.mem_cons, List.not_mem_nil, or_false] at hu; rcases hu with rfl <;> rfl) (by omega) (by unfold maxLen; omega) fun A36 c36 => ?_
  refine r_assign rfl rfl ?_
  refine r_nil ?_
  refine r_tn ?_
  refine r_seq ?_
  refine r_seq ?_
  refine r_region ?_
  refine r_fieldAddr (off := 0) (o' := 0) rfl rfl rfl rfl ?_
  refine r_load1 rfl rfl rfl (by rfl) ?_
  refine r_geq (p := true) rfl rfl rfl (decide_eq_true (by omega)) ?_
  refine r_nil ?_
  refine r_tn ?_
  refine r_cond_t rfl ?_
  refine r_mixedD { xb := [], rb := [b1], rs := [45], fs := [], acs := [43] } (by kernel_rfl) (by kernel_rfl) (fun w hw k hk => by
    simp only [List.mem_cons, List.not_mem_nil, or_false] at hk
    rcases hk with rfl <;> exact Sat.lt hw) ?_
  refine r_move rfl rfl ?_
  refine r_fieldAddr (off := 2) (o' := 2) rfl rfl rfl rfl ?_
  refine r_load1 rfl rfl rfl (by rfl) ?_
  refine r_call rfl rfl rfl (by kernel_rfl) rfl (fun w hw => by exact hex24 pc hpc w) ?_
  refine r_fieldAddr (off := 3) (o' := 3) rfl rfl rfl rfl ?_
  refine r_load1 rfl rfl rfl (by rfl) ?_
  refine r_call rfl rfl rfl (by kernel_rfl) rfl (fun w hw => by exact itoa24 cy h0 h1 w (hG.keep hw)) ?_
  refine r_lit (sz := 1) (pv := [(0, txV [97, 116]), (1, txV (hexB pc)), (2, txV [99, 121, 99, 108, 101]), (3, txV (Lib.itoa cy))]) (cells := #[txV [97, 116], txV (hexB pc), txV [99, 121, 99, 108, 101], txV (Lib.itoa cy)]) rfl rfl rfl rfl rfl rfl (by kernel_rfl) rfl (fun b47 => ?_) (by decide)
  refine r_append (k := 4) (news := [txV [97, 116], txV (hexB pc), txV [99, 121, 99, 108, 101], txV (Lib.itoa cy)]) (sz := 1) (bytes := 16) rfl rfl rfl rfl rfl rfl (by decide) (fun w hw => own_rd (A := some ⟨b47, 0, none⟩) (m := 4) (c := 4) hw) rfl (fun u hu => by simp only [List.mem_cons, List.not_mem_nil, or_false] at hu; rcases hu with rfl | rfl | rfl | rfl <;> rfl) (by omega) (by unfold maxLen; omega) fun A48 c48 => ?_
  refine r_assign rfl rfl ?_
  refine r_nil ?_
  refine r_tn ?_
  refine r_seq ?_
  refine r_region ?_
  refine r_move rfl rfl ?_
  refine r_have (fun w hw => own_some (A := A48) (m := 6) (c := c48) hw (by decide)) fun hg => ?_
  obtain ⟨g, rfl⟩ := hg
  refine r_have (fun w hw => own_le (A := some ⟨g, 0, none⟩) (m := 6) (c := c48) hw) fun hle => ?_
  refine r_call rfl rfl rfl (by kernel_rfl) rfl (fun w hw => by exact join24 g c48 [kindT k, causeT ca, [97, 116], hexB pc, [99, 121, 99, 108, 101], Lib.itoa cy] 6 rfl hle (by omega) (hst ▸ statT_le k ca pc h0 h1) (by omega) w (own_rd (A := some ⟨g, 0, none⟩) (m := 6) (c := c48) hw)) ?_
  refine r_assign rfl rfl ?_
  refine r_nil ?_
  refine r_tn ?_
  refine r_ret ?_
  rw [hst]
  exact r_done1 (.inl rfl) rfl (res_tmp rfl) fun w hw => ⟨rfl, hw.clear⟩
end Go.Proofs.YtdkgnnieehidbaaDoor
