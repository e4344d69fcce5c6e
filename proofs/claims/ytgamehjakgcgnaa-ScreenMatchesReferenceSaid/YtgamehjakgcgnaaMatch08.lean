/-
  Screens (chapter 08): ScreenMatchesReference.
-/
import Derived.Test.YtgamehjakgcgnaaModel08
namespace Go.Proofs.Ytgamehjakgcgnaa
open Go Go.RowKit
set_option linter.unusedVariables false
set_option linter.unusedSimpArgs false
set_option maxHeartbeats 2000000
set_option maxRecDepth 4000
attribute [local irreducible] mix
attribute [local irreducible] scrV stP planeV stH sprD drwP drwH fillL doS plS4 setF inP

theorem ScreenMatchesReference_walk (A : Option Addr) (c : Nat) (l : List StepD) (w : World) (hA : Rd w A (stepsL l)) (ok : ∀ s ∈ l, okStep w s) :
    Calls Try.prog 3 #[.slice A l.length c] w fun e w' => e = .returned (.bool true) ∧ Sat w [] [] w' := by
  refine enter Try.func3 rfl rfl rfl ?_
  refine r_seq ?_
  refine r_region ?_
  refine r_assign rfl rfl ?_
  refine r_nil ?_
  refine r_tn ?_
  refine r_seq ?_
  refine r_seq ?_
  refine r_region ?_
  refine r_call rfl rfl rfl (by kernel_rfl) rfl (fun w hw => by exact awake08 w) ?_
  refine r_not rfl rfl rfl ?_
  refine r_move rfl rfl ?_
  refine r_go rfl rfl ?_
  refine r_move rfl rfl ?_
  refine r_go rfl rfl ?_
  refine r_len rfl rfl rfl ?_
  refine r_go rfl rfl ?_
  refine r_gtr (p := decide (12 < l.length)) rfl rfl rfl (decide_eq_decide.2 ⟨fun _ => by omega, fun _ => by omega⟩) ?_
  refine r_pick_f rfl rfl rfl ?_
  refine r_nil ?_
  refine r_tn ?_
  refine r_cond rfl (fun hc => ?_) (fun hc => ?_)
  · refine r_seq ?_
    refine r_region ?_
    refine r_call rfl rfl rfl (by kernel_rfl) rfl (fun w hw => by exact awake08 w) ?_
    refine r_assign rfl rfl ?_
    refine r_nil ?_
    refine r_tn ?_
    refine r_ret ?_
    refine r_tr ?_
    exact r_done1 (.inl rfl) rfl (res_tmp rfl) fun w hw => ⟨rfl, hw.clear⟩
  · refine r_skip ?_
    refine r_tn ?_
    refine r_seq ?_
    have hl8 : l.length ≤ 12 := by have h := of_decide_eq_false hc; omega
    clear hc
    refine r_region ?_
    refine r_call rfl rfl rfl (by kernel_rfl) rfl (fun w hw => by exact newN08 w) ?_
    refine r_allocV (cs := scrV scr0) (by kernel_rfl) rfl fun b3 => ?_
    refine r_storeV rfl rfl rfl (scrV_size _) (scrV_size _) (scrV_one _) ?_
    refine r_nil ?_
    refine r_tn ?_
    refine r_seq ?_
    refine r_region ?_
    refine r_callx rfl rfl rfl (by kernel_rfl) rfl (fun w hw => by exact refNew08 w) ?_
    rintro i0 hi0
    refine Run.less (fun w hw => by have h1 := hw.perm List.perm_append_comm; simp only [List.nil_append, List.cons_append, List.append_assoc] at h1; exact h1) ?_
    refine r_allocV (cs := #[.slice none 0 0, .bool false, .int .i64 0]) (by kernel_rfl) rfl fun b4 => ?_
    refine r_storeV rfl rfl rfl rfl rfl rfl ?_
    refine r_nil ?_
    refine r_tn ?_
    refine r_seq ?_
    refine r_seq ?_
    refine r_region ?_
    refine r_assign rfl rfl ?_
    refine r_nil ?_
    refine r_tn ?_
    refine r_block ?_
    refine r_loop2 (fun k s (i : RSc) => [(0, .slice A l.length c), (3, .pointer (some ⟨b3, 0, none⟩)), (4, .pointer (some ⟨b4, 0, none⟩)), (5, .int .i64 (k : Int))]) (fun k s i => (.blk b3 (.cells (scrV s) 32 (0, 0)) :: .blk b4 (.cells (rsV i s.hires (s.mask : Int)) 36 (0, 0)) :: i.R)) (fun k s i => k ≤ l.length ∧ s.mask < 16 ∧ inP s.hires s.P ∧ ∀ w1, OkAll i.R w1 → RefS w1 s.P i) l.length 0 scr1 i0 ⟨by omega, by decide, in_none _, hi0⟩ ⟨rfl, rfl, rfl, rfl, trivial⟩ (fun w hw => by have h2 : Sat _ _ (.blk b3 (.cells (scrV scr1) 32 (0, 0)) :: .blk b4 (.cells (rsV i0 false 1) 36 (0, 0)) :: i0.R) w := hw.sub; exact h2) fun k s i hk => ?_
    refine r_seq ?_
    refine r_seq ?_
    refine r_region ?_
    refine r_move rfl rfl ?_
    refine r_move rfl rfl ?_
    refine r_len rfl rfl rfl ?_
    refine r_lss rfl rfl rfl rfl ?_
    refine r_nil ?_
    refine r_tn ?_
    refine r_cond rfl (fun hc => ?_) (fun hc => ?_)
    · refine r_skip ?_
      refine r_tn ?_
      refine r_seq ?_
      refine r_block ?_
      refine r_seq ?_
      refine r_seq ?_
      refine r_mixed (by kernel_rfl) (by kernel_rfl) ?_
      have hkl : k < l.length := by have h := of_decide_eq_true hc; omega
      clear hc
      obtain ⟨hk, hm, hin, hi⟩ := hk
      obtain ⟨ba, oa, rfl⟩ := steps_some hA hkl
      have hri := Rd_step hA hkl
      have okl := ok _ (List.getElem_mem hkl)
      refine r_fieldAddr (off := 513) (o' := 513) rfl rfl rfl rfl ?_
      refine r_load1 rfl rfl rfl (scr_mask s) ?_
      refine r_fieldAddr (off := 2) (o' := 2) rfl rfl rfl rfl ?_
      refine r_load1 rfl rfl rfl (by rfl) ?_
      refine r_neq (p := false) rfl rfl rfl (by simp) ?_
      refine r_move rfl rfl ?_
      refine r_go rfl rfl ?_
      refine r_loadV rfl rfl rfl rfl (scrV_size _) ?_
      refine r_go rfl rfl ?_
      refine r_move rfl rfl ?_
      refine r_go rfl rfl ?_
      refine r_move rfl rfl ?_
      refine r_go rfl rfl ?_
      refine r_indexSl (sz := 9) (o' := oa + k * 9) rfl rfl rfl rfl rfl (by omega) (by omega) (by simp) ?_
      refine r_go rfl rfl ?_
      refine r_loadRd (vs := stepL l[k]) rfl rfl rfl rfl rfl (fun w hw => hri.keep hw) ?_
      refine r_go rfl rfl ?_
      refine r_call rfl rfl rfl (by kernel_rfl) rfl (fun w hw => by exact needs08 s hm l[k] w) ?_
      refine r_go rfl rfl ?_
      refine r_not rfl rfl rfl ?_
      refine r_pick_f rfl rfl rfl ?_
      refine r_nil ?_
      refine r_tn ?_
      refine r_cond_f rfl ?_
      refine r_skip ?_
      refine r_tn ?_
      refine r_seq ?_
      refine r_tree { xb := [], rb := [ba, b3], rs := [41, 45], fs := [], acs := [6] } (.take 0 (.take 1 (.take 2 (.take 3 (.take 4 (.fork 5 (.take 6 (.take 7 (.take 8 (.take 9 (.take 10 (.take 11 .done)))))) 9 (.take 5 (.take 6 (.take 7 (.take 8 (.take 10 (.take 11 .done)))))))))))) (by kernel_rfl) (by kernel_rfl) (fun w hw k2 hk2 => by
        simp only [List.mem_cons, List.not_mem_nil, or_false] at hk2
        rcases hk2 with rfl | rfl
        · exact rd_lt (hri.keep hw) (u := .int .i64 l[k].kind) rfl
        · exact Sat.lt hw) ?_
      refine r_take rfl ?_
      refine r_loadV rfl rfl rfl rfl (scrV_size _) ?_
      refine r_nil ?_
      refine r_take rfl ?_
      refine r_move rfl rfl ?_
      refine r_nil ?_
      refine r_take rfl ?_
      refine r_move rfl rfl ?_
      refine r_nil ?_
      refine r_take rfl ?_
      refine r_indexSl (sz := 9) (o' := oa + k * 9) rfl rfl rfl rfl rfl (by omega) (by omega) (by simp) ?_
      refine r_nil ?_
      refine r_take rfl ?_
      refine r_loadRd (vs := stepL l[k]) rfl rfl rfl rfl rfl (fun w hw => hri.keep hw) ?_
      refine r_nil ?_
      refine r_fork rfl rfl ?_ ?_
      · refine r_call rfl rfl rfl (by kernel_rfl) rfl (fun w hw => by exact do08 s hm l[k] w (okl.keep hw)) ?_
        refine r_nil ?_
        refine r_take rfl ?_
        refine r_move rfl rfl ?_
        refine r_nil ?_
        refine r_take rfl ?_
        refine r_extract rfl rfl rfl ?_
        refine r_nil ?_
        refine r_take rfl ?_
        refine r_extract rfl rfl rfl ?_
        refine r_nil ?_
        refine r_take rfl ?_
        refine r_allocV (cs := scrV scr0) (by kernel_rfl) rfl fun b6 => ?_
        refine r_nil ?_
        refine r_take rfl ?_
        refine r_storeV rfl rfl rfl (scrV_size _) (scrV_size _) (scrV_one _) ?_
        refine r_nil ?_
        refine r_take rfl ?_
        refine r_assign rfl rfl ?_
        refine r_nil ?_
        refine r_treeEnd ?_
        refine r_tn ?_
        refine r_seq ?_
        refine r_tree { xb := [], rb := [ba, b4], rs := [50, 54], fs := [], acs := [8] } (.take 0 (.take 1 (.take 2 (.take 3 (.take 4 (.fork 5 (.take 6 (.take 7 (.take 8 (.take 9 (.take 10 (.take 11 .done)))))) 9 (.take 5 (.take 6 (.take 7 (.take 8 (.take 10 (.take 11 .done)))))))))))) (by kernel_rfl) (by kernel_rfl) (fun w hw k2 hk2 => by
          simp only [List.mem_cons, List.not_mem_nil, or_false] at hk2
          rcases hk2 with rfl | rfl
          · exact rd_lt (hri.keep hw) (u := .int .i64 l[k].kind) rfl
          · exact Sat.lt hw) ?_
        refine r_take rfl ?_
        refine r_loadV rfl rfl rfl rfl rfl ?_
        refine r_nil ?_
        refine r_take rfl ?_
        refine r_move rfl rfl ?_
        refine r_nil ?_
        refine r_take rfl ?_
        refine r_move rfl rfl ?_
        refine r_nil ?_
        refine r_take rfl ?_
        refine r_indexSl (sz := 9) (o' := oa + k * 9) rfl rfl rfl rfl rfl (by omega) (by omega) (by simp) ?_
        refine r_nil ?_
        refine r_take rfl ?_
        refine r_loadRd (vs := stepL l[k]) rfl rfl rfl rfl rfl (fun w hw => hri.keep hw) ?_
        refine r_nil ?_
        refine r_fork rfl rfl ?_ ?_
        · refine r_callx rfl rfl rfl (by kernel_rfl) rfl (fun w hw => by exact model08 s hm hin l[k] i w (hi w (fun x hx => hw.ok x (by simp [hx]))) (okl.keep hw)) ?_
          rintro i2 hi2
          refine Run.less (fun w hw => by have h1 := hw.perm List.perm_append_comm; simp only [List.nil_append, List.cons_append, List.append_assoc] at h1; exact h1) ?_
          refine r_nil ?_
          refine r_take rfl ?_
          refine r_move rfl rfl ?_
          refine r_nil ?_
          refine r_take rfl ?_
          refine r_extract rfl rfl rfl ?_
          refine r_nil ?_
          refine r_take rfl ?_
          refine r_extract rfl rfl rfl ?_
          refine r_nil ?_
          refine r_take rfl ?_
          refine r_allocV (cs := #[.slice none 0 0, .bool false, .int .i64 0]) (by kernel_rfl) rfl fun b8 => ?_
          refine r_nil ?_
          refine r_take rfl ?_
          refine r_storeV rfl rfl rfl rfl rfl rfl ?_
          refine r_nil ?_
          refine r_take rfl ?_
          refine r_assign rfl rfl ?_
          refine r_nil ?_
          refine r_treeEnd ?_
          refine r_tn ?_
          refine r_seq ?_
          refine r_region ?_
          refine r_loadV rfl rfl rfl rfl (scrV_size _) ?_
          refine r_storeV rfl rfl rfl (scrV_size _) (scrV_size _) (scrV_one _) ?_
          refine r_nil ?_
          refine r_tn ?_
          refine r_seq ?_
          refine r_region ?_
          refine r_loadV rfl rfl rfl rfl rfl ?_
          refine r_storeV rfl rfl rfl rfl rfl rfl ?_
          refine r_nil ?_
          refine r_tn ?_
          refine r_seq ?_
          refine r_region ?_
          refine r_move rfl rfl ?_
          refine r_move rfl rfl ?_
          refine r_neq_bool (p := false) rfl rfl rfl rfl (by simp) ?_
          refine r_move rfl rfl ?_
          refine r_go rfl rfl ?_
          refine r_loadV rfl rfl rfl rfl (scrV_size _) ?_
          refine r_go rfl rfl ?_
          refine r_loadV rfl rfl rfl rfl rfl ?_
          refine r_go rfl rfl ?_
          refine r_call rfl rfl rfl (by kernel_rfl) rfl (fun w hw => by exact same08 (doS s l[k]).1 i2 w (hi2 w (hi w (fun x hx => hw.ok x (by simp [hx]))) (fun x hx => hw.ok x (by simp [hx])))) ?_
          refine r_go rfl rfl ?_
          refine r_not rfl rfl rfl ?_
          refine r_pick_f rfl rfl rfl ?_
          refine r_nil ?_
          refine r_tn ?_
          refine r_cond_f rfl ?_
          refine r_skip ?_
          refine r_bn ?_
          refine r_tn ?_
          refine r_region ?_
          refine r_move rfl rfl ?_
          refine r_add rfl rfl rfl (w64 (by omega)) ?_
          refine r_assign rfl rfl ?_
          refine r_nil ?_
          refine r_tn ?_
          exact r_again2 (k + 1) (doS s l[k]).1 ⟨i2.A, i2.c, i2.f, i.R ++ i2.R⟩ ⟨by omega, doS_mask hm _, doS_in hin _, fun w1 h1 => hi2 w1 (hi w1 (fun x hx => h1 x (List.mem_append_left _ hx))) (fun x hx => h1 x (List.mem_append_right _ hx))⟩ (by omega) ⟨rfl, rfl, rfl, rfl, trivial⟩ (fun w hw => by have h2 : Sat _ _ (.blk b3 (.cells (scrV (doS s l[k]).1) 32 (0, 0)) :: .blk b4 (.cells (rsV i2 (doS s l[k]).1.hires ((doS s l[k]).1.mask : Int)) 36 (0, 0)) :: (i.R ++ i2.R)) w := hw.sub; exact h2)
        · refine r_allocV (cs := #[.slice none 0 0, .bool false, .int .i64 0]) (by kernel_rfl) rfl fun b8 => ?_
          refine r_nil ?_
          refine r_take rfl ?_
          refine r_callx rfl rfl rfl (by kernel_rfl) rfl (fun w hw => by exact model08 s hm hin l[k] i w (hi w (fun x hx => hw.ok x (by simp [hx]))) (okl.keep hw)) ?_
          rintro i2 hi2
          refine Run.less (fun w hw => by have h1 := hw.perm List.perm_append_comm; simp only [List.nil_append, List.cons_append, List.append_assoc] at h1; exact h1) ?_
          refine r_nil ?_
          refine r_take rfl ?_
          refine r_move rfl rfl ?_
          refine r_nil ?_
          refine r_take rfl ?_
          refine r_extract rfl rfl rfl ?_
          refine r_nil ?_
          refine r_take rfl ?_
          refine r_extract rfl rfl rfl ?_
          refine r_nil ?_
          refine r_take rfl ?_
          refine r_storeV rfl rfl rfl rfl rfl rfl ?_
          refine r_nil ?_
          refine r_take rfl ?_
          refine r_assign rfl rfl ?_
          refine r_nil ?_
          refine r_treeEnd ?_
          refine r_tn ?_
          refine r_seq ?_
          refine r_region ?_
          refine r_loadV rfl rfl rfl rfl (scrV_size _) ?_
          refine r_storeV rfl rfl rfl (scrV_size _) (scrV_size _) (scrV_one _) ?_
          refine r_nil ?_
          refine r_tn ?_
          refine r_seq ?_
          refine r_region ?_
          refine r_loadV rfl rfl rfl rfl rfl ?_
          refine r_storeV rfl rfl rfl rfl rfl rfl ?_
          refine r_nil ?_
          refine r_tn ?_
          refine r_seq ?_
          refine r_region ?_
          refine r_move rfl rfl ?_
          refine r_move rfl rfl ?_
          refine r_neq_bool (p := false) rfl rfl rfl rfl (by simp) ?_
          refine r_move rfl rfl ?_
          refine r_go rfl rfl ?_
          refine r_loadV rfl rfl rfl rfl (scrV_size _) ?_
          refine r_go rfl rfl ?_
          refine r_loadV rfl rfl rfl rfl rfl ?_
          refine r_go rfl rfl ?_
          refine r_call rfl rfl rfl (by kernel_rfl) rfl (fun w hw => by exact same08 (doS s l[k]).1 i2 w (hi2 w (hi w (fun x hx => hw.ok x (by simp [hx]))) (fun x hx => hw.ok x (by simp [hx])))) ?_
          refine r_go rfl rfl ?_
          refine r_not rfl rfl rfl ?_
          refine r_pick_f rfl rfl rfl ?_
          refine r_nil ?_
          refine r_tn ?_
          refine r_cond_f rfl ?_
          refine r_skip ?_
          refine r_bn ?_
          refine r_tn ?_
          refine r_region ?_
          refine r_move rfl rfl ?_
          refine r_add rfl rfl rfl (w64 (by omega)) ?_
          refine r_assign rfl rfl ?_
          refine r_nil ?_
          refine r_tn ?_
          exact r_again2 (k + 1) (doS s l[k]).1 ⟨i2.A, i2.c, i2.f, i.R ++ i2.R⟩ ⟨by omega, doS_mask hm _, doS_in hin _, fun w1 h1 => hi2 w1 (hi w1 (fun x hx => h1 x (List.mem_append_left _ hx))) (fun x hx => h1 x (List.mem_append_right _ hx))⟩ (by omega) ⟨rfl, rfl, rfl, rfl, trivial⟩ (fun w hw => by have h2 : Sat _ _ (.blk b3 (.cells (scrV (doS s l[k]).1) 32 (0, 0)) :: .blk b4 (.cells (rsV i2 (doS s l[k]).1.hires ((doS s l[k]).1.mask : Int)) 36 (0, 0)) :: (i.R ++ i2.R)) w := hw.sub; exact h2)
      · refine r_allocV (cs := scrV scr0) (by kernel_rfl) rfl fun b6 => ?_
        refine r_nil ?_
        refine r_take rfl ?_
        refine r_call rfl rfl rfl (by kernel_rfl) rfl (fun w hw => by exact do08 s hm l[k] w (okl.keep hw)) ?_
        refine r_nil ?_
        refine r_take rfl ?_
        refine r_move rfl rfl ?_
        refine r_nil ?_
        refine r_take rfl ?_
        refine r_extract rfl rfl rfl ?_
        refine r_nil ?_
        refine r_take rfl ?_
        refine r_extract rfl rfl rfl ?_
        refine r_nil ?_
        refine r_take rfl ?_
        refine r_storeV rfl rfl rfl (scrV_size _) (scrV_size _) (scrV_one _) ?_
        refine r_nil ?_
        refine r_take rfl ?_
        refine r_assign rfl rfl ?_
        refine r_nil ?_
        refine r_treeEnd ?_
        refine r_tn ?_
        refine r_seq ?_
        refine r_tree { xb := [], rb := [ba, b4], rs := [50, 54], fs := [], acs := [8] } (.take 0 (.take 1 (.take 2 (.take 3 (.take 4 (.fork 5 (.take 6 (.take 7 (.take 8 (.take 9 (.take 10 (.take 11 .done)))))) 9 (.take 5 (.take 6 (.take 7 (.take 8 (.take 10 (.take 11 .done)))))))))))) (by kernel_rfl) (by kernel_rfl) (fun w hw k2 hk2 => by
          simp only [List.mem_cons, List.not_mem_nil, or_false] at hk2
          rcases hk2 with rfl | rfl
          · exact rd_lt (hri.keep hw) (u := .int .i64 l[k].kind) rfl
          · exact Sat.lt hw) ?_
        refine r_take rfl ?_
        refine r_loadV rfl rfl rfl rfl rfl ?_
        refine r_nil ?_
        refine r_take rfl ?_
        refine r_move rfl rfl ?_
        refine r_nil ?_
        refine r_take rfl ?_
        refine r_move rfl rfl ?_
        refine r_nil ?_
        refine r_take rfl ?_
        refine r_indexSl (sz := 9) (o' := oa + k * 9) rfl rfl rfl rfl rfl (by omega) (by omega) (by simp) ?_
        refine r_nil ?_
        refine r_take rfl ?_
        refine r_loadRd (vs := stepL l[k]) rfl rfl rfl rfl rfl (fun w hw => hri.keep hw) ?_
        refine r_nil ?_
        refine r_fork rfl rfl ?_ ?_
        · refine r_callx rfl rfl rfl (by kernel_rfl) rfl (fun w hw => by exact model08 s hm hin l[k] i w (hi w (fun x hx => hw.ok x (by simp [hx]))) (okl.keep hw)) ?_
          rintro i2 hi2
          refine Run.less (fun w hw => by have h1 := hw.perm List.perm_append_comm; simp only [List.nil_append, List.cons_append, List.append_assoc] at h1; exact h1) ?_
          refine r_nil ?_
          refine r_take rfl ?_
          refine r_move rfl rfl ?_
          refine r_nil ?_
          refine r_take rfl ?_
          refine r_extract rfl rfl rfl ?_
          refine r_nil ?_
          refine r_take rfl ?_
          refine r_extract rfl rfl rfl ?_
          refine r_nil ?_
          refine r_take rfl ?_
          refine r_allocV (cs := #[.slice none 0 0, .bool false, .int .i64 0]) (by kernel_rfl) rfl fun b8 => ?_
          refine r_nil ?_
          refine r_take rfl ?_
          refine r_storeV rfl rfl rfl rfl rfl rfl ?_
          refine r_nil ?_
          refine r_take rfl ?_
          refine r_assign rfl rfl ?_
          refine r_nil ?_
          refine r_treeEnd ?_
          refine r_tn ?_
          refine r_seq ?_
          refine r_region ?_
          refine r_loadV rfl rfl rfl rfl (scrV_size _) ?_
          refine r_storeV rfl rfl rfl (scrV_size _) (scrV_size _) (scrV_one _) ?_
          refine r_nil ?_
          refine r_tn ?_
          refine r_seq ?_
          refine r_region ?_
          refine r_loadV rfl rfl rfl rfl rfl ?_
          refine r_storeV rfl rfl rfl rfl rfl rfl ?_
          refine r_nil ?_
          refine r_tn ?_
          refine r_seq ?_
          refine r_region ?_
          refine r_move rfl rfl ?_
          refine r_move rfl rfl ?_
          refine r_neq_bool (p := false) rfl rfl rfl rfl (by simp) ?_
          refine r_move rfl rfl ?_
          refine r_go rfl rfl ?_
          refine r_loadV rfl rfl rfl rfl (scrV_size _) ?_
          refine r_go rfl rfl ?_
          refine r_loadV rfl rfl rfl rfl rfl ?_
          refine r_go rfl rfl ?_
          refine r_call rfl rfl rfl (by kernel_rfl) rfl (fun w hw => by exact same08 (doS s l[k]).1 i2 w (hi2 w (hi w (fun x hx => hw.ok x (by simp [hx]))) (fun x hx => hw.ok x (by simp [hx])))) ?_
          refine r_go rfl rfl ?_
          refine r_not rfl rfl rfl ?_
          refine r_pick_f rfl rfl rfl ?_
          refine r_nil ?_
          refine r_tn ?_
          refine r_cond_f rfl ?_
          refine r_skip ?_
          refine r_bn ?_
          refine r_tn ?_
          refine r_region ?_
          refine r_move rfl rfl ?_
          refine r_add rfl rfl rfl (w64 (by omega)) ?_
          refine r_assign rfl rfl ?_
          refine r_nil ?_
          refine r_tn ?_
          exact r_again2 (k + 1) (doS s l[k]).1 ⟨i2.A, i2.c, i2.f, i.R ++ i2.R⟩ ⟨by omega, doS_mask hm _, doS_in hin _, fun w1 h1 => hi2 w1 (hi w1 (fun x hx => h1 x (List.mem_append_left _ hx))) (fun x hx => h1 x (List.mem_append_right _ hx))⟩ (by omega) ⟨rfl, rfl, rfl, rfl, trivial⟩ (fun w hw => by have h2 : Sat _ _ (.blk b3 (.cells (scrV (doS s l[k]).1) 32 (0, 0)) :: .blk b4 (.cells (rsV i2 (doS s l[k]).1.hires ((doS s l[k]).1.mask : Int)) 36 (0, 0)) :: (i.R ++ i2.R)) w := hw.sub; exact h2)
        · refine r_allocV (cs := #[.slice none 0 0, .bool false, .int .i64 0]) (by kernel_rfl) rfl fun b8 => ?_
          refine r_nil ?_
          refine r_take rfl ?_
          refine r_callx rfl rfl rfl (by kernel_rfl) rfl (fun w hw => by exact model08 s hm hin l[k] i w (hi w (fun x hx => hw.ok x (by simp [hx]))) (okl.keep hw)) ?_
          rintro i2 hi2
          refine Run.less (fun w hw => by have h1 := hw.perm List.perm_append_comm; simp only [List.nil_append, List.cons_append, List.append_assoc] at h1; exact h1) ?_
          refine r_nil ?_
          refine r_take rfl ?_
          refine r_move rfl rfl ?_
          refine r_nil ?_
          refine r_take rfl ?_
          refine r_extract rfl rfl rfl ?_
          refine r_nil ?_
          refine r_take rfl ?_
          refine r_extract rfl rfl rfl ?_
          refine r_nil ?_
          refine r_take rfl ?_
          refine r_storeV rfl rfl rfl rfl rfl rfl ?_
          refine r_nil ?_
          refine r_take rfl ?_
          refine r_assign rfl rfl ?_
          refine r_nil ?_
          refine r_treeEnd ?_
          refine r_tn ?_
          refine r_seq ?_
          refine r_region ?_
          refine r_loadV rfl rfl rfl rfl (scrV_size _) ?_
          refine r_storeV rfl rfl rfl (scrV_size _) (scrV_size _) (scrV_one _) ?_
          refine r_nil ?_
          refine r_tn ?_
          refine r_seq ?_
          refine r_region ?_
          refine r_loadV rfl rfl rfl rfl rfl ?_
          refine r_storeV rfl rfl rfl rfl rfl rfl ?_
          refine r_nil ?_
          refine r_tn ?_
          refine r_seq ?_
          refine r_region ?_
          refine r_move rfl rfl ?_
          refine r_move rfl rfl ?_
          refine r_neq_bool (p := false) rfl rfl rfl rfl (by simp) ?_
          refine r_move rfl rfl ?_
          refine r_go rfl rfl ?_
          refine r_loadV rfl rfl rfl rfl (scrV_size _) ?_
          refine r_go rfl rfl ?_
          refine r_loadV rfl rfl rfl rfl rfl ?_
          refine r_go rfl rfl ?_
          refine r_call rfl rfl rfl (by kernel_rfl) rfl (fun w hw => by exact same08 (doS s l[k]).1 i2 w (hi2 w (hi w (fun x hx => hw.ok x (by simp [hx]))) (fun x hx => hw.ok x (by simp [hx])))) ?_
          refine r_go rfl rfl ?_
          refine r_not rfl rfl rfl ?_
          refine r_pick_f rfl rfl rfl ?_
          refine r_nil ?_
          refine r_tn ?_
          refine r_cond_f rfl ?_
          refine r_skip ?_
          refine r_bn ?_
          refine r_tn ?_
          refine r_region ?_
          refine r_move rfl rfl ?_
          refine r_add rfl rfl rfl (w64 (by omega)) ?_
          refine r_assign rfl rfl ?_
          refine r_nil ?_
          refine r_tn ?_
          exact r_again2 (k + 1) (doS s l[k]).1 ⟨i2.A, i2.c, i2.f, i.R ++ i2.R⟩ ⟨by omega, doS_mask hm _, doS_in hin _, fun w1 h1 => hi2 w1 (hi w1 (fun x hx => h1 x (List.mem_append_left _ hx))) (fun x hx => h1 x (List.mem_append_right _ hx))⟩ (by omega) ⟨rfl, rfl, rfl, rfl, trivial⟩ (fun w hw => by have h2 : Sat _ _ (.blk b3 (.cells (scrV (doS s l[k]).1) 32 (0, 0)) :: .blk b4 (.cells (rsV i2 (doS s l[k]).1.hires ((doS s l[k]).1.mask : Int)) 36 (0, 0)) :: (i.R ++ i2.R)) w := hw.sub; exact h2)
    · refine r_exit ?_
      refine r_te ?_
      refine r_te ?_
      refine r_be ?_
      refine r_tn ?_
      refine r_seq ?_
      refine r_region ?_
      refine r_assign rfl rfl ?_
      refine r_nil ?_
      refine r_tn ?_
      refine r_ret ?_
      exact r_done1 (.inl rfl) rfl (res_tmp rfl) fun w hw => ⟨rfl, hw.clear⟩
end Go.Proofs.Ytgamehjakgcgnaa
