/-
  Screens (chapter 08): ScreenColors.
-/
import Derived.Test.YtgamehjakgcgnaaPlain08
namespace Go.Proofs.Ytgamehjakgcgnaa
open Go Go.RowKit
set_option linter.unusedVariables false
set_option linter.unusedSimpArgs false
set_option maxHeartbeats 2000000
set_option maxRecDepth 4000
attribute [local irreducible] mix
attribute [local irreducible] scrV stP planeV stH sprD drwP drwH scrA scrB fillL doS

theorem ScreenColors_walk (A : Option Addr) (c : Nat) (l : List StepD) (x y : Int) (w : World) (hA : Rd w A (stepsL l)) (ok : ∀ s ∈ l, okStep w s) :
    Calls Try.prog 6 #[.slice A l.length c, .int .i64 x, .int .i64 y] w fun e w' => e = .returned (.bool true) ∧ Sat w [] [] w' := by
  refine enter Try.func6 rfl rfl rfl ?_
  refine r_seq ?_
  refine r_region ?_
  refine r_assign rfl rfl ?_
  refine r_nil ?_
  refine r_tn ?_
  refine r_seq ?_
  refine r_seq ?_
  refine r_region ?_
  refine r_call rfl rfl rfl (by kernel_rfl) rfl (fun w hw => by exact awake08 w) ?_
  refine r_not rfl rfl rfl ?_
  refine r_move rfl rfl ?_
  refine r_go rfl rfl ?_
  refine r_move rfl rfl ?_
  refine r_go rfl rfl ?_
  refine r_len rfl rfl rfl ?_
  refine r_go rfl rfl ?_
  refine r_gtr (p := decide (8 < l.length)) rfl rfl rfl (decide_eq_decide.2 ⟨fun _ => by omega, fun _ => by omega⟩) ?_
  refine r_pick_f rfl rfl rfl ?_
  refine r_nil ?_
  refine r_tn ?_
  refine r_cond rfl (fun hc => ?_) (fun hc => ?_)
  · refine r_seq ?_
    refine r_region ?_
    refine r_call rfl rfl rfl (by kernel_rfl) rfl (fun w hw => by exact awake08 w) ?_
    refine r_assign rfl rfl ?_
    refine r_nil ?_
    refine r_tn ?_
    refine r_ret ?_
    refine r_tr ?_
    exact r_done1 (.inl rfl) rfl (res_tmp rfl) fun w hw => ⟨rfl, hw.clear⟩
  · refine r_skip ?_
    refine r_tn ?_
    refine r_seq ?_
    have hl8 : l.length ≤ 8 := by have h := of_decide_eq_false hc; omega
    clear hc
    refine r_region ?_
    refine r_call rfl rfl rfl (by kernel_rfl) rfl (fun w hw => by exact newN08 w) ?_
    refine r_allocV (cs := scrV scr0) (by kernel_rfl) rfl fun b7 => ?_
    refine r_storeV rfl rfl rfl (scrV_size _) (scrV_size _) (scrV_one _) ?_
    refine r_nil ?_
    refine r_tn ?_
    refine r_seq ?_
    refine r_seq ?_
    refine r_region ?_
    refine r_assign rfl rfl ?_
    refine r_nil ?_
    refine r_tn ?_
    refine r_block ?_
    refine r_loop1 (fun k s => [(0, .slice A l.length c), (7, .pointer (some ⟨b7, 0, none⟩)), (8, .int .i64 (k : Int)), (1, .int .i64 x), (2, .int .i64 y)]) (fun k s => [.blk b7 (.cells (scrV s) 32 (0, 0))]) (fun k s => k ≤ l.length ∧ s.mask < 16) l.length 0 scr1 ⟨by omega, by decide⟩ ⟨rfl, rfl, rfl, rfl, rfl, trivial⟩ (fun w hw => by have h2 : Sat _ _ [.blk b7 (.cells (scrV scr1) 32 (0, 0))] w := hw.sub; exact h2) fun k s hk => ?_
    refine r_seq ?_
    refine r_seq ?_
    refine r_region ?_
    refine r_move rfl rfl ?_
    refine r_move rfl rfl ?_
    refine r_len rfl rfl rfl ?_
    refine r_lss rfl rfl rfl rfl ?_
    refine r_nil ?_
    refine r_tn ?_
    refine r_cond rfl (fun hc => ?_) (fun hc => ?_)
    · refine r_skip ?_
      refine r_tn ?_
      refine r_seq ?_
      refine r_block ?_
      refine r_seq ?_
      refine r_seq ?_
      refine r_mixed (by kernel_rfl) (by kernel_rfl) ?_
      have hkl : k < l.length := by have h := of_decide_eq_true hc; omega
      clear hc
      obtain ⟨hk, hm⟩ := hk
      obtain ⟨ba, oa, rfl⟩ := steps_some hA hkl
      have hri := Rd_step hA hkl
      have okl := ok _ (List.getElem_mem hkl)
      refine r_loadV rfl rfl rfl rfl (scrV_size _) ?_
      refine r_move rfl rfl ?_
      refine r_move rfl rfl ?_
      refine r_indexSl (sz := 9) (o' := oa + k * 9) rfl rfl rfl rfl rfl (by omega) (by omega) (by simp) ?_
      refine r_loadRd (vs := stepL l[k]) rfl rfl rfl rfl rfl (fun w hw => hri.keep hw) ?_
      refine r_call rfl rfl rfl (by kernel_rfl) rfl (fun w hw => by exact needs08 s hm l[k] w) ?_
      refine r_not rfl rfl rfl ?_
      refine r_nil ?_
      refine r_tn ?_
      refine r_cond_f rfl ?_
      refine r_skip ?_
      refine r_tn ?_
      refine r_mixed (by kernel_rfl) (by kernel_rfl) ?_
      refine r_loadV rfl rfl rfl rfl (scrV_size _) ?_
      refine r_move rfl rfl ?_
      refine r_move rfl rfl ?_
      refine r_indexSl (sz := 9) (o' := oa + k * 9) rfl rfl rfl rfl rfl (by omega) (by omega) (by simp) ?_
      refine r_loadRd (vs := stepL l[k]) rfl rfl rfl rfl rfl (fun w hw => hri.keep hw) ?_
      refine r_call rfl rfl rfl (by kernel_rfl) rfl (fun w hw => by exact do08 s hm l[k] w (okl.keep hw)) ?_
      refine r_move rfl rfl ?_
      refine r_extract rfl rfl rfl ?_
      refine r_extract rfl rfl rfl ?_
      refine r_storeV rfl rfl rfl (scrV_size _) (scrV_size _) (scrV_one _) ?_
      refine r_nil ?_
      refine r_bn ?_
      refine r_tn ?_
      refine r_region ?_
      refine r_move rfl rfl ?_
      refine r_add rfl rfl rfl (w64 (by omega)) ?_
      refine r_assign rfl rfl ?_
      refine r_nil ?_
      refine r_tn ?_
      exact r_again1 (k + 1) (doS s l[k]).1 ⟨by omega, doS_mask hm _⟩ (by omega) ⟨rfl, rfl, rfl, rfl, rfl, trivial⟩ (fun w hw => hw.sub)
    · refine r_exit ?_
      refine r_te ?_
      refine r_te ?_
      refine r_be ?_
      refine r_tn ?_
      refine r_seq ?_
      refine r_region ?_
      obtain ⟨hk, hm⟩ := hk
      refine r_loadV rfl rfl rfl rfl (scrV_size _) ?_
      refine r_move rfl rfl ?_
      refine r_move rfl rfl ?_
      refine r_call rfl rfl rfl (by kernel_rfl) rfl (fun w hw => by exact color08 s x y w) ?_
      refine r_assign rfl rfl ?_
      refine r_nil ?_
      refine r_tn ?_
      refine r_seq ?_
      refine r_seq ?_
      refine r_region ?_
      refine r_assign rfl rfl ?_
      refine r_nil ?_
      refine r_tn ?_
      refine r_block ?_
      refine r_loopN (fun i => [(1, .int .i64 x), (2, .int .i64 y), (7, .pointer (some ⟨b7, 0, none⟩)), (9, .int .i64 ((num (fun i => pixQ (s.P i) x y) 4 : Nat) : Int)), (10, .int .i64 (i : Int))]) (fun _ => [.blk b7 (.cells (scrV s) 32 (0, 0))]) (fun i => i ≤ 4) 4 0 (by omega) ⟨rfl, rfl, rfl, rfl, rfl, trivial⟩ (fun w hw => hw.sub) fun i hi => ?_
      refine r_seq ?_
      refine r_seq ?_
      refine r_region ?_
      refine r_move rfl rfl ?_
      refine r_lss rfl rfl rfl rfl ?_
      refine r_nil ?_
      refine r_tn ?_
      refine r_cond rfl (fun hc => ?_) (fun hc => ?_)
      · refine r_skip ?_
        refine r_tn ?_
        refine r_seq ?_
        refine r_block ?_
        refine r_seq ?_
        refine r_mixedD { xb := [], rb := [b7], rs := [56], fs := [], acs := [52] } (by kernel_rfl) (by kernel_rfl) (fun w hw k hk => by
          simp only [List.mem_cons, List.not_mem_nil, or_false] at hk
          rcases hk with rfl <;> exact Sat.lt hw) ?_
        have hi4 : i < 4 := by have h := of_decide_eq_true hc; omega
        clear hc
        refine r_move rfl rfl ?_
        refine r_move rfl rfl ?_
        refine r_call rfl rfl rfl (by kernel_rfl) rfl (fun w hw => by exact onN08 s x y i hi4 w) ?_
        refine r_move rfl rfl ?_
        refine r_fieldAddr (off := 0) (o' := 0) rfl rfl rfl rfl ?_
        refine r_indexArr (sz := 128) (o' := 128 * i) rfl rfl rfl rfl rfl (by omega) (by omega) (by omega) ?_
        refine r_loadN (m := 128) rfl rfl rfl rfl (by rw [scrV_size]; omega) (scr_plane _ hi4) ?_
        refine r_move rfl rfl ?_
        refine r_move rfl rfl ?_
        refine r_call rfl rfl rfl (by kernel_rfl) rfl (fun w hw => by exact pixel07 (s.P i) x y w) ?_
        refine r_neq_bool (p := false) rfl rfl rfl rfl (by simp) ?_
        refine r_nil ?_
        refine r_tn ?_
        refine r_cond_f rfl ?_
        refine r_skip ?_
        refine r_bn ?_
        refine r_tn ?_
        refine r_region ?_
        refine r_move rfl rfl ?_
        refine r_add rfl rfl rfl (w64 (by omega)) ?_
        refine r_assign rfl rfl ?_
        refine r_nil ?_
        refine r_tn ?_
        exact r_againN (i + 1) (by omega) (by omega) ⟨rfl, rfl, rfl, rfl, rfl, trivial⟩ (fun w hw => hw.sub)
      · refine r_exit ?_
        refine r_te ?_
        refine r_te ?_
        refine r_be ?_
        refine r_tn ?_
        refine r_seq ?_
        refine r_region ?_
        have hn := num_lt (fun i => pixQ (s.P i) x y) 4
        refine r_move rfl rfl ?_
        refine r_geq (p := true) rfl rfl rfl (decide_eq_true (by omega)) ?_
        refine r_move rfl rfl ?_
        refine r_go rfl rfl ?_
        refine r_move rfl rfl ?_
        refine r_go rfl rfl ?_
        refine r_leq (p := true) rfl rfl rfl (decide_eq_true (by have h16 : (2 : Nat) ^ 4 = 16 := rfl; omega)) ?_
        refine r_pick_t rfl rfl rfl ?_
        refine r_assign rfl rfl ?_
        refine r_nil ?_
        refine r_tn ?_
        refine r_ret ?_
        exact r_done1 (.inl rfl) rfl (res_tmp rfl) fun w hw => ⟨rfl, hw.clear⟩
end Go.Proofs.Ytgamehjakgcgnaa
