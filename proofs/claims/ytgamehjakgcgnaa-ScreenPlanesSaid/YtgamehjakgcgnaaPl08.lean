/-
  Screens (chapter 08): ScreenPlanes.
-/
import Derived.Test.YtgamehjakgcgnaaPlain08
namespace Go.Proofs.Ytgamehjakgcgnaa
open Go Go.RowKit
set_option linter.unusedVariables false
set_option linter.unusedSimpArgs false
set_option maxHeartbeats 2000000
set_option maxRecDepth 4000
attribute [local irreducible] mix
attribute [local irreducible] scrV stP planeV stH sprD drwP drwH scrA scrB fillL doS

theorem ScreenPlanes_nat (A : Option Addr) (c : Nat) (l : List StepD) (q : Nat) (t : StepD) (w : World) (hA : Rd w A (stepsL l)) (ok : ∀ s ∈ l, okStep w s) (hq : q ≤ 255) (okt : okStep w t) :
    Calls Try.prog 4 #[.slice A l.length c, .int .u8 (q : Int), .agg (stepL t).toArray] w fun e w' => e = .returned (.bool true) ∧ Sat w [] [] w' := by
  refine enter Try.func4 rfl rfl rfl ?_
  refine r_seq ?_
  refine r_region ?_
  refine r_boxV rfl rfl fun b5 => ?_
  refine r_assign rfl rfl ?_
  refine r_nil ?_
  refine r_tn ?_
  refine r_seq ?_
  refine r_seq ?_
  refine r_region ?_
  refine r_call rfl rfl rfl (by kernel_rfl) rfl (fun w hw => by exact awake08 w) ?_
  refine r_not rfl rfl rfl ?_
  refine r_move rfl rfl ?_
  refine r_go rfl rfl ?_
  refine r_move rfl rfl ?_
  refine r_go rfl rfl ?_
  refine r_len rfl rfl rfl ?_
  refine r_go rfl rfl ?_
  refine r_gtr (p := decide (8 < l.length)) rfl rfl rfl (decide_eq_decide.2 ⟨fun _ => by omega, fun _ => by omega⟩) ?_
  refine r_pick_f rfl rfl rfl ?_
  refine r_move rfl rfl ?_
  refine r_split 20 rfl (fun hb20 => ?_) (fun hb20 => ?_)
  · refine r_pass rfl rfl rfl rfl ?_
    refine r_pass rfl rfl rfl rfl ?_
    refine r_pass rfl rfl rfl rfl ?_
    refine r_pick_t rfl rfl rfl ?_
    refine r_move rfl rfl ?_
    refine r_pass rfl rfl rfl rfl ?_
    refine r_pass rfl rfl rfl rfl ?_
    refine r_pass rfl rfl rfl rfl ?_
    refine r_pick_t rfl rfl rfl ?_
    refine r_nil ?_
    refine r_tn ?_
    refine r_cond_t rfl ?_
    refine r_seq ?_
    refine r_region ?_
    refine r_call rfl rfl rfl (by kernel_rfl) rfl (fun w hw => by exact awake08 w) ?_
    refine r_assign rfl rfl ?_
    refine r_nil ?_
    refine r_tn ?_
    refine r_ret ?_
    refine r_tr ?_
    exact r_done1 (.inl rfl) rfl (res_tmp rfl) fun w hw => ⟨rfl, hw.clear⟩
  · refine r_go rfl rfl ?_
    refine r_fieldAddr (off := 0) (o' := 0) rfl rfl rfl rfl ?_
    refine r_go rfl rfl ?_
    refine r_load1 rfl rfl rfl (by rfl) ?_
    refine r_go rfl rfl ?_
    refine r_eql (p := decide (t.kind = 0)) rfl rfl rfl rfl ?_
    refine r_pick_f rfl rfl rfl ?_
    refine r_move rfl rfl ?_
    refine r_split 25 rfl (fun hb25 => ?_) (fun hb25 => ?_)
    · refine r_pass rfl rfl rfl rfl ?_
      refine r_pass rfl rfl rfl rfl ?_
      refine r_pass rfl rfl rfl rfl ?_
      refine r_pick_t rfl rfl rfl ?_
      refine r_nil ?_
      refine r_tn ?_
      refine r_cond_t rfl ?_
      refine r_seq ?_
      refine r_region ?_
      refine r_call rfl rfl rfl (by kernel_rfl) rfl (fun w hw => by exact awake08 w) ?_
      refine r_assign rfl rfl ?_
      refine r_nil ?_
      refine r_tn ?_
      refine r_ret ?_
      refine r_tr ?_
      exact r_done1 (.inl rfl) rfl (res_tmp rfl) fun w hw => ⟨rfl, hw.clear⟩
    · refine r_go rfl rfl ?_
      refine r_fieldAddr (off := 0) (o' := 0) rfl rfl rfl rfl ?_
      refine r_go rfl rfl ?_
      refine r_load1 rfl rfl rfl (by rfl) ?_
      refine r_go rfl rfl ?_
      refine r_eql (p := decide (t.kind = 2)) rfl rfl rfl rfl ?_
      refine r_pick_f rfl rfl rfl ?_
      refine r_nil ?_
      refine r_tn ?_
      refine r_cond rfl (fun hc => ?_) (fun hc => ?_)
      · refine r_seq ?_
        refine r_region ?_
        refine r_call rfl rfl rfl (by kernel_rfl) rfl (fun w hw => by exact awake08 w) ?_
        refine r_assign rfl rfl ?_
        refine r_nil ?_
        refine r_tn ?_
        refine r_ret ?_
        refine r_tr ?_
        exact r_done1 (.inl rfl) rfl (res_tmp rfl) fun w hw => ⟨rfl, hw.clear⟩
      · refine r_skip ?_
        refine r_tn ?_
        refine r_seq ?_
        have hl8 : l.length ≤ 8 := by have h := of_decide_eq_false hb20; omega
        have hk0 : t.kind ≠ 0 := of_decide_eq_false hb25
        have hk2 : t.kind ≠ 2 := of_decide_eq_false hc
        clear hc hb20 hb25
        refine r_region ?_
        refine r_call rfl rfl rfl (by kernel_rfl) rfl (fun w hw => by exact newN08 w) ?_
        refine r_allocV (cs := scrV scr0) (by kernel_rfl) rfl fun b7 => ?_
        refine r_storeV rfl rfl rfl (scrV_size _) (scrV_size _) (scrV_one _) ?_
        refine r_nil ?_
        refine r_tn ?_
        refine r_seq ?_
        refine r_seq ?_
        refine r_region ?_
        refine r_assign rfl rfl ?_
        refine r_nil ?_
        refine r_tn ?_
        refine r_block ?_
        refine r_loop1 (fun k s => [(0, .slice A l.length c), (7, .pointer (some ⟨b7, 0, none⟩)), (8, .int .i64 (k : Int)), (1, .int .u8 (q : Int)), (5, .pointer (some ⟨b5, 0, none⟩))]) (fun k s => [.blk b7 (.cells (scrV s) 32 (0, 0)), .blk b5 (.cells (stepL t).toArray 41 (0, 0))]) (fun k s => k ≤ l.length ∧ s.mask < 16) l.length 0 scr1 ⟨by omega, by decide⟩ ⟨rfl, rfl, rfl, rfl, rfl, trivial⟩ (fun w hw => by have h2 : Sat _ _ [.blk b7 (.cells (scrV scr1) 32 (0, 0)), .blk b5 (.cells (stepL t).toArray 41 (0, 0))] w := hw.sub; exact h2) fun k s hk => ?_
        refine r_seq ?_
        refine r_seq ?_
        refine r_region ?_
        refine r_move rfl rfl ?_
        refine r_move rfl rfl ?_
        refine r_len rfl rfl rfl ?_
        refine r_lss rfl rfl rfl rfl ?_
        refine r_nil ?_
        refine r_tn ?_
        refine r_cond rfl (fun hc => ?_) (fun hc => ?_)
        · refine r_skip ?_
          refine r_tn ?_
          refine r_seq ?_
          refine r_block ?_
          refine r_seq ?_
          refine r_seq ?_
          refine r_mixed (by kernel_rfl) (by kernel_rfl) ?_
          have hkl : k < l.length := by have h := of_decide_eq_true hc; omega
          clear hc
          obtain ⟨hk, hm⟩ := hk
          obtain ⟨ba, oa, rfl⟩ := steps_some hA hkl
          have hri := Rd_step hA hkl
          have okl := ok _ (List.getElem_mem hkl)
          refine r_loadV rfl rfl rfl rfl (scrV_size _) ?_
          refine r_move rfl rfl ?_
          refine r_move rfl rfl ?_
          refine r_indexSl (sz := 9) (o' := oa + k * 9) rfl rfl rfl rfl rfl (by omega) (by omega) (by simp) ?_
          refine r_loadRd (vs := stepL l[k]) rfl rfl rfl rfl rfl (fun w hw => hri.keep hw) ?_
          refine r_call rfl rfl rfl (by kernel_rfl) rfl (fun w hw => by exact needs08 s hm l[k] w) ?_
          refine r_not rfl rfl rfl ?_
          refine r_nil ?_
          refine r_tn ?_
          refine r_cond_f rfl ?_
          refine r_skip ?_
          refine r_tn ?_
          refine r_mixed (by kernel_rfl) (by kernel_rfl) ?_
          refine r_loadV rfl rfl rfl rfl (scrV_size _) ?_
          refine r_move rfl rfl ?_
          refine r_move rfl rfl ?_
          refine r_indexSl (sz := 9) (o' := oa + k * 9) rfl rfl rfl rfl rfl (by omega) (by omega) (by simp) ?_
          refine r_loadRd (vs := stepL l[k]) rfl rfl rfl rfl rfl (fun w hw => hri.keep hw) ?_
          refine r_call rfl rfl rfl (by kernel_rfl) rfl (fun w hw => by exact do08 s hm l[k] w (okl.keep hw)) ?_
          refine r_move rfl rfl ?_
          refine r_extract rfl rfl rfl ?_
          refine r_extract rfl rfl rfl ?_
          refine r_storeV rfl rfl rfl (scrV_size _) (scrV_size _) (scrV_one _) ?_
          refine r_nil ?_
          refine r_bn ?_
          refine r_tn ?_
          refine r_region ?_
          refine r_move rfl rfl ?_
          refine r_add rfl rfl rfl (w64 (by omega)) ?_
          refine r_assign rfl rfl ?_
          refine r_nil ?_
          refine r_tn ?_
          exact r_again1 (k + 1) (doS s l[k]).1 ⟨by omega, doS_mask hm _⟩ (by omega) ⟨rfl, rfl, rfl, rfl, rfl, trivial⟩ (fun w hw => hw.sub)
        · refine r_exit ?_
          refine r_te ?_
          refine r_te ?_
          refine r_be ?_
          refine r_tn ?_
          refine r_seq ?_
          refine r_region ?_
          obtain ⟨hk, hm⟩ := hk
          have hm2 : q % 16 < 16 := Nat.mod_lt _ (by omega)
          have hkeep := doS_keeps (s := ⟨s.P, s.hires, q % 16⟩) (t := t) hk0 hk2
          refine r_move rfl rfl ?_
          refine r_rem (r := ((q % 16 : Nat) : Int)) rfl rfl rfl (by decide) rfl ?_
          refine r_convert (r := ((q % 16 : Nat) : Int)) rfl rfl rfl rfl (w64 (by omega)) ?_
          refine r_assign rfl rfl ?_
          refine r_nil ?_
          refine r_tn ?_
          refine r_seq ?_
          refine r_region ?_
          refine r_loadV rfl rfl rfl rfl (scrV_size _) ?_
          refine r_move rfl rfl ?_
          refine r_call rfl rfl rfl (by kernel_rfl) rfl (fun w hw => by exact select08 s (q % 16) w) ?_
          refine r_storeV rfl rfl rfl (scrV_size _) (scrV_size _) (scrV_one _) ?_
          refine r_nil ?_
          refine r_tn ?_
          refine r_seq ?_
          refine r_seq ?_
          refine r_region ?_
          refine r_loadV rfl rfl rfl rfl (scrV_size _) ?_
          refine r_loadV rfl rfl rfl rfl rfl ?_
          refine r_call rfl rfl rfl (by kernel_rfl) rfl (fun w hw => by exact needs08 ⟨s.P, s.hires, q % 16⟩ hm2 t w) ?_
          refine r_not rfl rfl rfl ?_
          refine r_nil ?_
          refine r_tn ?_
          refine r_cond_f rfl ?_
          refine r_skip ?_
          refine r_tn ?_
          refine r_seq ?_
          refine r_region ?_
          refine r_loadV rfl rfl rfl rfl (scrV_size _) ?_
          refine r_loadV rfl rfl rfl rfl rfl ?_
          refine r_call rfl rfl rfl (by kernel_rfl) rfl (fun w hw => by exact do08 ⟨s.P, s.hires, q % 16⟩ hm2 t w (okt.keep hw)) ?_
          refine r_move rfl rfl ?_
          refine r_extract rfl rfl rfl ?_
          refine r_extract rfl rfl rfl ?_
          refine r_allocV (cs := scrV scr0) (by kernel_rfl) rfl fun b10 => ?_
          refine r_storeV rfl rfl rfl (scrV_size _) (scrV_size _) (scrV_one _) ?_
          refine r_assign rfl rfl ?_
          refine r_nil ?_
          refine r_tn ?_
          refine r_seq ?_
          refine r_seq ?_
          refine r_region ?_
          refine r_assign rfl rfl ?_
          refine r_nil ?_
          refine r_tn ?_
          refine r_block ?_
          refine r_loopN (fun i => [(7, .pointer (some ⟨b7, 0, none⟩)), (9, .int .i64 ((q % 16 : Nat) : Int)), (10, .pointer (some ⟨b10, 0, none⟩)), (12, .int .i64 (i : Int))]) (fun _ => [.blk b10 (.cells (scrV (doS ⟨s.P, s.hires, q % 16⟩ t).1) 32 (0, 0)), .blk b7 (.cells (scrV ⟨s.P, s.hires, q % 16⟩) 32 (0, 0))]) (fun i => i ≤ 4) 4 0 (by omega) ⟨rfl, rfl, rfl, rfl, trivial⟩ (fun w hw => hw.sub) fun i hi => ?_
          refine r_seq ?_
          refine r_seq ?_
          refine r_region ?_
          refine r_move rfl rfl ?_
          refine r_lss rfl rfl rfl rfl ?_
          refine r_nil ?_
          refine r_tn ?_
          refine r_cond rfl (fun hc => ?_) (fun hc => ?_)
          · refine r_skip ?_
            refine r_tn ?_
            refine r_seq ?_
            refine r_block ?_
            refine r_seq ?_
            refine r_mixed (by kernel_rfl) (by kernel_rfl) ?_
            have hi4 : i < 4 := by have h := of_decide_eq_true hc; omega
            clear hc
            refine r_move rfl rfl ?_
            refine r_move rfl rfl ?_
            refine r_call rfl rfl rfl (by kernel_rfl) rfl (fun w hw => by exact on08 (q % 16) i hm2 (by omega) w) ?_
            refine r_not rfl rfl rfl ?_
            refine r_move rfl rfl ?_
            refine r_split 78 rfl (fun hb78 => ?_) (fun hb78 => ?_)
            · refine r_go rfl rfl ?_
              refine r_move rfl rfl ?_
              refine r_go rfl rfl ?_
              refine r_fieldAddr (off := 0) (o' := 0) rfl rfl rfl rfl ?_
              refine r_go rfl rfl ?_
              refine r_indexArr (sz := 128) (o' := 128 * i) rfl rfl rfl rfl rfl (by omega) (by omega) (by omega) ?_
              refine r_go rfl rfl ?_
              refine r_loadN (m := 128) rfl rfl rfl rfl (by rw [scrV_size]; omega) (scr_plane _ hi4) ?_
              refine r_go rfl rfl ?_
              refine r_move rfl rfl ?_
              refine r_go rfl rfl ?_
              refine r_fieldAddr (off := 0) (o' := 0) rfl rfl rfl rfl ?_
              refine r_go rfl rfl ?_
              refine r_indexArr (sz := 128) (o' := 128 * i) rfl rfl rfl rfl rfl (by omega) (by omega) (by omega) ?_
              refine r_go rfl rfl ?_
              refine r_loadN (m := 128) rfl rfl rfl rfl (by rw [scrV_size]; omega) (scr_plane _ hi4) ?_
              refine r_go rfl rfl ?_
              refine r_neqAgg (p := false) rfl rfl rfl planeFlat (planeV_ok _) (planeV_ok _) (by rw [hkeep.2.2 i (by simpa using hb78), cellsEq_self (planeV_ok _)]; rfl) ?_
              refine r_pick_t rfl rfl rfl ?_
              refine r_nil ?_
              refine r_tn ?_
              refine r_cond_f rfl ?_
              refine r_skip ?_
              refine r_bn ?_
              refine r_tn ?_
              refine r_region ?_
              refine r_move rfl rfl ?_
              refine r_add rfl rfl rfl (w64 (by omega)) ?_
              refine r_assign rfl rfl ?_
              refine r_nil ?_
              refine r_tn ?_
              exact r_againN (i + 1) (by omega) (by omega) ⟨rfl, rfl, rfl, rfl, trivial⟩ (fun w hw => hw.sub)
            · refine r_pass rfl rfl rfl rfl ?_
              refine r_pass rfl rfl rfl rfl ?_
              refine r_pass rfl rfl rfl rfl ?_
              refine r_pass rfl rfl rfl rfl ?_
              refine r_pass rfl rfl rfl rfl ?_
              refine r_pass rfl rfl rfl rfl ?_
              refine r_pass rfl rfl rfl rfl ?_
              refine r_pass rfl rfl rfl rfl ?_
              refine r_pass rfl rfl rfl rfl ?_
              refine r_pick_f rfl rfl rfl ?_
              refine r_nil ?_
              refine r_tn ?_
              refine r_cond_f rfl ?_
              refine r_skip ?_
              refine r_bn ?_
              refine r_tn ?_
              refine r_region ?_
              refine r_move rfl rfl ?_
              refine r_add rfl rfl rfl (w64 (by omega)) ?_
              refine r_assign rfl rfl ?_
              refine r_nil ?_
              refine r_tn ?_
              exact r_againN (i + 1) (by omega) (by omega) ⟨rfl, rfl, rfl, rfl, trivial⟩ (fun w hw => hw.sub)
          · refine r_exit ?_
            refine r_te ?_
            refine r_te ?_
            refine r_be ?_
            refine r_tn ?_
            refine r_seq ?_
            refine r_region ?_
            refine r_fieldAddr (off := 513) (o' := 513) rfl rfl rfl rfl ?_
            refine r_load1 rfl rfl rfl (scr_mask _) ?_
            refine r_move rfl rfl ?_
            refine r_eql (p := true) rfl rfl rfl (decide_eq_true (congrArg Int.ofNat hkeep.1)) ?_
            refine r_move rfl rfl ?_
            refine r_go rfl rfl ?_
            refine r_fieldAddr (off := 512) (o' := 512) rfl rfl rfl rfl ?_
            refine r_go rfl rfl ?_
            refine r_load1 rfl rfl rfl (scr_hires _) ?_
            refine r_go rfl rfl ?_
            refine r_fieldAddr (off := 512) (o' := 512) rfl rfl rfl rfl ?_
            refine r_go rfl rfl ?_
            refine r_load1 rfl rfl rfl (scr_hires _) ?_
            refine r_go rfl rfl ?_
            refine r_eql_bool (p := true) rfl rfl rfl rfl (by rw [hkeep.2.1]; simp) ?_
            refine r_pick_t rfl rfl rfl ?_
            refine r_assign rfl rfl ?_
            refine r_nil ?_
            refine r_tn ?_
            refine r_ret ?_
            exact r_done1 (.inl rfl) rfl (res_tmp rfl) fun w hw => ⟨rfl, hw.clear⟩

theorem ScreenPlanes_walk (A : Option Addr) (c : Nat) (l : List StepD) (mask : Int) (t : StepD) (w : World) (hA : Rd w A (stepsL l)) (ok : ∀ s ∈ l, okStep w s) (hq : (Lit.int .u8 mask).wf = true) (okt : okStep w t) :
    Calls Try.prog 4 #[.slice A l.length c, .int .u8 mask, .agg (stepL t).toArray] w fun e w' => e = .returned (.bool true) ∧ Sat w [] [] w' := by
  have h := wfu8' hq
  obtain ⟨q, rfl⟩ : ∃ q : Nat, mask = q := ⟨mask.toNat, by omega⟩
  exact ScreenPlanes_nat A c l q t w hA ok (by omega) okt

end Go.Proofs.Ytgamehjakgcgnaa
