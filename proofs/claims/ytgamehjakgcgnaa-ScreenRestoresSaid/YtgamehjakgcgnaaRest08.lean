/-
  Screens (chapter 08): ScreenRestores.
-/
import Derived.Test.YtgamehjakgcgnaaTwice08
namespace Go.Proofs.Ytgamehjakgcgnaa
open Go Go.RowKit
set_option linter.unusedVariables false
set_option linter.unusedSimpArgs false
set_option maxHeartbeats 2000000
set_option maxRecDepth 4000
attribute [local irreducible] mix
attribute [local irreducible] scrV stP planeV stH sprD drwP drwH scrA scrB fillL doS

theorem ScreenRestores_walk (A : Option Addr) (c : Nat) (l : List StepD) (t : StepD) (w : World) (hA : Rd w A (stepsL l)) (ok : ∀ s ∈ l, okStep w s) (okt : okStep w t) :
    Calls Try.prog 7 #[.slice A l.length c, .agg (stepL t).toArray] w fun e w' => e = .returned (.bool true) ∧ Sat w [] [] w' := by
  refine enter Try.func7 rfl rfl rfl ?_
  refine r_seq ?_
  refine r_region ?_
  refine r_boxV rfl rfl fun b3 => ?_
  refine r_assign rfl rfl ?_
  refine r_nil ?_
  refine r_tn ?_
  refine r_seq ?_
  refine r_seq ?_
  refine r_region ?_
  refine r_call rfl rfl rfl (by kernel_rfl) rfl (fun w hw => by exact awake08 w) ?_
  refine r_not rfl rfl rfl ?_
  refine r_move rfl rfl ?_
  refine r_go rfl rfl ?_
  refine r_move rfl rfl ?_
  refine r_go rfl rfl ?_
  refine r_len rfl rfl rfl ?_
  refine r_go rfl rfl ?_
  refine r_gtr (p := decide (8 < l.length)) rfl rfl rfl (decide_eq_decide.2 ⟨fun _ => by omega, fun _ => by omega⟩) ?_
  refine r_pick_f rfl rfl rfl ?_
  refine r_nil ?_
  refine r_tn ?_
  refine r_cond rfl (fun hc => ?_) (fun hc => ?_)
  · refine r_seq ?_
    refine r_region ?_
    refine r_call rfl rfl rfl (by kernel_rfl) rfl (fun w hw => by exact awake08 w) ?_
    refine r_assign rfl rfl ?_
    refine r_nil ?_
    refine r_tn ?_
    refine r_ret ?_
    refine r_tr ?_
    exact r_done1 (.inl rfl) rfl (res_tmp rfl) fun w hw => ⟨rfl, hw.clear⟩
  · refine r_skip ?_
    refine r_tn ?_
    refine r_seq ?_
    have hl8 : l.length ≤ 8 := by have h := of_decide_eq_false hc; omega
    clear hc
    refine r_region ?_
    refine r_call rfl rfl rfl (by kernel_rfl) rfl (fun w hw => by exact newN08 w) ?_
    refine r_allocV (cs := scrV scr0) (by kernel_rfl) rfl fun b5 => ?_
    refine r_storeV rfl rfl rfl (scrV_size _) (scrV_size _) (scrV_one _) ?_
    refine r_nil ?_
    refine r_tn ?_
    refine r_seq ?_
    refine r_seq ?_
    refine r_region ?_
    refine r_assign rfl rfl ?_
    refine r_nil ?_
    refine r_tn ?_
    refine r_block ?_
    refine r_loop1 (fun k s => [(0, .slice A l.length c), (5, .pointer (some ⟨b5, 0, none⟩)), (6, .int .i64 (k : Int)), (3, .pointer (some ⟨b3, 0, none⟩))]) (fun k s => [.blk b5 (.cells (scrV s) 32 (0, 0)), .blk b3 (.cells (stepL t).toArray 41 (0, 0))]) (fun k s => k ≤ l.length ∧ s.mask < 16) l.length 0 scr1 ⟨by omega, by decide⟩ ⟨rfl, rfl, rfl, rfl, trivial⟩ (fun w hw => by have h2 : Sat _ _ [.blk b5 (.cells (scrV scr1) 32 (0, 0)), .blk b3 (.cells (stepL t).toArray 41 (0, 0))] w := hw.sub; exact h2) fun k s hk => ?_
    refine r_seq ?_
    refine r_seq ?_
    refine r_region ?_
    refine r_move rfl rfl ?_
    refine r_move rfl rfl ?_
    refine r_len rfl rfl rfl ?_
    refine r_lss rfl rfl rfl rfl ?_
    refine r_nil ?_
    refine r_tn ?_
    refine r_cond rfl (fun hc => ?_) (fun hc => ?_)
    · refine r_skip ?_
      refine r_tn ?_
      refine r_seq ?_
      refine r_block ?_
      refine r_seq ?_
      refine r_seq ?_
      refine r_mixed (by kernel_rfl) (by kernel_rfl) ?_
      have hkl : k < l.length := by have h := of_decide_eq_true hc; omega
      clear hc
      obtain ⟨hk, hm⟩ := hk
      obtain ⟨ba, oa, rfl⟩ := steps_some hA hkl
      have hri := Rd_step hA hkl
      have okl := ok _ (List.getElem_mem hkl)
      refine r_loadV rfl rfl rfl rfl (scrV_size _) ?_
      refine r_move rfl rfl ?_
      refine r_move rfl rfl ?_
      refine r_indexSl (sz := 9) (o' := oa + k * 9) rfl rfl rfl rfl rfl (by omega) (by omega) (by simp) ?_
      refine r_loadRd (vs := stepL l[k]) rfl rfl rfl rfl rfl (fun w hw => hri.keep hw) ?_
      refine r_call rfl rfl rfl (by kernel_rfl) rfl (fun w hw => by exact needs08 s hm l[k] w) ?_
      refine r_not rfl rfl rfl ?_
      refine r_nil ?_
      refine r_tn ?_
      refine r_cond_f rfl ?_
      refine r_skip ?_
      refine r_tn ?_
      refine r_mixed (by kernel_rfl) (by kernel_rfl) ?_
      refine r_loadV rfl rfl rfl rfl (scrV_size _) ?_
      refine r_move rfl rfl ?_
      refine r_move rfl rfl ?_
      refine r_indexSl (sz := 9) (o' := oa + k * 9) rfl rfl rfl rfl rfl (by omega) (by omega) (by simp) ?_
      refine r_loadRd (vs := stepL l[k]) rfl rfl rfl rfl rfl (fun w hw => hri.keep hw) ?_
      refine r_call rfl rfl rfl (by kernel_rfl) rfl (fun w hw => by exact do08 s hm l[k] w (okl.keep hw)) ?_
      refine r_move rfl rfl ?_
      refine r_extract rfl rfl rfl ?_
      refine r_extract rfl rfl rfl ?_
      refine r_storeV rfl rfl rfl (scrV_size _) (scrV_size _) (scrV_one _) ?_
      refine r_nil ?_
      refine r_bn ?_
      refine r_tn ?_
      refine r_region ?_
      refine r_move rfl rfl ?_
      refine r_add rfl rfl rfl (w64 (by omega)) ?_
      refine r_assign rfl rfl ?_
      refine r_nil ?_
      refine r_tn ?_
      exact r_again1 (k + 1) (doS s l[k]).1 ⟨by omega, doS_mask hm _⟩ (by omega) ⟨rfl, rfl, rfl, rfl, trivial⟩ (fun w hw => hw.sub)
    · refine r_exit ?_
      refine r_te ?_
      refine r_te ?_
      refine r_be ?_
      refine r_tn ?_
      refine r_seq ?_
      refine r_seq ?_
      refine r_region ?_
      obtain ⟨hk, hm⟩ := hk
      have hnl := need_le (m := s.mask) (n := mN t.n 16) (by have h := mN_lt (a := t.n) (m := 16) (by omega); omega) t.big
      have hd8 : ∀ z ∈ t.d, 0 ≤ z ∧ z ≤ 255 := okt.2.2.2.2.2.2.1
      refine r_fieldAddr (off := 513) (o' := 513) rfl rfl rfl rfl ?_
      refine r_load1 rfl rfl rfl (scr_mask _) ?_
      refine r_lss (p := false) rfl rfl rfl (decide_eq_false (by omega)) ?_
      refine r_move rfl rfl ?_
      refine r_go rfl rfl ?_
      refine r_fieldAddr (off := 513) (o' := 513) rfl rfl rfl rfl ?_
      refine r_go rfl rfl ?_
      refine r_load1 rfl rfl rfl (scr_mask _) ?_
      refine r_go rfl rfl ?_
      refine r_gtr (p := false) rfl rfl rfl (decide_eq_false (by omega)) ?_
      refine r_pick_f rfl rfl rfl ?_
      refine r_move rfl rfl ?_
      refine r_go rfl rfl ?_
      refine r_loadV rfl rfl rfl rfl (scrV_size _) ?_
      refine r_go rfl rfl ?_
      refine r_loadV rfl rfl rfl rfl rfl ?_
      refine r_go rfl rfl ?_
      refine r_call rfl rfl rfl (by kernel_rfl) rfl (fun w hw => by exact needs08 s hm t w) ?_
      refine r_go rfl rfl ?_
      refine r_not rfl rfl rfl ?_
      refine r_pick_f rfl rfl rfl ?_
      refine r_nil ?_
      refine r_tn ?_
      refine r_cond_f rfl ?_
      refine r_skip ?_
      refine r_tn ?_
      refine r_seq ?_
      refine r_region ?_
      refine r_fieldAddr (off := 5) (o' := 5) rfl rfl rfl rfl ?_
      refine r_load1 rfl rfl rfl (by rfl) ?_
      refine r_call rfl rfl rfl (by kernel_rfl) rfl (fun w hw => by exact modN08 t.n 16 (.inl rfl) w) ?_
      refine r_assign rfl rfl ?_
      refine r_nil ?_
      refine r_tn ?_
      refine r_seq ?_
      refine r_mixedD { xb := [], rb := [b3], rs := [64], fs := [], acs := [70] } (by kernel_rfl) (by kernel_rfl) (fun w hw k hk => by
        simp only [List.mem_cons, List.not_mem_nil, or_false] at hk
        rcases hk with rfl <;> exact Sat.lt hw) ?_
      refine r_fieldAddr (off := 8) (o' := 8) rfl rfl rfl rfl ?_
      refine r_load1 rfl rfl rfl (by rfl) ?_
      refine r_fieldAddr (off := 513) (o' := 513) rfl rfl rfl rfl ?_
      refine r_load1 rfl rfl rfl (scr_mask _) ?_
      refine r_move rfl rfl ?_
      refine r_fieldAddr (off := 6) (o' := 6) rfl rfl rfl rfl ?_
      refine r_load1 rfl rfl rfl (by rfl) ?_
      refine r_call rfl rfl rfl (by kernel_rfl) rfl (fun w hw => by exact refNeed08 s.mask (mN t.n 16) hm (by have h := mN_lt (a := t.n) (m := 16) (by omega); omega) t.big w) ?_
      refine r_callx rfl rfl rfl (by kernel_rfl) rfl (fun w hw => by exact fill08 t.d ((sel s.mask).length * perN (mN t.n 16) t.big) t.A t.c (by omega) w (okt.2.2.2.2.2.1.keep hw)) ?_
      rintro b71 _
      refine r_assign rfl rfl ?_
      refine r_nil ?_
      refine r_tn ?_
      refine r_seq ?_
      refine r_cut (ι := Nat) (fun b9 => ([(3, .pointer (some ⟨b3, 0, none⟩)), (5, .pointer (some ⟨b5, 0, none⟩)), (7, .int .i64 ((mN t.n 16 : Nat) : Int)), (8, .slice (some ⟨b71, 0, none⟩) ((sel s.mask).length * perN (mN t.n 16) t.big) ((sel s.mask).length * perN (mN t.n 16) t.big)), (9, .pointer (some ⟨b9, 0, none⟩))], [.blk b9 (.cells (scrV (drwP s (mN t.x 256) (mN t.y 256) (mN t.n 16) t.big t.clip (fillL t.d ((sel s.mask).length * perN (mN t.n 16) t.big)))) 32 (0, 0)), .own 5 1 (.slice (some ⟨b71, 0, none⟩) ((sel s.mask).length * perN (mN t.n 16) t.big) ((sel s.mask).length * perN (mN t.n 16) t.big)) ((sel s.mask).length * perN (mN t.n 16) t.big) ((fillL t.d ((sel s.mask).length * perN (mN t.n 16) t.big)).map (Value.int .u8)), .blk b5 (.cells (scrV s) 32 (0, 0)), .blk b3 (.cells (stepL t).toArray 41 (0, 0))])) ?_ ?_
      · refine r_tree { xb := [], rb := [b3, b5], rs := [73, 75, 78, 82, 84], fs := [], acs := [9, 76, 79] } (.take 0 (.take 1 (.take 2 (.take 4 (.take 5 (.take 7 (.take 8 (.take 9 (.take 10 (.take 11 (.take 12 (.fork 3 (.fork 6 (.fork 13 (.take 14 (.take 15 (.take 16 (.take 17 (.take 18 (.take 19 .done)))))) 17 (.take 13 (.take 14 (.take 15 (.take 16 (.take 18 (.take 19 .done))))))) 17 (.take 6 (.take 13 (.take 14 (.take 15 (.take 16 (.take 18 (.take 19 .done)))))))) 17 (.take 3 (.take 6 (.take 13 (.take 14 (.take 15 (.take 16 (.take 18 (.take 19 .done)))))))))))))))))))) (by kernel_rfl) (by kernel_rfl) (fun w hw k hk => by
          simp only [List.mem_cons, List.not_mem_nil, or_false] at hk
          rcases hk with rfl | rfl <;> exact Sat.lt hw) ?_
        refine r_take rfl ?_
        refine r_loadV rfl rfl rfl rfl (scrV_size _) ?_
        refine r_nil ?_
        refine r_take rfl ?_
        refine r_fieldAddr (off := 3) (o' := 3) rfl rfl rfl rfl ?_
        refine r_nil ?_
        refine r_take rfl ?_
        refine r_load1 rfl rfl rfl (by rfl) ?_
        refine r_nil ?_
        refine r_take rfl ?_
        refine r_fieldAddr (off := 4) (o' := 4) rfl rfl rfl rfl ?_
        refine r_nil ?_
        refine r_take rfl ?_
        refine r_load1 rfl rfl rfl (by rfl) ?_
        refine r_nil ?_
        refine r_take rfl ?_
        refine r_move rfl rfl ?_
        refine r_nil ?_
        refine r_take rfl ?_
        refine r_fieldAddr (off := 6) (o' := 6) rfl rfl rfl rfl ?_
        refine r_nil ?_
        refine r_take rfl ?_
        refine r_load1 rfl rfl rfl (by rfl) ?_
        refine r_nil ?_
        refine r_take rfl ?_
        refine r_fieldAddr (off := 7) (o' := 7) rfl rfl rfl rfl ?_
        refine r_nil ?_
        refine r_take rfl ?_
        refine r_load1 rfl rfl rfl (by rfl) ?_
        refine r_nil ?_
        refine r_take rfl ?_
        refine r_move rfl rfl ?_
        refine r_nil ?_
        refine r_fork rfl rfl ?_ ?_
        · refine r_call rfl rfl rfl (by kernel_rfl) rfl (fun w hw => by exact modN08 t.x 256 (.inr (.inr rfl)) w) ?_
          refine r_nil ?_
          refine r_fork rfl rfl ?_ ?_
          · refine r_call rfl rfl rfl (by kernel_rfl) rfl (fun w hw => by exact modN08 t.y 256 (.inr (.inr rfl)) w) ?_
            refine r_nil ?_
            refine r_fork rfl rfl ?_ ?_
            · refine r_call rfl rfl rfl (by kernel_rfl) rfl (fun w hw => by exact drawF08 s hm (mN t.x 256) (mN t.y 256) (mN t.n 16) (mN_lt (by omega)) t.big t.clip (some ⟨b71, 0, none⟩) ((sel s.mask).length * perN (mN t.n 16) t.big) (fillL t.d ((sel s.mask).length * perN (mN t.n 16) t.big)) (fillL_len _ _) (by rw [fillL_len]; exact Nat.le_refl _) (fillL_bytes hd8 _) w (own_rd (A := some ⟨b71, 0, none⟩) (m := ((sel s.mask).length * perN (mN t.n 16) t.big)) (c := ((sel s.mask).length * perN (mN t.n 16) t.big)) hw)) ?_
              refine r_nil ?_
              refine r_take rfl ?_
              refine r_move rfl rfl ?_
              refine r_nil ?_
              refine r_take rfl ?_
              refine r_extract rfl rfl rfl ?_
              refine r_nil ?_
              refine r_take rfl ?_
              refine r_extract rfl rfl rfl ?_
              refine r_nil ?_
              refine r_take rfl ?_
              refine r_allocV (cs := scrV scr0) (by kernel_rfl) rfl fun b9 => ?_
              refine r_nil ?_
              refine r_take rfl ?_
              refine r_storeV rfl rfl rfl (scrV_size _) (scrV_size _) (scrV_one _) ?_
              refine r_nil ?_
              refine r_take rfl ?_
              refine r_assign rfl rfl ?_
              refine r_nil ?_
              refine r_treeEnd ?_
              refine r_tn ?_
              exact r_at b9 ⟨rfl, rfl, rfl, rfl, rfl, trivial⟩ (fun w hw => hw.sub)
            · refine r_allocV (cs := scrV scr0) (by kernel_rfl) rfl fun b9 => ?_
              refine r_nil ?_
              refine r_take rfl ?_
              refine r_call rfl rfl rfl (by kernel_rfl) rfl (fun w hw => by exact drawF08 s hm (mN t.x 256) (mN t.y 256) (mN t.n 16) (mN_lt (by omega)) t.big t.clip (some ⟨b71, 0, none⟩) ((sel s.mask).length * perN (mN t.n 16) t.big) (fillL t.d ((sel s.mask).length * perN (mN t.n 16) t.big)) (fillL_len _ _) (by rw [fillL_len]; exact Nat.le_refl _) (fillL_bytes hd8 _) w (own_rd (A := some ⟨b71, 0, none⟩) (m := ((sel s.mask).length * perN (mN t.n 16) t.big)) (c := ((sel s.mask).length * perN (mN t.n 16) t.big)) hw)) ?_
              refine r_nil ?_
              refine r_take rfl ?_
              refine r_move rfl rfl ?_
              refine r_nil ?_
              refine r_take rfl ?_
              refine r_extract rfl rfl rfl ?_
              refine r_nil ?_
              refine r_take rfl ?_
              refine r_extract rfl rfl rfl ?_
              refine r_nil ?_
              refine r_take rfl ?_
              refine r_storeV rfl rfl rfl (scrV_size _) (scrV_size _) (scrV_one _) ?_
              refine r_nil ?_
              refine r_take rfl ?_
              refine r_assign rfl rfl ?_
              refine r_nil ?_
              refine r_treeEnd ?_
              refine r_tn ?_
              exact r_at b9 ⟨rfl, rfl, rfl, rfl, rfl, trivial⟩ (fun w hw => hw.sub)
          · refine r_allocV (cs := scrV scr0) (by kernel_rfl) rfl fun b9 => ?_
            refine r_nil ?_
            refine r_take rfl ?_
            refine r_call rfl rfl rfl (by kernel_rfl) rfl (fun w hw => by exact modN08 t.y 256 (.inr (.inr rfl)) w) ?_
            refine r_nil ?_
            refine r_take rfl ?_
            refine r_call rfl rfl rfl (by kernel_rfl) rfl (fun w hw => by exact drawF08 s hm (mN t.x 256) (mN t.y 256) (mN t.n 16) (mN_lt (by omega)) t.big t.clip (some ⟨b71, 0, none⟩) ((sel s.mask).length * perN (mN t.n 16) t.big) (fillL t.d ((sel s.mask).length * perN (mN t.n 16) t.big)) (fillL_len _ _) (by rw [fillL_len]; exact Nat.le_refl _) (fillL_bytes hd8 _) w (own_rd (A := some ⟨b71, 0, none⟩) (m := ((sel s.mask).length * perN (mN t.n 16) t.big)) (c := ((sel s.mask).length * perN (mN t.n 16) t.big)) hw)) ?_
            refine r_nil ?_
            refine r_take rfl ?_
            refine r_move rfl rfl ?_
            refine r_nil ?_
            refine r_take rfl ?_
            refine r_extract rfl rfl rfl ?_
            refine r_nil ?_
            refine r_take rfl ?_
            refine r_extract rfl rfl rfl ?_
            refine r_nil ?_
            refine r_take rfl ?_
            refine r_storeV rfl rfl rfl (scrV_size _) (scrV_size _) (scrV_one _) ?_
            refine r_nil ?_
            refine r_take rfl ?_
            refine r_assign rfl rfl ?_
            refine r_nil ?_
            refine r_treeEnd ?_
            refine r_tn ?_
            exact r_at b9 ⟨rfl, rfl, rfl, rfl, rfl, trivial⟩ (fun w hw => hw.sub)
        · refine r_allocV (cs := scrV scr0) (by kernel_rfl) rfl fun b9 => ?_
          refine r_nil ?_
          refine r_take rfl ?_
          refine r_call rfl rfl rfl (by kernel_rfl) rfl (fun w hw => by exact modN08 t.x 256 (.inr (.inr rfl)) w) ?_
          refine r_nil ?_
          refine r_take rfl ?_
          refine r_call rfl rfl rfl (by kernel_rfl) rfl (fun w hw => by exact modN08 t.y 256 (.inr (.inr rfl)) w) ?_
          refine r_nil ?_
          refine r_take rfl ?_
          refine r_call rfl rfl rfl (by kernel_rfl) rfl (fun w hw => by exact drawF08 s hm (mN t.x 256) (mN t.y 256) (mN t.n 16) (mN_lt (by omega)) t.big t.clip (some ⟨b71, 0, none⟩) ((sel s.mask).length * perN (mN t.n 16) t.big) (fillL t.d ((sel s.mask).length * perN (mN t.n 16) t.big)) (fillL_len _ _) (by rw [fillL_len]; exact Nat.le_refl _) (fillL_bytes hd8 _) w (own_rd (A := some ⟨b71, 0, none⟩) (m := ((sel s.mask).length * perN (mN t.n 16) t.big)) (c := ((sel s.mask).length * perN (mN t.n 16) t.big)) hw)) ?_
          refine r_nil ?_
          refine r_take rfl ?_
          refine r_move rfl rfl ?_
          refine r_nil ?_
          refine r_take rfl ?_
          refine r_extract rfl rfl rfl ?_
          refine r_nil ?_
          refine r_take rfl ?_
          refine r_extract rfl rfl rfl ?_
          refine r_nil ?_
          refine r_take rfl ?_
          refine r_storeV rfl rfl rfl (scrV_size _) (scrV_size _) (scrV_one _) ?_
          refine r_nil ?_
          refine r_take rfl ?_
          refine r_assign rfl rfl ?_
          refine r_nil ?_
          refine r_treeEnd ?_
          refine r_tn ?_
          exact r_at b9 ⟨rfl, rfl, rfl, rfl, rfl, trivial⟩ (fun w hw => hw.sub)
      intro b9
      refine r_seq ?_
      refine r_cut (ι := Nat) (fun b11 => ([(3, .pointer (some ⟨b3, 0, none⟩)), (5, .pointer (some ⟨b5, 0, none⟩)), (7, .int .i64 ((mN t.n 16 : Nat) : Int)), (8, .slice (some ⟨b71, 0, none⟩) ((sel s.mask).length * perN (mN t.n 16) t.big) ((sel s.mask).length * perN (mN t.n 16) t.big)), (11, .pointer (some ⟨b11, 0, none⟩))], [.blk b11 (.cells (scrV s) 32 (0, 0)), .own 5 1 (.slice (some ⟨b71, 0, none⟩) ((sel s.mask).length * perN (mN t.n 16) t.big) ((sel s.mask).length * perN (mN t.n 16) t.big)) ((sel s.mask).length * perN (mN t.n 16) t.big) ((fillL t.d ((sel s.mask).length * perN (mN t.n 16) t.big)).map (Value.int .u8)), .blk b5 (.cells (scrV s) 32 (0, 0)), .blk b3 (.cells (stepL t).toArray 41 (0, 0))])) ?_ ?_
      · refine r_tree { xb := [], rb := [b3, b9], rs := [90, 92, 95, 99, 101], fs := [], acs := [11, 93, 96] } (.take 0 (.take 1 (.take 2 (.take 4 (.take 5 (.take 7 (.take 8 (.take 9 (.take 10 (.take 11 (.take 12 (.fork 3 (.fork 6 (.fork 13 (.take 14 (.take 15 (.take 16 (.take 17 (.take 18 (.take 19 .done)))))) 17 (.take 13 (.take 14 (.take 15 (.take 16 (.take 18 (.take 19 .done))))))) 17 (.take 6 (.take 13 (.take 14 (.take 15 (.take 16 (.take 18 (.take 19 .done)))))))) 17 (.take 3 (.take 6 (.take 13 (.take 14 (.take 15 (.take 16 (.take 18 (.take 19 .done)))))))))))))))))))) (by kernel_rfl) (by kernel_rfl) (fun w hw k hk => by
          simp only [List.mem_cons, List.not_mem_nil, or_false] at hk
          rcases hk with rfl | rfl <;> exact Sat.lt hw) ?_
        refine r_take rfl ?_
        refine r_loadV rfl rfl rfl rfl (scrV_size _) ?_
        refine r_nil ?_
        refine r_take rfl ?_
        refine r_fieldAddr (off := 3) (o' := 3) rfl rfl rfl rfl ?_
        refine r_nil ?_
        refine r_take rfl ?_
        refine r_load1 rfl rfl rfl (by rfl) ?_
        refine r_nil ?_
        refine r_take rfl ?_
        refine r_fieldAddr (off := 4) (o' := 4) rfl rfl rfl rfl ?_
        refine r_nil ?_
        refine r_take rfl ?_
        refine r_load1 rfl rfl rfl (by rfl) ?_
        refine r_nil ?_
        refine r_take rfl ?_
        refine r_move rfl rfl ?_
        refine r_nil ?_
        refine r_take rfl ?_
        refine r_fieldAddr (off := 6) (o' := 6) rfl rfl rfl rfl ?_
        refine r_nil ?_
        refine r_take rfl ?_
        refine r_load1 rfl rfl rfl (by rfl) ?_
        refine r_nil ?_
        refine r_take rfl ?_
        refine r_fieldAddr (off := 7) (o' := 7) rfl rfl rfl rfl ?_
        refine r_nil ?_
        refine r_take rfl ?_
        refine r_load1 rfl rfl rfl (by rfl) ?_
        refine r_nil ?_
        refine r_take rfl ?_
        refine r_move rfl rfl ?_
        refine r_nil ?_
        refine r_fork rfl rfl ?_ ?_
        · refine r_call rfl rfl rfl (by kernel_rfl) rfl (fun w hw => by exact modN08 t.x 256 (.inr (.inr rfl)) w) ?_
          refine r_nil ?_
          refine r_fork rfl rfl ?_ ?_
          · refine r_call rfl rfl rfl (by kernel_rfl) rfl (fun w hw => by exact modN08 t.y 256 (.inr (.inr rfl)) w) ?_
            refine r_nil ?_
            refine r_fork rfl rfl ?_ ?_
            · refine r_call (v := .tuple #[.agg (scrV s), .bool (drwH (drwP s (mN t.x 256) (mN t.y 256) (mN t.n 16) t.big t.clip (fillL t.d ((sel s.mask).length * perN (mN t.n 16) t.big))) (mN t.x 256) (mN t.y 256) (mN t.n 16) t.big t.clip (fillL t.d ((sel s.mask).length * perN (mN t.n 16) t.big)))]) rfl rfl rfl (by kernel_rfl) rfl (fun w hw => by have h := drawF08 (drwP s (mN t.x 256) (mN t.y 256) (mN t.n 16) t.big t.clip (fillL t.d ((sel s.mask).length * perN (mN t.n 16) t.big))) (by rw [drwP_mask]; exact hm) (mN t.x 256) (mN t.y 256) (mN t.n 16) (mN_lt (by omega)) t.big t.clip (some ⟨b71, 0, none⟩) ((sel s.mask).length * perN (mN t.n 16) t.big) (fillL t.d ((sel s.mask).length * perN (mN t.n 16) t.big)) (by rw [drwP_mask]; exact fillL_len _ _) (by rw [fillL_len]; exact Nat.le_refl _) (fillL_bytes hd8 _) w (own_rd (A := some ⟨b71, 0, none⟩) (m := ((sel s.mask).length * perN (mN t.n 16) t.big)) (c := ((sel s.mask).length * perN (mN t.n 16) t.big)) hw); rw [drwP_mask, drwP_twice] at h; exact h) ?_
              refine r_nil ?_
              refine r_take rfl ?_
              refine r_move rfl rfl ?_
              refine r_nil ?_
              refine r_take rfl ?_
              refine r_extract rfl rfl rfl ?_
              refine r_nil ?_
              refine r_take rfl ?_
              refine r_extract rfl rfl rfl ?_
              refine r_nil ?_
              refine r_take rfl ?_
              refine r_allocV (cs := scrV scr0) (by kernel_rfl) rfl fun b11 => ?_
              refine r_nil ?_
              refine r_take rfl ?_
              refine r_storeV rfl rfl rfl (scrV_size _) (scrV_size _) (scrV_one _) ?_
              refine r_nil ?_
              refine r_take rfl ?_
              refine r_assign rfl rfl ?_
              refine r_nil ?_
              refine r_treeEnd ?_
              refine r_tn ?_
              exact r_at b11 ⟨rfl, rfl, rfl, rfl, rfl, trivial⟩ (fun w hw => hw.sub)
            · refine r_allocV (cs := scrV scr0) (by kernel_rfl) rfl fun b11 => ?_
              refine r_nil ?_
              refine r_take rfl ?_
              refine r_call (v := .tuple #[.agg (scrV s), .bool (drwH (drwP s (mN t.x 256) (mN t.y 256) (mN t.n 16) t.big t.clip (fillL t.d ((sel s.mask).length * perN (mN t.n 16) t.big))) (mN t.x 256) (mN t.y 256) (mN t.n 16) t.big t.clip (fillL t.d ((sel s.mask).length * perN (mN t.n 16) t.big)))]) rfl rfl rfl (by kernel_rfl) rfl (fun w hw => by have h := drawF08 (drwP s (mN t.x 256) (mN t.y 256) (mN t.n 16) t.big t.clip (fillL t.d ((sel s.mask).length * perN (mN t.n 16) t.big))) (by rw [drwP_mask]; exact hm) (mN t.x 256) (mN t.y 256) (mN t.n 16) (mN_lt (by omega)) t.big t.clip (some ⟨b71, 0, none⟩) ((sel s.mask).length * perN (mN t.n 16) t.big) (fillL t.d ((sel s.mask).length * perN (mN t.n 16) t.big)) (by rw [drwP_mask]; exact fillL_len _ _) (by rw [fillL_len]; exact Nat.le_refl _) (fillL_bytes hd8 _) w (own_rd (A := some ⟨b71, 0, none⟩) (m := ((sel s.mask).length * perN (mN t.n 16) t.big)) (c := ((sel s.mask).length * perN (mN t.n 16) t.big)) hw); rw [drwP_mask, drwP_twice] at h; exact h) ?_
              refine r_nil ?_
              refine r_take rfl ?_
              refine r_move rfl rfl ?_
              refine r_nil ?_
              refine r_take rfl ?_
              refine r_extract rfl rfl rfl ?_
              refine r_nil ?_
              refine r_take rfl ?_
              refine r_extract rfl rfl rfl ?_
              refine r_nil ?_
              refine r_take rfl ?_
              refine r_storeV rfl rfl rfl (scrV_size _) (scrV_size _) (scrV_one _) ?_
              refine r_nil ?_
              refine r_take rfl ?_
              refine r_assign rfl rfl ?_
              refine r_nil ?_
              refine r_treeEnd ?_
              refine r_tn ?_
              exact r_at b11 ⟨rfl, rfl, rfl, rfl, rfl, trivial⟩ (fun w hw => hw.sub)
          · refine r_allocV (cs := scrV scr0) (by kernel_rfl) rfl fun b11 => ?_
            refine r_nil ?_
            refine r_take rfl ?_
            refine r_call rfl rfl rfl (by kernel_rfl) rfl (fun w hw => by exact modN08 t.y 256 (.inr (.inr rfl)) w) ?_
            refine r_nil ?_
            refine r_take rfl ?_
            refine r_call (v := .tuple #[.agg (scrV s), .bool (drwH (drwP s (mN t.x 256) (mN t.y 256) (mN t.n 16) t.big t.clip (fillL t.d ((sel s.mask).length * perN (mN t.n 16) t.big))) (mN t.x 256) (mN t.y 256) (mN t.n 16) t.big t.clip (fillL t.d ((sel s.mask).length * perN (mN t.n 16) t.big)))]) rfl rfl rfl (by kernel_rfl) rfl (fun w hw => by have h := drawF08 (drwP s (mN t.x 256) (mN t.y 256) (mN t.n 16) t.big t.clip (fillL t.d ((sel s.mask).length * perN (mN t.n 16) t.big))) (by rw [drwP_mask]; exact hm) (mN t.x 256) (mN t.y 256) (mN t.n 16) (mN_lt (by omega)) t.big t.clip (some ⟨b71, 0, none⟩) ((sel s.mask).length * perN (mN t.n 16) t.big) (fillL t.d ((sel s.mask).length * perN (mN t.n 16) t.big)) (by rw [drwP_mask]; exact fillL_len _ _) (by rw [fillL_len]; exact Nat.le_refl _) (fillL_bytes hd8 _) w (own_rd (A := some ⟨b71, 0, none⟩) (m := ((sel s.mask).length * perN (mN t.n 16) t.big)) (c := ((sel s.mask).length * perN (mN t.n 16) t.big)) hw); rw [drwP_mask, drwP_twice] at h; exact h) ?_
            refine r_nil ?_
            refine r_take rfl ?_
            refine r_move rfl rfl ?_
            refine r_nil ?_
            refine r_take rfl ?_
            refine r_extract rfl rfl rfl ?_
            refine r_nil ?_
            refine r_take rfl ?_
            refine r_extract rfl rfl rfl ?_
            refine r_nil ?_
            refine r_take rfl ?_
            refine r_storeV rfl rfl rfl (scrV_size _) (scrV_size _) (scrV_one _) ?_
            refine r_nil ?_
            refine r_take rfl ?_
            refine r_assign rfl rfl ?_
            refine r_nil ?_
            refine r_treeEnd ?_
            refine r_tn ?_
            exact r_at b11 ⟨rfl, rfl, rfl, rfl, rfl, trivial⟩ (fun w hw => hw.sub)
        · refine r_allocV (cs := scrV scr0) (by kernel_rfl) rfl fun b11 => ?_
          refine r_nil ?_
          refine r_take rfl ?_
          refine r_call rfl rfl rfl (by kernel_rfl) rfl (fun w hw => by exact modN08 t.x 256 (.inr (.inr rfl)) w) ?_
          refine r_nil ?_
          refine r_take rfl ?_
          refine r_call rfl rfl rfl (by kernel_rfl) rfl (fun w hw => by exact modN08 t.y 256 (.inr (.inr rfl)) w) ?_
          refine r_nil ?_
          refine r_take rfl ?_
          refine r_call (v := .tuple #[.agg (scrV s), .bool (drwH (drwP s (mN t.x 256) (mN t.y 256) (mN t.n 16) t.big t.clip (fillL t.d ((sel s.mask).length * perN (mN t.n 16) t.big))) (mN t.x 256) (mN t.y 256) (mN t.n 16) t.big t.clip (fillL t.d ((sel s.mask).length * perN (mN t.n 16) t.big)))]) rfl rfl rfl (by kernel_rfl) rfl (fun w hw => by have h := drawF08 (drwP s (mN t.x 256) (mN t.y 256) (mN t.n 16) t.big t.clip (fillL t.d ((sel s.mask).length * perN (mN t.n 16) t.big))) (by rw [drwP_mask]; exact hm) (mN t.x 256) (mN t.y 256) (mN t.n 16) (mN_lt (by omega)) t.big t.clip (some ⟨b71, 0, none⟩) ((sel s.mask).length * perN (mN t.n 16) t.big) (fillL t.d ((sel s.mask).length * perN (mN t.n 16) t.big)) (by rw [drwP_mask]; exact fillL_len _ _) (by rw [fillL_len]; exact Nat.le_refl _) (fillL_bytes hd8 _) w (own_rd (A := some ⟨b71, 0, none⟩) (m := ((sel s.mask).length * perN (mN t.n 16) t.big)) (c := ((sel s.mask).length * perN (mN t.n 16) t.big)) hw); rw [drwP_mask, drwP_twice] at h; exact h) ?_
          refine r_nil ?_
          refine r_take rfl ?_
          refine r_move rfl rfl ?_
          refine r_nil ?_
          refine r_take rfl ?_
          refine r_extract rfl rfl rfl ?_
          refine r_nil ?_
          refine r_take rfl ?_
          refine r_extract rfl rfl rfl ?_
          refine r_nil ?_
          refine r_take rfl ?_
          refine r_storeV rfl rfl rfl (scrV_size _) (scrV_size _) (scrV_one _) ?_
          refine r_nil ?_
          refine r_take rfl ?_
          refine r_assign rfl rfl ?_
          refine r_nil ?_
          refine r_treeEnd ?_
          refine r_tn ?_
          exact r_at b11 ⟨rfl, rfl, rfl, rfl, rfl, trivial⟩ (fun w hw => hw.sub)
      intro b11
      refine r_seq ?_
      refine r_cut (ι := Nat) (fun b13 => ([(3, .pointer (some ⟨b3, 0, none⟩)), (5, .pointer (some ⟨b5, 0, none⟩)), (7, .int .i64 ((mN t.n 16 : Nat) : Int)), (8, .slice (some ⟨b71, 0, none⟩) ((sel s.mask).length * perN (mN t.n 16) t.big) ((sel s.mask).length * perN (mN t.n 16) t.big)), (11, .pointer (some ⟨b11, 0, none⟩)), (13, .pointer (some ⟨b13, 0, none⟩)), (14, .bool false)], [.blk b13 (.cells (scrV ⟨s.P, s.hires, 0⟩) 32 (0, 0)), .blk b11 (.cells (scrV s) 32 (0, 0)), .own 5 1 (.slice (some ⟨b71, 0, none⟩) ((sel s.mask).length * perN (mN t.n 16) t.big) ((sel s.mask).length * perN (mN t.n 16) t.big)) ((sel s.mask).length * perN (mN t.n 16) t.big) ((fillL t.d ((sel s.mask).length * perN (mN t.n 16) t.big)).map (Value.int .u8)), .blk b5 (.cells (scrV s) 32 (0, 0)), .blk b3 (.cells (stepL t).toArray 41 (0, 0))])) ?_ ?_
      · refine r_tree { xb := [], rb := [b3, b5], rs := [107, 110, 113, 117, 119], fs := [], acs := [13, 108, 111, 114] } (.take 0 (.take 2 (.take 3 (.take 5 (.take 6 (.take 8 (.take 9 (.take 10 (.take 11 (.take 12 (.fork 1 (.fork 4 (.fork 7 (.fork 13 (.take 14 (.take 15 (.take 16 (.take 17 (.take 18 (.take 19 .done)))))) 17 (.take 13 (.take 14 (.take 15 (.take 16 (.take 18 (.take 19 .done))))))) 17 (.take 7 (.take 13 (.take 14 (.take 15 (.take 16 (.take 18 (.take 19 .done)))))))) 17 (.take 4 (.take 7 (.take 13 (.take 14 (.take 15 (.take 16 (.take 18 (.take 19 .done))))))))) 17 (.take 1 (.take 4 (.take 7 (.take 13 (.take 14 (.take 15 (.take 16 (.take 18 (.take 19 .done)))))))))))))))))))) (by kernel_rfl) (by kernel_rfl) (fun w hw k hk => by
          simp only [List.mem_cons, List.not_mem_nil, or_false] at hk
          rcases hk with rfl | rfl <;> exact Sat.lt hw) ?_
        refine r_take rfl ?_
        refine r_loadV rfl rfl rfl rfl (scrV_size _) ?_
        refine r_nil ?_
        refine r_take rfl ?_
        refine r_fieldAddr (off := 3) (o' := 3) rfl rfl rfl rfl ?_
        refine r_nil ?_
        refine r_take rfl ?_
        refine r_load1 rfl rfl rfl (by rfl) ?_
        refine r_nil ?_
        refine r_take rfl ?_
        refine r_fieldAddr (off := 4) (o' := 4) rfl rfl rfl rfl ?_
        refine r_nil ?_
        refine r_take rfl ?_
        refine r_load1 rfl rfl rfl (by rfl) ?_
        refine r_nil ?_
        refine r_take rfl ?_
        refine r_move rfl rfl ?_
        refine r_nil ?_
        refine r_take rfl ?_
        refine r_fieldAddr (off := 6) (o' := 6) rfl rfl rfl rfl ?_
        refine r_nil ?_
        refine r_take rfl ?_
        refine r_load1 rfl rfl rfl (by rfl) ?_
        refine r_nil ?_
        refine r_take rfl ?_
        refine r_fieldAddr (off := 7) (o' := 7) rfl rfl rfl rfl ?_
        refine r_nil ?_
        refine r_take rfl ?_
        refine r_load1 rfl rfl rfl (by rfl) ?_
        refine r_nil ?_
        refine r_fork rfl rfl ?_ ?_
        · refine r_call rfl rfl rfl (by kernel_rfl) rfl (fun w hw => by exact select08 s 0 w) ?_
          refine r_nil ?_
          refine r_fork rfl rfl ?_ ?_
          · refine r_call rfl rfl rfl (by kernel_rfl) rfl (fun w hw => by exact modN08 t.x 256 (.inr (.inr rfl)) w) ?_
            refine r_nil ?_
            refine r_fork rfl rfl ?_ ?_
            · refine r_call rfl rfl rfl (by kernel_rfl) rfl (fun w hw => by exact modN08 t.y 256 (.inr (.inr rfl)) w) ?_
              refine r_nil ?_
              refine r_fork rfl rfl ?_ ?_
              · refine r_call rfl rfl rfl (by kernel_rfl) rfl (fun w hw => by exact drawN08 s (mN t.x 256) (mN t.y 256) (mN t.n 16) (mN_lt (by omega)) t.big t.clip w) ?_
                refine r_nil ?_
                refine r_take rfl ?_
                refine r_move rfl rfl ?_
                refine r_nil ?_
                refine r_take rfl ?_
                refine r_extract rfl rfl rfl ?_
                refine r_nil ?_
                refine r_take rfl ?_
                refine r_extract rfl rfl rfl ?_
                refine r_nil ?_
                refine r_take rfl ?_
                refine r_allocV (cs := scrV scr0) (by kernel_rfl) rfl fun b13 => ?_
                refine r_nil ?_
                refine r_take rfl ?_
                refine r_storeV rfl rfl rfl (scrV_size _) (scrV_size _) (scrV_one _) ?_
                refine r_nil ?_
                refine r_take rfl ?_
                refine r_assign rfl rfl ?_
                refine r_nil ?_
                refine r_treeEnd ?_
                refine r_tn ?_
                exact r_at b13 ⟨rfl, rfl, rfl, rfl, rfl, rfl, rfl, trivial⟩ (fun w hw => hw.sub)
              · refine r_allocV (cs := scrV scr0) (by kernel_rfl) rfl fun b13 => ?_
                refine r_nil ?_
                refine r_take rfl ?_
                refine r_call rfl rfl rfl (by kernel_rfl) rfl (fun w hw => by exact drawN08 s (mN t.x 256) (mN t.y 256) (mN t.n 16) (mN_lt (by omega)) t.big t.clip w) ?_
                refine r_nil ?_
                refine r_take rfl ?_
                refine r_move rfl rfl ?_
                refine r_nil ?_
                refine r_take rfl ?_
                refine r_extract rfl rfl rfl ?_
                refine r_nil ?_
                refine r_take rfl ?_
                refine r_extract rfl rfl rfl ?_
                refine r_nil ?_
                refine r_take rfl ?_
                refine r_storeV rfl rfl rfl (scrV_size _) (scrV_size _) (scrV_one _) ?_
                refine r_nil ?_
                refine r_take rfl ?_
                refine r_assign rfl rfl ?_
                refine r_nil ?_
                refine r_treeEnd ?_
                refine r_tn ?_
                exact r_at b13 ⟨rfl, rfl, rfl, rfl, rfl, rfl, rfl, trivial⟩ (fun w hw => hw.sub)
            · refine r_allocV (cs := scrV scr0) (by kernel_rfl) rfl fun b13 => ?_
              refine r_nil ?_
              refine r_take rfl ?_
              refine r_call rfl rfl rfl (by kernel_rfl) rfl (fun w hw => by exact modN08 t.y 256 (.inr (.inr rfl)) w) ?_
              refine r_nil ?_
              refine r_take rfl ?_
              refine r_call rfl rfl rfl (by kernel_rfl) rfl (fun w hw => by exact drawN08 s (mN t.x 256) (mN t.y 256) (mN t.n 16) (mN_lt (by omega)) t.big t.clip w) ?_
              refine r_nil ?_
              refine r_take rfl ?_
              refine r_move rfl rfl ?_
              refine r_nil ?_
              refine r_take rfl ?_
              refine r_extract rfl rfl rfl ?_
              refine r_nil ?_
              refine r_take rfl ?_
              refine r_extract rfl rfl rfl ?_
              refine r_nil ?_
              refine r_take rfl ?_
              refine r_storeV rfl rfl rfl (scrV_size _) (scrV_size _) (scrV_one _) ?_
              refine r_nil ?_
              refine r_take rfl ?_
              refine r_assign rfl rfl ?_
              refine r_nil ?_
              refine r_treeEnd ?_
              refine r_tn ?_
              exact r_at b13 ⟨rfl, rfl, rfl, rfl, rfl, rfl, rfl, trivial⟩ (fun w hw => hw.sub)
          · refine r_allocV (cs := scrV scr0) (by kernel_rfl) rfl fun b13 => ?_
            refine r_nil ?_
            refine r_take rfl ?_
            refine r_call rfl rfl rfl (by kernel_rfl) rfl (fun w hw => by exact modN08 t.x 256 (.inr (.inr rfl)) w) ?_
            refine r_nil ?_
            refine r_take rfl ?_
            refine r_call rfl rfl rfl (by kernel_rfl) rfl (fun w hw => by exact modN08 t.y 256 (.inr (.inr rfl)) w) ?_
            refine r_nil ?_
            refine r_take rfl ?_
            refine r_call rfl rfl rfl (by kernel_rfl) rfl (fun w hw => by exact drawN08 s (mN t.x 256) (mN t.y 256) (mN t.n 16) (mN_lt (by omega)) t.big t.clip w) ?_
            refine r_nil ?_
            refine r_take rfl ?_
            refine r_move rfl rfl ?_
            refine r_nil ?_
            refine r_take rfl ?_
            refine r_extract rfl rfl rfl ?_
            refine r_nil ?_
            refine r_take rfl ?_
            refine r_extract rfl rfl rfl ?_
            refine r_nil ?_
            refine r_take rfl ?_
            refine r_storeV rfl rfl rfl (scrV_size _) (scrV_size _) (scrV_one _) ?_
            refine r_nil ?_
            refine r_take rfl ?_
            refine r_assign rfl rfl ?_
            refine r_nil ?_
            refine r_treeEnd ?_
            refine r_tn ?_
            exact r_at b13 ⟨rfl, rfl, rfl, rfl, rfl, rfl, rfl, trivial⟩ (fun w hw => hw.sub)
        · refine r_allocV (cs := scrV scr0) (by kernel_rfl) rfl fun b13 => ?_
          refine r_nil ?_
          refine r_take rfl ?_
          refine r_call rfl rfl rfl (by kernel_rfl) rfl (fun w hw => by exact select08 s 0 w) ?_
          refine r_nil ?_
          refine r_take rfl ?_
          refine r_call rfl rfl rfl (by kernel_rfl) rfl (fun w hw => by exact modN08 t.x 256 (.inr (.inr rfl)) w) ?_
          refine r_nil ?_
          refine r_take rfl ?_
          refine r_call rfl rfl rfl (by kernel_rfl) rfl (fun w hw => by exact modN08 t.y 256 (.inr (.inr rfl)) w) ?_
          refine r_nil ?_
          refine r_take rfl ?_
          refine r_call rfl rfl rfl (by kernel_rfl) rfl (fun w hw => by exact drawN08 s (mN t.x 256) (mN t.y 256) (mN t.n 16) (mN_lt (by omega)) t.big t.clip w) ?_
          refine r_nil ?_
          refine r_take rfl ?_
          refine r_move rfl rfl ?_
          refine r_nil ?_
          refine r_take rfl ?_
          refine r_extract rfl rfl rfl ?_
          refine r_nil ?_
          refine r_take rfl ?_
          refine r_extract rfl rfl rfl ?_
          refine r_nil ?_
          refine r_take rfl ?_
          refine r_storeV rfl rfl rfl (scrV_size _) (scrV_size _) (scrV_one _) ?_
          refine r_nil ?_
          refine r_take rfl ?_
          refine r_assign rfl rfl ?_
          refine r_nil ?_
          refine r_treeEnd ?_
          refine r_tn ?_
          exact r_at b13 ⟨rfl, rfl, rfl, rfl, rfl, rfl, rfl, trivial⟩ (fun w hw => hw.sub)
      intro b13
      refine r_seq ?_
      refine r_mixedD { xb := [], rb := [b13], rs := [127], fs := [], acs := [129] } (by kernel_rfl) (by kernel_rfl) (fun w hw k hk => by
        simp only [List.mem_cons, List.not_mem_nil, or_false] at hk
        rcases hk with rfl <;> exact Sat.lt hw) ?_
      refine r_loadV rfl rfl rfl rfl (scrV_size _) ?_
      refine r_loadV rfl rfl rfl rfl (scrV_size _) ?_
      refine r_eqlAgg (p := true) rfl rfl rfl scrFlat (scrV_ok _) (scrV_ok _) (scr_self _) ?_
      refine r_move rfl rfl ?_
      refine r_go rfl rfl ?_
      refine r_loadV rfl rfl rfl rfl (scrV_size _) ?_
      refine r_go rfl rfl ?_
      refine r_loadV rfl rfl rfl rfl (scrV_size _) ?_
      refine r_go rfl rfl ?_
      refine r_call rfl rfl rfl (by kernel_rfl) rfl (fun w hw => by exact select08 s 0 w) ?_
      refine r_go rfl rfl ?_
      refine r_eqlAgg (p := true) rfl rfl rfl scrFlat (scrV_ok _) (scrV_ok _) (scr_self _) ?_
      refine r_pick_t rfl rfl rfl ?_
      refine r_move rfl rfl ?_
      refine r_go rfl rfl ?_
      refine r_move rfl rfl ?_
      refine r_go rfl rfl ?_
      refine r_not (r := true) rfl rfl rfl ?_
      refine r_pick_t rfl rfl rfl ?_
      refine r_assign rfl rfl ?_
      refine r_nil ?_
      refine r_tn ?_
      refine r_ret ?_
      exact r_done1 (.inl rfl) rfl (res_tmp rfl) fun w hw => ⟨rfl, hw.clear⟩
end Go.Proofs.Ytgamehjakgcgnaa
