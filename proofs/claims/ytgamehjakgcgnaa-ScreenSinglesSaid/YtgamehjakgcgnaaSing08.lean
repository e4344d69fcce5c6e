/-
  Screens (chapter 08): ScreenSingles.
-/
import Derived.Test.YtgamehjakgcgnaaOne08
namespace Go.Proofs.Ytgamehjakgcgnaa
open Go Go.RowKit
set_option linter.unusedVariables false
set_option linter.unusedSimpArgs false
set_option maxHeartbeats 2000000
set_option maxRecDepth 4000
attribute [local irreducible] mix
attribute [local irreducible] scrV stP planeV stH sprD drwP drwH scrA scrB fillL doS

theorem ScreenSingles_nat (A : Option Addr) (c : Nat) (l : List StepD) (q : Nat) (t : StepD) (w : World) (hA : Rd w A (stepsL l)) (ok : ∀ s ∈ l, okStep w s) (hq : q ≤ 255) (okt : okStep w t) :
    Calls Try.prog 5 #[.slice A l.length c, .int .u8 (q : Int), .agg (stepL t).toArray] w fun e w' => e = .returned (.bool true) ∧ Sat w [] [] w' := by
  refine enter Try.func5 rfl rfl rfl ?_
  refine r_seq ?_
  refine r_region ?_
  refine r_boxV rfl rfl fun b5 => ?_
  refine r_assign rfl rfl ?_
  refine r_nil ?_
  refine r_tn ?_
  refine r_seq ?_
  refine r_seq ?_
  refine r_region ?_
  refine r_call rfl rfl rfl (by kernel_rfl) rfl (fun w hw => by exact awake08 w) ?_
  refine r_not rfl rfl rfl ?_
  refine r_move rfl rfl ?_
  refine r_go rfl rfl ?_
  refine r_move rfl rfl ?_
  refine r_go rfl rfl ?_
  refine r_len rfl rfl rfl ?_
  refine r_go rfl rfl ?_
  refine r_gtr (p := decide (8 < l.length)) rfl rfl rfl (decide_eq_decide.2 ⟨fun _ => by omega, fun _ => by omega⟩) ?_
  refine r_pick_f rfl rfl rfl ?_
  refine r_nil ?_
  refine r_tn ?_
  refine r_cond rfl (fun hc => ?_) (fun hc => ?_)
  · refine r_seq ?_
    refine r_region ?_
    refine r_call rfl rfl rfl (by kernel_rfl) rfl (fun w hw => by exact awake08 w) ?_
    refine r_assign rfl rfl ?_
    refine r_nil ?_
    refine r_tn ?_
    refine r_ret ?_
    refine r_tr ?_
    exact r_done1 (.inl rfl) rfl (res_tmp rfl) fun w hw => ⟨rfl, hw.clear⟩
  · refine r_skip ?_
    refine r_tn ?_
    refine r_seq ?_
    have hl8 : l.length ≤ 8 := by have h := of_decide_eq_false hc; omega
    clear hc
    refine r_region ?_
    refine r_call rfl rfl rfl (by kernel_rfl) rfl (fun w hw => by exact newN08 w) ?_
    refine r_allocV (cs := scrV scr0) (by kernel_rfl) rfl fun b7 => ?_
    refine r_storeV rfl rfl rfl (scrV_size _) (scrV_size _) (scrV_one _) ?_
    refine r_nil ?_
    refine r_tn ?_
    refine r_seq ?_
    refine r_seq ?_
    refine r_region ?_
    refine r_assign rfl rfl ?_
    refine r_nil ?_
    refine r_tn ?_
    refine r_block ?_
    refine r_loop1 (fun k s => [(0, .slice A l.length c), (7, .pointer (some ⟨b7, 0, none⟩)), (8, .int .i64 (k : Int)), (1, .int .u8 (q : Int)), (5, .pointer (some ⟨b5, 0, none⟩))]) (fun k s => [.blk b7 (.cells (scrV s) 32 (0, 0)), .blk b5 (.cells (stepL t).toArray 41 (0, 0))]) (fun k s => k ≤ l.length ∧ s.mask < 16) l.length 0 scr1 ⟨by omega, by decide⟩ ⟨rfl, rfl, rfl, rfl, rfl, trivial⟩ (fun w hw => by have h2 : Sat _ _ [.blk b7 (.cells (scrV scr1) 32 (0, 0)), .blk b5 (.cells (stepL t).toArray 41 (0, 0))] w := hw.sub; exact h2) fun k s hk => ?_
    refine r_seq ?_
    refine r_seq ?_
    refine r_region ?_
    refine r_move rfl rfl ?_
    refine r_move rfl rfl ?_
    refine r_len rfl rfl rfl ?_
    refine r_lss rfl rfl rfl rfl ?_
    refine r_nil ?_
    refine r_tn ?_
    refine r_cond rfl (fun hc => ?_) (fun hc => ?_)
    · refine r_skip ?_
      refine r_tn ?_
      refine r_seq ?_
      refine r_block ?_
      refine r_seq ?_
      refine r_seq ?_
      refine r_mixed (by kernel_rfl) (by kernel_rfl) ?_
      have hkl : k < l.length := by have h := of_decide_eq_true hc; omega
      clear hc
      obtain ⟨hk, hm⟩ := hk
      obtain ⟨ba, oa, rfl⟩ := steps_some hA hkl
      have hri := Rd_step hA hkl
      have okl := ok _ (List.getElem_mem hkl)
      refine r_loadV rfl rfl rfl rfl (scrV_size _) ?_
      refine r_move rfl rfl ?_
      refine r_move rfl rfl ?_
      refine r_indexSl (sz := 9) (o' := oa + k * 9) rfl rfl rfl rfl rfl (by omega) (by omega) (by simp) ?_
      refine r_loadRd (vs := stepL l[k]) rfl rfl rfl rfl rfl (fun w hw => hri.keep hw) ?_
      refine r_call rfl rfl rfl (by kernel_rfl) rfl (fun w hw => by exact needs08 s hm l[k] w) ?_
      refine r_not rfl rfl rfl ?_
      refine r_nil ?_
      refine r_tn ?_
      refine r_cond_f rfl ?_
      refine r_skip ?_
      refine r_tn ?_
      refine r_mixed (by kernel_rfl) (by kernel_rfl) ?_
      refine r_loadV rfl rfl rfl rfl (scrV_size _) ?_
      refine r_move rfl rfl ?_
      refine r_move rfl rfl ?_
      refine r_indexSl (sz := 9) (o' := oa + k * 9) rfl rfl rfl rfl rfl (by omega) (by omega) (by simp) ?_
      refine r_loadRd (vs := stepL l[k]) rfl rfl rfl rfl rfl (fun w hw => hri.keep hw) ?_
      refine r_call rfl rfl rfl (by kernel_rfl) rfl (fun w hw => by exact do08 s hm l[k] w (okl.keep hw)) ?_
      refine r_move rfl rfl ?_
      refine r_extract rfl rfl rfl ?_
      refine r_extract rfl rfl rfl ?_
      refine r_storeV rfl rfl rfl (scrV_size _) (scrV_size _) (scrV_one _) ?_
      refine r_nil ?_
      refine r_bn ?_
      refine r_tn ?_
      refine r_region ?_
      refine r_move rfl rfl ?_
      refine r_add rfl rfl rfl (w64 (by omega)) ?_
      refine r_assign rfl rfl ?_
      refine r_nil ?_
      refine r_tn ?_
      exact r_again1 (k + 1) (doS s l[k]).1 ⟨by omega, doS_mask hm _⟩ (by omega) ⟨rfl, rfl, rfl, rfl, rfl, trivial⟩ (fun w hw => hw.sub)
    · refine r_exit ?_
      refine r_te ?_
      refine r_te ?_
      refine r_be ?_
      refine r_tn ?_
      refine r_seq ?_
      refine r_region ?_
      obtain ⟨hk, hm⟩ := hk
      obtain ⟨m, hmq⟩ : ∃ m, q % 16 = m := ⟨_, rfl⟩
      have hm2 : m < 16 := by omega
      have hn16 : mN t.n 16 < 16 := mN_lt (by omega)
      have hper := perN_le (n := mN t.n 16) (by omega) t.big
      have hnl := need_le (m := m) (n := mN t.n 16) (by omega) t.big
      have hd8 : ∀ z ∈ t.d, 0 ≤ z ∧ z ≤ 255 := okt.2.2.2.2.2.2.1
      refine r_move rfl rfl ?_
      refine r_rem (r := (m : Int)) rfl rfl rfl (by decide) (by rw [← hmq]; rfl) ?_
      refine r_convert (r := (m : Int)) rfl rfl rfl rfl (w64 (by omega)) ?_
      refine r_assign rfl rfl ?_
      refine r_nil ?_
      refine r_tn ?_
      refine r_seq ?_
      refine r_region ?_
      refine r_fieldAddr (off := 5) (o' := 5) rfl rfl rfl rfl ?_
      refine r_load1 rfl rfl rfl (by rfl) ?_
      refine r_call rfl rfl rfl (by kernel_rfl) rfl (fun w hw => by exact modN08 t.n 16 (.inl rfl) w) ?_
      refine r_assign rfl rfl ?_
      refine r_nil ?_
      refine r_tn ?_
      refine r_seq ?_
      refine r_mixedD { xb := [], rb := [b5], rs := [60], fs := [], acs := [65] } (by kernel_rfl) (by kernel_rfl) (fun w hw k hk => by
        simp only [List.mem_cons, List.not_mem_nil, or_false] at hk
        rcases hk with rfl <;> exact Sat.lt hw) ?_
      refine r_fieldAddr (off := 8) (o' := 8) rfl rfl rfl rfl ?_
      refine r_load1 rfl rfl rfl (by rfl) ?_
      refine r_move rfl rfl ?_
      refine r_move rfl rfl ?_
      refine r_fieldAddr (off := 6) (o' := 6) rfl rfl rfl rfl ?_
      refine r_load1 rfl rfl rfl (by rfl) ?_
      refine r_call rfl rfl rfl (by kernel_rfl) rfl (fun w hw => by exact refNeed08 m (mN t.n 16) hm2 (by omega) t.big w) ?_
      refine r_callx rfl rfl rfl (by kernel_rfl) rfl (fun w hw => by exact fill08 t.d ((sel m).length * perN (mN t.n 16) t.big) t.A t.c (by omega) w (okt.2.2.2.2.2.1.keep hw)) ?_
      rintro b66 _
      refine r_assign rfl rfl ?_
      refine r_nil ?_
      refine r_tn ?_
      refine r_seq ?_
      refine r_region ?_
      refine r_loadV rfl rfl rfl rfl (scrV_size _) ?_
      refine r_move rfl rfl ?_
      refine r_call rfl rfl rfl (by kernel_rfl) rfl (fun w hw => by exact select08 s m w) ?_
      refine r_storeV rfl rfl rfl (scrV_size _) (scrV_size _) (scrV_one _) ?_
      refine r_nil ?_
      refine r_tn ?_
      refine r_seq ?_
      refine r_cut (ι := Nat) (fun b12 => ([(5, .pointer (some ⟨b5, 0, none⟩)), (7, .pointer (some ⟨b7, 0, none⟩)), (9, .int .i64 (m : Int)), (10, .int .i64 ((mN t.n 16 : Nat) : Int)), (11, .slice (some ⟨b66, 0, none⟩) ((sel m).length * perN (mN t.n 16) t.big) ((sel m).length * perN (mN t.n 16) t.big)), (12, .pointer (some ⟨b12, 0, none⟩)), (13, .bool (drwH ⟨s.P, s.hires, m⟩ (mN t.x 256) (mN t.y 256) (mN t.n 16) t.big t.clip (fillL t.d ((sel m).length * perN (mN t.n 16) t.big))))], [.blk b12 (.cells (scrV (drwP ⟨s.P, s.hires, m⟩ (mN t.x 256) (mN t.y 256) (mN t.n 16) t.big t.clip (fillL t.d ((sel m).length * perN (mN t.n 16) t.big)))) 32 (0, 0)), .own 5 1 (.slice (some ⟨b66, 0, none⟩) ((sel m).length * perN (mN t.n 16) t.big) ((sel m).length * perN (mN t.n 16) t.big)) ((sel m).length * perN (mN t.n 16) t.big) ((fillL t.d ((sel m).length * perN (mN t.n 16) t.big)).map (Value.int .u8)), .blk b7 (.cells (scrV ⟨s.P, s.hires, m⟩) 32 (0, 0)), .blk b5 (.cells (stepL t).toArray 41 (0, 0))])) ?_ ?_
      · refine r_tree { xb := [], rb := [b5, b7], rs := [71, 73, 76, 80, 82], fs := [], acs := [12, 74, 77] } (.take 0 (.take 1 (.take 2 (.take 4 (.take 5 (.take 7 (.take 8 (.take 9 (.take 10 (.take 11 (.take 12 (.fork 3 (.fork 6 (.fork 13 (.take 14 (.take 15 (.take 16 (.take 17 (.take 18 (.take 19 .done)))))) 17 (.take 13 (.take 14 (.take 15 (.take 16 (.take 18 (.take 19 .done))))))) 17 (.take 6 (.take 13 (.take 14 (.take 15 (.take 16 (.take 18 (.take 19 .done)))))))) 17 (.take 3 (.take 6 (.take 13 (.take 14 (.take 15 (.take 16 (.take 18 (.take 19 .done)))))))))))))))))))) (by kernel_rfl) (by kernel_rfl) (fun w hw k hk => by
          simp only [List.mem_cons, List.not_mem_nil, or_false] at hk
          rcases hk with rfl | rfl <;> exact Sat.lt hw) ?_
        refine r_take rfl ?_
        refine r_loadV rfl rfl rfl rfl (scrV_size _) ?_
        refine r_nil ?_
        refine r_take rfl ?_
        refine r_fieldAddr (off := 3) (o' := 3) rfl rfl rfl rfl ?_
        refine r_nil ?_
        refine r_take rfl ?_
        refine r_load1 rfl rfl rfl (by rfl) ?_
        refine r_nil ?_
        refine r_take rfl ?_
        refine r_fieldAddr (off := 4) (o' := 4) rfl rfl rfl rfl ?_
        refine r_nil ?_
        refine r_take rfl ?_
        refine r_load1 rfl rfl rfl (by rfl) ?_
        refine r_nil ?_
        refine r_take rfl ?_
        refine r_move rfl rfl ?_
        refine r_nil ?_
        refine r_take rfl ?_
        refine r_fieldAddr (off := 6) (o' := 6) rfl rfl rfl rfl ?_
        refine r_nil ?_
        refine r_take rfl ?_
        refine r_load1 rfl rfl rfl (by rfl) ?_
        refine r_nil ?_
        refine r_take rfl ?_
        refine r_fieldAddr (off := 7) (o' := 7) rfl rfl rfl rfl ?_
        refine r_nil ?_
        refine r_take rfl ?_
        refine r_load1 rfl rfl rfl (by rfl) ?_
        refine r_nil ?_
        refine r_take rfl ?_
        refine r_move rfl rfl ?_
        refine r_nil ?_
        refine r_fork rfl rfl ?_ ?_
        · refine r_call rfl rfl rfl (by kernel_rfl) rfl (fun w hw => by exact modN08 t.x 256 (.inr (.inr rfl)) w) ?_
          refine r_nil ?_
          refine r_fork rfl rfl ?_ ?_
          · refine r_call rfl rfl rfl (by kernel_rfl) rfl (fun w hw => by exact modN08 t.y 256 (.inr (.inr rfl)) w) ?_
            refine r_nil ?_
            refine r_fork rfl rfl ?_ ?_
            · refine r_call rfl rfl rfl (by kernel_rfl) rfl (fun w hw => by exact drawF08 ⟨s.P, s.hires, m⟩ hm2 (mN t.x 256) (mN t.y 256) (mN t.n 16) hn16 t.big t.clip (some ⟨b66, 0, none⟩) ((sel m).length * perN (mN t.n 16) t.big) (fillL t.d ((sel m).length * perN (mN t.n 16) t.big)) (fillL_len _ _) (by rw [fillL_len]; exact Nat.le_refl _) (fillL_bytes hd8 _) w (own_rd (A := some ⟨b66, 0, none⟩) (m := ((sel m).length * perN (mN t.n 16) t.big)) (c := ((sel m).length * perN (mN t.n 16) t.big)) hw)) ?_
              refine r_nil ?_
              refine r_take rfl ?_
              refine r_move rfl rfl ?_
              refine r_nil ?_
              refine r_take rfl ?_
              refine r_extract rfl rfl rfl ?_
              refine r_nil ?_
              refine r_take rfl ?_
              refine r_extract rfl rfl rfl ?_
              refine r_nil ?_
              refine r_take rfl ?_
              refine r_allocV (cs := scrV scr0) (by kernel_rfl) rfl fun b12 => ?_
              refine r_nil ?_
              refine r_take rfl ?_
              refine r_storeV rfl rfl rfl (scrV_size _) (scrV_size _) (scrV_one _) ?_
              refine r_nil ?_
              refine r_take rfl ?_
              refine r_assign rfl rfl ?_
              refine r_nil ?_
              refine r_treeEnd ?_
              refine r_tn ?_
              exact r_at b12 ⟨rfl, rfl, rfl, rfl, rfl, rfl, rfl, trivial⟩ (fun w hw => hw.sub)
            · refine r_allocV (cs := scrV scr0) (by kernel_rfl) rfl fun b12 => ?_
              refine r_nil ?_
              refine r_take rfl ?_
              refine r_call rfl rfl rfl (by kernel_rfl) rfl (fun w hw => by exact drawF08 ⟨s.P, s.hires, m⟩ hm2 (mN t.x 256) (mN t.y 256) (mN t.n 16) hn16 t.big t.clip (some ⟨b66, 0, none⟩) ((sel m).length * perN (mN t.n 16) t.big) (fillL t.d ((sel m).length * perN (mN t.n 16) t.big)) (fillL_len _ _) (by rw [fillL_len]; exact Nat.le_refl _) (fillL_bytes hd8 _) w (own_rd (A := some ⟨b66, 0, none⟩) (m := ((sel m).length * perN (mN t.n 16) t.big)) (c := ((sel m).length * perN (mN t.n 16) t.big)) hw)) ?_
              refine r_nil ?_
              refine r_take rfl ?_
              refine r_move rfl rfl ?_
              refine r_nil ?_
              refine r_take rfl ?_
              refine r_extract rfl rfl rfl ?_
              refine r_nil ?_
              refine r_take rfl ?_
              refine r_extract rfl rfl rfl ?_
              refine r_nil ?_
              refine r_take rfl ?_
              refine r_storeV rfl rfl rfl (scrV_size _) (scrV_size _) (scrV_one _) ?_
              refine r_nil ?_
              refine r_take rfl ?_
              refine r_assign rfl rfl ?_
              refine r_nil ?_
              refine r_treeEnd ?_
              refine r_tn ?_
              exact r_at b12 ⟨rfl, rfl, rfl, rfl, rfl, rfl, rfl, trivial⟩ (fun w hw => hw.sub)
          · refine r_allocV (cs := scrV scr0) (by kernel_rfl) rfl fun b12 => ?_
            refine r_nil ?_
            refine r_take rfl ?_
            refine r_call rfl rfl rfl (by kernel_rfl) rfl (fun w hw => by exact modN08 t.y 256 (.inr (.inr rfl)) w) ?_
            refine r_nil ?_
            refine r_take rfl ?_
            refine r_call rfl rfl rfl (by kernel_rfl) rfl (fun w hw => by exact drawF08 ⟨s.P, s.hires, m⟩ hm2 (mN t.x 256) (mN t.y 256) (mN t.n 16) hn16 t.big t.clip (some ⟨b66, 0, none⟩) ((sel m).length * perN (mN t.n 16) t.big) (fillL t.d ((sel m).length * perN (mN t.n 16) t.big)) (fillL_len _ _) (by rw [fillL_len]; exact Nat.le_refl _) (fillL_bytes hd8 _) w (own_rd (A := some ⟨b66, 0, none⟩) (m := ((sel m).length * perN (mN t.n 16) t.big)) (c := ((sel m).length * perN (mN t.n 16) t.big)) hw)) ?_
            refine r_nil ?_
            refine r_take rfl ?_
            refine r_move rfl rfl ?_
            refine r_nil ?_
            refine r_take rfl ?_
            refine r_extract rfl rfl rfl ?_
            refine r_nil ?_
            refine r_take rfl ?_
            refine r_extract rfl rfl rfl ?_
            refine r_nil ?_
            refine r_take rfl ?_
            refine r_storeV rfl rfl rfl (scrV_size _) (scrV_size _) (scrV_one _) ?_
            refine r_nil ?_
            refine r_take rfl ?_
            refine r_assign rfl rfl ?_
            refine r_nil ?_
            refine r_treeEnd ?_
            refine r_tn ?_
            exact r_at b12 ⟨rfl, rfl, rfl, rfl, rfl, rfl, rfl, trivial⟩ (fun w hw => hw.sub)
        · refine r_allocV (cs := scrV scr0) (by kernel_rfl) rfl fun b12 => ?_
          refine r_nil ?_
          refine r_take rfl ?_
          refine r_call rfl rfl rfl (by kernel_rfl) rfl (fun w hw => by exact modN08 t.x 256 (.inr (.inr rfl)) w) ?_
          refine r_nil ?_
          refine r_take rfl ?_
          refine r_call rfl rfl rfl (by kernel_rfl) rfl (fun w hw => by exact modN08 t.y 256 (.inr (.inr rfl)) w) ?_
          refine r_nil ?_
          refine r_take rfl ?_
          refine r_call rfl rfl rfl (by kernel_rfl) rfl (fun w hw => by exact drawF08 ⟨s.P, s.hires, m⟩ hm2 (mN t.x 256) (mN t.y 256) (mN t.n 16) hn16 t.big t.clip (some ⟨b66, 0, none⟩) ((sel m).length * perN (mN t.n 16) t.big) (fillL t.d ((sel m).length * perN (mN t.n 16) t.big)) (fillL_len _ _) (by rw [fillL_len]; exact Nat.le_refl _) (fillL_bytes hd8 _) w (own_rd (A := some ⟨b66, 0, none⟩) (m := ((sel m).length * perN (mN t.n 16) t.big)) (c := ((sel m).length * perN (mN t.n 16) t.big)) hw)) ?_
          refine r_nil ?_
          refine r_take rfl ?_
          refine r_move rfl rfl ?_
          refine r_nil ?_
          refine r_take rfl ?_
          refine r_extract rfl rfl rfl ?_
          refine r_nil ?_
          refine r_take rfl ?_
          refine r_extract rfl rfl rfl ?_
          refine r_nil ?_
          refine r_take rfl ?_
          refine r_storeV rfl rfl rfl (scrV_size _) (scrV_size _) (scrV_one _) ?_
          refine r_nil ?_
          refine r_take rfl ?_
          refine r_assign rfl rfl ?_
          refine r_nil ?_
          refine r_treeEnd ?_
          refine r_tn ?_
          exact r_at b12 ⟨rfl, rfl, rfl, rfl, rfl, rfl, rfl, trivial⟩ (fun w hw => hw.sub)
      intro b12
      refine r_seq ?_
      refine r_region ?_
      refine r_loadV rfl rfl rfl rfl (scrV_size _) ?_
      refine r_allocV (cs := scrV scr0) (by kernel_rfl) rfl fun b14 => ?_
      refine r_storeV rfl rfl rfl (scrV_size _) (scrV_size _) (scrV_one _) ?_
      refine r_nil ?_
      refine r_tn ?_
      refine r_seq ?_
      refine r_region ?_
      refine r_assign rfl rfl ?_
      refine r_nil ?_
      refine r_tn ?_
      refine r_seq ?_
      refine r_region ?_
      refine r_assign rfl rfl ?_
      refine r_nil ?_
      refine r_tn ?_
      refine r_seq ?_
      refine r_region ?_
      refine r_assign rfl rfl ?_
      refine r_nil ?_
      refine r_tn ?_
      refine r_seq ?_
      refine r_seq ?_
      refine r_region ?_
      refine r_assign rfl rfl ?_
      refine r_nil ?_
      refine r_tn ?_
      refine r_block ?_
      refine r_loop1 (fun k mk => [(5, .pointer (some ⟨b5, 0, none⟩)), (7, .pointer (some ⟨b7, 0, none⟩)), (9, .int .i64 (m : Int)), (10, .int .i64 ((mN t.n 16 : Nat) : Int)), (11, .slice (some ⟨b66, 0, none⟩) ((sel m).length * perN (mN t.n 16) t.big) ((sel m).length * perN (mN t.n 16) t.big)), (12, .pointer (some ⟨b12, 0, none⟩)), (13, .bool (drwH ⟨s.P, s.hires, m⟩ (mN t.x 256) (mN t.y 256) (mN t.n 16) t.big t.clip (fillL t.d ((sel m).length * perN (mN t.n 16) t.big)))), (14, .pointer (some ⟨b14, 0, none⟩)), (15, .bool (stH (ffD s.hires (mN t.x 256) (mN t.y 256) (mN t.n 16) t.big t.clip (fillL t.d ((sel m).length * perN (mN t.n 16) t.big))) (hhD s.hires (mN t.x 256) (mN t.y 256) (mN t.n 16) t.big t.clip (fillL t.d ((sel m).length * perN (mN t.n 16) t.big))) s.P (selK m k))), (16, .int .i64 ((((selK m k).length * perN (mN t.n 16) t.big) : Nat) : Int)), (17, .int .i64 ((2 ^ k : Nat) : Int)), (18, .int .i64 (k : Int))]) (fun k mk => [.blk b14 (.cells (scrV ⟨(stP (ffD s.hires (mN t.x 256) (mN t.y 256) (mN t.n 16) t.big t.clip (fillL t.d ((sel m).length * perN (mN t.n 16) t.big))) s.P (selK m k)).1, s.hires, mk⟩) 32 (0, 0)), .blk b12 (.cells (scrV (drwP ⟨s.P, s.hires, m⟩ (mN t.x 256) (mN t.y 256) (mN t.n 16) t.big t.clip (fillL t.d ((sel m).length * perN (mN t.n 16) t.big)))) 32 (0, 0)), .own 5 1 (.slice (some ⟨b66, 0, none⟩) ((sel m).length * perN (mN t.n 16) t.big) ((sel m).length * perN (mN t.n 16) t.big)) ((sel m).length * perN (mN t.n 16) t.big) ((fillL t.d ((sel m).length * perN (mN t.n 16) t.big)).map (Value.int .u8)), .blk b7 (.cells (scrV ⟨s.P, s.hires, m⟩) 32 (0, 0)), .blk b5 (.cells (stepL t).toArray 41 (0, 0))]) (fun k mk => k ≤ 4) 4 0 m (by omega) ⟨rfl, rfl, rfl, rfl, rfl, rfl, rfl, rfl, by rw [show selK m 0 = [] from rfl, stH_nil]; rfl, by rw [show (selK m 0).length * perN (mN t.n 16) t.big = 0 from Nat.zero_mul _]; rfl, rfl, rfl, trivial⟩ (fun w hw => by rw [show selK m 0 = [] from rfl, stP_nil]; exact hw.sub) fun k mk hk4 => ?_
      refine r_seq ?_
      refine r_seq ?_
      refine r_region ?_
      refine r_move rfl rfl ?_
      refine r_lss rfl rfl rfl rfl ?_
      refine r_nil ?_
      refine r_tn ?_
      refine r_cond rfl (fun hc => ?_) (fun hc => ?_)
      · refine r_skip ?_
        refine r_tn ?_
        refine r_seq ?_
        refine r_block ?_
        refine r_seq ?_
        refine r_seq ?_
        refine r_region ?_
        have hk2 : k < 4 := by have h := of_decide_eq_true hc; omega
        clear hc
        have h2k : 2 ^ k ≤ 8 := Nat.pow_le_pow_right (by omega) (show k ≤ 3 by omega)
        have hjp : ((selK m k).length * perN (mN t.n 16) t.big) + perN (mN t.n 16) t.big ≤ 160 := Nat.add_le_add (Nat.mul_le_mul (Nat.le_trans (selK_len m k) (by omega)) hper : _ ≤ 4 * 32) hper
        refine r_move rfl rfl ?_
        refine r_move rfl rfl ?_
        refine r_call rfl rfl rfl (by kernel_rfl) rfl (fun w hw => by exact on08 m k hm2 (by omega) w) ?_
        refine r_nil ?_
        refine r_tn ?_
        refine r_cond rfl (fun hc => ?_) (fun hc => ?_)
        · refine r_seq ?_
          refine r_region ?_
          have hb : m.testBit k = true := hc
          clear hc
          refine r_move rfl rfl ?_
          refine r_move rfl rfl ?_
          refine r_fieldAddr (off := 6) (o' := 6) rfl rfl rfl rfl ?_
          refine r_load1 rfl rfl rfl (by rfl) ?_
          refine r_call rfl rfl rfl (by kernel_rfl) rfl (fun w hw => by exact refPer08 ((mN t.n 16 : Nat) : Int) t.big w) ?_
          refine r_add (r := (((((selK m k).length * perN (mN t.n 16) t.big) + perN (mN t.n 16) t.big) : Nat) : Int)) rfl rfl rfl (by rw [per_cast]; exact (w64 (by omega)).trans (by omega)) ?_
          refine r_assign rfl rfl ?_
          refine r_nil ?_
          refine r_tn ?_
          refine r_seq ?_
          refine r_cut (ι := Nat) (fun b20 => ([(5, .pointer (some ⟨b5, 0, none⟩)), (7, .pointer (some ⟨b7, 0, none⟩)), (9, .int .i64 (m : Int)), (10, .int .i64 ((mN t.n 16 : Nat) : Int)), (11, .slice (some ⟨b66, 0, none⟩) ((sel m).length * perN (mN t.n 16) t.big) ((sel m).length * perN (mN t.n 16) t.big)), (12, .pointer (some ⟨b12, 0, none⟩)), (13, .bool (drwH ⟨s.P, s.hires, m⟩ (mN t.x 256) (mN t.y 256) (mN t.n 16) t.big t.clip (fillL t.d ((sel m).length * perN (mN t.n 16) t.big)))), (14, .pointer (some ⟨b14, 0, none⟩)), (15, .bool (stH (ffD s.hires (mN t.x 256) (mN t.y 256) (mN t.n 16) t.big t.clip (fillL t.d ((sel m).length * perN (mN t.n 16) t.big))) (hhD s.hires (mN t.x 256) (mN t.y 256) (mN t.n 16) t.big t.clip (fillL t.d ((sel m).length * perN (mN t.n 16) t.big))) s.P (selK m k))), (16, .int .i64 ((((selK m k).length * perN (mN t.n 16) t.big) : Nat) : Int)), (17, .int .i64 ((2 ^ k : Nat) : Int)), (18, .int .i64 (k : Int)), (19, .int .i64 (((((selK m k).length * perN (mN t.n 16) t.big) + perN (mN t.n 16) t.big) : Nat) : Int)), (20, .pointer (some ⟨b20, 0, none⟩)), (21, .bool ((hhD s.hires (mN t.x 256) (mN t.y 256) (mN t.n 16) t.big t.clip (fillL t.d ((sel m).length * perN (mN t.n 16) t.big))) (selK m k).length (s.P k)))], [.blk b20 (.cells (scrV ⟨(stP (ffD s.hires (mN t.x 256) (mN t.y 256) (mN t.n 16) t.big t.clip (fillL t.d ((sel m).length * perN (mN t.n 16) t.big))) s.P (selK m (k + 1))).1, s.hires, 2 ^ k⟩) 32 (0, 0)), .blk b14 (.cells (scrV ⟨(stP (ffD s.hires (mN t.x 256) (mN t.y 256) (mN t.n 16) t.big t.clip (fillL t.d ((sel m).length * perN (mN t.n 16) t.big))) s.P (selK m k)).1, s.hires, mk⟩) 32 (0, 0)), .blk b12 (.cells (scrV (drwP ⟨s.P, s.hires, m⟩ (mN t.x 256) (mN t.y 256) (mN t.n 16) t.big t.clip (fillL t.d ((sel m).length * perN (mN t.n 16) t.big)))) 32 (0, 0)), .own 5 1 (.slice (some ⟨b66, 0, none⟩) ((sel m).length * perN (mN t.n 16) t.big) ((sel m).length * perN (mN t.n 16) t.big)) ((sel m).length * perN (mN t.n 16) t.big) ((fillL t.d ((sel m).length * perN (mN t.n 16) t.big)).map (Value.int .u8)), .blk b7 (.cells (scrV ⟨s.P, s.hires, m⟩) 32 (0, 0)), .blk b5 (.cells (stepL t).toArray 41 (0, 0))])) ?_ ?_
          · refine r_tree { xb := [], rb := [b14, b5], rs := [102, 106, 109, 113, 115], fs := [], acs := [20, 104, 107, 110] } (.take 0 (.take 1 (.take 3 (.take 4 (.take 6 (.take 7 (.take 9 (.take 10 (.take 11 (.take 12 (.take 13 (.take 14 (.take 15 (.take 16 (.take 17 (.fork 2 (.fork 5 (.fork 8 (.fork 18 (.take 19 (.take 20 (.take 21 (.take 22 (.take 23 (.take 24 .done)))))) 22 (.take 18 (.take 19 (.take 20 (.take 21 (.take 23 (.take 24 .done))))))) 22 (.take 8 (.take 18 (.take 19 (.take 20 (.take 21 (.take 23 (.take 24 .done)))))))) 22 (.take 5 (.take 8 (.take 18 (.take 19 (.take 20 (.take 21 (.take 23 (.take 24 .done))))))))) 22 (.take 2 (.take 5 (.take 8 (.take 18 (.take 19 (.take 20 (.take 21 (.take 23 (.take 24 .done))))))))))))))))))))))))) (by kernel_rfl) (by kernel_rfl) (fun w hw k hk => by
              simp only [List.mem_cons, List.not_mem_nil, or_false] at hk
              rcases hk with rfl | rfl <;> exact Sat.lt hw) ?_
            refine r_take rfl ?_
            refine r_loadV rfl rfl rfl rfl (scrV_size _) ?_
            refine r_nil ?_
            refine r_take rfl ?_
            refine r_move rfl rfl ?_
            refine r_nil ?_
            refine r_take rfl ?_
            refine r_fieldAddr (off := 3) (o' := 3) rfl rfl rfl rfl ?_
            refine r_nil ?_
            refine r_take rfl ?_
            refine r_load1 rfl rfl rfl (by rfl) ?_
            refine r_nil ?_
            refine r_take rfl ?_
            refine r_fieldAddr (off := 4) (o' := 4) rfl rfl rfl rfl ?_
            refine r_nil ?_
            refine r_take rfl ?_
            refine r_load1 rfl rfl rfl (by rfl) ?_
            refine r_nil ?_
            refine r_take rfl ?_
            refine r_move rfl rfl ?_
            refine r_nil ?_
            refine r_take rfl ?_
            refine r_fieldAddr (off := 6) (o' := 6) rfl rfl rfl rfl ?_
            refine r_nil ?_
            refine r_take rfl ?_
            refine r_load1 rfl rfl rfl (by rfl) ?_
            refine r_nil ?_
            refine r_take rfl ?_
            refine r_fieldAddr (off := 7) (o' := 7) rfl rfl rfl rfl ?_
            refine r_nil ?_
            refine r_take rfl ?_
            refine r_load1 rfl rfl rfl (by rfl) ?_
            refine r_nil ?_
            refine r_take rfl ?_
            refine r_move rfl rfl ?_
            refine r_nil ?_
            refine r_take rfl ?_
            refine r_move rfl rfl ?_
            refine r_nil ?_
            refine r_take rfl ?_
            refine r_move rfl rfl ?_
            refine r_nil ?_
            refine r_take rfl ?_
            refine r_sliceBoth (sz := 1) (l' := ((selK m k).length * perN (mN t.n 16) t.big)) (h' := (((selK m k).length * perN (mN t.n 16) t.big) + perN (mN t.n 16) t.big)) rfl rfl rfl rfl rfl rfl rfl rfl (jp_le hk2 hb _) (Nat.le_add_right _ _) ?_
            refine r_nil ?_
            refine r_fork rfl rfl ?_ ?_
            · refine r_call rfl rfl rfl (by kernel_rfl) rfl (fun w hw => by exact select08 ⟨(stP (ffD s.hires (mN t.x 256) (mN t.y 256) (mN t.n 16) t.big t.clip (fillL t.d ((sel m).length * perN (mN t.n 16) t.big))) s.P (selK m k)).1, s.hires, mk⟩ (2 ^ k) w) ?_
              refine r_nil ?_
              refine r_fork rfl rfl ?_ ?_
              · refine r_call rfl rfl rfl (by kernel_rfl) rfl (fun w hw => by exact modN08 t.x 256 (.inr (.inr rfl)) w) ?_
                refine r_nil ?_
                refine r_fork rfl rfl ?_ ?_
                · refine r_call rfl rfl rfl (by kernel_rfl) rfl (fun w hw => by exact modN08 t.y 256 (.inr (.inr rfl)) w) ?_
                  refine r_nil ?_
                  refine r_fork rfl rfl ?_ ?_
                  · refine r_call rfl rfl rfl (by kernel_rfl) rfl (fun w hw => by exact drawK08 s m k hk2 hb (mN t.x 256) (mN t.y 256) (mN t.n 16) hn16 t.big t.clip b66 (fillL t.d ((sel m).length * perN (mN t.n 16) t.big)) (fillL_len _ _) (fillL_bytes hd8 _) w (own_rd (A := some ⟨b66, 0, none⟩) (m := ((sel m).length * perN (mN t.n 16) t.big)) (c := ((sel m).length * perN (mN t.n 16) t.big)) hw)) ?_
                    refine r_nil ?_
                    refine r_take rfl ?_
                    refine r_move rfl rfl ?_
                    refine r_nil ?_
                    refine r_take rfl ?_
                    refine r_extract rfl rfl rfl ?_
                    refine r_nil ?_
                    refine r_take rfl ?_
                    refine r_extract rfl rfl rfl ?_
                    refine r_nil ?_
                    refine r_take rfl ?_
                    refine r_allocV (cs := scrV scr0) (by kernel_rfl) rfl fun b20 => ?_
                    refine r_nil ?_
                    refine r_take rfl ?_
                    refine r_storeV rfl rfl rfl (scrV_size _) (scrV_size _) (scrV_one _) ?_
                    refine r_nil ?_
                    refine r_take rfl ?_
                    refine r_assign rfl rfl ?_
                    refine r_nil ?_
                    refine r_treeEnd ?_
                    refine r_tn ?_
                    exact r_at b20 ⟨rfl, rfl, rfl, rfl, rfl, rfl, rfl, rfl, rfl, rfl, rfl, rfl, rfl, rfl, rfl, trivial⟩ (fun w hw => hw.sub)
                  · refine r_allocV (cs := scrV scr0) (by kernel_rfl) rfl fun b20 => ?_
                    refine r_nil ?_
                    refine r_take rfl ?_
                    refine r_call rfl rfl rfl (by kernel_rfl) rfl (fun w hw => by exact drawK08 s m k hk2 hb (mN t.x 256) (mN t.y 256) (mN t.n 16) hn16 t.big t.clip b66 (fillL t.d ((sel m).length * perN (mN t.n 16) t.big)) (fillL_len _ _) (fillL_bytes hd8 _) w (own_rd (A := some ⟨b66, 0, none⟩) (m := ((sel m).length * perN (mN t.n 16) t.big)) (c := ((sel m).length * perN (mN t.n 16) t.big)) hw)) ?_
                    refine r_nil ?_
                    refine r_take rfl ?_
                    refine r_move rfl rfl ?_
                    refine r_nil ?_
                    refine r_take rfl ?_
                    refine r_extract rfl rfl rfl ?_
                    refine r_nil ?_
                    refine r_take rfl ?_
                    refine r_extract rfl rfl rfl ?_
                    refine r_nil ?_
                    refine r_take rfl ?_
                    refine r_storeV rfl rfl rfl (scrV_size _) (scrV_size _) (scrV_one _) ?_
                    refine r_nil ?_
                    refine r_take rfl ?_
                    refine r_assign rfl rfl ?_
                    refine r_nil ?_
                    refine r_treeEnd ?_
                    refine r_tn ?_
                    exact r_at b20 ⟨rfl, rfl, rfl, rfl, rfl, rfl, rfl, rfl, rfl, rfl, rfl, rfl, rfl, rfl, rfl, trivial⟩ (fun w hw => hw.sub)
                · refine r_allocV (cs := scrV scr0) (by kernel_rfl) rfl fun b20 => ?_
                  refine r_nil ?_
                  refine r_take rfl ?_
                  refine r_call rfl rfl rfl (by kernel_rfl) rfl (fun w hw => by exact modN08 t.y 256 (.inr (.inr rfl)) w) ?_
                  refine r_nil ?_
                  refine r_take rfl ?_
                  refine r_call rfl rfl rfl (by kernel_rfl) rfl (fun w hw => by exact drawK08 s m k hk2 hb (mN t.x 256) (mN t.y 256) (mN t.n 16) hn16 t.big t.clip b66 (fillL t.d ((sel m).length * perN (mN t.n 16) t.big)) (fillL_len _ _) (fillL_bytes hd8 _) w (own_rd (A := some ⟨b66, 0, none⟩) (m := ((sel m).length * perN (mN t.n 16) t.big)) (c := ((sel m).length * perN (mN t.n 16) t.big)) hw)) ?_
                  refine r_nil ?_
                  refine r_take rfl ?_
                  refine r_move rfl rfl ?_
                  refine r_nil ?_
                  refine r_take rfl ?_
                  refine r_extract rfl rfl rfl ?_
                  refine r_nil ?_
                  refine r_take rfl ?_
                  refine r_extract rfl rfl rfl ?_
                  refine r_nil ?_
                  refine r_take rfl ?_
                  refine r_storeV rfl rfl rfl (scrV_size _) (scrV_size _) (scrV_one _) ?_
                  refine r_nil ?_
                  refine r_take rfl ?_
                  refine r_assign rfl rfl ?_
                  refine r_nil ?_
                  refine r_treeEnd ?_
                  refine r_tn ?_
                  exact r_at b20 ⟨rfl, rfl, rfl, rfl, rfl, rfl, rfl, rfl, rfl, rfl, rfl, rfl, rfl, rfl, rfl, trivial⟩ (fun w hw => hw.sub)
              · refine r_allocV (cs := scrV scr0) (by kernel_rfl) rfl fun b20 => ?_
                refine r_nil ?_
                refine r_take rfl ?_
                refine r_call rfl rfl rfl (by kernel_rfl) rfl (fun w hw => by exact modN08 t.x 256 (.inr (.inr rfl)) w) ?_
                refine r_nil ?_
                refine r_take rfl ?_
                refine r_call rfl rfl rfl (by kernel_rfl) rfl (fun w hw => by exact modN08 t.y 256 (.inr (.inr rfl)) w) ?_
                refine r_nil ?_
                refine r_take rfl ?_
                refine r_call rfl rfl rfl (by kernel_rfl) rfl (fun w hw => by exact drawK08 s m k hk2 hb (mN t.x 256) (mN t.y 256) (mN t.n 16) hn16 t.big t.clip b66 (fillL t.d ((sel m).length * perN (mN t.n 16) t.big)) (fillL_len _ _) (fillL_bytes hd8 _) w (own_rd (A := some ⟨b66, 0, none⟩) (m := ((sel m).length * perN (mN t.n 16) t.big)) (c := ((sel m).length * perN (mN t.n 16) t.big)) hw)) ?_
                refine r_nil ?_
                refine r_take rfl ?_
                refine r_move rfl rfl ?_
                refine r_nil ?_
                refine r_take rfl ?_
                refine r_extract rfl rfl rfl ?_
                refine r_nil ?_
                refine r_take rfl ?_
                refine r_extract rfl rfl rfl ?_
                refine r_nil ?_
                refine r_take rfl ?_
                refine r_storeV rfl rfl rfl (scrV_size _) (scrV_size _) (scrV_one _) ?_
                refine r_nil ?_
                refine r_take rfl ?_
                refine r_assign rfl rfl ?_
                refine r_nil ?_
                refine r_treeEnd ?_
                refine r_tn ?_
                exact r_at b20 ⟨rfl, rfl, rfl, rfl, rfl, rfl, rfl, rfl, rfl, rfl, rfl, rfl, rfl, rfl, rfl, trivial⟩ (fun w hw => hw.sub)
            · refine r_allocV (cs := scrV scr0) (by kernel_rfl) rfl fun b20 => ?_
              refine r_nil ?_
              refine r_take rfl ?_
              refine r_call rfl rfl rfl (by kernel_rfl) rfl (fun w hw => by exact select08 ⟨(stP (ffD s.hires (mN t.x 256) (mN t.y 256) (mN t.n 16) t.big t.clip (fillL t.d ((sel m).length * perN (mN t.n 16) t.big))) s.P (selK m k)).1, s.hires, mk⟩ (2 ^ k) w) ?_
              refine r_nil ?_
              refine r_take rfl ?_
              refine r_call rfl rfl rfl (by kernel_rfl) rfl (fun w hw => by exact modN08 t.x 256 (.inr (.inr rfl)) w) ?_
              refine r_nil ?_
              refine r_take rfl ?_
              refine r_call rfl rfl rfl (by kernel_rfl) rfl (fun w hw => by exact modN08 t.y 256 (.inr (.inr rfl)) w) ?_
              refine r_nil ?_
              refine r_take rfl ?_
              refine r_call rfl rfl rfl (by kernel_rfl) rfl (fun w hw => by exact drawK08 s m k hk2 hb (mN t.x 256) (mN t.y 256) (mN t.n 16) hn16 t.big t.clip b66 (fillL t.d ((sel m).length * perN (mN t.n 16) t.big)) (fillL_len _ _) (fillL_bytes hd8 _) w (own_rd (A := some ⟨b66, 0, none⟩) (m := ((sel m).length * perN (mN t.n 16) t.big)) (c := ((sel m).length * perN (mN t.n 16) t.big)) hw)) ?_
              refine r_nil ?_
              refine r_take rfl ?_
              refine r_move rfl rfl ?_
              refine r_nil ?_
              refine r_take rfl ?_
              refine r_extract rfl rfl rfl ?_
              refine r_nil ?_
              refine r_take rfl ?_
              refine r_extract rfl rfl rfl ?_
              refine r_nil ?_
              refine r_take rfl ?_
              refine r_storeV rfl rfl rfl (scrV_size _) (scrV_size _) (scrV_one _) ?_
              refine r_nil ?_
              refine r_take rfl ?_
              refine r_assign rfl rfl ?_
              refine r_nil ?_
              refine r_treeEnd ?_
              refine r_tn ?_
              exact r_at b20 ⟨rfl, rfl, rfl, rfl, rfl, rfl, rfl, rfl, rfl, rfl, rfl, rfl, rfl, rfl, rfl, trivial⟩ (fun w hw => hw.sub)
          intro b20
          refine r_seq ?_
          refine r_region ?_
          refine r_loadV rfl rfl rfl rfl (scrV_size _) ?_
          refine r_storeV rfl rfl rfl (scrV_size _) (scrV_size _) (scrV_one _) ?_
          refine r_nil ?_
          refine r_tn ?_
          refine r_seq ?_
          refine r_region ?_
          refine r_move rfl rfl ?_
          refine r_move rfl rfl ?_
          refine r_split 125 rfl (fun hb125 => ?_) (fun hb125 => ?_)
          · refine r_pass rfl rfl rfl rfl ?_
            refine r_pick_t rfl rfl rfl ?_
            refine r_assign rfl rfl ?_
            refine r_nil ?_
            refine r_tn ?_
            refine r_region ?_
            refine r_move rfl rfl ?_
            refine r_assign rfl rfl ?_
            refine r_nil ?_
            refine r_tn ?_
            refine r_region ?_
            refine r_move rfl rfl ?_
            refine r_mul (r := ((2 ^ (k + 1) : Nat) : Int)) rfl rfl rfl (by rw [Nat.pow_succ]; generalize 2 ^ k = z at h2k ⊢; exact (w64 (by omega)).trans (by omega)) ?_
            refine r_assign rfl rfl ?_
            refine r_nil ?_
            refine r_bn ?_
            refine r_tn ?_
            refine r_region ?_
            refine r_move rfl rfl ?_
            refine r_add rfl rfl rfl (w64 (by omega)) ?_
            refine r_assign rfl rfl ?_
            refine r_nil ?_
            refine r_tn ?_
            first | exact r_again1 (k + 1) (2 ^ k) (by omega) (by omega) ⟨rfl, rfl, rfl, rfl, rfl, rfl, rfl, rfl, by rw [stH_yes _ _ _ hk2 hb, hb125]; rfl, by rw [jp_yes hk2 hb]; rfl, rfl, rfl, trivial⟩ (fun w hw => by exact hw.sub) | exact r_again1 (k + 1) mk (by omega) (by omega) ⟨rfl, rfl, rfl, rfl, rfl, rfl, rfl, rfl, by rw [selK_no hk2 hc]; rfl, by rw [selK_no hk2 hc]; rfl, rfl, rfl, trivial⟩ (fun w hw => by rw [selK_no hk2 hc]; exact hw.sub)
          · refine r_go rfl rfl ?_
            refine r_move rfl rfl ?_
            refine r_pick_f rfl rfl rfl ?_
            refine r_assign rfl rfl ?_
            refine r_nil ?_
            refine r_tn ?_
            refine r_region ?_
            refine r_move rfl rfl ?_
            refine r_assign rfl rfl ?_
            refine r_nil ?_
            refine r_tn ?_
            refine r_region ?_
            refine r_move rfl rfl ?_
            refine r_mul (r := ((2 ^ (k + 1) : Nat) : Int)) rfl rfl rfl (by rw [Nat.pow_succ]; generalize 2 ^ k = z at h2k ⊢; exact (w64 (by omega)).trans (by omega)) ?_
            refine r_assign rfl rfl ?_
            refine r_nil ?_
            refine r_bn ?_
            refine r_tn ?_
            refine r_region ?_
            refine r_move rfl rfl ?_
            refine r_add rfl rfl rfl (w64 (by omega)) ?_
            refine r_assign rfl rfl ?_
            refine r_nil ?_
            refine r_tn ?_
            first | exact r_again1 (k + 1) (2 ^ k) (by omega) (by omega) ⟨rfl, rfl, rfl, rfl, rfl, rfl, rfl, rfl, by rw [stH_yes _ _ _ hk2 hb, hb125]; rfl, by rw [jp_yes hk2 hb]; rfl, rfl, rfl, trivial⟩ (fun w hw => by exact hw.sub) | exact r_again1 (k + 1) mk (by omega) (by omega) ⟨rfl, rfl, rfl, rfl, rfl, rfl, rfl, rfl, by rw [selK_no hk2 hc]; rfl, by rw [selK_no hk2 hc]; rfl, rfl, rfl, trivial⟩ (fun w hw => by rw [selK_no hk2 hc]; exact hw.sub)
        · refine r_skip ?_
          refine r_tn ?_
          refine r_region ?_
          refine r_move rfl rfl ?_
          refine r_mul (r := ((2 ^ (k + 1) : Nat) : Int)) rfl rfl rfl (by rw [Nat.pow_succ]; generalize 2 ^ k = z at h2k ⊢; exact (w64 (by omega)).trans (by omega)) ?_
          refine r_assign rfl rfl ?_
          refine r_nil ?_
          refine r_bn ?_
          refine r_tn ?_
          refine r_region ?_
          refine r_move rfl rfl ?_
          refine r_add rfl rfl rfl (w64 (by omega)) ?_
          refine r_assign rfl rfl ?_
          refine r_nil ?_
          refine r_tn ?_
          first | exact r_again1 (k + 1) (2 ^ k) (by omega) (by omega) ⟨rfl, rfl, rfl, rfl, rfl, rfl, rfl, rfl, by rw [stH_yes _ _ _ hk2 hb, hb125]; rfl, by rw [jp_yes hk2 hb]; rfl, rfl, rfl, trivial⟩ (fun w hw => by exact hw.sub) | exact r_again1 (k + 1) mk (by omega) (by omega) ⟨rfl, rfl, rfl, rfl, rfl, rfl, rfl, rfl, by rw [selK_no hk2 hc]; rfl, by rw [selK_no hk2 hc]; rfl, rfl, rfl, trivial⟩ (fun w hw => by rw [selK_no hk2 hc]; exact hw.sub)
      · refine r_exit ?_
        refine r_te ?_
        refine r_te ?_
        refine r_be ?_
        refine r_tn ?_
        refine r_seq ?_
        refine r_mixedD { xb := [], rb := [b12], rs := [134], fs := [], acs := [133] } (by kernel_rfl) (by kernel_rfl) (fun w hw k hk => by
          simp only [List.mem_cons, List.not_mem_nil, or_false] at hk
          rcases hk with rfl <;> exact Sat.lt hw) ?_
        have hk5 : k = 4 := by have h := of_decide_eq_false hc; omega
        subst hk5
        refine r_loadV rfl rfl rfl rfl (scrV_size _) ?_
        refine r_move rfl rfl ?_
        refine r_call rfl rfl rfl (by kernel_rfl) rfl (fun w hw => by exact select08 ⟨(stP (ffD s.hires (mN t.x 256) (mN t.y 256) (mN t.n 16) t.big t.clip (fillL t.d ((sel m).length * perN (mN t.n 16) t.big))) s.P (selK m 4)).1, s.hires, mk⟩ m w) ?_
        refine r_loadV rfl rfl rfl rfl (scrV_size _) ?_
        refine r_eqlAgg (p := true) rfl rfl rfl scrFlat (scrV_ok _) (scrV_ok _) (by rw [drwP_is]; exact scr_self _) ?_
        refine r_move rfl rfl ?_
        refine r_go rfl rfl ?_
        refine r_move rfl rfl ?_
        refine r_go rfl rfl ?_
        refine r_move rfl rfl ?_
        refine r_go rfl rfl ?_
        refine r_eql_bool (p := true) rfl rfl rfl rfl (by rw [drwH_is]; simp [sel]) ?_
        refine r_pick_t rfl rfl rfl ?_
        refine r_assign rfl rfl ?_
        refine r_nil ?_
        refine r_tn ?_
        refine r_ret ?_
        exact r_done1 (.inl rfl) rfl (res_tmp rfl) fun w hw => ⟨rfl, hw.clear⟩

theorem ScreenSingles_walk (A : Option Addr) (c : Nat) (l : List StepD) (mask : Int) (t : StepD) (w : World) (hA : Rd w A (stepsL l)) (ok : ∀ s ∈ l, okStep w s) (hq : (Lit.int .u8 mask).wf = true) (okt : okStep w t) :
    Calls Try.prog 5 #[.slice A l.length c, .int .u8 mask, .agg (stepL t).toArray] w fun e w' => e = .returned (.bool true) ∧ Sat w [] [] w' := by
  have h := wfu8' hq
  obtain ⟨q, rfl⟩ : ∃ q : Nat, mask = q := ⟨mask.toNat, by omega⟩
  exact ScreenSingles_nat A c l q t w hA ok (by omega) okt

end Go.Proofs.Ytgamehjakgcgnaa
