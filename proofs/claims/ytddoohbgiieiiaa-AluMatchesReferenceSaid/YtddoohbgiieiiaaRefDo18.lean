/-
  The arithmetic unit s reference (chapter 18): Do by the same plain function.
-/
import Derived.Test.YtddoohbgiieiiaaBits18
namespace Go.Proofs.Ytddoohbgiieiiaa
open Go Go.RowKit
set_option linter.unusedVariables false
set_option linter.unusedSimpArgs false
set_option maxHeartbeats 2000000

theorem refDo_8 (l : List Int) (X Y N NN Ad Ln lv : Int) (a b c r d e f : Bool) (hl : l.length = 16) (hr : ∀ i, 0 ≤ l.getD i 0 ∧ l.getD i 0 ≤ 255) (hX : 0 ≤ X ∧ X ≤ 15) (hY : 0 ≤ Y ∧ Y ≤ 15) (hN : 0 ≤ NN ∧ NN ≤ 255) (x y s : Int) (hxe : l.getD X.toNat 0 = x) (hye : l.getD Y.toNat 0 = y) (hs : (if a then y else x) = s) (w : World) :
    Calls Try.prog 11 #[.agg (fl l), .agg (ins 8 X Y N NN Ad Ln), .agg (pro lv a b c r d e f)] w fun e w' => e = .returned (.tuple #[.agg (fl (doL l X NN (-1))), .bool true]) ∧ Sat w [] [] w' := by
  have hx := hr X.toNat
  have hy := hr Y.toNat
  rw [hxe] at hx
  rw [hye] at hy
  have hs2 : 0 ≤ s ∧ s ≤ 255 := by rw [← hs]; split <;> omega
  refine enter Try.func11 rfl rfl rfl ?_
  refine r_seq ?_
  refine r_region ?_
  refine r_boxV rfl rfl fun b3 => ?_
  refine r_boxV rfl rfl fun b4 => ?_
  refine r_boxV rfl rfl fun b5 => ?_
  refine r_allocV (cs := fl (List.replicate 16 0)) rfl rfl fun b6 => ?_
  refine r_assign rfl rfl ?_
  refine r_nil ?_
  refine r_tn ?_
  refine r_seq ?_
  refine r_region ?_
  refine r_fieldAddr (off := 1) (o' := 1) rfl rfl rfl rfl ?_
  refine r_load1 rfl rfl rfl (by rfl) ?_
  refine r_indexArr (sz := 1) rfl rfl rfl rfl rfl (by omega) (by omega) (show _ = X.toNat by simp) ?_
  refine r_load1 rfl rfl rfl (fl_at (k := X.toNat) (by omega)) ?_
  refine r_convert rfl rfl rfl rfl ((w64 (by omega)).trans hxe) ?_
  refine r_assign rfl rfl ?_
  refine r_nil ?_
  refine r_tn ?_
  refine r_seq ?_
  refine r_region ?_
  refine r_fieldAddr (off := 2) (o' := 2) rfl rfl rfl rfl ?_
  refine r_load1 rfl rfl rfl (by rfl) ?_
  refine r_indexArr (sz := 1) rfl rfl rfl rfl rfl (by omega) (by omega) (show _ = Y.toNat by simp) ?_
  refine r_load1 rfl rfl rfl (fl_at (k := Y.toNat) (by omega)) ?_
  refine r_convert rfl rfl rfl rfl ((w64 (by omega)).trans hye) ?_
  refine r_assign rfl rfl ?_
  refine r_nil ?_
  refine r_tn ?_
  refine r_seq ?_
  refine r_region ?_
  refine r_move rfl rfl ?_
  refine r_assign rfl rfl ?_
  refine r_nil ?_
  refine r_tn ?_
  refine r_seq ?_
  refine r_cut (fun _ : Unit => ([(3, .pointer (some ⟨b3, 0, none⟩)), (4, .pointer (some ⟨b4, 0, none⟩)), (5, .pointer (some ⟨b5, 0, none⟩)), (6, .pointer (some ⟨b6, 0, none⟩)), (8, .int .i64 x), (9, .int .i64 y), (10, .int .i64 s)], [.blk b3 (.cells (fl l) 22 (0, 0)), .blk b4 (.cells (ins 8 X Y N NN Ad Ln) 24 (0, 0)), .blk b5 (.cells (pro lv a b c r d e f) 26 (0, 0)), .blk b6 (.cells (fl (List.replicate 16 0)) 22 (0, 0))])) ?_ ?_
  · refine r_seq ?_
    refine r_region ?_
    refine r_fieldAddr (off := 1) (o' := 1) rfl rfl rfl rfl ?_
    refine r_load1 rfl rfl rfl (by rfl) ?_
    refine r_nil ?_
    refine r_tn ?_
    refine r_cond rfl (fun hc => ?_) (fun hc => ?_)
    · refine r_region ?_
      refine r_move rfl rfl ?_
      refine r_assign rfl rfl ?_
      refine r_nil ?_
      refine r_tn ?_
      exact r_at () ⟨rfl, rfl, rfl, rfl, rfl, rfl, congrArg (fun z => some (Value.int .i64 z)) (by rw [← hs, hc]; rfl), trivial⟩ (fun w hw => hw.sub)
    · refine r_skip ?_
      refine r_tn ?_
      exact r_at () ⟨rfl, rfl, rfl, rfl, rfl, rfl, congrArg (fun z => some (Value.int .i64 z)) (by rw [← hs, hc]; rfl), trivial⟩ (fun w hw => hw.sub)
  intro _
  refine r_seq ?_
  refine r_region ?_
  refine r_assign rfl rfl ?_
  refine r_nil ?_
  refine r_tn ?_
  refine r_seq ?_
  refine r_region ?_
  refine r_assign rfl rfl ?_
  refine r_nil ?_
  refine r_tn ?_
  refine r_seq ?_
  refine r_seq ?_
  refine r_region ?_
  refine r_fieldAddr (off := 0) (o' := 0) rfl rfl rfl rfl ?_
  refine r_load1 rfl rfl rfl (by rfl) ?_
  refine r_nil ?_
  refine r_tn ?_
  refine r_block ?_
  refine r_seq ?_
  refine r_region ?_
  refine r_eql rfl rfl rfl (decide_eq_true (by decide)) ?_
  refine r_assign rfl rfl ?_
  refine r_nil ?_
  refine r_tn ?_
  refine r_cond_t rfl ?_
  refine r_region ?_
  refine r_fieldAddr (off := 4) (o' := 4) rfl rfl rfl rfl ?_
  refine r_load1 rfl rfl rfl (by rfl) ?_
  refine r_assign rfl rfl ?_
  refine r_nil ?_
  refine r_bn ?_
  refine r_tn ?_
  refine r_seq ?_
  refine r_region ?_
  refine r_fieldAddr (off := 1) (o' := 1) rfl rfl rfl rfl ?_
  refine r_load1 rfl rfl rfl (by rfl) ?_
  refine r_move rfl rfl ?_
  refine r_convert rfl rfl rfl rfl rfl ?_
  refine r_indexArr (sz := 1) rfl rfl rfl rfl rfl (by omega) (by omega) (show _ = X.toNat by simp) ?_
  refine r_store1 rfl rfl rfl rfl rfl (by rw [fl_len]; omega) ?_
  rw [fl_set]
  refine r_nil ?_
  refine r_tn ?_
  refine r_seq ?_
  refine r_seq ?_
  refine r_region ?_
  refine r_move rfl rfl ?_
  refine r_geq rfl rfl rfl rfl ?_
  refine r_nil ?_
  refine r_tn ?_
  refine r_cond rfl (fun hc => ?_) (fun hc => ?_)
  · refine r_region ?_
    refine r_move rfl rfl ?_
    refine r_convert rfl rfl rfl rfl rfl ?_
    refine r_indexArr (sz := 1) rfl rfl rfl rfl rfl (by omega) (by omega) (show _ = 15 by simp) ?_
    refine r_store1 rfl rfl rfl rfl rfl (by rw [fl_len]; simp; omega) ?_
    rw [fl_set]
    refine r_nil ?_
    refine r_tn ?_
    refine r_seq ?_
    refine r_region ?_
    refine r_loadV rfl rfl rfl rfl (fl_size (show _ = 16 by simp [hl])) ?_
    refine r_storeV rfl rfl rfl (fl_size (show _ = 16 by simp [hl])) rfl (fl_one _) ?_
    refine r_assign rfl rfl ?_
    refine r_nil ?_
    refine r_tn ?_
    refine r_ret ?_
    exact r_done2 (.inl rfl) rfl (res_cellV rfl rfl rfl (fl_size (show _ = 16 by simp [hl]))) (res_tmp rfl) fun w hw => ⟨by unfold doL; first | rw [if_pos (of_decide_eq_true hc)] | rw [if_neg (of_decide_eq_false hc)] | simp_all [logF], hw.clear⟩
  · refine r_skip ?_
    refine r_tn ?_
    refine r_seq ?_
    refine r_region ?_
    refine r_loadV rfl rfl rfl rfl (fl_size (show _ = 16 by simp [hl])) ?_
    refine r_storeV rfl rfl rfl (fl_size (show _ = 16 by simp [hl])) rfl (fl_one _) ?_
    refine r_assign rfl rfl ?_
    refine r_nil ?_
    refine r_tn ?_
    refine r_ret ?_
    exact r_done2 (.inl rfl) rfl (res_cellV rfl rfl rfl (fl_size (show _ = 16 by simp [hl]))) (res_tmp rfl) fun w hw => ⟨by unfold doL; first | rw [if_pos (of_decide_eq_true hc)] | rw [if_neg (of_decide_eq_false hc)] | simp_all [logF], hw.clear⟩

theorem refDo_9 (l : List Int) (X Y N NN Ad Ln lv : Int) (a b c r d e f : Bool) (hl : l.length = 16) (hr : ∀ i, 0 ≤ l.getD i 0 ∧ l.getD i 0 ≤ 255) (hX : 0 ≤ X ∧ X ≤ 15) (hY : 0 ≤ Y ∧ Y ≤ 15) (hN : 0 ≤ NN ∧ NN ≤ 255) (x y s : Int) (hxe : l.getD X.toNat 0 = x) (hye : l.getD Y.toNat 0 = y) (hs : (if a then y else x) = s) (w : World) :
    Calls Try.prog 11 #[.agg (fl l), .agg (ins 9 X Y N NN Ad Ln), .agg (pro lv a b c r d e f)] w fun e w' => e = .returned (.tuple #[.agg (fl (doL l X (x + NN) (-1))), .bool true]) ∧ Sat w [] [] w' := by
  have hx := hr X.toNat
  have hy := hr Y.toNat
  rw [hxe] at hx
  rw [hye] at hy
  have hs2 : 0 ≤ s ∧ s ≤ 255 := by rw [← hs]; split <;> omega
  refine enter Try.func11 rfl rfl rfl ?_
  refine r_seq ?_
  refine r_region ?_
  refine r_boxV rfl rfl fun b3 => ?_
  refine r_boxV rfl rfl fun b4 => ?_
  refine r_boxV rfl rfl fun b5 => ?_
  refine r_allocV (cs := fl (List.replicate 16 0)) rfl rfl fun b6 => ?_
  refine r_assign rfl rfl ?_
  refine r_nil ?_
  refine r_tn ?_
  refine r_seq ?_
  refine r_region ?_
  refine r_fieldAddr (off := 1) (o' := 1) rfl rfl rfl rfl ?_
  refine r_load1 rfl rfl rfl (by rfl) ?_
  refine r_indexArr (sz := 1) rfl rfl rfl rfl rfl (by omega) (by omega) (show _ = X.toNat by simp) ?_
  refine r_load1 rfl rfl rfl (fl_at (k := X.toNat) (by omega)) ?_
  refine r_convert rfl rfl rfl rfl ((w64 (by omega)).trans hxe) ?_
  refine r_assign rfl rfl ?_
  refine r_nil ?_
  refine r_tn ?_
  refine r_seq ?_
  refine r_region ?_
  refine r_fieldAddr (off := 2) (o' := 2) rfl rfl rfl rfl ?_
  refine r_load1 rfl rfl rfl (by rfl) ?_
  refine r_indexArr (sz := 1) rfl rfl rfl rfl rfl (by omega) (by omega) (show _ = Y.toNat by simp) ?_
  refine r_load1 rfl rfl rfl (fl_at (k := Y.toNat) (by omega)) ?_
  refine r_convert rfl rfl rfl rfl ((w64 (by omega)).trans hye) ?_
  refine r_assign rfl rfl ?_
  refine r_nil ?_
  refine r_tn ?_
  refine r_seq ?_
  refine r_region ?_
  refine r_move rfl rfl ?_
  refine r_assign rfl rfl ?_
  refine r_nil ?_
  refine r_tn ?_
  refine r_seq ?_
  refine r_cut (fun _ : Unit => ([(3, .pointer (some ⟨b3, 0, none⟩)), (4, .pointer (some ⟨b4, 0, none⟩)), (5, .pointer (some ⟨b5, 0, none⟩)), (6, .pointer (some ⟨b6, 0, none⟩)), (8, .int .i64 x), (9, .int .i64 y), (10, .int .i64 s)], [.blk b3 (.cells (fl l) 22 (0, 0)), .blk b4 (.cells (ins 9 X Y N NN Ad Ln) 24 (0, 0)), .blk b5 (.cells (pro lv a b c r d e f) 26 (0, 0)), .blk b6 (.cells (fl (List.replicate 16 0)) 22 (0, 0))])) ?_ ?_
  · refine r_seq ?_
    refine r_region ?_
    refine r_fieldAddr (off := 1) (o' := 1) rfl rfl rfl rfl ?_
    refine r_load1 rfl rfl rfl (by rfl) ?_
    refine r_nil ?_
    refine r_tn ?_
    refine r_cond rfl (fun hc => ?_) (fun hc => ?_)
    · refine r_region ?_
      refine r_move rfl rfl ?_
      refine r_assign rfl rfl ?_
      refine r_nil ?_
      refine r_tn ?_
      exact r_at () ⟨rfl, rfl, rfl, rfl, rfl, rfl, congrArg (fun z => some (Value.int .i64 z)) (by rw [← hs, hc]; rfl), trivial⟩ (fun w hw => hw.sub)
    · refine r_skip ?_
      refine r_tn ?_
      exact r_at () ⟨rfl, rfl, rfl, rfl, rfl, rfl, congrArg (fun z => some (Value.int .i64 z)) (by rw [← hs, hc]; rfl), trivial⟩ (fun w hw => hw.sub)
  intro _
  refine r_seq ?_
  refine r_region ?_
  refine r_assign rfl rfl ?_
  refine r_nil ?_
  refine r_tn ?_
  refine r_seq ?_
  refine r_region ?_
  refine r_assign rfl rfl ?_
  refine r_nil ?_
  refine r_tn ?_
  refine r_seq ?_
  refine r_seq ?_
  refine r_region ?_
  refine r_fieldAddr (off := 0) (o' := 0) rfl rfl rfl rfl ?_
  refine r_load1 rfl rfl rfl (by rfl) ?_
  refine r_nil ?_
  refine r_tn ?_
  refine r_block ?_
  refine r_seq ?_
  refine r_region ?_
  refine r_eql rfl rfl rfl (decide_eq_false (by decide)) ?_
  refine r_assign rfl rfl ?_
  refine r_nil ?_
  refine r_tn ?_
  refine r_cond_f rfl ?_
  refine r_seq ?_
  refine r_region ?_
  refine r_eql rfl rfl rfl (decide_eq_true (by decide)) ?_
  refine r_assign rfl rfl ?_
  refine r_nil ?_
  refine r_tn ?_
  refine r_cond_t rfl ?_
  refine r_region ?_
  refine r_move rfl rfl ?_
  refine r_fieldAddr (off := 4) (o' := 4) rfl rfl rfl rfl ?_
  refine r_load1 rfl rfl rfl (by rfl) ?_
  refine r_add rfl rfl rfl (w64 (by omega)) ?_
  refine r_rem rfl rfl rfl (by decide) rfl ?_
  refine r_assign rfl rfl ?_
  refine r_nil ?_
  refine r_bn ?_
  refine r_tn ?_
  refine r_seq ?_
  refine r_region ?_
  refine r_fieldAddr (off := 1) (o' := 1) rfl rfl rfl rfl ?_
  refine r_load1 rfl rfl rfl (by rfl) ?_
  refine r_move rfl rfl ?_
  refine r_convert rfl rfl rfl rfl (show _ = IntKind.u8.wrap (x + NN) by show _ % 256 = _ % 256; rw [Int.tmod_eq_emod_of_nonneg (by omega)]; omega) ?_
  refine r_indexArr (sz := 1) rfl rfl rfl rfl rfl (by omega) (by omega) (show _ = X.toNat by simp) ?_
  refine r_store1 rfl rfl rfl rfl rfl (by rw [fl_len]; omega) ?_
  rw [fl_set]
  refine r_nil ?_
  refine r_tn ?_
  refine r_seq ?_
  refine r_seq ?_
  refine r_region ?_
  refine r_move rfl rfl ?_
  refine r_geq rfl rfl rfl rfl ?_
  refine r_nil ?_
  refine r_tn ?_
  refine r_cond rfl (fun hc => ?_) (fun hc => ?_)
  · refine r_region ?_
    refine r_move rfl rfl ?_
    refine r_convert rfl rfl rfl rfl rfl ?_
    refine r_indexArr (sz := 1) rfl rfl rfl rfl rfl (by omega) (by omega) (show _ = 15 by simp) ?_
    refine r_store1 rfl rfl rfl rfl rfl (by rw [fl_len]; simp; omega) ?_
    rw [fl_set]
    refine r_nil ?_
    refine r_tn ?_
    refine r_seq ?_
    refine r_region ?_
    refine r_loadV rfl rfl rfl rfl (fl_size (show _ = 16 by simp [hl])) ?_
    refine r_storeV rfl rfl rfl (fl_size (show _ = 16 by simp [hl])) rfl (fl_one _) ?_
    refine r_assign rfl rfl ?_
    refine r_nil ?_
    refine r_tn ?_
    refine r_ret ?_
    exact r_done2 (.inl rfl) rfl (res_cellV rfl rfl rfl (fl_size (show _ = 16 by simp [hl]))) (res_tmp rfl) fun w hw => ⟨by unfold doL; first | rw [if_pos (of_decide_eq_true hc)] | rw [if_neg (of_decide_eq_false hc)] | simp_all [logF], hw.clear⟩
  · refine r_skip ?_
    refine r_tn ?_
    refine r_seq ?_
    refine r_region ?_
    refine r_loadV rfl rfl rfl rfl (fl_size (show _ = 16 by simp [hl])) ?_
    refine r_storeV rfl rfl rfl (fl_size (show _ = 16 by simp [hl])) rfl (fl_one _) ?_
    refine r_assign rfl rfl ?_
    refine r_nil ?_
    refine r_tn ?_
    refine r_ret ?_
    exact r_done2 (.inl rfl) rfl (res_cellV rfl rfl rfl (fl_size (show _ = 16 by simp [hl]))) (res_tmp rfl) fun w hw => ⟨by unfold doL; first | rw [if_pos (of_decide_eq_true hc)] | rw [if_neg (of_decide_eq_false hc)] | simp_all [logF], hw.clear⟩

theorem refDo_10 (l : List Int) (X Y N NN Ad Ln lv : Int) (a b c r d e f : Bool) (hl : l.length = 16) (hr : ∀ i, 0 ≤ l.getD i 0 ∧ l.getD i 0 ≤ 255) (hX : 0 ≤ X ∧ X ≤ 15) (hY : 0 ≤ Y ∧ Y ≤ 15) (hN : 0 ≤ NN ∧ NN ≤ 255) (x y s : Int) (hxe : l.getD X.toNat 0 = x) (hye : l.getD Y.toNat 0 = y) (hs : (if a then y else x) = s) (w : World) :
    Calls Try.prog 11 #[.agg (fl l), .agg (ins 10 X Y N NN Ad Ln), .agg (pro lv a b c r d e f)] w fun e w' => e = .returned (.tuple #[.agg (fl (doL l X y (-1))), .bool true]) ∧ Sat w [] [] w' := by
  have hx := hr X.toNat
  have hy := hr Y.toNat
  rw [hxe] at hx
  rw [hye] at hy
  have hs2 : 0 ≤ s ∧ s ≤ 255 := by rw [← hs]; split <;> omega
  refine enter Try.func11 rfl rfl rfl ?_
  refine r_seq ?_
  refine r_region ?_
  refine r_boxV rfl rfl fun b3 => ?_
  refine r_boxV rfl rfl fun b4 => ?_
  refine r_boxV rfl rfl fun b5 => ?_
  refine r_allocV (cs := fl (List.replicate 16 0)) rfl rfl fun b6 => ?_
  refine r_assign rfl rfl ?_
  refine r_nil ?_
  refine r_tn ?_
  refine r_seq ?_
  refine r_region ?_
  refine r_fieldAddr (off := 1) (o' := 1) rfl rfl rfl rfl ?_
  refine r_load1 rfl rfl rfl (by rfl) ?_
  refine r_indexArr (sz := 1) rfl rfl rfl rfl rfl (by omega) (by omega) (show _ = X.toNat by simp) ?_
  refine r_load1 rfl rfl rfl (fl_at (k := X.toNat) (by omega)) ?_
  refine r_convert rfl rfl rfl rfl ((w64 (by omega)).trans hxe) ?_
  refine r_assign rfl rfl ?_
  refine r_nil ?_
  refine r_tn ?_
  refine r_seq ?_
  refine r_region ?_
  refine r_fieldAddr (off := 2) (o' := 2) rfl rfl rfl rfl ?_
  refine r_load1 rfl rfl rfl (by rfl) ?_
  refine r_indexArr (sz := 1) rfl rfl rfl rfl rfl (by omega) (by omega) (show _ = Y.toNat by simp) ?_
  refine r_load1 rfl rfl rfl (fl_at (k := Y.toNat) (by omega)) ?_
  refine r_convert rfl rfl rfl rfl ((w64 (by omega)).trans hye) ?_
  refine r_assign rfl rfl ?_
  refine r_nil ?_
  refine r_tn ?_
  refine r_seq ?_
  refine r_region ?_
  refine r_move rfl rfl ?_
  refine r_assign rfl rfl ?_
  refine r_nil ?_
  refine r_tn ?_
  refine r_seq ?_
  refine r_cut (fun _ : Unit => ([(3, .pointer (some ⟨b3, 0, none⟩)), (4, .pointer (some ⟨b4, 0, none⟩)), (5, .pointer (some ⟨b5, 0, none⟩)), (6, .pointer (some ⟨b6, 0, none⟩)), (8, .int .i64 x), (9, .int .i64 y), (10, .int .i64 s)], [.blk b3 (.cells (fl l) 22 (0, 0)), .blk b4 (.cells (ins 10 X Y N NN Ad Ln) 24 (0, 0)), .blk b5 (.cells (pro lv a b c r d e f) 26 (0, 0)), .blk b6 (.cells (fl (List.replicate 16 0)) 22 (0, 0))])) ?_ ?_
  · refine r_seq ?_
    refine r_region ?_
    refine r_fieldAddr (off := 1) (o' := 1) rfl rfl rfl rfl ?_
    refine r_load1 rfl rfl rfl (by rfl) ?_
    refine r_nil ?_
    refine r_tn ?_
    refine r_cond rfl (fun hc => ?_) (fun hc => ?_)
    · refine r_region ?_
      refine r_move rfl rfl ?_
      refine r_assign rfl rfl ?_
      refine r_nil ?_
      refine r_tn ?_
      exact r_at () ⟨rfl, rfl, rfl, rfl, rfl, rfl, congrArg (fun z => some (Value.int .i64 z)) (by rw [← hs, hc]; rfl), trivial⟩ (fun w hw => hw.sub)
    · refine r_skip ?_
      refine r_tn ?_
      exact r_at () ⟨rfl, rfl, rfl, rfl, rfl, rfl, congrArg (fun z => some (Value.int .i64 z)) (by rw [← hs, hc]; rfl), trivial⟩ (fun w hw => hw.sub)
  intro _
  refine r_seq ?_
  refine r_region ?_
  refine r_assign rfl rfl ?_
  refine r_nil ?_
  refine r_tn ?_
  refine r_seq ?_
  refine r_region ?_
  refine r_assign rfl rfl ?_
  refine r_nil ?_
  refine r_tn ?_
  refine r_seq ?_
  refine r_seq ?_
  refine r_region ?_
  refine r_fieldAddr (off := 0) (o' := 0) rfl rfl rfl rfl ?_
  refine r_load1 rfl rfl rfl (by rfl) ?_
  refine r_nil ?_
  refine r_tn ?_
  refine r_block ?_
  refine r_seq ?_
  refine r_region ?_
  refine r_eql rfl rfl rfl (decide_eq_false (by decide)) ?_
  refine r_assign rfl rfl ?_
  refine r_nil ?_
  refine r_tn ?_
  refine r_cond_f rfl ?_
  refine r_seq ?_
  refine r_region ?_
  refine r_eql rfl rfl rfl (decide_eq_false (by decide)) ?_
  refine r_assign rfl rfl ?_
  refine r_nil ?_
  refine r_tn ?_
  refine r_cond_f rfl ?_
  refine r_seq ?_
  refine r_region ?_
  refine r_eql rfl rfl rfl (decide_eq_true (by decide)) ?_
  refine r_assign rfl rfl ?_
  refine r_nil ?_
  refine r_tn ?_
  refine r_cond_t rfl ?_
  refine r_region ?_
  refine r_move rfl rfl ?_
  refine r_assign rfl rfl ?_
  refine r_nil ?_
  refine r_bn ?_
  refine r_tn ?_
  refine r_seq ?_
  refine r_region ?_
  refine r_fieldAddr (off := 1) (o' := 1) rfl rfl rfl rfl ?_
  refine r_load1 rfl rfl rfl (by rfl) ?_
  refine r_move rfl rfl ?_
  refine r_convert rfl rfl rfl rfl rfl ?_
  refine r_indexArr (sz := 1) rfl rfl rfl rfl rfl (by omega) (by omega) (show _ = X.toNat by simp) ?_
  refine r_store1 rfl rfl rfl rfl rfl (by rw [fl_len]; omega) ?_
  rw [fl_set]
  refine r_nil ?_
  refine r_tn ?_
  refine r_seq ?_
  refine r_seq ?_
  refine r_region ?_
  refine r_move rfl rfl ?_
  refine r_geq rfl rfl rfl rfl ?_
  refine r_nil ?_
  refine r_tn ?_
  refine r_cond rfl (fun hc => ?_) (fun hc => ?_)
  · refine r_region ?_
    refine r_move rfl rfl ?_
    refine r_convert rfl rfl rfl rfl rfl ?_
    refine r_indexArr (sz := 1) rfl rfl rfl rfl rfl (by omega) (by omega) (show _ = 15 by simp) ?_
    refine r_store1 rfl rfl rfl rfl rfl (by rw [fl_len]; simp; omega) ?_
    rw [fl_set]
    refine r_nil ?_
    refine r_tn ?_
    refine r_seq ?_
    refine r_region ?_
    refine r_loadV rfl rfl rfl rfl (fl_size (show _ = 16 by simp [hl])) ?_
    refine r_storeV rfl rfl rfl (fl_size (show _ = 16 by simp [hl])) rfl (fl_one _) ?_
    refine r_assign rfl rfl ?_
    refine r_nil ?_
    refine r_tn ?_
    refine r_ret ?_
    exact r_done2 (.inl rfl) rfl (res_cellV rfl rfl rfl (fl_size (show _ = 16 by simp [hl]))) (res_tmp rfl) fun w hw => ⟨by unfold doL; first | rw [if_pos (of_decide_eq_true hc)] | rw [if_neg (of_decide_eq_false hc)] | simp_all [logF], hw.clear⟩
  · refine r_skip ?_
    refine r_tn ?_
    refine r_seq ?_
    refine r_region ?_
    refine r_loadV rfl rfl rfl rfl (fl_size (show _ = 16 by simp [hl])) ?_
    refine r_storeV rfl rfl rfl (fl_size (show _ = 16 by simp [hl])) rfl (fl_one _) ?_
    refine r_assign rfl rfl ?_
    refine r_nil ?_
    refine r_tn ?_
    refine r_ret ?_
    exact r_done2 (.inl rfl) rfl (res_cellV rfl rfl rfl (fl_size (show _ = 16 by simp [hl]))) (res_tmp rfl) fun w hw => ⟨by unfold doL; first | rw [if_pos (of_decide_eq_true hc)] | rw [if_neg (of_decide_eq_false hc)] | simp_all [logF], hw.clear⟩

theorem refDo_11 (l : List Int) (X Y N NN Ad Ln lv : Int) (a b c r d e f : Bool) (hl : l.length = 16) (hr : ∀ i, 0 ≤ l.getD i 0 ∧ l.getD i 0 ≤ 255) (hX : 0 ≤ X ∧ X ≤ 15) (hY : 0 ≤ Y ∧ Y ≤ 15) (hN : 0 ≤ NN ∧ NN ≤ 255) (x y s : Int) (hxe : l.getD X.toNat 0 = x) (hye : l.getD Y.toNat 0 = y) (hs : (if a then y else x) = s) (w : World) :
    Calls Try.prog 11 #[.agg (fl l), .agg (ins 11 X Y N NN Ad Ln), .agg (pro lv a b c r d e f)] w fun e w' => e = .returned (.tuple #[.agg (fl (doL l X ((x.toNat ||| y.toNat : Nat) : Int) (logF r))), .bool true]) ∧ Sat w [] [] w' := by
  have hx := hr X.toNat
  have hy := hr Y.toNat
  rw [hxe] at hx
  rw [hye] at hy
  have hs2 : 0 ≤ s ∧ s ≤ 255 := by rw [← hs]; split <;> omega
  obtain ⟨X0, rfl⟩ := Int.eq_ofNat_of_zero_le hx.1
  obtain ⟨Y0, rfl⟩ := Int.eq_ofNat_of_zero_le hy.1
  refine enter Try.func11 rfl rfl rfl ?_
  refine r_seq ?_
  refine r_region ?_
  refine r_boxV rfl rfl fun b3 => ?_
  refine r_boxV rfl rfl fun b4 => ?_
  refine r_boxV rfl rfl fun b5 => ?_
  refine r_allocV (cs := fl (List.replicate 16 0)) rfl rfl fun b6 => ?_
  refine r_assign rfl rfl ?_
  refine r_nil ?_
  refine r_tn ?_
  refine r_seq ?_
  refine r_region ?_
  refine r_fieldAddr (off := 1) (o' := 1) rfl rfl rfl rfl ?_
  refine r_load1 rfl rfl rfl (by rfl) ?_
  refine r_indexArr (sz := 1) rfl rfl rfl rfl rfl (by omega) (by omega) (show _ = X.toNat by simp) ?_
  refine r_load1 rfl rfl rfl (fl_at (k := X.toNat) (by omega)) ?_
  refine r_convert rfl rfl rfl rfl ((w64 (by omega)).trans hxe) ?_
  refine r_assign rfl rfl ?_
  refine r_nil ?_
  refine r_tn ?_
  refine r_seq ?_
  refine r_region ?_
  refine r_fieldAddr (off := 2) (o' := 2) rfl rfl rfl rfl ?_
  refine r_load1 rfl rfl rfl (by rfl) ?_
  refine r_indexArr (sz := 1) rfl rfl rfl rfl rfl (by omega) (by omega) (show _ = Y.toNat by simp) ?_
  refine r_load1 rfl rfl rfl (fl_at (k := Y.toNat) (by omega)) ?_
  refine r_convert rfl rfl rfl rfl ((w64 (by omega)).trans hye) ?_
  refine r_assign rfl rfl ?_
  refine r_nil ?_
  refine r_tn ?_
  refine r_seq ?_
  refine r_region ?_
  refine r_move rfl rfl ?_
  refine r_assign rfl rfl ?_
  refine r_nil ?_
  refine r_tn ?_
  refine r_seq ?_
  refine r_cut (fun _ : Unit => ([(3, .pointer (some ⟨b3, 0, none⟩)), (4, .pointer (some ⟨b4, 0, none⟩)), (5, .pointer (some ⟨b5, 0, none⟩)), (6, .pointer (some ⟨b6, 0, none⟩)), (8, .int .i64 (X0 : Int)), (9, .int .i64 (Y0 : Int)), (10, .int .i64 s)], [.blk b3 (.cells (fl l) 22 (0, 0)), .blk b4 (.cells (ins 11 X Y N NN Ad Ln) 24 (0, 0)), .blk b5 (.cells (pro lv a b c r d e f) 26 (0, 0)), .blk b6 (.cells (fl (List.replicate 16 0)) 22 (0, 0))])) ?_ ?_
  · refine r_seq ?_
    refine r_region ?_
    refine r_fieldAddr (off := 1) (o' := 1) rfl rfl rfl rfl ?_
    refine r_load1 rfl rfl rfl (by rfl) ?_
    refine r_nil ?_
    refine r_tn ?_
    refine r_cond rfl (fun hc => ?_) (fun hc => ?_)
    · refine r_region ?_
      refine r_move rfl rfl ?_
      refine r_assign rfl rfl ?_
      refine r_nil ?_
      refine r_tn ?_
      exact r_at () ⟨rfl, rfl, rfl, rfl, rfl, rfl, congrArg (fun z => some (Value.int .i64 z)) (by rw [← hs, hc]; rfl), trivial⟩ (fun w hw => hw.sub)
    · refine r_skip ?_
      refine r_tn ?_
      exact r_at () ⟨rfl, rfl, rfl, rfl, rfl, rfl, congrArg (fun z => some (Value.int .i64 z)) (by rw [← hs, hc]; rfl), trivial⟩ (fun w hw => hw.sub)
  intro _
  refine r_seq ?_
  refine r_region ?_
  refine r_assign rfl rfl ?_
  refine r_nil ?_
  refine r_tn ?_
  refine r_seq ?_
  refine r_region ?_
  refine r_assign rfl rfl ?_
  refine r_nil ?_
  refine r_tn ?_
  refine r_seq ?_
  refine r_seq ?_
  refine r_region ?_
  refine r_fieldAddr (off := 0) (o' := 0) rfl rfl rfl rfl ?_
  refine r_load1 rfl rfl rfl (by rfl) ?_
  refine r_nil ?_
  refine r_tn ?_
  refine r_block ?_
  refine r_seq ?_
  refine r_region ?_
  refine r_eql rfl rfl rfl (decide_eq_false (by decide)) ?_
  refine r_assign rfl rfl ?_
  refine r_nil ?_
  refine r_tn ?_
  refine r_cond_f rfl ?_
  refine r_seq ?_
  refine r_region ?_
  refine r_eql rfl rfl rfl (decide_eq_false (by decide)) ?_
  refine r_assign rfl rfl ?_
  refine r_nil ?_
  refine r_tn ?_
  refine r_cond_f rfl ?_
  refine r_seq ?_
  refine r_region ?_
  refine r_eql rfl rfl rfl (decide_eq_false (by decide)) ?_
  refine r_assign rfl rfl ?_
  refine r_nil ?_
  refine r_tn ?_
  refine r_cond_f rfl ?_
  refine r_seq ?_
  refine r_seq ?_
  refine r_region ?_
  refine r_eql rfl rfl rfl (decide_eq_true (by decide)) ?_
  refine r_assign rfl rfl ?_
  refine r_nil ?_
  refine r_tn ?_
  refine r_cond_t rfl ?_
  refine r_skip ?_
  refine r_tn ?_
  refine r_cond_t rfl ?_
  refine r_seq ?_
  refine r_region ?_
  refine r_fieldAddr (off := 0) (o' := 0) rfl rfl rfl rfl ?_
  refine r_load1 rfl rfl rfl (by rfl) ?_
  refine r_move rfl rfl ?_
  refine r_move rfl rfl ?_
  refine r_call rfl rfl rfl (by kernel_rfl) rfl (fun w hw => by exact bits18_11 X0 Y0 (by omega) (by omega) (Nat.or_lt_two_pow (n := 8) (by omega) (by omega)) w) ?_
  refine r_assign rfl rfl ?_
  refine r_nil ?_
  refine r_tn ?_
  refine r_seq ?_
  refine r_region ?_
  refine r_fieldAddr (off := 4) (o' := 4) rfl rfl rfl rfl ?_
  refine r_load1 rfl rfl rfl (by rfl) ?_
  refine r_nil ?_
  refine r_tn ?_
  refine r_cond rfl (fun hc => ?_) (fun hc => ?_)
  · refine r_region ?_
    refine r_assign rfl rfl ?_
    refine r_nil ?_
    refine r_bn ?_
    refine r_tn ?_
    refine r_seq ?_
    refine r_region ?_
    refine r_fieldAddr (off := 1) (o' := 1) rfl rfl rfl rfl ?_
    refine r_load1 rfl rfl rfl (by rfl) ?_
    refine r_move rfl rfl ?_
    refine r_convert rfl rfl rfl rfl rfl ?_
    refine r_indexArr (sz := 1) rfl rfl rfl rfl rfl (by omega) (by omega) (show _ = X.toNat by simp) ?_
    refine r_store1 rfl rfl rfl rfl rfl (by rw [fl_len]; omega) ?_
    rw [fl_set]
    refine r_nil ?_
    refine r_tn ?_
    refine r_seq ?_
    refine r_seq ?_
    refine r_region ?_
    refine r_move rfl rfl ?_
    refine r_geq rfl rfl rfl rfl ?_
    refine r_nil ?_
    refine r_tn ?_
    refine r_cond rfl (fun hc => ?_) (fun hc => ?_)
    · refine r_region ?_
      refine r_move rfl rfl ?_
      refine r_convert rfl rfl rfl rfl rfl ?_
      refine r_indexArr (sz := 1) rfl rfl rfl rfl rfl (by omega) (by omega) (show _ = 15 by simp) ?_
      refine r_store1 rfl rfl rfl rfl rfl (by rw [fl_len]; simp; omega) ?_
      rw [fl_set]
      refine r_nil ?_
      refine r_tn ?_
      refine r_seq ?_
      refine r_region ?_
      refine r_loadV rfl rfl rfl rfl (fl_size (show _ = 16 by simp [hl])) ?_
      refine r_storeV rfl rfl rfl (fl_size (show _ = 16 by simp [hl])) rfl (fl_one _) ?_
      refine r_assign rfl rfl ?_
      refine r_nil ?_
      refine r_tn ?_
      refine r_ret ?_
      exact r_done2 (.inl rfl) rfl (res_cellV rfl rfl rfl (fl_size (show _ = 16 by simp [hl]))) (res_tmp rfl) fun w hw => ⟨by unfold doL; first | rw [if_pos (of_decide_eq_true hc)] | rw [if_neg (of_decide_eq_false hc)] | simp_all [logF], hw.clear⟩
    · refine r_skip ?_
      refine r_tn ?_
      refine r_seq ?_
      refine r_region ?_
      refine r_loadV rfl rfl rfl rfl (fl_size (show _ = 16 by simp [hl])) ?_
      refine r_storeV rfl rfl rfl (fl_size (show _ = 16 by simp [hl])) rfl (fl_one _) ?_
      refine r_assign rfl rfl ?_
      refine r_nil ?_
      refine r_tn ?_
      refine r_ret ?_
      exact r_done2 (.inl rfl) rfl (res_cellV rfl rfl rfl (fl_size (show _ = 16 by simp [hl]))) (res_tmp rfl) fun w hw => ⟨by unfold doL; first | rw [if_pos (of_decide_eq_true hc)] | rw [if_neg (of_decide_eq_false hc)] | simp_all [logF], hw.clear⟩
  · refine r_skip ?_
    refine r_bn ?_
    refine r_tn ?_
    refine r_seq ?_
    refine r_region ?_
    refine r_fieldAddr (off := 1) (o' := 1) rfl rfl rfl rfl ?_
    refine r_load1 rfl rfl rfl (by rfl) ?_
    refine r_move rfl rfl ?_
    refine r_convert rfl rfl rfl rfl rfl ?_
    refine r_indexArr (sz := 1) rfl rfl rfl rfl rfl (by omega) (by omega) (show _ = X.toNat by simp) ?_
    refine r_store1 rfl rfl rfl rfl rfl (by rw [fl_len]; omega) ?_
    rw [fl_set]
    refine r_nil ?_
    refine r_tn ?_
    refine r_seq ?_
    refine r_seq ?_
    refine r_region ?_
    refine r_move rfl rfl ?_
    refine r_geq rfl rfl rfl rfl ?_
    refine r_nil ?_
    refine r_tn ?_
    refine r_cond rfl (fun hc => ?_) (fun hc => ?_)
    · refine r_region ?_
      refine r_move rfl rfl ?_
      refine r_convert rfl rfl rfl rfl rfl ?_
      refine r_indexArr (sz := 1) rfl rfl rfl rfl rfl (by omega) (by omega) (show _ = 15 by simp) ?_
      refine r_store1 rfl rfl rfl rfl rfl (by rw [fl_len]; simp; omega) ?_
      rw [fl_set]
      refine r_nil ?_
      refine r_tn ?_
      refine r_seq ?_
      refine r_region ?_
      refine r_loadV rfl rfl rfl rfl (fl_size (show _ = 16 by simp [hl])) ?_
      refine r_storeV rfl rfl rfl (fl_size (show _ = 16 by simp [hl])) rfl (fl_one _) ?_
      refine r_assign rfl rfl ?_
      refine r_nil ?_
      refine r_tn ?_
      refine r_ret ?_
      exact r_done2 (.inl rfl) rfl (res_cellV rfl rfl rfl (fl_size (show _ = 16 by simp [hl]))) (res_tmp rfl) fun w hw => ⟨by unfold doL; first | rw [if_pos (of_decide_eq_true hc)] | rw [if_neg (of_decide_eq_false hc)] | simp_all [logF], hw.clear⟩
    · refine r_skip ?_
      refine r_tn ?_
      refine r_seq ?_
      refine r_region ?_
      refine r_loadV rfl rfl rfl rfl (fl_size (show _ = 16 by simp [hl])) ?_
      refine r_storeV rfl rfl rfl (fl_size (show _ = 16 by simp [hl])) rfl (fl_one _) ?_
      refine r_assign rfl rfl ?_
      refine r_nil ?_
      refine r_tn ?_
      refine r_ret ?_
      exact r_done2 (.inl rfl) rfl (res_cellV rfl rfl rfl (fl_size (show _ = 16 by simp [hl]))) (res_tmp rfl) fun w hw => ⟨by unfold doL; first | rw [if_pos (of_decide_eq_true hc)] | rw [if_neg (of_decide_eq_false hc)] | simp_all [logF], hw.clear⟩

theorem refDo_12 (l : List Int) (X Y N NN Ad Ln lv : Int) (a b c r d e f : Bool) (hl : l.length = 16) (hr : ∀ i, 0 ≤ l.getD i 0 ∧ l.getD i 0 ≤ 255) (hX : 0 ≤ X ∧ X ≤ 15) (hY : 0 ≤ Y ∧ Y ≤ 15) (hN : 0 ≤ NN ∧ NN ≤ 255) (x y s : Int) (hxe : l.getD X.toNat 0 = x) (hye : l.getD Y.toNat 0 = y) (hs : (if a then y else x) = s) (w : World) :
    Calls Try.prog 11 #[.agg (fl l), .agg (ins 12 X Y N NN Ad Ln), .agg (pro lv a b c r d e f)] w fun e w' => e = .returned (.tuple #[.agg (fl (doL l X ((x.toNat &&& y.toNat : Nat) : Int) (logF r))), .bool true]) ∧ Sat w [] [] w' := by
  have hx := hr X.toNat
  have hy := hr Y.toNat
  rw [hxe] at hx
  rw [hye] at hy
  have hs2 : 0 ≤ s ∧ s ≤ 255 := by rw [← hs]; split <;> omega
  obtain ⟨X0, rfl⟩ := Int.eq_ofNat_of_zero_le hx.1
  obtain ⟨Y0, rfl⟩ := Int.eq_ofNat_of_zero_le hy.1
  refine enter Try.func11 rfl rfl rfl ?_
  refine r_seq ?_
  refine r_region ?_
  refine r_boxV rfl rfl fun b3 => ?_
  refine r_boxV rfl rfl fun b4 => ?_
  refine r_boxV rfl rfl fun b5 => ?_
  refine r_allocV (cs := fl (List.replicate 16 0)) rfl rfl fun b6 => ?_
  refine r_assign rfl rfl ?_
  refine r_nil ?_
  refine r_tn ?_
  refine r_seq ?_
  refine r_region ?_
  refine r_fieldAddr (off := 1) (o' := 1) rfl rfl rfl rfl ?_
  refine r_load1 rfl rfl rfl (by rfl) ?_
  refine r_indexArr (sz := 1) rfl rfl rfl rfl rfl (by omega) (by omega) (show _ = X.toNat by simp) ?_
  refine r_load1 rfl rfl rfl (fl_at (k := X.toNat) (by omega)) ?_
  refine r_convert rfl rfl rfl rfl ((w64 (by omega)).trans hxe) ?_
  refine r_assign rfl rfl ?_
  refine r_nil ?_
  refine r_tn ?_
  refine r_seq ?_
  refine r_region ?_
  refine r_fieldAddr (off := 2) (o' := 2) rfl rfl rfl rfl ?_
  refine r_load1 rfl rfl rfl (by rfl) ?_
  refine r_indexArr (sz := 1) rfl rfl rfl rfl rfl (by omega) (by omega) (show _ = Y.toNat by simp) ?_
  refine r_load1 rfl rfl rfl (fl_at (k := Y.toNat) (by omega)) ?_
  refine r_convert rfl rfl rfl rfl ((w64 (by omega)).trans hye) ?_
  refine r_assign rfl rfl ?_
  refine r_nil ?_
  refine r_tn ?_
  refine r_seq ?_
  refine r_region ?_
  refine r_move rfl rfl ?_
  refine r_assign rfl rfl ?_
  refine r_nil ?_
  refine r_tn ?_
  refine r_seq ?_
  refine r_cut (fun _ : Unit => ([(3, .pointer (some ⟨b3, 0, none⟩)), (4, .pointer (some ⟨b4, 0, none⟩)), (5, .pointer (some ⟨b5, 0, none⟩)), (6, .pointer (some ⟨b6, 0, none⟩)), (8, .int .i64 (X0 : Int)), (9, .int .i64 (Y0 : Int)), (10, .int .i64 s)], [.blk b3 (.cells (fl l) 22 (0, 0)), .blk b4 (.cells (ins 12 X Y N NN Ad Ln) 24 (0, 0)), .blk b5 (.cells (pro lv a b c r d e f) 26 (0, 0)), .blk b6 (.cells (fl (List.replicate 16 0)) 22 (0, 0))])) ?_ ?_
  · refine r_seq ?_
    refine r_region ?_
    refine r_fieldAddr (off := 1) (o' := 1) rfl rfl rfl rfl ?_
    refine r_load1 rfl rfl rfl (by rfl) ?_
    refine r_nil ?_
    refine r_tn ?_
    refine r_cond rfl (fun hc => ?_) (fun hc => ?_)
    · refine r_region ?_
      refine r_move rfl rfl ?_
      refine r_assign rfl rfl ?_
      refine r_nil ?_
      refine r_tn ?_
      exact r_at () ⟨rfl, rfl, rfl, rfl, rfl, rfl, congrArg (fun z => some (Value.int .i64 z)) (by rw [← hs, hc]; rfl), trivial⟩ (fun w hw => hw.sub)
    · refine r_skip ?_
      refine r_tn ?_
      exact r_at () ⟨rfl, rfl, rfl, rfl, rfl, rfl, congrArg (fun z => some (Value.int .i64 z)) (by rw [← hs, hc]; rfl), trivial⟩ (fun w hw => hw.sub)
  intro _
  refine r_seq ?_
  refine r_region ?_
  refine r_assign rfl rfl ?_
  refine r_nil ?_
  refine r_tn ?_
  refine r_seq ?_
  refine r_region ?_
  refine r_assign rfl rfl ?_
  refine r_nil ?_
  refine r_tn ?_
  refine r_seq ?_
  refine r_seq ?_
  refine r_region ?_
  refine r_fieldAddr (off := 0) (o' := 0) rfl rfl rfl rfl ?_
  refine r_load1 rfl rfl rfl (by rfl) ?_
  refine r_nil ?_
  refine r_tn ?_
  refine r_block ?_
  refine r_seq ?_
  refine r_region ?_
  refine r_eql rfl rfl rfl (decide_eq_false (by decide)) ?_
  refine r_assign rfl rfl ?_
  refine r_nil ?_
  refine r_tn ?_
  refine r_cond_f rfl ?_
  refine r_seq ?_
  refine r_region ?_
  refine r_eql rfl rfl rfl (decide_eq_false (by decide)) ?_
  refine r_assign rfl rfl ?_
  refine r_nil ?_
  refine r_tn ?_
  refine r_cond_f rfl ?_
  refine r_seq ?_
  refine r_region ?_
  refine r_eql rfl rfl rfl (decide_eq_false (by decide)) ?_
  refine r_assign rfl rfl ?_
  refine r_nil ?_
  refine r_tn ?_
  refine r_cond_f rfl ?_
  refine r_seq ?_
  refine r_seq ?_
  refine r_region ?_
  refine r_eql rfl rfl rfl (decide_eq_false (by decide)) ?_
  refine r_assign rfl rfl ?_
  refine r_nil ?_
  refine r_tn ?_
  refine r_cond_f rfl ?_
  refine r_seq ?_
  refine r_region ?_
  refine r_eql rfl rfl rfl (decide_eq_true (by decide)) ?_
  refine r_assign rfl rfl ?_
  refine r_nil ?_
  refine r_tn ?_
  refine r_cond_t rfl ?_
  refine r_skip ?_
  refine r_tn ?_
  refine r_cond_t rfl ?_
  refine r_seq ?_
  refine r_region ?_
  refine r_fieldAddr (off := 0) (o' := 0) rfl rfl rfl rfl ?_
  refine r_load1 rfl rfl rfl (by rfl) ?_
  refine r_move rfl rfl ?_
  refine r_move rfl rfl ?_
  refine r_call rfl rfl rfl (by kernel_rfl) rfl (fun w hw => by exact bits18_12 X0 Y0 (by omega) (by omega) (Nat.and_lt_two_pow (n := 8) _ (by omega)) w) ?_
  refine r_assign rfl rfl ?_
  refine r_nil ?_
  refine r_tn ?_
  refine r_seq ?_
  refine r_region ?_
  refine r_fieldAddr (off := 4) (o' := 4) rfl rfl rfl rfl ?_
  refine r_load1 rfl rfl rfl (by rfl) ?_
  refine r_nil ?_
  refine r_tn ?_
  refine r_cond rfl (fun hc => ?_) (fun hc => ?_)
  · refine r_region ?_
    refine r_assign rfl rfl ?_
    refine r_nil ?_
    refine r_bn ?_
    refine r_tn ?_
    refine r_seq ?_
    refine r_region ?_
    refine r_fieldAddr (off := 1) (o' := 1) rfl rfl rfl rfl ?_
    refine r_load1 rfl rfl rfl (by rfl) ?_
    refine r_move rfl rfl ?_
    refine r_convert rfl rfl rfl rfl rfl ?_
    refine r_indexArr (sz := 1) rfl rfl rfl rfl rfl (by omega) (by omega) (show _ = X.toNat by simp) ?_
    refine r_store1 rfl rfl rfl rfl rfl (by rw [fl_len]; omega) ?_
    rw [fl_set]
    refine r_nil ?_
    refine r_tn ?_
    refine r_seq ?_
    refine r_seq ?_
    refine r_region ?_
    refine r_move rfl rfl ?_
    refine r_geq rfl rfl rfl rfl ?_
    refine r_nil ?_
    refine r_tn ?_
    refine r_cond rfl (fun hc => ?_) (fun hc => ?_)
    · refine r_region ?_
      refine r_move rfl rfl ?_
      refine r_convert rfl rfl rfl rfl rfl ?_
      refine r_indexArr (sz := 1) rfl rfl rfl rfl rfl (by omega) (by omega) (show _ = 15 by simp) ?_
      refine r_store1 rfl rfl rfl rfl rfl (by rw [fl_len]; simp; omega) ?_
      rw [fl_set]
      refine r_nil ?_
      refine r_tn ?_
      refine r_seq ?_
      refine r_region ?_
      refine r_loadV rfl rfl rfl rfl (fl_size (show _ = 16 by simp [hl])) ?_
      refine r_storeV rfl rfl rfl (fl_size (show _ = 16 by simp [hl])) rfl (fl_one _) ?_
      refine r_assign rfl rfl ?_
      refine r_nil ?_
      refine r_tn ?_
      refine r_ret ?_
      exact r_done2 (.inl rfl) rfl (res_cellV rfl rfl rfl (fl_size (show _ = 16 by simp [hl]))) (res_tmp rfl) fun w hw => ⟨by unfold doL; first | rw [if_pos (of_decide_eq_true hc)] | rw [if_neg (of_decide_eq_false hc)] | simp_all [logF], hw.clear⟩
    · refine r_skip ?_
      refine r_tn ?_
      refine r_seq ?_
      refine r_region ?_
      refine r_loadV rfl rfl rfl rfl (fl_size (show _ = 16 by simp [hl])) ?_
      refine r_storeV rfl rfl rfl (fl_size (show _ = 16 by simp [hl])) rfl (fl_one _) ?_
      refine r_assign rfl rfl ?_
      refine r_nil ?_
      refine r_tn ?_
      refine r_ret ?_
      exact r_done2 (.inl rfl) rfl (res_cellV rfl rfl rfl (fl_size (show _ = 16 by simp [hl]))) (res_tmp rfl) fun w hw => ⟨by unfold doL; first | rw [if_pos (of_decide_eq_true hc)] | rw [if_neg (of_decide_eq_false hc)] | simp_all [logF], hw.clear⟩
  · refine r_skip ?_
    refine r_bn ?_
    refine r_tn ?_
    refine r_seq ?_
    refine r_region ?_
    refine r_fieldAddr (off := 1) (o' := 1) rfl rfl rfl rfl ?_
    refine r_load1 rfl rfl rfl (by rfl) ?_
    refine r_move rfl rfl ?_
    refine r_convert rfl rfl rfl rfl rfl ?_
    refine r_indexArr (sz := 1) rfl rfl rfl rfl rfl (by omega) (by omega) (show _ = X.toNat by simp) ?_
    refine r_store1 rfl rfl rfl rfl rfl (by rw [fl_len]; omega) ?_
    rw [fl_set]
    refine r_nil ?_
    refine r_tn ?_
    refine r_seq ?_
    refine r_seq ?_
    refine r_region ?_
    refine r_move rfl rfl ?_
    refine r_geq rfl rfl rfl rfl ?_
    refine r_nil ?_
    refine r_tn ?_
    refine r_cond rfl (fun hc => ?_) (fun hc => ?_)
    · refine r_region ?_
      refine r_move rfl rfl ?_
      refine r_convert rfl rfl rfl rfl rfl ?_
      refine r_indexArr (sz := 1) rfl rfl rfl rfl rfl (by omega) (by omega) (show _ = 15 by simp) ?_
      refine r_store1 rfl rfl rfl rfl rfl (by rw [fl_len]; simp; omega) ?_
      rw [fl_set]
      refine r_nil ?_
      refine r_tn ?_
      refine r_seq ?_
      refine r_region ?_
      refine r_loadV rfl rfl rfl rfl (fl_size (show _ = 16 by simp [hl])) ?_
      refine r_storeV rfl rfl rfl (fl_size (show _ = 16 by simp [hl])) rfl (fl_one _) ?_
      refine r_assign rfl rfl ?_
      refine r_nil ?_
      refine r_tn ?_
      refine r_ret ?_
      exact r_done2 (.inl rfl) rfl (res_cellV rfl rfl rfl (fl_size (show _ = 16 by simp [hl]))) (res_tmp rfl) fun w hw => ⟨by unfold doL; first | rw [if_pos (of_decide_eq_true hc)] | rw [if_neg (of_decide_eq_false hc)] | simp_all [logF], hw.clear⟩
    · refine r_skip ?_
      refine r_tn ?_
      refine r_seq ?_
      refine r_region ?_
      refine r_loadV rfl rfl rfl rfl (fl_size (show _ = 16 by simp [hl])) ?_
      refine r_storeV rfl rfl rfl (fl_size (show _ = 16 by simp [hl])) rfl (fl_one _) ?_
      refine r_assign rfl rfl ?_
      refine r_nil ?_
      refine r_tn ?_
      refine r_ret ?_
      exact r_done2 (.inl rfl) rfl (res_cellV rfl rfl rfl (fl_size (show _ = 16 by simp [hl]))) (res_tmp rfl) fun w hw => ⟨by unfold doL; first | rw [if_pos (of_decide_eq_true hc)] | rw [if_neg (of_decide_eq_false hc)] | simp_all [logF], hw.clear⟩

theorem refDo_13 (l : List Int) (X Y N NN Ad Ln lv : Int) (a b c r d e f : Bool) (hl : l.length = 16) (hr : ∀ i, 0 ≤ l.getD i 0 ∧ l.getD i 0 ≤ 255) (hX : 0 ≤ X ∧ X ≤ 15) (hY : 0 ≤ Y ∧ Y ≤ 15) (hN : 0 ≤ NN ∧ NN ≤ 255) (x y s : Int) (hxe : l.getD X.toNat 0 = x) (hye : l.getD Y.toNat 0 = y) (hs : (if a then y else x) = s) (w : World) :
    Calls Try.prog 11 #[.agg (fl l), .agg (ins 13 X Y N NN Ad Ln), .agg (pro lv a b c r d e f)] w fun e w' => e = .returned (.tuple #[.agg (fl (doL l X ((x.toNat ^^^ y.toNat : Nat) : Int) (logF r))), .bool true]) ∧ Sat w [] [] w' := by
  have hx := hr X.toNat
  have hy := hr Y.toNat
  rw [hxe] at hx
  rw [hye] at hy
  have hs2 : 0 ≤ s ∧ s ≤ 255 := by rw [← hs]; split <;> omega
  obtain ⟨X0, rfl⟩ := Int.eq_ofNat_of_zero_le hx.1
  obtain ⟨Y0, rfl⟩ := Int.eq_ofNat_of_zero_le hy.1
  refine enter Try.func11 rfl rfl rfl ?_
  refine r_seq ?_
  refine r_region ?_
  refine r_boxV rfl rfl fun b3 => ?_
  refine r_boxV rfl rfl fun b4 => ?_
  refine r_boxV rfl rfl fun b5 => ?_
  refine r_allocV (cs := fl (List.replicate 16 0)) rfl rfl fun b6 => ?_
  refine r_assign rfl rfl ?_
  refine r_nil ?_
  refine r_tn ?_
  refine r_seq ?_
  refine r_region ?_
  refine r_fieldAddr (off := 1) (o' := 1) rfl rfl rfl rfl ?_
  refine r_load1 rfl rfl rfl (by rfl) ?_
  refine r_indexArr (sz := 1) rfl rfl rfl rfl rfl (by omega) (by omega) (show _ = X.toNat by simp) ?_
  refine r_load1 rfl rfl rfl (fl_at (k := X.toNat) (by omega)) ?_
  refine r_convert rfl rfl rfl rfl ((w64 (by omega)).trans hxe) ?_
  refine r_assign rfl rfl ?_
  refine r_nil ?_
  refine r_tn ?_
  refine r_seq ?_
  refine r_region ?_
  refine r_fieldAddr (off := 2) (o' := 2) rfl rfl rfl rfl ?_
  refine r_load1 rfl rfl rfl (by rfl) ?_
  refine r_indexArr (sz := 1) rfl rfl rfl rfl rfl (by omega) (by omega) (show _ = Y.toNat by simp) ?_
  refine r_load1 rfl rfl rfl (fl_at (k := Y.toNat) (by omega)) ?_
  refine r_convert rfl rfl rfl rfl ((w64 (by omega)).trans hye) ?_
  refine r_assign rfl rfl ?_
  refine r_nil ?_
  refine r_tn ?_
  refine r_seq ?_
  refine r_region ?_
  refine r_move rfl rfl ?_
  refine r_assign rfl rfl ?_
  refine r_nil ?_
  refine r_tn ?_
  refine r_seq ?_
  refine r_cut (fun _ : Unit => ([(3, .pointer (some ⟨b3, 0, none⟩)), (4, .pointer (some ⟨b4, 0, none⟩)), (5, .pointer (some ⟨b5, 0, none⟩)), (6, .pointer (some ⟨b6, 0, none⟩)), (8, .int .i64 (X0 : Int)), (9, .int .i64 (Y0 : Int)), (10, .int .i64 s)], [.blk b3 (.cells (fl l) 22 (0, 0)), .blk b4 (.cells (ins 13 X Y N NN Ad Ln) 24 (0, 0)), .blk b5 (.cells (pro lv a b c r d e f) 26 (0, 0)), .blk b6 (.cells (fl (List.replicate 16 0)) 22 (0, 0))])) ?_ ?_
  · refine r_seq ?_
    refine r_region ?_
    refine r_fieldAddr (off := 1) (o' := 1) rfl rfl rfl rfl ?_
    refine r_load1 rfl rfl rfl (by rfl) ?_
    refine r_nil ?_
    refine r_tn ?_
    refine r_cond rfl (fun hc => ?_) (fun hc => ?_)
    · refine r_region ?_
      refine r_move rfl rfl ?_
      refine r_assign rfl rfl ?_
      refine r_nil ?_
      refine r_tn ?_
      exact r_at () ⟨rfl, rfl, rfl, rfl, rfl, rfl, congrArg (fun z => some (Value.int .i64 z)) (by rw [← hs, hc]; rfl), trivial⟩ (fun w hw => hw.sub)
    · refine r_skip ?_
      refine r_tn ?_
      exact r_at () ⟨rfl, rfl, rfl, rfl, rfl, rfl, congrArg (fun z => some (Value.int .i64 z)) (by rw [← hs, hc]; rfl), trivial⟩ (fun w hw => hw.sub)
  intro _
  refine r_seq ?_
  refine r_region ?_
  refine r_assign rfl rfl ?_
  refine r_nil ?_
  refine r_tn ?_
  refine r_seq ?_
  refine r_region ?_
  refine r_assign rfl rfl ?_
  refine r_nil ?_
  refine r_tn ?_
  refine r_seq ?_
  refine r_seq ?_
  refine r_region ?_
  refine r_fieldAddr (off := 0) (o' := 0) rfl rfl rfl rfl ?_
  refine r_load1 rfl rfl rfl (by rfl) ?_
  refine r_nil ?_
  refine r_tn ?_
  refine r_block ?_
  refine r_seq ?_
  refine r_region ?_
  refine r_eql rfl rfl rfl (decide_eq_false (by decide)) ?_
  refine r_assign rfl rfl ?_
  refine r_nil ?_
  refine r_tn ?_
  refine r_cond_f rfl ?_
  refine r_seq ?_
  refine r_region ?_
  refine r_eql rfl rfl rfl (decide_eq_false (by decide)) ?_
  refine r_assign rfl rfl ?_
  refine r_nil ?_
  refine r_tn ?_
  refine r_cond_f rfl ?_
  refine r_seq ?_
  refine r_region ?_
  refine r_eql rfl rfl rfl (decide_eq_false (by decide)) ?_
  refine r_assign rfl rfl ?_
  refine r_nil ?_
  refine r_tn ?_
  refine r_cond_f rfl ?_
  refine r_seq ?_
  refine r_seq ?_
  refine r_region ?_
  refine r_eql rfl rfl rfl (decide_eq_false (by decide)) ?_
  refine r_assign rfl rfl ?_
  refine r_nil ?_
  refine r_tn ?_
  refine r_cond_f rfl ?_
  refine r_seq ?_
  refine r_region ?_
  refine r_eql rfl rfl rfl (decide_eq_false (by decide)) ?_
  refine r_assign rfl rfl ?_
  refine r_nil ?_
  refine r_tn ?_
  refine r_cond_f rfl ?_
  refine r_region ?_
  refine r_eql rfl rfl rfl (decide_eq_true (by decide)) ?_
  refine r_assign rfl rfl ?_
  refine r_nil ?_
  refine r_tn ?_
  refine r_cond_t rfl ?_
  refine r_seq ?_
  refine r_region ?_
  refine r_fieldAddr (off := 0) (o' := 0) rfl rfl rfl rfl ?_
  refine r_load1 rfl rfl rfl (by rfl) ?_
  refine r_move rfl rfl ?_
  refine r_move rfl rfl ?_
  refine r_call rfl rfl rfl (by kernel_rfl) rfl (fun w hw => by exact bits18_13 X0 Y0 (by omega) (by omega) (Nat.xor_lt_two_pow (n := 8) (by omega) (by omega)) w) ?_
  refine r_assign rfl rfl ?_
  refine r_nil ?_
  refine r_tn ?_
  refine r_seq ?_
  refine r_region ?_
  refine r_fieldAddr (off := 4) (o' := 4) rfl rfl rfl rfl ?_
  refine r_load1 rfl rfl rfl (by rfl) ?_
  refine r_nil ?_
  refine r_tn ?_
  refine r_cond rfl (fun hc => ?_) (fun hc => ?_)
  · refine r_region ?_
    refine r_assign rfl rfl ?_
    refine r_nil ?_
    refine r_bn ?_
    refine r_tn ?_
    refine r_seq ?_
    refine r_region ?_
    refine r_fieldAddr (off := 1) (o' := 1) rfl rfl rfl rfl ?_
    refine r_load1 rfl rfl rfl (by rfl) ?_
    refine r_move rfl rfl ?_
    refine r_convert rfl rfl rfl rfl rfl ?_
    refine r_indexArr (sz := 1) rfl rfl rfl rfl rfl (by omega) (by omega) (show _ = X.toNat by simp) ?_
    refine r_store1 rfl rfl rfl rfl rfl (by rw [fl_len]; omega) ?_
    rw [fl_set]
    refine r_nil ?_
    refine r_tn ?_
    refine r_seq ?_
    refine r_seq ?_
    refine r_region ?_
    refine r_move rfl rfl ?_
    refine r_geq rfl rfl rfl rfl ?_
    refine r_nil ?_
    refine r_tn ?_
    refine r_cond rfl (fun hc => ?_) (fun hc => ?_)
    · refine r_region ?_
      refine r_move rfl rfl ?_
      refine r_convert rfl rfl rfl rfl rfl ?_
      refine r_indexArr (sz := 1) rfl rfl rfl rfl rfl (by omega) (by omega) (show _ = 15 by simp) ?_
      refine r_store1 rfl rfl rfl rfl rfl (by rw [fl_len]; simp; omega) ?_
      rw [fl_set]
      refine r_nil ?_
      refine r_tn ?_
      refine r_seq ?_
      refine r_region ?_
      refine r_loadV rfl rfl rfl rfl (fl_size (show _ = 16 by simp [hl])) ?_
      refine r_storeV rfl rfl rfl (fl_size (show _ = 16 by simp [hl])) rfl (fl_one _) ?_
      refine r_assign rfl rfl ?_
      refine r_nil ?_
      refine r_tn ?_
      refine r_ret ?_
      exact r_done2 (.inl rfl) rfl (res_cellV rfl rfl rfl (fl_size (show _ = 16 by simp [hl]))) (res_tmp rfl) fun w hw => ⟨by unfold doL; first | rw [if_pos (of_decide_eq_true hc)] | rw [if_neg (of_decide_eq_false hc)] | simp_all [logF], hw.clear⟩
    · refine r_skip ?_
      refine r_tn ?_
      refine r_seq ?_
      refine r_region ?_
      refine r_loadV rfl rfl rfl rfl (fl_size (show _ = 16 by simp [hl])) ?_
      refine r_storeV rfl rfl rfl (fl_size (show _ = 16 by simp [hl])) rfl (fl_one _) ?_
      refine r_assign rfl rfl ?_
      refine r_nil ?_
      refine r_tn ?_
      refine r_ret ?_
      exact r_done2 (.inl rfl) rfl (res_cellV rfl rfl rfl (fl_size (show _ = 16 by simp [hl]))) (res_tmp rfl) fun w hw => ⟨by unfold doL; first | rw [if_pos (of_decide_eq_true hc)] | rw [if_neg (of_decide_eq_false hc)] | simp_all [logF], hw.clear⟩
  · refine r_skip ?_
    refine r_bn ?_
    refine r_tn ?_
    refine r_seq ?_
    refine r_region ?_
    refine r_fieldAddr (off := 1) (o' := 1) rfl rfl rfl rfl ?_
    refine r_load1 rfl rfl rfl (by rfl) ?_
    refine r_move rfl rfl ?_
    refine r_convert rfl rfl rfl rfl rfl ?_
    refine r_indexArr (sz := 1) rfl rfl rfl rfl rfl (by omega) (by omega) (show _ = X.toNat by simp) ?_
    refine r_store1 rfl rfl rfl rfl rfl (by rw [fl_len]; omega) ?_
    rw [fl_set]
    refine r_nil ?_
    refine r_tn ?_
    refine r_seq ?_
    refine r_seq ?_
    refine r_region ?_
    refine r_move rfl rfl ?_
    refine r_geq rfl rfl rfl rfl ?_
    refine r_nil ?_
    refine r_tn ?_
    refine r_cond rfl (fun hc => ?_) (fun hc => ?_)
    · refine r_region ?_
      refine r_move rfl rfl ?_
      refine r_convert rfl rfl rfl rfl rfl ?_
      refine r_indexArr (sz := 1) rfl rfl rfl rfl rfl (by omega) (by omega) (show _ = 15 by simp) ?_
      refine r_store1 rfl rfl rfl rfl rfl (by rw [fl_len]; simp; omega) ?_
      rw [fl_set]
      refine r_nil ?_
      refine r_tn ?_
      refine r_seq ?_
      refine r_region ?_
      refine r_loadV rfl rfl rfl rfl (fl_size (show _ = 16 by simp [hl])) ?_
      refine r_storeV rfl rfl rfl (fl_size (show _ = 16 by simp [hl])) rfl (fl_one _) ?_
      refine r_assign rfl rfl ?_
      refine r_nil ?_
      refine r_tn ?_
      refine r_ret ?_
      exact r_done2 (.inl rfl) rfl (res_cellV rfl rfl rfl (fl_size (show _ = 16 by simp [hl]))) (res_tmp rfl) fun w hw => ⟨by unfold doL; first | rw [if_pos (of_decide_eq_true hc)] | rw [if_neg (of_decide_eq_false hc)] | simp_all [logF], hw.clear⟩
    · refine r_skip ?_
      refine r_tn ?_
      refine r_seq ?_
      refine r_region ?_
      refine r_loadV rfl rfl rfl rfl (fl_size (show _ = 16 by simp [hl])) ?_
      refine r_storeV rfl rfl rfl (fl_size (show _ = 16 by simp [hl])) rfl (fl_one _) ?_
      refine r_assign rfl rfl ?_
      refine r_nil ?_
      refine r_tn ?_
      refine r_ret ?_
      exact r_done2 (.inl rfl) rfl (res_cellV rfl rfl rfl (fl_size (show _ = 16 by simp [hl]))) (res_tmp rfl) fun w hw => ⟨by unfold doL; first | rw [if_pos (of_decide_eq_true hc)] | rw [if_neg (of_decide_eq_false hc)] | simp_all [logF], hw.clear⟩

theorem refDo_14 (l : List Int) (X Y N NN Ad Ln lv : Int) (a b c r d e f : Bool) (hl : l.length = 16) (hr : ∀ i, 0 ≤ l.getD i 0 ∧ l.getD i 0 ≤ 255) (hX : 0 ≤ X ∧ X ≤ 15) (hY : 0 ≤ Y ∧ Y ≤ 15) (hN : 0 ≤ NN ∧ NN ≤ 255) (x y s : Int) (hxe : l.getD X.toNat 0 = x) (hye : l.getD Y.toNat 0 = y) (hs : (if a then y else x) = s) (w : World) :
    Calls Try.prog 11 #[.agg (fl l), .agg (ins 14 X Y N NN Ad Ln), .agg (pro lv a b c r d e f)] w fun e w' => e = .returned (.tuple #[.agg (fl (doL l X (x + y) (if decide (255 < x + y) then 1 else 0))), .bool true]) ∧ Sat w [] [] w' := by
  have hx := hr X.toNat
  have hy := hr Y.toNat
  rw [hxe] at hx
  rw [hye] at hy
  have hs2 : 0 ≤ s ∧ s ≤ 255 := by rw [← hs]; split <;> omega
  refine enter Try.func11 rfl rfl rfl ?_
  refine r_seq ?_
  refine r_region ?_
  refine r_boxV rfl rfl fun b3 => ?_
  refine r_boxV rfl rfl fun b4 => ?_
  refine r_boxV rfl rfl fun b5 => ?_
  refine r_allocV (cs := fl (List.replicate 16 0)) rfl rfl fun b6 => ?_
  refine r_assign rfl rfl ?_
  refine r_nil ?_
  refine r_tn ?_
  refine r_seq ?_
  refine r_region ?_
  refine r_fieldAddr (off := 1) (o' := 1) rfl rfl rfl rfl ?_
  refine r_load1 rfl rfl rfl (by rfl) ?_
  refine r_indexArr (sz := 1) rfl rfl rfl rfl rfl (by omega) (by omega) (show _ = X.toNat by simp) ?_
  refine r_load1 rfl rfl rfl (fl_at (k := X.toNat) (by omega)) ?_
  refine r_convert rfl rfl rfl rfl ((w64 (by omega)).trans hxe) ?_
  refine r_assign rfl rfl ?_
  refine r_nil ?_
  refine r_tn ?_
  refine r_seq ?_
  refine r_region ?_
  refine r_fieldAddr (off := 2) (o' := 2) rfl rfl rfl rfl ?_
  refine r_load1 rfl rfl rfl (by rfl) ?_
  refine r_indexArr (sz := 1) rfl rfl rfl rfl rfl (by omega) (by omega) (show _ = Y.toNat by simp) ?_
  refine r_load1 rfl rfl rfl (fl_at (k := Y.toNat) (by omega)) ?_
  refine r_convert rfl rfl rfl rfl ((w64 (by omega)).trans hye) ?_
  refine r_assign rfl rfl ?_
  refine r_nil ?_
  refine r_tn ?_
  refine r_seq ?_
  refine r_region ?_
  refine r_move rfl rfl ?_
  refine r_assign rfl rfl ?_
  refine r_nil ?_
  refine r_tn ?_
  refine r_seq ?_
  refine r_cut (fun _ : Unit => ([(3, .pointer (some ⟨b3, 0, none⟩)), (4, .pointer (some ⟨b4, 0, none⟩)), (5, .pointer (some ⟨b5, 0, none⟩)), (6, .pointer (some ⟨b6, 0, none⟩)), (8, .int .i64 x), (9, .int .i64 y), (10, .int .i64 s)], [.blk b3 (.cells (fl l) 22 (0, 0)), .blk b4 (.cells (ins 14 X Y N NN Ad Ln) 24 (0, 0)), .blk b5 (.cells (pro lv a b c r d e f) 26 (0, 0)), .blk b6 (.cells (fl (List.replicate 16 0)) 22 (0, 0))])) ?_ ?_
  · refine r_seq ?_
    refine r_region ?_
    refine r_fieldAddr (off := 1) (o' := 1) rfl rfl rfl rfl ?_
    refine r_load1 rfl rfl rfl (by rfl) ?_
    refine r_nil ?_
    refine r_tn ?_
    refine r_cond rfl (fun hc => ?_) (fun hc => ?_)
    · refine r_region ?_
      refine r_move rfl rfl ?_
      refine r_assign rfl rfl ?_
      refine r_nil ?_
      refine r_tn ?_
      exact r_at () ⟨rfl, rfl, rfl, rfl, rfl, rfl, congrArg (fun z => some (Value.int .i64 z)) (by rw [← hs, hc]; rfl), trivial⟩ (fun w hw => hw.sub)
    · refine r_skip ?_
      refine r_tn ?_
      exact r_at () ⟨rfl, rfl, rfl, rfl, rfl, rfl, congrArg (fun z => some (Value.int .i64 z)) (by rw [← hs, hc]; rfl), trivial⟩ (fun w hw => hw.sub)
  intro _
  refine r_seq ?_
  refine r_region ?_
  refine r_assign rfl rfl ?_
  refine r_nil ?_
  refine r_tn ?_
  refine r_seq ?_
  refine r_region ?_
  refine r_assign rfl rfl ?_
  refine r_nil ?_
  refine r_tn ?_
  refine r_seq ?_
  refine r_seq ?_
  refine r_region ?_
  refine r_fieldAddr (off := 0) (o' := 0) rfl rfl rfl rfl ?_
  refine r_load1 rfl rfl rfl (by rfl) ?_
  refine r_nil ?_
  refine r_tn ?_
  refine r_block ?_
  refine r_seq ?_
  refine r_region ?_
  refine r_eql rfl rfl rfl (decide_eq_false (by decide)) ?_
  refine r_assign rfl rfl ?_
  refine r_nil ?_
  refine r_tn ?_
  refine r_cond_f rfl ?_
  refine r_seq ?_
  refine r_region ?_
  refine r_eql rfl rfl rfl (decide_eq_false (by decide)) ?_
  refine r_assign rfl rfl ?_
  refine r_nil ?_
  refine r_tn ?_
  refine r_cond_f rfl ?_
  refine r_seq ?_
  refine r_region ?_
  refine r_eql rfl rfl rfl (decide_eq_false (by decide)) ?_
  refine r_assign rfl rfl ?_
  refine r_nil ?_
  refine r_tn ?_
  refine r_cond_f rfl ?_
  refine r_seq ?_
  refine r_seq ?_
  refine r_region ?_
  refine r_eql rfl rfl rfl (decide_eq_false (by decide)) ?_
  refine r_assign rfl rfl ?_
  refine r_nil ?_
  refine r_tn ?_
  refine r_cond_f rfl ?_
  refine r_seq ?_
  refine r_region ?_
  refine r_eql rfl rfl rfl (decide_eq_false (by decide)) ?_
  refine r_assign rfl rfl ?_
  refine r_nil ?_
  refine r_tn ?_
  refine r_cond_f rfl ?_
  refine r_region ?_
  refine r_eql rfl rfl rfl (decide_eq_false (by decide)) ?_
  refine r_assign rfl rfl ?_
  refine r_nil ?_
  refine r_tn ?_
  refine r_cond_f rfl ?_
  refine r_seq ?_
  refine r_region ?_
  refine r_eql rfl rfl rfl (decide_eq_true (by decide)) ?_
  refine r_assign rfl rfl ?_
  refine r_nil ?_
  refine r_tn ?_
  refine r_cond_t rfl ?_
  refine r_seq ?_
  refine r_region ?_
  refine r_move rfl rfl ?_
  refine r_move rfl rfl ?_
  refine r_add rfl rfl rfl (w64 (by omega)) ?_
  refine r_rem rfl rfl rfl (by decide) rfl ?_
  refine r_assign rfl rfl ?_
  refine r_nil ?_
  refine r_tn ?_
  refine r_region ?_
  refine r_move rfl rfl ?_
  refine r_move rfl rfl ?_
  refine r_add rfl rfl rfl (w64 (by omega)) ?_
  refine r_gtr rfl rfl rfl rfl ?_
  refine r_call rfl rfl rfl (by kernel_rfl) rfl (fun w hw => by exact refFlag18 (decide (255 < x + y)) w) ?_
  refine r_assign rfl rfl ?_
  refine r_nil ?_
  refine r_bn ?_
  refine r_tn ?_
  refine r_seq ?_
  refine r_region ?_
  refine r_fieldAddr (off := 1) (o' := 1) rfl rfl rfl rfl ?_
  refine r_load1 rfl rfl rfl (by rfl) ?_
  refine r_move rfl rfl ?_
  refine r_convert rfl rfl rfl rfl (show _ = IntKind.u8.wrap (x + y) by show _ % 256 = _ % 256; rw [Int.tmod_eq_emod_of_nonneg (by omega)]; omega) ?_
  refine r_indexArr (sz := 1) rfl rfl rfl rfl rfl (by omega) (by omega) (show _ = X.toNat by simp) ?_
  refine r_store1 rfl rfl rfl rfl rfl (by rw [fl_len]; omega) ?_
  rw [fl_set]
  refine r_nil ?_
  refine r_tn ?_
  refine r_seq ?_
  refine r_seq ?_
  refine r_region ?_
  refine r_move rfl rfl ?_
  refine r_geq rfl rfl rfl rfl ?_
  refine r_nil ?_
  refine r_tn ?_
  refine r_cond rfl (fun hc => ?_) (fun hc => ?_)
  · refine r_region ?_
    refine r_move rfl rfl ?_
    refine r_convert rfl rfl rfl rfl rfl ?_
    refine r_indexArr (sz := 1) rfl rfl rfl rfl rfl (by omega) (by omega) (show _ = 15 by simp) ?_
    refine r_store1 rfl rfl rfl rfl rfl (by rw [fl_len]; simp; omega) ?_
    rw [fl_set]
    refine r_nil ?_
    refine r_tn ?_
    refine r_seq ?_
    refine r_region ?_
    refine r_loadV rfl rfl rfl rfl (fl_size (show _ = 16 by simp [hl])) ?_
    refine r_storeV rfl rfl rfl (fl_size (show _ = 16 by simp [hl])) rfl (fl_one _) ?_
    refine r_assign rfl rfl ?_
    refine r_nil ?_
    refine r_tn ?_
    refine r_ret ?_
    exact r_done2 (.inl rfl) rfl (res_cellV rfl rfl rfl (fl_size (show _ = 16 by simp [hl]))) (res_tmp rfl) fun w hw => ⟨by unfold doL; first | rw [if_pos (of_decide_eq_true hc)] | rw [if_neg (of_decide_eq_false hc)] | simp_all [logF], hw.clear⟩
  · refine r_skip ?_
    refine r_tn ?_
    refine r_seq ?_
    refine r_region ?_
    refine r_loadV rfl rfl rfl rfl (fl_size (show _ = 16 by simp [hl])) ?_
    refine r_storeV rfl rfl rfl (fl_size (show _ = 16 by simp [hl])) rfl (fl_one _) ?_
    refine r_assign rfl rfl ?_
    refine r_nil ?_
    refine r_tn ?_
    refine r_ret ?_
    exact r_done2 (.inl rfl) rfl (res_cellV rfl rfl rfl (fl_size (show _ = 16 by simp [hl]))) (res_tmp rfl) fun w hw => ⟨by unfold doL; first | rw [if_pos (of_decide_eq_true hc)] | rw [if_neg (of_decide_eq_false hc)] | simp_all [logF], hw.clear⟩

theorem refDo_15 (l : List Int) (X Y N NN Ad Ln lv : Int) (a b c r d e f : Bool) (hl : l.length = 16) (hr : ∀ i, 0 ≤ l.getD i 0 ∧ l.getD i 0 ≤ 255) (hX : 0 ≤ X ∧ X ≤ 15) (hY : 0 ≤ Y ∧ Y ≤ 15) (hN : 0 ≤ NN ∧ NN ≤ 255) (x y s : Int) (hxe : l.getD X.toNat 0 = x) (hye : l.getD Y.toNat 0 = y) (hs : (if a then y else x) = s) (w : World) :
    Calls Try.prog 11 #[.agg (fl l), .agg (ins 15 X Y N NN Ad Ln), .agg (pro lv a b c r d e f)] w fun e w' => e = .returned (.tuple #[.agg (fl (doL l X (x - y) (if decide (y ≤ x) then 1 else 0))), .bool true]) ∧ Sat w [] [] w' := by
  have hx := hr X.toNat
  have hy := hr Y.toNat
  rw [hxe] at hx
  rw [hye] at hy
  have hs2 : 0 ≤ s ∧ s ≤ 255 := by rw [← hs]; split <;> omega
  refine enter Try.func11 rfl rfl rfl ?_
  refine r_seq ?_
  refine r_region ?_
  refine r_boxV rfl rfl fun b3 => ?_
  refine r_boxV rfl rfl fun b4 => ?_
  refine r_boxV rfl rfl fun b5 => ?_
  refine r_allocV (cs := fl (List.replicate 16 0)) rfl rfl fun b6 => ?_
  refine r_assign rfl rfl ?_
  refine r_nil ?_
  refine r_tn ?_
  refine r_seq ?_
  refine r_region ?_
  refine r_fieldAddr (off := 1) (o' := 1) rfl rfl rfl rfl ?_
  refine r_load1 rfl rfl rfl (by rfl) ?_
  refine r_indexArr (sz := 1) rfl rfl rfl rfl rfl (by omega) (by omega) (show _ = X.toNat by simp) ?_
  refine r_load1 rfl rfl rfl (fl_at (k := X.toNat) (by omega)) ?_
  refine r_convert rfl rfl rfl rfl ((w64 (by omega)).trans hxe) ?_
  refine r_assign rfl rfl ?_
  refine r_nil ?_
  refine r_tn ?_
  refine r_seq ?_
  refine r_region ?_
  refine r_fieldAddr (off := 2) (o' := 2) rfl rfl rfl rfl ?_
  refine r_load1 rfl rfl rfl (by rfl) ?_
  refine r_indexArr (sz := 1) rfl rfl rfl rfl rfl (by omega) (by omega) (show _ = Y.toNat by simp) ?_
  refine r_load1 rfl rfl rfl (fl_at (k := Y.toNat) (by omega)) ?_
  refine r_convert rfl rfl rfl rfl ((w64 (by omega)).trans hye) ?_
  refine r_assign rfl rfl ?_
  refine r_nil ?_
  refine r_tn ?_
  refine r_seq ?_
  refine r_region ?_
  refine r_move rfl rfl ?_
  refine r_assign rfl rfl ?_
  refine r_nil ?_
  refine r_tn ?_
  refine r_seq ?_
  refine r_cut (fun _ : Unit => ([(3, .pointer (some ⟨b3, 0, none⟩)), (4, .pointer (some ⟨b4, 0, none⟩)), (5, .pointer (some ⟨b5, 0, none⟩)), (6, .pointer (some ⟨b6, 0, none⟩)), (8, .int .i64 x), (9, .int .i64 y), (10, .int .i64 s)], [.blk b3 (.cells (fl l) 22 (0, 0)), .blk b4 (.cells (ins 15 X Y N NN Ad Ln) 24 (0, 0)), .blk b5 (.cells (pro lv a b c r d e f) 26 (0, 0)), .blk b6 (.cells (fl (List.replicate 16 0)) 22 (0, 0))])) ?_ ?_
  · refine r_seq ?_
    refine r_region ?_
    refine r_fieldAddr (off := 1) (o' := 1) rfl rfl rfl rfl ?_
    refine r_load1 rfl rfl rfl (by rfl) ?_
    refine r_nil ?_
    refine r_tn ?_
    refine r_cond rfl (fun hc => ?_) (fun hc => ?_)
    · refine r_region ?_
      refine r_move rfl rfl ?_
      refine r_assign rfl rfl ?_
      refine r_nil ?_
      refine r_tn ?_
      exact r_at () ⟨rfl, rfl, rfl, rfl, rfl, rfl, congrArg (fun z => some (Value.int .i64 z)) (by rw [← hs, hc]; rfl), trivial⟩ (fun w hw => hw.sub)
    · refine r_skip ?_
      refine r_tn ?_
      exact r_at () ⟨rfl, rfl, rfl, rfl, rfl, rfl, congrArg (fun z => some (Value.int .i64 z)) (by rw [← hs, hc]; rfl), trivial⟩ (fun w hw => hw.sub)
  intro _
  refine r_seq ?_
  refine r_region ?_
  refine r_assign rfl rfl ?_
  refine r_nil ?_
  refine r_tn ?_
  refine r_seq ?_
  refine r_region ?_
  refine r_assign rfl rfl ?_
  refine r_nil ?_
  refine r_tn ?_
  refine r_seq ?_
  refine r_seq ?_
  refine r_region ?_
  refine r_fieldAddr (off := 0) (o' := 0) rfl rfl rfl rfl ?_
  refine r_load1 rfl rfl rfl (by rfl) ?_
  refine r_nil ?_
  refine r_tn ?_
  refine r_block ?_
  refine r_seq ?_
  refine r_region ?_
  refine r_eql rfl rfl rfl (decide_eq_false (by decide)) ?_
  refine r_assign rfl rfl ?_
  refine r_nil ?_
  refine r_tn ?_
  refine r_cond_f rfl ?_
  refine r_seq ?_
  refine r_region ?_
  refine r_eql rfl rfl rfl (decide_eq_false (by decide)) ?_
  refine r_assign rfl rfl ?_
  refine r_nil ?_
  refine r_tn ?_
  refine r_cond_f rfl ?_
  refine r_seq ?_
  refine r_region ?_
  refine r_eql rfl rfl rfl (decide_eq_false (by decide)) ?_
  refine r_assign rfl rfl ?_
  refine r_nil ?_
  refine r_tn ?_
  refine r_cond_f rfl ?_
  refine r_seq ?_
  refine r_seq ?_
  refine r_region ?_
  refine r_eql rfl rfl rfl (decide_eq_false (by decide)) ?_
  refine r_assign rfl rfl ?_
  refine r_nil ?_
  refine r_tn ?_
  refine r_cond_f rfl ?_
  refine r_seq ?_
  refine r_region ?_
  refine r_eql rfl rfl rfl (decide_eq_false (by decide)) ?_
  refine r_assign rfl rfl ?_
  refine r_nil ?_
  refine r_tn ?_
  refine r_cond_f rfl ?_
  refine r_region ?_
  refine r_eql rfl rfl rfl (decide_eq_false (by decide)) ?_
  refine r_assign rfl rfl ?_
  refine r_nil ?_
  refine r_tn ?_
  refine r_cond_f rfl ?_
  refine r_seq ?_
  refine r_region ?_
  refine r_eql rfl rfl rfl (decide_eq_false (by decide)) ?_
  refine r_assign rfl rfl ?_
  refine r_nil ?_
  refine r_tn ?_
  refine r_cond_f rfl ?_
  refine r_seq ?_
  refine r_region ?_
  refine r_eql rfl rfl rfl (decide_eq_true (by decide)) ?_
  refine r_assign rfl rfl ?_
  refine r_nil ?_
  refine r_tn ?_
  refine r_cond_t rfl ?_
  refine r_seq ?_
  refine r_region ?_
  refine r_move rfl rfl ?_
  refine r_move rfl rfl ?_
  refine r_sub rfl rfl rfl (w64 (by omega)) ?_
  refine r_add rfl rfl rfl (w64 (by omega)) ?_
  refine r_rem rfl rfl rfl (by decide) rfl ?_
  refine r_assign rfl rfl ?_
  refine r_nil ?_
  refine r_tn ?_
  refine r_region ?_
  refine r_move rfl rfl ?_
  refine r_move rfl rfl ?_
  refine r_geq rfl rfl rfl rfl ?_
  refine r_call rfl rfl rfl (by kernel_rfl) rfl (fun w hw => by exact refFlag18 (decide (y ≤ x)) w) ?_
  refine r_assign rfl rfl ?_
  refine r_nil ?_
  refine r_bn ?_
  refine r_tn ?_
  refine r_seq ?_
  refine r_region ?_
  refine r_fieldAddr (off := 1) (o' := 1) rfl rfl rfl rfl ?_
  refine r_load1 rfl rfl rfl (by rfl) ?_
  refine r_move rfl rfl ?_
  refine r_convert rfl rfl rfl rfl (show _ = IntKind.u8.wrap (x - y) by show _ % 256 = _ % 256; rw [Int.tmod_eq_emod_of_nonneg (by omega)]; omega) ?_
  refine r_indexArr (sz := 1) rfl rfl rfl rfl rfl (by omega) (by omega) (show _ = X.toNat by simp) ?_
  refine r_store1 rfl rfl rfl rfl rfl (by rw [fl_len]; omega) ?_
  rw [fl_set]
  refine r_nil ?_
  refine r_tn ?_
  refine r_seq ?_
  refine r_seq ?_
  refine r_region ?_
  refine r_move rfl rfl ?_
  refine r_geq rfl rfl rfl rfl ?_
  refine r_nil ?_
  refine r_tn ?_
  refine r_cond rfl (fun hc => ?_) (fun hc => ?_)
  · refine r_region ?_
    refine r_move rfl rfl ?_
    refine r_convert rfl rfl rfl rfl rfl ?_
    refine r_indexArr (sz := 1) rfl rfl rfl rfl rfl (by omega) (by omega) (show _ = 15 by simp) ?_
    refine r_store1 rfl rfl rfl rfl rfl (by rw [fl_len]; simp; omega) ?_
    rw [fl_set]
    refine r_nil ?_
    refine r_tn ?_
    refine r_seq ?_
    refine r_region ?_
    refine r_loadV rfl rfl rfl rfl (fl_size (show _ = 16 by simp [hl])) ?_
    refine r_storeV rfl rfl rfl (fl_size (show _ = 16 by simp [hl])) rfl (fl_one _) ?_
    refine r_assign rfl rfl ?_
    refine r_nil ?_
    refine r_tn ?_
    refine r_ret ?_
    exact r_done2 (.inl rfl) rfl (res_cellV rfl rfl rfl (fl_size (show _ = 16 by simp [hl]))) (res_tmp rfl) fun w hw => ⟨by unfold doL; first | rw [if_pos (of_decide_eq_true hc)] | rw [if_neg (of_decide_eq_false hc)] | simp_all [logF], hw.clear⟩
  · refine r_skip ?_
    refine r_tn ?_
    refine r_seq ?_
    refine r_region ?_
    refine r_loadV rfl rfl rfl rfl (fl_size (show _ = 16 by simp [hl])) ?_
    refine r_storeV rfl rfl rfl (fl_size (show _ = 16 by simp [hl])) rfl (fl_one _) ?_
    refine r_assign rfl rfl ?_
    refine r_nil ?_
    refine r_tn ?_
    refine r_ret ?_
    exact r_done2 (.inl rfl) rfl (res_cellV rfl rfl rfl (fl_size (show _ = 16 by simp [hl]))) (res_tmp rfl) fun w hw => ⟨by unfold doL; first | rw [if_pos (of_decide_eq_true hc)] | rw [if_neg (of_decide_eq_false hc)] | simp_all [logF], hw.clear⟩

theorem refDo_16 (l : List Int) (X Y N NN Ad Ln lv : Int) (a b c r d e f : Bool) (hl : l.length = 16) (hr : ∀ i, 0 ≤ l.getD i 0 ∧ l.getD i 0 ≤ 255) (hX : 0 ≤ X ∧ X ≤ 15) (hY : 0 ≤ Y ∧ Y ≤ 15) (hN : 0 ≤ NN ∧ NN ≤ 255) (x y s : Int) (hxe : l.getD X.toNat 0 = x) (hye : l.getD Y.toNat 0 = y) (hs : (if a then y else x) = s) (w : World) :
    Calls Try.prog 11 #[.agg (fl l), .agg (ins 16 X Y N NN Ad Ln), .agg (pro lv a b c r d e f)] w fun e w' => e = .returned (.tuple #[.agg (fl (doL l X (s / 2) (if decide (s % 2 = 1) then 1 else 0))), .bool true]) ∧ Sat w [] [] w' := by
  have hx := hr X.toNat
  have hy := hr Y.toNat
  rw [hxe] at hx
  rw [hye] at hy
  have hs2 : 0 ≤ s ∧ s ≤ 255 := by rw [← hs]; split <;> omega
  refine enter Try.func11 rfl rfl rfl ?_
  refine r_seq ?_
  refine r_region ?_
  refine r_boxV rfl rfl fun b3 => ?_
  refine r_boxV rfl rfl fun b4 => ?_
  refine r_boxV rfl rfl fun b5 => ?_
  refine r_allocV (cs := fl (List.replicate 16 0)) rfl rfl fun b6 => ?_
  refine r_assign rfl rfl ?_
  refine r_nil ?_
  refine r_tn ?_
  refine r_seq ?_
  refine r_region ?_
  refine r_fieldAddr (off := 1) (o' := 1) rfl rfl rfl rfl ?_
  refine r_load1 rfl rfl rfl (by rfl) ?_
  refine r_indexArr (sz := 1) rfl rfl rfl rfl rfl (by omega) (by omega) (show _ = X.toNat by simp) ?_
  refine r_load1 rfl rfl rfl (fl_at (k := X.toNat) (by omega)) ?_
  refine r_convert rfl rfl rfl rfl ((w64 (by omega)).trans hxe) ?_
  refine r_assign rfl rfl ?_
  refine r_nil ?_
  refine r_tn ?_
  refine r_seq ?_
  refine r_region ?_
  refine r_fieldAddr (off := 2) (o' := 2) rfl rfl rfl rfl ?_
  refine r_load1 rfl rfl rfl (by rfl) ?_
  refine r_indexArr (sz := 1) rfl rfl rfl rfl rfl (by omega) (by omega) (show _ = Y.toNat by simp) ?_
  refine r_load1 rfl rfl rfl (fl_at (k := Y.toNat) (by omega)) ?_
  refine r_convert rfl rfl rfl rfl ((w64 (by omega)).trans hye) ?_
  refine r_assign rfl rfl ?_
  refine r_nil ?_
  refine r_tn ?_
  refine r_seq ?_
  refine r_region ?_
  refine r_move rfl rfl ?_
  refine r_assign rfl rfl ?_
  refine r_nil ?_
  refine r_tn ?_
  refine r_seq ?_
  refine r_cut (fun _ : Unit => ([(3, .pointer (some ⟨b3, 0, none⟩)), (4, .pointer (some ⟨b4, 0, none⟩)), (5, .pointer (some ⟨b5, 0, none⟩)), (6, .pointer (some ⟨b6, 0, none⟩)), (8, .int .i64 x), (9, .int .i64 y), (10, .int .i64 s)], [.blk b3 (.cells (fl l) 22 (0, 0)), .blk b4 (.cells (ins 16 X Y N NN Ad Ln) 24 (0, 0)), .blk b5 (.cells (pro lv a b c r d e f) 26 (0, 0)), .blk b6 (.cells (fl (List.replicate 16 0)) 22 (0, 0))])) ?_ ?_
  · refine r_seq ?_
    refine r_region ?_
    refine r_fieldAddr (off := 1) (o' := 1) rfl rfl rfl rfl ?_
    refine r_load1 rfl rfl rfl (by rfl) ?_
    refine r_nil ?_
    refine r_tn ?_
    refine r_cond rfl (fun hc => ?_) (fun hc => ?_)
    · refine r_region ?_
      refine r_move rfl rfl ?_
      refine r_assign rfl rfl ?_
      refine r_nil ?_
      refine r_tn ?_
      exact r_at () ⟨rfl, rfl, rfl, rfl, rfl, rfl, congrArg (fun z => some (Value.int .i64 z)) (by rw [← hs, hc]; rfl), trivial⟩ (fun w hw => hw.sub)
    · refine r_skip ?_
      refine r_tn ?_
      exact r_at () ⟨rfl, rfl, rfl, rfl, rfl, rfl, congrArg (fun z => some (Value.int .i64 z)) (by rw [← hs, hc]; rfl), trivial⟩ (fun w hw => hw.sub)
  intro _
  refine r_seq ?_
  refine r_region ?_
  refine r_assign rfl rfl ?_
  refine r_nil ?_
  refine r_tn ?_
  refine r_seq ?_
  refine r_region ?_
  refine r_assign rfl rfl ?_
  refine r_nil ?_
  refine r_tn ?_
  refine r_seq ?_
  refine r_seq ?_
  refine r_region ?_
  refine r_fieldAddr (off := 0) (o' := 0) rfl rfl rfl rfl ?_
  refine r_load1 rfl rfl rfl (by rfl) ?_
  refine r_nil ?_
  refine r_tn ?_
  refine r_block ?_
  refine r_seq ?_
  refine r_region ?_
  refine r_eql rfl rfl rfl (decide_eq_false (by decide)) ?_
  refine r_assign rfl rfl ?_
  refine r_nil ?_
  refine r_tn ?_
  refine r_cond_f rfl ?_
  refine r_seq ?_
  refine r_region ?_
  refine r_eql rfl rfl rfl (decide_eq_false (by decide)) ?_
  refine r_assign rfl rfl ?_
  refine r_nil ?_
  refine r_tn ?_
  refine r_cond_f rfl ?_
  refine r_seq ?_
  refine r_region ?_
  refine r_eql rfl rfl rfl (decide_eq_false (by decide)) ?_
  refine r_assign rfl rfl ?_
  refine r_nil ?_
  refine r_tn ?_
  refine r_cond_f rfl ?_
  refine r_seq ?_
  refine r_seq ?_
  refine r_region ?_
  refine r_eql rfl rfl rfl (decide_eq_false (by decide)) ?_
  refine r_assign rfl rfl ?_
  refine r_nil ?_
  refine r_tn ?_
  refine r_cond_f rfl ?_
  refine r_seq ?_
  refine r_region ?_
  refine r_eql rfl rfl rfl (decide_eq_false (by decide)) ?_
  refine r_assign rfl rfl ?_
  refine r_nil ?_
  refine r_tn ?_
  refine r_cond_f rfl ?_
  refine r_region ?_
  refine r_eql rfl rfl rfl (decide_eq_false (by decide)) ?_
  refine r_assign rfl rfl ?_
  refine r_nil ?_
  refine r_tn ?_
  refine r_cond_f rfl ?_
  refine r_seq ?_
  refine r_region ?_
  refine r_eql rfl rfl rfl (decide_eq_false (by decide)) ?_
  refine r_assign rfl rfl ?_
  refine r_nil ?_
  refine r_tn ?_
  refine r_cond_f rfl ?_
  refine r_seq ?_
  refine r_region ?_
  refine r_eql rfl rfl rfl (decide_eq_false (by decide)) ?_
  refine r_assign rfl rfl ?_
  refine r_nil ?_
  refine r_tn ?_
  refine r_cond_f rfl ?_
  refine r_seq ?_
  refine r_region ?_
  refine r_eql rfl rfl rfl (decide_eq_true (by decide)) ?_
  refine r_assign rfl rfl ?_
  refine r_nil ?_
  refine r_tn ?_
  refine r_cond_t rfl ?_
  refine r_seq ?_
  refine r_region ?_
  refine r_move rfl rfl ?_
  refine r_quo rfl rfl rfl (by decide) (show _ = s / 2 by rw [Int.tdiv_eq_ediv_of_nonneg (by omega)]; exact w64 (by omega)) ?_
  refine r_assign rfl rfl ?_
  refine r_nil ?_
  refine r_tn ?_
  refine r_region ?_
  refine r_move rfl rfl ?_
  refine r_rem rfl rfl rfl (by decide) (show _ = (if decide (s % 2 = 1) then 1 else 0) by rw [Int.tmod_eq_emod_of_nonneg (by omega)]; by_cases h : s % 2 = 1 <;> simp [h] <;> omega) ?_
  refine r_assign rfl rfl ?_
  refine r_nil ?_
  refine r_bn ?_
  refine r_tn ?_
  refine r_seq ?_
  refine r_region ?_
  refine r_fieldAddr (off := 1) (o' := 1) rfl rfl rfl rfl ?_
  refine r_load1 rfl rfl rfl (by rfl) ?_
  refine r_move rfl rfl ?_
  refine r_convert rfl rfl rfl rfl rfl ?_
  refine r_indexArr (sz := 1) rfl rfl rfl rfl rfl (by omega) (by omega) (show _ = X.toNat by simp) ?_
  refine r_store1 rfl rfl rfl rfl rfl (by rw [fl_len]; omega) ?_
  rw [fl_set]
  refine r_nil ?_
  refine r_tn ?_
  refine r_seq ?_
  refine r_seq ?_
  refine r_region ?_
  refine r_move rfl rfl ?_
  refine r_geq rfl rfl rfl rfl ?_
  refine r_nil ?_
  refine r_tn ?_
  refine r_cond rfl (fun hc => ?_) (fun hc => ?_)
  · refine r_region ?_
    refine r_move rfl rfl ?_
    refine r_convert rfl rfl rfl rfl rfl ?_
    refine r_indexArr (sz := 1) rfl rfl rfl rfl rfl (by omega) (by omega) (show _ = 15 by simp) ?_
    refine r_store1 rfl rfl rfl rfl rfl (by rw [fl_len]; simp; omega) ?_
    rw [fl_set]
    refine r_nil ?_
    refine r_tn ?_
    refine r_seq ?_
    refine r_region ?_
    refine r_loadV rfl rfl rfl rfl (fl_size (show _ = 16 by simp [hl])) ?_
    refine r_storeV rfl rfl rfl (fl_size (show _ = 16 by simp [hl])) rfl (fl_one _) ?_
    refine r_assign rfl rfl ?_
    refine r_nil ?_
    refine r_tn ?_
    refine r_ret ?_
    exact r_done2 (.inl rfl) rfl (res_cellV rfl rfl rfl (fl_size (show _ = 16 by simp [hl]))) (res_tmp rfl) fun w hw => ⟨by unfold doL; first | rw [if_pos (of_decide_eq_true hc)] | rw [if_neg (of_decide_eq_false hc)] | simp_all [logF], hw.clear⟩
  · refine r_skip ?_
    refine r_tn ?_
    refine r_seq ?_
    refine r_region ?_
    refine r_loadV rfl rfl rfl rfl (fl_size (show _ = 16 by simp [hl])) ?_
    refine r_storeV rfl rfl rfl (fl_size (show _ = 16 by simp [hl])) rfl (fl_one _) ?_
    refine r_assign rfl rfl ?_
    refine r_nil ?_
    refine r_tn ?_
    refine r_ret ?_
    exact r_done2 (.inl rfl) rfl (res_cellV rfl rfl rfl (fl_size (show _ = 16 by simp [hl]))) (res_tmp rfl) fun w hw => ⟨by unfold doL; first | rw [if_pos (of_decide_eq_true hc)] | rw [if_neg (of_decide_eq_false hc)] | simp_all [logF], hw.clear⟩

theorem refDo_17 (l : List Int) (X Y N NN Ad Ln lv : Int) (a b c r d e f : Bool) (hl : l.length = 16) (hr : ∀ i, 0 ≤ l.getD i 0 ∧ l.getD i 0 ≤ 255) (hX : 0 ≤ X ∧ X ≤ 15) (hY : 0 ≤ Y ∧ Y ≤ 15) (hN : 0 ≤ NN ∧ NN ≤ 255) (x y s : Int) (hxe : l.getD X.toNat 0 = x) (hye : l.getD Y.toNat 0 = y) (hs : (if a then y else x) = s) (w : World) :
    Calls Try.prog 11 #[.agg (fl l), .agg (ins 17 X Y N NN Ad Ln), .agg (pro lv a b c r d e f)] w fun e w' => e = .returned (.tuple #[.agg (fl (doL l X (y - x) (if decide (x ≤ y) then 1 else 0))), .bool true]) ∧ Sat w [] [] w' := by
  have hx := hr X.toNat
  have hy := hr Y.toNat
  rw [hxe] at hx
  rw [hye] at hy
  have hs2 : 0 ≤ s ∧ s ≤ 255 := by rw [← hs]; split <;> omega
  refine enter Try.func11 rfl rfl rfl ?_
  refine r_seq ?_
  refine r_region ?_
  refine r_boxV rfl rfl fun b3 => ?_
  refine r_boxV rfl rfl fun b4 => ?_
  refine r_boxV rfl rfl fun b5 => ?_
  refine r_allocV (cs := fl (List.replicate 16 0)) rfl rfl fun b6 => ?_
  refine r_assign rfl rfl ?_
  refine r_nil ?_
  refine r_tn ?_
  refine r_seq ?_
  refine r_region ?_
  refine r_fieldAddr (off := 1) (o' := 1) rfl rfl rfl rfl ?_
  refine r_load1 rfl rfl rfl (by rfl) ?_
  refine r_indexArr (sz := 1) rfl rfl rfl rfl rfl (by omega) (by omega) (show _ = X.toNat by simp) ?_
  refine r_load1 rfl rfl rfl (fl_at (k := X.toNat) (by omega)) ?_
  refine r_convert rfl rfl rfl rfl ((w64 (by omega)).trans hxe) ?_
  refine r_assign rfl rfl ?_
  refine r_nil ?_
  refine r_tn ?_
  refine r_seq ?_
  refine r_region ?_
  refine r_fieldAddr (off := 2) (o' := 2) rfl rfl rfl rfl ?_
  refine r_load1 rfl rfl rfl (by rfl) ?_
  refine r_indexArr (sz := 1) rfl rfl rfl rfl rfl (by omega) (by omega) (show _ = Y.toNat by simp) ?_
  refine r_load1 rfl rfl rfl (fl_at (k := Y.toNat) (by omega)) ?_
  refine r_convert rfl rfl rfl rfl ((w64 (by omega)).trans hye) ?_
  refine r_assign rfl rfl ?_
  refine r_nil ?_
  refine r_tn ?_
  refine r_seq ?_
  refine r_region ?_
  refine r_move rfl rfl ?_
  refine r_assign rfl rfl ?_
  refine r_nil ?_
  refine r_tn ?_
  refine r_seq ?_
  refine r_cut (fun _ : Unit => ([(3, .pointer (some ⟨b3, 0, none⟩)), (4, .pointer (some ⟨b4, 0, none⟩)), (5, .pointer (some ⟨b5, 0, none⟩)), (6, .pointer (some ⟨b6, 0, none⟩)), (8, .int .i64 x), (9, .int .i64 y), (10, .int .i64 s)], [.blk b3 (.cells (fl l) 22 (0, 0)), .blk b4 (.cells (ins 17 X Y N NN Ad Ln) 24 (0, 0)), .blk b5 (.cells (pro lv a b c r d e f) 26 (0, 0)), .blk b6 (.cells (fl (List.replicate 16 0)) 22 (0, 0))])) ?_ ?_
  · refine r_seq ?_
    refine r_region ?_
    refine r_fieldAddr (off := 1) (o' := 1) rfl rfl rfl rfl ?_
    refine r_load1 rfl rfl rfl (by rfl) ?_
    refine r_nil ?_
    refine r_tn ?_
    refine r_cond rfl (fun hc => ?_) (fun hc => ?_)
    · refine r_region ?_
      refine r_move rfl rfl ?_
      refine r_assign rfl rfl ?_
      refine r_nil ?_
      refine r_tn ?_
      exact r_at () ⟨rfl, rfl, rfl, rfl, rfl, rfl, congrArg (fun z => some (Value.int .i64 z)) (by rw [← hs, hc]; rfl), trivial⟩ (fun w hw => hw.sub)
    · refine r_skip ?_
      refine r_tn ?_
      exact r_at () ⟨rfl, rfl, rfl, rfl, rfl, rfl, congrArg (fun z => some (Value.int .i64 z)) (by rw [← hs, hc]; rfl), trivial⟩ (fun w hw => hw.sub)
  intro _
  refine r_seq ?_
  refine r_region ?_
  refine r_assign rfl rfl ?_
  refine r_nil ?_
  refine r_tn ?_
  refine r_seq ?_
  refine r_region ?_
  refine r_assign rfl rfl ?_
  refine r_nil ?_
  refine r_tn ?_
  refine r_seq ?_
  refine r_seq ?_
  refine r_region ?_
  refine r_fieldAddr (off := 0) (o' := 0) rfl rfl rfl rfl ?_
  refine r_load1 rfl rfl rfl (by rfl) ?_
  refine r_nil ?_
  refine r_tn ?_
  refine r_block ?_
  refine r_seq ?_
  refine r_region ?_
  refine r_eql rfl rfl rfl (decide_eq_false (by decide)) ?_
  refine r_assign rfl rfl ?_
  refine r_nil ?_
  refine r_tn ?_
  refine r_cond_f rfl ?_
  refine r_seq ?_
  refine r_region ?_
  refine r_eql rfl rfl rfl (decide_eq_false (by decide)) ?_
  refine r_assign rfl rfl ?_
  refine r_nil ?_
  refine r_tn ?_
  refine r_cond_f rfl ?_
  refine r_seq ?_
  refine r_region ?_
  refine r_eql rfl rfl rfl (decide_eq_false (by decide)) ?_
  refine r_assign rfl rfl ?_
  refine r_nil ?_
  refine r_tn ?_
  refine r_cond_f rfl ?_
  refine r_seq ?_
  refine r_seq ?_
  refine r_region ?_
  refine r_eql rfl rfl rfl (decide_eq_false (by decide)) ?_
  refine r_assign rfl rfl ?_
  refine r_nil ?_
  refine r_tn ?_
  refine r_cond_f rfl ?_
  refine r_seq ?_
  refine r_region ?_
  refine r_eql rfl rfl rfl (decide_eq_false (by decide)) ?_
  refine r_assign rfl rfl ?_
  refine r_nil ?_
  refine r_tn ?_
  refine r_cond_f rfl ?_
  refine r_region ?_
  refine r_eql rfl rfl rfl (decide_eq_false (by decide)) ?_
  refine r_assign rfl rfl ?_
  refine r_nil ?_
  refine r_tn ?_
  refine r_cond_f rfl ?_
  refine r_seq ?_
  refine r_region ?_
  refine r_eql rfl rfl rfl (decide_eq_false (by decide)) ?_
  refine r_assign rfl rfl ?_
  refine r_nil ?_
  refine r_tn ?_
  refine r_cond_f rfl ?_
  refine r_seq ?_
  refine r_region ?_
  refine r_eql rfl rfl rfl (decide_eq_false (by decide)) ?_
  refine r_assign rfl rfl ?_
  refine r_nil ?_
  refine r_tn ?_
  refine r_cond_f rfl ?_
  refine r_seq ?_
  refine r_region ?_
  refine r_eql rfl rfl rfl (decide_eq_false (by decide)) ?_
  refine r_assign rfl rfl ?_
  refine r_nil ?_
  refine r_tn ?_
  refine r_cond_f rfl ?_
  refine r_seq ?_
  refine r_region ?_
  refine r_eql rfl rfl rfl (decide_eq_true (by decide)) ?_
  refine r_assign rfl rfl ?_
  refine r_nil ?_
  refine r_tn ?_
  refine r_cond_t rfl ?_
  refine r_seq ?_
  refine r_region ?_
  refine r_move rfl rfl ?_
  refine r_move rfl rfl ?_
  refine r_sub rfl rfl rfl (w64 (by omega)) ?_
  refine r_add rfl rfl rfl (w64 (by omega)) ?_
  refine r_rem rfl rfl rfl (by decide) rfl ?_
  refine r_assign rfl rfl ?_
  refine r_nil ?_
  refine r_tn ?_
  refine r_region ?_
  refine r_move rfl rfl ?_
  refine r_move rfl rfl ?_
  refine r_geq rfl rfl rfl rfl ?_
  refine r_call rfl rfl rfl (by kernel_rfl) rfl (fun w hw => by exact refFlag18 (decide (x ≤ y)) w) ?_
  refine r_assign rfl rfl ?_
  refine r_nil ?_
  refine r_bn ?_
  refine r_tn ?_
  refine r_seq ?_
  refine r_region ?_
  refine r_fieldAddr (off := 1) (o' := 1) rfl rfl rfl rfl ?_
  refine r_load1 rfl rfl rfl (by rfl) ?_
  refine r_move rfl rfl ?_
  refine r_convert rfl rfl rfl rfl (show _ = IntKind.u8.wrap (y - x) by show _ % 256 = _ % 256; rw [Int.tmod_eq_emod_of_nonneg (by omega)]; omega) ?_
  refine r_indexArr (sz := 1) rfl rfl rfl rfl rfl (by omega) (by omega) (show _ = X.toNat by simp) ?_
  refine r_store1 rfl rfl rfl rfl rfl (by rw [fl_len]; omega) ?_
  rw [fl_set]
  refine r_nil ?_
  refine r_tn ?_
  refine r_seq ?_
  refine r_seq ?_
  refine r_region ?_
  refine r_move rfl rfl ?_
  refine r_geq rfl rfl rfl rfl ?_
  refine r_nil ?_
  refine r_tn ?_
  refine r_cond rfl (fun hc => ?_) (fun hc => ?_)
  · refine r_region ?_
    refine r_move rfl rfl ?_
    refine r_convert rfl rfl rfl rfl rfl ?_
    refine r_indexArr (sz := 1) rfl rfl rfl rfl rfl (by omega) (by omega) (show _ = 15 by simp) ?_
    refine r_store1 rfl rfl rfl rfl rfl (by rw [fl_len]; simp; omega) ?_
    rw [fl_set]
    refine r_nil ?_
    refine r_tn ?_
    refine r_seq ?_
    refine r_region ?_
    refine r_loadV rfl rfl rfl rfl (fl_size (show _ = 16 by simp [hl])) ?_
    refine r_storeV rfl rfl rfl (fl_size (show _ = 16 by simp [hl])) rfl (fl_one _) ?_
    refine r_assign rfl rfl ?_
    refine r_nil ?_
    refine r_tn ?_
    refine r_ret ?_
    exact r_done2 (.inl rfl) rfl (res_cellV rfl rfl rfl (fl_size (show _ = 16 by simp [hl]))) (res_tmp rfl) fun w hw => ⟨by unfold doL; first | rw [if_pos (of_decide_eq_true hc)] | rw [if_neg (of_decide_eq_false hc)] | simp_all [logF], hw.clear⟩
  · refine r_skip ?_
    refine r_tn ?_
    refine r_seq ?_
    refine r_region ?_
    refine r_loadV rfl rfl rfl rfl (fl_size (show _ = 16 by simp [hl])) ?_
    refine r_storeV rfl rfl rfl (fl_size (show _ = 16 by simp [hl])) rfl (fl_one _) ?_
    refine r_assign rfl rfl ?_
    refine r_nil ?_
    refine r_tn ?_
    refine r_ret ?_
    exact r_done2 (.inl rfl) rfl (res_cellV rfl rfl rfl (fl_size (show _ = 16 by simp [hl]))) (res_tmp rfl) fun w hw => ⟨by unfold doL; first | rw [if_pos (of_decide_eq_true hc)] | rw [if_neg (of_decide_eq_false hc)] | simp_all [logF], hw.clear⟩

theorem refDo_18 (l : List Int) (X Y N NN Ad Ln lv : Int) (a b c r d e f : Bool) (hl : l.length = 16) (hr : ∀ i, 0 ≤ l.getD i 0 ∧ l.getD i 0 ≤ 255) (hX : 0 ≤ X ∧ X ≤ 15) (hY : 0 ≤ Y ∧ Y ≤ 15) (hN : 0 ≤ NN ∧ NN ≤ 255) (x y s : Int) (hxe : l.getD X.toNat 0 = x) (hye : l.getD Y.toNat 0 = y) (hs : (if a then y else x) = s) (w : World) :
    Calls Try.prog 11 #[.agg (fl l), .agg (ins 18 X Y N NN Ad Ln), .agg (pro lv a b c r d e f)] w fun e w' => e = .returned (.tuple #[.agg (fl (doL l X (2 * s) (if decide (128 ≤ s) then 1 else 0))), .bool true]) ∧ Sat w [] [] w' := by
  have hx := hr X.toNat
  have hy := hr Y.toNat
  rw [hxe] at hx
  rw [hye] at hy
  have hs2 : 0 ≤ s ∧ s ≤ 255 := by rw [← hs]; split <;> omega
  refine enter Try.func11 rfl rfl rfl ?_
  refine r_seq ?_
  refine r_region ?_
  refine r_boxV rfl rfl fun b3 => ?_
  refine r_boxV rfl rfl fun b4 => ?_
  refine r_boxV rfl rfl fun b5 => ?_
  refine r_allocV (cs := fl (List.replicate 16 0)) rfl rfl fun b6 => ?_
  refine r_assign rfl rfl ?_
  refine r_nil ?_
  refine r_tn ?_
  refine r_seq ?_
  refine r_region ?_
  refine r_fieldAddr (off := 1) (o' := 1) rfl rfl rfl rfl ?_
  refine r_load1 rfl rfl rfl (by rfl) ?_
  refine r_indexArr (sz := 1) rfl rfl rfl rfl rfl (by omega) (by omega) (show _ = X.toNat by simp) ?_
  refine r_load1 rfl rfl rfl (fl_at (k := X.toNat) (by omega)) ?_
  refine r_convert rfl rfl rfl rfl ((w64 (by omega)).trans hxe) ?_
  refine r_assign rfl rfl ?_
  refine r_nil ?_
  refine r_tn ?_
  refine r_seq ?_
  refine r_region ?_
  refine r_fieldAddr (off := 2) (o' := 2) rfl rfl rfl rfl ?_
  refine r_load1 rfl rfl rfl (by rfl) ?_
  refine r_indexArr (sz := 1) rfl rfl rfl rfl rfl (by omega) (by omega) (show _ = Y.toNat by simp) ?_
  refine r_load1 rfl rfl rfl (fl_at (k := Y.toNat) (by omega)) ?_
  refine r_convert rfl rfl rfl rfl ((w64 (by omega)).trans hye) ?_
  refine r_assign rfl rfl ?_
  refine r_nil ?_
  refine r_tn ?_
  refine r_seq ?_
  refine r_region ?_
  refine r_move rfl rfl ?_
  refine r_assign rfl rfl ?_
  refine r_nil ?_
  refine r_tn ?_
  refine r_seq ?_
  refine r_cut (fun _ : Unit => ([(3, .pointer (some ⟨b3, 0, none⟩)), (4, .pointer (some ⟨b4, 0, none⟩)), (5, .pointer (some ⟨b5, 0, none⟩)), (6, .pointer (some ⟨b6, 0, none⟩)), (8, .int .i64 x), (9, .int .i64 y), (10, .int .i64 s)], [.blk b3 (.cells (fl l) 22 (0, 0)), .blk b4 (.cells (ins 18 X Y N NN Ad Ln) 24 (0, 0)), .blk b5 (.cells (pro lv a b c r d e f) 26 (0, 0)), .blk b6 (.cells (fl (List.replicate 16 0)) 22 (0, 0))])) ?_ ?_
  · refine r_seq ?_
    refine r_region ?_
    refine r_fieldAddr (off := 1) (o' := 1) rfl rfl rfl rfl ?_
    refine r_load1 rfl rfl rfl (by rfl) ?_
    refine r_nil ?_
    refine r_tn ?_
    refine r_cond rfl (fun hc => ?_) (fun hc => ?_)
    · refine r_region ?_
      refine r_move rfl rfl ?_
      refine r_assign rfl rfl ?_
      refine r_nil ?_
      refine r_tn ?_
      exact r_at () ⟨rfl, rfl, rfl, rfl, rfl, rfl, congrArg (fun z => some (Value.int .i64 z)) (by rw [← hs, hc]; rfl), trivial⟩ (fun w hw => hw.sub)
    · refine r_skip ?_
      refine r_tn ?_
      exact r_at () ⟨rfl, rfl, rfl, rfl, rfl, rfl, congrArg (fun z => some (Value.int .i64 z)) (by rw [← hs, hc]; rfl), trivial⟩ (fun w hw => hw.sub)
  intro _
  refine r_seq ?_
  refine r_region ?_
  refine r_assign rfl rfl ?_
  refine r_nil ?_
  refine r_tn ?_
  refine r_seq ?_
  refine r_region ?_
  refine r_assign rfl rfl ?_
  refine r_nil ?_
  refine r_tn ?_
  refine r_seq ?_
  refine r_seq ?_
  refine r_region ?_
  refine r_fieldAddr (off := 0) (o' := 0) rfl rfl rfl rfl ?_
  refine r_load1 rfl rfl rfl (by rfl) ?_
  refine r_nil ?_
  refine r_tn ?_
  refine r_block ?_
  refine r_seq ?_
  refine r_region ?_
  refine r_eql rfl rfl rfl (decide_eq_false (by decide)) ?_
  refine r_assign rfl rfl ?_
  refine r_nil ?_
  refine r_tn ?_
  refine r_cond_f rfl ?_
  refine r_seq ?_
  refine r_region ?_
  refine r_eql rfl rfl rfl (decide_eq_false (by decide)) ?_
  refine r_assign rfl rfl ?_
  refine r_nil ?_
  refine r_tn ?_
  refine r_cond_f rfl ?_
  refine r_seq ?_
  refine r_region ?_
  refine r_eql rfl rfl rfl (decide_eq_false (by decide)) ?_
  refine r_assign rfl rfl ?_
  refine r_nil ?_
  refine r_tn ?_
  refine r_cond_f rfl ?_
  refine r_seq ?_
  refine r_seq ?_
  refine r_region ?_
  refine r_eql rfl rfl rfl (decide_eq_false (by decide)) ?_
  refine r_assign rfl rfl ?_
  refine r_nil ?_
  refine r_tn ?_
  refine r_cond_f rfl ?_
  refine r_seq ?_
  refine r_region ?_
  refine r_eql rfl rfl rfl (decide_eq_false (by decide)) ?_
  refine r_assign rfl rfl ?_
  refine r_nil ?_
  refine r_tn ?_
  refine r_cond_f rfl ?_
  refine r_region ?_
  refine r_eql rfl rfl rfl (decide_eq_false (by decide)) ?_
  refine r_assign rfl rfl ?_
  refine r_nil ?_
  refine r_tn ?_
  refine r_cond_f rfl ?_
  refine r_seq ?_
  refine r_region ?_
  refine r_eql rfl rfl rfl (decide_eq_false (by decide)) ?_
  refine r_assign rfl rfl ?_
  refine r_nil ?_
  refine r_tn ?_
  refine r_cond_f rfl ?_
  refine r_seq ?_
  refine r_region ?_
  refine r_eql rfl rfl rfl (decide_eq_false (by decide)) ?_
  refine r_assign rfl rfl ?_
  refine r_nil ?_
  refine r_tn ?_
  refine r_cond_f rfl ?_
  refine r_seq ?_
  refine r_region ?_
  refine r_eql rfl rfl rfl (decide_eq_false (by decide)) ?_
  refine r_assign rfl rfl ?_
  refine r_nil ?_
  refine r_tn ?_
  refine r_cond_f rfl ?_
  refine r_seq ?_
  refine r_region ?_
  refine r_eql rfl rfl rfl (decide_eq_false (by decide)) ?_
  refine r_assign rfl rfl ?_
  refine r_nil ?_
  refine r_tn ?_
  refine r_cond_f rfl ?_
  refine r_seq ?_
  refine r_region ?_
  refine r_eql rfl rfl rfl (decide_eq_true (by decide)) ?_
  refine r_assign rfl rfl ?_
  refine r_nil ?_
  refine r_tn ?_
  refine r_cond_t rfl ?_
  refine r_seq ?_
  refine r_region ?_
  refine r_move rfl rfl ?_
  refine r_mul rfl rfl rfl (w64 (by omega)) ?_
  refine r_rem rfl rfl rfl (by decide) rfl ?_
  refine r_assign rfl rfl ?_
  refine r_nil ?_
  refine r_tn ?_
  refine r_region ?_
  refine r_move rfl rfl ?_
  refine r_quo rfl rfl rfl (by decide) (show _ = (if decide (128 ≤ s) then 1 else 0) by rw [Int.tdiv_eq_ediv_of_nonneg (by omega), w64 (by omega)]; by_cases h : 128 ≤ s <;> simp [h] <;> omega) ?_
  refine r_assign rfl rfl ?_
  refine r_nil ?_
  refine r_bn ?_
  refine r_tn ?_
  refine r_seq ?_
  refine r_region ?_
  refine r_fieldAddr (off := 1) (o' := 1) rfl rfl rfl rfl ?_
  refine r_load1 rfl rfl rfl (by rfl) ?_
  refine r_move rfl rfl ?_
  refine r_convert rfl rfl rfl rfl (show _ = IntKind.u8.wrap (2 * s) by show _ % 256 = _ % 256; rw [Int.tmod_eq_emod_of_nonneg (by omega)]; omega) ?_
  refine r_indexArr (sz := 1) rfl rfl rfl rfl rfl (by omega) (by omega) (show _ = X.toNat by simp) ?_
  refine r_store1 rfl rfl rfl rfl rfl (by rw [fl_len]; omega) ?_
  rw [fl_set]
  refine r_nil ?_
  refine r_tn ?_
  refine r_seq ?_
  refine r_seq ?_
  refine r_region ?_
  refine r_move rfl rfl ?_
  refine r_geq rfl rfl rfl rfl ?_
  refine r_nil ?_
  refine r_tn ?_
  refine r_cond rfl (fun hc => ?_) (fun hc => ?_)
  · refine r_region ?_
    refine r_move rfl rfl ?_
    refine r_convert rfl rfl rfl rfl rfl ?_
    refine r_indexArr (sz := 1) rfl rfl rfl rfl rfl (by omega) (by omega) (show _ = 15 by simp) ?_
    refine r_store1 rfl rfl rfl rfl rfl (by rw [fl_len]; simp; omega) ?_
    rw [fl_set]
    refine r_nil ?_
    refine r_tn ?_
    refine r_seq ?_
    refine r_region ?_
    refine r_loadV rfl rfl rfl rfl (fl_size (show _ = 16 by simp [hl])) ?_
    refine r_storeV rfl rfl rfl (fl_size (show _ = 16 by simp [hl])) rfl (fl_one _) ?_
    refine r_assign rfl rfl ?_
    refine r_nil ?_
    refine r_tn ?_
    refine r_ret ?_
    exact r_done2 (.inl rfl) rfl (res_cellV rfl rfl rfl (fl_size (show _ = 16 by simp [hl]))) (res_tmp rfl) fun w hw => ⟨by unfold doL; first | rw [if_pos (of_decide_eq_true hc)] | rw [if_neg (of_decide_eq_false hc)] | simp_all [logF], hw.clear⟩
  · refine r_skip ?_
    refine r_tn ?_
    refine r_seq ?_
    refine r_region ?_
    refine r_loadV rfl rfl rfl rfl (fl_size (show _ = 16 by simp [hl])) ?_
    refine r_storeV rfl rfl rfl (fl_size (show _ = 16 by simp [hl])) rfl (fl_one _) ?_
    refine r_assign rfl rfl ?_
    refine r_nil ?_
    refine r_tn ?_
    refine r_ret ?_
    exact r_done2 (.inl rfl) rfl (res_cellV rfl rfl rfl (fl_size (show _ = 16 by simp [hl]))) (res_tmp rfl) fun w hw => ⟨by unfold doL; first | rw [if_pos (of_decide_eq_true hc)] | rw [if_neg (of_decide_eq_false hc)] | simp_all [logF], hw.clear⟩

theorem refDo_none (l : List Int) (op X Y N NN Ad Ln lv : Int) (a b c r d e f : Bool) (hl : l.length = 16) (hr : ∀ i, 0 ≤ l.getD i 0 ∧ l.getD i 0 ≤ 255) (hX : 0 ≤ X ∧ X ≤ 15) (hY : 0 ≤ Y ∧ Y ≤ 15) (hN : 0 ≤ NN ∧ NN ≤ 255) (x y s : Int) (hxe : l.getD X.toNat 0 = x) (hye : l.getD Y.toNat 0 = y) (hs : (if a then y else x) = s) (hne : op ≠ 8 ∧ op ≠ 9 ∧ op ≠ 10 ∧ op ≠ 11 ∧ op ≠ 12 ∧ op ≠ 13 ∧ op ≠ 14 ∧ op ≠ 15 ∧ op ≠ 16 ∧ op ≠ 17 ∧ op ≠ 18) (w : World) :
    Calls Try.prog 11 #[.agg (fl l), .agg (ins op X Y N NN Ad Ln), .agg (pro lv a b c r d e f)] w fun e w' => e = .returned (.tuple #[.agg (fl l), .bool false]) ∧ Sat w [] [] w' := by
  have hx := hr X.toNat
  have hy := hr Y.toNat
  rw [hxe] at hx
  rw [hye] at hy
  have hs2 : 0 ≤ s ∧ s ≤ 255 := by rw [← hs]; split <;> omega
  refine enter Try.func11 rfl rfl rfl ?_
  refine r_seq ?_
  refine r_region ?_
  refine r_boxV rfl rfl fun b3 => ?_
  refine r_boxV rfl rfl fun b4 => ?_
  refine r_boxV rfl rfl fun b5 => ?_
  refine r_allocV (cs := fl (List.replicate 16 0)) rfl rfl fun b6 => ?_
  refine r_assign rfl rfl ?_
  refine r_nil ?_
  refine r_tn ?_
  refine r_seq ?_
  refine r_region ?_
  refine r_fieldAddr (off := 1) (o' := 1) rfl rfl rfl rfl ?_
  refine r_load1 rfl rfl rfl (by rfl) ?_
  refine r_indexArr (sz := 1) rfl rfl rfl rfl rfl (by omega) (by omega) (show _ = X.toNat by simp) ?_
  refine r_load1 rfl rfl rfl (fl_at (k := X.toNat) (by omega)) ?_
  refine r_convert rfl rfl rfl rfl ((w64 (by omega)).trans hxe) ?_
  refine r_assign rfl rfl ?_
  refine r_nil ?_
  refine r_tn ?_
  refine r_seq ?_
  refine r_region ?_
  refine r_fieldAddr (off := 2) (o' := 2) rfl rfl rfl rfl ?_
  refine r_load1 rfl rfl rfl (by rfl) ?_
  refine r_indexArr (sz := 1) rfl rfl rfl rfl rfl (by omega) (by omega) (show _ = Y.toNat by simp) ?_
  refine r_load1 rfl rfl rfl (fl_at (k := Y.toNat) (by omega)) ?_
  refine r_convert rfl rfl rfl rfl ((w64 (by omega)).trans hye) ?_
  refine r_assign rfl rfl ?_
  refine r_nil ?_
  refine r_tn ?_
  refine r_seq ?_
  refine r_region ?_
  refine r_move rfl rfl ?_
  refine r_assign rfl rfl ?_
  refine r_nil ?_
  refine r_tn ?_
  refine r_seq ?_
  refine r_cut (fun _ : Unit => ([(3, .pointer (some ⟨b3, 0, none⟩)), (4, .pointer (some ⟨b4, 0, none⟩)), (5, .pointer (some ⟨b5, 0, none⟩)), (6, .pointer (some ⟨b6, 0, none⟩)), (8, .int .i64 x), (9, .int .i64 y), (10, .int .i64 s)], [.blk b3 (.cells (fl l) 22 (0, 0)), .blk b4 (.cells (ins op X Y N NN Ad Ln) 24 (0, 0)), .blk b5 (.cells (pro lv a b c r d e f) 26 (0, 0)), .blk b6 (.cells (fl (List.replicate 16 0)) 22 (0, 0))])) ?_ ?_
  · refine r_seq ?_
    refine r_region ?_
    refine r_fieldAddr (off := 1) (o' := 1) rfl rfl rfl rfl ?_
    refine r_load1 rfl rfl rfl (by rfl) ?_
    refine r_nil ?_
    refine r_tn ?_
    refine r_cond rfl (fun hc => ?_) (fun hc => ?_)
    · refine r_region ?_
      refine r_move rfl rfl ?_
      refine r_assign rfl rfl ?_
      refine r_nil ?_
      refine r_tn ?_
      exact r_at () ⟨rfl, rfl, rfl, rfl, rfl, rfl, congrArg (fun z => some (Value.int .i64 z)) (by rw [← hs, hc]; rfl), trivial⟩ (fun w hw => hw.sub)
    · refine r_skip ?_
      refine r_tn ?_
      exact r_at () ⟨rfl, rfl, rfl, rfl, rfl, rfl, congrArg (fun z => some (Value.int .i64 z)) (by rw [← hs, hc]; rfl), trivial⟩ (fun w hw => hw.sub)
  intro _
  refine r_seq ?_
  refine r_region ?_
  refine r_assign rfl rfl ?_
  refine r_nil ?_
  refine r_tn ?_
  refine r_seq ?_
  refine r_region ?_
  refine r_assign rfl rfl ?_
  refine r_nil ?_
  refine r_tn ?_
  refine r_seq ?_
  refine r_seq ?_
  refine r_region ?_
  refine r_fieldAddr (off := 0) (o' := 0) rfl rfl rfl rfl ?_
  refine r_load1 rfl rfl rfl (by rfl) ?_
  refine r_nil ?_
  refine r_tn ?_
  refine r_block ?_
  refine r_seq ?_
  refine r_region ?_
  refine r_eql rfl rfl rfl (decide_eq_false (by omega)) ?_
  refine r_assign rfl rfl ?_
  refine r_nil ?_
  refine r_tn ?_
  refine r_cond_f rfl ?_
  refine r_seq ?_
  refine r_region ?_
  refine r_eql rfl rfl rfl (decide_eq_false (by omega)) ?_
  refine r_assign rfl rfl ?_
  refine r_nil ?_
  refine r_tn ?_
  refine r_cond_f rfl ?_
  refine r_seq ?_
  refine r_region ?_
  refine r_eql rfl rfl rfl (decide_eq_false (by omega)) ?_
  refine r_assign rfl rfl ?_
  refine r_nil ?_
  refine r_tn ?_
  refine r_cond_f rfl ?_
  refine r_seq ?_
  refine r_seq ?_
  refine r_region ?_
  refine r_eql rfl rfl rfl (decide_eq_false (by omega)) ?_
  refine r_assign rfl rfl ?_
  refine r_nil ?_
  refine r_tn ?_
  refine r_cond_f rfl ?_
  refine r_seq ?_
  refine r_region ?_
  refine r_eql rfl rfl rfl (decide_eq_false (by omega)) ?_
  refine r_assign rfl rfl ?_
  refine r_nil ?_
  refine r_tn ?_
  refine r_cond_f rfl ?_
  refine r_region ?_
  refine r_eql rfl rfl rfl (decide_eq_false (by omega)) ?_
  refine r_assign rfl rfl ?_
  refine r_nil ?_
  refine r_tn ?_
  refine r_cond_f rfl ?_
  refine r_seq ?_
  refine r_region ?_
  refine r_eql rfl rfl rfl (decide_eq_false (by omega)) ?_
  refine r_assign rfl rfl ?_
  refine r_nil ?_
  refine r_tn ?_
  refine r_cond_f rfl ?_
  refine r_seq ?_
  refine r_region ?_
  refine r_eql rfl rfl rfl (decide_eq_false (by omega)) ?_
  refine r_assign rfl rfl ?_
  refine r_nil ?_
  refine r_tn ?_
  refine r_cond_f rfl ?_
  refine r_seq ?_
  refine r_region ?_
  refine r_eql rfl rfl rfl (decide_eq_false (by omega)) ?_
  refine r_assign rfl rfl ?_
  refine r_nil ?_
  refine r_tn ?_
  refine r_cond_f rfl ?_
  refine r_seq ?_
  refine r_region ?_
  refine r_eql rfl rfl rfl (decide_eq_false (by omega)) ?_
  refine r_assign rfl rfl ?_
  refine r_nil ?_
  refine r_tn ?_
  refine r_cond_f rfl ?_
  refine r_seq ?_
  refine r_region ?_
  refine r_eql rfl rfl rfl (decide_eq_false (by omega)) ?_
  refine r_assign rfl rfl ?_
  refine r_nil ?_
  refine r_tn ?_
  refine r_cond_f rfl ?_
  refine r_seq ?_
  refine r_region ?_
  refine r_loadV rfl rfl rfl rfl (fl_size hl) ?_
  refine r_storeV rfl rfl rfl (fl_size hl) rfl (fl_one _) ?_
  refine r_assign rfl rfl ?_
  refine r_nil ?_
  refine r_tn ?_
  refine r_ret ?_
  refine r_br ?_
  refine r_tr ?_
  exact r_done2 (.inl rfl) rfl (res_cellV rfl rfl rfl (fl_size hl)) (res_tmp rfl) fun w hw => ⟨rfl, hw.clear⟩
end Go.Proofs.Ytddoohbgiieiiaa
