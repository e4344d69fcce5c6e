/-
  AluFlags: what the flag says of sums, differences and shifts.
-/
import Derived.Test.YtddoohbgiieiiaaAw18
namespace Go.Proofs.Ytddoohbgiieiiaa
open Go Go.RowKit
set_option linter.unusedVariables false
set_option linter.unusedSimpArgs false
set_option maxHeartbeats 2000000

theorem u8_mod (z : Int) : ∃ q, IntKind.u8.wrap z = z - 256 * q ∧ 0 ≤ z - 256 * q ∧ z - 256 * q ≤ 255 := by
  refine ⟨z / 256, ?_, by omega, by omega⟩
  have h : IntKind.u8.wrap z = z % 256 := by rfl
  rw [h]; omega
theorem flag_of (p : Prop) [Decidable p] : ∃ f : Int, (if decide p = true then (1 : Int) else 0) = f ∧ ((p ∧ f = 1) ∨ (¬ p ∧ f = 0)) := by
  by_cases h : p
  · exact ⟨1, by simp [h], .inl ⟨h, rfl⟩⟩
  · exact ⟨0, by simp [h], .inr ⟨h, rfl⟩⟩
theorem flags_do (x y : Int) (hx : 0 ≤ x ∧ x ≤ 255) (hy : 0 ≤ y ∧ y ≤ 255) (op res : Int) (fb : Bool) (lv : Int) (a b c r d e g : Bool) (s : Int) (hs : (if a then y else x) = s) (h : outM op x y 0 s r = some (res, if fb then 1 else 0)) (w : World) :
    Calls Try.prog 10 #[.agg (fl [0, 0, 0, 0, x, 0, 0, y, 0, 0, 0, 0, 0, 0, 0, 0]), .agg (ins op 4 7 0 0 0 0), .agg (pro lv a b c r d e g)] w fun e w' => e = .returned (.tuple #[.agg (fl [0, 0, 0, 0, (IntKind.u8.wrap res), 0, 0, y, 0, 0, 0, 0, 0, 0, 0, (if fb then 1 else 0)]), .bool true]) ∧ Sat w [] [] w' := by
  subst hs
  have h1 := do18 [0, 0, 0, 0, x, 0, 0, y, 0, 0, 0, 0, 0, 0, 0, 0] op 4 7 0 0 0 0 lv a b c r d e g rfl (getD_rng (by simp [hx.1, hx.2, hy.1, hy.2])) (by decide) (by decide) (by decide) (res := res) (flg := if fb then 1 else 0) h w
  have h2 : doL [0, 0, 0, 0, x, 0, 0, y, 0, 0, 0, 0, 0, 0, 0, 0] 4 res (if fb then 1 else 0) = [0, 0, 0, 0, (IntKind.u8.wrap res), 0, 0, y, 0, 0, 0, 0, 0, 0, 0, (if fb then 1 else 0)] := by
    cases fb <;> rfl
  rwa [h2] at h1


theorem AluFlags_walk (x y lv : Int) (a b c r d e g : Bool) (W : World) (wx : (Lit.int .u8 x).wf = true) (wy : (Lit.int .u8 y).wf = true) (_ : (Lit.int .i64 lv).wf = true) :
    Calls Try.prog 4 #[.int .u8 x, .int .u8 y, .agg (pro lv a b c r d e g)] W fun e w' => e = .returned (.bool true) ∧ Sat W [] [] w' := by
  have hx := wf8 wx
  have hy := wf8 wy
  obtain ⟨s, hs⟩ : ∃ s, (if a then y else x) = s := ⟨_, rfl⟩
  have hs255 : 0 ≤ s ∧ s ≤ 255 := by rw [← hs]; split <;> omega
  refine enter Try.func4 rfl rfl rfl ?_
  refine r_seq ?_
  refine r_region ?_
  refine r_boxV rfl rfl fun b5 => ?_
  refine r_assign rfl rfl ?_
  refine r_nil ?_
  refine r_tn ?_
  refine r_seq ?_
  refine r_seq ?_
  refine r_region ?_
  refine r_call rfl rfl rfl (by kernel_rfl) rfl (fun w hw => by exact awake18 w) ?_
  refine r_not rfl rfl rfl ?_
  refine r_nil ?_
  refine r_tn ?_
  refine r_cond_f rfl ?_
  refine r_skip ?_
  refine r_tn ?_
  refine r_seq ?_
  refine r_region ?_
  refine r_move rfl rfl ?_
  refine r_move rfl rfl ?_
  refine r_build (cells := fl [0, 0, 0, 0, x, 0, 0, y, 0, 0, 0, 0, 0, 0, 0, 0]) rfl rfl (by kernel_rfl) ?_
  refine r_allocV (cs := fl (List.replicate 16 0)) rfl rfl fun b7 => ?_
  refine r_storeV rfl rfl rfl rfl rfl (fl_one _) ?_
  refine r_nil ?_
  refine r_tn ?_
  refine r_seq ?_
  refine r_region ?_
  refine r_loadV rfl rfl rfl rfl rfl ?_
  refine r_build (cells := ins 14 4 7 0 0 0 0) rfl rfl (by kernel_rfl) ?_
  refine r_loadV rfl rfl rfl rfl rfl ?_
  refine r_call (v := .tuple #[.agg (fl [0, 0, 0, 0, (IntKind.u8.wrap (x + y)), 0, 0, y, 0, 0, 0, 0, 0, 0, 0, (if decide (255 < x + y) then 1 else 0)]), .bool true]) rfl rfl rfl (by kernel_rfl) rfl (fun w hw => by exact flags_do x y hx hy 14 (x + y) (decide (255 < x + y)) lv a b c r d e g s hs rfl w) ?_
  refine r_move rfl rfl ?_
  refine r_extract rfl rfl rfl ?_
  refine r_extract rfl rfl rfl ?_
  refine r_allocV (cs := fl (List.replicate 16 0)) rfl rfl fun b8 => ?_
  refine r_storeV rfl rfl rfl rfl rfl (fl_one _) ?_
  refine r_assign rfl rfl ?_
  refine r_nil ?_
  refine r_tn ?_
  refine r_seq ?_
  refine r_region ?_
  refine r_loadV rfl rfl rfl rfl rfl ?_
  refine r_build (cells := ins 15 4 7 0 0 0 0) rfl rfl (by kernel_rfl) ?_
  refine r_loadV rfl rfl rfl rfl rfl ?_
  refine r_call (v := .tuple #[.agg (fl [0, 0, 0, 0, (IntKind.u8.wrap (x - y)), 0, 0, y, 0, 0, 0, 0, 0, 0, 0, (if decide (y ≤ x) then 1 else 0)]), .bool true]) rfl rfl rfl (by kernel_rfl) rfl (fun w hw => by exact flags_do x y hx hy 15 (x - y) (decide (y ≤ x)) lv a b c r d e g s hs rfl w) ?_
  refine r_move rfl rfl ?_
  refine r_extract rfl rfl rfl ?_
  refine r_extract rfl rfl rfl ?_
  refine r_allocV (cs := fl (List.replicate 16 0)) rfl rfl fun b10 => ?_
  refine r_storeV rfl rfl rfl rfl rfl (fl_one _) ?_
  refine r_assign rfl rfl ?_
  refine r_nil ?_
  refine r_tn ?_
  refine r_seq ?_
  refine r_region ?_
  refine r_loadV rfl rfl rfl rfl rfl ?_
  refine r_build (cells := ins 17 4 7 0 0 0 0) rfl rfl (by kernel_rfl) ?_
  refine r_loadV rfl rfl rfl rfl rfl ?_
  refine r_call (v := .tuple #[.agg (fl [0, 0, 0, 0, (IntKind.u8.wrap (y - x)), 0, 0, y, 0, 0, 0, 0, 0, 0, 0, (if decide (x ≤ y) then 1 else 0)]), .bool true]) rfl rfl rfl (by kernel_rfl) rfl (fun w hw => by exact flags_do x y hx hy 17 (y - x) (decide (x ≤ y)) lv a b c r d e g s hs rfl w) ?_
  refine r_move rfl rfl ?_
  refine r_extract rfl rfl rfl ?_
  refine r_extract rfl rfl rfl ?_
  refine r_allocV (cs := fl (List.replicate 16 0)) rfl rfl fun b12 => ?_
  refine r_storeV rfl rfl rfl rfl rfl (fl_one _) ?_
  refine r_assign rfl rfl ?_
  refine r_nil ?_
  refine r_tn ?_
  refine r_seq ?_
  refine r_region ?_
  refine r_loadV rfl rfl rfl rfl rfl ?_
  refine r_build (cells := ins 16 4 7 0 0 0 0) rfl rfl (by kernel_rfl) ?_
  refine r_loadV rfl rfl rfl rfl rfl ?_
  refine r_call (v := .tuple #[.agg (fl [0, 0, 0, 0, (IntKind.u8.wrap (s / 2)), 0, 0, y, 0, 0, 0, 0, 0, 0, 0, (if decide (s % 2 = 1) then 1 else 0)]), .bool true]) rfl rfl rfl (by kernel_rfl) rfl (fun w hw => by exact flags_do x y hx hy 16 (s / 2) (decide (s % 2 = 1)) lv a b c r d e g s hs rfl w) ?_
  refine r_move rfl rfl ?_
  refine r_extract rfl rfl rfl ?_
  refine r_extract rfl rfl rfl ?_
  refine r_allocV (cs := fl (List.replicate 16 0)) rfl rfl fun b14 => ?_
  refine r_storeV rfl rfl rfl rfl rfl (fl_one _) ?_
  refine r_assign rfl rfl ?_
  refine r_nil ?_
  refine r_tn ?_
  refine r_seq ?_
  refine r_region ?_
  refine r_loadV rfl rfl rfl rfl rfl ?_
  refine r_build (cells := ins 18 4 7 0 0 0 0) rfl rfl (by kernel_rfl) ?_
  refine r_loadV rfl rfl rfl rfl rfl ?_
  refine r_call (v := .tuple #[.agg (fl [0, 0, 0, 0, (IntKind.u8.wrap (2 * s)), 0, 0, y, 0, 0, 0, 0, 0, 0, 0, (if decide (128 ≤ s) then 1 else 0)]), .bool true]) rfl rfl rfl (by kernel_rfl) rfl (fun w hw => by exact flags_do x y hx hy 18 (2 * s) (decide (128 ≤ s)) lv a b c r d e g s hs rfl w) ?_
  refine r_move rfl rfl ?_
  refine r_extract rfl rfl rfl ?_
  refine r_extract rfl rfl rfl ?_
  refine r_allocV (cs := fl (List.replicate 16 0)) rfl rfl fun b16 => ?_
  refine r_storeV rfl rfl rfl rfl rfl (fl_one _) ?_
  refine r_assign rfl rfl ?_
  refine r_nil ?_
  refine r_tn ?_
  refine r_seq ?_
  refine r_region ?_
  refine r_move rfl rfl ?_
  refine r_convert rfl rfl rfl rfl (w64 (by omega)) ?_
  refine r_assign rfl rfl ?_
  refine r_nil ?_
  refine r_tn ?_
  refine r_seq ?_
  refine r_seq ?_
  refine r_region ?_
  refine r_fieldAddr (off := 1) (o' := 1) rfl rfl rfl rfl ?_
  refine r_load1 rfl rfl rfl (by rfl) ?_
  refine r_nil ?_
  refine r_tn ?_
  obtain ⟨q0, e0, r0⟩ := u8_mod (x + y)
  obtain ⟨f0, g0, k0⟩ := flag_of ((255 < x + y))
  rw [e0, g0]
  obtain ⟨q1, e1, r1⟩ := u8_mod (x - y)
  obtain ⟨f1, g1, k1⟩ := flag_of ((y ≤ x))
  rw [e1, g1]
  obtain ⟨q2, e2, r2⟩ := u8_mod (y - x)
  obtain ⟨f2, g2, k2⟩ := flag_of ((x ≤ y))
  rw [e2, g2]
  obtain ⟨q3, e3, r3⟩ := u8_mod (s / 2)
  obtain ⟨f3, g3, k3⟩ := flag_of ((s % 2 = 1))
  rw [e3, g3]
  obtain ⟨q4, e4, r4⟩ := u8_mod (2 * s)
  obtain ⟨f4, g4, k4⟩ := flag_of ((128 ≤ s))
  rw [e4, g4]
  refine r_cond rfl (fun hc => ?_) (fun hc => ?_)
  · refine r_region ?_
    have hsx : s = y := by rw [← hs, hc]; rfl
    refine r_move rfl rfl ?_
    refine r_convert rfl rfl rfl rfl (w64 (by omega)) ?_
    refine r_assign rfl rfl ?_
    refine r_nil ?_
    refine r_tn ?_
    refine r_seq ?_
    refine r_region ?_
    have hsx2 : (a = true ∧ s = y) ∨ (a = false ∧ s = x) := by cases a <;> simp_all
    refine r_indexArr (sz := 1) rfl rfl rfl rfl rfl (by decide) (by decide) (show _ = 4 by simp) ?_
    refine r_load1 rfl rfl rfl (by rfl) ?_
    refine r_convert rfl rfl rfl rfl (w64 (by omega)) ?_
    refine r_indexArr (sz := 1) rfl rfl rfl rfl rfl (by decide) (by decide) (show _ = 15 by simp) ?_
    refine r_load1 rfl rfl rfl (by rfl) ?_
    refine r_convert rfl rfl rfl rfl (w64 (by omega)) ?_
    refine r_mul rfl rfl rfl (w64 (by omega)) ?_
    refine r_add rfl rfl rfl (w64 (by omega)) ?_
    refine r_move rfl rfl ?_
    refine r_convert rfl rfl rfl rfl (w64 (by omega)) ?_
    refine r_move rfl rfl ?_
    refine r_convert rfl rfl rfl rfl (w64 (by omega)) ?_
    refine r_add rfl rfl rfl (w64 (by omega)) ?_
    refine r_eql rfl rfl rfl (decide_eq_true (by omega)) ?_
    refine r_move rfl rfl ?_
    refine r_go rfl rfl ?_
    refine r_indexArr (sz := 1) rfl rfl rfl rfl rfl (by decide) (by decide) (show _ = 4 by simp) ?_
    refine r_go rfl rfl ?_
    refine r_load1 rfl rfl rfl (by rfl) ?_
    refine r_go rfl rfl ?_
    refine r_convert rfl rfl rfl rfl (w64 (by omega)) ?_
    refine r_go rfl rfl ?_
    refine r_indexArr (sz := 1) rfl rfl rfl rfl rfl (by decide) (by decide) (show _ = 15 by simp) ?_
    refine r_go rfl rfl ?_
    refine r_load1 rfl rfl rfl (by rfl) ?_
    refine r_go rfl rfl ?_
    refine r_convert rfl rfl rfl rfl (w64 (by omega)) ?_
    refine r_go rfl rfl ?_
    refine r_sub rfl rfl rfl (w64 (by omega)) ?_
    refine r_go rfl rfl ?_
    refine r_mul rfl rfl rfl (w64 (by omega)) ?_
    refine r_go rfl rfl ?_
    refine r_sub rfl rfl rfl (w64 (by omega)) ?_
    refine r_go rfl rfl ?_
    refine r_move rfl rfl ?_
    refine r_go rfl rfl ?_
    refine r_convert rfl rfl rfl rfl (w64 (by omega)) ?_
    refine r_go rfl rfl ?_
    refine r_move rfl rfl ?_
    refine r_go rfl rfl ?_
    refine r_convert rfl rfl rfl rfl (w64 (by omega)) ?_
    refine r_go rfl rfl ?_
    refine r_sub rfl rfl rfl (w64 (by omega)) ?_
    refine r_go rfl rfl ?_
    refine r_eql rfl rfl rfl (decide_eq_true (by omega)) ?_
    refine r_pick_t rfl rfl rfl ?_
    refine r_move rfl rfl ?_
    refine r_go rfl rfl ?_
    refine r_indexArr (sz := 1) rfl rfl rfl rfl rfl (by decide) (by decide) (show _ = 4 by simp) ?_
    refine r_go rfl rfl ?_
    refine r_load1 rfl rfl rfl (by rfl) ?_
    refine r_go rfl rfl ?_
    refine r_convert rfl rfl rfl rfl (w64 (by omega)) ?_
    refine r_go rfl rfl ?_
    refine r_indexArr (sz := 1) rfl rfl rfl rfl rfl (by decide) (by decide) (show _ = 15 by simp) ?_
    refine r_go rfl rfl ?_
    refine r_load1 rfl rfl rfl (by rfl) ?_
    refine r_go rfl rfl ?_
    refine r_convert rfl rfl rfl rfl (w64 (by omega)) ?_
    refine r_go rfl rfl ?_
    refine r_sub rfl rfl rfl (w64 (by omega)) ?_
    refine r_go rfl rfl ?_
    refine r_mul rfl rfl rfl (w64 (by omega)) ?_
    refine r_go rfl rfl ?_
    refine r_sub rfl rfl rfl (w64 (by omega)) ?_
    refine r_go rfl rfl ?_
    refine r_move rfl rfl ?_
    refine r_go rfl rfl ?_
    refine r_convert rfl rfl rfl rfl (w64 (by omega)) ?_
    refine r_go rfl rfl ?_
    refine r_move rfl rfl ?_
    refine r_go rfl rfl ?_
    refine r_convert rfl rfl rfl rfl (w64 (by omega)) ?_
    refine r_go rfl rfl ?_
    refine r_sub rfl rfl rfl (w64 (by omega)) ?_
    refine r_go rfl rfl ?_
    refine r_eql rfl rfl rfl (decide_eq_true (by omega)) ?_
    refine r_pick_t rfl rfl rfl ?_
    refine r_move rfl rfl ?_
    refine r_go rfl rfl ?_
    refine r_indexArr (sz := 1) rfl rfl rfl rfl rfl (by decide) (by decide) (show _ = 4 by simp) ?_
    refine r_go rfl rfl ?_
    refine r_load1 rfl rfl rfl (by rfl) ?_
    refine r_go rfl rfl ?_
    refine r_convert rfl rfl rfl rfl (w64 (by omega)) ?_
    refine r_go rfl rfl ?_
    refine r_mul rfl rfl rfl (w64 (by omega)) ?_
    refine r_go rfl rfl ?_
    refine r_indexArr (sz := 1) rfl rfl rfl rfl rfl (by decide) (by decide) (show _ = 15 by simp) ?_
    refine r_go rfl rfl ?_
    refine r_load1 rfl rfl rfl (by rfl) ?_
    refine r_go rfl rfl ?_
    refine r_convert rfl rfl rfl rfl (w64 (by omega)) ?_
    refine r_go rfl rfl ?_
    refine r_add rfl rfl rfl (w64 (by omega)) ?_
    refine r_go rfl rfl ?_
    refine r_move rfl rfl ?_
    refine r_go rfl rfl ?_
    refine r_eql rfl rfl rfl (decide_eq_true (by rcases hsx2 with ⟨h1, h2⟩ | ⟨h1, h2⟩ <;> first | (rw [h1] at hc; cases hc; done) | omega)) ?_
    refine r_pick_t rfl rfl rfl ?_
    refine r_move rfl rfl ?_
    refine r_go rfl rfl ?_
    refine r_indexArr (sz := 1) rfl rfl rfl rfl rfl (by decide) (by decide) (show _ = 4 by simp) ?_
    refine r_go rfl rfl ?_
    refine r_load1 rfl rfl rfl (by rfl) ?_
    refine r_go rfl rfl ?_
    refine r_convert rfl rfl rfl rfl (w64 (by omega)) ?_
    refine r_go rfl rfl ?_
    refine r_indexArr (sz := 1) rfl rfl rfl rfl rfl (by decide) (by decide) (show _ = 15 by simp) ?_
    refine r_go rfl rfl ?_
    refine r_load1 rfl rfl rfl (by rfl) ?_
    refine r_go rfl rfl ?_
    refine r_convert rfl rfl rfl rfl (w64 (by omega)) ?_
    refine r_go rfl rfl ?_
    refine r_mul rfl rfl rfl (w64 (by omega)) ?_
    refine r_go rfl rfl ?_
    refine r_add rfl rfl rfl (w64 (by omega)) ?_
    refine r_go rfl rfl ?_
    refine r_move rfl rfl ?_
    refine r_go rfl rfl ?_
    refine r_mul rfl rfl rfl (w64 (by omega)) ?_
    refine r_go rfl rfl ?_
    refine r_eql rfl rfl rfl (decide_eq_true (by rcases hsx2 with ⟨h1, h2⟩ | ⟨h1, h2⟩ <;> first | (rw [h1] at hc; cases hc; done) | omega)) ?_
    refine r_pick_t rfl rfl rfl ?_
    refine r_assign rfl rfl ?_
    refine r_nil ?_
    refine r_tn ?_
    refine r_ret ?_
    exact r_done1 (.inl rfl) rfl (res_tmp rfl) fun w hw => ⟨rfl, hw.clear⟩
  · refine r_skip ?_
    refine r_tn ?_
    refine r_seq ?_
    refine r_region ?_
    have hsx2 : (a = true ∧ s = y) ∨ (a = false ∧ s = x) := by cases a <;> simp_all
    refine r_indexArr (sz := 1) rfl rfl rfl rfl rfl (by decide) (by decide) (show _ = 4 by simp) ?_
    refine r_load1 rfl rfl rfl (by rfl) ?_
    refine r_convert rfl rfl rfl rfl (w64 (by omega)) ?_
    refine r_indexArr (sz := 1) rfl rfl rfl rfl rfl (by decide) (by decide) (show _ = 15 by simp) ?_
    refine r_load1 rfl rfl rfl (by rfl) ?_
    refine r_convert rfl rfl rfl rfl (w64 (by omega)) ?_
    refine r_mul rfl rfl rfl (w64 (by omega)) ?_
    refine r_add rfl rfl rfl (w64 (by omega)) ?_
    refine r_move rfl rfl ?_
    refine r_convert rfl rfl rfl rfl (w64 (by omega)) ?_
    refine r_move rfl rfl ?_
    refine r_convert rfl rfl rfl rfl (w64 (by omega)) ?_
    refine r_add rfl rfl rfl (w64 (by omega)) ?_
    refine r_eql rfl rfl rfl (decide_eq_true (by omega)) ?_
    refine r_move rfl rfl ?_
    refine r_go rfl rfl ?_
    refine r_indexArr (sz := 1) rfl rfl rfl rfl rfl (by decide) (by decide) (show _ = 4 by simp) ?_
    refine r_go rfl rfl ?_
    refine r_load1 rfl rfl rfl (by rfl) ?_
    refine r_go rfl rfl ?_
    refine r_convert rfl rfl rfl rfl (w64 (by omega)) ?_
    refine r_go rfl rfl ?_
    refine r_indexArr (sz := 1) rfl rfl rfl rfl rfl (by decide) (by decide) (show _ = 15 by simp) ?_
    refine r_go rfl rfl ?_
    refine r_load1 rfl rfl rfl (by rfl) ?_
    refine r_go rfl rfl ?_
    refine r_convert rfl rfl rfl rfl (w64 (by omega)) ?_
    refine r_go rfl rfl ?_
    refine r_sub rfl rfl rfl (w64 (by omega)) ?_
    refine r_go rfl rfl ?_
    refine r_mul rfl rfl rfl (w64 (by omega)) ?_
    refine r_go rfl rfl ?_
    refine r_sub rfl rfl rfl (w64 (by omega)) ?_
    refine r_go rfl rfl ?_
    refine r_move rfl rfl ?_
    refine r_go rfl rfl ?_
    refine r_convert rfl rfl rfl rfl (w64 (by omega)) ?_
    refine r_go rfl rfl ?_
    refine r_move rfl rfl ?_
    refine r_go rfl rfl ?_
    refine r_convert rfl rfl rfl rfl (w64 (by omega)) ?_
    refine r_go rfl rfl ?_
    refine r_sub rfl rfl rfl (w64 (by omega)) ?_
    refine r_go rfl rfl ?_
    refine r_eql rfl rfl rfl (decide_eq_true (by omega)) ?_
    refine r_pick_t rfl rfl rfl ?_
    refine r_move rfl rfl ?_
    refine r_go rfl rfl ?_
    refine r_indexArr (sz := 1) rfl rfl rfl rfl rfl (by decide) (by decide) (show _ = 4 by simp) ?_
    refine r_go rfl rfl ?_
    refine r_load1 rfl rfl rfl (by rfl) ?_
    refine r_go rfl rfl ?_
    refine r_convert rfl rfl rfl rfl (w64 (by omega)) ?_
    refine r_go rfl rfl ?_
    refine r_indexArr (sz := 1) rfl rfl rfl rfl rfl (by decide) (by decide) (show _ = 15 by simp) ?_
    refine r_go rfl rfl ?_
    refine r_load1 rfl rfl rfl (by rfl) ?_
    refine r_go rfl rfl ?_
    refine r_convert rfl rfl rfl rfl (w64 (by omega)) ?_
    refine r_go rfl rfl ?_
    refine r_sub rfl rfl rfl (w64 (by omega)) ?_
    refine r_go rfl rfl ?_
    refine r_mul rfl rfl rfl (w64 (by omega)) ?_
    refine r_go rfl rfl ?_
    refine r_sub rfl rfl rfl (w64 (by omega)) ?_
    refine r_go rfl rfl ?_
    refine r_move rfl rfl ?_
    refine r_go rfl rfl ?_
    refine r_convert rfl rfl rfl rfl (w64 (by omega)) ?_
    refine r_go rfl rfl ?_
    refine r_move rfl rfl ?_
    refine r_go rfl rfl ?_
    refine r_convert rfl rfl rfl rfl (w64 (by omega)) ?_
    refine r_go rfl rfl ?_
    refine r_sub rfl rfl rfl (w64 (by omega)) ?_
    refine r_go rfl rfl ?_
    refine r_eql rfl rfl rfl (decide_eq_true (by omega)) ?_
    refine r_pick_t rfl rfl rfl ?_
    refine r_move rfl rfl ?_
    refine r_go rfl rfl ?_
    refine r_indexArr (sz := 1) rfl rfl rfl rfl rfl (by decide) (by decide) (show _ = 4 by simp) ?_
    refine r_go rfl rfl ?_
    refine r_load1 rfl rfl rfl (by rfl) ?_
    refine r_go rfl rfl ?_
    refine r_convert rfl rfl rfl rfl (w64 (by omega)) ?_
    refine r_go rfl rfl ?_
    refine r_mul rfl rfl rfl (w64 (by omega)) ?_
    refine r_go rfl rfl ?_
    refine r_indexArr (sz := 1) rfl rfl rfl rfl rfl (by decide) (by decide) (show _ = 15 by simp) ?_
    refine r_go rfl rfl ?_
    refine r_load1 rfl rfl rfl (by rfl) ?_
    refine r_go rfl rfl ?_
    refine r_convert rfl rfl rfl rfl (w64 (by omega)) ?_
    refine r_go rfl rfl ?_
    refine r_add rfl rfl rfl (w64 (by omega)) ?_
    refine r_go rfl rfl ?_
    refine r_move rfl rfl ?_
    refine r_go rfl rfl ?_
    refine r_eql rfl rfl rfl (decide_eq_true (by rcases hsx2 with ⟨h1, h2⟩ | ⟨h1, h2⟩ <;> first | (rw [h1] at hc; cases hc; done) | omega)) ?_
    refine r_pick_t rfl rfl rfl ?_
    refine r_move rfl rfl ?_
    refine r_go rfl rfl ?_
    refine r_indexArr (sz := 1) rfl rfl rfl rfl rfl (by decide) (by decide) (show _ = 4 by simp) ?_
    refine r_go rfl rfl ?_
    refine r_load1 rfl rfl rfl (by rfl) ?_
    refine r_go rfl rfl ?_
    refine r_convert rfl rfl rfl rfl (w64 (by omega)) ?_
    refine r_go rfl rfl ?_
    refine r_indexArr (sz := 1) rfl rfl rfl rfl rfl (by decide) (by decide) (show _ = 15 by simp) ?_
    refine r_go rfl rfl ?_
    refine r_load1 rfl rfl rfl (by rfl) ?_
    refine r_go rfl rfl ?_
    refine r_convert rfl rfl rfl rfl (w64 (by omega)) ?_
    refine r_go rfl rfl ?_
    refine r_mul rfl rfl rfl (w64 (by omega)) ?_
    refine r_go rfl rfl ?_
    refine r_add rfl rfl rfl (w64 (by omega)) ?_
    refine r_go rfl rfl ?_
    refine r_move rfl rfl ?_
    refine r_go rfl rfl ?_
    refine r_mul rfl rfl rfl (w64 (by omega)) ?_
    refine r_go rfl rfl ?_
    refine r_eql rfl rfl rfl (decide_eq_true (by rcases hsx2 with ⟨h1, h2⟩ | ⟨h1, h2⟩ <;> first | (rw [h1] at hc; cases hc; done) | omega)) ?_
    refine r_pick_t rfl rfl rfl ?_
    refine r_assign rfl rfl ?_
    refine r_nil ?_
    refine r_tn ?_
    refine r_ret ?_
    exact r_done1 (.inl rfl) rfl (res_tmp rfl) fun w hw => ⟨rfl, hw.clear⟩
end Go.Proofs.Ytddoohbgiieiiaa
