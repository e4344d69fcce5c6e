/-
  AluLogic: or, and, exclusive or of two bytes.
-/
import Derived.Test.YtddoohbgiieiiaaAw18
namespace Go.Proofs.Ytddoohbgiieiiaa
open Go Go.RowKit
set_option linter.unusedVariables false
set_option linter.unusedSimpArgs false
set_option maxHeartbeats 2000000

theorem or_and_add (x : Nat) : ∀ y, (x ||| y) + (x &&& y) = x + y ∧ (x ^^^ y) + (x &&& y) = (x ||| y) := by
  induction x using Nat.strongRecOn with
  | _ x ih =>
    intro y
    by_cases h0 : x = 0
    · subst h0; simp
    · obtain ⟨h1, h2⟩ := ih (x / 2) (by omega) (y / 2)
      have a1 := Nat.or_div_two (a := x) (b := y)
      have a2 := Nat.and_div_two (a := x) (b := y)
      have a3 := Nat.xor_div_two (a := x) (b := y)
      have b1 := Nat.or_mod_two_eq_one (a := x) (b := y)
      have b2 := Nat.and_mod_two_eq_one (a := x) (b := y)
      have b3 := Nat.xor_mod_two_eq_one (a := x) (b := y)
      omega
theorem logic_do (x y f : Int) (hx : 0 ≤ x ∧ x ≤ 255) (hy : 0 ≤ y ∧ y ≤ 255) (hf : 0 ≤ f ∧ f ≤ 255) (op res : Int) (lv : Int) (a b c r d e g : Bool) (hres : 0 ≤ res ∧ res ≤ 255) (h : outM op x y 0 (if a then y else x) r = some (res, logF r)) (w : World) :
    Calls Try.prog 10 #[.agg (fl [0, 0, x, 0, 0, 0, 0, 0, 0, y, 0, 0, 0, 0, 0, f]), .agg (ins op 2 9 0 0 0 0), .agg (pro lv a b c r d e g)] w fun e w' => e = .returned (.tuple #[.agg (fl [0, 0, res, 0, 0, 0, 0, 0, 0, y, 0, 0, 0, 0, 0, if r then 0 else f]), .bool true]) ∧ Sat w [] [] w' := by
  have h1 := do18 [0, 0, x, 0, 0, 0, 0, 0, 0, y, 0, 0, 0, 0, 0, f] op 2 9 0 0 0 0 lv a b c r d e g rfl (getD_rng (by simp [hx.1, hx.2, hy.1, hy.2, hf.1, hf.2])) (by decide) (by decide) (by decide) (res := res) (flg := logF r) h w
  have h2 : doL [0, 0, x, 0, 0, 0, 0, 0, 0, y, 0, 0, 0, 0, 0, f] 2 res (logF r) = [0, 0, res, 0, 0, 0, 0, 0, 0, y, 0, 0, 0, 0, 0, if r then 0 else f] := by
    have hw : IntKind.u8.wrap res = res := IntWalk.u8_in res hres
    cases r
    · unfold doL; rw [hw]; rfl
    · unfold doL; rw [hw]; rfl
  rwa [h2] at h1
theorem nat_byte (x y : Int) (hx : 0 ≤ x ∧ x ≤ 255) (hy : 0 ≤ y ∧ y ≤ 255) : x.toNat ||| y.toNat < 256 ∧ x.toNat &&& y.toNat < 256 ∧ x.toNat ^^^ y.toNat < 256 :=
  ⟨Nat.or_lt_two_pow (n := 8) (by omega) (by omega), Nat.and_lt_two_pow (n := 8) _ (by omega), Nat.xor_lt_two_pow (n := 8) (by omega) (by omega)⟩


theorem AluLogic_walk (x y f lv : Int) (a b c r d e g : Bool) (W : World) (wx : (Lit.int .u8 x).wf = true) (wy : (Lit.int .u8 y).wf = true) (wf : (Lit.int .u8 f).wf = true) (_ : (Lit.int .i64 lv).wf = true) :
    Calls Try.prog 7 #[.int .u8 x, .int .u8 y, .int .u8 f, .agg (pro lv a b c r d e g)] W fun e w' => e = .returned (.bool true) ∧ Sat W [] [] w' := by
  have hx := wf8 wx
  have hy := wf8 wy
  have hf := wf8 wf
  have hnb := nat_byte x y hx hy
  have hoa := or_and_add x.toNat y.toNat
  refine enter Try.func7 rfl rfl rfl ?_
  refine r_seq ?_
  refine r_region ?_
  refine r_boxV rfl rfl fun b7 => ?_
  refine r_assign rfl rfl ?_
  refine r_nil ?_
  refine r_tn ?_
  refine r_seq ?_
  refine r_seq ?_
  refine r_region ?_
  refine r_call rfl rfl rfl (by kernel_rfl) rfl (fun w hw => by exact awake18 w) ?_
  refine r_not rfl rfl rfl ?_
  refine r_nil ?_
  refine r_tn ?_
  refine r_cond_f rfl ?_
  refine r_skip ?_
  refine r_tn ?_
  refine r_seq ?_
  refine r_region ?_
  refine r_move rfl rfl ?_
  refine r_move rfl rfl ?_
  refine r_move rfl rfl ?_
  refine r_build (cells := fl [0, 0, x, 0, 0, 0, 0, 0, 0, y, 0, 0, 0, 0, 0, f]) rfl rfl (by kernel_rfl) ?_
  refine r_allocV (cs := fl (List.replicate 16 0)) rfl rfl fun b9 => ?_
  refine r_storeV rfl rfl rfl rfl rfl (fl_one _) ?_
  refine r_nil ?_
  refine r_tn ?_
  refine r_seq ?_
  refine r_region ?_
  refine r_loadV rfl rfl rfl rfl rfl ?_
  refine r_build (cells := ins 11 2 9 0 0 0 0) rfl rfl (by kernel_rfl) ?_
  refine r_loadV rfl rfl rfl rfl rfl ?_
  refine r_call (v := .tuple #[.agg (fl [0, 0, ((x.toNat ||| y.toNat : Nat) : Int), 0, 0, 0, 0, 0, 0, y, 0, 0, 0, 0, 0, if r then 0 else f]), .bool true]) rfl rfl rfl (by kernel_rfl) rfl (fun w hw => by exact logic_do x y f hx hy hf 11 ((x.toNat ||| y.toNat : Nat) : Int) lv a b c r d e g (by have := nat_byte x y hx hy; omega) rfl w) ?_
  refine r_move rfl rfl ?_
  refine r_extract rfl rfl rfl ?_
  refine r_extract rfl rfl rfl ?_
  refine r_allocV (cs := fl (List.replicate 16 0)) rfl rfl fun b10 => ?_
  refine r_storeV rfl rfl rfl rfl rfl (fl_one _) ?_
  refine r_assign rfl rfl ?_
  refine r_nil ?_
  refine r_tn ?_
  refine r_seq ?_
  refine r_region ?_
  refine r_loadV rfl rfl rfl rfl rfl ?_
  refine r_build (cells := ins 12 2 9 0 0 0 0) rfl rfl (by kernel_rfl) ?_
  refine r_loadV rfl rfl rfl rfl rfl ?_
  refine r_call (v := .tuple #[.agg (fl [0, 0, ((x.toNat &&& y.toNat : Nat) : Int), 0, 0, 0, 0, 0, 0, y, 0, 0, 0, 0, 0, if r then 0 else f]), .bool true]) rfl rfl rfl (by kernel_rfl) rfl (fun w hw => by exact logic_do x y f hx hy hf 12 ((x.toNat &&& y.toNat : Nat) : Int) lv a b c r d e g (by have := nat_byte x y hx hy; omega) rfl w) ?_
  refine r_move rfl rfl ?_
  refine r_extract rfl rfl rfl ?_
  refine r_extract rfl rfl rfl ?_
  refine r_allocV (cs := fl (List.replicate 16 0)) rfl rfl fun b12 => ?_
  refine r_storeV rfl rfl rfl rfl rfl (fl_one _) ?_
  refine r_assign rfl rfl ?_
  refine r_nil ?_
  refine r_tn ?_
  refine r_seq ?_
  refine r_region ?_
  refine r_loadV rfl rfl rfl rfl rfl ?_
  refine r_build (cells := ins 13 2 9 0 0 0 0) rfl rfl (by kernel_rfl) ?_
  refine r_loadV rfl rfl rfl rfl rfl ?_
  refine r_call (v := .tuple #[.agg (fl [0, 0, ((x.toNat ^^^ y.toNat : Nat) : Int), 0, 0, 0, 0, 0, 0, y, 0, 0, 0, 0, 0, if r then 0 else f]), .bool true]) rfl rfl rfl (by kernel_rfl) rfl (fun w hw => by exact logic_do x y f hx hy hf 13 ((x.toNat ^^^ y.toNat : Nat) : Int) lv a b c r d e g (by have := nat_byte x y hx hy; omega) rfl w) ?_
  refine r_move rfl rfl ?_
  refine r_extract rfl rfl rfl ?_
  refine r_extract rfl rfl rfl ?_
  refine r_allocV (cs := fl (List.replicate 16 0)) rfl rfl fun b14 => ?_
  refine r_storeV rfl rfl rfl rfl rfl (fl_one _) ?_
  refine r_assign rfl rfl ?_
  refine r_nil ?_
  refine r_tn ?_
  refine r_seq ?_
  refine r_region ?_
  refine r_move rfl rfl ?_
  refine r_assign rfl rfl ?_
  refine r_nil ?_
  refine r_tn ?_
  refine r_seq ?_
  refine r_seq ?_
  refine r_region ?_
  refine r_fieldAddr (off := 4) (o' := 4) rfl rfl rfl rfl ?_
  refine r_load1 rfl rfl rfl (by rfl) ?_
  refine r_nil ?_
  refine r_tn ?_
  refine r_cond rfl (fun hc => ?_) (fun hc => ?_)
  · refine r_region ?_
    refine r_assign rfl rfl ?_
    refine r_nil ?_
    refine r_tn ?_
    refine r_seq ?_
    refine r_region ?_
    subst hc
    refine r_indexArr (sz := 1) rfl rfl rfl rfl rfl (by decide) (by decide) (show _ = 2 by simp) ?_
    refine r_load1 rfl rfl rfl (by rfl) ?_
    refine r_convert rfl rfl rfl rfl (w64 (by omega)) ?_
    refine r_indexArr (sz := 1) rfl rfl rfl rfl rfl (by decide) (by decide) (show _ = 2 by simp) ?_
    refine r_load1 rfl rfl rfl (by rfl) ?_
    refine r_convert rfl rfl rfl rfl (w64 (by omega)) ?_
    refine r_add rfl rfl rfl (w64 (by omega)) ?_
    refine r_move rfl rfl ?_
    refine r_convert rfl rfl rfl rfl (w64 (by omega)) ?_
    refine r_move rfl rfl ?_
    refine r_convert rfl rfl rfl rfl (w64 (by omega)) ?_
    refine r_add rfl rfl rfl (w64 (by omega)) ?_
    refine r_eql rfl rfl rfl (decide_eq_true (by omega)) ?_
    refine r_move rfl rfl ?_
    refine r_go rfl rfl ?_
    refine r_indexArr (sz := 1) rfl rfl rfl rfl rfl (by decide) (by decide) (show _ = 2 by simp) ?_
    refine r_go rfl rfl ?_
    refine r_load1 rfl rfl rfl (by rfl) ?_
    refine r_go rfl rfl ?_
    refine r_convert rfl rfl rfl rfl (w64 (by omega)) ?_
    refine r_go rfl rfl ?_
    refine r_indexArr (sz := 1) rfl rfl rfl rfl rfl (by decide) (by decide) (show _ = 2 by simp) ?_
    refine r_go rfl rfl ?_
    refine r_load1 rfl rfl rfl (by rfl) ?_
    refine r_go rfl rfl ?_
    refine r_convert rfl rfl rfl rfl (w64 (by omega)) ?_
    refine r_go rfl rfl ?_
    refine r_indexArr (sz := 1) rfl rfl rfl rfl rfl (by decide) (by decide) (show _ = 2 by simp) ?_
    refine r_go rfl rfl ?_
    refine r_load1 rfl rfl rfl (by rfl) ?_
    refine r_go rfl rfl ?_
    refine r_convert rfl rfl rfl rfl (w64 (by omega)) ?_
    refine r_go rfl rfl ?_
    refine r_sub rfl rfl rfl (w64 (by omega)) ?_
    refine r_go rfl rfl ?_
    refine r_eql rfl rfl rfl (decide_eq_true (by omega)) ?_
    refine r_pick_t rfl rfl rfl ?_
    refine r_move rfl rfl ?_
    refine r_go rfl rfl ?_
    refine r_indexArr (sz := 1) rfl rfl rfl rfl rfl (by decide) (by decide) (show _ = 15 by simp) ?_
    refine r_go rfl rfl ?_
    refine r_load1 rfl rfl rfl (by rfl) ?_
    refine r_go rfl rfl ?_
    refine r_move rfl rfl ?_
    refine r_go rfl rfl ?_
    refine r_eql rfl rfl rfl (decide_eq_true (by simp)) ?_
    refine r_pick_t rfl rfl rfl ?_
    refine r_move rfl rfl ?_
    refine r_go rfl rfl ?_
    refine r_indexArr (sz := 1) rfl rfl rfl rfl rfl (by decide) (by decide) (show _ = 15 by simp) ?_
    refine r_go rfl rfl ?_
    refine r_load1 rfl rfl rfl (by rfl) ?_
    refine r_go rfl rfl ?_
    refine r_move rfl rfl ?_
    refine r_go rfl rfl ?_
    refine r_eql rfl rfl rfl (decide_eq_true (by simp)) ?_
    refine r_pick_t rfl rfl rfl ?_
    refine r_move rfl rfl ?_
    refine r_go rfl rfl ?_
    refine r_indexArr (sz := 1) rfl rfl rfl rfl rfl (by decide) (by decide) (show _ = 15 by simp) ?_
    refine r_go rfl rfl ?_
    refine r_load1 rfl rfl rfl (by rfl) ?_
    refine r_go rfl rfl ?_
    refine r_move rfl rfl ?_
    refine r_go rfl rfl ?_
    refine r_eql rfl rfl rfl (decide_eq_true (by simp)) ?_
    refine r_pick_t rfl rfl rfl ?_
    refine r_assign rfl rfl ?_
    refine r_nil ?_
    refine r_tn ?_
    refine r_ret ?_
    exact r_done1 (.inl rfl) rfl (res_tmp rfl) fun w hw => ⟨rfl, hw.clear⟩
  · refine r_skip ?_
    refine r_tn ?_
    refine r_seq ?_
    refine r_region ?_
    subst hc
    refine r_indexArr (sz := 1) rfl rfl rfl rfl rfl (by decide) (by decide) (show _ = 2 by simp) ?_
    refine r_load1 rfl rfl rfl (by rfl) ?_
    refine r_convert rfl rfl rfl rfl (w64 (by omega)) ?_
    refine r_indexArr (sz := 1) rfl rfl rfl rfl rfl (by decide) (by decide) (show _ = 2 by simp) ?_
    refine r_load1 rfl rfl rfl (by rfl) ?_
    refine r_convert rfl rfl rfl rfl (w64 (by omega)) ?_
    refine r_add rfl rfl rfl (w64 (by omega)) ?_
    refine r_move rfl rfl ?_
    refine r_convert rfl rfl rfl rfl (w64 (by omega)) ?_
    refine r_move rfl rfl ?_
    refine r_convert rfl rfl rfl rfl (w64 (by omega)) ?_
    refine r_add rfl rfl rfl (w64 (by omega)) ?_
    refine r_eql rfl rfl rfl (decide_eq_true (by omega)) ?_
    refine r_move rfl rfl ?_
    refine r_go rfl rfl ?_
    refine r_indexArr (sz := 1) rfl rfl rfl rfl rfl (by decide) (by decide) (show _ = 2 by simp) ?_
    refine r_go rfl rfl ?_
    refine r_load1 rfl rfl rfl (by rfl) ?_
    refine r_go rfl rfl ?_
    refine r_convert rfl rfl rfl rfl (w64 (by omega)) ?_
    refine r_go rfl rfl ?_
    refine r_indexArr (sz := 1) rfl rfl rfl rfl rfl (by decide) (by decide) (show _ = 2 by simp) ?_
    refine r_go rfl rfl ?_
    refine r_load1 rfl rfl rfl (by rfl) ?_
    refine r_go rfl rfl ?_
    refine r_convert rfl rfl rfl rfl (w64 (by omega)) ?_
    refine r_go rfl rfl ?_
    refine r_indexArr (sz := 1) rfl rfl rfl rfl rfl (by decide) (by decide) (show _ = 2 by simp) ?_
    refine r_go rfl rfl ?_
    refine r_load1 rfl rfl rfl (by rfl) ?_
    refine r_go rfl rfl ?_
    refine r_convert rfl rfl rfl rfl (w64 (by omega)) ?_
    refine r_go rfl rfl ?_
    refine r_sub rfl rfl rfl (w64 (by omega)) ?_
    refine r_go rfl rfl ?_
    refine r_eql rfl rfl rfl (decide_eq_true (by omega)) ?_
    refine r_pick_t rfl rfl rfl ?_
    refine r_move rfl rfl ?_
    refine r_go rfl rfl ?_
    refine r_indexArr (sz := 1) rfl rfl rfl rfl rfl (by decide) (by decide) (show _ = 15 by simp) ?_
    refine r_go rfl rfl ?_
    refine r_load1 rfl rfl rfl (by rfl) ?_
    refine r_go rfl rfl ?_
    refine r_move rfl rfl ?_
    refine r_go rfl rfl ?_
    refine r_eql rfl rfl rfl (decide_eq_true (by simp)) ?_
    refine r_pick_t rfl rfl rfl ?_
    refine r_move rfl rfl ?_
    refine r_go rfl rfl ?_
    refine r_indexArr (sz := 1) rfl rfl rfl rfl rfl (by decide) (by decide) (show _ = 15 by simp) ?_
    refine r_go rfl rfl ?_
    refine r_load1 rfl rfl rfl (by rfl) ?_
    refine r_go rfl rfl ?_
    refine r_move rfl rfl ?_
    refine r_go rfl rfl ?_
    refine r_eql rfl rfl rfl (decide_eq_true (by simp)) ?_
    refine r_pick_t rfl rfl rfl ?_
    refine r_move rfl rfl ?_
    refine r_go rfl rfl ?_
    refine r_indexArr (sz := 1) rfl rfl rfl rfl rfl (by decide) (by decide) (show _ = 15 by simp) ?_
    refine r_go rfl rfl ?_
    refine r_load1 rfl rfl rfl (by rfl) ?_
    refine r_go rfl rfl ?_
    refine r_move rfl rfl ?_
    refine r_go rfl rfl ?_
    refine r_eql rfl rfl rfl (decide_eq_true (by simp)) ?_
    refine r_pick_t rfl rfl rfl ?_
    refine r_assign rfl rfl ?_
    refine r_nil ?_
    refine r_tn ?_
    refine r_ret ?_
    exact r_done1 (.inl rfl) rfl (res_tmp rfl) fun w hw => ⟨rfl, hw.clear⟩
end Go.Proofs.Ytddoohbgiieiiaa
