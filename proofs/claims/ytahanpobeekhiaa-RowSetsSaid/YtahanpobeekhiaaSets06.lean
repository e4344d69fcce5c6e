/-
  RowSets, for every row.
-/
import Derived.Test.YtahanpobeekhiaaAw06
namespace Go.Proofs.Ytahanpobeekhiaa
open Go Go.RowKit
set_option linter.unusedVariables false
set_option linter.unusedSimpArgs false
set_option maxHeartbeats 2000000

theorem sets_lo (p : Nat → Bool) (x : Int) (on : Bool) (W : World) (h0 : x < 0) :
    Calls Try.prog 4 #[.int .u64 ((hiN p : Nat) : Int), .int .u64 ((loN p : Nat) : Int), .int .i64 x, .bool on] W fun e w' => e = .returned (.bool true) ∧ Sat W [] [] w' := by
  refine enter Try.func4 rfl rfl rfl ?_
  refine r_seq ?_
  refine r_region ?_
  refine r_assign rfl rfl ?_
  refine r_nil ?_
  refine r_tn ?_
  refine r_seq ?_
  refine r_seq ?_
  refine r_region ?_
  refine r_call rfl rfl rfl (by kernel_rfl) rfl (fun w hw => by exact awake06 w) ?_
  refine r_not rfl rfl rfl ?_
  refine r_nil ?_
  refine r_tn ?_
  refine r_cond_f rfl ?_
  refine r_skip ?_
  refine r_tn ?_
  refine r_seq ?_
  refine r_region ?_
  refine r_move rfl rfl ?_
  refine r_move rfl rfl ?_
  refine r_build (cells := rowV p) rfl rfl (by kernel_rfl) ?_
  refine r_allocV (cs := #[.int .u64 0, .int .u64 0]) rfl rfl fun b9 => ?_
  refine r_storeV rfl rfl rfl rfl rfl rfl ?_
  refine r_nil ?_
  refine r_tn ?_
  refine r_seq ?_
  refine r_region ?_
  refine r_loadV rfl rfl rfl rfl rfl ?_
  refine r_move rfl rfl ?_
  refine r_move rfl rfl ?_
  refine r_call rfl rfl rfl (by kernel_rfl) rfl (fun w hw => by exact rowSet p x on w) ?_
  refine r_allocV (cs := #[.int .u64 0, .int .u64 0]) rfl rfl fun b10 => ?_
  refine r_storeV rfl rfl rfl rfl rfl rfl ?_
  refine r_nil ?_
  refine r_tn ?_
  refine r_seq ?_
  refine r_seq ?_
  refine r_region ?_
  refine r_move rfl rfl ?_
  refine r_lss rfl rfl rfl (decide_eq_true (by omega)) ?_
  refine r_move rfl rfl ?_
  refine r_pass rfl rfl rfl rfl ?_
  refine r_pass rfl rfl rfl rfl ?_
  refine r_pick_t rfl rfl rfl ?_
  refine r_nil ?_
  refine r_tn ?_
  refine r_cond_t rfl ?_
  refine r_seq ?_
  refine r_region ?_
  refine r_loadV rfl rfl rfl rfl rfl ?_
  refine r_loadV rfl rfl rfl rfl rfl ?_
  refine r_eqlAgg rfl rfl rfl rowFlat (rowV_ok _) (rowV_ok _) ((congrArg (fun c => cellsEq c.toList (rowV p).toList) (set_out (p := p) (x := x) (on := on) (by omega)).symm).trans (row_self p)) ?_
  refine r_move rfl rfl ?_
  refine r_go rfl rfl ?_
  refine r_loadV rfl rfl rfl rfl rfl ?_
  refine r_go rfl rfl ?_
  refine r_move rfl rfl ?_
  refine r_go rfl rfl ?_
  refine r_call (v := .bool false) rfl rfl rfl (by kernel_rfl) rfl (fun w hw => by have h := rowGet (setP p x on) x w; rw [show (getB (setP p x on) x) = false from by unfold getB; first | rw [decide_eq_false (show ¬ 0 ≤ x by omega)]; rfl | rw [decide_eq_false (show ¬ x < 128 by omega)]; simp] at h; exact h) ?_
  refine r_go rfl rfl ?_
  refine r_not rfl rfl rfl ?_
  refine r_pick_t rfl rfl rfl ?_
  refine r_assign rfl rfl ?_
  refine r_nil ?_
  refine r_tn ?_
  refine r_ret ?_
  refine r_tr ?_
  exact r_done1 (.inl rfl) rfl (res_tmp rfl) fun w hw => ⟨rfl, hw.clear⟩
theorem sets_hi (p : Nat → Bool) (x : Int) (on : Bool) (W : World) (h0 : 127 < x) :
    Calls Try.prog 4 #[.int .u64 ((hiN p : Nat) : Int), .int .u64 ((loN p : Nat) : Int), .int .i64 x, .bool on] W fun e w' => e = .returned (.bool true) ∧ Sat W [] [] w' := by
  refine enter Try.func4 rfl rfl rfl ?_
  refine r_seq ?_
  refine r_region ?_
  refine r_assign rfl rfl ?_
  refine r_nil ?_
  refine r_tn ?_
  refine r_seq ?_
  refine r_seq ?_
  refine r_region ?_
  refine r_call rfl rfl rfl (by kernel_rfl) rfl (fun w hw => by exact awake06 w) ?_
  refine r_not rfl rfl rfl ?_
  refine r_nil ?_
  refine r_tn ?_
  refine r_cond_f rfl ?_
  refine r_skip ?_
  refine r_tn ?_
  refine r_seq ?_
  refine r_region ?_
  refine r_move rfl rfl ?_
  refine r_move rfl rfl ?_
  refine r_build (cells := rowV p) rfl rfl (by kernel_rfl) ?_
  refine r_allocV (cs := #[.int .u64 0, .int .u64 0]) rfl rfl fun b9 => ?_
  refine r_storeV rfl rfl rfl rfl rfl rfl ?_
  refine r_nil ?_
  refine r_tn ?_
  refine r_seq ?_
  refine r_region ?_
  refine r_loadV rfl rfl rfl rfl rfl ?_
  refine r_move rfl rfl ?_
  refine r_move rfl rfl ?_
  refine r_call rfl rfl rfl (by kernel_rfl) rfl (fun w hw => by exact rowSet p x on w) ?_
  refine r_allocV (cs := #[.int .u64 0, .int .u64 0]) rfl rfl fun b10 => ?_
  refine r_storeV rfl rfl rfl rfl rfl rfl ?_
  refine r_nil ?_
  refine r_tn ?_
  refine r_seq ?_
  refine r_seq ?_
  refine r_region ?_
  refine r_move rfl rfl ?_
  refine r_lss rfl rfl rfl (decide_eq_false (by omega)) ?_
  refine r_move rfl rfl ?_
  refine r_go rfl rfl ?_
  refine r_move rfl rfl ?_
  refine r_go rfl rfl ?_
  refine r_gtr rfl rfl rfl (decide_eq_true (by omega)) ?_
  refine r_pick_f rfl rfl rfl ?_
  refine r_nil ?_
  refine r_tn ?_
  refine r_cond_t rfl ?_
  refine r_seq ?_
  refine r_region ?_
  refine r_loadV rfl rfl rfl rfl rfl ?_
  refine r_loadV rfl rfl rfl rfl rfl ?_
  refine r_eqlAgg rfl rfl rfl rowFlat (rowV_ok _) (rowV_ok _) ((congrArg (fun c => cellsEq c.toList (rowV p).toList) (set_out (p := p) (x := x) (on := on) (by omega)).symm).trans (row_self p)) ?_
  refine r_move rfl rfl ?_
  refine r_go rfl rfl ?_
  refine r_loadV rfl rfl rfl rfl rfl ?_
  refine r_go rfl rfl ?_
  refine r_move rfl rfl ?_
  refine r_go rfl rfl ?_
  refine r_call (v := .bool false) rfl rfl rfl (by kernel_rfl) rfl (fun w hw => by have h := rowGet (setP p x on) x w; rw [show (getB (setP p x on) x) = false from by unfold getB; first | rw [decide_eq_false (show ¬ 0 ≤ x by omega)]; rfl | rw [decide_eq_false (show ¬ x < 128 by omega)]; simp] at h; exact h) ?_
  refine r_go rfl rfl ?_
  refine r_not rfl rfl rfl ?_
  refine r_pick_t rfl rfl rfl ?_
  refine r_assign rfl rfl ?_
  refine r_nil ?_
  refine r_tn ?_
  refine r_ret ?_
  refine r_tr ?_
  exact r_done1 (.inl rfl) rfl (res_tmp rfl) fun w hw => ⟨rfl, hw.clear⟩
theorem sets_in (p : Nat → Bool) (x : Int) (on : Bool) (W : World) (h0 : 0 ≤ x ∧ x < 128) :
    Calls Try.prog 4 #[.int .u64 ((hiN p : Nat) : Int), .int .u64 ((loN p : Nat) : Int), .int .i64 x, .bool on] W fun e w' => e = .returned (.bool true) ∧ Sat W [] [] w' := by
  refine enter Try.func4 rfl rfl rfl ?_
  refine r_seq ?_
  refine r_region ?_
  refine r_assign rfl rfl ?_
  refine r_nil ?_
  refine r_tn ?_
  refine r_seq ?_
  refine r_seq ?_
  refine r_region ?_
  refine r_call rfl rfl rfl (by kernel_rfl) rfl (fun w hw => by exact awake06 w) ?_
  refine r_not rfl rfl rfl ?_
  refine r_nil ?_
  refine r_tn ?_
  refine r_cond_f rfl ?_
  refine r_skip ?_
  refine r_tn ?_
  refine r_seq ?_
  refine r_region ?_
  refine r_move rfl rfl ?_
  refine r_move rfl rfl ?_
  refine r_build (cells := rowV p) rfl rfl (by kernel_rfl) ?_
  refine r_allocV (cs := #[.int .u64 0, .int .u64 0]) rfl rfl fun b9 => ?_
  refine r_storeV rfl rfl rfl rfl rfl rfl ?_
  refine r_nil ?_
  refine r_tn ?_
  refine r_seq ?_
  refine r_region ?_
  refine r_loadV rfl rfl rfl rfl rfl ?_
  refine r_move rfl rfl ?_
  refine r_move rfl rfl ?_
  refine r_call rfl rfl rfl (by kernel_rfl) rfl (fun w hw => by exact rowSet p x on w) ?_
  refine r_allocV (cs := #[.int .u64 0, .int .u64 0]) rfl rfl fun b10 => ?_
  refine r_storeV rfl rfl rfl rfl rfl rfl ?_
  refine r_nil ?_
  refine r_tn ?_
  refine r_seq ?_
  refine r_seq ?_
  refine r_region ?_
  refine r_move rfl rfl ?_
  refine r_lss rfl rfl rfl (decide_eq_false (by omega)) ?_
  refine r_move rfl rfl ?_
  refine r_go rfl rfl ?_
  refine r_move rfl rfl ?_
  refine r_go rfl rfl ?_
  refine r_gtr rfl rfl rfl (decide_eq_false (by omega)) ?_
  refine r_pick_f rfl rfl rfl ?_
  refine r_nil ?_
  refine r_tn ?_
  refine r_cond_f rfl ?_
  refine r_skip ?_
  refine r_tn ?_
  refine r_seq ?_
  refine r_region ?_
  refine r_loadV rfl rfl rfl rfl rfl ?_
  refine r_callx rfl rfl rfl (by kernel_rfl) rfl (fun w hw => lawPixels p w) ?_
  rintro b37 _
  refine r_assign rfl rfl ?_
  refine r_nil ?_
  refine r_tn ?_
  refine r_seq ?_
  refine r_region ?_
  refine r_move rfl rfl ?_
  refine r_move rfl rfl ?_
  refine r_move rfl rfl ?_
  refine r_indexSl (sz := 1) (o' := x.toNat) rfl rfl rfl rfl rfl (by omega) (by omega) (by first | (simp; done) | (simp; omega) | omega) ?_
  refine r_storeOwn (m := 128) (c := 128) rfl rfl rfl rfl rfl (by omega) ?_
  rw [boolsN_set]
  refine r_nil ?_
  refine r_tn ?_
  refine r_seq ?_
  refine r_mixedD { xb := [], rb := [b10], rs := [51], fs := [], acs := [50] } (by kernel_rfl) (by kernel_rfl) (fun w hw k hk => by
    simp only [List.mem_cons, List.not_mem_nil, or_false] at hk
    rcases hk with rfl <;> exact Sat.lt hw) ?_
  refine r_loadV rfl rfl rfl rfl rfl ?_
  refine r_callx rfl rfl rfl (by kernel_rfl) rfl (fun w hw => lawPixels (setP p x on) w) ?_
  rintro b43 _
  refine r_move rfl rfl ?_
  refine r_call (v := .bool true) rfl rfl rfl (by kernel_rfl) rfl (fun w hw => by have h := refSame (setP p x on) (fun y => if y = x.toNat then on else p y) b43 b37 128 128 w (own_rd (A := some ⟨b43, 0, none⟩) (m := 128) (c := 128) hw) (own_rd (A := some ⟨b37, 0, none⟩) (m := 128) (c := 128) hw); rw [show (eqB (setP p x on) (fun y => if y = x.toNat then on else p y)) = true from (eqB_iff _ _).2 fun y hy => by unfold setP; by_cases e : y = x.toNat <;> simp [e] <;> omega] at h; exact h) ?_
  refine r_move rfl rfl ?_
  refine r_go rfl rfl ?_
  refine r_loadV rfl rfl rfl rfl rfl ?_
  refine r_go rfl rfl ?_
  refine r_move rfl rfl ?_
  refine r_go rfl rfl ?_
  refine r_move rfl rfl ?_
  refine r_go rfl rfl ?_
  refine r_call rfl rfl rfl (by kernel_rfl) rfl (fun w hw => by exact rowSet (setP p x on) x on w) ?_
  refine r_go rfl rfl ?_
  refine r_loadV rfl rfl rfl rfl rfl ?_
  refine r_go rfl rfl ?_
  refine r_eqlAgg rfl rfl rfl rowFlat (rowV_ok _) (rowV_ok _) ((congrArg (fun c => cellsEq c.toList (rowV (setP p x on)).toList) (rowV_congr fun y hy => by unfold setP; split <;> rfl)).trans (row_self (setP p x on))) ?_
  refine r_pick_t rfl rfl rfl ?_
  refine r_move rfl rfl ?_
  refine r_go rfl rfl ?_
  refine r_loadV rfl rfl rfl rfl rfl ?_
  refine r_go rfl rfl ?_
  refine r_move rfl rfl ?_
  refine r_go rfl rfl ?_
  refine r_call (v := .bool on) rfl rfl rfl (by kernel_rfl) rfl (fun w hw => by have h := rowGet (setP p x on) x w; rw [show (getB (setP p x on) x) = on from set_get h0] at h; exact h) ?_
  refine r_go rfl rfl ?_
  refine r_move rfl rfl ?_
  refine r_go rfl rfl ?_
  refine r_eql_bool rfl rfl rfl rfl (beq_self_eq_true _) ?_
  refine r_pick_t rfl rfl rfl ?_
  refine r_assign rfl rfl ?_
  refine r_nil ?_
  refine r_tn ?_
  refine r_ret ?_
  exact r_done1 (.inl rfl) rfl (res_tmp rfl) fun w hw => ⟨rfl, hw.clear⟩

theorem RowSets_walk (a b x : Int) (on : Bool) (W : World) (ha : (Lit.int .u64 a).wf = true) (hb : (Lit.int .u64 b).wf = true) (hx : (Lit.int .i64 x).wf = true) :
    Calls Try.prog 4 #[.int .u64 a, .int .u64 b, .int .i64 x, .bool on] W fun e w' => e = .returned (.bool true) ∧ Sat W [] [] w' := by
  obtain ⟨p, rfl, rfl⟩ := row_of (wfU ha) (wfU hb)
  by_cases h0 : x < 0
  · exact sets_lo p x on W h0
  · by_cases h1 : 127 < x
    · exact sets_hi p x on W h1
    · exact sets_in p x on W (by omega)
end Go.Proofs.Ytahanpobeekhiaa
