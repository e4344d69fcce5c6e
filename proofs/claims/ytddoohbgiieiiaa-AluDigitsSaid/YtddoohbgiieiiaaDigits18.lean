/-
  AluDigits: the three digits of a byte.
-/
import Derived.Test.YtddoohbgiieiiaaAw18
namespace Go.Proofs.Ytddoohbgiieiiaa
open Go Go.RowKit
set_option linter.unusedVariables false
set_option linter.unusedSimpArgs false
set_option maxHeartbeats 2000000

theorem AluDigits_walk (n : Int) (W : World) (hw : (Lit.int .u8 n).wf = true) :
    Calls Try.prog 6 #[.int .u8 n] W fun e w' => e = .returned (.bool true) ∧ Sat W [] [] w' := by
  have hn := wf8 hw
  refine enter Try.func6 rfl rfl rfl ?_
  refine r_seq ?_
  refine r_region ?_
  refine r_assign rfl rfl ?_
  refine r_nil ?_
  refine r_tn ?_
  refine r_seq ?_
  refine r_seq ?_
  refine r_region ?_
  refine r_call rfl rfl rfl (by kernel_rfl) rfl (fun w hw => by exact awake18 w) ?_
  refine r_not rfl rfl rfl ?_
  refine r_nil ?_
  refine r_tn ?_
  refine r_cond_f rfl ?_
  refine r_skip ?_
  refine r_tn ?_
  refine r_seq ?_
  refine r_region ?_
  refine r_move rfl rfl ?_
  refine r_call rfl rfl rfl (by kernel_rfl) rfl (fun w hw => by exact digits18 n hn w) ?_
  refine r_allocV (cs := #[.int .u8 0, .int .u8 0, .int .u8 0]) rfl rfl fun b3 => ?_
  refine r_storeV rfl rfl rfl rfl rfl rfl ?_
  refine r_nil ?_
  refine r_tn ?_
  refine r_seq ?_
  refine r_region ?_
  refine r_indexArr (sz := 1) rfl rfl rfl rfl rfl (by omega) (by omega) (show _ = 0 by simp) ?_
  refine r_load1 rfl rfl rfl (by rfl) ?_
  refine r_leq rfl rfl rfl (decide_eq_true (by omega)) ?_
  refine r_move rfl rfl ?_
  refine r_go rfl rfl ?_
  refine r_indexArr (sz := 1) rfl rfl rfl rfl rfl (by omega) (by omega) (show _ = 1 by simp) ?_
  refine r_go rfl rfl ?_
  refine r_load1 rfl rfl rfl (by rfl) ?_
  refine r_go rfl rfl ?_
  refine r_leq rfl rfl rfl (decide_eq_true (by omega)) ?_
  refine r_pick_t rfl rfl rfl ?_
  refine r_move rfl rfl ?_
  refine r_go rfl rfl ?_
  refine r_indexArr (sz := 1) rfl rfl rfl rfl rfl (by omega) (by omega) (show _ = 2 by simp) ?_
  refine r_go rfl rfl ?_
  refine r_load1 rfl rfl rfl (by rfl) ?_
  refine r_go rfl rfl ?_
  refine r_leq rfl rfl rfl (decide_eq_true (by omega)) ?_
  refine r_pick_t rfl rfl rfl ?_
  refine r_move rfl rfl ?_
  refine r_go rfl rfl ?_
  refine r_indexArr (sz := 1) rfl rfl rfl rfl rfl (by omega) (by omega) (show _ = 0 by simp) ?_
  refine r_go rfl rfl ?_
  refine r_load1 rfl rfl rfl (by rfl) ?_
  refine r_go rfl rfl ?_
  refine r_convert rfl rfl rfl rfl (w64 (by omega)) ?_
  refine r_go rfl rfl ?_
  refine r_mul rfl rfl rfl (w64 (by omega)) ?_
  refine r_go rfl rfl ?_
  refine r_indexArr (sz := 1) rfl rfl rfl rfl rfl (by omega) (by omega) (show _ = 1 by simp) ?_
  refine r_go rfl rfl ?_
  refine r_load1 rfl rfl rfl (by rfl) ?_
  refine r_go rfl rfl ?_
  refine r_convert rfl rfl rfl rfl (w64 (by omega)) ?_
  refine r_go rfl rfl ?_
  refine r_mul rfl rfl rfl (w64 (by omega)) ?_
  refine r_go rfl rfl ?_
  refine r_add rfl rfl rfl (w64 (by omega)) ?_
  refine r_go rfl rfl ?_
  refine r_indexArr (sz := 1) rfl rfl rfl rfl rfl (by omega) (by omega) (show _ = 2 by simp) ?_
  refine r_go rfl rfl ?_
  refine r_load1 rfl rfl rfl (by rfl) ?_
  refine r_go rfl rfl ?_
  refine r_convert rfl rfl rfl rfl (w64 (by omega)) ?_
  refine r_go rfl rfl ?_
  refine r_add rfl rfl rfl (w64 (by omega)) ?_
  refine r_go rfl rfl ?_
  refine r_move rfl rfl ?_
  refine r_go rfl rfl ?_
  refine r_convert rfl rfl rfl rfl (w64 (by omega)) ?_
  refine r_go rfl rfl ?_
  refine r_eql rfl rfl rfl (decide_eq_true (by omega)) ?_
  refine r_pick_t rfl rfl rfl ?_
  refine r_assign rfl rfl ?_
  refine r_nil ?_
  refine r_tn ?_
  refine r_ret ?_
  exact r_done1 (.inl rfl) rfl (res_tmp rfl) fun w hw => ⟨rfl, hw.clear⟩
end Go.Proofs.Ytddoohbgiieiiaa
