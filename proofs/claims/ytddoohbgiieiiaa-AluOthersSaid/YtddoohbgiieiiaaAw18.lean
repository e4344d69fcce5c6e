/-
  The arithmetic unit (chapter 18): the examples of the documentation hold.
-/
import Derived.Test.YtddoohbgiieiiaaSkips18
namespace Go.Proofs.Ytddoohbgiieiiaa
open Go Go.RowKit
set_option linter.unusedVariables false
set_option linter.unusedSimpArgs false
set_option maxHeartbeats 2000000

theorem getD_rng {l : List Int} (h : l.all (fun x => decide (0 ≤ x) && decide (x ≤ 255)) = true) (i : Nat) : 0 ≤ l.getD i 0 ∧ l.getD i 0 ≤ 255 := by
  rw [List.all_eq_true] at h
  simp only [List.getD]
  by_cases hi : i < l.length
  · have h1 := h l[i] (List.getElem_mem hi)
    simp only [Bool.and_eq_true, decide_eq_true_eq] at h1
    simpa [hi] using h1
  · rw [List.getElem?_eq_none (by omega)]
    simp
theorem vFlat : flatT Try.prog 22 (List.replicate 16 (.i .u8)) := ⟨by kernel_rfl, by kernel_rfl, by kernel_rfl⟩
theorem dFlat : flatT Try.prog 33 (List.replicate 3 (.i .u8)) := ⟨by kernel_rfl, by kernel_rfl, by kernel_rfl⟩
def z13 : List Int := List.replicate 13 0


theorem awake18 (w : World) :
    Calls Try.prog 8 #[] w fun e w' => e = .returned (.bool true) ∧ Sat w [] [] w' := by
  refine enter Try.func8 rfl rfl rfl ?_
  refine r_seq ?_
  refine r_region ?_
  refine r_assign rfl rfl ?_
  refine r_nil ?_
  refine r_tn ?_
  refine r_seq ?_
  refine r_region ?_
  refine r_build (cells := fl [0, 200, 100, 0, 0, 0, 0, 0, 0, 0, 0, 0, 0, 0, 0, 0]) rfl rfl (by kernel_rfl) ?_
  refine r_build (cells := ins 14 1 2 0 0 0 0) rfl rfl (by kernel_rfl) ?_
  refine r_build (cells := pro 0 false false false false false false false) rfl rfl (by kernel_rfl) ?_
  refine r_call (v := .tuple #[.agg (fl [0, 44, 100, 0, 0, 0, 0, 0, 0, 0, 0, 0, 0, 0, 0, 1]), .bool true]) rfl rfl rfl (by kernel_rfl) rfl (fun w hw => by exact do18 [0, 200, 100, 0, 0, 0, 0, 0, 0, 0, 0, 0, 0, 0, 0, 0] 14 1 2 0 0 0 0 0 false false false false false false false rfl (getD_rng (by decide)) (by decide) (by decide) (by decide) (res := 300) (flg := 1) rfl w) ?_
  refine r_move rfl rfl ?_
  refine r_extract rfl rfl rfl ?_
  refine r_extract rfl rfl rfl ?_
  refine r_allocV (cs := fl (List.replicate 16 0)) rfl rfl fun b1 => ?_
  refine r_storeV rfl rfl rfl rfl rfl (fl_one _) ?_
  refine r_assign rfl rfl ?_
  refine r_nil ?_
  refine r_tn ?_
  refine r_seq ?_
  refine r_region ?_
  refine r_build (cells := fl [0, 0, 0, 7, 0, 0, 0, 0, 0, 0, 0, 0, 0, 0, 0, 0]) rfl rfl (by kernel_rfl) ?_
  refine r_build (cells := ins 3 0 0 0 0 0 0) rfl rfl (by kernel_rfl) ?_
  refine r_build (cells := pro 0 false false false false false false false) rfl rfl (by kernel_rfl) ?_
  refine r_call (v := .tuple #[.agg (fl [0, 0, 0, 7, 0, 0, 0, 0, 0, 0, 0, 0, 0, 0, 0, 0]), .bool false]) rfl rfl rfl (by kernel_rfl) rfl (fun w hw => by exact do_none [0, 0, 0, 7, 0, 0, 0, 0, 0, 0, 0, 0, 0, 0, 0, 0] 3 0 0 0 0 0 0 0 false false false false false false false rfl (x := 0) (y := 0) (nn := 0) (s := 0) rfl w) ?_
  refine r_move rfl rfl ?_
  refine r_extract rfl rfl rfl ?_
  refine r_extract rfl rfl rfl ?_
  refine r_allocV (cs := fl (List.replicate 16 0)) rfl rfl fun b3 => ?_
  refine r_storeV rfl rfl rfl rfl rfl (fl_one _) ?_
  refine r_assign rfl rfl ?_
  refine r_nil ?_
  refine r_tn ?_
  refine r_seq ?_
  refine r_region ?_
  refine r_loadV rfl rfl rfl rfl rfl ?_
  refine r_build (cells := ins 5 1 0 0 44 0 0) rfl rfl (by kernel_rfl) ?_
  refine r_call (v := .tuple #[.bool true, .bool true]) rfl rfl rfl (by kernel_rfl) rfl (fun w hw => by exact skips18 [0, 44, 100, 0, 0, 0, 0, 0, 0, 0, 0, 0, 0, 0, 0, 1] 5 1 0 0 44 0 0 rfl (getD_rng (by decide)) (by decide) (by decide) w) ?_
  refine r_move rfl rfl ?_
  refine r_extract rfl rfl rfl ?_
  refine r_extract rfl rfl rfl ?_
  refine r_assign rfl rfl ?_
  refine r_assign rfl rfl ?_
  refine r_nil ?_
  refine r_tn ?_
  refine r_seq ?_
  refine r_region ?_
  refine r_loadV rfl rfl rfl rfl rfl ?_
  refine r_build (cells := ins 10 0 0 0 0 0 0) rfl rfl (by kernel_rfl) ?_
  refine r_call (v := .tuple #[.bool false, .bool false]) rfl rfl rfl (by kernel_rfl) rfl (fun w hw => by exact skips18 [0, 44, 100, 0, 0, 0, 0, 0, 0, 0, 0, 0, 0, 0, 0, 1] 10 0 0 0 0 0 0 rfl (getD_rng (by decide)) (by decide) (by decide) w) ?_
  refine r_move rfl rfl ?_
  refine r_extract rfl rfl rfl ?_
  refine r_extract rfl rfl rfl ?_
  refine r_assign rfl rfl ?_
  refine r_assign rfl rfl ?_
  refine r_nil ?_
  refine r_tn ?_
  refine r_seq ?_
  refine r_region ?_
  refine r_loadV rfl rfl rfl rfl rfl ?_
  refine r_build (cells := fl [0, 44, 100, 0, 0, 0, 0, 0, 0, 0, 0, 0, 0, 0, 0, 1]) rfl rfl (by kernel_rfl) ?_
  refine r_eqlAgg rfl rfl rfl vFlat (fl_ok rfl) (fl_ok rfl) (fl_self rfl) ?_
  refine r_move rfl rfl ?_
  refine r_go rfl rfl ?_
  refine r_move rfl rfl ?_
  refine r_pick_t rfl rfl rfl ?_
  refine r_move rfl rfl ?_
  refine r_go rfl rfl ?_
  refine r_loadV rfl rfl rfl rfl rfl ?_
  refine r_go rfl rfl ?_
  refine r_build (cells := fl [0, 0, 0, 7, 0, 0, 0, 0, 0, 0, 0, 0, 0, 0, 0, 0]) rfl rfl (by kernel_rfl) ?_
  refine r_go rfl rfl ?_
  refine r_eqlAgg rfl rfl rfl vFlat (fl_ok rfl) (fl_ok rfl) (fl_self rfl) ?_
  refine r_pick_t rfl rfl rfl ?_
  refine r_move rfl rfl ?_
  refine r_go rfl rfl ?_
  refine r_move rfl rfl ?_
  refine r_go rfl rfl ?_
  refine r_not rfl rfl rfl ?_
  refine r_pick_t rfl rfl rfl ?_
  refine r_move rfl rfl ?_
  refine r_go rfl rfl ?_
  refine r_call (v := .agg (fl [2, 0, 9])) rfl rfl rfl (by kernel_rfl) rfl (fun w hw => by exact digits18 209 (by decide) w) ?_
  refine r_go rfl rfl ?_
  refine r_build (cells := fl [2, 0, 9]) rfl rfl (by kernel_rfl) ?_
  refine r_go rfl rfl ?_
  refine r_eqlAgg rfl rfl rfl dFlat (fl_ok rfl) (fl_ok rfl) (fl_self rfl) ?_
  refine r_pick_t rfl rfl rfl ?_
  refine r_move rfl rfl ?_
  refine r_go rfl rfl ?_
  refine r_move rfl rfl ?_
  refine r_pick_t rfl rfl rfl ?_
  refine r_move rfl rfl ?_
  refine r_go rfl rfl ?_
  refine r_move rfl rfl ?_
  refine r_pick_t rfl rfl rfl ?_
  refine r_move rfl rfl ?_
  refine r_go rfl rfl ?_
  refine r_move rfl rfl ?_
  refine r_go rfl rfl ?_
  refine r_not rfl rfl rfl ?_
  refine r_pick_t rfl rfl rfl ?_
  refine r_assign rfl rfl ?_
  refine r_nil ?_
  refine r_tn ?_
  refine r_ret ?_
  exact r_done1 (.inl rfl) rfl (res_tmp rfl) fun w hw => ⟨rfl, hw.clear⟩

theorem wf8 {n : Int} (h : (Lit.int .u8 n).wf = true) : 0 ≤ n ∧ n ≤ 255 := by
  have h2 := h
  simp only [Lit.wf, Bool.and_eq_true, decide_eq_true_eq] at h2
  rw [show IntKind.u8.min = 0 from by rfl, show IntKind.u8.max = 255 from by rfl] at h2
  exact h2

end Go.Proofs.Ytddoohbgiieiiaa
