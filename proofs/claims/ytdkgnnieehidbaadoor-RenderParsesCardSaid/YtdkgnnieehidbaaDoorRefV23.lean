/-
  Records (chapter 23): the reference s Valid.
-/
import Derived.Test.YtdkgnnieehidbaaDoorExt24
namespace Go.Proofs.YtdkgnnieehidbaaDoor
open Go Go.RowKit
set_option linter.unusedVariables false
set_option linter.unusedSimpArgs false
set_option maxHeartbeats 2000000
set_option maxRecDepth 4000
attribute [local irreducible] mix

theorem refStatus23 (kind cause pc cycle : Int) (w : World) :
    Calls Tryd.prog 40 #[.agg #[.int .i64 kind, .int .i64 cause, .int .i64 pc, .int .i64 cycle]] w fun e w' => e = .returned (.bool (statusB kind cause pc cycle)) ∧ Sat w [] [] w' := by
  refine enter Tryd.func40 rfl rfl rfl ?_
  refine r_seq ?_
  refine r_region ?_
  refine r_boxV rfl rfl fun b1 => ?_
  refine r_assign rfl rfl ?_
  refine r_nil ?_
  refine r_tn ?_
  refine r_seq ?_
  refine r_seq ?_
  refine r_region ?_
  refine r_fieldAddr (off := 0) (o' := 0) rfl rfl rfl rfl ?_
  refine r_load1 rfl rfl rfl (by rfl) ?_
  refine r_lss rfl rfl rfl rfl ?_
  refine r_move rfl rfl ?_
  refine r_split 6 rfl (fun hb6 => ?_) (fun hb6 => ?_)
  · refine r_pass rfl rfl rfl rfl ?_
    refine r_pass rfl rfl rfl rfl ?_
    refine r_pass rfl rfl rfl rfl ?_
    refine r_pick_t rfl rfl rfl ?_
    refine r_move rfl rfl ?_
    refine r_pass rfl rfl rfl rfl ?_
    refine r_pass rfl rfl rfl rfl ?_
    refine r_pass rfl rfl rfl rfl ?_
    refine r_pick_t rfl rfl rfl ?_
    refine r_move rfl rfl ?_
    refine r_pass rfl rfl rfl rfl ?_
    refine r_pass rfl rfl rfl rfl ?_
    refine r_pass rfl rfl rfl rfl ?_
    refine r_pick_t rfl rfl rfl ?_
    refine r_move rfl rfl ?_
    refine r_pass rfl rfl rfl rfl ?_
    refine r_pass rfl rfl rfl rfl ?_
    refine r_pass rfl rfl rfl rfl ?_
    refine r_pick_t rfl rfl rfl ?_
    refine r_move rfl rfl ?_
    refine r_pass rfl rfl rfl rfl ?_
    refine r_pass rfl rfl rfl rfl ?_
    refine r_pass rfl rfl rfl rfl ?_
    refine r_pick_t rfl rfl rfl ?_
    refine r_nil ?_
    refine r_tn ?_
    refine r_cond_t rfl ?_
    refine r_seq ?_
    refine r_region ?_
    refine r_assign rfl rfl ?_
    refine r_nil ?_
    refine r_tn ?_
    refine r_ret ?_
    refine r_tr ?_
    exact r_done1 (.inl rfl) rfl (res_tmp rfl) fun w hw => ⟨congrArg (fun b => Ending.returned (.bool b)) (by
      simp only [decide_eq_true_eq, decide_eq_false_iff_not, Bool.not_eq_true', Bool.not_eq_false', gt_iff_lt, ge_iff_le, ne_eq, Bool.not_true, Bool.not_false] at *
      unfold statusB
      repeat' split
      all_goals first | omega | (simp only [decide_eq_decide, decide_eq_true_eq, decide_eq_false_iff_not, Bool.false_eq, Bool.true_eq]; omega) | rfl), hw.clear⟩
  · refine r_go rfl rfl ?_
    refine r_fieldAddr (off := 0) (o' := 0) rfl rfl rfl rfl ?_
    refine r_go rfl rfl ?_
    refine r_load1 rfl rfl rfl (by rfl) ?_
    refine r_go rfl rfl ?_
    refine r_gtr rfl rfl rfl rfl ?_
    refine r_pick_f rfl rfl rfl ?_
    refine r_move rfl rfl ?_
    refine r_split 11 rfl (fun hb11 => ?_) (fun hb11 => ?_)
    · refine r_pass rfl rfl rfl rfl ?_
      refine r_pass rfl rfl rfl rfl ?_
      refine r_pass rfl rfl rfl rfl ?_
      refine r_pick_t rfl rfl rfl ?_
      refine r_move rfl rfl ?_
      refine r_pass rfl rfl rfl rfl ?_
      refine r_pass rfl rfl rfl rfl ?_
      refine r_pass rfl rfl rfl rfl ?_
      refine r_pick_t rfl rfl rfl ?_
      refine r_move rfl rfl ?_
      refine r_pass rfl rfl rfl rfl ?_
      refine r_pass rfl rfl rfl rfl ?_
      refine r_pass rfl rfl rfl rfl ?_
      refine r_pick_t rfl rfl rfl ?_
      refine r_move rfl rfl ?_
      refine r_pass rfl rfl rfl rfl ?_
      refine r_pass rfl rfl rfl rfl ?_
      refine r_pass rfl rfl rfl rfl ?_
      refine r_pick_t rfl rfl rfl ?_
      refine r_nil ?_
      refine r_tn ?_
      refine r_cond_t rfl ?_
      refine r_seq ?_
      refine r_region ?_
      refine r_assign rfl rfl ?_
      refine r_nil ?_
      refine r_tn ?_
      refine r_ret ?_
      refine r_tr ?_
      exact r_done1 (.inl rfl) rfl (res_tmp rfl) fun w hw => ⟨congrArg (fun b => Ending.returned (.bool b)) (by
        simp only [decide_eq_true_eq, decide_eq_false_iff_not, Bool.not_eq_true', Bool.not_eq_false', gt_iff_lt, ge_iff_le, ne_eq, Bool.not_true, Bool.not_false] at *
        unfold statusB
        repeat' split
        all_goals first | omega | (simp only [decide_eq_decide, decide_eq_true_eq, decide_eq_false_iff_not, Bool.false_eq, Bool.true_eq]; omega) | rfl), hw.clear⟩
    · refine r_go rfl rfl ?_
      refine r_fieldAddr (off := 2) (o' := 2) rfl rfl rfl rfl ?_
      refine r_go rfl rfl ?_
      refine r_load1 rfl rfl rfl (by rfl) ?_
      refine r_go rfl rfl ?_
      refine r_lss rfl rfl rfl rfl ?_
      refine r_pick_f rfl rfl rfl ?_
      refine r_move rfl rfl ?_
      refine r_split 16 rfl (fun hb16 => ?_) (fun hb16 => ?_)
      · refine r_pass rfl rfl rfl rfl ?_
        refine r_pass rfl rfl rfl rfl ?_
        refine r_pass rfl rfl rfl rfl ?_
        refine r_pick_t rfl rfl rfl ?_
        refine r_move rfl rfl ?_
        refine r_pass rfl rfl rfl rfl ?_
        refine r_pass rfl rfl rfl rfl ?_
        refine r_pass rfl rfl rfl rfl ?_
        refine r_pick_t rfl rfl rfl ?_
        refine r_move rfl rfl ?_
        refine r_pass rfl rfl rfl rfl ?_
        refine r_pass rfl rfl rfl rfl ?_
        refine r_pass rfl rfl rfl rfl ?_
        refine r_pick_t rfl rfl rfl ?_
        refine r_nil ?_
        refine r_tn ?_
        refine r_cond_t rfl ?_
        refine r_seq ?_
        refine r_region ?_
        refine r_assign rfl rfl ?_
        refine r_nil ?_
        refine r_tn ?_
        refine r_ret ?_
        refine r_tr ?_
        exact r_done1 (.inl rfl) rfl (res_tmp rfl) fun w hw => ⟨congrArg (fun b => Ending.returned (.bool b)) (by
          simp only [decide_eq_true_eq, decide_eq_false_iff_not, Bool.not_eq_true', Bool.not_eq_false', gt_iff_lt, ge_iff_le, ne_eq, Bool.not_true, Bool.not_false] at *
          unfold statusB
          repeat' split
          all_goals first | omega | (simp only [decide_eq_decide, decide_eq_true_eq, decide_eq_false_iff_not, Bool.false_eq, Bool.true_eq]; omega) | rfl), hw.clear⟩
      · refine r_go rfl rfl ?_
        refine r_fieldAddr (off := 2) (o' := 2) rfl rfl rfl rfl ?_
        refine r_go rfl rfl ?_
        refine r_load1 rfl rfl rfl (by rfl) ?_
        refine r_go rfl rfl ?_
        refine r_gtr rfl rfl rfl rfl ?_
        refine r_pick_f rfl rfl rfl ?_
        refine r_move rfl rfl ?_
        refine r_split 21 rfl (fun hb21 => ?_) (fun hb21 => ?_)
        · refine r_pass rfl rfl rfl rfl ?_
          refine r_pass rfl rfl rfl rfl ?_
          refine r_pass rfl rfl rfl rfl ?_
          refine r_pick_t rfl rfl rfl ?_
          refine r_move rfl rfl ?_
          refine r_pass rfl rfl rfl rfl ?_
          refine r_pass rfl rfl rfl rfl ?_
          refine r_pass rfl rfl rfl rfl ?_
          refine r_pick_t rfl rfl rfl ?_
          refine r_nil ?_
          refine r_tn ?_
          refine r_cond_t rfl ?_
          refine r_seq ?_
          refine r_region ?_
          refine r_assign rfl rfl ?_
          refine r_nil ?_
          refine r_tn ?_
          refine r_ret ?_
          refine r_tr ?_
          exact r_done1 (.inl rfl) rfl (res_tmp rfl) fun w hw => ⟨congrArg (fun b => Ending.returned (.bool b)) (by
            simp only [decide_eq_true_eq, decide_eq_false_iff_not, Bool.not_eq_true', Bool.not_eq_false', gt_iff_lt, ge_iff_le, ne_eq, Bool.not_true, Bool.not_false] at *
            unfold statusB
            repeat' split
            all_goals first | omega | (simp only [decide_eq_decide, decide_eq_true_eq, decide_eq_false_iff_not, Bool.false_eq, Bool.true_eq]; omega) | rfl), hw.clear⟩
        · refine r_go rfl rfl ?_
          refine r_fieldAddr (off := 3) (o' := 3) rfl rfl rfl rfl ?_
          refine r_go rfl rfl ?_
          refine r_load1 rfl rfl rfl (by rfl) ?_
          refine r_go rfl rfl ?_
          refine r_lss rfl rfl rfl rfl ?_
          refine r_pick_f rfl rfl rfl ?_
          refine r_move rfl rfl ?_
          refine r_split 26 rfl (fun hb26 => ?_) (fun hb26 => ?_)
          · refine r_pass rfl rfl rfl rfl ?_
            refine r_pass rfl rfl rfl rfl ?_
            refine r_pass rfl rfl rfl rfl ?_
            refine r_pick_t rfl rfl rfl ?_
            refine r_nil ?_
            refine r_tn ?_
            refine r_cond_t rfl ?_
            refine r_seq ?_
            refine r_region ?_
            refine r_assign rfl rfl ?_
            refine r_nil ?_
            refine r_tn ?_
            refine r_ret ?_
            refine r_tr ?_
            exact r_done1 (.inl rfl) rfl (res_tmp rfl) fun w hw => ⟨congrArg (fun b => Ending.returned (.bool b)) (by
              simp only [decide_eq_true_eq, decide_eq_false_iff_not, Bool.not_eq_true', Bool.not_eq_false', gt_iff_lt, ge_iff_le, ne_eq, Bool.not_true, Bool.not_false] at *
              unfold statusB
              repeat' split
              all_goals first | omega | (simp only [decide_eq_decide, decide_eq_true_eq, decide_eq_false_iff_not, Bool.false_eq, Bool.true_eq]; omega) | rfl), hw.clear⟩
          · refine r_go rfl rfl ?_
            refine r_fieldAddr (off := 3) (o' := 3) rfl rfl rfl rfl ?_
            refine r_go rfl rfl ?_
            refine r_load1 rfl rfl rfl (by rfl) ?_
            refine r_go rfl rfl ?_
            refine r_gtr rfl rfl rfl rfl ?_
            refine r_pick_f rfl rfl rfl ?_
            refine r_nil ?_
            refine r_tn ?_
            refine r_cond rfl (fun hc => ?_) (fun hc => ?_)
            · refine r_seq ?_
              refine r_region ?_
              refine r_assign rfl rfl ?_
              refine r_nil ?_
              refine r_tn ?_
              refine r_ret ?_
              refine r_tr ?_
              exact r_done1 (.inl rfl) rfl (res_tmp rfl) fun w hw => ⟨congrArg (fun b => Ending.returned (.bool b)) (by
                simp only [decide_eq_true_eq, decide_eq_false_iff_not, Bool.not_eq_true', Bool.not_eq_false', gt_iff_lt, ge_iff_le, ne_eq, Bool.not_true, Bool.not_false] at *
                unfold statusB
                repeat' split
                all_goals first | omega | (simp only [decide_eq_decide, decide_eq_true_eq, decide_eq_false_iff_not, Bool.false_eq, Bool.true_eq]; omega) | rfl), hw.clear⟩
            · refine r_skip ?_
              refine r_tn ?_
              refine r_seq ?_
              refine r_seq ?_
              refine r_region ?_
              refine r_fieldAddr (off := 0) (o' := 0) rfl rfl rfl rfl ?_
              refine r_load1 rfl rfl rfl (by rfl) ?_
              refine r_leq rfl rfl rfl rfl ?_
              refine r_move rfl rfl ?_
              refine r_split 34 rfl (fun hb34 => ?_) (fun hb34 => ?_)
              · refine r_go rfl rfl ?_
                refine r_fieldAddr (off := 2) (o' := 2) rfl rfl rfl rfl ?_
                refine r_go rfl rfl ?_
                refine r_load1 rfl rfl rfl (by rfl) ?_
                refine r_go rfl rfl ?_
                refine r_neq rfl rfl rfl rfl ?_
                refine r_go rfl rfl ?_
                refine r_move rfl rfl ?_
                refine r_split 38 rfl (fun hb38 => ?_) (fun hb38 => ?_)
                · refine r_pass rfl rfl rfl rfl ?_
                  refine r_pass rfl rfl rfl rfl ?_
                  refine r_pass rfl rfl rfl rfl ?_
                  refine r_go rfl rfl ?_
                  refine r_pick_t rfl rfl rfl ?_
                  refine r_pick_t rfl rfl rfl ?_
                  refine r_nil ?_
                  refine r_tn ?_
                  refine r_cond_t rfl ?_
                  refine r_seq ?_
                  refine r_region ?_
                  refine r_assign rfl rfl ?_
                  refine r_nil ?_
                  refine r_tn ?_
                  refine r_ret ?_
                  refine r_tr ?_
                  exact r_done1 (.inl rfl) rfl (res_tmp rfl) fun w hw => ⟨congrArg (fun b => Ending.returned (.bool b)) (by
                    simp only [decide_eq_true_eq, decide_eq_false_iff_not, Bool.not_eq_true', Bool.not_eq_false', gt_iff_lt, ge_iff_le, ne_eq, Bool.not_true, Bool.not_false] at *
                    unfold statusB
                    repeat' split
                    all_goals first | omega | (simp only [decide_eq_decide, decide_eq_true_eq, decide_eq_false_iff_not, Bool.false_eq, Bool.true_eq]; omega) | rfl), hw.clear⟩
                · refine r_go rfl rfl ?_
                  refine r_fieldAddr (off := 3) (o' := 3) rfl rfl rfl rfl ?_
                  refine r_go rfl rfl ?_
                  refine r_load1 rfl rfl rfl (by rfl) ?_
                  refine r_go rfl rfl ?_
                  refine r_neq rfl rfl rfl rfl ?_
                  refine r_go rfl rfl ?_
                  refine r_pick_f rfl rfl rfl ?_
                  refine r_pick_t rfl rfl rfl ?_
                  refine r_nil ?_
                  refine r_tn ?_
                  refine r_cond rfl (fun hc => ?_) (fun hc => ?_)
                  · refine r_seq ?_
                    refine r_region ?_
                    refine r_assign rfl rfl ?_
                    refine r_nil ?_
                    refine r_tn ?_
                    refine r_ret ?_
                    refine r_tr ?_
                    exact r_done1 (.inl rfl) rfl (res_tmp rfl) fun w hw => ⟨congrArg (fun b => Ending.returned (.bool b)) (by
                      simp only [decide_eq_true_eq, decide_eq_false_iff_not, Bool.not_eq_true', Bool.not_eq_false', gt_iff_lt, ge_iff_le, ne_eq, Bool.not_true, Bool.not_false] at *
                      unfold statusB
                      repeat' split
                      all_goals first | omega | (simp only [decide_eq_decide, decide_eq_true_eq, decide_eq_false_iff_not, Bool.false_eq, Bool.true_eq]; omega) | rfl), hw.clear⟩
                  · refine r_skip ?_
                    refine r_tn ?_
                    refine r_seq ?_
                    refine r_seq ?_
                    refine r_region ?_
                    refine r_fieldAddr (off := 0) (o' := 0) rfl rfl rfl rfl ?_
                    refine r_load1 rfl rfl rfl (by rfl) ?_
                    refine r_eql rfl rfl rfl rfl ?_
                    refine r_nil ?_
                    refine r_tn ?_
                    refine r_cond rfl (fun hc => ?_) (fun hc => ?_)
                    · refine r_seq ?_
                      refine r_region ?_
                      refine r_fieldAddr (off := 1) (o' := 1) rfl rfl rfl rfl ?_
                      refine r_load1 rfl rfl rfl (by rfl) ?_
                      refine r_geq rfl rfl rfl rfl ?_
                      refine r_move rfl rfl ?_
                      refine r_split 50 rfl (fun hb50 => ?_) (fun hb50 => ?_)
                      · refine r_go rfl rfl ?_
                        refine r_fieldAddr (off := 1) (o' := 1) rfl rfl rfl rfl ?_
                        refine r_go rfl rfl ?_
                        refine r_load1 rfl rfl rfl (by rfl) ?_
                        refine r_go rfl rfl ?_
                        refine r_leq rfl rfl rfl rfl ?_
                        refine r_pick_t rfl rfl rfl ?_
                        refine r_assign rfl rfl ?_
                        refine r_nil ?_
                        refine r_tn ?_
                        refine r_ret ?_
                        refine r_tr ?_
                        exact r_done1 (.inl rfl) rfl (res_tmp rfl) fun w hw => ⟨congrArg (fun b => Ending.returned (.bool b)) (by
                          simp only [decide_eq_true_eq, decide_eq_false_iff_not, Bool.not_eq_true', Bool.not_eq_false', gt_iff_lt, ge_iff_le, ne_eq, Bool.not_true, Bool.not_false] at *
                          unfold statusB
                          repeat' split
                          all_goals first | omega | (simp only [decide_eq_decide, decide_eq_true_eq, decide_eq_false_iff_not, Bool.false_eq, Bool.true_eq]; omega) | rfl), hw.clear⟩
                      · refine r_pass rfl rfl rfl rfl ?_
                        refine r_pass rfl rfl rfl rfl ?_
                        refine r_pass rfl rfl rfl rfl ?_
                        refine r_pick_f rfl rfl rfl ?_
                        refine r_assign rfl rfl ?_
                        refine r_nil ?_
                        refine r_tn ?_
                        refine r_ret ?_
                        refine r_tr ?_
                        exact r_done1 (.inl rfl) rfl (res_tmp rfl) fun w hw => ⟨congrArg (fun b => Ending.returned (.bool b)) (by
                          simp only [decide_eq_true_eq, decide_eq_false_iff_not, Bool.not_eq_true', Bool.not_eq_false', gt_iff_lt, ge_iff_le, ne_eq, Bool.not_true, Bool.not_false] at *
                          unfold statusB
                          repeat' split
                          all_goals first | omega | (simp only [decide_eq_decide, decide_eq_true_eq, decide_eq_false_iff_not, Bool.false_eq, Bool.true_eq]; omega) | rfl), hw.clear⟩
                    · refine r_skip ?_
                      refine r_tn ?_
                      refine r_seq ?_
                      refine r_region ?_
                      refine r_fieldAddr (off := 1) (o' := 1) rfl rfl rfl rfl ?_
                      refine r_load1 rfl rfl rfl (by rfl) ?_
                      refine r_eql rfl rfl rfl rfl ?_
                      refine r_assign rfl rfl ?_
                      refine r_nil ?_
                      refine r_tn ?_
                      refine r_ret ?_
                      exact r_done1 (.inl rfl) rfl (res_tmp rfl) fun w hw => ⟨congrArg (fun b => Ending.returned (.bool b)) (by
                        simp only [decide_eq_true_eq, decide_eq_false_iff_not, Bool.not_eq_true', Bool.not_eq_false', gt_iff_lt, ge_iff_le, ne_eq, Bool.not_true, Bool.not_false] at *
                        unfold statusB
                        repeat' split
                        all_goals first | omega | (simp only [decide_eq_decide, decide_eq_true_eq, decide_eq_false_iff_not, Bool.false_eq, Bool.true_eq]; omega) | rfl), hw.clear⟩
              · refine r_pass rfl rfl rfl rfl ?_
                refine r_pass rfl rfl rfl rfl ?_
                refine r_pass rfl rfl rfl rfl ?_
                refine r_pass rfl rfl rfl rfl ?_
                refine r_passU rfl rfl rfl ?_
                refine r_passU rfl rfl rfl ?_
                refine r_passU rfl rfl rfl ?_
                refine r_pass rfl rfl rfl rfl ?_
                refine r_pick_f rfl rfl rfl ?_
                refine r_nil ?_
                refine r_tn ?_
                refine r_cond_f rfl ?_
                refine r_skip ?_
                refine r_tn ?_
                refine r_seq ?_
                refine r_seq ?_
                refine r_region ?_
                refine r_fieldAddr (off := 0) (o' := 0) rfl rfl rfl rfl ?_
                refine r_load1 rfl rfl rfl (by rfl) ?_
                refine r_eql rfl rfl rfl rfl ?_
                refine r_nil ?_
                refine r_tn ?_
                refine r_cond rfl (fun hc => ?_) (fun hc => ?_)
                · refine r_seq ?_
                  refine r_region ?_
                  refine r_fieldAddr (off := 1) (o' := 1) rfl rfl rfl rfl ?_
                  refine r_load1 rfl rfl rfl (by rfl) ?_
                  refine r_geq rfl rfl rfl rfl ?_
                  refine r_move rfl rfl ?_
                  refine r_split 50 rfl (fun hb50 => ?_) (fun hb50 => ?_)
                  · refine r_go rfl rfl ?_
                    refine r_fieldAddr (off := 1) (o' := 1) rfl rfl rfl rfl ?_
                    refine r_go rfl rfl ?_
                    refine r_load1 rfl rfl rfl (by rfl) ?_
                    refine r_go rfl rfl ?_
                    refine r_leq rfl rfl rfl rfl ?_
                    refine r_pick_t rfl rfl rfl ?_
                    refine r_assign rfl rfl ?_
                    refine r_nil ?_
                    refine r_tn ?_
                    refine r_ret ?_
                    refine r_tr ?_
                    exact r_done1 (.inl rfl) rfl (res_tmp rfl) fun w hw => ⟨congrArg (fun b => Ending.returned (.bool b)) (by
                      simp only [decide_eq_true_eq, decide_eq_false_iff_not, Bool.not_eq_true', Bool.not_eq_false', gt_iff_lt, ge_iff_le, ne_eq, Bool.not_true, Bool.not_false] at *
                      unfold statusB
                      repeat' split
                      all_goals first | omega | (simp only [decide_eq_decide, decide_eq_true_eq, decide_eq_false_iff_not, Bool.false_eq, Bool.true_eq]; omega) | rfl), hw.clear⟩
                  · refine r_pass rfl rfl rfl rfl ?_
                    refine r_pass rfl rfl rfl rfl ?_
                    refine r_pass rfl rfl rfl rfl ?_
                    refine r_pick_f rfl rfl rfl ?_
                    refine r_assign rfl rfl ?_
                    refine r_nil ?_
                    refine r_tn ?_
                    refine r_ret ?_
                    refine r_tr ?_
                    exact r_done1 (.inl rfl) rfl (res_tmp rfl) fun w hw => ⟨congrArg (fun b => Ending.returned (.bool b)) (by
                      simp only [decide_eq_true_eq, decide_eq_false_iff_not, Bool.not_eq_true', Bool.not_eq_false', gt_iff_lt, ge_iff_le, ne_eq, Bool.not_true, Bool.not_false] at *
                      unfold statusB
                      repeat' split
                      all_goals first | omega | (simp only [decide_eq_decide, decide_eq_true_eq, decide_eq_false_iff_not, Bool.false_eq, Bool.true_eq]; omega) | rfl), hw.clear⟩
                · refine r_skip ?_
                  refine r_tn ?_
                  refine r_seq ?_
                  refine r_region ?_
                  refine r_fieldAddr (off := 1) (o' := 1) rfl rfl rfl rfl ?_
                  refine r_load1 rfl rfl rfl (by rfl) ?_
                  refine r_eql rfl rfl rfl rfl ?_
                  refine r_assign rfl rfl ?_
                  refine r_nil ?_
                  refine r_tn ?_
                  refine r_ret ?_
                  exact r_done1 (.inl rfl) rfl (res_tmp rfl) fun w hw => ⟨congrArg (fun b => Ending.returned (.bool b)) (by
                    simp only [decide_eq_true_eq, decide_eq_false_iff_not, Bool.not_eq_true', Bool.not_eq_false', gt_iff_lt, ge_iff_le, ne_eq, Bool.not_true, Bool.not_false] at *
                    unfold statusB
                    repeat' split
                    all_goals first | omega | (simp only [decide_eq_decide, decide_eq_true_eq, decide_eq_false_iff_not, Bool.false_eq, Bool.true_eq]; omega) | rfl), hw.clear⟩

theorem fits_no {P : Nat → Nat → Bool} {hires : Bool} {y x : Nat} (hy : y < 64) (hx : x < 128) (h : P y x = true) (ho : ¬ (x < wd hires ∧ y < ht hires)) : fitsB P hires = false := by
  cases h2 : fitsB P hires with
  | false => rfl
  | true => exact absurd ((fitsB_iff _ _).1 h2 y hy x hx h) ho
theorem fitsK_all {P : Nat → Nat → Nat → Bool} {hires : Bool} : ∀ {k : Nat}, (∀ j, j < k → fitsB (P j) hires = true) → fitsK P hires k = true
  | 0, _ => rfl
  | k + 1, h => by
    simp only [fitsK]
    rw [fitsK_all (k := k) (fun j hj => h j (by omega)), h k (by omega)]
    rfl


theorem refValid23 (r : Rec) (i : RefIx) (w : World) (h : RefIs w r i) :
    Calls Tryd.prog 15 #[.agg (refV r i)] w fun e w' => e = .returned (.bool (validR r)) ∧ Sat w [] [] w' := by
  obtain ⟨a, c, bb, d, f, R⟩ := i
  obtain ⟨hA, hB, hP⟩ := h
  have hA : Rd w (some ⟨a, 0, none⟩) (plS4 f 4) := hA
  have hB : Rd w (some ⟨bb, 0, none⟩) (r.pat.map (Value.int .u8)) := hB
  have hP : ∀ j, j < 4 → Rd w (some ⟨f j, 0, none⟩) (boolsN 8192 (flatP (r.P j))) := hP
  rw [show refV r ⟨a, c, bb, d, f, R⟩ = #[.slice (some ⟨a, 0, none⟩) 4 c, .bool r.hires, .bool r.sound, .slice (some ⟨bb, 0, none⟩) 16 d, .int .u8 r.pitch, .int .i64 r.kind, .int .i64 r.cause, .int .i64 r.pc, .int .i64 r.cycle] from rfl]
  refine enter Tryd.func15 rfl rfl rfl ?_
  refine r_seq ?_
  refine r_region ?_
  refine r_boxV rfl rfl fun b1 => ?_
  refine r_assign rfl rfl ?_
  refine r_nil ?_
  refine r_tn ?_
  refine r_seq ?_
  refine r_region ?_
  refine r_fieldAddr (off := 1) (o' := 1) rfl rfl rfl rfl ?_
  refine r_load1 rfl rfl rfl (by rfl) ?_
  refine r_call rfl rfl rfl (by kernel_rfl) rfl (fun w hw => by exact width06 r.hires w) ?_
  refine r_assign rfl rfl ?_
  refine r_nil ?_
  refine r_tn ?_
  refine r_seq ?_
  refine r_region ?_
  refine r_fieldAddr (off := 1) (o' := 1) rfl rfl rfl rfl ?_
  refine r_load1 rfl rfl rfl (by rfl) ?_
  refine r_call rfl rfl rfl (by kernel_rfl) rfl (fun w hw => by exact refHeight07 r.hires w) ?_
  refine r_assign rfl rfl ?_
  refine r_nil ?_
  refine r_tn ?_
  refine r_seq ?_
  refine r_seq ?_
  refine r_region ?_
  refine r_assign rfl rfl ?_
  refine r_nil ?_
  refine r_tn ?_
  refine r_block ?_
  refine r_loopN (fun q => [(1, .pointer (some ⟨b1, 0, none⟩)), (3, .int .i64 (wd r.hires : Nat)), (4, .int .i64 (ht r.hires : Nat)), (5, .int .i64 (q : Int))]) (fun q => [.blk b1 (.cells #[.slice (some ⟨a, 0, none⟩) 4 c, .bool r.hires, .bool r.sound, .slice (some ⟨bb, 0, none⟩) 16 d, .int .u8 r.pitch, .int .i64 r.kind, .int .i64 r.cause, .int .i64 r.pc, .int .i64 r.cycle] 35 (0, 0))]) (fun q => q ≤ 4 ∧ ∀ j, j < q → fitsB (r.P j) r.hires = true) 4 0 ⟨by omega, fun j hj => by omega⟩ ⟨rfl, rfl, rfl, rfl, trivial⟩ (fun w hw => hw.sub) fun q hq => ?_
  obtain ⟨hq, hfq⟩ := hq
  refine r_seq ?_
  refine r_seq ?_
  refine r_region ?_
  refine r_move rfl rfl ?_
  refine r_fieldAddr (off := 0) (o' := 0) rfl rfl rfl rfl ?_
  refine r_load1 rfl rfl rfl (by rfl) ?_
  refine r_len rfl rfl rfl ?_
  refine r_lss rfl rfl rfl rfl ?_
  refine r_nil ?_
  refine r_tn ?_
  refine r_cond rfl (fun hc => ?_) (fun hc => ?_)
  · refine r_skip ?_
    refine r_tn ?_
    refine r_seq ?_
    refine r_block ?_
    refine r_seq ?_
    refine r_region ?_
    refine r_assign rfl rfl ?_
    refine r_nil ?_
    refine r_tn ?_
    refine r_block ?_
    have hq2 : q < 4 := by have h := of_decide_eq_true hc; omega
    clear hc
    refine r_loopN (fun y => [(1, .pointer (some ⟨b1, 0, none⟩)), (3, .int .i64 (wd r.hires : Nat)), (4, .int .i64 (ht r.hires : Nat)), (5, .int .i64 (q : Int)), (6, .int .i64 (y : Int))]) (fun y => [.blk b1 (.cells #[.slice (some ⟨a, 0, none⟩) 4 c, .bool r.hires, .bool r.sound, .slice (some ⟨bb, 0, none⟩) 16 d, .int .u8 r.pitch, .int .i64 r.kind, .int .i64 r.cause, .int .i64 r.pc, .int .i64 r.cycle] 35 (0, 0))]) (fun y => y ≤ 64 ∧ ∀ y1, y1 < y → ∀ x1, x1 < 128 → r.P q y1 x1 = true → x1 < wd r.hires ∧ y1 < ht r.hires) 64 0 ⟨by omega, fun y1 h1 => by omega⟩ ⟨rfl, rfl, rfl, rfl, rfl, trivial⟩ (fun w hw => hw.sub) fun y hy => ?_
    obtain ⟨hy, hfy⟩ := hy
    refine r_seq ?_
    refine r_seq ?_
    refine r_region ?_
    refine r_move rfl rfl ?_
    refine r_lss rfl rfl rfl rfl ?_
    refine r_nil ?_
    refine r_tn ?_
    refine r_cond rfl (fun hc => ?_) (fun hc => ?_)
    · refine r_skip ?_
      refine r_tn ?_
      refine r_seq ?_
      refine r_block ?_
      refine r_seq ?_
      refine r_region ?_
      refine r_assign rfl rfl ?_
      refine r_nil ?_
      refine r_tn ?_
      refine r_block ?_
      have hy2 : y < 64 := by have h := of_decide_eq_true hc; omega
      clear hc
      refine r_loopN (fun x => [(1, .pointer (some ⟨b1, 0, none⟩)), (3, .int .i64 (wd r.hires : Nat)), (4, .int .i64 (ht r.hires : Nat)), (5, .int .i64 (q : Int)), (6, .int .i64 (y : Int)), (7, .int .i64 (x : Int))]) (fun x => [.blk b1 (.cells #[.slice (some ⟨a, 0, none⟩) 4 c, .bool r.hires, .bool r.sound, .slice (some ⟨bb, 0, none⟩) 16 d, .int .u8 r.pitch, .int .i64 r.kind, .int .i64 r.cause, .int .i64 r.pc, .int .i64 r.cycle] 35 (0, 0))]) (fun x => x ≤ 128 ∧ ∀ x1, x1 < x → r.P q y x1 = true → x1 < wd r.hires ∧ y < ht r.hires) 128 0 ⟨by omega, fun x1 h1 => by omega⟩ ⟨rfl, rfl, rfl, rfl, rfl, rfl, trivial⟩ (fun w hw => hw.sub) fun x hx => ?_
      obtain ⟨hx, hfx⟩ := hx
      refine r_seq ?_
      refine r_seq ?_
      refine r_region ?_
      refine r_move rfl rfl ?_
      refine r_lss rfl rfl rfl rfl ?_
      refine r_nil ?_
      refine r_tn ?_
      refine r_cond rfl (fun hc => ?_) (fun hc => ?_)
      · refine r_skip ?_
        refine r_tn ?_
        refine r_seq ?_
        refine r_block ?_
        refine r_seq ?_
        refine r_region ?_
        have hx2 : x < 128 := by have h := of_decide_eq_true hc; omega
        clear hc
        refine r_move rfl rfl ?_
        refine r_move rfl rfl ?_
        refine r_geq rfl rfl rfl rfl ?_
        refine r_move rfl rfl ?_
        refine r_split 32 rfl (fun hb32 => ?_) (fun hb32 => ?_)
        · refine r_pass rfl rfl rfl rfl ?_
          refine r_pass rfl rfl rfl rfl ?_
          refine r_pass rfl rfl rfl rfl ?_
          refine r_pick_t rfl rfl rfl ?_
          refine r_move rfl rfl ?_
          refine r_go rfl rfl ?_
          refine r_fieldAddr (off := 0) (o' := 0) rfl rfl rfl rfl ?_
          refine r_go rfl rfl ?_
          refine r_load1 rfl rfl rfl (by rfl) ?_
          refine r_go rfl rfl ?_
          refine r_move rfl rfl ?_
          refine r_go rfl rfl ?_
          refine r_indexSl (sz := 1) (o' := 0 + q) rfl rfl rfl rfl rfl (by omega) (by omega) (by omega) ?_
          refine r_go rfl rfl ?_
          refine r_loadC (p := ⟨a, 0 + q, none⟩) (v := .slice (some ⟨f q, 0, none⟩) 8192 8192) rfl rfl rfl (fun w hw => (hA.keep hw).cell (plS4_at f hq2) rfl) ?_
          refine r_go rfl rfl ?_
          refine r_move rfl rfl ?_
          refine r_go rfl rfl ?_
          refine r_move rfl rfl ?_
          refine r_go rfl rfl ?_
          refine r_call rfl rfl rfl (by kernel_rfl) rfl (fun w hw => by exact refGet07 (r.P q) (x : Int) (y : Int) (f q) 8192 w ((hP q hq2).keep hw) (by omega) (by omega)) ?_
          refine r_pick_t rfl rfl rfl ?_
          refine r_nil ?_
          refine r_tn ?_
          refine r_cond rfl (fun hc => ?_) (fun hc => ?_)
          · refine r_seq ?_
            refine r_region ?_
            refine r_assign rfl rfl ?_
            refine r_nil ?_
            refine r_tn ?_
            refine r_ret ?_
            refine r_br ?_
            refine r_tr ?_
            refine r_tr ?_
            refine r_br ?_
            refine r_br ?_
            refine r_tr ?_
            refine r_tr ?_
            refine r_br ?_
            refine r_br ?_
            refine r_tr ?_
            refine r_tr ?_
            refine r_br ?_
            refine r_tr ?_
            first
              | (have hq4 : q = 4 := by have h := of_decide_eq_false hc; omega
                 subst hq4
                 exact r_done1 (.inl rfl) rfl (res_tmp rfl) fun w hw => ⟨by unfold validR; rw [fitsK_all hfq]; rfl, hw.clear⟩)
              | exact r_done1 (.inl rfl) rfl (res_tmp rfl) fun w hw => ⟨by rw [show validR r = false from valid_no r hq2 (fits_no (y := y) (x := x) hy2 hx2 hc (by first | (have h := of_decide_eq_true hb32; omega) | (have h := of_decide_eq_true hb37; omega)))], hw.clear⟩
          · refine r_skip ?_
            refine r_bn ?_
            refine r_tn ?_
            refine r_region ?_
            refine r_move rfl rfl ?_
            refine r_add rfl rfl rfl (w64 (by omega)) ?_
            refine r_assign rfl rfl ?_
            refine r_nil ?_
            refine r_tn ?_
            exact r_againN (x + 1) ⟨by omega, fun x1 h1 hp1 => by
              by_cases e : x1 = x
              · subst e
                first
                  | (have h2 : r.P q y x1 = false := hc; rw [h2] at hp1; cases hp1)
                  | (have h2 := of_decide_eq_false hb32; have h3 := of_decide_eq_false hb37; omega)
              · exact hfx x1 (by omega) hp1⟩ (by omega) ⟨rfl, rfl, rfl, rfl, rfl, rfl, trivial⟩ (fun w hw => hw.sub)
        · refine r_go rfl rfl ?_
          refine r_move rfl rfl ?_
          refine r_go rfl rfl ?_
          refine r_move rfl rfl ?_
          refine r_go rfl rfl ?_
          refine r_geq rfl rfl rfl rfl ?_
          refine r_pick_f rfl rfl rfl ?_
          refine r_move rfl rfl ?_
          refine r_split 37 rfl (fun hb37 => ?_) (fun hb37 => ?_)
          · refine r_go rfl rfl ?_
            refine r_fieldAddr (off := 0) (o' := 0) rfl rfl rfl rfl ?_
            refine r_go rfl rfl ?_
            refine r_load1 rfl rfl rfl (by rfl) ?_
            refine r_go rfl rfl ?_
            refine r_move rfl rfl ?_
            refine r_go rfl rfl ?_
            refine r_indexSl (sz := 1) (o' := 0 + q) rfl rfl rfl rfl rfl (by omega) (by omega) (by omega) ?_
            refine r_go rfl rfl ?_
            refine r_loadC (p := ⟨a, 0 + q, none⟩) (v := .slice (some ⟨f q, 0, none⟩) 8192 8192) rfl rfl rfl (fun w hw => (hA.keep hw).cell (plS4_at f hq2) rfl) ?_
            refine r_go rfl rfl ?_
            refine r_move rfl rfl ?_
            refine r_go rfl rfl ?_
            refine r_move rfl rfl ?_
            refine r_go rfl rfl ?_
            refine r_call rfl rfl rfl (by kernel_rfl) rfl (fun w hw => by exact refGet07 (r.P q) (x : Int) (y : Int) (f q) 8192 w ((hP q hq2).keep hw) (by omega) (by omega)) ?_
            refine r_pick_t rfl rfl rfl ?_
            refine r_nil ?_
            refine r_tn ?_
            refine r_cond rfl (fun hc => ?_) (fun hc => ?_)
            · refine r_seq ?_
              refine r_region ?_
              refine r_assign rfl rfl ?_
              refine r_nil ?_
              refine r_tn ?_
              refine r_ret ?_
              refine r_br ?_
              refine r_tr ?_
              refine r_tr ?_
              refine r_br ?_
              refine r_br ?_
              refine r_tr ?_
              refine r_tr ?_
              refine r_br ?_
              refine r_br ?_
              refine r_tr ?_
              refine r_tr ?_
              refine r_br ?_
              refine r_tr ?_
              first
                | (have hq4 : q = 4 := by have h := of_decide_eq_false hc; omega
                   subst hq4
                   exact r_done1 (.inl rfl) rfl (res_tmp rfl) fun w hw => ⟨by unfold validR; rw [fitsK_all hfq]; rfl, hw.clear⟩)
                | exact r_done1 (.inl rfl) rfl (res_tmp rfl) fun w hw => ⟨by rw [show validR r = false from valid_no r hq2 (fits_no (y := y) (x := x) hy2 hx2 hc (by first | (have h := of_decide_eq_true hb32; omega) | (have h := of_decide_eq_true hb37; omega)))], hw.clear⟩
            · refine r_skip ?_
              refine r_bn ?_
              refine r_tn ?_
              refine r_region ?_
              refine r_move rfl rfl ?_
              refine r_add rfl rfl rfl (w64 (by omega)) ?_
              refine r_assign rfl rfl ?_
              refine r_nil ?_
              refine r_tn ?_
              exact r_againN (x + 1) ⟨by omega, fun x1 h1 hp1 => by
                by_cases e : x1 = x
                · subst e
                  first
                    | (have h2 : r.P q y x1 = false := hc; rw [h2] at hp1; cases hp1)
                    | (have h2 := of_decide_eq_false hb32; have h3 := of_decide_eq_false hb37; omega)
                · exact hfx x1 (by omega) hp1⟩ (by omega) ⟨rfl, rfl, rfl, rfl, rfl, rfl, trivial⟩ (fun w hw => hw.sub)
          · refine r_pass rfl rfl rfl rfl ?_
            refine r_pass rfl rfl rfl rfl ?_
            refine r_pass rfl rfl rfl rfl ?_
            refine r_pass rfl rfl rfl rfl ?_
            refine r_pass rfl rfl rfl rfl ?_
            refine r_pass rfl rfl rfl rfl ?_
            refine r_pass rfl rfl rfl rfl ?_
            refine r_pass rfl rfl rfl rfl ?_
            refine r_pick_f rfl rfl rfl ?_
            refine r_nil ?_
            refine r_tn ?_
            refine r_cond_f rfl ?_
            refine r_skip ?_
            refine r_bn ?_
            refine r_tn ?_
            refine r_region ?_
            refine r_move rfl rfl ?_
            refine r_add rfl rfl rfl (w64 (by omega)) ?_
            refine r_assign rfl rfl ?_
            refine r_nil ?_
            refine r_tn ?_
            exact r_againN (x + 1) ⟨by omega, fun x1 h1 hp1 => by
              by_cases e : x1 = x
              · subst e
                first
                  | (have h2 : r.P q y x1 = false := hc; rw [h2] at hp1; cases hp1)
                  | (have h2 := of_decide_eq_false hb32; have h3 := of_decide_eq_false hb37; omega)
              · exact hfx x1 (by omega) hp1⟩ (by omega) ⟨rfl, rfl, rfl, rfl, rfl, rfl, trivial⟩ (fun w hw => hw.sub)
      · refine r_exit ?_
        refine r_te ?_
        refine r_te ?_
        refine r_be ?_
        refine r_bn ?_
        refine r_tn ?_
        refine r_region ?_
        refine r_move rfl rfl ?_
        refine r_add rfl rfl rfl (w64 (by omega)) ?_
        refine r_assign rfl rfl ?_
        refine r_nil ?_
        refine r_tn ?_
        have hx128 : x = 128 := by have h := of_decide_eq_false hc; omega
        subst hx128
        exact r_againN (y + 1) ⟨by omega, fun y1 h1 => by
          by_cases e : y1 = y
          · subst e
            exact hfx
          · exact hfy y1 (by omega)⟩ (by omega) ⟨rfl, rfl, rfl, rfl, rfl, trivial⟩ (fun w hw => hw.sub)
    · refine r_exit ?_
      refine r_te ?_
      refine r_te ?_
      refine r_be ?_
      refine r_bn ?_
      refine r_tn ?_
      refine r_region ?_
      refine r_move rfl rfl ?_
      refine r_add rfl rfl rfl (w64 (by omega)) ?_
      refine r_assign rfl rfl ?_
      refine r_nil ?_
      refine r_tn ?_
      have hy64 : y = 64 := by have h := of_decide_eq_false hc; omega
      subst hy64
      exact r_againN (q + 1) ⟨by omega, fun j hj => by
        by_cases e : j = q
        · subst e
          exact (fitsB_iff _ _).2 hfy
        · exact hfq j (by omega)⟩ (by omega) ⟨rfl, rfl, rfl, rfl, trivial⟩ (fun w hw => hw.sub)
  · refine r_exit ?_
    refine r_te ?_
    refine r_te ?_
    refine r_be ?_
    refine r_tn ?_
    refine r_seq ?_
    refine r_region ?_
    refine r_fieldAddr (off := 5) (o' := 5) rfl rfl rfl rfl ?_
    refine r_loadN (m := 4) (vs := #[.int .i64 r.kind, .int .i64 r.cause, .int .i64 r.pc, .int .i64 r.cycle]) rfl rfl rfl rfl (Nat.le_of_ble_eq_true rfl) rfl ?_
    refine r_call rfl rfl rfl (by kernel_rfl) rfl (fun w hw => by exact refStatus23 r.kind r.cause r.pc r.cycle w) ?_
    refine r_assign rfl rfl ?_
    refine r_nil ?_
    refine r_tn ?_
    refine r_ret ?_
    first
      | (have hq4 : q = 4 := by have h := of_decide_eq_false hc; omega
         subst hq4
         exact r_done1 (.inl rfl) rfl (res_tmp rfl) fun w hw => ⟨by unfold validR; rw [fitsK_all hfq]; rfl, hw.clear⟩)
      | exact r_done1 (.inl rfl) rfl (res_tmp rfl) fun w hw => ⟨by rw [show validR r = false from valid_no r hq2 (fits_no (y := y) (x := x) hy2 hx2 hc (by first | (have h := of_decide_eq_true hb32; omega) | (have h := of_decide_eq_true hb37; omega)))], hw.clear⟩
end Go.Proofs.YtdkgnnieehidbaaDoor
