/-
  AluMatchesReference: the arithmetic unit answers as the reference answers.
-/
import Derived.Test.YtddoohbgiieiiaaAw18
import Derived.Test.YtddoohbgiieiiaaRefDo18
namespace Go.Proofs.Ytddoohbgiieiiaa
open Go Go.RowKit
set_option linter.unusedVariables false
set_option linter.unusedSimpArgs false
set_option maxHeartbeats 2000000

theorem outM_ne {op x y nn s : Int} {r : Bool} (h : outM op x y nn s r = none) : op ≠ 8 ∧ op ≠ 9 ∧ op ≠ 10 ∧ op ≠ 11 ∧ op ≠ 12 ∧ op ≠ 13 ∧ op ≠ 14 ∧ op ≠ 15 ∧ op ≠ 16 ∧ op ≠ 17 ∧ op ≠ 18 := by
  refine ⟨?_, ?_, ?_, ?_, ?_, ?_, ?_, ?_, ?_, ?_, ?_⟩ <;> (intro e; subst e; exact absurd h (by rintro ⟨⟩))
theorem refDo18 (l : List Int) (op X Y N NN Ad Ln lv : Int) (a b c r d e f : Bool) (hl : l.length = 16) (hr : ∀ i, 0 ≤ l.getD i 0 ∧ l.getD i 0 ≤ 255) (hX : 0 ≤ X ∧ X ≤ 15) (hY : 0 ≤ Y ∧ Y ≤ 15) (hN : 0 ≤ NN ∧ NN ≤ 255) (x y s : Int) (hxe : l.getD X.toNat 0 = x) (hye : l.getD Y.toNat 0 = y) (hs : (if a then y else x) = s) {res flg : Int} (h : outM op x y NN s r = some (res, flg)) (w : World) :
    Calls Try.prog 11 #[.agg (fl l), .agg (ins op X Y N NN Ad Ln), .agg (pro lv a b c r d e f)] w fun e w' => e = .returned (.tuple #[.agg (fl (doL l X res flg)), .bool true]) ∧ Sat w [] [] w' := by
  by_cases hop : op = 8
  · subst hop
    have h2 : outM 8 x y NN s r = some _ := rfl
    rw [h2] at h
    injection h with h
    injection h with h3 h4
    subst h3; subst h4
    exact refDo_8 l X Y N NN Ad Ln lv a b c r d e f hl hr hX hY hN x y s hxe hye hs w
  by_cases hop : op = 9
  · subst hop
    have h2 : outM 9 x y NN s r = some _ := rfl
    rw [h2] at h
    injection h with h
    injection h with h3 h4
    subst h3; subst h4
    exact refDo_9 l X Y N NN Ad Ln lv a b c r d e f hl hr hX hY hN x y s hxe hye hs w
  by_cases hop : op = 10
  · subst hop
    have h2 : outM 10 x y NN s r = some _ := rfl
    rw [h2] at h
    injection h with h
    injection h with h3 h4
    subst h3; subst h4
    exact refDo_10 l X Y N NN Ad Ln lv a b c r d e f hl hr hX hY hN x y s hxe hye hs w
  by_cases hop : op = 11
  · subst hop
    have h2 : outM 11 x y NN s r = some _ := rfl
    rw [h2] at h
    injection h with h
    injection h with h3 h4
    subst h3; subst h4
    exact refDo_11 l X Y N NN Ad Ln lv a b c r d e f hl hr hX hY hN x y s hxe hye hs w
  by_cases hop : op = 12
  · subst hop
    have h2 : outM 12 x y NN s r = some _ := rfl
    rw [h2] at h
    injection h with h
    injection h with h3 h4
    subst h3; subst h4
    exact refDo_12 l X Y N NN Ad Ln lv a b c r d e f hl hr hX hY hN x y s hxe hye hs w
  by_cases hop : op = 13
  · subst hop
    have h2 : outM 13 x y NN s r = some _ := rfl
    rw [h2] at h
    injection h with h
    injection h with h3 h4
    subst h3; subst h4
    exact refDo_13 l X Y N NN Ad Ln lv a b c r d e f hl hr hX hY hN x y s hxe hye hs w
  by_cases hop : op = 14
  · subst hop
    have h2 : outM 14 x y NN s r = some _ := rfl
    rw [h2] at h
    injection h with h
    injection h with h3 h4
    subst h3; subst h4
    exact refDo_14 l X Y N NN Ad Ln lv a b c r d e f hl hr hX hY hN x y s hxe hye hs w
  by_cases hop : op = 15
  · subst hop
    have h2 : outM 15 x y NN s r = some _ := rfl
    rw [h2] at h
    injection h with h
    injection h with h3 h4
    subst h3; subst h4
    exact refDo_15 l X Y N NN Ad Ln lv a b c r d e f hl hr hX hY hN x y s hxe hye hs w
  by_cases hop : op = 16
  · subst hop
    have h2 : outM 16 x y NN s r = some _ := rfl
    rw [h2] at h
    injection h with h
    injection h with h3 h4
    subst h3; subst h4
    exact refDo_16 l X Y N NN Ad Ln lv a b c r d e f hl hr hX hY hN x y s hxe hye hs w
  by_cases hop : op = 17
  · subst hop
    have h2 : outM 17 x y NN s r = some _ := rfl
    rw [h2] at h
    injection h with h
    injection h with h3 h4
    subst h3; subst h4
    exact refDo_17 l X Y N NN Ad Ln lv a b c r d e f hl hr hX hY hN x y s hxe hye hs w
  by_cases hop : op = 18
  · subst hop
    have h2 : outM 18 x y NN s r = some _ := rfl
    rw [h2] at h
    injection h with h
    injection h with h3 h4
    subst h3; subst h4
    exact refDo_18 l X Y N NN Ad Ln lv a b c r d e f hl hr hX hY hN x y s hxe hye hs w
  exfalso
  simp_all [outM]

theorem do_any (l : List Int) (op X Y N NN Ad Ln lv : Int) (a b c r d e f : Bool) (hl : l.length = 16) (hr : ∀ i, 0 ≤ l.getD i 0 ∧ l.getD i 0 ≤ 255) (hX : 0 ≤ X ∧ X ≤ 15) (hY : 0 ≤ Y ∧ Y ≤ 15) (hN : 0 ≤ NN ∧ NN ≤ 255) : ∃ (l2 : List Int) (ok : Bool), l2.length = 16 ∧ (∀ w, Calls Try.prog 10 #[.agg (fl l), .agg (ins op X Y N NN Ad Ln), .agg (pro lv a b c r d e f)] w fun e w' => e = .returned (.tuple #[.agg (fl l2), .bool ok]) ∧ Sat w [] [] w') ∧ (∀ w, Calls Try.prog 11 #[.agg (fl l), .agg (ins op X Y N NN Ad Ln), .agg (pro lv a b c r d e f)] w fun e w' => e = .returned (.tuple #[.agg (fl l2), .bool ok]) ∧ Sat w [] [] w') := by
  obtain ⟨x, hxe⟩ : ∃ x, l.getD X.toNat 0 = x := ⟨_, rfl⟩
  obtain ⟨y, hye⟩ : ∃ y, l.getD Y.toNat 0 = y := ⟨_, rfl⟩
  obtain ⟨s, hs⟩ : ∃ s, (if a then y else x) = s := ⟨_, rfl⟩
  cases h : outM op x y NN s r with
  | none => exact ⟨l, false, hl, fun w => do_none l op X Y N NN Ad Ln lv a b c r d e f hl h w, fun w => refDo_none l op X Y N NN Ad Ln lv a b c r d e f hl hr hX hY hN x y s hxe hye hs (outM_ne h) w⟩
  | some q =>
    obtain ⟨res, flg⟩ := q
    exact ⟨doL l X res flg, true, doL_len hl _ _ _, fun w => do18 l op X Y N NN Ad Ln lv a b c r d e f hl hr hX hY hN (by rw [hxe, hye, hs]; exact h) w, fun w => refDo18 l op X Y N NN Ad Ln lv a b c r d e f hl hr hX hY hN x y s hxe hye hs h w⟩


theorem AluMatches_no (l : List Int) (op X Y N NN Ad Ln lv : Int) (a b c r d e f : Bool) (n : Int) (W : World) (hl : l.length = 16) (hR : rightM X Y NN = false) :
    Calls Try.prog 3 #[.agg (fl l), .agg (ins op X Y N NN Ad Ln), .agg (pro lv a b c r d e f), .int .u8 n] W fun e w' => e = .returned (.bool true) ∧ Sat W [] [] w' := by
  refine enter Try.func3 rfl rfl rfl ?_
  refine r_seq ?_
  refine r_region ?_
  refine r_boxV rfl rfl fun b4 => ?_
  refine r_boxV rfl rfl fun b5 => ?_
  refine r_boxV rfl rfl fun b6 => ?_
  refine r_assign rfl rfl ?_
  refine r_nil ?_
  refine r_tn ?_
  refine r_seq ?_
  refine r_seq ?_
  refine r_region ?_
  refine r_call rfl rfl rfl (by kernel_rfl) rfl (fun w hw => by exact awake18 w) ?_
  refine r_not rfl rfl rfl ?_
  refine r_move rfl rfl ?_
  refine r_go rfl rfl ?_
  refine r_loadV rfl rfl rfl rfl rfl ?_
  refine r_go rfl rfl ?_
  refine r_call (v := .bool false) rfl rfl rfl (by kernel_rfl) rfl (fun w hw => by have h := right18 op X Y N NN Ad Ln w; rw [hR] at h; exact h) ?_
  refine r_go rfl rfl ?_
  refine r_not rfl rfl rfl ?_
  refine r_pick_f rfl rfl rfl ?_
  refine r_nil ?_
  refine r_tn ?_
  refine r_cond_t rfl ?_
  refine r_seq ?_
  refine r_region ?_
  refine r_call rfl rfl rfl (by kernel_rfl) rfl (fun w hw => by exact awake18 w) ?_
  refine r_assign rfl rfl ?_
  refine r_nil ?_
  refine r_tn ?_
  refine r_ret ?_
  refine r_tr ?_
  exact r_done1 (.inl rfl) rfl (res_tmp rfl) fun w hw => ⟨rfl, hw.clear⟩

theorem AluMatches_yes (l : List Int) (op X Y N NN Ad Ln lv : Int) (a b c r d e f : Bool) (n : Int) (W : World) (hl : l.length = 16) (hr : ∀ i, 0 ≤ l.getD i 0 ∧ l.getD i 0 ≤ 255) (hX : 0 ≤ X ∧ X ≤ 15) (hY : 0 ≤ Y ∧ Y ≤ 15) (hN : 0 ≤ NN ∧ NN ≤ 255) (hn : 0 ≤ n ∧ n ≤ 255) (hR : rightM X Y NN = true) :
    Calls Try.prog 3 #[.agg (fl l), .agg (ins op X Y N NN Ad Ln), .agg (pro lv a b c r d e f), .int .u8 n] W fun e w' => e = .returned (.bool true) ∧ Sat W [] [] w' := by
  obtain ⟨l2, ok, hl2, hdo, href⟩ := do_any l op X Y N NN Ad Ln lv a b c r d e f hl hr hX hY hN
  refine enter Try.func3 rfl rfl rfl ?_
  refine r_seq ?_
  refine r_region ?_
  refine r_boxV rfl rfl fun b4 => ?_
  refine r_boxV rfl rfl fun b5 => ?_
  refine r_boxV rfl rfl fun b6 => ?_
  refine r_assign rfl rfl ?_
  refine r_nil ?_
  refine r_tn ?_
  refine r_seq ?_
  refine r_seq ?_
  refine r_region ?_
  refine r_call rfl rfl rfl (by kernel_rfl) rfl (fun w hw => by exact awake18 w) ?_
  refine r_not rfl rfl rfl ?_
  refine r_move rfl rfl ?_
  refine r_go rfl rfl ?_
  refine r_loadV rfl rfl rfl rfl rfl ?_
  refine r_go rfl rfl ?_
  refine r_call (v := .bool true) rfl rfl rfl (by kernel_rfl) rfl (fun w hw => by have h := right18 op X Y N NN Ad Ln w; rw [hR] at h; exact h) ?_
  refine r_go rfl rfl ?_
  refine r_not rfl rfl rfl ?_
  refine r_pick_f rfl rfl rfl ?_
  refine r_nil ?_
  refine r_tn ?_
  refine r_cond_f rfl ?_
  refine r_skip ?_
  refine r_tn ?_
  refine r_seq ?_
  refine r_region ?_
  refine r_loadV rfl rfl rfl rfl (fl_size hl) ?_
  refine r_loadV rfl rfl rfl rfl rfl ?_
  refine r_loadV rfl rfl rfl rfl rfl ?_
  refine r_call rfl rfl rfl (by kernel_rfl) rfl (fun w hw => by exact hdo w) ?_
  refine r_move rfl rfl ?_
  refine r_extract rfl rfl rfl ?_
  refine r_extract rfl rfl rfl ?_
  refine r_allocV (cs := fl (List.replicate 16 0)) rfl rfl fun b9 => ?_
  refine r_storeV rfl rfl rfl (fl_size hl2) rfl (fl_one _) ?_
  refine r_assign rfl rfl ?_
  refine r_nil ?_
  refine r_tn ?_
  refine r_seq ?_
  refine r_region ?_
  refine r_loadV rfl rfl rfl rfl (fl_size hl) ?_
  refine r_loadV rfl rfl rfl rfl rfl ?_
  refine r_loadV rfl rfl rfl rfl rfl ?_
  refine r_call rfl rfl rfl (by kernel_rfl) rfl (fun w hw => by exact href w) ?_
  refine r_move rfl rfl ?_
  refine r_extract rfl rfl rfl ?_
  refine r_extract rfl rfl rfl ?_
  refine r_allocV (cs := fl (List.replicate 16 0)) rfl rfl fun b11 => ?_
  refine r_storeV rfl rfl rfl (fl_size hl2) rfl (fl_one _) ?_
  refine r_assign rfl rfl ?_
  refine r_nil ?_
  refine r_tn ?_
  refine r_seq ?_
  refine r_region ?_
  refine r_loadV rfl rfl rfl rfl (fl_size hl) ?_
  refine r_loadV rfl rfl rfl rfl rfl ?_
  refine r_call rfl rfl rfl (by kernel_rfl) rfl (fun w hw => by exact skips18 l op X Y N NN Ad Ln hl hr hX hY w) ?_
  refine r_move rfl rfl ?_
  refine r_extract rfl rfl rfl ?_
  refine r_extract rfl rfl rfl ?_
  refine r_assign rfl rfl ?_
  refine r_assign rfl rfl ?_
  refine r_nil ?_
  refine r_tn ?_
  refine r_seq ?_
  refine r_region ?_
  refine r_loadV rfl rfl rfl rfl (fl_size hl) ?_
  refine r_loadV rfl rfl rfl rfl rfl ?_
  refine r_call rfl rfl rfl (by kernel_rfl) rfl (fun w hw => by exact refSkips18 l op X Y N NN Ad Ln hl hr hX hY w) ?_
  refine r_move rfl rfl ?_
  refine r_extract rfl rfl rfl ?_
  refine r_extract rfl rfl rfl ?_
  refine r_assign rfl rfl ?_
  refine r_assign rfl rfl ?_
  refine r_nil ?_
  refine r_tn ?_
  refine r_seq ?_
  refine r_region ?_
  refine r_move rfl rfl ?_
  refine r_call rfl rfl rfl (by kernel_rfl) rfl (fun w hw => by exact digits18 n hn w) ?_
  refine r_allocV (cs := #[.int .u8 0, .int .u8 0, .int .u8 0]) rfl rfl fun b17 => ?_
  refine r_storeV rfl rfl rfl rfl rfl rfl ?_
  refine r_nil ?_
  refine r_tn ?_
  refine r_seq ?_
  refine r_region ?_
  refine r_loadV rfl rfl rfl rfl (fl_size hl2) ?_
  refine r_loadV rfl rfl rfl rfl (fl_size hl2) ?_
  refine r_eqlAgg rfl rfl rfl vFlat (fl_ok hl2) (fl_ok hl2) (fl_self hl2) ?_
  refine r_move rfl rfl ?_
  refine r_go rfl rfl ?_
  refine r_move rfl rfl ?_
  refine r_go rfl rfl ?_
  refine r_move rfl rfl ?_
  refine r_go rfl rfl ?_
  refine r_eql_bool rfl rfl rfl rfl (beq_self_eq_true _) ?_
  refine r_pick_t rfl rfl rfl ?_
  refine r_move rfl rfl ?_
  refine r_go rfl rfl ?_
  refine r_move rfl rfl ?_
  refine r_go rfl rfl ?_
  refine r_move rfl rfl ?_
  refine r_go rfl rfl ?_
  refine r_eql_bool rfl rfl rfl rfl (beq_self_eq_true _) ?_
  refine r_pick_t rfl rfl rfl ?_
  refine r_move rfl rfl ?_
  refine r_go rfl rfl ?_
  refine r_move rfl rfl ?_
  refine r_go rfl rfl ?_
  refine r_move rfl rfl ?_
  refine r_go rfl rfl ?_
  refine r_eql_bool rfl rfl rfl rfl (beq_self_eq_true _) ?_
  refine r_pick_t rfl rfl rfl ?_
  refine r_move rfl rfl ?_
  refine r_go rfl rfl ?_
  refine r_loadV rfl rfl rfl rfl rfl ?_
  refine r_go rfl rfl ?_
  refine r_move rfl rfl ?_
  refine r_go rfl rfl ?_
  refine r_quo rfl rfl rfl (by decide) (div8 hn (by decide)) ?_
  refine r_go rfl rfl ?_
  refine r_move rfl rfl ?_
  refine r_go rfl rfl ?_
  refine r_quo rfl rfl rfl (by decide) (div8 hn (by decide)) ?_
  refine r_go rfl rfl ?_
  refine r_rem rfl rfl rfl (by decide) (mod8 (by omega)) ?_
  refine r_go rfl rfl ?_
  refine r_move rfl rfl ?_
  refine r_go rfl rfl ?_
  refine r_rem rfl rfl rfl (by decide) (mod8 hn.1) ?_
  refine r_go rfl rfl ?_
  refine r_build (cells := #[.int .u8 (n / 100), .int .u8 (n / 10 % 10), .int .u8 (n % 10)]) rfl rfl (by kernel_rfl) ?_
  refine r_go rfl rfl ?_
  refine r_eqlAgg rfl rfl rfl dFlat rfl rfl (cellsEq_self (ks := List.replicate 3 (.i .u8)) rfl) ?_
  refine r_pick_t rfl rfl rfl ?_
  refine r_assign rfl rfl ?_
  refine r_nil ?_
  refine r_tn ?_
  refine r_ret ?_
  exact r_done1 (.inl rfl) rfl (res_tmp rfl) fun w hw => ⟨rfl, hw.clear⟩

theorem right_rng {X Y NN : Int} (h : rightM X Y NN = true) : (0 ≤ X ∧ X ≤ 15) ∧ (0 ≤ Y ∧ Y ≤ 15) ∧ (0 ≤ NN ∧ NN ≤ 255) := by
  simp only [rightM, Bool.and_eq_true, decide_eq_true_eq] at h
  omega
theorem AluMatchesReference_walk (l : List Int) (op X Y N NN Ad Ln lv : Int) (a b c r d e f : Bool) (n : Int) (W : World) (hl : l.length = 16) (hw : l.all (fun x => decide (0 ≤ x) && decide (x ≤ 255)) = true) (_ : (Lit.int .i64 op).wf = true) (_ : (Lit.int .i64 X).wf = true) (_ : (Lit.int .i64 Y).wf = true) (_ : (Lit.int .i64 N).wf = true) (_ : (Lit.int .i64 NN).wf = true) (_ : (Lit.int .i64 Ad).wf = true) (_ : (Lit.int .i64 Ln).wf = true) (_ : (Lit.int .i64 lv).wf = true) (wn : (Lit.int .u8 n).wf = true) :
    Calls Try.prog 3 #[.agg (fl l), .agg (ins op X Y N NN Ad Ln), .agg (pro lv a b c r d e f), .int .u8 n] W fun e w' => e = .returned (.bool true) ∧ Sat W [] [] w' := by
  cases hR : rightM X Y NN with
  | false => exact AluMatches_no l op X Y N NN Ad Ln lv a b c r d e f n W hl hR
  | true =>
    obtain ⟨h1, h2, h3⟩ := right_rng hR
    exact AluMatches_yes l op X Y N NN Ad Ln lv a b c r d e f n W hl (getD_rng hw) h1 h2 h3 (wf8 wn) hR
end Go.Proofs.Ytddoohbgiieiiaa
