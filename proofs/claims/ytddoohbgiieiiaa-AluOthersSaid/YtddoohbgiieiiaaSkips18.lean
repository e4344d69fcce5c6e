/-
  The arithmetic unit (chapter 18): Skips and Digits by plain functions; the reference s Skips by the same.
-/
import Derived.Test.YtddoohbgiieiiaaDo18
namespace Go.Proofs.Ytddoohbgiieiiaa
open Go Go.RowKit
set_option linter.unusedVariables false
set_option linter.unusedSimpArgs false
set_option maxHeartbeats 2000000

def opk : Nat → Int | 0 => 5 | 1 => 6 | 2 => 7 | _ => 19
def fk : Nat → Nat | 0 => 18 | 1 => 19 | 2 => 20 | _ => 21
def holdsM : Nat → Int → Int → Int → Bool | 0, x, _, nn => decide (x = nn) | 1, x, _, nn => decide (x ≠ nn) | 2, x, y, _ => decide (x = y) | _, x, y, _ => decide (x ≠ y)
def skM (op x y nn : Int) : Bool × Bool := if op = 5 then (decide (x = nn), true) else if op = 6 then (decide (x ≠ nn), true) else if op = 7 then (decide (x = y), true) else if op = 19 then (decide (x ≠ y), true) else (false, false)
def condC : Array Value := #[.int .i64 5, .func (.func 18) #[] #[], .int .i64 6, .func (.func 19) #[] #[], .int .i64 7, .func (.func 20) #[] #[], .int .i64 19, .func (.func 21) #[] #[]]
theorem cond_at : ∀ k, k < 4 → condC.extract (k * 2) (k * 2 + 2) = #[.int .i64 (opk k), .func (.func (fk k)) #[] #[]]
  | 0, _ => rfl | 1, _ => rfl | 2, _ => rfl | 3, _ => rfl | k + 4, h => by omega
theorem fk_call : ∀ k, k < 4 → callable Try.prog (fk k) = true
  | 0, _ => by kernel_rfl | 1, _ => by kernel_rfl | 2, _ => by kernel_rfl | 3, _ => by kernel_rfl | k + 4, h => by omega
theorem sk_of {op x y nn : Int} : ∀ k, k < 4 → opk k = op → skM op x y nn = (holdsM k x y nn, true)
  | 0, _, h => by subst h; rfl | 1, _, h => by subst h; rfl | 2, _, h => by subst h; rfl | 3, _, h => by subst h; rfl | k + 4, h, _ => by omega
theorem sk_none {op x y nn : Int} (h : ∀ j, j < 4 → opk j ≠ op) : skM op x y nn = (false, false) := by
  have h0 := h 0 (by decide)
  have h1 := h 1 (by decide)
  have h2 := h 2 (by decide)
  have h3 := h 3 (by decide)
  simp only [opk] at h0 h1 h2 h3
  unfold skM
  rw [if_neg (Ne.symm h0), if_neg (Ne.symm h1), if_neg (Ne.symm h2), if_neg (Ne.symm h3)]


theorem skip18_1 (x y nn : Int) (w : World) :
    Calls Try.prog 18 #[.int .i64 x, .int .i64 y, .int .i64 nn] w fun e w' => e = .returned (.bool (decide (x = nn))) ∧ Sat w [] [] w' := by
  refine enter Try.func18 rfl rfl rfl ?_
  refine r_seq ?_
  refine r_region ?_
  refine r_assign rfl rfl ?_
  refine r_nil ?_
  refine r_tn ?_
  refine r_seq ?_
  refine r_region ?_
  refine r_move rfl rfl ?_
  refine r_move rfl rfl ?_
  refine r_eql rfl rfl rfl rfl ?_
  refine r_assign rfl rfl ?_
  refine r_nil ?_
  refine r_tn ?_
  refine r_ret ?_
  exact r_done1 (.inl rfl) rfl (res_tmp rfl) fun w hw => ⟨rfl, hw.clear⟩

theorem skip18_2 (x y nn : Int) (w : World) :
    Calls Try.prog 19 #[.int .i64 x, .int .i64 y, .int .i64 nn] w fun e w' => e = .returned (.bool (decide (x ≠ nn))) ∧ Sat w [] [] w' := by
  refine enter Try.func19 rfl rfl rfl ?_
  refine r_seq ?_
  refine r_region ?_
  refine r_assign rfl rfl ?_
  refine r_nil ?_
  refine r_tn ?_
  refine r_seq ?_
  refine r_region ?_
  refine r_move rfl rfl ?_
  refine r_move rfl rfl ?_
  refine r_neq rfl rfl rfl rfl ?_
  refine r_assign rfl rfl ?_
  refine r_nil ?_
  refine r_tn ?_
  refine r_ret ?_
  exact r_done1 (.inl rfl) rfl (res_tmp rfl) fun w hw => ⟨rfl, hw.clear⟩

theorem skip18_3 (x y nn : Int) (w : World) :
    Calls Try.prog 20 #[.int .i64 x, .int .i64 y, .int .i64 nn] w fun e w' => e = .returned (.bool (decide (x = y))) ∧ Sat w [] [] w' := by
  refine enter Try.func20 rfl rfl rfl ?_
  refine r_seq ?_
  refine r_region ?_
  refine r_assign rfl rfl ?_
  refine r_nil ?_
  refine r_tn ?_
  refine r_seq ?_
  refine r_region ?_
  refine r_move rfl rfl ?_
  refine r_move rfl rfl ?_
  refine r_eql rfl rfl rfl rfl ?_
  refine r_assign rfl rfl ?_
  refine r_nil ?_
  refine r_tn ?_
  refine r_ret ?_
  exact r_done1 (.inl rfl) rfl (res_tmp rfl) fun w hw => ⟨rfl, hw.clear⟩

theorem skip18_4 (x y nn : Int) (w : World) :
    Calls Try.prog 21 #[.int .i64 x, .int .i64 y, .int .i64 nn] w fun e w' => e = .returned (.bool (decide (x ≠ y))) ∧ Sat w [] [] w' := by
  refine enter Try.func21 rfl rfl rfl ?_
  refine r_seq ?_
  refine r_region ?_
  refine r_assign rfl rfl ?_
  refine r_nil ?_
  refine r_tn ?_
  refine r_seq ?_
  refine r_region ?_
  refine r_move rfl rfl ?_
  refine r_move rfl rfl ?_
  refine r_neq rfl rfl rfl rfl ?_
  refine r_assign rfl rfl ?_
  refine r_nil ?_
  refine r_tn ?_
  refine r_ret ?_
  exact r_done1 (.inl rfl) rfl (res_tmp rfl) fun w hw => ⟨rfl, hw.clear⟩

theorem skip18 (x y nn : Int) (w : World) : ∀ k, k < 4 → Calls Try.prog (fk k) #[.int .i64 x, .int .i64 y, .int .i64 nn] w fun e w' => e = .returned (.bool (holdsM k x y nn)) ∧ Sat w [] [] w'
  | 0, _ => skip18_1 x y nn w | 1, _ => skip18_2 x y nn w | 2, _ => skip18_3 x y nn w | 3, _ => skip18_4 x y nn w | k + 4, h => by omega


set_option maxRecDepth 4000 in
theorem skips18 (l : List Int) (op X Y N NN Ad Ln : Int) (hl : l.length = 16) (hr : ∀ i, 0 ≤ l.getD i 0 ∧ l.getD i 0 ≤ 255) (hX : 0 ≤ X ∧ X ≤ 15) (hY : 0 ≤ Y ∧ Y ≤ 15) (w : World) :
    Calls Try.prog 12 #[.agg (fl l), .agg (ins op X Y N NN Ad Ln)] w fun e w' => e = .returned (.tuple #[.bool (skM op (l.getD X.toNat 0) (l.getD Y.toNat 0) NN).1, .bool (skM op (l.getD X.toNat 0) (l.getD Y.toNat 0) NN).2]) ∧ Sat w [] [] w' := by
  refine enter Try.func12 rfl rfl rfl ?_
  refine r_seq ?_
  refine r_region ?_
  refine r_boxV rfl rfl fun b2 => ?_
  refine r_boxV rfl rfl fun b3 => ?_
  refine r_assign rfl rfl ?_
  refine r_assign rfl rfl ?_
  refine r_nil ?_
  refine r_tn ?_
  refine r_seq ?_
  refine r_seq ?_
  refine r_region ?_
  refine r_build (cells := #[.int .i64 5, .func (.func 18) #[] #[]]) rfl rfl (by kernel_rfl) ?_
  refine r_build (cells := #[.int .i64 6, .func (.func 19) #[] #[]]) rfl rfl (by kernel_rfl) ?_
  refine r_build (cells := #[.int .i64 7, .func (.func 20) #[] #[]]) rfl rfl (by kernel_rfl) ?_
  refine r_build (cells := #[.int .i64 19, .func (.func 21) #[] #[]]) rfl rfl (by kernel_rfl) ?_
  refine r_build (cells := condC) rfl rfl (by kernel_rfl) ?_
  refine r_move rfl rfl ?_
  refine r_nil ?_
  refine r_tn ?_
  refine r_block ?_
  refine r_loopN (fun k => [(2, .pointer (some ⟨b2, 0, none⟩)), (3, .pointer (some ⟨b3, 0, none⟩)), (12, .agg condC), (13, .int .i64 (k : Int))]) (fun k => [.blk b2 (.cells (fl l) 22 (0, 0)), .blk b3 (.cells (ins op X Y N NN Ad Ln) 24 (0, 0))]) (fun k => k ≤ 4 ∧ ∀ j, j < k → opk j ≠ op) 4 0 ⟨by omega, fun j hj => absurd hj (Nat.not_lt_zero j)⟩ ⟨rfl, rfl, rfl, rfl, trivial⟩ (fun w hw => hw.sub) fun k hk => ?_
  refine r_seq ?_
  refine r_region ?_
  refine r_lss rfl rfl rfl rfl ?_
  refine r_nil ?_
  refine r_tn ?_
  refine r_seq ?_
  refine r_cond rfl (fun hc => ?_) (fun hc => ?_)
  · refine r_skip ?_
    refine r_tn ?_
    refine r_seq ?_
    refine r_block ?_
    refine r_seq ?_
    refine r_region ?_
    have hk4 : k < 4 := by have h := of_decide_eq_true hc; omega
    refine r_indexAgg (sz := 2) (i' := k) rfl rfl rfl rfl rfl rfl rfl hk4 (cond_at k hk4) ?_
    refine r_allocV (cs := #[.int .i64 0, .nilFunc]) rfl rfl fun b7 => ?_
    refine r_storeV rfl rfl rfl rfl rfl rfl ?_
    refine r_nil ?_
    refine r_tn ?_
    refine r_seq ?_
    refine r_region ?_
    refine r_fieldAddr (off := 0) (o' := 0) rfl rfl rfl rfl ?_
    refine r_load1 rfl rfl rfl (by rfl) ?_
    refine r_fieldAddr (off := 0) rfl rfl rfl rfl ?_
    refine r_load1 rfl rfl rfl (by rfl) ?_
    refine r_eql rfl rfl rfl rfl ?_
    refine r_nil ?_
    refine r_tn ?_
    refine r_cond rfl (fun hc => ?_) (fun hc => ?_)
    · refine r_seq ?_
      refine r_mixed (by kernel_rfl) (by kernel_rfl) ?_
      refine r_fieldAddr (off := 1) (o' := 1) rfl rfl rfl rfl ?_
      refine r_load1 rfl rfl rfl (by rfl) ?_
      refine r_fieldAddr (off := 1) rfl rfl rfl rfl ?_
      refine r_load1 rfl rfl rfl (by rfl) ?_
      refine r_indexArr (sz := 1) rfl rfl rfl rfl rfl (by omega) (by omega) (show _ = X.toNat by simp) ?_
      refine r_load1 rfl rfl rfl (fl_at (k := X.toNat) (by omega)) ?_
      refine r_convert rfl rfl rfl rfl (w64 (by have := hr X.toNat; omega)) ?_
      refine r_fieldAddr (off := 2) rfl rfl rfl rfl ?_
      refine r_load1 rfl rfl rfl (by rfl) ?_
      refine r_indexArr (sz := 1) rfl rfl rfl rfl rfl (by omega) (by omega) (show _ = Y.toNat by simp) ?_
      refine r_load1 rfl rfl rfl (fl_at (k := Y.toNat) (by omega)) ?_
      refine r_convert rfl rfl rfl rfl (w64 (by have := hr Y.toNat; omega)) ?_
      refine r_fieldAddr (off := 4) rfl rfl rfl rfl ?_
      refine r_load1 rfl rfl rfl (by rfl) ?_
      refine r_call rfl rfl rfl (fk_call k hk4) rfl (fun w hw => by exact skip18 (l.getD X.toNat 0) (l.getD Y.toNat 0) NN w k hk4) ?_
      refine r_assign rfl rfl ?_
      refine r_assign rfl rfl ?_
      refine r_nil ?_
      refine r_tn ?_
      refine r_ret ?_
      refine r_br ?_
      refine r_tr ?_
      refine r_tr ?_
      refine r_br ?_
      refine r_tr ?_
      have he := sk_of (x := (l.getD X.toNat 0)) (y := (l.getD Y.toNat 0)) (nn := NN) k hk4 (of_decide_eq_true hc)
      exact r_done2 (.inl rfl) rfl (res_tmp rfl) (res_tmp rfl) fun w hw => ⟨by rw [he], hw.clear⟩
    · refine r_skip ?_
      refine r_bn ?_
      refine r_tn ?_
      refine r_region ?_
      refine r_add rfl rfl rfl (w64 (by omega)) ?_
      refine r_move rfl rfl ?_
      refine r_nil ?_
      refine r_tn ?_
      refine r_againN (k + 1) ⟨by omega, fun j hj => ?_⟩ (by omega) ⟨rfl, rfl, rfl, rfl, trivial⟩ (fun w hw => hw.sub)
      have hne : opk k ≠ op := of_decide_eq_false hc
      rcases Nat.lt_succ_iff_lt_or_eq.1 hj with h | h
      · exact hk.2 j h
      · subst h; exact hne
  · refine r_exit ?_
    refine r_te ?_
    refine r_te ?_
    refine r_be ?_
    refine r_tn ?_
    refine r_seq ?_
    refine r_region ?_
    refine r_assign rfl rfl ?_
    refine r_assign rfl rfl ?_
    refine r_nil ?_
    refine r_tn ?_
    refine r_ret ?_
    have hk4 : k = 4 := by have h := of_decide_eq_false hc; omega
    subst hk4
    have he := sk_none (x := (l.getD X.toNat 0)) (y := (l.getD Y.toNat 0)) (nn := NN) hk.2
    exact r_done2 (.inl rfl) rfl (res_tmp rfl) (res_tmp rfl) fun w hw => ⟨by rw [he], hw.clear⟩

theorem refSkips18 (l : List Int) (op X Y N NN Ad Ln : Int) (hl : l.length = 16) (hr : ∀ i, 0 ≤ l.getD i 0 ∧ l.getD i 0 ≤ 255) (hX : 0 ≤ X ∧ X ≤ 15) (hY : 0 ≤ Y ∧ Y ≤ 15) (w : World) :
    Calls Try.prog 13 #[.agg (fl l), .agg (ins op X Y N NN Ad Ln)] w fun e w' => e = .returned (.tuple #[.bool (skM op (l.getD X.toNat 0) (l.getD Y.toNat 0) NN).1, .bool (skM op (l.getD X.toNat 0) (l.getD Y.toNat 0) NN).2]) ∧ Sat w [] [] w' := by
  refine enter Try.func13 rfl rfl rfl ?_
  refine r_seq ?_
  refine r_region ?_
  refine r_boxV rfl rfl fun b2 => ?_
  refine r_boxV rfl rfl fun b3 => ?_
  refine r_assign rfl rfl ?_
  refine r_assign rfl rfl ?_
  refine r_nil ?_
  refine r_tn ?_
  refine r_seq ?_
  refine r_seq ?_
  refine r_region ?_
  refine r_fieldAddr (off := 0) (o' := 0) rfl rfl rfl rfl ?_
  refine r_load1 rfl rfl rfl (by rfl) ?_
  refine r_nil ?_
  refine r_tn ?_
  refine r_block ?_
  refine r_seq ?_
  refine r_region ?_
  refine r_eql rfl rfl rfl rfl ?_
  refine r_assign rfl rfl ?_
  refine r_nil ?_
  refine r_tn ?_
  refine r_cond rfl (fun hc => ?_) (fun hc => ?_)
  · refine r_seq ?_
    refine r_mixed (by kernel_rfl) (by kernel_rfl) ?_
    refine r_fieldAddr (off := 1) (o' := 1) rfl rfl rfl rfl ?_
    refine r_load1 rfl rfl rfl (by rfl) ?_
    refine r_indexArr (sz := 1) rfl rfl rfl rfl rfl (by omega) (by omega) (show _ = X.toNat by simp) ?_
    refine r_load1 rfl rfl rfl (fl_at (k := X.toNat) (by omega)) ?_
    refine r_convert rfl rfl rfl rfl (w64 (by have := hr X.toNat; omega)) ?_
    refine r_fieldAddr (off := 4) (o' := 4) rfl rfl rfl rfl ?_
    refine r_load1 rfl rfl rfl (by rfl) ?_
    refine r_eql rfl rfl rfl rfl ?_
    refine r_assign rfl rfl ?_
    refine r_assign rfl rfl ?_
    refine r_nil ?_
    refine r_tn ?_
    refine r_ret ?_
    refine r_br ?_
    refine r_tr ?_
    exact r_done2 (.inl rfl) rfl (res_tmp rfl) (res_tmp rfl) fun w hw => ⟨by have hq := hc; simp only [decide_eq_true_eq, decide_eq_false_iff_not] at *; simp_all [skM], hw.clear⟩
  · refine r_seq ?_
    refine r_region ?_
    refine r_eql rfl rfl rfl rfl ?_
    refine r_assign rfl rfl ?_
    refine r_nil ?_
    refine r_tn ?_
    refine r_cond rfl (fun hc => ?_) (fun hc => ?_)
    · refine r_seq ?_
      refine r_mixed (by kernel_rfl) (by kernel_rfl) ?_
      refine r_fieldAddr (off := 1) (o' := 1) rfl rfl rfl rfl ?_
      refine r_load1 rfl rfl rfl (by rfl) ?_
      refine r_indexArr (sz := 1) rfl rfl rfl rfl rfl (by omega) (by omega) (show _ = X.toNat by simp) ?_
      refine r_load1 rfl rfl rfl (fl_at (k := X.toNat) (by omega)) ?_
      refine r_convert rfl rfl rfl rfl (w64 (by have := hr X.toNat; omega)) ?_
      refine r_fieldAddr (off := 4) (o' := 4) rfl rfl rfl rfl ?_
      refine r_load1 rfl rfl rfl (by rfl) ?_
      refine r_neq rfl rfl rfl rfl ?_
      refine r_assign rfl rfl ?_
      refine r_assign rfl rfl ?_
      refine r_nil ?_
      refine r_tn ?_
      refine r_ret ?_
      refine r_br ?_
      refine r_tr ?_
      exact r_done2 (.inl rfl) rfl (res_tmp rfl) (res_tmp rfl) fun w hw => ⟨by have hq := hc; simp only [decide_eq_true_eq, decide_eq_false_iff_not] at *; simp_all [skM], hw.clear⟩
    · refine r_seq ?_
      refine r_region ?_
      refine r_eql rfl rfl rfl rfl ?_
      refine r_assign rfl rfl ?_
      refine r_nil ?_
      refine r_tn ?_
      refine r_cond rfl (fun hc => ?_) (fun hc => ?_)
      · refine r_seq ?_
        refine r_mixed (by kernel_rfl) (by kernel_rfl) ?_
        refine r_fieldAddr (off := 1) (o' := 1) rfl rfl rfl rfl ?_
        refine r_load1 rfl rfl rfl (by rfl) ?_
        refine r_indexArr (sz := 1) rfl rfl rfl rfl rfl (by omega) (by omega) (show _ = X.toNat by simp) ?_
        refine r_load1 rfl rfl rfl (fl_at (k := X.toNat) (by omega)) ?_
        refine r_fieldAddr (off := 2) (o' := 2) rfl rfl rfl rfl ?_
        refine r_load1 rfl rfl rfl (by rfl) ?_
        refine r_indexArr (sz := 1) rfl rfl rfl rfl rfl (by omega) (by omega) (show _ = Y.toNat by simp) ?_
        refine r_load1 rfl rfl rfl (fl_at (k := Y.toNat) (by omega)) ?_
        refine r_eql rfl rfl rfl rfl ?_
        refine r_assign rfl rfl ?_
        refine r_assign rfl rfl ?_
        refine r_nil ?_
        refine r_tn ?_
        refine r_ret ?_
        refine r_br ?_
        refine r_tr ?_
        exact r_done2 (.inl rfl) rfl (res_tmp rfl) (res_tmp rfl) fun w hw => ⟨by have hq := hc; simp only [decide_eq_true_eq, decide_eq_false_iff_not] at *; simp_all [skM], hw.clear⟩
      · refine r_seq ?_
        refine r_region ?_
        refine r_eql rfl rfl rfl rfl ?_
        refine r_assign rfl rfl ?_
        refine r_nil ?_
        refine r_tn ?_
        refine r_cond rfl (fun hc => ?_) (fun hc => ?_)
        · refine r_seq ?_
          refine r_mixed (by kernel_rfl) (by kernel_rfl) ?_
          refine r_fieldAddr (off := 1) (o' := 1) rfl rfl rfl rfl ?_
          refine r_load1 rfl rfl rfl (by rfl) ?_
          refine r_indexArr (sz := 1) rfl rfl rfl rfl rfl (by omega) (by omega) (show _ = X.toNat by simp) ?_
          refine r_load1 rfl rfl rfl (fl_at (k := X.toNat) (by omega)) ?_
          refine r_fieldAddr (off := 2) (o' := 2) rfl rfl rfl rfl ?_
          refine r_load1 rfl rfl rfl (by rfl) ?_
          refine r_indexArr (sz := 1) rfl rfl rfl rfl rfl (by omega) (by omega) (show _ = Y.toNat by simp) ?_
          refine r_load1 rfl rfl rfl (fl_at (k := Y.toNat) (by omega)) ?_
          refine r_neq rfl rfl rfl rfl ?_
          refine r_assign rfl rfl ?_
          refine r_assign rfl rfl ?_
          refine r_nil ?_
          refine r_tn ?_
          refine r_ret ?_
          refine r_br ?_
          refine r_tr ?_
          exact r_done2 (.inl rfl) rfl (res_tmp rfl) (res_tmp rfl) fun w hw => ⟨by have hq := hc; simp only [decide_eq_true_eq, decide_eq_false_iff_not] at *; simp_all [skM], hw.clear⟩
        · refine r_skip ?_
          refine r_bn ?_
          refine r_tn ?_
          refine r_seq ?_
          refine r_region ?_
          refine r_assign rfl rfl ?_
          refine r_assign rfl rfl ?_
          refine r_nil ?_
          refine r_tn ?_
          refine r_ret ?_
          exact r_done2 (.inl rfl) rfl (res_tmp rfl) (res_tmp rfl) fun w hw => ⟨by have hq := hc; simp only [decide_eq_true_eq, decide_eq_false_iff_not] at *; simp_all [skM], hw.clear⟩

theorem div8 {n m : Int} (h : 0 ≤ n ∧ n ≤ 255) (hm : 0 < m) : IntKind.u8.wrap (n.tdiv m) = n / m := by
  have h1 : n.tdiv m = n / m := Int.tdiv_eq_ediv_of_nonneg h.1
  have h2 : 0 ≤ n / m := Int.ediv_nonneg h.1 (by omega)
  have h3 : n / m ≤ n := Int.ediv_le_self m h.1
  rw [h1]
  exact IntWalk.u8_in _ ⟨h2, by omega⟩
theorem mod8 {n m : Int} (h : 0 ≤ n) : n.tmod m = n % m := Int.tmod_eq_emod_of_nonneg h
theorem digits18 (n : Int) (hn : 0 ≤ n ∧ n ≤ 255) (w : World) :
    Calls Try.prog 14 #[.int .u8 n] w fun e w' => e = .returned (.agg #[.int .u8 (n / 100), .int .u8 (n / 10 % 10), .int .u8 (n % 10)]) ∧ Sat w [] [] w' := by
  refine enter Try.func14 rfl rfl rfl ?_
  refine r_seq ?_
  refine r_region ?_
  refine r_allocV (cs := #[.int .u8 0, .int .u8 0, .int .u8 0]) rfl rfl fun b2 => ?_
  refine r_nil ?_
  refine r_tn ?_
  refine r_seq ?_
  refine r_region ?_
  refine r_move rfl rfl ?_
  refine r_quo rfl rfl rfl (by decide) (div8 hn (by decide)) ?_
  refine r_move rfl rfl ?_
  refine r_quo rfl rfl rfl (by decide) (div8 hn (by decide)) ?_
  refine r_rem rfl rfl rfl (by decide) (mod8 (by omega)) ?_
  refine r_move rfl rfl ?_
  refine r_rem rfl rfl rfl (by decide) (mod8 hn.1) ?_
  refine r_build (cells := #[.int .u8 (n / 100), .int .u8 (n / 10 % 10), .int .u8 (n % 10)]) rfl rfl (by kernel_rfl) ?_
  refine r_storeV rfl rfl rfl rfl rfl rfl ?_
  refine r_nil ?_
  refine r_tn ?_
  refine r_ret ?_
  exact r_done1 (.inl rfl) rfl (res_cellV rfl rfl rfl rfl) fun w hw => ⟨rfl, hw.clear⟩
end Go.Proofs.Ytddoohbgiieiiaa
