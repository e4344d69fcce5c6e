/-
  The arithmetic unit s reference (chapter 18): Right, flag, and bit by bit.
-/
import Derived.Test.YtddoohbgiieiiaaSkips18
namespace Go.Proofs.Ytddoohbgiieiiaa
open Go Go.RowKit
set_option linter.unusedVariables false
set_option linter.unusedSimpArgs false
set_option maxHeartbeats 2000000

def rightM (X Y NN : Int) : Bool := decide (0 ≤ X) && decide (X ≤ 15) && decide (0 ≤ Y) && decide (Y ≤ 15) && decide (0 ≤ NN) && decide (NN ≤ 255)
theorem right18 (op X Y N NN Ad Ln : Int) (w : World) :
    Calls Try.prog 9 #[.agg (ins op X Y N NN Ad Ln)] w fun e w' => e = .returned (.bool (rightM X Y NN)) ∧ Sat w [] [] w' := by
  refine enter Try.func9 rfl rfl rfl ?_
  refine r_seq ?_
  refine r_region ?_
  refine r_boxV rfl rfl fun b1 => ?_
  refine r_assign rfl rfl ?_
  refine r_nil ?_
  refine r_tn ?_
  refine r_seq ?_
  refine r_region ?_
  refine r_fieldAddr (off := 1) (o' := 1) rfl rfl rfl rfl ?_
  refine r_load1 rfl rfl rfl (by rfl) ?_
  refine r_geq rfl rfl rfl rfl ?_
  refine r_move rfl rfl ?_
  refine r_split 6 rfl (fun hb6 => ?_) (fun hb6 => ?_)
  · refine r_go rfl rfl ?_
    refine r_fieldAddr (off := 1) (o' := 1) rfl rfl rfl rfl ?_
    refine r_go rfl rfl ?_
    refine r_load1 rfl rfl rfl (by rfl) ?_
    refine r_go rfl rfl ?_
    refine r_leq rfl rfl rfl rfl ?_
    refine r_pick_t rfl rfl rfl ?_
    refine r_move rfl rfl ?_
    refine r_split 11 rfl (fun hb11 => ?_) (fun hb11 => ?_)
    · refine r_go rfl rfl ?_
      refine r_fieldAddr (off := 2) (o' := 2) rfl rfl rfl rfl ?_
      refine r_go rfl rfl ?_
      refine r_load1 rfl rfl rfl (by rfl) ?_
      refine r_go rfl rfl ?_
      refine r_geq rfl rfl rfl rfl ?_
      refine r_pick_t rfl rfl rfl ?_
      refine r_move rfl rfl ?_
      refine r_split 16 rfl (fun hb16 => ?_) (fun hb16 => ?_)
      · refine r_go rfl rfl ?_
        refine r_fieldAddr (off := 2) (o' := 2) rfl rfl rfl rfl ?_
        refine r_go rfl rfl ?_
        refine r_load1 rfl rfl rfl (by rfl) ?_
        refine r_go rfl rfl ?_
        refine r_leq rfl rfl rfl rfl ?_
        refine r_pick_t rfl rfl rfl ?_
        refine r_move rfl rfl ?_
        refine r_split 21 rfl (fun hb21 => ?_) (fun hb21 => ?_)
        · refine r_go rfl rfl ?_
          refine r_fieldAddr (off := 4) (o' := 4) rfl rfl rfl rfl ?_
          refine r_go rfl rfl ?_
          refine r_load1 rfl rfl rfl (by rfl) ?_
          refine r_go rfl rfl ?_
          refine r_geq rfl rfl rfl rfl ?_
          refine r_pick_t rfl rfl rfl ?_
          refine r_move rfl rfl ?_
          refine r_split 26 rfl (fun hb26 => ?_) (fun hb26 => ?_)
          · refine r_go rfl rfl ?_
            refine r_fieldAddr (off := 4) (o' := 4) rfl rfl rfl rfl ?_
            refine r_go rfl rfl ?_
            refine r_load1 rfl rfl rfl (by rfl) ?_
            refine r_go rfl rfl ?_
            refine r_leq rfl rfl rfl rfl ?_
            refine r_pick_t rfl rfl rfl ?_
            refine r_assign rfl rfl ?_
            refine r_nil ?_
            refine r_tn ?_
            refine r_ret ?_
            exact r_done1 (.inl rfl) rfl (res_tmp rfl) fun w hw => ⟨by congr 2; simp_all [rightM] <;> omega, hw.clear⟩
          · refine r_pass rfl rfl rfl rfl ?_
            refine r_pass rfl rfl rfl rfl ?_
            refine r_pass rfl rfl rfl rfl ?_
            refine r_pick_f rfl rfl rfl ?_
            refine r_assign rfl rfl ?_
            refine r_nil ?_
            refine r_tn ?_
            refine r_ret ?_
            exact r_done1 (.inl rfl) rfl (res_tmp rfl) fun w hw => ⟨by congr 2; simp_all [rightM] <;> omega, hw.clear⟩
        · refine r_pass rfl rfl rfl rfl ?_
          refine r_pass rfl rfl rfl rfl ?_
          refine r_pass rfl rfl rfl rfl ?_
          refine r_pick_f rfl rfl rfl ?_
          refine r_move rfl rfl ?_
          refine r_pass rfl rfl rfl rfl ?_
          refine r_pass rfl rfl rfl rfl ?_
          refine r_pass rfl rfl rfl rfl ?_
          refine r_pick_f rfl rfl rfl ?_
          refine r_assign rfl rfl ?_
          refine r_nil ?_
          refine r_tn ?_
          refine r_ret ?_
          exact r_done1 (.inl rfl) rfl (res_tmp rfl) fun w hw => ⟨by congr 2; simp_all [rightM] <;> omega, hw.clear⟩
      · refine r_pass rfl rfl rfl rfl ?_
        refine r_pass rfl rfl rfl rfl ?_
        refine r_pass rfl rfl rfl rfl ?_
        refine r_pick_f rfl rfl rfl ?_
        refine r_move rfl rfl ?_
        refine r_pass rfl rfl rfl rfl ?_
        refine r_pass rfl rfl rfl rfl ?_
        refine r_pass rfl rfl rfl rfl ?_
        refine r_pick_f rfl rfl rfl ?_
        refine r_move rfl rfl ?_
        refine r_pass rfl rfl rfl rfl ?_
        refine r_pass rfl rfl rfl rfl ?_
        refine r_pass rfl rfl rfl rfl ?_
        refine r_pick_f rfl rfl rfl ?_
        refine r_assign rfl rfl ?_
        refine r_nil ?_
        refine r_tn ?_
        refine r_ret ?_
        exact r_done1 (.inl rfl) rfl (res_tmp rfl) fun w hw => ⟨by congr 2; simp_all [rightM] <;> omega, hw.clear⟩
    · refine r_pass rfl rfl rfl rfl ?_
      refine r_pass rfl rfl rfl rfl ?_
      refine r_pass rfl rfl rfl rfl ?_
      refine r_pick_f rfl rfl rfl ?_
      refine r_move rfl rfl ?_
      refine r_pass rfl rfl rfl rfl ?_
      refine r_pass rfl rfl rfl rfl ?_
      refine r_pass rfl rfl rfl rfl ?_
      refine r_pick_f rfl rfl rfl ?_
      refine r_move rfl rfl ?_
      refine r_pass rfl rfl rfl rfl ?_
      refine r_pass rfl rfl rfl rfl ?_
      refine r_pass rfl rfl rfl rfl ?_
      refine r_pick_f rfl rfl rfl ?_
      refine r_move rfl rfl ?_
      refine r_pass rfl rfl rfl rfl ?_
      refine r_pass rfl rfl rfl rfl ?_
      refine r_pass rfl rfl rfl rfl ?_
      refine r_pick_f rfl rfl rfl ?_
      refine r_assign rfl rfl ?_
      refine r_nil ?_
      refine r_tn ?_
      refine r_ret ?_
      exact r_done1 (.inl rfl) rfl (res_tmp rfl) fun w hw => ⟨by congr 2; simp_all [rightM] <;> omega, hw.clear⟩
  · refine r_pass rfl rfl rfl rfl ?_
    refine r_pass rfl rfl rfl rfl ?_
    refine r_pass rfl rfl rfl rfl ?_
    refine r_pick_f rfl rfl rfl ?_
    refine r_move rfl rfl ?_
    refine r_pass rfl rfl rfl rfl ?_
    refine r_pass rfl rfl rfl rfl ?_
    refine r_pass rfl rfl rfl rfl ?_
    refine r_pick_f rfl rfl rfl ?_
    refine r_move rfl rfl ?_
    refine r_pass rfl rfl rfl rfl ?_
    refine r_pass rfl rfl rfl rfl ?_
    refine r_pass rfl rfl rfl rfl ?_
    refine r_pick_f rfl rfl rfl ?_
    refine r_move rfl rfl ?_
    refine r_pass rfl rfl rfl rfl ?_
    refine r_pass rfl rfl rfl rfl ?_
    refine r_pass rfl rfl rfl rfl ?_
    refine r_pick_f rfl rfl rfl ?_
    refine r_move rfl rfl ?_
    refine r_pass rfl rfl rfl rfl ?_
    refine r_pass rfl rfl rfl rfl ?_
    refine r_pass rfl rfl rfl rfl ?_
    refine r_pick_f rfl rfl rfl ?_
    refine r_assign rfl rfl ?_
    refine r_nil ?_
    refine r_tn ?_
    refine r_ret ?_
    exact r_done1 (.inl rfl) rfl (res_tmp rfl) fun w hw => ⟨by congr 2; simp_all [rightM] <;> omega, hw.clear⟩

theorem refFlag18 (b : Bool) (w : World) :
    Calls Try.prog 17 #[.bool b] w fun e w' => e = .returned (.int .i64 (if b then 1 else 0)) ∧ Sat w [] [] w' := by
  cases b
  · refine enter Try.func17 rfl rfl rfl ?_
    refine r_seq ?_
    refine r_region ?_
    refine r_assign rfl rfl ?_
    refine r_nil ?_
    refine r_tn ?_
    refine r_seq ?_
    refine r_seq ?_
    refine r_region ?_
    refine r_move rfl rfl ?_
    refine r_nil ?_
    refine r_tn ?_
    refine r_cond_f rfl ?_
    refine r_skip ?_
    refine r_tn ?_
    refine r_seq ?_
    refine r_region ?_
    refine r_assign rfl rfl ?_
    refine r_nil ?_
    refine r_tn ?_
    refine r_ret ?_
    exact r_done1 (.inl rfl) rfl (res_tmp rfl) fun w hw => ⟨rfl, hw.clear⟩
  · refine enter Try.func17 rfl rfl rfl ?_
    refine r_seq ?_
    refine r_region ?_
    refine r_assign rfl rfl ?_
    refine r_nil ?_
    refine r_tn ?_
    refine r_seq ?_
    refine r_seq ?_
    refine r_region ?_
    refine r_move rfl rfl ?_
    refine r_nil ?_
    refine r_tn ?_
    refine r_cond_t rfl ?_
    refine r_seq ?_
    refine r_region ?_
    refine r_assign rfl rfl ?_
    refine r_nil ?_
    refine r_tn ?_
    refine r_ret ?_
    refine r_tr ?_
    exact r_done1 (.inl rfl) rfl (res_tmp rfl) fun w hw => ⟨rfl, hw.clear⟩

theorem step_yes {F i : Nat} (h : F / 2 ^ i % 2 = 1) : ((F % 2 ^ i : Nat) : Int) + ((2 ^ i : Nat) : Int) = ((F % 2 ^ (i + 1) : Nat) : Int) := by
  rw [Nat.mod_pow_succ, h, Nat.mul_one, Int.natCast_add]
theorem step_no {F i : Nat} (h : F / 2 ^ i % 2 ≠ 1) : ((F % 2 ^ i : Nat) : Int) = ((F % 2 ^ (i + 1) : Nat) : Int) := by
  rw [Nat.mod_pow_succ, show F / 2 ^ i % 2 = 0 by omega, Nat.mul_zero, Nat.add_zero]
theorem bit_or (x y i : Nat) : (x ||| y) / 2 ^ i % 2 = 1 ↔ (x / 2 ^ i % 2 = 1 ∨ y / 2 ^ i % 2 = 1) := by
  have h := Nat.testBit_or x y i
  simp only [Nat.testBit_eq_decide_div_mod_eq] at h
  constructor
  · intro h1; rw [decide_eq_true h1] at h; simpa using h.symm
  · intro h1; by_cases h2 : (x ||| y) / 2 ^ i % 2 = 1
    · exact h2
    · rw [decide_eq_false h2] at h; simp_all
theorem bit_and (x y i : Nat) : (x &&& y) / 2 ^ i % 2 = 1 ↔ (x / 2 ^ i % 2 = 1 ∧ y / 2 ^ i % 2 = 1) := by
  have h := Nat.testBit_and x y i
  simp only [Nat.testBit_eq_decide_div_mod_eq] at h
  constructor
  · intro h1; rw [decide_eq_true h1] at h; simpa using h.symm
  · intro h1; by_cases h2 : (x &&& y) / 2 ^ i % 2 = 1
    · exact h2
    · rw [decide_eq_false h2] at h; simp_all
theorem bit_xor (x y i : Nat) : (x ^^^ y) / 2 ^ i % 2 = 1 ↔ ¬ (x / 2 ^ i % 2 = 1 ↔ y / 2 ^ i % 2 = 1) := by
  have h := Nat.testBit_xor x y i
  simp only [Nat.testBit_eq_decide_div_mod_eq] at h
  by_cases h1 : x / 2 ^ i % 2 = 1 <;> by_cases h2 : y / 2 ^ i % 2 = 1 <;> by_cases h3 : (x ^^^ y) / 2 ^ i % 2 = 1 <;> simp_all
theorem quo_pow (x i : Nat) : ((x : Nat) : Int).tdiv ((2 ^ i : Nat) : Int) = ((x / 2 ^ i : Nat) : Int) := by
  rw [Int.tdiv_eq_ediv_of_nonneg (by omega)]; rfl
theorem quo_w {x : Nat} (i : Nat) (hx : x < 256) : IntKind.i64.wrap (((x : Nat) : Int).tdiv ((2 ^ i : Nat) : Int)) = ((x / 2 ^ i : Nat) : Int) := by
  rw [quo_pow]
  have h := Nat.div_le_self x (2 ^ i)
  generalize x / 2 ^ i = q at h ⊢
  exact w64 (by omega)
theorem cast_one (n : Nat) : (((n : Nat) : Int) = 1) ↔ n = 1 := by omega
theorem rem_two (x : Nat) : ((x : Nat) : Int).tmod 2 = ((x % 2 : Nat) : Int) := by
  rw [Int.tmod_eq_emod_of_nonneg (by omega)]; rfl
theorem pow_pos_ne (i : Nat) : ((2 ^ i : Nat) : Int) ≠ 0 := by have := Nat.two_pow_pos i; omega


theorem bits18_11 (x y : Nat) (hx : x < 256) (hy : y < 256) (hF : (x ||| y) < 2 ^ 8) (w : World) :
    Calls Try.prog 16 #[.int .i64 11, .int .i64 (x : Int), .int .i64 (y : Int)] w fun e w' => e = .returned (.int .i64 ((x ||| y) : Nat)) ∧ Sat w [] [] w' := by
  refine enter Try.func16 rfl rfl rfl ?_
  refine r_seq ?_
  refine r_region ?_
  refine r_assign rfl rfl ?_
  refine r_nil ?_
  refine r_tn ?_
  refine r_seq ?_
  refine r_region ?_
  refine r_assign rfl rfl ?_
  refine r_nil ?_
  refine r_tn ?_
  refine r_seq ?_
  refine r_region ?_
  refine r_assign rfl rfl ?_
  refine r_nil ?_
  refine r_tn ?_
  refine r_seq ?_
  refine r_seq ?_
  refine r_region ?_
  refine r_assign rfl rfl ?_
  refine r_nil ?_
  refine r_tn ?_
  refine r_block ?_
  refine r_loopN (fun i => [(0, .int .i64 11), (1, .int .i64 (x : Int)), (2, .int .i64 (y : Int)), (7, .int .i64 (((x ||| y) % 2 ^ i : Nat) : Int)), (8, .int .i64 ((2 ^ i : Nat) : Int)), (9, .int .i64 (i : Int))]) (fun i => []) (fun i => i ≤ 8) 8 0 (by omega) ⟨rfl, rfl, rfl, congrArg (fun z => some (Value.int .i64 z)) (by rw [Nat.pow_zero, Nat.mod_one]; rfl), rfl, rfl, trivial⟩ (fun w hw => hw) fun i hi => ?_
  refine r_seq ?_
  refine r_seq ?_
  refine r_region ?_
  refine r_move rfl rfl ?_
  refine r_lss rfl rfl rfl rfl ?_
  refine r_nil ?_
  refine r_tn ?_
  refine r_cond rfl (fun hc => ?_) (fun hc => ?_)
  · refine r_skip ?_
    refine r_tn ?_
    refine r_seq ?_
    refine r_block ?_
    refine r_seq ?_
    refine r_region ?_
    refine r_move rfl rfl ?_
    refine r_move rfl rfl ?_
    have hi8 : i < 8 := by have h := of_decide_eq_true hc; omega
    have hp2 : 2 ^ i ≤ 128 := Nat.pow_le_pow_right (by decide) (show i ≤ 7 by omega)
    refine r_quo rfl rfl rfl (pow_pos_ne i) (quo_w i hx) ?_
    refine r_rem rfl rfl rfl (by decide) (rem_two _) ?_
    refine r_eql rfl rfl rfl rfl ?_
    refine r_assign rfl rfl ?_
    refine r_nil ?_
    refine r_tn ?_
    refine r_seq ?_
    refine r_region ?_
    refine r_move rfl rfl ?_
    refine r_move rfl rfl ?_
    refine r_quo rfl rfl rfl (pow_pos_ne i) (quo_w i hy) ?_
    refine r_rem rfl rfl rfl (by decide) (rem_two _) ?_
    refine r_eql rfl rfl rfl rfl ?_
    refine r_assign rfl rfl ?_
    refine r_nil ?_
    refine r_tn ?_
    refine r_seq ?_
    refine r_cut (fun _ : Unit => ([(0, .int .i64 11), (1, .int .i64 (x : Int)), (2, .int .i64 (y : Int)), (7, .int .i64 (((x ||| y) % 2 ^ (i + 1) : Nat) : Int)), (8, .int .i64 ((2 ^ i : Nat) : Int)), (9, .int .i64 (i : Int))], [])) ?_ ?_
    · refine r_seq ?_
      refine r_region ?_
      refine r_move rfl rfl ?_
      refine r_eql rfl rfl rfl (decide_eq_true (by decide)) ?_
      refine r_move rfl rfl ?_
      refine r_go rfl rfl ?_
      refine r_move rfl rfl ?_
      refine r_go rfl rfl ?_
      refine r_move rfl rfl ?_
      refine r_split 30 rfl (fun hb30 => ?_) (fun hb30 => ?_)
      · refine r_pass rfl rfl rfl rfl ?_
        refine r_go rfl rfl ?_
        refine r_pick_t rfl rfl rfl ?_
        refine r_pick_t rfl rfl rfl ?_
        refine r_move rfl rfl ?_
        refine r_pass rfl rfl rfl rfl ?_
        refine r_pass rfl rfl rfl rfl ?_
        refine r_pass rfl rfl rfl rfl ?_
        refine r_passU rfl rfl rfl ?_
        refine r_pass rfl rfl rfl rfl ?_
        refine r_pass rfl rfl rfl rfl ?_
        refine r_passU rfl rfl rfl ?_
        refine r_pass rfl rfl rfl rfl ?_
        refine r_pick_t rfl rfl rfl ?_
        refine r_move rfl rfl ?_
        refine r_pass rfl rfl rfl rfl ?_
        refine r_pass rfl rfl rfl rfl ?_
        refine r_pass rfl rfl rfl rfl ?_
        refine r_passU rfl rfl rfl ?_
        refine r_passU rfl rfl rfl ?_
        refine r_passU rfl rfl rfl ?_
        refine r_pass rfl rfl rfl rfl ?_
        refine r_pick_t rfl rfl rfl ?_
        refine r_nil ?_
        refine r_tn ?_
        refine r_cond_t rfl ?_
        refine r_region ?_
        refine r_move rfl rfl ?_
        refine r_move rfl rfl ?_
        have hFm : (x ||| y) % 2 ^ i ≤ 255 := Nat.le_trans (Nat.le_of_lt (Nat.mod_lt _ (Nat.two_pow_pos i))) (by omega)
        refine r_add rfl rfl rfl (w64 (by omega)) ?_
        refine r_assign rfl rfl ?_
        refine r_nil ?_
        refine r_tn ?_
        refine r_at () ⟨rfl, rfl, rfl, congrArg (fun z => some (Value.int .i64 z)) ?_, rfl, rfl, trivial⟩ (fun w hw => hw)
        simp only [cast_one, decide_eq_true_eq, decide_eq_false_iff_not, bne_iff_ne, ne_eq, Bool.not_eq_true, beq_iff_eq] at *
        first | exact step_yes ((bit_or x y i).2 (by first | omega | simp_all)) | exact step_no (fun h => by have h2 := (bit_or x y i).1 h; first | omega | simp_all)
      · refine r_go rfl rfl ?_
        refine r_move rfl rfl ?_
        refine r_go rfl rfl ?_
        refine r_pick_f rfl rfl rfl ?_
        refine r_pick_t rfl rfl rfl ?_
        refine r_move rfl rfl ?_
        refine r_split 34 rfl (fun hb34 => ?_) (fun hb34 => ?_)
        · refine r_pass rfl rfl rfl rfl ?_
          refine r_pass rfl rfl rfl rfl ?_
          refine r_pass rfl rfl rfl rfl ?_
          refine r_passU rfl rfl rfl ?_
          refine r_pass rfl rfl rfl rfl ?_
          refine r_pass rfl rfl rfl rfl ?_
          refine r_passU rfl rfl rfl ?_
          refine r_pass rfl rfl rfl rfl ?_
          refine r_pick_t rfl rfl rfl ?_
          refine r_move rfl rfl ?_
          refine r_pass rfl rfl rfl rfl ?_
          refine r_pass rfl rfl rfl rfl ?_
          refine r_pass rfl rfl rfl rfl ?_
          refine r_passU rfl rfl rfl ?_
          refine r_passU rfl rfl rfl ?_
          refine r_passU rfl rfl rfl ?_
          refine r_pass rfl rfl rfl rfl ?_
          refine r_pick_t rfl rfl rfl ?_
          refine r_nil ?_
          refine r_tn ?_
          refine r_cond_t rfl ?_
          refine r_region ?_
          refine r_move rfl rfl ?_
          refine r_move rfl rfl ?_
          have hFm : (x ||| y) % 2 ^ i ≤ 255 := Nat.le_trans (Nat.le_of_lt (Nat.mod_lt _ (Nat.two_pow_pos i))) (by omega)
          refine r_add rfl rfl rfl (w64 (by omega)) ?_
          refine r_assign rfl rfl ?_
          refine r_nil ?_
          refine r_tn ?_
          refine r_at () ⟨rfl, rfl, rfl, congrArg (fun z => some (Value.int .i64 z)) ?_, rfl, rfl, trivial⟩ (fun w hw => hw)
          simp only [cast_one, decide_eq_true_eq, decide_eq_false_iff_not, bne_iff_ne, ne_eq, Bool.not_eq_true, beq_iff_eq] at *
          first | exact step_yes ((bit_or x y i).2 (by first | omega | simp_all)) | exact step_no (fun h => by have h2 := (bit_or x y i).1 h; first | omega | simp_all)
        · refine r_go rfl rfl ?_
          refine r_move rfl rfl ?_
          refine r_go rfl rfl ?_
          refine r_eql rfl rfl rfl (decide_eq_false (by decide)) ?_
          refine r_go rfl rfl ?_
          refine r_move rfl rfl ?_
          refine r_pass rfl rfl rfl rfl ?_
          refine r_go rfl rfl ?_
          refine r_pick_f rfl rfl rfl ?_
          refine r_go rfl rfl ?_
          refine r_move rfl rfl ?_
          refine r_pass rfl rfl rfl rfl ?_
          refine r_go rfl rfl ?_
          refine r_pick_f rfl rfl rfl ?_
          refine r_pick_f rfl rfl rfl ?_
          refine r_move rfl rfl ?_
          refine r_go rfl rfl ?_
          refine r_move rfl rfl ?_
          refine r_go rfl rfl ?_
          refine r_eql rfl rfl rfl (decide_eq_false (by decide)) ?_
          refine r_go rfl rfl ?_
          refine r_move rfl rfl ?_
          refine r_pass rfl rfl rfl rfl ?_
          refine r_pass rfl rfl rfl rfl ?_
          refine r_pass rfl rfl rfl rfl ?_
          refine r_go rfl rfl ?_
          refine r_pick_f rfl rfl rfl ?_
          refine r_pick_f rfl rfl rfl ?_
          refine r_nil ?_
          refine r_tn ?_
          refine r_cond_f rfl ?_
          refine r_skip ?_
          refine r_tn ?_
          refine r_at () ⟨rfl, rfl, rfl, congrArg (fun z => some (Value.int .i64 z)) ?_, rfl, rfl, trivial⟩ (fun w hw => hw)
          simp only [cast_one, decide_eq_true_eq, decide_eq_false_iff_not, bne_iff_ne, ne_eq, Bool.not_eq_true, beq_iff_eq] at *
          first | exact step_yes ((bit_or x y i).2 (by first | omega | simp_all)) | exact step_no (fun h => by have h2 := (bit_or x y i).1 h; first | omega | simp_all)
    intro _
    have hi8 : i < 8 := by have h := of_decide_eq_true hc; omega
    have hp2 : 2 ^ i ≤ 128 := Nat.pow_le_pow_right (by decide) (show i ≤ 7 by omega)
    refine r_region ?_
    refine r_move rfl rfl ?_
    refine r_mul rfl rfl rfl (w64 (by have h := hp2; generalize 2 ^ i = q at h ⊢; omega)) ?_
    refine r_assign rfl rfl ?_
    refine r_nil ?_
    refine r_bn ?_
    refine r_tn ?_
    refine r_region ?_
    refine r_move rfl rfl ?_
    refine r_add rfl rfl rfl (w64 (by omega)) ?_
    refine r_assign rfl rfl ?_
    refine r_nil ?_
    refine r_tn ?_
    exact r_againN (i + 1) (by omega) (by omega) ⟨rfl, rfl, rfl, rfl, congrArg (fun z => some (Value.int .i64 z)) (by rw [Nat.pow_succ]; omega), rfl, trivial⟩ (fun w hw => hw)
  · refine r_exit ?_
    refine r_te ?_
    refine r_te ?_
    refine r_be ?_
    refine r_tn ?_
    refine r_seq ?_
    refine r_region ?_
    refine r_move rfl rfl ?_
    refine r_assign rfl rfl ?_
    refine r_nil ?_
    refine r_tn ?_
    refine r_ret ?_
    have hi8 : i = 8 := by have h := of_decide_eq_false hc; omega
    subst hi8
    exact r_done1 (.inl rfl) rfl (res_tmp rfl) fun w hw => ⟨by rw [Nat.mod_eq_of_lt hF], hw⟩

theorem bits18_12 (x y : Nat) (hx : x < 256) (hy : y < 256) (hF : (x &&& y) < 2 ^ 8) (w : World) :
    Calls Try.prog 16 #[.int .i64 12, .int .i64 (x : Int), .int .i64 (y : Int)] w fun e w' => e = .returned (.int .i64 ((x &&& y) : Nat)) ∧ Sat w [] [] w' := by
  refine enter Try.func16 rfl rfl rfl ?_
  refine r_seq ?_
  refine r_region ?_
  refine r_assign rfl rfl ?_
  refine r_nil ?_
  refine r_tn ?_
  refine r_seq ?_
  refine r_region ?_
  refine r_assign rfl rfl ?_
  refine r_nil ?_
  refine r_tn ?_
  refine r_seq ?_
  refine r_region ?_
  refine r_assign rfl rfl ?_
  refine r_nil ?_
  refine r_tn ?_
  refine r_seq ?_
  refine r_seq ?_
  refine r_region ?_
  refine r_assign rfl rfl ?_
  refine r_nil ?_
  refine r_tn ?_
  refine r_block ?_
  refine r_loopN (fun i => [(0, .int .i64 12), (1, .int .i64 (x : Int)), (2, .int .i64 (y : Int)), (7, .int .i64 (((x &&& y) % 2 ^ i : Nat) : Int)), (8, .int .i64 ((2 ^ i : Nat) : Int)), (9, .int .i64 (i : Int))]) (fun i => []) (fun i => i ≤ 8) 8 0 (by omega) ⟨rfl, rfl, rfl, congrArg (fun z => some (Value.int .i64 z)) (by rw [Nat.pow_zero, Nat.mod_one]; rfl), rfl, rfl, trivial⟩ (fun w hw => hw) fun i hi => ?_
  refine r_seq ?_
  refine r_seq ?_
  refine r_region ?_
  refine r_move rfl rfl ?_
  refine r_lss rfl rfl rfl rfl ?_
  refine r_nil ?_
  refine r_tn ?_
  refine r_cond rfl (fun hc => ?_) (fun hc => ?_)
  · refine r_skip ?_
    refine r_tn ?_
    refine r_seq ?_
    refine r_block ?_
    refine r_seq ?_
    refine r_region ?_
    refine r_move rfl rfl ?_
    refine r_move rfl rfl ?_
    have hi8 : i < 8 := by have h := of_decide_eq_true hc; omega
    have hp2 : 2 ^ i ≤ 128 := Nat.pow_le_pow_right (by decide) (show i ≤ 7 by omega)
    refine r_quo rfl rfl rfl (pow_pos_ne i) (quo_w i hx) ?_
    refine r_rem rfl rfl rfl (by decide) (rem_two _) ?_
    refine r_eql rfl rfl rfl rfl ?_
    refine r_assign rfl rfl ?_
    refine r_nil ?_
    refine r_tn ?_
    refine r_seq ?_
    refine r_region ?_
    refine r_move rfl rfl ?_
    refine r_move rfl rfl ?_
    refine r_quo rfl rfl rfl (pow_pos_ne i) (quo_w i hy) ?_
    refine r_rem rfl rfl rfl (by decide) (rem_two _) ?_
    refine r_eql rfl rfl rfl rfl ?_
    refine r_assign rfl rfl ?_
    refine r_nil ?_
    refine r_tn ?_
    refine r_seq ?_
    refine r_cut (fun _ : Unit => ([(0, .int .i64 12), (1, .int .i64 (x : Int)), (2, .int .i64 (y : Int)), (7, .int .i64 (((x &&& y) % 2 ^ (i + 1) : Nat) : Int)), (8, .int .i64 ((2 ^ i : Nat) : Int)), (9, .int .i64 (i : Int))], [])) ?_ ?_
    · refine r_seq ?_
      refine r_region ?_
      refine r_move rfl rfl ?_
      refine r_eql rfl rfl rfl (decide_eq_false (by decide)) ?_
      refine r_move rfl rfl ?_
      refine r_pass rfl rfl rfl rfl ?_
      refine r_pass rfl rfl rfl rfl ?_
      refine r_passU rfl rfl rfl ?_
      refine r_pass rfl rfl rfl rfl ?_
      refine r_pick_f rfl rfl rfl ?_
      refine r_move rfl rfl ?_
      refine r_go rfl rfl ?_
      refine r_move rfl rfl ?_
      refine r_go rfl rfl ?_
      refine r_eql rfl rfl rfl (decide_eq_true (by decide)) ?_
      refine r_go rfl rfl ?_
      refine r_move rfl rfl ?_
      refine r_go rfl rfl ?_
      refine r_move rfl rfl ?_
      refine r_go rfl rfl ?_
      refine r_pick_t rfl rfl rfl ?_
      refine r_go rfl rfl ?_
      refine r_move rfl rfl ?_
      refine r_split 40 rfl (fun hb40 => ?_) (fun hb40 => ?_)
      · refine r_go rfl rfl ?_
        refine r_move rfl rfl ?_
        refine r_go rfl rfl ?_
        refine r_pick_t rfl rfl rfl ?_
        refine r_pick_f rfl rfl rfl ?_
        refine r_move rfl rfl ?_
        refine r_split 44 rfl (fun hb44 => ?_) (fun hb44 => ?_)
        · refine r_pass rfl rfl rfl rfl ?_
          refine r_pass rfl rfl rfl rfl ?_
          refine r_pass rfl rfl rfl rfl ?_
          refine r_passU rfl rfl rfl ?_
          refine r_passU rfl rfl rfl ?_
          refine r_passU rfl rfl rfl ?_
          refine r_pass rfl rfl rfl rfl ?_
          refine r_pick_t rfl rfl rfl ?_
          refine r_nil ?_
          refine r_tn ?_
          refine r_cond_t rfl ?_
          refine r_region ?_
          refine r_move rfl rfl ?_
          refine r_move rfl rfl ?_
          have hFm : (x &&& y) % 2 ^ i ≤ 255 := Nat.le_trans (Nat.le_of_lt (Nat.mod_lt _ (Nat.two_pow_pos i))) (by omega)
          refine r_add rfl rfl rfl (w64 (by omega)) ?_
          refine r_assign rfl rfl ?_
          refine r_nil ?_
          refine r_tn ?_
          refine r_at () ⟨rfl, rfl, rfl, congrArg (fun z => some (Value.int .i64 z)) ?_, rfl, rfl, trivial⟩ (fun w hw => hw)
          simp only [cast_one, decide_eq_true_eq, decide_eq_false_iff_not, bne_iff_ne, ne_eq, Bool.not_eq_true, beq_iff_eq] at *
          first | exact step_yes ((bit_and x y i).2 (by first | omega | simp_all)) | exact step_no (fun h => by have h2 := (bit_and x y i).1 h; first | omega | simp_all)
        · refine r_go rfl rfl ?_
          refine r_move rfl rfl ?_
          refine r_go rfl rfl ?_
          refine r_eql rfl rfl rfl (decide_eq_false (by decide)) ?_
          refine r_go rfl rfl ?_
          refine r_move rfl rfl ?_
          refine r_pass rfl rfl rfl rfl ?_
          refine r_pass rfl rfl rfl rfl ?_
          refine r_pass rfl rfl rfl rfl ?_
          refine r_go rfl rfl ?_
          refine r_pick_f rfl rfl rfl ?_
          refine r_pick_f rfl rfl rfl ?_
          refine r_nil ?_
          refine r_tn ?_
          refine r_cond_f rfl ?_
          refine r_skip ?_
          refine r_tn ?_
          refine r_at () ⟨rfl, rfl, rfl, congrArg (fun z => some (Value.int .i64 z)) ?_, rfl, rfl, trivial⟩ (fun w hw => hw)
          simp only [cast_one, decide_eq_true_eq, decide_eq_false_iff_not, bne_iff_ne, ne_eq, Bool.not_eq_true, beq_iff_eq] at *
          first | exact step_yes ((bit_and x y i).2 (by first | omega | simp_all)) | exact step_no (fun h => by have h2 := (bit_and x y i).1 h; first | omega | simp_all)
      · refine r_pass rfl rfl rfl rfl ?_
        refine r_go rfl rfl ?_
        refine r_pick_f rfl rfl rfl ?_
        refine r_pick_f rfl rfl rfl ?_
        refine r_move rfl rfl ?_
        refine r_go rfl rfl ?_
        refine r_move rfl rfl ?_
        refine r_go rfl rfl ?_
        refine r_eql rfl rfl rfl (decide_eq_false (by decide)) ?_
        refine r_go rfl rfl ?_
        refine r_move rfl rfl ?_
        refine r_pass rfl rfl rfl rfl ?_
        refine r_pass rfl rfl rfl rfl ?_
        refine r_pass rfl rfl rfl rfl ?_
        refine r_go rfl rfl ?_
        refine r_pick_f rfl rfl rfl ?_
        refine r_pick_f rfl rfl rfl ?_
        refine r_nil ?_
        refine r_tn ?_
        refine r_cond_f rfl ?_
        refine r_skip ?_
        refine r_tn ?_
        refine r_at () ⟨rfl, rfl, rfl, congrArg (fun z => some (Value.int .i64 z)) ?_, rfl, rfl, trivial⟩ (fun w hw => hw)
        simp only [cast_one, decide_eq_true_eq, decide_eq_false_iff_not, bne_iff_ne, ne_eq, Bool.not_eq_true, beq_iff_eq] at *
        first | exact step_yes ((bit_and x y i).2 (by first | omega | simp_all)) | exact step_no (fun h => by have h2 := (bit_and x y i).1 h; first | omega | simp_all)
    intro _
    have hi8 : i < 8 := by have h := of_decide_eq_true hc; omega
    have hp2 : 2 ^ i ≤ 128 := Nat.pow_le_pow_right (by decide) (show i ≤ 7 by omega)
    refine r_region ?_
    refine r_move rfl rfl ?_
    refine r_mul rfl rfl rfl (w64 (by have h := hp2; generalize 2 ^ i = q at h ⊢; omega)) ?_
    refine r_assign rfl rfl ?_
    refine r_nil ?_
    refine r_bn ?_
    refine r_tn ?_
    refine r_region ?_
    refine r_move rfl rfl ?_
    refine r_add rfl rfl rfl (w64 (by omega)) ?_
    refine r_assign rfl rfl ?_
    refine r_nil ?_
    refine r_tn ?_
    exact r_againN (i + 1) (by omega) (by omega) ⟨rfl, rfl, rfl, rfl, congrArg (fun z => some (Value.int .i64 z)) (by rw [Nat.pow_succ]; omega), rfl, trivial⟩ (fun w hw => hw)
  · refine r_exit ?_
    refine r_te ?_
    refine r_te ?_
    refine r_be ?_
    refine r_tn ?_
    refine r_seq ?_
    refine r_region ?_
    refine r_move rfl rfl ?_
    refine r_assign rfl rfl ?_
    refine r_nil ?_
    refine r_tn ?_
    refine r_ret ?_
    have hi8 : i = 8 := by have h := of_decide_eq_false hc; omega
    subst hi8
    exact r_done1 (.inl rfl) rfl (res_tmp rfl) fun w hw => ⟨by rw [Nat.mod_eq_of_lt hF], hw⟩

theorem bits18_13 (x y : Nat) (hx : x < 256) (hy : y < 256) (hF : (x ^^^ y) < 2 ^ 8) (w : World) :
    Calls Try.prog 16 #[.int .i64 13, .int .i64 (x : Int), .int .i64 (y : Int)] w fun e w' => e = .returned (.int .i64 ((x ^^^ y) : Nat)) ∧ Sat w [] [] w' := by
  refine enter Try.func16 rfl rfl rfl ?_
  refine r_seq ?_
  refine r_region ?_
  refine r_assign rfl rfl ?_
  refine r_nil ?_
  refine r_tn ?_
  refine r_seq ?_
  refine r_region ?_
  refine r_assign rfl rfl ?_
  refine r_nil ?_
  refine r_tn ?_
  refine r_seq ?_
  refine r_region ?_
  refine r_assign rfl rfl ?_
  refine r_nil ?_
  refine r_tn ?_
  refine r_seq ?_
  refine r_seq ?_
  refine r_region ?_
  refine r_assign rfl rfl ?_
  refine r_nil ?_
  refine r_tn ?_
  refine r_block ?_
  refine r_loopN (fun i => [(0, .int .i64 13), (1, .int .i64 (x : Int)), (2, .int .i64 (y : Int)), (7, .int .i64 (((x ^^^ y) % 2 ^ i : Nat) : Int)), (8, .int .i64 ((2 ^ i : Nat) : Int)), (9, .int .i64 (i : Int))]) (fun i => []) (fun i => i ≤ 8) 8 0 (by omega) ⟨rfl, rfl, rfl, congrArg (fun z => some (Value.int .i64 z)) (by rw [Nat.pow_zero, Nat.mod_one]; rfl), rfl, rfl, trivial⟩ (fun w hw => hw) fun i hi => ?_
  refine r_seq ?_
  refine r_seq ?_
  refine r_region ?_
  refine r_move rfl rfl ?_
  refine r_lss rfl rfl rfl rfl ?_
  refine r_nil ?_
  refine r_tn ?_
  refine r_cond rfl (fun hc => ?_) (fun hc => ?_)
  · refine r_skip ?_
    refine r_tn ?_
    refine r_seq ?_
    refine r_block ?_
    refine r_seq ?_
    refine r_region ?_
    refine r_move rfl rfl ?_
    refine r_move rfl rfl ?_
    have hi8 : i < 8 := by have h := of_decide_eq_true hc; omega
    have hp2 : 2 ^ i ≤ 128 := Nat.pow_le_pow_right (by decide) (show i ≤ 7 by omega)
    refine r_quo rfl rfl rfl (pow_pos_ne i) (quo_w i hx) ?_
    refine r_rem rfl rfl rfl (by decide) (rem_two _) ?_
    refine r_eql rfl rfl rfl rfl ?_
    refine r_assign rfl rfl ?_
    refine r_nil ?_
    refine r_tn ?_
    refine r_seq ?_
    refine r_region ?_
    refine r_move rfl rfl ?_
    refine r_move rfl rfl ?_
    refine r_quo rfl rfl rfl (pow_pos_ne i) (quo_w i hy) ?_
    refine r_rem rfl rfl rfl (by decide) (rem_two _) ?_
    refine r_eql rfl rfl rfl rfl ?_
    refine r_assign rfl rfl ?_
    refine r_nil ?_
    refine r_tn ?_
    refine r_seq ?_
    refine r_cut (fun _ : Unit => ([(0, .int .i64 13), (1, .int .i64 (x : Int)), (2, .int .i64 (y : Int)), (7, .int .i64 (((x ^^^ y) % 2 ^ (i + 1) : Nat) : Int)), (8, .int .i64 ((2 ^ i : Nat) : Int)), (9, .int .i64 (i : Int))], [])) ?_ ?_
    · refine r_seq ?_
      refine r_region ?_
      refine r_move rfl rfl ?_
      refine r_eql rfl rfl rfl (decide_eq_false (by decide)) ?_
      refine r_move rfl rfl ?_
      refine r_pass rfl rfl rfl rfl ?_
      refine r_pass rfl rfl rfl rfl ?_
      refine r_passU rfl rfl rfl ?_
      refine r_pass rfl rfl rfl rfl ?_
      refine r_pick_f rfl rfl rfl ?_
      refine r_move rfl rfl ?_
      refine r_go rfl rfl ?_
      refine r_move rfl rfl ?_
      refine r_go rfl rfl ?_
      refine r_eql rfl rfl rfl (decide_eq_false (by decide)) ?_
      refine r_go rfl rfl ?_
      refine r_move rfl rfl ?_
      refine r_pass rfl rfl rfl rfl ?_
      refine r_go rfl rfl ?_
      refine r_pick_f rfl rfl rfl ?_
      refine r_go rfl rfl ?_
      refine r_move rfl rfl ?_
      refine r_pass rfl rfl rfl rfl ?_
      refine r_go rfl rfl ?_
      refine r_pick_f rfl rfl rfl ?_
      refine r_pick_f rfl rfl rfl ?_
      refine r_move rfl rfl ?_
      refine r_go rfl rfl ?_
      refine r_move rfl rfl ?_
      refine r_go rfl rfl ?_
      refine r_eql rfl rfl rfl (decide_eq_true (by decide)) ?_
      refine r_go rfl rfl ?_
      refine r_move rfl rfl ?_
      refine r_go rfl rfl ?_
      refine r_move rfl rfl ?_
      refine r_go rfl rfl ?_
      refine r_move rfl rfl ?_
      refine r_go rfl rfl ?_
      refine r_neq_bool rfl rfl rfl rfl rfl ?_
      refine r_go rfl rfl ?_
      refine r_pick_t rfl rfl rfl ?_
      refine r_pick_f rfl rfl rfl ?_
      refine r_nil ?_
      refine r_tn ?_
      refine r_cond rfl (fun hc => ?_) (fun hc => ?_)
      · refine r_region ?_
        refine r_move rfl rfl ?_
        refine r_move rfl rfl ?_
        have hFm : (x ^^^ y) % 2 ^ i ≤ 255 := Nat.le_trans (Nat.le_of_lt (Nat.mod_lt _ (Nat.two_pow_pos i))) (by omega)
        refine r_add rfl rfl rfl (w64 (by omega)) ?_
        refine r_assign rfl rfl ?_
        refine r_nil ?_
        refine r_tn ?_
        refine r_at () ⟨rfl, rfl, rfl, congrArg (fun z => some (Value.int .i64 z)) ?_, rfl, rfl, trivial⟩ (fun w hw => hw)
        simp only [cast_one, decide_eq_true_eq, decide_eq_false_iff_not, bne_iff_ne, ne_eq, Bool.not_eq_true, beq_iff_eq] at *
        first | exact step_yes ((bit_xor x y i).2 (by first | omega | simp_all)) | exact step_no (fun h => by have h2 := (bit_xor x y i).1 h; first | omega | simp_all)
      · refine r_skip ?_
        refine r_tn ?_
        refine r_at () ⟨rfl, rfl, rfl, congrArg (fun z => some (Value.int .i64 z)) ?_, rfl, rfl, trivial⟩ (fun w hw => hw)
        simp only [cast_one, decide_eq_true_eq, decide_eq_false_iff_not, bne_iff_ne, ne_eq, Bool.not_eq_true, beq_iff_eq] at *
        first | exact step_yes ((bit_xor x y i).2 (by first | omega | simp_all)) | exact step_no (fun h => by have h2 := (bit_xor x y i).1 h; first | omega | simp_all)
    intro _
    have hi8 : i < 8 := by have h := of_decide_eq_true hc; omega
    have hp2 : 2 ^ i ≤ 128 := Nat.pow_le_pow_right (by decide) (show i ≤ 7 by omega)
    refine r_region ?_
    refine r_move rfl rfl ?_
    refine r_mul rfl rfl rfl (w64 (by have h := hp2; generalize 2 ^ i = q at h ⊢; omega)) ?_
    refine r_assign rfl rfl ?_
    refine r_nil ?_
    refine r_bn ?_
    refine r_tn ?_
    refine r_region ?_
    refine r_move rfl rfl ?_
    refine r_add rfl rfl rfl (w64 (by omega)) ?_
    refine r_assign rfl rfl ?_
    refine r_nil ?_
    refine r_tn ?_
    exact r_againN (i + 1) (by omega) (by omega) ⟨rfl, rfl, rfl, rfl, congrArg (fun z => some (Value.int .i64 z)) (by rw [Nat.pow_succ]; omega), rfl, trivial⟩ (fun w hw => hw)
  · refine r_exit ?_
    refine r_te ?_
    refine r_te ?_
    refine r_be ?_
    refine r_tn ?_
    refine r_seq ?_
    refine r_region ?_
    refine r_move rfl rfl ?_
    refine r_assign rfl rfl ?_
    refine r_nil ?_
    refine r_tn ?_
    refine r_ret ?_
    have hi8 : i = 8 := by have h := of_decide_eq_false hc; omega
    subst hi8
    exact r_done1 (.inl rfl) rfl (res_tmp rfl) fun w hw => ⟨by rw [Nat.mod_eq_of_lt hF], hw⟩
end Go.Proofs.Ytddoohbgiieiiaa
