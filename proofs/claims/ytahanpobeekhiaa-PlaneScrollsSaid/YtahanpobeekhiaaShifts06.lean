/-
  RowShifts, for every row.
-/
import Derived.Test.YtahanpobeekhiaaAw06
namespace Go.Proofs.Ytahanpobeekhiaa
open Go Go.RowKit
set_option linter.unusedVariables false
set_option linter.unusedSimpArgs false
set_option maxHeartbeats 2000000

theorem shiftP_cut (p : Nat → Bool) (wide : Bool) (n : Int) (x : Nat) : shiftP (cutP p wide) n wide x = (decide (x < wd wide ∧ 0 ≤ (x : Int) - n ∧ (x : Int) - n < wd wide) && p ((x : Int) - n).toNat) := by
  have h128 : wd wide ≤ 128 := by cases wide <;> decide
  unfold shiftP cutP
  by_cases h1 : x < wd wide
  · by_cases h2 : 0 ≤ (x : Int) - n
    · by_cases h3 : (x : Int) - n < wd wide
      · have h4 : ((x : Int) - n).toNat < wd wide := by omega
        have h5 : (x : Int) - n < 128 := by omega
        simp only [decide_eq_true h1, decide_eq_true h2, decide_eq_true h4, decide_eq_true h5, decide_eq_true (And.intro h1 (And.intro h2 h3)), Bool.true_and]
      · have h4 : ¬ ((x : Int) - n).toNat < wd wide := by omega
        rw [decide_eq_false h4, decide_eq_false (p := x < wd wide ∧ _) (fun h => h3 h.2.2)]; simp
    · rw [decide_eq_false h2, decide_eq_false (p := x < wd wide ∧ _) (fun h => h2 h.2.1)]; simp
  · rw [decide_eq_false h1, decide_eq_false (p := x < wd wide ∧ _) (fun h => h1 h.1)]; simp
theorem shift_twice (p : Nat → Bool) (wide : Bool) (n m : Int) (x : Nat) : shiftP (shiftP (cutP p wide) n wide) m wide x = (decide (x < wd wide ∧ 0 ≤ (x : Int) - m ∧ (x : Int) - m < wd wide ∧ 0 ≤ (x : Int) - m - n ∧ (x : Int) - m - n < wd wide) && p ((x : Int) - m - n).toNat) := by
  have h128 : wd wide ≤ 128 := by cases wide <;> decide
  rw [show shiftP (shiftP (cutP p wide) n wide) m wide x = (decide (x < wd wide) && (decide (0 ≤ (x : Int) - m) && decide ((x : Int) - m < 128) && shiftP (cutP p wide) n wide ((x : Int) - m).toNat)) from rfl, shiftP_cut]
  by_cases h1 : x < wd wide
  · by_cases h2 : 0 ≤ (x : Int) - m
    · by_cases h3 : (x : Int) - m < wd wide
      · have e : (((x : Int) - m).toNat : Int) = (x : Int) - m := by omega
        have h4 : ((x : Int) - m).toNat < wd wide := by omega
        have h5 : (x : Int) - m < 128 := by omega
        rw [e]
        simp only [decide_eq_true h1, decide_eq_true h2, decide_eq_true h5, Bool.true_and]
        congr 1; congr 1
        exact propext ⟨fun h => ⟨h1, h2, h3, h.2⟩, fun h => ⟨h4, h.2.2.2⟩⟩
      · have h4 : ¬ ((x : Int) - m).toNat < wd wide := by omega
        rw [decide_eq_false (p := _ ∧ _) (fun h => h4 h.1), decide_eq_false (p := x < wd wide ∧ _) (fun h => h3 h.2.2.1)]; simp
    · rw [decide_eq_false h2, decide_eq_false (p := x < wd wide ∧ _) (fun h => h2 h.2.1)]; simp
  · rw [decide_eq_false h1, decide_eq_false (p := x < wd wide ∧ _) (fun h => h1 h.1)]; simp
theorem shift_two (p : Nat → Bool) (wide : Bool) {n m : Int} (h : (0 ≤ n ∧ 0 ≤ m) ∨ (n ≤ 0 ∧ m ≤ 0)) (x : Nat) : shiftP (shiftP (cutP p wide) n wide) m wide x = shiftP (cutP p wide) (n + m) wide x := by
  rw [shift_twice, shiftP_cut, show (x : Int) - (n + m) = (x : Int) - m - n by omega]
  congr 1; congr 1
  exact propext ⟨fun h => ⟨h.1, h.2.2.2⟩, fun h => ⟨h.1, by omega, by omega, h.2⟩⟩
theorem shift_back (p : Nat → Bool) (wide : Bool) {a : Int} (h0 : 0 ≤ a ∧ a ≤ 63) (x : Nat) : shiftP (shiftP (cutP p wide) a wide) (-a) wide x = (cutP p wide x && decide ((x : Int) + a < (wd wide : Nat))) := by
  rw [shift_twice]
  unfold cutP
  rw [show ((x : Int) - -a - a).toNat = x by omega]
  by_cases h1 : x < wd wide
  · by_cases h2 : (x : Int) + a < wd wide
    · rw [decide_eq_true (p := x < wd wide ∧ _) ⟨h1, by omega, by omega, by omega, by omega⟩, decide_eq_true h1, decide_eq_true h2]; simp
    · rw [decide_eq_false (p := x < wd wide ∧ _) (fun h => h2 (by omega)), decide_eq_false h2]; simp
  · rw [decide_eq_false (p := x < wd wide ∧ _) (fun h => h1 h.1), decide_eq_false h1]; simp
theorem shift_zero (p : Nat → Bool) (wide : Bool) (x : Nat) (hx : x < 128) : shiftP (cutP p wide) 0 wide x = cutP p wide x := by
  rw [shiftP_cut]; unfold cutP
  rw [show ((x : Int) - 0).toNat = x by omega]
  congr 1; congr 1
  exact propext ⟨fun h => h.1, fun h => ⟨h, by omega, by omega⟩⟩
theorem shift_all (p : Nat → Bool) (wide : Bool) (x : Nat) : shiftP (cutP p wide) ((wd wide : Nat) : Int) wide x = noneP x := by
  rw [shiftP_cut, decide_eq_false (fun h => by omega)]; rfl
theorem shift_allN (p : Nat → Bool) (wide : Bool) (x : Nat) : shiftP (cutP p wide) (-((wd wide : Nat) : Int)) wide x = noneP x := by
  rw [shiftP_cut, decide_eq_false (fun h => by omega)]; rfl
theorem shifts06 (p : Nat → Bool) (wide : Bool) (n m a b : Int) (W : World) (hn : 0 ≤ n ∧ n ≤ 255) (hm : 0 ≤ m ∧ m ≤ 255) (ha2 : n.tmod 64 = a) (hb2 : m.tmod 64 = b) (h0 : 0 ≤ a ∧ a ≤ 63) (h1 : 0 ≤ b ∧ b ≤ 63) :
    Calls Try.prog 5 #[.int .u64 ((hiN p : Nat) : Int), .int .u64 ((loN p : Nat) : Int), .bool wide, .int .u8 n, .int .u8 m] W fun e w' => e = .returned (.bool true) ∧ Sat W [] [] w' := by
  have h128 : wd wide ≤ 128 := by cases wide <;> decide
  refine enter Try.func5 rfl rfl rfl ?_
  refine r_seq ?_
  refine r_region ?_
  refine r_assign rfl rfl ?_
  refine r_nil ?_
  refine r_tn ?_
  refine r_seq ?_
  refine r_seq ?_
  refine r_region ?_
  refine r_call rfl rfl rfl (by kernel_rfl) rfl (fun w hw => by exact awake06 w) ?_
  refine r_not rfl rfl rfl ?_
  refine r_nil ?_
  refine r_tn ?_
  refine r_cond_f rfl ?_
  refine r_skip ?_
  refine r_tn ?_
  refine r_seq ?_
  refine r_region ?_
  refine r_move rfl rfl ?_
  refine r_move rfl rfl ?_
  refine r_move rfl rfl ?_
  refine r_call rfl rfl rfl (by kernel_rfl) rfl (fun w hw => by exact make06 p wide w) ?_
  refine r_allocV (cs := #[.int .u64 0, .int .u64 0]) rfl rfl fun b11 => ?_
  refine r_storeV rfl rfl rfl rfl rfl rfl ?_
  refine r_nil ?_
  refine r_tn ?_
  refine r_seq ?_
  refine r_region ?_
  refine r_move rfl rfl ?_
  refine r_call rfl rfl rfl (by kernel_rfl) rfl (fun w hw => by exact width06 wide w) ?_
  refine r_assign rfl rfl ?_
  refine r_nil ?_
  refine r_tn ?_
  refine r_seq ?_
  refine r_region ?_
  refine r_move rfl rfl ?_
  refine r_convert rfl rfl rfl rfl (w64 (by omega)) ?_
  refine r_rem (r := a) rfl rfl rfl (by decide) ha2 ?_
  refine r_assign rfl rfl ?_
  refine r_nil ?_
  refine r_tn ?_
  refine r_seq ?_
  refine r_region ?_
  refine r_move rfl rfl ?_
  refine r_convert rfl rfl rfl rfl (w64 (by omega)) ?_
  refine r_rem (r := b) rfl rfl rfl (by decide) hb2 ?_
  refine r_assign rfl rfl ?_
  refine r_nil ?_
  refine r_tn ?_
  refine r_seq ?_
  refine r_seq ?_
  refine r_mixedD { xb := [], rb := [b11], rs := [38, 55], fs := [], acs := [34, 37, 50, 54] } (by kernel_rfl) (by kernel_rfl) (fun w hw k hk => by
    simp only [List.mem_cons, List.not_mem_nil, or_false] at hk
    rcases hk with rfl <;> exact Sat.lt hw) ?_
  refine r_loadV rfl rfl rfl rfl rfl ?_
  refine r_move rfl rfl ?_
  refine r_move rfl rfl ?_
  refine r_call rfl rfl rfl (by kernel_rfl) rfl (fun w hw => by exact rowShift (cutP p wide) (a) wide w (by omega)) ?_
  refine r_move rfl rfl ?_
  refine r_move rfl rfl ?_
  refine r_call rfl rfl rfl (by kernel_rfl) rfl (fun w hw => by exact rowShift (shiftP (cutP p wide) a wide) (b) wide w (by omega)) ?_
  refine r_loadV rfl rfl rfl rfl rfl ?_
  refine r_move rfl rfl ?_
  refine r_move rfl rfl ?_
  refine r_add rfl rfl rfl (w64 (by omega)) ?_
  refine r_move rfl rfl ?_
  refine r_call rfl rfl rfl (by kernel_rfl) rfl (fun w hw => by exact rowShift (cutP p wide) (a + b) wide w (by omega)) ?_
  refine r_neqAgg rfl rfl rfl rowFlat (rowV_ok _) (rowV_ok _) (by rw [rowV_congr (p := shiftP (shiftP (cutP p wide) a wide) b wide) (q := shiftP (cutP p wide) (a + b) wide) (fun y hy => shift_two p wide (.inl ⟨by omega, by omega⟩) y), row_self]) ?_
  refine r_move rfl rfl ?_
  refine r_go rfl rfl ?_
  refine r_loadV rfl rfl rfl rfl rfl ?_
  refine r_go rfl rfl ?_
  refine r_move rfl rfl ?_
  refine r_go rfl rfl ?_
  refine r_neg (r := -a) rfl rfl ((w64 (by omega)).trans (by omega)) ?_
  refine r_go rfl rfl ?_
  refine r_move rfl rfl ?_
  refine r_go rfl rfl ?_
  refine r_call rfl rfl rfl (by kernel_rfl) rfl (fun w hw => by exact rowShift (cutP p wide) (-a) wide w (by omega)) ?_
  refine r_go rfl rfl ?_
  refine r_move rfl rfl ?_
  refine r_go rfl rfl ?_
  refine r_neg (r := -b) rfl rfl ((w64 (by omega)).trans (by omega)) ?_
  refine r_go rfl rfl ?_
  refine r_move rfl rfl ?_
  refine r_go rfl rfl ?_
  refine r_call rfl rfl rfl (by kernel_rfl) rfl (fun w hw => by exact rowShift (shiftP (cutP p wide) (-a) wide) (-b) wide w (by omega)) ?_
  refine r_go rfl rfl ?_
  refine r_loadV rfl rfl rfl rfl rfl ?_
  refine r_go rfl rfl ?_
  refine r_move rfl rfl ?_
  refine r_go rfl rfl ?_
  refine r_neg (r := -a) rfl rfl ((w64 (by omega)).trans (by omega)) ?_
  refine r_go rfl rfl ?_
  refine r_move rfl rfl ?_
  refine r_go rfl rfl ?_
  refine r_sub rfl rfl rfl (w64 (by omega)) ?_
  refine r_go rfl rfl ?_
  refine r_move rfl rfl ?_
  refine r_go rfl rfl ?_
  refine r_call rfl rfl rfl (by kernel_rfl) rfl (fun w hw => by exact rowShift (cutP p wide) (-a - b) wide w (by omega)) ?_
  refine r_go rfl rfl ?_
  refine r_neqAgg rfl rfl rfl rowFlat (rowV_ok _) (rowV_ok _) (by rw [rowV_congr (p := shiftP (shiftP (cutP p wide) (-a) wide) (-b) wide) (q := shiftP (cutP p wide) (-a - b) wide) (fun y hy => shift_two p wide (.inr ⟨by omega, by omega⟩) y), row_self]) ?_
  refine r_pick_f rfl rfl rfl ?_
  refine r_nil ?_
  refine r_tn ?_
  refine r_cond_f rfl ?_
  refine r_skip ?_
  refine r_tn ?_
  refine r_seq ?_
  refine r_region ?_
  refine r_loadV rfl rfl rfl rfl rfl ?_
  refine r_move rfl rfl ?_
  refine r_move rfl rfl ?_
  refine r_call rfl rfl rfl (by kernel_rfl) rfl (fun w hw => by exact rowShift (cutP p wide) (a) wide w (by omega)) ?_
  refine r_move rfl rfl ?_
  refine r_neg (r := -a) rfl rfl ((w64 (by omega)).trans (by omega)) ?_
  refine r_move rfl rfl ?_
  refine r_call rfl rfl rfl (by kernel_rfl) rfl (fun w hw => by exact rowShift (shiftP (cutP p wide) a wide) (-a) wide w (by omega)) ?_
  refine r_allocV (cs := #[.int .u64 0, .int .u64 0]) rfl rfl fun b15 => ?_
  refine r_storeV rfl rfl rfl rfl rfl rfl ?_
  refine r_nil ?_
  refine r_tn ?_
  refine r_seq ?_
  refine r_seq ?_
  refine r_region ?_
  refine r_assign rfl rfl ?_
  refine r_nil ?_
  refine r_tn ?_
  refine r_block ?_
  refine r_loopN (fun i => [(11, .pointer (some ⟨b11, 0, none⟩)), (12, .int .i64 (wd wide : Nat)), (13, .int .i64 a), (15, .pointer (some ⟨b15, 0, none⟩)), (16, .int .i64 (i : Int))]) (fun i => [.blk b11 (.cells (rowV (cutP p wide)) 27 (0, 0)), .blk b15 (.cells (rowV (shiftP (shiftP (cutP p wide) a wide) (-a) wide)) 27 (0, 0))]) (fun i => i ≤ 128) 128 0 (by omega) ⟨rfl, rfl, rfl, rfl, rfl, trivial⟩ (fun w hw => hw.sub) fun i hi => ?_
  refine r_seq ?_
  refine r_seq ?_
  refine r_region ?_
  refine r_move rfl rfl ?_
  refine r_lss rfl rfl rfl rfl ?_
  refine r_nil ?_
  refine r_tn ?_
  refine r_cond rfl (fun hc => ?_) (fun hc => ?_)
  · refine r_skip ?_
    refine r_tn ?_
    refine r_seq ?_
    refine r_block ?_
    refine r_seq ?_
    refine r_mixedD { xb := [], rb := [b11], rs := [79], fs := [], acs := [78] } (by kernel_rfl) (by kernel_rfl) (fun w hw k hk => by
      simp only [List.mem_cons, List.not_mem_nil, or_false] at hk
      rcases hk with rfl <;> exact Sat.lt hw) ?_
    have hi2 : i < 128 := by have h := of_decide_eq_true hc; omega
    refine r_loadV rfl rfl rfl rfl rfl ?_
    refine r_move rfl rfl ?_
    refine r_call (v := .bool ((shiftP (shiftP (cutP p wide) a wide) (-a) wide) i)) rfl rfl rfl (by kernel_rfl) rfl (fun w hw => by have h := rowGet (shiftP (shiftP (cutP p wide) a wide) (-a) wide) (i : Int) w; rw [getB_nat (shiftP (shiftP (cutP p wide) a wide) (-a) wide) hi2] at h; exact h) ?_
    refine r_loadV rfl rfl rfl rfl rfl ?_
    refine r_move rfl rfl ?_
    refine r_call (v := .bool ((cutP p wide) i)) rfl rfl rfl (by kernel_rfl) rfl (fun w hw => by have h := rowGet (cutP p wide) (i : Int) w; rw [getB_nat (cutP p wide) hi2] at h; exact h) ?_
    refine r_move rfl rfl ?_
    refine r_split 82 rfl (fun hb82 => ?_) (fun hb82 => ?_)
    · refine r_go rfl rfl ?_
      refine r_move rfl rfl ?_
      refine r_go rfl rfl ?_
      refine r_move rfl rfl ?_
      refine r_go rfl rfl ?_
      refine r_add rfl rfl rfl (w64 (by omega)) ?_
      refine r_go rfl rfl ?_
      refine r_move rfl rfl ?_
      refine r_go rfl rfl ?_
      refine r_lss rfl rfl rfl rfl ?_
      refine r_pick_t rfl rfl rfl ?_
      refine r_neq_bool (p := false) rfl rfl rfl rfl (by rw [shift_back p wide h0 i]; simp [*]) ?_
      refine r_nil ?_
      refine r_tn ?_
      refine r_cond_f rfl ?_
      refine r_skip ?_
      refine r_bn ?_
      refine r_tn ?_
      refine r_region ?_
      refine r_move rfl rfl ?_
      refine r_add rfl rfl rfl (w64 (by omega)) ?_
      refine r_assign rfl rfl ?_
      refine r_nil ?_
      refine r_tn ?_
      exact r_againN (i + 1) (by omega) (by omega) ⟨rfl, rfl, rfl, rfl, rfl, trivial⟩ (fun w hw => hw.sub)
    · refine r_pass rfl rfl rfl rfl ?_
      refine r_pass rfl rfl rfl rfl ?_
      refine r_pass rfl rfl rfl rfl ?_
      refine r_pass rfl rfl rfl rfl ?_
      refine r_pass rfl rfl rfl rfl ?_
      refine r_pick_f rfl rfl rfl ?_
      refine r_neq_bool (p := false) rfl rfl rfl rfl (by rw [shift_back p wide h0 i]; simp [*]) ?_
      refine r_nil ?_
      refine r_tn ?_
      refine r_cond_f rfl ?_
      refine r_skip ?_
      refine r_bn ?_
      refine r_tn ?_
      refine r_region ?_
      refine r_move rfl rfl ?_
      refine r_add rfl rfl rfl (w64 (by omega)) ?_
      refine r_assign rfl rfl ?_
      refine r_nil ?_
      refine r_tn ?_
      exact r_againN (i + 1) (by omega) (by omega) ⟨rfl, rfl, rfl, rfl, rfl, trivial⟩ (fun w hw => hw.sub)
  · refine r_exit ?_
    refine r_te ?_
    refine r_te ?_
    refine r_be ?_
    refine r_tn ?_
    refine r_seq ?_
    refine r_mixedD { xb := [], rb := [b11], rs := [93], fs := [], acs := [92] } (by kernel_rfl) (by kernel_rfl) (fun w hw k hk => by
      simp only [List.mem_cons, List.not_mem_nil, or_false] at hk
      rcases hk with rfl <;> exact Sat.lt hw) ?_
    refine r_loadV rfl rfl rfl rfl rfl ?_
    refine r_move rfl rfl ?_
    refine r_call rfl rfl rfl (by kernel_rfl) rfl (fun w hw => by exact rowShift (cutP p wide) (0) wide w (by omega)) ?_
    refine r_loadV rfl rfl rfl rfl rfl ?_
    refine r_eqlAgg rfl rfl rfl rowFlat (rowV_ok _) (rowV_ok _) (by rw [rowV_congr (p := shiftP (cutP p wide) 0 wide) (q := cutP p wide) (fun y hy => shift_zero p wide y hy), row_self]) ?_
    refine r_move rfl rfl ?_
    refine r_go rfl rfl ?_
    refine r_loadV rfl rfl rfl rfl rfl ?_
    refine r_go rfl rfl ?_
    refine r_move rfl rfl ?_
    refine r_go rfl rfl ?_
    refine r_move rfl rfl ?_
    refine r_go rfl rfl ?_
    refine r_call rfl rfl rfl (by kernel_rfl) rfl (fun w hw => by exact rowShift (cutP p wide) (((wd wide : Nat) : Int)) wide w (by omega)) ?_
    refine r_go rfl rfl ?_
    refine r_call (v := .bool true) rfl rfl rfl (by kernel_rfl) rfl (fun w hw => by have h := rowEmpty (shiftP (cutP p wide) ((wd wide : Nat) : Int) wide) w; rw [show (eqB (shiftP (cutP p wide) ((wd wide : Nat) : Int) wide) noneP) = true from (eqB_iff _ _).2 fun y hy => shift_all p wide y] at h; exact h) ?_
    refine r_pick_t rfl rfl rfl ?_
    refine r_move rfl rfl ?_
    refine r_go rfl rfl ?_
    refine r_loadV rfl rfl rfl rfl rfl ?_
    refine r_go rfl rfl ?_
    refine r_move rfl rfl ?_
    refine r_go rfl rfl ?_
    refine r_neg (r := -((wd wide : Nat) : Int)) rfl rfl ((w64 (by omega)).trans (by omega)) ?_
    refine r_go rfl rfl ?_
    refine r_move rfl rfl ?_
    refine r_go rfl rfl ?_
    refine r_call rfl rfl rfl (by kernel_rfl) rfl (fun w hw => by exact rowShift (cutP p wide) (-((wd wide : Nat) : Int)) wide w (by omega)) ?_
    refine r_go rfl rfl ?_
    refine r_call (v := .bool true) rfl rfl rfl (by kernel_rfl) rfl (fun w hw => by have h := rowEmpty (shiftP (cutP p wide) (-((wd wide : Nat) : Int)) wide) w; rw [show (eqB (shiftP (cutP p wide) (-((wd wide : Nat) : Int)) wide) noneP) = true from (eqB_iff _ _).2 fun y hy => shift_allN p wide y] at h; exact h) ?_
    refine r_pick_t rfl rfl rfl ?_
    refine r_assign rfl rfl ?_
    refine r_nil ?_
    refine r_tn ?_
    refine r_ret ?_
    exact r_done1 (.inl rfl) rfl (res_tmp rfl) fun w hw => ⟨rfl, hw.clear⟩
theorem RowShifts_walk (a b : Int) (wide : Bool) (n m : Int) (W : World) (ha : (Lit.int .u64 a).wf = true) (hb : (Lit.int .u64 b).wf = true) (hn : (Lit.int .u8 n).wf = true) (hm : (Lit.int .u8 m).wf = true) :
    Calls Try.prog 5 #[.int .u64 a, .int .u64 b, .bool wide, .int .u8 n, .int .u8 m] W fun e w' => e = .returned (.bool true) ∧ Sat W [] [] w' := by
  obtain ⟨p, rfl, rfl⟩ := row_of (wfU ha) (wfU hb)
  have h1 := wfu8 hn
  have h2 := wfu8 hm
  exact shifts06 p wide n m _ _ W h1 h2 rfl rfl (by rw [Int.tmod_eq_emod_of_nonneg h1.1]; omega) (by rw [Int.tmod_eq_emod_of_nonneg h2.1]; omega)
end Go.Proofs.Ytahanpobeekhiaa
