/-
  PlaneScrolls, for every plane.
-/
import Derived.Test.YtahanpobeekhiaaCnt07
import Derived.Test.YtahanpobeekhiaaShifts06
namespace Go.Proofs.Ytahanpobeekhiaa
open Go Go.RowKit
set_option linter.unusedVariables false
set_option linter.unusedSimpArgs false
set_option maxHeartbeats 2000000
attribute [local irreducible] mix

theorem shiftP_congr {p q : Nat → Bool} (h : ∀ x, x < 128 → p x = q x) (n : Int) (wide : Bool) (x : Nat) : shiftP p n wide x = shiftP q n wide x := by
  unfold shiftP
  by_cases h1 : 0 ≤ (x : Int) - n
  · by_cases h2 : (x : Int) - n < 128
    · rw [h _ (by omega)]
    · rw [decide_eq_false h2]; simp
  · rw [decide_eq_false h1]; simp
theorem shiftP_none (n : Int) (wide : Bool) (x : Nat) : shiftP noneP n wide x = noneP x := by unfold shiftP; simp [noneP]
theorem cut_row {P : Nat → Nat → Bool} {hires : Bool} (hp : ∀ y x, y < 64 → x < 128 → P y x = true → x < wd hires ∧ y < ht hires) {y : Nat} (hy : y < 64) (x : Nat) (hx : x < 128) : P y x = cutP (P y) hires x := by
  unfold cutP
  cases h : P y x with
  | false => simp
  | true => rw [decide_eq_true (hp y x hy hx h).1]; rfl
theorem scroll_two (P : Nat → Nat → Bool) (hires : Bool) (hp : ∀ y x, y < 64 → x < 128 → P y x = true → x < wd hires ∧ y < ht hires) (a b m y : Nat) (hy : y < 64) (x : Nat) (hx : x < 128) :
    scrollQ P ((a : Int) + (m : Int)) ((b : Int) + (m : Int)) hires y x = scrollQ (scrollQ P (a : Int) (b : Int) hires) (m : Int) (m : Int) hires y x := by
  have hht : ht hires ≤ 64 := by cases hires <;> decide
  unfold scrollQ partQ scrollRow
  by_cases h1 : y < ht hires
  · rw [if_pos h1, if_pos h1]
    by_cases h2 : b + m ≤ y
    · rw [if_pos (by omega), if_pos (by omega)]
      rw [show ((y : Int) - (m : Int)).toNat = y - m by omega, show ((y : Int) - ((b : Int) + (m : Int))).toNat = y - b - m by omega]
      rw [shiftP_congr (cut_row hp (show y - b - m < 64 by omega)), ← shift_two _ _ (.inl ⟨by omega, by omega⟩)]
      refine shiftP_congr (fun x1 hx1 => ?_) _ _ _
      dsimp only
      rw [if_pos (show y - m < ht hires by omega), if_pos (by omega), show (((y - m : Nat) : Int) - (b : Int)).toNat = y - b - m by omega]
      exact (shiftP_congr (cut_row hp (show y - b - m < 64 by omega)) _ _ _).symm
    · rw [if_neg (show ¬ (0 ≤ (y : Int) - ((b : Int) + (m : Int)) ∧ (y : Int) - ((b : Int) + (m : Int)) < ht hires) by omega)]
      by_cases h3 : m ≤ y
      · rw [if_pos (by omega), show ((y : Int) - (m : Int)).toNat = y - m by omega]
        rw [shiftP_congr (q := noneP) (fun x1 hx1 => by dsimp only; rw [if_pos (show y - m < ht hires by omega), if_neg (show ¬ (0 ≤ ((y - m : Nat) : Int) - (b : Int) ∧ ((y - m : Nat) : Int) - (b : Int) < ht hires) by omega)]), shiftP_none]
      · rw [if_neg (show ¬ (0 ≤ (y : Int) - (m : Int) ∧ (y : Int) - (m : Int) < ht hires) by omega)]
  · rw [if_neg h1, if_neg h1]
theorem scroll_zero (P : Nat → Nat → Bool) (hires : Bool) (hp : ∀ y x, y < 64 → x < 128 → P y x = true → x < wd hires ∧ y < ht hires) (y : Nat) (hy : y < 64) (x : Nat) (hx : x < 128) : scrollQ P 0 0 hires y x = P y x := by
  unfold scrollQ partQ scrollRow
  by_cases h1 : y < ht hires
  · rw [if_pos h1, if_pos (by omega), show ((y : Int) - 0).toNat = y by omega, shiftP_congr (cut_row hp hy), shift_zero _ _ _ hx]
    exact (cut_row hp hy x hx).symm
  · rw [if_neg h1]
    cases h : P y x with
    | false => rfl
    | true => exact absurd (hp y x hy hx h).2 h1
theorem scroll_w (P : Nat → Nat → Bool) (hires : Bool) (y : Nat) (hy : y < 64) (x : Nat) (hx : x < 128) : scrollQ P ((wd hires : Nat) : Int) 0 hires y x = false := by
  unfold scrollQ partQ scrollRow
  by_cases h1 : y < ht hires
  · rw [if_pos h1, if_pos (by omega)]
    unfold shiftP
    by_cases h2 : x < wd hires
    · rw [decide_eq_false (show ¬ 0 ≤ (x : Int) - ((wd hires : Nat) : Int) by omega)]; simp
    · rw [decide_eq_false h2]; simp
  · rw [if_neg h1]; rfl
theorem scroll_h (P : Nat → Nat → Bool) (hires : Bool) (y : Nat) (hy : y < 64) (x : Nat) (hx : x < 128) : scrollQ P 0 (-((ht hires : Nat) : Int)) hires y x = false := by
  unfold scrollQ partQ scrollRow
  by_cases h1 : y < ht hires
  · rw [if_pos h1, if_neg (by omega)]; rfl
  · rw [if_neg h1]; rfl
theorem shift_cnt (p : Nat → Bool) (wide : Bool) {n : Int} (hn : 0 ≤ n) : ∀ k, k ≤ 128 → cnt (shiftP p n wide) k ≤ cnt p (k - n.toNat)
  | 0, _ => by simp [cnt]
  | k + 1, hk => by
    have h := shift_cnt p wide hn k (by omega)
    simp only [cnt]
    by_cases h1 : n.toNat ≤ k
    · have e : k + 1 - n.toNat = (k - n.toNat) + 1 := by omega
      rw [e]
      simp only [cnt]
      have h2 : (shiftP p n wide k).toNat ≤ (p (k - n.toNat)).toNat := by
        unfold shiftP
        rw [show ((k : Int) - n).toNat = k - n.toNat by omega]
        cases p (k - n.toNat) <;> simp [Bool.toNat_le]
      omega
    · have e : (shiftP p n wide k).toNat = 0 := by
        unfold shiftP
        rw [decide_eq_false (show ¬ 0 ≤ (k : Int) - n by omega)]; simp
      rw [e]
      have e2 : k + 1 - n.toNat = k - n.toNat := by omega
      rw [e2]; exact h
theorem cnt_mono (p : Nat → Bool) : ∀ {a b : Nat}, a ≤ b → cnt p a ≤ cnt p b
  | a, b, h => by
    obtain ⟨c, rfl⟩ : ∃ c, b = a + c := ⟨b - a, by omega⟩
    rw [cnt_add]; omega
theorem cntR_mono (P : Nat → Nat → Bool) {a b : Nat} (h : a ≤ b) : cntR P a ≤ cntR P b := by
  rw [cntR_flat, cntR_flat]; exact cnt_mono _ (by omega)
theorem scroll_cntR (P : Nat → Nat → Bool) (hires : Bool) (dx dy : Int) (hx : 0 ≤ dx) (hy : 0 ≤ dy) : ∀ k, cntR (scrollQ P dx dy hires) k ≤ cntR P (k - dy.toNat)
  | 0 => by simp [cntR]
  | k + 1 => by
    have h := scroll_cntR P hires dx dy hx hy k
    simp only [cntR]
    have hnone : cnt noneP 128 = 0 := cnt_off fun _ _ => rfl
    by_cases h1 : dy.toNat ≤ k
    · have e : k + 1 - dy.toNat = (k - dy.toNat) + 1 := by omega
      rw [e]
      simp only [cntR]
      have h2 : cnt (scrollQ P dx dy hires k) 128 ≤ cnt (P (k - dy.toNat)) 128 := by
        unfold scrollQ partQ scrollRow
        rw [show ((k : Int) - dy).toNat = k - dy.toNat by omega]
        split
        · split
          · exact Nat.le_trans (shift_cnt _ _ hx 128 (by omega)) (cnt_mono _ (by omega))
          · rw [hnone]; omega
        · rw [hnone]; omega
      omega
    · have e : cnt (scrollQ P dx dy hires k) 128 = 0 := by
        unfold scrollQ partQ scrollRow
        split
        · rw [if_neg (by omega)]; exact hnone
        · exact hnone
      rw [e, show k + 1 - dy.toNat = k - dy.toNat by omega]; exact h
theorem scroll_cnt (P : Nat → Nat → Bool) (hires : Bool) (dx dy : Int) (hx : 0 ≤ dx) (hy : 0 ≤ dy) : cntR (scrollQ P dx dy hires) 64 ≤ cntR P 64 :=
  Nat.le_trans (scroll_cntR P hires dx dy hx hy 64) (cntR_mono P (by omega))


theorem pscrolls_yes (fr st ct : Int) (n1 n2 n3 : Int) (hires : Bool) (x y m : Nat) (W : World) (h1 : 0 ≤ n1 ∧ n1 ≤ 255) (h2 : 0 ≤ n2 ∧ n2 ≤ 255) (h3 : 0 ≤ n3 ∧ n3 ≤ 255) (e1 : n1.tmod 60 = (x : Int)) (e2 : n2.tmod 30 = (y : Int)) (e3 : n3.tmod 30 = (m : Int)) (hx : (x : Int) < 60) (hy : (y : Int) < 30) (hm : (m : Int) < 30) :
    Calls Try.prog 10 #[.agg #[.int .i64 fr, .int .i64 st, .int .i64 ct], .int .u8 n1, .int .u8 n2, .int .u8 n3, .bool hires] W fun e w' => e = .returned (.bool true) ∧ Sat W [] [] w' := by
  have hwd : wd hires ≤ 128 := by cases hires <;> decide
  have hht : ht hires ≤ 64 := by cases hires <;> decide
  refine enter Try.func10 rfl rfl rfl ?_
  refine r_seq ?_
  refine r_region ?_
  refine r_boxV rfl rfl fun b5 => ?_
  refine r_assign rfl rfl ?_
  refine r_nil ?_
  refine r_tn ?_
  refine r_seq ?_
  refine r_seq ?_
  refine r_region ?_
  refine r_call rfl rfl rfl (by kernel_rfl) rfl (fun w hw => by exact awake07 w) ?_
  refine r_not rfl rfl rfl ?_
  refine r_nil ?_
  refine r_tn ?_
  refine r_cond_f rfl ?_
  refine r_skip ?_
  refine r_tn ?_
  refine r_seq ?_
  refine r_region ?_
  refine r_loadV rfl rfl rfl rfl rfl ?_
  refine r_move rfl rfl ?_
  refine r_callx rfl rfl rfl (by kernel_rfl) rfl (fun w hw => refPlane07 fr st ct hires w) ?_
  rintro ⟨b23, P⟩ hp
  refine r_call rfl rfl rfl (by kernel_rfl) rfl (fun w hw => by exact forward07 P b23 8192 w (own_rd (A := some ⟨b23, 0, none⟩) (m := 8192) (c := 8192) hw)) ?_
  refine r_allocV (cs := planeV noneQ) (by kernel_rfl) rfl fun b11 => ?_
  refine r_storeV rfl rfl rfl (planeV_size _) (planeV_size _) (planeV_one _) ?_
  refine r_nil ?_
  refine r_tn ?_
  refine r_seq ?_
  refine r_region ?_
  refine r_move rfl rfl ?_
  refine r_call rfl rfl rfl (by kernel_rfl) rfl (fun w hw => by exact size07 hires w) ?_
  refine r_move rfl rfl ?_
  refine r_extract rfl rfl rfl ?_
  refine r_extract rfl rfl rfl ?_
  refine r_assign rfl rfl ?_
  refine r_assign rfl rfl ?_
  refine r_nil ?_
  refine r_tn ?_
  refine r_seq ?_
  refine r_region ?_
  refine r_move rfl rfl ?_
  refine r_convert rfl rfl rfl rfl (w64 (by omega)) ?_
  refine r_rem (r := (x : Int)) rfl rfl rfl (by decide) e1 ?_
  refine r_assign rfl rfl ?_
  refine r_nil ?_
  refine r_tn ?_
  refine r_seq ?_
  refine r_region ?_
  refine r_move rfl rfl ?_
  refine r_convert rfl rfl rfl rfl (w64 (by omega)) ?_
  refine r_rem (r := (y : Int)) rfl rfl rfl (by decide) e2 ?_
  refine r_assign rfl rfl ?_
  refine r_nil ?_
  refine r_tn ?_
  refine r_seq ?_
  refine r_region ?_
  refine r_move rfl rfl ?_
  refine r_convert rfl rfl rfl rfl (w64 (by omega)) ?_
  refine r_rem (r := (m : Int)) rfl rfl rfl (by decide) e3 ?_
  refine r_assign rfl rfl ?_
  refine r_nil ?_
  refine r_tn ?_
  refine r_seq ?_
  refine r_region ?_
  refine r_loadV rfl rfl rfl rfl (planeV_size _) ?_
  refine r_move rfl rfl ?_
  refine r_move rfl rfl ?_
  refine r_add rfl rfl rfl (w64 (by omega)) ?_
  refine r_move rfl rfl ?_
  refine r_move rfl rfl ?_
  refine r_add rfl rfl rfl (w64 (by omega)) ?_
  refine r_move rfl rfl ?_
  refine r_call rfl rfl rfl (by kernel_rfl) rfl (fun w hw => by exact scroll07 P ((x : Int) + (m : Int)) ((y : Int) + (m : Int)) hires w (by omega) (by omega)) ?_
  refine r_allocV (cs := planeV noneQ) (by kernel_rfl) rfl fun b17 => ?_
  refine r_storeV rfl rfl rfl (planeV_size _) (planeV_size _) (planeV_one _) ?_
  refine r_nil ?_
  refine r_tn ?_
  refine r_seq ?_
  refine r_region ?_
  refine r_loadV rfl rfl rfl rfl (planeV_size _) ?_
  refine r_move rfl rfl ?_
  refine r_move rfl rfl ?_
  refine r_move rfl rfl ?_
  refine r_call rfl rfl rfl (by kernel_rfl) rfl (fun w hw => by exact scroll07 P ((x : Int)) ((y : Int)) hires w (by omega) (by omega)) ?_
  refine r_move rfl rfl ?_
  refine r_move rfl rfl ?_
  refine r_move rfl rfl ?_
  refine r_call rfl rfl rfl (by kernel_rfl) rfl (fun w hw => by exact scroll07 (scrollQ P ((x : Int)) ((y : Int)) hires) ((m : Int)) ((m : Int)) hires w (by omega) (by omega)) ?_
  refine r_allocV (cs := planeV noneQ) (by kernel_rfl) rfl fun b18 => ?_
  refine r_storeV rfl rfl rfl (planeV_size _) (planeV_size _) (planeV_one _) ?_
  refine r_nil ?_
  refine r_tn ?_
  refine r_seq ?_
  refine r_mixedD { xb := [], rb := [b11], rs := [64, 87], fs := [], acs := [63, 86] } (by kernel_rfl) (by kernel_rfl) (fun w hw k hk => by
    simp only [List.mem_cons, List.not_mem_nil, or_false] at hk
    rcases hk with rfl <;> exact Sat.lt hw) ?_
  refine r_loadV rfl rfl rfl rfl (planeV_size _) ?_
  refine r_loadV rfl rfl rfl rfl (planeV_size _) ?_
  refine r_eqlAgg rfl rfl rfl planeFlat (planeV_ok _) (planeV_ok _) ((plane_eq (scrollQ P ((x : Int) + (m : Int)) ((y : Int) + (m : Int)) hires) (scrollQ (scrollQ P ((x : Int)) ((y : Int)) hires) (m : Int) (m : Int) hires)).trans ((eqQ_iff _ _).2 (fun y1 hy1 x1 hx1 => scroll_two P hires hp x y m y1 hy1 x1 hx1))) ?_
  refine r_move rfl rfl ?_
  refine r_go rfl rfl ?_
  refine r_loadV rfl rfl rfl rfl (planeV_size _) ?_
  refine r_go rfl rfl ?_
  refine r_move rfl rfl ?_
  refine r_go rfl rfl ?_
  refine r_call rfl rfl rfl (by kernel_rfl) rfl (fun w hw => by exact scroll07 P (0) (0) hires w (by omega) (by omega)) ?_
  refine r_go rfl rfl ?_
  refine r_loadV rfl rfl rfl rfl (planeV_size _) ?_
  refine r_go rfl rfl ?_
  refine r_eqlAgg rfl rfl rfl planeFlat (planeV_ok _) (planeV_ok _) ((plane_eq (scrollQ P (0) (0) hires) P).trans ((eqQ_iff _ _).2 (fun y1 hy1 x1 hx1 => scroll_zero P hires hp y1 hy1 x1 hx1))) ?_
  refine r_pick_t rfl rfl rfl ?_
  refine r_move rfl rfl ?_
  refine r_go rfl rfl ?_
  refine r_loadV rfl rfl rfl rfl (planeV_size _) ?_
  refine r_go rfl rfl ?_
  refine r_move rfl rfl ?_
  refine r_go rfl rfl ?_
  refine r_move rfl rfl ?_
  refine r_go rfl rfl ?_
  refine r_call rfl rfl rfl (by kernel_rfl) rfl (fun w hw => by exact scroll07 P (((wd hires : Nat) : Int)) (0) hires w (by omega) (by omega)) ?_
  refine r_go rfl rfl ?_
  refine r_call rfl rfl rfl (by kernel_rfl) rfl (fun w hw => by exact count07 (scrollQ P (((wd hires : Nat) : Int)) (0) hires) w) ?_
  refine r_go rfl rfl ?_
  refine r_eql rfl rfl rfl (decide_eq_true (by rw [cntR_zero (scroll_w P hires)]; rfl)) ?_
  refine r_pick_t rfl rfl rfl ?_
  refine r_move rfl rfl ?_
  refine r_go rfl rfl ?_
  refine r_loadV rfl rfl rfl rfl (planeV_size _) ?_
  refine r_go rfl rfl ?_
  refine r_move rfl rfl ?_
  refine r_go rfl rfl ?_
  refine r_neg (r := -((ht hires : Nat) : Int)) rfl rfl ((w64 (by omega)).trans (by omega)) ?_
  refine r_go rfl rfl ?_
  refine r_move rfl rfl ?_
  refine r_go rfl rfl ?_
  refine r_call rfl rfl rfl (by kernel_rfl) rfl (fun w hw => by exact scroll07 P (0) (-((ht hires : Nat) : Int)) hires w (by omega) (by omega)) ?_
  refine r_go rfl rfl ?_
  refine r_call rfl rfl rfl (by kernel_rfl) rfl (fun w hw => by exact count07 (scrollQ P (0) (-((ht hires : Nat) : Int)) hires) w) ?_
  refine r_go rfl rfl ?_
  refine r_eql rfl rfl rfl (decide_eq_true (by rw [cntR_zero (scroll_h P hires)]; rfl)) ?_
  refine r_pick_t rfl rfl rfl ?_
  refine r_move rfl rfl ?_
  refine r_go rfl rfl ?_
  refine r_loadV rfl rfl rfl rfl (planeV_size _) ?_
  refine r_go rfl rfl ?_
  refine r_call rfl rfl rfl (by kernel_rfl) rfl (fun w hw => by exact count07 (scrollQ P ((x : Int) + (m : Int)) ((y : Int) + (m : Int)) hires) w) ?_
  refine r_go rfl rfl ?_
  refine r_loadV rfl rfl rfl rfl (planeV_size _) ?_
  refine r_go rfl rfl ?_
  refine r_call rfl rfl rfl (by kernel_rfl) rfl (fun w hw => by exact count07 P w) ?_
  refine r_go rfl rfl ?_
  refine r_leq rfl rfl rfl (decide_eq_true (by have h := scroll_cnt P hires ((x : Int) + (m : Int)) ((y : Int) + (m : Int)) (by omega) (by omega); omega)) ?_
  refine r_pick_t rfl rfl rfl ?_
  refine r_assign rfl rfl ?_
  refine r_nil ?_
  refine r_tn ?_
  refine r_ret ?_
  exact r_done1 (.inl rfl) rfl (res_tmp rfl) fun w hw => ⟨rfl, hw.clear⟩

theorem PlaneScrolls_walk (fr st ct : Int) (n1 n2 n3 : Int) (hires : Bool) (W : World) (_ : (Lit.int .i64 fr).wf = true) (_ : (Lit.int .i64 st).wf = true) (_ : (Lit.int .i64 ct).wf = true) (w1 : (Lit.int .u8 n1).wf = true) (w2 : (Lit.int .u8 n2).wf = true) (w3 : (Lit.int .u8 n3).wf = true) :
    Calls Try.prog 10 #[.agg #[.int .i64 fr, .int .i64 st, .int .i64 ct], .int .u8 n1, .int .u8 n2, .int .u8 n3, .bool hires] W fun e w' => e = .returned (.bool true) ∧ Sat W [] [] w' := by
  have h1 := wfu8 w1
  have h2 := wfu8 w2
  have h3 := wfu8 w3
  obtain ⟨x, e1, hx⟩ := tmod_nat h1.1 (show 0 < (60 : Int) by decide)
  obtain ⟨y, e2, hy⟩ := tmod_nat h2.1 (show 0 < (30 : Int) by decide)
  obtain ⟨m, e3, hm⟩ := tmod_nat h3.1 (show 0 < (30 : Int) by decide)
  exact pscrolls_yes fr st ct n1 n2 n3 hires x y m W h1 h2 h3 e1 e2 e3 hx hy hm
end Go.Proofs.Ytahanpobeekhiaa
