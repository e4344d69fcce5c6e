/-
  PlaneMoves, for every pattern.
-/
import Derived.Test.YtahanpobeekhiaaAw07
import Derived.Test.YtahanpobeekhiaaMoves06
namespace Go.Proofs.Ytahanpobeekhiaa
open Go Go.RowKit
set_option linter.unusedVariables false
set_option linter.unusedSimpArgs false
set_option maxHeartbeats 2000000
attribute [local irreducible] mix

theorem all_u16 {l : List Int} (h : ∀ n, n ∈ l → (Lit.int .u16 n).wf = true) : l.all (fun z => decide (0 ≤ z) && decide (z ≤ 65535)) = true :=
  List.all_eq_true.2 fun z hz => by have h2 := wfu16 (h z hz); simp; omega
theorem right_get {n : Nat} {x y : Int} {hires : Bool} (h : rightM7 n x y hires = true) : n ≤ 16 ∧ ∃ x1 y1 : Nat, x = (x1 : Int) ∧ y = (y1 : Int) ∧ x1 < wd hires ∧ y1 < ht hires := by
  simp only [rightM7, Bool.and_eq_true, decide_eq_true_eq] at h
  exact ⟨by omega, x.toNat, y.toNat, by omega, by omega, by omega, by omega⟩


theorem mv_plane (l : List Int) (count x y : Nat) (hires : Bool) (hx : x < wd hires) (hy : y < ht hires) (hc : count ≤ 16) (hl : l.length ≤ 16) (y1 : Nat) (hy1 : y1 < 64) (x1 : Nat) (hx1 : x1 < 128) :
    sprQ l count x y hires true l.length y1 x1 = scrollQ (sprQ l count 0 0 hires true l.length) (x : Int) (y : Int) hires y1 x1 := by
  have hht : ht hires ≤ 64 := by cases hires <;> decide
  have hht2 : 32 ≤ ht hires := by cases hires <;> decide
  have hn : ∀ {a b : Prop}, ¬ (true = false ∧ a ∧ b) := fun h => by cases h.1
  unfold scrollQ partQ scrollRow
  by_cases h1 : y1 < ht hires
  · rw [if_pos h1]
    by_cases h2 : y ≤ y1
    · rw [if_pos (by omega)]
      rw [show ((y1 : Int) - (y : Int)).toNat = y1 - y by omega]
      unfold sprQ
      rw [if_neg hn, if_neg hn]
      by_cases h3 : y1 - y < l.length
      · rw [if_pos ⟨h2, h1, h3⟩, mv_clip _ count x hires hx (by omega) x1 hx1]
        unfold shiftP
        congr 2
        rw [if_pos ⟨by omega, by omega, by omega⟩, Nat.sub_zero]
      · rw [if_neg (show ¬ (y ≤ y1 ∧ y1 < ht hires ∧ y1 - y < l.length) by omega)]
        unfold shiftP
        rw [if_neg (show ¬ (0 ≤ y1 - y ∧ y1 - y < ht hires ∧ y1 - y - 0 < l.length) by omega)]
        simp [noneP]
    · rw [if_neg (show ¬ (0 ≤ (y1 : Int) - (y : Int) ∧ (y1 : Int) - (y : Int) < ht hires) by omega)]
      unfold sprQ
      rw [if_neg hn, if_neg (show ¬ (y ≤ y1 ∧ y1 < ht hires ∧ y1 - y < l.length) by omega)]
  · rw [if_neg h1]
    unfold sprQ
    rw [if_neg hn, if_neg (show ¬ (y ≤ y1 ∧ y1 < ht hires ∧ y1 - y < l.length) by omega)]


theorem pmoves_no (A : Option Addr) (c : Nat) (l : List Int) (big : Bool) (x y : Int) (hires : Bool) (W : World) (hR : rightM7 l.length x y hires = false) :
    Calls Try.prog 12 #[.slice A l.length c, .bool big, .int .i64 x, .int .i64 y, .bool hires] W fun e w' => e = .returned (.bool true) ∧ Sat W [] [] w' := by
  refine enter Try.func12 rfl rfl rfl ?_
  refine r_seq ?_
  refine r_region ?_
  refine r_assign rfl rfl ?_
  refine r_nil ?_
  refine r_tn ?_
  refine r_seq ?_
  refine r_seq ?_
  refine r_region ?_
  refine r_call rfl rfl rfl (by kernel_rfl) rfl (fun w hw => by exact awake07 w) ?_
  refine r_not rfl rfl rfl ?_
  refine r_move rfl rfl ?_
  refine r_go rfl rfl ?_
  refine r_move rfl rfl ?_
  refine r_go rfl rfl ?_
  refine r_move rfl rfl ?_
  refine r_go rfl rfl ?_
  refine r_move rfl rfl ?_
  refine r_go rfl rfl ?_
  refine r_move rfl rfl ?_
  refine r_go rfl rfl ?_
  refine r_call (v := .bool false) rfl rfl rfl (by kernel_rfl) rfl (fun w hw => by have h := right07 A l.length c x y hires w; rw [hR] at h; exact h) ?_
  refine r_go rfl rfl ?_
  refine r_not rfl rfl rfl ?_
  refine r_pick_f rfl rfl rfl ?_
  refine r_nil ?_
  refine r_tn ?_
  refine r_cond_t rfl ?_
  refine r_seq ?_
  refine r_region ?_
  refine r_call rfl rfl rfl (by kernel_rfl) rfl (fun w hw => by exact awake07 w) ?_
  refine r_assign rfl rfl ?_
  refine r_nil ?_
  refine r_tn ?_
  refine r_ret ?_
  refine r_tr ?_
  exact r_done1 (.inl rfl) rfl (res_tmp rfl) fun w hw => ⟨rfl, hw.clear⟩

theorem pmoves_yes (A : Option Addr) (c : Nat) (l : List Int) (big : Bool) (x y : Nat) (hires : Bool) (W : World) (hw1 : l.all (fun z => decide (0 ≤ z) && decide (z ≤ 65535)) = true) (hA : Rd W A (l.map (Value.int .u16))) (hl : l.length ≤ 16) (hx : x < wd hires) (hy : y < ht hires) (hR : rightM7 l.length (x : Int) (y : Int) hires = true) :
    Calls Try.prog 12 #[.slice A l.length c, .bool big, .int .i64 (x : Int), .int .i64 (y : Int), .bool hires] W fun e w' => e = .returned (.bool true) ∧ Sat W [] [] w' := by
  have hcb : cb big ≤ 16 := by cases big <;> decide
  have hwd : wd hires ≤ 128 := by cases hires <;> decide
  have hwd2 : 64 ≤ wd hires := by cases hires <;> decide
  have hht : ht hires ≤ 64 := by cases hires <;> decide
  have hht2 : 32 ≤ ht hires := by cases hires <;> decide
  refine enter Try.func12 rfl rfl rfl ?_
  refine r_seq ?_
  refine r_region ?_
  refine r_assign rfl rfl ?_
  refine r_nil ?_
  refine r_tn ?_
  refine r_seq ?_
  refine r_seq ?_
  refine r_region ?_
  refine r_call rfl rfl rfl (by kernel_rfl) rfl (fun w hw => by exact awake07 w) ?_
  refine r_not rfl rfl rfl ?_
  refine r_move rfl rfl ?_
  refine r_go rfl rfl ?_
  refine r_move rfl rfl ?_
  refine r_go rfl rfl ?_
  refine r_move rfl rfl ?_
  refine r_go rfl rfl ?_
  refine r_move rfl rfl ?_
  refine r_go rfl rfl ?_
  refine r_move rfl rfl ?_
  refine r_go rfl rfl ?_
  refine r_call (v := .bool true) rfl rfl rfl (by kernel_rfl) rfl (fun w hw => by have h := right07 A l.length c (x : Int) (y : Int) hires w; rw [hR] at h; exact h) ?_
  refine r_go rfl rfl ?_
  refine r_not rfl rfl rfl ?_
  refine r_pick_f rfl rfl rfl ?_
  refine r_nil ?_
  refine r_tn ?_
  refine r_cond_f rfl ?_
  refine r_skip ?_
  refine r_tn ?_
  refine r_seq ?_
  refine r_region ?_
  refine r_move rfl rfl ?_
  refine r_move rfl rfl ?_
  refine r_call rfl rfl rfl (by kernel_rfl) rfl (fun w hw => by exact cnt07 big w) ?_
  refine r_move rfl rfl ?_
  refine r_call rfl rfl rfl (by kernel_rfl) rfl (fun w hw => by exact sprite07 A c l (cb big) 0 0 hires true w (hA.keep hw) hw1 hl (by omega) (by omega) (by omega)) ?_
  refine r_allocV (cs := planeV noneQ) (by kernel_rfl) rfl fun b11 => ?_
  refine r_storeV rfl rfl rfl (planeV_size _) (planeV_size _) (planeV_one _) ?_
  refine r_nil ?_
  refine r_tn ?_
  refine r_seq ?_
  refine r_mixedD { xb := [], rb := [b11], rs := [35], fs := [], acs := [30, 34] } (by kernel_rfl) (by kernel_rfl) (fun w hw k hk => by
    simp only [List.mem_cons, List.not_mem_nil, or_false] at hk
    rcases hk with rfl <;> exact Sat.lt hw) ?_
  refine r_move rfl rfl ?_
  refine r_move rfl rfl ?_
  refine r_call rfl rfl rfl (by kernel_rfl) rfl (fun w hw => by exact cnt07 big w) ?_
  refine r_move rfl rfl ?_
  refine r_move rfl rfl ?_
  refine r_move rfl rfl ?_
  refine r_call rfl rfl rfl (by kernel_rfl) rfl (fun w hw => by exact sprite07 A c l (cb big) x y hires true w (hA.keep hw) hw1 hl (by omega) (by omega) (by omega)) ?_
  refine r_loadV rfl rfl rfl rfl (planeV_size _) ?_
  refine r_move rfl rfl ?_
  refine r_move rfl rfl ?_
  refine r_move rfl rfl ?_
  refine r_call rfl rfl rfl (by kernel_rfl) rfl (fun w hw => by exact scroll07 (sprQ l (cb big) 0 0 hires true l.length) (x : Int) (y : Int) hires w (by omega) (by omega)) ?_
  refine r_eqlAgg rfl rfl rfl planeFlat (planeV_ok _) (planeV_ok _) ((plane_eq (sprQ l (cb big) x y hires true l.length) (scrollQ (sprQ l (cb big) 0 0 hires true l.length) (x : Int) (y : Int) hires)).trans ((eqQ_iff _ _).2 (fun y1 hy1 x1 hx1 => mv_plane l (cb big) x y hires hx hy hcb hl y1 hy1 x1 hx1))) ?_
  refine r_assign rfl rfl ?_
  refine r_nil ?_
  refine r_tn ?_
  refine r_ret ?_
  exact r_done1 (.inl rfl) rfl (res_tmp rfl) fun w hw => ⟨rfl, hw.clear⟩

theorem PlaneMoves_walk (A : Option Addr) (c : Nat) (l : List Int) (big : Bool) (x y : Int) (hires : Bool) (W : World) (hA : Rd W A (l.map (Value.int .u16))) (hm : l.length ≤ 140737488351232) (hw0 : ∀ n, n ∈ l → (Lit.int .u16 n).wf = true) (hx0 : (Lit.int .i64 x).wf = true) (hy0 : (Lit.int .i64 y).wf = true) :
    Calls Try.prog 12 #[.slice A l.length c, .bool big, .int .i64 x, .int .i64 y, .bool hires] W fun e w' => e = .returned (.bool true) ∧ Sat W [] [] w' := by
  have hw := all_u16 hw0
  cases hR : rightM7 l.length x y hires with
  | false => exact pmoves_no A c l big x y hires W hR
  | true =>
    obtain ⟨hl, x1, y1, rfl, rfl, hx, hy⟩ := right_get hR
    exact pmoves_yes A c l big x1 y1 hires W hw hA hl hx hy hR
end Go.Proofs.Ytahanpobeekhiaa
