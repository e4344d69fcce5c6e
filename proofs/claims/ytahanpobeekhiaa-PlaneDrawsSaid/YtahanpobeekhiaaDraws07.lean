/-
  PlaneDraws, for every plane and every pattern.
-/
import Derived.Test.YtahanpobeekhiaaCnt07
namespace Go.Proofs.Ytahanpobeekhiaa
open Go Go.RowKit
set_option linter.unusedVariables false
set_option linter.unusedSimpArgs false
set_option maxHeartbeats 2000000
attribute [local irreducible] mix

theorem all_u16 {l : List Int} (h : ∀ n, n ∈ l → (Lit.int .u16 n).wf = true) : l.all (fun z => decide (0 ≤ z) && decide (z ≤ 65535)) = true :=
  List.all_eq_true.2 fun z hz => by have h2 := wfu16 (h z hz); simp; omega
theorem right_get {n : Nat} {x y : Int} {hires : Bool} (h : rightM7 n x y hires = true) : n ≤ 16 ∧ ∃ x1 y1 : Nat, x = (x1 : Int) ∧ y = (y1 : Int) ∧ x1 < wd hires ∧ y1 < ht hires := by
  simp only [rightM7, Bool.and_eq_true, decide_eq_true_eq] at h
  exact ⟨by omega, x.toNat, y.toNat, by omega, by omega, by omega, by omega⟩


theorem pixQ_nat (P : Nat → Nat → Bool) {k i : Nat} (hk : k < 128) (hi : i < 64) : pixQ P (k : Int) (i : Int) = flatP P (128 * i + k) := by
  unfold pixQ flatP
  rw [decide_eq_true (show (0 : Int) ≤ (i : Int) by omega), decide_eq_true (show (i : Int) < 64 by omega), getB_nat _ hk, show (128 * i + k) / 128 = i by omega, show (128 * i + k) % 128 = k by omega]
  rfl
theorem hit_comm (P Q : Nat → Nat → Bool) : hitN Q P 8192 = hitK P Q 64 := by
  rw [hitN_eq, hitK_eq]
  have e : bothN Q P = bothN P Q := by funext i; unfold bothN; rw [Bool.and_comm]
  rw [e]
theorem hit_self (Q : Nat → Nat → Bool) : hitK Q Q 64 = decide (0 < cntR Q 64) := by
  rw [hitK_eq, cntR_flat]
  have e : bothN Q Q = flatP Q := by funext i; unfold bothN; rw [Bool.and_self]
  rw [e]


theorem pdraws_no (fr st ct : Int) (A : Option Addr) (c : Nat) (l : List Int) (big : Bool) (x y : Int) (hires clip : Bool) (W : World) (hR : rightM7 l.length x y hires = false) :
    Calls Try.prog 9 #[.agg #[.int .i64 fr, .int .i64 st, .int .i64 ct], .slice A l.length c, .bool big, .int .i64 x, .int .i64 y, .bool hires, .bool clip] W fun e w' => e = .returned (.bool true) ∧ Sat W [] [] w' := by
  refine enter Try.func9 rfl rfl rfl ?_
  refine r_seq ?_
  refine r_region ?_
  refine r_boxV rfl rfl fun b7 => ?_
  refine r_assign rfl rfl ?_
  refine r_nil ?_
  refine r_tn ?_
  refine r_seq ?_
  refine r_seq ?_
  refine r_region ?_
  refine r_call rfl rfl rfl (by kernel_rfl) rfl (fun w hw => by exact awake07 w) ?_
  refine r_not rfl rfl rfl ?_
  refine r_move rfl rfl ?_
  refine r_go rfl rfl ?_
  refine r_move rfl rfl ?_
  refine r_go rfl rfl ?_
  refine r_move rfl rfl ?_
  refine r_go rfl rfl ?_
  refine r_move rfl rfl ?_
  refine r_go rfl rfl ?_
  refine r_move rfl rfl ?_
  refine r_go rfl rfl ?_
  refine r_call (v := .bool false) rfl rfl rfl (by kernel_rfl) rfl (fun w hw => by have h := right07 A l.length c x y hires w; rw [hR] at h; exact h) ?_
  refine r_go rfl rfl ?_
  refine r_not rfl rfl rfl ?_
  refine r_pick_f rfl rfl rfl ?_
  refine r_nil ?_
  refine r_tn ?_
  refine r_cond_t rfl ?_
  refine r_seq ?_
  refine r_region ?_
  refine r_call rfl rfl rfl (by kernel_rfl) rfl (fun w hw => by exact awake07 w) ?_
  refine r_assign rfl rfl ?_
  refine r_nil ?_
  refine r_tn ?_
  refine r_ret ?_
  refine r_tr ?_
  exact r_done1 (.inl rfl) rfl (res_tmp rfl) fun w hw => ⟨rfl, hw.clear⟩

theorem pdraws_yes (fr st ct : Int) (A : Option Addr) (c : Nat) (l : List Int) (big : Bool) (x y : Nat) (hires clip : Bool) (W : World) (hw1 : l.all (fun z => decide (0 ≤ z) && decide (z ≤ 65535)) = true) (hA : Rd W A (l.map (Value.int .u16))) (hl : l.length ≤ 16) (hx : x < wd hires) (hy : y < ht hires) (hR : rightM7 l.length (x : Int) (y : Int) hires = true) :
    Calls Try.prog 9 #[.agg #[.int .i64 fr, .int .i64 st, .int .i64 ct], .slice A l.length c, .bool big, .int .i64 (x : Int), .int .i64 (y : Int), .bool hires, .bool clip] W fun e w' => e = .returned (.bool true) ∧ Sat W [] [] w' := by
  have hcb : cb big ≤ 16 := by cases big <;> decide
  have hwd : wd hires ≤ 128 := by cases hires <;> decide
  have hwd2 : 64 ≤ wd hires := by cases hires <;> decide
  have hht : ht hires ≤ 64 := by cases hires <;> decide
  have hht2 : 32 ≤ ht hires := by cases hires <;> decide
  refine enter Try.func9 rfl rfl rfl ?_
  refine r_seq ?_
  refine r_region ?_
  refine r_boxV rfl rfl fun b7 => ?_
  refine r_assign rfl rfl ?_
  refine r_nil ?_
  refine r_tn ?_
  refine r_seq ?_
  refine r_seq ?_
  refine r_region ?_
  refine r_call rfl rfl rfl (by kernel_rfl) rfl (fun w hw => by exact awake07 w) ?_
  refine r_not rfl rfl rfl ?_
  refine r_move rfl rfl ?_
  refine r_go rfl rfl ?_
  refine r_move rfl rfl ?_
  refine r_go rfl rfl ?_
  refine r_move rfl rfl ?_
  refine r_go rfl rfl ?_
  refine r_move rfl rfl ?_
  refine r_go rfl rfl ?_
  refine r_move rfl rfl ?_
  refine r_go rfl rfl ?_
  refine r_call (v := .bool true) rfl rfl rfl (by kernel_rfl) rfl (fun w hw => by have h := right07 A l.length c (x : Int) (y : Int) hires w; rw [hR] at h; exact h) ?_
  refine r_go rfl rfl ?_
  refine r_not rfl rfl rfl ?_
  refine r_pick_f rfl rfl rfl ?_
  refine r_nil ?_
  refine r_tn ?_
  refine r_cond_f rfl ?_
  refine r_skip ?_
  refine r_tn ?_
  refine r_seq ?_
  refine r_region ?_
  refine r_loadV rfl rfl rfl rfl rfl ?_
  refine r_move rfl rfl ?_
  refine r_callx rfl rfl rfl (by kernel_rfl) rfl (fun w hw => refPlane07 fr st ct hires w) ?_
  rintro ⟨b40, P⟩ hp
  refine r_call rfl rfl rfl (by kernel_rfl) rfl (fun w hw => by exact forward07 P b40 8192 w (own_rd (A := some ⟨b40, 0, none⟩) (m := 8192) (c := 8192) hw)) ?_
  refine r_allocV (cs := planeV noneQ) (by kernel_rfl) rfl fun b15 => ?_
  refine r_storeV rfl rfl rfl (planeV_size _) (planeV_size _) (planeV_one _) ?_
  refine r_nil ?_
  refine r_tn ?_
  refine r_seq ?_
  refine r_region ?_
  refine r_move rfl rfl ?_
  refine r_move rfl rfl ?_
  refine r_call rfl rfl rfl (by kernel_rfl) rfl (fun w hw => by exact cnt07 big w) ?_
  refine r_move rfl rfl ?_
  refine r_move rfl rfl ?_
  refine r_move rfl rfl ?_
  refine r_move rfl rfl ?_
  refine r_call rfl rfl rfl (by kernel_rfl) rfl (fun w hw => by exact sprite07 A c l (cb big) x y hires clip w (hA.keep hw) hw1 hl (by omega) hx hy) ?_
  refine r_allocV (cs := planeV noneQ) (by kernel_rfl) rfl fun b16 => ?_
  refine r_storeV rfl rfl rfl (planeV_size _) (planeV_size _) (planeV_one _) ?_
  refine r_nil ?_
  refine r_tn ?_
  refine r_seq ?_
  refine r_region ?_
  refine r_loadV rfl rfl rfl rfl (planeV_size _) ?_
  refine r_loadV rfl rfl rfl rfl (planeV_size _) ?_
  refine r_call rfl rfl rfl (by kernel_rfl) rfl (fun w hw => by exact draw07 P (sprQ l (cb big) x y hires clip l.length) w) ?_
  refine r_move rfl rfl ?_
  refine r_extract rfl rfl rfl ?_
  refine r_extract rfl rfl rfl ?_
  refine r_allocV (cs := planeV noneQ) (by kernel_rfl) rfl fun b17 => ?_
  refine r_storeV rfl rfl rfl (planeV_size _) (planeV_size _) (planeV_one _) ?_
  refine r_assign rfl rfl ?_
  refine r_nil ?_
  refine r_tn ?_
  refine r_seq ?_
  refine r_region ?_
  refine r_assign rfl rfl ?_
  refine r_nil ?_
  refine r_tn ?_
  refine r_seq ?_
  refine r_seq ?_
  refine r_region ?_
  refine r_assign rfl rfl ?_
  refine r_nil ?_
  refine r_tn ?_
  refine r_block ?_
  refine r_loopN (fun i => [(15, .pointer (some ⟨b15, 0, none⟩)), (16, .pointer (some ⟨b16, 0, none⟩)), (17, .pointer (some ⟨b17, 0, none⟩)), (18, .bool (hitK P (sprQ l (cb big) x y hires clip l.length) 64)), (19, Value.bool (hitN (sprQ l (cb big) x y hires clip l.length) P (128 * i))), (20, .int .i64 (i : Int))]) (fun i => [.blk b15 (.cells (planeV P) 54 (0, 0)), .blk b16 (.cells (planeV (sprQ l (cb big) x y hires clip l.length)) 54 (0, 0)), .blk b17 (.cells (planeV (xorQ P (sprQ l (cb big) x y hires clip l.length))) 54 (0, 0))]) (fun i => i ≤ 64) 64 0 (by omega) ⟨rfl, rfl, rfl, rfl, rfl, rfl, trivial⟩ (fun w hw => hw.sub) fun i hi => ?_
  refine r_seq ?_
  refine r_seq ?_
  refine r_region ?_
  refine r_move rfl rfl ?_
  refine r_lss rfl rfl rfl rfl ?_
  refine r_nil ?_
  refine r_tn ?_
  refine r_cond rfl (fun hc => ?_) (fun hc => ?_)
  · refine r_skip ?_
    refine r_tn ?_
    refine r_seq ?_
    refine r_block ?_
    refine r_seq ?_
    refine r_region ?_
    refine r_assign rfl rfl ?_
    refine r_nil ?_
    refine r_tn ?_
    refine r_block ?_
    have hi2 : i < 64 := by have h := of_decide_eq_true hc; omega
    clear hc
    refine r_loopN (fun k => [(15, .pointer (some ⟨b15, 0, none⟩)), (16, .pointer (some ⟨b16, 0, none⟩)), (17, .pointer (some ⟨b17, 0, none⟩)), (18, .bool (hitK P (sprQ l (cb big) x y hires clip l.length) 64)), (19, Value.bool (hitN (sprQ l (cb big) x y hires clip l.length) P (128 * i + k))), (20, .int .i64 (i : Int)), (21, .int .i64 (k : Int))]) (fun k => [.blk b15 (.cells (planeV P) 54 (0, 0)), .blk b16 (.cells (planeV (sprQ l (cb big) x y hires clip l.length)) 54 (0, 0)), .blk b17 (.cells (planeV (xorQ P (sprQ l (cb big) x y hires clip l.length))) 54 (0, 0))]) (fun k => k ≤ 128) 128 0 (by omega) ⟨rfl, rfl, rfl, rfl, rfl, rfl, rfl, trivial⟩ (fun w hw => hw.sub) fun k hk => ?_
    refine r_seq ?_
    refine r_seq ?_
    refine r_region ?_
    refine r_move rfl rfl ?_
    refine r_lss rfl rfl rfl rfl ?_
    refine r_nil ?_
    refine r_tn ?_
    refine r_cond rfl (fun hc => ?_) (fun hc => ?_)
    · refine r_skip ?_
      refine r_tn ?_
      refine r_seq ?_
      refine r_block ?_
      refine r_seq ?_
      refine r_region ?_
      have hk2 : k < 128 := by have h := of_decide_eq_true hc; omega
      refine r_loadV rfl rfl rfl rfl (planeV_size _) ?_
      refine r_move rfl rfl ?_
      refine r_move rfl rfl ?_
      refine r_call (v := .bool (flatP (sprQ l (cb big) x y hires clip l.length) (128 * i + k))) rfl rfl rfl (by kernel_rfl) rfl (fun w hw => by have h := pixel07 (sprQ l (cb big) x y hires clip l.length) (k : Int) (i : Int) w; rw [pixQ_nat (sprQ l (cb big) x y hires clip l.length) hk2 hi2] at h; exact h) ?_
      refine r_assign rfl rfl ?_
      refine r_nil ?_
      refine r_tn ?_
      refine r_seq ?_
      refine r_region ?_
      refine r_move rfl rfl ?_
      refine r_move rfl rfl ?_
      refine r_split 69 rfl (fun hb69 => ?_) (fun hb69 => ?_)
      · refine r_pass rfl rfl rfl rfl ?_
        refine r_pass rfl rfl rfl rfl ?_
        refine r_passU rfl rfl rfl ?_
        refine r_passU rfl rfl rfl ?_
        refine r_passU rfl rfl rfl ?_
        refine r_passU rfl rfl rfl ?_
        refine r_pass rfl rfl rfl rfl ?_
        refine r_pick_t rfl rfl rfl ?_
        refine r_assign rfl rfl ?_
        refine r_nil ?_
        refine r_tn ?_
        refine r_seq ?_
        refine r_mixedD { xb := [], rb := [b15], rs := [82], fs := [], acs := [81] } (by kernel_rfl) (by kernel_rfl) (fun w hw k hk => by
          simp only [List.mem_cons, List.not_mem_nil, or_false] at hk
          rcases hk with rfl <;> exact Sat.lt hw) ?_
        refine r_loadV rfl rfl rfl rfl (planeV_size _) ?_
        refine r_move rfl rfl ?_
        refine r_move rfl rfl ?_
        refine r_call (v := .bool (flatP (xorQ P (sprQ l (cb big) x y hires clip l.length)) (128 * i + k))) rfl rfl rfl (by kernel_rfl) rfl (fun w hw => by have h := pixel07 (xorQ P (sprQ l (cb big) x y hires clip l.length)) (k : Int) (i : Int) w; rw [pixQ_nat (xorQ P (sprQ l (cb big) x y hires clip l.length)) hk2 hi2] at h; exact h) ?_
        refine r_loadV rfl rfl rfl rfl (planeV_size _) ?_
        refine r_move rfl rfl ?_
        refine r_move rfl rfl ?_
        refine r_call (v := .bool (flatP P (128 * i + k))) rfl rfl rfl (by kernel_rfl) rfl (fun w hw => by have h := pixel07 P (k : Int) (i : Int) w; rw [pixQ_nat P hk2 hi2] at h; exact h) ?_
        refine r_move rfl rfl ?_
        refine r_neq_bool (p := flatP (xorQ P (sprQ l (cb big) x y hires clip l.length)) (128 * i + k)) rfl rfl rfl rfl (show _ = (flatP P (128 * i + k) ^^ flatP (sprQ l (cb big) x y hires clip l.length) (128 * i + k)) by generalize flatP P (128 * i + k) = u; generalize flatP (sprQ l (cb big) x y hires clip l.length) (128 * i + k) = v; cases u <;> cases v <;> rfl) ?_
        refine r_neq_bool (p := false) rfl rfl rfl rfl (by simp) ?_
        refine r_nil ?_
        refine r_tn ?_
        refine r_cond_f rfl ?_
        refine r_skip ?_
        refine r_bn ?_
        refine r_tn ?_
        refine r_region ?_
        refine r_move rfl rfl ?_
        refine r_add rfl rfl rfl (w64 (by omega)) ?_
        refine r_assign rfl rfl ?_
        refine r_nil ?_
        refine r_tn ?_
        exact r_againN (k + 1) (by omega) (by omega) ⟨rfl, rfl, rfl, rfl, by first | exact hit_step2 _ _ _ hb69 | exact hit_a _ _ _ hb69 hb71 | exact hit_b _ _ _ hb69 hb71, rfl, rfl, trivial⟩ (fun w hw => hw.sub)
      · refine r_go rfl rfl ?_
        refine r_move rfl rfl ?_
        refine r_go rfl rfl ?_
        refine r_move rfl rfl ?_
        refine r_split 71 rfl (fun hb71 => ?_) (fun hb71 => ?_)
        · refine r_go rfl rfl ?_
          refine r_loadV rfl rfl rfl rfl (planeV_size _) ?_
          refine r_go rfl rfl ?_
          refine r_move rfl rfl ?_
          refine r_go rfl rfl ?_
          refine r_move rfl rfl ?_
          refine r_go rfl rfl ?_
          refine r_call (v := .bool (flatP P (128 * i + k))) rfl rfl rfl (by kernel_rfl) rfl (fun w hw => by have h := pixel07 P (k : Int) (i : Int) w; rw [pixQ_nat P hk2 hi2] at h; exact h) ?_
          refine r_go rfl rfl ?_
          refine r_pick_t rfl rfl rfl ?_
          refine r_pick_f rfl rfl rfl ?_
          refine r_assign rfl rfl ?_
          refine r_nil ?_
          refine r_tn ?_
          refine r_seq ?_
          refine r_mixedD { xb := [], rb := [b15], rs := [82], fs := [], acs := [81] } (by kernel_rfl) (by kernel_rfl) (fun w hw k hk => by
            simp only [List.mem_cons, List.not_mem_nil, or_false] at hk
            rcases hk with rfl <;> exact Sat.lt hw) ?_
          refine r_loadV rfl rfl rfl rfl (planeV_size _) ?_
          refine r_move rfl rfl ?_
          refine r_move rfl rfl ?_
          refine r_call (v := .bool (flatP (xorQ P (sprQ l (cb big) x y hires clip l.length)) (128 * i + k))) rfl rfl rfl (by kernel_rfl) rfl (fun w hw => by have h := pixel07 (xorQ P (sprQ l (cb big) x y hires clip l.length)) (k : Int) (i : Int) w; rw [pixQ_nat (xorQ P (sprQ l (cb big) x y hires clip l.length)) hk2 hi2] at h; exact h) ?_
          refine r_loadV rfl rfl rfl rfl (planeV_size _) ?_
          refine r_move rfl rfl ?_
          refine r_move rfl rfl ?_
          refine r_call (v := .bool (flatP P (128 * i + k))) rfl rfl rfl (by kernel_rfl) rfl (fun w hw => by have h := pixel07 P (k : Int) (i : Int) w; rw [pixQ_nat P hk2 hi2] at h; exact h) ?_
          refine r_move rfl rfl ?_
          refine r_neq_bool (p := flatP (xorQ P (sprQ l (cb big) x y hires clip l.length)) (128 * i + k)) rfl rfl rfl rfl (show _ = (flatP P (128 * i + k) ^^ flatP (sprQ l (cb big) x y hires clip l.length) (128 * i + k)) by generalize flatP P (128 * i + k) = u; generalize flatP (sprQ l (cb big) x y hires clip l.length) (128 * i + k) = v; cases u <;> cases v <;> rfl) ?_
          refine r_neq_bool (p := false) rfl rfl rfl rfl (by simp) ?_
          refine r_nil ?_
          refine r_tn ?_
          refine r_cond_f rfl ?_
          refine r_skip ?_
          refine r_bn ?_
          refine r_tn ?_
          refine r_region ?_
          refine r_move rfl rfl ?_
          refine r_add rfl rfl rfl (w64 (by omega)) ?_
          refine r_assign rfl rfl ?_
          refine r_nil ?_
          refine r_tn ?_
          exact r_againN (k + 1) (by omega) (by omega) ⟨rfl, rfl, rfl, rfl, by first | exact hit_step2 _ _ _ hb69 | exact hit_a _ _ _ hb69 hb71 | exact hit_b _ _ _ hb69 hb71, rfl, rfl, trivial⟩ (fun w hw => hw.sub)
        · refine r_pass rfl rfl rfl rfl ?_
          refine r_pass rfl rfl rfl rfl ?_
          refine r_pass rfl rfl rfl rfl ?_
          refine r_pass rfl rfl rfl rfl ?_
          refine r_go rfl rfl ?_
          refine r_pick_f rfl rfl rfl ?_
          refine r_pick_f rfl rfl rfl ?_
          refine r_assign rfl rfl ?_
          refine r_nil ?_
          refine r_tn ?_
          refine r_seq ?_
          refine r_mixedD { xb := [], rb := [b15], rs := [82], fs := [], acs := [81] } (by kernel_rfl) (by kernel_rfl) (fun w hw k hk => by
            simp only [List.mem_cons, List.not_mem_nil, or_false] at hk
            rcases hk with rfl <;> exact Sat.lt hw) ?_
          refine r_loadV rfl rfl rfl rfl (planeV_size _) ?_
          refine r_move rfl rfl ?_
          refine r_move rfl rfl ?_
          refine r_call (v := .bool (flatP (xorQ P (sprQ l (cb big) x y hires clip l.length)) (128 * i + k))) rfl rfl rfl (by kernel_rfl) rfl (fun w hw => by have h := pixel07 (xorQ P (sprQ l (cb big) x y hires clip l.length)) (k : Int) (i : Int) w; rw [pixQ_nat (xorQ P (sprQ l (cb big) x y hires clip l.length)) hk2 hi2] at h; exact h) ?_
          refine r_loadV rfl rfl rfl rfl (planeV_size _) ?_
          refine r_move rfl rfl ?_
          refine r_move rfl rfl ?_
          refine r_call (v := .bool (flatP P (128 * i + k))) rfl rfl rfl (by kernel_rfl) rfl (fun w hw => by have h := pixel07 P (k : Int) (i : Int) w; rw [pixQ_nat P hk2 hi2] at h; exact h) ?_
          refine r_move rfl rfl ?_
          refine r_neq_bool (p := flatP (xorQ P (sprQ l (cb big) x y hires clip l.length)) (128 * i + k)) rfl rfl rfl rfl (show _ = (flatP P (128 * i + k) ^^ flatP (sprQ l (cb big) x y hires clip l.length) (128 * i + k)) by generalize flatP P (128 * i + k) = u; generalize flatP (sprQ l (cb big) x y hires clip l.length) (128 * i + k) = v; cases u <;> cases v <;> rfl) ?_
          refine r_neq_bool (p := false) rfl rfl rfl rfl (by simp) ?_
          refine r_nil ?_
          refine r_tn ?_
          refine r_cond_f rfl ?_
          refine r_skip ?_
          refine r_bn ?_
          refine r_tn ?_
          refine r_region ?_
          refine r_move rfl rfl ?_
          refine r_add rfl rfl rfl (w64 (by omega)) ?_
          refine r_assign rfl rfl ?_
          refine r_nil ?_
          refine r_tn ?_
          exact r_againN (k + 1) (by omega) (by omega) ⟨rfl, rfl, rfl, rfl, by first | exact hit_step2 _ _ _ hb69 | exact hit_a _ _ _ hb69 hb71 | exact hit_b _ _ _ hb69 hb71, rfl, rfl, trivial⟩ (fun w hw => hw.sub)
    · refine r_exit ?_
      refine r_te ?_
      refine r_te ?_
      refine r_be ?_
      refine r_bn ?_
      refine r_tn ?_
      refine r_region ?_
      refine r_move rfl rfl ?_
      refine r_add rfl rfl rfl (w64 (by omega)) ?_
      refine r_assign rfl rfl ?_
      refine r_nil ?_
      refine r_tn ?_
      have hk3 : k = 128 := by have h := of_decide_eq_false hc; omega
      subst hk3
      exact r_againN (i + 1) (by omega) (by omega) ⟨rfl, rfl, rfl, rfl, congrArg (fun z : Nat => some (Value.bool (hitN (sprQ l (cb big) x y hires clip l.length) P (z)))) (show 128 * i + 128 = 128 * (i + 1) by omega), rfl, trivial⟩ (fun w hw => hw.sub)
  · refine r_exit ?_
    refine r_te ?_
    refine r_te ?_
    refine r_be ?_
    refine r_tn ?_
    refine r_seq ?_
    refine r_region ?_
    have hi3 : i = 64 := by have h := of_decide_eq_false hc; omega
    subst hi3
    refine r_loadV rfl rfl rfl rfl (planeV_size _) ?_
    refine r_loadV rfl rfl rfl rfl (planeV_size _) ?_
    refine r_call rfl rfl rfl (by kernel_rfl) rfl (fun w hw => by exact draw07 (xorQ P (sprQ l (cb big) x y hires clip l.length)) (sprQ l (cb big) x y hires clip l.length) w) ?_
    refine r_move rfl rfl ?_
    refine r_extract rfl rfl rfl ?_
    refine r_extract rfl rfl rfl ?_
    refine r_allocV (cs := planeV noneQ) (by kernel_rfl) rfl fun b23 => ?_
    refine r_storeV rfl rfl rfl (planeV_size _) (planeV_size _) (planeV_one _) ?_
    refine r_assign rfl rfl ?_
    refine r_nil ?_
    refine r_tn ?_
    refine r_seq ?_
    refine r_region ?_
    refine r_loadV rfl rfl rfl rfl (planeV_size _) ?_
    refine r_loadV rfl rfl rfl rfl (planeV_size _) ?_
    refine r_call rfl rfl rfl (by kernel_rfl) rfl (fun w hw => by exact draw07 (sprQ l (cb big) x y hires clip l.length) (sprQ l (cb big) x y hires clip l.length) w) ?_
    refine r_move rfl rfl ?_
    refine r_extract rfl rfl rfl ?_
    refine r_extract rfl rfl rfl ?_
    refine r_allocV (cs := planeV noneQ) (by kernel_rfl) rfl fun b25 => ?_
    refine r_storeV rfl rfl rfl (planeV_size _) (planeV_size _) (planeV_one _) ?_
    refine r_assign rfl rfl ?_
    refine r_nil ?_
    refine r_tn ?_
    refine r_seq ?_
    refine r_region ?_
    refine r_move rfl rfl ?_
    refine r_move rfl rfl ?_
    refine r_eql_bool (p := true) rfl rfl rfl rfl (by rw [show 128 * 64 = 8192 from rfl, hit_comm]; exact beq_self_eq_true _) ?_
    refine r_move rfl rfl ?_
    refine r_go rfl rfl ?_
    refine r_loadV rfl rfl rfl rfl (planeV_size _) ?_
    refine r_go rfl rfl ?_
    refine r_loadV rfl rfl rfl rfl (planeV_size _) ?_
    refine r_go rfl rfl ?_
    refine r_eqlAgg rfl rfl rfl planeFlat (planeV_ok _) (planeV_ok _) ((plane_eq (xorQ (xorQ P (sprQ l (cb big) x y hires clip l.length)) (sprQ l (cb big) x y hires clip l.length)) P).trans ((eqQ_iff _ _).2 (fun y1 _ x1 _ => by unfold xorQ; simp))) ?_
    refine r_pick_t rfl rfl rfl ?_
    refine r_move rfl rfl ?_
    refine r_go rfl rfl ?_
    refine r_move rfl rfl ?_
    refine r_go rfl rfl ?_
    refine r_loadV rfl rfl rfl rfl (planeV_size _) ?_
    refine r_go rfl rfl ?_
    refine r_call rfl rfl rfl (by kernel_rfl) rfl (fun w hw => by exact count07 (sprQ l (cb big) x y hires clip l.length) w) ?_
    refine r_go rfl rfl ?_
    refine r_gtr (p := decide (0 < cntR (sprQ l (cb big) x y hires clip l.length) 64)) rfl rfl rfl (by congr 1; exact propext ⟨fun _ => by omega, fun _ => by omega⟩) ?_
    refine r_go rfl rfl ?_
    refine r_eql_bool (p := true) rfl rfl rfl rfl (by rw [hit_self]; exact beq_self_eq_true _) ?_
    refine r_pick_t rfl rfl rfl ?_
    refine r_assign rfl rfl ?_
    refine r_nil ?_
    refine r_tn ?_
    refine r_ret ?_
    exact r_done1 (.inl rfl) rfl (res_tmp rfl) fun w hw => ⟨rfl, hw.clear⟩

theorem PlaneDraws_walk (fr st ct : Int) (A : Option Addr) (c : Nat) (l : List Int) (big : Bool) (x y : Int) (hires clip : Bool) (W : World) (_ : (Lit.int .i64 fr).wf = true) (_ : (Lit.int .i64 st).wf = true) (_ : (Lit.int .i64 ct).wf = true) (hA : Rd W A (l.map (Value.int .u16))) (hm : l.length ≤ 140737488351232) (hw0 : ∀ n, n ∈ l → (Lit.int .u16 n).wf = true) (hx0 : (Lit.int .i64 x).wf = true) (hy0 : (Lit.int .i64 y).wf = true) :
    Calls Try.prog 9 #[.agg #[.int .i64 fr, .int .i64 st, .int .i64 ct], .slice A l.length c, .bool big, .int .i64 x, .int .i64 y, .bool hires, .bool clip] W fun e w' => e = .returned (.bool true) ∧ Sat W [] [] w' := by
  have hw := all_u16 hw0
  cases hR : rightM7 l.length x y hires with
  | false => exact pdraws_no fr st ct A c l big x y hires clip W hR
  | true =>
    obtain ⟨hl, x1, y1, rfl, rfl, hx, hy⟩ := right_get hR
    exact pdraws_yes fr st ct A c l big x1 y1 hires clip W hw hA hl hx hy hR
end Go.Proofs.Ytahanpobeekhiaa
