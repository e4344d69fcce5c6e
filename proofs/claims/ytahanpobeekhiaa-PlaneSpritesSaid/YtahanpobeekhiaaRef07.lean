/-
  The reference for planes (chapter 07): Get, Blank, Draw.
-/
import Derived.Test.YtahanpobeekhiaaSprite07
namespace Go.Proofs.Ytahanpobeekhiaa
open Go Go.RowKit
set_option linter.unusedVariables false
set_option linter.unusedSimpArgs false
set_option maxHeartbeats 2000000
attribute [local irreducible] mix

def flatP (P : Nat → Nat → Bool) (i : Nat) : Bool := P (i / 128) (i % 128)
theorem flat_at (P : Nat → Nat → Bool) {x y : Int} (hx : 0 ≤ x ∧ x < 128) (hy : 0 ≤ y ∧ y < 64) : flatP P (128 * y + x).toNat = P y.toNat x.toNat := by
  unfold flatP
  have e1 : (128 * y + x).toNat / 128 = y.toNat := by omega
  have e2 : (128 * y + x).toNat % 128 = x.toNat := by omega
  rw [e1, e2]

theorem refGet07 (P : Nat → Nat → Bool) (x y : Int) (a ca : Nat) (w : World) (ha : Rd w (some ⟨a, 0, none⟩) (boolsN 8192 (flatP P))) (hx : 0 ≤ x ∧ x < 128) (hy : 0 ≤ y ∧ y < 64) :
    Calls Try.prog 36 #[.slice (some ⟨a, 0, none⟩) 8192 ca, .int .i64 x, .int .i64 y] w fun e w' => e = .returned (.bool (P y.toNat x.toNat)) ∧ Sat w [] [] w' := by
  refine enter Try.func36 rfl rfl rfl ?_
  refine r_seq ?_
  refine r_region ?_
  refine r_assign rfl rfl ?_
  refine r_nil ?_
  refine r_tn ?_
  refine r_seq ?_
  refine r_region ?_
  refine r_move rfl rfl ?_
  refine r_move rfl rfl ?_
  refine r_mul rfl rfl rfl (w64 (by omega)) ?_
  refine r_move rfl rfl ?_
  refine r_add rfl rfl rfl (w64 (by omega)) ?_
  refine r_indexSl (sz := 1) (o' := (128 * y + x).toNat) rfl rfl rfl rfl rfl (by omega) (by omega) (by first | (simp; done) | (simp; omega) | omega) ?_
  refine r_loadC (p := ⟨a, (128 * y + x).toNat, none⟩) rfl rfl rfl (fun w hw => ((ha.keep hw).cell (boolsN_at (flatP P) (show (128 * y + x).toNat < 8192 by omega)) rfl) |> fun h => by simpa using h) ?_ (hok := by simp [OkRead])
  refine r_assign rfl rfl ?_
  refine r_nil ?_
  refine r_tn ?_
  refine r_ret ?_
  exact r_done1 (.inl rfl) rfl (res_tmp rfl) fun w hw => ⟨by rw [flat_at P hx hy], hw.clear⟩
theorem refHeight07 (hires : Bool) (w : World) :
    Calls Try.prog 34 #[.bool hires] w fun e w' => e = .returned (.int .i64 (ht hires : Nat)) ∧ Sat w [] [] w' := by
  cases hires
  · refine enter Try.func34 rfl rfl rfl ?_
    refine r_seq ?_
    refine r_region ?_
    refine r_assign rfl rfl ?_
    refine r_nil ?_
    refine r_tn ?_
    refine r_seq ?_
    refine r_seq ?_
    refine r_region ?_
    refine r_move rfl rfl ?_
    refine r_nil ?_
    refine r_tn ?_
    refine r_cond_f rfl ?_
    refine r_skip ?_
    refine r_tn ?_
    refine r_seq ?_
    refine r_region ?_
    refine r_assign rfl rfl ?_
    refine r_nil ?_
    refine r_tn ?_
    refine r_ret ?_
    exact r_done1 (.inl rfl) rfl (res_tmp rfl) fun w hw => ⟨rfl, hw.clear⟩
  · refine enter Try.func34 rfl rfl rfl ?_
    refine r_seq ?_
    refine r_region ?_
    refine r_assign rfl rfl ?_
    refine r_nil ?_
    refine r_tn ?_
    refine r_seq ?_
    refine r_seq ?_
    refine r_region ?_
    refine r_move rfl rfl ?_
    refine r_nil ?_
    refine r_tn ?_
    refine r_cond_t rfl ?_
    refine r_seq ?_
    refine r_region ?_
    refine r_assign rfl rfl ?_
    refine r_nil ?_
    refine r_tn ?_
    refine r_ret ?_
    refine r_tr ?_
    exact r_done1 (.inl rfl) rfl (res_tmp rfl) fun w hw => ⟨rfl, hw.clear⟩
theorem made_bools (m : Nat) : (madeCells #[Value.bool false] m).toList = boolsN m (fun _ => false) := by
  unfold madeCells boolsN
  rw [Array.toList_map, Array.toList_range]
  apply List.map_congr_left
  intro i _
  show #[Value.bool false][i % 1]! = _
  rw [Nat.mod_one]; rfl

theorem refBlank07  (w : World) :
    Calls Try.prog 54 #[] w fun e w' => ∃ b : Nat, e = .returned (.slice (some ⟨b, 0, none⟩) 8192 8192) ∧ True ∧ Sat w [] [.own 4 1 (.slice (some ⟨b, 0, none⟩) 8192 8192) 8192 (boolsN 8192 (fun _ => false))] w' := by
  refine enter Try.func54 rfl rfl rfl ?_
  refine r_seq ?_
  refine r_region ?_
  refine r_assign rfl rfl ?_
  refine r_nil ?_
  refine r_tn ?_
  refine r_seq ?_
  refine r_region ?_
  refine r_makeSlice (m := 8192) (sz := 1) (bytes := 1) (xs := boolsN 8192 (fun _ => false)) rfl rfl rfl rfl rfl rfl rfl (by omega) (by unfold maxLen; omega) (by rw [show 8192 * 1 = 8192 from Nat.mul_one 8192]; exact made_bools 8192) (fun b1 => ?_)
  refine r_assign rfl rfl ?_
  refine r_nil ?_
  refine r_tn ?_
  refine r_ret ?_
  exact r_done1 (.inl rfl) rfl (res_tmp rfl) fun w hw => ⟨b1, rfl, trivial, hw⟩

def hitN (P Q : Nat → Nat → Bool) : Nat → Bool
  | 0 => false
  | k + 1 => hitN P Q k || (flatP P k && flatP Q k)
theorem draw_step (P Q : Nat → Nat → Bool) (f : Nat → Bool) {k : Nat} (hf : ∀ y, y < 8192 → f y = (decide (y < k) && (flatP P y ^^ flatP Q y))) (y : Nat) (hy : y < 8192) : (if y = k then (flatP P k ^^ flatP Q k) else f y) = (decide (y < k + 1) && (flatP P y ^^ flatP Q y)) := by
  by_cases e : y = k
  · subst e; rw [if_pos rfl, decide_eq_true (Nat.lt_succ_self y)]; rfl
  · rw [if_neg e, hf y hy]
    have e1 : decide (y < k + 1) = decide (y < k) := by congr 1; exact propext ⟨fun _ => by omega, fun _ => by omega⟩
    rw [e1]
theorem hit_a (P Q : Nat → Nat → Bool) (k : Nat) (h : hitN P Q k = false) (h2 : flatP P k = true) : some (Value.bool (flatP Q k)) = some (.bool (hitN P Q (k + 1))) := by
  simp only [hitN]; rw [h, h2]; rfl
theorem hit_b (P Q : Nat → Nat → Bool) (k : Nat) (h : hitN P Q k = false) (h2 : flatP P k = false) : some (Value.bool false) = some (.bool (hitN P Q (k + 1))) := by
  simp only [hitN]; rw [h, h2]; rfl
theorem hit_step2 (P Q : Nat → Nat → Bool) (k : Nat) (h : hitN P Q k = true) : some (Value.bool true) = some (.bool (hitN P Q (k + 1))) := by
  simp only [hitN]; rw [h]; rfl

theorem refDraw07 (P Q : Nat → Nat → Bool) (a1 ca1 a2 ca2 : Nat) (w : World) (ha1 : Rd w (some ⟨a1, 0, none⟩) (boolsN 8192 (flatP P))) (ha2 : Rd w (some ⟨a2, 0, none⟩) (boolsN 8192 (flatP Q))) :
    Calls Try.prog 43 #[.slice (some ⟨a1, 0, none⟩) 8192 ca1, .slice (some ⟨a2, 0, none⟩) 8192 ca2] w fun e w' => ∃ b : Nat, e = .returned (.tuple #[.slice (some ⟨b, 0, none⟩) 8192 8192, .bool (hitN P Q 8192)]) ∧ True ∧ Sat w [] [.own 4 1 (.slice (some ⟨b, 0, none⟩) 8192 8192) 8192 (boolsN 8192 (flatP (xorQ P Q)))] w' := by
  refine enter Try.func43 rfl rfl rfl ?_
  refine r_seq ?_
  refine r_region ?_
  refine r_assign rfl rfl ?_
  refine r_assign rfl rfl ?_
  refine r_nil ?_
  refine r_tn ?_
  refine r_seq ?_
  refine r_region ?_
  refine r_callx rfl rfl rfl (by kernel_rfl) rfl (fun w hw => refBlank07 w) ?_
  rintro b9 _
  refine r_assign rfl rfl ?_
  refine r_nil ?_
  refine r_tn ?_
  refine r_seq ?_
  refine r_region ?_
  refine r_assign rfl rfl ?_
  refine r_nil ?_
  refine r_tn ?_
  refine r_seq ?_
  refine r_seq ?_
  refine r_region ?_
  refine r_assign rfl rfl ?_
  refine r_nil ?_
  refine r_tn ?_
  refine r_block ?_
  refine r_loop1 (fun k (f : Nat → Bool) => [(0, .slice (some ⟨a1, 0, none⟩) 8192 ca1), (1, .slice (some ⟨a2, 0, none⟩) 8192 ca2), (6, .slice (some ⟨b9, 0, none⟩) 8192 8192), (7, .bool (hitN P Q k)), (8, .int .i64 (k : Int))]) (fun k f => [.own 4 1 (.slice (some ⟨b9, 0, none⟩) 8192 8192) 8192 (boolsN 8192 (f))]) (fun k f => k ≤ 8192 ∧ ∀ y, y < 8192 → f y = (decide (y < k) && (flatP P y ^^ flatP Q y))) 8192 0 (fun _ => false) ⟨by omega, fun y hy => by simp⟩ ⟨rfl, rfl, rfl, rfl, rfl, trivial⟩ (fun w hw => hw.sub) fun k f hf => ?_
  obtain ⟨hk, hf⟩ := hf
  refine r_seq ?_
  refine r_seq ?_
  refine r_region ?_
  refine r_move rfl rfl ?_
  refine r_lss rfl rfl rfl rfl ?_
  refine r_nil ?_
  refine r_tn ?_
  refine r_cond rfl (fun hc => ?_) (fun hc => ?_)
  · refine r_skip ?_
    refine r_tn ?_
    refine r_seq ?_
    refine r_block ?_
    refine r_seq ?_
    refine r_mixed (by kernel_rfl) (by kernel_rfl) ?_
    have hk2 : k < 8192 := by have h := of_decide_eq_true hc; omega
    refine r_move rfl rfl ?_
    refine r_move rfl rfl ?_
    refine r_move rfl rfl ?_
    refine r_move rfl rfl ?_
    refine r_indexSl (sz := 1) (o' := k) rfl rfl rfl rfl rfl (by omega) (by omega) (by first | (simp; done) | (simp; omega) | omega) ?_
    refine r_loadC (p := ⟨a1, k, none⟩) rfl rfl rfl (fun w hw => ((ha1.keep hw).cell (boolsN_at (flatP P) (show k < 8192 by omega)) rfl) |> fun h => by simpa using h) ?_ (hok := by simp [OkRead])
    refine r_move rfl rfl ?_
    refine r_move rfl rfl ?_
    refine r_indexSl (sz := 1) (o' := k) rfl rfl rfl rfl rfl (by omega) (by omega) (by first | (simp; done) | (simp; omega) | omega) ?_
    refine r_loadC (p := ⟨a2, k, none⟩) rfl rfl rfl (fun w hw => ((ha2.keep hw).cell (boolsN_at (flatP Q) (show k < 8192 by omega)) rfl) |> fun h => by simpa using h) ?_ (hok := by simp [OkRead])
    refine r_neq_bool (p := flatP P k ^^ flatP Q k) rfl rfl rfl rfl (by cases flatP P k <;> cases flatP Q k <;> rfl) ?_
    refine r_indexSl (sz := 1) (o' := k) rfl rfl rfl rfl rfl (by omega) (by omega) (by first | (simp; done) | (simp; omega) | omega) ?_
    refine r_storeOwn (m := 8192) (c := 8192) rfl rfl rfl rfl rfl (by omega) ?_
    rw [boolsN_set]
    refine r_nil ?_
    refine r_tn ?_
    refine r_region ?_
    refine r_move rfl rfl ?_
    refine r_move rfl rfl ?_
    refine r_split 27 rfl (fun hb27 => ?_) (fun hb27 => ?_)
    · refine r_pass rfl rfl rfl rfl ?_
      refine r_pass rfl rfl rfl rfl ?_
      refine r_pass rfl rfl rfl rfl ?_
      refine r_pass rfl rfl rfl rfl ?_
      refine r_pass rfl rfl rfl rfl ?_
      refine r_passU rfl rfl rfl ?_
      refine r_passU rfl rfl rfl ?_
      refine r_passU rfl rfl rfl ?_
      refine r_passU rfl rfl rfl ?_
      refine r_pass rfl rfl rfl rfl ?_
      refine r_pick_t rfl rfl rfl ?_
      refine r_assign rfl rfl ?_
      refine r_nil ?_
      refine r_bn ?_
      refine r_tn ?_
      refine r_region ?_
      refine r_move rfl rfl ?_
      refine r_add rfl rfl rfl (w64 (by omega)) ?_
      refine r_assign rfl rfl ?_
      refine r_nil ?_
      refine r_tn ?_
      exact r_again1 (k + 1) _ ⟨by omega, fun y hy => draw_step P Q f hf y hy⟩ (by omega) ⟨rfl, rfl, rfl, by first | exact hit_step2 P Q k hb27 | exact hit_a P Q k hb27 hb32 | exact hit_b P Q k hb27 hb32, rfl, trivial⟩ (fun w hw => hw)
    · refine r_go rfl rfl ?_
      refine r_move rfl rfl ?_
      refine r_go rfl rfl ?_
      refine r_move rfl rfl ?_
      refine r_go rfl rfl ?_
      refine r_indexSl (sz := 1) (o' := k) rfl rfl rfl rfl rfl (by omega) (by omega) (by first | (simp; done) | (simp; omega) | omega) ?_
      refine r_go rfl rfl ?_
      refine r_loadC (p := ⟨a1, k, none⟩) rfl rfl rfl (fun w hw => ((ha1.keep hw).cell (boolsN_at (flatP P) (show k < 8192 by omega)) rfl) |> fun h => by simpa using h) ?_ (hok := by simp [OkRead])
      refine r_go rfl rfl ?_
      refine r_move rfl rfl ?_
      refine r_split 32 rfl (fun hb32 => ?_) (fun hb32 => ?_)
      · refine r_go rfl rfl ?_
        refine r_move rfl rfl ?_
        refine r_go rfl rfl ?_
        refine r_move rfl rfl ?_
        refine r_go rfl rfl ?_
        refine r_indexSl (sz := 1) (o' := k) rfl rfl rfl rfl rfl (by omega) (by omega) (by first | (simp; done) | (simp; omega) | omega) ?_
        refine r_go rfl rfl ?_
        refine r_loadC (p := ⟨a2, k, none⟩) rfl rfl rfl (fun w hw => ((ha2.keep hw).cell (boolsN_at (flatP Q) (show k < 8192 by omega)) rfl) |> fun h => by simpa using h) ?_ (hok := by simp [OkRead])
        refine r_go rfl rfl ?_
        refine r_pick_t rfl rfl rfl ?_
        refine r_pick_f rfl rfl rfl ?_
        refine r_assign rfl rfl ?_
        refine r_nil ?_
        refine r_bn ?_
        refine r_tn ?_
        refine r_region ?_
        refine r_move rfl rfl ?_
        refine r_add rfl rfl rfl (w64 (by omega)) ?_
        refine r_assign rfl rfl ?_
        refine r_nil ?_
        refine r_tn ?_
        exact r_again1 (k + 1) _ ⟨by omega, fun y hy => draw_step P Q f hf y hy⟩ (by omega) ⟨rfl, rfl, rfl, by first | exact hit_step2 P Q k hb27 | exact hit_a P Q k hb27 hb32 | exact hit_b P Q k hb27 hb32, rfl, trivial⟩ (fun w hw => hw)
      · refine r_pass rfl rfl rfl rfl ?_
        refine r_pass rfl rfl rfl rfl ?_
        refine r_pass rfl rfl rfl rfl ?_
        refine r_pass rfl rfl rfl rfl ?_
        refine r_go rfl rfl ?_
        refine r_pick_f rfl rfl rfl ?_
        refine r_pick_f rfl rfl rfl ?_
        refine r_assign rfl rfl ?_
        refine r_nil ?_
        refine r_bn ?_
        refine r_tn ?_
        refine r_region ?_
        refine r_move rfl rfl ?_
        refine r_add rfl rfl rfl (w64 (by omega)) ?_
        refine r_assign rfl rfl ?_
        refine r_nil ?_
        refine r_tn ?_
        exact r_again1 (k + 1) _ ⟨by omega, fun y hy => draw_step P Q f hf y hy⟩ (by omega) ⟨rfl, rfl, rfl, by first | exact hit_step2 P Q k hb27 | exact hit_a P Q k hb27 hb32 | exact hit_b P Q k hb27 hb32, rfl, trivial⟩ (fun w hw => hw)
  · refine r_exit ?_
    refine r_te ?_
    refine r_te ?_
    refine r_be ?_
    refine r_tn ?_
    refine r_seq ?_
    refine r_region ?_
    refine r_move rfl rfl ?_
    refine r_move rfl rfl ?_
    refine r_assign rfl rfl ?_
    refine r_assign rfl rfl ?_
    refine r_nil ?_
    refine r_tn ?_
    refine r_ret ?_
    have hk2 : k = 8192 := by have h := of_decide_eq_false hc; omega
    subst hk2
    exact r_done2 (.inl rfl) rfl (res_tmp rfl) (res_tmp rfl) fun w hw => ⟨b9, rfl, trivial, by rw [boolsN_congr (g := flatP (xorQ P Q)) (fun y hy => by rw [hf y hy, decide_eq_true hy]; rfl)] at hw; exact hw⟩
end Go.Proofs.Ytahanpobeekhiaa
