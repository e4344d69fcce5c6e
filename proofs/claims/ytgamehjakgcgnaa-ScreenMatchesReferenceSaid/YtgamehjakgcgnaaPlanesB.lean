/-
  The reference for planes (chapter 07): Get, Blank, Draw.
-/
import Derived.Test.YtgamehjakgcgnaaPlanesA
namespace Go.Proofs.Ytgamehjakgcgnaa
section
open Go Go.RowKit
set_option linter.unusedVariables false
set_option linter.unusedSimpArgs false
set_option maxHeartbeats 2000000
set_option maxRecDepth 4000
attribute [local irreducible] mix

def flatP (P : Nat → Nat → Bool) (i : Nat) : Bool := P (i / 128) (i % 128)
theorem flat_at (P : Nat → Nat → Bool) {x y : Int} (hx : 0 ≤ x ∧ x < 128) (hy : 0 ≤ y ∧ y < 64) : flatP P (128 * y + x).toNat = P y.toNat x.toNat := by
  unfold flatP
  have e1 : (128 * y + x).toNat / 128 = y.toNat := by omega
  have e2 : (128 * y + x).toNat % 128 = x.toNat := by omega
  rw [e1, e2]

theorem refGet07 (P : Nat → Nat → Bool) (x y : Int) (a ca : Nat) (w : World) (ha : Rd w (some ⟨a, 0, none⟩) (boolsN 8192 (flatP P))) (hx : 0 ≤ x ∧ x < 128) (hy : 0 ≤ y ∧ y < 64) :
    Calls Try.prog 53 #[.slice (some ⟨a, 0, none⟩) 8192 ca, .int .i64 x, .int .i64 y] w fun e w' => e = .returned (.bool (P y.toNat x.toNat)) ∧ Sat w [] [] w' := by
  refine enter Try.func53 rfl rfl rfl ?_
  refine r_seq ?_
  refine r_region ?_
  refine r_assign rfl rfl ?_
  refine r_nil ?_
  refine r_tn ?_
  refine r_seq ?_
  refine r_region ?_
  refine r_move rfl rfl ?_
  refine r_move rfl rfl ?_
  refine r_mul rfl rfl rfl (w64 (by omega)) ?_
  refine r_move rfl rfl ?_
  refine r_add rfl rfl rfl (w64 (by omega)) ?_
  refine r_indexSl (sz := 1) (o' := (128 * y + x).toNat) rfl rfl rfl rfl rfl (by omega) (by omega) (by first | (simp; done) | (simp; omega) | omega) ?_
  refine r_loadC (p := ⟨a, (128 * y + x).toNat, none⟩) rfl rfl rfl (fun w hw => ((ha.keep hw).cell (boolsN_at (flatP P) (show (128 * y + x).toNat < 8192 by omega)) rfl) |> fun h => by simpa using h) ?_ (hok := by simp [OkRead])
  refine r_assign rfl rfl ?_
  refine r_nil ?_
  refine r_tn ?_
  refine r_ret ?_
  exact r_done1 (.inl rfl) rfl (res_tmp rfl) fun w hw => ⟨by rw [flat_at P hx hy], hw.clear⟩
theorem refHeight07 (hires : Bool) (w : World) :
    Calls Try.prog 50 #[.bool hires] w fun e w' => e = .returned (.int .i64 (ht hires : Nat)) ∧ Sat w [] [] w' := by
  cases hires
  · refine enter Try.func50 rfl rfl rfl ?_
    refine r_seq ?_
    refine r_region ?_
    refine r_assign rfl rfl ?_
    refine r_nil ?_
    refine r_tn ?_
    refine r_seq ?_
    refine r_seq ?_
    refine r_region ?_
    refine r_move rfl rfl ?_
    refine r_nil ?_
    refine r_tn ?_
    refine r_cond_f rfl ?_
    refine r_skip ?_
    refine r_tn ?_
    refine r_seq ?_
    refine r_region ?_
    refine r_assign rfl rfl ?_
    refine r_nil ?_
    refine r_tn ?_
    refine r_ret ?_
    exact r_done1 (.inl rfl) rfl (res_tmp rfl) fun w hw => ⟨rfl, hw.clear⟩
  · refine enter Try.func50 rfl rfl rfl ?_
    refine r_seq ?_
    refine r_region ?_
    refine r_assign rfl rfl ?_
    refine r_nil ?_
    refine r_tn ?_
    refine r_seq ?_
    refine r_seq ?_
    refine r_region ?_
    refine r_move rfl rfl ?_
    refine r_nil ?_
    refine r_tn ?_
    refine r_cond_t rfl ?_
    refine r_seq ?_
    refine r_region ?_
    refine r_assign rfl rfl ?_
    refine r_nil ?_
    refine r_tn ?_
    refine r_ret ?_
    refine r_tr ?_
    exact r_done1 (.inl rfl) rfl (res_tmp rfl) fun w hw => ⟨rfl, hw.clear⟩
theorem made_bools (m : Nat) : (madeCells #[Value.bool false] m).toList = boolsN m (fun _ => false) := by
  unfold madeCells boolsN
  rw [Array.toList_map, Array.toList_range]
  apply List.map_congr_left
  intro i _
  show #[Value.bool false][i % 1]! = _
  rw [Nat.mod_one]; rfl

theorem refBlank07  (w : World) :
    Calls Try.prog 28 #[] w fun e w' => ∃ b : Nat, e = .returned (.slice (some ⟨b, 0, none⟩) 8192 8192) ∧ True ∧ Sat w [] [.own 4 1 (.slice (some ⟨b, 0, none⟩) 8192 8192) 8192 (boolsN 8192 (fun _ => false))] w' := by
  refine enter Try.func28 rfl rfl rfl ?_
  refine r_seq ?_
  refine r_region ?_
  refine r_assign rfl rfl ?_
  refine r_nil ?_
  refine r_tn ?_
  refine r_seq ?_
  refine r_region ?_
  refine r_makeSlice (m := 8192) (sz := 1) (bytes := 1) (xs := boolsN 8192 (fun _ => false)) rfl rfl rfl rfl rfl rfl rfl (by omega) (by unfold maxLen; omega) (by rw [show 8192 * 1 = 8192 from Nat.mul_one 8192]; exact made_bools 8192) (fun b1 => ?_)
  refine r_assign rfl rfl ?_
  refine r_nil ?_
  refine r_tn ?_
  refine r_ret ?_
  exact r_done1 (.inl rfl) rfl (res_tmp rfl) fun w hw => ⟨b1, rfl, trivial, hw⟩

def hitN (P Q : Nat → Nat → Bool) : Nat → Bool
  | 0 => false
  | k + 1 => hitN P Q k || (flatP P k && flatP Q k)
theorem draw_step (P Q : Nat → Nat → Bool) (f : Nat → Bool) {k : Nat} (hf : ∀ y, y < 8192 → f y = (decide (y < k) && (flatP P y ^^ flatP Q y))) (y : Nat) (hy : y < 8192) : (if y = k then (flatP P k ^^ flatP Q k) else f y) = (decide (y < k + 1) && (flatP P y ^^ flatP Q y)) := by
  by_cases e : y = k
  · subst e; rw [if_pos rfl, decide_eq_true (Nat.lt_succ_self y)]; rfl
  · rw [if_neg e, hf y hy]
    have e1 : decide (y < k + 1) = decide (y < k) := by congr 1; exact propext ⟨fun _ => by omega, fun _ => by omega⟩
    rw [e1]
theorem hit_a (P Q : Nat → Nat → Bool) (k : Nat) (h : hitN P Q k = false) (h2 : flatP P k = true) : some (Value.bool (flatP Q k)) = some (.bool (hitN P Q (k + 1))) := by
  simp only [hitN]; rw [h, h2]; rfl
theorem hit_b (P Q : Nat → Nat → Bool) (k : Nat) (h : hitN P Q k = false) (h2 : flatP P k = false) : some (Value.bool false) = some (.bool (hitN P Q (k + 1))) := by
  simp only [hitN]; rw [h, h2]; rfl
theorem hit_step2 (P Q : Nat → Nat → Bool) (k : Nat) (h : hitN P Q k = true) : some (Value.bool true) = some (.bool (hitN P Q (k + 1))) := by
  simp only [hitN]; rw [h]; rfl

theorem refDraw07 (P Q : Nat → Nat → Bool) (a1 ca1 a2 ca2 : Nat) (w : World) (ha1 : Rd w (some ⟨a1, 0, none⟩) (boolsN 8192 (flatP P))) (ha2 : Rd w (some ⟨a2, 0, none⟩) (boolsN 8192 (flatP Q))) :
    Calls Try.prog 51 #[.slice (some ⟨a1, 0, none⟩) 8192 ca1, .slice (some ⟨a2, 0, none⟩) 8192 ca2] w fun e w' => ∃ b : Nat, e = .returned (.tuple #[.slice (some ⟨b, 0, none⟩) 8192 8192, .bool (hitN P Q 8192)]) ∧ True ∧ Sat w [] [.own 4 1 (.slice (some ⟨b, 0, none⟩) 8192 8192) 8192 (boolsN 8192 (flatP (xorQ P Q)))] w' := by
  refine enter Try.func51 rfl rfl rfl ?_
  refine r_seq ?_
  refine r_region ?_
  refine r_assign rfl rfl ?_
  refine r_assign rfl rfl ?_
  refine r_nil ?_
  refine r_tn ?_
  refine r_seq ?_
  refine r_region ?_
  refine r_callx rfl rfl rfl (by kernel_rfl) rfl (fun w hw => refBlank07 w) ?_
  rintro b9 _
  refine r_assign rfl rfl ?_
  refine r_nil ?_
  refine r_tn ?_
  refine r_seq ?_
  refine r_region ?_
  refine r_assign rfl rfl ?_
  refine r_nil ?_
  refine r_tn ?_
  refine r_seq ?_
  refine r_seq ?_
  refine r_region ?_
  refine r_assign rfl rfl ?_
  refine r_nil ?_
  refine r_tn ?_
  refine r_block ?_
  refine r_loop1 (fun k (f : Nat → Bool) => [(0, .slice (some ⟨a1, 0, none⟩) 8192 ca1), (1, .slice (some ⟨a2, 0, none⟩) 8192 ca2), (6, .slice (some ⟨b9, 0, none⟩) 8192 8192), (7, .bool (hitN P Q k)), (8, .int .i64 (k : Int))]) (fun k f => [.own 4 1 (.slice (some ⟨b9, 0, none⟩) 8192 8192) 8192 (boolsN 8192 (f))]) (fun k f => k ≤ 8192 ∧ ∀ y, y < 8192 → f y = (decide (y < k) && (flatP P y ^^ flatP Q y))) 8192 0 (fun _ => false) ⟨by omega, fun y hy => by simp⟩ ⟨rfl, rfl, rfl, rfl, rfl, trivial⟩ (fun w hw => hw.sub) fun k f hf => ?_
  obtain ⟨hk, hf⟩ := hf
  refine r_seq ?_
  refine r_seq ?_
  refine r_region ?_
  refine r_move rfl rfl ?_
  refine r_lss rfl rfl rfl rfl ?_
  refine r_nil ?_
  refine r_tn ?_
  refine r_cond rfl (fun hc => ?_) (fun hc => ?_)
  · refine r_skip ?_
    refine r_tn ?_
    refine r_seq ?_
    refine r_block ?_
    refine r_seq ?_
    refine r_mixed (by kernel_rfl) (by kernel_rfl) ?_
    have hk2 : k < 8192 := by have h := of_decide_eq_true hc; omega
    refine r_move rfl rfl ?_
    refine r_move rfl rfl ?_
    refine r_move rfl rfl ?_
    refine r_move rfl rfl ?_
    refine r_indexSl (sz := 1) (o' := k) rfl rfl rfl rfl rfl (by omega) (by omega) (by first | (simp; done) | (simp; omega) | omega) ?_
    refine r_loadC (p := ⟨a1, k, none⟩) rfl rfl rfl (fun w hw => ((ha1.keep hw).cell (boolsN_at (flatP P) (show k < 8192 by omega)) rfl) |> fun h => by simpa using h) ?_ (hok := by simp [OkRead])
    refine r_move rfl rfl ?_
    refine r_move rfl rfl ?_
    refine r_indexSl (sz := 1) (o' := k) rfl rfl rfl rfl rfl (by omega) (by omega) (by first | (simp; done) | (simp; omega) | omega) ?_
    refine r_loadC (p := ⟨a2, k, none⟩) rfl rfl rfl (fun w hw => ((ha2.keep hw).cell (boolsN_at (flatP Q) (show k < 8192 by omega)) rfl) |> fun h => by simpa using h) ?_ (hok := by simp [OkRead])
    refine r_neq_bool (p := flatP P k ^^ flatP Q k) rfl rfl rfl rfl (by cases flatP P k <;> cases flatP Q k <;> rfl) ?_
    refine r_indexSl (sz := 1) (o' := k) rfl rfl rfl rfl rfl (by omega) (by omega) (by first | (simp; done) | (simp; omega) | omega) ?_
    refine r_storeOwn (m := 8192) (c := 8192) rfl rfl rfl rfl rfl (by omega) ?_
    rw [boolsN_set]
    refine r_nil ?_
    refine r_tn ?_
    refine r_region ?_
    refine r_move rfl rfl ?_
    refine r_move rfl rfl ?_
    refine r_split 27 rfl (fun hb27 => ?_) (fun hb27 => ?_)
    · refine r_pass rfl rfl rfl rfl ?_
      refine r_pass rfl rfl rfl rfl ?_
      refine r_pass rfl rfl rfl rfl ?_
      refine r_pass rfl rfl rfl rfl ?_
      refine r_pass rfl rfl rfl rfl ?_
      refine r_passU rfl rfl rfl ?_
      refine r_passU rfl rfl rfl ?_
      refine r_passU rfl rfl rfl ?_
      refine r_passU rfl rfl rfl ?_
      refine r_pass rfl rfl rfl rfl ?_
      refine r_pick_t rfl rfl rfl ?_
      refine r_assign rfl rfl ?_
      refine r_nil ?_
      refine r_bn ?_
      refine r_tn ?_
      refine r_region ?_
      refine r_move rfl rfl ?_
      refine r_add rfl rfl rfl (w64 (by omega)) ?_
      refine r_assign rfl rfl ?_
      refine r_nil ?_
      refine r_tn ?_
      exact r_again1 (k + 1) _ ⟨by omega, fun y hy => draw_step P Q f hf y hy⟩ (by omega) ⟨rfl, rfl, rfl, by first | exact hit_step2 P Q k hb27 | exact hit_a P Q k hb27 hb32 | exact hit_b P Q k hb27 hb32, rfl, trivial⟩ (fun w hw => hw)
    · refine r_go rfl rfl ?_
      refine r_move rfl rfl ?_
      refine r_go rfl rfl ?_
      refine r_move rfl rfl ?_
      refine r_go rfl rfl ?_
      refine r_indexSl (sz := 1) (o' := k) rfl rfl rfl rfl rfl (by omega) (by omega) (by first | (simp; done) | (simp; omega) | omega) ?_
      refine r_go rfl rfl ?_
      refine r_loadC (p := ⟨a1, k, none⟩) rfl rfl rfl (fun w hw => ((ha1.keep hw).cell (boolsN_at (flatP P) (show k < 8192 by omega)) rfl) |> fun h => by simpa using h) ?_ (hok := by simp [OkRead])
      refine r_go rfl rfl ?_
      refine r_move rfl rfl ?_
      refine r_split 32 rfl (fun hb32 => ?_) (fun hb32 => ?_)
      · refine r_go rfl rfl ?_
        refine r_move rfl rfl ?_
        refine r_go rfl rfl ?_
        refine r_move rfl rfl ?_
        refine r_go rfl rfl ?_
        refine r_indexSl (sz := 1) (o' := k) rfl rfl rfl rfl rfl (by omega) (by omega) (by first | (simp; done) | (simp; omega) | omega) ?_
        refine r_go rfl rfl ?_
        refine r_loadC (p := ⟨a2, k, none⟩) rfl rfl rfl (fun w hw => ((ha2.keep hw).cell (boolsN_at (flatP Q) (show k < 8192 by omega)) rfl) |> fun h => by simpa using h) ?_ (hok := by simp [OkRead])
        refine r_go rfl rfl ?_
        refine r_pick_t rfl rfl rfl ?_
        refine r_pick_f rfl rfl rfl ?_
        refine r_assign rfl rfl ?_
        refine r_nil ?_
        refine r_bn ?_
        refine r_tn ?_
        refine r_region ?_
        refine r_move rfl rfl ?_
        refine r_add rfl rfl rfl (w64 (by omega)) ?_
        refine r_assign rfl rfl ?_
        refine r_nil ?_
        refine r_tn ?_
        exact r_again1 (k + 1) _ ⟨by omega, fun y hy => draw_step P Q f hf y hy⟩ (by omega) ⟨rfl, rfl, rfl, by first | exact hit_step2 P Q k hb27 | exact hit_a P Q k hb27 hb32 | exact hit_b P Q k hb27 hb32, rfl, trivial⟩ (fun w hw => hw)
      · refine r_pass rfl rfl rfl rfl ?_
        refine r_pass rfl rfl rfl rfl ?_
        refine r_pass rfl rfl rfl rfl ?_
        refine r_pass rfl rfl rfl rfl ?_
        refine r_go rfl rfl ?_
        refine r_pick_f rfl rfl rfl ?_
        refine r_pick_f rfl rfl rfl ?_
        refine r_assign rfl rfl ?_
        refine r_nil ?_
        refine r_bn ?_
        refine r_tn ?_
        refine r_region ?_
        refine r_move rfl rfl ?_
        refine r_add rfl rfl rfl (w64 (by omega)) ?_
        refine r_assign rfl rfl ?_
        refine r_nil ?_
        refine r_tn ?_
        exact r_again1 (k + 1) _ ⟨by omega, fun y hy => draw_step P Q f hf y hy⟩ (by omega) ⟨rfl, rfl, rfl, by first | exact hit_step2 P Q k hb27 | exact hit_a P Q k hb27 hb32 | exact hit_b P Q k hb27 hb32, rfl, trivial⟩ (fun w hw => hw)
  · refine r_exit ?_
    refine r_te ?_
    refine r_te ?_
    refine r_be ?_
    refine r_tn ?_
    refine r_seq ?_
    refine r_region ?_
    refine r_move rfl rfl ?_
    refine r_move rfl rfl ?_
    refine r_assign rfl rfl ?_
    refine r_assign rfl rfl ?_
    refine r_nil ?_
    refine r_tn ?_
    refine r_ret ?_
    have hk2 : k = 8192 := by have h := of_decide_eq_false hc; omega
    subst hk2
    exact r_done2 (.inl rfl) rfl (res_tmp rfl) (res_tmp rfl) fun w hw => ⟨b9, rfl, trivial, by rw [boolsN_congr (g := flatP (xorQ P Q)) (fun y hy => by rw [hf y hy, decide_eq_true hy]; rfl)] at hw; exact hw⟩
end
section
open Go Go.RowKit
set_option linter.unusedVariables false
set_option linter.unusedSimpArgs false
set_option maxHeartbeats 2000000
set_option maxRecDepth 4000
attribute [local irreducible] mix

def atOf (y i : Nat) (hires : Bool) : Nat := if ht hires ≤ y + i then y + i - ht hires else y + i
theorem atOf_lt {y i : Nat} (hires : Bool) (hy : y < ht hires) (hi : i < 16) : atOf y i hires < 64 := by
  have h1 : ht hires ≤ 64 := by cases hires <;> decide
  have h2 : 32 ≤ ht hires := by cases hires <;> decide
  unfold atOf; split <;> omega
/-- the first pixels of a row put into a plane -/
def setPart (f : Nat → Bool) (at_ : Nat) (q : Nat → Bool) (j z : Nat) : Bool := if 128 * at_ ≤ z ∧ z < 128 * at_ + j then q (z - 128 * at_) else f z
theorem setPart_zero (f : Nat → Bool) (at_ : Nat) (q : Nat → Bool) : setPart f at_ q 0 = f := by
  funext z; unfold setPart; rw [if_neg (by omega)]
theorem setPart_succ (f : Nat → Bool) (at_ : Nat) (q : Nat → Bool) (j : Nat) : (fun z => if z = 128 * at_ + j then q j else setPart f at_ q j z) = setPart f at_ q (j + 1) := by
  funext z
  unfold setPart
  by_cases h : z = 128 * at_ + j
  · rw [if_pos h, if_pos (by omega), show z - 128 * at_ = j by omega]
  · rw [if_neg h]
    by_cases h2 : 128 * at_ ≤ z ∧ z < 128 * at_ + j
    · rw [if_pos h2, if_pos (by omega)]
    · rw [if_neg h2, if_neg (by omega)]
theorem rsp_skip (f : Nat → Bool) {l : List Int} {count x y i : Nat} {hires clip : Bool} (hf : ∀ z, z < 8192 → f z = flatP (sprQ l count x y hires clip i) z) (hy : y < ht hires) (hge : ht hires ≤ y + i) (hc : clip = true) (z : Nat) (hz : z < 8192) : f z = flatP (sprQ l count x y hires clip (i + 1)) z := by
  rw [hf z hz]; unfold flatP; rw [sprQ_break hc hy hge (Nat.le_succ i)]
theorem rsp_put (f : Nat → Bool) {l : List Int} {count x y i j : Nat} {hires clip : Bool} (hf : ∀ z, z < 8192 → f z = flatP (sprQ l count x y hires clip i) z) (hy : y < ht hires) (hnc : ht hires ≤ y + i → clip = false) (hi : i < 16) (hh : 32 ≤ ht hires) (hh2 : ht hires ≤ 64) (hj : j = 128) (z : Nat) (hz : z < 8192) :
    setPart f (atOf y i hires) (sprK (bitsAt l i) count x (wd hires) clip count) j z = flatP (sprQ l count x y hires clip (i + 1)) z := by
  subst hj
  have e : flatP (sprQ l count x y hires clip (i + 1)) z = setRow (sprQ l count x y hires clip i) (atOf y i hires) (sprK (bitsAt l i) count x (wd hires) clip count) (z / 128) (z % 128) := by
    unfold flatP atOf
    by_cases h : ht hires ≤ y + i
    · rw [if_pos h, sprQ_wrap (hnc h) hy h hi (by omega)]
    · rw [if_neg h, sprQ_straight hy h]
  rw [e]
  unfold setPart setRow
  by_cases h : z / 128 = atOf y i hires
  · rw [if_pos h, if_pos (by omega), show z - 128 * atOf y i hires = z % 128 by omega]
  · rw [if_neg h, if_neg (by omega), hf z hz]; rfl
theorem refSprite07 (A : Option Addr) (c : Nat) (l : List Int) (count x y : Nat) (hires clip : Bool) (w : World) (hA : Rd w A (l.map (Value.int .u16))) (hw : l.all (fun z => decide (0 ≤ z) && decide (z ≤ 65535)) = true) (hl : l.length ≤ 16) (hcn : count ≤ 64) (hx : x < wd hires) (hy : y < ht hires) :
    Calls Try.prog 52 #[.slice A l.length c, .int .i64 (count : Int), .int .i64 (x : Int), .int .i64 (y : Int), .bool hires, .bool clip] w fun e w' => ∃ b : Nat, e = .returned (.slice (some ⟨b, 0, none⟩) 8192 8192) ∧ True ∧ Sat w [] [.own 4 1 (.slice (some ⟨b, 0, none⟩) 8192 8192) 8192 (boolsN 8192 (flatP (sprQ l count x y hires clip l.length)))] w' := by
  have hwd : wd hires ≤ 128 := by cases hires <;> decide
  have hwd2 : 64 ≤ wd hires := by cases hires <;> decide
  have hht : ht hires ≤ 64 := by cases hires <;> decide
  have hht2 : 32 ≤ ht hires := by cases hires <;> decide
  refine enter Try.func52 rfl rfl rfl ?_
  refine r_seq ?_
  refine r_region ?_
  refine r_assign rfl rfl ?_
  refine r_nil ?_
  refine r_tn ?_
  refine r_seq ?_
  refine r_region ?_
  refine r_callx rfl rfl rfl (by kernel_rfl) rfl (fun w hw => refBlank07 w) ?_
  rintro b19 _
  refine r_assign rfl rfl ?_
  refine r_nil ?_
  refine r_tn ?_
  refine r_seq ?_
  refine r_region ?_
  refine r_move rfl rfl ?_
  refine r_call rfl rfl rfl (by kernel_rfl) rfl (fun w hw => by exact refHeight07 hires w) ?_
  refine r_assign rfl rfl ?_
  refine r_nil ?_
  refine r_tn ?_
  refine r_seq ?_
  refine r_seq ?_
  refine r_region ?_
  refine r_assign rfl rfl ?_
  refine r_nil ?_
  refine r_tn ?_
  refine r_block ?_
  refine r_loop1 (fun i (f : Nat → Bool) => [(0, .slice A l.length c), (1, .int .i64 (count : Int)), (2, .int .i64 (x : Int)), (3, .int .i64 (y : Int)), (4, .bool hires), (5, .bool clip), (13, .slice (some ⟨b19, 0, none⟩) 8192 8192), (14, .int .i64 (ht hires : Nat)), (15, .int .i64 (i : Int))]) (fun i f => [.own 4 1 (.slice (some ⟨b19, 0, none⟩) 8192 8192) 8192 (boolsN 8192 (f))]) (fun i f => i ≤ l.length ∧ ∀ z, z < 8192 → f z = flatP (sprQ l count x y hires clip i) z) l.length 0 (fun _ => false) ⟨by omega, fun z hz => by unfold flatP; rw [sprQ_zero]; rfl⟩ ⟨rfl, rfl, rfl, rfl, rfl, rfl, rfl, rfl, rfl, trivial⟩ (fun w hw => hw.sub) fun i f hf => ?_
  obtain ⟨hi, hf⟩ := hf
  refine r_seq ?_
  refine r_seq ?_
  refine r_region ?_
  refine r_move rfl rfl ?_
  refine r_move rfl rfl ?_
  refine r_len rfl rfl rfl ?_
  refine r_lss rfl rfl rfl rfl ?_
  refine r_nil ?_
  refine r_tn ?_
  refine r_cond rfl (fun hc => ?_) (fun hc => ?_)
  · refine r_skip ?_
    refine r_tn ?_
    refine r_seq ?_
    refine r_block ?_
    refine r_seq ?_
    have hi2 : i < l.length := by have h := of_decide_eq_true hc; omega
    clear hc
    obtain ⟨hz0, hz1⟩ := bitsAt_rng hw i
    have hji : (l.map (Value.int .u16))[i]? = some (.int .u16 ((bitsAt l i : Nat) : Int)) := bitsAt_get hw hi2
    obtain ⟨ba, oa, rfl, hca⟩ := hA i _ hji
    
    refine r_mixedD { xb := [], rb := [ba], rs := [31], fs := [], acs := [35] } (by kernel_rfl) (by kernel_rfl) (fun w hw k hk => by
      simp only [List.mem_cons, List.not_mem_nil, or_false] at hk
      subst hk
      exact Nat.lt_of_lt_of_le (World.block_lt_of_cell? _ _ hca) hw.size) ?_
    refine r_move rfl rfl ?_
    refine r_move rfl rfl ?_
    refine r_indexSl (sz := 1) (o' := oa + i) rfl rfl rfl rfl rfl (by omega) (by omega) (by simp) ?_
    refine r_loadC (p := ⟨ba, oa + i, none⟩) rfl rfl rfl (fun w hw => ((hA.keep hw).cell hji rfl)) ?_
    refine r_move rfl rfl ?_
    refine r_move rfl rfl ?_
    refine r_move rfl rfl ?_
    refine r_call rfl rfl rfl (by kernel_rfl) rfl (fun w hw => by exact width06 hires w) ?_
    refine r_move rfl rfl ?_
    refine r_callx rfl rfl rfl (by kernel_rfl) rfl (fun w hw => refSprite (bitsAt l i) count x (wd hires) clip w (by omega) (by omega) (by omega) (by omega)) ?_
    rintro b37 _
    refine r_assign rfl rfl ?_
    refine r_nil ?_
    refine r_tn ?_
    refine r_seq ?_
    refine r_region ?_
    refine r_move rfl rfl ?_
    refine r_move rfl rfl ?_
    refine r_add (r := ((y + i : Nat) : Int)) rfl rfl rfl ((w64 (by omega)).trans (by omega)) ?_
    refine r_assign rfl rfl ?_
    refine r_nil ?_
    refine r_tn ?_
    refine r_seq ?_
    refine r_seq ?_
    refine r_region ?_
    refine r_move rfl rfl ?_
    refine r_move rfl rfl ?_
    refine r_geq (p := decide (ht hires ≤ y + i)) rfl rfl rfl (decide_eq_decide.2 ⟨fun _ => by omega, fun _ => by omega⟩) ?_
    refine r_move rfl rfl ?_
    refine r_split 44 rfl (fun hb44 => ?_) (fun hb44 => ?_)
    · refine r_go rfl rfl ?_
      refine r_move rfl rfl ?_
      refine r_pick_t rfl rfl rfl ?_
      refine r_nil ?_
      refine r_tn ?_
      refine r_cond rfl (fun hc => ?_) (fun hc => ?_)
      · refine r_exit ?_
        refine r_te ?_
        refine r_be ?_
        refine r_tn ?_
        refine r_region ?_
        refine r_move rfl rfl ?_
        refine r_add rfl rfl rfl (w64 (by omega)) ?_
        refine r_assign rfl rfl ?_
        refine r_nil ?_
        refine r_tn ?_
        first
          | exact r_again1 (i + 1) (setPart f (atOf y i hires) (sprK (bitsAt l i) count x (wd hires) clip count) j) ⟨by omega, fun z hz => rsp_put f hf hy hnc (by omega) hht2 hht (by have h := of_decide_eq_false hc; omega) z hz⟩ (by omega) ⟨rfl, rfl, rfl, rfl, rfl, rfl, rfl, rfl, rfl, trivial⟩ (fun w hw => hw.sub)
          | exact r_again1 (i + 1) f ⟨by omega, fun z hz => rsp_skip f hf hy (of_decide_eq_true hb44) (show clip = true from hc) z hz⟩ (by omega) ⟨rfl, rfl, rfl, rfl, rfl, rfl, rfl, rfl, rfl, trivial⟩ (fun w hw => hw.sub)
      · refine r_skip ?_
        refine r_tn ?_
        refine r_seq ?_
        refine r_cut (fun _ : { u : Unit // ht hires ≤ y + i → clip = false } => ([(0, .slice (some ⟨ba, oa, none⟩) l.length c), (1, .int .i64 (count : Int)), (2, .int .i64 (x : Int)), (3, .int .i64 (y : Int)), (4, .bool hires), (5, .bool clip), (13, .slice (some ⟨b19, 0, none⟩) 8192 8192), (14, .int .i64 (ht hires : Nat)), (15, .int .i64 (i : Int)), (16, .slice (some ⟨b37, 0, none⟩) 128 128), (17, .int .i64 ((atOf y i hires : Nat) : Int))], [.own 4 1 (.slice (some ⟨b19, 0, none⟩) 8192 8192) 8192 (boolsN 8192 (f)), .own 4 1 (.slice (some ⟨b37, 0, none⟩) 128 128) 128 (boolsN 128 ((sprK (bitsAt l i) count x (wd hires) clip count)))])) ?_ ?_
        · refine r_seq ?_
          refine r_region ?_
          refine r_move rfl rfl ?_
          refine r_move rfl rfl ?_
          refine r_geq (p := decide (ht hires ≤ y + i)) rfl rfl rfl (decide_eq_decide.2 ⟨fun _ => by omega, fun _ => by omega⟩) ?_
          refine r_nil ?_
          refine r_tn ?_
          try have hcc := hc
          refine r_cond rfl (fun hc => ?_) (fun hc => ?_)
          · refine r_region ?_
            refine r_move rfl rfl ?_
            refine r_move rfl rfl ?_
            have hge : ht hires ≤ y + i := of_decide_eq_true hc
            refine r_sub (r := ((y + i - ht hires : Nat) : Int)) rfl rfl rfl ((w64 (by omega)).trans (by omega)) ?_
            refine r_assign rfl rfl ?_
            refine r_nil ?_
            refine r_tn ?_
            exact r_at ⟨(), fun h => by first | exact hcc | (rw [hb44] at hc; cases hc)⟩ ⟨rfl, rfl, rfl, rfl, rfl, rfl, rfl, rfl, rfl, rfl, by show some _ = some _; unfold atOf; rw [if_pos (of_decide_eq_true hc)], trivial⟩ (fun w hw => hw.sub)
          · refine r_skip ?_
            refine r_tn ?_
            exact r_at ⟨(), fun h => absurd h (of_decide_eq_false hc)⟩ ⟨rfl, rfl, rfl, rfl, rfl, rfl, rfl, rfl, rfl, rfl, by show some _ = some _; unfold atOf; rw [if_neg (of_decide_eq_false hc)], trivial⟩ (fun w hw => hw.sub)
        rintro ⟨_, hnc⟩
        have hatl := atOf_lt hires hy (show i < 16 by omega)
        refine r_seq ?_
        refine r_region ?_
        refine r_assign rfl rfl ?_
        refine r_nil ?_
        refine r_tn ?_
        refine r_block ?_
        refine r_loopN (fun j => [(0, .slice (some ⟨ba, oa, none⟩) l.length c), (1, .int .i64 (count : Int)), (2, .int .i64 (x : Int)), (3, .int .i64 (y : Int)), (4, .bool hires), (5, .bool clip), (13, .slice (some ⟨b19, 0, none⟩) 8192 8192), (14, .int .i64 (ht hires : Nat)), (15, .int .i64 (i : Int)), (16, .slice (some ⟨b37, 0, none⟩) 128 128), (17, .int .i64 ((atOf y i hires : Nat) : Int)), (18, .int .i64 (j : Int))]) (fun j => [.own 4 1 (.slice (some ⟨b19, 0, none⟩) 8192 8192) 8192 (boolsN 8192 (setPart f (atOf y i hires) (sprK (bitsAt l i) count x (wd hires) clip count) j)), .own 4 1 (.slice (some ⟨b37, 0, none⟩) 128 128) 128 (boolsN 128 ((sprK (bitsAt l i) count x (wd hires) clip count)))]) (fun j => j ≤ 128) 128 0 (by omega) ⟨rfl, rfl, rfl, rfl, rfl, rfl, rfl, rfl, rfl, rfl, rfl, rfl, trivial⟩ (fun w hw => by rw [setPart_zero]; exact hw.sub) fun j hj => ?_
        refine r_seq ?_
        refine r_seq ?_
        refine r_region ?_
        refine r_move rfl rfl ?_
        refine r_lss rfl rfl rfl rfl ?_
        refine r_nil ?_
        refine r_tn ?_
        refine r_cond rfl (fun hc => ?_) (fun hc => ?_)
        · refine r_skip ?_
          refine r_tn ?_
          refine r_seq ?_
          refine r_block ?_
          refine r_region ?_
          have hj2 : j < 128 := by have h := of_decide_eq_true hc; omega
          refine r_move rfl rfl ?_
          refine r_move rfl rfl ?_
          refine r_mul rfl rfl rfl (w64 (by omega)) ?_
          refine r_move rfl rfl ?_
          refine r_add rfl rfl rfl (w64 (by omega)) ?_
          refine r_move rfl rfl ?_
          refine r_move rfl rfl ?_
          refine r_indexSl (sz := 1) (o' := j) rfl rfl rfl rfl rfl (by omega) (by omega) (by first | (simp; done) | (simp; omega) | omega) ?_
          refine r_loadC (p := ⟨b37, j, none⟩) rfl rfl rfl (fun w hw => ((own_rd (A := some ⟨b37, 0, none⟩) (m := 128) (c := 128) hw).cell (boolsN_at (sprK (bitsAt l i) count x (wd hires) clip count) hj2) rfl) |> fun h => by simpa using h) ?_
          refine r_indexSl (sz := 1) (o' := 128 * atOf y i hires + j) rfl rfl rfl rfl rfl (by omega) (by omega) (by first | (simp; done) | (simp; omega) | omega) ?_
          refine r_storeOwn (m := 8192) (c := 8192) rfl rfl rfl rfl rfl (by omega) ?_
          rw [boolsN_set]
          rw [setPart_succ]
          refine r_nil ?_
          refine r_bn ?_
          refine r_tn ?_
          refine r_region ?_
          refine r_move rfl rfl ?_
          refine r_add rfl rfl rfl (w64 (by omega)) ?_
          refine r_assign rfl rfl ?_
          refine r_nil ?_
          refine r_tn ?_
          exact r_againN (j + 1) (by omega) (by omega) ⟨rfl, rfl, rfl, rfl, rfl, rfl, rfl, rfl, rfl, rfl, rfl, rfl, trivial⟩ (fun w hw => hw.sub)
        · refine r_exit ?_
          refine r_te ?_
          refine r_te ?_
          refine r_be ?_
          refine r_bn ?_
          refine r_tn ?_
          refine r_region ?_
          refine r_move rfl rfl ?_
          refine r_add rfl rfl rfl (w64 (by omega)) ?_
          refine r_assign rfl rfl ?_
          refine r_nil ?_
          refine r_tn ?_
          first
            | exact r_again1 (i + 1) (setPart f (atOf y i hires) (sprK (bitsAt l i) count x (wd hires) clip count) j) ⟨by omega, fun z hz => rsp_put f hf hy hnc (by omega) hht2 hht (by have h := of_decide_eq_false hc; omega) z hz⟩ (by omega) ⟨rfl, rfl, rfl, rfl, rfl, rfl, rfl, rfl, rfl, trivial⟩ (fun w hw => hw.sub)
            | exact r_again1 (i + 1) f ⟨by omega, fun z hz => rsp_skip f hf hy (of_decide_eq_true hb44) (show clip = true from hc) z hz⟩ (by omega) ⟨rfl, rfl, rfl, rfl, rfl, rfl, rfl, rfl, rfl, trivial⟩ (fun w hw => hw.sub)
    · refine r_pass rfl rfl rfl rfl ?_
      refine r_pick_f rfl rfl rfl ?_
      refine r_nil ?_
      refine r_tn ?_
      refine r_cond_f rfl ?_
      refine r_skip ?_
      refine r_tn ?_
      refine r_seq ?_
      refine r_cut (fun _ : { u : Unit // ht hires ≤ y + i → clip = false } => ([(0, .slice (some ⟨ba, oa, none⟩) l.length c), (1, .int .i64 (count : Int)), (2, .int .i64 (x : Int)), (3, .int .i64 (y : Int)), (4, .bool hires), (5, .bool clip), (13, .slice (some ⟨b19, 0, none⟩) 8192 8192), (14, .int .i64 (ht hires : Nat)), (15, .int .i64 (i : Int)), (16, .slice (some ⟨b37, 0, none⟩) 128 128), (17, .int .i64 ((atOf y i hires : Nat) : Int))], [.own 4 1 (.slice (some ⟨b19, 0, none⟩) 8192 8192) 8192 (boolsN 8192 (f)), .own 4 1 (.slice (some ⟨b37, 0, none⟩) 128 128) 128 (boolsN 128 ((sprK (bitsAt l i) count x (wd hires) clip count)))])) ?_ ?_
      · refine r_seq ?_
        refine r_region ?_
        refine r_move rfl rfl ?_
        refine r_move rfl rfl ?_
        refine r_geq (p := decide (ht hires ≤ y + i)) rfl rfl rfl (decide_eq_decide.2 ⟨fun _ => by omega, fun _ => by omega⟩) ?_
        refine r_nil ?_
        refine r_tn ?_
        try have hcc := hc
        refine r_cond rfl (fun hc => ?_) (fun hc => ?_)
        · refine r_region ?_
          refine r_move rfl rfl ?_
          refine r_move rfl rfl ?_
          have hge : ht hires ≤ y + i := of_decide_eq_true hc
          refine r_sub (r := ((y + i - ht hires : Nat) : Int)) rfl rfl rfl ((w64 (by omega)).trans (by omega)) ?_
          refine r_assign rfl rfl ?_
          refine r_nil ?_
          refine r_tn ?_
          exact r_at ⟨(), fun h => by first | exact hcc | (rw [hb44] at hc; cases hc)⟩ ⟨rfl, rfl, rfl, rfl, rfl, rfl, rfl, rfl, rfl, rfl, by show some _ = some _; unfold atOf; rw [if_pos (of_decide_eq_true hc)], trivial⟩ (fun w hw => hw.sub)
        · refine r_skip ?_
          refine r_tn ?_
          exact r_at ⟨(), fun h => absurd h (of_decide_eq_false hc)⟩ ⟨rfl, rfl, rfl, rfl, rfl, rfl, rfl, rfl, rfl, rfl, by show some _ = some _; unfold atOf; rw [if_neg (of_decide_eq_false hc)], trivial⟩ (fun w hw => hw.sub)
      rintro ⟨_, hnc⟩
      have hatl := atOf_lt hires hy (show i < 16 by omega)
      refine r_seq ?_
      refine r_region ?_
      refine r_assign rfl rfl ?_
      refine r_nil ?_
      refine r_tn ?_
      refine r_block ?_
      refine r_loopN (fun j => [(0, .slice (some ⟨ba, oa, none⟩) l.length c), (1, .int .i64 (count : Int)), (2, .int .i64 (x : Int)), (3, .int .i64 (y : Int)), (4, .bool hires), (5, .bool clip), (13, .slice (some ⟨b19, 0, none⟩) 8192 8192), (14, .int .i64 (ht hires : Nat)), (15, .int .i64 (i : Int)), (16, .slice (some ⟨b37, 0, none⟩) 128 128), (17, .int .i64 ((atOf y i hires : Nat) : Int)), (18, .int .i64 (j : Int))]) (fun j => [.own 4 1 (.slice (some ⟨b19, 0, none⟩) 8192 8192) 8192 (boolsN 8192 (setPart f (atOf y i hires) (sprK (bitsAt l i) count x (wd hires) clip count) j)), .own 4 1 (.slice (some ⟨b37, 0, none⟩) 128 128) 128 (boolsN 128 ((sprK (bitsAt l i) count x (wd hires) clip count)))]) (fun j => j ≤ 128) 128 0 (by omega) ⟨rfl, rfl, rfl, rfl, rfl, rfl, rfl, rfl, rfl, rfl, rfl, rfl, trivial⟩ (fun w hw => by rw [setPart_zero]; exact hw.sub) fun j hj => ?_
      refine r_seq ?_
      refine r_seq ?_
      refine r_region ?_
      refine r_move rfl rfl ?_
      refine r_lss rfl rfl rfl rfl ?_
      refine r_nil ?_
      refine r_tn ?_
      refine r_cond rfl (fun hc => ?_) (fun hc => ?_)
      · refine r_skip ?_
        refine r_tn ?_
        refine r_seq ?_
        refine r_block ?_
        refine r_region ?_
        have hj2 : j < 128 := by have h := of_decide_eq_true hc; omega
        refine r_move rfl rfl ?_
        refine r_move rfl rfl ?_
        refine r_mul rfl rfl rfl (w64 (by omega)) ?_
        refine r_move rfl rfl ?_
        refine r_add rfl rfl rfl (w64 (by omega)) ?_
        refine r_move rfl rfl ?_
        refine r_move rfl rfl ?_
        refine r_indexSl (sz := 1) (o' := j) rfl rfl rfl rfl rfl (by omega) (by omega) (by first | (simp; done) | (simp; omega) | omega) ?_
        refine r_loadC (p := ⟨b37, j, none⟩) rfl rfl rfl (fun w hw => ((own_rd (A := some ⟨b37, 0, none⟩) (m := 128) (c := 128) hw).cell (boolsN_at (sprK (bitsAt l i) count x (wd hires) clip count) hj2) rfl) |> fun h => by simpa using h) ?_
        refine r_indexSl (sz := 1) (o' := 128 * atOf y i hires + j) rfl rfl rfl rfl rfl (by omega) (by omega) (by first | (simp; done) | (simp; omega) | omega) ?_
        refine r_storeOwn (m := 8192) (c := 8192) rfl rfl rfl rfl rfl (by omega) ?_
        rw [boolsN_set]
        rw [setPart_succ]
        refine r_nil ?_
        refine r_bn ?_
        refine r_tn ?_
        refine r_region ?_
        refine r_move rfl rfl ?_
        refine r_add rfl rfl rfl (w64 (by omega)) ?_
        refine r_assign rfl rfl ?_
        refine r_nil ?_
        refine r_tn ?_
        exact r_againN (j + 1) (by omega) (by omega) ⟨rfl, rfl, rfl, rfl, rfl, rfl, rfl, rfl, rfl, rfl, rfl, rfl, trivial⟩ (fun w hw => hw.sub)
      · refine r_exit ?_
        refine r_te ?_
        refine r_te ?_
        refine r_be ?_
        refine r_bn ?_
        refine r_tn ?_
        refine r_region ?_
        refine r_move rfl rfl ?_
        refine r_add rfl rfl rfl (w64 (by omega)) ?_
        refine r_assign rfl rfl ?_
        refine r_nil ?_
        refine r_tn ?_
        first
          | exact r_again1 (i + 1) (setPart f (atOf y i hires) (sprK (bitsAt l i) count x (wd hires) clip count) j) ⟨by omega, fun z hz => rsp_put f hf hy hnc (by omega) hht2 hht (by have h := of_decide_eq_false hc; omega) z hz⟩ (by omega) ⟨rfl, rfl, rfl, rfl, rfl, rfl, rfl, rfl, rfl, trivial⟩ (fun w hw => hw.sub)
          | exact r_again1 (i + 1) f ⟨by omega, fun z hz => rsp_skip f hf hy (of_decide_eq_true hb44) (show clip = true from hc) z hz⟩ (by omega) ⟨rfl, rfl, rfl, rfl, rfl, rfl, rfl, rfl, rfl, trivial⟩ (fun w hw => hw.sub)
  · refine r_exit ?_
    refine r_te ?_
    refine r_te ?_
    refine r_be ?_
    refine r_tn ?_
    refine r_seq ?_
    refine r_region ?_
    refine r_move rfl rfl ?_
    refine r_assign rfl rfl ?_
    refine r_nil ?_
    refine r_tn ?_
    refine r_ret ?_
    have hi3 : i = l.length := by have h := of_decide_eq_false hc; omega
    subst hi3
    exact r_done1 (.inl rfl) rfl (res_tmp rfl) fun w hw => ⟨b19, rfl, trivial, by rw [boolsN_congr hf] at hw; exact hw⟩
end
section
open Go Go.RowKit
set_option linter.unusedVariables false
set_option linter.unusedSimpArgs false
set_option maxHeartbeats 2000000
set_option maxRecDepth 4000
attribute [local irreducible] mix

theorem tmod_rng (a : Int) {b : Int} (hb : 0 < b) : -b < a.tmod b ∧ a.tmod b < b := by
  refine ⟨?_, Int.tmod_lt_of_pos a hb⟩
  have h := Int.tmod_lt_of_pos (-a) hb
  rw [Int.neg_tmod] at h
  omega
theorem tmod_nat {a b : Int} (ha : 0 ≤ a) (hb : 0 < b) : ∃ s : Nat, a.tmod b = (s : Int) ∧ (s : Int) < b := by
  have h1 := Int.tmod_lt_of_pos a hb
  have h2 := Int.tmod_nonneg b ha
  exact ⟨(a.tmod b).toNat, (Int.toNat_of_nonneg h2).symm, by omega⟩
theorem seed_step (f : Nat → Bool) {w h i : Nat} (hf : ∀ z, z < 8192 → f z = true → z % 128 < w ∧ z / 128 < h) (h1 : i % 128 < w) (h2 : i / 128 < h) (z : Nat) (hz : z < 8192) (hz2 : (if z = i then true else f z) = true) : z % 128 < w ∧ z / 128 < h := by
  by_cases e : z = i
  · subst e; exact ⟨h1, h2⟩
  · rw [if_neg e] at hz2; exact hf z hz hz2
end
section
open Go Go.RowKit
set_option linter.unusedVariables false
set_option linter.unusedSimpArgs false
set_option maxHeartbeats 2000000
set_option maxRecDepth 4000
attribute [local irreducible] mix

theorem mul2U {x k : Nat} (h : x < 2 ^ k) (hk : k < 64) : IntKind.u64.wrap (2 * ((x : Nat) : Int)) = ((2 * x : Nat) : Int) := by
  have h2 : (2 : Nat) ^ k ≤ 2 ^ 63 := Nat.pow_le_pow_right (by decide) (by omega)
  generalize (2 : Nat) ^ k = z at *
  exact (IntWalk.u64_in _ ⟨by omega, by omega⟩).trans (by omega)
theorem add2U {x k : Nat} (h : x < 2 ^ k) (hk : k < 64) : IntKind.u64.wrap (((2 * x : Nat) : Int) + 1) = ((2 * x + 1 : Nat) : Int) := by
  have h2 : (2 : Nat) ^ k ≤ 2 ^ 63 := Nat.pow_le_pow_right (by decide) (by omega)
  generalize (2 : Nat) ^ k = z at *
  exact (IntWalk.u64_in _ ⟨by omega, by omega⟩).trans (by omega)
theorem num_low (b : Nat → Bool) : ∀ m, num b (m + 1) = 2 * num (fun j => b (j + 1)) m + (b 0).toNat
  | 0 => by simp only [num]; cases b 0 <;> rfl
  | m + 1 => by
    have h := num_low b m
    have e : num b (m + 1 + 1) = num b (m + 1) + (if b (m + 1) then 2 ^ (m + 1) else 0) := rfl
    have e2 : num (fun j => b (j + 1)) (m + 1) = num (fun j => b (j + 1)) m + (if b (m + 1) then 2 ^ m else 0) := rfl
    rw [e, e2, h]
    cases b (m + 1)
    · simp
    · simp only [if_true, Nat.pow_succ]; omega
theorem word_step0 (b : Nat → Bool) (k : Nat) (hk : k < 64) {v : Bool} (h : b (k) = v) : some (Value.int .u64 ((2 * num (fun j => b (k - 1 - j)) k + v.toNat : Nat) : Int)) = some (.int .u64 ((num (fun j => b ((k + 1) - 1 - j)) (k + 1) : Nat) : Int)) := by
  have e : num (fun j => b ((k + 1) - 1 - j)) (k + 1) = 2 * num (fun j => b (k - 1 - j)) k + v.toNat := by
    rw [num_low]
    have e1 : num (fun j => (fun j => b ((k + 1) - 1 - j)) (j + 1)) k = num (fun j => b (k - 1 - j)) k := num_congr fun i hi => by
      show b ((k + 1) - 1 - (i + 1)) = b (k - 1 - i)
      rw [show (k + 1) - 1 - (i + 1) = k - 1 - i by omega]
    rw [e1, ← h]
    rfl
  rw [e]
theorem word_step64 (b : Nat → Bool) (k : Nat) (hk : k < 64) {v : Bool} (h : b (64 + k) = v) : some (Value.int .u64 ((2 * num (fun j => b (64 + k - 1 - j)) k + v.toNat : Nat) : Int)) = some (.int .u64 ((num (fun j => b (64 + (k + 1) - 1 - j)) (k + 1) : Nat) : Int)) := by
  have e : num (fun j => b (64 + (k + 1) - 1 - j)) (k + 1) = 2 * num (fun j => b (64 + k - 1 - j)) k + v.toNat := by
    rw [num_low]
    have e1 : num (fun j => (fun j => b (64 + (k + 1) - 1 - j)) (j + 1)) k = num (fun j => b (64 + k - 1 - j)) k := num_congr fun i hi => by
      show b (64 + (k + 1) - 1 - (i + 1)) = b (64 + k - 1 - i)
      rw [show 64 + (k + 1) - 1 - (i + 1) = 64 + k - 1 - i by omega]
    rw [e1, ← h]
    rfl
  rw [e]

theorem words07 (P : Nat → Nat → Bool) (y a ca : Nat) (w : World) (ha : Rd w (some ⟨a, 0, none⟩) (boolsN 8192 (flatP P))) (hy : y < 64) :
    Calls Try.prog 34 #[.slice (some ⟨a, 0, none⟩) 8192 ca, .int .i64 (y : Int)] w fun e w' => e = .returned (.tuple #[.int .u64 ((hiN (P y) : Nat) : Int), .int .u64 ((loN (P y) : Nat) : Int)]) ∧ Sat w [] [] w' := by
  refine enter Try.func34 rfl rfl rfl ?_
  refine r_seq ?_
  refine r_region ?_
  refine r_assign rfl rfl ?_
  refine r_assign rfl rfl ?_
  refine r_nil ?_
  refine r_tn ?_
  refine r_seq ?_
  refine r_region ?_
  refine r_assign rfl rfl ?_
  refine r_nil ?_
  refine r_tn ?_
  refine r_seq ?_
  refine r_region ?_
  refine r_assign rfl rfl ?_
  refine r_nil ?_
  refine r_tn ?_
  refine r_seq ?_
  refine r_seq ?_
  refine r_region ?_
  refine r_assign rfl rfl ?_
  refine r_nil ?_
  refine r_tn ?_
  refine r_block ?_
  refine r_loopN (fun k => [(0, .slice (some ⟨a, 0, none⟩) 8192 ca), (1, .int .i64 (y : Int)), (6, .int .u64 ((num (fun j => P y (k - 1 - j)) k : Nat) : Int)), (7, .int .u64 ((num (fun j => P y (64 + k - 1 - j)) k : Nat) : Int)), (8, .int .i64 (k : Int))]) (fun k => []) (fun k => k ≤ 64) 64 0 (by omega) ⟨rfl, rfl, rfl, rfl, rfl, trivial⟩ (fun w hw => hw) fun k hk => ?_
  refine r_seq ?_
  refine r_seq ?_
  refine r_region ?_
  refine r_move rfl rfl ?_
  refine r_lss rfl rfl rfl rfl ?_
  refine r_nil ?_
  refine r_tn ?_
  refine r_cond rfl (fun hc => ?_) (fun hc => ?_)
  · refine r_skip ?_
    refine r_tn ?_
    refine r_seq ?_
    refine r_block ?_
    refine r_seq ?_
    refine r_region ?_
    have hk2 : k < 64 := by have h := of_decide_eq_true hc; omega
    refine r_move rfl rfl ?_
    refine r_mul (r := ((2 * num (fun j => P y (k - 1 - j)) k : Nat) : Int)) rfl rfl rfl (mul2U (num_lt _ k) (by omega)) ?_
    refine r_assign rfl rfl ?_
    refine r_nil ?_
    refine r_tn ?_
    refine r_seq ?_
    refine r_region ?_
    refine r_move rfl rfl ?_
    refine r_mul (r := ((2 * num (fun j => P y (64 + k - 1 - j)) k : Nat) : Int)) rfl rfl rfl (mul2U (num_lt _ k) (by omega)) ?_
    refine r_assign rfl rfl ?_
    refine r_nil ?_
    refine r_tn ?_
    refine r_seq ?_
    refine r_seq ?_
    refine r_region ?_
    refine r_move rfl rfl ?_
    refine r_move rfl rfl ?_
    refine r_move rfl rfl ?_
    refine r_call rfl rfl rfl (by kernel_rfl) rfl (fun w hw => by exact refGet07 P (k : Int) (y : Int) a ca w (ha.keep hw) (by omega) (by omega)) ?_
    refine r_nil ?_
    refine r_tn ?_
    refine r_cond rfl (fun hc => ?_) (fun hc => ?_)
    · refine r_region ?_
      refine r_move rfl rfl ?_
      refine r_add (r := ((2 * num (fun j => P y (k - 1 - j)) k + 1 : Nat) : Int)) rfl rfl rfl (add2U (num_lt _ k) (by omega)) ?_
      refine r_assign rfl rfl ?_
      refine r_nil ?_
      refine r_tn ?_
      refine r_seq ?_
      refine r_region ?_
      have hc1 : P y k = _ := hc
      refine r_move rfl rfl ?_
      refine r_move rfl rfl ?_
      refine r_add (r := ((64 + k : Nat) : Int)) rfl rfl rfl ((w64 (by omega)).trans (by omega)) ?_
      refine r_move rfl rfl ?_
      refine r_call rfl rfl rfl (by kernel_rfl) rfl (fun w hw => by exact refGet07 P ((64 + k : Nat) : Int) (y : Int) a ca w (ha.keep hw) (by omega) (by omega)) ?_
      refine r_nil ?_
      refine r_tn ?_
      refine r_cond rfl (fun hc => ?_) (fun hc => ?_)
      · refine r_region ?_
        refine r_move rfl rfl ?_
        refine r_add (r := ((2 * num (fun j => P y (64 + k - 1 - j)) k + 1 : Nat) : Int)) rfl rfl rfl (add2U (num_lt _ k) (by omega)) ?_
        refine r_assign rfl rfl ?_
        refine r_nil ?_
        refine r_bn ?_
        refine r_tn ?_
        refine r_region ?_
        refine r_move rfl rfl ?_
        refine r_add rfl rfl rfl (w64 (by omega)) ?_
        refine r_assign rfl rfl ?_
        refine r_nil ?_
        refine r_tn ?_
        exact r_againN (k + 1) (by omega) (by omega) ⟨rfl, rfl, word_step0 (fun x => P y x) k hk2 hc1, word_step64 (fun x => P y x) k hk2 hc, rfl, trivial⟩ (fun w hw => hw)
      · refine r_skip ?_
        refine r_bn ?_
        refine r_tn ?_
        refine r_region ?_
        refine r_move rfl rfl ?_
        refine r_add rfl rfl rfl (w64 (by omega)) ?_
        refine r_assign rfl rfl ?_
        refine r_nil ?_
        refine r_tn ?_
        exact r_againN (k + 1) (by omega) (by omega) ⟨rfl, rfl, word_step0 (fun x => P y x) k hk2 hc1, word_step64 (fun x => P y x) k hk2 hc, rfl, trivial⟩ (fun w hw => hw)
    · refine r_skip ?_
      refine r_tn ?_
      refine r_seq ?_
      refine r_region ?_
      have hc1 : P y k = _ := hc
      refine r_move rfl rfl ?_
      refine r_move rfl rfl ?_
      refine r_add (r := ((64 + k : Nat) : Int)) rfl rfl rfl ((w64 (by omega)).trans (by omega)) ?_
      refine r_move rfl rfl ?_
      refine r_call rfl rfl rfl (by kernel_rfl) rfl (fun w hw => by exact refGet07 P ((64 + k : Nat) : Int) (y : Int) a ca w (ha.keep hw) (by omega) (by omega)) ?_
      refine r_nil ?_
      refine r_tn ?_
      refine r_cond rfl (fun hc => ?_) (fun hc => ?_)
      · refine r_region ?_
        refine r_move rfl rfl ?_
        refine r_add (r := ((2 * num (fun j => P y (64 + k - 1 - j)) k + 1 : Nat) : Int)) rfl rfl rfl (add2U (num_lt _ k) (by omega)) ?_
        refine r_assign rfl rfl ?_
        refine r_nil ?_
        refine r_bn ?_
        refine r_tn ?_
        refine r_region ?_
        refine r_move rfl rfl ?_
        refine r_add rfl rfl rfl (w64 (by omega)) ?_
        refine r_assign rfl rfl ?_
        refine r_nil ?_
        refine r_tn ?_
        exact r_againN (k + 1) (by omega) (by omega) ⟨rfl, rfl, word_step0 (fun x => P y x) k hk2 hc1, word_step64 (fun x => P y x) k hk2 hc, rfl, trivial⟩ (fun w hw => hw)
      · refine r_skip ?_
        refine r_bn ?_
        refine r_tn ?_
        refine r_region ?_
        refine r_move rfl rfl ?_
        refine r_add rfl rfl rfl (w64 (by omega)) ?_
        refine r_assign rfl rfl ?_
        refine r_nil ?_
        refine r_tn ?_
        exact r_againN (k + 1) (by omega) (by omega) ⟨rfl, rfl, word_step0 (fun x => P y x) k hk2 hc1, word_step64 (fun x => P y x) k hk2 hc, rfl, trivial⟩ (fun w hw => hw)
  · refine r_exit ?_
    refine r_te ?_
    refine r_te ?_
    refine r_be ?_
    refine r_tn ?_
    refine r_seq ?_
    refine r_region ?_
    refine r_move rfl rfl ?_
    refine r_move rfl rfl ?_
    refine r_assign rfl rfl ?_
    refine r_assign rfl rfl ?_
    refine r_nil ?_
    refine r_tn ?_
    refine r_ret ?_
    have hk2 : k = 64 := by have h := of_decide_eq_false hc; omega
    subst hk2
    exact r_done2 (.inl rfl) rfl (res_tmp rfl) (res_tmp rfl) fun w hw => ⟨by rw [show (fun j => P y (64 + 64 - 1 - j)) = fun j => P y (127 - j) from rfl]; rfl, hw⟩

def rightM7 (n : Nat) (x y : Int) (hires : Bool) : Bool := decide ((n : Int) ≤ 16) && decide (0 ≤ x) && decide (0 ≤ y) && decide (x < (wd hires : Nat)) && decide (y < (ht hires : Nat))

abbrev cb (big : Bool) : Nat := if big then 16 else 8
end
section
set_option maxRecDepth 4000
open Go Go.RowKit
set_option linter.unusedVariables false
set_option linter.unusedSimpArgs false
set_option maxHeartbeats 2000000
attribute [local irreducible] mix

theorem sc_in (P : Nat → Nat → Bool) (dx dy : Int) (hires : Bool) {i k : Nat} (hi : i < ht hires) (hk : k < wd hires) (hin : 0 ≤ (k : Int) - dx ∧ (k : Int) - dx < wd hires ∧ 0 ≤ (i : Int) - dy ∧ (i : Int) - dy < ht hires) : scrollQ P dx dy hires i k = P ((i : Int) - dy).toNat ((k : Int) - dx).toNat := by
  have hwd : wd hires ≤ 128 := by cases hires <;> decide
  unfold scrollQ partQ scrollRow
  rw [if_pos hi, if_pos ⟨hin.2.2.1, hin.2.2.2⟩]
  unfold shiftP
  rw [decide_eq_true hk, decide_eq_true hin.1, decide_eq_true (show (k : Int) - dx < 128 by omega)]
  rfl
theorem sc_out (P : Nat → Nat → Bool) (dx dy : Int) (hires : Bool) (hp : ∀ y x, y < 64 → x < 128 → P y x = true → x < wd hires ∧ y < ht hires) {i k : Nat} (hi : i < ht hires) (hk : k < wd hires) (hout : ¬ (0 ≤ (k : Int) - dx ∧ (k : Int) - dx < wd hires ∧ 0 ≤ (i : Int) - dy ∧ (i : Int) - dy < ht hires)) : scrollQ P dx dy hires i k = false := by
  have hwd : wd hires ≤ 128 := by cases hires <;> decide
  have hht : ht hires ≤ 64 := by cases hires <;> decide
  unfold scrollQ partQ scrollRow
  rw [if_pos hi]
  by_cases h1 : 0 ≤ (i : Int) - dy ∧ (i : Int) - dy < ht hires
  · rw [if_pos h1]
    unfold shiftP
    by_cases h2 : 0 ≤ (k : Int) - dx
    · by_cases h3 : (k : Int) - dx < 128
      · have h4 : P ((i : Int) - dy).toNat ((k : Int) - dx).toNat = false := Bool.eq_false_iff.2 fun h => by
          have := (hp _ _ (by omega) (by omega) h).1
          exact hout ⟨h2, by omega, h1.1, h1.2⟩
        rw [h4]; simp
      · rw [decide_eq_false h3]; simp
    · rw [decide_eq_false h2]; simp
  · rw [if_neg h1]; rfl
theorem rsc_pix (P : Nat → Nat → Bool) (dx dy : Int) (hires : Bool) (g : Nat → Bool) {i k : Nat} (hg : ∀ z, z < 8192 → g z = (decide (z / 128 < i ∨ (z / 128 = i ∧ z % 128 < k)) && flatP (scrollQ P dx dy hires) z)) {z : Nat} (hz : z < 8192) (h : ¬ (z / 128 = i ∧ z % 128 = k)) : g z = (decide (z / 128 < i ∨ (z / 128 = i ∧ z % 128 < k + 1)) && flatP (scrollQ P dx dy hires) z) := by
  rw [hg z hz]
  congr 2
  exact propext ⟨fun h1 => by omega, fun h1 => by omega⟩
theorem rsc_put (P : Nat → Nat → Bool) (dx dy : Int) (hires : Bool) (g : Nat → Bool) {i k : Nat} (hg : ∀ z, z < 8192 → g z = (decide (z / 128 < i ∨ (z / 128 = i ∧ z % 128 < k)) && flatP (scrollQ P dx dy hires) z)) (hi : i < ht hires) (hk : k < wd hires) (hin : 0 ≤ (k : Int) - dx ∧ (k : Int) - dx < wd hires ∧ 0 ≤ (i : Int) - dy ∧ (i : Int) - dy < ht hires) (z : Nat) (hz : z < 8192) :
    (if z = 128 * i + k then P ((i : Int) - dy).toNat ((k : Int) - dx).toNat else g z) = (decide (z / 128 < i ∨ (z / 128 = i ∧ z % 128 < k + 1)) && flatP (scrollQ P dx dy hires) z) := by
  have hwd : wd hires ≤ 128 := by cases hires <;> decide
  by_cases e : z = 128 * i + k
  · rw [if_pos e]
    have e1 : z / 128 = i := by omega
    have e2 : z % 128 = k := by omega
    unfold flatP
    rw [e1, e2, decide_eq_true (show i < i ∨ (i = i ∧ k < k + 1) by omega), sc_in P dx dy hires hi hk hin]; rfl
  · rw [if_neg e]; exact rsc_pix P dx dy hires g hg hz (by omega)
theorem rsc_skip (P : Nat → Nat → Bool) (dx dy : Int) (hires : Bool) (g : Nat → Bool) (hp : ∀ y x, y < 64 → x < 128 → P y x = true → x < wd hires ∧ y < ht hires) {i k : Nat} (hg : ∀ z, z < 8192 → g z = (decide (z / 128 < i ∨ (z / 128 = i ∧ z % 128 < k)) && flatP (scrollQ P dx dy hires) z)) (hi : i < ht hires) (hk : k < wd hires) (hout : ¬ (0 ≤ (k : Int) - dx ∧ (k : Int) - dx < wd hires ∧ 0 ≤ (i : Int) - dy ∧ (i : Int) - dy < ht hires)) (z : Nat) (hz : z < 8192) :
    g z = (decide (z / 128 < i ∨ (z / 128 = i ∧ z % 128 < k + 1)) && flatP (scrollQ P dx dy hires) z) := by
  by_cases e : z / 128 = i ∧ z % 128 = k
  · rw [hg z hz]
    have h0 : flatP (scrollQ P dx dy hires) z = false := by unfold flatP; rw [e.1, e.2]; exact sc_out P dx dy hires hp hi hk hout
    rw [h0, Bool.and_false, Bool.and_false]
  · exact rsc_pix P dx dy hires g hg hz e
theorem rsc_zero (P : Nat → Nat → Bool) (dx dy : Int) (hires : Bool) {y x : Nat} (h : ¬ (y < ht hires ∧ x < wd hires)) : scrollQ P dx dy hires y x = false := by
  unfold scrollQ partQ scrollRow
  by_cases h1 : y < ht hires
  · rw [if_pos h1]
    split
    · unfold shiftP; rw [decide_eq_false (fun h2 => h ⟨h1, h2⟩)]; rfl
    · rfl
  · rw [if_neg h1]; rfl
theorem rsc_row (P : Nat → Nat → Bool) (dx dy : Int) (hires : Bool) (g : Nat → Bool) {i : Nat} (hg : ∀ z, z < 8192 → g z = (decide (z / 128 < i ∨ (z / 128 = i ∧ z % 128 < wd hires)) && flatP (scrollQ P dx dy hires) z)) (z : Nat) (hz : z < 8192) : g z = (decide (z / 128 < i + 1) && flatP (scrollQ P dx dy hires) z) := by
  rw [hg z hz]
  by_cases h : z / 128 = i ∧ ¬ z % 128 < wd hires
  · have h0 : flatP (scrollQ P dx dy hires) z = false := by unfold flatP; exact rsc_zero P dx dy hires (fun h2 => h.2 h2.2)
    rw [h0, Bool.and_false, Bool.and_false]
  · congr 2
    exact propext ⟨fun h1 => by omega, fun h1 => by omega⟩
theorem rsc_end (P : Nat → Nat → Bool) (dx dy : Int) (hires : Bool) (f : Nat → Bool) (hf : ∀ z, z < 8192 → f z = (decide (z / 128 < ht hires) && flatP (scrollQ P dx dy hires) z)) (z : Nat) (hz : z < 8192) : f z = flatP (scrollQ P dx dy hires) z := by
  rw [hf z hz]
  by_cases h : z / 128 < ht hires
  · rw [decide_eq_true h]; rfl
  · have h0 : flatP (scrollQ P dx dy hires) z = false := by unfold flatP; exact rsc_zero P dx dy hires (fun h2 => h h2.1)
    rw [h0, Bool.and_false]

theorem refScroll07 (P : Nat → Nat → Bool) (dx dy : Int) (hires : Bool) (a ca : Nat) (w : World) (ha : Rd w (some ⟨a, 0, none⟩) (boolsN 8192 (flatP P))) (hdx : -4611686018427387904 ≤ dx ∧ dx ≤ 4611686018427387904) (hdy : -4611686018427387904 ≤ dy ∧ dy ≤ 4611686018427387904) (hp : ∀ y x, y < 64 → x < 128 → P y x = true → x < wd hires ∧ y < ht hires) :
    Calls Try.prog 48 #[.slice (some ⟨a, 0, none⟩) 8192 ca, .int .i64 dx, .int .i64 dy, .bool hires] w fun e w' => ∃ b : Nat, e = .returned (.slice (some ⟨b, 0, none⟩) 8192 8192) ∧ True ∧ Sat w [] [.own 4 1 (.slice (some ⟨b, 0, none⟩) 8192 8192) 8192 (boolsN 8192 (flatP (scrollQ P dx dy hires)))] w' := by
  have hwd : wd hires ≤ 128 := by cases hires <;> decide
  have hht : ht hires ≤ 64 := by cases hires <;> decide
  refine enter Try.func48 rfl rfl rfl ?_
  refine r_seq ?_
  refine r_region ?_
  refine r_assign rfl rfl ?_
  refine r_nil ?_
  refine r_tn ?_
  refine r_seq ?_
  refine r_region ?_
  refine r_callx rfl rfl rfl (by kernel_rfl) rfl (fun w hw => refBlank07 w) ?_
  rintro b14 _
  refine r_assign rfl rfl ?_
  refine r_nil ?_
  refine r_tn ?_
  refine r_seq ?_
  refine r_region ?_
  refine r_move rfl rfl ?_
  refine r_call rfl rfl rfl (by kernel_rfl) rfl (fun w hw => by exact width06 hires w) ?_
  refine r_assign rfl rfl ?_
  refine r_nil ?_
  refine r_tn ?_
  refine r_seq ?_
  refine r_region ?_
  refine r_move rfl rfl ?_
  refine r_call rfl rfl rfl (by kernel_rfl) rfl (fun w hw => by exact refHeight07 hires w) ?_
  refine r_assign rfl rfl ?_
  refine r_nil ?_
  refine r_tn ?_
  refine r_seq ?_
  refine r_seq ?_
  refine r_region ?_
  refine r_assign rfl rfl ?_
  refine r_nil ?_
  refine r_tn ?_
  refine r_block ?_
  refine r_loop1 (fun i (f : Nat → Bool) => [(0, .slice (some ⟨a, 0, none⟩) 8192 ca), (1, .int .i64 dx), (2, .int .i64 dy), (9, .slice (some ⟨b14, 0, none⟩) 8192 8192), (10, .int .i64 (wd hires : Nat)), (11, .int .i64 (ht hires : Nat)), (12, .int .i64 (i : Int))]) (fun i f => [.own 4 1 (.slice (some ⟨b14, 0, none⟩) 8192 8192) 8192 (boolsN 8192 (f))]) (fun i f => i ≤ ht hires ∧ ∀ z, z < 8192 → f z = (decide (z / 128 < i) && flatP (scrollQ P dx dy hires) z)) (ht hires) 0 (fun _ => false) ⟨by omega, fun z hz => by simp⟩ ⟨rfl, rfl, rfl, rfl, rfl, rfl, rfl, trivial⟩ (fun w hw => hw.sub) fun i f hf => ?_
  obtain ⟨hi, hf⟩ := hf
  refine r_seq ?_
  refine r_seq ?_
  refine r_region ?_
  refine r_move rfl rfl ?_
  refine r_move rfl rfl ?_
  refine r_lss rfl rfl rfl rfl ?_
  refine r_nil ?_
  refine r_tn ?_
  refine r_cond rfl (fun hc => ?_) (fun hc => ?_)
  · refine r_skip ?_
    refine r_tn ?_
    refine r_seq ?_
    refine r_block ?_
    refine r_seq ?_
    refine r_region ?_
    refine r_assign rfl rfl ?_
    refine r_nil ?_
    refine r_tn ?_
    refine r_block ?_
    have hi2 : i < ht hires := by have h := of_decide_eq_true hc; omega
    clear hc
    refine r_loop1 (fun k (g : Nat → Bool) => [(0, .slice (some ⟨a, 0, none⟩) 8192 ca), (1, .int .i64 dx), (2, .int .i64 dy), (9, .slice (some ⟨b14, 0, none⟩) 8192 8192), (10, .int .i64 (wd hires : Nat)), (11, .int .i64 (ht hires : Nat)), (12, .int .i64 (i : Int)), (13, .int .i64 (k : Int))]) (fun k g => [.own 4 1 (.slice (some ⟨b14, 0, none⟩) 8192 8192) 8192 (boolsN 8192 (g))]) (fun k g => k ≤ wd hires ∧ ∀ z, z < 8192 → g z = (decide (z / 128 < i ∨ (z / 128 = i ∧ z % 128 < k)) && flatP (scrollQ P dx dy hires) z)) (wd hires) 0 f ⟨by omega, fun z hz => by rw [hf z hz]; congr 2; exact propext ⟨fun h => .inl h, fun h => by omega⟩⟩ ⟨rfl, rfl, rfl, rfl, rfl, rfl, rfl, rfl, trivial⟩ (fun w hw => hw.sub) fun k g hg => ?_
    obtain ⟨hk, hg⟩ := hg
    refine r_seq ?_
    refine r_seq ?_
    refine r_region ?_
    refine r_move rfl rfl ?_
    refine r_move rfl rfl ?_
    refine r_lss rfl rfl rfl rfl ?_
    refine r_nil ?_
    refine r_tn ?_
    refine r_cond rfl (fun hc => ?_) (fun hc => ?_)
    · refine r_skip ?_
      refine r_tn ?_
      refine r_seq ?_
      refine r_block ?_
      refine r_seq ?_
      refine r_region ?_
      have hk2 : k < wd hires := by have h := of_decide_eq_true hc; omega
      clear hc
      refine r_move rfl rfl ?_
      refine r_move rfl rfl ?_
      refine r_sub rfl rfl rfl (w64 (by omega)) ?_
      refine r_geq rfl rfl rfl rfl ?_
      refine r_move rfl rfl ?_
      refine r_split 33 rfl (fun hb33 => ?_) (fun hb33 => ?_)
      · refine r_go rfl rfl ?_
        refine r_move rfl rfl ?_
        refine r_go rfl rfl ?_
        refine r_move rfl rfl ?_
        refine r_go rfl rfl ?_
        refine r_sub rfl rfl rfl (w64 (by omega)) ?_
        refine r_go rfl rfl ?_
        refine r_move rfl rfl ?_
        refine r_go rfl rfl ?_
        refine r_lss rfl rfl rfl rfl ?_
        refine r_pick_t rfl rfl rfl ?_
        refine r_move rfl rfl ?_
        refine r_split 40 rfl (fun hb40 => ?_) (fun hb40 => ?_)
        · refine r_go rfl rfl ?_
          refine r_move rfl rfl ?_
          refine r_go rfl rfl ?_
          refine r_move rfl rfl ?_
          refine r_go rfl rfl ?_
          refine r_sub rfl rfl rfl (w64 (by omega)) ?_
          refine r_go rfl rfl ?_
          refine r_geq rfl rfl rfl rfl ?_
          refine r_pick_t rfl rfl rfl ?_
          refine r_move rfl rfl ?_
          refine r_split 46 rfl (fun hb46 => ?_) (fun hb46 => ?_)
          · refine r_go rfl rfl ?_
            refine r_move rfl rfl ?_
            refine r_go rfl rfl ?_
            refine r_move rfl rfl ?_
            refine r_go rfl rfl ?_
            refine r_sub rfl rfl rfl (w64 (by omega)) ?_
            refine r_go rfl rfl ?_
            refine r_move rfl rfl ?_
            refine r_go rfl rfl ?_
            refine r_lss rfl rfl rfl rfl ?_
            refine r_pick_t rfl rfl rfl ?_
            refine r_nil ?_
            refine r_tn ?_
            refine r_cond rfl (fun hc => ?_) (fun hc => ?_)
            · refine r_region ?_
              have hin : 0 ≤ (k : Int) - dx ∧ (k : Int) - dx < wd hires ∧ 0 ≤ (i : Int) - dy ∧ (i : Int) - dy < ht hires := ⟨of_decide_eq_true hb33, of_decide_eq_true hb40, of_decide_eq_true hb46, of_decide_eq_true hc⟩
              refine r_move rfl rfl ?_
              refine r_move rfl rfl ?_
              refine r_mul rfl rfl rfl (w64 (by omega)) ?_
              refine r_move rfl rfl ?_
              refine r_add rfl rfl rfl (w64 (by omega)) ?_
              refine r_move rfl rfl ?_
              refine r_move rfl rfl ?_
              refine r_move rfl rfl ?_
              refine r_sub rfl rfl rfl (w64 (by omega)) ?_
              refine r_move rfl rfl ?_
              refine r_move rfl rfl ?_
              refine r_sub rfl rfl rfl (w64 (by omega)) ?_
              refine r_call rfl rfl rfl (by kernel_rfl) rfl (fun w hw => by exact refGet07 P ((k : Int) - dx) ((i : Int) - dy) a ca w (ha.keep hw) (by omega) (by omega)) ?_
              refine r_indexSl (sz := 1) (o' := 128 * i + k) rfl rfl rfl rfl rfl (by omega) (by omega) (by first | (simp; done) | (simp; omega) | omega) ?_
              refine r_storeOwn (m := 8192) (c := 8192) rfl rfl rfl rfl rfl (by omega) ?_
              rw [boolsN_set]
              refine r_nil ?_
              refine r_bn ?_
              refine r_tn ?_
              refine r_region ?_
              refine r_move rfl rfl ?_
              refine r_add rfl rfl rfl (w64 (by omega)) ?_
              refine r_assign rfl rfl ?_
              refine r_nil ?_
              refine r_tn ?_
              first
                | exact r_again1 (k + 1) (fun z => if z = 128 * i + k then P ((i : Int) - dy).toNat ((k : Int) - dx).toNat else g z) ⟨by omega, fun z hz => rsc_put P dx dy hires g hg hi2 hk2 hin z hz⟩ (by omega) ⟨rfl, rfl, rfl, rfl, rfl, rfl, rfl, rfl, trivial⟩ (fun w hw => hw.sub)
                | exact r_again1 (k + 1) g ⟨by omega, fun z hz => rsc_skip P dx dy hires g hp hg hi2 hk2 (fun h => by have h1 := of_decide_eq_false hb33; omega) z hz⟩ (by omega) ⟨rfl, rfl, rfl, rfl, rfl, rfl, rfl, rfl, trivial⟩ (fun w hw => hw.sub)
                | exact r_again1 (k + 1) g ⟨by omega, fun z hz => rsc_skip P dx dy hires g hp hg hi2 hk2 (fun h => by have h1 := of_decide_eq_false hb40; omega) z hz⟩ (by omega) ⟨rfl, rfl, rfl, rfl, rfl, rfl, rfl, rfl, trivial⟩ (fun w hw => hw.sub)
                | exact r_again1 (k + 1) g ⟨by omega, fun z hz => rsc_skip P dx dy hires g hp hg hi2 hk2 (fun h => by have h1 := of_decide_eq_false hb46; omega) z hz⟩ (by omega) ⟨rfl, rfl, rfl, rfl, rfl, rfl, rfl, rfl, trivial⟩ (fun w hw => hw.sub)
                | exact r_again1 (k + 1) g ⟨by omega, fun z hz => rsc_skip P dx dy hires g hp hg hi2 hk2 (fun h => by have h1 := of_decide_eq_false hc; omega) z hz⟩ (by omega) ⟨rfl, rfl, rfl, rfl, rfl, rfl, rfl, rfl, trivial⟩ (fun w hw => hw.sub)
            · refine r_skip ?_
              refine r_bn ?_
              refine r_tn ?_
              refine r_region ?_
              refine r_move rfl rfl ?_
              refine r_add rfl rfl rfl (w64 (by omega)) ?_
              refine r_assign rfl rfl ?_
              refine r_nil ?_
              refine r_tn ?_
              first
                | exact r_again1 (k + 1) (fun z => if z = 128 * i + k then P ((i : Int) - dy).toNat ((k : Int) - dx).toNat else g z) ⟨by omega, fun z hz => rsc_put P dx dy hires g hg hi2 hk2 hin z hz⟩ (by omega) ⟨rfl, rfl, rfl, rfl, rfl, rfl, rfl, rfl, trivial⟩ (fun w hw => hw.sub)
                | exact r_again1 (k + 1) g ⟨by omega, fun z hz => rsc_skip P dx dy hires g hp hg hi2 hk2 (fun h => by have h1 := of_decide_eq_false hb33; omega) z hz⟩ (by omega) ⟨rfl, rfl, rfl, rfl, rfl, rfl, rfl, rfl, trivial⟩ (fun w hw => hw.sub)
                | exact r_again1 (k + 1) g ⟨by omega, fun z hz => rsc_skip P dx dy hires g hp hg hi2 hk2 (fun h => by have h1 := of_decide_eq_false hb40; omega) z hz⟩ (by omega) ⟨rfl, rfl, rfl, rfl, rfl, rfl, rfl, rfl, trivial⟩ (fun w hw => hw.sub)
                | exact r_again1 (k + 1) g ⟨by omega, fun z hz => rsc_skip P dx dy hires g hp hg hi2 hk2 (fun h => by have h1 := of_decide_eq_false hb46; omega) z hz⟩ (by omega) ⟨rfl, rfl, rfl, rfl, rfl, rfl, rfl, rfl, trivial⟩ (fun w hw => hw.sub)
                | exact r_again1 (k + 1) g ⟨by omega, fun z hz => rsc_skip P dx dy hires g hp hg hi2 hk2 (fun h => by have h1 := of_decide_eq_false hc; omega) z hz⟩ (by omega) ⟨rfl, rfl, rfl, rfl, rfl, rfl, rfl, rfl, trivial⟩ (fun w hw => hw.sub)
          · refine r_pass rfl rfl rfl rfl ?_
            refine r_pass rfl rfl rfl rfl ?_
            refine r_pass rfl rfl rfl rfl ?_
            refine r_pass rfl rfl rfl rfl ?_
            refine r_pass rfl rfl rfl rfl ?_
            refine r_pick_f rfl rfl rfl ?_
            refine r_nil ?_
            refine r_tn ?_
            refine r_cond_f rfl ?_
            refine r_skip ?_
            refine r_bn ?_
            refine r_tn ?_
            refine r_region ?_
            refine r_move rfl rfl ?_
            refine r_add rfl rfl rfl (w64 (by omega)) ?_
            refine r_assign rfl rfl ?_
            refine r_nil ?_
            refine r_tn ?_
            first
              | exact r_again1 (k + 1) (fun z => if z = 128 * i + k then P ((i : Int) - dy).toNat ((k : Int) - dx).toNat else g z) ⟨by omega, fun z hz => rsc_put P dx dy hires g hg hi2 hk2 hin z hz⟩ (by omega) ⟨rfl, rfl, rfl, rfl, rfl, rfl, rfl, rfl, trivial⟩ (fun w hw => hw.sub)
              | exact r_again1 (k + 1) g ⟨by omega, fun z hz => rsc_skip P dx dy hires g hp hg hi2 hk2 (fun h => by have h1 := of_decide_eq_false hb33; omega) z hz⟩ (by omega) ⟨rfl, rfl, rfl, rfl, rfl, rfl, rfl, rfl, trivial⟩ (fun w hw => hw.sub)
              | exact r_again1 (k + 1) g ⟨by omega, fun z hz => rsc_skip P dx dy hires g hp hg hi2 hk2 (fun h => by have h1 := of_decide_eq_false hb40; omega) z hz⟩ (by omega) ⟨rfl, rfl, rfl, rfl, rfl, rfl, rfl, rfl, trivial⟩ (fun w hw => hw.sub)
              | exact r_again1 (k + 1) g ⟨by omega, fun z hz => rsc_skip P dx dy hires g hp hg hi2 hk2 (fun h => by have h1 := of_decide_eq_false hb46; omega) z hz⟩ (by omega) ⟨rfl, rfl, rfl, rfl, rfl, rfl, rfl, rfl, trivial⟩ (fun w hw => hw.sub)
              | exact r_again1 (k + 1) g ⟨by omega, fun z hz => rsc_skip P dx dy hires g hp hg hi2 hk2 (fun h => by have h1 := of_decide_eq_false hc; omega) z hz⟩ (by omega) ⟨rfl, rfl, rfl, rfl, rfl, rfl, rfl, rfl, trivial⟩ (fun w hw => hw.sub)
        · refine r_pass rfl rfl rfl rfl ?_
          refine r_pass rfl rfl rfl rfl ?_
          refine r_pass rfl rfl rfl rfl ?_
          refine r_pass rfl rfl rfl rfl ?_
          refine r_pick_f rfl rfl rfl ?_
          refine r_move rfl rfl ?_
          refine r_pass rfl rfl rfl rfl ?_
          refine r_pass rfl rfl rfl rfl ?_
          refine r_pass rfl rfl rfl rfl ?_
          refine r_pass rfl rfl rfl rfl ?_
          refine r_pass rfl rfl rfl rfl ?_
          refine r_pick_f rfl rfl rfl ?_
          refine r_nil ?_
          refine r_tn ?_
          refine r_cond_f rfl ?_
          refine r_skip ?_
          refine r_bn ?_
          refine r_tn ?_
          refine r_region ?_
          refine r_move rfl rfl ?_
          refine r_add rfl rfl rfl (w64 (by omega)) ?_
          refine r_assign rfl rfl ?_
          refine r_nil ?_
          refine r_tn ?_
          first
            | exact r_again1 (k + 1) (fun z => if z = 128 * i + k then P ((i : Int) - dy).toNat ((k : Int) - dx).toNat else g z) ⟨by omega, fun z hz => rsc_put P dx dy hires g hg hi2 hk2 hin z hz⟩ (by omega) ⟨rfl, rfl, rfl, rfl, rfl, rfl, rfl, rfl, trivial⟩ (fun w hw => hw.sub)
            | exact r_again1 (k + 1) g ⟨by omega, fun z hz => rsc_skip P dx dy hires g hp hg hi2 hk2 (fun h => by have h1 := of_decide_eq_false hb33; omega) z hz⟩ (by omega) ⟨rfl, rfl, rfl, rfl, rfl, rfl, rfl, rfl, trivial⟩ (fun w hw => hw.sub)
            | exact r_again1 (k + 1) g ⟨by omega, fun z hz => rsc_skip P dx dy hires g hp hg hi2 hk2 (fun h => by have h1 := of_decide_eq_false hb40; omega) z hz⟩ (by omega) ⟨rfl, rfl, rfl, rfl, rfl, rfl, rfl, rfl, trivial⟩ (fun w hw => hw.sub)
            | exact r_again1 (k + 1) g ⟨by omega, fun z hz => rsc_skip P dx dy hires g hp hg hi2 hk2 (fun h => by have h1 := of_decide_eq_false hb46; omega) z hz⟩ (by omega) ⟨rfl, rfl, rfl, rfl, rfl, rfl, rfl, rfl, trivial⟩ (fun w hw => hw.sub)
            | exact r_again1 (k + 1) g ⟨by omega, fun z hz => rsc_skip P dx dy hires g hp hg hi2 hk2 (fun h => by have h1 := of_decide_eq_false hc; omega) z hz⟩ (by omega) ⟨rfl, rfl, rfl, rfl, rfl, rfl, rfl, rfl, trivial⟩ (fun w hw => hw.sub)
      · refine r_pass rfl rfl rfl rfl ?_
        refine r_pass rfl rfl rfl rfl ?_
        refine r_pass rfl rfl rfl rfl ?_
        refine r_pass rfl rfl rfl rfl ?_
        refine r_pass rfl rfl rfl rfl ?_
        refine r_pick_f rfl rfl rfl ?_
        refine r_move rfl rfl ?_
        refine r_pass rfl rfl rfl rfl ?_
        refine r_pass rfl rfl rfl rfl ?_
        refine r_pass rfl rfl rfl rfl ?_
        refine r_pass rfl rfl rfl rfl ?_
        refine r_pick_f rfl rfl rfl ?_
        refine r_move rfl rfl ?_
        refine r_pass rfl rfl rfl rfl ?_
        refine r_pass rfl rfl rfl rfl ?_
        refine r_pass rfl rfl rfl rfl ?_
        refine r_pass rfl rfl rfl rfl ?_
        refine r_pass rfl rfl rfl rfl ?_
        refine r_pick_f rfl rfl rfl ?_
        refine r_nil ?_
        refine r_tn ?_
        refine r_cond_f rfl ?_
        refine r_skip ?_
        refine r_bn ?_
        refine r_tn ?_
        refine r_region ?_
        refine r_move rfl rfl ?_
        refine r_add rfl rfl rfl (w64 (by omega)) ?_
        refine r_assign rfl rfl ?_
        refine r_nil ?_
        refine r_tn ?_
        first
          | exact r_again1 (k + 1) (fun z => if z = 128 * i + k then P ((i : Int) - dy).toNat ((k : Int) - dx).toNat else g z) ⟨by omega, fun z hz => rsc_put P dx dy hires g hg hi2 hk2 hin z hz⟩ (by omega) ⟨rfl, rfl, rfl, rfl, rfl, rfl, rfl, rfl, trivial⟩ (fun w hw => hw.sub)
          | exact r_again1 (k + 1) g ⟨by omega, fun z hz => rsc_skip P dx dy hires g hp hg hi2 hk2 (fun h => by have h1 := of_decide_eq_false hb33; omega) z hz⟩ (by omega) ⟨rfl, rfl, rfl, rfl, rfl, rfl, rfl, rfl, trivial⟩ (fun w hw => hw.sub)
          | exact r_again1 (k + 1) g ⟨by omega, fun z hz => rsc_skip P dx dy hires g hp hg hi2 hk2 (fun h => by have h1 := of_decide_eq_false hb40; omega) z hz⟩ (by omega) ⟨rfl, rfl, rfl, rfl, rfl, rfl, rfl, rfl, trivial⟩ (fun w hw => hw.sub)
          | exact r_again1 (k + 1) g ⟨by omega, fun z hz => rsc_skip P dx dy hires g hp hg hi2 hk2 (fun h => by have h1 := of_decide_eq_false hb46; omega) z hz⟩ (by omega) ⟨rfl, rfl, rfl, rfl, rfl, rfl, rfl, rfl, trivial⟩ (fun w hw => hw.sub)
          | exact r_again1 (k + 1) g ⟨by omega, fun z hz => rsc_skip P dx dy hires g hp hg hi2 hk2 (fun h => by have h1 := of_decide_eq_false hc; omega) z hz⟩ (by omega) ⟨rfl, rfl, rfl, rfl, rfl, rfl, rfl, rfl, trivial⟩ (fun w hw => hw.sub)
    · refine r_exit ?_
      refine r_te ?_
      refine r_te ?_
      refine r_be ?_
      refine r_bn ?_
      refine r_tn ?_
      refine r_region ?_
      refine r_move rfl rfl ?_
      refine r_add rfl rfl rfl (w64 (by omega)) ?_
      refine r_assign rfl rfl ?_
      refine r_nil ?_
      refine r_tn ?_
      have hk3 : k = wd hires := by have h := of_decide_eq_false hc; omega
      subst hk3
      exact r_again1 (i + 1) g ⟨by omega, fun z hz => rsc_row P dx dy hires g hg z hz⟩ (by omega) ⟨rfl, rfl, rfl, rfl, rfl, rfl, rfl, trivial⟩ (fun w hw => hw.sub)
  · refine r_exit ?_
    refine r_te ?_
    refine r_te ?_
    refine r_be ?_
    refine r_tn ?_
    refine r_seq ?_
    refine r_region ?_
    refine r_move rfl rfl ?_
    refine r_assign rfl rfl ?_
    refine r_nil ?_
    refine r_tn ?_
    refine r_ret ?_
    have hi3 : i = ht hires := by have h := of_decide_eq_false hc; omega
    subst hi3
    exact r_done1 (.inl rfl) rfl (res_tmp rfl) fun w hw => ⟨b14, rfl, trivial, by rw [boolsN_congr (fun z hz => rsc_end P dx dy hires f hf z hz)] at hw; exact hw⟩
end
end Go.Proofs.Ytgamehjakgcgnaa
