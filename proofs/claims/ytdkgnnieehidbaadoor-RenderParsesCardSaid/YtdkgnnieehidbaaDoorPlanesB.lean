/-
  The reference for planes (chapter 07): Get, Blank, Draw.
-/
import Derived.Test.YtdkgnnieehidbaaDoorPlanesA
namespace Go.Proofs.YtdkgnnieehidbaaDoor
section
open Go Go.RowKit
set_option linter.unusedVariables false
set_option linter.unusedSimpArgs false
set_option maxHeartbeats 2000000
set_option maxRecDepth 4000
attribute [local irreducible] mix

def flatP (P : Nat → Nat → Bool) (i : Nat) : Bool := P (i / 128) (i % 128)
theorem flat_at (P : Nat → Nat → Bool) {x y : Int} (hx : 0 ≤ x ∧ x < 128) (hy : 0 ≤ y ∧ y < 64) : flatP P (128 * y + x).toNat = P y.toNat x.toNat := by
  unfold flatP
  have e1 : (128 * y + x).toNat / 128 = y.toNat := by omega
  have e2 : (128 * y + x).toNat % 128 = x.toNat := by omega
  rw [e1, e2]

theorem refGet07 (P : Nat → Nat → Bool) (x y : Int) (a ca : Nat) (w : World) (ha : Rd w (some ⟨a, 0, none⟩) (boolsN 8192 (flatP P))) (hx : 0 ≤ x ∧ x < 128) (hy : 0 ≤ y ∧ y < 64) :
    Calls Tryd.prog 35 #[.slice (some ⟨a, 0, none⟩) 8192 ca, .int .i64 x, .int .i64 y] w fun e w' => e = .returned (.bool (P y.toNat x.toNat)) ∧ Sat w [] [] w' := by
  refine enter Tryd.func35 rfl rfl rfl ?_
  refine r_seq ?_
  refine r_region ?_
  refine r_assign rfl rfl ?_
  refine r_nil ?_
  refine r_tn ?_
  refine r_seq ?_
  refine r_region ?_
  refine r_move rfl rfl ?_
  refine r_move rfl rfl ?_
  refine r_mul rfl rfl rfl (w64 (by omega)) ?_
  refine r_move rfl rfl ?_
  refine r_add rfl rfl rfl (w64 (by omega)) ?_
  refine r_indexSl (sz := 1) (o' := (128 * y + x).toNat) rfl rfl rfl rfl rfl (by omega) (by omega) (by first | (simp; done) | (simp; omega) | omega) ?_
  refine r_loadC (p := ⟨a, (128 * y + x).toNat, none⟩) rfl rfl rfl (fun w hw => ((ha.keep hw).cell (boolsN_at (flatP P) (show (128 * y + x).toNat < 8192 by omega)) rfl) |> fun h => by simpa using h) ?_ (hok := by simp [OkRead])
  refine r_assign rfl rfl ?_
  refine r_nil ?_
  refine r_tn ?_
  refine r_ret ?_
  exact r_done1 (.inl rfl) rfl (res_tmp rfl) fun w hw => ⟨by rw [flat_at P hx hy], hw.clear⟩
theorem refHeight07 (hires : Bool) (w : World) :
    Calls Tryd.prog 33 #[.bool hires] w fun e w' => e = .returned (.int .i64 (ht hires : Nat)) ∧ Sat w [] [] w' := by
  cases hires
  · refine enter Tryd.func33 rfl rfl rfl ?_
    refine r_seq ?_
    refine r_region ?_
    refine r_assign rfl rfl ?_
    refine r_nil ?_
    refine r_tn ?_
    refine r_seq ?_
    refine r_seq ?_
    refine r_region ?_
    refine r_move rfl rfl ?_
    refine r_nil ?_
    refine r_tn ?_
    refine r_cond_f rfl ?_
    refine r_skip ?_
    refine r_tn ?_
    refine r_seq ?_
    refine r_region ?_
    refine r_assign rfl rfl ?_
    refine r_nil ?_
    refine r_tn ?_
    refine r_ret ?_
    exact r_done1 (.inl rfl) rfl (res_tmp rfl) fun w hw => ⟨rfl, hw.clear⟩
  · refine enter Tryd.func33 rfl rfl rfl ?_
    refine r_seq ?_
    refine r_region ?_
    refine r_assign rfl rfl ?_
    refine r_nil ?_
    refine r_tn ?_
    refine r_seq ?_
    refine r_seq ?_
    refine r_region ?_
    refine r_move rfl rfl ?_
    refine r_nil ?_
    refine r_tn ?_
    refine r_cond_t rfl ?_
    refine r_seq ?_
    refine r_region ?_
    refine r_assign rfl rfl ?_
    refine r_nil ?_
    refine r_tn ?_
    refine r_ret ?_
    refine r_tr ?_
    exact r_done1 (.inl rfl) rfl (res_tmp rfl) fun w hw => ⟨rfl, hw.clear⟩
theorem made_bools (m : Nat) : (madeCells #[Value.bool false] m).toList = boolsN m (fun _ => false) := by
  unfold madeCells boolsN
  rw [Array.toList_map, Array.toList_range]
  apply List.map_congr_left
  intro i _
  show #[Value.bool false][i % 1]! = _
  rw [Nat.mod_one]; rfl

theorem refBlank07  (w : World) :
    Calls Tryd.prog 50 #[] w fun e w' => ∃ b : Nat, e = .returned (.slice (some ⟨b, 0, none⟩) 8192 8192) ∧ True ∧ Sat w [] [.own 4 1 (.slice (some ⟨b, 0, none⟩) 8192 8192) 8192 (boolsN 8192 (fun _ => false))] w' := by
  refine enter Tryd.func50 rfl rfl rfl ?_
  refine r_seq ?_
  refine r_region ?_
  refine r_assign rfl rfl ?_
  refine r_nil ?_
  refine r_tn ?_
  refine r_seq ?_
  refine r_region ?_
  refine r_makeSlice (m := 8192) (sz := 1) (bytes := 1) (xs := boolsN 8192 (fun _ => false)) rfl rfl rfl rfl rfl rfl rfl (by omega) (by unfold maxLen; omega) (by rw [show 8192 * 1 = 8192 from Nat.mul_one 8192]; exact made_bools 8192) (fun b1 => ?_)
  refine r_assign rfl rfl ?_
  refine r_nil ?_
  refine r_tn ?_
  refine r_ret ?_
  exact r_done1 (.inl rfl) rfl (res_tmp rfl) fun w hw => ⟨b1, rfl, trivial, hw⟩

def hitN (P Q : Nat → Nat → Bool) : Nat → Bool
  | 0 => false
  | k + 1 => hitN P Q k || (flatP P k && flatP Q k)
theorem draw_step (P Q : Nat → Nat → Bool) (f : Nat → Bool) {k : Nat} (hf : ∀ y, y < 8192 → f y = (decide (y < k) && (flatP P y ^^ flatP Q y))) (y : Nat) (hy : y < 8192) : (if y = k then (flatP P k ^^ flatP Q k) else f y) = (decide (y < k + 1) && (flatP P y ^^ flatP Q y)) := by
  by_cases e : y = k
  · subst e; rw [if_pos rfl, decide_eq_true (Nat.lt_succ_self y)]; rfl
  · rw [if_neg e, hf y hy]
    have e1 : decide (y < k + 1) = decide (y < k) := by congr 1; exact propext ⟨fun _ => by omega, fun _ => by omega⟩
    rw [e1]
theorem hit_a (P Q : Nat → Nat → Bool) (k : Nat) (h : hitN P Q k = false) (h2 : flatP P k = true) : some (Value.bool (flatP Q k)) = some (.bool (hitN P Q (k + 1))) := by
  simp only [hitN]; rw [h, h2]; rfl
theorem hit_b (P Q : Nat → Nat → Bool) (k : Nat) (h : hitN P Q k = false) (h2 : flatP P k = false) : some (Value.bool false) = some (.bool (hitN P Q (k + 1))) := by
  simp only [hitN]; rw [h, h2]; rfl
theorem hit_step2 (P Q : Nat → Nat → Bool) (k : Nat) (h : hitN P Q k = true) : some (Value.bool true) = some (.bool (hitN P Q (k + 1))) := by
  simp only [hitN]; rw [h]; rfl
end
section
open Go Go.RowKit
set_option linter.unusedVariables false
set_option linter.unusedSimpArgs false
set_option maxHeartbeats 2000000
set_option maxRecDepth 4000
attribute [local irreducible] mix

def atOf (y i : Nat) (hires : Bool) : Nat := if ht hires ≤ y + i then y + i - ht hires else y + i
theorem atOf_lt {y i : Nat} (hires : Bool) (hy : y < ht hires) (hi : i < 16) : atOf y i hires < 64 := by
  have h1 : ht hires ≤ 64 := by cases hires <;> decide
  have h2 : 32 ≤ ht hires := by cases hires <;> decide
  unfold atOf; split <;> omega
/-- the first pixels of a row put into a plane -/
def setPart (f : Nat → Bool) (at_ : Nat) (q : Nat → Bool) (j z : Nat) : Bool := if 128 * at_ ≤ z ∧ z < 128 * at_ + j then q (z - 128 * at_) else f z
theorem setPart_zero (f : Nat → Bool) (at_ : Nat) (q : Nat → Bool) : setPart f at_ q 0 = f := by
  funext z; unfold setPart; rw [if_neg (by omega)]
theorem setPart_succ (f : Nat → Bool) (at_ : Nat) (q : Nat → Bool) (j : Nat) : (fun z => if z = 128 * at_ + j then q j else setPart f at_ q j z) = setPart f at_ q (j + 1) := by
  funext z
  unfold setPart
  by_cases h : z = 128 * at_ + j
  · rw [if_pos h, if_pos (by omega), show z - 128 * at_ = j by omega]
  · rw [if_neg h]
    by_cases h2 : 128 * at_ ≤ z ∧ z < 128 * at_ + j
    · rw [if_pos h2, if_pos (by omega)]
    · rw [if_neg h2, if_neg (by omega)]
theorem rsp_skip (f : Nat → Bool) {l : List Int} {count x y i : Nat} {hires clip : Bool} (hf : ∀ z, z < 8192 → f z = flatP (sprQ l count x y hires clip i) z) (hy : y < ht hires) (hge : ht hires ≤ y + i) (hc : clip = true) (z : Nat) (hz : z < 8192) : f z = flatP (sprQ l count x y hires clip (i + 1)) z := by
  rw [hf z hz]; unfold flatP; rw [sprQ_break hc hy hge (Nat.le_succ i)]
theorem rsp_put (f : Nat → Bool) {l : List Int} {count x y i j : Nat} {hires clip : Bool} (hf : ∀ z, z < 8192 → f z = flatP (sprQ l count x y hires clip i) z) (hy : y < ht hires) (hnc : ht hires ≤ y + i → clip = false) (hi : i < 16) (hh : 32 ≤ ht hires) (hh2 : ht hires ≤ 64) (hj : j = 128) (z : Nat) (hz : z < 8192) :
    setPart f (atOf y i hires) (sprK (bitsAt l i) count x (wd hires) clip count) j z = flatP (sprQ l count x y hires clip (i + 1)) z := by
  subst hj
  have e : flatP (sprQ l count x y hires clip (i + 1)) z = setRow (sprQ l count x y hires clip i) (atOf y i hires) (sprK (bitsAt l i) count x (wd hires) clip count) (z / 128) (z % 128) := by
    unfold flatP atOf
    by_cases h : ht hires ≤ y + i
    · rw [if_pos h, sprQ_wrap (hnc h) hy h hi (by omega)]
    · rw [if_neg h, sprQ_straight hy h]
  rw [e]
  unfold setPart setRow
  by_cases h : z / 128 = atOf y i hires
  · rw [if_pos h, if_pos (by omega), show z - 128 * atOf y i hires = z % 128 by omega]
  · rw [if_neg h, if_neg (by omega), hf z hz]; rfl
end
section
open Go Go.RowKit
set_option linter.unusedVariables false
set_option linter.unusedSimpArgs false
set_option maxHeartbeats 2000000
set_option maxRecDepth 4000
attribute [local irreducible] mix

theorem tmod_rng (a : Int) {b : Int} (hb : 0 < b) : -b < a.tmod b ∧ a.tmod b < b := by
  refine ⟨?_, Int.tmod_lt_of_pos a hb⟩
  have h := Int.tmod_lt_of_pos (-a) hb
  rw [Int.neg_tmod] at h
  omega
theorem tmod_nat {a b : Int} (ha : 0 ≤ a) (hb : 0 < b) : ∃ s : Nat, a.tmod b = (s : Int) ∧ (s : Int) < b := by
  have h1 := Int.tmod_lt_of_pos a hb
  have h2 := Int.tmod_nonneg b ha
  exact ⟨(a.tmod b).toNat, (Int.toNat_of_nonneg h2).symm, by omega⟩
theorem seed_step (f : Nat → Bool) {w h i : Nat} (hf : ∀ z, z < 8192 → f z = true → z % 128 < w ∧ z / 128 < h) (h1 : i % 128 < w) (h2 : i / 128 < h) (z : Nat) (hz : z < 8192) (hz2 : (if z = i then true else f z) = true) : z % 128 < w ∧ z / 128 < h := by
  by_cases e : z = i
  · subst e; exact ⟨h1, h2⟩
  · rw [if_neg e] at hz2; exact hf z hz hz2
theorem refPlane07 (fr st ct : Int) (hires : Bool) (w : World) :
    Calls Tryd.prog 23 #[.agg #[.int .i64 fr, .int .i64 st, .int .i64 ct], .bool hires] w fun e w' => ∃ i : Nat × (Nat → Nat → Bool), e = .returned (.slice (some ⟨i.1, 0, none⟩) 8192 8192) ∧ (∀ y x, y < 64 → x < 128 → i.2 y x = true → x < wd hires ∧ y < ht hires) ∧ Sat w [] [.own 4 1 (.slice (some ⟨i.1, 0, none⟩) 8192 8192) 8192 (boolsN 8192 (flatP i.2))] w' := by
  cases hires
  · refine enter Tryd.func23 rfl rfl rfl ?_
    refine r_seq ?_
    refine r_region ?_
    refine r_boxV rfl rfl fun b2 => ?_
    refine r_assign rfl rfl ?_
    refine r_nil ?_
    refine r_tn ?_
    refine r_seq ?_
    refine r_region ?_
    refine r_callx rfl rfl rfl (by kernel_rfl) rfl (fun w hw => refBlank07 w) ?_
    rintro b10 _
    refine r_assign rfl rfl ?_
    refine r_nil ?_
    refine r_tn ?_
    refine r_seq ?_
    refine r_region ?_
    refine r_move rfl rfl ?_
    refine r_call rfl rfl rfl (by kernel_rfl) rfl (fun w hw => by exact width06 false w) ?_
    refine r_assign rfl rfl ?_
    refine r_nil ?_
    refine r_tn ?_
    refine r_seq ?_
    refine r_region ?_
    refine r_move rfl rfl ?_
    refine r_call rfl rfl rfl (by kernel_rfl) rfl (fun w hw => by exact refHeight07 false w) ?_
    refine r_assign rfl rfl ?_
    refine r_nil ?_
    refine r_tn ?_
    refine r_seq ?_
    refine r_region ?_
    refine r_fieldAddr (off := 0) (o' := 0) rfl rfl rfl rfl ?_
    refine r_load1 rfl rfl rfl (by rfl) ?_
    refine r_move rfl rfl ?_
    refine r_move rfl rfl ?_
    refine r_mul (r := 2048) rfl rfl rfl (w64 (by decide)) ?_
    obtain ⟨hm1, hm2⟩ := tmod_rng fr (show 0 < (2048 : Int) by decide)
    obtain ⟨m, hm⟩ : ∃ m, fr.tmod 2048 = m := ⟨_, rfl⟩
    rw [hm] at hm1 hm2
    refine r_rem (r := m) rfl rfl rfl (by decide) hm ?_
    refine r_assign rfl rfl ?_
    refine r_nil ?_
    refine r_tn ?_
    refine r_seq ?_
    refine r_cut (fun n : { n : Nat // n < 2048 } => ([(2, .pointer (some ⟨b2, 0, none⟩)), (5, .slice (some ⟨b10, 0, none⟩) 8192 8192), (6, .int .i64 64), (7, .int .i64 32), (8, .int .i64 (n.1 : Int))], [.blk b2 (.cells #[.int .i64 fr, .int .i64 st, .int .i64 ct] 23 (0, 0)), .own 4 1 (.slice (some ⟨b10, 0, none⟩) 8192 8192) 8192 (boolsN 8192 (fun _ => false))])) ?_ ?_
    · refine r_seq ?_
      refine r_region ?_
      refine r_move rfl rfl ?_
      refine r_lss rfl rfl rfl rfl ?_
      refine r_nil ?_
      refine r_tn ?_
      refine r_cond rfl (fun hc => ?_) (fun hc => ?_)
      · refine r_region ?_
        refine r_assign rfl rfl ?_
        refine r_nil ?_
        refine r_tn ?_
        exact r_at ⟨0, by decide⟩ ⟨rfl, rfl, rfl, rfl, rfl, trivial⟩ (fun w hw => hw.sub)
      · refine r_skip ?_
        refine r_tn ?_
        exact r_at ⟨m.toNat, by omega⟩ ⟨rfl, rfl, rfl, rfl, congrArg (fun z => some (Value.int .i64 z)) (Int.toNat_of_nonneg (by have h := of_decide_eq_false hc; omega)).symm, trivial⟩ (fun w hw => hw.sub)
    rintro ⟨n0, hn0⟩
    refine r_seq ?_
    refine r_seq ?_
    refine r_region ?_
    refine r_assign rfl rfl ?_
    refine r_nil ?_
    refine r_tn ?_
    refine r_block ?_
    refine r_loop2 (fun k (n : Nat) (f : Nat → Bool) => [(2, .pointer (some ⟨b2, 0, none⟩)), (5, .slice (some ⟨b10, 0, none⟩) 8192 8192), (6, .int .i64 64), (7, .int .i64 32), (8, .int .i64 (n : Int)), (9, .int .i64 (k : Int))]) (fun k n f => [.blk b2 (.cells #[.int .i64 fr, .int .i64 st, .int .i64 ct] 23 (0, 0)), .own 4 1 (.slice (some ⟨b10, 0, none⟩) 8192 8192) 8192 (boolsN 8192 (f))]) (fun k n f => k ≤ 3000 ∧ n < 2048 ∧ ∀ z, z < 8192 → f z = true → z % 128 < 64 ∧ z / 128 < 32) 3000 0 n0 (fun _ => false) ⟨by omega, hn0, fun z hz h => by cases h⟩ ⟨rfl, rfl, rfl, rfl, rfl, rfl, trivial⟩ (fun w hw => hw.sub) fun k n f hf => ?_
    obtain ⟨hk, hn, hf⟩ := hf
    refine r_seq ?_
    refine r_seq ?_
    refine r_region ?_
    refine r_move rfl rfl ?_
    refine r_fieldAddr (off := 2) (o' := 2) rfl rfl rfl rfl ?_
    refine r_load1 rfl rfl rfl (by rfl) ?_
    refine r_lss rfl rfl rfl rfl ?_
    refine r_move rfl rfl ?_
    refine r_split 27 rfl (fun hb27 => ?_) (fun hb27 => ?_)
    · refine r_go rfl rfl ?_
      refine r_move rfl rfl ?_
      refine r_go rfl rfl ?_
      refine r_lss rfl rfl rfl rfl ?_
      refine r_pick_t rfl rfl rfl ?_
      refine r_nil ?_
      refine r_tn ?_
      refine r_cond rfl (fun hc => ?_) (fun hc => ?_)
      · refine r_skip ?_
        refine r_tn ?_
        refine r_seq ?_
        refine r_block ?_
        refine r_seq ?_
        refine r_mixed (by kernel_rfl) (by kernel_rfl) ?_
        refine r_move rfl rfl ?_
        refine r_move rfl rfl ?_
        refine r_move rfl rfl ?_
        have hk2 : k < 3000 := by have h := of_decide_eq_true hc; omega
        refine r_quo (r := ((n / 64 : Nat) : Int)) rfl rfl rfl (by decide) (w64 (show -9223372036854775808 ≤ ((n / 64 : Nat) : Int) ∧ ((n / 64 : Nat) : Int) ≤ 9223372036854775807 by omega)) ?_
        refine r_mul rfl rfl rfl (w64 (by omega)) ?_
        refine r_move rfl rfl ?_
        refine r_move rfl rfl ?_
        refine r_rem (r := ((n % 64 : Nat) : Int)) rfl rfl rfl (by decide) rfl ?_
        refine r_add rfl rfl rfl (w64 (by omega)) ?_
        refine r_indexSl (sz := 1) (o' := 128 * (n / 64) + n % 64) rfl rfl rfl rfl rfl (by omega) (by omega) (by first | (simp; done) | (simp; omega) | omega) ?_
        refine r_storeOwn (m := 8192) (c := 8192) rfl rfl rfl rfl rfl (by omega) ?_
        rw [boolsN_set]
        refine r_nil ?_
        refine r_tn ?_
        refine r_region ?_
        refine r_move rfl rfl ?_
        refine r_add rfl rfl rfl (w64 (by omega)) ?_
        refine r_fieldAddr (off := 1) (o' := 1) rfl rfl rfl rfl ?_
        refine r_load1 rfl rfl rfl (by rfl) ?_
        obtain ⟨hs1, hs2⟩ := tmod_rng st (show 0 < (1000 : Int) by decide)
        obtain ⟨s1, hs⟩ : ∃ s1, st.tmod 1000 = s1 := ⟨_, rfl⟩
        rw [hs] at hs1 hs2
        refine r_rem (r := s1) rfl rfl rfl (by decide) hs ?_
        refine r_add rfl rfl rfl (w64 (by omega)) ?_
        obtain ⟨s2, hs3, hs4⟩ := tmod_nat (show 0 ≤ s1 + 1000 by omega) (show 0 < (1000 : Int) by decide)
        refine r_rem (r := (s2 : Int)) rfl rfl rfl (by decide) hs3 ?_
        refine r_add (r := ((n + 1 + s2 : Nat) : Int)) rfl rfl rfl ((w64 (by omega)).trans (by omega)) ?_
        refine r_move rfl rfl ?_
        refine r_move rfl rfl ?_
        refine r_mul (r := 2048) rfl rfl rfl (w64 (by decide)) ?_
        refine r_rem (r := (((n + 1 + s2) % 2048 : Nat) : Int)) rfl rfl rfl (by decide) rfl ?_
        refine r_assign rfl rfl ?_
        refine r_nil ?_
        refine r_bn ?_
        refine r_tn ?_
        refine r_region ?_
        refine r_move rfl rfl ?_
        refine r_add rfl rfl rfl (w64 (by omega)) ?_
        refine r_assign rfl rfl ?_
        refine r_nil ?_
        refine r_tn ?_
        exact r_again2 (k + 1) ((n + 1 + s2) % 2048) (fun z => if z = 128 * (n / 64) + n % 64 then true else f z) ⟨by omega, Nat.mod_lt _ (by decide), fun z hz => seed_step f hf (by omega) (by omega) z hz⟩ (by omega) ⟨rfl, rfl, rfl, rfl, rfl, rfl, trivial⟩ (fun w hw => hw.sub)
      · refine r_exit ?_
        refine r_te ?_
        refine r_te ?_
        refine r_be ?_
        refine r_tn ?_
        refine r_seq ?_
        refine r_region ?_
        refine r_move rfl rfl ?_
        refine r_assign rfl rfl ?_
        refine r_nil ?_
        refine r_tn ?_
        refine r_ret ?_
        exact r_done1 (.inl rfl) rfl (res_tmp rfl) fun w hw => ⟨(b10, fun y x => f (128 * y + x)), rfl, fun y x hy hx hf2 => by
          have h := hf (128 * y + x) (by omega) hf2
          have e1 : (128 * y + x) % 128 = x := by omega
          have e2 : (128 * y + x) / 128 = y := by omega
          rw [e1, e2] at h
          exact h, by rw [boolsN_congr (g := flatP (fun y x => f (128 * y + x))) (fun z hz => by show f z = f (128 * (z / 128) + z % 128); rw [show 128 * (z / 128) + z % 128 = z by omega])] at hw; exact hw.sub⟩
    · refine r_pass rfl rfl rfl rfl ?_
      refine r_pass rfl rfl rfl rfl ?_
      refine r_pick_f rfl rfl rfl ?_
      refine r_nil ?_
      refine r_tn ?_
      refine r_cond_f rfl ?_
      refine r_exit ?_
      refine r_te ?_
      refine r_te ?_
      refine r_be ?_
      refine r_tn ?_
      refine r_seq ?_
      refine r_region ?_
      refine r_move rfl rfl ?_
      refine r_assign rfl rfl ?_
      refine r_nil ?_
      refine r_tn ?_
      refine r_ret ?_
      exact r_done1 (.inl rfl) rfl (res_tmp rfl) fun w hw => ⟨(b10, fun y x => f (128 * y + x)), rfl, fun y x hy hx hf2 => by
        have h := hf (128 * y + x) (by omega) hf2
        have e1 : (128 * y + x) % 128 = x := by omega
        have e2 : (128 * y + x) / 128 = y := by omega
        rw [e1, e2] at h
        exact h, by rw [boolsN_congr (g := flatP (fun y x => f (128 * y + x))) (fun z hz => by show f z = f (128 * (z / 128) + z % 128); rw [show 128 * (z / 128) + z % 128 = z by omega])] at hw; exact hw.sub⟩
  · refine enter Tryd.func23 rfl rfl rfl ?_
    refine r_seq ?_
    refine r_region ?_
    refine r_boxV rfl rfl fun b2 => ?_
    refine r_assign rfl rfl ?_
    refine r_nil ?_
    refine r_tn ?_
    refine r_seq ?_
    refine r_region ?_
    refine r_callx rfl rfl rfl (by kernel_rfl) rfl (fun w hw => refBlank07 w) ?_
    rintro b10 _
    refine r_assign rfl rfl ?_
    refine r_nil ?_
    refine r_tn ?_
    refine r_seq ?_
    refine r_region ?_
    refine r_move rfl rfl ?_
    refine r_call rfl rfl rfl (by kernel_rfl) rfl (fun w hw => by exact width06 true w) ?_
    refine r_assign rfl rfl ?_
    refine r_nil ?_
    refine r_tn ?_
    refine r_seq ?_
    refine r_region ?_
    refine r_move rfl rfl ?_
    refine r_call rfl rfl rfl (by kernel_rfl) rfl (fun w hw => by exact refHeight07 true w) ?_
    refine r_assign rfl rfl ?_
    refine r_nil ?_
    refine r_tn ?_
    refine r_seq ?_
    refine r_region ?_
    refine r_fieldAddr (off := 0) (o' := 0) rfl rfl rfl rfl ?_
    refine r_load1 rfl rfl rfl (by rfl) ?_
    refine r_move rfl rfl ?_
    refine r_move rfl rfl ?_
    refine r_mul (r := 8192) rfl rfl rfl (w64 (by decide)) ?_
    obtain ⟨hm1, hm2⟩ := tmod_rng fr (show 0 < (8192 : Int) by decide)
    obtain ⟨m, hm⟩ : ∃ m, fr.tmod 8192 = m := ⟨_, rfl⟩
    rw [hm] at hm1 hm2
    refine r_rem (r := m) rfl rfl rfl (by decide) hm ?_
    refine r_assign rfl rfl ?_
    refine r_nil ?_
    refine r_tn ?_
    refine r_seq ?_
    refine r_cut (fun n : { n : Nat // n < 8192 } => ([(2, .pointer (some ⟨b2, 0, none⟩)), (5, .slice (some ⟨b10, 0, none⟩) 8192 8192), (6, .int .i64 128), (7, .int .i64 64), (8, .int .i64 (n.1 : Int))], [.blk b2 (.cells #[.int .i64 fr, .int .i64 st, .int .i64 ct] 23 (0, 0)), .own 4 1 (.slice (some ⟨b10, 0, none⟩) 8192 8192) 8192 (boolsN 8192 (fun _ => false))])) ?_ ?_
    · refine r_seq ?_
      refine r_region ?_
      refine r_move rfl rfl ?_
      refine r_lss rfl rfl rfl rfl ?_
      refine r_nil ?_
      refine r_tn ?_
      refine r_cond rfl (fun hc => ?_) (fun hc => ?_)
      · refine r_region ?_
        refine r_assign rfl rfl ?_
        refine r_nil ?_
        refine r_tn ?_
        exact r_at ⟨0, by decide⟩ ⟨rfl, rfl, rfl, rfl, rfl, trivial⟩ (fun w hw => hw.sub)
      · refine r_skip ?_
        refine r_tn ?_
        exact r_at ⟨m.toNat, by omega⟩ ⟨rfl, rfl, rfl, rfl, congrArg (fun z => some (Value.int .i64 z)) (Int.toNat_of_nonneg (by have h := of_decide_eq_false hc; omega)).symm, trivial⟩ (fun w hw => hw.sub)
    rintro ⟨n0, hn0⟩
    refine r_seq ?_
    refine r_seq ?_
    refine r_region ?_
    refine r_assign rfl rfl ?_
    refine r_nil ?_
    refine r_tn ?_
    refine r_block ?_
    refine r_loop2 (fun k (n : Nat) (f : Nat → Bool) => [(2, .pointer (some ⟨b2, 0, none⟩)), (5, .slice (some ⟨b10, 0, none⟩) 8192 8192), (6, .int .i64 128), (7, .int .i64 64), (8, .int .i64 (n : Int)), (9, .int .i64 (k : Int))]) (fun k n f => [.blk b2 (.cells #[.int .i64 fr, .int .i64 st, .int .i64 ct] 23 (0, 0)), .own 4 1 (.slice (some ⟨b10, 0, none⟩) 8192 8192) 8192 (boolsN 8192 (f))]) (fun k n f => k ≤ 3000 ∧ n < 8192 ∧ ∀ z, z < 8192 → f z = true → z % 128 < 128 ∧ z / 128 < 64) 3000 0 n0 (fun _ => false) ⟨by omega, hn0, fun z hz h => by cases h⟩ ⟨rfl, rfl, rfl, rfl, rfl, rfl, trivial⟩ (fun w hw => hw.sub) fun k n f hf => ?_
    obtain ⟨hk, hn, hf⟩ := hf
    refine r_seq ?_
    refine r_seq ?_
    refine r_region ?_
    refine r_move rfl rfl ?_
    refine r_fieldAddr (off := 2) (o' := 2) rfl rfl rfl rfl ?_
    refine r_load1 rfl rfl rfl (by rfl) ?_
    refine r_lss rfl rfl rfl rfl ?_
    refine r_move rfl rfl ?_
    refine r_split 27 rfl (fun hb27 => ?_) (fun hb27 => ?_)
    · refine r_go rfl rfl ?_
      refine r_move rfl rfl ?_
      refine r_go rfl rfl ?_
      refine r_lss rfl rfl rfl rfl ?_
      refine r_pick_t rfl rfl rfl ?_
      refine r_nil ?_
      refine r_tn ?_
      refine r_cond rfl (fun hc => ?_) (fun hc => ?_)
      · refine r_skip ?_
        refine r_tn ?_
        refine r_seq ?_
        refine r_block ?_
        refine r_seq ?_
        refine r_mixed (by kernel_rfl) (by kernel_rfl) ?_
        refine r_move rfl rfl ?_
        refine r_move rfl rfl ?_
        refine r_move rfl rfl ?_
        have hk2 : k < 3000 := by have h := of_decide_eq_true hc; omega
        refine r_quo (r := ((n / 128 : Nat) : Int)) rfl rfl rfl (by decide) (w64 (show -9223372036854775808 ≤ ((n / 128 : Nat) : Int) ∧ ((n / 128 : Nat) : Int) ≤ 9223372036854775807 by omega)) ?_
        refine r_mul rfl rfl rfl (w64 (by omega)) ?_
        refine r_move rfl rfl ?_
        refine r_move rfl rfl ?_
        refine r_rem (r := ((n % 128 : Nat) : Int)) rfl rfl rfl (by decide) rfl ?_
        refine r_add rfl rfl rfl (w64 (by omega)) ?_
        refine r_indexSl (sz := 1) (o' := 128 * (n / 128) + n % 128) rfl rfl rfl rfl rfl (by omega) (by omega) (by first | (simp; done) | (simp; omega) | omega) ?_
        refine r_storeOwn (m := 8192) (c := 8192) rfl rfl rfl rfl rfl (by omega) ?_
        rw [boolsN_set]
        refine r_nil ?_
        refine r_tn ?_
        refine r_region ?_
        refine r_move rfl rfl ?_
        refine r_add rfl rfl rfl (w64 (by omega)) ?_
        refine r_fieldAddr (off := 1) (o' := 1) rfl rfl rfl rfl ?_
        refine r_load1 rfl rfl rfl (by rfl) ?_
        obtain ⟨hs1, hs2⟩ := tmod_rng st (show 0 < (1000 : Int) by decide)
        obtain ⟨s1, hs⟩ : ∃ s1, st.tmod 1000 = s1 := ⟨_, rfl⟩
        rw [hs] at hs1 hs2
        refine r_rem (r := s1) rfl rfl rfl (by decide) hs ?_
        refine r_add rfl rfl rfl (w64 (by omega)) ?_
        obtain ⟨s2, hs3, hs4⟩ := tmod_nat (show 0 ≤ s1 + 1000 by omega) (show 0 < (1000 : Int) by decide)
        refine r_rem (r := (s2 : Int)) rfl rfl rfl (by decide) hs3 ?_
        refine r_add (r := ((n + 1 + s2 : Nat) : Int)) rfl rfl rfl ((w64 (by omega)).trans (by omega)) ?_
        refine r_move rfl rfl ?_
        refine r_move rfl rfl ?_
        refine r_mul (r := 8192) rfl rfl rfl (w64 (by decide)) ?_
        refine r_rem (r := (((n + 1 + s2) % 8192 : Nat) : Int)) rfl rfl rfl (by decide) rfl ?_
        refine r_assign rfl rfl ?_
        refine r_nil ?_
        refine r_bn ?_
        refine r_tn ?_
        refine r_region ?_
        refine r_move rfl rfl ?_
        refine r_add rfl rfl rfl (w64 (by omega)) ?_
        refine r_assign rfl rfl ?_
        refine r_nil ?_
        refine r_tn ?_
        exact r_again2 (k + 1) ((n + 1 + s2) % 8192) (fun z => if z = 128 * (n / 128) + n % 128 then true else f z) ⟨by omega, Nat.mod_lt _ (by decide), fun z hz => seed_step f hf (by omega) (by omega) z hz⟩ (by omega) ⟨rfl, rfl, rfl, rfl, rfl, rfl, trivial⟩ (fun w hw => hw.sub)
      · refine r_exit ?_
        refine r_te ?_
        refine r_te ?_
        refine r_be ?_
        refine r_tn ?_
        refine r_seq ?_
        refine r_region ?_
        refine r_move rfl rfl ?_
        refine r_assign rfl rfl ?_
        refine r_nil ?_
        refine r_tn ?_
        refine r_ret ?_
        exact r_done1 (.inl rfl) rfl (res_tmp rfl) fun w hw => ⟨(b10, fun y x => f (128 * y + x)), rfl, fun y x hy hx hf2 => by
          have h := hf (128 * y + x) (by omega) hf2
          have e1 : (128 * y + x) % 128 = x := by omega
          have e2 : (128 * y + x) / 128 = y := by omega
          rw [e1, e2] at h
          exact h, by rw [boolsN_congr (g := flatP (fun y x => f (128 * y + x))) (fun z hz => by show f z = f (128 * (z / 128) + z % 128); rw [show 128 * (z / 128) + z % 128 = z by omega])] at hw; exact hw.sub⟩
    · refine r_pass rfl rfl rfl rfl ?_
      refine r_pass rfl rfl rfl rfl ?_
      refine r_pick_f rfl rfl rfl ?_
      refine r_nil ?_
      refine r_tn ?_
      refine r_cond_f rfl ?_
      refine r_exit ?_
      refine r_te ?_
      refine r_te ?_
      refine r_be ?_
      refine r_tn ?_
      refine r_seq ?_
      refine r_region ?_
      refine r_move rfl rfl ?_
      refine r_assign rfl rfl ?_
      refine r_nil ?_
      refine r_tn ?_
      refine r_ret ?_
      exact r_done1 (.inl rfl) rfl (res_tmp rfl) fun w hw => ⟨(b10, fun y x => f (128 * y + x)), rfl, fun y x hy hx hf2 => by
        have h := hf (128 * y + x) (by omega) hf2
        have e1 : (128 * y + x) % 128 = x := by omega
        have e2 : (128 * y + x) / 128 = y := by omega
        rw [e1, e2] at h
        exact h, by rw [boolsN_congr (g := flatP (fun y x => f (128 * y + x))) (fun z hz => by show f z = f (128 * (z / 128) + z % 128); rw [show 128 * (z / 128) + z % 128 = z by omega])] at hw; exact hw.sub⟩
end
section
open Go Go.RowKit
set_option linter.unusedVariables false
set_option linter.unusedSimpArgs false
set_option maxHeartbeats 2000000
set_option maxRecDepth 4000
attribute [local irreducible] mix

theorem mul2U {x k : Nat} (h : x < 2 ^ k) (hk : k < 64) : IntKind.u64.wrap (2 * ((x : Nat) : Int)) = ((2 * x : Nat) : Int) := by
  have h2 : (2 : Nat) ^ k ≤ 2 ^ 63 := Nat.pow_le_pow_right (by decide) (by omega)
  generalize (2 : Nat) ^ k = z at *
  exact (IntWalk.u64_in _ ⟨by omega, by omega⟩).trans (by omega)
theorem add2U {x k : Nat} (h : x < 2 ^ k) (hk : k < 64) : IntKind.u64.wrap (((2 * x : Nat) : Int) + 1) = ((2 * x + 1 : Nat) : Int) := by
  have h2 : (2 : Nat) ^ k ≤ 2 ^ 63 := Nat.pow_le_pow_right (by decide) (by omega)
  generalize (2 : Nat) ^ k = z at *
  exact (IntWalk.u64_in _ ⟨by omega, by omega⟩).trans (by omega)
theorem num_low (b : Nat → Bool) : ∀ m, num b (m + 1) = 2 * num (fun j => b (j + 1)) m + (b 0).toNat
  | 0 => by simp only [num]; cases b 0 <;> rfl
  | m + 1 => by
    have h := num_low b m
    have e : num b (m + 1 + 1) = num b (m + 1) + (if b (m + 1) then 2 ^ (m + 1) else 0) := rfl
    have e2 : num (fun j => b (j + 1)) (m + 1) = num (fun j => b (j + 1)) m + (if b (m + 1) then 2 ^ m else 0) := rfl
    rw [e, e2, h]
    cases b (m + 1)
    · simp
    · simp only [if_true, Nat.pow_succ]; omega
theorem word_step0 (b : Nat → Bool) (k : Nat) (hk : k < 64) {v : Bool} (h : b (k) = v) : some (Value.int .u64 ((2 * num (fun j => b (k - 1 - j)) k + v.toNat : Nat) : Int)) = some (.int .u64 ((num (fun j => b ((k + 1) - 1 - j)) (k + 1) : Nat) : Int)) := by
  have e : num (fun j => b ((k + 1) - 1 - j)) (k + 1) = 2 * num (fun j => b (k - 1 - j)) k + v.toNat := by
    rw [num_low]
    have e1 : num (fun j => (fun j => b ((k + 1) - 1 - j)) (j + 1)) k = num (fun j => b (k - 1 - j)) k := num_congr fun i hi => by
      show b ((k + 1) - 1 - (i + 1)) = b (k - 1 - i)
      rw [show (k + 1) - 1 - (i + 1) = k - 1 - i by omega]
    rw [e1, ← h]
    rfl
  rw [e]
theorem word_step64 (b : Nat → Bool) (k : Nat) (hk : k < 64) {v : Bool} (h : b (64 + k) = v) : some (Value.int .u64 ((2 * num (fun j => b (64 + k - 1 - j)) k + v.toNat : Nat) : Int)) = some (.int .u64 ((num (fun j => b (64 + (k + 1) - 1 - j)) (k + 1) : Nat) : Int)) := by
  have e : num (fun j => b (64 + (k + 1) - 1 - j)) (k + 1) = 2 * num (fun j => b (64 + k - 1 - j)) k + v.toNat := by
    rw [num_low]
    have e1 : num (fun j => (fun j => b (64 + (k + 1) - 1 - j)) (j + 1)) k = num (fun j => b (64 + k - 1 - j)) k := num_congr fun i hi => by
      show b (64 + (k + 1) - 1 - (i + 1)) = b (64 + k - 1 - i)
      rw [show 64 + (k + 1) - 1 - (i + 1) = 64 + k - 1 - i by omega]
    rw [e1, ← h]
    rfl
  rw [e]

theorem words07 (P : Nat → Nat → Bool) (y a ca : Nat) (w : World) (ha : Rd w (some ⟨a, 0, none⟩) (boolsN 8192 (flatP P))) (hy : y < 64) :
    Calls Tryd.prog 32 #[.slice (some ⟨a, 0, none⟩) 8192 ca, .int .i64 (y : Int)] w fun e w' => e = .returned (.tuple #[.int .u64 ((hiN (P y) : Nat) : Int), .int .u64 ((loN (P y) : Nat) : Int)]) ∧ Sat w [] [] w' := by
  refine enter Tryd.func32 rfl rfl rfl ?_
  refine r_seq ?_
  refine r_region ?_
  refine r_assign rfl rfl ?_
  refine r_assign rfl rfl ?_
  refine r_nil ?_
  refine r_tn ?_
  refine r_seq ?_
  refine r_region ?_
  refine r_assign rfl rfl ?_
  refine r_nil ?_
  refine r_tn ?_
  refine r_seq ?_
  refine r_region ?_
  refine r_assign rfl rfl ?_
  refine r_nil ?_
  refine r_tn ?_
  refine r_seq ?_
  refine r_seq ?_
  refine r_region ?_
  refine r_assign rfl rfl ?_
  refine r_nil ?_
  refine r_tn ?_
  refine r_block ?_
  refine r_loopN (fun k => [(0, .slice (some ⟨a, 0, none⟩) 8192 ca), (1, .int .i64 (y : Int)), (6, .int .u64 ((num (fun j => P y (k - 1 - j)) k : Nat) : Int)), (7, .int .u64 ((num (fun j => P y (64 + k - 1 - j)) k : Nat) : Int)), (8, .int .i64 (k : Int))]) (fun k => []) (fun k => k ≤ 64) 64 0 (by omega) ⟨rfl, rfl, rfl, rfl, rfl, trivial⟩ (fun w hw => hw) fun k hk => ?_
  refine r_seq ?_
  refine r_seq ?_
  refine r_region ?_
  refine r_move rfl rfl ?_
  refine r_lss rfl rfl rfl rfl ?_
  refine r_nil ?_
  refine r_tn ?_
  refine r_cond rfl (fun hc => ?_) (fun hc => ?_)
  · refine r_skip ?_
    refine r_tn ?_
    refine r_seq ?_
    refine r_block ?_
    refine r_seq ?_
    refine r_region ?_
    have hk2 : k < 64 := by have h := of_decide_eq_true hc; omega
    refine r_move rfl rfl ?_
    refine r_mul (r := ((2 * num (fun j => P y (k - 1 - j)) k : Nat) : Int)) rfl rfl rfl (mul2U (num_lt _ k) (by omega)) ?_
    refine r_assign rfl rfl ?_
    refine r_nil ?_
    refine r_tn ?_
    refine r_seq ?_
    refine r_region ?_
    refine r_move rfl rfl ?_
    refine r_mul (r := ((2 * num (fun j => P y (64 + k - 1 - j)) k : Nat) : Int)) rfl rfl rfl (mul2U (num_lt _ k) (by omega)) ?_
    refine r_assign rfl rfl ?_
    refine r_nil ?_
    refine r_tn ?_
    refine r_seq ?_
    refine r_seq ?_
    refine r_region ?_
    refine r_move rfl rfl ?_
    refine r_move rfl rfl ?_
    refine r_move rfl rfl ?_
    refine r_call rfl rfl rfl (by kernel_rfl) rfl (fun w hw => by exact refGet07 P (k : Int) (y : Int) a ca w (ha.keep hw) (by omega) (by omega)) ?_
    refine r_nil ?_
    refine r_tn ?_
    refine r_cond rfl (fun hc => ?_) (fun hc => ?_)
    · refine r_region ?_
      refine r_move rfl rfl ?_
      refine r_add (r := ((2 * num (fun j => P y (k - 1 - j)) k + 1 : Nat) : Int)) rfl rfl rfl (add2U (num_lt _ k) (by omega)) ?_
      refine r_assign rfl rfl ?_
      refine r_nil ?_
      refine r_tn ?_
      refine r_seq ?_
      refine r_region ?_
      have hc1 : P y k = _ := hc
      refine r_move rfl rfl ?_
      refine r_move rfl rfl ?_
      refine r_add (r := ((64 + k : Nat) : Int)) rfl rfl rfl ((w64 (by omega)).trans (by omega)) ?_
      refine r_move rfl rfl ?_
      refine r_call rfl rfl rfl (by kernel_rfl) rfl (fun w hw => by exact refGet07 P ((64 + k : Nat) : Int) (y : Int) a ca w (ha.keep hw) (by omega) (by omega)) ?_
      refine r_nil ?_
      refine r_tn ?_
      refine r_cond rfl (fun hc => ?_) (fun hc => ?_)
      · refine r_region ?_
        refine r_move rfl rfl ?_
        refine r_add (r := ((2 * num (fun j => P y (64 + k - 1 - j)) k + 1 : Nat) : Int)) rfl rfl rfl (add2U (num_lt _ k) (by omega)) ?_
        refine r_assign rfl rfl ?_
        refine r_nil ?_
        refine r_bn ?_
        refine r_tn ?_
        refine r_region ?_
        refine r_move rfl rfl ?_
        refine r_add rfl rfl rfl (w64 (by omega)) ?_
        refine r_assign rfl rfl ?_
        refine r_nil ?_
        refine r_tn ?_
        exact r_againN (k + 1) (by omega) (by omega) ⟨rfl, rfl, word_step0 (fun x => P y x) k hk2 hc1, word_step64 (fun x => P y x) k hk2 hc, rfl, trivial⟩ (fun w hw => hw)
      · refine r_skip ?_
        refine r_bn ?_
        refine r_tn ?_
        refine r_region ?_
        refine r_move rfl rfl ?_
        refine r_add rfl rfl rfl (w64 (by omega)) ?_
        refine r_assign rfl rfl ?_
        refine r_nil ?_
        refine r_tn ?_
        exact r_againN (k + 1) (by omega) (by omega) ⟨rfl, rfl, word_step0 (fun x => P y x) k hk2 hc1, word_step64 (fun x => P y x) k hk2 hc, rfl, trivial⟩ (fun w hw => hw)
    · refine r_skip ?_
      refine r_tn ?_
      refine r_seq ?_
      refine r_region ?_
      have hc1 : P y k = _ := hc
      refine r_move rfl rfl ?_
      refine r_move rfl rfl ?_
      refine r_add (r := ((64 + k : Nat) : Int)) rfl rfl rfl ((w64 (by omega)).trans (by omega)) ?_
      refine r_move rfl rfl ?_
      refine r_call rfl rfl rfl (by kernel_rfl) rfl (fun w hw => by exact refGet07 P ((64 + k : Nat) : Int) (y : Int) a ca w (ha.keep hw) (by omega) (by omega)) ?_
      refine r_nil ?_
      refine r_tn ?_
      refine r_cond rfl (fun hc => ?_) (fun hc => ?_)
      · refine r_region ?_
        refine r_move rfl rfl ?_
        refine r_add (r := ((2 * num (fun j => P y (64 + k - 1 - j)) k + 1 : Nat) : Int)) rfl rfl rfl (add2U (num_lt _ k) (by omega)) ?_
        refine r_assign rfl rfl ?_
        refine r_nil ?_
        refine r_bn ?_
        refine r_tn ?_
        refine r_region ?_
        refine r_move rfl rfl ?_
        refine r_add rfl rfl rfl (w64 (by omega)) ?_
        refine r_assign rfl rfl ?_
        refine r_nil ?_
        refine r_tn ?_
        exact r_againN (k + 1) (by omega) (by omega) ⟨rfl, rfl, word_step0 (fun x => P y x) k hk2 hc1, word_step64 (fun x => P y x) k hk2 hc, rfl, trivial⟩ (fun w hw => hw)
      · refine r_skip ?_
        refine r_bn ?_
        refine r_tn ?_
        refine r_region ?_
        refine r_move rfl rfl ?_
        refine r_add rfl rfl rfl (w64 (by omega)) ?_
        refine r_assign rfl rfl ?_
        refine r_nil ?_
        refine r_tn ?_
        exact r_againN (k + 1) (by omega) (by omega) ⟨rfl, rfl, word_step0 (fun x => P y x) k hk2 hc1, word_step64 (fun x => P y x) k hk2 hc, rfl, trivial⟩ (fun w hw => hw)
  · refine r_exit ?_
    refine r_te ?_
    refine r_te ?_
    refine r_be ?_
    refine r_tn ?_
    refine r_seq ?_
    refine r_region ?_
    refine r_move rfl rfl ?_
    refine r_move rfl rfl ?_
    refine r_assign rfl rfl ?_
    refine r_assign rfl rfl ?_
    refine r_nil ?_
    refine r_tn ?_
    refine r_ret ?_
    have hk2 : k = 64 := by have h := of_decide_eq_false hc; omega
    subst hk2
    exact r_done2 (.inl rfl) rfl (res_tmp rfl) (res_tmp rfl) fun w hw => ⟨by rw [show (fun j => P y (64 + 64 - 1 - j)) = fun j => P y (127 - j) from rfl]; rfl, hw⟩

def rightM7 (n : Nat) (x y : Int) (hires : Bool) : Bool := decide ((n : Int) ≤ 16) && decide (0 ≤ x) && decide (0 ≤ y) && decide (x < (wd hires : Nat)) && decide (y < (ht hires : Nat))

abbrev cb (big : Bool) : Nat := if big then 16 else 8
end
end Go.Proofs.YtdkgnnieehidbaaDoor
