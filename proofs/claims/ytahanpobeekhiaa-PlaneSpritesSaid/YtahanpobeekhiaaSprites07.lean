/-
  PlaneSprites, for every pattern.
-/
import Derived.Test.YtahanpobeekhiaaCnt07
import Derived.Test.YtahanpobeekhiaaMoves06
import Derived.Test.YtahanpobeekhiaaPixNat07
namespace Go.Proofs.Ytahanpobeekhiaa
open Go Go.RowKit
set_option linter.unusedVariables false
set_option linter.unusedSimpArgs false
set_option maxHeartbeats 2000000
attribute [local irreducible] mix

theorem all_u16 {l : List Int} (h : ∀ n, n ∈ l → (Lit.int .u16 n).wf = true) : l.all (fun z => decide (0 ≤ z) && decide (z ≤ 65535)) = true :=
  List.all_eq_true.2 fun z hz => by have h2 := wfu16 (h z hz); simp; omega
theorem right_get {n : Nat} {x y : Int} {hires : Bool} (h : rightM7 n x y hires = true) : n ≤ 16 ∧ ∃ x1 y1 : Nat, x = (x1 : Int) ∧ y = (y1 : Int) ∧ x1 < wd hires ∧ y1 < ht hires := by
  simp only [rightM7, Bool.and_eq_true, decide_eq_true_eq] at h
  exact ⟨by omega, x.toNat, y.toNat, by omega, by omega, by omega, by omega⟩


theorem bit_nat (x j : Nat) : (x.testBit j).toNat = x >>> j % 2 := by
  rw [Nat.testBit_eq_decide_div_mod_eq, Nat.shiftRight_eq_div_pow]
  generalize x / 2 ^ j = z
  rcases Nat.mod_two_eq_zero_or_one z with h | h <;> simp [h]
/-- the number of lit bits of the first rows -/
def sumB (l : List Int) (count : Nat) : Nat → Nat
  | 0 => 0
  | i + 1 => sumB l count i + cnt (fun j => (bitsAt l i).testBit j) count
theorem sumB_le (l : List Int) {count : Nat} (hc : count ≤ 16) : ∀ i, sumB l count i ≤ 16 * i
  | 0 => Nat.le_refl _
  | i + 1 => by have h := sumB_le l hc i; have h2 := cnt_le (fun j => (bitsAt l i).testBit j) count; simp only [sumB]; omega
theorem clip_row (bits count x : Nat) (hires : Bool) (hx : x < wd hires) (hc : count ≤ 16) (k : Nat) (hk : k < 128) : sprK bits count x (wd hires) true count k = (sprK bits count x (wd hires) false count k && decide (x ≤ k)) := by
  have h64 : 64 ≤ wd hires := by cases hires <;> decide
  rw [spr_clip bits count x hires (by omega) k hk, spr_wrap bits count x hires (by omega) hx k hk]
  by_cases h : x ≤ k
  · rw [decide_eq_true h, decide_eq_false (show ¬ k + wd hires - x < count by omega)]; simp
  · rw [decide_eq_false h, decide_eq_false (show ¬ (k < wd hires ∧ x ≤ k ∧ k - x < count) by omega)]; simp
theorem clip_pix (l : List Int) (big : Bool) (x y : Nat) (hires : Bool) (hx : x < wd hires) (hy : y < ht hires) (hc : cb big ≤ 16) (hl : l.length ≤ 16) {z i k : Nat} (hz : z < 8192) (hi : z / 128 = i) (hk : z % 128 = k) :
    flatP (sprQ l (cb big) x y hires true l.length) z = (flatP (sprQ l (cb big) x y hires false l.length) z && decide (x ≤ k) && decide (y ≤ i)) := by
  unfold flatP
  rw [hi, hk]
  unfold sprQ
  by_cases h1 : y ≤ i ∧ i < ht hires ∧ i - y < l.length
  · rw [if_pos h1, if_pos h1, decide_eq_true h1.1, clip_row _ _ _ _ hx hc k (by omega)]; simp
  · rw [if_neg h1, if_neg h1, if_neg (fun h => by cases h.1)]
    by_cases h2 : false = false ∧ i < y ∧ i + ht hires - y < l.length
    · rw [if_pos h2, decide_eq_false (show ¬ y ≤ i by omega)]; simp [noneP]
    · rw [if_neg h2]; simp [noneP]
theorem cnt_set (q : Nat → Bool) (at_ : Nat) (h : q at_ = false) : ∀ m, cnt (setP q (at_ : Int) true) m = cnt q m + (if at_ < m then 1 else 0)
  | 0 => rfl
  | m + 1 => by
    simp only [cnt]
    rw [cnt_set q at_ h m]
    by_cases e : m = at_
    · subst e
      rw [if_neg (Nat.lt_irrefl m), if_pos (Nat.lt_succ_self m), h]
      simp [setP]
    · have e1 : setP q (at_ : Int) true m = q m := by unfold setP; rw [if_neg (by omega)]
      rw [e1]
      by_cases h2 : at_ < m
      · rw [if_pos h2, if_pos (by omega)]; omega
      · rw [if_neg h2, if_neg (by omega)]; omega
theorem cnt_rev (g : Nat → Bool) : ∀ n, cnt (fun i => g (n - 1 - i)) n = cnt g n
  | 0 => rfl
  | n + 1 => by
    have h1 : cnt (fun i => g (n + 1 - 1 - i)) (1 + n) = cnt (fun i => g (n + 1 - 1 - i)) 1 + cnt (fun i => (fun i => g (n + 1 - 1 - i)) (1 + i)) n := cnt_add _ 1 n
    rw [Nat.add_comm 1 n] at h1
    rw [h1, cnt_congr (f := fun i => (fun i => g (n + 1 - 1 - i)) (1 + i)) (g := fun i => g (n - 1 - i)) (fun x hx => by show g (n + 1 - 1 - (1 + x)) = g (n - 1 - x); rw [show n + 1 - 1 - (1 + x) = n - 1 - x by omega]), cnt_rev g n]
    simp only [cnt, Nat.add_sub_cancel, Nat.sub_zero]
    omega
theorem spr_free (bits count x w : Nat) (hw : w ≤ 128) (hx : x < w) (hc : count ≤ w) {k : Nat} (hk : k < count) : sprK bits count x w false k (if x + k < w then x + k else x + k - w) = false := by
  have hy : (if x + k < w then x + k else x + k - w) < 128 := by split <;> omega
  rw [sprK_any bits count x w false hw _ hy k (by omega)]
  refine Bool.eq_false_iff.2 fun h => ?_
  obtain ⟨i, hi, h2⟩ := List.any_eq_true.1 h
  have hi := List.mem_range.1 hi
  simp only [hit, Bool.and_eq_true, Bool.or_eq_true, decide_eq_true_eq, Bool.not_eq_true', decide_eq_false_iff_not] at h2
  obtain ⟨_, h3⟩ := h2
  split at h3 <;> omega
theorem spr_cnt (bits count x w : Nat) (hw : w ≤ 128) (hx : x < w) (hc : count ≤ w) : ∀ k, k ≤ count → cnt (sprK bits count x w false k) 128 = cnt (fun i => bits.testBit (count - 1 - i)) k
  | 0, _ => (cnt_off (fun _ _ => rfl) : cnt noneP 128 = 0)
  | k + 1, hk => by
    have h := spr_cnt bits count x w hw hx hc k (by omega)
    have hf := spr_free bits count x w hw hx hc (show k < count by omega)
    have hs : sprK bits count x w false (k + 1) = bif bits.testBit (count - 1 - k) then plotP (sprK bits count x w false k) (x + k) w false else sprK bits count x w false k := rfl
    have hs2 : cnt (fun i => bits.testBit (count - 1 - i)) (k + 1) = cnt (fun i => bits.testBit (count - 1 - i)) k + (bits.testBit (count - 1 - k)).toNat := rfl
    rw [hs, hs2]
    cases hb : bits.testBit (count - 1 - k) with
    | false => exact h
    | true =>
      rw [← h]
      show cnt (plotP (sprK bits count x w false k) (x + k) w false) 128 = cnt (sprK bits count x w false k) 128 + 1
      unfold plotP
      by_cases h1 : x + k < w
      · rw [if_pos h1] at hf ⊢
        rw [cnt_set _ _ hf, if_pos (by omega)]
      · rw [if_neg h1] at hf ⊢
        rw [if_neg (by decide)]
        rw [show ((x + k : Nat) : Int) - (w : Int) = ((x + k - w : Nat) : Int) by omega, cnt_set _ _ hf, if_pos (by omega)]
theorem spr_cntB (bits count x : Nat) (hires : Bool) (hx : x < wd hires) (hc : count ≤ 16) : cnt (sprK bits count x (wd hires) false count) 128 = cnt (fun j => bits.testBit j) count := by
  have h128 : wd hires ≤ 128 := by cases hires <;> decide
  have h64 : 64 ≤ wd hires := by cases hires <;> decide
  rw [spr_cnt bits count x (wd hires) h128 hx (by omega) count (Nat.le_refl _)]
  exact cnt_rev (fun j => bits.testBit j) count
theorem cntR_set (P : Nat → Nat → Bool) (y : Nat) (q : Nat → Bool) (h : P y = noneP) : ∀ m, cntR (setRow P y q) m = cntR P m + (if y < m then cnt q 128 else 0)
  | 0 => rfl
  | m + 1 => by
    simp only [cntR]
    rw [cntR_set P y q h m]
    have hn : cnt noneP 128 = 0 := cnt_off fun _ _ => rfl
    by_cases e : m = y
    · subst e
      rw [if_neg (Nat.lt_irrefl m), if_pos (Nat.lt_succ_self m), h, hn]
      have e1 : setRow P m q m = q := by unfold setRow; rw [if_pos rfl]
      rw [e1]
    · have e1 : setRow P y q m = P m := by unfold setRow; rw [if_neg e]
      rw [e1]
      by_cases h2 : y < m
      · rw [if_pos h2, if_pos (by omega)]; omega
      · rw [if_neg h2, if_neg (by omega)]; omega
theorem cntR_congr {P Q : Nat → Nat → Bool} : ∀ {m : Nat}, (∀ y, P y = Q y) → cntR P m = cntR Q m
  | 0, _ => rfl
  | m + 1, h => by simp only [cntR]; rw [h m, cntR_congr h]
theorem spr_sum (l : List Int) (big : Bool) (x y : Nat) (hires : Bool) (hx : x < wd hires) (hy : y < ht hires) (hc : cb big ≤ 16) (hl : l.length ≤ 16) : ∀ n, n ≤ l.length → cntR (sprQ l (cb big) x y hires false n) 64 = sumB l (cb big) n
  | 0, _ => by rw [sprQ_zero]; exact cntR_zero fun _ _ _ _ => rfl
  | n + 1, hn => by
    have hht : ht hires ≤ 64 := by cases hires <;> decide
    have hht2 : 32 ≤ ht hires := by cases hires <;> decide
    have h := spr_sum l big x y hires hx hy hc hl n (by omega)
    have e : ∀ y1, sprQ l (cb big) x y hires false (n + 1) y1 = setRow (sprQ l (cb big) x y hires false n) (atOf y n hires) (sprK (bitsAt l n) (cb big) x (wd hires) false (cb big)) y1 := fun y1 => by
      unfold atOf
      by_cases h1 : ht hires ≤ y + n
      · rw [if_pos h1, sprQ_wrap rfl hy h1 (by omega) (by omega)]
      · rw [if_neg h1, sprQ_straight hy h1]
    have hfree : sprQ l (cb big) x y hires false n (atOf y n hires) = noneP := by
      unfold atOf sprQ
      by_cases h1 : ht hires ≤ y + n
      · rw [if_pos h1, if_neg (by omega), if_neg (by omega)]
      · rw [if_neg h1, if_neg (by omega), if_neg (by omega)]
    rw [cntR_congr e, cntR_set _ _ _ hfree, if_pos (atOf_lt hires hy (by omega)), h, spr_cntB _ _ _ _ hx hc]
    rfl


theorem psprites_no (A : Option Addr) (c : Nat) (l : List Int) (big : Bool) (x y : Int) (hires : Bool) (W : World) (hR : rightM7 l.length x y hires = false) :
    Calls Try.prog 11 #[.slice A l.length c, .bool big, .int .i64 x, .int .i64 y, .bool hires] W fun e w' => e = .returned (.bool true) ∧ Sat W [] [] w' := by
  refine enter Try.func11 rfl rfl rfl ?_
  refine r_seq ?_
  refine r_region ?_
  refine r_assign rfl rfl ?_
  refine r_nil ?_
  refine r_tn ?_
  refine r_seq ?_
  refine r_seq ?_
  refine r_region ?_
  refine r_call rfl rfl rfl (by kernel_rfl) rfl (fun w hw => by exact awake07 w) ?_
  refine r_not rfl rfl rfl ?_
  refine r_move rfl rfl ?_
  refine r_go rfl rfl ?_
  refine r_move rfl rfl ?_
  refine r_go rfl rfl ?_
  refine r_move rfl rfl ?_
  refine r_go rfl rfl ?_
  refine r_move rfl rfl ?_
  refine r_go rfl rfl ?_
  refine r_move rfl rfl ?_
  refine r_go rfl rfl ?_
  refine r_call (v := .bool false) rfl rfl rfl (by kernel_rfl) rfl (fun w hw => by have h := right07 A l.length c x y hires w; rw [hR] at h; exact h) ?_
  refine r_go rfl rfl ?_
  refine r_not rfl rfl rfl ?_
  refine r_pick_f rfl rfl rfl ?_
  refine r_nil ?_
  refine r_tn ?_
  refine r_cond_t rfl ?_
  refine r_seq ?_
  refine r_region ?_
  refine r_call rfl rfl rfl (by kernel_rfl) rfl (fun w hw => by exact awake07 w) ?_
  refine r_assign rfl rfl ?_
  refine r_nil ?_
  refine r_tn ?_
  refine r_ret ?_
  refine r_tr ?_
  exact r_done1 (.inl rfl) rfl (res_tmp rfl) fun w hw => ⟨rfl, hw.clear⟩

theorem psprites_yes (A : Option Addr) (c : Nat) (l : List Int) (big : Bool) (x y : Nat) (hires : Bool) (W : World) (hw1 : l.all (fun z => decide (0 ≤ z) && decide (z ≤ 65535)) = true) (hA : Rd W A (l.map (Value.int .u16))) (hl : l.length ≤ 16) (hx : x < wd hires) (hy : y < ht hires) (hR : rightM7 l.length (x : Int) (y : Int) hires = true) :
    Calls Try.prog 11 #[.slice A l.length c, .bool big, .int .i64 (x : Int), .int .i64 (y : Int), .bool hires] W fun e w' => e = .returned (.bool true) ∧ Sat W [] [] w' := by
  have hcb : cb big ≤ 16 := by cases big <;> decide
  have hwd : wd hires ≤ 128 := by cases hires <;> decide
  have hwd2 : 64 ≤ wd hires := by cases hires <;> decide
  have hht : ht hires ≤ 64 := by cases hires <;> decide
  have hht2 : 32 ≤ ht hires := by cases hires <;> decide
  refine enter Try.func11 rfl rfl rfl ?_
  refine r_seq ?_
  refine r_region ?_
  refine r_assign rfl rfl ?_
  refine r_nil ?_
  refine r_tn ?_
  refine r_seq ?_
  refine r_seq ?_
  refine r_region ?_
  refine r_call rfl rfl rfl (by kernel_rfl) rfl (fun w hw => by exact awake07 w) ?_
  refine r_not rfl rfl rfl ?_
  refine r_move rfl rfl ?_
  refine r_go rfl rfl ?_
  refine r_move rfl rfl ?_
  refine r_go rfl rfl ?_
  refine r_move rfl rfl ?_
  refine r_go rfl rfl ?_
  refine r_move rfl rfl ?_
  refine r_go rfl rfl ?_
  refine r_move rfl rfl ?_
  refine r_go rfl rfl ?_
  refine r_call (v := .bool true) rfl rfl rfl (by kernel_rfl) rfl (fun w hw => by have h := right07 A l.length c (x : Int) (y : Int) hires w; rw [hR] at h; exact h) ?_
  refine r_go rfl rfl ?_
  refine r_not rfl rfl rfl ?_
  refine r_pick_f rfl rfl rfl ?_
  refine r_nil ?_
  refine r_tn ?_
  refine r_cond_f rfl ?_
  refine r_skip ?_
  refine r_tn ?_
  refine r_seq ?_
  refine r_region ?_
  refine r_assign rfl rfl ?_
  refine r_nil ?_
  refine r_tn ?_
  refine r_seq ?_
  refine r_seq ?_
  refine r_region ?_
  refine r_assign rfl rfl ?_
  refine r_nil ?_
  refine r_tn ?_
  refine r_block ?_
  refine r_loopN (fun i => [(0, .slice A l.length c), (1, .bool big), (2, .int .i64 (x : Int)), (3, .int .i64 (y : Int)), (4, .bool hires), (11, .int .i64 ((sumB l (cb big) i : Nat) : Int)), (12, .int .i64 (i : Int))]) (fun i => []) (fun i => i ≤ l.length) l.length 0 (by omega) ⟨rfl, rfl, rfl, rfl, rfl, rfl, rfl, trivial⟩ (fun w hw => hw.sub) fun i hi => ?_
  refine r_seq ?_
  refine r_seq ?_
  refine r_region ?_
  refine r_move rfl rfl ?_
  refine r_move rfl rfl ?_
  refine r_len rfl rfl rfl ?_
  refine r_lss rfl rfl rfl rfl ?_
  refine r_nil ?_
  refine r_tn ?_
  refine r_cond rfl (fun hc => ?_) (fun hc => ?_)
  · refine r_skip ?_
    refine r_tn ?_
    refine r_seq ?_
    refine r_block ?_
    refine r_seq ?_
    refine r_region ?_
    have hi2 : i < l.length := by have h := of_decide_eq_true hc; omega
    clear hc
    obtain ⟨hz0, hz1⟩ := bitsAt_rng hw1 i
    have hji : (l.map (Value.int .u16))[i]? = some (.int .u16 ((bitsAt l i : Nat) : Int)) := bitsAt_get hw1 hi2
    obtain ⟨ba, oa, rfl, hca⟩ := hA i _ hji
    have hsm := sumB_le l hcb i
    refine r_move rfl rfl ?_
    refine r_move rfl rfl ?_
    refine r_indexSl (sz := 1) (o' := oa + i) rfl rfl rfl rfl rfl (by omega) (by omega) (by simp) ?_
    refine r_loadC (p := ⟨ba, oa + i, none⟩) rfl rfl rfl (fun w hw => ((hA.keep hw).cell hji rfl)) ?_
    refine r_convert (r := ((bitsAt l i >>> 0 : Nat) : Int)) rfl rfl rfl rfl (w64 (by omega)) ?_
    refine r_assign rfl rfl ?_
    refine r_nil ?_
    refine r_tn ?_
    refine r_seq ?_
    refine r_region ?_
    refine r_assign rfl rfl ?_
    refine r_nil ?_
    refine r_tn ?_
    refine r_block ?_
    refine r_loopN (fun j => [(0, .slice (some ⟨ba, oa, none⟩) l.length c), (1, .bool big), (2, .int .i64 (x : Int)), (3, .int .i64 (y : Int)), (4, .bool hires), (11, .int .i64 ((sumB l (cb big) i + cnt (fun j => (bitsAt l i).testBit j) j : Nat) : Int)), (12, .int .i64 (i : Int)), (13, .int .i64 ((bitsAt l i >>> j : Nat) : Int)), (14, .int .i64 (j : Int))]) (fun j => []) (fun j => j ≤ cb big) (cb big) 0 (by omega) ⟨rfl, rfl, rfl, rfl, rfl, rfl, rfl, rfl, rfl, trivial⟩ (fun w hw => hw) fun j hj => ?_
    refine r_seq ?_
    refine r_seq ?_
    refine r_region ?_
    refine r_move rfl rfl ?_
    refine r_move rfl rfl ?_
    refine r_call rfl rfl rfl (by kernel_rfl) rfl (fun w hw => by exact cnt07 big w) ?_
    refine r_lss rfl rfl rfl rfl ?_
    refine r_nil ?_
    refine r_tn ?_
    refine r_cond rfl (fun hc => ?_) (fun hc => ?_)
    · refine r_skip ?_
      refine r_tn ?_
      refine r_seq ?_
      refine r_block ?_
      refine r_seq ?_
      refine r_region ?_
      have hj2 : j < cb big := by have h := of_decide_eq_true hc; omega
      have hcj := cnt_le (fun j => (bitsAt l i).testBit j) j
      refine r_move rfl rfl ?_
      refine r_move rfl rfl ?_
      refine r_rem rfl rfl rfl (by decide) (rem2 _) ?_
      refine r_add (r := ((sumB l (cb big) i + cnt (fun j => (bitsAt l i).testBit j) (j + 1) : Nat) : Int)) rfl rfl rfl ((w64 (by omega)).trans (by simp only [cnt]; rw [bit_nat (bitsAt l i) j]; omega)) ?_
      refine r_assign rfl rfl ?_
      refine r_nil ?_
      refine r_tn ?_
      refine r_region ?_
      refine r_move rfl rfl ?_
      refine r_quo rfl rfl rfl (by decide) (quo2i (Nat.lt_of_le_of_lt (sh_le _ _) hz0)) ?_
      refine r_assign rfl rfl ?_
      refine r_nil ?_
      refine r_bn ?_
      refine r_tn ?_
      refine r_region ?_
      refine r_move rfl rfl ?_
      refine r_add rfl rfl rfl (w64 (by omega)) ?_
      refine r_assign rfl rfl ?_
      refine r_nil ?_
      refine r_tn ?_
      exact r_againN (j + 1) (by omega) (by omega) ⟨rfl, rfl, rfl, rfl, rfl, rfl, rfl, rfl, rfl, trivial⟩ (fun w hw => hw)
    · refine r_exit ?_
      refine r_te ?_
      refine r_te ?_
      refine r_be ?_
      refine r_bn ?_
      refine r_tn ?_
      refine r_region ?_
      refine r_move rfl rfl ?_
      refine r_add rfl rfl rfl (w64 (by omega)) ?_
      refine r_assign rfl rfl ?_
      refine r_nil ?_
      refine r_tn ?_
      have hj3 : j = cb big := by have h := of_decide_eq_false hc; omega
      subst hj3
      exact r_againN (i + 1) (by omega) (by omega) ⟨rfl, rfl, rfl, rfl, rfl, rfl, rfl, trivial⟩ (fun w hw => hw.sub)
  · refine r_exit ?_
    refine r_te ?_
    refine r_te ?_
    refine r_be ?_
    refine r_tn ?_
    refine r_seq ?_
    refine r_region ?_
    have hi3 : i = l.length := by have h := of_decide_eq_false hc; omega
    subst hi3
    refine r_move rfl rfl ?_
    refine r_move rfl rfl ?_
    refine r_call rfl rfl rfl (by kernel_rfl) rfl (fun w hw => by exact cnt07 big w) ?_
    refine r_move rfl rfl ?_
    refine r_move rfl rfl ?_
    refine r_move rfl rfl ?_
    refine r_call rfl rfl rfl (by kernel_rfl) rfl (fun w hw => by exact sprite07 A c l (cb big) x y hires false w (hA.keep hw) hw1 hl (by omega) hx hy) ?_
    refine r_allocV (cs := planeV noneQ) (by kernel_rfl) rfl fun b15 => ?_
    refine r_storeV rfl rfl rfl (planeV_size _) (planeV_size _) (planeV_one _) ?_
    refine r_nil ?_
    refine r_tn ?_
    refine r_seq ?_
    refine r_region ?_
    refine r_move rfl rfl ?_
    refine r_move rfl rfl ?_
    refine r_call rfl rfl rfl (by kernel_rfl) rfl (fun w hw => by exact cnt07 big w) ?_
    refine r_move rfl rfl ?_
    refine r_move rfl rfl ?_
    refine r_move rfl rfl ?_
    refine r_call rfl rfl rfl (by kernel_rfl) rfl (fun w hw => by exact sprite07 A c l (cb big) x y hires true w (hA.keep hw) hw1 hl (by omega) hx hy) ?_
    refine r_allocV (cs := planeV noneQ) (by kernel_rfl) rfl fun b16 => ?_
    refine r_storeV rfl rfl rfl (planeV_size _) (planeV_size _) (planeV_one _) ?_
    refine r_nil ?_
    refine r_tn ?_
    refine r_seq ?_
    refine r_seq ?_
    refine r_region ?_
    refine r_assign rfl rfl ?_
    refine r_nil ?_
    refine r_tn ?_
    refine r_block ?_
    refine r_loopN (fun i => [(2, .int .i64 (x : Int)), (3, .int .i64 (y : Int)), (11, .int .i64 ((sumB l (cb big) l.length : Nat) : Int)), (15, .pointer (some ⟨b15, 0, none⟩)), (16, .pointer (some ⟨b16, 0, none⟩)), (17, .int .i64 (i : Int))]) (fun i => [.blk b15 (.cells (planeV (sprQ l (cb big) x y hires false l.length)) 54 (0, 0)), .blk b16 (.cells (planeV (sprQ l (cb big) x y hires true l.length)) 54 (0, 0))]) (fun i => i ≤ 64) 64 0 (by omega) ⟨rfl, rfl, rfl, rfl, rfl, rfl, trivial⟩ (fun w hw => hw.sub) fun i hi => ?_
    refine r_seq ?_
    refine r_seq ?_
    refine r_region ?_
    refine r_move rfl rfl ?_
    refine r_lss rfl rfl rfl rfl ?_
    refine r_nil ?_
    refine r_tn ?_
    refine r_cond rfl (fun hc => ?_) (fun hc => ?_)
    · refine r_skip ?_
      refine r_tn ?_
      refine r_seq ?_
      refine r_block ?_
      refine r_seq ?_
      refine r_region ?_
      refine r_assign rfl rfl ?_
      refine r_nil ?_
      refine r_tn ?_
      refine r_block ?_
      have hi2 : i < 64 := by have h := of_decide_eq_true hc; omega
      clear hc
      refine r_loopN (fun k => [(2, .int .i64 (x : Int)), (3, .int .i64 (y : Int)), (11, .int .i64 ((sumB l (cb big) l.length : Nat) : Int)), (15, .pointer (some ⟨b15, 0, none⟩)), (16, .pointer (some ⟨b16, 0, none⟩)), (17, .int .i64 (i : Int)), (18, .int .i64 (k : Int))]) (fun k => [.blk b15 (.cells (planeV (sprQ l (cb big) x y hires false l.length)) 54 (0, 0)), .blk b16 (.cells (planeV (sprQ l (cb big) x y hires true l.length)) 54 (0, 0))]) (fun k => k ≤ 128) 128 0 (by omega) ⟨rfl, rfl, rfl, rfl, rfl, rfl, rfl, trivial⟩ (fun w hw => hw.sub) fun k hk => ?_
      refine r_seq ?_
      refine r_seq ?_
      refine r_region ?_
      refine r_move rfl rfl ?_
      refine r_lss rfl rfl rfl rfl ?_
      refine r_nil ?_
      refine r_tn ?_
      refine r_cond rfl (fun hc => ?_) (fun hc => ?_)
      · refine r_skip ?_
        refine r_tn ?_
        refine r_seq ?_
        refine r_block ?_
        refine r_seq ?_
        refine r_mixedD { xb := [], rb := [b15], rs := [79], fs := [], acs := [78] } (by kernel_rfl) (by kernel_rfl) (fun w hw k hk => by
          simp only [List.mem_cons, List.not_mem_nil, or_false] at hk
          rcases hk with rfl <;> exact Sat.lt hw) ?_
        have hk2 : k < 128 := by have h := of_decide_eq_true hc; omega
        refine r_loadV rfl rfl rfl rfl (planeV_size _) ?_
        refine r_move rfl rfl ?_
        refine r_move rfl rfl ?_
        refine r_call (v := .bool (flatP (sprQ l (cb big) x y hires true l.length) (128 * i + k))) rfl rfl rfl (by kernel_rfl) rfl (fun w hw => by have h := pixel07 (sprQ l (cb big) x y hires true l.length) (k : Int) (i : Int) w; rw [pixQ_nat (sprQ l (cb big) x y hires true l.length) hk2 hi2] at h; exact h) ?_
        refine r_loadV rfl rfl rfl rfl (planeV_size _) ?_
        refine r_move rfl rfl ?_
        refine r_move rfl rfl ?_
        refine r_call (v := .bool (flatP (sprQ l (cb big) x y hires false l.length) (128 * i + k))) rfl rfl rfl (by kernel_rfl) rfl (fun w hw => by have h := pixel07 (sprQ l (cb big) x y hires false l.length) (k : Int) (i : Int) w; rw [pixQ_nat (sprQ l (cb big) x y hires false l.length) hk2 hi2] at h; exact h) ?_
        refine r_move rfl rfl ?_
        refine r_split 83 rfl (fun hb83 => ?_) (fun hb83 => ?_)
        · refine r_go rfl rfl ?_
          refine r_move rfl rfl ?_
          refine r_go rfl rfl ?_
          refine r_move rfl rfl ?_
          refine r_go rfl rfl ?_
          refine r_geq (p := decide (x ≤ k)) rfl rfl rfl (decide_eq_decide.2 ⟨fun _ => by omega, fun _ => by omega⟩) ?_
          refine r_pick_t rfl rfl rfl ?_
          refine r_move rfl rfl ?_
          refine r_split 88 rfl (fun hb88 => ?_) (fun hb88 => ?_)
          · refine r_go rfl rfl ?_
            refine r_move rfl rfl ?_
            refine r_go rfl rfl ?_
            refine r_move rfl rfl ?_
            refine r_go rfl rfl ?_
            refine r_geq (p := decide (y ≤ i)) rfl rfl rfl (decide_eq_decide.2 ⟨fun _ => by omega, fun _ => by omega⟩) ?_
            refine r_pick_t rfl rfl rfl ?_
            refine r_neq_bool (p := false) rfl rfl rfl rfl (by have e := clip_pix l big x y hires hx hy hcb hl (show 128 * i + k < 8192 by omega) (show (128 * i + k) / 128 = i by omega) (show (128 * i + k) % 128 = k by omega); first | (rw [e, hb83, hb88]; simp; done) | (rw [e, hb83]; simp; done)) ?_
            refine r_nil ?_
            refine r_tn ?_
            refine r_cond_f rfl ?_
            refine r_skip ?_
            refine r_bn ?_
            refine r_tn ?_
            refine r_region ?_
            refine r_move rfl rfl ?_
            refine r_add rfl rfl rfl (w64 (by omega)) ?_
            refine r_assign rfl rfl ?_
            refine r_nil ?_
            refine r_tn ?_
            exact r_againN (k + 1) (by omega) (by omega) ⟨rfl, rfl, rfl, rfl, rfl, rfl, rfl, trivial⟩ (fun w hw => hw.sub)
          · refine r_pass rfl rfl rfl rfl ?_
            refine r_pass rfl rfl rfl rfl ?_
            refine r_pass rfl rfl rfl rfl ?_
            refine r_pick_f rfl rfl rfl ?_
            refine r_neq_bool (p := false) rfl rfl rfl rfl (by have e := clip_pix l big x y hires hx hy hcb hl (show 128 * i + k < 8192 by omega) (show (128 * i + k) / 128 = i by omega) (show (128 * i + k) % 128 = k by omega); first | (rw [e, hb83, hb88]; simp; done) | (rw [e, hb83]; simp; done)) ?_
            refine r_nil ?_
            refine r_tn ?_
            refine r_cond_f rfl ?_
            refine r_skip ?_
            refine r_bn ?_
            refine r_tn ?_
            refine r_region ?_
            refine r_move rfl rfl ?_
            refine r_add rfl rfl rfl (w64 (by omega)) ?_
            refine r_assign rfl rfl ?_
            refine r_nil ?_
            refine r_tn ?_
            exact r_againN (k + 1) (by omega) (by omega) ⟨rfl, rfl, rfl, rfl, rfl, rfl, rfl, trivial⟩ (fun w hw => hw.sub)
        · refine r_pass rfl rfl rfl rfl ?_
          refine r_pass rfl rfl rfl rfl ?_
          refine r_pass rfl rfl rfl rfl ?_
          refine r_pick_f rfl rfl rfl ?_
          refine r_move rfl rfl ?_
          refine r_pass rfl rfl rfl rfl ?_
          refine r_pass rfl rfl rfl rfl ?_
          refine r_pass rfl rfl rfl rfl ?_
          refine r_pick_f rfl rfl rfl ?_
          refine r_neq_bool (p := false) rfl rfl rfl rfl (by have e := clip_pix l big x y hires hx hy hcb hl (show 128 * i + k < 8192 by omega) (show (128 * i + k) / 128 = i by omega) (show (128 * i + k) % 128 = k by omega); first | (rw [e, hb83, hb88]; simp; done) | (rw [e, hb83]; simp; done)) ?_
          refine r_nil ?_
          refine r_tn ?_
          refine r_cond_f rfl ?_
          refine r_skip ?_
          refine r_bn ?_
          refine r_tn ?_
          refine r_region ?_
          refine r_move rfl rfl ?_
          refine r_add rfl rfl rfl (w64 (by omega)) ?_
          refine r_assign rfl rfl ?_
          refine r_nil ?_
          refine r_tn ?_
          exact r_againN (k + 1) (by omega) (by omega) ⟨rfl, rfl, rfl, rfl, rfl, rfl, rfl, trivial⟩ (fun w hw => hw.sub)
      · refine r_exit ?_
        refine r_te ?_
        refine r_te ?_
        refine r_be ?_
        refine r_bn ?_
        refine r_tn ?_
        refine r_region ?_
        refine r_move rfl rfl ?_
        refine r_add rfl rfl rfl (w64 (by omega)) ?_
        refine r_assign rfl rfl ?_
        refine r_nil ?_
        refine r_tn ?_
        exact r_againN (i + 1) (by omega) (by omega) ⟨rfl, rfl, rfl, rfl, rfl, rfl, trivial⟩ (fun w hw => hw.sub)
    · refine r_exit ?_
      refine r_te ?_
      refine r_te ?_
      refine r_be ?_
      refine r_tn ?_
      refine r_seq ?_
      refine r_region ?_
      refine r_loadV rfl rfl rfl rfl (planeV_size _) ?_
      refine r_call rfl rfl rfl (by kernel_rfl) rfl (fun w hw => by exact count07 (sprQ l (cb big) x y hires false l.length) w) ?_
      refine r_move rfl rfl ?_
      refine r_eql rfl rfl rfl (decide_eq_true (by rw [spr_sum l big x y hires hx hy hcb hl l.length (Nat.le_refl _)])) ?_
      refine r_assign rfl rfl ?_
      refine r_nil ?_
      refine r_tn ?_
      refine r_ret ?_
      exact r_done1 (.inl rfl) rfl (res_tmp rfl) fun w hw => ⟨rfl, hw.clear⟩

theorem PlaneSprites_walk (A : Option Addr) (c : Nat) (l : List Int) (big : Bool) (x y : Int) (hires : Bool) (W : World) (hA : Rd W A (l.map (Value.int .u16))) (hm : l.length ≤ 140737488351232) (hw0 : ∀ n, n ∈ l → (Lit.int .u16 n).wf = true) (hx0 : (Lit.int .i64 x).wf = true) (hy0 : (Lit.int .i64 y).wf = true) :
    Calls Try.prog 11 #[.slice A l.length c, .bool big, .int .i64 x, .int .i64 y, .bool hires] W fun e w' => e = .returned (.bool true) ∧ Sat W [] [] w' := by
  have hw := all_u16 hw0
  cases hR : rightM7 l.length x y hires with
  | false => exact psprites_no A c l big x y hires W hR
  | true =>
    obtain ⟨hl, x1, y1, rfl, rfl, hx, hy⟩ := right_get hR
    exact psprites_yes A c l big x1 y1 hires W hw hA hl hx hy hR
end Go.Proofs.Ytahanpobeekhiaa
