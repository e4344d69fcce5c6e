/-
  The reference for rows of pixels (chapter 06): Pixels, Same.
-/
import Derived.Test.YtdkgnnieehidbaaDoorRowsA
namespace Go.Proofs.YtdkgnnieehidbaaDoor
section
open Go Go.RowKit
set_option linter.unusedVariables false
set_option linter.unusedSimpArgs false
set_option maxHeartbeats 2000000
set_option maxRecDepth 4000
attribute [local irreducible] mix

/-- a list of n Bools -/
def boolsN (n : Nat) (f : Nat → Bool) : List Value := (List.range n).map fun y => Value.bool (f y)
theorem boolsN_len (n : Nat) (f : Nat → Bool) : (boolsN n f).length = n := by simp [boolsN]
theorem boolsN_at {n k : Nat} (f : Nat → Bool) (h : k < n) : (boolsN n f)[k]? = some (.bool (f k)) := by simp [boolsN, h]
theorem boolsN_set (n : Nat) (f : Nat → Bool) (k : Nat) (v : Bool) : (boolsN n f).set k (.bool v) = boolsN n (fun y => if y = k then v else f y) := by
  apply List.ext_getElem?
  intro i
  rw [List.getElem?_set]
  by_cases h : k = i
  · subst h
    by_cases h2 : k < n
    · simp [boolsN, h2]
    · simp [boolsN, h2]
  · rw [if_neg h]
    simp only [boolsN, List.getElem?_map]
    by_cases h2 : i < n
    · simp [h2, Ne.symm h]
    · simp [h2]
theorem boolsN_congr {n : Nat} {f g : Nat → Bool} (h : ∀ y, y < n → f y = g y) : boolsN n f = boolsN n g := by
  unfold boolsN
  apply List.map_congr_left
  intro y hy
  rw [h y (List.mem_range.1 hy)]
theorem quo2 {x : Nat} (h : x < 2 ^ 64) : IntKind.u64.wrap (((x : Nat) : Int).tdiv 2) = ((x / 2 : Nat) : Int) := by
  rw [show ((x : Nat) : Int).tdiv 2 = ((x / 2 : Nat) : Int) from rfl]
  exact IntWalk.u64_in _ ⟨by omega, by omega⟩
theorem quo2i {x : Nat} (h : x < 65536) : IntKind.i64.wrap (((x : Nat) : Int).tdiv 2) = ((x / 2 : Nat) : Int) := by
  rw [show ((x : Nat) : Int).tdiv 2 = ((x / 2 : Nat) : Int) from rfl]
  exact w64 (by omega)
theorem rem2 (x : Nat) : ((x : Nat) : Int).tmod 2 = ((x % 2 : Nat) : Int) := rfl
theorem hi_bit (p : Nat → Bool) {k : Nat} (h : k < 64) : (hiN p).testBit k = p (63 - k) := by unfold hiN; rw [num_bit]; simp [h]
theorem lo_bit (p : Nat → Bool) {k : Nat} (h : k < 64) : (loN p).testBit k = p (127 - k) := by unfold loN; rw [num_bit]; simp [h]
theorem hi_lt (p : Nat → Bool) : hiN p < 2 ^ 64 := num_lt _ 64
theorem lo_lt (p : Nat → Bool) : loN p < 2 ^ 64 := num_lt _ 64
def hit (bits count x w : Nat) (clip : Bool) (i y : Nat) : Bool := bits.testBit (count - 1 - i) && ((decide (x + i < w) && decide (y = x + i)) || (!decide (x + i < w) && !clip && decide (y + w = x + i)))


theorem pix_zero (p : Nat → Bool) (y : Nat) (hy : y < 128) : noneP y = (p y && ((decide (63 < y + 0) && decide (y < 64)) || decide (127 < y + 0))) := by
  have h2 : ¬ 127 < y + 0 := by omega
  by_cases h : y < 64
  · have h1 : ¬ 63 < y + 0 := by omega
    rw [decide_eq_false h1, decide_eq_false h2]; simp [noneP]
  · rw [decide_eq_false h, decide_eq_false h2]; simp [noneP]
theorem pix_step (p f : Nat → Bool) {k : Nat} (hk : k < 64) (hf : ∀ y, y < 128 → f y = (p y && ((decide (63 < y + k) && decide (y < 64)) || decide (127 < y + k)))) (y : Nat) (hy : y < 128) :
    (if y = 127 - k then p (127 - k) else if y = 63 - k then p (63 - k) else f y) = (p y && ((decide (63 < y + (k + 1)) && decide (y < 64)) || decide (127 < y + (k + 1)))) := by
  by_cases h1 : y = 127 - k
  · have h2 : 127 < y + (k + 1) := by omega
    rw [if_pos h1, h1]; subst h1; simp [h2]
  · rw [if_neg h1]
    by_cases h2 : y = 63 - k
    · have h3 : 63 < y + (k + 1) ∧ y < 64 := by omega
      rw [if_pos h2]; subst h2; simp [h3.1, h3.2]
    · rw [if_neg h2, hf y hy]
      by_cases h4 : y < 64
      · have e1 : decide (63 < y + (k + 1)) = decide (63 < y + k) := by congr 1; exact propext ⟨fun _ => by omega, fun _ => by omega⟩
        have e2 : decide (127 < y + (k + 1)) = decide (127 < y + k) := by congr 1; exact propext ⟨fun _ => by omega, fun _ => by omega⟩
        rw [e1, e2]
      · have e2 : decide (127 < y + (k + 1)) = decide (127 < y + k) := by congr 1; exact propext ⟨fun _ => by omega, fun _ => by omega⟩
        rw [e2]; simp [h4]
theorem pix_end (p f : Nat → Bool) (hf : ∀ y, y < 128 → f y = (p y && ((decide (63 < y + 64) && decide (y < 64)) || decide (127 < y + 64)))) (y : Nat) (hy : y < 128) : f y = p y := by
  rw [hf y hy]
  by_cases h4 : y < 64
  · have h : 63 < y + 64 := by omega
    simp [h, h4]
  · have h : 127 < y + 64 := by omega
    simp [h]
end
section
open Go Go.RowKit
set_option linter.unusedVariables false
set_option linter.unusedSimpArgs false
set_option maxHeartbeats 2000000
set_option maxRecDepth 4000
attribute [local irreducible] mix

theorem sh_put (p f : Nat → Bool) {n : Int} {wide : Bool} {k : Nat} (hp : ∀ y, wd wide ≤ y → y < 128 → p y = false) (hk : k < wd wide) (hw128 : wd wide ≤ 128) (hf : ∀ y, y < 128 → f y = (decide (y < k) && shiftP p n wide y)) (h : 0 ≤ (k : Int) - n ∧ (k : Int) - n < wd wide) (y : Nat) (hy : y < 128) :
    (if y = k then p ((k : Int) - n).toNat else f y) = (decide (y < k + 1) && shiftP p n wide y) := by
  by_cases e : y = k
  · subst e
    rw [if_pos rfl]
    have h1 : (y : Int) - n < 128 := by omega
    simp only [shiftP, decide_eq_true hk, decide_eq_true h.1, decide_eq_true h1, decide_eq_true (Nat.lt_succ_self y), Bool.true_and]
  · rw [if_neg e, hf y hy]
    congr 2
    exact propext ⟨fun _ => by omega, fun _ => by omega⟩
theorem sh_skip (p f : Nat → Bool) {n : Int} {wide : Bool} {k : Nat} (hp : ∀ y, wd wide ≤ y → y < 128 → p y = false) (hk : k < wd wide) (hw128 : wd wide ≤ 128) (hf : ∀ y, y < 128 → f y = (decide (y < k) && shiftP p n wide y)) (h : ¬ (0 ≤ (k : Int) - n ∧ (k : Int) - n < wd wide)) (y : Nat) (hy : y < 128) :
    f y = (decide (y < k + 1) && shiftP p n wide y) := by
  rw [hf y hy]
  by_cases e : y = k
  · subst e
    have hz : shiftP p n wide y = false := by
      unfold shiftP
      by_cases h0 : 0 ≤ (y : Int) - n
      · by_cases h1 : (y : Int) - n < 128
        · rw [hp _ (by omega) (by omega)]; simp
        · rw [decide_eq_false h1]; simp
      · rw [decide_eq_false h0]; simp
    rw [hz]; simp
  · congr 2
    exact propext ⟨fun _ => by omega, fun _ => by omega⟩
theorem sh_end (p f : Nat → Bool) {n : Int} {wide : Bool} (hf : ∀ y, y < 128 → f y = (decide (y < wd wide) && shiftP p n wide y)) (y : Nat) (hy : y < 128) : f y = shiftP p n wide y := by
  rw [hf y hy]; unfold shiftP
  cases decide (y < wd wide) <;> simp

theorem spL0 {Y B X : Bool} (h : B = false) : Y = (Y || (B && X)) := by subst h; simp
theorem spL1 {Y B C Z : Bool} {y a w : Nat} (h : B = true) (hd : decide (a < w) = true) : (if y = a then true else Y) = (Y || (B && ((decide (a < w) && decide (y = a)) || (!decide (a < w) && !C && Z)))) := by
  rw [hd]; subst h; by_cases e : y = a <;> simp [e]
theorem spL2 {Y B C Z : Bool} {y a w : Nat} (h : B = true) (hd : w ≤ a) (hc : C = false) : (if y = a - w then true else Y) = (Y || (B && ((decide (a < w) && Z) || (!decide (a < w) && !C && decide (y + w = a))))) := by
  rw [decide_eq_false (show ¬ a < w by omega)]; subst h; subst hc
  by_cases e : y = a - w
  · have e2 : y + w = a := by omega
    rw [if_pos e, decide_eq_true e2]; simp
  · have e2 : ¬ y + w = a := by omega
    rw [if_neg e, decide_eq_false e2]; simp
theorem spL3 {Y B C Z X : Bool} {a w : Nat} (h : B = true) (hd : w ≤ a) (hc : C = true) : Y = (Y || (B && ((decide (a < w) && Z) || (!decide (a < w) && !C && X)))) := by
  rw [decide_eq_false (show ¬ a < w by omega)]; subst h; subst hc; simp
theorem spr_any {f : Nat → Bool} {bits count x wd_ : Nat} {clip : Bool} {j i : Nat} (hf : ∀ y, y < 128 → f y = (List.range j).any (fun j1 => hit bits count x wd_ clip (count - 1 - j1) y)) (hj : j < count) (hi : count - 1 - j = i) (y : Nat) (hy : y < 128) :
    (List.range (j + 1)).any (fun j1 => hit bits count x wd_ clip (count - 1 - j1) y) = (f y || (bits.testBit j && ((decide (x + i < wd_) && decide (y = x + i)) || (!decide (x + i < wd_) && !clip && decide (y + wd_ = x + i))))) := by
  have e : count - 1 - i = j := by omega
  rw [List.range_succ, List.any_append, ← hf y hy]
  simp only [List.any_cons, List.any_nil, Bool.or_false, hit, hi, e]
/-- the first pixels of a pattern, each told by itself -/
theorem sprK_any (bits count x wd_ : Nat) (clip : Bool) (hwd : wd_ ≤ 128) (y : Nat) (hy : y < 128) : ∀ k, k ≤ count → sprK bits count x wd_ clip k y = (List.range k).any fun i => hit bits count x wd_ clip i y
  | 0, _ => rfl
  | k + 1, hk => by
    rw [List.range_succ, List.any_append, ← sprK_any bits count x wd_ clip hwd y hy k (by omega)]
    simp only [List.any_cons, List.any_nil, Bool.or_false, hit, sprK]
    cases hB : bits.testBit (count - 1 - k) with
    | false => simp
    | true =>
      simp only [cond_true, Bool.true_and, plotP]
      by_cases h1 : x + k < wd_
      · simp only [if_pos h1, setP, decide_eq_true h1, Bool.true_and, Bool.not_true, Bool.false_and, Bool.or_false]
        by_cases h2 : y = x + k
        · have h3 : (y : Int) = ((x + k : Nat) : Int) := by omega
          simp [h2]
        · have h3 : ¬ (y : Int) = ((x + k : Nat) : Int) := by omega
          rw [if_neg h3]; simp [h2]
      · simp only [if_neg h1, decide_eq_false h1, Bool.false_and, Bool.false_or, Bool.not_false, Bool.true_and]
        cases clip with
        | true => simp
        | false =>
          simp only [Bool.false_eq_true, if_false, setP, Bool.not_false, Bool.true_and]
          by_cases h2 : y + wd_ = x + k
          · rw [if_pos (by omega)]; simp [h2]
          · rw [if_neg (by omega)]; simp [h2]
theorem any_rev (n : Nat) (g : Nat → Bool) : (List.range n).any (fun j => g (n - 1 - j)) = (List.range n).any g := by
  rw [Bool.eq_iff_iff]
  simp only [List.any_eq_true, List.mem_range]
  constructor
  · rintro ⟨j, hj, h⟩; exact ⟨n - 1 - j, by omega, h⟩
  · rintro ⟨j, hj, h⟩; exact ⟨n - 1 - j, by omega, by rw [show n - 1 - (n - 1 - j) = j by omega]; exact h⟩
theorem spr_end (bits count x wd_ : Nat) (clip : Bool) (hwd : wd_ ≤ 128) (hx : x < wd_) (hcn : count ≤ wd_) (y : Nat) (hy : y < 128) : ((List.range count).any fun j1 => hit bits count x wd_ clip (count - 1 - j1) y) = sprK bits count x wd_ clip count y := by
  rw [sprK_any bits count x wd_ clip hwd y hy count (Nat.le_refl _), any_rev count (fun i => hit bits count x wd_ clip i y)]
end
section
open Go Go.RowKit
set_option linter.unusedVariables false
set_option linter.unusedSimpArgs false
set_option maxHeartbeats 2000000
set_option maxRecDepth 4000
attribute [local irreducible] mix

def cutP (p : Nat → Bool) (wide : Bool) (x : Nat) : Bool := decide (x < wd wide) && p x
theorem cut_all (p : Nat → Bool) : rowV p = rowV (cutP p true) := rowV_congr fun x hx => by
  have h : x < wd true := hx
  simp [cutP, h]
theorem cut_hi (p : Nat → Bool) : #[Value.int .u64 ((hiN p : Nat) : Int), .int .u64 0] = rowV (cutP p false) := by
  unfold rowV
  have e1 : hiN p = hiN (cutP p false) := num_congr fun i hi => by
    have h : 63 - i < wd false := by show 63 - i < 64; omega
    simp [cutP, h]
  have e2 : loN (cutP p false) = 0 := (num_congr fun i hi => by
    have h : ¬ 127 - i < wd false := by show ¬ 127 - i < 64; omega
    show cutP p false (127 - i) = (fun _ => false) i
    simp [cutP, h]).trans (num_zero 64)
  rw [← e1, e2]; rfl
theorem cut_out {p : Nat → Bool} {wide : Bool} {x : Nat} (h : wd wide ≤ x) : cutP p wide x = false := by
  unfold cutP; rw [decide_eq_false (by omega)]; rfl
theorem eqB_self (p : Nat → Bool) : eqB p p = true := (eqB_iff p p).2 fun _ _ => rfl
theorem row_self (p : Nat → Bool) : cellsEq (rowV p).toList (rowV p).toList = true := (row_eq p p).trans (eqB_self p)
theorem wfU {n : Int} (h : (Lit.int .u64 n).wf = true) : 0 ≤ n ∧ n < 18446744073709551616 := by
  have h2 := h
  simp only [Lit.wf, Bool.and_eq_true, decide_eq_true_eq] at h2
  rw [show IntKind.u64.min = 0 from by rfl, show IntKind.u64.max = 18446744073709551615 from by rfl] at h2
  omega
theorem wfu8 {n : Int} (h : (Lit.int .u8 n).wf = true) : 0 ≤ n ∧ n ≤ 255 := by
  have h2 := h
  simp only [Lit.wf, Bool.and_eq_true, decide_eq_true_eq] at h2
  rw [show IntKind.u8.min = 0 from by rfl, show IntKind.u8.max = 255 from by rfl] at h2
  exact h2
theorem wfi8 {n : Int} (h : (Lit.int .i8 n).wf = true) : -128 ≤ n ∧ n ≤ 127 := by
  have h2 := h
  simp only [Lit.wf, Bool.and_eq_true, decide_eq_true_eq] at h2
  rw [show IntKind.i8.min = -128 from by rfl, show IntKind.i8.max = 127 from by rfl] at h2
  exact h2
theorem wfu16 {n : Int} (h : (Lit.int .u16 n).wf = true) : 0 ≤ n ∧ n ≤ 65535 := by
  have h2 := h
  simp only [Lit.wf, Bool.and_eq_true, decide_eq_true_eq] at h2
  rw [show IntKind.u16.min = 0 from by rfl, show IntKind.u16.max = 65535 from by rfl] at h2
  exact h2
theorem wfi64 {n : Int} (h : (Lit.int .i64 n).wf = true) : -9223372036854775808 ≤ n ∧ n ≤ 9223372036854775807 := by
  have h2 := h
  simp only [Lit.wf, Bool.and_eq_true, decide_eq_true_eq] at h2
  rw [show IntKind.i64.min = -9223372036854775808 from by rfl, show IntKind.i64.max = 9223372036854775807 from by rfl] at h2
  exact h2
/-- two words are a row -/
theorem row_of {a b : Int} (ha : 0 ≤ a ∧ a < 18446744073709551616) (hb : 0 ≤ b ∧ b < 18446744073709551616) : ∃ p : Nat → Bool, a = ((hiN p : Nat) : Int) ∧ b = ((loN p : Nat) : Int) := by
  obtain ⟨x, rfl⟩ := Int.eq_ofNat_of_zero_le ha.1
  obtain ⟨y, rfl⟩ := Int.eq_ofNat_of_zero_le hb.1
  refine ⟨fun i => if i < 64 then x.testBit (63 - i) else y.testBit (127 - i), ?_, ?_⟩
  · congr 1
    refine num_ext (show x < 2 ^ 64 by omega) fun i hi => ?_
    have h : 63 - i < 64 := by omega
    simp only [h, if_true]; congr 1; omega
  · congr 1
    refine num_ext (show y < 2 ^ 64 by omega) fun i hi => ?_
    have h : ¬ 127 - i < 64 := by omega
    simp only [h, if_false]; congr 1; omega
theorem bools_blt {w : World} {b : Nat} {f : Nat → Bool} (hr : Rd w (some ⟨b, 0, none⟩) (boolsN 128 f)) : b < w.heap.size := World.block_lt_of_cell? w _ (hr.cell (boolsN_at f (show 0 < 128 by decide)) rfl)
theorem set_get {p : Nat → Bool} {x : Int} {on : Bool} (h : 0 ≤ x ∧ x < 128) : getB (setP p x on) x = on := by
  have e : ((x.toNat : Nat) : Int) = x := by omega
  simp [getB, setP, e, h.1, h.2]
theorem getB_nat (p : Nat → Bool) {k : Nat} (h : k < 128) : getB p (k : Int) = p k := by
  have h1 : (k : Int) < 128 := by omega
  simp [getB, h1]

theorem width06 (wide : Bool) (w : World) :
    Calls Tryd.prog 34 #[.bool wide] w fun e w' => e = .returned (.int .i64 (wd wide : Nat)) ∧ Sat w [] [] w' := by
  cases wide
  · refine enter Tryd.func34 rfl rfl rfl ?_
    refine r_seq ?_
    refine r_region ?_
    refine r_assign rfl rfl ?_
    refine r_nil ?_
    refine r_tn ?_
    refine r_seq ?_
    refine r_seq ?_
    refine r_region ?_
    refine r_move rfl rfl ?_
    refine r_nil ?_
    refine r_tn ?_
    refine r_cond_f rfl ?_
    refine r_skip ?_
    refine r_tn ?_
    refine r_seq ?_
    refine r_region ?_
    refine r_assign rfl rfl ?_
    refine r_nil ?_
    refine r_tn ?_
    refine r_ret ?_
    exact r_done1 (.inl rfl) rfl (res_tmp rfl) fun w hw => ⟨rfl, hw.clear⟩
  · refine enter Tryd.func34 rfl rfl rfl ?_
    refine r_seq ?_
    refine r_region ?_
    refine r_assign rfl rfl ?_
    refine r_nil ?_
    refine r_tn ?_
    refine r_seq ?_
    refine r_seq ?_
    refine r_region ?_
    refine r_move rfl rfl ?_
    refine r_nil ?_
    refine r_tn ?_
    refine r_cond_t rfl ?_
    refine r_seq ?_
    refine r_region ?_
    refine r_assign rfl rfl ?_
    refine r_nil ?_
    refine r_tn ?_
    refine r_ret ?_
    refine r_tr ?_
    exact r_done1 (.inl rfl) rfl (res_tmp rfl) fun w hw => ⟨rfl, hw.clear⟩
end
section
set_option maxRecDepth 4000
open Go Go.RowKit
set_option linter.unusedVariables false
set_option linter.unusedSimpArgs false
set_option maxHeartbeats 2000000
attribute [local irreducible] mix

/-- a pattern at a position, clipped -/
theorem spr_clip (bits count x : Nat) (wide : Bool) (hc : count ≤ 64) (y : Nat) (hy : y < 128) : sprK bits count x (wd wide) true count y = (decide (y < wd wide ∧ x ≤ y ∧ y - x < count) && bits.testBit (count - 1 - (y - x))) := by
  have h128 : wd wide ≤ 128 := by cases wide <;> decide
  rw [sprK_any bits count x (wd wide) true h128 y hy count (Nat.le_refl _), Bool.eq_iff_iff]
  simp only [List.any_eq_true, List.mem_range, hit, Bool.and_eq_true, Bool.or_eq_true, decide_eq_true_eq, Bool.not_true, Bool.and_false, Bool.false_and, Bool.false_eq_true, or_false]
  constructor
  · rintro ⟨i, hi, hb, h1, h2⟩
    have e : i = y - x := by omega
    subst e
    exact ⟨⟨by omega, by omega, by omega⟩, hb⟩
  · rintro ⟨⟨h1, h2, h3⟩, hb⟩
    exact ⟨y - x, h3, hb, by omega, by omega⟩
/-- a pattern at a position, wrapped -/
theorem spr_wrap (bits count x : Nat) (wide : Bool) (hc : count ≤ wd wide) (hx : x < wd wide) (y : Nat) (hy : y < 128) : sprK bits count x (wd wide) false count y =
    ((decide (y < wd wide ∧ x ≤ y ∧ y - x < count) && bits.testBit (count - 1 - (y - x))) || (decide (y + wd wide - x < count) && bits.testBit (count - 1 - (y + wd wide - x)))) := by
  have h128 : wd wide ≤ 128 := by cases wide <;> decide
  rw [sprK_any bits count x (wd wide) false h128 y hy count (Nat.le_refl _), Bool.eq_iff_iff]
  simp only [List.any_eq_true, List.mem_range, hit, Bool.and_eq_true, Bool.or_eq_true, decide_eq_true_eq, Bool.not_false, Bool.and_true, Bool.not_eq_true', decide_eq_false_iff_not]
  constructor
  · rintro ⟨i, hi, hb, h1 | h1⟩
    · have e : i = y - x := by omega
      subst e
      exact .inl ⟨⟨by omega, by omega, by omega⟩, hb⟩
    · have e : i = y + wd wide - x := by omega
      subst e
      exact .inr ⟨by omega, hb⟩
  · rintro (⟨⟨h1, h2, h3⟩, hb⟩ | ⟨h1, hb⟩)
    · exact ⟨y - x, h3, hb, .inl (by omega)⟩
    · exact ⟨y + wd wide - x, h1, hb, .inr (by omega)⟩
theorem mv_shift (bits count : Nat) (n : Int) (wide : Bool) (hc : count ≤ 64) (y : Nat) (hy : y < 128) : shiftP (sprK bits count 0 (wd wide) true count) n wide y =
    (decide (y < wd wide ∧ 0 ≤ (y : Int) - n ∧ (y : Int) - n < wd wide ∧ (y : Int) - n < count) && bits.testBit (count - 1 - ((y : Int) - n).toNat)) := by
  have h128 : wd wide ≤ 128 := by cases wide <;> decide
  unfold shiftP
  by_cases h1 : y < wd wide
  · by_cases h2 : 0 ≤ (y : Int) - n
    · by_cases h3 : (y : Int) - n < 128
      · rw [spr_clip bits count 0 wide hc _ (by omega)]
        simp only [decide_eq_true h1, decide_eq_true h2, decide_eq_true h3, Bool.true_and, Nat.sub_zero]
        congr 1; congr 1
        exact propext ⟨fun h => ⟨h1, h2, by omega, by omega⟩, fun h => ⟨by omega, by omega, by omega⟩⟩
      · rw [decide_eq_false h3, decide_eq_false (p := y < wd wide ∧ _) (fun h => by omega)]; simp
    · rw [decide_eq_false h2, decide_eq_false (p := y < wd wide ∧ _) (fun h => h2 h.2.1)]; simp
  · rw [decide_eq_false h1, decide_eq_false (p := y < wd wide ∧ _) (fun h => h1 h.1)]; simp
theorem mv_clip (bits count at_ : Nat) (wide : Bool) (hlt : at_ < wd wide) (hc : count ≤ 64) (y : Nat) (hy : y < 128) : sprK bits count at_ (wd wide) true count y = shiftP (sprK bits count 0 (wd wide) true count) (at_ : Int) wide y := by
  rw [spr_clip bits count at_ wide hc y hy, mv_shift bits count at_ wide hc y hy]
  by_cases h : at_ ≤ y
  · rw [show ((y : Int) - (at_ : Int)).toNat = y - at_ by omega]
    congr 1; congr 1
    exact propext ⟨fun h => ⟨h.1, by omega, by omega, by omega⟩, fun h => ⟨h.1, by omega, by omega⟩⟩
  · rw [decide_eq_false (p := y < wd wide ∧ _) (fun h2 => h h2.2.1), decide_eq_false (p := y < wd wide ∧ _) (fun h2 => h (by omega))]; simp
theorem mv_lost (bits count at_ : Nat) (wide : Bool) (hlt : at_ < wd wide) (hc : count ≤ 64) (y : Nat) (hy : y < 128) : (sprK bits count at_ (wd wide) true count y && shiftP (sprK bits count 0 (wd wide) true count) ((at_ : Int) - (wd wide : Nat)) wide y) = noneP y := by
  have h64 : 64 ≤ wd wide := by cases wide <;> decide
  rw [spr_clip bits count at_ wide hc y hy, mv_shift bits count _ wide hc y hy]
  by_cases h : at_ ≤ y
  · rw [decide_eq_false (p := _ ∧ 0 ≤ (y : Int) - _ ∧ _) (fun h2 => by omega)]; simp [noneP]
  · rw [decide_eq_false (p := y < wd wide ∧ at_ ≤ y ∧ _) (fun h2 => h h2.2.1)]; simp [noneP]
theorem mv_wrap (bits count at_ : Nat) (wide : Bool) (hlt : at_ < wd wide) (hc : count ≤ 64) (y : Nat) (hy : y < 128) : sprK bits count at_ (wd wide) false count y = (sprK bits count at_ (wd wide) true count y ^^ shiftP (sprK bits count 0 (wd wide) true count) ((at_ : Int) - (wd wide : Nat)) wide y) := by
  have h64 : 64 ≤ wd wide := by cases wide <;> decide
  rw [spr_wrap bits count at_ wide (by omega) hlt y hy, spr_clip bits count at_ wide hc y hy, mv_shift bits count _ wide hc y hy]
  rw [show ((y : Int) - ((at_ : Int) - (wd wide : Nat))).toNat = y + wd wide - at_ by omega]
  by_cases h : at_ ≤ y
  · rw [decide_eq_false (p := y + wd wide - at_ < count) (fun h2 => by omega), decide_eq_false (p := _ ∧ 0 ≤ (y : Int) - _ ∧ _) (fun h2 => by omega)]; simp
  · rw [decide_eq_false (p := y < wd wide ∧ at_ ≤ y ∧ _) (fun h2 => h h2.2.1)]
    simp only [Bool.false_and, Bool.false_or, Bool.false_xor]
    congr 1; congr 1
    exact propext ⟨fun h => ⟨by omega, by omega, by omega, by omega⟩, fun h => by omega⟩
end
end Go.Proofs.YtdkgnnieehidbaaDoor
