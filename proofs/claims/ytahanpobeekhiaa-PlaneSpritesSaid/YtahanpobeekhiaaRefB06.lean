/-
  The reference for rows of pixels (chapter 06): Shift, Sprite.
-/
import Derived.Test.YtahanpobeekhiaaRef06
namespace Go.Proofs.Ytahanpobeekhiaa
open Go Go.RowKit
set_option linter.unusedVariables false
set_option linter.unusedSimpArgs false
set_option maxHeartbeats 2000000

theorem sh_put (p f : Nat → Bool) {n : Int} {wide : Bool} {k : Nat} (hp : ∀ y, wd wide ≤ y → y < 128 → p y = false) (hk : k < wd wide) (hw128 : wd wide ≤ 128) (hf : ∀ y, y < 128 → f y = (decide (y < k) && shiftP p n wide y)) (h : 0 ≤ (k : Int) - n ∧ (k : Int) - n < wd wide) (y : Nat) (hy : y < 128) :
    (if y = k then p ((k : Int) - n).toNat else f y) = (decide (y < k + 1) && shiftP p n wide y) := by
  by_cases e : y = k
  · subst e
    rw [if_pos rfl]
    have h1 : (y : Int) - n < 128 := by omega
    simp only [shiftP, decide_eq_true hk, decide_eq_true h.1, decide_eq_true h1, decide_eq_true (Nat.lt_succ_self y), Bool.true_and]
  · rw [if_neg e, hf y hy]
    congr 2
    exact propext ⟨fun _ => by omega, fun _ => by omega⟩
theorem sh_skip (p f : Nat → Bool) {n : Int} {wide : Bool} {k : Nat} (hp : ∀ y, wd wide ≤ y → y < 128 → p y = false) (hk : k < wd wide) (hw128 : wd wide ≤ 128) (hf : ∀ y, y < 128 → f y = (decide (y < k) && shiftP p n wide y)) (h : ¬ (0 ≤ (k : Int) - n ∧ (k : Int) - n < wd wide)) (y : Nat) (hy : y < 128) :
    f y = (decide (y < k + 1) && shiftP p n wide y) := by
  rw [hf y hy]
  by_cases e : y = k
  · subst e
    have hz : shiftP p n wide y = false := by
      unfold shiftP
      by_cases h0 : 0 ≤ (y : Int) - n
      · by_cases h1 : (y : Int) - n < 128
        · rw [hp _ (by omega) (by omega)]; simp
        · rw [decide_eq_false h1]; simp
      · rw [decide_eq_false h0]; simp
    rw [hz]; simp
  · congr 2
    exact propext ⟨fun _ => by omega, fun _ => by omega⟩
theorem sh_end (p f : Nat → Bool) {n : Int} {wide : Bool} (hf : ∀ y, y < 128 → f y = (decide (y < wd wide) && shiftP p n wide y)) (y : Nat) (hy : y < 128) : f y = shiftP p n wide y := by
  rw [hf y hy]; unfold shiftP
  cases decide (y < wd wide) <;> simp

theorem refShift (p : Nat → Bool) (n : Int) (wide : Bool) (a ca : Nat) (w : World) (ha : Rd w (some ⟨a, 0, none⟩) (boolsN 128 p)) (hn : -4611686018427387904 ≤ n ∧ n ≤ 4611686018427387904) (hp : ∀ y, wd wide ≤ y → y < 128 → p y = false) :
    Calls Try.prog 21 #[.slice (some ⟨a, 0, none⟩) 128 ca, .int .i64 n, .int .i64 (wd wide : Nat)] w fun e w' => ∃ b : Nat, e = .returned (.slice (some ⟨b, 0, none⟩) 128 128) ∧ True ∧ Sat w [] [.own 4 1 (.slice (some ⟨b, 0, none⟩) 128 128) 128 (boolsN 128 (shiftP p n wide))] w' := by
  have hw128 : wd wide ≤ 128 := by cases wide <;> decide
  refine enter Try.func21 rfl rfl rfl ?_
  refine r_seq ?_
  refine r_region ?_
  refine r_assign rfl rfl ?_
  refine r_nil ?_
  refine r_tn ?_
  refine r_seq ?_
  refine r_region ?_
  refine r_makeSlice (m := 128) (sz := 1) (bytes := 1) (xs := boolsN 128 noneP) rfl rfl rfl rfl rfl rfl rfl (by decide) (by decide) (by kernel_rfl) (fun b9 => ?_)
  refine r_assign rfl rfl ?_
  refine r_nil ?_
  refine r_tn ?_
  refine r_seq ?_
  refine r_seq ?_
  refine r_region ?_
  refine r_assign rfl rfl ?_
  refine r_nil ?_
  refine r_tn ?_
  refine r_block ?_
  refine r_loop1 (fun k (f : Nat → Bool) => [(0, .slice (some ⟨a, 0, none⟩) 128 ca), (1, .int .i64 n), (2, .int .i64 (wd wide : Nat)), (7, .slice (some ⟨b9, 0, none⟩) 128 128), (8, .int .i64 (k : Int))]) (fun k f => [.own 4 1 (.slice (some ⟨b9, 0, none⟩) 128 128) 128 (boolsN 128 (f))]) (fun k f => k ≤ wd wide ∧ ∀ y, y < 128 → f y = (decide (y < k) && shiftP p n wide y)) (wd wide) 0 noneP ⟨by omega, fun y hy => by simp [noneP]⟩ ⟨rfl, rfl, rfl, rfl, rfl, trivial⟩ (fun w hw => hw.sub) fun k f hf => ?_
  obtain ⟨hk, hf⟩ := hf
  refine r_seq ?_
  refine r_seq ?_
  refine r_region ?_
  refine r_move rfl rfl ?_
  refine r_move rfl rfl ?_
  refine r_lss rfl rfl rfl rfl ?_
  refine r_nil ?_
  refine r_tn ?_
  refine r_cond rfl (fun hc => ?_) (fun hc => ?_)
  · refine r_skip ?_
    refine r_tn ?_
    refine r_seq ?_
    refine r_block ?_
    refine r_seq ?_
    refine r_region ?_
    have hk2 : k < wd wide := by have h := of_decide_eq_true hc; omega
    clear hc
    refine r_move rfl rfl ?_
    refine r_move rfl rfl ?_
    refine r_sub rfl rfl rfl (w64 (by omega)) ?_
    refine r_geq rfl rfl rfl rfl ?_
    refine r_move rfl rfl ?_
    refine r_split 19 rfl (fun hb19 => ?_) (fun hb19 => ?_)
    · refine r_go rfl rfl ?_
      refine r_move rfl rfl ?_
      refine r_go rfl rfl ?_
      refine r_move rfl rfl ?_
      refine r_go rfl rfl ?_
      refine r_sub rfl rfl rfl (w64 (by omega)) ?_
      refine r_go rfl rfl ?_
      refine r_move rfl rfl ?_
      refine r_go rfl rfl ?_
      refine r_lss rfl rfl rfl rfl ?_
      refine r_pick_t rfl rfl rfl ?_
      refine r_nil ?_
      refine r_tn ?_
      refine r_cond rfl (fun hc => ?_) (fun hc => ?_)
      · refine r_region ?_
        refine r_move rfl rfl ?_
        refine r_move rfl rfl ?_
        refine r_move rfl rfl ?_
        refine r_move rfl rfl ?_
        refine r_move rfl rfl ?_
        refine r_sub rfl rfl rfl (w64 (by omega)) ?_
        have hin : 0 ≤ (k : Int) - n ∧ (k : Int) - n < 128 := by have h1 := of_decide_eq_true hb19; have h2 := of_decide_eq_true hc; omega
        refine r_indexSl (sz := 1) (o' := ((k : Int) - n).toNat) rfl rfl rfl rfl rfl (by omega) (by omega) (by first | (simp; done) | (simp; omega) | omega) ?_
        refine r_loadC (p := ⟨a, ((k : Int) - n).toNat, none⟩) rfl rfl rfl (fun w hw => ((ha.keep hw).cell (boolsN_at p (show ((k : Int) - n).toNat < 128 by omega)) rfl) |> fun h => by simpa using h) ?_
        refine r_indexSl (sz := 1) (o' := k) rfl rfl rfl rfl rfl (by omega) (by omega) (by first | (simp; done) | (simp; omega) | omega) ?_
        refine r_storeOwn (m := 128) (c := 128) rfl rfl rfl rfl rfl (by omega) ?_
        rw [boolsN_set]
        refine r_nil ?_
        refine r_bn ?_
        refine r_tn ?_
        refine r_region ?_
        refine r_move rfl rfl ?_
        refine r_add rfl rfl rfl (w64 (by omega)) ?_
        refine r_assign rfl rfl ?_
        refine r_nil ?_
        refine r_tn ?_
        exact r_again1 (k + 1) _ ⟨by omega, fun y hy => by first | exact sh_put p f hp hk2 hw128 hf (by have h1 := of_decide_eq_true hb19; have h2 := of_decide_eq_true hc; omega) y hy | exact sh_skip p f hp hk2 hw128 hf (by have h2 := of_decide_eq_false hc; omega) y hy | exact sh_skip p f hp hk2 hw128 hf (by have h2 := of_decide_eq_false hb19; omega) y hy⟩ (by omega) ⟨rfl, rfl, rfl, rfl, rfl, trivial⟩ (fun w hw => hw)
      · refine r_skip ?_
        refine r_bn ?_
        refine r_tn ?_
        refine r_region ?_
        refine r_move rfl rfl ?_
        refine r_add rfl rfl rfl (w64 (by omega)) ?_
        refine r_assign rfl rfl ?_
        refine r_nil ?_
        refine r_tn ?_
        exact r_again1 (k + 1) _ ⟨by omega, fun y hy => by first | exact sh_put p f hp hk2 hw128 hf (by have h1 := of_decide_eq_true hb19; have h2 := of_decide_eq_true hc; omega) y hy | exact sh_skip p f hp hk2 hw128 hf (by have h2 := of_decide_eq_false hc; omega) y hy | exact sh_skip p f hp hk2 hw128 hf (by have h2 := of_decide_eq_false hb19; omega) y hy⟩ (by omega) ⟨rfl, rfl, rfl, rfl, rfl, trivial⟩ (fun w hw => hw)
    · refine r_pass rfl rfl rfl rfl ?_
      refine r_pass rfl rfl rfl rfl ?_
      refine r_pass rfl rfl rfl rfl ?_
      refine r_pass rfl rfl rfl rfl ?_
      refine r_pass rfl rfl rfl rfl ?_
      refine r_pick_f rfl rfl rfl ?_
      refine r_nil ?_
      refine r_tn ?_
      refine r_cond_f rfl ?_
      refine r_skip ?_
      refine r_bn ?_
      refine r_tn ?_
      refine r_region ?_
      refine r_move rfl rfl ?_
      refine r_add rfl rfl rfl (w64 (by omega)) ?_
      refine r_assign rfl rfl ?_
      refine r_nil ?_
      refine r_tn ?_
      exact r_again1 (k + 1) _ ⟨by omega, fun y hy => by first | exact sh_put p f hp hk2 hw128 hf (by have h1 := of_decide_eq_true hb19; have h2 := of_decide_eq_true hc; omega) y hy | exact sh_skip p f hp hk2 hw128 hf (by have h2 := of_decide_eq_false hc; omega) y hy | exact sh_skip p f hp hk2 hw128 hf (by have h2 := of_decide_eq_false hb19; omega) y hy⟩ (by omega) ⟨rfl, rfl, rfl, rfl, rfl, trivial⟩ (fun w hw => hw)
  · refine r_exit ?_
    refine r_te ?_
    refine r_te ?_
    refine r_be ?_
    refine r_tn ?_
    refine r_seq ?_
    refine r_region ?_
    refine r_move rfl rfl ?_
    refine r_assign rfl rfl ?_
    refine r_nil ?_
    refine r_tn ?_
    refine r_ret ?_
    have hk2 : k = wd wide := by have h := of_decide_eq_false hc; omega
    subst hk2
    exact r_done1 (.inl rfl) rfl (res_tmp rfl) fun w hw => ⟨b9, rfl, trivial, by rw [boolsN_congr (sh_end p f hf)] at hw; exact hw⟩

theorem spL0 {Y B X : Bool} (h : B = false) : Y = (Y || (B && X)) := by subst h; simp
theorem spL1 {Y B C Z : Bool} {y a w : Nat} (h : B = true) (hd : decide (a < w) = true) : (if y = a then true else Y) = (Y || (B && ((decide (a < w) && decide (y = a)) || (!decide (a < w) && !C && Z)))) := by
  rw [hd]; subst h; by_cases e : y = a <;> simp [e]
theorem spL2 {Y B C Z : Bool} {y a w : Nat} (h : B = true) (hd : w ≤ a) (hc : C = false) : (if y = a - w then true else Y) = (Y || (B && ((decide (a < w) && Z) || (!decide (a < w) && !C && decide (y + w = a))))) := by
  rw [decide_eq_false (show ¬ a < w by omega)]; subst h; subst hc
  by_cases e : y = a - w
  · have e2 : y + w = a := by omega
    rw [if_pos e, decide_eq_true e2]; simp
  · have e2 : ¬ y + w = a := by omega
    rw [if_neg e, decide_eq_false e2]; simp
theorem spL3 {Y B C Z X : Bool} {a w : Nat} (h : B = true) (hd : w ≤ a) (hc : C = true) : Y = (Y || (B && ((decide (a < w) && Z) || (!decide (a < w) && !C && X)))) := by
  rw [decide_eq_false (show ¬ a < w by omega)]; subst h; subst hc; simp
theorem spr_any {f : Nat → Bool} {bits count x wd_ : Nat} {clip : Bool} {j i : Nat} (hf : ∀ y, y < 128 → f y = (List.range j).any (fun j1 => hit bits count x wd_ clip (count - 1 - j1) y)) (hj : j < count) (hi : count - 1 - j = i) (y : Nat) (hy : y < 128) :
    (List.range (j + 1)).any (fun j1 => hit bits count x wd_ clip (count - 1 - j1) y) = (f y || (bits.testBit j && ((decide (x + i < wd_) && decide (y = x + i)) || (!decide (x + i < wd_) && !clip && decide (y + wd_ = x + i))))) := by
  have e : count - 1 - i = j := by omega
  rw [List.range_succ, List.any_append, ← hf y hy]
  simp only [List.any_cons, List.any_nil, Bool.or_false, hit, hi, e]
/-- the first pixels of a pattern, each told by itself -/
theorem sprK_any (bits count x wd_ : Nat) (clip : Bool) (hwd : wd_ ≤ 128) (y : Nat) (hy : y < 128) : ∀ k, k ≤ count → sprK bits count x wd_ clip k y = (List.range k).any fun i => hit bits count x wd_ clip i y
  | 0, _ => rfl
  | k + 1, hk => by
    rw [List.range_succ, List.any_append, ← sprK_any bits count x wd_ clip hwd y hy k (by omega)]
    simp only [List.any_cons, List.any_nil, Bool.or_false, hit, sprK]
    cases hB : bits.testBit (count - 1 - k) with
    | false => simp
    | true =>
      simp only [cond_true, Bool.true_and, plotP]
      by_cases h1 : x + k < wd_
      · simp only [if_pos h1, setP, decide_eq_true h1, Bool.true_and, Bool.not_true, Bool.false_and, Bool.or_false]
        by_cases h2 : y = x + k
        · have h3 : (y : Int) = ((x + k : Nat) : Int) := by omega
          simp [h2]
        · have h3 : ¬ (y : Int) = ((x + k : Nat) : Int) := by omega
          rw [if_neg h3]; simp [h2]
      · simp only [if_neg h1, decide_eq_false h1, Bool.false_and, Bool.false_or, Bool.not_false, Bool.true_and]
        cases clip with
        | true => simp
        | false =>
          simp only [Bool.false_eq_true, if_false, setP, Bool.not_false, Bool.true_and]
          by_cases h2 : y + wd_ = x + k
          · rw [if_pos (by omega)]; simp [h2]
          · rw [if_neg (by omega)]; simp [h2]
theorem any_rev (n : Nat) (g : Nat → Bool) : (List.range n).any (fun j => g (n - 1 - j)) = (List.range n).any g := by
  rw [Bool.eq_iff_iff]
  simp only [List.any_eq_true, List.mem_range]
  constructor
  · rintro ⟨j, hj, h⟩; exact ⟨n - 1 - j, by omega, h⟩
  · rintro ⟨j, hj, h⟩; exact ⟨n - 1 - j, by omega, by rw [show n - 1 - (n - 1 - j) = j by omega]; exact h⟩
theorem spr_end (bits count x wd_ : Nat) (clip : Bool) (hwd : wd_ ≤ 128) (hx : x < wd_) (hcn : count ≤ wd_) (y : Nat) (hy : y < 128) : ((List.range count).any fun j1 => hit bits count x wd_ clip (count - 1 - j1) y) = sprK bits count x wd_ clip count y := by
  rw [sprK_any bits count x wd_ clip hwd y hy count (Nat.le_refl _), any_rev count (fun i => hit bits count x wd_ clip i y)]

theorem refSprite (bits count x wd_ : Nat) (clip : Bool) (w : World) (hb : bits < 65536) (hwd : wd_ ≤ 128) (hx : x < wd_) (hcn : count ≤ wd_) :
    Calls Try.prog 23 #[.int .u16 (bits : Int), .int .i64 (count : Int), .int .i64 (x : Int), .int .i64 (wd_ : Int), .bool clip] w fun e w' => ∃ b : Nat, e = .returned (.slice (some ⟨b, 0, none⟩) 128 128) ∧ True ∧ Sat w [] [.own 4 1 (.slice (some ⟨b, 0, none⟩) 128 128) 128 (boolsN 128 (sprK bits count x wd_ clip count))] w' := by
  refine enter Try.func23 rfl rfl rfl ?_
  refine r_seq ?_
  refine r_region ?_
  refine r_assign rfl rfl ?_
  refine r_nil ?_
  refine r_tn ?_
  refine r_seq ?_
  refine r_region ?_
  refine r_makeSlice (m := 128) (sz := 1) (bytes := 1) (xs := boolsN 128 noneP) rfl rfl rfl rfl rfl rfl rfl (by decide) (by decide) (by kernel_rfl) (fun b15 => ?_)
  refine r_assign rfl rfl ?_
  refine r_nil ?_
  refine r_tn ?_
  refine r_seq ?_
  refine r_region ?_
  refine r_move rfl rfl ?_
  refine r_convert (r := ((bits >>> 0 : Nat) : Int)) rfl rfl rfl rfl (w64 (by omega)) ?_
  refine r_assign rfl rfl ?_
  refine r_nil ?_
  refine r_tn ?_
  refine r_seq ?_
  refine r_seq ?_
  refine r_region ?_
  refine r_move rfl rfl ?_
  refine r_sub (r := (count : Int) - 1 - ((0 : Nat) : Int)) rfl rfl rfl ((w64 (by omega)).trans (by omega)) ?_
  refine r_assign rfl rfl ?_
  refine r_nil ?_
  refine r_tn ?_
  refine r_block ?_
  refine r_loop1 (fun j (f : Nat → Bool) => [(2, .int .i64 (x : Int)), (3, .int .i64 (wd_ : Int)), (4, .bool clip), (11, .slice (some ⟨b15, 0, none⟩) 128 128), (12, .int .i64 ((bits >>> j : Nat) : Int)), (13, .int .i64 ((count : Int) - 1 - (j : Nat)))]) (fun k f => [.own 4 1 (.slice (some ⟨b15, 0, none⟩) 128 128) 128 (boolsN 128 (f))]) (fun j f => j ≤ count ∧ ∀ y, y < 128 → f y = (List.range j).any (fun j1 => hit bits count x wd_ clip (count - 1 - j1) y)) count 0 noneP ⟨by omega, fun y hy => rfl⟩ ⟨rfl, rfl, rfl, rfl, rfl, rfl, trivial⟩ (fun w hw => hw.sub) fun j f hf => ?_
  obtain ⟨hj, hf⟩ := hf
  refine r_seq ?_
  refine r_seq ?_
  refine r_region ?_
  refine r_move rfl rfl ?_
  refine r_geq rfl rfl rfl rfl ?_
  refine r_nil ?_
  refine r_tn ?_
  refine r_cond rfl (fun hc => ?_) (fun hc => ?_)
  · refine r_skip ?_
    refine r_tn ?_
    refine r_seq ?_
    refine r_block ?_
    refine r_seq ?_
    refine r_region ?_
    have hj2 : j < count := by have h := of_decide_eq_true hc; omega
    obtain ⟨i, hi⟩ : ∃ i, count - 1 - j = i := ⟨_, rfl⟩
    clear hc
    refine r_move rfl rfl ?_
    refine r_rem rfl rfl rfl (by decide) (rem2 _) ?_
    refine r_eql rfl rfl rfl (bit_dec bits j) ?_
    refine r_assign rfl rfl ?_
    refine r_nil ?_
    refine r_tn ?_
    refine r_seq ?_
    refine r_region ?_
    refine r_move rfl rfl ?_
    refine r_quo rfl rfl rfl (by decide) (quo2i (Nat.lt_of_le_of_lt (sh_le _ _) hb)) ?_
    refine r_assign rfl rfl ?_
    refine r_nil ?_
    refine r_tn ?_
    refine r_seq ?_
    refine r_seq ?_
    refine r_region ?_
    refine r_move rfl rfl ?_
    refine r_move rfl rfl ?_
    refine r_split 30 rfl (fun hb30 => ?_) (fun hb30 => ?_)
    · refine r_go rfl rfl ?_
      refine r_move rfl rfl ?_
      refine r_go rfl rfl ?_
      refine r_move rfl rfl ?_
      refine r_go rfl rfl ?_
      refine r_add (r := ((x + i : Nat) : Int)) rfl rfl rfl ((w64 (by omega)).trans (by omega)) ?_
      refine r_go rfl rfl ?_
      refine r_move rfl rfl ?_
      refine r_go rfl rfl ?_
      refine r_lss (p := decide (x + i < wd_)) rfl rfl rfl (by congr 1; exact propext ⟨fun _ => by omega, fun _ => by omega⟩) ?_
      refine r_pick_t rfl rfl rfl ?_
      refine r_nil ?_
      refine r_tn ?_
      refine r_cond rfl (fun hc => ?_) (fun hc => ?_)
      · refine r_region ?_
        refine r_move rfl rfl ?_
        refine r_move rfl rfl ?_
        refine r_move rfl rfl ?_
        refine r_add (r := ((x + i : Nat) : Int)) rfl rfl rfl ((w64 (by omega)).trans (by omega)) ?_
        have hin : x + i < wd_ := by simpa using hc
        refine r_indexSl (sz := 1) (o' := x + i) rfl rfl rfl rfl rfl (by omega) (by omega) (by first | (simp; done) | (simp; omega) | omega) ?_
        refine r_storeOwn (m := 128) (c := 128) rfl rfl rfl rfl rfl (by omega) ?_
        rw [boolsN_set]
        refine r_nil ?_
        refine r_tn ?_
        refine r_seq ?_
        refine r_region ?_
        refine r_move rfl rfl ?_
        refine r_move rfl rfl ?_
        refine r_split 43 rfl (fun hb43 => ?_) (fun hb43 => ?_)
        · refine r_go rfl rfl ?_
          refine r_move rfl rfl ?_
          refine r_go rfl rfl ?_
          refine r_move rfl rfl ?_
          refine r_go rfl rfl ?_
          refine r_add (r := ((x + i : Nat) : Int)) rfl rfl rfl ((w64 (by omega)).trans (by omega)) ?_
          refine r_go rfl rfl ?_
          refine r_move rfl rfl ?_
          refine r_go rfl rfl ?_
          refine r_geq (p := !decide (x + i < wd_)) rfl rfl rfl (by by_cases h : x + i < wd_ <;> simp [h] <;> omega) ?_
          refine r_pick_t rfl rfl rfl ?_
          refine r_move rfl rfl ?_
          refine r_split 50 rfl (fun hb50 => ?_) (fun hb50 => ?_)
          · refine r_go rfl rfl ?_
            refine r_move rfl rfl ?_
            refine r_go rfl rfl ?_
            refine r_not rfl rfl rfl ?_
            refine r_pick_t rfl rfl rfl ?_
            refine r_nil ?_
            refine r_tn ?_
            refine r_cond rfl (fun hc => ?_) (fun hc => ?_)
            · refine r_region ?_
              refine r_move rfl rfl ?_
              refine r_move rfl rfl ?_
              refine r_move rfl rfl ?_
              refine r_add (r := ((x + i : Nat) : Int)) rfl rfl rfl ((w64 (by omega)).trans (by omega)) ?_
              refine r_move rfl rfl ?_
              refine r_sub (r := ((x + i - wd_ : Nat) : Int)) rfl rfl rfl ((w64 (by omega)).trans (by have h := hb50; simp at h; omega)) ?_
              refine r_indexSl (sz := 1) (o' := x + i - wd_) rfl rfl rfl rfl rfl (by omega) (by omega) (by first | (simp; done) | (simp; omega) | omega) ?_
              refine r_storeOwn (m := 128) (c := 128) rfl rfl rfl rfl rfl (by omega) ?_
              rw [boolsN_set]
              refine r_nil ?_
              refine r_bn ?_
              refine r_tn ?_
              refine r_region ?_
              refine r_move rfl rfl ?_
              refine r_sub (r := (count : Int) - 1 - ((j + 1 : Nat) : Int)) rfl rfl rfl ((w64 (by omega)).trans (by omega)) ?_
              refine r_assign rfl rfl ?_
              refine r_nil ?_
              refine r_tn ?_
              exact r_again1 (j + 1) _ ⟨by omega, fun y hy => by
                rw [spr_any hf hj2 hi y hy]
                first
                  | exact spL0 (by assumption)
                  | exact spL1 (by assumption) (by assumption)
                  | exact spL2 (by assumption) (by simpa using hb50) (by simpa using hc)
                  | exact spL3 (by assumption) (by simpa using hb50) (by simpa using hc)
                  | (exfalso; clear hf; first | (rw [hb30] at hb43; cases hb43; done) | (simp at hb50 hc; omega) | (simp_all; done) | (simp_all; omega))⟩ (by omega) ⟨rfl, rfl, rfl, rfl, rfl, rfl, trivial⟩ (fun w hw => hw)
            · refine r_skip ?_
              refine r_bn ?_
              refine r_tn ?_
              refine r_region ?_
              refine r_move rfl rfl ?_
              refine r_sub (r := (count : Int) - 1 - ((j + 1 : Nat) : Int)) rfl rfl rfl ((w64 (by omega)).trans (by omega)) ?_
              refine r_assign rfl rfl ?_
              refine r_nil ?_
              refine r_tn ?_
              exact r_again1 (j + 1) _ ⟨by omega, fun y hy => by
                rw [spr_any hf hj2 hi y hy]
                first
                  | exact spL0 (by assumption)
                  | exact spL1 (by assumption) (by assumption)
                  | exact spL2 (by assumption) (by simpa using hb50) (by simpa using hc)
                  | exact spL3 (by assumption) (by simpa using hb50) (by simpa using hc)
                  | (exfalso; clear hf; first | (rw [hb30] at hb43; cases hb43; done) | (simp at hb50 hc; omega) | (simp_all; done) | (simp_all; omega))⟩ (by omega) ⟨rfl, rfl, rfl, rfl, rfl, rfl, trivial⟩ (fun w hw => hw)
          · refine r_pass rfl rfl rfl rfl ?_
            refine r_pass rfl rfl rfl rfl ?_
            refine r_pick_f rfl rfl rfl ?_
            refine r_nil ?_
            refine r_tn ?_
            refine r_cond_f rfl ?_
            refine r_skip ?_
            refine r_bn ?_
            refine r_tn ?_
            refine r_region ?_
            refine r_move rfl rfl ?_
            refine r_sub (r := (count : Int) - 1 - ((j + 1 : Nat) : Int)) rfl rfl rfl ((w64 (by omega)).trans (by omega)) ?_
            refine r_assign rfl rfl ?_
            refine r_nil ?_
            refine r_tn ?_
            exact r_again1 (j + 1) _ ⟨by omega, fun y hy => by
              rw [spr_any hf hj2 hi y hy]
              first
                | exact spL0 (by assumption)
                | exact spL1 (by assumption) (by assumption)
                | exact spL2 (by assumption) (by simpa using hb50) (by simpa using hc)
                | exact spL3 (by assumption) (by simpa using hb50) (by simpa using hc)
                | (exfalso; clear hf; first | (rw [hb30] at hb43; cases hb43; done) | (simp at hb50 hc; omega) | (simp_all; done) | (simp_all; omega))⟩ (by omega) ⟨rfl, rfl, rfl, rfl, rfl, rfl, trivial⟩ (fun w hw => hw)
        · refine r_pass rfl rfl rfl rfl ?_
          refine r_pass rfl rfl rfl rfl ?_
          refine r_pass rfl rfl rfl rfl ?_
          refine r_pass rfl rfl rfl rfl ?_
          refine r_pass rfl rfl rfl rfl ?_
          refine r_pick_f rfl rfl rfl ?_
          refine r_move rfl rfl ?_
          refine r_pass rfl rfl rfl rfl ?_
          refine r_pass rfl rfl rfl rfl ?_
          refine r_pick_f rfl rfl rfl ?_
          refine r_nil ?_
          refine r_tn ?_
          refine r_cond_f rfl ?_
          refine r_skip ?_
          refine r_bn ?_
          refine r_tn ?_
          refine r_region ?_
          refine r_move rfl rfl ?_
          refine r_sub (r := (count : Int) - 1 - ((j + 1 : Nat) : Int)) rfl rfl rfl ((w64 (by omega)).trans (by omega)) ?_
          refine r_assign rfl rfl ?_
          refine r_nil ?_
          refine r_tn ?_
          exact r_again1 (j + 1) _ ⟨by omega, fun y hy => by
            rw [spr_any hf hj2 hi y hy]
            first
              | exact spL0 (by assumption)
              | exact spL1 (by assumption) (by assumption)
              | exact spL2 (by assumption) (by simpa using hb50) (by simpa using hc)
              | exact spL3 (by assumption) (by simpa using hb50) (by simpa using hc)
              | (exfalso; clear hf; first | (rw [hb30] at hb43; cases hb43; done) | (simp at hb50 hc; omega) | (simp_all; done) | (simp_all; omega))⟩ (by omega) ⟨rfl, rfl, rfl, rfl, rfl, rfl, trivial⟩ (fun w hw => hw)
      · refine r_skip ?_
        refine r_tn ?_
        refine r_seq ?_
        refine r_region ?_
        refine r_move rfl rfl ?_
        refine r_move rfl rfl ?_
        refine r_split 43 rfl (fun hb43 => ?_) (fun hb43 => ?_)
        · refine r_go rfl rfl ?_
          refine r_move rfl rfl ?_
          refine r_go rfl rfl ?_
          refine r_move rfl rfl ?_
          refine r_go rfl rfl ?_
          refine r_add (r := ((x + i : Nat) : Int)) rfl rfl rfl ((w64 (by omega)).trans (by omega)) ?_
          refine r_go rfl rfl ?_
          refine r_move rfl rfl ?_
          refine r_go rfl rfl ?_
          refine r_geq (p := !decide (x + i < wd_)) rfl rfl rfl (by by_cases h : x + i < wd_ <;> simp [h] <;> omega) ?_
          refine r_pick_t rfl rfl rfl ?_
          refine r_move rfl rfl ?_
          refine r_split 50 rfl (fun hb50 => ?_) (fun hb50 => ?_)
          · refine r_go rfl rfl ?_
            refine r_move rfl rfl ?_
            refine r_go rfl rfl ?_
            refine r_not rfl rfl rfl ?_
            refine r_pick_t rfl rfl rfl ?_
            refine r_nil ?_
            refine r_tn ?_
            refine r_cond rfl (fun hc => ?_) (fun hc => ?_)
            · refine r_region ?_
              refine r_move rfl rfl ?_
              refine r_move rfl rfl ?_
              refine r_move rfl rfl ?_
              refine r_add (r := ((x + i : Nat) : Int)) rfl rfl rfl ((w64 (by omega)).trans (by omega)) ?_
              refine r_move rfl rfl ?_
              refine r_sub (r := ((x + i - wd_ : Nat) : Int)) rfl rfl rfl ((w64 (by omega)).trans (by have h := hb50; simp at h; omega)) ?_
              refine r_indexSl (sz := 1) (o' := x + i - wd_) rfl rfl rfl rfl rfl (by omega) (by omega) (by first | (simp; done) | (simp; omega) | omega) ?_
              refine r_storeOwn (m := 128) (c := 128) rfl rfl rfl rfl rfl (by omega) ?_
              rw [boolsN_set]
              refine r_nil ?_
              refine r_bn ?_
              refine r_tn ?_
              refine r_region ?_
              refine r_move rfl rfl ?_
              refine r_sub (r := (count : Int) - 1 - ((j + 1 : Nat) : Int)) rfl rfl rfl ((w64 (by omega)).trans (by omega)) ?_
              refine r_assign rfl rfl ?_
              refine r_nil ?_
              refine r_tn ?_
              exact r_again1 (j + 1) _ ⟨by omega, fun y hy => by
                rw [spr_any hf hj2 hi y hy]
                first
                  | exact spL0 (by assumption)
                  | exact spL1 (by assumption) (by assumption)
                  | exact spL2 (by assumption) (by simpa using hb50) (by simpa using hc)
                  | exact spL3 (by assumption) (by simpa using hb50) (by simpa using hc)
                  | (exfalso; clear hf; first | (rw [hb30] at hb43; cases hb43; done) | (simp at hb50 hc; omega) | (simp_all; done) | (simp_all; omega))⟩ (by omega) ⟨rfl, rfl, rfl, rfl, rfl, rfl, trivial⟩ (fun w hw => hw)
            · refine r_skip ?_
              refine r_bn ?_
              refine r_tn ?_
              refine r_region ?_
              refine r_move rfl rfl ?_
              refine r_sub (r := (count : Int) - 1 - ((j + 1 : Nat) : Int)) rfl rfl rfl ((w64 (by omega)).trans (by omega)) ?_
              refine r_assign rfl rfl ?_
              refine r_nil ?_
              refine r_tn ?_
              exact r_again1 (j + 1) _ ⟨by omega, fun y hy => by
                rw [spr_any hf hj2 hi y hy]
                first
                  | exact spL0 (by assumption)
                  | exact spL1 (by assumption) (by assumption)
                  | exact spL2 (by assumption) (by simpa using hb50) (by simpa using hc)
                  | exact spL3 (by assumption) (by simpa using hb50) (by simpa using hc)
                  | (exfalso; clear hf; first | (rw [hb30] at hb43; cases hb43; done) | (simp at hb50 hc; omega) | (simp_all; done) | (simp_all; omega))⟩ (by omega) ⟨rfl, rfl, rfl, rfl, rfl, rfl, trivial⟩ (fun w hw => hw)
          · refine r_pass rfl rfl rfl rfl ?_
            refine r_pass rfl rfl rfl rfl ?_
            refine r_pick_f rfl rfl rfl ?_
            refine r_nil ?_
            refine r_tn ?_
            refine r_cond_f rfl ?_
            refine r_skip ?_
            refine r_bn ?_
            refine r_tn ?_
            refine r_region ?_
            refine r_move rfl rfl ?_
            refine r_sub (r := (count : Int) - 1 - ((j + 1 : Nat) : Int)) rfl rfl rfl ((w64 (by omega)).trans (by omega)) ?_
            refine r_assign rfl rfl ?_
            refine r_nil ?_
            refine r_tn ?_
            exact r_again1 (j + 1) _ ⟨by omega, fun y hy => by
              rw [spr_any hf hj2 hi y hy]
              first
                | exact spL0 (by assumption)
                | exact spL1 (by assumption) (by assumption)
                | exact spL2 (by assumption) (by simpa using hb50) (by simpa using hc)
                | exact spL3 (by assumption) (by simpa using hb50) (by simpa using hc)
                | (exfalso; clear hf; first | (rw [hb30] at hb43; cases hb43; done) | (simp at hb50 hc; omega) | (simp_all; done) | (simp_all; omega))⟩ (by omega) ⟨rfl, rfl, rfl, rfl, rfl, rfl, trivial⟩ (fun w hw => hw)
        · refine r_pass rfl rfl rfl rfl ?_
          refine r_pass rfl rfl rfl rfl ?_
          refine r_pass rfl rfl rfl rfl ?_
          refine r_pass rfl rfl rfl rfl ?_
          refine r_pass rfl rfl rfl rfl ?_
          refine r_pick_f rfl rfl rfl ?_
          refine r_move rfl rfl ?_
          refine r_pass rfl rfl rfl rfl ?_
          refine r_pass rfl rfl rfl rfl ?_
          refine r_pick_f rfl rfl rfl ?_
          refine r_nil ?_
          refine r_tn ?_
          refine r_cond_f rfl ?_
          refine r_skip ?_
          refine r_bn ?_
          refine r_tn ?_
          refine r_region ?_
          refine r_move rfl rfl ?_
          refine r_sub (r := (count : Int) - 1 - ((j + 1 : Nat) : Int)) rfl rfl rfl ((w64 (by omega)).trans (by omega)) ?_
          refine r_assign rfl rfl ?_
          refine r_nil ?_
          refine r_tn ?_
          exact r_again1 (j + 1) _ ⟨by omega, fun y hy => by
            rw [spr_any hf hj2 hi y hy]
            first
              | exact spL0 (by assumption)
              | exact spL1 (by assumption) (by assumption)
              | exact spL2 (by assumption) (by simpa using hb50) (by simpa using hc)
              | exact spL3 (by assumption) (by simpa using hb50) (by simpa using hc)
              | (exfalso; clear hf; first | (rw [hb30] at hb43; cases hb43; done) | (simp at hb50 hc; omega) | (simp_all; done) | (simp_all; omega))⟩ (by omega) ⟨rfl, rfl, rfl, rfl, rfl, rfl, trivial⟩ (fun w hw => hw)
    · refine r_pass rfl rfl rfl rfl ?_
      refine r_pass rfl rfl rfl rfl ?_
      refine r_pass rfl rfl rfl rfl ?_
      refine r_pass rfl rfl rfl rfl ?_
      refine r_pass rfl rfl rfl rfl ?_
      refine r_pick_f rfl rfl rfl ?_
      refine r_nil ?_
      refine r_tn ?_
      refine r_cond_f rfl ?_
      refine r_skip ?_
      refine r_tn ?_
      refine r_seq ?_
      refine r_region ?_
      refine r_move rfl rfl ?_
      refine r_move rfl rfl ?_
      refine r_split 43 rfl (fun hb43 => ?_) (fun hb43 => ?_)
      · refine r_go rfl rfl ?_
        refine r_move rfl rfl ?_
        refine r_go rfl rfl ?_
        refine r_move rfl rfl ?_
        refine r_go rfl rfl ?_
        refine r_add (r := ((x + i : Nat) : Int)) rfl rfl rfl ((w64 (by omega)).trans (by omega)) ?_
        refine r_go rfl rfl ?_
        refine r_move rfl rfl ?_
        refine r_go rfl rfl ?_
        refine r_geq (p := !decide (x + i < wd_)) rfl rfl rfl (by by_cases h : x + i < wd_ <;> simp [h] <;> omega) ?_
        refine r_pick_t rfl rfl rfl ?_
        refine r_move rfl rfl ?_
        refine r_split 50 rfl (fun hb50 => ?_) (fun hb50 => ?_)
        · refine r_go rfl rfl ?_
          refine r_move rfl rfl ?_
          refine r_go rfl rfl ?_
          refine r_not rfl rfl rfl ?_
          refine r_pick_t rfl rfl rfl ?_
          refine r_nil ?_
          refine r_tn ?_
          refine r_cond rfl (fun hc => ?_) (fun hc => ?_)
          · refine r_region ?_
            refine r_move rfl rfl ?_
            refine r_move rfl rfl ?_
            refine r_move rfl rfl ?_
            refine r_add (r := ((x + i : Nat) : Int)) rfl rfl rfl ((w64 (by omega)).trans (by omega)) ?_
            refine r_move rfl rfl ?_
            refine r_sub (r := ((x + i - wd_ : Nat) : Int)) rfl rfl rfl ((w64 (by omega)).trans (by have h := hb50; simp at h; omega)) ?_
            refine r_indexSl (sz := 1) (o' := x + i - wd_) rfl rfl rfl rfl rfl (by omega) (by omega) (by first | (simp; done) | (simp; omega) | omega) ?_
            refine r_storeOwn (m := 128) (c := 128) rfl rfl rfl rfl rfl (by omega) ?_
            rw [boolsN_set]
            refine r_nil ?_
            refine r_bn ?_
            refine r_tn ?_
            refine r_region ?_
            refine r_move rfl rfl ?_
            refine r_sub (r := (count : Int) - 1 - ((j + 1 : Nat) : Int)) rfl rfl rfl ((w64 (by omega)).trans (by omega)) ?_
            refine r_assign rfl rfl ?_
            refine r_nil ?_
            refine r_tn ?_
            exact r_again1 (j + 1) _ ⟨by omega, fun y hy => by
              rw [spr_any hf hj2 hi y hy]
              first
                | exact spL0 (by assumption)
                | exact spL1 (by assumption) (by assumption)
                | exact spL2 (by assumption) (by simpa using hb50) (by simpa using hc)
                | exact spL3 (by assumption) (by simpa using hb50) (by simpa using hc)
                | (exfalso; clear hf; first | (rw [hb30] at hb43; cases hb43; done) | (simp at hb50 hc; omega) | (simp_all; done) | (simp_all; omega))⟩ (by omega) ⟨rfl, rfl, rfl, rfl, rfl, rfl, trivial⟩ (fun w hw => hw)
          · refine r_skip ?_
            refine r_bn ?_
            refine r_tn ?_
            refine r_region ?_
            refine r_move rfl rfl ?_
            refine r_sub (r := (count : Int) - 1 - ((j + 1 : Nat) : Int)) rfl rfl rfl ((w64 (by omega)).trans (by omega)) ?_
            refine r_assign rfl rfl ?_
            refine r_nil ?_
            refine r_tn ?_
            exact r_again1 (j + 1) _ ⟨by omega, fun y hy => by
              rw [spr_any hf hj2 hi y hy]
              first
                | exact spL0 (by assumption)
                | exact spL1 (by assumption) (by assumption)
                | exact spL2 (by assumption) (by simpa using hb50) (by simpa using hc)
                | exact spL3 (by assumption) (by simpa using hb50) (by simpa using hc)
                | (exfalso; clear hf; first | (rw [hb30] at hb43; cases hb43; done) | (simp at hb50 hc; omega) | (simp_all; done) | (simp_all; omega))⟩ (by omega) ⟨rfl, rfl, rfl, rfl, rfl, rfl, trivial⟩ (fun w hw => hw)
        · refine r_pass rfl rfl rfl rfl ?_
          refine r_pass rfl rfl rfl rfl ?_
          refine r_pick_f rfl rfl rfl ?_
          refine r_nil ?_
          refine r_tn ?_
          refine r_cond_f rfl ?_
          refine r_skip ?_
          refine r_bn ?_
          refine r_tn ?_
          refine r_region ?_
          refine r_move rfl rfl ?_
          refine r_sub (r := (count : Int) - 1 - ((j + 1 : Nat) : Int)) rfl rfl rfl ((w64 (by omega)).trans (by omega)) ?_
          refine r_assign rfl rfl ?_
          refine r_nil ?_
          refine r_tn ?_
          exact r_again1 (j + 1) _ ⟨by omega, fun y hy => by
            rw [spr_any hf hj2 hi y hy]
            first
              | exact spL0 (by assumption)
              | exact spL1 (by assumption) (by assumption)
              | exact spL2 (by assumption) (by simpa using hb50) (by simpa using hc)
              | exact spL3 (by assumption) (by simpa using hb50) (by simpa using hc)
              | (exfalso; clear hf; first | (rw [hb30] at hb43; cases hb43; done) | (simp at hb50 hc; omega) | (simp_all; done) | (simp_all; omega))⟩ (by omega) ⟨rfl, rfl, rfl, rfl, rfl, rfl, trivial⟩ (fun w hw => hw)
      · refine r_pass rfl rfl rfl rfl ?_
        refine r_pass rfl rfl rfl rfl ?_
        refine r_pass rfl rfl rfl rfl ?_
        refine r_pass rfl rfl rfl rfl ?_
        refine r_pass rfl rfl rfl rfl ?_
        refine r_pick_f rfl rfl rfl ?_
        refine r_move rfl rfl ?_
        refine r_pass rfl rfl rfl rfl ?_
        refine r_pass rfl rfl rfl rfl ?_
        refine r_pick_f rfl rfl rfl ?_
        refine r_nil ?_
        refine r_tn ?_
        refine r_cond_f rfl ?_
        refine r_skip ?_
        refine r_bn ?_
        refine r_tn ?_
        refine r_region ?_
        refine r_move rfl rfl ?_
        refine r_sub (r := (count : Int) - 1 - ((j + 1 : Nat) : Int)) rfl rfl rfl ((w64 (by omega)).trans (by omega)) ?_
        refine r_assign rfl rfl ?_
        refine r_nil ?_
        refine r_tn ?_
        exact r_again1 (j + 1) _ ⟨by omega, fun y hy => by
          rw [spr_any hf hj2 hi y hy]
          first
            | exact spL0 (by assumption)
            | exact spL1 (by assumption) (by assumption)
            | exact spL2 (by assumption) (by simpa using hb50) (by simpa using hc)
            | exact spL3 (by assumption) (by simpa using hb50) (by simpa using hc)
            | (exfalso; clear hf; first | (rw [hb30] at hb43; cases hb43; done) | (simp at hb50 hc; omega) | (simp_all; done) | (simp_all; omega))⟩ (by omega) ⟨rfl, rfl, rfl, rfl, rfl, rfl, trivial⟩ (fun w hw => hw)
  · refine r_exit ?_
    refine r_te ?_
    refine r_te ?_
    refine r_be ?_
    refine r_tn ?_
    refine r_seq ?_
    refine r_region ?_
    refine r_move rfl rfl ?_
    refine r_assign rfl rfl ?_
    refine r_nil ?_
    refine r_tn ?_
    refine r_ret ?_
    have hj2 : j = count := by have h := of_decide_eq_false hc; omega
    subst hj2
    exact r_done1 (.inl rfl) rfl (res_tmp rfl) fun w hw => ⟨b15, rfl, trivial, by rw [boolsN_congr (fun y hy => (hf y hy).trans (spr_end bits j x wd_ clip hwd hx hcn y hy))] at hw; exact hw⟩
end Go.Proofs.Ytahanpobeekhiaa
