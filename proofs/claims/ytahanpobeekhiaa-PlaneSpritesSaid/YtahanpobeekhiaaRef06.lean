/-
  The reference for rows of pixels (chapter 06): Pixels, Same.
-/
import Derived.Test.YtahanpobeekhiaaSpr06
namespace Go.Proofs.Ytahanpobeekhiaa
open Go Go.RowKit
set_option linter.unusedVariables false
set_option linter.unusedSimpArgs false
set_option maxHeartbeats 2000000

/-- a list of n Bools -/
def boolsN (n : Nat) (f : Nat → Bool) : List Value := (List.range n).map fun y => Value.bool (f y)
theorem boolsN_len (n : Nat) (f : Nat → Bool) : (boolsN n f).length = n := by simp [boolsN]
theorem boolsN_at {n k : Nat} (f : Nat → Bool) (h : k < n) : (boolsN n f)[k]? = some (.bool (f k)) := by simp [boolsN, h]
theorem boolsN_set (n : Nat) (f : Nat → Bool) (k : Nat) (v : Bool) : (boolsN n f).set k (.bool v) = boolsN n (fun y => if y = k then v else f y) := by
  apply List.ext_getElem?
  intro i
  rw [List.getElem?_set]
  by_cases h : k = i
  · subst h
    by_cases h2 : k < n
    · simp [boolsN, h2]
    · simp [boolsN, h2]
  · rw [if_neg h]
    simp only [boolsN, List.getElem?_map]
    by_cases h2 : i < n
    · simp [h2, Ne.symm h]
    · simp [h2]
theorem boolsN_congr {n : Nat} {f g : Nat → Bool} (h : ∀ y, y < n → f y = g y) : boolsN n f = boolsN n g := by
  unfold boolsN
  apply List.map_congr_left
  intro y hy
  rw [h y (List.mem_range.1 hy)]
theorem quo2 {x : Nat} (h : x < 2 ^ 64) : IntKind.u64.wrap (((x : Nat) : Int).tdiv 2) = ((x / 2 : Nat) : Int) := by
  rw [show ((x : Nat) : Int).tdiv 2 = ((x / 2 : Nat) : Int) from rfl]
  exact IntWalk.u64_in _ ⟨by omega, by omega⟩
theorem quo2i {x : Nat} (h : x < 65536) : IntKind.i64.wrap (((x : Nat) : Int).tdiv 2) = ((x / 2 : Nat) : Int) := by
  rw [show ((x : Nat) : Int).tdiv 2 = ((x / 2 : Nat) : Int) from rfl]
  exact w64 (by omega)
theorem rem2 (x : Nat) : ((x : Nat) : Int).tmod 2 = ((x % 2 : Nat) : Int) := rfl
theorem hi_bit (p : Nat → Bool) {k : Nat} (h : k < 64) : (hiN p).testBit k = p (63 - k) := by unfold hiN; rw [num_bit]; simp [h]
theorem lo_bit (p : Nat → Bool) {k : Nat} (h : k < 64) : (loN p).testBit k = p (127 - k) := by unfold loN; rw [num_bit]; simp [h]
theorem hi_lt (p : Nat → Bool) : hiN p < 2 ^ 64 := num_lt _ 64
theorem lo_lt (p : Nat → Bool) : loN p < 2 ^ 64 := num_lt _ 64
def hit (bits count x w : Nat) (clip : Bool) (i y : Nat) : Bool := bits.testBit (count - 1 - i) && ((decide (x + i < w) && decide (y = x + i)) || (!decide (x + i < w) && !clip && decide (y + w = x + i)))


theorem pix_zero (p : Nat → Bool) (y : Nat) (hy : y < 128) : noneP y = (p y && ((decide (63 < y + 0) && decide (y < 64)) || decide (127 < y + 0))) := by
  have h2 : ¬ 127 < y + 0 := by omega
  by_cases h : y < 64
  · have h1 : ¬ 63 < y + 0 := by omega
    rw [decide_eq_false h1, decide_eq_false h2]; simp [noneP]
  · rw [decide_eq_false h, decide_eq_false h2]; simp [noneP]
theorem pix_step (p f : Nat → Bool) {k : Nat} (hk : k < 64) (hf : ∀ y, y < 128 → f y = (p y && ((decide (63 < y + k) && decide (y < 64)) || decide (127 < y + k)))) (y : Nat) (hy : y < 128) :
    (if y = 127 - k then p (127 - k) else if y = 63 - k then p (63 - k) else f y) = (p y && ((decide (63 < y + (k + 1)) && decide (y < 64)) || decide (127 < y + (k + 1)))) := by
  by_cases h1 : y = 127 - k
  · have h2 : 127 < y + (k + 1) := by omega
    rw [if_pos h1, h1]; subst h1; simp [h2]
  · rw [if_neg h1]
    by_cases h2 : y = 63 - k
    · have h3 : 63 < y + (k + 1) ∧ y < 64 := by omega
      rw [if_pos h2]; subst h2; simp [h3.1, h3.2]
    · rw [if_neg h2, hf y hy]
      by_cases h4 : y < 64
      · have e1 : decide (63 < y + (k + 1)) = decide (63 < y + k) := by congr 1; exact propext ⟨fun _ => by omega, fun _ => by omega⟩
        have e2 : decide (127 < y + (k + 1)) = decide (127 < y + k) := by congr 1; exact propext ⟨fun _ => by omega, fun _ => by omega⟩
        rw [e1, e2]
      · have e2 : decide (127 < y + (k + 1)) = decide (127 < y + k) := by congr 1; exact propext ⟨fun _ => by omega, fun _ => by omega⟩
        rw [e2]; simp [h4]
theorem pix_end (p f : Nat → Bool) (hf : ∀ y, y < 128 → f y = (p y && ((decide (63 < y + 64) && decide (y < 64)) || decide (127 < y + 64)))) (y : Nat) (hy : y < 128) : f y = p y := by
  rw [hf y hy]
  by_cases h4 : y < 64
  · have h : 63 < y + 64 := by omega
    simp [h, h4]
  · have h : 127 < y + 64 := by omega
    simp [h]

theorem refPixels (p : Nat → Bool) (w : World) :
    Calls Try.prog 45 #[.int .u64 ((hiN p : Nat) : Int), .int .u64 ((loN p : Nat) : Int)] w fun e w' => ∃ b : Nat, e = .returned (.slice (some ⟨b, 0, none⟩) 128 128) ∧ True ∧ Sat w [] [.own 4 1 (.slice (some ⟨b, 0, none⟩) 128 128) 128 (boolsN 128 (p))] w' := by
  refine enter Try.func45 rfl rfl rfl ?_
  refine r_seq ?_
  refine r_region ?_
  refine r_assign rfl rfl ?_
  refine r_nil ?_
  refine r_tn ?_
  refine r_seq ?_
  refine r_region ?_
  refine r_makeSlice (m := 128) (sz := 1) (bytes := 1) (xs := boolsN 128 noneP) rfl rfl rfl rfl rfl rfl rfl (by decide) (by decide) (by kernel_rfl) (fun b7 => ?_)
  refine r_assign rfl rfl ?_
  refine r_nil ?_
  refine r_tn ?_
  refine r_seq ?_
  refine r_seq ?_
  refine r_region ?_
  refine r_assign rfl rfl ?_
  refine r_nil ?_
  refine r_tn ?_
  refine r_block ?_
  refine r_loop1 (fun k (f : Nat → Bool) => [(0, .int .u64 ((hiN p >>> k : Nat) : Int)), (1, .int .u64 ((loN p >>> k : Nat) : Int)), (5, .slice (some ⟨b7, 0, none⟩) 128 128), (6, .int .i64 (k : Int))]) (fun k f => [.own 4 1 (.slice (some ⟨b7, 0, none⟩) 128 128) 128 (boolsN 128 (f))]) (fun k f => k ≤ 64 ∧ ∀ y, y < 128 → f y = (p y && ((decide (63 < y + k) && decide (y < 64)) || decide (127 < y + k)))) 64 0 noneP ⟨by omega, fun y hy => ?pz⟩ ⟨rfl, rfl, rfl, rfl, trivial⟩ (fun w hw => hw.sub) fun k f hf => ?pr
  case pz =>
    exact pix_zero p y hy
  case pr =>
  obtain ⟨hk, hf⟩ := hf
  refine r_seq ?_
  refine r_seq ?_
  refine r_region ?_
  refine r_move rfl rfl ?_
  refine r_lss rfl rfl rfl rfl ?_
  refine r_nil ?_
  refine r_tn ?_
  refine r_cond rfl (fun hc => ?_) (fun hc => ?_)
  · refine r_skip ?_
    refine r_tn ?_
    refine r_seq ?_
    refine r_block ?_
    refine r_seq ?_
    refine r_region ?_
    have hk2 : k < 64 := by have h := of_decide_eq_true hc; omega
    refine r_move rfl rfl ?_
    refine r_move rfl rfl ?_
    refine r_sub rfl rfl rfl (w64 (by omega)) ?_
    refine r_move rfl rfl ?_
    refine r_rem rfl rfl rfl (by decide) (rem2 _) ?_
    refine r_eql rfl rfl rfl ((bit_dec (hiN p) k).trans (hi_bit p hk2)) ?_
    refine r_indexSl (sz := 1) (o' := 63 - k) rfl rfl rfl rfl rfl (by omega) (by omega) (by first | (simp; done) | (simp; omega) | omega) ?_
    refine r_storeOwn (m := 128) (c := 128) rfl rfl rfl rfl rfl (by omega) ?_
    rw [boolsN_set]
    refine r_nil ?_
    refine r_tn ?_
    refine r_seq ?_
    refine r_region ?_
    refine r_move rfl rfl ?_
    refine r_move rfl rfl ?_
    refine r_sub rfl rfl rfl (w64 (by omega)) ?_
    refine r_move rfl rfl ?_
    refine r_rem rfl rfl rfl (by decide) (rem2 _) ?_
    refine r_eql rfl rfl rfl ((bit_dec (loN p) k).trans (lo_bit p hk2)) ?_
    refine r_indexSl (sz := 1) (o' := 127 - k) rfl rfl rfl rfl rfl (by omega) (by omega) (by first | (simp; done) | (simp; omega) | omega) ?_
    refine r_storeOwn (m := 128) (c := 128) rfl rfl rfl rfl rfl (by omega) ?_
    rw [boolsN_set]
    refine r_nil ?_
    refine r_tn ?_
    refine r_seq ?_
    refine r_region ?_
    refine r_move rfl rfl ?_
    refine r_quo rfl rfl rfl (by decide) (quo2 (Nat.lt_of_le_of_lt (sh_le _ _) (hi_lt p))) ?_
    refine r_assign rfl rfl ?_
    refine r_nil ?_
    refine r_tn ?_
    refine r_region ?_
    refine r_move rfl rfl ?_
    refine r_quo rfl rfl rfl (by decide) (quo2 (Nat.lt_of_le_of_lt (sh_le _ _) (lo_lt p))) ?_
    refine r_assign rfl rfl ?_
    refine r_nil ?_
    refine r_bn ?_
    refine r_tn ?_
    refine r_region ?_
    refine r_move rfl rfl ?_
    refine r_add rfl rfl rfl (w64 (by omega)) ?_
    refine r_assign rfl rfl ?_
    refine r_nil ?_
    refine r_tn ?_
    exact r_again1 (k + 1) _ ⟨by omega, fun y hy => pix_step p f hk2 hf y hy⟩ (by omega) ⟨rfl, rfl, rfl, rfl, trivial⟩ (fun w hw => hw)
  · refine r_exit ?_
    refine r_te ?_
    refine r_te ?_
    refine r_be ?_
    refine r_tn ?_
    refine r_seq ?_
    refine r_region ?_
    refine r_move rfl rfl ?_
    refine r_assign rfl rfl ?_
    refine r_nil ?_
    refine r_tn ?_
    refine r_ret ?_
    have hk2 : k = 64 := by have h := of_decide_eq_false hc; omega
    subst hk2
    exact r_done1 (.inl rfl) rfl (res_tmp rfl) fun w hw => ⟨b7, rfl, trivial, by rw [boolsN_congr (pix_end p f hf)] at hw; exact hw⟩

theorem lawPixels (p : Nat → Bool) (w : World) :
    Calls Try.prog 16 #[.agg (rowV p)] w fun e w' => ∃ b : Nat, e = .returned (.slice (some ⟨b, 0, none⟩) 128 128) ∧ True ∧ Sat w [] [.own 4 1 (.slice (some ⟨b, 0, none⟩) 128 128) 128 (boolsN 128 (p))] w' := by
  refine enter Try.func16 rfl rfl rfl ?_
  refine r_seq ?_
  refine r_region ?_
  refine r_boxV rfl rfl fun b1 => ?_
  refine r_assign rfl rfl ?_
  refine r_nil ?_
  refine r_tn ?_
  refine r_seq ?_
  refine r_region ?_
  refine r_fieldAddr (off := 0) (o' := 0) rfl rfl rfl rfl ?_
  refine r_load1 rfl rfl rfl (by rfl) ?_
  refine r_fieldAddr (off := 1) (o' := 1) rfl rfl rfl rfl ?_
  refine r_load1 rfl rfl rfl (by rfl) ?_
  refine r_callx rfl rfl rfl (by kernel_rfl) rfl (fun w hw => refPixels p w) ?_
  rintro b7 _
  refine r_assign rfl rfl ?_
  refine r_nil ?_
  refine r_tn ?_
  refine r_ret ?_
  exact r_done1 (.inl rfl) rfl (res_tmp rfl) fun w hw => ⟨_, rfl, trivial, hw.sub⟩

theorem refSame (f g : Nat → Bool) (a b ca cb : Nat) (w : World) (ha : Rd w (some ⟨a, 0, none⟩) (boolsN 128 f)) (hb : Rd w (some ⟨b, 0, none⟩) (boolsN 128 g)) :
    Calls Try.prog 19 #[.slice (some ⟨a, 0, none⟩) 128 ca, .slice (some ⟨b, 0, none⟩) 128 cb] w fun e w' => e = .returned (.bool (eqB f g)) ∧ Sat w [] [] w' := by
  refine enter Try.func19 rfl rfl rfl ?_
  refine r_seq ?_
  refine r_region ?_
  refine r_assign rfl rfl ?_
  refine r_nil ?_
  refine r_tn ?_
  refine r_seq ?_
  refine r_seq ?_
  refine r_region ?_
  refine r_move rfl rfl ?_
  refine r_len rfl rfl rfl ?_
  refine r_move rfl rfl ?_
  refine r_len rfl rfl rfl ?_
  refine r_neq rfl rfl rfl (decide_eq_false (fun h => h rfl)) ?_
  refine r_nil ?_
  refine r_tn ?_
  refine r_cond_f rfl ?_
  refine r_skip ?_
  refine r_tn ?_
  refine r_seq ?_
  refine r_seq ?_
  refine r_region ?_
  refine r_assign rfl rfl ?_
  refine r_nil ?_
  refine r_tn ?_
  refine r_block ?_
  refine r_loopN (fun k => [(0, .slice (some ⟨a, 0, none⟩) 128 ca), (1, .slice (some ⟨b, 0, none⟩) 128 cb), (5, .int .i64 (k : Int))]) (fun k => []) (fun k => k ≤ 128 ∧ ∀ y, y < k → f y = g y) 128 0 ⟨by omega, fun y h => by omega⟩ ⟨rfl, rfl, rfl, trivial⟩ (fun w hw => hw) fun k hk => ?_
  obtain ⟨hk, hf⟩ := hk
  refine r_seq ?_
  refine r_seq ?_
  refine r_region ?_
  refine r_move rfl rfl ?_
  refine r_move rfl rfl ?_
  refine r_len rfl rfl rfl ?_
  refine r_lss rfl rfl rfl rfl ?_
  refine r_nil ?_
  refine r_tn ?_
  refine r_cond rfl (fun hc => ?_) (fun hc => ?_)
  · refine r_skip ?_
    refine r_tn ?_
    refine r_seq ?_
    refine r_block ?_
    refine r_seq ?_
    refine r_mixed (by kernel_rfl) (by kernel_rfl) ?_
    have hk2 : k < 128 := by have h := of_decide_eq_true hc; omega
    refine r_move rfl rfl ?_
    refine r_move rfl rfl ?_
    refine r_indexSl (sz := 1) (o' := k) rfl rfl rfl rfl rfl (by omega) (by omega) (by first | (simp; done) | (simp; omega) | omega) ?_
    refine r_loadC (p := ⟨a, k, none⟩) rfl rfl rfl (fun w hw => (ha.keep hw).cell (boolsN_at f hk2) rfl |> fun h => by simpa using h) ?_ (fun h => Bool.noConfusion h)
    refine r_move rfl rfl ?_
    refine r_move rfl rfl ?_
    refine r_indexSl (sz := 1) (o' := k) rfl rfl rfl rfl rfl (by omega) (by omega) (by first | (simp; done) | (simp; omega) | omega) ?_
    refine r_loadC (p := ⟨b, k, none⟩) rfl rfl rfl (fun w hw => (hb.keep hw).cell (boolsN_at g hk2) rfl |> fun h => by simpa using h) ?_ (fun h => Bool.noConfusion h)
    refine r_neq_bool rfl rfl rfl rfl rfl ?_
    refine r_nil ?_
    refine r_tn ?_
    refine r_cond rfl (fun hc => ?_) (fun hc => ?_)
    · refine r_seq ?_
      refine r_region ?_
      refine r_assign rfl rfl ?_
      refine r_nil ?_
      refine r_tn ?_
      refine r_ret ?_
      refine r_br ?_
      refine r_tr ?_
      refine r_tr ?_
      refine r_br ?_
      refine r_tr ?_
      exact r_done1 (.inl rfl) rfl (res_tmp rfl) fun w hw => ⟨by rw [show eqB f g = false from Bool.eq_false_iff.2 fun h => by have h2 := (eqB_iff f g).1 h k hk2; simp [h2] at hc], hw.clear⟩
    · refine r_skip ?_
      refine r_bn ?_
      refine r_tn ?_
      refine r_region ?_
      refine r_move rfl rfl ?_
      refine r_add rfl rfl rfl (w64 (by omega)) ?_
      refine r_assign rfl rfl ?_
      refine r_nil ?_
      refine r_tn ?_
      exact r_againN (k + 1) ⟨by omega, fun y hy => if e : y = k then by subst e; simpa using hc else hf y (by omega)⟩ (by omega) ⟨rfl, rfl, rfl, trivial⟩ (fun w hw => hw)
  · refine r_exit ?_
    refine r_te ?_
    refine r_te ?_
    refine r_be ?_
    refine r_tn ?_
    refine r_seq ?_
    refine r_region ?_
    refine r_assign rfl rfl ?_
    refine r_nil ?_
    refine r_tn ?_
    refine r_ret ?_
    exact r_done1 (.inl rfl) rfl (res_tmp rfl) fun w hw => ⟨by rw [show eqB f g = true from (eqB_iff f g).2 fun x hx => hf x (by have h := of_decide_eq_false hc; omega)], hw.clear⟩
end Go.Proofs.Ytahanpobeekhiaa
