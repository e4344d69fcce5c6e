/-
  The reference for planes (chapter 07): Scroll.
-/
import Derived.Test.YtahanpobeekhiaaCnt07
namespace Go.Proofs.Ytahanpobeekhiaa
open Go Go.RowKit
set_option linter.unusedVariables false
set_option linter.unusedSimpArgs false
set_option maxHeartbeats 2000000
attribute [local irreducible] mix

theorem sc_in (P : Nat → Nat → Bool) (dx dy : Int) (hires : Bool) {i k : Nat} (hi : i < ht hires) (hk : k < wd hires) (hin : 0 ≤ (k : Int) - dx ∧ (k : Int) - dx < wd hires ∧ 0 ≤ (i : Int) - dy ∧ (i : Int) - dy < ht hires) : scrollQ P dx dy hires i k = P ((i : Int) - dy).toNat ((k : Int) - dx).toNat := by
  have hwd : wd hires ≤ 128 := by cases hires <;> decide
  unfold scrollQ partQ scrollRow
  rw [if_pos hi, if_pos ⟨hin.2.2.1, hin.2.2.2⟩]
  unfold shiftP
  rw [decide_eq_true hk, decide_eq_true hin.1, decide_eq_true (show (k : Int) - dx < 128 by omega)]
  rfl
theorem sc_out (P : Nat → Nat → Bool) (dx dy : Int) (hires : Bool) (hp : ∀ y x, y < 64 → x < 128 → P y x = true → x < wd hires ∧ y < ht hires) {i k : Nat} (hi : i < ht hires) (hk : k < wd hires) (hout : ¬ (0 ≤ (k : Int) - dx ∧ (k : Int) - dx < wd hires ∧ 0 ≤ (i : Int) - dy ∧ (i : Int) - dy < ht hires)) : scrollQ P dx dy hires i k = false := by
  have hwd : wd hires ≤ 128 := by cases hires <;> decide
  have hht : ht hires ≤ 64 := by cases hires <;> decide
  unfold scrollQ partQ scrollRow
  rw [if_pos hi]
  by_cases h1 : 0 ≤ (i : Int) - dy ∧ (i : Int) - dy < ht hires
  · rw [if_pos h1]
    unfold shiftP
    by_cases h2 : 0 ≤ (k : Int) - dx
    · by_cases h3 : (k : Int) - dx < 128
      · have h4 : P ((i : Int) - dy).toNat ((k : Int) - dx).toNat = false := Bool.eq_false_iff.2 fun h => by
          have := (hp _ _ (by omega) (by omega) h).1
          exact hout ⟨h2, by omega, h1.1, h1.2⟩
        rw [h4]; simp
      · rw [decide_eq_false h3]; simp
    · rw [decide_eq_false h2]; simp
  · rw [if_neg h1]; rfl
theorem rsc_pix (P : Nat → Nat → Bool) (dx dy : Int) (hires : Bool) (g : Nat → Bool) {i k : Nat} (hg : ∀ z, z < 8192 → g z = (decide (z / 128 < i ∨ (z / 128 = i ∧ z % 128 < k)) && flatP (scrollQ P dx dy hires) z)) {z : Nat} (hz : z < 8192) (h : ¬ (z / 128 = i ∧ z % 128 = k)) : g z = (decide (z / 128 < i ∨ (z / 128 = i ∧ z % 128 < k + 1)) && flatP (scrollQ P dx dy hires) z) := by
  rw [hg z hz]
  congr 2
  exact propext ⟨fun h1 => by omega, fun h1 => by omega⟩
theorem rsc_put (P : Nat → Nat → Bool) (dx dy : Int) (hires : Bool) (g : Nat → Bool) {i k : Nat} (hg : ∀ z, z < 8192 → g z = (decide (z / 128 < i ∨ (z / 128 = i ∧ z % 128 < k)) && flatP (scrollQ P dx dy hires) z)) (hi : i < ht hires) (hk : k < wd hires) (hin : 0 ≤ (k : Int) - dx ∧ (k : Int) - dx < wd hires ∧ 0 ≤ (i : Int) - dy ∧ (i : Int) - dy < ht hires) (z : Nat) (hz : z < 8192) :
    (if z = 128 * i + k then P ((i : Int) - dy).toNat ((k : Int) - dx).toNat else g z) = (decide (z / 128 < i ∨ (z / 128 = i ∧ z % 128 < k + 1)) && flatP (scrollQ P dx dy hires) z) := by
  have hwd : wd hires ≤ 128 := by cases hires <;> decide
  by_cases e : z = 128 * i + k
  · rw [if_pos e]
    have e1 : z / 128 = i := by omega
    have e2 : z % 128 = k := by omega
    unfold flatP
    rw [e1, e2, decide_eq_true (show i < i ∨ (i = i ∧ k < k + 1) by omega), sc_in P dx dy hires hi hk hin]; rfl
  · rw [if_neg e]; exact rsc_pix P dx dy hires g hg hz (by omega)
theorem rsc_skip (P : Nat → Nat → Bool) (dx dy : Int) (hires : Bool) (g : Nat → Bool) (hp : ∀ y x, y < 64 → x < 128 → P y x = true → x < wd hires ∧ y < ht hires) {i k : Nat} (hg : ∀ z, z < 8192 → g z = (decide (z / 128 < i ∨ (z / 128 = i ∧ z % 128 < k)) && flatP (scrollQ P dx dy hires) z)) (hi : i < ht hires) (hk : k < wd hires) (hout : ¬ (0 ≤ (k : Int) - dx ∧ (k : Int) - dx < wd hires ∧ 0 ≤ (i : Int) - dy ∧ (i : Int) - dy < ht hires)) (z : Nat) (hz : z < 8192) :
    g z = (decide (z / 128 < i ∨ (z / 128 = i ∧ z % 128 < k + 1)) && flatP (scrollQ P dx dy hires) z) := by
  by_cases e : z / 128 = i ∧ z % 128 = k
  · rw [hg z hz]
    have h0 : flatP (scrollQ P dx dy hires) z = false := by unfold flatP; rw [e.1, e.2]; exact sc_out P dx dy hires hp hi hk hout
    rw [h0, Bool.and_false, Bool.and_false]
  · exact rsc_pix P dx dy hires g hg hz e
theorem rsc_zero (P : Nat → Nat → Bool) (dx dy : Int) (hires : Bool) {y x : Nat} (h : ¬ (y < ht hires ∧ x < wd hires)) : scrollQ P dx dy hires y x = false := by
  unfold scrollQ partQ scrollRow
  by_cases h1 : y < ht hires
  · rw [if_pos h1]
    split
    · unfold shiftP; rw [decide_eq_false (fun h2 => h ⟨h1, h2⟩)]; rfl
    · rfl
  · rw [if_neg h1]; rfl
theorem rsc_row (P : Nat → Nat → Bool) (dx dy : Int) (hires : Bool) (g : Nat → Bool) {i : Nat} (hg : ∀ z, z < 8192 → g z = (decide (z / 128 < i ∨ (z / 128 = i ∧ z % 128 < wd hires)) && flatP (scrollQ P dx dy hires) z)) (z : Nat) (hz : z < 8192) : g z = (decide (z / 128 < i + 1) && flatP (scrollQ P dx dy hires) z) := by
  rw [hg z hz]
  by_cases h : z / 128 = i ∧ ¬ z % 128 < wd hires
  · have h0 : flatP (scrollQ P dx dy hires) z = false := by unfold flatP; exact rsc_zero P dx dy hires (fun h2 => h.2 h2.2)
    rw [h0, Bool.and_false, Bool.and_false]
  · congr 2
    exact propext ⟨fun h1 => by omega, fun h1 => by omega⟩
theorem rsc_end (P : Nat → Nat → Bool) (dx dy : Int) (hires : Bool) (f : Nat → Bool) (hf : ∀ z, z < 8192 → f z = (decide (z / 128 < ht hires) && flatP (scrollQ P dx dy hires) z)) (z : Nat) (hz : z < 8192) : f z = flatP (scrollQ P dx dy hires) z := by
  rw [hf z hz]
  by_cases h : z / 128 < ht hires
  · rw [decide_eq_true h]; rfl
  · have h0 : flatP (scrollQ P dx dy hires) z = false := by unfold flatP; exact rsc_zero P dx dy hires (fun h2 => h h2.1)
    rw [h0, Bool.and_false]

theorem refScroll07 (P : Nat → Nat → Bool) (dx dy : Int) (hires : Bool) (a ca : Nat) (w : World) (ha : Rd w (some ⟨a, 0, none⟩) (boolsN 8192 (flatP P))) (hdx : -4611686018427387904 ≤ dx ∧ dx ≤ 4611686018427387904) (hdy : -4611686018427387904 ≤ dy ∧ dy ≤ 4611686018427387904) (hp : ∀ y x, y < 64 → x < 128 → P y x = true → x < wd hires ∧ y < ht hires) :
    Calls Try.prog 38 #[.slice (some ⟨a, 0, none⟩) 8192 ca, .int .i64 dx, .int .i64 dy, .bool hires] w fun e w' => ∃ b : Nat, e = .returned (.slice (some ⟨b, 0, none⟩) 8192 8192) ∧ True ∧ Sat w [] [.own 4 1 (.slice (some ⟨b, 0, none⟩) 8192 8192) 8192 (boolsN 8192 (flatP (scrollQ P dx dy hires)))] w' := by
  have hwd : wd hires ≤ 128 := by cases hires <;> decide
  have hht : ht hires ≤ 64 := by cases hires <;> decide
  refine enter Try.func38 rfl rfl rfl ?_
  refine r_seq ?_
  refine r_region ?_
  refine r_assign rfl rfl ?_
  refine r_nil ?_
  refine r_tn ?_
  refine r_seq ?_
  refine r_region ?_
  refine r_callx rfl rfl rfl (by kernel_rfl) rfl (fun w hw => refBlank07 w) ?_
  rintro b14 _
  refine r_assign rfl rfl ?_
  refine r_nil ?_
  refine r_tn ?_
  refine r_seq ?_
  refine r_region ?_
  refine r_move rfl rfl ?_
  refine r_call rfl rfl rfl (by kernel_rfl) rfl (fun w hw => by exact width06 hires w) ?_
  refine r_assign rfl rfl ?_
  refine r_nil ?_
  refine r_tn ?_
  refine r_seq ?_
  refine r_region ?_
  refine r_move rfl rfl ?_
  refine r_call rfl rfl rfl (by kernel_rfl) rfl (fun w hw => by exact refHeight07 hires w) ?_
  refine r_assign rfl rfl ?_
  refine r_nil ?_
  refine r_tn ?_
  refine r_seq ?_
  refine r_seq ?_
  refine r_region ?_
  refine r_assign rfl rfl ?_
  refine r_nil ?_
  refine r_tn ?_
  refine r_block ?_
  refine r_loop1 (fun i (f : Nat → Bool) => [(0, .slice (some ⟨a, 0, none⟩) 8192 ca), (1, .int .i64 dx), (2, .int .i64 dy), (9, .slice (some ⟨b14, 0, none⟩) 8192 8192), (10, .int .i64 (wd hires : Nat)), (11, .int .i64 (ht hires : Nat)), (12, .int .i64 (i : Int))]) (fun i f => [.own 4 1 (.slice (some ⟨b14, 0, none⟩) 8192 8192) 8192 (boolsN 8192 (f))]) (fun i f => i ≤ ht hires ∧ ∀ z, z < 8192 → f z = (decide (z / 128 < i) && flatP (scrollQ P dx dy hires) z)) (ht hires) 0 (fun _ => false) ⟨by omega, fun z hz => by simp⟩ ⟨rfl, rfl, rfl, rfl, rfl, rfl, rfl, trivial⟩ (fun w hw => hw.sub) fun i f hf => ?_
  obtain ⟨hi, hf⟩ := hf
  refine r_seq ?_
  refine r_seq ?_
  refine r_region ?_
  refine r_move rfl rfl ?_
  refine r_move rfl rfl ?_
  refine r_lss rfl rfl rfl rfl ?_
  refine r_nil ?_
  refine r_tn ?_
  refine r_cond rfl (fun hc => ?_) (fun hc => ?_)
  · refine r_skip ?_
    refine r_tn ?_
    refine r_seq ?_
    refine r_block ?_
    refine r_seq ?_
    refine r_region ?_
    refine r_assign rfl rfl ?_
    refine r_nil ?_
    refine r_tn ?_
    refine r_block ?_
    have hi2 : i < ht hires := by have h := of_decide_eq_true hc; omega
    clear hc
    refine r_loop1 (fun k (g : Nat → Bool) => [(0, .slice (some ⟨a, 0, none⟩) 8192 ca), (1, .int .i64 dx), (2, .int .i64 dy), (9, .slice (some ⟨b14, 0, none⟩) 8192 8192), (10, .int .i64 (wd hires : Nat)), (11, .int .i64 (ht hires : Nat)), (12, .int .i64 (i : Int)), (13, .int .i64 (k : Int))]) (fun k g => [.own 4 1 (.slice (some ⟨b14, 0, none⟩) 8192 8192) 8192 (boolsN 8192 (g))]) (fun k g => k ≤ wd hires ∧ ∀ z, z < 8192 → g z = (decide (z / 128 < i ∨ (z / 128 = i ∧ z % 128 < k)) && flatP (scrollQ P dx dy hires) z)) (wd hires) 0 f ⟨by omega, fun z hz => by rw [hf z hz]; congr 2; exact propext ⟨fun h => .inl h, fun h => by omega⟩⟩ ⟨rfl, rfl, rfl, rfl, rfl, rfl, rfl, rfl, trivial⟩ (fun w hw => hw.sub) fun k g hg => ?_
    obtain ⟨hk, hg⟩ := hg
    refine r_seq ?_
    refine r_seq ?_
    refine r_region ?_
    refine r_move rfl rfl ?_
    refine r_move rfl rfl ?_
    refine r_lss rfl rfl rfl rfl ?_
    refine r_nil ?_
    refine r_tn ?_
    refine r_cond rfl (fun hc => ?_) (fun hc => ?_)
    · refine r_skip ?_
      refine r_tn ?_
      refine r_seq ?_
      refine r_block ?_
      refine r_seq ?_
      refine r_region ?_
      have hk2 : k < wd hires := by have h := of_decide_eq_true hc; omega
      clear hc
      refine r_move rfl rfl ?_
      refine r_move rfl rfl ?_
      refine r_sub rfl rfl rfl (w64 (by omega)) ?_
      refine r_geq rfl rfl rfl rfl ?_
      refine r_move rfl rfl ?_
      refine r_split 33 rfl (fun hb33 => ?_) (fun hb33 => ?_)
      · refine r_go rfl rfl ?_
        refine r_move rfl rfl ?_
        refine r_go rfl rfl ?_
        refine r_move rfl rfl ?_
        refine r_go rfl rfl ?_
        refine r_sub rfl rfl rfl (w64 (by omega)) ?_
        refine r_go rfl rfl ?_
        refine r_move rfl rfl ?_
        refine r_go rfl rfl ?_
        refine r_lss rfl rfl rfl rfl ?_
        refine r_pick_t rfl rfl rfl ?_
        refine r_move rfl rfl ?_
        refine r_split 40 rfl (fun hb40 => ?_) (fun hb40 => ?_)
        · refine r_go rfl rfl ?_
          refine r_move rfl rfl ?_
          refine r_go rfl rfl ?_
          refine r_move rfl rfl ?_
          refine r_go rfl rfl ?_
          refine r_sub rfl rfl rfl (w64 (by omega)) ?_
          refine r_go rfl rfl ?_
          refine r_geq rfl rfl rfl rfl ?_
          refine r_pick_t rfl rfl rfl ?_
          refine r_move rfl rfl ?_
          refine r_split 46 rfl (fun hb46 => ?_) (fun hb46 => ?_)
          · refine r_go rfl rfl ?_
            refine r_move rfl rfl ?_
            refine r_go rfl rfl ?_
            refine r_move rfl rfl ?_
            refine r_go rfl rfl ?_
            refine r_sub rfl rfl rfl (w64 (by omega)) ?_
            refine r_go rfl rfl ?_
            refine r_move rfl rfl ?_
            refine r_go rfl rfl ?_
            refine r_lss rfl rfl rfl rfl ?_
            refine r_pick_t rfl rfl rfl ?_
            refine r_nil ?_
            refine r_tn ?_
            refine r_cond rfl (fun hc => ?_) (fun hc => ?_)
            · refine r_region ?_
              have hin : 0 ≤ (k : Int) - dx ∧ (k : Int) - dx < wd hires ∧ 0 ≤ (i : Int) - dy ∧ (i : Int) - dy < ht hires := ⟨of_decide_eq_true hb33, of_decide_eq_true hb40, of_decide_eq_true hb46, of_decide_eq_true hc⟩
              refine r_move rfl rfl ?_
              refine r_move rfl rfl ?_
              refine r_mul rfl rfl rfl (w64 (by omega)) ?_
              refine r_move rfl rfl ?_
              refine r_add rfl rfl rfl (w64 (by omega)) ?_
              refine r_move rfl rfl ?_
              refine r_move rfl rfl ?_
              refine r_move rfl rfl ?_
              refine r_sub rfl rfl rfl (w64 (by omega)) ?_
              refine r_move rfl rfl ?_
              refine r_move rfl rfl ?_
              refine r_sub rfl rfl rfl (w64 (by omega)) ?_
              refine r_call rfl rfl rfl (by kernel_rfl) rfl (fun w hw => by exact refGet07 P ((k : Int) - dx) ((i : Int) - dy) a ca w (ha.keep hw) (by omega) (by omega)) ?_
              refine r_indexSl (sz := 1) (o' := 128 * i + k) rfl rfl rfl rfl rfl (by omega) (by omega) (by first | (simp; done) | (simp; omega) | omega) ?_
              refine r_storeOwn (m := 8192) (c := 8192) rfl rfl rfl rfl rfl (by omega) ?_
              rw [boolsN_set]
              refine r_nil ?_
              refine r_bn ?_
              refine r_tn ?_
              refine r_region ?_
              refine r_move rfl rfl ?_
              refine r_add rfl rfl rfl (w64 (by omega)) ?_
              refine r_assign rfl rfl ?_
              refine r_nil ?_
              refine r_tn ?_
              first
                | exact r_again1 (k + 1) (fun z => if z = 128 * i + k then P ((i : Int) - dy).toNat ((k : Int) - dx).toNat else g z) ⟨by omega, fun z hz => rsc_put P dx dy hires g hg hi2 hk2 hin z hz⟩ (by omega) ⟨rfl, rfl, rfl, rfl, rfl, rfl, rfl, rfl, trivial⟩ (fun w hw => hw.sub)
                | exact r_again1 (k + 1) g ⟨by omega, fun z hz => rsc_skip P dx dy hires g hp hg hi2 hk2 (fun h => by have h1 := of_decide_eq_false hb33; omega) z hz⟩ (by omega) ⟨rfl, rfl, rfl, rfl, rfl, rfl, rfl, rfl, trivial⟩ (fun w hw => hw.sub)
                | exact r_again1 (k + 1) g ⟨by omega, fun z hz => rsc_skip P dx dy hires g hp hg hi2 hk2 (fun h => by have h1 := of_decide_eq_false hb40; omega) z hz⟩ (by omega) ⟨rfl, rfl, rfl, rfl, rfl, rfl, rfl, rfl, trivial⟩ (fun w hw => hw.sub)
                | exact r_again1 (k + 1) g ⟨by omega, fun z hz => rsc_skip P dx dy hires g hp hg hi2 hk2 (fun h => by have h1 := of_decide_eq_false hb46; omega) z hz⟩ (by omega) ⟨rfl, rfl, rfl, rfl, rfl, rfl, rfl, rfl, trivial⟩ (fun w hw => hw.sub)
                | exact r_again1 (k + 1) g ⟨by omega, fun z hz => rsc_skip P dx dy hires g hp hg hi2 hk2 (fun h => by have h1 := of_decide_eq_false hc; omega) z hz⟩ (by omega) ⟨rfl, rfl, rfl, rfl, rfl, rfl, rfl, rfl, trivial⟩ (fun w hw => hw.sub)
            · refine r_skip ?_
              refine r_bn ?_
              refine r_tn ?_
              refine r_region ?_
              refine r_move rfl rfl ?_
              refine r_add rfl rfl rfl (w64 (by omega)) ?_
              refine r_assign rfl rfl ?_
              refine r_nil ?_
              refine r_tn ?_
              first
                | exact r_again1 (k + 1) (fun z => if z = 128 * i + k then P ((i : Int) - dy).toNat ((k : Int) - dx).toNat else g z) ⟨by omega, fun z hz => rsc_put P dx dy hires g hg hi2 hk2 hin z hz⟩ (by omega) ⟨rfl, rfl, rfl, rfl, rfl, rfl, rfl, rfl, trivial⟩ (fun w hw => hw.sub)
                | exact r_again1 (k + 1) g ⟨by omega, fun z hz => rsc_skip P dx dy hires g hp hg hi2 hk2 (fun h => by have h1 := of_decide_eq_false hb33; omega) z hz⟩ (by omega) ⟨rfl, rfl, rfl, rfl, rfl, rfl, rfl, rfl, trivial⟩ (fun w hw => hw.sub)
                | exact r_again1 (k + 1) g ⟨by omega, fun z hz => rsc_skip P dx dy hires g hp hg hi2 hk2 (fun h => by have h1 := of_decide_eq_false hb40; omega) z hz⟩ (by omega) ⟨rfl, rfl, rfl, rfl, rfl, rfl, rfl, rfl, trivial⟩ (fun w hw => hw.sub)
                | exact r_again1 (k + 1) g ⟨by omega, fun z hz => rsc_skip P dx dy hires g hp hg hi2 hk2 (fun h => by have h1 := of_decide_eq_false hb46; omega) z hz⟩ (by omega) ⟨rfl, rfl, rfl, rfl, rfl, rfl, rfl, rfl, trivial⟩ (fun w hw => hw.sub)
                | exact r_again1 (k + 1) g ⟨by omega, fun z hz => rsc_skip P dx dy hires g hp hg hi2 hk2 (fun h => by have h1 := of_decide_eq_false hc; omega) z hz⟩ (by omega) ⟨rfl, rfl, rfl, rfl, rfl, rfl, rfl, rfl, trivial⟩ (fun w hw => hw.sub)
          · refine r_pass rfl rfl rfl rfl ?_
            refine r_pass rfl rfl rfl rfl ?_
            refine r_pass rfl rfl rfl rfl ?_
            refine r_pass rfl rfl rfl rfl ?_
            refine r_pass rfl rfl rfl rfl ?_
            refine r_pick_f rfl rfl rfl ?_
            refine r_nil ?_
            refine r_tn ?_
            refine r_cond_f rfl ?_
            refine r_skip ?_
            refine r_bn ?_
            refine r_tn ?_
            refine r_region ?_
            refine r_move rfl rfl ?_
            refine r_add rfl rfl rfl (w64 (by omega)) ?_
            refine r_assign rfl rfl ?_
            refine r_nil ?_
            refine r_tn ?_
            first
              | exact r_again1 (k + 1) (fun z => if z = 128 * i + k then P ((i : Int) - dy).toNat ((k : Int) - dx).toNat else g z) ⟨by omega, fun z hz => rsc_put P dx dy hires g hg hi2 hk2 hin z hz⟩ (by omega) ⟨rfl, rfl, rfl, rfl, rfl, rfl, rfl, rfl, trivial⟩ (fun w hw => hw.sub)
              | exact r_again1 (k + 1) g ⟨by omega, fun z hz => rsc_skip P dx dy hires g hp hg hi2 hk2 (fun h => by have h1 := of_decide_eq_false hb33; omega) z hz⟩ (by omega) ⟨rfl, rfl, rfl, rfl, rfl, rfl, rfl, rfl, trivial⟩ (fun w hw => hw.sub)
              | exact r_again1 (k + 1) g ⟨by omega, fun z hz => rsc_skip P dx dy hires g hp hg hi2 hk2 (fun h => by have h1 := of_decide_eq_false hb40; omega) z hz⟩ (by omega) ⟨rfl, rfl, rfl, rfl, rfl, rfl, rfl, rfl, trivial⟩ (fun w hw => hw.sub)
              | exact r_again1 (k + 1) g ⟨by omega, fun z hz => rsc_skip P dx dy hires g hp hg hi2 hk2 (fun h => by have h1 := of_decide_eq_false hb46; omega) z hz⟩ (by omega) ⟨rfl, rfl, rfl, rfl, rfl, rfl, rfl, rfl, trivial⟩ (fun w hw => hw.sub)
              | exact r_again1 (k + 1) g ⟨by omega, fun z hz => rsc_skip P dx dy hires g hp hg hi2 hk2 (fun h => by have h1 := of_decide_eq_false hc; omega) z hz⟩ (by omega) ⟨rfl, rfl, rfl, rfl, rfl, rfl, rfl, rfl, trivial⟩ (fun w hw => hw.sub)
        · refine r_pass rfl rfl rfl rfl ?_
          refine r_pass rfl rfl rfl rfl ?_
          refine r_pass rfl rfl rfl rfl ?_
          refine r_pass rfl rfl rfl rfl ?_
          refine r_pick_f rfl rfl rfl ?_
          refine r_move rfl rfl ?_
          refine r_pass rfl rfl rfl rfl ?_
          refine r_pass rfl rfl rfl rfl ?_
          refine r_pass rfl rfl rfl rfl ?_
          refine r_pass rfl rfl rfl rfl ?_
          refine r_pass rfl rfl rfl rfl ?_
          refine r_pick_f rfl rfl rfl ?_
          refine r_nil ?_
          refine r_tn ?_
          refine r_cond_f rfl ?_
          refine r_skip ?_
          refine r_bn ?_
          refine r_tn ?_
          refine r_region ?_
          refine r_move rfl rfl ?_
          refine r_add rfl rfl rfl (w64 (by omega)) ?_
          refine r_assign rfl rfl ?_
          refine r_nil ?_
          refine r_tn ?_
          first
            | exact r_again1 (k + 1) (fun z => if z = 128 * i + k then P ((i : Int) - dy).toNat ((k : Int) - dx).toNat else g z) ⟨by omega, fun z hz => rsc_put P dx dy hires g hg hi2 hk2 hin z hz⟩ (by omega) ⟨rfl, rfl, rfl, rfl, rfl, rfl, rfl, rfl, trivial⟩ (fun w hw => hw.sub)
            | exact r_again1 (k + 1) g ⟨by omega, fun z hz => rsc_skip P dx dy hires g hp hg hi2 hk2 (fun h => by have h1 := of_decide_eq_false hb33; omega) z hz⟩ (by omega) ⟨rfl, rfl, rfl, rfl, rfl, rfl, rfl, rfl, trivial⟩ (fun w hw => hw.sub)
            | exact r_again1 (k + 1) g ⟨by omega, fun z hz => rsc_skip P dx dy hires g hp hg hi2 hk2 (fun h => by have h1 := of_decide_eq_false hb40; omega) z hz⟩ (by omega) ⟨rfl, rfl, rfl, rfl, rfl, rfl, rfl, rfl, trivial⟩ (fun w hw => hw.sub)
            | exact r_again1 (k + 1) g ⟨by omega, fun z hz => rsc_skip P dx dy hires g hp hg hi2 hk2 (fun h => by have h1 := of_decide_eq_false hb46; omega) z hz⟩ (by omega) ⟨rfl, rfl, rfl, rfl, rfl, rfl, rfl, rfl, trivial⟩ (fun w hw => hw.sub)
            | exact r_again1 (k + 1) g ⟨by omega, fun z hz => rsc_skip P dx dy hires g hp hg hi2 hk2 (fun h => by have h1 := of_decide_eq_false hc; omega) z hz⟩ (by omega) ⟨rfl, rfl, rfl, rfl, rfl, rfl, rfl, rfl, trivial⟩ (fun w hw => hw.sub)
      · refine r_pass rfl rfl rfl rfl ?_
        refine r_pass rfl rfl rfl rfl ?_
        refine r_pass rfl rfl rfl rfl ?_
        refine r_pass rfl rfl rfl rfl ?_
        refine r_pass rfl rfl rfl rfl ?_
        refine r_pick_f rfl rfl rfl ?_
        refine r_move rfl rfl ?_
        refine r_pass rfl rfl rfl rfl ?_
        refine r_pass rfl rfl rfl rfl ?_
        refine r_pass rfl rfl rfl rfl ?_
        refine r_pass rfl rfl rfl rfl ?_
        refine r_pick_f rfl rfl rfl ?_
        refine r_move rfl rfl ?_
        refine r_pass rfl rfl rfl rfl ?_
        refine r_pass rfl rfl rfl rfl ?_
        refine r_pass rfl rfl rfl rfl ?_
        refine r_pass rfl rfl rfl rfl ?_
        refine r_pass rfl rfl rfl rfl ?_
        refine r_pick_f rfl rfl rfl ?_
        refine r_nil ?_
        refine r_tn ?_
        refine r_cond_f rfl ?_
        refine r_skip ?_
        refine r_bn ?_
        refine r_tn ?_
        refine r_region ?_
        refine r_move rfl rfl ?_
        refine r_add rfl rfl rfl (w64 (by omega)) ?_
        refine r_assign rfl rfl ?_
        refine r_nil ?_
        refine r_tn ?_
        first
          | exact r_again1 (k + 1) (fun z => if z = 128 * i + k then P ((i : Int) - dy).toNat ((k : Int) - dx).toNat else g z) ⟨by omega, fun z hz => rsc_put P dx dy hires g hg hi2 hk2 hin z hz⟩ (by omega) ⟨rfl, rfl, rfl, rfl, rfl, rfl, rfl, rfl, trivial⟩ (fun w hw => hw.sub)
          | exact r_again1 (k + 1) g ⟨by omega, fun z hz => rsc_skip P dx dy hires g hp hg hi2 hk2 (fun h => by have h1 := of_decide_eq_false hb33; omega) z hz⟩ (by omega) ⟨rfl, rfl, rfl, rfl, rfl, rfl, rfl, rfl, trivial⟩ (fun w hw => hw.sub)
          | exact r_again1 (k + 1) g ⟨by omega, fun z hz => rsc_skip P dx dy hires g hp hg hi2 hk2 (fun h => by have h1 := of_decide_eq_false hb40; omega) z hz⟩ (by omega) ⟨rfl, rfl, rfl, rfl, rfl, rfl, rfl, rfl, trivial⟩ (fun w hw => hw.sub)
          | exact r_again1 (k + 1) g ⟨by omega, fun z hz => rsc_skip P dx dy hires g hp hg hi2 hk2 (fun h => by have h1 := of_decide_eq_false hb46; omega) z hz⟩ (by omega) ⟨rfl, rfl, rfl, rfl, rfl, rfl, rfl, rfl, trivial⟩ (fun w hw => hw.sub)
          | exact r_again1 (k + 1) g ⟨by omega, fun z hz => rsc_skip P dx dy hires g hp hg hi2 hk2 (fun h => by have h1 := of_decide_eq_false hc; omega) z hz⟩ (by omega) ⟨rfl, rfl, rfl, rfl, rfl, rfl, rfl, rfl, trivial⟩ (fun w hw => hw.sub)
    · refine r_exit ?_
      refine r_te ?_
      refine r_te ?_
      refine r_be ?_
      refine r_bn ?_
      refine r_tn ?_
      refine r_region ?_
      refine r_move rfl rfl ?_
      refine r_add rfl rfl rfl (w64 (by omega)) ?_
      refine r_assign rfl rfl ?_
      refine r_nil ?_
      refine r_tn ?_
      have hk3 : k = wd hires := by have h := of_decide_eq_false hc; omega
      subst hk3
      exact r_again1 (i + 1) g ⟨by omega, fun z hz => rsc_row P dx dy hires g hg z hz⟩ (by omega) ⟨rfl, rfl, rfl, rfl, rfl, rfl, rfl, trivial⟩ (fun w hw => hw.sub)
  · refine r_exit ?_
    refine r_te ?_
    refine r_te ?_
    refine r_be ?_
    refine r_tn ?_
    refine r_seq ?_
    refine r_region ?_
    refine r_move rfl rfl ?_
    refine r_assign rfl rfl ?_
    refine r_nil ?_
    refine r_tn ?_
    refine r_ret ?_
    have hi3 : i = ht hires := by have h := of_decide_eq_false hc; omega
    subst hi3
    exact r_done1 (.inl rfl) rfl (res_tmp rfl) fun w hw => ⟨b14, rfl, trivial, by rw [boolsN_congr (fun z hz => rsc_end P dx dy hires f hf z hz)] at hw; exact hw⟩
end Go.Proofs.Ytahanpobeekhiaa
