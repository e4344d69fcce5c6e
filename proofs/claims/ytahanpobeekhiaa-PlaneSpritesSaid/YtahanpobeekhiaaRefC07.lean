/-
  The reference for planes (chapter 07): Plane.
-/
import Derived.Test.YtahanpobeekhiaaRefB07
namespace Go.Proofs.Ytahanpobeekhiaa
open Go Go.RowKit
set_option linter.unusedVariables false
set_option linter.unusedSimpArgs false
set_option maxHeartbeats 2000000
attribute [local irreducible] mix

theorem tmod_rng (a : Int) {b : Int} (hb : 0 < b) : -b < a.tmod b ∧ a.tmod b < b := by
  refine ⟨?_, Int.tmod_lt_of_pos a hb⟩
  have h := Int.tmod_lt_of_pos (-a) hb
  rw [Int.neg_tmod] at h
  omega
theorem tmod_nat {a b : Int} (ha : 0 ≤ a) (hb : 0 < b) : ∃ s : Nat, a.tmod b = (s : Int) ∧ (s : Int) < b := by
  have h1 := Int.tmod_lt_of_pos a hb
  have h2 := Int.tmod_nonneg b ha
  exact ⟨(a.tmod b).toNat, (Int.toNat_of_nonneg h2).symm, by omega⟩
theorem seed_step (f : Nat → Bool) {w h i : Nat} (hf : ∀ z, z < 8192 → f z = true → z % 128 < w ∧ z / 128 < h) (h1 : i % 128 < w) (h2 : i / 128 < h) (z : Nat) (hz : z < 8192) (hz2 : (if z = i then true else f z) = true) : z % 128 < w ∧ z / 128 < h := by
  by_cases e : z = i
  · subst e; exact ⟨h1, h2⟩
  · rw [if_neg e] at hz2; exact hf z hz hz2
theorem refPlane07 (fr st ct : Int) (hires : Bool) (w : World) :
    Calls Try.prog 31 #[.agg #[.int .i64 fr, .int .i64 st, .int .i64 ct], .bool hires] w fun e w' => ∃ i : Nat × (Nat → Nat → Bool), e = .returned (.slice (some ⟨i.1, 0, none⟩) 8192 8192) ∧ (∀ y x, y < 64 → x < 128 → i.2 y x = true → x < wd hires ∧ y < ht hires) ∧ Sat w [] [.own 4 1 (.slice (some ⟨i.1, 0, none⟩) 8192 8192) 8192 (boolsN 8192 (flatP i.2))] w' := by
  cases hires
  · refine enter Try.func31 rfl rfl rfl ?_
    refine r_seq ?_
    refine r_region ?_
    refine r_boxV rfl rfl fun b2 => ?_
    refine r_assign rfl rfl ?_
    refine r_nil ?_
    refine r_tn ?_
    refine r_seq ?_
    refine r_region ?_
    refine r_callx rfl rfl rfl (by kernel_rfl) rfl (fun w hw => refBlank07 w) ?_
    rintro b10 _
    refine r_assign rfl rfl ?_
    refine r_nil ?_
    refine r_tn ?_
    refine r_seq ?_
    refine r_region ?_
    refine r_move rfl rfl ?_
    refine r_call rfl rfl rfl (by kernel_rfl) rfl (fun w hw => by exact width06 false w) ?_
    refine r_assign rfl rfl ?_
    refine r_nil ?_
    refine r_tn ?_
    refine r_seq ?_
    refine r_region ?_
    refine r_move rfl rfl ?_
    refine r_call rfl rfl rfl (by kernel_rfl) rfl (fun w hw => by exact refHeight07 false w) ?_
    refine r_assign rfl rfl ?_
    refine r_nil ?_
    refine r_tn ?_
    refine r_seq ?_
    refine r_region ?_
    refine r_fieldAddr (off := 0) (o' := 0) rfl rfl rfl rfl ?_
    refine r_load1 rfl rfl rfl (by rfl) ?_
    refine r_move rfl rfl ?_
    refine r_move rfl rfl ?_
    refine r_mul (r := 2048) rfl rfl rfl (w64 (by decide)) ?_
    obtain ⟨hm1, hm2⟩ := tmod_rng fr (show 0 < (2048 : Int) by decide)
    obtain ⟨m, hm⟩ : ∃ m, fr.tmod 2048 = m := ⟨_, rfl⟩
    rw [hm] at hm1 hm2
    refine r_rem (r := m) rfl rfl rfl (by decide) hm ?_
    refine r_assign rfl rfl ?_
    refine r_nil ?_
    refine r_tn ?_
    refine r_seq ?_
    refine r_cut (fun n : { n : Nat // n < 2048 } => ([(2, .pointer (some ⟨b2, 0, none⟩)), (5, .slice (some ⟨b10, 0, none⟩) 8192 8192), (6, .int .i64 64), (7, .int .i64 32), (8, .int .i64 (n.1 : Int))], [.blk b2 (.cells #[.int .i64 fr, .int .i64 st, .int .i64 ct] 48 (0, 0)), .own 4 1 (.slice (some ⟨b10, 0, none⟩) 8192 8192) 8192 (boolsN 8192 (fun _ => false))])) ?_ ?_
    · refine r_seq ?_
      refine r_region ?_
      refine r_move rfl rfl ?_
      refine r_lss rfl rfl rfl rfl ?_
      refine r_nil ?_
      refine r_tn ?_
      refine r_cond rfl (fun hc => ?_) (fun hc => ?_)
      · refine r_region ?_
        refine r_assign rfl rfl ?_
        refine r_nil ?_
        refine r_tn ?_
        exact r_at ⟨0, by decide⟩ ⟨rfl, rfl, rfl, rfl, rfl, trivial⟩ (fun w hw => hw.sub)
      · refine r_skip ?_
        refine r_tn ?_
        exact r_at ⟨m.toNat, by omega⟩ ⟨rfl, rfl, rfl, rfl, congrArg (fun z => some (Value.int .i64 z)) (Int.toNat_of_nonneg (by have h := of_decide_eq_false hc; omega)).symm, trivial⟩ (fun w hw => hw.sub)
    rintro ⟨n0, hn0⟩
    refine r_seq ?_
    refine r_seq ?_
    refine r_region ?_
    refine r_assign rfl rfl ?_
    refine r_nil ?_
    refine r_tn ?_
    refine r_block ?_
    refine r_loop2 (fun k (n : Nat) (f : Nat → Bool) => [(2, .pointer (some ⟨b2, 0, none⟩)), (5, .slice (some ⟨b10, 0, none⟩) 8192 8192), (6, .int .i64 64), (7, .int .i64 32), (8, .int .i64 (n : Int)), (9, .int .i64 (k : Int))]) (fun k n f => [.blk b2 (.cells #[.int .i64 fr, .int .i64 st, .int .i64 ct] 48 (0, 0)), .own 4 1 (.slice (some ⟨b10, 0, none⟩) 8192 8192) 8192 (boolsN 8192 (f))]) (fun k n f => k ≤ 3000 ∧ n < 2048 ∧ ∀ z, z < 8192 → f z = true → z % 128 < 64 ∧ z / 128 < 32) 3000 0 n0 (fun _ => false) ⟨by omega, hn0, fun z hz h => by cases h⟩ ⟨rfl, rfl, rfl, rfl, rfl, rfl, trivial⟩ (fun w hw => hw.sub) fun k n f hf => ?_
    obtain ⟨hk, hn, hf⟩ := hf
    refine r_seq ?_
    refine r_seq ?_
    refine r_region ?_
    refine r_move rfl rfl ?_
    refine r_fieldAddr (off := 2) (o' := 2) rfl rfl rfl rfl ?_
    refine r_load1 rfl rfl rfl (by rfl) ?_
    refine r_lss rfl rfl rfl rfl ?_
    refine r_move rfl rfl ?_
    refine r_split 27 rfl (fun hb27 => ?_) (fun hb27 => ?_)
    · refine r_go rfl rfl ?_
      refine r_move rfl rfl ?_
      refine r_go rfl rfl ?_
      refine r_lss rfl rfl rfl rfl ?_
      refine r_pick_t rfl rfl rfl ?_
      refine r_nil ?_
      refine r_tn ?_
      refine r_cond rfl (fun hc => ?_) (fun hc => ?_)
      · refine r_skip ?_
        refine r_tn ?_
        refine r_seq ?_
        refine r_block ?_
        refine r_seq ?_
        refine r_mixed (by kernel_rfl) (by kernel_rfl) ?_
        refine r_move rfl rfl ?_
        refine r_move rfl rfl ?_
        refine r_move rfl rfl ?_
        have hk2 : k < 3000 := by have h := of_decide_eq_true hc; omega
        refine r_quo (r := ((n / 64 : Nat) : Int)) rfl rfl rfl (by decide) (w64 (show -9223372036854775808 ≤ ((n / 64 : Nat) : Int) ∧ ((n / 64 : Nat) : Int) ≤ 9223372036854775807 by omega)) ?_
        refine r_mul rfl rfl rfl (w64 (by omega)) ?_
        refine r_move rfl rfl ?_
        refine r_move rfl rfl ?_
        refine r_rem (r := ((n % 64 : Nat) : Int)) rfl rfl rfl (by decide) rfl ?_
        refine r_add rfl rfl rfl (w64 (by omega)) ?_
        refine r_indexSl (sz := 1) (o' := 128 * (n / 64) + n % 64) rfl rfl rfl rfl rfl (by omega) (by omega) (by first | (simp; done) | (simp; omega) | omega) ?_
        refine r_storeOwn (m := 8192) (c := 8192) rfl rfl rfl rfl rfl (by omega) ?_
        rw [boolsN_set]
        refine r_nil ?_
        refine r_tn ?_
        refine r_region ?_
        refine r_move rfl rfl ?_
        refine r_add rfl rfl rfl (w64 (by omega)) ?_
        refine r_fieldAddr (off := 1) (o' := 1) rfl rfl rfl rfl ?_
        refine r_load1 rfl rfl rfl (by rfl) ?_
        obtain ⟨hs1, hs2⟩ := tmod_rng st (show 0 < (1000 : Int) by decide)
        obtain ⟨s1, hs⟩ : ∃ s1, st.tmod 1000 = s1 := ⟨_, rfl⟩
        rw [hs] at hs1 hs2
        refine r_rem (r := s1) rfl rfl rfl (by decide) hs ?_
        refine r_add rfl rfl rfl (w64 (by omega)) ?_
        obtain ⟨s2, hs3, hs4⟩ := tmod_nat (show 0 ≤ s1 + 1000 by omega) (show 0 < (1000 : Int) by decide)
        refine r_rem (r := (s2 : Int)) rfl rfl rfl (by decide) hs3 ?_
        refine r_add (r := ((n + 1 + s2 : Nat) : Int)) rfl rfl rfl ((w64 (by omega)).trans (by omega)) ?_
        refine r_move rfl rfl ?_
        refine r_move rfl rfl ?_
        refine r_mul (r := 2048) rfl rfl rfl (w64 (by decide)) ?_
        refine r_rem (r := (((n + 1 + s2) % 2048 : Nat) : Int)) rfl rfl rfl (by decide) rfl ?_
        refine r_assign rfl rfl ?_
        refine r_nil ?_
        refine r_bn ?_
        refine r_tn ?_
        refine r_region ?_
        refine r_move rfl rfl ?_
        refine r_add rfl rfl rfl (w64 (by omega)) ?_
        refine r_assign rfl rfl ?_
        refine r_nil ?_
        refine r_tn ?_
        exact r_again2 (k + 1) ((n + 1 + s2) % 2048) (fun z => if z = 128 * (n / 64) + n % 64 then true else f z) ⟨by omega, Nat.mod_lt _ (by decide), fun z hz => seed_step f hf (by omega) (by omega) z hz⟩ (by omega) ⟨rfl, rfl, rfl, rfl, rfl, rfl, trivial⟩ (fun w hw => hw.sub)
      · refine r_exit ?_
        refine r_te ?_
        refine r_te ?_
        refine r_be ?_
        refine r_tn ?_
        refine r_seq ?_
        refine r_region ?_
        refine r_move rfl rfl ?_
        refine r_assign rfl rfl ?_
        refine r_nil ?_
        refine r_tn ?_
        refine r_ret ?_
        exact r_done1 (.inl rfl) rfl (res_tmp rfl) fun w hw => ⟨(b10, fun y x => f (128 * y + x)), rfl, fun y x hy hx hf2 => by
          have h := hf (128 * y + x) (by omega) hf2
          have e1 : (128 * y + x) % 128 = x := by omega
          have e2 : (128 * y + x) / 128 = y := by omega
          rw [e1, e2] at h
          exact h, by rw [boolsN_congr (g := flatP (fun y x => f (128 * y + x))) (fun z hz => by show f z = f (128 * (z / 128) + z % 128); rw [show 128 * (z / 128) + z % 128 = z by omega])] at hw; exact hw.sub⟩
    · refine r_pass rfl rfl rfl rfl ?_
      refine r_pass rfl rfl rfl rfl ?_
      refine r_pick_f rfl rfl rfl ?_
      refine r_nil ?_
      refine r_tn ?_
      refine r_cond_f rfl ?_
      refine r_exit ?_
      refine r_te ?_
      refine r_te ?_
      refine r_be ?_
      refine r_tn ?_
      refine r_seq ?_
      refine r_region ?_
      refine r_move rfl rfl ?_
      refine r_assign rfl rfl ?_
      refine r_nil ?_
      refine r_tn ?_
      refine r_ret ?_
      exact r_done1 (.inl rfl) rfl (res_tmp rfl) fun w hw => ⟨(b10, fun y x => f (128 * y + x)), rfl, fun y x hy hx hf2 => by
        have h := hf (128 * y + x) (by omega) hf2
        have e1 : (128 * y + x) % 128 = x := by omega
        have e2 : (128 * y + x) / 128 = y := by omega
        rw [e1, e2] at h
        exact h, by rw [boolsN_congr (g := flatP (fun y x => f (128 * y + x))) (fun z hz => by show f z = f (128 * (z / 128) + z % 128); rw [show 128 * (z / 128) + z % 128 = z by omega])] at hw; exact hw.sub⟩
  · refine enter Try.func31 rfl rfl rfl ?_
    refine r_seq ?_
    refine r_region ?_
    refine r_boxV rfl rfl fun b2 => ?_
    refine r_assign rfl rfl ?_
    refine r_nil ?_
    refine r_tn ?_
    refine r_seq ?_
    refine r_region ?_
    refine r_callx rfl rfl rfl (by kernel_rfl) rfl (fun w hw => refBlank07 w) ?_
    rintro b10 _
    refine r_assign rfl rfl ?_
    refine r_nil ?_
    refine r_tn ?_
    refine r_seq ?_
    refine r_region ?_
    refine r_move rfl rfl ?_
    refine r_call rfl rfl rfl (by kernel_rfl) rfl (fun w hw => by exact width06 true w) ?_
    refine r_assign rfl rfl ?_
    refine r_nil ?_
    refine r_tn ?_
    refine r_seq ?_
    refine r_region ?_
    refine r_move rfl rfl ?_
    refine r_call rfl rfl rfl (by kernel_rfl) rfl (fun w hw => by exact refHeight07 true w) ?_
    refine r_assign rfl rfl ?_
    refine r_nil ?_
    refine r_tn ?_
    refine r_seq ?_
    refine r_region ?_
    refine r_fieldAddr (off := 0) (o' := 0) rfl rfl rfl rfl ?_
    refine r_load1 rfl rfl rfl (by rfl) ?_
    refine r_move rfl rfl ?_
    refine r_move rfl rfl ?_
    refine r_mul (r := 8192) rfl rfl rfl (w64 (by decide)) ?_
    obtain ⟨hm1, hm2⟩ := tmod_rng fr (show 0 < (8192 : Int) by decide)
    obtain ⟨m, hm⟩ : ∃ m, fr.tmod 8192 = m := ⟨_, rfl⟩
    rw [hm] at hm1 hm2
    refine r_rem (r := m) rfl rfl rfl (by decide) hm ?_
    refine r_assign rfl rfl ?_
    refine r_nil ?_
    refine r_tn ?_
    refine r_seq ?_
    refine r_cut (fun n : { n : Nat // n < 8192 } => ([(2, .pointer (some ⟨b2, 0, none⟩)), (5, .slice (some ⟨b10, 0, none⟩) 8192 8192), (6, .int .i64 128), (7, .int .i64 64), (8, .int .i64 (n.1 : Int))], [.blk b2 (.cells #[.int .i64 fr, .int .i64 st, .int .i64 ct] 48 (0, 0)), .own 4 1 (.slice (some ⟨b10, 0, none⟩) 8192 8192) 8192 (boolsN 8192 (fun _ => false))])) ?_ ?_
    · refine r_seq ?_
      refine r_region ?_
      refine r_move rfl rfl ?_
      refine r_lss rfl rfl rfl rfl ?_
      refine r_nil ?_
      refine r_tn ?_
      refine r_cond rfl (fun hc => ?_) (fun hc => ?_)
      · refine r_region ?_
        refine r_assign rfl rfl ?_
        refine r_nil ?_
        refine r_tn ?_
        exact r_at ⟨0, by decide⟩ ⟨rfl, rfl, rfl, rfl, rfl, trivial⟩ (fun w hw => hw.sub)
      · refine r_skip ?_
        refine r_tn ?_
        exact r_at ⟨m.toNat, by omega⟩ ⟨rfl, rfl, rfl, rfl, congrArg (fun z => some (Value.int .i64 z)) (Int.toNat_of_nonneg (by have h := of_decide_eq_false hc; omega)).symm, trivial⟩ (fun w hw => hw.sub)
    rintro ⟨n0, hn0⟩
    refine r_seq ?_
    refine r_seq ?_
    refine r_region ?_
    refine r_assign rfl rfl ?_
    refine r_nil ?_
    refine r_tn ?_
    refine r_block ?_
    refine r_loop2 (fun k (n : Nat) (f : Nat → Bool) => [(2, .pointer (some ⟨b2, 0, none⟩)), (5, .slice (some ⟨b10, 0, none⟩) 8192 8192), (6, .int .i64 128), (7, .int .i64 64), (8, .int .i64 (n : Int)), (9, .int .i64 (k : Int))]) (fun k n f => [.blk b2 (.cells #[.int .i64 fr, .int .i64 st, .int .i64 ct] 48 (0, 0)), .own 4 1 (.slice (some ⟨b10, 0, none⟩) 8192 8192) 8192 (boolsN 8192 (f))]) (fun k n f => k ≤ 3000 ∧ n < 8192 ∧ ∀ z, z < 8192 → f z = true → z % 128 < 128 ∧ z / 128 < 64) 3000 0 n0 (fun _ => false) ⟨by omega, hn0, fun z hz h => by cases h⟩ ⟨rfl, rfl, rfl, rfl, rfl, rfl, trivial⟩ (fun w hw => hw.sub) fun k n f hf => ?_
    obtain ⟨hk, hn, hf⟩ := hf
    refine r_seq ?_
    refine r_seq ?_
    refine r_region ?_
    refine r_move rfl rfl ?_
    refine r_fieldAddr (off := 2) (o' := 2) rfl rfl rfl rfl ?_
    refine r_load1 rfl rfl rfl (by rfl) ?_
    refine r_lss rfl rfl rfl rfl ?_
    refine r_move rfl rfl ?_
    refine r_split 27 rfl (fun hb27 => ?_) (fun hb27 => ?_)
    · refine r_go rfl rfl ?_
      refine r_move rfl rfl ?_
      refine r_go rfl rfl ?_
      refine r_lss rfl rfl rfl rfl ?_
      refine r_pick_t rfl rfl rfl ?_
      refine r_nil ?_
      refine r_tn ?_
      refine r_cond rfl (fun hc => ?_) (fun hc => ?_)
      · refine r_skip ?_
        refine r_tn ?_
        refine r_seq ?_
        refine r_block ?_
        refine r_seq ?_
        refine r_mixed (by kernel_rfl) (by kernel_rfl) ?_
        refine r_move rfl rfl ?_
        refine r_move rfl rfl ?_
        refine r_move rfl rfl ?_
        have hk2 : k < 3000 := by have h := of_decide_eq_true hc; omega
        refine r_quo (r := ((n / 128 : Nat) : Int)) rfl rfl rfl (by decide) (w64 (show -9223372036854775808 ≤ ((n / 128 : Nat) : Int) ∧ ((n / 128 : Nat) : Int) ≤ 9223372036854775807 by omega)) ?_
        refine r_mul rfl rfl rfl (w64 (by omega)) ?_
        refine r_move rfl rfl ?_
        refine r_move rfl rfl ?_
        refine r_rem (r := ((n % 128 : Nat) : Int)) rfl rfl rfl (by decide) rfl ?_
        refine r_add rfl rfl rfl (w64 (by omega)) ?_
        refine r_indexSl (sz := 1) (o' := 128 * (n / 128) + n % 128) rfl rfl rfl rfl rfl (by omega) (by omega) (by first | (simp; done) | (simp; omega) | omega) ?_
        refine r_storeOwn (m := 8192) (c := 8192) rfl rfl rfl rfl rfl (by omega) ?_
        rw [boolsN_set]
        refine r_nil ?_
        refine r_tn ?_
        refine r_region ?_
        refine r_move rfl rfl ?_
        refine r_add rfl rfl rfl (w64 (by omega)) ?_
        refine r_fieldAddr (off := 1) (o' := 1) rfl rfl rfl rfl ?_
        refine r_load1 rfl rfl rfl (by rfl) ?_
        obtain ⟨hs1, hs2⟩ := tmod_rng st (show 0 < (1000 : Int) by decide)
        obtain ⟨s1, hs⟩ : ∃ s1, st.tmod 1000 = s1 := ⟨_, rfl⟩
        rw [hs] at hs1 hs2
        refine r_rem (r := s1) rfl rfl rfl (by decide) hs ?_
        refine r_add rfl rfl rfl (w64 (by omega)) ?_
        obtain ⟨s2, hs3, hs4⟩ := tmod_nat (show 0 ≤ s1 + 1000 by omega) (show 0 < (1000 : Int) by decide)
        refine r_rem (r := (s2 : Int)) rfl rfl rfl (by decide) hs3 ?_
        refine r_add (r := ((n + 1 + s2 : Nat) : Int)) rfl rfl rfl ((w64 (by omega)).trans (by omega)) ?_
        refine r_move rfl rfl ?_
        refine r_move rfl rfl ?_
        refine r_mul (r := 8192) rfl rfl rfl (w64 (by decide)) ?_
        refine r_rem (r := (((n + 1 + s2) % 8192 : Nat) : Int)) rfl rfl rfl (by decide) rfl ?_
        refine r_assign rfl rfl ?_
        refine r_nil ?_
        refine r_bn ?_
        refine r_tn ?_
        refine r_region ?_
        refine r_move rfl rfl ?_
        refine r_add rfl rfl rfl (w64 (by omega)) ?_
        refine r_assign rfl rfl ?_
        refine r_nil ?_
        refine r_tn ?_
        exact r_again2 (k + 1) ((n + 1 + s2) % 8192) (fun z => if z = 128 * (n / 128) + n % 128 then true else f z) ⟨by omega, Nat.mod_lt _ (by decide), fun z hz => seed_step f hf (by omega) (by omega) z hz⟩ (by omega) ⟨rfl, rfl, rfl, rfl, rfl, rfl, trivial⟩ (fun w hw => hw.sub)
      · refine r_exit ?_
        refine r_te ?_
        refine r_te ?_
        refine r_be ?_
        refine r_tn ?_
        refine r_seq ?_
        refine r_region ?_
        refine r_move rfl rfl ?_
        refine r_assign rfl rfl ?_
        refine r_nil ?_
        refine r_tn ?_
        refine r_ret ?_
        exact r_done1 (.inl rfl) rfl (res_tmp rfl) fun w hw => ⟨(b10, fun y x => f (128 * y + x)), rfl, fun y x hy hx hf2 => by
          have h := hf (128 * y + x) (by omega) hf2
          have e1 : (128 * y + x) % 128 = x := by omega
          have e2 : (128 * y + x) / 128 = y := by omega
          rw [e1, e2] at h
          exact h, by rw [boolsN_congr (g := flatP (fun y x => f (128 * y + x))) (fun z hz => by show f z = f (128 * (z / 128) + z % 128); rw [show 128 * (z / 128) + z % 128 = z by omega])] at hw; exact hw.sub⟩
    · refine r_pass rfl rfl rfl rfl ?_
      refine r_pass rfl rfl rfl rfl ?_
      refine r_pick_f rfl rfl rfl ?_
      refine r_nil ?_
      refine r_tn ?_
      refine r_cond_f rfl ?_
      refine r_exit ?_
      refine r_te ?_
      refine r_te ?_
      refine r_be ?_
      refine r_tn ?_
      refine r_seq ?_
      refine r_region ?_
      refine r_move rfl rfl ?_
      refine r_assign rfl rfl ?_
      refine r_nil ?_
      refine r_tn ?_
      refine r_ret ?_
      exact r_done1 (.inl rfl) rfl (res_tmp rfl) fun w hw => ⟨(b10, fun y x => f (128 * y + x)), rfl, fun y x hy hx hf2 => by
        have h := hf (128 * y + x) (by omega) hf2
        have e1 : (128 * y + x) % 128 = x := by omega
        have e2 : (128 * y + x) / 128 = y := by omega
        rw [e1, e2] at h
        exact h, by rw [boolsN_congr (g := flatP (fun y x => f (128 * y + x))) (fun z hz => by show f z = f (128 * (z / 128) + z % 128); rw [show 128 * (z / 128) + z % 128 = z by omega])] at hw; exact hw.sub⟩
end Go.Proofs.Ytahanpobeekhiaa
