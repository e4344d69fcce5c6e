/-
  Records (chapter 23): the plane of a seed, with its pixels told.
-/
import Derived.Test.YtdkgnnieehidbaaDoorRec23
namespace Go.Proofs.YtdkgnnieehidbaaDoor
open Go Go.RowKit
set_option linter.unusedVariables false
set_option linter.unusedSimpArgs false
set_option maxHeartbeats 2000000
set_option maxRecDepth 4000
attribute [local irreducible] mix

def sStep (st : Int) : Nat := ((st.tmod 1000 + 1000).tmod 1000).toNat
def seedN (N : Nat) (fr st : Int) : Nat → Nat
  | 0 => (fr.tmod (N : Int)).toNat
  | k + 1 => (seedN N fr st k + 1 + sStep st) % N
def seedF (W N : Nat) (fr st : Int) : Nat → Nat → Bool
  | 0 => fun _ => false
  | k + 1 => fun z => if z = 128 * (seedN N fr st k / W) + seedN N fr st k % W then true else seedF W N fr st k z
/-- the pixels of a seed -/
def seedQ (fr st ct : Int) (hires : Bool) (y x : Nat) : Bool := seedF (cond hires 128 64) (cond hires 8192 2048) fr st (min ct.toNat 3000) (128 * y + x)
theorem refPlane23 (fr st ct : Int) (hires : Bool) (w : World) :
    Calls Tryd.prog 23 #[.agg #[.int .i64 fr, .int .i64 st, .int .i64 ct], .bool hires] w fun e w' => ∃ b : Nat, e = .returned (.slice (some ⟨b, 0, none⟩) 8192 8192) ∧ True ∧ Sat w [] [.own 4 1 (.slice (some ⟨b, 0, none⟩) 8192 8192) 8192 (boolsN 8192 (flatP (seedQ fr st ct hires)))] w' := by
  cases hires
  · refine enter Tryd.func23 rfl rfl rfl ?_
    refine r_seq ?_
    refine r_region ?_
    refine r_boxV rfl rfl fun b2 => ?_
    refine r_assign rfl rfl ?_
    refine r_nil ?_
    refine r_tn ?_
    refine r_seq ?_
    refine r_region ?_
    refine r_callx rfl rfl rfl (by kernel_rfl) rfl (fun w hw => refBlank07 w) ?_
    rintro b10 _
    refine r_assign rfl rfl ?_
    refine r_nil ?_
    refine r_tn ?_
    refine r_seq ?_
    refine r_region ?_
    refine r_move rfl rfl ?_
    refine r_call rfl rfl rfl (by kernel_rfl) rfl (fun w hw => by exact width06 false w) ?_
    refine r_assign rfl rfl ?_
    refine r_nil ?_
    refine r_tn ?_
    refine r_seq ?_
    refine r_region ?_
    refine r_move rfl rfl ?_
    refine r_call rfl rfl rfl (by kernel_rfl) rfl (fun w hw => by exact refHeight07 false w) ?_
    refine r_assign rfl rfl ?_
    refine r_nil ?_
    refine r_tn ?_
    refine r_seq ?_
    refine r_region ?_
    refine r_fieldAddr (off := 0) (o' := 0) rfl rfl rfl rfl ?_
    refine r_load1 rfl rfl rfl (by rfl) ?_
    refine r_move rfl rfl ?_
    refine r_move rfl rfl ?_
    refine r_mul (r := 2048) rfl rfl rfl (w64 (by decide)) ?_
    obtain ⟨hm1, hm2⟩ := tmod_rng fr (show 0 < (2048 : Int) by decide)
    obtain ⟨m, hm⟩ : ∃ m, fr.tmod 2048 = m := ⟨_, rfl⟩
    rw [hm] at hm1 hm2
    refine r_rem (r := m) rfl rfl rfl (by decide) hm ?_
    refine r_assign rfl rfl ?_
    refine r_nil ?_
    refine r_tn ?_
    refine r_seq ?_
    refine r_cut (fun n : { n : Nat // n < 2048 ∧ n = (fr.tmod 2048).toNat } => ([(2, .pointer (some ⟨b2, 0, none⟩)), (5, .slice (some ⟨b10, 0, none⟩) 8192 8192), (6, .int .i64 64), (7, .int .i64 32), (8, .int .i64 (n.1 : Int))], [.blk b2 (.cells #[.int .i64 fr, .int .i64 st, .int .i64 ct] 23 (0, 0)), .own 4 1 (.slice (some ⟨b10, 0, none⟩) 8192 8192) 8192 (boolsN 8192 (fun _ => false))])) ?_ ?_
    · refine r_seq ?_
      refine r_region ?_
      refine r_move rfl rfl ?_
      refine r_lss rfl rfl rfl rfl ?_
      refine r_nil ?_
      refine r_tn ?_
      refine r_cond rfl (fun hc => ?_) (fun hc => ?_)
      · refine r_region ?_
        refine r_assign rfl rfl ?_
        refine r_nil ?_
        refine r_tn ?_
        exact r_at ⟨0, by decide, by rw [hm]; have h := of_decide_eq_true hc; omega⟩ ⟨rfl, rfl, rfl, rfl, rfl, trivial⟩ (fun w hw => hw.sub)
      · refine r_skip ?_
        refine r_tn ?_
        exact r_at ⟨m.toNat, by omega, by rw [hm]⟩ ⟨rfl, rfl, rfl, rfl, congrArg (fun z => some (Value.int .i64 z)) (Int.toNat_of_nonneg (by have h := of_decide_eq_false hc; omega)).symm, trivial⟩ (fun w hw => hw.sub)
    rintro ⟨n0, hn0, hn00⟩
    refine r_seq ?_
    refine r_seq ?_
    refine r_region ?_
    refine r_assign rfl rfl ?_
    refine r_nil ?_
    refine r_tn ?_
    refine r_block ?_
    refine r_loop1 (fun k (n : Nat) => [(2, .pointer (some ⟨b2, 0, none⟩)), (5, .slice (some ⟨b10, 0, none⟩) 8192 8192), (6, .int .i64 64), (7, .int .i64 32), (8, .int .i64 (n : Int)), (9, .int .i64 (k : Int))]) (fun k n => [.blk b2 (.cells #[.int .i64 fr, .int .i64 st, .int .i64 ct] 23 (0, 0)), .own 4 1 (.slice (some ⟨b10, 0, none⟩) 8192 8192) 8192 (boolsN 8192 (seedF 64 2048 fr st k))]) (fun k n => k ≤ min ct.toNat 3000 ∧ n < 2048 ∧ n = seedN 2048 fr st  k) (min ct.toNat 3000) 0 n0 ⟨by omega, hn0, hn00⟩ ⟨rfl, rfl, rfl, rfl, rfl, rfl, trivial⟩ (fun w hw => by have h2 : Sat _ _ [.blk b2 (.cells #[.int .i64 fr, .int .i64 st, .int .i64 ct] 23 (0, 0)), .own 4 1 (.slice (some ⟨b10, 0, none⟩) 8192 8192) 8192 (boolsN 8192 (fun _ => false))] w := hw.sub; exact h2) fun k n hf => ?_
    obtain ⟨hk, hn, hnk⟩ := hf
    refine r_seq ?_
    refine r_seq ?_
    refine r_region ?_
    refine r_move rfl rfl ?_
    refine r_fieldAddr (off := 2) (o' := 2) rfl rfl rfl rfl ?_
    refine r_load1 rfl rfl rfl (by rfl) ?_
    refine r_lss rfl rfl rfl rfl ?_
    refine r_move rfl rfl ?_
    refine r_split 27 rfl (fun hb27 => ?_) (fun hb27 => ?_)
    · refine r_go rfl rfl ?_
      refine r_move rfl rfl ?_
      refine r_go rfl rfl ?_
      refine r_lss rfl rfl rfl rfl ?_
      refine r_pick_t rfl rfl rfl ?_
      refine r_nil ?_
      refine r_tn ?_
      refine r_cond rfl (fun hc => ?_) (fun hc => ?_)
      · refine r_skip ?_
        refine r_tn ?_
        refine r_seq ?_
        refine r_block ?_
        refine r_seq ?_
        refine r_mixed (by kernel_rfl) (by kernel_rfl) ?_
        refine r_move rfl rfl ?_
        refine r_move rfl rfl ?_
        refine r_move rfl rfl ?_
        have hk1 : (k : Int) < ct := of_decide_eq_true hb27
        have hk2 : k < 3000 := by have h := of_decide_eq_true hc; omega
        refine r_quo (r := ((n / 64 : Nat) : Int)) rfl rfl rfl (by decide) (w64 (show -9223372036854775808 ≤ ((n / 64 : Nat) : Int) ∧ ((n / 64 : Nat) : Int) ≤ 9223372036854775807 by omega)) ?_
        refine r_mul rfl rfl rfl (w64 (by omega)) ?_
        refine r_move rfl rfl ?_
        refine r_move rfl rfl ?_
        refine r_rem (r := ((n % 64 : Nat) : Int)) rfl rfl rfl (by decide) rfl ?_
        refine r_add rfl rfl rfl (w64 (by omega)) ?_
        refine r_indexSl (sz := 1) (o' := 128 * (n / 64) + n % 64) rfl rfl rfl rfl rfl (by omega) (by omega) (by first | (simp; done) | (simp; omega) | omega) ?_
        refine r_storeOwn (m := 8192) (c := 8192) rfl rfl rfl rfl rfl (by omega) ?_
        rw [boolsN_set]
        refine r_nil ?_
        refine r_tn ?_
        refine r_region ?_
        refine r_move rfl rfl ?_
        refine r_add rfl rfl rfl (w64 (by omega)) ?_
        refine r_fieldAddr (off := 1) (o' := 1) rfl rfl rfl rfl ?_
        refine r_load1 rfl rfl rfl (by rfl) ?_
        obtain ⟨hs1, hs2⟩ := tmod_rng st (show 0 < (1000 : Int) by decide)
        obtain ⟨s1, hs⟩ : ∃ s1, st.tmod 1000 = s1 := ⟨_, rfl⟩
        rw [hs] at hs1 hs2
        refine r_rem (r := s1) rfl rfl rfl (by decide) hs ?_
        refine r_add rfl rfl rfl (w64 (by omega)) ?_
        obtain ⟨s2, hs3, hs4⟩ := tmod_nat (show 0 ≤ s1 + 1000 by omega) (show 0 < (1000 : Int) by decide)
        refine r_rem (r := (s2 : Int)) rfl rfl rfl (by decide) hs3 ?_
        refine r_add (r := ((n + 1 + s2 : Nat) : Int)) rfl rfl rfl ((w64 (by omega)).trans (by omega)) ?_
        refine r_move rfl rfl ?_
        refine r_move rfl rfl ?_
        refine r_mul (r := 2048) rfl rfl rfl (w64 (by decide)) ?_
        refine r_rem (r := (((n + 1 + s2) % 2048 : Nat) : Int)) rfl rfl rfl (by decide) rfl ?_
        refine r_assign rfl rfl ?_
        refine r_nil ?_
        refine r_bn ?_
        refine r_tn ?_
        refine r_region ?_
        refine r_move rfl rfl ?_
        refine r_add rfl rfl rfl (w64 (by omega)) ?_
        refine r_assign rfl rfl ?_
        refine r_nil ?_
        refine r_tn ?_
        have hs5 : sStep st = s2 := by unfold sStep; rw [hs, hs3]; rfl
        exact r_again1 (k + 1) ((n + 1 + s2) % 2048) ⟨by omega, Nat.mod_lt _ (by decide), by rw [hnk, ← hs5]; rfl⟩ (by omega) ⟨rfl, rfl, rfl, rfl, rfl, rfl, trivial⟩ (fun w hw => by
          have e : boolsN 8192 (fun z => if z = 128 * (n / 64) + n % 64 then true else seedF 64 2048 fr st  k z) = boolsN 8192 (seedF 64 2048 fr st  (k + 1)) := by rw [hnk]; rfl
          rw [e] at hw
          exact hw.sub)
      · refine r_exit ?_
        refine r_te ?_
        refine r_te ?_
        refine r_be ?_
        refine r_tn ?_
        refine r_seq ?_
        refine r_region ?_
        refine r_move rfl rfl ?_
        refine r_assign rfl rfl ?_
        refine r_nil ?_
        refine r_tn ?_
        refine r_ret ?_
        have hk3 : k = min ct.toNat 3000 := by first | (have h := of_decide_eq_false hb27; omega) | (have h := of_decide_eq_false hc; omega)
        subst hk3
        exact r_done1 (.inl rfl) rfl (res_tmp rfl) fun w hw => ⟨b10, rfl, trivial, by
          have e : boolsN 8192 (seedF 64 2048 fr st  (min ct.toNat 3000)) = boolsN 8192 (flatP (seedQ fr st ct false)) := boolsN_congr fun z hz => by
            show _ = seedF 64 2048 fr st  (min ct.toNat 3000) (128 * (z / 128) + z % 128)
            rw [show 128 * (z / 128) + z % 128 = z by omega]
          rw [e] at hw
          exact hw.sub⟩
    · refine r_pass rfl rfl rfl rfl ?_
      refine r_pass rfl rfl rfl rfl ?_
      refine r_pick_f rfl rfl rfl ?_
      refine r_nil ?_
      refine r_tn ?_
      refine r_cond_f rfl ?_
      refine r_exit ?_
      refine r_te ?_
      refine r_te ?_
      refine r_be ?_
      refine r_tn ?_
      refine r_seq ?_
      refine r_region ?_
      refine r_move rfl rfl ?_
      refine r_assign rfl rfl ?_
      refine r_nil ?_
      refine r_tn ?_
      refine r_ret ?_
      have hk3 : k = min ct.toNat 3000 := by first | (have h := of_decide_eq_false hb27; omega) | (have h := of_decide_eq_false hc; omega)
      subst hk3
      exact r_done1 (.inl rfl) rfl (res_tmp rfl) fun w hw => ⟨b10, rfl, trivial, by
        have e : boolsN 8192 (seedF 64 2048 fr st  (min ct.toNat 3000)) = boolsN 8192 (flatP (seedQ fr st ct false)) := boolsN_congr fun z hz => by
          show _ = seedF 64 2048 fr st  (min ct.toNat 3000) (128 * (z / 128) + z % 128)
          rw [show 128 * (z / 128) + z % 128 = z by omega]
        rw [e] at hw
        exact hw.sub⟩
  · refine enter Tryd.func23 rfl rfl rfl ?_
    refine r_seq ?_
    refine r_region ?_
    refine r_boxV rfl rfl fun b2 => ?_
    refine r_assign rfl rfl ?_
    refine r_nil ?_
    refine r_tn ?_
    refine r_seq ?_
    refine r_region ?_
    refine r_callx rfl rfl rfl (by kernel_rfl) rfl (fun w hw => refBlank07 w) ?_
    rintro b10 _
    refine r_assign rfl rfl ?_
    refine r_nil ?_
    refine r_tn ?_
    refine r_seq ?_
    refine r_region ?_
    refine r_move rfl rfl ?_
    refine r_call rfl rfl rfl (by kernel_rfl) rfl (fun w hw => by exact width06 true w) ?_
    refine r_assign rfl rfl ?_
    refine r_nil ?_
    refine r_tn ?_
    refine r_seq ?_
    refine r_region ?_
    refine r_move rfl rfl ?_
    refine r_call rfl rfl rfl (by kernel_rfl) rfl (fun w hw => by exact refHeight07 true w) ?_
    refine r_assign rfl rfl ?_
    refine r_nil ?_
    refine r_tn ?_
    refine r_seq ?_
    refine r_region ?_
    refine r_fieldAddr (off := 0) (o' := 0) rfl rfl rfl rfl ?_
    refine r_load1 rfl rfl rfl (by rfl) ?_
    refine r_move rfl rfl ?_
    refine r_move rfl rfl ?_
    refine r_mul (r := 8192) rfl rfl rfl (w64 (by decide)) ?_
    obtain ⟨hm1, hm2⟩ := tmod_rng fr (show 0 < (8192 : Int) by decide)
    obtain ⟨m, hm⟩ : ∃ m, fr.tmod 8192 = m := ⟨_, rfl⟩
    rw [hm] at hm1 hm2
    refine r_rem (r := m) rfl rfl rfl (by decide) hm ?_
    refine r_assign rfl rfl ?_
    refine r_nil ?_
    refine r_tn ?_
    refine r_seq ?_
    refine r_cut (fun n : { n : Nat // n < 8192 ∧ n = (fr.tmod 8192).toNat } => ([(2, .pointer (some ⟨b2, 0, none⟩)), (5, .slice (some ⟨b10, 0, none⟩) 8192 8192), (6, .int .i64 128), (7, .int .i64 64), (8, .int .i64 (n.1 : Int))], [.blk b2 (.cells #[.int .i64 fr, .int .i64 st, .int .i64 ct] 23 (0, 0)), .own 4 1 (.slice (some ⟨b10, 0, none⟩) 8192 8192) 8192 (boolsN 8192 (fun _ => false))])) ?_ ?_
    · refine r_seq ?_
      refine r_region ?_
      refine r_move rfl rfl ?_
      refine r_lss rfl rfl rfl rfl ?_
      refine r_nil ?_
      refine r_tn ?_
      refine r_cond rfl (fun hc => ?_) (fun hc => ?_)
      · refine r_region ?_
        refine r_assign rfl rfl ?_
        refine r_nil ?_
        refine r_tn ?_
        exact r_at ⟨0, by decide, by rw [hm]; have h := of_decide_eq_true hc; omega⟩ ⟨rfl, rfl, rfl, rfl, rfl, trivial⟩ (fun w hw => hw.sub)
      · refine r_skip ?_
        refine r_tn ?_
        exact r_at ⟨m.toNat, by omega, by rw [hm]⟩ ⟨rfl, rfl, rfl, rfl, congrArg (fun z => some (Value.int .i64 z)) (Int.toNat_of_nonneg (by have h := of_decide_eq_false hc; omega)).symm, trivial⟩ (fun w hw => hw.sub)
    rintro ⟨n0, hn0, hn00⟩
    refine r_seq ?_
    refine r_seq ?_
    refine r_region ?_
    refine r_assign rfl rfl ?_
    refine r_nil ?_
    refine r_tn ?_
    refine r_block ?_
    refine r_loop1 (fun k (n : Nat) => [(2, .pointer (some ⟨b2, 0, none⟩)), (5, .slice (some ⟨b10, 0, none⟩) 8192 8192), (6, .int .i64 128), (7, .int .i64 64), (8, .int .i64 (n : Int)), (9, .int .i64 (k : Int))]) (fun k n => [.blk b2 (.cells #[.int .i64 fr, .int .i64 st, .int .i64 ct] 23 (0, 0)), .own 4 1 (.slice (some ⟨b10, 0, none⟩) 8192 8192) 8192 (boolsN 8192 (seedF 128 8192 fr st k))]) (fun k n => k ≤ min ct.toNat 3000 ∧ n < 8192 ∧ n = seedN 8192 fr st  k) (min ct.toNat 3000) 0 n0 ⟨by omega, hn0, hn00⟩ ⟨rfl, rfl, rfl, rfl, rfl, rfl, trivial⟩ (fun w hw => by have h2 : Sat _ _ [.blk b2 (.cells #[.int .i64 fr, .int .i64 st, .int .i64 ct] 23 (0, 0)), .own 4 1 (.slice (some ⟨b10, 0, none⟩) 8192 8192) 8192 (boolsN 8192 (fun _ => false))] w := hw.sub; exact h2) fun k n hf => ?_
    obtain ⟨hk, hn, hnk⟩ := hf
    refine r_seq ?_
    refine r_seq ?_
    refine r_region ?_
    refine r_move rfl rfl ?_
    refine r_fieldAddr (off := 2) (o' := 2) rfl rfl rfl rfl ?_
    refine r_load1 rfl rfl rfl (by rfl) ?_
    refine r_lss rfl rfl rfl rfl ?_
    refine r_move rfl rfl ?_
    refine r_split 27 rfl (fun hb27 => ?_) (fun hb27 => ?_)
    · refine r_go rfl rfl ?_
      refine r_move rfl rfl ?_
      refine r_go rfl rfl ?_
      refine r_lss rfl rfl rfl rfl ?_
      refine r_pick_t rfl rfl rfl ?_
      refine r_nil ?_
      refine r_tn ?_
      refine r_cond rfl (fun hc => ?_) (fun hc => ?_)
      · refine r_skip ?_
        refine r_tn ?_
        refine r_seq ?_
        refine r_block ?_
        refine r_seq ?_
        refine r_mixed (by kernel_rfl) (by kernel_rfl) ?_
        refine r_move rfl rfl ?_
        refine r_move rfl rfl ?_
        refine r_move rfl rfl ?_
        have hk1 : (k : Int) < ct := of_decide_eq_true hb27
        have hk2 : k < 3000 := by have h := of_decide_eq_true hc; omega
        refine r_quo (r := ((n / 128 : Nat) : Int)) rfl rfl rfl (by decide) (w64 (show -9223372036854775808 ≤ ((n / 128 : Nat) : Int) ∧ ((n / 128 : Nat) : Int) ≤ 9223372036854775807 by omega)) ?_
        refine r_mul rfl rfl rfl (w64 (by omega)) ?_
        refine r_move rfl rfl ?_
        refine r_move rfl rfl ?_
        refine r_rem (r := ((n % 128 : Nat) : Int)) rfl rfl rfl (by decide) rfl ?_
        refine r_add rfl rfl rfl (w64 (by omega)) ?_
        refine r_indexSl (sz := 1) (o' := 128 * (n / 128) + n % 128) rfl rfl rfl rfl rfl (by omega) (by omega) (by first | (simp; done) | (simp; omega) | omega) ?_
        refine r_storeOwn (m := 8192) (c := 8192) rfl rfl rfl rfl rfl (by omega) ?_
        rw [boolsN_set]
        refine r_nil ?_
        refine r_tn ?_
        refine r_region ?_
        refine r_move rfl rfl ?_
        refine r_add rfl rfl rfl (w64 (by omega)) ?_
        refine r_fieldAddr (off := 1) (o' := 1) rfl rfl rfl rfl ?_
        refine r_load1 rfl rfl rfl (by rfl) ?_
        obtain ⟨hs1, hs2⟩ := tmod_rng st (show 0 < (1000 : Int) by decide)
        obtain ⟨s1, hs⟩ : ∃ s1, st.tmod 1000 = s1 := ⟨_, rfl⟩
        rw [hs] at hs1 hs2
        refine r_rem (r := s1) rfl rfl rfl (by decide) hs ?_
        refine r_add rfl rfl rfl (w64 (by omega)) ?_
        obtain ⟨s2, hs3, hs4⟩ := tmod_nat (show 0 ≤ s1 + 1000 by omega) (show 0 < (1000 : Int) by decide)
        refine r_rem (r := (s2 : Int)) rfl rfl rfl (by decide) hs3 ?_
        refine r_add (r := ((n + 1 + s2 : Nat) : Int)) rfl rfl rfl ((w64 (by omega)).trans (by omega)) ?_
        refine r_move rfl rfl ?_
        refine r_move rfl rfl ?_
        refine r_mul (r := 8192) rfl rfl rfl (w64 (by decide)) ?_
        refine r_rem (r := (((n + 1 + s2) % 8192 : Nat) : Int)) rfl rfl rfl (by decide) rfl ?_
        refine r_assign rfl rfl ?_
        refine r_nil ?_
        refine r_bn ?_
        refine r_tn ?_
        refine r_region ?_
        refine r_move rfl rfl ?_
        refine r_add rfl rfl rfl (w64 (by omega)) ?_
        refine r_assign rfl rfl ?_
        refine r_nil ?_
        refine r_tn ?_
        have hs5 : sStep st = s2 := by unfold sStep; rw [hs, hs3]; rfl
        exact r_again1 (k + 1) ((n + 1 + s2) % 8192) ⟨by omega, Nat.mod_lt _ (by decide), by rw [hnk, ← hs5]; rfl⟩ (by omega) ⟨rfl, rfl, rfl, rfl, rfl, rfl, trivial⟩ (fun w hw => by
          have e : boolsN 8192 (fun z => if z = 128 * (n / 128) + n % 128 then true else seedF 128 8192 fr st  k z) = boolsN 8192 (seedF 128 8192 fr st  (k + 1)) := by rw [hnk]; rfl
          rw [e] at hw
          exact hw.sub)
      · refine r_exit ?_
        refine r_te ?_
        refine r_te ?_
        refine r_be ?_
        refine r_tn ?_
        refine r_seq ?_
        refine r_region ?_
        refine r_move rfl rfl ?_
        refine r_assign rfl rfl ?_
        refine r_nil ?_
        refine r_tn ?_
        refine r_ret ?_
        have hk3 : k = min ct.toNat 3000 := by first | (have h := of_decide_eq_false hb27; omega) | (have h := of_decide_eq_false hc; omega)
        subst hk3
        exact r_done1 (.inl rfl) rfl (res_tmp rfl) fun w hw => ⟨b10, rfl, trivial, by
          have e : boolsN 8192 (seedF 128 8192 fr st  (min ct.toNat 3000)) = boolsN 8192 (flatP (seedQ fr st ct true)) := boolsN_congr fun z hz => by
            show _ = seedF 128 8192 fr st  (min ct.toNat 3000) (128 * (z / 128) + z % 128)
            rw [show 128 * (z / 128) + z % 128 = z by omega]
          rw [e] at hw
          exact hw.sub⟩
    · refine r_pass rfl rfl rfl rfl ?_
      refine r_pass rfl rfl rfl rfl ?_
      refine r_pick_f rfl rfl rfl ?_
      refine r_nil ?_
      refine r_tn ?_
      refine r_cond_f rfl ?_
      refine r_exit ?_
      refine r_te ?_
      refine r_te ?_
      refine r_be ?_
      refine r_tn ?_
      refine r_seq ?_
      refine r_region ?_
      refine r_move rfl rfl ?_
      refine r_assign rfl rfl ?_
      refine r_nil ?_
      refine r_tn ?_
      refine r_ret ?_
      have hk3 : k = min ct.toNat 3000 := by first | (have h := of_decide_eq_false hb27; omega) | (have h := of_decide_eq_false hc; omega)
      subst hk3
      exact r_done1 (.inl rfl) rfl (res_tmp rfl) fun w hw => ⟨b10, rfl, trivial, by
        have e : boolsN 8192 (seedF 128 8192 fr st  (min ct.toNat 3000)) = boolsN 8192 (flatP (seedQ fr st ct true)) := boolsN_congr fun z hz => by
          show _ = seedF 128 8192 fr st  (min ct.toNat 3000) (128 * (z / 128) + z % 128)
          rw [show 128 * (z / 128) + z % 128 = z by omega]
        rw [e] at hw
        exact hw.sub⟩
end Go.Proofs.YtdkgnnieehidbaaDoor
