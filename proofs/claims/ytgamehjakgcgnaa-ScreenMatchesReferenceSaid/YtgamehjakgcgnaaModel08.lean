/-
  Screens (chapter 08): same, model.
-/
import Derived.Test.YtgamehjakgcgnaaRefU08
import Derived.Test.YtgamehjakgcgnaaPlain08
namespace Go.Proofs.Ytgamehjakgcgnaa
open Go Go.RowKit
set_option linter.unusedVariables false
set_option linter.unusedSimpArgs false
set_option maxHeartbeats 2000000
set_option maxRecDepth 4000
attribute [local irreducible] mix

/-- all pixels lie within the resolution -/
def inP (hires : Bool) (P : Nat → Nat → Nat → Bool) : Prop := ∀ k, k < 4 → ∀ y x, y < 64 → x < 128 → P k y x = true → x < wd hires ∧ y < ht hires
theorem sprK_in (bits count x w : Nat) (clip : Bool) (hx : x < w) (hc : count ≤ w) : ∀ k, k ≤ count → ∀ z, sprK bits count x w clip k z = true → z < w
  | 0, _, z, h => by cases h
  | k + 1, hk, z, h => by
    have ih := sprK_in bits count x w clip hx hc k (by omega)
    unfold sprK at h
    cases hb : bits.testBit (count - 1 - k) with
    | false => rw [hb] at h; exact ih z h
    | true =>
      rw [hb] at h
      have h : plotP (sprK bits count x w clip k) (x + k) w clip z = true := h
      unfold plotP at h
      split at h
      · rename_i h1
        unfold setP at h
        split at h
        · rename_i h2; omega
        · exact ih z h
      · rename_i h1
        cases clip with
        | true => exact ih z h
        | false =>
          have h : setP (sprK bits count x w false k) (((x + k : Nat) : Int) - w) true z = true := h
          unfold setP at h
          split at h
          · rename_i h2; omega
          · exact ih z h
theorem sprQ_in (l : List Int) (count x y : Nat) (hires clip : Bool) (n y1 x1 : Nat) (hx : x < wd hires) (hy : y < ht hires) (hc : count ≤ 16) (h : sprQ l count x y hires clip n y1 x1 = true) : x1 < wd hires ∧ y1 < ht hires := by
  have hwd : 64 ≤ wd hires := by cases hires <;> decide
  unfold sprQ at h
  split at h
  · rename_i h1
    exact ⟨sprK_in _ count x (wd hires) clip hx (by omega) count (Nat.le_refl _) x1 h, h1.2.1⟩
  · split at h
    · rename_i h1
      exact ⟨sprK_in _ count x (wd hires) clip hx (by omega) count (Nat.le_refl _) x1 h, by omega⟩
    · cases h
theorem sprD_in (hires big clip : Bool) (x y : Nat) (d : List Int) (y1 x1 : Nat) (h : sprD ⟨fun _ => noneQ, hires, 0⟩ big clip x y d y1 x1 = true) : x1 < wd hires ∧ y1 < ht hires := by
  have hwd : 64 ≤ wd hires := by cases hires <;> decide
  have hht : 32 ≤ ht hires := by cases hires <;> decide
  rw [sprD_def] at h
  exact sprQ_in _ _ _ _ hires clip _ y1 x1 (Nat.mod_lt _ (by omega)) (Nat.mod_lt _ (by omega)) (by cases big <;> decide) h
theorem stP_in {ff : Nat → (Nat → Nat → Bool) → (Nat → Nat → Bool)} {hires : Bool} {P : Nat → Nat → Nat → Bool} {m : Nat} (h : inP hires P) (hf : ∀ j p, (∀ y x, y < 64 → x < 128 → p y x = true → x < wd hires ∧ y < ht hires) → ∀ y x, y < 64 → x < 128 → ff j p y x = true → x < wd hires ∧ y < ht hires) : inP hires (stP ff P (sel m)).1 := by
  intro k hk
  rw [stP_sel]
  by_cases h1 : k < 4 ∧ m.testBit k = true
  · rw [if_pos h1]
    exact hf _ _ (h k hk)
  · rw [if_neg h1]
    exact h k hk
theorem doS_in {s : Scr} (h : inP s.hires s.P) (t : StepD) : inP (doS s t).1.hires (doS s t).1.P := by
  unfold doS
  split
  · exact h
  · split
    · exact stP_in h fun j p hp y x _ _ h2 => by cases h2
    · split
      · exact fun k hk y x _ _ h2 => by cases h2
      · split
        · refine stP_in h fun j p hp y x _ _ h2 => ?_
          apply Classical.byContradiction
          intro h3
          rw [rsc_zero p _ _ _ (fun h4 => h3 ⟨h4.2, h4.1⟩)] at h2
          cases h2
        · show inP s.hires (drwP s _ _ _ _ _ _).P
          rw [drwP_P]
          refine stP_in h fun j p hp y x hy hx h2 => ?_
          have h2 : (p y x ^^ sprD _ _ _ _ _ _ y x) = true := h2
          cases h3 : p y x with
          | true => exact hp y x hy hx h3
          | false =>
            rw [h3, Bool.false_xor] at h2
            exact sprD_in _ _ _ _ _ _ _ _ h2
theorem part_all (P : Nat → Nat → Bool) : eqQ P (partQ P 64) = true := (eqQ_iff _ _).2 fun y hy x _ => by unfold partQ; rw [if_pos hy]

attribute [local irreducible] scrV stP planeV stH sprD drwP drwH fillL doS plS4 setF inP

theorem rd_lt {w : World} {b o : Nat} {xs : List Value} {u : Value} (h : Rd w (some ⟨b, o, none⟩) xs) (hu : xs[0]? = some u) : b < w.heap.size := by
  obtain ⟨b2, o2, e, hc⟩ := h 0 u hu
  injection e with e
  injection e with e1 _ _
  rw [e1]
  exact World.block_lt_of_cell? w ⟨b2, o2 + 0, none⟩ hc
theorem in_none (hires : Bool) : inP hires (fun _ => noneQ) := by
  unfold inP
  exact fun k hk y x _ _ h2 => by cases h2
theorem drwH_stH (s : Scr) (x y n : Nat) (big clip : Bool) (d : List Int) : drwH s x y n big clip d = stH (ffD s.hires x y n big clip d) (hhD s.hires x y n big clip d) s.P (sel s.mask) := by unfold drwH; rfl

theorem refDrawN08 (P0 : Nat → Nat → Nat → Bool) (i0 : RSc) (hires : Bool) (m : Nat) (hm : m < 16) (x y n : Nat) (hn : n < 16) (big clip : Bool) (D : Option Addr) (d : List Int) (hd : d.length = (sel m).length * perN n big) (hd8 : ∀ z ∈ d, 0 ≤ z ∧ z ≤ 255) (w : World) (h0 : RefS w P0 i0) (hR : Rd w D (d.map (Value.int .u8))) :
    Calls Try.prog 33 #[.agg (rsV i0 hires (m : Int)), .int .i64 (x : Int), .int .i64 (y : Int), .int .i64 (n : Int), .bool big, .bool clip, .slice D ((sel m).length * perN n big) ((sel m).length * perN n big)] w fun e w' => ∃ i : RSc, e = .returned (.tuple #[.agg (rsV i hires (m : Int)), .bool (stH (ffD hires x y n big clip d) (hhD hires x y n big clip d) P0 (sel m))]) ∧ (Tells P0 i0 (stP (ffD hires x y n big clip d) P0 (sel m)).1 i) ∧ Sat w [] (i.R) w' := by
  have h := refDraw08 P0 i0 hires m hm x y n hn big clip D ((sel m).length * perN n big) d hd hd8 w h0 hR
  rw [hd] at h
  exact h


theorem same08 (s : Scr) (i : RSc) (w : World) (h0 : RefS w s.P i) :
    Calls Try.prog 14 #[.agg (scrV s), .agg (rsV i s.hires (s.mask : Int))] w fun e w' => e = .returned (.bool true) ∧ Sat w [] [] w' := by
  obtain ⟨A, cc, f, R⟩ := i
  have h0 : RefS w s.P ⟨A, cc, f, R⟩ := h0
  obtain ⟨ba, oa, hA⟩ := rs_some h0.1
  have hA : A = some ⟨ba, oa, none⟩ := hA
  subst hA
  refine enter Try.func14 rfl rfl rfl ?_
  refine r_seq ?_
  refine r_region ?_
  refine r_boxV rfl rfl fun b2 => ?_
  refine r_boxV rfl rfl fun b3 => ?_
  refine r_assign rfl rfl ?_
  refine r_nil ?_
  refine r_tn ?_
  refine r_seq ?_
  refine r_seq ?_
  refine r_region ?_
  refine r_fieldAddr (off := 512) (o' := 512) rfl rfl rfl rfl ?_
  refine r_load1 rfl rfl rfl (scr_hires s) ?_
  refine r_fieldAddr (off := 1) (o' := 1) rfl rfl rfl rfl ?_
  refine r_load1 rfl rfl rfl (by rfl) ?_
  refine r_neq_bool (p := false) rfl rfl rfl rfl (by simp) ?_
  refine r_move rfl rfl ?_
  refine r_go rfl rfl ?_
  refine r_fieldAddr (off := 513) (o' := 513) rfl rfl rfl rfl ?_
  refine r_go rfl rfl ?_
  refine r_load1 rfl rfl rfl (scr_mask s) ?_
  refine r_go rfl rfl ?_
  refine r_fieldAddr (off := 2) (o' := 2) rfl rfl rfl rfl ?_
  refine r_go rfl rfl ?_
  refine r_load1 rfl rfl rfl (by rfl) ?_
  refine r_go rfl rfl ?_
  refine r_neq (p := false) rfl rfl rfl (by simp) ?_
  refine r_pick_f rfl rfl rfl ?_
  refine r_nil ?_
  refine r_tn ?_
  refine r_cond_f rfl ?_
  refine r_skip ?_
  refine r_tn ?_
  refine r_seq ?_
  refine r_seq ?_
  refine r_region ?_
  refine r_assign rfl rfl ?_
  refine r_nil ?_
  refine r_tn ?_
  refine r_block ?_
  refine r_loopN (fun i => [(2, .pointer (some ⟨b2, 0, none⟩)), (3, .pointer (some ⟨b3, 0, none⟩)), (5, .int .i64 (i : Int))]) (fun i => [.blk b2 (.cells (scrV s) 32 (0, 0)), .blk b3 (.cells #[.slice (some ⟨ba, oa, none⟩) 4 cc, .bool s.hires, .int .i64 (s.mask : Int)] 36 (0, 0))]) (fun i => i ≤ 4) 4 0 (by omega) ⟨rfl, rfl, rfl, trivial⟩ (fun w hw => by have h2 : Sat _ _ [.blk b2 (.cells (scrV s) 32 (0, 0)), .blk b3 (.cells (rsV ⟨some ⟨ba, oa, none⟩, cc, f, R⟩ s.hires (s.mask : Int)) 36 (0, 0))] w := hw.sub; exact h2) fun i hi => ?_
  refine r_seq ?_
  refine r_seq ?_
  refine r_region ?_
  refine r_move rfl rfl ?_
  refine r_lss rfl rfl rfl rfl ?_
  refine r_nil ?_
  refine r_tn ?_
  refine r_cond rfl (fun hc => ?_) (fun hc => ?_)
  · refine r_skip ?_
    refine r_tn ?_
    refine r_seq ?_
    refine r_block ?_
    refine r_seq ?_
    have hi4 : i < 4 := by have h := of_decide_eq_true hc; omega
    clear hc
    refine r_region ?_
    refine r_allocV (cs := planeV noneQ) (by kernel_rfl) rfl fun b6 => ?_
    refine r_nil ?_
    refine r_tn ?_
    refine r_seq ?_
    refine r_seq ?_
    refine r_region ?_
    refine r_assign rfl rfl ?_
    refine r_nil ?_
    refine r_tn ?_
    refine r_block ?_
    refine r_loopN (fun k => [(2, .pointer (some ⟨b2, 0, none⟩)), (3, .pointer (some ⟨b3, 0, none⟩)), (5, .int .i64 (i : Int)), (6, .pointer (some ⟨b6, 0, none⟩)), (7, .int .i64 (k : Int))]) (fun k => [.blk b6 (.cells (planeV (partQ (s.P i) k)) 29 (0, 0)), .blk b2 (.cells (scrV s) 32 (0, 0)), .blk b3 (.cells #[.slice (some ⟨ba, oa, none⟩) 4 cc, .bool s.hires, .int .i64 (s.mask : Int)] 36 (0, 0))]) (fun k => k ≤ 64) 64 0 (by omega) ⟨rfl, rfl, rfl, rfl, rfl, trivial⟩ (fun w hw => by rw [show partQ (s.P i) 0 = noneQ from rfl]; exact hw.sub) fun k hk => ?_
    refine r_seq ?_
    refine r_seq ?_
    refine r_region ?_
    refine r_move rfl rfl ?_
    refine r_lss rfl rfl rfl rfl ?_
    refine r_nil ?_
    refine r_tn ?_
    refine r_cond rfl (fun hc => ?_) (fun hc => ?_)
    · refine r_skip ?_
      refine r_tn ?_
      refine r_seq ?_
      refine r_block ?_
      refine r_seq ?_
      refine r_region ?_
      have hk2 : k < 64 := by have h := of_decide_eq_true hc; omega
      clear hc
      refine r_fieldAddr (off := 0) (o' := 0) rfl rfl rfl rfl ?_
      refine r_load1 rfl rfl rfl (by rfl) ?_
      refine r_move rfl rfl ?_
      refine r_indexSl (sz := 1) (o' := oa + i) rfl rfl rfl rfl rfl (by omega) (by omega) (by omega) ?_
      refine r_loadC (p := ⟨ba, oa + i, none⟩) (v := .slice (some ⟨f i, 0, none⟩) 8192 8192) rfl rfl rfl (fun w hw => (h0.keep hw).1.cell (plS4_at f hi4) rfl) ?_
      refine r_move rfl rfl ?_
      refine r_call rfl rfl rfl (by kernel_rfl) rfl (fun w hw => by exact words07 (s.P i) k (f i) 8192 w ((h0.keep hw).2 i hi4) hk2) ?_
      refine r_move rfl rfl ?_
      refine r_extract rfl rfl rfl ?_
      refine r_extract rfl rfl rfl ?_
      refine r_assign rfl rfl ?_
      refine r_assign rfl rfl ?_
      refine r_nil ?_
      refine r_tn ?_
      refine r_region ?_
      refine r_move rfl rfl ?_
      refine r_move rfl rfl ?_
      refine r_move rfl rfl ?_
      refine r_build (cells := rowV (s.P i k)) rfl rfl (by kernel_rfl) ?_
      refine r_fieldAddr (off := 0) (o' := 0) rfl rfl rfl rfl ?_
      refine r_indexArr (sz := 2) (o' := 2 * k) rfl rfl rfl rfl rfl (by omega) (by omega) (by omega) ?_
      refine r_store (m := 2) (cs' := planeV (partQ (s.P i) (k + 1))) rfl rfl rfl rfl (by rw [planeV_size]; omega) rfl ((planeV_set _ (by omega) _).trans (by rw [partQ_succ (s.P i) k])) ?_
      refine r_nil ?_
      refine r_bn ?_
      refine r_tn ?_
      refine r_region ?_
      refine r_move rfl rfl ?_
      refine r_add rfl rfl rfl (w64 (by omega)) ?_
      refine r_assign rfl rfl ?_
      refine r_nil ?_
      refine r_tn ?_
      exact r_againN (k + 1) (by omega) (by omega) ⟨rfl, rfl, rfl, rfl, rfl, trivial⟩ (fun w hw => hw.sub)
    · refine r_exit ?_
      refine r_te ?_
      refine r_te ?_
      refine r_be ?_
      refine r_tn ?_
      refine r_seq ?_
      refine r_mixed (by kernel_rfl) (by kernel_rfl) ?_
      have hk3 : k = 64 := by have h := of_decide_eq_false hc; omega
      subst hk3
      refine r_move rfl rfl ?_
      refine r_fieldAddr (off := 0) (o' := 0) rfl rfl rfl rfl ?_
      refine r_indexArr (sz := 128) (o' := 128 * i) rfl rfl rfl rfl rfl (by omega) (by omega) (by omega) ?_
      refine r_loadN (m := 128) rfl rfl rfl rfl (by rw [scrV_size]; omega) (scr_plane _ hi4) ?_
      refine r_loadV rfl rfl rfl rfl (planeV_size _) ?_
      refine r_neqAgg (p := false) rfl rfl rfl planeFlat (planeV_ok _) (planeV_ok _) (by rw [plane_eq, part_all]; rfl) ?_
      refine r_nil ?_
      refine r_tn ?_
      refine r_cond_f rfl ?_
      refine r_skip ?_
      refine r_bn ?_
      refine r_tn ?_
      refine r_region ?_
      refine r_move rfl rfl ?_
      refine r_add rfl rfl rfl (w64 (by omega)) ?_
      refine r_assign rfl rfl ?_
      refine r_nil ?_
      refine r_tn ?_
      exact r_againN (i + 1) (by omega) (by omega) ⟨rfl, rfl, rfl, trivial⟩ (fun w hw => hw.sub)
  · refine r_exit ?_
    refine r_te ?_
    refine r_te ?_
    refine r_be ?_
    refine r_tn ?_
    refine r_seq ?_
    refine r_region ?_
    refine r_assign rfl rfl ?_
    refine r_nil ?_
    refine r_tn ?_
    refine r_ret ?_
    exact r_done1 (.inl rfl) rfl (res_tmp rfl) fun w hw => ⟨rfl, hw.clear⟩

theorem model08 (s : Scr) (hm : s.mask < 16) (hin : inP s.hires s.P) (t : StepD) (i0 : RSc) (w : World) (h0 : RefS w s.P i0) (ok : okStep w t) :
    Calls Try.prog 13 #[.agg (rsV i0 s.hires (s.mask : Int)), .agg (stepL t).toArray] w fun e w' => ∃ i : RSc, e = .returned (.tuple #[.agg (rsV i (doS s t).1.hires ((doS s t).1.mask : Int)), .bool (doS s t).2]) ∧ (Tells s.P i0 (doS s t).1.P i) ∧ Sat w [] (i.R) w' := by
  obtain ⟨kd, mk, hi_, x, y, n_, big, clip, A, c, d⟩ := t
  have hR : Rd w A (d.map (Value.int .u8)) := ok.2.2.2.2.2.1
  have hd8 : ∀ z ∈ d, 0 ≤ z ∧ z ≤ 255 := ok.2.2.2.2.2.2.1
  have hin : ∀ k, k < 4 → ∀ y x, y < 64 → x < 128 → s.P k y x = true → x < wd s.hires ∧ y < ht s.hires := by unfold inP at hin; exact hin
  refine enter Try.func13 rfl rfl rfl ?_
  refine r_seq ?_
  refine r_region ?_
  refine r_boxV rfl rfl fun b2 => ?_
  refine r_boxV rfl rfl fun b3 => ?_
  refine r_allocV (cs := #[.slice none 0 0, .bool false, .int .i64 0]) (by kernel_rfl) rfl fun b4 => ?_
  refine r_assign rfl rfl ?_
  refine r_nil ?_
  refine r_tn ?_
  refine r_seq ?_
  refine r_region ?_
  refine r_fieldAddr (off := 5) (o' := 5) rfl rfl rfl rfl ?_
  refine r_load1 rfl rfl rfl (by rfl) ?_
  refine r_call rfl rfl rfl (by kernel_rfl) rfl (fun w hw => by exact modN08 n_ 16 (.inl rfl) w) ?_
  refine r_assign rfl rfl ?_
  refine r_nil ?_
  refine r_tn ?_
  refine r_seq ?_
  refine r_seq ?_
  refine r_region ?_
  refine r_fieldAddr (off := 0) (o' := 0) rfl rfl rfl rfl ?_
  refine r_load1 rfl rfl rfl (by rfl) ?_
  refine r_nil ?_
  refine r_tn ?_
  refine r_block ?_
  refine r_seq ?_
  refine r_region ?_
  refine r_eql (p := decide (kd = 0)) rfl rfl rfl rfl ?_
  refine r_assign rfl rfl ?_
  refine r_nil ?_
  refine r_tn ?_
  refine r_cond rfl (fun hc => ?_) (fun hc => ?_)
  · refine r_seq ?_
    refine r_mixedD { xb := [], rb := [b2], rs := [14], fs := [], acs := [17] } (by kernel_rfl) (by kernel_rfl) (fun w hw k hk => by
      simp only [List.mem_cons, List.not_mem_nil, or_false] at hk
      rcases hk with rfl <;> exact Sat.lt hw) ?_
    refine r_loadV rfl rfl rfl rfl rfl ?_
    refine r_fieldAddr (off := 1) (o' := 1) rfl rfl rfl rfl ?_
    refine r_load1 rfl rfl rfl (by rfl) ?_
    refine r_call rfl rfl rfl (by kernel_rfl) rfl (fun w hw => by exact modN08 mk 16 (.inl rfl) w) ?_
    refine r_call rfl rfl rfl (by kernel_rfl) rfl (fun w hw => by exact refSel08 i0 s.hires (s.mask : Int) ((mN mk 16 : Nat) : Int) w) ?_
    refine r_storeV rfl rfl rfl rfl rfl rfl ?_
    refine r_assign rfl rfl ?_
    refine r_nil ?_
    refine r_tn ?_
    refine r_ret ?_
    refine r_br ?_
    refine r_tr ?_
    rw [show doS s ⟨kd, mk, hi_, x, y, n_, big, clip, A, c, d⟩ = (⟨s.P, s.hires, mN mk 16⟩, false) from by unfold doS; simp_all]
    exact r_done2 (.inl rfl) rfl (res_cellV rfl rfl rfl rfl) (res_tmp rfl) fun w hw => ⟨⟨i0.A, i0.c, i0.f, []⟩, rfl, fun w1 h _ => h, hw.clear⟩
  · refine r_seq ?_
    refine r_region ?_
    refine r_eql (p := decide (kd = 1)) rfl rfl rfl rfl ?_
    refine r_assign rfl rfl ?_
    refine r_nil ?_
    refine r_tn ?_
    refine r_cond rfl (fun hc => ?_) (fun hc => ?_)
    · refine r_seq ?_
      refine r_region ?_
      refine r_loadV rfl rfl rfl rfl rfl ?_
      refine r_callx rfl rfl rfl (by kernel_rfl) rfl (fun w hw => by exact refClear08 s.P i0 s.hires s.mask hm w (h0.keep hw)) ?_
      rintro i hi
      refine Run.less (fun w hw => by have h1 := hw.perm List.perm_append_comm; simp only [List.nil_append, List.cons_append, List.append_assoc] at h1; exact h1) ?_
      refine r_storeV rfl rfl rfl rfl rfl rfl ?_
      refine r_assign rfl rfl ?_
      refine r_nil ?_
      refine r_tn ?_
      refine r_ret ?_
      refine r_br ?_
      refine r_tr ?_
      rw [show doS s ⟨kd, mk, hi_, x, y, n_, big, clip, A, c, d⟩ = (⟨(stP (fun _ _ => noneQ) s.P (sel s.mask)).1, s.hires, s.mask⟩, false) from by unfold doS; simp_all]
      exact r_done2 (.inl rfl) rfl (res_cellV rfl rfl rfl rfl) (res_tmp rfl) fun w hw => ⟨i, rfl, hi, hw.sub⟩
    · refine r_seq ?_
      refine r_region ?_
      refine r_eql (p := decide (kd = 2)) rfl rfl rfl rfl ?_
      refine r_assign rfl rfl ?_
      refine r_nil ?_
      refine r_tn ?_
      refine r_cond rfl (fun hc => ?_) (fun hc => ?_)
      · refine r_seq ?_
        refine r_region ?_
        refine r_loadV rfl rfl rfl rfl rfl ?_
        refine r_fieldAddr (off := 2) (o' := 2) rfl rfl rfl rfl ?_
        refine r_load1 rfl rfl rfl (by rfl) ?_
        refine r_callx rfl rfl rfl (by kernel_rfl) rfl (fun w hw => by exact refResol08 i0 s.hires hi_ (s.mask : Int) w) ?_
        rintro i hi
        refine Run.less (fun w hw => by have h1 := hw.perm List.perm_append_comm; simp only [List.nil_append, List.cons_append, List.append_assoc] at h1; exact h1) ?_
        refine r_storeV rfl rfl rfl rfl rfl rfl ?_
        refine r_assign rfl rfl ?_
        refine r_nil ?_
        refine r_tn ?_
        refine r_ret ?_
        refine r_br ?_
        refine r_tr ?_
        rw [show doS s ⟨kd, mk, hi_, x, y, n_, big, clip, A, c, d⟩ = (⟨fun _ => noneQ, hi_, s.mask⟩, false) from by unfold doS; simp_all]
        exact r_done2 (.inl rfl) rfl (res_cellV rfl rfl rfl rfl) (res_tmp rfl) fun w hw => ⟨i, rfl, fun w1 _ h => hi w1 h, hw.sub⟩
      · refine r_seq ?_
        refine r_region ?_
        refine r_eql (p := decide (kd = 3)) rfl rfl rfl rfl ?_
        refine r_assign rfl rfl ?_
        refine r_nil ?_
        refine r_tn ?_
        refine r_cond rfl (fun hc => ?_) (fun hc => ?_)
        · refine r_seq ?_
          refine r_mixedD { xb := [], rb := [b2, b3], rs := [31, 37], fs := [], acs := [34, 38] } (by kernel_rfl) (by kernel_rfl) (fun w hw k hk => by
            simp only [List.mem_cons, List.not_mem_nil, or_false] at hk
            rcases hk with rfl | rfl <;> exact Sat.lt hw) ?_
          refine r_loadV rfl rfl rfl rfl rfl ?_
          refine r_fieldAddr (off := 3) (o' := 3) rfl rfl rfl rfl ?_
          refine r_load1 rfl rfl rfl (by rfl) ?_
          refine r_call rfl rfl rfl (by kernel_rfl) rfl (fun w hw => by exact modN08 x 33 (.inr (.inl rfl)) w) ?_
          refine r_sub (r := ((mN x 33 : Nat) : Int) - 16) rfl rfl rfl (by have h := mN_lt (a := x) (m := 33) (by omega); exact w64 (by omega)) ?_
          refine r_fieldAddr (off := 4) (o' := 4) rfl rfl rfl rfl ?_
          refine r_load1 rfl rfl rfl (by rfl) ?_
          refine r_call rfl rfl rfl (by kernel_rfl) rfl (fun w hw => by exact modN08 y 33 (.inr (.inl rfl)) w) ?_
          refine r_sub (r := ((mN y 33 : Nat) : Int) - 16) rfl rfl rfl (by have h := mN_lt (a := y) (m := 33) (by omega); exact w64 (by omega)) ?_
          refine r_callx rfl rfl rfl (by kernel_rfl) rfl (fun w hw => by exact refScrS08 s.P i0 s.hires s.mask hm (((mN x 33 : Nat) : Int) - 16) (((mN y 33 : Nat) : Int) - 16) hin (by have h := mN_lt (a := x) (m := 33) (by omega); omega) (by have h := mN_lt (a := y) (m := 33) (by omega); omega) w (h0.keep hw)) ?_
          rintro i hi
          refine Run.less (fun w hw => by have h1 := hw.perm List.perm_append_comm; simp only [List.nil_append, List.cons_append, List.append_assoc] at h1; exact h1) ?_
          refine r_storeV rfl rfl rfl rfl rfl rfl ?_
          refine r_assign rfl rfl ?_
          refine r_nil ?_
          refine r_tn ?_
          refine r_ret ?_
          refine r_br ?_
          refine r_tr ?_
          rw [show doS s ⟨kd, mk, hi_, x, y, n_, big, clip, A, c, d⟩ = (⟨(stP (fun _ p => scrollQ p (((mN x 33 : Nat) : Int) - 16) (((mN y 33 : Nat) : Int) - 16) s.hires) s.P (sel s.mask)).1, s.hires, s.mask⟩, false) from by unfold doS; simp_all]
          exact r_done2 (.inl rfl) rfl (res_cellV rfl rfl rfl rfl) (res_tmp rfl) fun w hw => ⟨i, rfl, hi, hw.sub⟩
        · refine r_skip ?_
          refine r_bn ?_
          refine r_tn ?_
          refine r_seq ?_
          refine r_mixedD { xb := [], rb := [b2, b3], rs := [41, 46, 50, 52, 54, 56, 59], fs := [], acs := [44, 47, 60, 61] } (by kernel_rfl) (by kernel_rfl) (fun w hw k hk => by
            simp only [List.mem_cons, List.not_mem_nil, or_false] at hk
            rcases hk with rfl | rfl <;> exact Sat.lt hw) ?_
          refine r_loadV rfl rfl rfl rfl rfl ?_
          refine r_fieldAddr (off := 3) (o' := 3) rfl rfl rfl rfl ?_
          refine r_load1 rfl rfl rfl (by rfl) ?_
          refine r_call rfl rfl rfl (by kernel_rfl) rfl (fun w hw => by exact modN08 x 256 (.inr (.inr rfl)) w) ?_
          refine r_fieldAddr (off := 4) (o' := 4) rfl rfl rfl rfl ?_
          refine r_load1 rfl rfl rfl (by rfl) ?_
          refine r_call rfl rfl rfl (by kernel_rfl) rfl (fun w hw => by exact modN08 y 256 (.inr (.inr rfl)) w) ?_
          refine r_move rfl rfl ?_
          refine r_fieldAddr (off := 6) (o' := 6) rfl rfl rfl rfl ?_
          refine r_load1 rfl rfl rfl (by rfl) ?_
          refine r_fieldAddr (off := 7) (o' := 7) rfl rfl rfl rfl ?_
          refine r_load1 rfl rfl rfl (by rfl) ?_
          refine r_fieldAddr (off := 8) (o' := 8) rfl rfl rfl rfl ?_
          refine r_load1 rfl rfl rfl (by rfl) ?_
          refine r_fieldAddr (off := 2) (o' := 2) rfl rfl rfl rfl ?_
          refine r_load1 rfl rfl rfl (by rfl) ?_
          refine r_move rfl rfl ?_
          refine r_fieldAddr (off := 6) (o' := 6) rfl rfl rfl rfl ?_
          refine r_load1 rfl rfl rfl (by rfl) ?_
          refine r_call rfl rfl rfl (by kernel_rfl) rfl (fun w hw => by exact refNeed08 s.mask (mN n_ 16) hm (by have h := mN_lt (a := n_) (m := 16) (by omega); omega) big w) ?_
          refine r_callx rfl rfl rfl (by kernel_rfl) rfl (fun w hw => by exact fill08 d ((sel s.mask).length * perN (mN n_ 16) big) A c (by have h := need_le (m := s.mask) (n := mN n_ 16) (by have h := mN_lt (a := n_) (m := 16) (by omega); omega) big; omega) w (hR.keep hw)) ?_
          rintro b61 _
          refine r_callx rfl rfl rfl (by kernel_rfl) rfl (fun w hw => by exact refDrawN08 s.P i0 s.hires s.mask hm (mN x 256) (mN y 256) (mN n_ 16) (mN_lt (by omega)) big clip (some ⟨b61, 0, none⟩) (fillL d ((sel s.mask).length * perN (mN n_ 16) big)) (fillL_len _ _) (fillL_bytes hd8 _) w (h0.keep hw) (own_rd (A := some ⟨b61, 0, none⟩) (m := (sel s.mask).length * perN (mN n_ 16) big) (c := (sel s.mask).length * perN (mN n_ 16) big) hw)) ?_
          rintro i hi
          refine Run.less (fun w hw => by have h1 := hw.perm List.perm_append_comm; simp only [List.nil_append, List.cons_append, List.append_assoc] at h1; exact h1) ?_
          refine r_extract rfl rfl rfl ?_
          refine r_extract rfl rfl rfl ?_
          refine r_storeV rfl rfl rfl rfl rfl rfl ?_
          refine r_assign rfl rfl ?_
          refine r_nil ?_
          refine r_tn ?_
          refine r_ret ?_
          rw [show doS s ⟨kd, mk, hi_, x, y, n_, big, clip, A, c, d⟩ = (drwP s (mN x 256) (mN y 256) (mN n_ 16) big clip (fillL d ((sel s.mask).length * perN (mN n_ 16) big)), drwH s (mN x 256) (mN y 256) (mN n_ 16) big clip (fillL d ((sel s.mask).length * perN (mN n_ 16) big))) from by unfold doS; simp_all]
          rw [drwP_P, drwP_hires, drwP_mask, drwH_stH]
          exact r_done2 (.inl rfl) rfl (res_cellV rfl rfl rfl rfl) (res_tmp rfl) fun w hw => ⟨i, rfl, hi, hw.sub⟩
end Go.Proofs.Ytgamehjakgcgnaa
