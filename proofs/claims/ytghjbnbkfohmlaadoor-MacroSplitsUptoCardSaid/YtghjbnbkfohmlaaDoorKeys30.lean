/-
  Macros (chapter 30): the variables; Itoa, Atoi, Split; keys.
-/
import Derived.Test.YtghjbnbkfohmlaaDoorRules30
import Derived.Lib.AtoiErrMem
namespace Go.Proofs.YtghjbnbkfohmlaaDoor
open Go Go.RowKit
set_option linter.unusedVariables false
set_option linter.unusedSimpArgs false
set_option maxHeartbeats 2000000
set_option maxRecDepth 4000
attribute [local irreducible] mix

/-- what the variables hold -/
def Glob30 (w : World) : Prop := Rd w (some ⟨0, 0, none⟩) ((List.range 16).map fun n => txV [hexC n]) ∧ Lib.TabIs Tryd.prog w "internal/strconv.uint64pow10" .u64 Lib.pow10Tab ∧ (∃ m, Rd w (some ⟨2, 0, none⟩) [.int .i64 m]) ∧
  (∃ tp p, Rd w (some ⟨7, 0, none⟩) [.iface tp p]) ∧ ∃ tp p, Rd w (some ⟨8, 0, none⟩) [.iface tp p]
theorem tabKeep {w w1 : World} {H : List Res} (h3 : Lib.TabIs Tryd.prog w "internal/strconv.uint64pow10" .u64 Lib.pow10Tab) (hw : Sat w [] H w1) : Lib.TabIs Tryd.prog w1 "internal/strconv.uint64pow10" .u64 Lib.pow10Tab := by
  unfold Lib.TabIs World.var? at h3 ⊢
  obtain ⟨g, hg, h4⟩ := Option.bind_eq_some_iff.1 h3
  rw [hg]
  show (match w1.heap[g]? with | some (.cells cs _ _) => some cs | _ => none) = _
  have hlt : g < w.heap.size := by
    apply Classical.byContradiction
    intro hn
    rw [Array.getElem?_eq_none (by omega)] at h4
    cases h4
  rw [hw.keep g hlt (by simp)]
  exact h4
theorem Glob30.keep {w w1 : World} {H : List Res} (h : Glob30 w) (hw : Sat w [] H w1) : Glob30 w1 := by
  obtain ⟨h1, h2, ⟨m, h3⟩, ⟨tp, p, h4⟩, tp2, p2, h5⟩ := h
  exact ⟨h1.keep hw, tabKeep h2 hw, ⟨m, h3.keep hw⟩, ⟨tp, p, h4.keep hw⟩, tp2, p2, h5.keep hw⟩
theorem str_eq {l m : List UInt8} (h : ((tx l).toList == (tx m).toList) = true) : l = m := by
  rw [tx_list, tx_list] at h
  exact beq_iff_eq.1 h
theorem str_ne {l m : List UInt8} (h : ((tx l).toList == (tx m).toList) = false) : l ≠ m := by
  rw [tx_list, tx_list] at h
  exact beq_eq_false_iff_ne.1 h
theorem hexR_one {k : Nat} (h : k < 16) : hexR k 1 = [hexC k] := by
  show [hexC (k / 16 ^ 0 % 16)] = _
  rw [Nat.pow_zero, Nat.div_one, Nat.mod_eq_of_lt h]
theorem itoa30 (n : Int) (h0 : -9223372036854775808 ≤ n) (h1 : n ≤ 9223372036854775807) (w : World) (hG : Glob30 w) : Calls Tryd.prog 22 #[.int .i64 n] w fun e w' => e = .returned (.string (tx (Lib.itoa n))) ∧ Sat w [] [] w' :=
  (Tryd.strconv_Itoa n h0 h1 w hG.2.1).mono fun e w1 ⟨he, k, os, hw⟩ => ⟨he, by
    rw [hw]
    exact sat_below ⟨rfl, rfl, rfl, by first | (simp [Go.Sort.grow]; done) | (simp [Go.Sort.grow]; omega), fun i hi => by
      show ((w.drewN k).heap ++ os)[i]? = _
      rw [Array.getElem?_append_left (by show i < w.heap.size; omega)]
      rfl⟩⟩
/-- strings.Split at a space -/
theorem split30 (s : List UInt8) (hs : s.length ≤ 1000000) (w : World) (hG : Glob30 w) : Calls Tryd.prog 23 #[.string (tx s), .string (ByteArray.mk #[32])] w fun e w' => ∃ i : Nat, e = .returned (.slice (some ⟨i, 0, none⟩) (splitS s).length (splitS s).length) ∧ True ∧ Sat w [] [.own 9 1 (.slice (some ⟨i, 0, none⟩) (splitS s).length (splitS s).length) (splitS s).length ((splitS s).map txV)] w' := by
  obtain ⟨m, hm⟩ := hG.2.2.1
  have hlen := splitS_len s
  refine (Tryd.strings_Split (tx s) (ByteArray.mk #[32]) m w (by rw [tx_size]; omega) (hm.cell (j := 0) rfl rfl) (by decide)).mono fun e w1 ⟨he, hw⟩ => ⟨w.heap.size, ?_, trivial, ?_⟩
  · rw [he, countB_len]
  · rw [hw, splitB_all]
    have h2 := (Sat.nil w).ownNew ((splitS s).map txV).toArray 9 1 (splitS s).length (by unfold maxLen; omega) (by simp)
    exact h2
/-- strconv.Atoi: a number, or an error that is not nil -/
theorem atoi30 (s : List UInt8) (hs : s.length ≤ 1000000) (w : World) (hG : Glob30 w) : Calls Tryd.prog 52 #[.string (tx s)] w fun e w' => ∃ i : Int × Value, e = .returned (.tuple #[.int .i64 i.1, i.2]) ∧ ((i.2 = .nilIface ∧ Lib.atoiAll s = .ok i.1) ∨ (∃ tp p, i.2 = .iface tp p) ∧ ∀ v, Lib.atoiAll s ≠ .ok v) ∧ Sat w [] [] w' := by
  cases ha : Lib.atoiAll s with
  | ok v =>
    refine (Tryd.strconv_Atoi_ok (tx s) (by rw [tx_size]; omega) v ha w).mono fun e w1 ⟨he, hw⟩ => ⟨(v, .nilIface), he, .inl ⟨rfl, rfl⟩, ?_⟩
    rcases hw with rfl | ⟨t, rfl⟩
    · exact (Sat.nil _)
    · exact sat_below (Lib.bytesWorld_below w _ t)
  | «syntax» =>
    obtain ⟨tp, p, h4⟩ := hG.2.2.2.1
    exact (Tryd.strconv_Atoi_syntax (tx s) (by rw [tx_size]; omega) ha (.iface tp p) w (h4.cell (j := 0) rfl rfl) (.inr ⟨tp, p, rfl⟩)).mono fun e w1 ⟨N, he, _, _, hb⟩ => ⟨(0, _), he, .inr ⟨⟨_, _, rfl⟩, fun v h => by cases h⟩, sat_below hb⟩
  | range =>
    obtain ⟨tp, p, h4⟩ := hG.2.2.2.2
    exact (Tryd.strconv_Atoi_range (tx s) (by rw [tx_size]; omega) ha (.iface tp p) w (h4.cell (j := 0) rfl rfl) (.inr ⟨tp, p, rfl⟩)).mono fun e w1 ⟨N, he, _, _, hb⟩ => ⟨(Lib.atoiSat s, _), he, .inr ⟨⟨_, _, rfl⟩, fun v h => by cases h⟩, sat_below hb⟩


theorem key30 (s : List UInt8) (w : World) (hG : Glob30 w) :
    Calls Tryd.prog 40 #[.string (tx s)] w fun e w' => e = .returned (.tuple #[.int .i64 (((keyN s).getD 0 : Nat) : Int), .bool (keyN s).isSome]) ∧ Sat w [] [] w' := by
  refine enter Tryd.func40 rfl rfl rfl ?_
  refine r_seq ?_
  refine r_region ?_
  refine r_assign rfl rfl ?_
  refine r_assign rfl rfl ?_
  refine r_nil ?_
  refine r_tn ?_
  refine r_seq ?_
  refine r_seq ?_
  refine r_region ?_
  refine r_loadRd (m := 16) (vs := ((List.range 16).map fun n => txV [hexC n])) rfl rfl rfl rfl (by simp) (fun w hw => (hG.keep hw).1) ?_
  refine r_move rfl rfl ?_
  refine r_nil ?_
  refine r_tn ?_
  refine r_block ?_
  refine r_loopN (fun k => [(0, .string (tx s)), (6, .agg ((List.range 16).map fun n => txV [hexC n]).toArray), (7, .int .i64 (k : Int))]) (fun _ => []) (fun k => k ≤ 16 ∧ ∀ j, j < k → [hexC j] ≠ s) 16 0 ⟨by omega, fun j hj => by omega⟩ ⟨rfl, rfl, rfl, trivial⟩ (fun w hw => hw.clear) fun k hk => ?_
  obtain ⟨hk, hj⟩ := hk
  refine r_seq ?_
  refine r_region ?_
  refine r_lss rfl rfl rfl rfl ?_
  refine r_nil ?_
  refine r_tn ?_
  refine r_seq ?_
  refine r_cond rfl (fun hc => ?_) (fun hc => ?_)
  · refine r_skip ?_
    refine r_tn ?_
    refine r_seq ?_
    refine r_block ?_
    refine r_seq ?_
    refine r_region ?_
    have hk2 : k < 16 := by have h := of_decide_eq_true hc; omega
    clear hc
    refine r_move rfl rfl ?_
    refine r_indexCell (i' := k) (v := txV [hexC k]) rfl rfl rfl rfl rfl rfl rfl hk2 (by simp [hk2]) ?_
    refine r_assign rfl rfl ?_
    refine r_assign rfl rfl ?_
    refine r_nil ?_
    refine r_tn ?_
    refine r_seq ?_
    refine r_region ?_
    refine r_move rfl rfl ?_
    refine r_move rfl rfl ?_
    refine r_eql_string (a := tx [hexC k]) (b := tx s) rfl rfl rfl rfl ?_
    refine r_nil ?_
    refine r_tn ?_
    refine r_cond rfl (fun hc => ?_) (fun hc => ?_)
    · refine r_seq ?_
      refine r_region ?_
      refine r_move rfl rfl ?_
      refine r_assign rfl rfl ?_
      refine r_assign rfl rfl ?_
      refine r_nil ?_
      refine r_tn ?_
      refine r_ret ?_
      refine r_br ?_
      refine r_tr ?_
      refine r_tr ?_
      refine r_br ?_
      refine r_tr ?_
      rw [keyN_of hk2 (str_eq hc)]
      exact r_done2 (.inl rfl) rfl (res_tmp rfl) (res_tmp rfl) fun w hw => ⟨rfl, hw.clear⟩
    · refine r_skip ?_
      refine r_bn ?_
      refine r_tn ?_
      refine r_region ?_
      refine r_add rfl rfl rfl (w64 (by omega)) ?_
      refine r_move rfl rfl ?_
      refine r_nil ?_
      refine r_tn ?_
      exact r_againN (k + 1) ⟨by omega, fun j hj2 => by
        by_cases e : j = k
        · subst e; exact str_ne hc
        · exact hj j (by omega)⟩ (by omega) ⟨rfl, rfl, rfl, trivial⟩ (fun w hw => hw.clear)
  · refine r_exit ?_
    refine r_te ?_
    refine r_te ?_
    refine r_be ?_
    refine r_tn ?_
    refine r_seq ?_
    refine r_region ?_
    refine r_assign rfl rfl ?_
    refine r_assign rfl rfl ?_
    refine r_nil ?_
    refine r_tn ?_
    refine r_ret ?_
    have hk3 : k = 16 := by have h := of_decide_eq_false hc; omega
    subst hk3
    rw [keyN_none hj]
    exact r_done2 (.inl rfl) rfl (res_tmp rfl) (res_tmp rfl) fun w hw => ⟨rfl, hw.clear⟩

theorem refKey30 (s : List UInt8) (w : World) :
    Calls Tryd.prog 28 #[.string (tx s)] w fun e w' => e = .returned (.int .i64 (match keyN s with | some n => (n : Int) | none => -1)) ∧ Sat w [] [] w' := by
  refine enter Tryd.func28 rfl rfl rfl ?_
  refine r_seq ?_
  refine r_region ?_
  refine r_assign rfl rfl ?_
  refine r_nil ?_
  refine r_tn ?_
  refine r_seq ?_
  refine r_seq ?_
  refine r_region ?_
  refine r_assign rfl rfl ?_
  refine r_nil ?_
  refine r_tn ?_
  refine r_block ?_
  refine r_loopN (fun k => [(0, .string (tx s)), (3, .int .i64 (k : Int))]) (fun _ => []) (fun k => k ≤ 16 ∧ ∀ j, j < k → [hexC j] ≠ s) 16 0 ⟨by omega, fun j hj => by omega⟩ ⟨rfl, rfl, trivial⟩ (fun w hw => hw.clear) fun k hk => ?_
  obtain ⟨hk, hj⟩ := hk
  refine r_seq ?_
  refine r_seq ?_
  refine r_region ?_
  refine r_move rfl rfl ?_
  refine r_lss rfl rfl rfl rfl ?_
  refine r_nil ?_
  refine r_tn ?_
  refine r_cond rfl (fun hc => ?_) (fun hc => ?_)
  · refine r_skip ?_
    refine r_tn ?_
    refine r_seq ?_
    refine r_block ?_
    refine r_seq ?_
    refine r_region ?_
    have hk2 : k < 16 := by have h := of_decide_eq_true hc; omega
    clear hc
    refine r_move rfl rfl ?_
    refine r_call rfl rfl rfl (by kernel_rfl) rfl (fun w hw => by exact refHex24 k 1 (by omega) (by omega) w) ?_
    rw [hexR_one hk2]
    refine r_move rfl rfl ?_
    refine r_eql_string (a := tx [hexC k]) (b := tx s) rfl rfl rfl rfl ?_
    refine r_nil ?_
    refine r_tn ?_
    refine r_cond rfl (fun hc => ?_) (fun hc => ?_)
    · refine r_seq ?_
      refine r_region ?_
      refine r_move rfl rfl ?_
      refine r_assign rfl rfl ?_
      refine r_nil ?_
      refine r_tn ?_
      refine r_ret ?_
      refine r_br ?_
      refine r_tr ?_
      refine r_tr ?_
      refine r_br ?_
      refine r_tr ?_
      rw [keyN_of hk2 (str_eq hc)]
      exact r_done1 (.inl rfl) rfl (res_tmp rfl) fun w hw => ⟨rfl, hw.clear⟩
    · refine r_skip ?_
      refine r_bn ?_
      refine r_tn ?_
      refine r_region ?_
      refine r_move rfl rfl ?_
      refine r_add rfl rfl rfl (w64 (by omega)) ?_
      refine r_assign rfl rfl ?_
      refine r_nil ?_
      refine r_tn ?_
      exact r_againN (k + 1) ⟨by omega, fun j hj2 => by
        by_cases e : j = k
        · subst e; exact str_ne hc
        · exact hj j (by omega)⟩ (by omega) ⟨rfl, rfl, trivial⟩ (fun w hw => hw.clear)
  · refine r_exit ?_
    refine r_te ?_
    refine r_te ?_
    refine r_be ?_
    refine r_tn ?_
    refine r_seq ?_
    refine r_region ?_
    refine r_assign rfl rfl ?_
    refine r_nil ?_
    refine r_tn ?_
    refine r_ret ?_
    have hk3 : k = 16 := by have h := of_decide_eq_false hc; omega
    subst hk3
    rw [keyN_none hj]
    exact r_done1 (.inl rfl) rfl (res_tmp rfl) fun w hw => ⟨rfl, hw.clear⟩
end Go.Proofs.YtghjbnbkfohmlaaDoor
