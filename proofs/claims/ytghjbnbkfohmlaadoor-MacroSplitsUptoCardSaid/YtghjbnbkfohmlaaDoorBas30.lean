/-
  Macros (chapter 30): the reference s Basic.
-/
import Derived.Test.YtghjbnbkfohmlaaDoorInv30
namespace Go.Proofs.YtghjbnbkfohmlaaDoor
open Go Go.RowKit
set_option linter.unusedVariables false
set_option linter.unusedSimpArgs false
set_option maxHeartbeats 2000000
set_option maxRecDepth 4000
attribute [local irreducible] mix


theorem refSplitB (s : List UInt8) (hs : s.length ≤ 100000000) (w : World) :
    Calls Tryd.prog 26 #[.string (tx s)] w fun e w' => ∃ i : Option Addr × Nat, e = .returned (.slice i.1 (splitS s).length i.2) ∧ True ∧ Sat w [] [.own 9 1 (.slice i.1 (splitS s).length i.2) (splitS s).length ((splitS s).map txV)] w' := by
  refine enter Tryd.func26 rfl rfl rfl ?_
  refine r_seq ?_
  refine r_region ?_
  refine r_assign rfl rfl ?_
  refine r_nil ?_
  refine r_tn ?_
  refine r_seq ?_
  refine r_region ?_
  refine r_assign rfl rfl ?_
  refine r_nil ?_
  refine r_tn ?_
  refine r_seq ?_
  refine r_region ?_
  refine r_assign rfl rfl ?_
  refine r_nil ?_
  refine r_tn ?_
  refine r_seq ?_
  refine r_seq ?_
  refine r_region ?_
  refine r_assign rfl rfl ?_
  refine r_nil ?_
  refine r_tn ?_
  refine r_block ?_
  refine Run.ownNil 9 1 ?_
  refine r_loop4 (fun i (os : List (List UInt8)) (fr : Nat) A3 c3 => [(0, .string (tx s)), (3, .slice A3 os.length c3), (4, .int .i64 (fr : Int)), (5, .int .i64 (i : Int))]) (fun i (os : List (List UInt8)) (fr : Nat) A3 c3 => [.own 9 1 (.slice A3 (os).length c3) (os).length ((os).map txV)]) (fun i os fr A3 c3 => i ≤ s.length ∧ fr ≤ i ∧ (32 : UInt8) ∉ (s.take i).drop fr ∧ os ++ splitS (s.drop fr) = splitS s ∧ os.length ≤ i) s.length 0 [] 0 none 0 ⟨by omega, by omega, by simp, rfl, by simp⟩ ⟨rfl, rfl, rfl, rfl, trivial⟩ (fun w hw => by have h2 : Sat _ _ [.own 9 1 (.slice none 0 0) 0 []] w := hw.sub; exact h2) fun i os fr A3 c3 hp => ?_
  obtain ⟨hi, hfr, hno, hos, hol⟩ := hp
  refine r_seq ?_
  refine r_seq ?_
  refine r_region ?_
  refine r_move rfl rfl ?_
  refine r_move rfl rfl ?_
  refine r_lenStr rfl rfl rfl ?_
  refine r_lss (p := decide (i < s.length)) rfl rfl rfl (by rw [tx_size]; exact decide_eq_decide.2 ⟨fun _ => by omega, fun _ => by omega⟩) ?_
  refine r_nil ?_
  refine r_tn ?_
  refine r_cond rfl (fun hc => ?_) (fun hc => ?_)
  · refine r_skip ?_
    refine r_tn ?_
    refine r_seq ?_
    refine r_block ?_
    refine r_seq ?_
    refine r_region ?_
    have hi2 : i < s.length := of_decide_eq_true hc
    clear hc
    refine r_move rfl rfl ?_
    refine r_move rfl rfl ?_
    refine r_idxStr (i' := i) (z := s[i]) rfl rfl rfl rfl rfl (tx_at s hi2) ?_
    refine r_eql (p := decide (s[i] = 32)) rfl rfl rfl (by rw [show (32 : Int) = (((32 : UInt8).toNat : Nat) : Int) from rfl]; exact decide_eq_decide.2 ⟨fun h => UInt8.toNat_inj.1 (by omega), fun h => by rw [h]⟩) ?_
    refine r_nil ?_
    refine r_tn ?_
    refine r_cond rfl (fun hc => ?_) (fun hc => ?_)
    · refine r_seq ?_
      refine r_region ?_
      have h32 : s[i] = 32 := of_decide_eq_true hc
      refine r_move rfl rfl ?_
      refine r_move rfl rfl ?_
      refine r_move rfl rfl ?_
      refine r_move rfl rfl ?_
      refine r_partBoth (l' := fr) (h' := i) rfl rfl rfl rfl rfl rfl rfl (by rw [tx_size]; omega) hfr ?_
      rw [tx_extract]
      refine r_lit (sz := 1) (pv := [(0, txV ((s.take i).drop fr))]) (cells := #[txV ((s.take i).drop fr)]) rfl rfl rfl rfl rfl rfl (by kernel_rfl) rfl (fun b21 => ?_) (by decide)
      refine r_append (k := 1) (news := [txV ((s.take i).drop fr)]) (sz := 1) (bytes := 16) rfl rfl rfl rfl rfl rfl (by decide) (fun w hw => own_rd (A := some ⟨b21, 0, none⟩) (m := 1) (c := 1) hw) (by first | (simp; done) | (simp; omega)) (fun u hu => by simp at hu; first | (obtain ⟨x, _, rfl⟩ := hu; rfl) | (subst hu; rfl)) (by omega) (by unfold maxLen; omega) fun A22 c22 => ?_
      refine r_assign rfl rfl ?_
      refine r_nil ?_
      refine r_tn ?_
      refine r_region ?_
      refine r_move rfl rfl ?_
      refine r_add rfl rfl rfl (w64 (by omega)) ?_
      refine r_assign rfl rfl ?_
      refine r_nil ?_
      refine r_bn ?_
      refine r_tn ?_
      refine r_region ?_
      first
        | (have h32n : s[i] ≠ 32 := of_decide_eq_false hc
           refine r_move rfl rfl ?_)
        | refine r_move rfl rfl ?_
      refine r_add rfl rfl rfl (w64 (by omega)) ?_
      refine r_assign rfl rfl ?_
      refine r_nil ?_
      refine r_tn ?_
      first
        | exact r_again4 (i + 1) (os ++ [(s.take i).drop fr]) (i + 1) A22 c22 ⟨by omega, by omega, by simp, by rw [List.append_assoc, ← hos, drop_split hfr hi2 h32, splitS_at _ _ hno]; rfl, by rw [List.length_append]; simp only [List.length_cons, List.length_nil]; omega⟩ (by omega) ⟨rfl, by rw [len_snoc]; rfl, rfl, rfl, trivial⟩ (fun w hw => by rw [len_snoc, map_snoc]; exact hw.sub)
        | exact r_again4 (i + 1) os fr A3 c3 ⟨by omega, by omega, by rw [take_snoc hi2, List.drop_append_of_le_length (by rw [List.length_take]; omega)]; intro hm; rcases List.mem_append.1 hm with hm | hm; exact hno hm; exact h32n (List.mem_singleton.1 hm).symm, hos, by omega⟩ (by omega) ⟨rfl, rfl, rfl, rfl, trivial⟩ (fun w hw => hw.sub)
    · refine r_skip ?_
      refine r_bn ?_
      refine r_tn ?_
      refine r_region ?_
      first
        | (have h32n : s[i] ≠ 32 := of_decide_eq_false hc
           refine r_move rfl rfl ?_)
        | refine r_move rfl rfl ?_
      refine r_add rfl rfl rfl (w64 (by omega)) ?_
      refine r_assign rfl rfl ?_
      refine r_nil ?_
      refine r_tn ?_
      first
        | exact r_again4 (i + 1) (os ++ [(s.take i).drop fr]) (i + 1) A22 c22 ⟨by omega, by omega, by simp, by rw [List.append_assoc, ← hos, drop_split hfr hi2 h32, splitS_at _ _ hno]; rfl, by rw [List.length_append]; simp only [List.length_cons, List.length_nil]; omega⟩ (by omega) ⟨rfl, by rw [len_snoc]; rfl, rfl, rfl, trivial⟩ (fun w hw => by rw [len_snoc, map_snoc]; exact hw.sub)
        | exact r_again4 (i + 1) os fr A3 c3 ⟨by omega, by omega, by rw [take_snoc hi2, List.drop_append_of_le_length (by rw [List.length_take]; omega)]; intro hm; rcases List.mem_append.1 hm with hm | hm; exact hno hm; exact h32n (List.mem_singleton.1 hm).symm, hos, by omega⟩ (by omega) ⟨rfl, rfl, rfl, rfl, trivial⟩ (fun w hw => hw.sub)
  · refine r_exit ?_
    refine r_te ?_
    refine r_te ?_
    refine r_be ?_
    refine r_tn ?_
    refine r_seq ?_
    refine r_region ?_
    have hi3 : i = s.length := by have h : ¬ i < s.length := of_decide_eq_false hc; omega
    subst hi3
    rw [List.take_length] at hno
    rw [splitS_none _ hno] at hos
    refine r_move rfl rfl ?_
    refine r_move rfl rfl ?_
    refine r_move rfl rfl ?_
    refine r_partLo (l' := fr) rfl rfl rfl rfl rfl (by rw [tx_size]; omega) ?_
    rw [tx_size, tx_extract, List.take_length]
    refine r_lit (sz := 1) (pv := [(0, txV (s.drop fr))]) (cells := #[txV (s.drop fr)]) rfl rfl rfl rfl rfl rfl (by kernel_rfl) rfl (fun b29 => ?_) (by decide)
    refine r_append (k := 1) (news := [txV (s.drop fr)]) (sz := 1) (bytes := 16) rfl rfl rfl rfl rfl rfl (by decide) (fun w hw => own_rd (A := some ⟨b29, 0, none⟩) (m := 1) (c := 1) hw) (by first | (simp; done) | (simp; omega)) (fun u hu => by simp at hu; first | (obtain ⟨x, _, rfl⟩ := hu; rfl) | (subst hu; rfl)) (by omega) (by unfold maxLen; omega) fun A30 c30 => ?_
    refine r_assign rfl rfl ?_
    refine r_nil ?_
    refine r_tn ?_
    refine r_ret ?_
    exact r_done1 (.inl rfl) rfl (res_tmp rfl) fun w hw => ⟨(A30, c30), by rw [← hos, len_snoc], trivial, by rw [← hos, len_snoc, map_snoc]; exact hw.sub⟩

theorem str_T (l : List UInt8) : ((tx l).toList == (tx l).toList) = true := beq_iff_eq.2 rfl
theorem str_F {l m : List UInt8} (h : l ≠ m) : ((tx l).toList == (tx m).toList) = false := by
  rw [tx_list, tx_list]
  exact beq_eq_false_iff_ne.2 h
/-- a command as commands press, release and wait -/
def basC (s : List UInt8) : Option Cmd → List (List UInt8)
  | none => []
  | some (.ev _ _) => [s]
  | some (.wait _) => [s]
  | some (.tap k n) => [evT ((k : Int), true), waitT n, evT ((k : Int), false)]
def basicL (s : List UInt8) : List (List UInt8) := basC s (lineC s)
theorem bas_of {s : List UInt8} {c : Option Cmd} (h : lineC s = c) : basicL s = basC s c := by
  unfold basicL
  rw [h]
theorem lineC_of {s : List UInt8} {w0 : List UInt8} {ws : List (List UInt8)} (e : splitS s = w0 :: ws) : lineC s = cmdW w0 ws := by
  unfold lineC
  rw [e]
  rfl
attribute [local irreducible] evsL ownsOf rightB cmdsL waitT evT stOf splitS keyN countN basicL lineC cmdOf


theorem bas_press_y (s : List UInt8) (hs : s.length ≤ 100000000) (w1 : List UInt8) (k : Nat) (hk : keyN w1 = some k) (e : splitS s = [pressW, w1]) (hb : basicL s = [s]) (w : World) :
    Calls Tryd.prog 19 #[.string (tx s)] w fun e w' => ∃ i : Option Addr × Nat, e = .returned (.slice i.1 (basicL s).length i.2) ∧ True ∧ Sat w [] [.own 9 1 (.slice i.1 (basicL s).length i.2) (basicL s).length ((basicL s).map txV)] w' := by
  refine enter Tryd.func19 rfl rfl rfl ?_
  refine r_seq ?_
  refine r_region ?_
  refine r_assign rfl rfl ?_
  refine r_nil ?_
  refine r_tn ?_
  refine r_seq ?_
  refine r_region ?_
  refine r_move rfl rfl ?_
  refine r_callx rfl rfl rfl (by kernel_rfl) rfl (fun w hw => refSplitB s hs w) ?_
  rintro ⟨A5, c5⟩ _
  rw [e]
  refine r_have (fun w hw => own_some (A := A5) (m := ([pressW, w1]).length) (c := c5) hw (by simp)) fun hg => ?_
  obtain ⟨g, rfl⟩ := hg
  refine r_assign rfl rfl ?_
  refine r_nil ?_
  refine r_tn ?_
  refine r_seq ?_
  refine r_seq ?_
  refine r_region ?_
  refine r_move rfl rfl ?_
  refine r_indexSl (sz := 1) (o' := 0) rfl rfl rfl rfl rfl (by simp) (by simp) (by omega) ?_
  refine r_loadC (p := ⟨g, 0, none⟩) (v := txV pressW) rfl rfl rfl (fun w hw => by have h := (own_rd (A := some ⟨g, 0, none⟩) (m := ([pressW, w1]).length) (c := c5) hw).cell (j := 0) (u := txV pressW) rfl rfl; exact h) ?_
  refine r_eql_string (a := tx pressW) (b := tx pressW) (p := true) rfl rfl rfl (str_T _) ?_
  refine r_move rfl rfl ?_
  refine r_pass rfl rfl rfl rfl ?_
  refine r_pass rfl rfl rfl rfl ?_
  refine r_pass rfl rfl rfl rfl ?_
  refine r_pass rfl rfl rfl rfl ?_
  refine r_pick_t rfl rfl rfl ?_
  refine r_move rfl rfl ?_
  refine r_go rfl rfl ?_
  refine r_move rfl rfl ?_
  refine r_go rfl rfl ?_
  refine r_len rfl rfl rfl ?_
  refine r_go rfl rfl ?_
  refine r_eql (p := true) rfl rfl rfl (decide_eq_true (by simp)) ?_
  refine r_pick_t rfl rfl rfl ?_
  refine r_move rfl rfl ?_
  refine r_go rfl rfl ?_
  refine r_move rfl rfl ?_
  refine r_go rfl rfl ?_
  refine r_indexSl (sz := 1) (o' := 1) rfl rfl rfl rfl rfl (by simp) (by simp) (by omega) ?_
  refine r_go rfl rfl ?_
  refine r_loadC (p := ⟨g, 1, none⟩) (v := txV w1) rfl rfl rfl (fun w hw => by have h := (own_rd (A := some ⟨g, 0, none⟩) (m := ([pressW, w1]).length) (c := c5) hw).cell (j := 1) (u := txV w1) rfl rfl; exact h) ?_
  refine r_go rfl rfl ?_
  refine r_call rfl rfl rfl (by kernel_rfl) rfl (fun w hw => by have h := refKey30 w1 w; rw [hk] at h; exact h) ?_
  refine r_go rfl rfl ?_
  refine r_geq (p := true) rfl rfl rfl (decide_eq_true (by show (0 : Int) ≤ (k : Int); omega)) ?_
  refine r_pick_t rfl rfl rfl ?_
  refine r_move rfl rfl ?_
  refine r_pass rfl rfl rfl rfl ?_
  refine r_pass rfl rfl rfl rfl ?_
  refine r_pass rfl rfl rfl rfl ?_
  refine r_pass rfl rfl rfl rfl ?_
  refine r_pass rfl rfl rfl rfl ?_
  refine r_passU rfl rfl rfl ?_
  refine r_passU rfl rfl rfl ?_
  refine r_passU rfl rfl rfl ?_
  refine r_pass rfl rfl rfl rfl ?_
  refine r_pass rfl rfl rfl rfl ?_
  refine r_passU rfl rfl rfl ?_
  refine r_passU rfl rfl rfl ?_
  refine r_passU rfl rfl rfl ?_
  refine r_passU rfl rfl rfl ?_
  refine r_passU rfl rfl rfl ?_
  refine r_pass rfl rfl rfl rfl ?_
  refine r_pick_t rfl rfl rfl ?_
  refine r_nil ?_
  refine r_tn ?_
  refine r_cond_t rfl ?_
  refine r_seq ?_
  refine r_region ?_
  refine r_move rfl rfl ?_
  refine r_lit (sz := 1) (pv := [(0, txV s)]) (cells := #[txV s]) rfl rfl rfl rfl rfl rfl (by kernel_rfl) rfl (fun b47 => ?_) (by decide)
  refine r_assign rfl rfl ?_
  refine r_nil ?_
  refine r_tn ?_
  refine r_ret ?_
  refine r_tr ?_
  exact r_done1 (.inl rfl) rfl (res_tmp rfl) fun w hw => ⟨(some ⟨b47, 0, none⟩, 1), by rw [hb]; rfl, trivial, by rw [hb]; have h2 : Sat _ _ [.own 9 1 (.slice (some ⟨b47, 0, none⟩) 1 1) 1 #[txV s].toList] w := hw.sub; exact h2⟩

theorem bas_press_n (s : List UInt8) (hs : s.length ≤ 100000000) (w1 : List UInt8) (hk : keyN w1 = none) (e : splitS s = [pressW, w1]) (hb : basicL s = []) (w : World) :
    Calls Tryd.prog 19 #[.string (tx s)] w fun e w' => ∃ i : Option Addr × Nat, e = .returned (.slice i.1 (basicL s).length i.2) ∧ True ∧ Sat w [] [.own 9 1 (.slice i.1 (basicL s).length i.2) (basicL s).length ((basicL s).map txV)] w' := by
  refine enter Tryd.func19 rfl rfl rfl ?_
  refine r_seq ?_
  refine r_region ?_
  refine r_assign rfl rfl ?_
  refine r_nil ?_
  refine r_tn ?_
  refine r_seq ?_
  refine r_region ?_
  refine r_move rfl rfl ?_
  refine r_callx rfl rfl rfl (by kernel_rfl) rfl (fun w hw => refSplitB s hs w) ?_
  rintro ⟨A5, c5⟩ _
  rw [e]
  refine r_have (fun w hw => own_some (A := A5) (m := ([pressW, w1]).length) (c := c5) hw (by simp)) fun hg => ?_
  obtain ⟨g, rfl⟩ := hg
  refine r_assign rfl rfl ?_
  refine r_nil ?_
  refine r_tn ?_
  refine r_seq ?_
  refine r_seq ?_
  refine r_region ?_
  refine r_move rfl rfl ?_
  refine r_indexSl (sz := 1) (o' := 0) rfl rfl rfl rfl rfl (by simp) (by simp) (by omega) ?_
  refine r_loadC (p := ⟨g, 0, none⟩) (v := txV pressW) rfl rfl rfl (fun w hw => by have h := (own_rd (A := some ⟨g, 0, none⟩) (m := ([pressW, w1]).length) (c := c5) hw).cell (j := 0) (u := txV pressW) rfl rfl; exact h) ?_
  refine r_eql_string (a := tx pressW) (b := tx pressW) (p := true) rfl rfl rfl (str_T _) ?_
  refine r_move rfl rfl ?_
  refine r_pass rfl rfl rfl rfl ?_
  refine r_pass rfl rfl rfl rfl ?_
  refine r_pass rfl rfl rfl rfl ?_
  refine r_pass rfl rfl rfl rfl ?_
  refine r_pick_t rfl rfl rfl ?_
  refine r_move rfl rfl ?_
  refine r_go rfl rfl ?_
  refine r_move rfl rfl ?_
  refine r_go rfl rfl ?_
  refine r_len rfl rfl rfl ?_
  refine r_go rfl rfl ?_
  refine r_eql (p := true) rfl rfl rfl (decide_eq_true (by simp)) ?_
  refine r_pick_t rfl rfl rfl ?_
  refine r_move rfl rfl ?_
  refine r_go rfl rfl ?_
  refine r_move rfl rfl ?_
  refine r_go rfl rfl ?_
  refine r_indexSl (sz := 1) (o' := 1) rfl rfl rfl rfl rfl (by simp) (by simp) (by omega) ?_
  refine r_go rfl rfl ?_
  refine r_loadC (p := ⟨g, 1, none⟩) (v := txV w1) rfl rfl rfl (fun w hw => by have h := (own_rd (A := some ⟨g, 0, none⟩) (m := ([pressW, w1]).length) (c := c5) hw).cell (j := 1) (u := txV w1) rfl rfl; exact h) ?_
  refine r_go rfl rfl ?_
  refine r_call rfl rfl rfl (by kernel_rfl) rfl (fun w hw => by have h := refKey30 w1 w; rw [hk] at h; exact h) ?_
  refine r_go rfl rfl ?_
  refine r_geq (p := false) rfl rfl rfl rfl ?_
  refine r_pick_t rfl rfl rfl ?_
  refine r_move rfl rfl ?_
  refine r_go rfl rfl ?_
  refine r_move rfl rfl ?_
  refine r_go rfl rfl ?_
  refine r_indexSl (sz := 1) (o' := 0) rfl rfl rfl rfl rfl (by simp) (by simp) (by omega) ?_
  refine r_go rfl rfl ?_
  refine r_loadC (p := ⟨g, 0, none⟩) (v := txV pressW) rfl rfl rfl (fun w hw => by have h := (own_rd (A := some ⟨g, 0, none⟩) (m := ([pressW, w1]).length) (c := c5) hw).cell (j := 0) (u := txV pressW) rfl rfl; exact h) ?_
  refine r_go rfl rfl ?_
  refine r_eql_string (a := tx pressW) (b := tx waitW) (p := false) rfl rfl rfl (str_F (by decide)) ?_
  refine r_go rfl rfl ?_
  refine r_move rfl rfl ?_
  refine r_pass rfl rfl rfl rfl ?_
  refine r_pass rfl rfl rfl rfl ?_
  refine r_pass rfl rfl rfl rfl ?_
  refine r_go rfl rfl ?_
  refine r_pick_f rfl rfl rfl ?_
  refine r_go rfl rfl ?_
  refine r_move rfl rfl ?_
  refine r_pass rfl rfl rfl rfl ?_
  refine r_pass rfl rfl rfl rfl ?_
  refine r_pass rfl rfl rfl rfl ?_
  refine r_pass rfl rfl rfl rfl ?_
  refine r_pass rfl rfl rfl rfl ?_
  refine r_go rfl rfl ?_
  refine r_pick_f rfl rfl rfl ?_
  refine r_pick_f rfl rfl rfl ?_
  refine r_nil ?_
  refine r_tn ?_
  refine r_cond_f rfl ?_
  refine r_skip ?_
  refine r_tn ?_
  refine r_seq ?_
  refine r_seq ?_
  refine r_region ?_
  refine r_move rfl rfl ?_
  refine r_indexSl (sz := 1) (o' := 0) rfl rfl rfl rfl rfl (by simp) (by simp) (by omega) ?_
  refine r_loadC (p := ⟨g, 0, none⟩) (v := txV pressW) rfl rfl rfl (fun w hw => by have h := (own_rd (A := some ⟨g, 0, none⟩) (m := ([pressW, w1]).length) (c := c5) hw).cell (j := 0) (u := txV pressW) rfl rfl; exact h) ?_
  refine r_eql_string (a := tx pressW) (b := tx tapW) (p := false) rfl rfl rfl (str_F (by decide)) ?_
  refine r_move rfl rfl ?_
  refine r_pass rfl rfl rfl rfl ?_
  refine r_pass rfl rfl rfl rfl ?_
  refine r_pass rfl rfl rfl rfl ?_
  refine r_pick_f rfl rfl rfl ?_
  refine r_move rfl rfl ?_
  refine r_pass rfl rfl rfl rfl ?_
  refine r_pass rfl rfl rfl rfl ?_
  refine r_pass rfl rfl rfl rfl ?_
  refine r_pass rfl rfl rfl rfl ?_
  refine r_pass rfl rfl rfl rfl ?_
  refine r_pick_f rfl rfl rfl ?_
  refine r_move rfl rfl ?_
  refine r_pass rfl rfl rfl rfl ?_
  refine r_pass rfl rfl rfl rfl ?_
  refine r_pass rfl rfl rfl rfl ?_
  refine r_pass rfl rfl rfl rfl ?_
  refine r_pass rfl rfl rfl rfl ?_
  refine r_pick_f rfl rfl rfl ?_
  refine r_nil ?_
  refine r_tn ?_
  refine r_cond_f rfl ?_
  refine r_skip ?_
  refine r_tn ?_
  refine r_seq ?_
  refine r_region ?_
  refine r_assign rfl rfl ?_
  refine r_nil ?_
  refine r_tn ?_
  refine r_ret ?_
  refine Run.ownNil 9 1 ?_
  exact r_done1 (.inl rfl) rfl (res_tmp rfl) fun w hw => ⟨(none, 0), by rw [hb]; rfl, trivial, by rw [hb]; have h2 : Sat _ _ [.own 9 1 (.slice none 0 0) 0 []] w := hw.sub; exact h2⟩

theorem bas_press_l (s : List UInt8) (hs : s.length ≤ 100000000) (ws : List (List UInt8)) (hl : ws.length ≠ 1) (e : splitS s = pressW :: ws) (hb : basicL s = []) (w : World) :
    Calls Tryd.prog 19 #[.string (tx s)] w fun e w' => ∃ i : Option Addr × Nat, e = .returned (.slice i.1 (basicL s).length i.2) ∧ True ∧ Sat w [] [.own 9 1 (.slice i.1 (basicL s).length i.2) (basicL s).length ((basicL s).map txV)] w' := by
  refine enter Tryd.func19 rfl rfl rfl ?_
  refine r_seq ?_
  refine r_region ?_
  refine r_assign rfl rfl ?_
  refine r_nil ?_
  refine r_tn ?_
  refine r_seq ?_
  refine r_region ?_
  refine r_move rfl rfl ?_
  refine r_callx rfl rfl rfl (by kernel_rfl) rfl (fun w hw => refSplitB s hs w) ?_
  rintro ⟨A5, c5⟩ _
  rw [e]
  refine r_have (fun w hw => own_some (A := A5) (m := (pressW :: ws).length) (c := c5) hw (by simp)) fun hg => ?_
  obtain ⟨g, rfl⟩ := hg
  refine r_assign rfl rfl ?_
  refine r_nil ?_
  refine r_tn ?_
  refine r_seq ?_
  refine r_seq ?_
  refine r_region ?_
  refine r_move rfl rfl ?_
  refine r_indexSl (sz := 1) (o' := 0) rfl rfl rfl rfl rfl (by simp) (by simp) (by omega) ?_
  refine r_loadC (p := ⟨g, 0, none⟩) (v := txV pressW) rfl rfl rfl (fun w hw => by have h := (own_rd (A := some ⟨g, 0, none⟩) (m := (pressW :: ws).length) (c := c5) hw).cell (j := 0) (u := txV pressW) rfl rfl; exact h) ?_
  refine r_eql_string (a := tx pressW) (b := tx pressW) (p := true) rfl rfl rfl (str_T _) ?_
  refine r_move rfl rfl ?_
  refine r_pass rfl rfl rfl rfl ?_
  refine r_pass rfl rfl rfl rfl ?_
  refine r_pass rfl rfl rfl rfl ?_
  refine r_pass rfl rfl rfl rfl ?_
  refine r_pick_t rfl rfl rfl ?_
  refine r_move rfl rfl ?_
  refine r_go rfl rfl ?_
  refine r_move rfl rfl ?_
  refine r_go rfl rfl ?_
  refine r_len rfl rfl rfl ?_
  refine r_go rfl rfl ?_
  refine r_eql (p := false) rfl rfl rfl (decide_eq_false (by simp; omega)) ?_
  refine r_pick_t rfl rfl rfl ?_
  refine r_move rfl rfl ?_
  refine r_pass rfl rfl rfl rfl ?_
  refine r_pass rfl rfl rfl rfl ?_
  refine r_pass rfl rfl rfl rfl ?_
  refine r_pass rfl rfl rfl rfl ?_
  refine r_pass rfl rfl rfl rfl ?_
  refine r_pick_f rfl rfl rfl ?_
  refine r_move rfl rfl ?_
  refine r_go rfl rfl ?_
  refine r_move rfl rfl ?_
  refine r_go rfl rfl ?_
  refine r_indexSl (sz := 1) (o' := 0) rfl rfl rfl rfl rfl (by simp) (by simp) (by omega) ?_
  refine r_go rfl rfl ?_
  refine r_loadC (p := ⟨g, 0, none⟩) (v := txV pressW) rfl rfl rfl (fun w hw => by have h := (own_rd (A := some ⟨g, 0, none⟩) (m := (pressW :: ws).length) (c := c5) hw).cell (j := 0) (u := txV pressW) rfl rfl; exact h) ?_
  refine r_go rfl rfl ?_
  refine r_eql_string (a := tx pressW) (b := tx waitW) (p := false) rfl rfl rfl (str_F (by decide)) ?_
  refine r_go rfl rfl ?_
  refine r_move rfl rfl ?_
  refine r_pass rfl rfl rfl rfl ?_
  refine r_pass rfl rfl rfl rfl ?_
  refine r_pass rfl rfl rfl rfl ?_
  refine r_go rfl rfl ?_
  refine r_pick_f rfl rfl rfl ?_
  refine r_go rfl rfl ?_
  refine r_move rfl rfl ?_
  refine r_pass rfl rfl rfl rfl ?_
  refine r_pass rfl rfl rfl rfl ?_
  refine r_pass rfl rfl rfl rfl ?_
  refine r_pass rfl rfl rfl rfl ?_
  refine r_pass rfl rfl rfl rfl ?_
  refine r_go rfl rfl ?_
  refine r_pick_f rfl rfl rfl ?_
  refine r_pick_f rfl rfl rfl ?_
  refine r_nil ?_
  refine r_tn ?_
  refine r_cond_f rfl ?_
  refine r_skip ?_
  refine r_tn ?_
  refine r_seq ?_
  refine r_seq ?_
  refine r_region ?_
  refine r_move rfl rfl ?_
  refine r_indexSl (sz := 1) (o' := 0) rfl rfl rfl rfl rfl (by simp) (by simp) (by omega) ?_
  refine r_loadC (p := ⟨g, 0, none⟩) (v := txV pressW) rfl rfl rfl (fun w hw => by have h := (own_rd (A := some ⟨g, 0, none⟩) (m := (pressW :: ws).length) (c := c5) hw).cell (j := 0) (u := txV pressW) rfl rfl; exact h) ?_
  refine r_eql_string (a := tx pressW) (b := tx tapW) (p := false) rfl rfl rfl (str_F (by decide)) ?_
  refine r_move rfl rfl ?_
  refine r_pass rfl rfl rfl rfl ?_
  refine r_pass rfl rfl rfl rfl ?_
  refine r_pass rfl rfl rfl rfl ?_
  refine r_pick_f rfl rfl rfl ?_
  refine r_move rfl rfl ?_
  refine r_pass rfl rfl rfl rfl ?_
  refine r_pass rfl rfl rfl rfl ?_
  refine r_pass rfl rfl rfl rfl ?_
  refine r_pass rfl rfl rfl rfl ?_
  refine r_pass rfl rfl rfl rfl ?_
  refine r_pick_f rfl rfl rfl ?_
  refine r_move rfl rfl ?_
  refine r_pass rfl rfl rfl rfl ?_
  refine r_pass rfl rfl rfl rfl ?_
  refine r_pass rfl rfl rfl rfl ?_
  refine r_pass rfl rfl rfl rfl ?_
  refine r_pass rfl rfl rfl rfl ?_
  refine r_pick_f rfl rfl rfl ?_
  refine r_nil ?_
  refine r_tn ?_
  refine r_cond_f rfl ?_
  refine r_skip ?_
  refine r_tn ?_
  refine r_seq ?_
  refine r_region ?_
  refine r_assign rfl rfl ?_
  refine r_nil ?_
  refine r_tn ?_
  refine r_ret ?_
  refine Run.ownNil 9 1 ?_
  exact r_done1 (.inl rfl) rfl (res_tmp rfl) fun w hw => ⟨(none, 0), by rw [hb]; rfl, trivial, by rw [hb]; have h2 : Sat _ _ [.own 9 1 (.slice none 0 0) 0 []] w := hw.sub; exact h2⟩

theorem bas_release_y (s : List UInt8) (hs : s.length ≤ 100000000) (w1 : List UInt8) (k : Nat) (hk : keyN w1 = some k) (e : splitS s = [releaseW, w1]) (hb : basicL s = [s]) (w : World) :
    Calls Tryd.prog 19 #[.string (tx s)] w fun e w' => ∃ i : Option Addr × Nat, e = .returned (.slice i.1 (basicL s).length i.2) ∧ True ∧ Sat w [] [.own 9 1 (.slice i.1 (basicL s).length i.2) (basicL s).length ((basicL s).map txV)] w' := by
  refine enter Tryd.func19 rfl rfl rfl ?_
  refine r_seq ?_
  refine r_region ?_
  refine r_assign rfl rfl ?_
  refine r_nil ?_
  refine r_tn ?_
  refine r_seq ?_
  refine r_region ?_
  refine r_move rfl rfl ?_
  refine r_callx rfl rfl rfl (by kernel_rfl) rfl (fun w hw => refSplitB s hs w) ?_
  rintro ⟨A5, c5⟩ _
  rw [e]
  refine r_have (fun w hw => own_some (A := A5) (m := ([releaseW, w1]).length) (c := c5) hw (by simp)) fun hg => ?_
  obtain ⟨g, rfl⟩ := hg
  refine r_assign rfl rfl ?_
  refine r_nil ?_
  refine r_tn ?_
  refine r_seq ?_
  refine r_seq ?_
  refine r_region ?_
  refine r_move rfl rfl ?_
  refine r_indexSl (sz := 1) (o' := 0) rfl rfl rfl rfl rfl (by simp) (by simp) (by omega) ?_
  refine r_loadC (p := ⟨g, 0, none⟩) (v := txV releaseW) rfl rfl rfl (fun w hw => by have h := (own_rd (A := some ⟨g, 0, none⟩) (m := ([releaseW, w1]).length) (c := c5) hw).cell (j := 0) (u := txV releaseW) rfl rfl; exact h) ?_
  refine r_eql_string (a := tx releaseW) (b := tx pressW) (p := false) rfl rfl rfl (str_F (by decide)) ?_
  refine r_move rfl rfl ?_
  refine r_go rfl rfl ?_
  refine r_move rfl rfl ?_
  refine r_go rfl rfl ?_
  refine r_indexSl (sz := 1) (o' := 0) rfl rfl rfl rfl rfl (by simp) (by simp) (by omega) ?_
  refine r_go rfl rfl ?_
  refine r_loadC (p := ⟨g, 0, none⟩) (v := txV releaseW) rfl rfl rfl (fun w hw => by have h := (own_rd (A := some ⟨g, 0, none⟩) (m := ([releaseW, w1]).length) (c := c5) hw).cell (j := 0) (u := txV releaseW) rfl rfl; exact h) ?_
  refine r_go rfl rfl ?_
  refine r_eql_string (a := tx releaseW) (b := tx releaseW) (p := true) rfl rfl rfl (str_T _) ?_
  refine r_pick_f rfl rfl rfl ?_
  refine r_move rfl rfl ?_
  refine r_go rfl rfl ?_
  refine r_move rfl rfl ?_
  refine r_go rfl rfl ?_
  refine r_len rfl rfl rfl ?_
  refine r_go rfl rfl ?_
  refine r_eql (p := true) rfl rfl rfl (decide_eq_true (by simp)) ?_
  refine r_pick_t rfl rfl rfl ?_
  refine r_move rfl rfl ?_
  refine r_go rfl rfl ?_
  refine r_move rfl rfl ?_
  refine r_go rfl rfl ?_
  refine r_indexSl (sz := 1) (o' := 1) rfl rfl rfl rfl rfl (by simp) (by simp) (by omega) ?_
  refine r_go rfl rfl ?_
  refine r_loadC (p := ⟨g, 1, none⟩) (v := txV w1) rfl rfl rfl (fun w hw => by have h := (own_rd (A := some ⟨g, 0, none⟩) (m := ([releaseW, w1]).length) (c := c5) hw).cell (j := 1) (u := txV w1) rfl rfl; exact h) ?_
  refine r_go rfl rfl ?_
  refine r_call rfl rfl rfl (by kernel_rfl) rfl (fun w hw => by have h := refKey30 w1 w; rw [hk] at h; exact h) ?_
  refine r_go rfl rfl ?_
  refine r_geq (p := true) rfl rfl rfl (decide_eq_true (by show (0 : Int) ≤ (k : Int); omega)) ?_
  refine r_pick_t rfl rfl rfl ?_
  refine r_move rfl rfl ?_
  refine r_pass rfl rfl rfl rfl ?_
  refine r_pass rfl rfl rfl rfl ?_
  refine r_pass rfl rfl rfl rfl ?_
  refine r_pass rfl rfl rfl rfl ?_
  refine r_pass rfl rfl rfl rfl ?_
  refine r_passU rfl rfl rfl ?_
  refine r_passU rfl rfl rfl ?_
  refine r_passU rfl rfl rfl ?_
  refine r_pass rfl rfl rfl rfl ?_
  refine r_pass rfl rfl rfl rfl ?_
  refine r_passU rfl rfl rfl ?_
  refine r_passU rfl rfl rfl ?_
  refine r_passU rfl rfl rfl ?_
  refine r_passU rfl rfl rfl ?_
  refine r_passU rfl rfl rfl ?_
  refine r_pass rfl rfl rfl rfl ?_
  refine r_pick_t rfl rfl rfl ?_
  refine r_nil ?_
  refine r_tn ?_
  refine r_cond_t rfl ?_
  refine r_seq ?_
  refine r_region ?_
  refine r_move rfl rfl ?_
  refine r_lit (sz := 1) (pv := [(0, txV s)]) (cells := #[txV s]) rfl rfl rfl rfl rfl rfl (by kernel_rfl) rfl (fun b47 => ?_) (by decide)
  refine r_assign rfl rfl ?_
  refine r_nil ?_
  refine r_tn ?_
  refine r_ret ?_
  refine r_tr ?_
  exact r_done1 (.inl rfl) rfl (res_tmp rfl) fun w hw => ⟨(some ⟨b47, 0, none⟩, 1), by rw [hb]; rfl, trivial, by rw [hb]; have h2 : Sat _ _ [.own 9 1 (.slice (some ⟨b47, 0, none⟩) 1 1) 1 #[txV s].toList] w := hw.sub; exact h2⟩

theorem bas_release_n (s : List UInt8) (hs : s.length ≤ 100000000) (w1 : List UInt8) (hk : keyN w1 = none) (e : splitS s = [releaseW, w1]) (hb : basicL s = []) (w : World) :
    Calls Tryd.prog 19 #[.string (tx s)] w fun e w' => ∃ i : Option Addr × Nat, e = .returned (.slice i.1 (basicL s).length i.2) ∧ True ∧ Sat w [] [.own 9 1 (.slice i.1 (basicL s).length i.2) (basicL s).length ((basicL s).map txV)] w' := by
  refine enter Tryd.func19 rfl rfl rfl ?_
  refine r_seq ?_
  refine r_region ?_
  refine r_assign rfl rfl ?_
  refine r_nil ?_
  refine r_tn ?_
  refine r_seq ?_
  refine r_region ?_
  refine r_move rfl rfl ?_
  refine r_callx rfl rfl rfl (by kernel_rfl) rfl (fun w hw => refSplitB s hs w) ?_
  rintro ⟨A5, c5⟩ _
  rw [e]
  refine r_have (fun w hw => own_some (A := A5) (m := ([releaseW, w1]).length) (c := c5) hw (by simp)) fun hg => ?_
  obtain ⟨g, rfl⟩ := hg
  refine r_assign rfl rfl ?_
  refine r_nil ?_
  refine r_tn ?_
  refine r_seq ?_
  refine r_seq ?_
  refine r_region ?_
  refine r_move rfl rfl ?_
  refine r_indexSl (sz := 1) (o' := 0) rfl rfl rfl rfl rfl (by simp) (by simp) (by omega) ?_
  refine r_loadC (p := ⟨g, 0, none⟩) (v := txV releaseW) rfl rfl rfl (fun w hw => by have h := (own_rd (A := some ⟨g, 0, none⟩) (m := ([releaseW, w1]).length) (c := c5) hw).cell (j := 0) (u := txV releaseW) rfl rfl; exact h) ?_
  refine r_eql_string (a := tx releaseW) (b := tx pressW) (p := false) rfl rfl rfl (str_F (by decide)) ?_
  refine r_move rfl rfl ?_
  refine r_go rfl rfl ?_
  refine r_move rfl rfl ?_
  refine r_go rfl rfl ?_
  refine r_indexSl (sz := 1) (o' := 0) rfl rfl rfl rfl rfl (by simp) (by simp) (by omega) ?_
  refine r_go rfl rfl ?_
  refine r_loadC (p := ⟨g, 0, none⟩) (v := txV releaseW) rfl rfl rfl (fun w hw => by have h := (own_rd (A := some ⟨g, 0, none⟩) (m := ([releaseW, w1]).length) (c := c5) hw).cell (j := 0) (u := txV releaseW) rfl rfl; exact h) ?_
  refine r_go rfl rfl ?_
  refine r_eql_string (a := tx releaseW) (b := tx releaseW) (p := true) rfl rfl rfl (str_T _) ?_
  refine r_pick_f rfl rfl rfl ?_
  refine r_move rfl rfl ?_
  refine r_go rfl rfl ?_
  refine r_move rfl rfl ?_
  refine r_go rfl rfl ?_
  refine r_len rfl rfl rfl ?_
  refine r_go rfl rfl ?_
  refine r_eql (p := true) rfl rfl rfl (decide_eq_true (by simp)) ?_
  refine r_pick_t rfl rfl rfl ?_
  refine r_move rfl rfl ?_
  refine r_go rfl rfl ?_
  refine r_move rfl rfl ?_
  refine r_go rfl rfl ?_
  refine r_indexSl (sz := 1) (o' := 1) rfl rfl rfl rfl rfl (by simp) (by simp) (by omega) ?_
  refine r_go rfl rfl ?_
  refine r_loadC (p := ⟨g, 1, none⟩) (v := txV w1) rfl rfl rfl (fun w hw => by have h := (own_rd (A := some ⟨g, 0, none⟩) (m := ([releaseW, w1]).length) (c := c5) hw).cell (j := 1) (u := txV w1) rfl rfl; exact h) ?_
  refine r_go rfl rfl ?_
  refine r_call rfl rfl rfl (by kernel_rfl) rfl (fun w hw => by have h := refKey30 w1 w; rw [hk] at h; exact h) ?_
  refine r_go rfl rfl ?_
  refine r_geq (p := false) rfl rfl rfl rfl ?_
  refine r_pick_t rfl rfl rfl ?_
  refine r_move rfl rfl ?_
  refine r_go rfl rfl ?_
  refine r_move rfl rfl ?_
  refine r_go rfl rfl ?_
  refine r_indexSl (sz := 1) (o' := 0) rfl rfl rfl rfl rfl (by simp) (by simp) (by omega) ?_
  refine r_go rfl rfl ?_
  refine r_loadC (p := ⟨g, 0, none⟩) (v := txV releaseW) rfl rfl rfl (fun w hw => by have h := (own_rd (A := some ⟨g, 0, none⟩) (m := ([releaseW, w1]).length) (c := c5) hw).cell (j := 0) (u := txV releaseW) rfl rfl; exact h) ?_
  refine r_go rfl rfl ?_
  refine r_eql_string (a := tx releaseW) (b := tx waitW) (p := false) rfl rfl rfl (str_F (by decide)) ?_
  refine r_go rfl rfl ?_
  refine r_move rfl rfl ?_
  refine r_pass rfl rfl rfl rfl ?_
  refine r_pass rfl rfl rfl rfl ?_
  refine r_pass rfl rfl rfl rfl ?_
  refine r_go rfl rfl ?_
  refine r_pick_f rfl rfl rfl ?_
  refine r_go rfl rfl ?_
  refine r_move rfl rfl ?_
  refine r_pass rfl rfl rfl rfl ?_
  refine r_pass rfl rfl rfl rfl ?_
  refine r_pass rfl rfl rfl rfl ?_
  refine r_pass rfl rfl rfl rfl ?_
  refine r_pass rfl rfl rfl rfl ?_
  refine r_go rfl rfl ?_
  refine r_pick_f rfl rfl rfl ?_
  refine r_pick_f rfl rfl rfl ?_
  refine r_nil ?_
  refine r_tn ?_
  refine r_cond_f rfl ?_
  refine r_skip ?_
  refine r_tn ?_
  refine r_seq ?_
  refine r_seq ?_
  refine r_region ?_
  refine r_move rfl rfl ?_
  refine r_indexSl (sz := 1) (o' := 0) rfl rfl rfl rfl rfl (by simp) (by simp) (by omega) ?_
  refine r_loadC (p := ⟨g, 0, none⟩) (v := txV releaseW) rfl rfl rfl (fun w hw => by have h := (own_rd (A := some ⟨g, 0, none⟩) (m := ([releaseW, w1]).length) (c := c5) hw).cell (j := 0) (u := txV releaseW) rfl rfl; exact h) ?_
  refine r_eql_string (a := tx releaseW) (b := tx tapW) (p := false) rfl rfl rfl (str_F (by decide)) ?_
  refine r_move rfl rfl ?_
  refine r_pass rfl rfl rfl rfl ?_
  refine r_pass rfl rfl rfl rfl ?_
  refine r_pass rfl rfl rfl rfl ?_
  refine r_pick_f rfl rfl rfl ?_
  refine r_move rfl rfl ?_
  refine r_pass rfl rfl rfl rfl ?_
  refine r_pass rfl rfl rfl rfl ?_
  refine r_pass rfl rfl rfl rfl ?_
  refine r_pass rfl rfl rfl rfl ?_
  refine r_pass rfl rfl rfl rfl ?_
  refine r_pick_f rfl rfl rfl ?_
  refine r_move rfl rfl ?_
  refine r_pass rfl rfl rfl rfl ?_
  refine r_pass rfl rfl rfl rfl ?_
  refine r_pass rfl rfl rfl rfl ?_
  refine r_pass rfl rfl rfl rfl ?_
  refine r_pass rfl rfl rfl rfl ?_
  refine r_pick_f rfl rfl rfl ?_
  refine r_nil ?_
  refine r_tn ?_
  refine r_cond_f rfl ?_
  refine r_skip ?_
  refine r_tn ?_
  refine r_seq ?_
  refine r_region ?_
  refine r_assign rfl rfl ?_
  refine r_nil ?_
  refine r_tn ?_
  refine r_ret ?_
  refine Run.ownNil 9 1 ?_
  exact r_done1 (.inl rfl) rfl (res_tmp rfl) fun w hw => ⟨(none, 0), by rw [hb]; rfl, trivial, by rw [hb]; have h2 : Sat _ _ [.own 9 1 (.slice none 0 0) 0 []] w := hw.sub; exact h2⟩

theorem bas_release_l (s : List UInt8) (hs : s.length ≤ 100000000) (ws : List (List UInt8)) (hl : ws.length ≠ 1) (e : splitS s = releaseW :: ws) (hb : basicL s = []) (w : World) :
    Calls Tryd.prog 19 #[.string (tx s)] w fun e w' => ∃ i : Option Addr × Nat, e = .returned (.slice i.1 (basicL s).length i.2) ∧ True ∧ Sat w [] [.own 9 1 (.slice i.1 (basicL s).length i.2) (basicL s).length ((basicL s).map txV)] w' := by
  refine enter Tryd.func19 rfl rfl rfl ?_
  refine r_seq ?_
  refine r_region ?_
  refine r_assign rfl rfl ?_
  refine r_nil ?_
  refine r_tn ?_
  refine r_seq ?_
  refine r_region ?_
  refine r_move rfl rfl ?_
  refine r_callx rfl rfl rfl (by kernel_rfl) rfl (fun w hw => refSplitB s hs w) ?_
  rintro ⟨A5, c5⟩ _
  rw [e]
  refine r_have (fun w hw => own_some (A := A5) (m := (releaseW :: ws).length) (c := c5) hw (by simp)) fun hg => ?_
  obtain ⟨g, rfl⟩ := hg
  refine r_assign rfl rfl ?_
  refine r_nil ?_
  refine r_tn ?_
  refine r_seq ?_
  refine r_seq ?_
  refine r_region ?_
  refine r_move rfl rfl ?_
  refine r_indexSl (sz := 1) (o' := 0) rfl rfl rfl rfl rfl (by simp) (by simp) (by omega) ?_
  refine r_loadC (p := ⟨g, 0, none⟩) (v := txV releaseW) rfl rfl rfl (fun w hw => by have h := (own_rd (A := some ⟨g, 0, none⟩) (m := (releaseW :: ws).length) (c := c5) hw).cell (j := 0) (u := txV releaseW) rfl rfl; exact h) ?_
  refine r_eql_string (a := tx releaseW) (b := tx pressW) (p := false) rfl rfl rfl (str_F (by decide)) ?_
  refine r_move rfl rfl ?_
  refine r_go rfl rfl ?_
  refine r_move rfl rfl ?_
  refine r_go rfl rfl ?_
  refine r_indexSl (sz := 1) (o' := 0) rfl rfl rfl rfl rfl (by simp) (by simp) (by omega) ?_
  refine r_go rfl rfl ?_
  refine r_loadC (p := ⟨g, 0, none⟩) (v := txV releaseW) rfl rfl rfl (fun w hw => by have h := (own_rd (A := some ⟨g, 0, none⟩) (m := (releaseW :: ws).length) (c := c5) hw).cell (j := 0) (u := txV releaseW) rfl rfl; exact h) ?_
  refine r_go rfl rfl ?_
  refine r_eql_string (a := tx releaseW) (b := tx releaseW) (p := true) rfl rfl rfl (str_T _) ?_
  refine r_pick_f rfl rfl rfl ?_
  refine r_move rfl rfl ?_
  refine r_go rfl rfl ?_
  refine r_move rfl rfl ?_
  refine r_go rfl rfl ?_
  refine r_len rfl rfl rfl ?_
  refine r_go rfl rfl ?_
  refine r_eql (p := false) rfl rfl rfl (decide_eq_false (by simp; omega)) ?_
  refine r_pick_t rfl rfl rfl ?_
  refine r_move rfl rfl ?_
  refine r_pass rfl rfl rfl rfl ?_
  refine r_pass rfl rfl rfl rfl ?_
  refine r_pass rfl rfl rfl rfl ?_
  refine r_pass rfl rfl rfl rfl ?_
  refine r_pass rfl rfl rfl rfl ?_
  refine r_pick_f rfl rfl rfl ?_
  refine r_move rfl rfl ?_
  refine r_go rfl rfl ?_
  refine r_move rfl rfl ?_
  refine r_go rfl rfl ?_
  refine r_indexSl (sz := 1) (o' := 0) rfl rfl rfl rfl rfl (by simp) (by simp) (by omega) ?_
  refine r_go rfl rfl ?_
  refine r_loadC (p := ⟨g, 0, none⟩) (v := txV releaseW) rfl rfl rfl (fun w hw => by have h := (own_rd (A := some ⟨g, 0, none⟩) (m := (releaseW :: ws).length) (c := c5) hw).cell (j := 0) (u := txV releaseW) rfl rfl; exact h) ?_
  refine r_go rfl rfl ?_
  refine r_eql_string (a := tx releaseW) (b := tx waitW) (p := false) rfl rfl rfl (str_F (by decide)) ?_
  refine r_go rfl rfl ?_
  refine r_move rfl rfl ?_
  refine r_pass rfl rfl rfl rfl ?_
  refine r_pass rfl rfl rfl rfl ?_
  refine r_pass rfl rfl rfl rfl ?_
  refine r_go rfl rfl ?_
  refine r_pick_f rfl rfl rfl ?_
  refine r_go rfl rfl ?_
  refine r_move rfl rfl ?_
  refine r_pass rfl rfl rfl rfl ?_
  refine r_pass rfl rfl rfl rfl ?_
  refine r_pass rfl rfl rfl rfl ?_
  refine r_pass rfl rfl rfl rfl ?_
  refine r_pass rfl rfl rfl rfl ?_
  refine r_go rfl rfl ?_
  refine r_pick_f rfl rfl rfl ?_
  refine r_pick_f rfl rfl rfl ?_
  refine r_nil ?_
  refine r_tn ?_
  refine r_cond_f rfl ?_
  refine r_skip ?_
  refine r_tn ?_
  refine r_seq ?_
  refine r_seq ?_
  refine r_region ?_
  refine r_move rfl rfl ?_
  refine r_indexSl (sz := 1) (o' := 0) rfl rfl rfl rfl rfl (by simp) (by simp) (by omega) ?_
  refine r_loadC (p := ⟨g, 0, none⟩) (v := txV releaseW) rfl rfl rfl (fun w hw => by have h := (own_rd (A := some ⟨g, 0, none⟩) (m := (releaseW :: ws).length) (c := c5) hw).cell (j := 0) (u := txV releaseW) rfl rfl; exact h) ?_
  refine r_eql_string (a := tx releaseW) (b := tx tapW) (p := false) rfl rfl rfl (str_F (by decide)) ?_
  refine r_move rfl rfl ?_
  refine r_pass rfl rfl rfl rfl ?_
  refine r_pass rfl rfl rfl rfl ?_
  refine r_pass rfl rfl rfl rfl ?_
  refine r_pick_f rfl rfl rfl ?_
  refine r_move rfl rfl ?_
  refine r_pass rfl rfl rfl rfl ?_
  refine r_pass rfl rfl rfl rfl ?_
  refine r_pass rfl rfl rfl rfl ?_
  refine r_pass rfl rfl rfl rfl ?_
  refine r_pass rfl rfl rfl rfl ?_
  refine r_pick_f rfl rfl rfl ?_
  refine r_move rfl rfl ?_
  refine r_pass rfl rfl rfl rfl ?_
  refine r_pass rfl rfl rfl rfl ?_
  refine r_pass rfl rfl rfl rfl ?_
  refine r_pass rfl rfl rfl rfl ?_
  refine r_pass rfl rfl rfl rfl ?_
  refine r_pick_f rfl rfl rfl ?_
  refine r_nil ?_
  refine r_tn ?_
  refine r_cond_f rfl ?_
  refine r_skip ?_
  refine r_tn ?_
  refine r_seq ?_
  refine r_region ?_
  refine r_assign rfl rfl ?_
  refine r_nil ?_
  refine r_tn ?_
  refine r_ret ?_
  refine Run.ownNil 9 1 ?_
  exact r_done1 (.inl rfl) rfl (res_tmp rfl) fun w hw => ⟨(none, 0), by rw [hb]; rfl, trivial, by rw [hb]; have h2 : Sat _ _ [.own 9 1 (.slice none 0 0) 0 []] w := hw.sub; exact h2⟩

theorem bas_wait_y (s : List UInt8) (hs : s.length ≤ 100000000) (w1 : List UInt8) (n : Nat) (hc0 : countN w1 = some n) (hn : 1 ≤ n) (e : splitS s = [waitW, w1]) (hb : basicL s = [s]) (w : World) :
    Calls Tryd.prog 19 #[.string (tx s)] w fun e w' => ∃ i : Option Addr × Nat, e = .returned (.slice i.1 (basicL s).length i.2) ∧ True ∧ Sat w [] [.own 9 1 (.slice i.1 (basicL s).length i.2) (basicL s).length ((basicL s).map txV)] w' := by
  refine enter Tryd.func19 rfl rfl rfl ?_
  refine r_seq ?_
  refine r_region ?_
  refine r_assign rfl rfl ?_
  refine r_nil ?_
  refine r_tn ?_
  refine r_seq ?_
  refine r_region ?_
  refine r_move rfl rfl ?_
  refine r_callx rfl rfl rfl (by kernel_rfl) rfl (fun w hw => refSplitB s hs w) ?_
  rintro ⟨A5, c5⟩ _
  rw [e]
  refine r_have (fun w hw => own_some (A := A5) (m := ([waitW, w1]).length) (c := c5) hw (by simp)) fun hg => ?_
  obtain ⟨g, rfl⟩ := hg
  refine r_assign rfl rfl ?_
  refine r_nil ?_
  refine r_tn ?_
  refine r_seq ?_
  refine r_seq ?_
  refine r_region ?_
  refine r_move rfl rfl ?_
  refine r_indexSl (sz := 1) (o' := 0) rfl rfl rfl rfl rfl (by simp) (by simp) (by omega) ?_
  refine r_loadC (p := ⟨g, 0, none⟩) (v := txV waitW) rfl rfl rfl (fun w hw => by have h := (own_rd (A := some ⟨g, 0, none⟩) (m := ([waitW, w1]).length) (c := c5) hw).cell (j := 0) (u := txV waitW) rfl rfl; exact h) ?_
  refine r_eql_string (a := tx waitW) (b := tx pressW) (p := false) rfl rfl rfl (str_F (by decide)) ?_
  refine r_move rfl rfl ?_
  refine r_go rfl rfl ?_
  refine r_move rfl rfl ?_
  refine r_go rfl rfl ?_
  refine r_indexSl (sz := 1) (o' := 0) rfl rfl rfl rfl rfl (by simp) (by simp) (by omega) ?_
  refine r_go rfl rfl ?_
  refine r_loadC (p := ⟨g, 0, none⟩) (v := txV waitW) rfl rfl rfl (fun w hw => by have h := (own_rd (A := some ⟨g, 0, none⟩) (m := ([waitW, w1]).length) (c := c5) hw).cell (j := 0) (u := txV waitW) rfl rfl; exact h) ?_
  refine r_go rfl rfl ?_
  refine r_eql_string (a := tx waitW) (b := tx releaseW) (p := false) rfl rfl rfl (str_F (by decide)) ?_
  refine r_pick_f rfl rfl rfl ?_
  refine r_move rfl rfl ?_
  refine r_pass rfl rfl rfl rfl ?_
  refine r_pass rfl rfl rfl rfl ?_
  refine r_pass rfl rfl rfl rfl ?_
  refine r_pick_f rfl rfl rfl ?_
  refine r_move rfl rfl ?_
  refine r_pass rfl rfl rfl rfl ?_
  refine r_pass rfl rfl rfl rfl ?_
  refine r_pass rfl rfl rfl rfl ?_
  refine r_pass rfl rfl rfl rfl ?_
  refine r_pass rfl rfl rfl rfl ?_
  refine r_pick_f rfl rfl rfl ?_
  refine r_move rfl rfl ?_
  refine r_go rfl rfl ?_
  refine r_move rfl rfl ?_
  refine r_go rfl rfl ?_
  refine r_indexSl (sz := 1) (o' := 0) rfl rfl rfl rfl rfl (by simp) (by simp) (by omega) ?_
  refine r_go rfl rfl ?_
  refine r_loadC (p := ⟨g, 0, none⟩) (v := txV waitW) rfl rfl rfl (fun w hw => by have h := (own_rd (A := some ⟨g, 0, none⟩) (m := ([waitW, w1]).length) (c := c5) hw).cell (j := 0) (u := txV waitW) rfl rfl; exact h) ?_
  refine r_go rfl rfl ?_
  refine r_eql_string (a := tx waitW) (b := tx waitW) (p := true) rfl rfl rfl (str_T _) ?_
  refine r_go rfl rfl ?_
  refine r_move rfl rfl ?_
  refine r_go rfl rfl ?_
  refine r_move rfl rfl ?_
  refine r_go rfl rfl ?_
  refine r_len rfl rfl rfl ?_
  refine r_go rfl rfl ?_
  refine r_eql (p := true) rfl rfl rfl (decide_eq_true (by simp)) ?_
  refine r_go rfl rfl ?_
  refine r_pick_t rfl rfl rfl ?_
  refine r_go rfl rfl ?_
  refine r_move rfl rfl ?_
  refine r_go rfl rfl ?_
  refine r_move rfl rfl ?_
  refine r_go rfl rfl ?_
  refine r_indexSl (sz := 1) (o' := 1) rfl rfl rfl rfl rfl (by simp) (by simp) (by omega) ?_
  refine r_go rfl rfl ?_
  refine r_loadC (p := ⟨g, 1, none⟩) (v := txV w1) rfl rfl rfl (fun w hw => by have h := (own_rd (A := some ⟨g, 0, none⟩) (m := ([waitW, w1]).length) (c := c5) hw).cell (j := 1) (u := txV w1) rfl rfl; exact h) ?_
  refine r_go rfl rfl ?_
  refine r_call rfl rfl rfl (by kernel_rfl) rfl (fun w hw => by have h := refCount30 w1 w; rw [hc0] at h; exact h) ?_
  refine r_go rfl rfl ?_
  refine r_gtr (p := true) rfl rfl rfl (decide_eq_true (by show (0 : Int) < (n : Int); omega)) ?_
  refine r_go rfl rfl ?_
  refine r_pick_t rfl rfl rfl ?_
  refine r_pick_f rfl rfl rfl ?_
  refine r_nil ?_
  refine r_tn ?_
  refine r_cond_t rfl ?_
  refine r_seq ?_
  refine r_region ?_
  refine r_move rfl rfl ?_
  refine r_lit (sz := 1) (pv := [(0, txV s)]) (cells := #[txV s]) rfl rfl rfl rfl rfl rfl (by kernel_rfl) rfl (fun b47 => ?_) (by decide)
  refine r_assign rfl rfl ?_
  refine r_nil ?_
  refine r_tn ?_
  refine r_ret ?_
  refine r_tr ?_
  exact r_done1 (.inl rfl) rfl (res_tmp rfl) fun w hw => ⟨(some ⟨b47, 0, none⟩, 1), by rw [hb]; rfl, trivial, by rw [hb]; have h2 : Sat _ _ [.own 9 1 (.slice (some ⟨b47, 0, none⟩) 1 1) 1 #[txV s].toList] w := hw.sub; exact h2⟩

theorem bas_wait_n (s : List UInt8) (hs : s.length ≤ 100000000) (w1 : List UInt8) (hc0 : countN w1 = none) (e : splitS s = [waitW, w1]) (hb : basicL s = []) (w : World) :
    Calls Tryd.prog 19 #[.string (tx s)] w fun e w' => ∃ i : Option Addr × Nat, e = .returned (.slice i.1 (basicL s).length i.2) ∧ True ∧ Sat w [] [.own 9 1 (.slice i.1 (basicL s).length i.2) (basicL s).length ((basicL s).map txV)] w' := by
  refine enter Tryd.func19 rfl rfl rfl ?_
  refine r_seq ?_
  refine r_region ?_
  refine r_assign rfl rfl ?_
  refine r_nil ?_
  refine r_tn ?_
  refine r_seq ?_
  refine r_region ?_
  refine r_move rfl rfl ?_
  refine r_callx rfl rfl rfl (by kernel_rfl) rfl (fun w hw => refSplitB s hs w) ?_
  rintro ⟨A5, c5⟩ _
  rw [e]
  refine r_have (fun w hw => own_some (A := A5) (m := ([waitW, w1]).length) (c := c5) hw (by simp)) fun hg => ?_
  obtain ⟨g, rfl⟩ := hg
  refine r_assign rfl rfl ?_
  refine r_nil ?_
  refine r_tn ?_
  refine r_seq ?_
  refine r_seq ?_
  refine r_region ?_
  refine r_move rfl rfl ?_
  refine r_indexSl (sz := 1) (o' := 0) rfl rfl rfl rfl rfl (by simp) (by simp) (by omega) ?_
  refine r_loadC (p := ⟨g, 0, none⟩) (v := txV waitW) rfl rfl rfl (fun w hw => by have h := (own_rd (A := some ⟨g, 0, none⟩) (m := ([waitW, w1]).length) (c := c5) hw).cell (j := 0) (u := txV waitW) rfl rfl; exact h) ?_
  refine r_eql_string (a := tx waitW) (b := tx pressW) (p := false) rfl rfl rfl (str_F (by decide)) ?_
  refine r_move rfl rfl ?_
  refine r_go rfl rfl ?_
  refine r_move rfl rfl ?_
  refine r_go rfl rfl ?_
  refine r_indexSl (sz := 1) (o' := 0) rfl rfl rfl rfl rfl (by simp) (by simp) (by omega) ?_
  refine r_go rfl rfl ?_
  refine r_loadC (p := ⟨g, 0, none⟩) (v := txV waitW) rfl rfl rfl (fun w hw => by have h := (own_rd (A := some ⟨g, 0, none⟩) (m := ([waitW, w1]).length) (c := c5) hw).cell (j := 0) (u := txV waitW) rfl rfl; exact h) ?_
  refine r_go rfl rfl ?_
  refine r_eql_string (a := tx waitW) (b := tx releaseW) (p := false) rfl rfl rfl (str_F (by decide)) ?_
  refine r_pick_f rfl rfl rfl ?_
  refine r_move rfl rfl ?_
  refine r_pass rfl rfl rfl rfl ?_
  refine r_pass rfl rfl rfl rfl ?_
  refine r_pass rfl rfl rfl rfl ?_
  refine r_pick_f rfl rfl rfl ?_
  refine r_move rfl rfl ?_
  refine r_pass rfl rfl rfl rfl ?_
  refine r_pass rfl rfl rfl rfl ?_
  refine r_pass rfl rfl rfl rfl ?_
  refine r_pass rfl rfl rfl rfl ?_
  refine r_pass rfl rfl rfl rfl ?_
  refine r_pick_f rfl rfl rfl ?_
  refine r_move rfl rfl ?_
  refine r_go rfl rfl ?_
  refine r_move rfl rfl ?_
  refine r_go rfl rfl ?_
  refine r_indexSl (sz := 1) (o' := 0) rfl rfl rfl rfl rfl (by simp) (by simp) (by omega) ?_
  refine r_go rfl rfl ?_
  refine r_loadC (p := ⟨g, 0, none⟩) (v := txV waitW) rfl rfl rfl (fun w hw => by have h := (own_rd (A := some ⟨g, 0, none⟩) (m := ([waitW, w1]).length) (c := c5) hw).cell (j := 0) (u := txV waitW) rfl rfl; exact h) ?_
  refine r_go rfl rfl ?_
  refine r_eql_string (a := tx waitW) (b := tx waitW) (p := true) rfl rfl rfl (str_T _) ?_
  refine r_go rfl rfl ?_
  refine r_move rfl rfl ?_
  refine r_go rfl rfl ?_
  refine r_move rfl rfl ?_
  refine r_go rfl rfl ?_
  refine r_len rfl rfl rfl ?_
  refine r_go rfl rfl ?_
  refine r_eql (p := true) rfl rfl rfl (decide_eq_true (by simp)) ?_
  refine r_go rfl rfl ?_
  refine r_pick_t rfl rfl rfl ?_
  refine r_go rfl rfl ?_
  refine r_move rfl rfl ?_
  refine r_go rfl rfl ?_
  refine r_move rfl rfl ?_
  refine r_go rfl rfl ?_
  refine r_indexSl (sz := 1) (o' := 1) rfl rfl rfl rfl rfl (by simp) (by simp) (by omega) ?_
  refine r_go rfl rfl ?_
  refine r_loadC (p := ⟨g, 1, none⟩) (v := txV w1) rfl rfl rfl (fun w hw => by have h := (own_rd (A := some ⟨g, 0, none⟩) (m := ([waitW, w1]).length) (c := c5) hw).cell (j := 1) (u := txV w1) rfl rfl; exact h) ?_
  refine r_go rfl rfl ?_
  refine r_call rfl rfl rfl (by kernel_rfl) rfl (fun w hw => by have h := refCount30 w1 w; rw [hc0] at h; exact h) ?_
  refine r_go rfl rfl ?_
  refine r_gtr (p := false) rfl rfl rfl rfl ?_
  refine r_go rfl rfl ?_
  refine r_pick_t rfl rfl rfl ?_
  refine r_pick_f rfl rfl rfl ?_
  refine r_nil ?_
  refine r_tn ?_
  refine r_cond_f rfl ?_
  refine r_skip ?_
  refine r_tn ?_
  refine r_seq ?_
  refine r_seq ?_
  refine r_region ?_
  refine r_move rfl rfl ?_
  refine r_indexSl (sz := 1) (o' := 0) rfl rfl rfl rfl rfl (by simp) (by simp) (by omega) ?_
  refine r_loadC (p := ⟨g, 0, none⟩) (v := txV waitW) rfl rfl rfl (fun w hw => by have h := (own_rd (A := some ⟨g, 0, none⟩) (m := ([waitW, w1]).length) (c := c5) hw).cell (j := 0) (u := txV waitW) rfl rfl; exact h) ?_
  refine r_eql_string (a := tx waitW) (b := tx tapW) (p := false) rfl rfl rfl (str_F (by decide)) ?_
  refine r_move rfl rfl ?_
  refine r_pass rfl rfl rfl rfl ?_
  refine r_pass rfl rfl rfl rfl ?_
  refine r_pass rfl rfl rfl rfl ?_
  refine r_pick_f rfl rfl rfl ?_
  refine r_move rfl rfl ?_
  refine r_pass rfl rfl rfl rfl ?_
  refine r_pass rfl rfl rfl rfl ?_
  refine r_pass rfl rfl rfl rfl ?_
  refine r_pass rfl rfl rfl rfl ?_
  refine r_pass rfl rfl rfl rfl ?_
  refine r_pick_f rfl rfl rfl ?_
  refine r_move rfl rfl ?_
  refine r_pass rfl rfl rfl rfl ?_
  refine r_pass rfl rfl rfl rfl ?_
  refine r_pass rfl rfl rfl rfl ?_
  refine r_pass rfl rfl rfl rfl ?_
  refine r_pass rfl rfl rfl rfl ?_
  refine r_pick_f rfl rfl rfl ?_
  refine r_nil ?_
  refine r_tn ?_
  refine r_cond_f rfl ?_
  refine r_skip ?_
  refine r_tn ?_
  refine r_seq ?_
  refine r_region ?_
  refine r_assign rfl rfl ?_
  refine r_nil ?_
  refine r_tn ?_
  refine r_ret ?_
  refine Run.ownNil 9 1 ?_
  exact r_done1 (.inl rfl) rfl (res_tmp rfl) fun w hw => ⟨(none, 0), by rw [hb]; rfl, trivial, by rw [hb]; have h2 : Sat _ _ [.own 9 1 (.slice none 0 0) 0 []] w := hw.sub; exact h2⟩

theorem bas_wait_l (s : List UInt8) (hs : s.length ≤ 100000000) (ws : List (List UInt8)) (hl : ws.length ≠ 1) (e : splitS s = waitW :: ws) (hb : basicL s = []) (w : World) :
    Calls Tryd.prog 19 #[.string (tx s)] w fun e w' => ∃ i : Option Addr × Nat, e = .returned (.slice i.1 (basicL s).length i.2) ∧ True ∧ Sat w [] [.own 9 1 (.slice i.1 (basicL s).length i.2) (basicL s).length ((basicL s).map txV)] w' := by
  refine enter Tryd.func19 rfl rfl rfl ?_
  refine r_seq ?_
  refine r_region ?_
  refine r_assign rfl rfl ?_
  refine r_nil ?_
  refine r_tn ?_
  refine r_seq ?_
  refine r_region ?_
  refine r_move rfl rfl ?_
  refine r_callx rfl rfl rfl (by kernel_rfl) rfl (fun w hw => refSplitB s hs w) ?_
  rintro ⟨A5, c5⟩ _
  rw [e]
  refine r_have (fun w hw => own_some (A := A5) (m := (waitW :: ws).length) (c := c5) hw (by simp)) fun hg => ?_
  obtain ⟨g, rfl⟩ := hg
  refine r_assign rfl rfl ?_
  refine r_nil ?_
  refine r_tn ?_
  refine r_seq ?_
  refine r_seq ?_
  refine r_region ?_
  refine r_move rfl rfl ?_
  refine r_indexSl (sz := 1) (o' := 0) rfl rfl rfl rfl rfl (by simp) (by simp) (by omega) ?_
  refine r_loadC (p := ⟨g, 0, none⟩) (v := txV waitW) rfl rfl rfl (fun w hw => by have h := (own_rd (A := some ⟨g, 0, none⟩) (m := (waitW :: ws).length) (c := c5) hw).cell (j := 0) (u := txV waitW) rfl rfl; exact h) ?_
  refine r_eql_string (a := tx waitW) (b := tx pressW) (p := false) rfl rfl rfl (str_F (by decide)) ?_
  refine r_move rfl rfl ?_
  refine r_go rfl rfl ?_
  refine r_move rfl rfl ?_
  refine r_go rfl rfl ?_
  refine r_indexSl (sz := 1) (o' := 0) rfl rfl rfl rfl rfl (by simp) (by simp) (by omega) ?_
  refine r_go rfl rfl ?_
  refine r_loadC (p := ⟨g, 0, none⟩) (v := txV waitW) rfl rfl rfl (fun w hw => by have h := (own_rd (A := some ⟨g, 0, none⟩) (m := (waitW :: ws).length) (c := c5) hw).cell (j := 0) (u := txV waitW) rfl rfl; exact h) ?_
  refine r_go rfl rfl ?_
  refine r_eql_string (a := tx waitW) (b := tx releaseW) (p := false) rfl rfl rfl (str_F (by decide)) ?_
  refine r_pick_f rfl rfl rfl ?_
  refine r_move rfl rfl ?_
  refine r_pass rfl rfl rfl rfl ?_
  refine r_pass rfl rfl rfl rfl ?_
  refine r_pass rfl rfl rfl rfl ?_
  refine r_pick_f rfl rfl rfl ?_
  refine r_move rfl rfl ?_
  refine r_pass rfl rfl rfl rfl ?_
  refine r_pass rfl rfl rfl rfl ?_
  refine r_pass rfl rfl rfl rfl ?_
  refine r_pass rfl rfl rfl rfl ?_
  refine r_pass rfl rfl rfl rfl ?_
  refine r_pick_f rfl rfl rfl ?_
  refine r_move rfl rfl ?_
  refine r_go rfl rfl ?_
  refine r_move rfl rfl ?_
  refine r_go rfl rfl ?_
  refine r_indexSl (sz := 1) (o' := 0) rfl rfl rfl rfl rfl (by simp) (by simp) (by omega) ?_
  refine r_go rfl rfl ?_
  refine r_loadC (p := ⟨g, 0, none⟩) (v := txV waitW) rfl rfl rfl (fun w hw => by have h := (own_rd (A := some ⟨g, 0, none⟩) (m := (waitW :: ws).length) (c := c5) hw).cell (j := 0) (u := txV waitW) rfl rfl; exact h) ?_
  refine r_go rfl rfl ?_
  refine r_eql_string (a := tx waitW) (b := tx waitW) (p := true) rfl rfl rfl (str_T _) ?_
  refine r_go rfl rfl ?_
  refine r_move rfl rfl ?_
  refine r_go rfl rfl ?_
  refine r_move rfl rfl ?_
  refine r_go rfl rfl ?_
  refine r_len rfl rfl rfl ?_
  refine r_go rfl rfl ?_
  refine r_eql (p := false) rfl rfl rfl (decide_eq_false (by simp; omega)) ?_
  refine r_go rfl rfl ?_
  refine r_pick_t rfl rfl rfl ?_
  refine r_go rfl rfl ?_
  refine r_move rfl rfl ?_
  refine r_pass rfl rfl rfl rfl ?_
  refine r_pass rfl rfl rfl rfl ?_
  refine r_pass rfl rfl rfl rfl ?_
  refine r_pass rfl rfl rfl rfl ?_
  refine r_pass rfl rfl rfl rfl ?_
  refine r_go rfl rfl ?_
  refine r_pick_f rfl rfl rfl ?_
  refine r_pick_f rfl rfl rfl ?_
  refine r_nil ?_
  refine r_tn ?_
  refine r_cond_f rfl ?_
  refine r_skip ?_
  refine r_tn ?_
  refine r_seq ?_
  refine r_seq ?_
  refine r_region ?_
  refine r_move rfl rfl ?_
  refine r_indexSl (sz := 1) (o' := 0) rfl rfl rfl rfl rfl (by simp) (by simp) (by omega) ?_
  refine r_loadC (p := ⟨g, 0, none⟩) (v := txV waitW) rfl rfl rfl (fun w hw => by have h := (own_rd (A := some ⟨g, 0, none⟩) (m := (waitW :: ws).length) (c := c5) hw).cell (j := 0) (u := txV waitW) rfl rfl; exact h) ?_
  refine r_eql_string (a := tx waitW) (b := tx tapW) (p := false) rfl rfl rfl (str_F (by decide)) ?_
  refine r_move rfl rfl ?_
  refine r_pass rfl rfl rfl rfl ?_
  refine r_pass rfl rfl rfl rfl ?_
  refine r_pass rfl rfl rfl rfl ?_
  refine r_pick_f rfl rfl rfl ?_
  refine r_move rfl rfl ?_
  refine r_pass rfl rfl rfl rfl ?_
  refine r_pass rfl rfl rfl rfl ?_
  refine r_pass rfl rfl rfl rfl ?_
  refine r_pass rfl rfl rfl rfl ?_
  refine r_pass rfl rfl rfl rfl ?_
  refine r_pick_f rfl rfl rfl ?_
  refine r_move rfl rfl ?_
  refine r_pass rfl rfl rfl rfl ?_
  refine r_pass rfl rfl rfl rfl ?_
  refine r_pass rfl rfl rfl rfl ?_
  refine r_pass rfl rfl rfl rfl ?_
  refine r_pass rfl rfl rfl rfl ?_
  refine r_pick_f rfl rfl rfl ?_
  refine r_nil ?_
  refine r_tn ?_
  refine r_cond_f rfl ?_
  refine r_skip ?_
  refine r_tn ?_
  refine r_seq ?_
  refine r_region ?_
  refine r_assign rfl rfl ?_
  refine r_nil ?_
  refine r_tn ?_
  refine r_ret ?_
  refine Run.ownNil 9 1 ?_
  exact r_done1 (.inl rfl) rfl (res_tmp rfl) fun w hw => ⟨(none, 0), by rw [hb]; rfl, trivial, by rw [hb]; have h2 : Sat _ _ [.own 9 1 (.slice none 0 0) 0 []] w := hw.sub; exact h2⟩

theorem bas_tap_y (s : List UInt8) (hs : s.length ≤ 100000000) (k n : Nat) (hk : keyN [hexC k] = some k) (hc0 : countN (Lib.decDigits n) = some n) (hn : 1 ≤ n ∧ n ≤ 65535) (e : splitS s = [tapW, [hexC k], Lib.decDigits n]) (hb : basicL s = [evT ((k : Int), true), waitT n, evT ((k : Int), false)]) (w : World) :
    Calls Tryd.prog 19 #[.string (tx s)] w fun e w' => ∃ i : Option Addr × Nat, e = .returned (.slice i.1 (basicL s).length i.2) ∧ True ∧ Sat w [] [.own 9 1 (.slice i.1 (basicL s).length i.2) (basicL s).length ((basicL s).map txV)] w' := by
  refine enter Tryd.func19 rfl rfl rfl ?_
  refine r_seq ?_
  refine r_region ?_
  refine r_assign rfl rfl ?_
  refine r_nil ?_
  refine r_tn ?_
  refine r_seq ?_
  refine r_region ?_
  refine r_move rfl rfl ?_
  refine r_callx rfl rfl rfl (by kernel_rfl) rfl (fun w hw => refSplitB s hs w) ?_
  rintro ⟨A5, c5⟩ _
  rw [e]
  refine r_have (fun w hw => own_some (A := A5) (m := ([tapW, [hexC k], Lib.decDigits n]).length) (c := c5) hw (by simp)) fun hg => ?_
  obtain ⟨g, rfl⟩ := hg
  refine r_assign rfl rfl ?_
  refine r_nil ?_
  refine r_tn ?_
  refine r_seq ?_
  refine r_seq ?_
  refine r_region ?_
  refine r_move rfl rfl ?_
  refine r_indexSl (sz := 1) (o' := 0) rfl rfl rfl rfl rfl (by simp) (by simp) (by omega) ?_
  refine r_loadC (p := ⟨g, 0, none⟩) (v := txV tapW) rfl rfl rfl (fun w hw => by have h := (own_rd (A := some ⟨g, 0, none⟩) (m := ([tapW, [hexC k], Lib.decDigits n]).length) (c := c5) hw).cell (j := 0) (u := txV tapW) rfl rfl; exact h) ?_
  refine r_eql_string (a := tx tapW) (b := tx pressW) (p := false) rfl rfl rfl (str_F (by decide)) ?_
  refine r_move rfl rfl ?_
  refine r_go rfl rfl ?_
  refine r_move rfl rfl ?_
  refine r_go rfl rfl ?_
  refine r_indexSl (sz := 1) (o' := 0) rfl rfl rfl rfl rfl (by simp) (by simp) (by omega) ?_
  refine r_go rfl rfl ?_
  refine r_loadC (p := ⟨g, 0, none⟩) (v := txV tapW) rfl rfl rfl (fun w hw => by have h := (own_rd (A := some ⟨g, 0, none⟩) (m := ([tapW, [hexC k], Lib.decDigits n]).length) (c := c5) hw).cell (j := 0) (u := txV tapW) rfl rfl; exact h) ?_
  refine r_go rfl rfl ?_
  refine r_eql_string (a := tx tapW) (b := tx releaseW) (p := false) rfl rfl rfl (str_F (by decide)) ?_
  refine r_pick_f rfl rfl rfl ?_
  refine r_move rfl rfl ?_
  refine r_pass rfl rfl rfl rfl ?_
  refine r_pass rfl rfl rfl rfl ?_
  refine r_pass rfl rfl rfl rfl ?_
  refine r_pick_f rfl rfl rfl ?_
  refine r_move rfl rfl ?_
  refine r_pass rfl rfl rfl rfl ?_
  refine r_pass rfl rfl rfl rfl ?_
  refine r_pass rfl rfl rfl rfl ?_
  refine r_pass rfl rfl rfl rfl ?_
  refine r_pass rfl rfl rfl rfl ?_
  refine r_pick_f rfl rfl rfl ?_
  refine r_move rfl rfl ?_
  refine r_go rfl rfl ?_
  refine r_move rfl rfl ?_
  refine r_go rfl rfl ?_
  refine r_indexSl (sz := 1) (o' := 0) rfl rfl rfl rfl rfl (by simp) (by simp) (by omega) ?_
  refine r_go rfl rfl ?_
  refine r_loadC (p := ⟨g, 0, none⟩) (v := txV tapW) rfl rfl rfl (fun w hw => by have h := (own_rd (A := some ⟨g, 0, none⟩) (m := ([tapW, [hexC k], Lib.decDigits n]).length) (c := c5) hw).cell (j := 0) (u := txV tapW) rfl rfl; exact h) ?_
  refine r_go rfl rfl ?_
  refine r_eql_string (a := tx tapW) (b := tx waitW) (p := false) rfl rfl rfl (str_F (by decide)) ?_
  refine r_go rfl rfl ?_
  refine r_move rfl rfl ?_
  refine r_pass rfl rfl rfl rfl ?_
  refine r_pass rfl rfl rfl rfl ?_
  refine r_pass rfl rfl rfl rfl ?_
  refine r_go rfl rfl ?_
  refine r_pick_f rfl rfl rfl ?_
  refine r_go rfl rfl ?_
  refine r_move rfl rfl ?_
  refine r_pass rfl rfl rfl rfl ?_
  refine r_pass rfl rfl rfl rfl ?_
  refine r_pass rfl rfl rfl rfl ?_
  refine r_pass rfl rfl rfl rfl ?_
  refine r_pass rfl rfl rfl rfl ?_
  refine r_go rfl rfl ?_
  refine r_pick_f rfl rfl rfl ?_
  refine r_pick_f rfl rfl rfl ?_
  refine r_nil ?_
  refine r_tn ?_
  refine r_cond_f rfl ?_
  refine r_skip ?_
  refine r_tn ?_
  refine r_seq ?_
  refine r_seq ?_
  refine r_region ?_
  refine r_move rfl rfl ?_
  refine r_indexSl (sz := 1) (o' := 0) rfl rfl rfl rfl rfl (by simp) (by simp) (by omega) ?_
  refine r_loadC (p := ⟨g, 0, none⟩) (v := txV tapW) rfl rfl rfl (fun w hw => by have h := (own_rd (A := some ⟨g, 0, none⟩) (m := ([tapW, [hexC k], Lib.decDigits n]).length) (c := c5) hw).cell (j := 0) (u := txV tapW) rfl rfl; exact h) ?_
  refine r_eql_string (a := tx tapW) (b := tx tapW) (p := true) rfl rfl rfl (str_T _) ?_
  refine r_move rfl rfl ?_
  refine r_go rfl rfl ?_
  refine r_move rfl rfl ?_
  refine r_go rfl rfl ?_
  refine r_len rfl rfl rfl ?_
  refine r_go rfl rfl ?_
  refine r_eql (p := true) rfl rfl rfl (decide_eq_true (by simp)) ?_
  refine r_pick_t rfl rfl rfl ?_
  refine r_move rfl rfl ?_
  refine r_go rfl rfl ?_
  refine r_move rfl rfl ?_
  refine r_go rfl rfl ?_
  refine r_indexSl (sz := 1) (o' := 1) rfl rfl rfl rfl rfl (by simp) (by simp) (by omega) ?_
  refine r_go rfl rfl ?_
  refine r_loadC (p := ⟨g, 1, none⟩) (v := txV [hexC k]) rfl rfl rfl (fun w hw => by have h := (own_rd (A := some ⟨g, 0, none⟩) (m := ([tapW, [hexC k], Lib.decDigits n]).length) (c := c5) hw).cell (j := 1) (u := txV [hexC k]) rfl rfl; exact h) ?_
  refine r_go rfl rfl ?_
  refine r_call rfl rfl rfl (by kernel_rfl) rfl (fun w hw => by have h := refKey30 [hexC k] w; rw [hk] at h; exact h) ?_
  refine r_go rfl rfl ?_
  refine r_geq (p := true) rfl rfl rfl (decide_eq_true (by show (0 : Int) ≤ (k : Int); omega)) ?_
  refine r_pick_t rfl rfl rfl ?_
  refine r_move rfl rfl ?_
  refine r_go rfl rfl ?_
  refine r_move rfl rfl ?_
  refine r_go rfl rfl ?_
  refine r_indexSl (sz := 1) (o' := 2) rfl rfl rfl rfl rfl (by simp) (by simp) (by omega) ?_
  refine r_go rfl rfl ?_
  refine r_loadC (p := ⟨g, 2, none⟩) (v := txV (Lib.decDigits n)) rfl rfl rfl (fun w hw => by have h := (own_rd (A := some ⟨g, 0, none⟩) (m := ([tapW, [hexC k], Lib.decDigits n]).length) (c := c5) hw).cell (j := 2) (u := txV (Lib.decDigits n)) rfl rfl; exact h) ?_
  refine r_go rfl rfl ?_
  refine r_call rfl rfl rfl (by kernel_rfl) rfl (fun w hw => by have h := refCount30 (Lib.decDigits n) w; rw [hc0] at h; exact h) ?_
  refine r_go rfl rfl ?_
  refine r_gtr (p := true) rfl rfl rfl (decide_eq_true (by show (0 : Int) < (n : Int); omega)) ?_
  refine r_pick_t rfl rfl rfl ?_
  refine r_nil ?_
  refine r_tn ?_
  refine r_cond_t rfl ?_
  refine r_seq ?_
  refine r_mixed (by kernel_rfl) (by kernel_rfl) ?_
  refine r_move rfl rfl ?_
  refine r_indexSl (sz := 1) (o' := 1) rfl rfl rfl rfl rfl (by simp) (by simp) (by omega) ?_
  refine r_loadC (p := ⟨g, 1, none⟩) (v := txV [hexC k]) rfl rfl rfl (fun w hw => by have h := (own_rd (A := some ⟨g, 0, none⟩) (m := ([tapW, [hexC k], Lib.decDigits n]).length) (c := c5) hw).cell (j := 1) (u := txV [hexC k]) rfl rfl; exact h) ?_
  refine r_addTx (l := [112, 114, 101, 115, 115, 32]) (m := [hexC k]) rfl rfl rfl (by have h := dec_len (show n < 18446744073709551616 by omega); simp only [List.length_cons, List.length_nil]; omega) ?_
  rw [← evT_true]
  refine r_move rfl rfl ?_
  refine r_indexSl (sz := 1) (o' := 2) rfl rfl rfl rfl rfl (by simp) (by simp) (by omega) ?_
  refine r_loadC (p := ⟨g, 2, none⟩) (v := txV (Lib.decDigits n)) rfl rfl rfl (fun w hw => by have h := (own_rd (A := some ⟨g, 0, none⟩) (m := ([tapW, [hexC k], Lib.decDigits n]).length) (c := c5) hw).cell (j := 2) (u := txV (Lib.decDigits n)) rfl rfl; exact h) ?_
  refine r_addTx (l := [119, 97, 105, 116, 32]) (m := Lib.decDigits n) rfl rfl rfl (by have h := dec_len (show n < 18446744073709551616 by omega); simp only [List.length_cons, List.length_nil]; omega) ?_
  rw [waitT_def]
  refine r_move rfl rfl ?_
  refine r_indexSl (sz := 1) (o' := 1) rfl rfl rfl rfl rfl (by simp) (by simp) (by omega) ?_
  refine r_loadC (p := ⟨g, 1, none⟩) (v := txV [hexC k]) rfl rfl rfl (fun w hw => by have h := (own_rd (A := some ⟨g, 0, none⟩) (m := ([tapW, [hexC k], Lib.decDigits n]).length) (c := c5) hw).cell (j := 1) (u := txV [hexC k]) rfl rfl; exact h) ?_
  refine r_addTx (l := [114, 101, 108, 101, 97, 115, 101, 32]) (m := [hexC k]) rfl rfl rfl (by have h := dec_len (show n < 18446744073709551616 by omega); simp only [List.length_cons, List.length_nil]; omega) ?_
  rw [← evT_false]
  refine r_lit (sz := 1) (pv := [(0, txV (evT ((k : Int), true))), (1, txV (waitT n)), (2, txV (evT ((k : Int), false)))]) (cells := #[txV (evT ((k : Int), true)), txV (waitT n), txV (evT ((k : Int), false))]) rfl rfl rfl rfl rfl rfl (by kernel_rfl) rfl (fun b83 => ?_) (by decide)
  refine r_assign rfl rfl ?_
  refine r_nil ?_
  refine r_tn ?_
  refine r_ret ?_
  refine r_tr ?_
  exact r_done1 (.inl rfl) rfl (res_tmp rfl) fun w hw => ⟨(some ⟨b83, 0, none⟩, 3), by rw [hb]; rfl, trivial, by rw [hb]; have h2 : Sat _ _ [.own 9 1 (.slice (some ⟨b83, 0, none⟩) 3 3) 3 #[txV (evT ((k : Int), true)), txV (waitT n), txV (evT ((k : Int), false))].toList] w := hw.sub; exact h2⟩

theorem bas_tap_c (s : List UInt8) (hs : s.length ≤ 100000000) (w1 w2 : List UInt8) (k : Nat) (hk : keyN w1 = some k) (hc0 : countN w2 = none) (e : splitS s = [tapW, w1, w2]) (hb : basicL s = []) (w : World) :
    Calls Tryd.prog 19 #[.string (tx s)] w fun e w' => ∃ i : Option Addr × Nat, e = .returned (.slice i.1 (basicL s).length i.2) ∧ True ∧ Sat w [] [.own 9 1 (.slice i.1 (basicL s).length i.2) (basicL s).length ((basicL s).map txV)] w' := by
  refine enter Tryd.func19 rfl rfl rfl ?_
  refine r_seq ?_
  refine r_region ?_
  refine r_assign rfl rfl ?_
  refine r_nil ?_
  refine r_tn ?_
  refine r_seq ?_
  refine r_region ?_
  refine r_move rfl rfl ?_
  refine r_callx rfl rfl rfl (by kernel_rfl) rfl (fun w hw => refSplitB s hs w) ?_
  rintro ⟨A5, c5⟩ _
  rw [e]
  refine r_have (fun w hw => own_some (A := A5) (m := ([tapW, w1, w2]).length) (c := c5) hw (by simp)) fun hg => ?_
  obtain ⟨g, rfl⟩ := hg
  refine r_assign rfl rfl ?_
  refine r_nil ?_
  refine r_tn ?_
  refine r_seq ?_
  refine r_seq ?_
  refine r_region ?_
  refine r_move rfl rfl ?_
  refine r_indexSl (sz := 1) (o' := 0) rfl rfl rfl rfl rfl (by simp) (by simp) (by omega) ?_
  refine r_loadC (p := ⟨g, 0, none⟩) (v := txV tapW) rfl rfl rfl (fun w hw => by have h := (own_rd (A := some ⟨g, 0, none⟩) (m := ([tapW, w1, w2]).length) (c := c5) hw).cell (j := 0) (u := txV tapW) rfl rfl; exact h) ?_
  refine r_eql_string (a := tx tapW) (b := tx pressW) (p := false) rfl rfl rfl (str_F (by decide)) ?_
  refine r_move rfl rfl ?_
  refine r_go rfl rfl ?_
  refine r_move rfl rfl ?_
  refine r_go rfl rfl ?_
  refine r_indexSl (sz := 1) (o' := 0) rfl rfl rfl rfl rfl (by simp) (by simp) (by omega) ?_
  refine r_go rfl rfl ?_
  refine r_loadC (p := ⟨g, 0, none⟩) (v := txV tapW) rfl rfl rfl (fun w hw => by have h := (own_rd (A := some ⟨g, 0, none⟩) (m := ([tapW, w1, w2]).length) (c := c5) hw).cell (j := 0) (u := txV tapW) rfl rfl; exact h) ?_
  refine r_go rfl rfl ?_
  refine r_eql_string (a := tx tapW) (b := tx releaseW) (p := false) rfl rfl rfl (str_F (by decide)) ?_
  refine r_pick_f rfl rfl rfl ?_
  refine r_move rfl rfl ?_
  refine r_pass rfl rfl rfl rfl ?_
  refine r_pass rfl rfl rfl rfl ?_
  refine r_pass rfl rfl rfl rfl ?_
  refine r_pick_f rfl rfl rfl ?_
  refine r_move rfl rfl ?_
  refine r_pass rfl rfl rfl rfl ?_
  refine r_pass rfl rfl rfl rfl ?_
  refine r_pass rfl rfl rfl rfl ?_
  refine r_pass rfl rfl rfl rfl ?_
  refine r_pass rfl rfl rfl rfl ?_
  refine r_pick_f rfl rfl rfl ?_
  refine r_move rfl rfl ?_
  refine r_go rfl rfl ?_
  refine r_move rfl rfl ?_
  refine r_go rfl rfl ?_
  refine r_indexSl (sz := 1) (o' := 0) rfl rfl rfl rfl rfl (by simp) (by simp) (by omega) ?_
  refine r_go rfl rfl ?_
  refine r_loadC (p := ⟨g, 0, none⟩) (v := txV tapW) rfl rfl rfl (fun w hw => by have h := (own_rd (A := some ⟨g, 0, none⟩) (m := ([tapW, w1, w2]).length) (c := c5) hw).cell (j := 0) (u := txV tapW) rfl rfl; exact h) ?_
  refine r_go rfl rfl ?_
  refine r_eql_string (a := tx tapW) (b := tx waitW) (p := false) rfl rfl rfl (str_F (by decide)) ?_
  refine r_go rfl rfl ?_
  refine r_move rfl rfl ?_
  refine r_pass rfl rfl rfl rfl ?_
  refine r_pass rfl rfl rfl rfl ?_
  refine r_pass rfl rfl rfl rfl ?_
  refine r_go rfl rfl ?_
  refine r_pick_f rfl rfl rfl ?_
  refine r_go rfl rfl ?_
  refine r_move rfl rfl ?_
  refine r_pass rfl rfl rfl rfl ?_
  refine r_pass rfl rfl rfl rfl ?_
  refine r_pass rfl rfl rfl rfl ?_
  refine r_pass rfl rfl rfl rfl ?_
  refine r_pass rfl rfl rfl rfl ?_
  refine r_go rfl rfl ?_
  refine r_pick_f rfl rfl rfl ?_
  refine r_pick_f rfl rfl rfl ?_
  refine r_nil ?_
  refine r_tn ?_
  refine r_cond_f rfl ?_
  refine r_skip ?_
  refine r_tn ?_
  refine r_seq ?_
  refine r_seq ?_
  refine r_region ?_
  refine r_move rfl rfl ?_
  refine r_indexSl (sz := 1) (o' := 0) rfl rfl rfl rfl rfl (by simp) (by simp) (by omega) ?_
  refine r_loadC (p := ⟨g, 0, none⟩) (v := txV tapW) rfl rfl rfl (fun w hw => by have h := (own_rd (A := some ⟨g, 0, none⟩) (m := ([tapW, w1, w2]).length) (c := c5) hw).cell (j := 0) (u := txV tapW) rfl rfl; exact h) ?_
  refine r_eql_string (a := tx tapW) (b := tx tapW) (p := true) rfl rfl rfl (str_T _) ?_
  refine r_move rfl rfl ?_
  refine r_go rfl rfl ?_
  refine r_move rfl rfl ?_
  refine r_go rfl rfl ?_
  refine r_len rfl rfl rfl ?_
  refine r_go rfl rfl ?_
  refine r_eql (p := true) rfl rfl rfl (decide_eq_true (by simp)) ?_
  refine r_pick_t rfl rfl rfl ?_
  refine r_move rfl rfl ?_
  refine r_go rfl rfl ?_
  refine r_move rfl rfl ?_
  refine r_go rfl rfl ?_
  refine r_indexSl (sz := 1) (o' := 1) rfl rfl rfl rfl rfl (by simp) (by simp) (by omega) ?_
  refine r_go rfl rfl ?_
  refine r_loadC (p := ⟨g, 1, none⟩) (v := txV w1) rfl rfl rfl (fun w hw => by have h := (own_rd (A := some ⟨g, 0, none⟩) (m := ([tapW, w1, w2]).length) (c := c5) hw).cell (j := 1) (u := txV w1) rfl rfl; exact h) ?_
  refine r_go rfl rfl ?_
  refine r_call rfl rfl rfl (by kernel_rfl) rfl (fun w hw => by have h := refKey30 w1 w; rw [hk] at h; exact h) ?_
  refine r_go rfl rfl ?_
  refine r_geq (p := true) rfl rfl rfl (decide_eq_true (by show (0 : Int) ≤ (k : Int); omega)) ?_
  refine r_pick_t rfl rfl rfl ?_
  refine r_move rfl rfl ?_
  refine r_go rfl rfl ?_
  refine r_move rfl rfl ?_
  refine r_go rfl rfl ?_
  refine r_indexSl (sz := 1) (o' := 2) rfl rfl rfl rfl rfl (by simp) (by simp) (by omega) ?_
  refine r_go rfl rfl ?_
  refine r_loadC (p := ⟨g, 2, none⟩) (v := txV w2) rfl rfl rfl (fun w hw => by have h := (own_rd (A := some ⟨g, 0, none⟩) (m := ([tapW, w1, w2]).length) (c := c5) hw).cell (j := 2) (u := txV w2) rfl rfl; exact h) ?_
  refine r_go rfl rfl ?_
  refine r_call rfl rfl rfl (by kernel_rfl) rfl (fun w hw => by have h := refCount30 w2 w; rw [hc0] at h; exact h) ?_
  refine r_go rfl rfl ?_
  refine r_gtr (p := false) rfl rfl rfl rfl ?_
  refine r_pick_t rfl rfl rfl ?_
  refine r_nil ?_
  refine r_tn ?_
  refine r_cond_f rfl ?_
  refine r_skip ?_
  refine r_tn ?_
  refine r_seq ?_
  refine r_region ?_
  refine r_assign rfl rfl ?_
  refine r_nil ?_
  refine r_tn ?_
  refine r_ret ?_
  refine Run.ownNil 9 1 ?_
  exact r_done1 (.inl rfl) rfl (res_tmp rfl) fun w hw => ⟨(none, 0), by rw [hb]; rfl, trivial, by rw [hb]; have h2 : Sat _ _ [.own 9 1 (.slice none 0 0) 0 []] w := hw.sub; exact h2⟩

theorem bas_tap_k (s : List UInt8) (hs : s.length ≤ 100000000) (w1 w2 : List UInt8) (hk : keyN w1 = none) (e : splitS s = [tapW, w1, w2]) (hb : basicL s = []) (w : World) :
    Calls Tryd.prog 19 #[.string (tx s)] w fun e w' => ∃ i : Option Addr × Nat, e = .returned (.slice i.1 (basicL s).length i.2) ∧ True ∧ Sat w [] [.own 9 1 (.slice i.1 (basicL s).length i.2) (basicL s).length ((basicL s).map txV)] w' := by
  refine enter Tryd.func19 rfl rfl rfl ?_
  refine r_seq ?_
  refine r_region ?_
  refine r_assign rfl rfl ?_
  refine r_nil ?_
  refine r_tn ?_
  refine r_seq ?_
  refine r_region ?_
  refine r_move rfl rfl ?_
  refine r_callx rfl rfl rfl (by kernel_rfl) rfl (fun w hw => refSplitB s hs w) ?_
  rintro ⟨A5, c5⟩ _
  rw [e]
  refine r_have (fun w hw => own_some (A := A5) (m := ([tapW, w1, w2]).length) (c := c5) hw (by simp)) fun hg => ?_
  obtain ⟨g, rfl⟩ := hg
  refine r_assign rfl rfl ?_
  refine r_nil ?_
  refine r_tn ?_
  refine r_seq ?_
  refine r_seq ?_
  refine r_region ?_
  refine r_move rfl rfl ?_
  refine r_indexSl (sz := 1) (o' := 0) rfl rfl rfl rfl rfl (by simp) (by simp) (by omega) ?_
  refine r_loadC (p := ⟨g, 0, none⟩) (v := txV tapW) rfl rfl rfl (fun w hw => by have h := (own_rd (A := some ⟨g, 0, none⟩) (m := ([tapW, w1, w2]).length) (c := c5) hw).cell (j := 0) (u := txV tapW) rfl rfl; exact h) ?_
  refine r_eql_string (a := tx tapW) (b := tx pressW) (p := false) rfl rfl rfl (str_F (by decide)) ?_
  refine r_move rfl rfl ?_
  refine r_go rfl rfl ?_
  refine r_move rfl rfl ?_
  refine r_go rfl rfl ?_
  refine r_indexSl (sz := 1) (o' := 0) rfl rfl rfl rfl rfl (by simp) (by simp) (by omega) ?_
  refine r_go rfl rfl ?_
  refine r_loadC (p := ⟨g, 0, none⟩) (v := txV tapW) rfl rfl rfl (fun w hw => by have h := (own_rd (A := some ⟨g, 0, none⟩) (m := ([tapW, w1, w2]).length) (c := c5) hw).cell (j := 0) (u := txV tapW) rfl rfl; exact h) ?_
  refine r_go rfl rfl ?_
  refine r_eql_string (a := tx tapW) (b := tx releaseW) (p := false) rfl rfl rfl (str_F (by decide)) ?_
  refine r_pick_f rfl rfl rfl ?_
  refine r_move rfl rfl ?_
  refine r_pass rfl rfl rfl rfl ?_
  refine r_pass rfl rfl rfl rfl ?_
  refine r_pass rfl rfl rfl rfl ?_
  refine r_pick_f rfl rfl rfl ?_
  refine r_move rfl rfl ?_
  refine r_pass rfl rfl rfl rfl ?_
  refine r_pass rfl rfl rfl rfl ?_
  refine r_pass rfl rfl rfl rfl ?_
  refine r_pass rfl rfl rfl rfl ?_
  refine r_pass rfl rfl rfl rfl ?_
  refine r_pick_f rfl rfl rfl ?_
  refine r_move rfl rfl ?_
  refine r_go rfl rfl ?_
  refine r_move rfl rfl ?_
  refine r_go rfl rfl ?_
  refine r_indexSl (sz := 1) (o' := 0) rfl rfl rfl rfl rfl (by simp) (by simp) (by omega) ?_
  refine r_go rfl rfl ?_
  refine r_loadC (p := ⟨g, 0, none⟩) (v := txV tapW) rfl rfl rfl (fun w hw => by have h := (own_rd (A := some ⟨g, 0, none⟩) (m := ([tapW, w1, w2]).length) (c := c5) hw).cell (j := 0) (u := txV tapW) rfl rfl; exact h) ?_
  refine r_go rfl rfl ?_
  refine r_eql_string (a := tx tapW) (b := tx waitW) (p := false) rfl rfl rfl (str_F (by decide)) ?_
  refine r_go rfl rfl ?_
  refine r_move rfl rfl ?_
  refine r_pass rfl rfl rfl rfl ?_
  refine r_pass rfl rfl rfl rfl ?_
  refine r_pass rfl rfl rfl rfl ?_
  refine r_go rfl rfl ?_
  refine r_pick_f rfl rfl rfl ?_
  refine r_go rfl rfl ?_
  refine r_move rfl rfl ?_
  refine r_pass rfl rfl rfl rfl ?_
  refine r_pass rfl rfl rfl rfl ?_
  refine r_pass rfl rfl rfl rfl ?_
  refine r_pass rfl rfl rfl rfl ?_
  refine r_pass rfl rfl rfl rfl ?_
  refine r_go rfl rfl ?_
  refine r_pick_f rfl rfl rfl ?_
  refine r_pick_f rfl rfl rfl ?_
  refine r_nil ?_
  refine r_tn ?_
  refine r_cond_f rfl ?_
  refine r_skip ?_
  refine r_tn ?_
  refine r_seq ?_
  refine r_seq ?_
  refine r_region ?_
  refine r_move rfl rfl ?_
  refine r_indexSl (sz := 1) (o' := 0) rfl rfl rfl rfl rfl (by simp) (by simp) (by omega) ?_
  refine r_loadC (p := ⟨g, 0, none⟩) (v := txV tapW) rfl rfl rfl (fun w hw => by have h := (own_rd (A := some ⟨g, 0, none⟩) (m := ([tapW, w1, w2]).length) (c := c5) hw).cell (j := 0) (u := txV tapW) rfl rfl; exact h) ?_
  refine r_eql_string (a := tx tapW) (b := tx tapW) (p := true) rfl rfl rfl (str_T _) ?_
  refine r_move rfl rfl ?_
  refine r_go rfl rfl ?_
  refine r_move rfl rfl ?_
  refine r_go rfl rfl ?_
  refine r_len rfl rfl rfl ?_
  refine r_go rfl rfl ?_
  refine r_eql (p := true) rfl rfl rfl (decide_eq_true (by simp)) ?_
  refine r_pick_t rfl rfl rfl ?_
  refine r_move rfl rfl ?_
  refine r_go rfl rfl ?_
  refine r_move rfl rfl ?_
  refine r_go rfl rfl ?_
  refine r_indexSl (sz := 1) (o' := 1) rfl rfl rfl rfl rfl (by simp) (by simp) (by omega) ?_
  refine r_go rfl rfl ?_
  refine r_loadC (p := ⟨g, 1, none⟩) (v := txV w1) rfl rfl rfl (fun w hw => by have h := (own_rd (A := some ⟨g, 0, none⟩) (m := ([tapW, w1, w2]).length) (c := c5) hw).cell (j := 1) (u := txV w1) rfl rfl; exact h) ?_
  refine r_go rfl rfl ?_
  refine r_call rfl rfl rfl (by kernel_rfl) rfl (fun w hw => by have h := refKey30 w1 w; rw [hk] at h; exact h) ?_
  refine r_go rfl rfl ?_
  refine r_geq (p := false) rfl rfl rfl rfl ?_
  refine r_pick_t rfl rfl rfl ?_
  refine r_move rfl rfl ?_
  refine r_pass rfl rfl rfl rfl ?_
  refine r_pass rfl rfl rfl rfl ?_
  refine r_pass rfl rfl rfl rfl ?_
  refine r_pass rfl rfl rfl rfl ?_
  refine r_pass rfl rfl rfl rfl ?_
  refine r_pick_f rfl rfl rfl ?_
  refine r_nil ?_
  refine r_tn ?_
  refine r_cond_f rfl ?_
  refine r_skip ?_
  refine r_tn ?_
  refine r_seq ?_
  refine r_region ?_
  refine r_assign rfl rfl ?_
  refine r_nil ?_
  refine r_tn ?_
  refine r_ret ?_
  refine Run.ownNil 9 1 ?_
  exact r_done1 (.inl rfl) rfl (res_tmp rfl) fun w hw => ⟨(none, 0), by rw [hb]; rfl, trivial, by rw [hb]; have h2 : Sat _ _ [.own 9 1 (.slice none 0 0) 0 []] w := hw.sub; exact h2⟩

theorem bas_tap_l (s : List UInt8) (hs : s.length ≤ 100000000) (ws : List (List UInt8)) (hl : ws.length ≠ 2) (e : splitS s = tapW :: ws) (hb : basicL s = []) (w : World) :
    Calls Tryd.prog 19 #[.string (tx s)] w fun e w' => ∃ i : Option Addr × Nat, e = .returned (.slice i.1 (basicL s).length i.2) ∧ True ∧ Sat w [] [.own 9 1 (.slice i.1 (basicL s).length i.2) (basicL s).length ((basicL s).map txV)] w' := by
  refine enter Tryd.func19 rfl rfl rfl ?_
  refine r_seq ?_
  refine r_region ?_
  refine r_assign rfl rfl ?_
  refine r_nil ?_
  refine r_tn ?_
  refine r_seq ?_
  refine r_region ?_
  refine r_move rfl rfl ?_
  refine r_callx rfl rfl rfl (by kernel_rfl) rfl (fun w hw => refSplitB s hs w) ?_
  rintro ⟨A5, c5⟩ _
  rw [e]
  refine r_have (fun w hw => own_some (A := A5) (m := (tapW :: ws).length) (c := c5) hw (by simp)) fun hg => ?_
  obtain ⟨g, rfl⟩ := hg
  refine r_assign rfl rfl ?_
  refine r_nil ?_
  refine r_tn ?_
  refine r_seq ?_
  refine r_seq ?_
  refine r_region ?_
  refine r_move rfl rfl ?_
  refine r_indexSl (sz := 1) (o' := 0) rfl rfl rfl rfl rfl (by simp) (by simp) (by omega) ?_
  refine r_loadC (p := ⟨g, 0, none⟩) (v := txV tapW) rfl rfl rfl (fun w hw => by have h := (own_rd (A := some ⟨g, 0, none⟩) (m := (tapW :: ws).length) (c := c5) hw).cell (j := 0) (u := txV tapW) rfl rfl; exact h) ?_
  refine r_eql_string (a := tx tapW) (b := tx pressW) (p := false) rfl rfl rfl (str_F (by decide)) ?_
  refine r_move rfl rfl ?_
  refine r_go rfl rfl ?_
  refine r_move rfl rfl ?_
  refine r_go rfl rfl ?_
  refine r_indexSl (sz := 1) (o' := 0) rfl rfl rfl rfl rfl (by simp) (by simp) (by omega) ?_
  refine r_go rfl rfl ?_
  refine r_loadC (p := ⟨g, 0, none⟩) (v := txV tapW) rfl rfl rfl (fun w hw => by have h := (own_rd (A := some ⟨g, 0, none⟩) (m := (tapW :: ws).length) (c := c5) hw).cell (j := 0) (u := txV tapW) rfl rfl; exact h) ?_
  refine r_go rfl rfl ?_
  refine r_eql_string (a := tx tapW) (b := tx releaseW) (p := false) rfl rfl rfl (str_F (by decide)) ?_
  refine r_pick_f rfl rfl rfl ?_
  refine r_move rfl rfl ?_
  refine r_pass rfl rfl rfl rfl ?_
  refine r_pass rfl rfl rfl rfl ?_
  refine r_pass rfl rfl rfl rfl ?_
  refine r_pick_f rfl rfl rfl ?_
  refine r_move rfl rfl ?_
  refine r_pass rfl rfl rfl rfl ?_
  refine r_pass rfl rfl rfl rfl ?_
  refine r_pass rfl rfl rfl rfl ?_
  refine r_pass rfl rfl rfl rfl ?_
  refine r_pass rfl rfl rfl rfl ?_
  refine r_pick_f rfl rfl rfl ?_
  refine r_move rfl rfl ?_
  refine r_go rfl rfl ?_
  refine r_move rfl rfl ?_
  refine r_go rfl rfl ?_
  refine r_indexSl (sz := 1) (o' := 0) rfl rfl rfl rfl rfl (by simp) (by simp) (by omega) ?_
  refine r_go rfl rfl ?_
  refine r_loadC (p := ⟨g, 0, none⟩) (v := txV tapW) rfl rfl rfl (fun w hw => by have h := (own_rd (A := some ⟨g, 0, none⟩) (m := (tapW :: ws).length) (c := c5) hw).cell (j := 0) (u := txV tapW) rfl rfl; exact h) ?_
  refine r_go rfl rfl ?_
  refine r_eql_string (a := tx tapW) (b := tx waitW) (p := false) rfl rfl rfl (str_F (by decide)) ?_
  refine r_go rfl rfl ?_
  refine r_move rfl rfl ?_
  refine r_pass rfl rfl rfl rfl ?_
  refine r_pass rfl rfl rfl rfl ?_
  refine r_pass rfl rfl rfl rfl ?_
  refine r_go rfl rfl ?_
  refine r_pick_f rfl rfl rfl ?_
  refine r_go rfl rfl ?_
  refine r_move rfl rfl ?_
  refine r_pass rfl rfl rfl rfl ?_
  refine r_pass rfl rfl rfl rfl ?_
  refine r_pass rfl rfl rfl rfl ?_
  refine r_pass rfl rfl rfl rfl ?_
  refine r_pass rfl rfl rfl rfl ?_
  refine r_go rfl rfl ?_
  refine r_pick_f rfl rfl rfl ?_
  refine r_pick_f rfl rfl rfl ?_
  refine r_nil ?_
  refine r_tn ?_
  refine r_cond_f rfl ?_
  refine r_skip ?_
  refine r_tn ?_
  refine r_seq ?_
  refine r_seq ?_
  refine r_region ?_
  refine r_move rfl rfl ?_
  refine r_indexSl (sz := 1) (o' := 0) rfl rfl rfl rfl rfl (by simp) (by simp) (by omega) ?_
  refine r_loadC (p := ⟨g, 0, none⟩) (v := txV tapW) rfl rfl rfl (fun w hw => by have h := (own_rd (A := some ⟨g, 0, none⟩) (m := (tapW :: ws).length) (c := c5) hw).cell (j := 0) (u := txV tapW) rfl rfl; exact h) ?_
  refine r_eql_string (a := tx tapW) (b := tx tapW) (p := true) rfl rfl rfl (str_T _) ?_
  refine r_move rfl rfl ?_
  refine r_go rfl rfl ?_
  refine r_move rfl rfl ?_
  refine r_go rfl rfl ?_
  refine r_len rfl rfl rfl ?_
  refine r_go rfl rfl ?_
  refine r_eql (p := false) rfl rfl rfl (decide_eq_false (by simp; omega)) ?_
  refine r_pick_t rfl rfl rfl ?_
  refine r_move rfl rfl ?_
  refine r_pass rfl rfl rfl rfl ?_
  refine r_pass rfl rfl rfl rfl ?_
  refine r_pass rfl rfl rfl rfl ?_
  refine r_pass rfl rfl rfl rfl ?_
  refine r_pass rfl rfl rfl rfl ?_
  refine r_pick_f rfl rfl rfl ?_
  refine r_move rfl rfl ?_
  refine r_pass rfl rfl rfl rfl ?_
  refine r_pass rfl rfl rfl rfl ?_
  refine r_pass rfl rfl rfl rfl ?_
  refine r_pass rfl rfl rfl rfl ?_
  refine r_pass rfl rfl rfl rfl ?_
  refine r_pick_f rfl rfl rfl ?_
  refine r_nil ?_
  refine r_tn ?_
  refine r_cond_f rfl ?_
  refine r_skip ?_
  refine r_tn ?_
  refine r_seq ?_
  refine r_region ?_
  refine r_assign rfl rfl ?_
  refine r_nil ?_
  refine r_tn ?_
  refine r_ret ?_
  refine Run.ownNil 9 1 ?_
  exact r_done1 (.inl rfl) rfl (res_tmp rfl) fun w hw => ⟨(none, 0), by rw [hb]; rfl, trivial, by rw [hb]; have h2 : Sat _ _ [.own 9 1 (.slice none 0 0) 0 []] w := hw.sub; exact h2⟩

theorem bas_other (s : List UInt8) (hs : s.length ≤ 100000000) (w0 : List UInt8) (ws : List (List UInt8)) (n1 : w0 ≠ pressW) (n2 : w0 ≠ releaseW) (n3 : w0 ≠ waitW) (n4 : w0 ≠ tapW) (e : splitS s = w0 :: ws) (hb : basicL s = []) (w : World) :
    Calls Tryd.prog 19 #[.string (tx s)] w fun e w' => ∃ i : Option Addr × Nat, e = .returned (.slice i.1 (basicL s).length i.2) ∧ True ∧ Sat w [] [.own 9 1 (.slice i.1 (basicL s).length i.2) (basicL s).length ((basicL s).map txV)] w' := by
  refine enter Tryd.func19 rfl rfl rfl ?_
  refine r_seq ?_
  refine r_region ?_
  refine r_assign rfl rfl ?_
  refine r_nil ?_
  refine r_tn ?_
  refine r_seq ?_
  refine r_region ?_
  refine r_move rfl rfl ?_
  refine r_callx rfl rfl rfl (by kernel_rfl) rfl (fun w hw => refSplitB s hs w) ?_
  rintro ⟨A5, c5⟩ _
  rw [e]
  refine r_have (fun w hw => own_some (A := A5) (m := (w0 :: ws).length) (c := c5) hw (by simp)) fun hg => ?_
  obtain ⟨g, rfl⟩ := hg
  refine r_assign rfl rfl ?_
  refine r_nil ?_
  refine r_tn ?_
  refine r_seq ?_
  refine r_seq ?_
  refine r_region ?_
  refine r_move rfl rfl ?_
  refine r_indexSl (sz := 1) (o' := 0) rfl rfl rfl rfl rfl (by simp) (by simp) (by omega) ?_
  refine r_loadC (p := ⟨g, 0, none⟩) (v := txV w0) rfl rfl rfl (fun w hw => by have h := (own_rd (A := some ⟨g, 0, none⟩) (m := (w0 :: ws).length) (c := c5) hw).cell (j := 0) (u := txV w0) rfl rfl; exact h) ?_
  refine r_eql_string (a := tx w0) (b := tx pressW) (p := false) rfl rfl rfl (str_F n1) ?_
  refine r_move rfl rfl ?_
  refine r_go rfl rfl ?_
  refine r_move rfl rfl ?_
  refine r_go rfl rfl ?_
  refine r_indexSl (sz := 1) (o' := 0) rfl rfl rfl rfl rfl (by simp) (by simp) (by omega) ?_
  refine r_go rfl rfl ?_
  refine r_loadC (p := ⟨g, 0, none⟩) (v := txV w0) rfl rfl rfl (fun w hw => by have h := (own_rd (A := some ⟨g, 0, none⟩) (m := (w0 :: ws).length) (c := c5) hw).cell (j := 0) (u := txV w0) rfl rfl; exact h) ?_
  refine r_go rfl rfl ?_
  refine r_eql_string (a := tx w0) (b := tx releaseW) (p := false) rfl rfl rfl (str_F n2) ?_
  refine r_pick_f rfl rfl rfl ?_
  refine r_move rfl rfl ?_
  refine r_pass rfl rfl rfl rfl ?_
  refine r_pass rfl rfl rfl rfl ?_
  refine r_pass rfl rfl rfl rfl ?_
  refine r_pick_f rfl rfl rfl ?_
  refine r_move rfl rfl ?_
  refine r_pass rfl rfl rfl rfl ?_
  refine r_pass rfl rfl rfl rfl ?_
  refine r_pass rfl rfl rfl rfl ?_
  refine r_pass rfl rfl rfl rfl ?_
  refine r_pass rfl rfl rfl rfl ?_
  refine r_pick_f rfl rfl rfl ?_
  refine r_move rfl rfl ?_
  refine r_go rfl rfl ?_
  refine r_move rfl rfl ?_
  refine r_go rfl rfl ?_
  refine r_indexSl (sz := 1) (o' := 0) rfl rfl rfl rfl rfl (by simp) (by simp) (by omega) ?_
  refine r_go rfl rfl ?_
  refine r_loadC (p := ⟨g, 0, none⟩) (v := txV w0) rfl rfl rfl (fun w hw => by have h := (own_rd (A := some ⟨g, 0, none⟩) (m := (w0 :: ws).length) (c := c5) hw).cell (j := 0) (u := txV w0) rfl rfl; exact h) ?_
  refine r_go rfl rfl ?_
  refine r_eql_string (a := tx w0) (b := tx waitW) (p := false) rfl rfl rfl (str_F n3) ?_
  refine r_go rfl rfl ?_
  refine r_move rfl rfl ?_
  refine r_pass rfl rfl rfl rfl ?_
  refine r_pass rfl rfl rfl rfl ?_
  refine r_pass rfl rfl rfl rfl ?_
  refine r_go rfl rfl ?_
  refine r_pick_f rfl rfl rfl ?_
  refine r_go rfl rfl ?_
  refine r_move rfl rfl ?_
  refine r_pass rfl rfl rfl rfl ?_
  refine r_pass rfl rfl rfl rfl ?_
  refine r_pass rfl rfl rfl rfl ?_
  refine r_pass rfl rfl rfl rfl ?_
  refine r_pass rfl rfl rfl rfl ?_
  refine r_go rfl rfl ?_
  refine r_pick_f rfl rfl rfl ?_
  refine r_pick_f rfl rfl rfl ?_
  refine r_nil ?_
  refine r_tn ?_
  refine r_cond_f rfl ?_
  refine r_skip ?_
  refine r_tn ?_
  refine r_seq ?_
  refine r_seq ?_
  refine r_region ?_
  refine r_move rfl rfl ?_
  refine r_indexSl (sz := 1) (o' := 0) rfl rfl rfl rfl rfl (by simp) (by simp) (by omega) ?_
  refine r_loadC (p := ⟨g, 0, none⟩) (v := txV w0) rfl rfl rfl (fun w hw => by have h := (own_rd (A := some ⟨g, 0, none⟩) (m := (w0 :: ws).length) (c := c5) hw).cell (j := 0) (u := txV w0) rfl rfl; exact h) ?_
  refine r_eql_string (a := tx w0) (b := tx tapW) (p := false) rfl rfl rfl (str_F n4) ?_
  refine r_move rfl rfl ?_
  refine r_pass rfl rfl rfl rfl ?_
  refine r_pass rfl rfl rfl rfl ?_
  refine r_pass rfl rfl rfl rfl ?_
  refine r_pick_f rfl rfl rfl ?_
  refine r_move rfl rfl ?_
  refine r_pass rfl rfl rfl rfl ?_
  refine r_pass rfl rfl rfl rfl ?_
  refine r_pass rfl rfl rfl rfl ?_
  refine r_pass rfl rfl rfl rfl ?_
  refine r_pass rfl rfl rfl rfl ?_
  refine r_pick_f rfl rfl rfl ?_
  refine r_move rfl rfl ?_
  refine r_pass rfl rfl rfl rfl ?_
  refine r_pass rfl rfl rfl rfl ?_
  refine r_pass rfl rfl rfl rfl ?_
  refine r_pass rfl rfl rfl rfl ?_
  refine r_pass rfl rfl rfl rfl ?_
  refine r_pick_f rfl rfl rfl ?_
  refine r_nil ?_
  refine r_tn ?_
  refine r_cond_f rfl ?_
  refine r_skip ?_
  refine r_tn ?_
  refine r_seq ?_
  refine r_region ?_
  refine r_assign rfl rfl ?_
  refine r_nil ?_
  refine r_tn ?_
  refine r_ret ?_
  refine Run.ownNil 9 1 ?_
  exact r_done1 (.inl rfl) rfl (res_tmp rfl) fun w hw => ⟨(none, 0), by rw [hb]; rfl, trivial, by rw [hb]; have h2 : Sat _ _ [.own 9 1 (.slice none 0 0) 0 []] w := hw.sub; exact h2⟩

theorem refBasic30 (s : List UInt8) (hs : s.length ≤ 100000000) (w : World) :
    Calls Tryd.prog 19 #[.string (tx s)] w fun e w' => ∃ i : Option Addr × Nat, e = .returned (.slice i.1 (basicL s).length i.2) ∧ True ∧ Sat w [] [.own 9 1 (.slice i.1 (basicL s).length i.2) (basicL s).length ((basicL s).map txV)] w' := by
  obtain ⟨w0, ws, e⟩ := splitS_ne s
  have hl := lineC_of e
  by_cases h1 : w0 = pressW
  · subst h1
    have e1 : cmdW pressW ws = evC true ws := if_pos rfl
    rw [e1] at hl
    by_cases hw : ws.length = 1
    · obtain ⟨w1, rfl⟩ := List.length_eq_one_iff.1 hw
      cases hk : keyN w1 with
      | none => exact bas_press_n s hs w1 hk e (bas_of (c := none) (hl.trans (by show (keyN w1).map _ = _; rw [hk]; try rfl))) w
      | some k => exact bas_press_y s hs w1 k hk e (bas_of (c := some (.ev k true)) (hl.trans (by show (keyN w1).map _ = _; rw [hk]; try rfl))) w
    · exact bas_press_l s hs ws hw e (bas_of (hl.trans (evC_len hw))) w
  by_cases h2 : w0 = releaseW
  · subst h2
    have e1 : cmdW releaseW ws = evC false ws := (if_neg (by decide)).trans (if_pos rfl)
    rw [e1] at hl
    by_cases hw : ws.length = 1
    · obtain ⟨w1, rfl⟩ := List.length_eq_one_iff.1 hw
      cases hk : keyN w1 with
      | none => exact bas_release_n s hs w1 hk e (bas_of (c := none) (hl.trans (by show (keyN w1).map _ = _; rw [hk]; try rfl))) w
      | some k => exact bas_release_y s hs w1 k hk e (bas_of (c := some (.ev k false)) (hl.trans (by show (keyN w1).map _ = _; rw [hk]; try rfl))) w
    · exact bas_release_l s hs ws hw e (bas_of (hl.trans (evC_len hw))) w
  by_cases h3 : w0 = waitW
  · subst h3
    have e1 : cmdW waitW ws = waitC ws := (if_neg (by decide)).trans ((if_neg (by decide)).trans (if_pos rfl))
    rw [e1] at hl
    by_cases hw : ws.length = 1
    · obtain ⟨w1, rfl⟩ := List.length_eq_one_iff.1 hw
      cases hk : countN w1 with
      | none => exact bas_wait_n s hs w1 hk e (bas_of (c := none) (hl.trans (by show (countN w1).map _ = _; rw [hk]; try rfl))) w
      | some n => exact bas_wait_y s hs w1 n hk (countN_some hk).1 e (bas_of (c := some (.wait n)) (hl.trans (by show (countN w1).map _ = _; rw [hk]; try rfl))) w
    · exact bas_wait_l s hs ws hw e (bas_of (hl.trans (waitC_len hw))) w
  by_cases h4 : w0 = tapW
  · subst h4
    have e1 : cmdW tapW ws = tapC ws := (if_neg (by decide)).trans ((if_neg (by decide)).trans ((if_neg (by decide)).trans (if_pos rfl)))
    rw [e1] at hl
    by_cases hw : ws.length = 2
    · obtain ⟨w1, w2, rfl⟩ : ∃ w1 w2, ws = [w1, w2] := by
        match ws, hw with
        | [a, b], _ => exact ⟨a, b, rfl⟩
      have hl2 : lineC s = (keyN w1).bind fun k => (countN w2).map fun n => .tap k n := hl
      cases hk : keyN w1 with
      | none => exact bas_tap_k s hs w1 w2 hk e (bas_of (c := none) (hl2.trans (by rw [hk]; try rfl))) w
      | some k =>
        cases hc : countN w2 with
        | none => exact bas_tap_c s hs w1 w2 k hk hc e (bas_of (c := none) (hl2.trans (by rw [hk, hc]; try rfl))) w
        | some n =>
          obtain ⟨k1, k2⟩ := keyN_some hk
          obtain ⟨c1, c2, c3⟩ := countN_some hc
          have hb := bas_of (hl2.trans (show _ = some (Cmd.tap k n) by rw [hk, hc]; try rfl))
          rw [k2] at hk e
          rw [← c3] at hc e
          exact bas_tap_y s hs k n hk hc ⟨c1, c2⟩ e hb w
    · exact bas_tap_l s hs ws hw e (bas_of (hl.trans (tapC_len hw))) w
  · have e1 : cmdW w0 ws = none := (if_neg h1).trans ((if_neg h2).trans ((if_neg h3).trans (if_neg h4)))
    rw [e1] at hl
    exact bas_other s hs w0 ws h1 h2 h3 h4 e (bas_of hl) w

end Go.Proofs.YtghjbnbkfohmlaaDoor
