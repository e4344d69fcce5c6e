/-
  Macros (chapter 30): the reference s Commands.
-/
import Derived.Test.YtghjbnbkfohmlaaDoorComm30
namespace Go.Proofs.YtghjbnbkfohmlaaDoor
open Go Go.RowKit
set_option linter.unusedVariables false
set_option linter.unusedSimpArgs false
set_option maxHeartbeats 2000000
set_option maxRecDepth 4000
attribute [local irreducible] mix

def rcO (os : List (List UInt8)) (f : List Ev) (n : Nat) : List (List UInt8) := if f ≠ [] ∧ 0 < n then os ++ [waitT n] else os
def rcN (f : List Ev) (n : Nat) : Nat := if f ≠ [] ∧ 0 < n then 0 else n
theorem rcO_yes {os : List (List UInt8)} {f : List Ev} {n : Nat} (h : f ≠ [] ∧ 0 < n) : rcO os f n = os ++ [waitT n] := if_pos h
theorem rcO_no {os : List (List UInt8)} {f : List Ev} {n : Nat} (h : ¬ (f ≠ [] ∧ 0 < n)) : rcO os f n = os := if_neg h
theorem rcN_yes {f : List Ev} {n : Nat} (h : f ≠ [] ∧ 0 < n) : rcN f n = 0 := if_pos h
theorem rcN_no {f : List Ev} {n : Nat} (h : ¬ (f ≠ [] ∧ 0 < n)) : rcN f n = n := if_neg h
theorem rcO_len (os : List (List UInt8)) (f : List Ev) (n : Nat) : (rcO os f n).length ≤ os.length + 1 := by
  unfold rcO
  split <;> simp
theorem rcN_le (f : List Ev) (n : Nat) : rcN f n ≤ n := by
  unfold rcN
  split <;> omega
/-- the frame ahead is empty -/
def emF (fs : List (List Ev)) : Nat → Bool
  | 0 => true
  | k + 1 => decide (fs.getD k [] = [])
theorem emF_succ {fs : List (List Ev)} {k : Nat} (h : k < fs.length) : emF fs (k + 1) = decide (fs[k] = []) := by
  show decide (fs.getD k [] = []) = _
  rw [List.getD_eq_getElem?_getD, List.getElem?_eq_getElem h]
  rfl
theorem emF_last {fs : List (List Ev)} (h : 0 < fs.length) (e : fs[fs.length - 1]'(by omega) = []) : emF fs fs.length = true := by
  have h2 := emF_succ (fs := fs) (k := fs.length - 1) (by omega)
  rw [show fs.length - 1 + 1 = fs.length by omega] at h2
  rw [h2, decide_eq_true e]
theorem emF_nil {fs : List (List Ev)} (h : 0 < fs.length) (e : emF fs fs.length = true) : fs[fs.length - 1]'(by omega) = [] := by
  have h2 := emF_succ (fs := fs) (k := fs.length - 1) (by omega)
  rw [show fs.length - 1 + 1 = fs.length by omega] at h2
  rw [h2] at e
  exact of_decide_eq_true e
theorem rc_step {fs : List (List Ev)} {i n : Nat} {os : List (List UInt8)} (h : i < fs.length) : (rcO os fs[i] n ++ fs[i].map evT) ++ cmdsGo (rcN fs[i] n + 1) (emF fs (i + 1)) (fs.drop (i + 1)) = os ++ cmdsGo n (emF fs i) (fs.drop i) := by
  rw [List.drop_eq_getElem_cons h, emF_succ h]
  generalize fs[i] = f
  by_cases hf : f = []
  · subst hf
    rw [cmdsGo_empty, rcO_no (fun h => h.1 rfl), rcN_no (fun h => h.1 rfl), List.map_nil, List.append_nil, decide_eq_true rfl]
  · rw [cmdsGo_full _ _ _ hf, decide_eq_false hf]
    by_cases hn : 0 < n
    · rw [rcO_yes ⟨hf, hn⟩, rcN_yes ⟨hf, hn⟩, if_pos hn, List.append_assoc, List.append_assoc]
    · rw [rcO_no (fun h => hn h.2), rcN_no (fun h => hn h.2), if_neg hn, show n + 1 = 1 by omega, List.nil_append, List.append_assoc]
theorem rc_start (fs : List (List Ev)) : [] ++ cmdsGo 0 (emF fs 0) (fs.drop 0) = cmdsL fs := rfl
theorem ev_of {e : Ev} (h : keyOK e) : ∃ (m : Nat) (d : Bool), m < 16 ∧ e = ((m : Int), d) := by
  obtain ⟨z, d⟩ := e
  obtain ⟨h0, h15⟩ := h
  have h0 : 0 ≤ z := h0
  have h15 : z ≤ 15 := h15
  exact ⟨z.toNat, d, by omega, by rw [Int.toNat_of_nonneg h0]⟩
attribute [local irreducible] evsL ownsOf rightB cmdsL waitT evT rcO rcN emF cmdsGo


theorem refCommands30 (fs : List (List Ev)) (hl100 : fs.length ≤ 100) (hfr : ∀ f ∈ fs, okF f) (A0 : Option Addr) (c : Nat) (hv1 : List Value) (w : World) (hA : Rd w A0 hv1) (hF1 : FrRd w hv1 fs) :
    Calls Tryd.prog 18 #[.slice A0 fs.length c] w fun e w' => ∃ i : Option Addr × Nat, e = .returned (.slice i.1 (cmdsL fs).length i.2) ∧ True ∧ Sat w [] [.own 9 1 (.slice i.1 (cmdsL fs).length i.2) (cmdsL fs).length ((cmdsL fs).map txV)] w' := by
  refine enter Tryd.func18 rfl rfl rfl ?_
  refine r_seq ?_
  refine r_region ?_
  refine r_assign rfl rfl ?_
  refine r_nil ?_
  refine r_tn ?_
  refine r_seq ?_
  refine r_region ?_
  refine r_assign rfl rfl ?_
  refine r_nil ?_
  refine r_tn ?_
  refine r_seq ?_
  refine r_region ?_
  refine r_assign rfl rfl ?_
  refine r_nil ?_
  refine r_tn ?_
  refine r_seq ?_
  refine r_seq ?_
  refine r_region ?_
  refine r_assign rfl rfl ?_
  refine r_nil ?_
  refine r_tn ?_
  refine r_block ?_
  refine Run.ownNil 9 1 ?_
  refine r_loop4 (fun i (os : List (List UInt8)) A (c3 : Nat) (n : Nat) => [(0, .slice A0 fs.length c), (3, .slice A os.length c3), (4, .int .i64 (n : Int)), (5, .int .i64 (i : Int))]) (fun i os A c3 n => [.own 9 1 (.slice A os.length c3) os.length (os.map txV)]) (fun i os A c3 n => i ≤ fs.length ∧ os.length ≤ 52 * i ∧ n ≤ i ∧ (0 < i → 0 < n) ∧ os ++ cmdsGo n (emF fs i) (fs.drop i) = cmdsL fs) fs.length 0 [] none 0 0 ⟨by omega, by simp, by omega, by omega, rc_start fs⟩ ⟨rfl, rfl, rfl, rfl, trivial⟩ (fun w hw => by have h2 : Sat _ _ [.own 9 1 (.slice none 0 0) 0 []] w := hw.sub; exact h2) fun i os A c3 n hp => ?_
  obtain ⟨hi, hol, hni, hn0, hos⟩ := hp
  refine r_seq ?_
  refine r_seq ?_
  refine r_region ?_
  refine r_move rfl rfl ?_
  refine r_move rfl rfl ?_
  refine r_len rfl rfl rfl ?_
  refine r_lss (p := decide (i < fs.length)) rfl rfl rfl (decide_eq_decide.2 ⟨fun _ => by omega, fun _ => by omega⟩) ?_
  refine r_nil ?_
  refine r_tn ?_
  refine r_cond rfl (fun hc => ?_) (fun hc => ?_)
  · refine r_skip ?_
    refine r_tn ?_
    refine r_seq ?_
    refine r_block ?_
    refine r_seq ?_
    have hi2 : i < fs.length := by have h := of_decide_eq_true hc; omega
    clear hc
    obtain ⟨A1, c1, e1, r1⟩ := hF1.2 i hi2
    obtain ⟨bA, oA, rfl⟩ := rd_some hA e1
    refine r_cut (ι := Option Addr × Nat) (fun j => ([(0, .slice (some ⟨bA, oA, none⟩) fs.length c), (3, .slice j.1 (rcO os (fs[i]'hi2) n).length j.2), (4, .int .i64 ((rcN (fs[i]'hi2) n : Nat) : Int)), (5, .int .i64 (i : Int))], [.own 9 1 (.slice j.1 (rcO os (fs[i]'hi2) n).length j.2) (rcO os (fs[i]'hi2) n).length ((rcO os (fs[i]'hi2) n).map txV)])) ?_ ?_
    · refine r_seq ?_
      refine r_region ?_
      refine r_move rfl rfl ?_
      refine r_move rfl rfl ?_
      refine r_indexSl (sz := 1) (o' := oA + i) rfl rfl rfl rfl rfl (by omega) (by omega) (by omega) ?_
      refine r_loadC (p := ⟨bA, oA + i, none⟩) (v := .slice A1 fs[i].length c1) rfl rfl rfl (fun w hw => (hA.keep hw).cell e1 rfl) ?_
      refine r_len rfl rfl rfl ?_
      refine r_gtr (p := decide (0 < fs[i].length)) rfl rfl rfl (decide_eq_decide.2 ⟨fun _ => by omega, fun _ => by omega⟩) ?_
      refine r_move rfl rfl ?_
      refine r_split 20 rfl (fun hb20 => ?_) (fun hb20 => ?_)
      · refine r_go rfl rfl ?_
        refine r_move rfl rfl ?_
        refine r_go rfl rfl ?_
        refine r_gtr (p := decide (0 < n)) rfl rfl rfl (decide_eq_decide.2 ⟨fun _ => by omega, fun _ => by omega⟩) ?_
        refine r_pick_t rfl rfl rfl ?_
        refine r_nil ?_
        refine r_tn ?_
        refine r_cond rfl (fun hc => ?_) (fun hc => ?_)
        · refine r_seq ?_
          refine r_region ?_
          refine r_move rfl rfl ?_
          refine r_move rfl rfl ?_
          refine r_call rfl rfl rfl (by kernel_rfl) rfl (fun w hw => by exact refDecimal24 n (by omega) w) ?_
          refine r_addTx (l := [119, 97, 105, 116, 32]) (m := Lib.decDigits n) rfl rfl rfl (by have h := dec_len (show n < 18446744073709551616 by omega); simp only [List.length_cons, List.length_nil]; omega) ?_
          rw [waitT_def]
          refine r_lit (sz := 1) (pv := [(0, txV (waitT n))]) (cells := #[txV (waitT n)]) rfl rfl rfl rfl rfl rfl (by kernel_rfl) rfl (fun b28 => ?_) (by decide)
          refine r_append (k := 1) (news := [txV (waitT n)]) (sz := 1) (bytes := 16) rfl rfl rfl rfl rfl rfl (by decide) (fun w hw => own_rd (A := some ⟨b28, 0, none⟩) (m := 1) (c := 1) hw) rfl (fun u hu => by simp at hu; subst hu; rfl) (by omega) (by unfold maxLen; omega) fun A29 c29 => ?_
          refine r_assign rfl rfl ?_
          refine r_nil ?_
          refine r_tn ?_
          refine r_region ?_
          refine r_assign rfl rfl ?_
          refine r_nil ?_
          refine r_tn ?_
          have hy : (fs[i]'hi2) ≠ [] ∧ 0 < n := ⟨fun e => by have h : 0 < (fs[i]'hi2).length := of_decide_eq_true hb20; rw [e] at h; exact absurd h (Nat.lt_irrefl 0), of_decide_eq_true hc⟩
          exact r_at (A29, c29) ⟨rfl, (by rw [rcO_yes hy, len_snoc]; rfl), (by rw [rcN_yes hy]; rfl), rfl, trivial⟩ (fun w hw => by
            rw [rcO_yes hy, len_snoc, map_snoc]
            exact hw.sub)
        · refine r_skip ?_
          refine r_tn ?_
          have hy : ¬ ((fs[i]'hi2) ≠ [] ∧ 0 < n) := fun h => of_decide_eq_false hc h.2
          exact r_at (A, c3) ⟨rfl, (by rw [rcO_no hy]; rfl), (by rw [rcN_no hy]; rfl), rfl, trivial⟩ (fun w hw => by
            rw [rcO_no hy]
            exact hw.sub)
      · refine r_pass rfl rfl rfl rfl ?_
        refine r_pass rfl rfl rfl rfl ?_
        refine r_pick_f rfl rfl rfl ?_
        refine r_nil ?_
        refine r_tn ?_
        refine r_cond_f rfl ?_
        refine r_skip ?_
        refine r_tn ?_
        have hy : ¬ ((fs[i]'hi2) ≠ [] ∧ 0 < n) := fun h => h.1 (by have h2 : ¬ 0 < (fs[i]'hi2).length := of_decide_eq_false hb20; exact List.eq_nil_of_length_eq_zero (by omega))
        exact r_at (A, c3) ⟨rfl, (by rw [rcO_no hy]; rfl), (by rw [rcN_no hy]; rfl), rfl, trivial⟩ (fun w hw => by
          rw [rcO_no hy]
          exact hw.sub)
    rintro ⟨A7, c7⟩
    refine r_seq ?_
    refine r_seq ?_
    refine r_region ?_
    refine r_assign rfl rfl ?_
    refine r_nil ?_
    refine r_tn ?_
    refine r_block ?_
    refine r_loop2 (fun k A8 c8 => [(0, .slice (some ⟨bA, oA, none⟩) fs.length c), (3, .slice A8 ((rcO os (fs[i]'hi2) n) ++ ((fs[i]'hi2).take k).map evT).length c8), (4, .int .i64 ((rcN (fs[i]'hi2) n : Nat) : Int)), (5, .int .i64 (i : Int)), (6, .int .i64 (k : Int))]) (fun k A8 c8 => [.own 9 1 (.slice A8 ((rcO os (fs[i]'hi2) n) ++ ((fs[i]'hi2).take k).map evT).length c8) ((rcO os (fs[i]'hi2) n) ++ ((fs[i]'hi2).take k).map evT).length (((rcO os (fs[i]'hi2) n) ++ ((fs[i]'hi2).take k).map evT).map txV)]) (fun k A8 c8 => k ≤ (fs[i]'hi2).length) (fs[i]'hi2).length 0 A7 c7 (by omega) ⟨rfl, by rw [List.take_zero, List.map_nil, List.append_nil]; rfl, rfl, rfl, rfl, trivial⟩ (fun w hw => by rw [List.take_zero, List.map_nil, List.append_nil]; exact hw) fun k A8 c8 hk => ?_
    refine r_seq ?_
    refine r_seq ?_
    refine r_region ?_
    refine r_move rfl rfl ?_
    refine r_move rfl rfl ?_
    refine r_move rfl rfl ?_
    refine r_indexSl (sz := 1) (o' := oA + i) rfl rfl rfl rfl rfl (by omega) (by omega) (by omega) ?_
    refine r_loadC (p := ⟨bA, oA + i, none⟩) (v := .slice A1 fs[i].length c1) rfl rfl rfl (fun w hw => (hA.keep hw).cell e1 rfl) ?_
    refine r_len rfl rfl rfl ?_
    refine r_lss (p := decide (k < fs[i].length)) rfl rfl rfl (decide_eq_decide.2 ⟨fun _ => by omega, fun _ => by omega⟩) ?_
    refine r_nil ?_
    refine r_tn ?_
    refine r_cond rfl (fun hc => ?_) (fun hc => ?_)
    · refine r_skip ?_
      refine r_tn ?_
      refine r_seq ?_
      refine r_block ?_
      refine r_seq ?_
      refine r_region ?_
      have hk2 : k < fs[i].length := by have h := of_decide_eq_true hc; omega
      clear hc
      obtain ⟨b1, o1, rfl⟩ := ev_some r1 hk2
      obtain ⟨m, d, hm, hev⟩ := ev_of ((hfr _ (List.getElem_mem hi2)).2 _ (List.getElem_mem hk2))
      refine r_move rfl rfl ?_
      refine r_move rfl rfl ?_
      refine r_indexSl (sz := 1) (o' := oA + i) rfl rfl rfl rfl rfl (by omega) (by omega) (by omega) ?_
      refine r_loadC (p := ⟨bA, oA + i, none⟩) (v := .slice (some ⟨b1, o1, none⟩) fs[i].length c1) rfl rfl rfl (fun w hw => (hA.keep hw).cell e1 rfl) ?_
      refine r_move rfl rfl ?_
      refine r_indexSl (sz := 2) (o' := o1 + k * 2) rfl rfl rfl rfl rfl (by omega) (by omega) (by omega) ?_
      refine r_loadRd (m := 2) (vs := [.int .i64 (m : Int), .bool d]) rfl rfl rfl rfl rfl (fun w1 hw => by have h := ev_rd (r1.keep hw) hk2; rw [hev] at h; exact h) ?_
      refine r_allocV (cs := #[.int .i64 0, .bool false]) (by kernel_rfl) rfl fun b7 => ?_
      refine r_storeV (vs := #[.int .i64 (m : Int), .bool d]) rfl rfl rfl rfl rfl rfl ?_
      refine r_nil ?_
      refine r_tn ?_
      refine r_seq ?_
      refine r_region ?_
      refine r_fieldAddr (off := 1) (o' := 1) rfl rfl rfl rfl ?_
      refine r_load1 (v := .bool d) rfl rfl rfl rfl ?_
      refine r_nil ?_
      refine r_tn ?_
      refine r_cond rfl (fun hc => ?_) (fun hc => ?_)
      · refine r_region ?_
        refine r_move rfl rfl ?_
        obtain rfl : d = true := hc
        refine r_fieldAddr (off := 0) (o' := 0 + 0) rfl rfl rfl rfl ?_
        refine r_load1 (v := .int .i64 (m : Int)) rfl rfl rfl rfl ?_
        refine r_call rfl rfl rfl (by kernel_rfl) rfl (fun w hw => by exact refHex24 m 1 (by omega) (by omega) w) ?_
        rw [hexR_one hm]
        refine r_addTx (l := [112, 114, 101, 115, 115, 32]) (m := [hexC m]) rfl rfl rfl (by simp only [List.length_cons, List.length_nil]; omega) ?_
        refine r_lit (sz := 1) (pv := [(0, txV ([112, 114, 101, 115, 115, 32] ++ [hexC m]))]) (cells := #[txV ([112, 114, 101, 115, 115, 32] ++ [hexC m])]) rfl rfl rfl rfl rfl rfl (by kernel_rfl) rfl (fun b53 => ?_) (by decide)
        have hol2 : ((rcO os (fs[i]'hi2) n) ++ ((fs[i]'hi2).take k).map evT).length ≤ 1000000 := by have h1 := rcO_len os (fs[i]'hi2) n; have h2 := (hfr _ (List.getElem_mem hi2)).1; rw [List.length_append, List.length_map, List.length_take]; omega
        refine r_append (k := 1) (news := [txV ([112, 114, 101, 115, 115, 32] ++ [hexC m])]) (sz := 1) (bytes := 16) rfl rfl rfl rfl rfl rfl (by decide) (fun w hw => own_rd (A := some ⟨b53, 0, none⟩) (m := 1) (c := 1) hw) rfl (fun u hu => by simp at hu; subst hu; rfl) (by omega) (by unfold maxLen; omega) fun A9 c9 => ?_
        refine r_assign rfl rfl ?_
        refine r_nil ?_
        refine r_bn ?_
        refine r_tn ?_
        refine r_region ?_
        refine r_move rfl rfl ?_
        have hl51 := (hfr _ (List.getElem_mem hi2)).1
        refine r_add rfl rfl rfl (w64 (by omega)) ?_
        refine r_assign rfl rfl ?_
        refine r_nil ?_
        refine r_tn ?_
        first
          | (exact r_again2 (k + 1) A9 c9 (by omega) (by omega) ⟨rfl, by rw [takeE_snoc hk2, hev, ← List.append_assoc, len_snoc]; rfl, rfl, rfl, rfl, trivial⟩ (fun w hw => by rw [takeE_snoc hk2, hev, evT_true, ← List.append_assoc, len_snoc, map_snoc]; exact hw.sub))
          | (exact r_again2 (k + 1) A9 c9 (by omega) (by omega) ⟨rfl, by rw [takeE_snoc hk2, hev, ← List.append_assoc, len_snoc]; rfl, rfl, rfl, rfl, trivial⟩ (fun w hw => by rw [takeE_snoc hk2, hev, evT_false, ← List.append_assoc, len_snoc, map_snoc]; exact hw.sub))
      · refine r_region ?_
        refine r_move rfl rfl ?_
        obtain rfl : d = false := hc
        refine r_fieldAddr (off := 0) (o' := 0 + 0) rfl rfl rfl rfl ?_
        refine r_load1 (v := .int .i64 (m : Int)) rfl rfl rfl rfl ?_
        refine r_call rfl rfl rfl (by kernel_rfl) rfl (fun w hw => by exact refHex24 m 1 (by omega) (by omega) w) ?_
        rw [hexR_one hm]
        refine r_addTx (l := [114, 101, 108, 101, 97, 115, 101, 32]) (m := [hexC m]) rfl rfl rfl (by simp only [List.length_cons, List.length_nil]; omega) ?_
        refine r_lit (sz := 1) (pv := [(0, txV ([114, 101, 108, 101, 97, 115, 101, 32] ++ [hexC m]))]) (cells := #[txV ([114, 101, 108, 101, 97, 115, 101, 32] ++ [hexC m])]) rfl rfl rfl rfl rfl rfl (by kernel_rfl) rfl (fun b60 => ?_) (by decide)
        have hol2 : ((rcO os (fs[i]'hi2) n) ++ ((fs[i]'hi2).take k).map evT).length ≤ 1000000 := by have h1 := rcO_len os (fs[i]'hi2) n; have h2 := (hfr _ (List.getElem_mem hi2)).1; rw [List.length_append, List.length_map, List.length_take]; omega
        refine r_append (k := 1) (news := [txV ([114, 101, 108, 101, 97, 115, 101, 32] ++ [hexC m])]) (sz := 1) (bytes := 16) rfl rfl rfl rfl rfl rfl (by decide) (fun w hw => own_rd (A := some ⟨b60, 0, none⟩) (m := 1) (c := 1) hw) rfl (fun u hu => by simp at hu; subst hu; rfl) (by omega) (by unfold maxLen; omega) fun A9 c9 => ?_
        refine r_assign rfl rfl ?_
        refine r_nil ?_
        refine r_bn ?_
        refine r_tn ?_
        refine r_region ?_
        refine r_move rfl rfl ?_
        have hl51 := (hfr _ (List.getElem_mem hi2)).1
        refine r_add rfl rfl rfl (w64 (by omega)) ?_
        refine r_assign rfl rfl ?_
        refine r_nil ?_
        refine r_tn ?_
        first
          | (exact r_again2 (k + 1) A9 c9 (by omega) (by omega) ⟨rfl, by rw [takeE_snoc hk2, hev, ← List.append_assoc, len_snoc]; rfl, rfl, rfl, rfl, trivial⟩ (fun w hw => by rw [takeE_snoc hk2, hev, evT_true, ← List.append_assoc, len_snoc, map_snoc]; exact hw.sub))
          | (exact r_again2 (k + 1) A9 c9 (by omega) (by omega) ⟨rfl, by rw [takeE_snoc hk2, hev, ← List.append_assoc, len_snoc]; rfl, rfl, rfl, rfl, trivial⟩ (fun w hw => by rw [takeE_snoc hk2, hev, evT_false, ← List.append_assoc, len_snoc, map_snoc]; exact hw.sub))
    · refine r_exit ?_
      refine r_te ?_
      refine r_te ?_
      refine r_be ?_
      refine r_tn ?_
      refine r_region ?_
      refine r_move rfl rfl ?_
      have hrn := rcN_le (fs[i]'hi2) n
      refine r_add rfl rfl rfl (w64 (by omega)) ?_
      refine r_assign rfl rfl ?_
      refine r_nil ?_
      refine r_bn ?_
      refine r_tn ?_
      refine r_region ?_
      refine r_move rfl rfl ?_
      refine r_add rfl rfl rfl (w64 (by omega)) ?_
      refine r_assign rfl rfl ?_
      refine r_nil ?_
      refine r_tn ?_
      have hk3 : k = (fs[i]'hi2).length := by have h : ¬ k < (fs[i]'hi2).length := of_decide_eq_false hc; omega
      subst hk3
      exact r_again4 (i + 1) ((rcO os (fs[i]'hi2) n) ++ (fs[i]'hi2).map evT) A8 c8 (rcN (fs[i]'hi2) n + 1) ⟨by omega, by
        have h1 := rcO_len os (fs[i]'hi2) n
        have h2 := (hfr _ (List.getElem_mem hi2)).1
        rw [List.length_append, List.length_map]; omega, by have := rcN_le (fs[i]'hi2) n; omega, by omega, by rw [← hos, rc_step hi2]⟩ (by omega) ⟨rfl, by rw [List.take_length]; rfl, rfl, rfl, trivial⟩ (fun w hw => by rw [List.take_length] at hw; exact hw.sub)
  · refine r_exit ?_
    refine r_te ?_
    refine r_te ?_
    refine r_be ?_
    refine r_tn ?_
    refine r_seq ?_
    refine r_seq ?_
    refine r_region ?_
    have hi3 : i = fs.length := by have h : ¬ i < fs.length := of_decide_eq_false hc; omega
    clear hc
    subst hi3
    rw [List.drop_length, cmdsGo_nil] at hos
    refine r_move rfl rfl ?_
    refine r_gtr (p := decide (1 < n)) rfl rfl rfl (decide_eq_decide.2 ⟨fun _ => by omega, fun _ => by omega⟩) ?_
    refine r_move rfl rfl ?_
    refine r_split 66 rfl (fun hb66 => ?_) (fun hb66 => ?_)
    · refine r_pass rfl rfl rfl rfl ?_
      refine r_pass rfl rfl rfl rfl ?_
      refine r_pass rfl rfl rfl rfl ?_
      refine r_pass rfl rfl rfl rfl ?_
      refine r_passU rfl rfl rfl ?_
      refine r_passU rfl rfl rfl ?_
      refine r_passU rfl rfl rfl ?_
      refine r_passU rfl rfl rfl ?_
      refine r_passU rfl rfl rfl ?_
      refine r_passU rfl rfl rfl ?_
      refine r_passU rfl rfl rfl ?_
      refine r_passU rfl rfl rfl ?_
      refine r_pass rfl rfl rfl rfl ?_
      refine r_pick_t rfl rfl rfl ?_
      refine r_nil ?_
      refine r_tn ?_
      refine r_cond_t rfl ?_
      refine r_region ?_
      have hcc : 1 < n ∨ (0 < n ∧ emF fs fs.length = true) := by
        first
          | exact .inl (of_decide_eq_true hb66)
          | exact .inr ⟨hn0 hp, emF_last hp (List.eq_nil_of_length_eq_zero (of_decide_eq_true hc))⟩
      rw [if_pos hcc] at hos
      refine r_move rfl rfl ?_
      refine r_move rfl rfl ?_
      refine r_call rfl rfl rfl (by kernel_rfl) rfl (fun w hw => by exact refDecimal24 n (by omega) w) ?_
      refine r_addTx (l := [119, 97, 105, 116, 32]) (m := Lib.decDigits n) rfl rfl rfl (by have h := dec_len (show n < 18446744073709551616 by omega); simp only [List.length_cons, List.length_nil]; omega) ?_
      rw [waitT_def]
      refine r_lit (sz := 1) (pv := [(0, txV (waitT n))]) (cells := #[txV (waitT n)]) rfl rfl rfl rfl rfl rfl (by kernel_rfl) rfl (fun b85 => ?_) (by decide)
      refine r_append (k := 1) (news := [txV (waitT n)]) (sz := 1) (bytes := 16) rfl rfl rfl rfl rfl rfl (by decide) (fun w hw => own_rd (A := some ⟨b85, 0, none⟩) (m := 1) (c := 1) hw) rfl (fun u hu => by simp at hu; subst hu; rfl) (by omega) (by unfold maxLen; omega) fun A86 c86 => ?_
      refine r_assign rfl rfl ?_
      refine r_nil ?_
      refine r_tn ?_
      refine r_seq ?_
      refine r_region ?_
      refine r_move rfl rfl ?_
      refine r_assign rfl rfl ?_
      refine r_nil ?_
      refine r_tn ?_
      refine r_ret ?_
      first
        | exact r_done1 (.inl rfl) rfl (res_tmp rfl) fun w hw => ⟨(A86, c86), by rw [← hos, len_snoc], trivial, by rw [← hos, len_snoc, map_snoc]; exact hw.sub⟩
        | (have hcc : ¬ (1 < n ∨ (0 < n ∧ emF fs fs.length = true)) := by
             rintro (h | ⟨h1, h2⟩)
             · exact of_decide_eq_false hb66 h
             · first
                 | exact of_decide_eq_false hc (by rw [emF_nil hp h2]; rfl)
                 | (have h0 : ¬ 0 < fs.length := of_decide_eq_false hb70
                    omega)
           rw [if_neg hcc, List.append_nil] at hos
           subst hos
           exact r_done1 (.inl rfl) rfl (res_tmp rfl) fun w hw => ⟨(A, c3), rfl, trivial, hw.sub⟩)
    · refine r_go rfl rfl ?_
      refine r_move rfl rfl ?_
      refine r_go rfl rfl ?_
      refine r_len rfl rfl rfl ?_
      refine r_go rfl rfl ?_
      refine r_gtr (p := decide (0 < fs.length)) rfl rfl rfl (decide_eq_decide.2 ⟨fun _ => by omega, fun _ => by omega⟩) ?_
      refine r_go rfl rfl ?_
      refine r_move rfl rfl ?_
      refine r_split 70 rfl (fun hb70 => ?_) (fun hb70 => ?_)
      · refine r_go rfl rfl ?_
        have hp : 0 < fs.length := of_decide_eq_true hb70
        have hq : fs.length - 1 < fs.length := by omega
        obtain ⟨A1, c1, e1, r1⟩ := hF1.2 (fs.length - 1) hq
        obtain ⟨bA, oA, rfl⟩ := rd_some hA e1
        refine r_move rfl rfl ?_
        refine r_go rfl rfl ?_
        refine r_move rfl rfl ?_
        refine r_go rfl rfl ?_
        refine r_len rfl rfl rfl ?_
        refine r_go rfl rfl ?_
        refine r_sub (r := ((fs.length - 1 : Nat) : Int)) rfl rfl rfl ((w64 (by omega)).trans (by omega)) ?_
        refine r_go rfl rfl ?_
        refine r_indexSl (sz := 1) (o' := oA + (fs.length - 1)) rfl rfl rfl rfl rfl (by omega) (by omega) (by omega) ?_
        refine r_go rfl rfl ?_
        refine r_loadC (p := ⟨bA, oA + (fs.length - 1), none⟩) (v := .slice A1 fs[fs.length - 1].length c1) rfl rfl rfl (fun w hw => (hA.keep hw).cell e1 rfl) ?_
        refine r_go rfl rfl ?_
        refine r_len rfl rfl rfl ?_
        refine r_go rfl rfl ?_
        refine r_eql (p := decide (fs[fs.length - 1].length = 0)) rfl rfl rfl (decide_eq_decide.2 ⟨fun _ => by omega, fun _ => by omega⟩) ?_
        refine r_go rfl rfl ?_
        refine r_pick_t rfl rfl rfl ?_
        refine r_pick_f rfl rfl rfl ?_
        refine r_nil ?_
        refine r_tn ?_
        refine r_cond rfl (fun hc => ?_) (fun hc => ?_)
        · refine r_region ?_
          have hcc : 1 < n ∨ (0 < n ∧ emF fs fs.length = true) := by
            first
              | exact .inl (of_decide_eq_true hb66)
              | exact .inr ⟨hn0 hp, emF_last hp (List.eq_nil_of_length_eq_zero (of_decide_eq_true hc))⟩
          rw [if_pos hcc] at hos
          refine r_move rfl rfl ?_
          refine r_move rfl rfl ?_
          refine r_call rfl rfl rfl (by kernel_rfl) rfl (fun w hw => by exact refDecimal24 n (by omega) w) ?_
          refine r_addTx (l := [119, 97, 105, 116, 32]) (m := Lib.decDigits n) rfl rfl rfl (by have h := dec_len (show n < 18446744073709551616 by omega); simp only [List.length_cons, List.length_nil]; omega) ?_
          rw [waitT_def]
          refine r_lit (sz := 1) (pv := [(0, txV (waitT n))]) (cells := #[txV (waitT n)]) rfl rfl rfl rfl rfl rfl (by kernel_rfl) rfl (fun b85 => ?_) (by decide)
          refine r_append (k := 1) (news := [txV (waitT n)]) (sz := 1) (bytes := 16) rfl rfl rfl rfl rfl rfl (by decide) (fun w hw => own_rd (A := some ⟨b85, 0, none⟩) (m := 1) (c := 1) hw) rfl (fun u hu => by simp at hu; subst hu; rfl) (by omega) (by unfold maxLen; omega) fun A86 c86 => ?_
          refine r_assign rfl rfl ?_
          refine r_nil ?_
          refine r_tn ?_
          refine r_seq ?_
          refine r_region ?_
          refine r_move rfl rfl ?_
          refine r_assign rfl rfl ?_
          refine r_nil ?_
          refine r_tn ?_
          refine r_ret ?_
          first
            | exact r_done1 (.inl rfl) rfl (res_tmp rfl) fun w hw => ⟨(A86, c86), by rw [← hos, len_snoc], trivial, by rw [← hos, len_snoc, map_snoc]; exact hw.sub⟩
            | (have hcc : ¬ (1 < n ∨ (0 < n ∧ emF fs fs.length = true)) := by
                 rintro (h | ⟨h1, h2⟩)
                 · exact of_decide_eq_false hb66 h
                 · first
                     | exact of_decide_eq_false hc (by rw [emF_nil hp h2]; rfl)
                     | (have h0 : ¬ 0 < fs.length := of_decide_eq_false hb70
                        omega)
               rw [if_neg hcc, List.append_nil] at hos
               subst hos
               exact r_done1 (.inl rfl) rfl (res_tmp rfl) fun w hw => ⟨(A, c3), rfl, trivial, hw.sub⟩)
        · refine r_skip ?_
          refine r_tn ?_
          refine r_seq ?_
          refine r_region ?_
          refine r_move rfl rfl ?_
          refine r_assign rfl rfl ?_
          refine r_nil ?_
          refine r_tn ?_
          refine r_ret ?_
          first
            | exact r_done1 (.inl rfl) rfl (res_tmp rfl) fun w hw => ⟨(A86, c86), by rw [← hos, len_snoc], trivial, by rw [← hos, len_snoc, map_snoc]; exact hw.sub⟩
            | (have hcc : ¬ (1 < n ∨ (0 < n ∧ emF fs fs.length = true)) := by
                 rintro (h | ⟨h1, h2⟩)
                 · exact of_decide_eq_false hb66 h
                 · first
                     | exact of_decide_eq_false hc (by rw [emF_nil hp h2]; rfl)
                     | (have h0 : ¬ 0 < fs.length := of_decide_eq_false hb70
                        omega)
               rw [if_neg hcc, List.append_nil] at hos
               subst hos
               exact r_done1 (.inl rfl) rfl (res_tmp rfl) fun w hw => ⟨(A, c3), rfl, trivial, hw.sub⟩)
      · refine r_pass rfl rfl rfl rfl ?_
        refine r_pass rfl rfl rfl rfl ?_
        refine r_pass rfl rfl rfl rfl ?_
        refine r_pass rfl rfl rfl rfl ?_
        refine r_pass rfl rfl rfl rfl ?_
        refine r_pass rfl rfl rfl rfl ?_
        refine r_pass rfl rfl rfl rfl ?_
        refine r_pass rfl rfl rfl rfl ?_
        refine r_go rfl rfl ?_
        refine r_pick_f rfl rfl rfl ?_
        refine r_pick_f rfl rfl rfl ?_
        refine r_nil ?_
        refine r_tn ?_
        refine r_cond_f rfl ?_
        refine r_skip ?_
        refine r_tn ?_
        refine r_seq ?_
        refine r_region ?_
        refine r_move rfl rfl ?_
        refine r_assign rfl rfl ?_
        refine r_nil ?_
        refine r_tn ?_
        refine r_ret ?_
        first
          | exact r_done1 (.inl rfl) rfl (res_tmp rfl) fun w hw => ⟨(A86, c86), by rw [← hos, len_snoc], trivial, by rw [← hos, len_snoc, map_snoc]; exact hw.sub⟩
          | (have hcc : ¬ (1 < n ∨ (0 < n ∧ emF fs fs.length = true)) := by
               rintro (h | ⟨h1, h2⟩)
               · exact of_decide_eq_false hb66 h
               · first
                   | exact of_decide_eq_false hc (by rw [emF_nil hp h2]; rfl)
                   | (have h0 : ¬ 0 < fs.length := of_decide_eq_false hb70
                      omega)
             rw [if_neg hcc, List.append_nil] at hos
             subst hos
             exact r_done1 (.inl rfl) rfl (res_tmp rfl) fun w hw => ⟨(A, c3), rfl, trivial, hw.sub⟩)
end Go.Proofs.YtghjbnbkfohmlaaDoor
