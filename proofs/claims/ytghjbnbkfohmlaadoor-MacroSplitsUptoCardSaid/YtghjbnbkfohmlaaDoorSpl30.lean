/-
  Macros (chapter 30): MacroSplits.
-/
import Derived.Test.YtghjbnbkfohmlaaDoorMat30
import Derived.Test.YtghjbnbkfohmlaaDoorTaps30
namespace Go.Proofs.YtghjbnbkfohmlaaDoor
open Go Go.RowKit
set_option linter.unusedVariables false
set_option linter.unusedSimpArgs false
set_option maxHeartbeats 2000000
set_option maxRecDepth 4000
attribute [local irreducible] mix

def wT1 : List UInt8 := [119, 97, 105, 116, 32, 49]
def wT2 : List UInt8 := [119, 97, 105, 116, 32, 50]
def wT30 : List UInt8 := [119, 97, 105, 116, 32, 51, 48]
theorem d30 : Lib.decDigits 30 = [51, 48] := by rw [dec_big (by decide), dec_small (by decide)]; rfl
theorem w1_line : lineC wT1 = some (.wait 1) := by
  have h := line_wait (n := 1) (by decide)
  unfold waitT at h
  rw [d1] at h
  exact h
theorem w2_line : lineC wT2 = some (.wait 2) := by
  have h := line_wait (n := 2) (by decide)
  unfold waitT at h
  rw [d2] at h
  exact h
theorem w30_line : lineC wT30 = some (.wait 30) := by
  have h := line_wait (n := 30) (by decide)
  unfold waitT at h
  rw [d30] at h
  exact h
theorem waits_at {q : Nat} (h : q < 3) : ∃ wl : List UInt8, (#[txV wT1, txV wT2, txV wT30].toList)[q]? = some (txV wl) ∧ ∃ m, 1 ≤ m ∧ m ≤ 65535 ∧ lineC wl = some (.wait m) ∧ wl.length ≤ 10 := by
  match q, h with
  | 0, _ => exact ⟨wT1, rfl, 1, by decide, by decide, w1_line, by decide⟩
  | 1, _ => exact ⟨wT2, rfl, 2, by decide, by decide, w2_line, by decide⟩
  | 2, _ => exact ⟨wT30, rfl, 30, by decide, by decide, w30_line, by decide⟩
theorem ok_app {a b : List (List UInt8)} (h1 : okLs a = true) (h2 : okLs b = true) : okLs (a ++ b) = true := by rw [okLs_app, h1, h2]; rfl
theorem run_prefix (p : List (List Ev)) : ∀ (l : List (List UInt8)) (fs : List (List Ev)) (pr : List Ev), runL ⟨p ++ fs, pr⟩ l = ⟨p ++ (runL ⟨fs, pr⟩ l).fs, (runL ⟨fs, pr⟩ l).pr⟩
  | [], fs, pr => rfl
  | x :: l, fs, pr => by
    rw [runL_cons, runL_cons]
    cases lineC x with
    | none => exact run_prefix p l fs pr
    | some c =>
      cases c with
      | ev n d => exact run_prefix p l fs _
      | wait n =>
        have h := run_prefix p l (fs ++ [pr] ++ List.replicate (n - 1) []) []
        rw [← List.append_assoc, ← List.append_assoc] at h
        exact h
      | tap k n =>
        have h := run_prefix p l (fs ++ [pr ++ [((k : Int), true)]] ++ List.replicate (n - 1) []) ([] ++ [((k : Int), false)])
        rw [← List.append_assoc, ← List.append_assoc] at h
        exact h
theorem split_law {la lb : List (List UInt8)} {wl : List UInt8} {m : Nat} (h : lineC wl = some (.wait m)) : resF (stOf ((la ++ [wl]) ++ lb)) = resF (stOf (la ++ [wl])) ++ resF (stOf lb) := by
  have e1 : stOf (la ++ [wl]) = ⟨(stWait (stOf la) m).fs, []⟩ := by rw [stOf_snoc, h]; rfl
  rw [stOf_run ((la ++ [wl]) ++ lb), runL_app, ← stOf_run, e1]
  have h2 := run_prefix (stWait (stOf la) m).fs lb [] []
  rw [List.append_nil] at h2
  rw [h2, ← stOf_run]
  unfold resF
  rw [if_pos (rfl : (⟨(stWait (stOf la) m).fs, []⟩ : St).pr = [])]
  split
  · rfl
  · rw [List.append_assoc]
theorem txs_one (l : List (List UInt8)) : ∀ u ∈ l.map txV, u.oneCell' = true := by
  intro u hu
  obtain ⟨x, _, rfl⟩ := List.mem_map.1 hu
  rfl
theorem FrL.one {hv : List Value} {fs : List (List Ev)} {L : List (Value × List Ev)} (h : FrL hv fs L) : ∀ u ∈ hv, u.oneCell' = true := by
  intro u hu
  obtain ⟨i, hi, rfl⟩ := List.mem_iff_getElem.1 hu
  obtain ⟨A, c, e, _⟩ := h.2 i (by rw [← h.1]; exact hi)
  rw [List.getElem?_eq_getElem hi] at e
  rw [Option.some.inj e]
  rfl
theorem FrL.app {hv hw : List Value} {fs gs : List (List Ev)} {L : List (Value × List Ev)} (h : FrL hv fs L) (k : FrL hw gs L) : FrL (hv ++ hw) (fs ++ gs) L := by
  refine ⟨by rw [List.length_append, List.length_append, h.1, k.1], fun i hi => ?_⟩
  by_cases hl : i < fs.length
  · obtain ⟨A, c, h1, h2⟩ := h.2 i hl
    refine ⟨A, c, ?_, ?_⟩
    · rw [List.getElem?_append_left (by rw [h.1]; exact hl), List.getElem_append_left hl]; exact h1
    · rw [List.getElem_append_left hl]; exact h2
  · rw [List.length_append] at hi
    obtain ⟨A, c, h1, h2⟩ := k.2 (i - fs.length) (by omega)
    refine ⟨A, c, ?_, ?_⟩
    · rw [List.getElem?_append_right (by rw [h.1]; omega), List.getElem_append_right (by omega), h.1]; exact h1
    · rw [List.getElem_append_right (by omega)]; exact h2
section
variable {n : Nat} {w0 : World} {S : List Nat} {E : List (Nat × Value)} {G : Act → World → Prop}
theorem Run.startQ {X : List Res} (h : Run n w0 S E (X ++ ownsOf []) G) : Run n w0 S E X G := by
  rw [ownsOf_nil, List.append_nil] at h
  exact h
end
attribute [local irreducible] evsL ownsOf rightB cmdsL waitT evT stOf splitS keyN countN basicL lineC cmdOf runL resF okLs badI


theorem MacroSplits_walk (la : List (List UInt8)) (A : Option Addr) (ca : Nat) (n : Int) (lb : List (List UInt8)) (B : Option Addr) (cb : Nat) (hn : (Lit.int .u8 n).wf = true) (hla : ∀ l ∈ la, l.length ≤ 100000000) (hlb : ∀ l ∈ lb, l.length ≤ 100000000) (w : World) (hG : Glob30 w) (hA : Rd w A (la.map txV)) (hB : Rd w B (lb.map txV)) :
    Calls Tryd.prog 7 #[.slice A la.length ca, .int .u8 n, .slice B lb.length cb] w fun e w' => e = .returned (.bool true) ∧ Sat w [] [] w' := by
  obtain ⟨hn0, hn1⟩ := wfu8' hn
  obtain ⟨nn, rfl⟩ : ∃ k : Nat, n = k := ⟨n.toNat, by omega⟩
  refine enter Tryd.func7 rfl rfl rfl ?_
  refine r_seq ?_
  refine r_region ?_
  refine r_assign rfl rfl ?_
  refine r_nil ?_
  refine r_tn ?_
  refine r_seq ?_
  refine r_seq ?_
  refine r_region ?_
  refine r_call rfl rfl rfl (by kernel_rfl) rfl (fun w hw => by exact awake30 w (hG.keep hw.clear)) ?_
  refine r_not rfl rfl rfl ?_
  refine r_move rfl rfl ?_
  refine r_go rfl rfl ?_
  refine r_move rfl rfl ?_
  refine r_go rfl rfl ?_
  refine r_len rfl rfl rfl ?_
  refine r_go rfl rfl ?_
  refine r_gtr (p := decide (20 < la.length)) rfl rfl rfl (decide_eq_decide.2 ⟨fun _ => by omega, fun _ => by omega⟩) ?_
  refine r_pick_f rfl rfl rfl ?_
  refine r_move rfl rfl ?_
  refine r_split 26 rfl (fun hb26 => ?_) (fun hb26 => ?_)
  · refine r_pass rfl rfl rfl rfl ?_
    refine r_pass rfl rfl rfl rfl ?_
    refine r_pass rfl rfl rfl rfl ?_
    refine r_pick_t rfl rfl rfl ?_
    refine r_nil ?_
    refine r_tn ?_
    refine r_cond_t rfl ?_
    refine r_seq ?_
    refine r_region ?_
    refine r_call rfl rfl rfl (by kernel_rfl) rfl (fun w hw => by exact awake30 w (hG.keep hw.clear)) ?_
    refine r_assign rfl rfl ?_
    refine r_nil ?_
    refine r_tn ?_
    refine r_ret ?_
    refine r_tr ?_
    exact r_done1 (.inl rfl) rfl (res_tmp rfl) fun w hw => ⟨rfl, hw.clear⟩
  · refine r_go rfl rfl ?_
    refine r_move rfl rfl ?_
    refine r_go rfl rfl ?_
    refine r_len rfl rfl rfl ?_
    refine r_go rfl rfl ?_
    refine r_gtr (p := decide (20 < lb.length)) rfl rfl rfl (decide_eq_decide.2 ⟨fun _ => by omega, fun _ => by omega⟩) ?_
    refine r_pick_f rfl rfl rfl ?_
    refine r_nil ?_
    refine r_tn ?_
    refine r_cond rfl (fun hc => ?_) (fun hc => ?_)
    · refine r_seq ?_
      refine r_region ?_
      refine r_call rfl rfl rfl (by kernel_rfl) rfl (fun w hw => by exact awake30 w (hG.keep hw.clear)) ?_
      refine r_assign rfl rfl ?_
      refine r_nil ?_
      refine r_tn ?_
      refine r_ret ?_
      refine r_tr ?_
      exact r_done1 (.inl rfl) rfl (res_tmp rfl) fun w hw => ⟨rfl, hw.clear⟩
    · refine r_skip ?_
      refine r_tn ?_
      refine r_seq ?_
      refine r_seq ?_
      refine r_region ?_
      refine r_assign rfl rfl ?_
      refine r_nil ?_
      refine r_tn ?_
      refine r_block ?_
      have hb20 : lb.length ≤ 20 := by have h := of_decide_eq_false hc; omega
      have ha20 : la.length ≤ 20 := by have h := of_decide_eq_false hb26; omega
      clear hc
      refine r_loopN (fun i => [(0, .slice A la.length ca), (1, .int .u8 (nn : Int)), (2, .slice B lb.length cb), (7, .int .i64 (i : Int))]) (fun _ => []) (fun i => i ≤ la.length ∧ ∀ j (h : j < la.length), j < i → (lineC la[j]).isSome = true ∧ la[j].length ≤ 10) la.length 0 ⟨by omega, fun j h hj => by omega⟩ ⟨rfl, rfl, rfl, rfl, trivial⟩ (fun w hw => hw.clear) fun i hp => ?_
      obtain ⟨hi, hg⟩ := hp
      refine r_seq ?_
      refine r_seq ?_
      refine r_region ?_
      refine r_move rfl rfl ?_
      refine r_move rfl rfl ?_
      refine r_len rfl rfl rfl ?_
      refine r_lss (p := decide (i < la.length)) rfl rfl rfl (decide_eq_decide.2 ⟨fun _ => by omega, fun _ => by omega⟩) ?_
      refine r_nil ?_
      refine r_tn ?_
      refine r_cond rfl (fun hc => ?_) (fun hc => ?_)
      · refine r_skip ?_
        refine r_tn ?_
        refine r_seq ?_
        refine r_block ?_
        refine r_seq ?_
        refine r_region ?_
        have hi2 : i < la.length := by have h := of_decide_eq_true hc; omega
        clear hc
        have hly : (la.map txV)[i]? = some (txV la[i]) := txs_at hi2
        obtain ⟨ba, oa, rfl⟩ := rd_some hA hly
        refine r_move rfl rfl ?_
        refine r_move rfl rfl ?_
        refine r_indexSl (sz := 1) (o' := oa + i) rfl rfl rfl rfl rfl (by omega) (by omega) (by omega) ?_
        refine r_loadC (p := ⟨ba, oa + i, none⟩) (v := txV la[i]) rfl rfl rfl (fun w hw => (hA.keep hw.clear).cell hly rfl) ?_
        refine r_callx rfl rfl rfl (by kernel_rfl) rfl (fun w hw => by exact refBasic30 la[i] (hla _ (List.getElem_mem hi2)) w) ?_
        rintro ⟨A42, c42⟩ _
        refine r_len rfl rfl rfl ?_
        refine r_eql (p := decide ((basicL la[i]).length = 0)) rfl rfl rfl (decide_eq_decide.2 ⟨fun _ => by omega, fun _ => by omega⟩) ?_
        refine r_move rfl rfl ?_
        refine r_split 45 rfl (fun hb45 => ?_) (fun hb45 => ?_)
        · refine r_pass rfl rfl rfl rfl ?_
          refine r_pass rfl rfl rfl rfl ?_
          refine r_pass rfl rfl rfl rfl ?_
          refine r_pass rfl rfl rfl rfl ?_
          refine r_pass rfl rfl rfl rfl ?_
          refine r_pass rfl rfl rfl rfl ?_
          refine r_pick_t rfl rfl rfl ?_
          refine r_nil ?_
          refine r_tn ?_
          refine r_cond_t rfl ?_
          refine r_seq ?_
          refine r_region ?_
          refine r_assign rfl rfl ?_
          refine r_nil ?_
          refine r_tn ?_
          refine r_ret ?_
          refine r_br ?_
          refine r_tr ?_
          refine r_tr ?_
          refine r_br ?_
          refine r_tr ?_
          exact r_done1 (.inl rfl) rfl (res_tmp rfl) fun w hw => ⟨rfl, hw.clear⟩
        · refine r_go rfl rfl ?_
          refine r_move rfl rfl ?_
          refine r_go rfl rfl ?_
          refine r_move rfl rfl ?_
          refine r_go rfl rfl ?_
          refine r_indexSl (sz := 1) (o' := oa + i) rfl rfl rfl rfl rfl (by omega) (by omega) (by omega) ?_
          refine r_go rfl rfl ?_
          refine r_loadC (p := ⟨ba, oa + i, none⟩) (v := txV la[i]) rfl rfl rfl (fun w hw => (hA.keep hw.clear).cell hly rfl) ?_
          refine r_go rfl rfl ?_
          refine r_lenStr (s := tx la[i]) rfl rfl rfl ?_
          refine r_go rfl rfl ?_
          refine r_gtr (p := decide (10 < la[i].length)) rfl rfl rfl (by rw [tx_size]; exact decide_eq_decide.2 ⟨fun _ => by omega, fun _ => by omega⟩) ?_
          refine r_pick_f rfl rfl rfl ?_
          refine r_nil ?_
          refine r_tn ?_
          refine r_cond rfl (fun hc => ?_) (fun hc => ?_)
          · refine r_seq ?_
            refine r_region ?_
            refine r_assign rfl rfl ?_
            refine r_nil ?_
            refine r_tn ?_
            refine r_ret ?_
            refine r_br ?_
            refine r_tr ?_
            refine r_tr ?_
            refine r_br ?_
            refine r_tr ?_
            exact r_done1 (.inl rfl) rfl (res_tmp rfl) fun w hw => ⟨rfl, hw.clear⟩
          · refine r_skip ?_
            refine r_bn ?_
            refine r_tn ?_
            refine r_region ?_
            refine r_move rfl rfl ?_
            refine r_add rfl rfl rfl (w64 (by omega)) ?_
            refine r_assign rfl rfl ?_
            refine r_nil ?_
            refine r_tn ?_
            obtain ⟨cx, hcx⟩ := bas_some (x := la[i]) (fun e => of_decide_eq_false hb45 (by rw [e]; rfl))
            have h10 : la[i].length ≤ 10 := by have h := of_decide_eq_false hc; omega
            exact r_againN (i + 1) ⟨by omega, fun j h hj => by
              by_cases e : j = i
              · subst e; exact ⟨by rw [hcx]; rfl, h10⟩
              · exact hg j h (by omega)⟩ (by omega) ⟨rfl, rfl, rfl, rfl, trivial⟩ (fun w hw => hw.clear)
      · refine r_exit ?_
        refine r_te ?_
        refine r_te ?_
        refine r_be ?_
        refine r_tn ?_
        refine r_seq ?_
        refine r_seq ?_
        refine r_region ?_
        refine r_assign rfl rfl ?_
        refine r_nil ?_
        refine r_tn ?_
        refine r_block ?_
        have hi3 : i = la.length := by have h : ¬ i < la.length := of_decide_eq_false hc; omega
        clear hc
        subst hi3
        have hga : ∀ j (h : j < la.length), j < la.length → (lineC la[j]).isSome = true ∧ la[j].length ≤ 10 := hg
        refine r_loopN (fun i => [(0, .slice A la.length ca), (1, .int .u8 (nn : Int)), (2, .slice B lb.length cb), (8, .int .i64 (i : Int))]) (fun _ => []) (fun i => i ≤ lb.length ∧ ∀ j (h : j < lb.length), j < i → (lineC lb[j]).isSome = true ∧ lb[j].length ≤ 10) lb.length 0 ⟨by omega, fun j h hj => by omega⟩ ⟨rfl, rfl, rfl, rfl, trivial⟩ (fun w hw => hw.clear) fun i hp => ?_
        obtain ⟨hi, hg⟩ := hp
        refine r_seq ?_
        refine r_seq ?_
        refine r_region ?_
        refine r_move rfl rfl ?_
        refine r_move rfl rfl ?_
        refine r_len rfl rfl rfl ?_
        refine r_lss (p := decide (i < lb.length)) rfl rfl rfl (decide_eq_decide.2 ⟨fun _ => by omega, fun _ => by omega⟩) ?_
        refine r_nil ?_
        refine r_tn ?_
        refine r_cond rfl (fun hc => ?_) (fun hc => ?_)
        · refine r_skip ?_
          refine r_tn ?_
          refine r_seq ?_
          refine r_block ?_
          refine r_seq ?_
          refine r_region ?_
          have hi2 : i < lb.length := by have h := of_decide_eq_true hc; omega
          clear hc
          have hly : (lb.map txV)[i]? = some (txV lb[i]) := txs_at hi2
          obtain ⟨bb, ob, rfl⟩ := rd_some hB hly
          refine r_move rfl rfl ?_
          refine r_move rfl rfl ?_
          refine r_indexSl (sz := 1) (o' := ob + i) rfl rfl rfl rfl rfl (by omega) (by omega) (by omega) ?_
          refine r_loadC (p := ⟨bb, ob + i, none⟩) (v := txV lb[i]) rfl rfl rfl (fun w hw => (hB.keep hw.clear).cell hly rfl) ?_
          refine r_callx rfl rfl rfl (by kernel_rfl) rfl (fun w hw => by exact refBasic30 lb[i] (hlb _ (List.getElem_mem hi2)) w) ?_
          rintro ⟨A63, c63⟩ _
          refine r_len rfl rfl rfl ?_
          refine r_eql (p := decide ((basicL lb[i]).length = 0)) rfl rfl rfl (decide_eq_decide.2 ⟨fun _ => by omega, fun _ => by omega⟩) ?_
          refine r_move rfl rfl ?_
          refine r_split 66 rfl (fun hb66 => ?_) (fun hb66 => ?_)
          · refine r_pass rfl rfl rfl rfl ?_
            refine r_pass rfl rfl rfl rfl ?_
            refine r_pass rfl rfl rfl rfl ?_
            refine r_pass rfl rfl rfl rfl ?_
            refine r_pass rfl rfl rfl rfl ?_
            refine r_pass rfl rfl rfl rfl ?_
            refine r_pick_t rfl rfl rfl ?_
            refine r_nil ?_
            refine r_tn ?_
            refine r_cond_t rfl ?_
            refine r_seq ?_
            refine r_region ?_
            refine r_assign rfl rfl ?_
            refine r_nil ?_
            refine r_tn ?_
            refine r_ret ?_
            refine r_br ?_
            refine r_tr ?_
            refine r_tr ?_
            refine r_br ?_
            refine r_tr ?_
            exact r_done1 (.inl rfl) rfl (res_tmp rfl) fun w hw => ⟨rfl, hw.clear⟩
          · refine r_go rfl rfl ?_
            refine r_move rfl rfl ?_
            refine r_go rfl rfl ?_
            refine r_move rfl rfl ?_
            refine r_go rfl rfl ?_
            refine r_indexSl (sz := 1) (o' := ob + i) rfl rfl rfl rfl rfl (by omega) (by omega) (by omega) ?_
            refine r_go rfl rfl ?_
            refine r_loadC (p := ⟨bb, ob + i, none⟩) (v := txV lb[i]) rfl rfl rfl (fun w hw => (hB.keep hw.clear).cell hly rfl) ?_
            refine r_go rfl rfl ?_
            refine r_lenStr (s := tx lb[i]) rfl rfl rfl ?_
            refine r_go rfl rfl ?_
            refine r_gtr (p := decide (10 < lb[i].length)) rfl rfl rfl (by rw [tx_size]; exact decide_eq_decide.2 ⟨fun _ => by omega, fun _ => by omega⟩) ?_
            refine r_pick_f rfl rfl rfl ?_
            refine r_nil ?_
            refine r_tn ?_
            refine r_cond rfl (fun hc => ?_) (fun hc => ?_)
            · refine r_seq ?_
              refine r_region ?_
              refine r_assign rfl rfl ?_
              refine r_nil ?_
              refine r_tn ?_
              refine r_ret ?_
              refine r_br ?_
              refine r_tr ?_
              refine r_tr ?_
              refine r_br ?_
              refine r_tr ?_
              exact r_done1 (.inl rfl) rfl (res_tmp rfl) fun w hw => ⟨rfl, hw.clear⟩
            · refine r_skip ?_
              refine r_bn ?_
              refine r_tn ?_
              refine r_region ?_
              refine r_move rfl rfl ?_
              refine r_add rfl rfl rfl (w64 (by omega)) ?_
              refine r_assign rfl rfl ?_
              refine r_nil ?_
              refine r_tn ?_
              obtain ⟨cx, hcx⟩ := bas_some (x := lb[i]) (fun e => of_decide_eq_false hb66 (by rw [e]; rfl))
              have h10 : lb[i].length ≤ 10 := by have h := of_decide_eq_false hc; omega
              exact r_againN (i + 1) ⟨by omega, fun j h hj => by
                by_cases e : j = i
                · subst e; exact ⟨by rw [hcx]; rfl, h10⟩
                · exact hg j h (by omega)⟩ (by omega) ⟨rfl, rfl, rfl, rfl, trivial⟩ (fun w hw => hw.clear)
        · refine r_exit ?_
          refine r_te ?_
          refine r_te ?_
          refine r_be ?_
          refine r_tn ?_
          refine r_seq ?_
          have hi3 : i = lb.length := by have h : ¬ i < lb.length := of_decide_eq_false hc; omega
          clear hc
          subst hi3
          have hgb : ∀ j (h : j < lb.length), j < lb.length → (lineC lb[j]).isSome = true ∧ lb[j].length ≤ 10 := hg
          obtain ⟨wl, hwl, m, hm1, hm2, hwm, hw10⟩ := waits_at (show nn % 3 < 3 by omega)
          have hokA : okLs (la ++ [wl]) = true := ok_app (okLs_yes fun j h hj => (hga j h hj).1) (by rw [okLs_cons, hwm, okLs_nil]; rfl)
          have hokB : okLs lb = true := okLs_yes fun j h hj => (hgb j h hj).1
          have hokZ : okLs ((la ++ [wl]) ++ lb) = true := ok_app hokA hokB
          have hsA : ∀ l ∈ la ++ [wl], l.length ≤ 1000000 := fun l hl => by
            rcases List.mem_append.1 hl with hl | hl
            · obtain ⟨j, hj, rfl⟩ := List.mem_iff_getElem.1 hl
              have := (hga j hj hj).2
              omega
            · rw [List.mem_singleton.1 hl]; omega
          have hsB : ∀ l ∈ lb, l.length ≤ 1000000 := fun l hl => by
            obtain ⟨j, hj, rfl⟩ := List.mem_iff_getElem.1 hl
            have := (hgb j hj hj).2
            omega
          have hsZ : ∀ l ∈ (la ++ [wl]) ++ lb, l.length ≤ 1000000 := fun l hl => by
            rcases List.mem_append.1 hl with hl | hl
            · exact hsA l hl
            · exact hsB l hl
          have hZ : resF (stOf ((la ++ [wl]) ++ lb)) = resF (stOf (la ++ [wl])) ++ resF (stOf lb) := split_law hwm
          have hlX := res_len (la ++ [wl]) (by rw [len_snoc]; omega)
          have hlY := res_len lb (by omega)
          have hlZ : (resF (stOf (la ++ [wl])) ++ resF (stOf lb)).length ≤ 1000000000000 := by rw [← hZ]; exact res_len _ (by rw [List.length_append, len_snoc]; omega)
          have hshZ : ∀ f ∈ resF (stOf (la ++ [wl])) ++ resF (stOf lb), f.length ≤ 1000000000000 := by rw [← hZ]; exact res_sh _ (by rw [List.length_append, len_snoc]; omega)
          refine r_cut (ι := Option Addr × Nat) (fun j => ([(0, .slice A la.length ca), (2, .slice B lb.length cb), (9, .slice j.1 (la.length + 1) j.2)], [.own 9 1 (.slice j.1 (la.length + 1) j.2) (la.length + 1) ((la ++ [wl]).map txV)])) ?_ ?_
          · refine r_tree { xb := [], rb := [], rs := [], fs := [], acs := [] } (.take 1 (.take 4 (.take 5 (.fork 0 (.fork 2 (.take 3 (.take 6 (.take 7 (.take 8 (.take 9 (.take 10 .done)))))) 3 (.take 6 (.fork 2 (.take 7 (.take 8 (.take 9 (.take 10 .done)))) 7 (.fork 2 (.take 8 (.take 9 (.take 10 .done))) 8 (.take 2 (.take 9 (.take 10 .done))))))) 3 (.take 6 (.fork 0 (.fork 2 (.take 7 (.take 8 (.take 9 (.take 10 .done)))) 7 (.fork 2 (.take 8 (.take 9 (.take 10 .done))) 8 (.take 2 (.take 9 (.take 10 .done))))) 7 (.fork 0 (.fork 2 (.take 8 (.take 9 (.take 10 .done))) 8 (.take 2 (.take 9 (.take 10 .done)))) 8 (.take 0 (.take 2 (.take 9 (.take 10 .done))))))))))) (by kernel_rfl) (by kernel_rfl) (fun w hw k hk => by simp at hk) ?_
            refine r_take rfl ?_
            refine r_move rfl rfl ?_
            refine r_nil ?_
            refine r_take rfl ?_
            refine r_move rfl rfl ?_
            refine r_nil ?_
            refine r_take rfl ?_
            refine r_rem (r := ((nn % 3 : Nat) : Int)) rfl rfl rfl (by decide) rfl ?_
            refine r_nil ?_
            refine r_fork rfl rfl ?_ ?_
            · refine r_lit (sz := 1) (pv := []) (cells := #[]) rfl rfl rfl rfl rfl rfl (by kernel_rfl) rfl (fun b74 => ?_) (by decide)
              refine r_nil ?_
              refine r_fork rfl rfl ?_ ?_
              · refine r_append0 (k := la.length) (news := la.map txV) (sz := 1) (bytes := 16) rfl rfl rfl rfl rfl rfl (by decide) (fun w hw => hA.keep hw.clear) (by simp) (txs_one _) (by omega) (by unfold maxLen; omega) fun A76 c76 => ?_
                refine r_nil ?_
                refine r_take rfl ?_
                refine r_lit (sz := 1) (pv := [(0, txV wT1), (1, txV wT2), (2, txV wT30)]) (cells := #[txV wT1, txV wT2, txV wT30]) rfl rfl rfl rfl rfl rfl (by kernel_rfl) rfl (fun b77 => ?_) (by decide)
                refine r_nil ?_
                refine r_take rfl ?_
                refine r_indexSl (sz := 1) (o' := 0 + nn % 3) rfl rfl rfl rfl rfl (by omega) (by omega) (by omega) ?_
                refine r_nil ?_
                refine r_take rfl ?_
                refine r_loadC (p := ⟨b77, 0 + nn % 3, none⟩) (v := txV wl) rfl rfl rfl (fun w hw => (own_rd (A := some ⟨b77, 0, none⟩) (m := 3) (c := 3) hw).cell (j := nn % 3) hwl rfl) ?_
                refine r_nil ?_
                refine r_take rfl ?_
                refine r_lit (sz := 1) (pv := [(0, txV wl)]) (cells := #[txV wl]) rfl rfl rfl rfl rfl rfl (by kernel_rfl) rfl (fun b82 => ?_) (by decide)
                refine r_nil ?_
                refine r_take rfl ?_
                refine r_append (k := 1) (news := [txV wl]) (sz := 1) (bytes := 16) rfl rfl rfl rfl rfl rfl (by decide) (fun w hw => own_rd (A := some ⟨b82, 0, none⟩) (m := 1) (c := 1) hw) rfl (fun u hu => by simp at hu; subst hu; rfl) (by omega) (by unfold maxLen; omega) fun A83 c83 => ?_
                refine r_nil ?_
                refine r_take rfl ?_
                refine r_assign rfl rfl ?_
                refine r_nil ?_
                refine r_treeEnd ?_
                refine r_tn ?_
                exact r_at (A83, c83) ⟨rfl, rfl, rfl, trivial⟩ (fun w hw => by rw [map_snoc]; exact hw.sub)
              · refine r_lit (sz := 1) (pv := [(0, txV wT1), (1, txV wT2), (2, txV wT30)]) (cells := #[txV wT1, txV wT2, txV wT30]) rfl rfl rfl rfl rfl rfl (by kernel_rfl) rfl (fun b77 => ?_) (by decide)
                refine r_nil ?_
                refine r_take rfl ?_
                refine r_indexSl (sz := 1) (o' := 0 + nn % 3) rfl rfl rfl rfl rfl (by omega) (by omega) (by omega) ?_
                refine r_nil ?_
                refine r_fork rfl rfl ?_ ?_
                · refine r_append0 (k := la.length) (news := la.map txV) (sz := 1) (bytes := 16) rfl rfl rfl rfl rfl rfl (by decide) (fun w hw => hA.keep hw.clear) (by simp) (txs_one _) (by omega) (by unfold maxLen; omega) fun A76 c76 => ?_
                  refine r_nil ?_
                  refine r_take rfl ?_
                  refine r_loadC (p := ⟨b77, 0 + nn % 3, none⟩) (v := txV wl) rfl rfl rfl (fun w hw => (own_rd (A := some ⟨b77, 0, none⟩) (m := 3) (c := 3) hw).cell (j := nn % 3) hwl rfl) ?_
                  refine r_nil ?_
                  refine r_take rfl ?_
                  refine r_lit (sz := 1) (pv := [(0, txV wl)]) (cells := #[txV wl]) rfl rfl rfl rfl rfl rfl (by kernel_rfl) rfl (fun b82 => ?_) (by decide)
                  refine r_nil ?_
                  refine r_take rfl ?_
                  refine r_append (k := 1) (news := [txV wl]) (sz := 1) (bytes := 16) rfl rfl rfl rfl rfl rfl (by decide) (fun w hw => own_rd (A := some ⟨b82, 0, none⟩) (m := 1) (c := 1) hw) rfl (fun u hu => by simp at hu; subst hu; rfl) (by omega) (by unfold maxLen; omega) fun A83 c83 => ?_
                  refine r_nil ?_
                  refine r_take rfl ?_
                  refine r_assign rfl rfl ?_
                  refine r_nil ?_
                  refine r_treeEnd ?_
                  refine r_tn ?_
                  exact r_at (A83, c83) ⟨rfl, rfl, rfl, trivial⟩ (fun w hw => by rw [map_snoc]; exact hw.sub)
                · refine r_loadC (p := ⟨b77, 0 + nn % 3, none⟩) (v := txV wl) rfl rfl rfl (fun w hw => (own_rd (A := some ⟨b77, 0, none⟩) (m := 3) (c := 3) hw).cell (j := nn % 3) hwl rfl) ?_
                  refine r_nil ?_
                  refine r_fork rfl rfl ?_ ?_
                  · refine r_append0 (k := la.length) (news := la.map txV) (sz := 1) (bytes := 16) rfl rfl rfl rfl rfl rfl (by decide) (fun w hw => hA.keep hw.clear) (by simp) (txs_one _) (by omega) (by unfold maxLen; omega) fun A76 c76 => ?_
                    refine r_nil ?_
                    refine r_take rfl ?_
                    refine r_lit (sz := 1) (pv := [(0, txV wl)]) (cells := #[txV wl]) rfl rfl rfl rfl rfl rfl (by kernel_rfl) rfl (fun b82 => ?_) (by decide)
                    refine r_nil ?_
                    refine r_take rfl ?_
                    refine r_append (k := 1) (news := [txV wl]) (sz := 1) (bytes := 16) rfl rfl rfl rfl rfl rfl (by decide) (fun w hw => own_rd (A := some ⟨b82, 0, none⟩) (m := 1) (c := 1) hw) rfl (fun u hu => by simp at hu; subst hu; rfl) (by omega) (by unfold maxLen; omega) fun A83 c83 => ?_
                    refine r_nil ?_
                    refine r_take rfl ?_
                    refine r_assign rfl rfl ?_
                    refine r_nil ?_
                    refine r_treeEnd ?_
                    refine r_tn ?_
                    exact r_at (A83, c83) ⟨rfl, rfl, rfl, trivial⟩ (fun w hw => by rw [map_snoc]; exact hw.sub)
                  · refine r_lit (sz := 1) (pv := [(0, txV wl)]) (cells := #[txV wl]) rfl rfl rfl rfl rfl rfl (by kernel_rfl) rfl (fun b82 => ?_) (by decide)
                    refine r_nil ?_
                    refine r_take rfl ?_
                    refine r_append0 (k := la.length) (news := la.map txV) (sz := 1) (bytes := 16) rfl rfl rfl rfl rfl rfl (by decide) (fun w hw => hA.keep hw.clear) (by simp) (txs_one _) (by omega) (by unfold maxLen; omega) fun A76 c76 => ?_
                    refine r_nil ?_
                    refine r_take rfl ?_
                    refine r_append (k := 1) (news := [txV wl]) (sz := 1) (bytes := 16) rfl rfl rfl rfl rfl rfl (by decide) (fun w hw => own_rd (A := some ⟨b82, 0, none⟩) (m := 1) (c := 1) hw) rfl (fun u hu => by simp at hu; subst hu; rfl) (by omega) (by unfold maxLen; omega) fun A83 c83 => ?_
                    refine r_nil ?_
                    refine r_take rfl ?_
                    refine r_assign rfl rfl ?_
                    refine r_nil ?_
                    refine r_treeEnd ?_
                    refine r_tn ?_
                    exact r_at (A83, c83) ⟨rfl, rfl, rfl, trivial⟩ (fun w hw => by rw [map_snoc]; exact hw.sub)
            · refine r_lit (sz := 1) (pv := [(0, txV wT1), (1, txV wT2), (2, txV wT30)]) (cells := #[txV wT1, txV wT2, txV wT30]) rfl rfl rfl rfl rfl rfl (by kernel_rfl) rfl (fun b77 => ?_) (by decide)
              refine r_nil ?_
              refine r_take rfl ?_
              refine r_indexSl (sz := 1) (o' := 0 + nn % 3) rfl rfl rfl rfl rfl (by omega) (by omega) (by omega) ?_
              refine r_nil ?_
              refine r_fork rfl rfl ?_ ?_
              · refine r_lit (sz := 1) (pv := []) (cells := #[]) rfl rfl rfl rfl rfl rfl (by kernel_rfl) rfl (fun b74 => ?_) (by decide)
                refine r_nil ?_
                refine r_fork rfl rfl ?_ ?_
                · refine r_append0 (k := la.length) (news := la.map txV) (sz := 1) (bytes := 16) rfl rfl rfl rfl rfl rfl (by decide) (fun w hw => hA.keep hw.clear) (by simp) (txs_one _) (by omega) (by unfold maxLen; omega) fun A76 c76 => ?_
                  refine r_nil ?_
                  refine r_take rfl ?_
                  refine r_loadC (p := ⟨b77, 0 + nn % 3, none⟩) (v := txV wl) rfl rfl rfl (fun w hw => (own_rd (A := some ⟨b77, 0, none⟩) (m := 3) (c := 3) hw).cell (j := nn % 3) hwl rfl) ?_
                  refine r_nil ?_
                  refine r_take rfl ?_
                  refine r_lit (sz := 1) (pv := [(0, txV wl)]) (cells := #[txV wl]) rfl rfl rfl rfl rfl rfl (by kernel_rfl) rfl (fun b82 => ?_) (by decide)
                  refine r_nil ?_
                  refine r_take rfl ?_
                  refine r_append (k := 1) (news := [txV wl]) (sz := 1) (bytes := 16) rfl rfl rfl rfl rfl rfl (by decide) (fun w hw => own_rd (A := some ⟨b82, 0, none⟩) (m := 1) (c := 1) hw) rfl (fun u hu => by simp at hu; subst hu; rfl) (by omega) (by unfold maxLen; omega) fun A83 c83 => ?_
                  refine r_nil ?_
                  refine r_take rfl ?_
                  refine r_assign rfl rfl ?_
                  refine r_nil ?_
                  refine r_treeEnd ?_
                  refine r_tn ?_
                  exact r_at (A83, c83) ⟨rfl, rfl, rfl, trivial⟩ (fun w hw => by rw [map_snoc]; exact hw.sub)
                · refine r_loadC (p := ⟨b77, 0 + nn % 3, none⟩) (v := txV wl) rfl rfl rfl (fun w hw => (own_rd (A := some ⟨b77, 0, none⟩) (m := 3) (c := 3) hw).cell (j := nn % 3) hwl rfl) ?_
                  refine r_nil ?_
                  refine r_fork rfl rfl ?_ ?_
                  · refine r_append0 (k := la.length) (news := la.map txV) (sz := 1) (bytes := 16) rfl rfl rfl rfl rfl rfl (by decide) (fun w hw => hA.keep hw.clear) (by simp) (txs_one _) (by omega) (by unfold maxLen; omega) fun A76 c76 => ?_
                    refine r_nil ?_
                    refine r_take rfl ?_
                    refine r_lit (sz := 1) (pv := [(0, txV wl)]) (cells := #[txV wl]) rfl rfl rfl rfl rfl rfl (by kernel_rfl) rfl (fun b82 => ?_) (by decide)
                    refine r_nil ?_
                    refine r_take rfl ?_
                    refine r_append (k := 1) (news := [txV wl]) (sz := 1) (bytes := 16) rfl rfl rfl rfl rfl rfl (by decide) (fun w hw => own_rd (A := some ⟨b82, 0, none⟩) (m := 1) (c := 1) hw) rfl (fun u hu => by simp at hu; subst hu; rfl) (by omega) (by unfold maxLen; omega) fun A83 c83 => ?_
                    refine r_nil ?_
                    refine r_take rfl ?_
                    refine r_assign rfl rfl ?_
                    refine r_nil ?_
                    refine r_treeEnd ?_
                    refine r_tn ?_
                    exact r_at (A83, c83) ⟨rfl, rfl, rfl, trivial⟩ (fun w hw => by rw [map_snoc]; exact hw.sub)
                  · refine r_lit (sz := 1) (pv := [(0, txV wl)]) (cells := #[txV wl]) rfl rfl rfl rfl rfl rfl (by kernel_rfl) rfl (fun b82 => ?_) (by decide)
                    refine r_nil ?_
                    refine r_take rfl ?_
                    refine r_append0 (k := la.length) (news := la.map txV) (sz := 1) (bytes := 16) rfl rfl rfl rfl rfl rfl (by decide) (fun w hw => hA.keep hw.clear) (by simp) (txs_one _) (by omega) (by unfold maxLen; omega) fun A76 c76 => ?_
                    refine r_nil ?_
                    refine r_take rfl ?_
                    refine r_append (k := 1) (news := [txV wl]) (sz := 1) (bytes := 16) rfl rfl rfl rfl rfl rfl (by decide) (fun w hw => own_rd (A := some ⟨b82, 0, none⟩) (m := 1) (c := 1) hw) rfl (fun u hu => by simp at hu; subst hu; rfl) (by omega) (by unfold maxLen; omega) fun A83 c83 => ?_
                    refine r_nil ?_
                    refine r_take rfl ?_
                    refine r_assign rfl rfl ?_
                    refine r_nil ?_
                    refine r_treeEnd ?_
                    refine r_tn ?_
                    exact r_at (A83, c83) ⟨rfl, rfl, rfl, trivial⟩ (fun w hw => by rw [map_snoc]; exact hw.sub)
              · refine r_loadC (p := ⟨b77, 0 + nn % 3, none⟩) (v := txV wl) rfl rfl rfl (fun w hw => (own_rd (A := some ⟨b77, 0, none⟩) (m := 3) (c := 3) hw).cell (j := nn % 3) hwl rfl) ?_
                refine r_nil ?_
                refine r_fork rfl rfl ?_ ?_
                · refine r_lit (sz := 1) (pv := []) (cells := #[]) rfl rfl rfl rfl rfl rfl (by kernel_rfl) rfl (fun b74 => ?_) (by decide)
                  refine r_nil ?_
                  refine r_fork rfl rfl ?_ ?_
                  · refine r_append0 (k := la.length) (news := la.map txV) (sz := 1) (bytes := 16) rfl rfl rfl rfl rfl rfl (by decide) (fun w hw => hA.keep hw.clear) (by simp) (txs_one _) (by omega) (by unfold maxLen; omega) fun A76 c76 => ?_
                    refine r_nil ?_
                    refine r_take rfl ?_
                    refine r_lit (sz := 1) (pv := [(0, txV wl)]) (cells := #[txV wl]) rfl rfl rfl rfl rfl rfl (by kernel_rfl) rfl (fun b82 => ?_) (by decide)
                    refine r_nil ?_
                    refine r_take rfl ?_
                    refine r_append (k := 1) (news := [txV wl]) (sz := 1) (bytes := 16) rfl rfl rfl rfl rfl rfl (by decide) (fun w hw => own_rd (A := some ⟨b82, 0, none⟩) (m := 1) (c := 1) hw) rfl (fun u hu => by simp at hu; subst hu; rfl) (by omega) (by unfold maxLen; omega) fun A83 c83 => ?_
                    refine r_nil ?_
                    refine r_take rfl ?_
                    refine r_assign rfl rfl ?_
                    refine r_nil ?_
                    refine r_treeEnd ?_
                    refine r_tn ?_
                    exact r_at (A83, c83) ⟨rfl, rfl, rfl, trivial⟩ (fun w hw => by rw [map_snoc]; exact hw.sub)
                  · refine r_lit (sz := 1) (pv := [(0, txV wl)]) (cells := #[txV wl]) rfl rfl rfl rfl rfl rfl (by kernel_rfl) rfl (fun b82 => ?_) (by decide)
                    refine r_nil ?_
                    refine r_take rfl ?_
                    refine r_append0 (k := la.length) (news := la.map txV) (sz := 1) (bytes := 16) rfl rfl rfl rfl rfl rfl (by decide) (fun w hw => hA.keep hw.clear) (by simp) (txs_one _) (by omega) (by unfold maxLen; omega) fun A76 c76 => ?_
                    refine r_nil ?_
                    refine r_take rfl ?_
                    refine r_append (k := 1) (news := [txV wl]) (sz := 1) (bytes := 16) rfl rfl rfl rfl rfl rfl (by decide) (fun w hw => own_rd (A := some ⟨b82, 0, none⟩) (m := 1) (c := 1) hw) rfl (fun u hu => by simp at hu; subst hu; rfl) (by omega) (by unfold maxLen; omega) fun A83 c83 => ?_
                    refine r_nil ?_
                    refine r_take rfl ?_
                    refine r_assign rfl rfl ?_
                    refine r_nil ?_
                    refine r_treeEnd ?_
                    refine r_tn ?_
                    exact r_at (A83, c83) ⟨rfl, rfl, rfl, trivial⟩ (fun w hw => by rw [map_snoc]; exact hw.sub)
                · refine r_lit (sz := 1) (pv := [(0, txV wl)]) (cells := #[txV wl]) rfl rfl rfl rfl rfl rfl (by kernel_rfl) rfl (fun b82 => ?_) (by decide)
                  refine r_nil ?_
                  refine r_take rfl ?_
                  refine r_lit (sz := 1) (pv := []) (cells := #[]) rfl rfl rfl rfl rfl rfl (by kernel_rfl) rfl (fun b74 => ?_) (by decide)
                  refine r_nil ?_
                  refine r_take rfl ?_
                  refine r_append0 (k := la.length) (news := la.map txV) (sz := 1) (bytes := 16) rfl rfl rfl rfl rfl rfl (by decide) (fun w hw => hA.keep hw.clear) (by simp) (txs_one _) (by omega) (by unfold maxLen; omega) fun A76 c76 => ?_
                  refine r_nil ?_
                  refine r_take rfl ?_
                  refine r_append (k := 1) (news := [txV wl]) (sz := 1) (bytes := 16) rfl rfl rfl rfl rfl rfl (by decide) (fun w hw => own_rd (A := some ⟨b82, 0, none⟩) (m := 1) (c := 1) hw) rfl (fun u hu => by simp at hu; subst hu; rfl) (by omega) (by unfold maxLen; omega) fun A83 c83 => ?_
                  refine r_nil ?_
                  refine r_take rfl ?_
                  refine r_assign rfl rfl ?_
                  refine r_nil ?_
                  refine r_treeEnd ?_
                  refine r_tn ?_
                  exact r_at (A83, c83) ⟨rfl, rfl, rfl, trivial⟩ (fun w hw => by rw [map_snoc]; exact hw.sub)
          rintro ⟨A9, c9⟩
          refine Run.startQ ?_
          refine r_seq ?_
          refine r_region ?_
          refine r_move rfl rfl ?_
          refine r_callE (X := [.own 9 1 (.slice A9 (la.length + 1) c9) (la.length + 1) ((la ++ [wl]).map txV)]) (L0 := []) (by first | rfl | exact (by simp)) rfl rfl rfl (by kernel_rfl) rfl (fun w hw => by exact expandE30 A9 c9 (la.length + 1) (la ++ [wl]) (resF (stOf (la ++ [wl]))) (len_snoc _ _) rfl hokA (by rw [len_snoc]; omega) hsA w (hG.keep hw.clear) (own_rd (A := A9) (m := la.length + 1) (c := c9) hw)) ?_
          rintro ⟨X, d, _, _, hx, L⟩ hF1
          have hF1 : FrL hx (resF (stOf (la ++ [wl]))) L := hF1
          refine Run.less (H' := .own 25 1 (.slice X (resF (stOf (la ++ [wl]))).length d) (resF (stOf (la ++ [wl]))).length hx :: .own 9 1 (.slice A9 (la.length + 1) c9) (la.length + 1) ((la ++ [wl]).map txV) :: ownsOf (L ++ [])) (fun w hw => hw.sub) ?_
          rw [List.append_nil]
          refine r_move rfl rfl ?_
          refine r_extract (v := .slice X (resF (stOf (la ++ [wl]))).length d) rfl rfl rfl ?_
          refine r_extract (v := .int .i64 0) rfl rfl rfl ?_
          refine r_extract (v := .int .i64 0) rfl rfl rfl ?_
          refine r_assign rfl rfl ?_
          refine r_assign rfl rfl ?_
          refine r_assign rfl rfl ?_
          refine r_nil ?_
          refine r_tn ?_
          refine r_seq ?_
          refine r_region ?_
          refine r_move rfl rfl ?_
          refine r_callE (X := [.own 25 1 (.slice X (resF (stOf (la ++ [wl]))).length d) (resF (stOf (la ++ [wl]))).length hx, .own 9 1 (.slice A9 (la.length + 1) c9) (la.length + 1) ((la ++ [wl]).map txV)]) (L0 := L) (by first | rfl | exact (by simp)) rfl rfl rfl (by kernel_rfl) rfl (fun w hw => by exact expandE30 B cb lb.length lb (resF (stOf lb)) rfl rfl hokB (by omega) hsB w (hG.keep hw.clear) (hB.keep hw.clear)) ?_
          rintro ⟨Y, e, _, _, hy, M⟩ hF2
          have hF2 : FrL hy (resF (stOf lb)) M := hF2
          refine Run.less (H' := .own 25 1 (.slice Y (resF (stOf lb)).length e) (resF (stOf lb)).length hy :: .own 25 1 (.slice X (resF (stOf (la ++ [wl]))).length d) (resF (stOf (la ++ [wl]))).length hx :: .own 9 1 (.slice A9 (la.length + 1) c9) (la.length + 1) ((la ++ [wl]).map txV) :: ownsOf (M ++ L)) (fun w hw => hw.sub) ?_
          refine r_move rfl rfl ?_
          refine r_extract (v := .slice Y (resF (stOf lb)).length e) rfl rfl rfl ?_
          refine r_extract (v := .int .i64 0) rfl rfl rfl ?_
          refine r_extract (v := .int .i64 0) rfl rfl rfl ?_
          refine r_assign rfl rfl ?_
          refine r_assign rfl rfl ?_
          refine r_assign rfl rfl ?_
          refine r_nil ?_
          refine r_tn ?_
          refine r_seq ?_
          refine r_region ?_
          refine r_lit (sz := 1) (pv := []) (cells := #[]) rfl rfl rfl rfl rfl rfl (by kernel_rfl) rfl (fun b97 => ?_) (by decide)
          refine r_move rfl rfl ?_
          refine r_append0 (k := la.length + 1) (news := (la ++ [wl]).map txV) (sz := 1) (bytes := 16) rfl rfl rfl rfl rfl rfl (by decide) (fun w hw => own_rd (A := A9) (m := la.length + 1) (c := c9) hw) (by rw [List.length_map, len_snoc, Nat.mul_one]) (txs_one _) (by omega) (by unfold maxLen; omega) fun A99 c99 => ?_
          refine r_move rfl rfl ?_
          refine r_append (k := lb.length) (news := lb.map txV) (sz := 1) (bytes := 16) rfl rfl rfl rfl rfl rfl (by decide) (fun w hw => hB.keep hw.clear) (by simp) (txs_one _) (by omega) (by unfold maxLen; omega) fun A101 c101 => ?_
          refine r_callE (X := [.own 9 1 (.slice A101 (la.length + 1 + lb.length) c101) (la.length + 1 + lb.length) ((la ++ [wl]).map txV ++ lb.map txV), .own 25 1 (.slice Y (resF (stOf lb)).length e) (resF (stOf lb)).length hy, .own 25 1 (.slice X (resF (stOf (la ++ [wl]))).length d) (resF (stOf (la ++ [wl]))).length hx, .own 9 1 (.slice A9 (la.length + 1) c9) (la.length + 1) ((la ++ [wl]).map txV)]) (L0 := M ++ L) (by first | rfl | exact (by simp)) rfl rfl rfl (by kernel_rfl) rfl (fun w hw => by exact expandE30 A101 c101 (la.length + 1 + lb.length) ((la ++ [wl]) ++ lb) (resF (stOf (la ++ [wl])) ++ resF (stOf lb)) (by rw [List.length_append, len_snoc]) hZ hokZ (by rw [List.length_append, len_snoc]; omega) hsZ w (hG.keep hw.clear) (by have h := own_rd (A := A101) (m := la.length + 1 + lb.length) (c := c101) hw; rw [← List.map_append] at h; exact h)) ?_
          rintro ⟨Z, f, _, _, hz, O⟩ hF3
          have hF3 : FrL hz (resF (stOf (la ++ [wl])) ++ resF (stOf lb)) O := hF3
          refine Run.less (H' := .own 25 1 (.slice Z (resF (stOf (la ++ [wl])) ++ resF (stOf lb)).length f) (resF (stOf (la ++ [wl])) ++ resF (stOf lb)).length hz :: .own 25 1 (.slice Y (resF (stOf lb)).length e) (resF (stOf lb)).length hy :: .own 25 1 (.slice X (resF (stOf (la ++ [wl]))).length d) (resF (stOf (la ++ [wl]))).length hx :: ownsOf (O ++ (M ++ L))) (fun w hw => hw.sub) ?_
          refine r_move rfl rfl ?_
          refine r_extract (v := .slice Z (resF (stOf (la ++ [wl])) ++ resF (stOf lb)).length f) rfl rfl rfl ?_
          refine r_extract (v := .int .i64 0) rfl rfl rfl ?_
          refine r_extract (v := .int .i64 0) rfl rfl rfl ?_
          refine r_assign rfl rfl ?_
          refine r_assign rfl rfl ?_
          refine r_assign rfl rfl ?_
          refine r_nil ?_
          refine r_tn ?_
          refine r_seq ?_
          refine r_region ?_
          refine r_move rfl rfl ?_
          refine r_eql (p := true) rfl rfl rfl rfl ?_
          refine r_move rfl rfl ?_
          refine r_go rfl rfl ?_
          refine r_move rfl rfl ?_
          refine r_go rfl rfl ?_
          refine r_eql (p := true) rfl rfl rfl rfl ?_
          refine r_pick_t rfl rfl rfl ?_
          refine r_move rfl rfl ?_
          refine r_go rfl rfl ?_
          refine r_move rfl rfl ?_
          refine r_go rfl rfl ?_
          refine r_eql (p := true) rfl rfl rfl rfl ?_
          refine r_pick_t rfl rfl rfl ?_
          refine r_move rfl rfl ?_
          refine r_go rfl rfl ?_
          refine r_lit (sz := 1) (pv := []) (cells := #[]) rfl rfl rfl rfl rfl rfl (by kernel_rfl) rfl (fun b117 => ?_) (by decide)
          refine r_go rfl rfl ?_
          refine r_move rfl rfl ?_
          refine r_go rfl rfl ?_
          refine r_append0 (k := (resF (stOf (la ++ [wl]))).length) (news := hx) (sz := 1) (bytes := 24) rfl rfl rfl rfl rfl rfl (by decide) (fun w hw => own_rd (A := X) (m := (resF (stOf (la ++ [wl]))).length) (c := d) hw) (by rw [hF1.1, Nat.mul_one]) hF1.one (by omega) (by unfold maxLen; omega) fun A119 c119 => ?_
          refine r_go rfl rfl ?_
          refine r_move rfl rfl ?_
          refine r_go rfl rfl ?_
          refine r_append (k := (resF (stOf lb)).length) (news := hy) (sz := 1) (bytes := 24) rfl rfl rfl rfl rfl rfl (by decide) (fun w hw => own_rd (A := Y) (m := (resF (stOf lb)).length) (c := e) hw) (by rw [hF2.1, Nat.mul_one]) hF2.one (by omega) (by unfold maxLen; omega) fun A121 c121 => ?_
          refine r_go rfl rfl ?_
          refine r_move rfl rfl ?_
          refine r_go rfl rfl ?_
          refine r_call rfl rfl rfl (by kernel_rfl) rfl (fun w hw => by
            rw [← List.length_append]
            exact refSame30 (resF (stOf (la ++ [wl])) ++ resF (stOf lb)) hlZ A121 Z c121 f (hx ++ hy) hz w (own_rd (A := A121) (m := (resF (stOf (la ++ [wl]))).length + (resF (stOf lb)).length) (c := c121) hw) (((((hF1.right M).right O).app ((hF2.left L).right O))).rd (fun x hx => hw.ok x (by simp [hx]))) (own_rd (A := Z) (m := (resF (stOf (la ++ [wl])) ++ resF (stOf lb)).length) (c := f) hw) ((hF3.left (M ++ L)).rd (fun x hx => hw.ok x (by simp [hx]))) hshZ) ?_
          refine r_pick_t rfl rfl rfl ?_
          refine r_assign rfl rfl ?_
          refine r_nil ?_
          refine r_tn ?_
          refine r_ret ?_
          exact r_done1 (.inl rfl) rfl (res_tmp rfl) fun w hw => ⟨rfl, hw.clear⟩
end Go.Proofs.YtghjbnbkfohmlaaDoor
