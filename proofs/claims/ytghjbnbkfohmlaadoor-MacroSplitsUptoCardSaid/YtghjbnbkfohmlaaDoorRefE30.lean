/-
  Macros (chapter 30): the reference s Expand.
-/
import Derived.Test.YtghjbnbkfohmlaaDoorPlainE30
import Derived.Test.YtghjbnbkfohmlaaDoorKeep30
import Derived.Test.YtghjbnbkfohmlaaDoorApp30
namespace Go.Proofs.YtghjbnbkfohmlaaDoor
open Go Go.RowKit
set_option linter.unusedVariables false
set_option linter.unusedSimpArgs false
set_option maxHeartbeats 2000000
set_option maxRecDepth 4000
attribute [local irreducible] mix
attribute [local irreducible] evsL ownsOf rightB cmdsL waitT evT stOf splitS keyN countN basicL lineC cmdOf runL resF


theorem refExpandA30 (A : Option Addr) (c : Nat) (ls : List (List UInt8)) (hlen1 : ls.length ≤ 1000000) (hlen2 : ∀ l ∈ ls, l.length ≤ 1000000) (w : World) (hR : Rd w A (ls.map txV)) :
    Calls Tryd.prog 15 #[.slice A ls.length c] w fun e w' =>
      (okLs ls = true ∧ ∃ ix : BIx, e = .returned (.tuple #[.slice ix.A0 (resF (stOf ls)).length ix.c0, .int .i64 0, .bool true]) ∧ FrL ix.hv (resF (stOf ls)) ix.L ∧ Sat w [] ([.own 25 1 (.slice ix.A0 (resF (stOf ls)).length ix.c0) (resF (stOf ls)).length ix.hv] ++ ownsOf ix.L) w') ∨
      (okLs ls = false ∧ e = .returned (.tuple #[.slice none 0 0, .int .i64 ((badI ls : Nat) : Int), .bool false]) ∧ Sat w [] [] w') := by
  refine enter Tryd.func15 rfl rfl rfl ?_
  refine r_seq ?_
  refine r_region ?_
  refine r_assign rfl rfl ?_
  refine r_assign rfl rfl ?_
  refine r_assign rfl rfl ?_
  refine r_nil ?_
  refine r_tn ?_
  refine r_seq ?_
  refine r_region ?_
  refine r_assign rfl rfl ?_
  refine r_nil ?_
  refine r_tn ?_
  refine r_seq ?_
  refine r_region ?_
  refine r_assign rfl rfl ?_
  refine r_nil ?_
  refine r_tn ?_
  refine r_seq ?_
  refine r_seq ?_
  refine r_region ?_
  refine r_assign rfl rfl ?_
  refine r_nil ?_
  refine r_tn ?_
  refine r_block ?_
  refine Run.startL ?_
  refine Run.ownNil 32 2 ?_
  refine Run.ownNil 25 1 ?_
  refine r_loop1 (T0 := BIx) (fun i ix => [(0, .slice A ls.length c), (5, .slice ix.A0 (stOf (ls.take i)).fs.length ix.c0), (6, .slice ix.A1 (stOf (ls.take i)).pr.length ix.c1), (7, .int .i64 (i : Int))]) (fun i ix => [.own 25 1 (.slice ix.A0 (stOf (ls.take i)).fs.length ix.c0) (stOf (ls.take i)).fs.length ix.hv, .own 32 2 (.slice ix.A1 (stOf (ls.take i)).pr.length ix.c1) (stOf (ls.take i)).pr.length (evsL (stOf (ls.take i)).pr)] ++ ownsOf ix.L) (fun i ix => i ≤ ls.length ∧ (∀ j (h : j < ls.length), j < i → (lineC ls[j]).isSome = true) ∧ FrL ix.hv (stOf (ls.take i)).fs ix.L) ls.length 0 ⟨none, 0, none, 0, [], []⟩ ⟨by omega, fun j h hj => by omega, frl_zero _⟩ ⟨rfl, by rw [st_zero]; rfl, by rw [st_zero]; rfl, rfl, trivial⟩ (fun w hw => by rw [st_zero, evsL_nil]; exact hw) fun i ix hp => ?_
  obtain ⟨hi, hgood, hF⟩ := hp
  obtain ⟨hn1, hn2⟩ := stOf_count _ (ls.take i) rfl
  have hn3 : (ls.take i).length ≤ 1000000 := by rw [List.length_take]; omega
  refine r_seq ?_
  refine r_seq ?_
  refine r_region ?_
  refine r_move rfl rfl ?_
  refine r_move rfl rfl ?_
  refine r_len rfl rfl rfl ?_
  refine r_lss (p := decide (i < ls.length)) rfl rfl rfl (decide_eq_decide.2 ⟨fun _ => by omega, fun _ => by omega⟩) ?_
  refine r_nil ?_
  refine r_tn ?_
  refine r_cond rfl (fun hc => ?_) (fun hc => ?_)
  · refine r_skip ?_
    refine r_tn ?_
    refine r_seq ?_
    refine r_block ?_
    refine r_seq ?_
    refine r_region ?_
    have hi2 : i < ls.length := by have h := of_decide_eq_true hc; omega
    clear hc
    obtain ⟨x, hx⟩ : ∃ x, ls[i] = x := ⟨_, rfl⟩
    have hly : (ls.map txV)[i]? = some (txV x) := by rw [txs_at hi2, hx]
    have hll : x.length ≤ 1000000 := hlen2 x (by rw [← hx]; exact List.getElem_mem hi2)
    obtain ⟨ba, oa, rfl⟩ := rd_some hR hly
    refine r_move rfl rfl ?_
    refine r_move rfl rfl ?_
    refine r_indexSl (sz := 1) (o' := oa + i) rfl rfl rfl rfl rfl (by omega) (by omega) (by omega) ?_
    refine r_loadC (p := ⟨ba, oa + i, none⟩) (v := txV x) rfl rfl rfl (fun w hw => (hR.keep hw.clear).cell hly rfl) ?_
    refine r_callx rfl rfl rfl (by kernel_rfl) rfl (fun w hw => refBasic30 x (by omega) w) ?_
    rintro ⟨A8, c8⟩ _
    refine r_assign rfl rfl ?_
    refine r_nil ?_
    refine r_tn ?_
    refine r_seq ?_
    refine r_seq ?_
    refine r_region ?_
    refine r_move rfl rfl ?_
    refine r_len rfl rfl rfl ?_
    refine r_eql (p := decide ((basicL x).length = 0)) rfl rfl rfl (decide_eq_decide.2 ⟨fun _ => by omega, fun _ => by omega⟩) ?_
    refine r_nil ?_
    refine r_tn ?_
    refine r_cond rfl (fun hc => ?_) (fun hc => ?_)
    · refine r_seq ?_
      refine r_region ?_
      refine r_move rfl rfl ?_
      refine r_assign rfl rfl ?_
      refine r_assign rfl rfl ?_
      refine r_assign rfl rfl ?_
      refine r_nil ?_
      refine r_tn ?_
      refine r_ret ?_
      refine r_tr ?_
      refine r_br ?_
      refine r_tr ?_
      refine r_tr ?_
      refine r_br ?_
      refine r_tr ?_
      have hb1 : lineC ls[i] = none := by rw [hx]; exact bas_nil (List.eq_nil_of_length_eq_zero (of_decide_eq_true hc))
      exact r_done3 (.inl rfl) rfl (res_tmp rfl) (res_tmp rfl) (res_tmp rfl) fun w hw => .inr ⟨okLs_no hi2 hb1, by rw [badI_at hi2 hb1 hgood], hw.clear⟩
    · refine r_skip ?_
      refine r_tn ?_
      refine r_seq ?_
      refine r_region ?_
      refine r_assign rfl rfl ?_
      refine r_nil ?_
      refine r_tn ?_
      refine r_block ?_
      obtain ⟨cx, hxc⟩ := bas_some (x := x) (fun e => of_decide_eq_false hc (by rw [e]; rfl))
      clear hc
      have hb3 := bas_len x
      refine r_loop1 (T0 := BIx) (fun k ix => [(0, .slice (some ⟨ba, oa, none⟩) ls.length c), (5, .slice ix.A0 (runL (stOf (ls.take i)) ((basicL x).take k)).fs.length ix.c0), (6, .slice ix.A1 (runL (stOf (ls.take i)) ((basicL x).take k)).pr.length ix.c1), (7, .int .i64 (i : Int)), (8, .slice A8 (basicL x).length c8), (9, .int .i64 (k : Int))]) (fun k ix => [.own 25 1 (.slice ix.A0 (runL (stOf (ls.take i)) ((basicL x).take k)).fs.length ix.c0) (runL (stOf (ls.take i)) ((basicL x).take k)).fs.length ix.hv, .own 32 2 (.slice ix.A1 (runL (stOf (ls.take i)) ((basicL x).take k)).pr.length ix.c1) (runL (stOf (ls.take i)) ((basicL x).take k)).pr.length (evsL (runL (stOf (ls.take i)) ((basicL x).take k)).pr), .own 9 1 (.slice A8 (basicL x).length c8) (basicL x).length ((basicL x).map txV)] ++ ownsOf ix.L) (fun k ix => k ≤ (basicL x).length ∧ FrL ix.hv (runL (stOf (ls.take i)) ((basicL x).take k)).fs ix.L) (basicL x).length 0 ix ⟨by omega, by rw [run_zero]; exact hF⟩ ⟨rfl, by rw [run_zero]; rfl, by rw [run_zero]; rfl, rfl, rfl, rfl, trivial⟩ (fun w hw => by rw [run_zero]; have h2 : Sat _ _ (.own 25 1 (.slice ix.A0 (stOf (ls.take i)).fs.length ix.c0) (stOf (ls.take i)).fs.length ix.hv :: .own 32 2 (.slice ix.A1 (stOf (ls.take i)).pr.length ix.c1) (stOf (ls.take i)).pr.length (evsL (stOf (ls.take i)).pr) :: .own 9 1 (.slice A8 (basicL x).length c8) (basicL x).length ((basicL x).map txV) :: ownsOf ix.L) w := hw.sub; exact h2) fun k ix hp => ?_
      obtain ⟨hk, hF2⟩ := hp
      obtain ⟨hm1, hm2⟩ := run_bound (stOf (ls.take i)) ((basicL x).take k)
      have hm3 : ((basicL x).take k).length ≤ 3 := by rw [List.length_take]; omega
      refine r_seq ?_
      refine r_seq ?_
      refine r_region ?_
      refine r_move rfl rfl ?_
      refine r_move rfl rfl ?_
      refine r_len rfl rfl rfl ?_
      refine r_lss (p := decide (k < (basicL x).length)) rfl rfl rfl (decide_eq_decide.2 ⟨fun _ => by omega, fun _ => by omega⟩) ?_
      refine r_nil ?_
      refine r_tn ?_
      refine r_cond rfl (fun hc => ?_) (fun hc => ?_)
      · refine r_skip ?_
        refine r_tn ?_
        refine r_seq ?_
        refine r_block ?_
        refine r_seq ?_
        refine r_region ?_
        have hk2 : k < (basicL x).length := by have h := of_decide_eq_true hc; omega
        clear hc
        obtain ⟨y, hy⟩ : ∃ y, (basicL x)[k] = y := ⟨_, rfl⟩
        have hym : y ∈ basicL x := by rw [← hy]; exact List.getElem_mem hk2
        have hyy : ((basicL x).map txV)[k]? = some (txV y) := by rw [txs_at hk2, hy]
        have hyl := bas_small hym (by omega : x.length ≤ 100000000)
        obtain ⟨w0, w1, hsp, hcw, hck⟩ := basic_line hym
        have hst2 : runL (stOf (ls.take i)) ((basicL x).take (k + 1)) = stTry (runL (stOf (ls.take i)) ((basicL x).take k)) (lineC y) := by rw [takeL_snoc hk2, runL_app, hy, run_one]
        refine r_have (fun w hw => own_some (A := A8) (m := (basicL x).length) (c := c8) hw (by omega)) fun hg => ?_
        obtain ⟨g8, rfl⟩ := hg
        refine r_move rfl rfl ?_
        refine r_move rfl rfl ?_
        refine r_indexSl (sz := 1) (o' := 0 + k) rfl rfl rfl rfl rfl (by omega) (by omega) (by omega) ?_
        refine r_loadC (p := ⟨g8, 0 + k, none⟩) (v := txV y) rfl rfl rfl (fun w hw => (own_rd (A := some ⟨g8, 0, none⟩) (m := (basicL x).length) (c := c8) hw).cell hyy rfl) ?_
        refine r_callx rfl rfl rfl (by kernel_rfl) rfl (fun w hw => refSplitB y hyl w) ?_
        rintro ⟨A10, c10⟩ _
        rw [hsp]
        refine r_have (fun w hw => own_some (A := A10) (m := [w0, w1].length) (c := c10) hw (by simp)) fun hg => ?_
        obtain ⟨g10, rfl⟩ := hg
        refine r_assign rfl rfl ?_
        refine r_nil ?_
        refine r_tn ?_
        refine r_seq ?_
        refine r_region ?_
        refine r_move rfl rfl ?_
        refine r_indexSl (sz := 1) (o' := 0 + 0) rfl rfl rfl rfl rfl (by simp) (by simp) rfl ?_
        refine r_loadC (p := ⟨g10, 0 + 0, none⟩) (v := txV w0) rfl rfl rfl (fun w hw => (own_rd (A := some ⟨g10, 0, none⟩) (m := 2) (c := c10) hw).cell (j := 0) rfl rfl) ?_
        refine r_eql_string (a := tx w0) (b := tx waitW) (p := decide (w0 = waitW)) rfl rfl rfl (str_dec _ _) ?_
        refine r_nil ?_
        refine r_tn ?_
        refine r_cond rfl (fun hc => ?_) (fun hc => ?_)
        · refine r_seq ?_
          refine r_region ?_
          obtain ⟨n, hcn, hn5, hn6, hyc⟩ := hcw (of_decide_eq_true hc)
          clear hc
          refine r_move rfl rfl ?_
          refine r_move rfl rfl ?_
          refine r_lit (sz := 1) (pv := [(0, .slice ix.A1 (runL (stOf (ls.take i)) ((basicL x).take k)).pr.length ix.c1)]) (cells := #[.slice ix.A1 (runL (stOf (ls.take i)) ((basicL x).take k)).pr.length ix.c1]) rfl rfl rfl rfl rfl rfl (by kernel_rfl) rfl (fun b44 => ?_) (by decide)
          refine r_append (k := 1) (news := [.slice ix.A1 (runL (stOf (ls.take i)) ((basicL x).take k)).pr.length ix.c1]) (sz := 1) (bytes := 24) rfl rfl rfl rfl rfl rfl (by decide) (fun w hw => own_rd (A := some ⟨b44, 0, none⟩) (m := 1) (c := 1) hw) rfl (fun u hu => by simp at hu; subst hu; rfl) (by omega) (by unfold maxLen; omega) fun A45 c45 => ?_
          refine r_assign rfl rfl ?_
          refine r_nil ?_
          refine r_tn ?_
          refine r_seq ?_
          refine r_region ?_
          refine r_assign rfl rfl ?_
          refine r_nil ?_
          refine r_tn ?_
          refine r_seq ?_
          refine r_region ?_
          refine r_assign rfl rfl ?_
          refine r_nil ?_
          refine r_tn ?_
          refine r_block ?_
          refine Run.ownNil 32 2 ?_
          refine r_loop2 (fun j A5 c5 => [(0, .slice (some ⟨ba, oa, none⟩) ls.length c), (5, .slice A5 ((runL (stOf (ls.take i)) ((basicL x).take k)).fs.length + 1 + j) c5), (6, .slice none 0 0), (7, .int .i64 (i : Int)), (8, .slice (some ⟨g8, 0, none⟩) (basicL x).length c8), (9, .int .i64 (k : Int)), (10, .slice (some ⟨g10, 0, none⟩) 2 c10), (11, .int .i64 ((j + 1 : Nat) : Int))]) (fun j A5 c5 => (.own 25 1 (.slice A5 ((runL (stOf (ls.take i)) ((basicL x).take k)).fs.length + 1 + j) c5) ((runL (stOf (ls.take i)) ((basicL x).take k)).fs.length + 1 + j) (ix.hv ++ [.slice ix.A1 (runL (stOf (ls.take i)) ((basicL x).take k)).pr.length ix.c1] ++ List.replicate j (.slice none 0 0)) :: .own 32 2 (.slice none 0 0) 0 [] :: .own 32 2 (.slice ix.A1 (runL (stOf (ls.take i)) ((basicL x).take k)).pr.length ix.c1) (runL (stOf (ls.take i)) ((basicL x).take k)).pr.length (evsL (runL (stOf (ls.take i)) ((basicL x).take k)).pr) :: .own 9 1 (.slice (some ⟨g8, 0, none⟩) (basicL x).length c8) (basicL x).length ((basicL x).map txV) :: .own 9 1 (.slice (some ⟨g10, 0, none⟩) 2 c10) 2 ([w0, w1].map txV) :: ownsOf ix.L)) (fun j A5 c5 => j + 1 ≤ n) n 0 A45 c45 (by omega) ⟨rfl, rfl, rfl, rfl, rfl, rfl, rfl, rfl, trivial⟩ (fun w hw => by rw [List.replicate_zero, List.append_nil]; have h2 : Sat _ _ ((.own 25 1 (.slice A45 ((runL (stOf (ls.take i)) ((basicL x).take k)).fs.length + 1) c45) ((runL (stOf (ls.take i)) ((basicL x).take k)).fs.length + 1) (ix.hv ++ [.slice ix.A1 (runL (stOf (ls.take i)) ((basicL x).take k)).pr.length ix.c1]) :: .own 32 2 (.slice none 0 0) 0 [] :: .own 32 2 (.slice ix.A1 (runL (stOf (ls.take i)) ((basicL x).take k)).pr.length ix.c1) (runL (stOf (ls.take i)) ((basicL x).take k)).pr.length (evsL (runL (stOf (ls.take i)) ((basicL x).take k)).pr) :: .own 9 1 (.slice (some ⟨g8, 0, none⟩) (basicL x).length c8) (basicL x).length ((basicL x).map txV) :: .own 9 1 (.slice (some ⟨g10, 0, none⟩) 2 c10) 2 ([w0, w1].map txV) :: ownsOf ix.L)) w := hw.sub; exact h2) fun j A5 c5 hj => ?_
          refine r_seq ?_
          refine r_seq ?_
          refine r_region ?_
          refine r_move rfl rfl ?_
          refine r_move rfl rfl ?_
          refine r_indexSl (sz := 1) (o' := 0 + 1) rfl rfl rfl rfl rfl (by simp) (by simp) rfl ?_
          refine r_loadC (p := ⟨g10, 0 + 1, none⟩) (v := txV w1) rfl rfl rfl (fun w hw => (own_rd (A := some ⟨g10, 0, none⟩) (m := 2) (c := c10) hw).cell (j := 1) rfl rfl) ?_
          refine r_call rfl rfl rfl (by kernel_rfl) rfl (fun w hw => by have h := refCount30 w1 w; rw [hcn] at h; exact h) ?_
          refine r_lss (p := decide (j + 1 < n)) rfl rfl rfl (by show decide (((j + 1 : Nat) : Int) < ((n : Nat) : Int)) = _; exact decide_eq_decide.2 ⟨fun _ => by omega, fun _ => by omega⟩) ?_
          refine r_nil ?_
          refine r_tn ?_
          refine r_cond rfl (fun hc => ?_) (fun hc => ?_)
          · refine r_skip ?_
            refine r_tn ?_
            refine r_seq ?_
            refine r_block ?_
            refine r_region ?_
            have hj2 : j + 1 < n := of_decide_eq_true hc
            clear hc
            refine r_move rfl rfl ?_
            refine r_lit (sz := 1) (pv := [(0, .slice none 0 0)]) (cells := #[.slice none 0 0]) rfl rfl rfl rfl rfl rfl (by kernel_rfl) rfl (fun b55 => ?_) (by decide)
            refine r_append (k := 1) (news := [.slice none 0 0]) (sz := 1) (bytes := 24) rfl rfl rfl rfl rfl rfl (by decide) (fun w hw => own_rd (A := some ⟨b55, 0, none⟩) (m := 1) (c := 1) hw) rfl (fun u hu => by simp at hu; subst hu; rfl) (by omega) (by unfold maxLen; omega) fun A56 c56 => ?_
            refine r_assign rfl rfl ?_
            refine r_nil ?_
            refine r_bn ?_
            refine r_tn ?_
            refine r_region ?_
            refine r_move rfl rfl ?_
            refine r_add rfl rfl rfl (w64 (by omega)) ?_
            refine r_assign rfl rfl ?_
            refine r_nil ?_
            refine r_tn ?_
            exact r_again2 (j + 1) A56 c56 (by omega) (by omega) ⟨rfl, rfl, rfl, rfl, rfl, rfl, rfl, rfl, trivial⟩ (fun w hw => by rw [List.replicate_succ', ← List.append_assoc]; exact hw.sub)
          · refine r_exit ?_
            refine r_te ?_
            refine r_te ?_
            refine r_be ?_
            refine r_bn ?_
            refine r_tn ?_
            refine r_region ?_
            refine r_move rfl rfl ?_
            refine r_add rfl rfl rfl (w64 (by omega)) ?_
            refine r_assign rfl rfl ?_
            refine r_nil ?_
            refine r_tn ?_
            first
             | (have hsk : runL (stOf (ls.take i)) ((basicL x).take (k + 1)) = stEv (runL (stOf (ls.take i)) ((basicL x).take k)) ((m : Int), decide (w0 = pressW)) := by rw [hst2, hyc]; rfl
                exact r_again1 (k + 1) ⟨ix.A0, ix.c0, A70, c70, ix.hv, ix.L⟩ ⟨by omega, by rw [hsk]; exact hF2⟩ (by omega) ⟨rfl, by rw [hsk]; rfl, by rw [hsk, stEv_len]; rfl, rfl, rfl, rfl, trivial⟩ (fun w hw => by
                  rw [hsk, stEv_len, stEv_pr, evsL_snoc]
                  have h2 : Sat _ _ (.own 25 1 (.slice ix.A0 (runL (stOf (ls.take i)) ((basicL x).take k)).fs.length ix.c0) (runL (stOf (ls.take i)) ((basicL x).take k)).fs.length ix.hv :: .own 32 2 (.slice A70 ((runL (stOf (ls.take i)) ((basicL x).take k)).pr.length + 1) c70) ((runL (stOf (ls.take i)) ((basicL x).take k)).pr.length + 1) (evsL (runL (stOf (ls.take i)) ((basicL x).take k)).pr ++ [.int .i64 (m : Int), .bool (decide (w0 = pressW))]) :: .own 9 1 (.slice (some ⟨g8, 0, none⟩) (basicL x).length c8) (basicL x).length ((basicL x).map txV) :: ownsOf ix.L) w := hw.sub
                  exact h2))
             | (have hjn : j + 1 = n := by have h : ¬ j + 1 < n := of_decide_eq_false hc; omega
                have hsk : runL (stOf (ls.take i)) ((basicL x).take (k + 1)) = stWait (runL (stOf (ls.take i)) ((basicL x).take k)) n := by rw [hst2, hyc]; rfl
                have hfl : (stWait (runL (stOf (ls.take i)) ((basicL x).take k)) n).fs.length = (runL (stOf (ls.take i)) ((basicL x).take k)).fs.length + 1 + j := by rw [stWait_len]; omega
                exact r_again1 (k + 1) ⟨A5, c5, none, 0, wHv ix (runL (stOf (ls.take i)) ((basicL x).take k)) n, wL ix (runL (stOf (ls.take i)) ((basicL x).take k))⟩ ⟨by omega, by rw [hsk]; exact hF2.wait n⟩ (by omega) ⟨rfl, by rw [hsk, hfl]; rfl, by rw [hsk]; rfl, rfl, rfl, rfl, trivial⟩ (fun w hw => by
                  rw [hsk, hfl, wHv_def (j := j) (by omega), stWait_pr, evsL_nil]
                  show Sat _ _ (.own 25 1 (.slice A5 ((runL (stOf (ls.take i)) ((basicL x).take k)).fs.length + 1 + j) c5) ((runL (stOf (ls.take i)) ((basicL x).take k)).fs.length + 1 + j) (ix.hv ++ [.slice ix.A1 (runL (stOf (ls.take i)) ((basicL x).take k)).pr.length ix.c1] ++ List.replicate j (.slice none 0 0)) :: .own 32 2 (.slice none 0 0) 0 [] :: .own 9 1 (.slice (some ⟨g8, 0, none⟩) (basicL x).length c8) (basicL x).length ((basicL x).map txV) :: ownsOf ((.slice ix.A1 (runL (stOf (ls.take i)) ((basicL x).take k)).pr.length ix.c1, (runL (stOf (ls.take i)) ((basicL x).take k)).pr) :: ix.L)) w
                  rw [ownsOf_cons]
                  exact hw.sub))
        · refine r_mixedD { xb := [], rb := [g10, g10], rs := [62, 66], fs := [], acs := [57, 59, 63] } (by kernel_rfl) (by kernel_rfl) (fun w hw k2 hk2 => by
            have e : k2 = g10 := by simpa using hk2
            subst e
            exact own_blt (m := 2) (c := c10) hw) ?_
          obtain ⟨m, hkm, hyc⟩ := hck (of_decide_eq_false hc)
          clear hc
          refine r_lit (sz := 2) (pv := []) (cells := #[]) rfl rfl rfl rfl rfl rfl (by kernel_rfl) rfl (fun b57 => ?_) (by decide)
          refine r_move rfl rfl ?_
          refine r_append0 (k := (runL (stOf (ls.take i)) ((basicL x).take k)).pr.length) (news := evsL (runL (stOf (ls.take i)) ((basicL x).take k)).pr) (sz := 2) (bytes := 16) rfl rfl rfl rfl rfl rfl (by decide) (fun w hw => own_rd (A := ix.A1) (m := (runL (stOf (ls.take i)) ((basicL x).take k)).pr.length) (c := ix.c1) hw) (evsL_len _) (evsL_one _) (by omega) (by unfold maxLen; omega) fun A59 c59 => ?_
          refine r_move rfl rfl ?_
          refine r_indexSl (sz := 1) (o' := 0 + 1) rfl rfl rfl rfl rfl (by simp) (by simp) rfl ?_
          refine r_loadC (p := ⟨g10, 0 + 1, none⟩) (v := txV w1) rfl rfl rfl (fun w hw => (own_rd (A := some ⟨g10, 0, none⟩) (m := 2) (c := c10) hw).cell (j := 1) rfl rfl) ?_
          refine r_call rfl rfl rfl (by kernel_rfl) rfl (fun w hw => by have h := refKey30 w1 w; rw [hkm] at h; exact h) ?_
          refine r_move rfl rfl ?_
          refine r_indexSl (sz := 1) (o' := 0 + 0) rfl rfl rfl rfl rfl (by simp) (by simp) rfl ?_
          refine r_loadC (p := ⟨g10, 0 + 0, none⟩) (v := txV w0) rfl rfl rfl (fun w hw => (own_rd (A := some ⟨g10, 0, none⟩) (m := 2) (c := c10) hw).cell (j := 0) rfl rfl) ?_
          refine r_eql_string (a := tx w0) (b := tx pressW) (p := decide (w0 = pressW)) rfl rfl rfl (str_dec _ _) ?_
          refine r_build (cells := #[.int .i64 (m : Int), .bool (decide (w0 = pressW))]) rfl rfl (by kernel_rfl) ?_
          refine r_lit (sz := 2) (pv := [(0, .agg #[.int .i64 (m : Int), .bool (decide (w0 = pressW))])]) (cells := #[.int .i64 (m : Int), .bool (decide (w0 = pressW))]) rfl rfl rfl rfl rfl rfl (by kernel_rfl) rfl (fun b69 => ?_) (by decide)
          refine r_append (k := 1) (news := [.int .i64 (m : Int), .bool (decide (w0 = pressW))]) (sz := 2) (bytes := 16) rfl rfl rfl rfl rfl rfl (by decide) (fun w hw => own_rd (A := some ⟨b69, 0, none⟩) (m := 1) (c := 1) hw) rfl (fun u hu => by simp at hu; rcases hu with rfl | rfl <;> rfl) (by omega) (by unfold maxLen; omega) fun A70 c70 => ?_
          refine r_assign rfl rfl ?_
          refine r_nil ?_
          refine r_bn ?_
          refine r_tn ?_
          refine r_region ?_
          refine r_move rfl rfl ?_
          refine r_add rfl rfl rfl (w64 (by omega)) ?_
          refine r_assign rfl rfl ?_
          refine r_nil ?_
          refine r_tn ?_
          first
           | (have hsk : runL (stOf (ls.take i)) ((basicL x).take (k + 1)) = stEv (runL (stOf (ls.take i)) ((basicL x).take k)) ((m : Int), decide (w0 = pressW)) := by rw [hst2, hyc]; rfl
              exact r_again1 (k + 1) ⟨ix.A0, ix.c0, A70, c70, ix.hv, ix.L⟩ ⟨by omega, by rw [hsk]; exact hF2⟩ (by omega) ⟨rfl, by rw [hsk]; rfl, by rw [hsk, stEv_len]; rfl, rfl, rfl, rfl, trivial⟩ (fun w hw => by
                rw [hsk, stEv_len, stEv_pr, evsL_snoc]
                have h2 : Sat _ _ (.own 25 1 (.slice ix.A0 (runL (stOf (ls.take i)) ((basicL x).take k)).fs.length ix.c0) (runL (stOf (ls.take i)) ((basicL x).take k)).fs.length ix.hv :: .own 32 2 (.slice A70 ((runL (stOf (ls.take i)) ((basicL x).take k)).pr.length + 1) c70) ((runL (stOf (ls.take i)) ((basicL x).take k)).pr.length + 1) (evsL (runL (stOf (ls.take i)) ((basicL x).take k)).pr ++ [.int .i64 (m : Int), .bool (decide (w0 = pressW))]) :: .own 9 1 (.slice (some ⟨g8, 0, none⟩) (basicL x).length c8) (basicL x).length ((basicL x).map txV) :: ownsOf ix.L) w := hw.sub
                exact h2))
           | (have hjn : j + 1 = n := by have h : ¬ j + 1 < n := of_decide_eq_false hc; omega
              have hsk : runL (stOf (ls.take i)) ((basicL x).take (k + 1)) = stWait (runL (stOf (ls.take i)) ((basicL x).take k)) n := by rw [hst2, hyc]; rfl
              have hfl : (stWait (runL (stOf (ls.take i)) ((basicL x).take k)) n).fs.length = (runL (stOf (ls.take i)) ((basicL x).take k)).fs.length + 1 + j := by rw [stWait_len]; omega
              exact r_again1 (k + 1) ⟨A5, c5, none, 0, wHv ix (runL (stOf (ls.take i)) ((basicL x).take k)) n, wL ix (runL (stOf (ls.take i)) ((basicL x).take k))⟩ ⟨by omega, by rw [hsk]; exact hF2.wait n⟩ (by omega) ⟨rfl, by rw [hsk, hfl]; rfl, by rw [hsk]; rfl, rfl, rfl, rfl, trivial⟩ (fun w hw => by
                rw [hsk, hfl, wHv_def (j := j) (by omega), stWait_pr, evsL_nil]
                show Sat _ _ (.own 25 1 (.slice A5 ((runL (stOf (ls.take i)) ((basicL x).take k)).fs.length + 1 + j) c5) ((runL (stOf (ls.take i)) ((basicL x).take k)).fs.length + 1 + j) (ix.hv ++ [.slice ix.A1 (runL (stOf (ls.take i)) ((basicL x).take k)).pr.length ix.c1] ++ List.replicate j (.slice none 0 0)) :: .own 32 2 (.slice none 0 0) 0 [] :: .own 9 1 (.slice (some ⟨g8, 0, none⟩) (basicL x).length c8) (basicL x).length ((basicL x).map txV) :: ownsOf ((.slice ix.A1 (runL (stOf (ls.take i)) ((basicL x).take k)).pr.length ix.c1, (runL (stOf (ls.take i)) ((basicL x).take k)).pr) :: ix.L)) w
                rw [ownsOf_cons]
                exact hw.sub))
      · refine r_exit ?_
        refine r_te ?_
        refine r_te ?_
        refine r_be ?_
        refine r_bn ?_
        refine r_tn ?_
        refine r_region ?_
        refine r_move rfl rfl ?_
        refine r_add rfl rfl rfl (w64 (by omega)) ?_
        refine r_assign rfl rfl ?_
        refine r_nil ?_
        refine r_tn ?_
        have hk3 : k = (basicL x).length := by have h : ¬ k < (basicL x).length := of_decide_eq_false hc; omega
        subst hk3
        have hst : runL (stOf (ls.take i)) ((basicL x).take (basicL x).length) = stOf (ls.take (i + 1)) := by rw [List.take_length, takeL_snoc hi2, stOf_snoc, hx]; exact bas_run hxc _
        exact r_again1 (i + 1) ix ⟨by omega, fun j h hj => by
          by_cases e : j = i
          · subst e; rw [hx, hxc]; rfl
          · exact hgood j h (by omega), by rw [← hst]; exact hF2⟩ (by omega) ⟨rfl, by rw [← hst]; rfl, by rw [← hst]; rfl, rfl, trivial⟩ (fun w hw => by
          rw [← hst]
          have h2 : Sat _ _ (.own 25 1 (.slice ix.A0 (runL (stOf (ls.take i)) ((basicL x).take (basicL x).length)).fs.length ix.c0) (runL (stOf (ls.take i)) ((basicL x).take (basicL x).length)).fs.length ix.hv :: .own 32 2 (.slice ix.A1 (runL (stOf (ls.take i)) ((basicL x).take (basicL x).length)).pr.length ix.c1) (runL (stOf (ls.take i)) ((basicL x).take (basicL x).length)).pr.length (evsL (runL (stOf (ls.take i)) ((basicL x).take (basicL x).length)).pr) :: ownsOf ix.L) w := hw.sub
          exact h2)
  · refine r_exit ?_
    refine r_te ?_
    refine r_te ?_
    refine r_be ?_
    refine r_tn ?_
    refine r_seq ?_
    refine r_seq ?_
    refine r_region ?_
    have hi3 : i = ls.length := by have h : ¬ i < ls.length := of_decide_eq_false hc; omega
    clear hc
    subst hi3
    rw [List.take_length] at hF hn1 hn2 hn3 ⊢
    refine r_move rfl rfl ?_
    refine r_len rfl rfl rfl ?_
    refine r_gtr (p := decide (0 < (stOf ls).pr.length)) rfl rfl rfl (decide_eq_decide.2 ⟨fun _ => by omega, fun _ => by omega⟩) ?_
    refine r_nil ?_
    refine r_tn ?_
    refine r_cond rfl (fun hc => ?_) (fun hc => ?_)
    · refine r_region ?_
      have hpr : (stOf ls).pr ≠ [] := fun e => by have h : 0 < (stOf ls).pr.length := of_decide_eq_true hc; rw [e] at h; exact absurd h (Nat.lt_irrefl 0)
      refine r_move rfl rfl ?_
      refine r_move rfl rfl ?_
      refine r_lit (sz := 1) (pv := [(0, .slice ix.A1 (stOf ls).pr.length ix.c1)]) (cells := #[.slice ix.A1 (stOf ls).pr.length ix.c1]) rfl rfl rfl rfl rfl rfl (by kernel_rfl) rfl (fun b76 => ?_) (by decide)
      refine r_append (k := 1) (news := [.slice ix.A1 (stOf ls).pr.length ix.c1]) (sz := 1) (bytes := 24) rfl rfl rfl rfl rfl rfl (by decide) (fun w hw => own_rd (A := some ⟨b76, 0, none⟩) (m := 1) (c := 1) hw) rfl (fun u hu => by simp at hu; subst hu; rfl) (by omega) (by unfold maxLen; omega) fun A77 c77 => ?_
      refine r_assign rfl rfl ?_
      refine r_nil ?_
      refine r_tn ?_
      refine r_seq ?_
      refine r_region ?_
      refine r_move rfl rfl ?_
      refine r_assign rfl rfl ?_
      refine r_assign rfl rfl ?_
      refine r_assign rfl rfl ?_
      refine r_nil ?_
      refine r_tn ?_
      refine r_ret ?_
      exact r_done3 (.inl rfl) rfl (res_tmp rfl) (res_tmp rfl) (res_tmp rfl) fun w hw => .inl ⟨okLs_yes hgood, ⟨A77, c77, none, 0, resH (stOf ls) ix, resL (stOf ls) ix⟩, by rw [resF_yes hpr, len_snoc], hF.res, by
        rw [resF_yes hpr, len_snoc, resH_yes hpr, resL_yes hpr]
        show Sat _ _ (.own 25 1 (.slice A77 ((stOf ls).fs.length + 1) c77) ((stOf ls).fs.length + 1) (ix.hv ++ [.slice ix.A1 (stOf ls).pr.length ix.c1]) :: ownsOf ((.slice ix.A1 (stOf ls).pr.length ix.c1, (stOf ls).pr) :: ix.L)) w
        rw [ownsOf_cons]
        exact hw.sub⟩
    · refine r_skip ?_
      refine r_tn ?_
      refine r_seq ?_
      refine r_region ?_
      refine r_move rfl rfl ?_
      refine r_assign rfl rfl ?_
      refine r_assign rfl rfl ?_
      refine r_assign rfl rfl ?_
      refine r_nil ?_
      refine r_tn ?_
      refine r_ret ?_
      have hpr : (stOf ls).pr = [] := by have h : ¬ 0 < (stOf ls).pr.length := of_decide_eq_false hc; exact List.eq_nil_of_length_eq_zero (by omega)
      exact r_done3 (.inl rfl) rfl (res_tmp rfl) (res_tmp rfl) (res_tmp rfl) fun w hw => .inl ⟨okLs_yes hgood, ⟨ix.A0, ix.c0, none, 0, resH (stOf ls) ix, resL (stOf ls) ix⟩, by rw [resF_no hpr], hF.res, by
        rw [resF_no hpr, resH_no hpr, resL_no hpr]
        have h2 : Sat _ _ (.own 25 1 (.slice ix.A0 (stOf ls).fs.length ix.c0) (stOf ls).fs.length ix.hv :: ownsOf ix.L) w := hw.sub
        exact h2⟩
end Go.Proofs.YtghjbnbkfohmlaaDoor
