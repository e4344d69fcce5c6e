/-
  Rendering (chapter 24): Parse.
-/
import Derived.Test.YtdkgnnieehidbaaDoorPix24
namespace Go.Proofs.YtdkgnnieehidbaaDoor
open Go Go.RowKit
set_option linter.unusedVariables false
set_option linter.unusedSimpArgs false
set_option maxHeartbeats 2000000
set_option maxRecDepth 4000
attribute [local irreducible] mix

theorem planesV_one (P : Nat → Nat → Nat → Bool) : (planesV P).toList.all Value.oneCell' = true := by
  refine List.all_eq_true.2 fun v hv => ?_
  have hv : v ∈ planesL P := hv
  obtain ⟨x, _, rfl⟩ := List.mem_map.1 hv
  rfl
theorem zero46 : ((Tryd.prog.info? 46).bind (·.zero)) = some (.agg (planesV fun _ => noneQ)) := by kernel_rfl
/-- what Parse answers -/
def parseV (ls : List (List UInt8)) : Value := .tuple (if parseOK ls then #[.agg (planesV (linesP ls)), .bool (hiL ls), .int .i64 0] else #[.agg (planesV fun _ => noneQ), .bool false, .int .i64 6])
theorem parseV_no {ls : List (List UInt8)} (h : parseOK ls = false) : parseV ls = .tuple #[.agg (planesV fun _ => noneQ), .bool false, .int .i64 6] := by unfold parseV; rw [h]; rfl
theorem parseV_yes {ls : List (List UInt8)} (h : parseOK ls = true) : parseV ls = .tuple #[.agg (planesV (linesP ls)), .bool (hiL ls), .int .i64 0] := by unfold parseV; rw [h]; rfl
attribute [local irreducible] planesV parseV pQ stQ bq linesP valB


theorem parse24 (A : Option Addr) (c : Nat) (ls : List (List UInt8)) (hlm : ls.length ≤ 1000000) (w : World) (hR : Rd w A (ls.map txV)) :
    Calls Tryd.prog 21 #[.slice A ls.length c] w fun e w' => e = .returned (parseV ls) ∧ Sat w [] [] w' := by
  refine enter Tryd.func21 rfl rfl rfl ?_
  refine r_seq ?_
  refine r_region ?_
  refine r_allocV (cs := planesV (fun _ => noneQ)) zero46 rfl fun b2 => ?_
  refine r_assign rfl rfl ?_
  refine r_assign rfl rfl ?_
  refine r_nil ?_
  refine r_tn ?_
  refine r_seq ?_
  refine r_region ?_
  refine r_allocV (cs := planesV (fun _ => noneQ)) zero46 rfl fun b5 => ?_
  refine r_allocV (cs := planesV (fun _ => noneQ)) zero46 rfl fun b6 => ?_
  refine r_nil ?_
  refine r_tn ?_
  refine r_seq ?_
  refine r_region ?_
  refine r_move rfl rfl ?_
  refine r_len rfl rfl rfl ?_
  refine r_eql (p := hiL ls) rfl rfl rfl (show decide _ = decide _ from decide_eq_decide.2 ⟨fun _ => by omega, fun _ => by omega⟩) ?_
  refine r_assign rfl rfl ?_
  refine r_nil ?_
  refine r_tn ?_
  refine r_seq ?_
  refine r_region ?_
  refine r_move rfl rfl ?_
  refine r_call rfl rfl rfl (by kernel_rfl) rfl (fun w hw => by exact size07 (hiL ls) w) ?_
  refine r_move rfl rfl ?_
  refine r_extract rfl rfl rfl ?_
  refine r_extract rfl rfl rfl ?_
  refine r_assign rfl rfl ?_
  refine r_assign rfl rfl ?_
  refine r_nil ?_
  refine r_tn ?_
  refine r_seq ?_
  refine r_seq ?_
  refine r_region ?_
  refine r_move rfl rfl ?_
  refine r_len rfl rfl rfl ?_
  refine r_move rfl rfl ?_
  refine r_neq (p := decide (ls.length ≠ ht (hiL ls))) rfl rfl rfl (decide_eq_decide.2 ⟨fun _ => by omega, fun _ => by omega⟩) ?_
  refine r_nil ?_
  refine r_tn ?_
  refine r_cond rfl (fun hc => ?_) (fun hc => ?_)
  · refine r_seq ?_
    refine r_region ?_
    refine r_loadV rfl rfl rfl rfl (planesV_size _) ?_
    refine r_storeV rfl rfl rfl (planesV_size _) (planesV_size _) (planesV_one _) ?_
    refine r_assign rfl rfl ?_
    refine r_assign rfl rfl ?_
    refine r_nil ?_
    refine r_tn ?_
    refine r_ret ?_
    refine r_tr ?_
    rw [parseV_no (parse_len (of_decide_eq_true hc))]
    exact r_done3 (.inl rfl) rfl (res_cellV rfl rfl rfl (planesV_size _)) (res_tmp rfl) (res_tmp rfl) fun w hw => ⟨rfl, hw.clear⟩
  · refine r_skip ?_
    refine r_tn ?_
    refine r_seq ?_
    refine r_seq ?_
    refine r_region ?_
    refine r_move rfl rfl ?_
    refine r_len rfl rfl rfl ?_
    refine r_move rfl rfl ?_
    refine r_nil ?_
    refine r_tn ?_
    refine r_block ?_
    have hlen : ls.length = ht (hiL ls) := by have h := of_decide_eq_false hc; omega
    clear hc
    refine r_loopN (fun y => [(2, .pointer (some ⟨b2, 0, none⟩)), (5, .pointer (some ⟨b5, 0, none⟩)), (6, .pointer (some ⟨b6, 0, none⟩)), (7, .bool (hiL ls)), (8, .int .i64 (wd (hiL ls) : Nat)), (9, .int .i64 (ht (hiL ls) : Nat)), (29, .slice A ls.length c), (30, .int .i64 (ls.length : Int)), (31, .int .i64 (y : Int))]) (fun y => [.blk b2 (.cells (planesV (fun _ => noneQ)) 46 (0, 0)), .blk b5 (.cells (planesV (fun _ => noneQ)) 46 (0, 0)), .blk b6 (.cells (planesV (pQ ls y 0)) 46 (0, 0))]) (fun y => y ≤ ls.length ∧ ∀ j (hj : j < ls.length), j < y → okLine (wd (hiL ls)) ls[j] = true) ls.length 0 ⟨by omega, fun j hj h => by omega⟩ ⟨rfl, rfl, rfl, rfl, rfl, rfl, rfl, rfl, rfl, trivial⟩ (fun w hw => by rw [start_eq]; have h2 : Sat _ _ [.blk b2 (.cells (planesV (fun _ => noneQ)) 46 (0, 0)), .blk b5 (.cells (planesV (fun _ => noneQ)) 46 (0, 0)), .blk b6 (.cells (planesV (fun _ => noneQ)) 46 (0, 0))] w := hw.sub; exact h2) fun y hy => ?_
    obtain ⟨hy, hok⟩ := hy
    refine r_seq ?_
    refine r_region ?_
    refine r_lss rfl rfl rfl rfl ?_
    refine r_nil ?_
    refine r_tn ?_
    refine r_seq ?_
    refine r_cond rfl (fun hc => ?_) (fun hc => ?_)
    · refine r_skip ?_
      refine r_tn ?_
      refine r_seq ?_
      refine r_block ?_
      refine r_seq ?_
      refine r_region ?_
      have hy2 : y < ls.length := by have h := of_decide_eq_true hc; omega
      clear hc
      obtain ⟨l, hl⟩ : ∃ l, ls[y] = l := ⟨_, rfl⟩
      have hly : (ls.map txV)[y]? = some (txV l) := by rw [List.getElem?_map, List.getElem?_eq_getElem hy2, hl]; rfl
      obtain ⟨ba, oa, rfl, _⟩ := hR y _ hly
      refine r_move rfl rfl ?_
      refine r_indexSl (sz := 1) (o' := oa + y) rfl rfl rfl rfl rfl (by omega) (by omega) (by omega) ?_
      refine r_loadC (p := ⟨ba, oa + y, none⟩) (v := txV l) rfl rfl rfl (fun w hw => (hR.keep hw).cell hly rfl) ?_
      refine r_assign rfl rfl ?_
      refine r_assign rfl rfl ?_
      refine r_nil ?_
      refine r_tn ?_
      refine r_seq ?_
      refine r_seq ?_
      refine r_region ?_
      refine r_move rfl rfl ?_
      refine r_lenStr rfl rfl rfl ?_
      refine r_move rfl rfl ?_
      refine r_neq (p := decide (l.length ≠ wd (hiL ls))) rfl rfl rfl (by rw [tx_size]; exact decide_eq_decide.2 ⟨fun _ => by omega, fun _ => by omega⟩) ?_
      refine r_nil ?_
      refine r_tn ?_
      refine r_cond rfl (fun hc => ?_) (fun hc => ?_)
      · refine r_seq ?_
        refine r_region ?_
        refine r_loadV rfl rfl rfl rfl (planesV_size _) ?_
        refine r_storeV rfl rfl rfl (planesV_size _) (planesV_size _) (planesV_one _) ?_
        refine r_assign rfl rfl ?_
        refine r_assign rfl rfl ?_
        refine r_nil ?_
        refine r_tn ?_
        refine r_ret ?_
        refine r_tr ?_
        refine r_br ?_
        refine r_tr ?_
        refine r_tr ?_
        refine r_br ?_
        refine r_tr ?_
        rw [parseV_no (parse_no hy2 (by rw [hl]; exact okLine_len (of_decide_eq_true hc)))]
        exact r_done3 (.inl rfl) rfl (res_cellV rfl rfl rfl (planesV_size _)) (res_tmp rfl) (res_tmp rfl) fun w hw => ⟨rfl, hw.clear⟩
      · refine r_skip ?_
        refine r_tn ?_
        refine r_seq ?_
        refine r_region ?_
        refine r_move rfl rfl ?_
        have hlw : l.length = wd (hiL ls) := by have h := of_decide_eq_false hc; omega
        clear hc
        refine r_rangeStr rfl rfl rfl fun b42 => ?_
        refine r_nil ?_
        refine r_tn ?_
        refine r_block ?_
        refine r_loopN (fun x => [(2, .pointer (some ⟨b2, 0, none⟩)), (5, .pointer (some ⟨b5, 0, none⟩)), (6, .pointer (some ⟨b6, 0, none⟩)), (7, .bool (hiL ls)), (8, .int .i64 (wd (hiL ls) : Nat)), (9, .int .i64 (ht (hiL ls) : Nat)), (29, .slice (some ⟨ba, oa, none⟩) ls.length c), (30, .int .i64 (ls.length : Int)), (31, .int .i64 (y : Int)), (10, .int .i64 (y : Int)), (42, .pointer (some ⟨b42, 0, none⟩))]) (fun x => [.blk b42 (.stringIter (tx l) x), .blk b2 (.cells (planesV (fun _ => noneQ)) 46 (0, 0)), .blk b5 (.cells (planesV (fun _ => noneQ)) 46 (0, 0)), .blk b6 (.cells (planesV (pQ ls y x)) 46 (0, 0))]) (fun x => x ≤ l.length ∧ ∀ j (hj : j < l.length), j < x → 0 ≤ valB l[j]) l.length 0 ⟨by omega, fun j hj h => by omega⟩ ⟨rfl, rfl, rfl, rfl, rfl, rfl, rfl, rfl, rfl, rfl, rfl, trivial⟩ (fun w hw => hw.sub) fun x hx => ?_
        obtain ⟨hx, hval⟩ := hx
        refine r_seq ?_
        refine r_region ?_
        refine r_nextAny rfl rfl ?_
        refine r_extract rfl rfl (nextV_0 _ _) ?_
        refine r_nil ?_
        refine r_tn ?_
        refine r_seq ?_
        refine r_cond rfl (fun hc => ?_) (fun hc => ?_)
        · refine r_skip ?_
          refine r_tn ?_
          refine r_block ?_
          refine r_seq ?_
          refine r_region ?_
          have hx2 : x < l.length := of_decide_eq_true hc
          clear hc
          have hdv := dec_val l hx2
          refine r_extract (v := .int .i64 (x : Int)) rfl rfl (nextV_1 hx2) ?_
          refine r_extract (v := .int .i32 (Utf8.decode (tx l) x).1) rfl rfl (nextV_2 hx2) ?_
          refine r_assign rfl rfl ?_
          refine r_assign rfl rfl ?_
          refine r_nil ?_
          refine r_tn ?_
          refine r_seq ?_
          refine r_region ?_
          refine r_move rfl rfl ?_
          refine r_call rfl rfl rfl (by kernel_rfl) rfl (fun w hw => by exact value24 ((Utf8.decode (tx l) x).1 : Int) w) ?_
          refine r_assign rfl rfl ?_
          refine r_nil ?_
          refine r_tn ?_
          refine r_seq ?_
          refine r_seq ?_
          refine r_region ?_
          rw [hdv.1]
          refine r_move rfl rfl ?_
          refine r_lss (p := decide (valB l[x] < 0)) rfl rfl rfl rfl ?_
          refine r_nil ?_
          refine r_tn ?_
          refine r_cond rfl (fun hc => ?_) (fun hc => ?_)
          · refine r_seq ?_
            refine r_region ?_
            refine r_loadV rfl rfl rfl rfl (planesV_size _) ?_
            refine r_storeV rfl rfl rfl (planesV_size _) (planesV_size _) (planesV_one _) ?_
            refine r_assign rfl rfl ?_
            refine r_assign rfl rfl ?_
            refine r_nil ?_
            refine r_tn ?_
            refine r_ret ?_
            refine r_tr ?_
            refine r_br ?_
            refine r_tr ?_
            refine r_br ?_
            refine r_br ?_
            refine r_tr ?_
            refine r_tr ?_
            refine r_br ?_
            refine r_tr ?_
            rw [parseV_no (parse_no hy2 (by rw [hl]; exact okLine_no hx2 (of_decide_eq_true hc)))]
            exact r_done3 (.inl rfl) rfl (res_cellV rfl rfl rfl (planesV_size _)) (res_tmp rfl) (res_tmp rfl) fun w hw => ⟨rfl, hw.clear⟩
          · refine r_skip ?_
            refine r_tn ?_
            refine r_seq ?_
            have hv0 : 0 ≤ valB l[x] := by have h := of_decide_eq_false hc; omega
            clear hc
            obtain ⟨n, hn16, hvn⟩ : ∃ n : Nat, n < 16 ∧ valB l[x] = n := by
              rcases valB_cases l[x] with h | h
              · exact h
              · omega
            rw [hvn, hdv.2 hv0]
            have hxw : x < wd (hiL ls) := by omega
            have hyh : y < ht (hiL ls) := by omega
            have hbq : ∀ i, bq ls i y x = n.testBit i := fun i => bq_at hy2 (by rw [hl]; exact hx2) hxw (by simp only [hl]; exact hvn) i
            refine r_region ?_
            refine r_move rfl rfl ?_
            refine r_nil ?_
            refine r_tn ?_
            refine r_block ?_
            refine r_loopN (fun k => [(2, .pointer (some ⟨b2, 0, none⟩)), (5, .pointer (some ⟨b5, 0, none⟩)), (6, .pointer (some ⟨b6, 0, none⟩)), (7, .bool (hiL ls)), (8, .int .i64 (wd (hiL ls) : Nat)), (9, .int .i64 (ht (hiL ls) : Nat)), (29, .slice (some ⟨ba, oa, none⟩) ls.length c), (30, .int .i64 (ls.length : Int)), (31, .int .i64 (y : Int)), (10, .int .i64 (y : Int)), (42, .pointer (some ⟨b42, 0, none⟩)), (12, .int .i64 (x : Int)), (14, .int .i64 (n : Int)), (52, .int .i64 (k : Int))]) (fun k => [.blk b42 (.stringIter (tx l) (x + 1)), .blk b2 (.cells (planesV (fun _ => noneQ)) 46 (0, 0)), .blk b5 (.cells (planesV (fun _ => noneQ)) 46 (0, 0)), .blk b6 (.cells (planesV (stQ ls y x k)) 46 (0, 0))]) (fun k => k ≤ 4) 4 0 (by omega) ⟨rfl, rfl, rfl, rfl, rfl, rfl, rfl, rfl, rfl, rfl, rfl, rfl, rfl, rfl, trivial⟩ (fun w hw => by rw [stQ_zero]; exact hw.sub) fun k hk => ?_
            refine r_seq ?_
            refine r_region ?_
            refine r_lss rfl rfl rfl rfl ?_
            refine r_nil ?_
            refine r_tn ?_
            refine r_seq ?_
            refine r_cond rfl (fun hc => ?_) (fun hc => ?_)
            · refine r_skip ?_
              refine r_tn ?_
              refine r_seq ?_
              refine r_block ?_
              refine r_seq ?_
              refine r_region ?_
              have hk2 : k < 4 := by have h := of_decide_eq_true hc; omega
              clear hc
              refine r_move rfl rfl ?_
              refine r_assign rfl rfl ?_
              refine r_nil ?_
              refine r_tn ?_
              refine r_seq ?_
              refine r_region ?_
              refine r_move rfl rfl ?_
              refine r_move rfl rfl ?_
              refine r_shr (r := ((n >>> k : Nat) : Int)) rfl rfl rfl (by omega) (shr4 _ hn16 _ hk2) ?_
              refine r_and (r := (((n >>> k) % 2 : Nat) : Int)) rfl rfl rfl (and4 _ (shr_lt4 _ hn16 _ hk2)) ?_
              refine r_eql (p := n.testBit k) rfl rfl rfl (bit4 _ hn16 _ hk2) ?_
              refine r_nil ?_
              refine r_tn ?_
              refine r_cond rfl (fun hc => ?_) (fun hc => ?_)
              · have hbit : bq ls k y x = true := (hbq k).trans hc
                clear hc
                refine r_mixedD { xb := [], rb := [b6], rs := [64], fs := [], acs := [65, 69] } (by kernel_rfl) (by kernel_rfl) (fun w hw k hk => by
                  simp only [List.mem_cons, List.not_mem_nil, or_false] at hk
                  rcases hk with rfl <;> exact Sat.lt hw) ?_
                refine r_move rfl rfl ?_
                refine r_move rfl rfl ?_
                refine r_indexArr (sz := 128) (o' := 128 * k) rfl rfl rfl rfl rfl (by omega) (by omega) (by omega) ?_
                refine r_loadN (m := 128) rfl rfl rfl rfl (by rw [planesV_size]; omega) (planesV_pl _ hk2) ?_
                refine r_lit (sz := 1) (pv := [(0, .int .u16 128)]) (cells := #[.int .u16 128]) rfl rfl rfl rfl rfl rfl (by kernel_rfl) rfl (fun b65 => ?_) (by decide)
                refine r_move rfl rfl ?_
                refine r_move rfl rfl ?_
                refine r_move rfl rfl ?_
                refine r_call rfl rfl rfl (by kernel_rfl) rfl (fun w hw => by exact sprite07 (some ⟨b65, 0, none⟩) 1 [128] 8 x y (hiL ls) true w (own_rd (A := some ⟨b65, 0, none⟩) (m := 1) (c := 1) hw) (by decide) (by decide) (by decide) hxw hyh) ?_
                refine r_call rfl rfl rfl (by kernel_rfl) rfl (fun w hw => by exact draw07 (stQ ls y x k k) (sprQ [128] 8 x y (hiL ls) true 1) w) ?_
                refine r_move rfl rfl ?_
                refine r_extract rfl rfl rfl ?_
                refine r_extract rfl rfl rfl ?_
                refine r_indexArr (sz := 128) (o' := 128 * k) rfl rfl rfl rfl rfl (by omega) (by omega) (by omega) ?_
                refine r_store (m := 128) (cs' := planesV (stQ ls y x (k + 1))) rfl rfl rfl (planeV_size _) (by rw [planesV_size]; omega) (planeV_one _) ((planesV_set _ hk2 _).trans (planesV_congr (stQ_yes hbit hxw hyh))) ?_
                refine r_nil ?_
                refine r_bn ?_
                refine r_tn ?_
                refine r_region ?_
                refine r_add rfl rfl rfl (w64 (by omega)) ?_
                refine r_move rfl rfl ?_
                refine r_nil ?_
                refine r_tn ?_
                first | exact r_againN (k + 1) (by omega) (by omega) ⟨rfl, rfl, rfl, rfl, rfl, rfl, rfl, rfl, rfl, rfl, rfl, rfl, rfl, rfl, trivial⟩ (fun w hw => hw.sub) | exact r_againN (k + 1) (by omega) (by omega) ⟨rfl, rfl, rfl, rfl, rfl, rfl, rfl, rfl, rfl, rfl, rfl, rfl, rfl, rfl, trivial⟩ (fun w hw => by rw [← planesV_congr (stQ_no ((hbq k).trans hc))]; exact hw.sub)
              · refine r_skip ?_
                refine r_bn ?_
                refine r_tn ?_
                refine r_region ?_
                refine r_add rfl rfl rfl (w64 (by omega)) ?_
                refine r_move rfl rfl ?_
                refine r_nil ?_
                refine r_tn ?_
                first | exact r_againN (k + 1) (by omega) (by omega) ⟨rfl, rfl, rfl, rfl, rfl, rfl, rfl, rfl, rfl, rfl, rfl, rfl, rfl, rfl, trivial⟩ (fun w hw => hw.sub) | exact r_againN (k + 1) (by omega) (by omega) ⟨rfl, rfl, rfl, rfl, rfl, rfl, rfl, rfl, rfl, rfl, rfl, rfl, rfl, rfl, trivial⟩ (fun w hw => by rw [← planesV_congr (stQ_no ((hbq k).trans hc))]; exact hw.sub)
            · refine r_exit ?_
              refine r_te ?_
              refine r_te ?_
              refine r_be ?_
              refine r_bn ?_
              refine r_tn ?_
              have hk3 : k = 4 := by have h := of_decide_eq_false hc; omega
              subst hk3
              exact r_againN (x + 1) ⟨by omega, fun j hj h => by
                by_cases e : j = x
                · subst e; exact hv0
                · exact hval j hj (by omega)⟩ (by omega) ⟨rfl, rfl, rfl, rfl, rfl, rfl, rfl, rfl, rfl, rfl, rfl, trivial⟩ (fun w hw => by rw [← planesV_congr (stQ_four ls y x)]; exact hw.sub)
        · refine r_exit ?_
          refine r_te ?_
          refine r_te ?_
          refine r_be ?_
          refine r_bn ?_
          refine r_tn ?_
          refine r_region ?_
          refine r_add rfl rfl rfl (w64 (by omega)) ?_
          refine r_move rfl rfl ?_
          refine r_nil ?_
          refine r_tn ?_
          have hx3 : x = wd (hiL ls) := by have h : ¬ x < l.length := of_decide_eq_false hc; omega
          subst hx3
          exact r_againN (y + 1) ⟨by omega, fun j hj h => by
            by_cases e : j = y
            · subst e; rw [hl]; exact okLine_yes hlw fun j hj => hval j hj (by omega)
            · exact hok j hj (by omega)⟩ (by omega) ⟨rfl, rfl, rfl, rfl, rfl, rfl, rfl, rfl, rfl, trivial⟩ (fun w hw => by rw [← next_eq]; exact hw.sub)
    · refine r_exit ?_
      refine r_te ?_
      refine r_te ?_
      refine r_be ?_
      refine r_tn ?_
      refine r_seq ?_
      refine r_region ?_
      have hy3 : y = ls.length := by have h := of_decide_eq_false hc; omega
      subst hy3
      rw [all_eq]
      refine r_loadV rfl rfl rfl rfl (planesV_size _) ?_
      refine r_move rfl rfl ?_
      refine r_storeV rfl rfl rfl (planesV_size _) (planesV_size _) (planesV_one _) ?_
      refine r_assign rfl rfl ?_
      refine r_assign rfl rfl ?_
      refine r_nil ?_
      refine r_tn ?_
      refine r_ret ?_
      rw [parseV_yes (parse_yes hlen fun j hj => hok j hj hj)]
      exact r_done3 (.inl rfl) rfl (res_cellV rfl rfl rfl (planesV_size _)) (res_tmp rfl) (res_tmp rfl) fun w hw => ⟨rfl, hw.clear⟩
end Go.Proofs.YtdkgnnieehidbaaDoor
