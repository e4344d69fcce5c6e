/-
  Records (chapter 23): RecordMatchesReference.
-/
import Derived.Test.YtgicjkjppnkodaaRefF23
import Derived.Test.YtgicjkjppnkodaaCanon23
namespace Go.Proofs.Ytgicjkjppnkodaa
open Go Go.RowKit
set_option linter.unusedVariables false
set_option linter.unusedSimpArgs false
set_option maxHeartbeats 2000000
set_option maxRecDepth 4000
attribute [local irreducible] mix

theorem refsL_nil : refsL [] = [] := rfl


attribute [local irreducible] topB recsL validR refsL BL usedF


theorem RecordMatchesReference_good (A : Option Addr) (c : Nat) (l : List Card) (W : World) (hA : Rd W A (cardsL l)) (ok : ∀ c ∈ l, okCard c) (hall : (l.map recOf).all validR = true) :
    Calls Try.prog 3 #[.slice A l.length c] W fun e w' => e = .returned (.bool true) ∧ Sat W [] [] w' := by
  refine enter Try.func3 rfl rfl rfl ?_
  refine r_seq ?_
  refine r_region ?_
  refine r_assign rfl rfl ?_
  refine r_nil ?_
  refine r_tn ?_
  refine r_seq ?_
  refine r_seq ?_
  refine r_region ?_
  refine r_call rfl rfl rfl (by kernel_rfl) rfl (fun w hw => by exact awake23 w) ?_
  refine r_not rfl rfl rfl ?_
  refine r_move rfl rfl ?_
  refine r_go rfl rfl ?_
  refine r_move rfl rfl ?_
  refine r_go rfl rfl ?_
  refine r_len rfl rfl rfl ?_
  refine r_go rfl rfl ?_
  refine r_gtr (p := decide (4 < l.length)) rfl rfl rfl (decide_eq_decide.2 ⟨fun _ => by omega, fun _ => by omega⟩) ?_
  refine r_pick_f rfl rfl rfl ?_
  refine r_nil ?_
  refine r_tn ?_
  refine r_cond rfl (fun hc => ?_) (fun hc => ?_)
  · refine r_seq ?_
    refine r_region ?_
    refine r_call rfl rfl rfl (by kernel_rfl) rfl (fun w hw => by exact awake23 w) ?_
    refine r_assign rfl rfl ?_
    refine r_nil ?_
    refine r_tn ?_
    refine r_ret ?_
    refine r_tr ?_
    exact r_done1 (.inl rfl) rfl (res_tmp rfl) fun w hw => ⟨rfl, hw.clear⟩
  · refine r_skip ?_
    refine r_tn ?_
    refine r_seq ?_
    have hl4 : l.length ≤ 4 := by have h := of_decide_eq_false hc; omega
    clear hc
    refine r_region ?_
    refine r_assign rfl rfl ?_
    refine r_nil ?_
    refine r_tn ?_
    refine r_seq ?_
    refine r_region ?_
    refine r_assign rfl rfl ?_
    refine r_nil ?_
    refine r_tn ?_
    refine r_seq ?_
    refine r_region ?_
    refine r_assign rfl rfl ?_
    refine r_nil ?_
    refine r_tn ?_
    refine r_seq ?_
    refine r_seq ?_
    refine r_region ?_
    refine r_assign rfl rfl ?_
    refine r_nil ?_
    refine r_tn ?_
    refine r_block ?_
    refine Run.ownNil 48 535 ?_
    refine Run.ownNil 32 9 ?_
    refine r_loop3 (fun k (a2 : Option Addr × Nat) (a3 : Option Addr × Nat) (s : List (Rec × RefIx) × List Res) => [(0, .slice A l.length c), (3, .slice a2.1 k a2.2), (4, .slice a3.1 k a3.2), (5, .bool ((recsK l k).all validR)), (6, .int .i64 (k : Int))]) (fun k a2 a3 s => .own 48 535 (.slice a2.1 k a2.2) k (recsL (recsK l k)) :: .own 32 9 (.slice a3.1 k a3.2) k (refsL s.1) :: s.2) (fun k a2 a3 s => k ≤ l.length ∧ s.1.map Prod.fst = recsK l k ∧ ∀ w1, OkAll s.2 w1 → ∀ p ∈ s.1, RefIs w1 p.1 p.2) l.length 0 (none, 0) (none, 0) ([], []) ⟨by omega, rfl, fun w1 _ p hp => by cases hp⟩ ⟨rfl, rfl, rfl, rfl, rfl, trivial⟩ (fun w hw => by
      have h2 : Sat W [] [.own 48 535 (.slice none 0 0) 0 ([]), .own 32 9 (.slice none 0 0) 0 ([])] w := hw.sub
      show Sat W [] (.own 48 535 (.slice none 0 0) 0 (recsL (recsK l 0)) :: .own 32 9 (.slice none 0 0) 0 (refsL []) :: []) w
      rw [recsK_nil, refsL_nil]
      exact h2) fun k a2 a3 s hk => ?_
    obtain ⟨hk, hps, hR⟩ := hk
    obtain ⟨A2, c2⟩ := a2
    obtain ⟨A3, c3⟩ := a3
    obtain ⟨ps, R⟩ := s
    have hps : ps.map Prod.fst = recsK l k := hps
    have hR : ∀ w1, OkAll R w1 → ∀ p ∈ ps, RefIs w1 p.1 p.2 := hR
    show Run _ _ _ [(0, .slice A l.length c), (3, .slice A2 k c2), (4, .slice A3 k c3), (5, .bool ((recsK l k).all validR)), (6, .int .i64 (k : Int))] (.own 48 535 (.slice A2 k c2) k (recsL (recsK l k)) :: .own 32 9 (.slice A3 k c3) k (refsL ps) :: R) _
    refine r_seq ?_
    refine r_seq ?_
    refine r_region ?_
    refine r_move rfl rfl ?_
    refine r_move rfl rfl ?_
    refine r_len rfl rfl rfl ?_
    refine r_lss rfl rfl rfl rfl ?_
    refine r_nil ?_
    refine r_tn ?_
    refine r_cond rfl (fun hc => ?_) (fun hc => ?_)
    · refine r_skip ?_
      refine r_tn ?_
      refine r_seq ?_
      refine r_block ?_
      refine r_seq ?_
      refine r_region ?_
      have hkl : k < l.length := by have h := of_decide_eq_true hc; omega
      obtain ⟨ba, oa, rfl⟩ := cards_some hA ok hkl
      have hri := Rd_card hA ok hkl
      have hok := ok _ (List.getElem_mem hkl)
      have hp : (recOf l[k]).pat.length = 16 := hok.1.2
      refine r_move rfl rfl ?_
      refine r_move rfl rfl ?_
      refine r_indexSl (sz := 36) (o' := oa + k * 36) rfl rfl rfl rfl rfl (by omega) (by omega) (by simp) ?_
      refine r_loadRd (vs := cardL l[k]) rfl rfl rfl rfl (cardV_size hok.1) (fun w hw => hri.keep hw) ?_
      refine r_callx rfl rfl rfl (by kernel_rfl) rfl (fun w hw => by exact of23 l[k] hok.1 w) ?_
      rintro i29 hi29
      refine Run.less (fun w hw => hw.perm List.perm_append_comm) ?_
      refine r_allocV (cs := #[.slice none 0 0, .bool false, .bool false, .slice none 0 0, .int .u8 0, .int .i64 0, .int .i64 0, .int .i64 0, .int .i64 0]) (by kernel_rfl) rfl fun b7 => ?_
      refine r_storeV rfl rfl rfl rfl rfl rfl ?_
      refine r_nil ?_
      refine r_tn ?_
      refine r_seq ?_
      refine r_region ?_
      refine r_loadV rfl rfl rfl rfl rfl ?_
      refine r_call rfl rfl rfl (by kernel_rfl) rfl (fun w hw => by exact forward23 (recOf l[k]) i29 hp w (hi29 w (fun x hx => hw.ok x (by simp [hx])))) ?_
      refine r_allocV (cs := recV rec0) (by kernel_rfl) rfl fun b8 => ?_
      refine r_storeV rfl rfl rfl (recV_size hp) (recV_size rfl) (recV_one _) ?_
      refine r_nil ?_
      refine r_tn ?_
      refine r_seq ?_
      refine r_seq ?_
      refine r_mixedD { xb := [], rb := [b7], rs := [34], fs := [], acs := [33] } (by kernel_rfl) (by kernel_rfl) (fun w hw k hk => by
        simp only [List.mem_cons, List.not_mem_nil, or_false] at hk
        rcases hk with rfl <;> exact Sat.lt hw) ?_
      refine r_loadV rfl rfl rfl rfl (recV_size hp) ?_
      refine r_call rfl rfl rfl (by kernel_rfl) rfl (fun w hw => by exact valid23 (recOf l[k]) w hp) ?_
      refine r_loadV rfl rfl rfl rfl rfl ?_
      refine r_call rfl rfl rfl (by kernel_rfl) rfl (fun w hw => by exact refValid23 (recOf l[k]) i29 w (hi29 w (fun x hx => hw.ok x (by simp [hx])))) ?_
      refine r_neq_bool (p := false) rfl rfl rfl rfl (by simp) ?_
      refine r_nil ?_
      refine r_tn ?_
      refine r_cond_f rfl ?_
      refine r_skip ?_
      refine r_tn ?_
      refine r_seq ?_
      refine r_region ?_
      refine r_move rfl rfl ?_
      refine r_move rfl rfl ?_
      refine r_split 38 rfl (fun hb38 => ?_) (fun hb38 => ?_)
      · refine r_go rfl rfl ?_
        refine r_loadV rfl rfl rfl rfl rfl ?_
        refine r_go rfl rfl ?_
        refine r_call rfl rfl rfl (by kernel_rfl) rfl (fun w hw => by exact refValid23 (recOf l[k]) i29 w (hi29 w (fun x hx => hw.ok x (by simp [hx])))) ?_
        refine r_pick_t rfl rfl rfl ?_
        refine r_assign rfl rfl ?_
        refine r_nil ?_
        refine r_tn ?_
        refine r_seq ?_
        refine r_region ?_
        refine r_move rfl rfl ?_
        refine r_loadV rfl rfl rfl rfl (recV_size hp) ?_
        refine r_lit (sz := 535) (z := .agg (recV rec0)) (pv := [(0, .agg (recV (recOf l[k])))]) (cells := recV (recOf l[k])) rfl rfl rfl (by kernel_rfl) rfl rfl (fill_one (v := .agg (recV (recOf l[k]))) (by decide) (recV_size hp) (by simp)) (recV_size hp) (fun b44 => ?_) (by decide)
        refine r_append (k := 1) (news := recL (recOf l[k])) (sz := 535) (bytes := 4152) (z := .agg (recV rec0)) rfl rfl rfl rfl (by kernel_rfl) (recV_size rfl) (by decide) (fun w hw => by have h := own_rd (A := some ⟨b44, 0, none⟩) (m := 1) (c := 1) hw; rw [recV_list] at h; exact h) (recL_len hp) (fun u hu => recL_one hu) (by omega) (by unfold maxLen; omega) fun A45 c45 => ?_
        refine r_assign rfl rfl ?_
        refine r_nil ?_
        refine r_tn ?_
        refine r_region ?_
        refine r_move rfl rfl ?_
        refine r_loadV rfl rfl rfl rfl rfl ?_
        refine r_lit (sz := 9) (z := .agg #[.slice none 0 0, .bool false, .bool false, .slice none 0 0, .int .u8 0, .int .i64 0, .int .i64 0, .int .i64 0, .int .i64 0]) (pv := [(0, .agg (refV (recOf l[k]) i29))]) (cells := refV (recOf l[k]) i29) rfl rfl rfl (by kernel_rfl) rfl rfl (fill_one (v := .agg (refV (recOf l[k]) i29)) (by decide) rfl (by simp)) rfl (fun b48 => ?_) (by decide)
        refine r_append (k := 1) (news := (refV (recOf l[k]) i29).toList) (sz := 9) (bytes := 96) (z := .agg #[.slice none 0 0, .bool false, .bool false, .slice none 0 0, .int .u8 0, .int .i64 0, .int .i64 0, .int .i64 0, .int .i64 0]) rfl rfl rfl rfl (by kernel_rfl) rfl (by decide) (fun w hw => own_rd (A := some ⟨b48, 0, none⟩) (m := 1) (c := 1) hw) rfl (fun u hu => List.all_eq_true.1 (show (refV (recOf l[k]) i29).toList.all Value.oneCell' = true from rfl) u hu) (by omega) (by unfold maxLen; omega) fun A49 c49 => ?_
        refine r_assign rfl rfl ?_
        refine r_nil ?_
        refine r_bn ?_
        refine r_tn ?_
        refine r_region ?_
        refine r_move rfl rfl ?_
        refine r_add rfl rfl rfl (w64 (by omega)) ?_
        refine r_assign rfl rfl ?_
        refine r_nil ?_
        refine r_tn ?_
        exact r_again3 (k + 1) (A45, c45) (A49, c49) (ps ++ [(recOf l[k], i29)], R ++ i29.R) ⟨by omega, by rw [recsK_succ hkl, List.map_append, hps]; rfl, fun w1 h1 p hp2 => by
          rcases List.mem_append.1 hp2 with hp3 | hp3
          · exact hR w1 (fun x hx => h1 x (List.mem_append_left _ hx)) p hp3
          · rw [List.mem_singleton.1 hp3]
            exact hi29 w1 (fun x hx => h1 x (List.mem_append_right _ hx))⟩ (by omega) ⟨rfl, rfl, rfl, congrArg (fun b => some (Value.bool b)) (by rw [recsK_succ hkl, List.all_append, hb38]; simp), rfl, trivial⟩ (fun w hw => by
          rw [recsK_succ hkl, recsL_snoc, refsL_snoc]
          have h2 : Sat _ _ (.own 48 535 (.slice A45 (k + 1) c45) (k + 1) (recsL (recsK l k) ++ recL (recOf l[k])) :: .own 32 9 (.slice A49 (k + 1) c49) (k + 1) (refsL ps ++ (refV (recOf l[k]) i29).toList) :: (R ++ i29.R)) w := hw.sub
          exact h2)
      · refine r_pass rfl rfl rfl rfl ?_
        refine r_pass rfl rfl rfl rfl ?_
        refine r_pick_f rfl rfl rfl ?_
        refine r_assign rfl rfl ?_
        refine r_nil ?_
        refine r_tn ?_
        refine r_seq ?_
        refine r_region ?_
        refine r_move rfl rfl ?_
        refine r_loadV rfl rfl rfl rfl (recV_size hp) ?_
        refine r_lit (sz := 535) (z := .agg (recV rec0)) (pv := [(0, .agg (recV (recOf l[k])))]) (cells := recV (recOf l[k])) rfl rfl rfl (by kernel_rfl) rfl rfl (fill_one (v := .agg (recV (recOf l[k]))) (by decide) (recV_size hp) (by simp)) (recV_size hp) (fun b44 => ?_) (by decide)
        refine r_append (k := 1) (news := recL (recOf l[k])) (sz := 535) (bytes := 4152) (z := .agg (recV rec0)) rfl rfl rfl rfl (by kernel_rfl) (recV_size rfl) (by decide) (fun w hw => by have h := own_rd (A := some ⟨b44, 0, none⟩) (m := 1) (c := 1) hw; rw [recV_list] at h; exact h) (recL_len hp) (fun u hu => recL_one hu) (by omega) (by unfold maxLen; omega) fun A45 c45 => ?_
        refine r_assign rfl rfl ?_
        refine r_nil ?_
        refine r_tn ?_
        refine r_region ?_
        refine r_move rfl rfl ?_
        refine r_loadV rfl rfl rfl rfl rfl ?_
        refine r_lit (sz := 9) (z := .agg #[.slice none 0 0, .bool false, .bool false, .slice none 0 0, .int .u8 0, .int .i64 0, .int .i64 0, .int .i64 0, .int .i64 0]) (pv := [(0, .agg (refV (recOf l[k]) i29))]) (cells := refV (recOf l[k]) i29) rfl rfl rfl (by kernel_rfl) rfl rfl (fill_one (v := .agg (refV (recOf l[k]) i29)) (by decide) rfl (by simp)) rfl (fun b48 => ?_) (by decide)
        refine r_append (k := 1) (news := (refV (recOf l[k]) i29).toList) (sz := 9) (bytes := 96) (z := .agg #[.slice none 0 0, .bool false, .bool false, .slice none 0 0, .int .u8 0, .int .i64 0, .int .i64 0, .int .i64 0, .int .i64 0]) rfl rfl rfl rfl (by kernel_rfl) rfl (by decide) (fun w hw => own_rd (A := some ⟨b48, 0, none⟩) (m := 1) (c := 1) hw) rfl (fun u hu => List.all_eq_true.1 (show (refV (recOf l[k]) i29).toList.all Value.oneCell' = true from rfl) u hu) (by omega) (by unfold maxLen; omega) fun A49 c49 => ?_
        refine r_assign rfl rfl ?_
        refine r_nil ?_
        refine r_bn ?_
        refine r_tn ?_
        refine r_region ?_
        refine r_move rfl rfl ?_
        refine r_add rfl rfl rfl (w64 (by omega)) ?_
        refine r_assign rfl rfl ?_
        refine r_nil ?_
        refine r_tn ?_
        exact r_again3 (k + 1) (A45, c45) (A49, c49) (ps ++ [(recOf l[k], i29)], R ++ i29.R) ⟨by omega, by rw [recsK_succ hkl, List.map_append, hps]; rfl, fun w1 h1 p hp2 => by
          rcases List.mem_append.1 hp2 with hp3 | hp3
          · exact hR w1 (fun x hx => h1 x (List.mem_append_left _ hx)) p hp3
          · rw [List.mem_singleton.1 hp3]
            exact hi29 w1 (fun x hx => h1 x (List.mem_append_right _ hx))⟩ (by omega) ⟨rfl, rfl, rfl, congrArg (fun b => some (Value.bool b)) (by rw [recsK_succ hkl, List.all_append, hb38]; simp), rfl, trivial⟩ (fun w hw => by
          rw [recsK_succ hkl, recsL_snoc, refsL_snoc]
          have h2 : Sat _ _ (.own 48 535 (.slice A45 (k + 1) c45) (k + 1) (recsL (recsK l k) ++ recL (recOf l[k])) :: .own 32 9 (.slice A49 (k + 1) c49) (k + 1) (refsL ps ++ (refV (recOf l[k]) i29).toList) :: (R ++ i29.R)) w := hw.sub
          exact h2)
    · refine r_exit ?_
      refine r_te ?_
      refine r_te ?_
      refine r_be ?_
      refine r_tn ?_
      refine r_seq ?_
      refine r_region ?_
      have hk3 : k = l.length := by have h := of_decide_eq_false hc; omega
      subst hk3
      rw [recsK_all, hall]
      rw [recsK_all] at hps
      have okr := recs_ok ok
      obtain ⟨rs, hrs⟩ : ∃ rs, l.map recOf = rs := ⟨_, rfl⟩
      have hlen : rs.length = l.length := by rw [← hrs, List.length_map]
      rw [hrs] at okr hall hps ⊢
      rw [← hlen]
      rw [← hlen] at hl4
      have hpat : ∀ r ∈ rs, r.pat.length = 16 := fun r hr => (okr r hr).1
      refine r_move rfl rfl ?_
      have hv : ∀ r ∈ rs, validR r = true := List.all_eq_true.1 hall
      have hB := encs_le hpat
      have hL := top_len rs
      have hpl : ps.length = rs.length := by rw [← hps, List.length_map]
      rw [← hps] at hv hpat
      refine r_callx rfl rfl rfl (by kernel_rfl) rfl (fun w hw => by exact encodeT23 rs A2 c2 (by rw [← hps]; exact hpat) (by rw [← hps]; exact hv) (by omega) w (own_rd (A := A2) (m := rs.length) (c := c2) hw)) ?_
      rintro ⟨A52, c52⟩ _
      refine r_move rfl rfl ?_
      refine r_extract rfl rfl rfl ?_
      refine r_extract rfl rfl rfl ?_
      refine r_assign rfl rfl ?_
      refine r_assign rfl rfl ?_
      refine r_nil ?_
      refine r_tn ?_
      refine r_seq ?_
      refine r_seq ?_
      refine r_region ?_
      refine r_move rfl rfl ?_
      refine r_not rfl rfl rfl ?_
      refine r_nil ?_
      refine r_tn ?_
      refine r_cond_f rfl ?_
      refine r_skip ?_
      refine r_tn ?_
      refine r_seq ?_
      refine r_region ?_
      refine r_move rfl rfl ?_
      refine r_move rfl rfl ?_
      refine r_callx (v := fun i : Option Addr × Nat => .slice i.1 (topB rs).length i.2) (A' := fun i => [.own 5 1 (.slice i.1 (topB rs).length i.2) (topB rs).length ((topB rs).map (Value.int .u8))]) (φ := fun _ => True) rfl rfl rfl (by kernel_rfl) rfl (fun w hw => by
        have h := refEncode23 ps A3 c3 (by omega) w (fun p hp => ⟨hR w (fun x hx => hw.ok x (by simp [hx])) p hp, hpat _ (List.mem_map_of_mem hp), hv _ (List.mem_map_of_mem hp)⟩) (own_rd (A := A3) (m := rs.length) (c := c3) hw)
        rw [hps, hpl] at h
        exact h) ?_
      rintro ⟨A66, c66⟩ _
      refine r_call (v := .bool true) rfl rfl rfl (by kernel_rfl) rfl (fun w hw => by have h := same23 A52 A66 c52 c66 (topB rs) (topB rs) w (by omega) (own_rd (A := A52) (m := (topB rs).length) (c := c52) hw) (own_rd (A := A66) (m := (topB rs).length) (c := c66) hw); rw [decide_eq_true rfl] at h; exact h) ?_
      refine r_move rfl rfl ?_
      refine r_go rfl rfl ?_
      refine r_move rfl rfl ?_
      refine r_go rfl rfl ?_
      refine r_eql (p := true) rfl rfl rfl rfl ?_
      refine r_pick_t rfl rfl rfl ?_
      refine r_assign rfl rfl ?_
      refine r_nil ?_
      refine r_tn ?_
      refine r_ret ?_
      exact r_done1 (.inl rfl) rfl (res_tmp rfl) fun w hw => ⟨rfl, hw.clear⟩

theorem RecordMatchesReference_bad (A : Option Addr) (c : Nat) (l : List Card) (W : World) (hA : Rd W A (cardsL l)) (ok : ∀ c ∈ l, okCard c) (hall : (l.map recOf).all validR = false) :
    Calls Try.prog 3 #[.slice A l.length c] W fun e w' => e = .returned (.bool true) ∧ Sat W [] [] w' := by
  refine enter Try.func3 rfl rfl rfl ?_
  refine r_seq ?_
  refine r_region ?_
  refine r_assign rfl rfl ?_
  refine r_nil ?_
  refine r_tn ?_
  refine r_seq ?_
  refine r_seq ?_
  refine r_region ?_
  refine r_call rfl rfl rfl (by kernel_rfl) rfl (fun w hw => by exact awake23 w) ?_
  refine r_not rfl rfl rfl ?_
  refine r_move rfl rfl ?_
  refine r_go rfl rfl ?_
  refine r_move rfl rfl ?_
  refine r_go rfl rfl ?_
  refine r_len rfl rfl rfl ?_
  refine r_go rfl rfl ?_
  refine r_gtr (p := decide (4 < l.length)) rfl rfl rfl (decide_eq_decide.2 ⟨fun _ => by omega, fun _ => by omega⟩) ?_
  refine r_pick_f rfl rfl rfl ?_
  refine r_nil ?_
  refine r_tn ?_
  refine r_cond rfl (fun hc => ?_) (fun hc => ?_)
  · refine r_seq ?_
    refine r_region ?_
    refine r_call rfl rfl rfl (by kernel_rfl) rfl (fun w hw => by exact awake23 w) ?_
    refine r_assign rfl rfl ?_
    refine r_nil ?_
    refine r_tn ?_
    refine r_ret ?_
    refine r_tr ?_
    exact r_done1 (.inl rfl) rfl (res_tmp rfl) fun w hw => ⟨rfl, hw.clear⟩
  · refine r_skip ?_
    refine r_tn ?_
    refine r_seq ?_
    have hl4 : l.length ≤ 4 := by have h := of_decide_eq_false hc; omega
    clear hc
    refine r_region ?_
    refine r_assign rfl rfl ?_
    refine r_nil ?_
    refine r_tn ?_
    refine r_seq ?_
    refine r_region ?_
    refine r_assign rfl rfl ?_
    refine r_nil ?_
    refine r_tn ?_
    refine r_seq ?_
    refine r_region ?_
    refine r_assign rfl rfl ?_
    refine r_nil ?_
    refine r_tn ?_
    refine r_seq ?_
    refine r_seq ?_
    refine r_region ?_
    refine r_assign rfl rfl ?_
    refine r_nil ?_
    refine r_tn ?_
    refine r_block ?_
    refine Run.ownNil 48 535 ?_
    refine Run.ownNil 32 9 ?_
    refine r_loop3 (fun k (a2 : Option Addr × Nat) (a3 : Option Addr × Nat) (s : List (Rec × RefIx) × List Res) => [(0, .slice A l.length c), (3, .slice a2.1 k a2.2), (4, .slice a3.1 k a3.2), (5, .bool ((recsK l k).all validR)), (6, .int .i64 (k : Int))]) (fun k a2 a3 s => .own 48 535 (.slice a2.1 k a2.2) k (recsL (recsK l k)) :: .own 32 9 (.slice a3.1 k a3.2) k (refsL s.1) :: s.2) (fun k a2 a3 s => k ≤ l.length ∧ s.1.map Prod.fst = recsK l k ∧ ∀ w1, OkAll s.2 w1 → ∀ p ∈ s.1, RefIs w1 p.1 p.2) l.length 0 (none, 0) (none, 0) ([], []) ⟨by omega, rfl, fun w1 _ p hp => by cases hp⟩ ⟨rfl, rfl, rfl, rfl, rfl, trivial⟩ (fun w hw => by
      have h2 : Sat W [] [.own 48 535 (.slice none 0 0) 0 ([]), .own 32 9 (.slice none 0 0) 0 ([])] w := hw.sub
      show Sat W [] (.own 48 535 (.slice none 0 0) 0 (recsL (recsK l 0)) :: .own 32 9 (.slice none 0 0) 0 (refsL []) :: []) w
      rw [recsK_nil, refsL_nil]
      exact h2) fun k a2 a3 s hk => ?_
    obtain ⟨hk, hps, hR⟩ := hk
    obtain ⟨A2, c2⟩ := a2
    obtain ⟨A3, c3⟩ := a3
    obtain ⟨ps, R⟩ := s
    have hps : ps.map Prod.fst = recsK l k := hps
    have hR : ∀ w1, OkAll R w1 → ∀ p ∈ ps, RefIs w1 p.1 p.2 := hR
    show Run _ _ _ [(0, .slice A l.length c), (3, .slice A2 k c2), (4, .slice A3 k c3), (5, .bool ((recsK l k).all validR)), (6, .int .i64 (k : Int))] (.own 48 535 (.slice A2 k c2) k (recsL (recsK l k)) :: .own 32 9 (.slice A3 k c3) k (refsL ps) :: R) _
    refine r_seq ?_
    refine r_seq ?_
    refine r_region ?_
    refine r_move rfl rfl ?_
    refine r_move rfl rfl ?_
    refine r_len rfl rfl rfl ?_
    refine r_lss rfl rfl rfl rfl ?_
    refine r_nil ?_
    refine r_tn ?_
    refine r_cond rfl (fun hc => ?_) (fun hc => ?_)
    · refine r_skip ?_
      refine r_tn ?_
      refine r_seq ?_
      refine r_block ?_
      refine r_seq ?_
      refine r_region ?_
      have hkl : k < l.length := by have h := of_decide_eq_true hc; omega
      obtain ⟨ba, oa, rfl⟩ := cards_some hA ok hkl
      have hri := Rd_card hA ok hkl
      have hok := ok _ (List.getElem_mem hkl)
      have hp : (recOf l[k]).pat.length = 16 := hok.1.2
      refine r_move rfl rfl ?_
      refine r_move rfl rfl ?_
      refine r_indexSl (sz := 36) (o' := oa + k * 36) rfl rfl rfl rfl rfl (by omega) (by omega) (by simp) ?_
      refine r_loadRd (vs := cardL l[k]) rfl rfl rfl rfl (cardV_size hok.1) (fun w hw => hri.keep hw) ?_
      refine r_callx rfl rfl rfl (by kernel_rfl) rfl (fun w hw => by exact of23 l[k] hok.1 w) ?_
      rintro i29 hi29
      refine Run.less (fun w hw => hw.perm List.perm_append_comm) ?_
      refine r_allocV (cs := #[.slice none 0 0, .bool false, .bool false, .slice none 0 0, .int .u8 0, .int .i64 0, .int .i64 0, .int .i64 0, .int .i64 0]) (by kernel_rfl) rfl fun b7 => ?_
      refine r_storeV rfl rfl rfl rfl rfl rfl ?_
      refine r_nil ?_
      refine r_tn ?_
      refine r_seq ?_
      refine r_region ?_
      refine r_loadV rfl rfl rfl rfl rfl ?_
      refine r_call rfl rfl rfl (by kernel_rfl) rfl (fun w hw => by exact forward23 (recOf l[k]) i29 hp w (hi29 w (fun x hx => hw.ok x (by simp [hx])))) ?_
      refine r_allocV (cs := recV rec0) (by kernel_rfl) rfl fun b8 => ?_
      refine r_storeV rfl rfl rfl (recV_size hp) (recV_size rfl) (recV_one _) ?_
      refine r_nil ?_
      refine r_tn ?_
      refine r_seq ?_
      refine r_seq ?_
      refine r_mixedD { xb := [], rb := [b7], rs := [34], fs := [], acs := [33] } (by kernel_rfl) (by kernel_rfl) (fun w hw k hk => by
        simp only [List.mem_cons, List.not_mem_nil, or_false] at hk
        rcases hk with rfl <;> exact Sat.lt hw) ?_
      refine r_loadV rfl rfl rfl rfl (recV_size hp) ?_
      refine r_call rfl rfl rfl (by kernel_rfl) rfl (fun w hw => by exact valid23 (recOf l[k]) w hp) ?_
      refine r_loadV rfl rfl rfl rfl rfl ?_
      refine r_call rfl rfl rfl (by kernel_rfl) rfl (fun w hw => by exact refValid23 (recOf l[k]) i29 w (hi29 w (fun x hx => hw.ok x (by simp [hx])))) ?_
      refine r_neq_bool (p := false) rfl rfl rfl rfl (by simp) ?_
      refine r_nil ?_
      refine r_tn ?_
      refine r_cond_f rfl ?_
      refine r_skip ?_
      refine r_tn ?_
      refine r_seq ?_
      refine r_region ?_
      refine r_move rfl rfl ?_
      refine r_move rfl rfl ?_
      refine r_split 38 rfl (fun hb38 => ?_) (fun hb38 => ?_)
      · refine r_go rfl rfl ?_
        refine r_loadV rfl rfl rfl rfl rfl ?_
        refine r_go rfl rfl ?_
        refine r_call rfl rfl rfl (by kernel_rfl) rfl (fun w hw => by exact refValid23 (recOf l[k]) i29 w (hi29 w (fun x hx => hw.ok x (by simp [hx])))) ?_
        refine r_pick_t rfl rfl rfl ?_
        refine r_assign rfl rfl ?_
        refine r_nil ?_
        refine r_tn ?_
        refine r_seq ?_
        refine r_region ?_
        refine r_move rfl rfl ?_
        refine r_loadV rfl rfl rfl rfl (recV_size hp) ?_
        refine r_lit (sz := 535) (z := .agg (recV rec0)) (pv := [(0, .agg (recV (recOf l[k])))]) (cells := recV (recOf l[k])) rfl rfl rfl (by kernel_rfl) rfl rfl (fill_one (v := .agg (recV (recOf l[k]))) (by decide) (recV_size hp) (by simp)) (recV_size hp) (fun b44 => ?_) (by decide)
        refine r_append (k := 1) (news := recL (recOf l[k])) (sz := 535) (bytes := 4152) (z := .agg (recV rec0)) rfl rfl rfl rfl (by kernel_rfl) (recV_size rfl) (by decide) (fun w hw => by have h := own_rd (A := some ⟨b44, 0, none⟩) (m := 1) (c := 1) hw; rw [recV_list] at h; exact h) (recL_len hp) (fun u hu => recL_one hu) (by omega) (by unfold maxLen; omega) fun A45 c45 => ?_
        refine r_assign rfl rfl ?_
        refine r_nil ?_
        refine r_tn ?_
        refine r_region ?_
        refine r_move rfl rfl ?_
        refine r_loadV rfl rfl rfl rfl rfl ?_
        refine r_lit (sz := 9) (z := .agg #[.slice none 0 0, .bool false, .bool false, .slice none 0 0, .int .u8 0, .int .i64 0, .int .i64 0, .int .i64 0, .int .i64 0]) (pv := [(0, .agg (refV (recOf l[k]) i29))]) (cells := refV (recOf l[k]) i29) rfl rfl rfl (by kernel_rfl) rfl rfl (fill_one (v := .agg (refV (recOf l[k]) i29)) (by decide) rfl (by simp)) rfl (fun b48 => ?_) (by decide)
        refine r_append (k := 1) (news := (refV (recOf l[k]) i29).toList) (sz := 9) (bytes := 96) (z := .agg #[.slice none 0 0, .bool false, .bool false, .slice none 0 0, .int .u8 0, .int .i64 0, .int .i64 0, .int .i64 0, .int .i64 0]) rfl rfl rfl rfl (by kernel_rfl) rfl (by decide) (fun w hw => own_rd (A := some ⟨b48, 0, none⟩) (m := 1) (c := 1) hw) rfl (fun u hu => List.all_eq_true.1 (show (refV (recOf l[k]) i29).toList.all Value.oneCell' = true from rfl) u hu) (by omega) (by unfold maxLen; omega) fun A49 c49 => ?_
        refine r_assign rfl rfl ?_
        refine r_nil ?_
        refine r_bn ?_
        refine r_tn ?_
        refine r_region ?_
        refine r_move rfl rfl ?_
        refine r_add rfl rfl rfl (w64 (by omega)) ?_
        refine r_assign rfl rfl ?_
        refine r_nil ?_
        refine r_tn ?_
        exact r_again3 (k + 1) (A45, c45) (A49, c49) (ps ++ [(recOf l[k], i29)], R ++ i29.R) ⟨by omega, by rw [recsK_succ hkl, List.map_append, hps]; rfl, fun w1 h1 p hp2 => by
          rcases List.mem_append.1 hp2 with hp3 | hp3
          · exact hR w1 (fun x hx => h1 x (List.mem_append_left _ hx)) p hp3
          · rw [List.mem_singleton.1 hp3]
            exact hi29 w1 (fun x hx => h1 x (List.mem_append_right _ hx))⟩ (by omega) ⟨rfl, rfl, rfl, congrArg (fun b => some (Value.bool b)) (by rw [recsK_succ hkl, List.all_append, hb38]; simp), rfl, trivial⟩ (fun w hw => by
          rw [recsK_succ hkl, recsL_snoc, refsL_snoc]
          have h2 : Sat _ _ (.own 48 535 (.slice A45 (k + 1) c45) (k + 1) (recsL (recsK l k) ++ recL (recOf l[k])) :: .own 32 9 (.slice A49 (k + 1) c49) (k + 1) (refsL ps ++ (refV (recOf l[k]) i29).toList) :: (R ++ i29.R)) w := hw.sub
          exact h2)
      · refine r_pass rfl rfl rfl rfl ?_
        refine r_pass rfl rfl rfl rfl ?_
        refine r_pick_f rfl rfl rfl ?_
        refine r_assign rfl rfl ?_
        refine r_nil ?_
        refine r_tn ?_
        refine r_seq ?_
        refine r_region ?_
        refine r_move rfl rfl ?_
        refine r_loadV rfl rfl rfl rfl (recV_size hp) ?_
        refine r_lit (sz := 535) (z := .agg (recV rec0)) (pv := [(0, .agg (recV (recOf l[k])))]) (cells := recV (recOf l[k])) rfl rfl rfl (by kernel_rfl) rfl rfl (fill_one (v := .agg (recV (recOf l[k]))) (by decide) (recV_size hp) (by simp)) (recV_size hp) (fun b44 => ?_) (by decide)
        refine r_append (k := 1) (news := recL (recOf l[k])) (sz := 535) (bytes := 4152) (z := .agg (recV rec0)) rfl rfl rfl rfl (by kernel_rfl) (recV_size rfl) (by decide) (fun w hw => by have h := own_rd (A := some ⟨b44, 0, none⟩) (m := 1) (c := 1) hw; rw [recV_list] at h; exact h) (recL_len hp) (fun u hu => recL_one hu) (by omega) (by unfold maxLen; omega) fun A45 c45 => ?_
        refine r_assign rfl rfl ?_
        refine r_nil ?_
        refine r_tn ?_
        refine r_region ?_
        refine r_move rfl rfl ?_
        refine r_loadV rfl rfl rfl rfl rfl ?_
        refine r_lit (sz := 9) (z := .agg #[.slice none 0 0, .bool false, .bool false, .slice none 0 0, .int .u8 0, .int .i64 0, .int .i64 0, .int .i64 0, .int .i64 0]) (pv := [(0, .agg (refV (recOf l[k]) i29))]) (cells := refV (recOf l[k]) i29) rfl rfl rfl (by kernel_rfl) rfl rfl (fill_one (v := .agg (refV (recOf l[k]) i29)) (by decide) rfl (by simp)) rfl (fun b48 => ?_) (by decide)
        refine r_append (k := 1) (news := (refV (recOf l[k]) i29).toList) (sz := 9) (bytes := 96) (z := .agg #[.slice none 0 0, .bool false, .bool false, .slice none 0 0, .int .u8 0, .int .i64 0, .int .i64 0, .int .i64 0, .int .i64 0]) rfl rfl rfl rfl (by kernel_rfl) rfl (by decide) (fun w hw => own_rd (A := some ⟨b48, 0, none⟩) (m := 1) (c := 1) hw) rfl (fun u hu => List.all_eq_true.1 (show (refV (recOf l[k]) i29).toList.all Value.oneCell' = true from rfl) u hu) (by omega) (by unfold maxLen; omega) fun A49 c49 => ?_
        refine r_assign rfl rfl ?_
        refine r_nil ?_
        refine r_bn ?_
        refine r_tn ?_
        refine r_region ?_
        refine r_move rfl rfl ?_
        refine r_add rfl rfl rfl (w64 (by omega)) ?_
        refine r_assign rfl rfl ?_
        refine r_nil ?_
        refine r_tn ?_
        exact r_again3 (k + 1) (A45, c45) (A49, c49) (ps ++ [(recOf l[k], i29)], R ++ i29.R) ⟨by omega, by rw [recsK_succ hkl, List.map_append, hps]; rfl, fun w1 h1 p hp2 => by
          rcases List.mem_append.1 hp2 with hp3 | hp3
          · exact hR w1 (fun x hx => h1 x (List.mem_append_left _ hx)) p hp3
          · rw [List.mem_singleton.1 hp3]
            exact hi29 w1 (fun x hx => h1 x (List.mem_append_right _ hx))⟩ (by omega) ⟨rfl, rfl, rfl, congrArg (fun b => some (Value.bool b)) (by rw [recsK_succ hkl, List.all_append, hb38]; simp), rfl, trivial⟩ (fun w hw => by
          rw [recsK_succ hkl, recsL_snoc, refsL_snoc]
          have h2 : Sat _ _ (.own 48 535 (.slice A45 (k + 1) c45) (k + 1) (recsL (recsK l k) ++ recL (recOf l[k])) :: .own 32 9 (.slice A49 (k + 1) c49) (k + 1) (refsL ps ++ (refV (recOf l[k]) i29).toList) :: (R ++ i29.R)) w := hw.sub
          exact h2)
    · refine r_exit ?_
      refine r_te ?_
      refine r_te ?_
      refine r_be ?_
      refine r_tn ?_
      refine r_seq ?_
      refine r_region ?_
      have hk3 : k = l.length := by have h := of_decide_eq_false hc; omega
      subst hk3
      rw [recsK_all, hall]
      rw [recsK_all] at hps
      have okr := recs_ok ok
      obtain ⟨rs, hrs⟩ : ∃ rs, l.map recOf = rs := ⟨_, rfl⟩
      have hlen : rs.length = l.length := by rw [← hrs, List.length_map]
      rw [hrs] at okr hall hps ⊢
      rw [← hlen]
      rw [← hlen] at hl4
      have hpat : ∀ r ∈ rs, r.pat.length = 16 := fun r hr => (okr r hr).1
      refine r_move rfl rfl ?_
      refine r_call rfl rfl rfl (by kernel_rfl) rfl (fun w hw => by exact encode23_bad rs A2 c2 hpat (fun hv => by rw [List.all_eq_true.2 hv] at hall; cases hall) (by omega) w (own_rd (A := A2) (m := rs.length) (c := c2) hw)) ?_
      refine r_move rfl rfl ?_
      refine r_extract rfl rfl rfl ?_
      refine r_extract rfl rfl rfl ?_
      refine r_assign rfl rfl ?_
      refine r_assign rfl rfl ?_
      refine r_nil ?_
      refine r_tn ?_
      refine r_seq ?_
      refine r_seq ?_
      refine r_region ?_
      refine r_move rfl rfl ?_
      refine r_not rfl rfl rfl ?_
      refine r_nil ?_
      refine r_tn ?_
      refine r_cond_t rfl ?_
      refine r_seq ?_
      refine r_region ?_
      refine r_move rfl rfl ?_
      refine r_len rfl rfl rfl ?_
      refine r_eql (p := true) rfl rfl rfl rfl ?_
      refine r_move rfl rfl ?_
      refine r_go rfl rfl ?_
      refine r_move rfl rfl ?_
      refine r_go rfl rfl ?_
      refine r_eql (p := true) rfl rfl rfl rfl ?_
      refine r_pick_t rfl rfl rfl ?_
      refine r_assign rfl rfl ?_
      refine r_nil ?_
      refine r_tn ?_
      refine r_ret ?_
      refine r_tr ?_
      exact r_done1 (.inl rfl) rfl (res_tmp rfl) fun w hw => ⟨rfl, hw.clear⟩

theorem RecordMatchesReference_walk (A : Option Addr) (c : Nat) (l : List Card) (W : World) (hA : Rd W A (cardsL l)) (ok : ∀ c ∈ l, okCard c) :
    Calls Try.prog 3 #[.slice A l.length c] W fun e w' => e = .returned (.bool true) ∧ Sat W [] [] w' := by
  cases h : (l.map recOf).all validR with
  | true => exact RecordMatchesReference_good A c l W hA ok h
  | false => exact RecordMatchesReference_bad A c l W hA ok h

end Go.Proofs.Ytgicjkjppnkodaa
