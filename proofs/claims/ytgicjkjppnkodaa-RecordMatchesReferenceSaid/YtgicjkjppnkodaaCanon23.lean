/-
  Records (chapter 23): RecordCanonical.
-/
import Derived.Test.YtgicjkjppnkodaaSizes23
namespace Go.Proofs.Ytgicjkjppnkodaa
open Go Go.RowKit
set_option linter.unusedVariables false
set_option linter.unusedSimpArgs false
set_option maxHeartbeats 2000000
set_option maxRecDepth 4000
attribute [local irreducible] mix

attribute [local irreducible] topB recsL validR usedF


theorem RecordCanonical_good (A : Option Addr) (c : Nat) (l : List Card) (q : Nat) (nb : Int) (W : World) (hA : Rd W A (cardsL l)) (ok : ∀ c ∈ l, okCard c) (hq : q ≤ 65535) (hnb : 0 ≤ nb ∧ nb ≤ 255) (hcan : topOK ((topB (l.map recOf)).set (q % (topB (l.map recOf)).length) nb) = true) :
    Calls Try.prog 4 #[.slice A l.length c, .int .u16 (q : Int), .int .u8 nb] W fun e w' => e = .returned (.bool true) ∧ Sat W [] [] w' := by
  have hb1 : bytesB [nb] := fun z hz => by rw [List.mem_singleton.1 hz]; exact hnb
  refine enter Try.func4 rfl rfl rfl ?_
  refine r_seq ?_
  refine r_region ?_
  refine r_assign rfl rfl ?_
  refine r_nil ?_
  refine r_tn ?_
  refine r_seq ?_
  refine r_seq ?_
  refine r_region ?_
  refine r_call rfl rfl rfl (by kernel_rfl) rfl (fun w hw => by exact awake23 w) ?_
  refine r_not rfl rfl rfl ?_
  refine r_move rfl rfl ?_
  refine r_go rfl rfl ?_
  refine r_move rfl rfl ?_
  refine r_go rfl rfl ?_
  refine r_len rfl rfl rfl ?_
  refine r_go rfl rfl ?_
  refine r_gtr (p := decide (4 < l.length)) rfl rfl rfl (decide_eq_decide.2 ⟨fun _ => by omega, fun _ => by omega⟩) ?_
  refine r_pick_f rfl rfl rfl ?_
  refine r_nil ?_
  refine r_tn ?_
  refine r_cond rfl (fun hc => ?_) (fun hc => ?_)
  · refine r_seq ?_
    refine r_region ?_
    refine r_call rfl rfl rfl (by kernel_rfl) rfl (fun w hw => by exact awake23 w) ?_
    refine r_assign rfl rfl ?_
    refine r_nil ?_
    refine r_tn ?_
    refine r_ret ?_
    refine r_tr ?_
    exact r_done1 (.inl rfl) rfl (res_tmp rfl) fun w hw => ⟨rfl, hw.clear⟩
  · refine r_skip ?_
    refine r_tn ?_
    refine r_seq ?_
    have hl4 : l.length ≤ 4 := by have h := of_decide_eq_false hc; omega
    clear hc
    refine r_region ?_
    refine r_assign rfl rfl ?_
    refine r_nil ?_
    refine r_tn ?_
    refine r_seq ?_
    refine r_seq ?_
    refine r_region ?_
    refine r_assign rfl rfl ?_
    refine r_nil ?_
    refine r_tn ?_
    refine r_block ?_
    refine Run.ownNil 48 535 ?_
    refine r_loop2 (fun k A2 c2 => [(0, .slice A l.length c), (1, .int .u16 (q : Int)), (2, .int .u8 nb), (7, .slice A2 k c2), (8, .int .i64 (k : Int))]) (fun k A2 c2 => [.own 48 535 (.slice A2 k c2) k (recsL (recsK l k))]) (fun k A2 c2 => k ≤ l.length ∧ ∀ r ∈ recsK l k, validR r = true) l.length 0 none 0 ⟨by omega, fun r hr => by cases hr⟩ ⟨rfl, rfl, rfl, rfl, rfl, trivial⟩ (fun w hw => by rw [recsK_nil]; have h2 : Sat _ _ [.own 48 535 (.slice none 0 0) 0 ([])] w := hw.sub; exact h2) fun k A2 c2 hk => ?_
    obtain ⟨hk, hv⟩ := hk
    refine r_seq ?_
    refine r_seq ?_
    refine r_region ?_
    refine r_move rfl rfl ?_
    refine r_move rfl rfl ?_
    refine r_len rfl rfl rfl ?_
    refine r_lss rfl rfl rfl rfl ?_
    refine r_nil ?_
    refine r_tn ?_
    refine r_cond rfl (fun hc => ?_) (fun hc => ?_)
    · refine r_skip ?_
      refine r_tn ?_
      refine r_seq ?_
      refine r_block ?_
      refine r_seq ?_
      refine r_region ?_
      have hkl : k < l.length := by have h := of_decide_eq_true hc; omega
      obtain ⟨ba, oa, rfl⟩ := cards_some hA ok hkl
      have hri := Rd_card hA ok hkl
      have hok := ok _ (List.getElem_mem hkl)
      have hp : (recOf l[k]).pat.length = 16 := hok.1.2
      refine r_move rfl rfl ?_
      refine r_move rfl rfl ?_
      refine r_move rfl rfl ?_
      refine r_indexSl (sz := 36) (o' := oa + k * 36) rfl rfl rfl rfl rfl (by omega) (by omega) (by simp) ?_
      refine r_loadRd (vs := cardL l[k]) rfl rfl rfl rfl (cardV_size hok.1) (fun w hw => hri.keep hw) ?_
      refine r_callx rfl rfl rfl (by kernel_rfl) rfl (fun w hw => by exact of23 l[k] hok.1 w) ?_
      rintro i41 hi41
      refine r_call rfl rfl rfl (by kernel_rfl) rfl (fun w hw => by exact forward23 (recOf l[k]) i41 hp w (hi41 w (fun x hx => hw.ok x (by simp [hx])))) ?_
      refine Run.less (fun w hw => hw.behind.behind) ?_
      refine r_lit (sz := 535) (z := .agg (recV rec0)) (pv := [(0, .agg (recV (recOf l[k])))]) (cells := recV (recOf l[k])) rfl rfl rfl (by kernel_rfl) rfl rfl (fill_one (v := .agg (recV (recOf l[k]))) (by decide) (recV_size hp) (by simp)) (recV_size hp) (fun b43 => ?_) (by decide)
      refine r_append (k := 1) (news := recL (recOf l[k])) (sz := 535) (bytes := 4152) (z := .agg (recV rec0)) rfl rfl rfl rfl (by kernel_rfl) (recV_size rfl) (by decide) (fun w hw => by have h := own_rd (A := some ⟨b43, 0, none⟩) (m := 1) (c := 1) hw; rw [recV_list] at h; exact h) (recL_len hp) (fun u hu => recL_one hu) (by omega) (by unfold maxLen; omega) fun A44 c44 => ?_
      refine r_assign rfl rfl ?_
      refine r_nil ?_
      refine r_tn ?_
      refine r_seq ?_
      refine r_region ?_
      refine r_move rfl rfl ?_
      refine r_move rfl rfl ?_
      refine r_indexSl (sz := 36) (o' := oa + k * 36) rfl rfl rfl rfl rfl (by omega) (by omega) (by simp) ?_
      refine r_loadRd (vs := cardL l[k]) rfl rfl rfl rfl (cardV_size hok.1) (fun w hw => hri.keep hw) ?_
      refine r_callx rfl rfl rfl (by kernel_rfl) rfl (fun w hw => by exact of23 l[k] hok.1 w) ?_
      rintro i49 hi49
      refine Run.less (fun w hw => hw.perm List.perm_append_comm) ?_
      refine r_call rfl rfl rfl (by kernel_rfl) rfl (fun w hw => by exact refValid23 (recOf l[k]) i49 w (hi49 w (fun x hx => hw.ok x (by simp [hx])))) ?_
      refine r_not rfl rfl rfl ?_
      refine r_nil ?_
      refine r_tn ?_
      refine r_cond rfl (fun hc => ?_) (fun hc => ?_)
      · refine r_seq ?_
        refine r_region ?_
        refine r_assign rfl rfl ?_
        refine r_nil ?_
        refine r_tn ?_
        refine r_ret ?_
        refine r_br ?_
        refine r_tr ?_
        refine r_tr ?_
        refine r_br ?_
        refine r_tr ?_
        exact r_done1 (.inl rfl) rfl (res_tmp rfl) fun w hw => ⟨rfl, hw.clear⟩
      · refine r_skip ?_
        refine r_bn ?_
        refine r_tn ?_
        refine r_region ?_
        refine r_move rfl rfl ?_
        refine r_add rfl rfl rfl (w64 (by omega)) ?_
        refine r_assign rfl rfl ?_
        refine r_nil ?_
        refine r_tn ?_
        have hval : validR (recOf l[k]) = true := by simpa using hc
        exact r_again2 (k + 1) A44 c44 ⟨by omega, fun r hr => by
          rw [recsK_succ hkl] at hr
          rcases List.mem_append.1 hr with hr | hr
          · exact hv r hr
          · rw [List.mem_singleton.1 hr]; exact hval⟩ (by omega) ⟨rfl, rfl, rfl, rfl, rfl, trivial⟩ (fun w hw => by rw [recsK_succ hkl, recsL_snoc]; exact hw.sub)
    · refine r_exit ?_
      refine r_te ?_
      refine r_te ?_
      refine r_be ?_
      refine r_tn ?_
      refine r_seq ?_
      refine r_region ?_
      have hk3 : k = l.length := by have h := of_decide_eq_false hc; omega
      subst hk3
      rw [recsK_all] at hv ⊢
      have okr := recs_ok ok
      obtain ⟨rs, hrs⟩ : ∃ rs, l.map recOf = rs := ⟨_, rfl⟩
      have hlen : rs.length = l.length := by rw [← hrs, List.length_map]
      rw [hrs] at okr hv hcan ⊢
      rw [← hlen]
      rw [← hlen] at hl4
      have hpat : ∀ r ∈ rs, r.pat.length = 16 := fun r hr => (okr r hr).1
      have hB := encs_le hpat
      have hL := top_len rs
      have hbt := top_bytes okr
      refine r_move rfl rfl ?_
      refine r_callx rfl rfl rfl (by kernel_rfl) rfl (fun w hw => by exact encodeT23 rs A2 c2 hpat hv (by omega) w (own_rd (A := A2) (m := rs.length) (c := c2) hw)) ?_
      rintro ⟨A54, c54⟩ _
      refine r_move rfl rfl ?_
      refine r_extract rfl rfl rfl ?_
      refine r_extract rfl rfl rfl ?_
      refine r_assign rfl rfl ?_
      refine r_assign rfl rfl ?_
      refine r_nil ?_
      refine r_tn ?_
      refine r_seq ?_
      refine r_seq ?_
      refine r_region ?_
      refine r_move rfl rfl ?_
      refine r_neq (p := false) rfl rfl rfl rfl ?_
      refine r_move rfl rfl ?_
      refine r_go rfl rfl ?_
      refine r_move rfl rfl ?_
      refine r_go rfl rfl ?_
      refine r_len rfl rfl rfl ?_
      refine r_go rfl rfl ?_
      refine r_eql (p := false) rfl rfl rfl (decide_eq_false (by omega)) ?_
      refine r_pick_f rfl rfl rfl ?_
      refine r_nil ?_
      refine r_tn ?_
      refine r_cond_f rfl ?_
      refine r_skip ?_
      refine r_tn ?_
      refine r_seq ?_
      refine r_region ?_
      refine r_have (fun w hw => own_le (A := A54) (m := (topB rs).length) (c := c54) hw) fun hle => ?_
      refine r_move rfl rfl ?_
      refine r_callx rfl rfl rfl (by kernel_rfl) rfl (fun w hw => by exact decodeOK23 rs A54 c54 okr hv (by omega) hle (by omega) w (own_rd (A := A54) (m := (topB rs).length) (c := c54) hw)) ?_
      rintro ⟨A66, c66⟩ _
      refine r_move rfl rfl ?_
      refine r_extract rfl rfl rfl ?_
      refine r_extract rfl rfl rfl ?_
      refine r_assign rfl rfl ?_
      refine r_assign rfl rfl ?_
      refine r_nil ?_
      refine r_tn ?_
      refine r_seq ?_
      refine r_region ?_
      refine r_move rfl rfl ?_
      refine r_move rfl rfl ?_
      refine r_len rfl rfl rfl ?_
      refine r_sub (r := (((topB rs).length - 1 : Nat) : Int)) rfl rfl rfl ((w64 (by omega)).trans (by omega)) ?_
      refine r_sliceHi (h' := ((topB rs).take ((topB rs).length - 1)).length) rfl rfl rfl rfl rfl (by rw [List.length_take, Nat.min_eq_left (by omega)]) (by rw [List.length_take]; omega) ?_
      refine r_call rfl rfl rfl (by kernel_rfl) rfl (fun w hw => by exact decodeBad23 ((topB rs).take ((topB rs).length - 1)) A54 c54 (top_less okr hv (by omega) (by omega)) (by rw [List.length_take]; omega) (by rw [List.length_take]; omega) (fun z hz => hbt z (List.mem_of_mem_take hz)) w (by rw [List.map_take]; exact (own_rd (A := A54) (m := (topB rs).length) (c := c54) hw).take _)) ?_
      refine r_move rfl rfl ?_
      refine r_extract rfl rfl rfl ?_
      refine r_extract rfl rfl rfl ?_
      refine r_assign rfl rfl ?_
      refine r_assign rfl rfl ?_
      refine r_nil ?_
      refine r_tn ?_
      refine r_seq ?_
      refine r_region ?_
      refine r_lit (sz := 1) (pv := []) (cells := #[]) rfl rfl rfl rfl rfl rfl (by kernel_rfl) rfl (fun b79 => ?_) (by decide)
      refine r_move rfl rfl ?_
      refine r_append (k := (topB rs).length) (news := ((topB rs).map (Value.int .u8))) (sz := 1) (bytes := 1) rfl rfl rfl rfl rfl rfl (by decide) (fun w hw => own_rd (A := A54) (m := (topB rs).length) (c := c54) hw) (by first | (simp; done) | (simp; omega)) (fun u hu => by simp at hu; first | (obtain ⟨x, _, rfl⟩ := hu; rfl) | (subst hu; rfl)) (by omega) (by unfold maxLen; omega) fun A81 c81 => ?_
      rw [Nat.zero_add, show (#[] : Array Value).toList ++ (topB rs).map (Value.int .u8) = (topB rs).map (Value.int .u8) from rfl]
      refine r_move rfl rfl ?_
      refine r_lit (sz := 1) (pv := [(0, .int .u8 nb)]) (cells := #[.int .u8 nb]) rfl rfl rfl rfl rfl rfl (by kernel_rfl) rfl (fun b83 => ?_) (by decide)
      refine r_append (k := 1) (news := [Value.int .u8 nb]) (sz := 1) (bytes := 1) rfl rfl rfl rfl rfl rfl (by decide) (fun w hw => own_rd (A := some ⟨b83, 0, none⟩) (m := 1) (c := 1) hw) (by first | (simp; done) | (simp; omega)) (fun u hu => by simp at hu; first | (obtain ⟨x, _, rfl⟩ := hu; rfl) | (subst hu; rfl)) (by omega) (by unfold maxLen; omega) fun A84 c84 => ?_
      have hm84 : (topB rs ++ [nb]).length = (topB rs).length + 1 := by rw [List.length_append]; rfl
      rw [show (topB rs).map (Value.int .u8) ++ [Value.int .u8 nb] = (topB rs ++ [nb]).map (Value.int .u8) by rw [List.map_append]; rfl, ← hm84]
      refine r_have (fun w hw => own_le (A := A84) (m := (topB rs ++ [nb]).length) (c := c84) hw) fun hle84 => ?_
      refine r_call rfl rfl rfl (by kernel_rfl) rfl (fun w hw => by exact decodeBad23 (topB rs ++ [nb]) A84 c84 (by rw [top_dec okr hv (by omega) hb1]; rfl) hle84 (by omega) (bytes_app hbt hb1) w (own_rd (A := A84) (m := (topB rs ++ [nb]).length) (c := c84) hw)) ?_
      refine r_move rfl rfl ?_
      refine r_extract rfl rfl rfl ?_
      refine r_extract rfl rfl rfl ?_
      refine r_assign rfl rfl ?_
      refine r_assign rfl rfl ?_
      refine r_nil ?_
      refine r_tn ?_
      refine r_seq ?_
      refine r_seq ?_
      refine r_region ?_
      refine r_move rfl rfl ?_
      refine r_neq (p := false) rfl rfl rfl rfl ?_
      refine r_move rfl rfl ?_
      refine r_go rfl rfl ?_
      refine r_move rfl rfl ?_
      refine r_go rfl rfl ?_
      refine r_neq (p := false) rfl rfl rfl rfl ?_
      refine r_pick_f rfl rfl rfl ?_
      refine r_move rfl rfl ?_
      refine r_go rfl rfl ?_
      refine r_move rfl rfl ?_
      refine r_go rfl rfl ?_
      refine r_neq (p := false) rfl rfl rfl rfl ?_
      refine r_pick_f rfl rfl rfl ?_
      refine r_move rfl rfl ?_
      refine r_go rfl rfl ?_
      refine r_move rfl rfl ?_
      refine r_go rfl rfl ?_
      refine r_move rfl rfl ?_
      refine r_go rfl rfl ?_
      refine r_callx rfl rfl rfl (by kernel_rfl) rfl (fun w hw => by exact diff23 rs rs A66 A2 c66 c2 hpat hpat (by omega) (by omega) w (own_rd (A := A66) (m := rs.length) (c := c66) hw) (own_rd (A := A2) (m := rs.length) (c := c2) hw)) ?_
      rintro d101 hd101
      refine r_go rfl rfl ?_
      obtain rfl := diff_same hpat hd101
      refine r_neq (p := false) rfl rfl rfl rfl ?_
      refine r_pick_f rfl rfl rfl ?_
      refine r_move rfl rfl ?_
      refine r_go rfl rfl ?_
      refine r_move rfl rfl ?_
      refine r_go rfl rfl ?_
      refine r_len rfl rfl rfl ?_
      refine r_go rfl rfl ?_
      refine r_move rfl rfl ?_
      refine r_go rfl rfl ?_
      refine r_len rfl rfl rfl ?_
      refine r_go rfl rfl ?_
      refine r_neq (p := false) rfl rfl rfl (by simp) ?_
      refine r_pick_f rfl rfl rfl ?_
      refine r_nil ?_
      refine r_tn ?_
      refine r_cond_f rfl ?_
      refine r_skip ?_
      refine r_tn ?_
      refine r_seq ?_
      refine r_region ?_
      refine r_lit (sz := 1) (pv := []) (cells := #[]) rfl rfl rfl rfl rfl rfl (by kernel_rfl) rfl (fun b111 => ?_) (by decide)
      refine r_move rfl rfl ?_
      refine r_append (k := (topB rs).length) (news := ((topB rs).map (Value.int .u8))) (sz := 1) (bytes := 1) rfl rfl rfl rfl rfl rfl (by decide) (fun w hw => own_rd (A := A54) (m := (topB rs).length) (c := c54) hw) (by first | (simp; done) | (simp; omega)) (fun u hu => by simp at hu; first | (obtain ⟨x, _, rfl⟩ := hu; rfl) | (subst hu; rfl)) (by omega) (by unfold maxLen; omega) fun A113 c113 => ?_
      rw [Nat.zero_add, show (#[] : Array Value).toList ++ (topB rs).map (Value.int .u8) = (topB rs).map (Value.int .u8) from rfl]
      refine r_assign rfl rfl ?_
      refine r_nil ?_
      refine r_tn ?_
      refine r_seq ?_
      refine r_region ?_
      refine r_move rfl rfl ?_
      refine r_move rfl rfl ?_
      refine r_convert (r := (q : Int)) rfl rfl rfl rfl (w64 (by omega)) ?_
      refine r_move rfl rfl ?_
      refine r_len rfl rfl rfl ?_
      obtain ⟨m, hm⟩ : ∃ m, q % (topB rs).length = m := ⟨_, rfl⟩
      have hml : m < (topB rs).length := by rw [← hm]; exact Nat.mod_lt q (by omega)
      rw [hm] at hcan
      refine r_rem (r := (m : Int)) rfl rfl rfl (by omega) (congrArg Int.ofNat hm) ?_
      refine r_have (fun w hw => own_some (A := A113) (m := (topB rs).length) (c := c113) hw (by omega)) fun hg => ?_
      obtain ⟨g, rfl⟩ := hg
      refine r_have (fun w hw => own_le (A := some ⟨g, 0, none⟩) (m := (topB rs).length) (c := c113) hw) fun hle113 => ?_
      refine r_move rfl rfl ?_
      refine r_indexSl (sz := 1) (o' := m) rfl rfl rfl rfl rfl (by omega) (by omega) (by simp) ?_
      refine r_storeOwn (m := (topB rs).length) (c := c113) rfl rfl rfl rfl rfl (by omega) ?_
      rw [show ((topB rs).map (Value.int .u8)).set m (.int .u8 nb) = ((topB rs).set m nb).map (Value.int .u8) by rw [List.map_set]]
      have hls : ((topB rs).set m nb).length = (topB rs).length := List.length_set ..
      have hbs : bytesB ((topB rs).set m nb) := fun z hz => by
        rcases List.mem_or_eq_of_mem_set hz with h | rfl
        · exact hbt z h
        · exact hnb
      obtain ⟨cs, hcs⟩ : ∃ cs, (topB rs).set m nb = cs := ⟨_, rfl⟩
      rw [hcs] at hls hbs hcan ⊢
      rw [← hls] at hle113 hL ⊢
      have e2 := top_back hbs hcan
      obtain ⟨rs2, h2⟩ : ∃ rs2, tR cs (topN cs) = rs2 := ⟨_, rfl⟩
      have ok2 := tR_ok hbs (topN cs)
      have hv2 := tR_valid hbs hcan
      have hn2 : (tR cs (topN cs)).length ≤ 1048576 := by rw [tR_len]; exact (topOK_parts hcan).2.2.2.2.2
      rw [h2] at e2 ok2 hv2 hn2
      subst e2
      refine r_nil ?_
      refine r_tn ?_
      refine r_seq ?_
      refine r_region ?_
      refine r_move rfl rfl ?_
      refine r_callx rfl rfl rfl (by kernel_rfl) rfl (fun w hw => by exact decodeOK23 rs2 (some ⟨g, 0, none⟩) c113 ok2 hv2 hn2 hle113 (by omega) w (own_rd (A := some ⟨g, 0, none⟩) (m := (topB rs2).length) (c := c113) hw)) ?_
      rintro ⟨A124, c124⟩ _
      refine r_move rfl rfl ?_
      refine r_extract rfl rfl rfl ?_
      refine r_extract rfl rfl rfl ?_
      refine r_assign rfl rfl ?_
      refine r_assign rfl rfl ?_
      refine r_nil ?_
      refine r_tn ?_
      refine r_seq ?_
      refine r_seq ?_
      refine r_region ?_
      refine r_move rfl rfl ?_
      refine r_neq (p := false) rfl rfl rfl rfl ?_
      refine r_nil ?_
      refine r_tn ?_
      refine r_cond_f rfl ?_
      refine r_skip ?_
      refine r_tn ?_
      refine r_seq ?_
      refine r_region ?_
      refine r_move rfl rfl ?_
      refine r_callx rfl rfl rfl (by kernel_rfl) rfl (fun w hw => by exact encodeT23 rs2 A124 c124 (fun r hr => (ok2 r hr).1) hv2 hn2 w (own_rd (A := A124) (m := rs2.length) (c := c124) hw)) ?_
      rintro ⟨A138, c138⟩ _
      refine r_move rfl rfl ?_
      refine r_extract rfl rfl rfl ?_
      refine r_extract rfl rfl rfl ?_
      refine r_assign rfl rfl ?_
      refine r_assign rfl rfl ?_
      refine r_nil ?_
      refine r_tn ?_
      refine r_seq ?_
      refine r_region ?_
      refine r_move rfl rfl ?_
      refine r_eql (p := true) rfl rfl rfl rfl ?_
      refine r_move rfl rfl ?_
      refine r_go rfl rfl ?_
      refine r_move rfl rfl ?_
      refine r_go rfl rfl ?_
      refine r_move rfl rfl ?_
      refine r_go rfl rfl ?_
      refine r_call (v := .bool true) rfl rfl rfl (by kernel_rfl) rfl (fun w hw => by have h := same23 (some ⟨g, 0, none⟩) A138 c113 c138 (topB rs2) (topB rs2) w (by omega) (own_rd (A := some ⟨g, 0, none⟩) (m := (topB rs2).length) (c := c113) hw) (own_rd (A := A138) (m := (topB rs2).length) (c := c138) hw); rw [decide_eq_true rfl] at h; exact h) ?_
      refine r_pick_t rfl rfl rfl ?_
      refine r_assign rfl rfl ?_
      refine r_nil ?_
      refine r_tn ?_
      refine r_ret ?_
      exact r_done1 (.inl rfl) rfl (res_tmp rfl) fun w hw => ⟨rfl, hw.clear⟩

theorem RecordCanonical_bad (A : Option Addr) (c : Nat) (l : List Card) (q : Nat) (nb : Int) (W : World) (hA : Rd W A (cardsL l)) (ok : ∀ c ∈ l, okCard c) (hq : q ≤ 65535) (hnb : 0 ≤ nb ∧ nb ≤ 255) (hcan : topOK ((topB (l.map recOf)).set (q % (topB (l.map recOf)).length) nb) = false) :
    Calls Try.prog 4 #[.slice A l.length c, .int .u16 (q : Int), .int .u8 nb] W fun e w' => e = .returned (.bool true) ∧ Sat W [] [] w' := by
  have hb1 : bytesB [nb] := fun z hz => by rw [List.mem_singleton.1 hz]; exact hnb
  refine enter Try.func4 rfl rfl rfl ?_
  refine r_seq ?_
  refine r_region ?_
  refine r_assign rfl rfl ?_
  refine r_nil ?_
  refine r_tn ?_
  refine r_seq ?_
  refine r_seq ?_
  refine r_region ?_
  refine r_call rfl rfl rfl (by kernel_rfl) rfl (fun w hw => by exact awake23 w) ?_
  refine r_not rfl rfl rfl ?_
  refine r_move rfl rfl ?_
  refine r_go rfl rfl ?_
  refine r_move rfl rfl ?_
  refine r_go rfl rfl ?_
  refine r_len rfl rfl rfl ?_
  refine r_go rfl rfl ?_
  refine r_gtr (p := decide (4 < l.length)) rfl rfl rfl (decide_eq_decide.2 ⟨fun _ => by omega, fun _ => by omega⟩) ?_
  refine r_pick_f rfl rfl rfl ?_
  refine r_nil ?_
  refine r_tn ?_
  refine r_cond rfl (fun hc => ?_) (fun hc => ?_)
  · refine r_seq ?_
    refine r_region ?_
    refine r_call rfl rfl rfl (by kernel_rfl) rfl (fun w hw => by exact awake23 w) ?_
    refine r_assign rfl rfl ?_
    refine r_nil ?_
    refine r_tn ?_
    refine r_ret ?_
    refine r_tr ?_
    exact r_done1 (.inl rfl) rfl (res_tmp rfl) fun w hw => ⟨rfl, hw.clear⟩
  · refine r_skip ?_
    refine r_tn ?_
    refine r_seq ?_
    have hl4 : l.length ≤ 4 := by have h := of_decide_eq_false hc; omega
    clear hc
    refine r_region ?_
    refine r_assign rfl rfl ?_
    refine r_nil ?_
    refine r_tn ?_
    refine r_seq ?_
    refine r_seq ?_
    refine r_region ?_
    refine r_assign rfl rfl ?_
    refine r_nil ?_
    refine r_tn ?_
    refine r_block ?_
    refine Run.ownNil 48 535 ?_
    refine r_loop2 (fun k A2 c2 => [(0, .slice A l.length c), (1, .int .u16 (q : Int)), (2, .int .u8 nb), (7, .slice A2 k c2), (8, .int .i64 (k : Int))]) (fun k A2 c2 => [.own 48 535 (.slice A2 k c2) k (recsL (recsK l k))]) (fun k A2 c2 => k ≤ l.length ∧ ∀ r ∈ recsK l k, validR r = true) l.length 0 none 0 ⟨by omega, fun r hr => by cases hr⟩ ⟨rfl, rfl, rfl, rfl, rfl, trivial⟩ (fun w hw => by rw [recsK_nil]; have h2 : Sat _ _ [.own 48 535 (.slice none 0 0) 0 ([])] w := hw.sub; exact h2) fun k A2 c2 hk => ?_
    obtain ⟨hk, hv⟩ := hk
    refine r_seq ?_
    refine r_seq ?_
    refine r_region ?_
    refine r_move rfl rfl ?_
    refine r_move rfl rfl ?_
    refine r_len rfl rfl rfl ?_
    refine r_lss rfl rfl rfl rfl ?_
    refine r_nil ?_
    refine r_tn ?_
    refine r_cond rfl (fun hc => ?_) (fun hc => ?_)
    · refine r_skip ?_
      refine r_tn ?_
      refine r_seq ?_
      refine r_block ?_
      refine r_seq ?_
      refine r_region ?_
      have hkl : k < l.length := by have h := of_decide_eq_true hc; omega
      obtain ⟨ba, oa, rfl⟩ := cards_some hA ok hkl
      have hri := Rd_card hA ok hkl
      have hok := ok _ (List.getElem_mem hkl)
      have hp : (recOf l[k]).pat.length = 16 := hok.1.2
      refine r_move rfl rfl ?_
      refine r_move rfl rfl ?_
      refine r_move rfl rfl ?_
      refine r_indexSl (sz := 36) (o' := oa + k * 36) rfl rfl rfl rfl rfl (by omega) (by omega) (by simp) ?_
      refine r_loadRd (vs := cardL l[k]) rfl rfl rfl rfl (cardV_size hok.1) (fun w hw => hri.keep hw) ?_
      refine r_callx rfl rfl rfl (by kernel_rfl) rfl (fun w hw => by exact of23 l[k] hok.1 w) ?_
      rintro i41 hi41
      refine r_call rfl rfl rfl (by kernel_rfl) rfl (fun w hw => by exact forward23 (recOf l[k]) i41 hp w (hi41 w (fun x hx => hw.ok x (by simp [hx])))) ?_
      refine Run.less (fun w hw => hw.behind.behind) ?_
      refine r_lit (sz := 535) (z := .agg (recV rec0)) (pv := [(0, .agg (recV (recOf l[k])))]) (cells := recV (recOf l[k])) rfl rfl rfl (by kernel_rfl) rfl rfl (fill_one (v := .agg (recV (recOf l[k]))) (by decide) (recV_size hp) (by simp)) (recV_size hp) (fun b43 => ?_) (by decide)
      refine r_append (k := 1) (news := recL (recOf l[k])) (sz := 535) (bytes := 4152) (z := .agg (recV rec0)) rfl rfl rfl rfl (by kernel_rfl) (recV_size rfl) (by decide) (fun w hw => by have h := own_rd (A := some ⟨b43, 0, none⟩) (m := 1) (c := 1) hw; rw [recV_list] at h; exact h) (recL_len hp) (fun u hu => recL_one hu) (by omega) (by unfold maxLen; omega) fun A44 c44 => ?_
      refine r_assign rfl rfl ?_
      refine r_nil ?_
      refine r_tn ?_
      refine r_seq ?_
      refine r_region ?_
      refine r_move rfl rfl ?_
      refine r_move rfl rfl ?_
      refine r_indexSl (sz := 36) (o' := oa + k * 36) rfl rfl rfl rfl rfl (by omega) (by omega) (by simp) ?_
      refine r_loadRd (vs := cardL l[k]) rfl rfl rfl rfl (cardV_size hok.1) (fun w hw => hri.keep hw) ?_
      refine r_callx rfl rfl rfl (by kernel_rfl) rfl (fun w hw => by exact of23 l[k] hok.1 w) ?_
      rintro i49 hi49
      refine Run.less (fun w hw => hw.perm List.perm_append_comm) ?_
      refine r_call rfl rfl rfl (by kernel_rfl) rfl (fun w hw => by exact refValid23 (recOf l[k]) i49 w (hi49 w (fun x hx => hw.ok x (by simp [hx])))) ?_
      refine r_not rfl rfl rfl ?_
      refine r_nil ?_
      refine r_tn ?_
      refine r_cond rfl (fun hc => ?_) (fun hc => ?_)
      · refine r_seq ?_
        refine r_region ?_
        refine r_assign rfl rfl ?_
        refine r_nil ?_
        refine r_tn ?_
        refine r_ret ?_
        refine r_br ?_
        refine r_tr ?_
        refine r_tr ?_
        refine r_br ?_
        refine r_tr ?_
        exact r_done1 (.inl rfl) rfl (res_tmp rfl) fun w hw => ⟨rfl, hw.clear⟩
      · refine r_skip ?_
        refine r_bn ?_
        refine r_tn ?_
        refine r_region ?_
        refine r_move rfl rfl ?_
        refine r_add rfl rfl rfl (w64 (by omega)) ?_
        refine r_assign rfl rfl ?_
        refine r_nil ?_
        refine r_tn ?_
        have hval : validR (recOf l[k]) = true := by simpa using hc
        exact r_again2 (k + 1) A44 c44 ⟨by omega, fun r hr => by
          rw [recsK_succ hkl] at hr
          rcases List.mem_append.1 hr with hr | hr
          · exact hv r hr
          · rw [List.mem_singleton.1 hr]; exact hval⟩ (by omega) ⟨rfl, rfl, rfl, rfl, rfl, trivial⟩ (fun w hw => by rw [recsK_succ hkl, recsL_snoc]; exact hw.sub)
    · refine r_exit ?_
      refine r_te ?_
      refine r_te ?_
      refine r_be ?_
      refine r_tn ?_
      refine r_seq ?_
      refine r_region ?_
      have hk3 : k = l.length := by have h := of_decide_eq_false hc; omega
      subst hk3
      rw [recsK_all] at hv ⊢
      have okr := recs_ok ok
      obtain ⟨rs, hrs⟩ : ∃ rs, l.map recOf = rs := ⟨_, rfl⟩
      have hlen : rs.length = l.length := by rw [← hrs, List.length_map]
      rw [hrs] at okr hv hcan ⊢
      rw [← hlen]
      rw [← hlen] at hl4
      have hpat : ∀ r ∈ rs, r.pat.length = 16 := fun r hr => (okr r hr).1
      have hB := encs_le hpat
      have hL := top_len rs
      have hbt := top_bytes okr
      refine r_move rfl rfl ?_
      refine r_callx rfl rfl rfl (by kernel_rfl) rfl (fun w hw => by exact encodeT23 rs A2 c2 hpat hv (by omega) w (own_rd (A := A2) (m := rs.length) (c := c2) hw)) ?_
      rintro ⟨A54, c54⟩ _
      refine r_move rfl rfl ?_
      refine r_extract rfl rfl rfl ?_
      refine r_extract rfl rfl rfl ?_
      refine r_assign rfl rfl ?_
      refine r_assign rfl rfl ?_
      refine r_nil ?_
      refine r_tn ?_
      refine r_seq ?_
      refine r_seq ?_
      refine r_region ?_
      refine r_move rfl rfl ?_
      refine r_neq (p := false) rfl rfl rfl rfl ?_
      refine r_move rfl rfl ?_
      refine r_go rfl rfl ?_
      refine r_move rfl rfl ?_
      refine r_go rfl rfl ?_
      refine r_len rfl rfl rfl ?_
      refine r_go rfl rfl ?_
      refine r_eql (p := false) rfl rfl rfl (decide_eq_false (by omega)) ?_
      refine r_pick_f rfl rfl rfl ?_
      refine r_nil ?_
      refine r_tn ?_
      refine r_cond_f rfl ?_
      refine r_skip ?_
      refine r_tn ?_
      refine r_seq ?_
      refine r_region ?_
      refine r_have (fun w hw => own_le (A := A54) (m := (topB rs).length) (c := c54) hw) fun hle => ?_
      refine r_move rfl rfl ?_
      refine r_callx rfl rfl rfl (by kernel_rfl) rfl (fun w hw => by exact decodeOK23 rs A54 c54 okr hv (by omega) hle (by omega) w (own_rd (A := A54) (m := (topB rs).length) (c := c54) hw)) ?_
      rintro ⟨A66, c66⟩ _
      refine r_move rfl rfl ?_
      refine r_extract rfl rfl rfl ?_
      refine r_extract rfl rfl rfl ?_
      refine r_assign rfl rfl ?_
      refine r_assign rfl rfl ?_
      refine r_nil ?_
      refine r_tn ?_
      refine r_seq ?_
      refine r_region ?_
      refine r_move rfl rfl ?_
      refine r_move rfl rfl ?_
      refine r_len rfl rfl rfl ?_
      refine r_sub (r := (((topB rs).length - 1 : Nat) : Int)) rfl rfl rfl ((w64 (by omega)).trans (by omega)) ?_
      refine r_sliceHi (h' := ((topB rs).take ((topB rs).length - 1)).length) rfl rfl rfl rfl rfl (by rw [List.length_take, Nat.min_eq_left (by omega)]) (by rw [List.length_take]; omega) ?_
      refine r_call rfl rfl rfl (by kernel_rfl) rfl (fun w hw => by exact decodeBad23 ((topB rs).take ((topB rs).length - 1)) A54 c54 (top_less okr hv (by omega) (by omega)) (by rw [List.length_take]; omega) (by rw [List.length_take]; omega) (fun z hz => hbt z (List.mem_of_mem_take hz)) w (by rw [List.map_take]; exact (own_rd (A := A54) (m := (topB rs).length) (c := c54) hw).take _)) ?_
      refine r_move rfl rfl ?_
      refine r_extract rfl rfl rfl ?_
      refine r_extract rfl rfl rfl ?_
      refine r_assign rfl rfl ?_
      refine r_assign rfl rfl ?_
      refine r_nil ?_
      refine r_tn ?_
      refine r_seq ?_
      refine r_region ?_
      refine r_lit (sz := 1) (pv := []) (cells := #[]) rfl rfl rfl rfl rfl rfl (by kernel_rfl) rfl (fun b79 => ?_) (by decide)
      refine r_move rfl rfl ?_
      refine r_append (k := (topB rs).length) (news := ((topB rs).map (Value.int .u8))) (sz := 1) (bytes := 1) rfl rfl rfl rfl rfl rfl (by decide) (fun w hw => own_rd (A := A54) (m := (topB rs).length) (c := c54) hw) (by first | (simp; done) | (simp; omega)) (fun u hu => by simp at hu; first | (obtain ⟨x, _, rfl⟩ := hu; rfl) | (subst hu; rfl)) (by omega) (by unfold maxLen; omega) fun A81 c81 => ?_
      rw [Nat.zero_add, show (#[] : Array Value).toList ++ (topB rs).map (Value.int .u8) = (topB rs).map (Value.int .u8) from rfl]
      refine r_move rfl rfl ?_
      refine r_lit (sz := 1) (pv := [(0, .int .u8 nb)]) (cells := #[.int .u8 nb]) rfl rfl rfl rfl rfl rfl (by kernel_rfl) rfl (fun b83 => ?_) (by decide)
      refine r_append (k := 1) (news := [Value.int .u8 nb]) (sz := 1) (bytes := 1) rfl rfl rfl rfl rfl rfl (by decide) (fun w hw => own_rd (A := some ⟨b83, 0, none⟩) (m := 1) (c := 1) hw) (by first | (simp; done) | (simp; omega)) (fun u hu => by simp at hu; first | (obtain ⟨x, _, rfl⟩ := hu; rfl) | (subst hu; rfl)) (by omega) (by unfold maxLen; omega) fun A84 c84 => ?_
      have hm84 : (topB rs ++ [nb]).length = (topB rs).length + 1 := by rw [List.length_append]; rfl
      rw [show (topB rs).map (Value.int .u8) ++ [Value.int .u8 nb] = (topB rs ++ [nb]).map (Value.int .u8) by rw [List.map_append]; rfl, ← hm84]
      refine r_have (fun w hw => own_le (A := A84) (m := (topB rs ++ [nb]).length) (c := c84) hw) fun hle84 => ?_
      refine r_call rfl rfl rfl (by kernel_rfl) rfl (fun w hw => by exact decodeBad23 (topB rs ++ [nb]) A84 c84 (by rw [top_dec okr hv (by omega) hb1]; rfl) hle84 (by omega) (bytes_app hbt hb1) w (own_rd (A := A84) (m := (topB rs ++ [nb]).length) (c := c84) hw)) ?_
      refine r_move rfl rfl ?_
      refine r_extract rfl rfl rfl ?_
      refine r_extract rfl rfl rfl ?_
      refine r_assign rfl rfl ?_
      refine r_assign rfl rfl ?_
      refine r_nil ?_
      refine r_tn ?_
      refine r_seq ?_
      refine r_seq ?_
      refine r_region ?_
      refine r_move rfl rfl ?_
      refine r_neq (p := false) rfl rfl rfl rfl ?_
      refine r_move rfl rfl ?_
      refine r_go rfl rfl ?_
      refine r_move rfl rfl ?_
      refine r_go rfl rfl ?_
      refine r_neq (p := false) rfl rfl rfl rfl ?_
      refine r_pick_f rfl rfl rfl ?_
      refine r_move rfl rfl ?_
      refine r_go rfl rfl ?_
      refine r_move rfl rfl ?_
      refine r_go rfl rfl ?_
      refine r_neq (p := false) rfl rfl rfl rfl ?_
      refine r_pick_f rfl rfl rfl ?_
      refine r_move rfl rfl ?_
      refine r_go rfl rfl ?_
      refine r_move rfl rfl ?_
      refine r_go rfl rfl ?_
      refine r_move rfl rfl ?_
      refine r_go rfl rfl ?_
      refine r_callx rfl rfl rfl (by kernel_rfl) rfl (fun w hw => by exact diff23 rs rs A66 A2 c66 c2 hpat hpat (by omega) (by omega) w (own_rd (A := A66) (m := rs.length) (c := c66) hw) (own_rd (A := A2) (m := rs.length) (c := c2) hw)) ?_
      rintro d101 hd101
      refine r_go rfl rfl ?_
      obtain rfl := diff_same hpat hd101
      refine r_neq (p := false) rfl rfl rfl rfl ?_
      refine r_pick_f rfl rfl rfl ?_
      refine r_move rfl rfl ?_
      refine r_go rfl rfl ?_
      refine r_move rfl rfl ?_
      refine r_go rfl rfl ?_
      refine r_len rfl rfl rfl ?_
      refine r_go rfl rfl ?_
      refine r_move rfl rfl ?_
      refine r_go rfl rfl ?_
      refine r_len rfl rfl rfl ?_
      refine r_go rfl rfl ?_
      refine r_neq (p := false) rfl rfl rfl (by simp) ?_
      refine r_pick_f rfl rfl rfl ?_
      refine r_nil ?_
      refine r_tn ?_
      refine r_cond_f rfl ?_
      refine r_skip ?_
      refine r_tn ?_
      refine r_seq ?_
      refine r_region ?_
      refine r_lit (sz := 1) (pv := []) (cells := #[]) rfl rfl rfl rfl rfl rfl (by kernel_rfl) rfl (fun b111 => ?_) (by decide)
      refine r_move rfl rfl ?_
      refine r_append (k := (topB rs).length) (news := ((topB rs).map (Value.int .u8))) (sz := 1) (bytes := 1) rfl rfl rfl rfl rfl rfl (by decide) (fun w hw => own_rd (A := A54) (m := (topB rs).length) (c := c54) hw) (by first | (simp; done) | (simp; omega)) (fun u hu => by simp at hu; first | (obtain ⟨x, _, rfl⟩ := hu; rfl) | (subst hu; rfl)) (by omega) (by unfold maxLen; omega) fun A113 c113 => ?_
      rw [Nat.zero_add, show (#[] : Array Value).toList ++ (topB rs).map (Value.int .u8) = (topB rs).map (Value.int .u8) from rfl]
      refine r_assign rfl rfl ?_
      refine r_nil ?_
      refine r_tn ?_
      refine r_seq ?_
      refine r_region ?_
      refine r_move rfl rfl ?_
      refine r_move rfl rfl ?_
      refine r_convert (r := (q : Int)) rfl rfl rfl rfl (w64 (by omega)) ?_
      refine r_move rfl rfl ?_
      refine r_len rfl rfl rfl ?_
      obtain ⟨m, hm⟩ : ∃ m, q % (topB rs).length = m := ⟨_, rfl⟩
      have hml : m < (topB rs).length := by rw [← hm]; exact Nat.mod_lt q (by omega)
      rw [hm] at hcan
      refine r_rem (r := (m : Int)) rfl rfl rfl (by omega) (congrArg Int.ofNat hm) ?_
      refine r_have (fun w hw => own_some (A := A113) (m := (topB rs).length) (c := c113) hw (by omega)) fun hg => ?_
      obtain ⟨g, rfl⟩ := hg
      refine r_have (fun w hw => own_le (A := some ⟨g, 0, none⟩) (m := (topB rs).length) (c := c113) hw) fun hle113 => ?_
      refine r_move rfl rfl ?_
      refine r_indexSl (sz := 1) (o' := m) rfl rfl rfl rfl rfl (by omega) (by omega) (by simp) ?_
      refine r_storeOwn (m := (topB rs).length) (c := c113) rfl rfl rfl rfl rfl (by omega) ?_
      rw [show ((topB rs).map (Value.int .u8)).set m (.int .u8 nb) = ((topB rs).set m nb).map (Value.int .u8) by rw [List.map_set]]
      have hls : ((topB rs).set m nb).length = (topB rs).length := List.length_set ..
      have hbs : bytesB ((topB rs).set m nb) := fun z hz => by
        rcases List.mem_or_eq_of_mem_set hz with h | rfl
        · exact hbt z h
        · exact hnb
      obtain ⟨cs, hcs⟩ : ∃ cs, (topB rs).set m nb = cs := ⟨_, rfl⟩
      rw [hcs] at hls hbs hcan ⊢
      rw [← hls] at hle113 hL ⊢
      refine r_nil ?_
      refine r_tn ?_
      refine r_seq ?_
      refine r_region ?_
      refine r_move rfl rfl ?_
      refine r_call rfl rfl rfl (by kernel_rfl) rfl (fun w hw => by exact decodeBad23 cs (some ⟨g, 0, none⟩) c113 hcan hle113 (by omega) hbs w (own_rd (A := some ⟨g, 0, none⟩) (m := cs.length) (c := c113) hw)) ?_
      refine r_move rfl rfl ?_
      refine r_extract rfl rfl rfl ?_
      refine r_extract rfl rfl rfl ?_
      refine r_assign rfl rfl ?_
      refine r_assign rfl rfl ?_
      refine r_nil ?_
      refine r_tn ?_
      refine r_seq ?_
      refine r_seq ?_
      refine r_region ?_
      refine r_move rfl rfl ?_
      refine r_neq (p := true) rfl rfl rfl rfl ?_
      refine r_nil ?_
      refine r_tn ?_
      refine r_cond_t rfl ?_
      refine r_seq ?_
      refine r_region ?_
      refine r_move rfl rfl ?_
      refine r_eql (p := true) rfl rfl rfl rfl ?_
      refine r_move rfl rfl ?_
      refine r_go rfl rfl ?_
      refine r_move rfl rfl ?_
      refine r_go rfl rfl ?_
      refine r_len rfl rfl rfl ?_
      refine r_go rfl rfl ?_
      refine r_eql (p := true) rfl rfl rfl rfl ?_
      refine r_pick_t rfl rfl rfl ?_
      refine r_assign rfl rfl ?_
      refine r_nil ?_
      refine r_tn ?_
      refine r_ret ?_
      refine r_tr ?_
      exact r_done1 (.inl rfl) rfl (res_tmp rfl) fun w hw => ⟨rfl, hw.clear⟩

theorem RecordCanonical_walk (A : Option Addr) (c : Nat) (l : List Card) (at_ nb : Int) (W : World) (hA : Rd W A (cardsL l)) (ok : ∀ c ∈ l, okCard c) (hat : (Lit.int .u16 at_).wf = true) (hnb : (Lit.int .u8 nb).wf = true) :
    Calls Try.prog 4 #[.slice A l.length c, .int .u16 at_, .int .u8 nb] W fun e w' => e = .returned (.bool true) ∧ Sat W [] [] w' := by
  obtain ⟨h0, h1⟩ := wfu16 hat
  obtain ⟨q, rfl⟩ : ∃ q : Nat, at_ = q := ⟨at_.toNat, by omega⟩
  cases h : topOK ((topB (l.map recOf)).set (q % (topB (l.map recOf)).length) nb) with
  | true => exact RecordCanonical_good A c l q nb W hA ok (by omega) (wfu8 hnb) h
  | false => exact RecordCanonical_bad A c l q nb W hA ok (by omega) (wfu8 hnb) h

end Go.Proofs.Ytgicjkjppnkodaa
