/-
  Records (chapter 23): RecordSizes.
-/
import Derived.Test.YtgicjkjppnkodaaRefV23
import Derived.Test.YtgicjkjppnkodaaCards23
import Derived.Test.YtgicjkjppnkodaaAw23
namespace Go.Proofs.Ytgicjkjppnkodaa
open Go Go.RowKit
set_option linter.unusedVariables false
set_option linter.unusedSimpArgs false
set_option maxHeartbeats 2000000
set_option maxRecDepth 4000
attribute [local irreducible] mix

theorem recsK_nil (l : List Card) : recsL (recsK l 0) = [] := rfl
theorem usedF_def (P : Nat → Nat → Nat → Bool) (k : Nat) : (!eqQ (P k) noneQ) = usedF P k := rfl
theorem encs_snoc {l : List Rec} {r : Rec} (h : r.pat.length = 16) : ((l ++ [r]).flatMap encB).length = (l.flatMap encB).length + (31 + lenB r.P 4) := by
  rw [List.flatMap_append, List.length_append, List.flatMap_cons, List.flatMap_nil, List.append_nil, encB_len r h]
theorem encs_le : ∀ {l : List Rec}, (∀ r ∈ l, r.pat.length = 16) → (l.flatMap encB).length ≤ 4127 * l.length
  | [], _ => Nat.zero_le _
  | r :: l, h => by
    have h1 := encs_le (l := l) (fun r hr => h r (.tail _ hr))
    have h2 := lenB_le r.P 4
    rw [List.flatMap_cons, List.length_append, encB_len r (h r (.head _)), List.length_cons]
    omega
theorem recV_plane {r : Rec} (h : r.pat.length = 16) {j : Nat} (hj : j < 4) : (recV r).extract (128 * j) (128 * j + 128) = planeV (r.P j) := by
  rw [← planesV_plane r.P hj, ← rec_planes r h]
  apply Array.ext_getElem?
  intro i
  rw [Array.getElem?_extract, Array.getElem?_extract, Array.size_extract, recV_size h]
  by_cases hi : i < 128
  · rw [if_pos (by omega), if_pos (by omega), Array.getElem?_extract, recV_size h, if_pos (by omega)]
    congr 1; omega
  · rw [if_neg (by omega), if_neg (by omega)]


attribute [local irreducible] topB recsL validR usedF


theorem RecordSizes_walk (A : Option Addr) (c : Nat) (l : List Card) (W : World) (hA : Rd W A (cardsL l)) (ok : ∀ c ∈ l, okCard c) :
    Calls Try.prog 7 #[.slice A l.length c] W fun e w' => e = .returned (.bool true) ∧ Sat W [] [] w' := by
  refine enter Try.func7 rfl rfl rfl ?_
  refine r_seq ?_
  refine r_region ?_
  refine r_assign rfl rfl ?_
  refine r_nil ?_
  refine r_tn ?_
  refine r_seq ?_
  refine r_seq ?_
  refine r_region ?_
  refine r_call rfl rfl rfl (by kernel_rfl) rfl (fun w hw => by exact awake23 w) ?_
  refine r_not rfl rfl rfl ?_
  refine r_move rfl rfl ?_
  refine r_go rfl rfl ?_
  refine r_move rfl rfl ?_
  refine r_go rfl rfl ?_
  refine r_len rfl rfl rfl ?_
  refine r_go rfl rfl ?_
  refine r_gtr (p := decide (4 < l.length)) rfl rfl rfl (decide_eq_decide.2 ⟨fun _ => by omega, fun _ => by omega⟩) ?_
  refine r_pick_f rfl rfl rfl ?_
  refine r_nil ?_
  refine r_tn ?_
  refine r_cond rfl (fun hc => ?_) (fun hc => ?_)
  · refine r_seq ?_
    refine r_region ?_
    refine r_call rfl rfl rfl (by kernel_rfl) rfl (fun w hw => by exact awake23 w) ?_
    refine r_assign rfl rfl ?_
    refine r_nil ?_
    refine r_tn ?_
    refine r_ret ?_
    refine r_tr ?_
    exact r_done1 (.inl rfl) rfl (res_tmp rfl) fun w hw => ⟨rfl, hw.clear⟩
  · refine r_skip ?_
    refine r_tn ?_
    refine r_seq ?_
    have hl4 : l.length ≤ 4 := by have h := of_decide_eq_false hc; omega
    clear hc
    refine r_region ?_
    refine r_assign rfl rfl ?_
    refine r_nil ?_
    refine r_tn ?_
    refine r_seq ?_
    refine r_region ?_
    refine r_assign rfl rfl ?_
    refine r_nil ?_
    refine r_tn ?_
    refine r_seq ?_
    refine r_seq ?_
    refine r_region ?_
    refine r_assign rfl rfl ?_
    refine r_nil ?_
    refine r_tn ?_
    refine r_block ?_
    refine Run.ownNil 48 535 ?_
    refine r_loop2 (fun k A2 c2 => [(0, .slice A l.length c), (3, .int .i64 ((8 + ((recsK l k).flatMap encB).length : Nat) : Int)), (4, .slice A2 k c2), (5, .int .i64 (k : Int))]) (fun k A2 c2 => [.own 48 535 (.slice A2 k c2) k (recsL (recsK l k))]) (fun k A2 c2 => k ≤ l.length ∧ ∀ r ∈ recsK l k, validR r = true) l.length 0 none 0 ⟨by omega, fun r hr => by cases hr⟩ ⟨rfl, rfl, rfl, rfl, trivial⟩ (fun w hw => by rw [recsK_nil]; have h2 : Sat _ _ [.own 48 535 (.slice none 0 0) 0 ([])] w := hw.sub; exact h2) fun k A2 c2 hk => ?_
    obtain ⟨hk, hv⟩ := hk
    refine r_seq ?_
    refine r_seq ?_
    refine r_region ?_
    refine r_move rfl rfl ?_
    refine r_move rfl rfl ?_
    refine r_len rfl rfl rfl ?_
    refine r_lss rfl rfl rfl rfl ?_
    refine r_nil ?_
    refine r_tn ?_
    refine r_cond rfl (fun hc => ?_) (fun hc => ?_)
    · refine r_skip ?_
      refine r_tn ?_
      refine r_seq ?_
      refine r_block ?_
      refine r_seq ?_
      refine r_region ?_
      have hkl : k < l.length := by have h := of_decide_eq_true hc; omega
      obtain ⟨ba, oa, rfl⟩ := cards_some hA ok hkl
      have hri := Rd_card hA ok hkl
      have hok := ok _ (List.getElem_mem hkl)
      have hp : (recOf l[k]).pat.length = 16 := hok.1.2
      have hpk : ∀ r ∈ recsK l k, r.pat.length = 16 := fun r hr => by
        obtain ⟨c, hc, rfl⟩ := List.mem_map.1 hr
        exact (ok c (List.mem_of_mem_take hc)).1.2
      have hN := encs_le hpk
      rw [recsK_len l hk] at hN
      refine r_move rfl rfl ?_
      refine r_move rfl rfl ?_
      refine r_indexSl (sz := 36) (o' := oa + k * 36) rfl rfl rfl rfl rfl (by omega) (by omega) (by simp) ?_
      refine r_loadRd (vs := cardL l[k]) rfl rfl rfl rfl (cardV_size hok.1) (fun w hw => hri.keep hw) ?_
      refine r_callx rfl rfl rfl (by kernel_rfl) rfl (fun w hw => by exact of23 l[k] hok.1 w) ?_
      rintro i29 hi29
      refine Run.less (fun w hw => hw.perm List.perm_append_comm) ?_
      refine r_allocV (cs := #[.slice none 0 0, .bool false, .bool false, .slice none 0 0, .int .u8 0, .int .i64 0, .int .i64 0, .int .i64 0, .int .i64 0]) (by kernel_rfl) rfl fun b6 => ?_
      refine r_storeV rfl rfl rfl rfl rfl rfl ?_
      refine r_nil ?_
      refine r_tn ?_
      refine r_seq ?_
      refine r_seq ?_
      refine r_region ?_
      refine r_loadV rfl rfl rfl rfl rfl ?_
      refine r_call rfl rfl rfl (by kernel_rfl) rfl (fun w hw => by exact refValid23 (recOf l[k]) i29 w (hi29 w (fun x hx => hw.ok x (by simp [hx])))) ?_
      refine r_not rfl rfl rfl ?_
      refine r_nil ?_
      refine r_tn ?_
      refine r_cond rfl (fun hc => ?_) (fun hc => ?_)
      · refine r_seq ?_
        refine r_region ?_
        refine r_assign rfl rfl ?_
        refine r_nil ?_
        refine r_tn ?_
        refine r_ret ?_
        refine r_tr ?_
        refine r_br ?_
        refine r_tr ?_
        refine r_tr ?_
        refine r_br ?_
        refine r_tr ?_
        exact r_done1 (.inl rfl) rfl (res_tmp rfl) fun w hw => ⟨rfl, hw.clear⟩
      · refine r_skip ?_
        refine r_tn ?_
        refine r_seq ?_
        refine r_region ?_
        have hval : validR (recOf l[k]) = true := by simpa using hc
        refine r_loadV rfl rfl rfl rfl rfl ?_
        refine r_call rfl rfl rfl (by kernel_rfl) rfl (fun w hw => by exact forward23 (recOf l[k]) i29 hp w (hi29 w (fun x hx => hw.ok x (by simp [hx])))) ?_
        refine r_allocV (cs := recV rec0) (by kernel_rfl) rfl fun b7 => ?_
        refine r_storeV rfl rfl rfl (recV_size hp) (recV_size rfl) (recV_one _) ?_
        refine r_nil ?_
        refine r_tn ?_
        refine r_seq ?_
        refine r_region ?_
        refine r_move rfl rfl ?_
        refine r_add (r := ((8 + ((recsK l k).flatMap encB).length + 31 : Nat) : Int)) rfl rfl rfl ((w64 (by omega)).trans (by omega)) ?_
        refine r_assign rfl rfl ?_
        refine r_nil ?_
        refine r_tn ?_
        refine r_seq ?_
        refine r_seq ?_
        refine r_region ?_
        refine r_assign rfl rfl ?_
        refine r_nil ?_
        refine r_tn ?_
        refine r_block ?_
        refine r_loopN (fun j => [(0, .slice (some ⟨ba, oa, none⟩) l.length c), (3, .int .i64 ((8 + ((recsK l k).flatMap encB).length + 31 + lenB (recOf l[k]).P j : Nat) : Int)), (4, .slice A2 k c2), (5, .int .i64 (k : Int)), (7, .pointer (some ⟨b7, 0, none⟩)), (8, .int .i64 (j : Int))]) (fun j => [.blk b7 (.cells (recV (recOf l[k])) 48 (0, 0)), .own 48 535 (.slice A2 k c2) k (recsL (recsK l k))]) (fun j => j ≤ 4) 4 0 (by omega) ⟨rfl, rfl, rfl, rfl, rfl, rfl, trivial⟩ (fun w hw => hw.sub) fun j hj => ?_
        have hL := lenB_le (recOf l[k]).P j
        refine r_seq ?_
        refine r_seq ?_
        refine r_region ?_
        refine r_move rfl rfl ?_
        refine r_lss rfl rfl rfl rfl ?_
        refine r_nil ?_
        refine r_tn ?_
        refine r_cond rfl (fun hc => ?_) (fun hc => ?_)
        · refine r_skip ?_
          refine r_tn ?_
          refine r_seq ?_
          refine r_block ?_
          refine r_seq ?_
          refine r_region ?_
          have hj4 : j < 4 := by have h := of_decide_eq_true hc; omega
          clear hc
          refine r_move rfl rfl ?_
          refine r_fieldAddr (off := 0) (o' := 0) rfl rfl rfl rfl ?_
          refine r_indexArr (sz := 128) (o' := 128 * j) rfl rfl rfl rfl rfl (by omega) (by omega) (by omega) ?_
          refine r_loadN (m := 128) rfl rfl rfl rfl (by rw [recV_size hp]; omega) (recV_plane hp hj4) ?_
          refine r_build (cells := planeV noneQ) rfl rfl (by kernel_rfl) ?_
          refine r_neqAgg (p := usedF (recOf l[k]).P j) rfl rfl rfl planeFlat (planeV_ok _) (planeV_ok _) (by rw [plane_eq]; exact usedF_def _ _) ?_
          refine r_nil ?_
          refine r_tn ?_
          refine r_cond rfl (fun hc => ?_) (fun hc => ?_)
          · refine r_region ?_
            refine r_move rfl rfl ?_
            refine r_add (r := ((8 + ((recsK l k).flatMap encB).length + 31 + lenB (recOf l[k]).P j + 1024 : Nat) : Int)) rfl rfl rfl ((w64 (by omega)).trans (by omega)) ?_
            refine r_assign rfl rfl ?_
            refine r_nil ?_
            refine r_bn ?_
            refine r_tn ?_
            refine r_region ?_
            refine r_move rfl rfl ?_
            refine r_add rfl rfl rfl (w64 (by omega)) ?_
            refine r_assign rfl rfl ?_
            refine r_nil ?_
            refine r_tn ?_
            exact r_againN (j + 1) (by omega) (by omega) ⟨rfl, congrArg (fun z : Nat => some (Value.int .i64 (z : Int))) (by first | (rw [lenB_yes hc]; omega) | (rw [lenB_no hc])), rfl, rfl, rfl, rfl, trivial⟩ (fun w hw => hw.sub)
          · refine r_skip ?_
            refine r_bn ?_
            refine r_tn ?_
            refine r_region ?_
            refine r_move rfl rfl ?_
            refine r_add rfl rfl rfl (w64 (by omega)) ?_
            refine r_assign rfl rfl ?_
            refine r_nil ?_
            refine r_tn ?_
            exact r_againN (j + 1) (by omega) (by omega) ⟨rfl, congrArg (fun z : Nat => some (Value.int .i64 (z : Int))) (by first | (rw [lenB_yes hc]; omega) | (rw [lenB_no hc])), rfl, rfl, rfl, rfl, trivial⟩ (fun w hw => hw.sub)
        · refine r_exit ?_
          refine r_te ?_
          refine r_te ?_
          refine r_be ?_
          refine r_tn ?_
          refine r_region ?_
          have hj4 : j = 4 := by have h := of_decide_eq_false hc; omega
          subst hj4
          refine r_move rfl rfl ?_
          refine r_loadV rfl rfl rfl rfl (recV_size hp) ?_
          refine r_lit (sz := 535) (z := .agg (recV rec0)) (pv := [(0, .agg (recV (recOf l[k])))]) (cells := recV (recOf l[k])) rfl rfl rfl (by kernel_rfl) rfl rfl (fill_one (v := .agg (recV (recOf l[k]))) (by decide) (recV_size hp) (by simp)) (recV_size hp) (fun b51 => ?_) (by decide)
          refine r_append (k := 1) (news := recL (recOf l[k])) (sz := 535) (bytes := 4152) (z := .agg (recV rec0)) rfl rfl rfl rfl (by kernel_rfl) (recV_size rfl) (by decide) (fun w hw => by have h := own_rd (A := some ⟨b51, 0, none⟩) (m := 1) (c := 1) hw; rw [recV_list] at h; exact h) (recL_len hp) (fun u hu => recL_one hu) (by omega) (by unfold maxLen; omega) fun A52 c52 => ?_
          refine r_assign rfl rfl ?_
          refine r_nil ?_
          refine r_bn ?_
          refine r_tn ?_
          refine r_region ?_
          refine r_move rfl rfl ?_
          refine r_add rfl rfl rfl (w64 (by omega)) ?_
          refine r_assign rfl rfl ?_
          refine r_nil ?_
          refine r_tn ?_
          exact r_again2 (k + 1) A52 c52 ⟨by omega, fun r hr => by
            rw [recsK_succ hkl] at hr
            rcases List.mem_append.1 hr with hr | hr
            · exact hv r hr
            · rw [List.mem_singleton.1 hr]; exact hval⟩ (by omega) ⟨rfl, congrArg (fun z : Nat => some (Value.int .i64 (z : Int))) (by rw [recsK_succ hkl, encs_snoc hp]; omega), rfl, rfl, trivial⟩ (fun w hw => by rw [recsK_succ hkl, recsL_snoc]; exact hw.sub)
    · refine r_exit ?_
      refine r_te ?_
      refine r_te ?_
      refine r_be ?_
      refine r_tn ?_
      refine r_seq ?_
      refine r_region ?_
      have hk3 : k = l.length := by have h := of_decide_eq_false hc; omega
      subst hk3
      rw [recsK_all] at hv ⊢
      have hpat := recs_pat ok
      obtain ⟨rs, hrs⟩ : ∃ rs, l.map recOf = rs := ⟨_, rfl⟩
      have hlen : rs.length = l.length := by rw [← hrs, List.length_map]
      rw [hrs] at hpat hv ⊢
      rw [← hlen]
      rw [← hlen] at hl4
      refine r_move rfl rfl ?_
      refine r_callx rfl rfl rfl (by kernel_rfl) rfl (fun w hw => by exact encodeT23 rs A2 c2 hpat hv (by omega) w (own_rd (A := A2) (m := rs.length) (c := c2) hw)) ?_
      rintro ⟨A55, c55⟩ _
      refine r_move rfl rfl ?_
      refine r_extract rfl rfl rfl ?_
      refine r_extract rfl rfl rfl ?_
      refine r_assign rfl rfl ?_
      refine r_assign rfl rfl ?_
      refine r_nil ?_
      refine r_tn ?_
      refine r_seq ?_
      refine r_region ?_
      refine r_move rfl rfl ?_
      refine r_eql (p := true) rfl rfl rfl rfl ?_
      refine r_move rfl rfl ?_
      refine r_go rfl rfl ?_
      refine r_move rfl rfl ?_
      refine r_go rfl rfl ?_
      refine r_len rfl rfl rfl ?_
      refine r_go rfl rfl ?_
      refine r_move rfl rfl ?_
      refine r_go rfl rfl ?_
      refine r_eql (p := true) rfl rfl rfl (by rw [top_len]; exact decide_eq_true rfl) ?_
      refine r_pick_t rfl rfl rfl ?_
      refine r_assign rfl rfl ?_
      refine r_nil ?_
      refine r_tn ?_
      refine r_ret ?_
      exact r_done1 (.inl rfl) rfl (res_tmp rfl) fun w hw => ⟨rfl, hw.clear⟩
end Go.Proofs.Ytgicjkjppnkodaa
