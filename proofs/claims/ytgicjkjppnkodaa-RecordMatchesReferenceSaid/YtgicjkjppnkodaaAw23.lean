/-
  Records (chapter 23): awake.
-/
import Derived.Test.YtgicjkjppnkodaaLike23
namespace Go.Proofs.Ytgicjkjppnkodaa
open Go Go.RowKit
set_option linter.unusedVariables false
set_option linter.unusedSimpArgs false
set_option maxHeartbeats 2000000
set_option maxRecDepth 4000
attribute [local irreducible] mix

attribute [local irreducible] topB recsL validR usedF


theorem diff_same {l : List Rec} (ok : ∀ r ∈ l, r.pat.length = 16) {d : Int} (h : DiffIs l l d) : d = -1 := by
  rcases h with ⟨rfl, _⟩ | ⟨k, rfl, _, h2, h3⟩
  · rfl
  · have hk : k < l.length := by omega
    have h4 := h3 hk hk
    have h5 : recEq l[k] l[k] = true := cellsEq_self (recV_ok (ok _ (List.getElem_mem hk)))
    rw [h5] at h4
    cases h4
theorem awake23 (w : World) :
    Calls Try.prog 8 #[] w fun e w' => e = .returned (.bool true) ∧ Sat w [] [] w' := by
  refine enter Try.func8 rfl rfl rfl ?_
  refine r_seq ?_
  refine r_region ?_
  refine r_assign rfl rfl ?_
  refine r_nil ?_
  refine r_tn ?_
  refine r_seq ?_
  refine r_region ?_
  refine r_callx rfl rfl rfl (by kernel_rfl) rfl (fun w hw => by exact encodeT23 [] none 0 no_mem no_mem (by decide) w (by rw [recsL_nil]; exact Rd.nil w none)) ?_
  rintro ⟨A14, c14⟩ _
  refine r_move rfl rfl ?_
  refine r_extract rfl rfl rfl ?_
  refine r_extract rfl rfl rfl ?_
  refine r_assign rfl rfl ?_
  refine r_assign rfl rfl ?_
  refine r_nil ?_
  refine r_tn ?_
  refine r_seq ?_
  refine r_region ?_
  refine r_allocV (cs := recV rec0) (by kernel_rfl) rfl fun b3 => ?_
  refine r_nil ?_
  refine r_tn ?_
  refine r_seq ?_
  refine r_region ?_
  refine r_fieldAddr (off := 0) (o' := 0) rfl rfl rfl rfl ?_
  refine r_indexArr (sz := 128) (o' := 256) rfl rfl rfl rfl rfl (by omega) (by omega) (by omega) ?_
  refine r_fieldAddr (off := 0) (o' := 256) rfl rfl rfl rfl ?_
  refine r_indexArr (sz := 2) (o' := 256) rfl rfl rfl rfl rfl (by omega) (by omega) (by omega) ?_
  refine r_fieldAddr (off := 0) (o' := 256) rfl rfl rfl rfl ?_
  refine r_store (m := 1) (cs' := recV recA0) rfl rfl rfl rfl (by rw [recV_size rfl]; decide) rfl ((splice_one _ 256 _ (by rw [recV_size rfl]; decide)).trans recA0_set) ?_
  refine r_nil ?_
  refine r_tn ?_
  refine r_seq ?_
  refine r_region ?_
  refine r_build (cells := #[.int .i64 3, .int .i64 4, .int .i64 514, .int .i64 7]) rfl rfl (by kernel_rfl) ?_
  refine r_fieldAddr (off := 531) (o' := 531) rfl rfl rfl rfl ?_
  refine r_store (m := 4) (cs' := recV recA) rfl rfl rfl rfl (by rw [recV_size rfl]; decide) rfl recA_set ?_
  refine r_nil ?_
  refine r_tn ?_
  refine r_seq ?_
  refine r_region ?_
  refine r_loadV rfl rfl rfl rfl (recV_size rfl) ?_
  refine r_lit (sz := 535) (z := .agg (recV rec0)) (pv := [(0, .agg (recV recA))]) (cells := recV recA) rfl rfl rfl (by kernel_rfl) rfl rfl (fill_one (v := .agg (recV recA)) (by decide) (recV_size rfl) (by simp)) (recV_size rfl) (fun b26 => ?_) (by decide)
  refine r_callx rfl rfl rfl (by kernel_rfl) rfl (fun w hw => by exact encodeT23 [recA] (some ⟨b26, 0, none⟩) 1 (one_mem rfl) (one_mem validA) (by decide) w (by have h := own_rd (A := some ⟨b26, 0, none⟩) (m := 1) (c := 1) hw; rw [recV_list] at h; rw [recsL_one]; exact h)) ?_
  rintro ⟨A27, c27⟩ _
  refine r_move rfl rfl ?_
  refine r_extract rfl rfl rfl ?_
  refine r_extract rfl rfl rfl ?_
  refine r_assign rfl rfl ?_
  refine r_assign rfl rfl ?_
  refine r_nil ?_
  refine r_tn ?_
  refine r_seq ?_
  refine r_region ?_
  refine r_have (fun w hw => own_le (A := A27) (m := (topB [recA]).length) (c := c27) hw) fun hle27 => ?_
  refine r_move rfl rfl ?_
  refine r_callx rfl rfl rfl (by kernel_rfl) rfl (fun w hw => by exact decodeOK23 [recA] A27 c27 (one_mem okA) (one_mem validA) (by decide) hle27 (by rw [lenA]; decide) w (own_rd (A := A27) (m := (topB [recA]).length) (c := c27) hw)) ?_
  rintro ⟨A32, c32⟩ _
  refine r_move rfl rfl ?_
  refine r_extract rfl rfl rfl ?_
  refine r_extract rfl rfl rfl ?_
  refine r_assign rfl rfl ?_
  refine r_assign rfl rfl ?_
  refine r_nil ?_
  refine r_tn ?_
  refine r_seq ?_
  refine r_region ?_
  refine r_loadV rfl rfl rfl rfl (recV_size rfl) ?_
  refine r_allocV (cs := recV rec0) (by kernel_rfl) rfl fun b8 => ?_
  refine r_storeV rfl rfl rfl (recV_size rfl) (recV_size rfl) (recV_one _) ?_
  refine r_nil ?_
  refine r_tn ?_
  refine r_seq ?_
  refine r_region ?_
  refine r_fieldAddr (off := 0) (o' := 0) rfl rfl rfl rfl ?_
  refine r_indexArr (sz := 128) (o' := 0) rfl rfl rfl rfl rfl (by omega) (by omega) (by omega) ?_
  refine r_fieldAddr (off := 0) (o' := 0) rfl rfl rfl rfl ?_
  refine r_indexArr (sz := 2) (o' := 0) rfl rfl rfl rfl rfl (by omega) (by omega) (by omega) ?_
  refine r_fieldAddr (off := 1) (o' := 1) rfl rfl rfl rfl ?_
  refine r_store (m := 1) (cs' := recV recS) rfl rfl rfl rfl (by rw [recV_size rfl]; decide) rfl ((splice_one _ 1 _ (by rw [recV_size rfl]; decide)).trans recS_set) ?_
  refine r_nil ?_
  refine r_tn ?_
  refine r_seq ?_
  refine r_region ?_
  refine r_loadV rfl rfl rfl rfl (recV_size rfl) ?_
  refine r_lit (sz := 535) (z := .agg (recV rec0)) (pv := [(0, .agg (recV recS))]) (cells := recV recS) rfl rfl rfl (by kernel_rfl) rfl rfl (fill_one (v := .agg (recV recS)) (by decide) (recV_size rfl) (by simp)) (recV_size rfl) (fun b43 => ?_) (by decide)
  refine r_call rfl rfl rfl (by kernel_rfl) rfl (fun w hw => by exact encode23_bad [recS] (some ⟨b43, 0, none⟩) 1 (one_mem rfl) (fun h => by have h2 := h recS (.head _); rw [validS] at h2; cases h2) (by decide) w (by have h := own_rd (A := some ⟨b43, 0, none⟩) (m := 1) (c := 1) hw; rw [recV_list] at h; rw [recsL_one]; exact h)) ?_
  refine r_move rfl rfl ?_
  refine r_extract rfl rfl rfl ?_
  refine r_extract rfl rfl rfl ?_
  refine r_assign rfl rfl ?_
  refine r_assign rfl rfl ?_
  refine r_nil ?_
  refine r_tn ?_
  refine r_seq ?_
  refine r_region ?_
  refine r_lit (sz := 1) (pv := [(0, .int .u8 (67)), (1, .int .u8 (56)), (2, .int .u8 (82)), (3, .int .u8 (49))]) (cells := #[.int .u8 (67), .int .u8 (56), .int .u8 (82), .int .u8 (49)]) rfl rfl rfl rfl rfl rfl (by kernel_rfl) rfl (fun b48 => ?_) (by decide)
  refine Run.openOwn (.slice (some ⟨b48, 0, none⟩) 4 4) rfl (fun h => by cases h) fun g cur e1 e2 e3 e4 e5 => ?_
  injection e1 with e1
  injection e1 with e1 _ _
  subst e1
  have hcur : ∀ j u, (([67, 56, 82, 49] : List Int).map (Value.int .u8))[j]? = some u → cur[0 + j]? = some u := fun j u hj => take_cell e5 hj
  refine r_convConst rfl rfl rfl rfl ?_
  refine r_call rfl rfl rfl (by kernel_rfl) rfl (fun w hw => by exact decodeBad23 [67, 56, 82, 49] (some ⟨b48, 0, none⟩) 4 magic_bad (by decide) (by decide) (by unfold bytesB; decide) w (Rd.blk (hw.look (HasBlk.pick (b := b48))) hcur)) ?_
  refine r_move rfl rfl ?_
  refine r_extract rfl rfl rfl ?_
  refine r_extract rfl rfl rfl ?_
  refine r_assign rfl rfl ?_
  refine r_assign rfl rfl ?_
  refine r_nil ?_
  refine r_tn ?_
  refine r_seq ?_
  refine r_have (fun w hw => own_some (A := A32) (m := 1) (c := c32) hw (by decide)) fun hs32 => ?_
  obtain ⟨g32, rfl⟩ := hs32
  refine r_mixed (by kernel_rfl) (by kernel_rfl) ?_
  refine r_move rfl rfl ?_
  refine r_lit (sz := 1) (pv := [(0, .int .u8 (67)), (1, .int .u8 (56)), (2, .int .u8 (82)), (3, .int .u8 (49)), (4, .int .u8 (0)), (5, .int .u8 (0)), (6, .int .u8 (0)), (7, .int .u8 (0))]) (cells := #[.int .u8 (67), .int .u8 (56), .int .u8 (82), .int .u8 (49), .int .u8 (0), .int .u8 (0), .int .u8 (0), .int .u8 (0)]) rfl rfl rfl rfl rfl rfl (by kernel_rfl) rfl (fun b54 => ?_) (by decide)
  refine r_call (v := .bool true) rfl rfl rfl (by kernel_rfl) rfl (fun w hw => by have h := same23 A14 (some ⟨b54, 0, none⟩) c14 8 (topB []) [67, 56, 82, 49, 0, 0, 0, 0] w (by rw [topB_nil]; decide) (own_rd (A := A14) (m := (topB []).length) (c := c14) hw) (own_rd (A := some ⟨b54, 0, none⟩) (m := 8) (c := 8) hw); rw [decide_eq_true topB_nil] at h; exact h) ?_
  refine r_move rfl rfl ?_
  refine r_go rfl rfl ?_
  refine r_move rfl rfl ?_
  refine r_go rfl rfl ?_
  refine r_eql (p := true) rfl rfl rfl rfl ?_
  refine r_pick_t rfl rfl rfl ?_
  refine r_move rfl rfl ?_
  refine r_go rfl rfl ?_
  refine r_move rfl rfl ?_
  refine r_go rfl rfl ?_
  refine r_len rfl rfl rfl ?_
  refine r_go rfl rfl ?_
  refine r_eql (p := true) rfl rfl rfl (by rw [lenA]; rfl) ?_
  refine r_pick_t rfl rfl rfl ?_
  refine r_move rfl rfl ?_
  refine r_go rfl rfl ?_
  refine r_move rfl rfl ?_
  refine r_go rfl rfl ?_
  refine r_eql (p := true) rfl rfl rfl rfl ?_
  refine r_pick_t rfl rfl rfl ?_
  refine r_move rfl rfl ?_
  refine r_go rfl rfl ?_
  refine r_move rfl rfl ?_
  refine r_go rfl rfl ?_
  refine r_len rfl rfl rfl ?_
  refine r_go rfl rfl ?_
  refine r_eql (p := true) rfl rfl rfl rfl ?_
  refine r_pick_t rfl rfl rfl ?_
  refine r_move rfl rfl ?_
  refine r_go rfl rfl ?_
  refine r_move rfl rfl ?_
  refine r_go rfl rfl ?_
  refine r_indexSl (sz := 535) (o' := 0) rfl rfl rfl rfl rfl (by omega) (by decide) rfl ?_
  refine r_go rfl rfl ?_
  refine r_loadRd (vs := recL recA) rfl rfl rfl rfl (recV_size rfl) (fun w hw => by have h := own_rd (A := some ⟨g32, 0, none⟩) (m := 1) (c := c32) hw; rw [recsL_one] at h; exact h) ?_
  refine r_go rfl rfl ?_
  refine r_loadV rfl rfl rfl rfl (recV_size rfl) ?_
  refine r_go rfl rfl ?_
  refine r_eqlAgg (p := true) rfl rfl rfl recFlat (recV_ok rfl) (recV_ok rfl) (cellsEq_self (recV_ok rfl)) ?_
  refine r_pick_t rfl rfl rfl ?_
  refine r_move rfl rfl ?_
  refine r_go rfl rfl ?_
  refine r_move rfl rfl ?_
  refine r_go rfl rfl ?_
  refine r_eql (p := true) rfl rfl rfl rfl ?_
  refine r_pick_t rfl rfl rfl ?_
  refine r_move rfl rfl ?_
  refine r_go rfl rfl ?_
  refine r_move rfl rfl ?_
  refine r_go rfl rfl ?_
  refine r_eql (p := true) rfl rfl rfl rfl ?_
  refine r_pick_t rfl rfl rfl ?_
  refine r_move rfl rfl ?_
  refine r_go rfl rfl ?_
  refine r_move rfl rfl ?_
  refine r_go rfl rfl ?_
  refine r_eql (p := true) rfl rfl rfl rfl ?_
  refine r_pick_t rfl rfl rfl ?_
  refine r_move rfl rfl ?_
  refine r_go rfl rfl ?_
  refine r_move rfl rfl ?_
  refine r_go rfl rfl ?_
  refine r_callx rfl rfl rfl (by kernel_rfl) rfl (fun w hw => by exact diff23 [recA] [] (some ⟨g32, 0, none⟩) none c32 0 (one_mem rfl) no_mem (by decide) (by decide) w (own_rd (A := some ⟨g32, 0, none⟩) (m := 1) (c := c32) hw) (by rw [recsL_nil]; exact Rd.nil w none)) ?_
  rintro d95 hd95
  refine r_go rfl rfl ?_
  obtain rfl : d95 = 0 := by
    rcases hd95 with ⟨rfl, h, _⟩ | ⟨k, rfl, h, _, _⟩
    · cases h
    · rcases k with _ | k
      · rfl
      · obtain ⟨_, h2, _⟩ := h 0 (by omega)
        cases h2
  refine r_eql (p := true) rfl rfl rfl rfl ?_
  refine r_pick_t rfl rfl rfl ?_
  refine r_move rfl rfl ?_
  refine r_go rfl rfl ?_
  refine r_move rfl rfl ?_
  refine r_go rfl rfl ?_
  refine r_move rfl rfl ?_
  refine r_go rfl rfl ?_
  refine r_callx rfl rfl rfl (by kernel_rfl) rfl (fun w hw => by exact diff23 [recA] [recA] (some ⟨g32, 0, none⟩) (some ⟨g32, 0, none⟩) c32 c32 (one_mem rfl) (one_mem rfl) (by decide) (by decide) w (own_rd (A := some ⟨g32, 0, none⟩) (m := 1) (c := c32) hw) (own_rd (A := some ⟨g32, 0, none⟩) (m := 1) (c := c32) hw)) ?_
  rintro d101 hd101
  refine r_go rfl rfl ?_
  obtain rfl : d101 = -1 := diff_same (l := [recA]) (one_mem rfl) hd101
  refine r_eql (p := true) rfl rfl rfl rfl ?_
  refine r_pick_t rfl rfl rfl ?_
  refine r_assign rfl rfl ?_
  refine r_nil ?_
  refine r_tn ?_
  refine r_ret ?_
  exact r_done1 (.inl rfl) rfl (res_tmp rfl) fun w hw => ⟨rfl, hw.clear⟩
end Go.Proofs.Ytgicjkjppnkodaa
