/-
  The examples of the documentation of the streams hold.
-/
import Derived.Test.YtapknkmlgmckkaaRand
namespace Go.Proofs.Ytapknkmlgmckkaa
open Go Go.RowKit
set_option linter.unusedVariables false
set_option maxHeartbeats 2000000

theorem awake13 (w : World) :
    Calls Try.prog 29 #[] w fun e w' => e = .returned (.bool true) ∧ Sat w [] [] w' := by
  refine enter Try.func29 rfl rfl rfl ?_
  refine r_seq ?_
  refine r_region ?_
  refine r_assign rfl rfl ?_
  refine r_nil ?_
  refine r_tn ?_
  refine r_seq ?_
  refine r_region ?_
  refine r_lit (sz := 1) (pv := [(0, .int .u8 (7)), (1, .int .u8 (8))]) (cells := #[.int .u8 (7), .int .u8 (8)]) rfl rfl rfl rfl rfl rfl (by kernel_rfl) rfl (fun b7 => ?_) (by decide)
  refine r_callx rfl rfl rfl (by kernel_rfl) rfl (fun w hw => new13 (some ⟨b7, 0, none⟩) 2 [7, 8] (by decide) w (own_rd (A := some ⟨b7, 0, none⟩) (m := 2) (c := 2) hw)) ?_
  rintro ⟨b8, A8, c8⟩ _
  refine r_assign rfl rfl ?_
  refine r_nil ?_
  refine r_tn ?_
  refine r_seq ?_
  refine r_region ?_
  refine r_alloc rfl rfl fun b2 => ?_
  refine r_nil ?_
  refine r_tn ?_
  refine r_seq ?_
  refine r_region ?_
  refine r_assign rfl rfl ?_
  refine r_nil ?_
  refine r_tn ?_
  refine r_seq ?_
  refine r_seq ?_
  refine r_region ?_
  refine r_move rfl rfl ?_
  refine r_eql_pointer rfl rfl rfl rfl rfl ?_
  refine r_nil ?_
  refine r_tn ?_
  refine r_cond_f rfl ?_
  refine r_skip ?_
  refine r_tn ?_
  refine r_seq ?_
  refine r_region ?_
  refine r_move rfl rfl ?_
  refine r_callbo0 b8 (.slice A8 ([7, 8] : List Int).length c8) rfl rfl rfl (by kernel_rfl) rfl (fun w hs => by exact next13 b8 A8 c8 ([7, 8] : List Int) 0 (by decide) (by decide) w hs) ?_
  refine r_assign rfl rfl ?_
  refine r_nil ?_
  refine r_tn ?_
  refine r_seq ?_
  refine r_region ?_
  refine r_move rfl rfl ?_
  refine r_callbo0 b8 (.slice A8 ([7, 8] : List Int).length c8) rfl rfl rfl (by kernel_rfl) rfl (fun w hs => by exact next13 b8 A8 c8 ([7, 8] : List Int) (0 + 1) (by decide) (by decide) w hs) ?_
  refine r_assign rfl rfl ?_
  refine r_nil ?_
  refine r_tn ?_
  refine r_seq ?_
  refine r_region ?_
  refine r_move rfl rfl ?_
  refine r_callbo0 b8 (.slice A8 ([7, 8] : List Int).length c8) rfl rfl rfl (by kernel_rfl) rfl (fun w hs => by exact next13 b8 A8 c8 ([7, 8] : List Int) (0 + 1 + 1) (by decide) (by decide) w hs) ?_
  refine r_assign rfl rfl ?_
  refine r_nil ?_
  refine r_tn ?_
  refine r_seq ?_
  refine r_region ?_
  refine r_move rfl rfl ?_
  refine r_eql rfl rfl rfl (decide_eq_true (by decide)) ?_
  refine r_move rfl rfl ?_
  refine r_go rfl rfl ?_
  refine r_move rfl rfl ?_
  refine r_go rfl rfl ?_
  refine r_eql rfl rfl rfl (decide_eq_true (by decide)) ?_
  refine r_pick_t rfl rfl rfl ?_
  refine r_move rfl rfl ?_
  refine r_go rfl rfl ?_
  refine r_move rfl rfl ?_
  refine r_go rfl rfl ?_
  refine r_eql rfl rfl rfl (decide_eq_true (by decide)) ?_
  refine r_pick_t rfl rfl rfl ?_
  refine r_move rfl rfl ?_
  refine r_go rfl rfl ?_
  refine r_move rfl rfl ?_
  refine r_go rfl rfl ?_
  refine r_call rfl rfl rfl (by kernel_rfl) rfl (fun w hw => by exact count13 b8 (.slice A8 ([7, 8] : List Int).length c8) (0 + 1 + 1 + 1) w (Rd.blk (hw.look (HasBlk.pick (b := b8))) (fun j u h => by simpa using h))) ?_
  refine r_go rfl rfl ?_
  refine r_eql rfl rfl rfl (decide_eq_true (by decide)) ?_
  refine r_pick_t rfl rfl rfl ?_
  refine r_move rfl rfl ?_
  refine r_go rfl rfl ?_
  refine Run.ownNil 5 1 ?_
  refine r_callbo0 b2 (.slice none 0 0) rfl rfl rfl (by kernel_rfl) rfl (fun w hs => by exact next13 b2 none 0 ([] : List Int) 0 (by decide) (by decide) w hs) ?_
  refine r_go rfl rfl ?_
  refine r_eql rfl rfl rfl (decide_eq_true (by decide)) ?_
  refine r_pick_t rfl rfl rfl ?_
  refine r_move rfl rfl ?_
  refine r_go rfl rfl ?_
  refine r_call rfl rfl rfl (by kernel_rfl) rfl (fun w hw => by exact count13 b2 (.slice none 0 0) (0 + 1) w (Rd.blk (hw.look (HasBlk.pick (b := b2))) (fun j u h => by simpa using h))) ?_
  refine r_go rfl rfl ?_
  refine r_eql rfl rfl rfl (decide_eq_true (by decide)) ?_
  refine r_pick_t rfl rfl rfl ?_
  refine r_move rfl rfl ?_
  refine r_go rfl rfl ?_
  refine r_move rfl rfl ?_
  refine r_go rfl rfl ?_
  refine r_call rfl rfl rfl (by kernel_rfl) rfl (fun w hw => by exact nextNil13 w) ?_
  refine r_go rfl rfl ?_
  refine r_eql rfl rfl rfl (decide_eq_true (by decide)) ?_
  refine r_pick_t rfl rfl rfl ?_
  refine r_move rfl rfl ?_
  refine r_go rfl rfl ?_
  refine r_move rfl rfl ?_
  refine r_go rfl rfl ?_
  refine r_call rfl rfl rfl (by kernel_rfl) rfl (fun w hw => by exact cloneNil13 w) ?_
  refine r_go rfl rfl ?_
  refine r_eql_pointer rfl rfl rfl rfl rfl ?_
  refine r_pick_t rfl rfl rfl ?_
  refine r_move rfl rfl ?_
  refine r_go rfl rfl ?_
  refine r_lit (sz := 1) (pv := [(0, .int .u8 (7)), (1, .int .u8 (8))]) (cells := #[.int .u8 (7), .int .u8 (8)]) rfl rfl rfl rfl rfl rfl (by kernel_rfl) rfl (fun b51 => ?_) (by decide)
  refine r_go rfl rfl ?_
  refine r_call rfl rfl rfl (by kernel_rfl) rfl (fun w hw => by exact at13 (some ⟨b51, 0, none⟩) 2 [7, 8] 5 (by decide) (by decide) w (own_rd (A := some ⟨b51, 0, none⟩) (m := 2) (c := 2) hw)) ?_
  refine r_go rfl rfl ?_
  refine r_eql rfl rfl rfl (decide_eq_true (by decide)) ?_
  refine r_pick_t rfl rfl rfl ?_
  refine r_move rfl rfl ?_
  refine r_go rfl rfl ?_
  refine r_call rfl rfl rfl (by kernel_rfl) rfl (fun w hw => by exact at13 none 0 [] 5 (by decide) (by decide) w (Rd.nil _ _)) ?_
  refine r_go rfl rfl ?_
  refine r_eql rfl rfl rfl (decide_eq_true (by decide)) ?_
  refine r_pick_t rfl rfl rfl ?_
  refine r_assign rfl rfl ?_
  refine r_nil ?_
  refine r_tn ?_
  refine r_ret ?_
  exact r_done1 (.inl rfl) rfl (res_tmp rfl) fun w hw => ⟨rfl, hw.clear⟩
end Go.Proofs.Ytapknkmlgmckkaa
