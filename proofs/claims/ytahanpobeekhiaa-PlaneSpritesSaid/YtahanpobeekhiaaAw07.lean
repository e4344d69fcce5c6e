/-
  Planes of pixels (chapter 07): the fixed examples hold.
-/
import Derived.Test.YtahanpobeekhiaaRefD07
namespace Go.Proofs.Ytahanpobeekhiaa
open Go Go.RowKit
set_option linter.unusedVariables false
set_option linter.unusedSimpArgs false
set_option maxHeartbeats 2000000
attribute [local irreducible] mix

theorem awake07 (w : World) :
    Calls Try.prog 29 #[] w fun e w' => e = .returned (.bool true) ∧ Sat w [] [] w' := by
  refine enter Try.func29 rfl rfl rfl ?_
  refine r_seq ?_
  refine r_region ?_
  refine r_assign rfl rfl ?_
  refine r_nil ?_
  refine r_tn ?_
  refine r_seq ?_
  refine r_region ?_
  refine r_lit (sz := 1) (pv := [(0, .int .u16 (128))]) (cells := #[.int .u16 (128)]) rfl rfl rfl rfl rfl rfl (by kernel_rfl) rfl (fun b8 => ?_) (by decide)
  refine r_call rfl rfl rfl (by kernel_rfl) rfl (fun w hw => by exact sprite07 (some ⟨b8, 0, none⟩) 1 [128] 8 63 31 false true w (own_rd (A := some ⟨b8, 0, none⟩) (m := 1) (c := 1) hw) (by decide) (by decide) (by decide) (by decide) (by decide)) ?_
  refine r_allocV (cs := planeV noneQ) (by kernel_rfl) rfl fun b1 => ?_
  refine r_storeV rfl rfl rfl (planeV_size _) (planeV_size _) (planeV_one _) ?_
  refine r_nil ?_
  refine r_tn ?_
  refine r_seq ?_
  refine r_region ?_
  refine r_build (cells := planeV noneQ) rfl rfl (by kernel_rfl) ?_
  refine r_loadV rfl rfl rfl rfl (planeV_size _) ?_
  refine r_call (v := .tuple #[.agg (planeV (xorQ noneQ (sprQ [128] 8 63 31 false true 1))), .bool false]) rfl rfl rfl (by kernel_rfl) rfl (fun w hw => by have h := draw07 noneQ (sprQ [128] 8 63 31 false true 1) w; rw [show hitK noneQ (sprQ [128] 8 63 31 false true 1) 64 = false from by kernel_rfl] at h; exact h) ?_
  refine r_move rfl rfl ?_
  refine r_extract rfl rfl rfl ?_
  refine r_extract rfl rfl rfl ?_
  refine r_allocV (cs := planeV noneQ) (by kernel_rfl) rfl fun b2 => ?_
  refine r_storeV rfl rfl rfl (planeV_size _) (planeV_size _) (planeV_one _) ?_
  refine r_assign rfl rfl ?_
  refine r_nil ?_
  refine r_tn ?_
  refine r_seq ?_
  refine r_region ?_
  refine r_loadV rfl rfl rfl rfl (planeV_size _) ?_
  refine r_loadV rfl rfl rfl rfl (planeV_size _) ?_
  refine r_call (v := .tuple #[.agg (planeV (xorQ (xorQ noneQ (sprQ [128] 8 63 31 false true 1)) (sprQ [128] 8 63 31 false true 1))), .bool true]) rfl rfl rfl (by kernel_rfl) rfl (fun w hw => by have h := draw07 (xorQ noneQ (sprQ [128] 8 63 31 false true 1)) (sprQ [128] 8 63 31 false true 1) w; rw [show hitK (xorQ noneQ (sprQ [128] 8 63 31 false true 1)) (sprQ [128] 8 63 31 false true 1) 64 = true from by kernel_rfl] at h; exact h) ?_
  refine r_move rfl rfl ?_
  refine r_extract rfl rfl rfl ?_
  refine r_extract rfl rfl rfl ?_
  refine r_allocV (cs := planeV noneQ) (by kernel_rfl) rfl fun b4 => ?_
  refine r_storeV rfl rfl rfl (planeV_size _) (planeV_size _) (planeV_one _) ?_
  refine r_assign rfl rfl ?_
  refine r_nil ?_
  refine r_tn ?_
  refine r_seq ?_
  refine r_region ?_
  refine r_call rfl rfl rfl (by kernel_rfl) rfl (fun w hw => by exact size07 false w) ?_
  refine r_move rfl rfl ?_
  refine r_extract rfl rfl rfl ?_
  refine r_extract rfl rfl rfl ?_
  refine r_assign rfl rfl ?_
  refine r_assign rfl rfl ?_
  refine r_nil ?_
  refine r_tn ?_
  refine r_seq ?_
  refine r_region ?_
  refine r_move rfl rfl ?_
  refine r_eql rfl rfl rfl (show decide (((wd false : Nat) : Int) = 64) = true from by kernel_rfl) ?_
  refine r_move rfl rfl ?_
  refine r_go rfl rfl ?_
  refine r_move rfl rfl ?_
  refine r_go rfl rfl ?_
  refine r_eql rfl rfl rfl (show decide (((ht false : Nat) : Int) = 32) = true from by kernel_rfl) ?_
  refine r_pick_t rfl rfl rfl ?_
  refine r_move rfl rfl ?_
  refine r_go rfl rfl ?_
  refine r_loadV rfl rfl rfl rfl (planeV_size _) ?_
  refine r_go rfl rfl ?_
  refine r_call rfl rfl rfl (by kernel_rfl) rfl (fun w hw => by exact count07 (xorQ noneQ (sprQ [128] 8 63 31 false true 1)) w) ?_
  refine r_go rfl rfl ?_
  refine r_eql rfl rfl rfl (show decide (((cntR (xorQ noneQ (sprQ [128] 8 63 31 false true 1)) 64 : Nat) : Int) = 1) = true from by kernel_rfl) ?_
  refine r_pick_t rfl rfl rfl ?_
  refine r_move rfl rfl ?_
  refine r_go rfl rfl ?_
  refine r_loadV rfl rfl rfl rfl (planeV_size _) ?_
  refine r_go rfl rfl ?_
  refine r_call (v := .bool true) rfl rfl rfl (by kernel_rfl) rfl (fun w hw => by have h := pixel07 (xorQ noneQ (sprQ [128] 8 63 31 false true 1)) 63 31 w; rw [show pixQ (xorQ noneQ (sprQ [128] 8 63 31 false true 1)) 63 31 = true from by kernel_rfl] at h; exact h) ?_
  refine r_pick_t rfl rfl rfl ?_
  refine r_move rfl rfl ?_
  refine r_go rfl rfl ?_
  refine r_move rfl rfl ?_
  refine r_go rfl rfl ?_
  refine r_not rfl rfl rfl ?_
  refine r_pick_t rfl rfl rfl ?_
  refine r_move rfl rfl ?_
  refine r_go rfl rfl ?_
  refine r_loadV rfl rfl rfl rfl (planeV_size _) ?_
  refine r_go rfl rfl ?_
  refine r_call rfl rfl rfl (by kernel_rfl) rfl (fun w hw => by exact count07 (xorQ (xorQ noneQ (sprQ [128] 8 63 31 false true 1)) (sprQ [128] 8 63 31 false true 1)) w) ?_
  refine r_go rfl rfl ?_
  refine r_eql rfl rfl rfl (show decide (((cntR (xorQ (xorQ noneQ (sprQ [128] 8 63 31 false true 1)) (sprQ [128] 8 63 31 false true 1)) 64 : Nat) : Int) = 0) = true from by kernel_rfl) ?_
  refine r_pick_t rfl rfl rfl ?_
  refine r_move rfl rfl ?_
  refine r_go rfl rfl ?_
  refine r_move rfl rfl ?_
  refine r_pick_t rfl rfl rfl ?_
  refine r_move rfl rfl ?_
  refine r_go rfl rfl ?_
  refine r_loadV rfl rfl rfl rfl (planeV_size _) ?_
  refine r_go rfl rfl ?_
  refine r_call (v := .bool false) rfl rfl rfl (by kernel_rfl) rfl (fun w hw => by have h := pixel07 (xorQ noneQ (sprQ [128] 8 63 31 false true 1)) 0 (-1) w; rw [show pixQ (xorQ noneQ (sprQ [128] 8 63 31 false true 1)) 0 (-1) = false from by kernel_rfl] at h; exact h) ?_
  refine r_go rfl rfl ?_
  refine r_not rfl rfl rfl ?_
  refine r_pick_t rfl rfl rfl ?_
  refine r_move rfl rfl ?_
  refine r_go rfl rfl ?_
  refine r_loadV rfl rfl rfl rfl (planeV_size _) ?_
  refine r_go rfl rfl ?_
  refine r_call (v := .bool false) rfl rfl rfl (by kernel_rfl) rfl (fun w hw => by have h := pixel07 (xorQ noneQ (sprQ [128] 8 63 31 false true 1)) 63 64 w; rw [show pixQ (xorQ noneQ (sprQ [128] 8 63 31 false true 1)) 63 64 = false from by kernel_rfl] at h; exact h) ?_
  refine r_go rfl rfl ?_
  refine r_not rfl rfl rfl ?_
  refine r_pick_t rfl rfl rfl ?_
  refine r_move rfl rfl ?_
  refine r_go rfl rfl ?_
  refine r_loadV rfl rfl rfl rfl (planeV_size _) ?_
  refine r_go rfl rfl ?_
  refine r_call rfl rfl rfl (by kernel_rfl) rfl (fun w hw => by exact scroll07 (xorQ noneQ (sprQ [128] 8 63 31 false true 1)) (-63) (-31) false w (by decide) (by decide)) ?_
  refine r_go rfl rfl ?_
  refine r_call (v := .bool true) rfl rfl rfl (by kernel_rfl) rfl (fun w hw => by have h := pixel07 (scrollQ (xorQ noneQ (sprQ [128] 8 63 31 false true 1)) (-63) (-31) false) 0 0 w; rw [show pixQ (scrollQ (xorQ noneQ (sprQ [128] 8 63 31 false true 1)) (-63) (-31) false) 0 0 = true from by kernel_rfl] at h; exact h) ?_
  refine r_pick_t rfl rfl rfl ?_
  refine r_assign rfl rfl ?_
  refine r_nil ?_
  refine r_tn ?_
  refine r_ret ?_
  exact r_done1 (.inl rfl) rfl (res_tmp rfl) fun w hw => ⟨rfl, hw.clear⟩
end Go.Proofs.Ytahanpobeekhiaa
