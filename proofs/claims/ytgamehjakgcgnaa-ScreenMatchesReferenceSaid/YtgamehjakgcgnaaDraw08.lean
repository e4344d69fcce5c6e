/-
  Screens (chapter 08): Draw.
-/
import Derived.Test.YtgamehjakgcgnaaDrawD08
namespace Go.Proofs.Ytgamehjakgcgnaa
open Go Go.RowKit
set_option linter.unusedVariables false
set_option linter.unusedSimpArgs false
set_option maxHeartbeats 2000000
set_option maxRecDepth 4000
attribute [local irreducible] mix

theorem blk_ge {W w : World} {b : Nat} {o : Obj} {H G : List Res} [hb : HasBlk b H o G] (hw : Sat W [] H w) : W.heap.size ≤ b := by
  rcases (hw.pick hb.pick).feet _ (.head _) b rfl with h | h
  · exact h
  · cases h
theorem stH_nil (ff : Nat → (Nat → Nat → Bool) → (Nat → Nat → Bool)) (hh : Nat → (Nat → Nat → Bool) → Bool) (P : Nat → Nat → Nat → Bool) : stH ff hh P [] = false := rfl
attribute [local irreducible] scrV stP planeV stH sprD
theorem drawS08 (s : Scr) (hm : s.mask < 16) (x y n st : Nat) (big clip : Bool) (A : Option Addr) (c : Nat) (d : List Int) (hst0 : (if big then (32 : Int) else (n : Int)) = (st : Int)) (hstb : st ≤ if big then 32 else 16) (hd : d.length = (sel s.mask).length * st) (hmc : d.length ≤ c) (hd8 : ∀ z ∈ d, 0 ≤ z ∧ z ≤ 255) (hdl : d.length ≤ 1000000) (w : World) (hR : Rd w A (d.map (Value.int .u8))) :
    Calls Try.prog 20 #[.agg (scrV s), .int .i64 (x : Int), .int .i64 (y : Int), .int .i64 (n : Int), .bool big, .bool clip, .slice A d.length c] w fun e w' => e = .returned (.tuple #[.agg (scrV ⟨(stP (fun j p => xorQ p (sprD s big clip x y ((d.drop (j * st)).take st))) s.P (sel s.mask)).1, s.hires, s.mask⟩), .bool (stH (fun j p => xorQ p (sprD s big clip x y ((d.drop (j * st)).take st))) (fun j p => hitK p (sprD s big clip x y ((d.drop (j * st)).take st)) 64) s.P (sel s.mask))]) ∧ Sat w [] [] w' := by
  cases big
  · refine enter Try.func20 rfl rfl rfl ?_
    refine r_seq ?_
    refine r_region ?_
    refine r_boxV rfl rfl fun b7 => ?_
    refine r_box1 rfl rfl rfl fun b8 => ?_
    refine r_box1 rfl rfl rfl fun b9 => ?_
    refine r_box1 rfl rfl rfl fun b11 => ?_
    refine r_box1 rfl rfl rfl fun b12 => ?_
    refine r_box1 rfl rfl rfl fun b13 => ?_
    refine r_allocV (cs := scrV scr0) (by kernel_rfl) rfl fun b14 => ?_
    refine r_assign rfl rfl ?_
    refine r_nil ?_
    refine r_tn ?_
    refine r_seq ?_
    refine r_region ?_
    refine r_fieldAddr (off := 512) (o' := 512) rfl rfl rfl rfl ?_
    refine r_load1 rfl rfl rfl (scr_hires s) ?_
    refine r_call rfl rfl rfl (by kernel_rfl) rfl (fun w hw => by exact size07 s.hires w) ?_
    refine r_move rfl rfl ?_
    refine r_extract rfl rfl rfl ?_
    refine r_extract rfl rfl rfl ?_
    refine r_alloc rfl rfl fun b16 => ?_
    refine r_alloc rfl rfl fun b17 => ?_
    refine r_store (m := 1) (cs' := #[.int .i64 (wd s.hires : Nat)]) rfl rfl rfl rfl (Nat.le_of_ble_eq_true rfl) rfl rfl ?_
    refine r_store (m := 1) (cs' := #[.int .i64 (ht s.hires : Nat)]) rfl rfl rfl rfl (Nat.le_of_ble_eq_true rfl) rfl rfl ?_
    refine r_nil ?_
    refine r_tn ?_
    refine r_seq ?_
    refine r_region ?_
    refine r_move rfl rfl ?_
    refine r_load1 rfl rfl rfl (by rfl) ?_
    refine r_call rfl rfl rfl (by kernel_rfl) rfl (fun w hw => by exact per08 (n : Int) false w) ?_
    refine r_alloc rfl rfl fun b18 => ?_
    refine r_alloc rfl rfl fun b19 => ?_
    refine r_alloc rfl rfl fun b20 => ?_
    refine r_store (m := 1) (cs' := #[.int .i64 8]) rfl rfl rfl rfl (Nat.le_of_ble_eq_true rfl) rfl rfl ?_
    refine r_store (m := 1) (cs' := #[.int .i64 (st : Int)]) rfl rfl rfl rfl (Nat.le_of_ble_eq_true rfl) rfl (by rw [← hst0]; rfl) ?_
    refine r_store (m := 1) (cs' := #[.bool false]) rfl rfl rfl rfl (Nat.le_of_ble_eq_true rfl) rfl rfl ?_
    refine r_nil ?_
    refine r_tn ?_
    refine r_seq ?_
    refine r_seq ?_
    refine r_region ?_
    refine r_load1 rfl rfl rfl (by rfl) ?_
    refine r_nil ?_
    refine r_tn ?_
    refine r_cond_f rfl ?_
    refine r_skip ?_
    refine r_tn ?_
    refine r_seq ?_
    refine r_region ?_
    refine r_loadV rfl rfl rfl rfl (scrV_size _) ?_
    refine r_makeFunc rfl rfl rfl ?_
    refine r_have (p := ∀ k ∈ [b13, b19, b11, b18, b8, b16, b9, b17, b7, b12, b20], w.heap.size ≤ k) (fun w2 hw2 k hk => by
        simp only [List.mem_cons, List.not_mem_nil, or_false] at hk
        rcases hk with rfl | rfl | rfl | rfl | rfl | rfl | rfl | rfl | rfl | rfl | rfl <;> exact blk_ge hw2) fun hTB => ?_
    refine Run.less (H' := [.blk b13 (.cells #[.slice A d.length c] 39 (0, 0)), .blk b19 (.cells #[.int .i64 (st : Int)] 3 (0, 0)), .blk b11 (.cells #[.bool false] 4 (0, 0)), .blk b18 (.cells #[.int .i64 ((cntB false : Nat) : Int)] 3 (0, 0)), .blk b8 (.cells #[.int .i64 (x : Int)] 3 (0, 0)), .blk b16 (.cells #[.int .i64 (wd s.hires : Nat)] 3 (0, 0)), .blk b9 (.cells #[.int .i64 (y : Int)] 3 (0, 0)), .blk b17 (.cells #[.int .i64 (ht s.hires : Nat)] 3 (0, 0)), .blk b7 (.cells (scrV s) 32 (0, 0)), .blk b12 (.cells #[.bool clip] 4 (0, 0)), .blk b20 (.cells #[.bool false] 4 (0, 0))] ++ [.blk b14 (.cells (scrV scr0) 32 (0, 0))]) (fun w2 hw2 => by have h2 : Sat _ _ [.blk b13 (.cells #[.slice A d.length c] 39 (0, 0)), .blk b19 (.cells #[.int .i64 (st : Int)] 3 (0, 0)), .blk b11 (.cells #[.bool false] 4 (0, 0)), .blk b18 (.cells #[.int .i64 8] 3 (0, 0)), .blk b8 (.cells #[.int .i64 (x : Int)] 3 (0, 0)), .blk b16 (.cells #[.int .i64 (wd s.hires : Nat)] 3 (0, 0)), .blk b9 (.cells #[.int .i64 (y : Int)] 3 (0, 0)), .blk b17 (.cells #[.int .i64 (ht s.hires : Nat)] 3 (0, 0)), .blk b7 (.cells (scrV s) 32 (0, 0)), .blk b12 (.cells #[.bool clip] 4 (0, 0)), .blk b20 (.cells #[.bool false] 4 (0, 0)), .blk b14 (.cells (scrV scr0) 32 (0, 0))] w2 := hw2.sub; exact h2) ?_
    refine r_callm (ι := Unit) (A := [.blk b13 (.cells #[.slice A d.length c] 39 (0, 0)), .blk b19 (.cells #[.int .i64 (st : Int)] 3 (0, 0)), .blk b11 (.cells #[.bool false] 4 (0, 0)), .blk b18 (.cells #[.int .i64 ((cntB false : Nat) : Int)] 3 (0, 0)), .blk b8 (.cells #[.int .i64 (x : Int)] 3 (0, 0)), .blk b16 (.cells #[.int .i64 (wd s.hires : Nat)] 3 (0, 0)), .blk b9 (.cells #[.int .i64 (y : Int)] 3 (0, 0)), .blk b17 (.cells #[.int .i64 (ht s.hires : Nat)] 3 (0, 0)), .blk b7 (.cells (scrV s) 32 (0, 0)), .blk b12 (.cells #[.bool clip] 4 (0, 0)), .blk b20 (.cells #[.bool false] 4 (0, 0))]) (G := [.blk b14 (.cells (scrV scr0) 32 (0, 0))]) (v := fun _ => .agg (scrV ⟨(stP (fun j p => xorQ p (sprD s false clip x y ((d.drop (j * st)).take st))) s.P (sel s.mask)).1, s.hires, s.mask⟩)) (A' := fun _ => (fun pre : List (Fin 4) => ([.blk b13 (.cells #[.slice (datA A c st pre.length) (d.length - pre.length * st) (c - pre.length * st)] 39 (0, 0)), .blk b19 (.cells #[.int .i64 (st : Int)] 3 (0, 0)), .blk b11 (.cells #[.bool false] 4 (0, 0)), .blk b18 (.cells #[.int .i64 ((cntB false : Nat) : Int)] 3 (0, 0)), .blk b8 (.cells #[.int .i64 (x : Int)] 3 (0, 0)), .blk b16 (.cells #[.int .i64 (wd s.hires : Nat)] 3 (0, 0)), .blk b9 (.cells #[.int .i64 (y : Int)] 3 (0, 0)), .blk b17 (.cells #[.int .i64 (ht s.hires : Nat)] 3 (0, 0)), .blk b7 (.cells (scrV s) 32 (0, 0)), .blk b12 (.cells #[.bool clip] 4 (0, 0)), .blk b20 (.cells #[.bool (stH (fun j p => xorQ p (sprD s false clip x y ((d.drop (j * st)).take st))) (fun j p => hitK p (sprD s false clip x y ((d.drop (j * st)).take st)) 64) s.P pre)] 4 (0, 0))] : List Res)) (sel s.mask)) (φ := fun _ => True) (.refl _) rfl rfl rfl (by kernel_rfl) rfl (fun w2 h2 h3 => by
        have e0 : (fun pre : List (Fin 4) => ([.blk b13 (.cells #[.slice (datA A c st pre.length) (d.length - pre.length * st) (c - pre.length * st)] 39 (0, 0)), .blk b19 (.cells #[.int .i64 (st : Int)] 3 (0, 0)), .blk b11 (.cells #[.bool false] 4 (0, 0)), .blk b18 (.cells #[.int .i64 ((cntB false : Nat) : Int)] 3 (0, 0)), .blk b8 (.cells #[.int .i64 (x : Int)] 3 (0, 0)), .blk b16 (.cells #[.int .i64 (wd s.hires : Nat)] 3 (0, 0)), .blk b9 (.cells #[.int .i64 (y : Int)] 3 (0, 0)), .blk b17 (.cells #[.int .i64 (ht s.hires : Nat)] 3 (0, 0)), .blk b7 (.cells (scrV s) 32 (0, 0)), .blk b12 (.cells #[.bool clip] 4 (0, 0)), .blk b20 (.cells #[.bool (stH (fun j p => xorQ p (sprD s false clip x y ((d.drop (j * st)).take st))) (fun j p => hitK p (sprD s false clip x y ((d.drop (j * st)).take st)) 64) s.P pre)] 4 (0, 0))] : List Res)) [] = ([.blk b13 (.cells #[.slice A d.length c] 39 (0, 0)), .blk b19 (.cells #[.int .i64 (st : Int)] 3 (0, 0)), .blk b11 (.cells #[.bool false] 4 (0, 0)), .blk b18 (.cells #[.int .i64 ((cntB false : Nat) : Int)] 3 (0, 0)), .blk b8 (.cells #[.int .i64 (x : Int)] 3 (0, 0)), .blk b16 (.cells #[.int .i64 (wd s.hires : Nat)] 3 (0, 0)), .blk b9 (.cells #[.int .i64 (y : Int)] 3 (0, 0)), .blk b17 (.cells #[.int .i64 (ht s.hires : Nat)] 3 (0, 0)), .blk b7 (.cells (scrV s) 32 (0, 0)), .blk b12 (.cells #[.bool clip] 4 (0, 0)), .blk b20 (.cells #[.bool false] 4 (0, 0))] : List Res) := by
          show ([.blk b13 (.cells #[.slice (datA A c st ([] : List (Fin 4)).length) (d.length - ([] : List (Fin 4)).length * st) (c - ([] : List (Fin 4)).length * st)] 39 (0, 0)), .blk b19 (.cells #[.int .i64 (st : Int)] 3 (0, 0)), .blk b11 (.cells #[.bool false] 4 (0, 0)), .blk b18 (.cells #[.int .i64 ((cntB false : Nat) : Int)] 3 (0, 0)), .blk b8 (.cells #[.int .i64 (x : Int)] 3 (0, 0)), .blk b16 (.cells #[.int .i64 (wd s.hires : Nat)] 3 (0, 0)), .blk b9 (.cells #[.int .i64 (y : Int)] 3 (0, 0)), .blk b17 (.cells #[.int .i64 (ht s.hires : Nat)] 3 (0, 0)), .blk b7 (.cells (scrV s) 32 (0, 0)), .blk b12 (.cells #[.bool clip] 4 (0, 0)), .blk b20 (.cells #[.bool (stH (fun j p => xorQ p (sprD s false clip x y ((d.drop (j * st)).take st))) (fun j p => hitK p (sprD s false clip x y ((d.drop (j * st)).take st)) 64) s.P [])] 4 (0, 0))] : List Res) = _
          rw [show ([] : List (Fin 4)).length * st = 0 from Nat.zero_mul _, stH_nil]
          rfl
        refine (apply08 s hm 38 [.pointer (some ⟨b13, 0, none⟩), .pointer (some ⟨b19, 0, none⟩), .pointer (some ⟨b11, 0, none⟩), .pointer (some ⟨b18, 0, none⟩), .pointer (some ⟨b8, 0, none⟩), .pointer (some ⟨b16, 0, none⟩), .pointer (some ⟨b9, 0, none⟩), .pointer (some ⟨b17, 0, none⟩), .pointer (some ⟨b7, 0, none⟩), .pointer (some ⟨b12, 0, none⟩), .pointer (some ⟨b20, 0, none⟩)] [b13, b19, b11, b18, b8, b16, b9, b17, b7, b12, b20] (fun pre : List (Fin 4) => ([.blk b13 (.cells #[.slice (datA A c st pre.length) (d.length - pre.length * st) (c - pre.length * st)] 39 (0, 0)), .blk b19 (.cells #[.int .i64 (st : Int)] 3 (0, 0)), .blk b11 (.cells #[.bool false] 4 (0, 0)), .blk b18 (.cells #[.int .i64 ((cntB false : Nat) : Int)] 3 (0, 0)), .blk b8 (.cells #[.int .i64 (x : Int)] 3 (0, 0)), .blk b16 (.cells #[.int .i64 (wd s.hires : Nat)] 3 (0, 0)), .blk b9 (.cells #[.int .i64 (y : Int)] 3 (0, 0)), .blk b17 (.cells #[.int .i64 (ht s.hires : Nat)] 3 (0, 0)), .blk b7 (.cells (scrV s) 32 (0, 0)), .blk b12 (.cells #[.bool clip] 4 (0, 0)), .blk b20 (.cells #[.bool (stH (fun j p => xorQ p (sprD s false clip x y ((d.drop (j * st)).take st))) (fun j p => hitK p (sprD s false clip x y ((d.drop (j * st)).take st)) 64) s.P pre)] 4 (0, 0))] : List Res)) (fun j p => xorQ p (sprD s false clip x y ((d.drop (j * st)).take st))) w2 (by kernel_rfl) (fun _ => rfl) (fun pre r hr => ?_) (fun pre x1 W hlen hW => ?_) (Eq.mp (congrArg (fun H => Sat w2 _ H w2) e0.symm) h3)).mono fun e W' he => ⟨(), he.1, trivial, he.2⟩
        · simp only [List.mem_cons, List.not_mem_nil, or_false] at hr
          rcases hr with rfl | rfl | rfl | rfl | rfl | rfl | rfl | rfl | rfl | rfl | rfl <;> rfl
        · have hle : pre.length * st + st ≤ d.length := by rw [hd, ← Nat.succ_mul]; exact Nat.mul_le_mul_right _ hlen
          have hWW := Sat.hand (A := (fun pre : List (Fin 4) => ([.blk b13 (.cells #[.slice (datA A c st pre.length) (d.length - pre.length * st) (c - pre.length * st)] 39 (0, 0)), .blk b19 (.cells #[.int .i64 (st : Int)] 3 (0, 0)), .blk b11 (.cells #[.bool false] 4 (0, 0)), .blk b18 (.cells #[.int .i64 ((cntB false : Nat) : Int)] 3 (0, 0)), .blk b8 (.cells #[.int .i64 (x : Int)] 3 (0, 0)), .blk b16 (.cells #[.int .i64 (wd s.hires : Nat)] 3 (0, 0)), .blk b9 (.cells #[.int .i64 (y : Int)] 3 (0, 0)), .blk b17 (.cells #[.int .i64 (ht s.hires : Nat)] 3 (0, 0)), .blk b7 (.cells (scrV s) 32 (0, 0)), .blk b12 (.cells #[.bool clip] 4 (0, 0)), .blk b20 (.cells #[.bool (stH (fun j p => xorQ p (sprD s false clip x y ((d.drop (j * st)).take st))) (fun j p => hitK p (sprD s false clip x y ((d.drop (j * st)).take st)) 64) s.P pre)] 4 (0, 0))] : List Res)) pre) (G := []) (by rw [List.append_nil]; exact hW)
          have hRW := datRB (c := c) (st := st) ((hR.below.keep (S := []) (by simp) h2).keep hTB hW) hmc pre.length (by omega)
          have hl2 : (d.drop (pre.length * st)).length = d.length - pre.length * st := List.length_drop ..
          have hcall := drawD08 s st false clip x y b13 b19 b11 b18 b8 b16 b9 b17 b7 b12 b20 (stH (fun j p => xorQ p (sprD s false clip x y ((d.drop (j * st)).take st))) (fun j p => hitK p (sprD s false clip x y ((d.drop (j * st)).take st)) 64) s.P pre) (datA A c st pre.length) (c - pre.length * st) (d.drop (pre.length * st)) ((stP (fun j p => xorQ p (sprD s false clip x y ((d.drop (j * st)).take st))) s.P pre).1 x1.val) W (fun z hz => hd8 z (List.mem_of_mem_drop hz)) (by omega) (by omega) hstb (by omega) w.heap.size hRW hTB (by rw [hl2]; exact hWW)
          rw [hl2] at hcall
          refine hcall.mono fun e W' he => ⟨he.1, ?_⟩
          have h5 := he.2
          have e5 : (pre ++ [x1]).length * st = pre.length * st + st := by rw [List.length_append]; exact Nat.succ_mul _ _
          show Sat W [b13, b19, b11, b18, b8, b16, b9, b17, b7, b12, b20] [.blk b13 (.cells #[.slice (datA A c st (pre ++ [x1]).length) (d.length - (pre ++ [x1]).length * st) (c - (pre ++ [x1]).length * st)] 39 (0, 0)), .blk b19 (.cells #[.int .i64 (st : Int)] 3 (0, 0)), .blk b11 (.cells #[.bool false] 4 (0, 0)), .blk b18 (.cells #[.int .i64 ((cntB false : Nat) : Int)] 3 (0, 0)), .blk b8 (.cells #[.int .i64 (x : Int)] 3 (0, 0)), .blk b16 (.cells #[.int .i64 (wd s.hires : Nat)] 3 (0, 0)), .blk b9 (.cells #[.int .i64 (y : Int)] 3 (0, 0)), .blk b17 (.cells #[.int .i64 (ht s.hires : Nat)] 3 (0, 0)), .blk b7 (.cells (scrV s) 32 (0, 0)), .blk b12 (.cells #[.bool clip] 4 (0, 0)), .blk b20 (.cells #[.bool (stH (fun j p => xorQ p (sprD s false clip x y ((d.drop (j * st)).take st))) (fun j p => hitK p (sprD s false clip x y ((d.drop (j * st)).take st)) 64) s.P (pre ++ [x1]))] 4 (0, 0))] W'
          rw [e5, stH_snoc, List.length_append, show d.length - (pre.length * st + st) = d.length - pre.length * st - st by omega, show c - (pre.length * st + st) = c - pre.length * st - st by omega]
          exact h5) ?_
    intro _ _
    refine r_allocV (cs := scrV scr0) (by kernel_rfl) rfl fun b21 => ?_
    refine r_storeV rfl rfl rfl (scrV_size _) (scrV_size _) (scrV_one _) ?_
    refine r_nil ?_
    refine r_tn ?_
    refine r_seq ?_
    refine r_have (fun w hw => Sat.ne (b1 := b20) (b2 := b14) hw) fun hne0_b20 => ?_
    refine r_mixedD { xb := [b14], rb := [b20], rs := [36], fs := [14], acs := [] } (by kernel_rfl) (by kernel_rfl) (fun w hw k hk => by
      simp only [List.mem_cons, List.not_mem_nil, or_false] at hk
      rcases hk with rfl <;> exact Sat.lt hw) ?_
    refine r_loadV rfl rfl rfl rfl (scrV_size _) ?_
    refine r_load1 rfl rfl rfl (by rfl) ?_
    refine r_storeV rfl rfl rfl (scrV_size _) (scrV_size _) (scrV_one _) ?_
    refine r_assign rfl rfl ?_
    refine r_nil ?_
    refine r_tn ?_
    refine r_ret ?_
    exact r_done2 (.inl rfl) rfl (res_cellV rfl rfl rfl (scrV_size _)) (res_tmp rfl) fun w hw => ⟨rfl, hw.clear⟩
  · refine enter Try.func20 rfl rfl rfl ?_
    refine r_seq ?_
    refine r_region ?_
    refine r_boxV rfl rfl fun b7 => ?_
    refine r_box1 rfl rfl rfl fun b8 => ?_
    refine r_box1 rfl rfl rfl fun b9 => ?_
    refine r_box1 rfl rfl rfl fun b11 => ?_
    refine r_box1 rfl rfl rfl fun b12 => ?_
    refine r_box1 rfl rfl rfl fun b13 => ?_
    refine r_allocV (cs := scrV scr0) (by kernel_rfl) rfl fun b14 => ?_
    refine r_assign rfl rfl ?_
    refine r_nil ?_
    refine r_tn ?_
    refine r_seq ?_
    refine r_region ?_
    refine r_fieldAddr (off := 512) (o' := 512) rfl rfl rfl rfl ?_
    refine r_load1 rfl rfl rfl (scr_hires s) ?_
    refine r_call rfl rfl rfl (by kernel_rfl) rfl (fun w hw => by exact size07 s.hires w) ?_
    refine r_move rfl rfl ?_
    refine r_extract rfl rfl rfl ?_
    refine r_extract rfl rfl rfl ?_
    refine r_alloc rfl rfl fun b16 => ?_
    refine r_alloc rfl rfl fun b17 => ?_
    refine r_store (m := 1) (cs' := #[.int .i64 (wd s.hires : Nat)]) rfl rfl rfl rfl (Nat.le_of_ble_eq_true rfl) rfl rfl ?_
    refine r_store (m := 1) (cs' := #[.int .i64 (ht s.hires : Nat)]) rfl rfl rfl rfl (Nat.le_of_ble_eq_true rfl) rfl rfl ?_
    refine r_nil ?_
    refine r_tn ?_
    refine r_seq ?_
    refine r_region ?_
    refine r_move rfl rfl ?_
    refine r_load1 rfl rfl rfl (by rfl) ?_
    refine r_call rfl rfl rfl (by kernel_rfl) rfl (fun w hw => by exact per08 (n : Int) true w) ?_
    refine r_alloc rfl rfl fun b18 => ?_
    refine r_alloc rfl rfl fun b19 => ?_
    refine r_alloc rfl rfl fun b20 => ?_
    refine r_store (m := 1) (cs' := #[.int .i64 8]) rfl rfl rfl rfl (Nat.le_of_ble_eq_true rfl) rfl rfl ?_
    refine r_store (m := 1) (cs' := #[.int .i64 (st : Int)]) rfl rfl rfl rfl (Nat.le_of_ble_eq_true rfl) rfl (by rw [← hst0]; rfl) ?_
    refine r_store (m := 1) (cs' := #[.bool false]) rfl rfl rfl rfl (Nat.le_of_ble_eq_true rfl) rfl rfl ?_
    refine r_nil ?_
    refine r_tn ?_
    refine r_seq ?_
    refine r_seq ?_
    refine r_region ?_
    refine r_load1 rfl rfl rfl (by rfl) ?_
    refine r_nil ?_
    refine r_tn ?_
    refine r_cond_t rfl ?_
    refine r_region ?_
    refine r_store (m := 1) (cs' := #[.int .i64 16]) rfl rfl rfl rfl (Nat.le_of_ble_eq_true rfl) rfl rfl ?_
    refine r_nil ?_
    refine r_tn ?_
    refine r_seq ?_
    refine r_region ?_
    refine r_loadV rfl rfl rfl rfl (scrV_size _) ?_
    refine r_makeFunc rfl rfl rfl ?_
    refine r_have (p := ∀ k ∈ [b13, b19, b11, b18, b8, b16, b9, b17, b7, b12, b20], w.heap.size ≤ k) (fun w2 hw2 k hk => by
        simp only [List.mem_cons, List.not_mem_nil, or_false] at hk
        rcases hk with rfl | rfl | rfl | rfl | rfl | rfl | rfl | rfl | rfl | rfl | rfl <;> exact blk_ge hw2) fun hTB => ?_
    refine Run.less (H' := [.blk b13 (.cells #[.slice A d.length c] 39 (0, 0)), .blk b19 (.cells #[.int .i64 (st : Int)] 3 (0, 0)), .blk b11 (.cells #[.bool true] 4 (0, 0)), .blk b18 (.cells #[.int .i64 ((cntB true : Nat) : Int)] 3 (0, 0)), .blk b8 (.cells #[.int .i64 (x : Int)] 3 (0, 0)), .blk b16 (.cells #[.int .i64 (wd s.hires : Nat)] 3 (0, 0)), .blk b9 (.cells #[.int .i64 (y : Int)] 3 (0, 0)), .blk b17 (.cells #[.int .i64 (ht s.hires : Nat)] 3 (0, 0)), .blk b7 (.cells (scrV s) 32 (0, 0)), .blk b12 (.cells #[.bool clip] 4 (0, 0)), .blk b20 (.cells #[.bool false] 4 (0, 0))] ++ [.blk b14 (.cells (scrV scr0) 32 (0, 0))]) (fun w2 hw2 => by have h2 : Sat _ _ [.blk b13 (.cells #[.slice A d.length c] 39 (0, 0)), .blk b19 (.cells #[.int .i64 (st : Int)] 3 (0, 0)), .blk b11 (.cells #[.bool true] 4 (0, 0)), .blk b18 (.cells #[.int .i64 16] 3 (0, 0)), .blk b8 (.cells #[.int .i64 (x : Int)] 3 (0, 0)), .blk b16 (.cells #[.int .i64 (wd s.hires : Nat)] 3 (0, 0)), .blk b9 (.cells #[.int .i64 (y : Int)] 3 (0, 0)), .blk b17 (.cells #[.int .i64 (ht s.hires : Nat)] 3 (0, 0)), .blk b7 (.cells (scrV s) 32 (0, 0)), .blk b12 (.cells #[.bool clip] 4 (0, 0)), .blk b20 (.cells #[.bool false] 4 (0, 0)), .blk b14 (.cells (scrV scr0) 32 (0, 0))] w2 := hw2.sub; exact h2) ?_
    refine r_callm (ι := Unit) (A := [.blk b13 (.cells #[.slice A d.length c] 39 (0, 0)), .blk b19 (.cells #[.int .i64 (st : Int)] 3 (0, 0)), .blk b11 (.cells #[.bool true] 4 (0, 0)), .blk b18 (.cells #[.int .i64 ((cntB true : Nat) : Int)] 3 (0, 0)), .blk b8 (.cells #[.int .i64 (x : Int)] 3 (0, 0)), .blk b16 (.cells #[.int .i64 (wd s.hires : Nat)] 3 (0, 0)), .blk b9 (.cells #[.int .i64 (y : Int)] 3 (0, 0)), .blk b17 (.cells #[.int .i64 (ht s.hires : Nat)] 3 (0, 0)), .blk b7 (.cells (scrV s) 32 (0, 0)), .blk b12 (.cells #[.bool clip] 4 (0, 0)), .blk b20 (.cells #[.bool false] 4 (0, 0))]) (G := [.blk b14 (.cells (scrV scr0) 32 (0, 0))]) (v := fun _ => .agg (scrV ⟨(stP (fun j p => xorQ p (sprD s true clip x y ((d.drop (j * st)).take st))) s.P (sel s.mask)).1, s.hires, s.mask⟩)) (A' := fun _ => (fun pre : List (Fin 4) => ([.blk b13 (.cells #[.slice (datA A c st pre.length) (d.length - pre.length * st) (c - pre.length * st)] 39 (0, 0)), .blk b19 (.cells #[.int .i64 (st : Int)] 3 (0, 0)), .blk b11 (.cells #[.bool true] 4 (0, 0)), .blk b18 (.cells #[.int .i64 ((cntB true : Nat) : Int)] 3 (0, 0)), .blk b8 (.cells #[.int .i64 (x : Int)] 3 (0, 0)), .blk b16 (.cells #[.int .i64 (wd s.hires : Nat)] 3 (0, 0)), .blk b9 (.cells #[.int .i64 (y : Int)] 3 (0, 0)), .blk b17 (.cells #[.int .i64 (ht s.hires : Nat)] 3 (0, 0)), .blk b7 (.cells (scrV s) 32 (0, 0)), .blk b12 (.cells #[.bool clip] 4 (0, 0)), .blk b20 (.cells #[.bool (stH (fun j p => xorQ p (sprD s true clip x y ((d.drop (j * st)).take st))) (fun j p => hitK p (sprD s true clip x y ((d.drop (j * st)).take st)) 64) s.P pre)] 4 (0, 0))] : List Res)) (sel s.mask)) (φ := fun _ => True) (.refl _) rfl rfl rfl (by kernel_rfl) rfl (fun w2 h2 h3 => by
        have e0 : (fun pre : List (Fin 4) => ([.blk b13 (.cells #[.slice (datA A c st pre.length) (d.length - pre.length * st) (c - pre.length * st)] 39 (0, 0)), .blk b19 (.cells #[.int .i64 (st : Int)] 3 (0, 0)), .blk b11 (.cells #[.bool true] 4 (0, 0)), .blk b18 (.cells #[.int .i64 ((cntB true : Nat) : Int)] 3 (0, 0)), .blk b8 (.cells #[.int .i64 (x : Int)] 3 (0, 0)), .blk b16 (.cells #[.int .i64 (wd s.hires : Nat)] 3 (0, 0)), .blk b9 (.cells #[.int .i64 (y : Int)] 3 (0, 0)), .blk b17 (.cells #[.int .i64 (ht s.hires : Nat)] 3 (0, 0)), .blk b7 (.cells (scrV s) 32 (0, 0)), .blk b12 (.cells #[.bool clip] 4 (0, 0)), .blk b20 (.cells #[.bool (stH (fun j p => xorQ p (sprD s true clip x y ((d.drop (j * st)).take st))) (fun j p => hitK p (sprD s true clip x y ((d.drop (j * st)).take st)) 64) s.P pre)] 4 (0, 0))] : List Res)) [] = ([.blk b13 (.cells #[.slice A d.length c] 39 (0, 0)), .blk b19 (.cells #[.int .i64 (st : Int)] 3 (0, 0)), .blk b11 (.cells #[.bool true] 4 (0, 0)), .blk b18 (.cells #[.int .i64 ((cntB true : Nat) : Int)] 3 (0, 0)), .blk b8 (.cells #[.int .i64 (x : Int)] 3 (0, 0)), .blk b16 (.cells #[.int .i64 (wd s.hires : Nat)] 3 (0, 0)), .blk b9 (.cells #[.int .i64 (y : Int)] 3 (0, 0)), .blk b17 (.cells #[.int .i64 (ht s.hires : Nat)] 3 (0, 0)), .blk b7 (.cells (scrV s) 32 (0, 0)), .blk b12 (.cells #[.bool clip] 4 (0, 0)), .blk b20 (.cells #[.bool false] 4 (0, 0))] : List Res) := by
          show ([.blk b13 (.cells #[.slice (datA A c st ([] : List (Fin 4)).length) (d.length - ([] : List (Fin 4)).length * st) (c - ([] : List (Fin 4)).length * st)] 39 (0, 0)), .blk b19 (.cells #[.int .i64 (st : Int)] 3 (0, 0)), .blk b11 (.cells #[.bool true] 4 (0, 0)), .blk b18 (.cells #[.int .i64 ((cntB true : Nat) : Int)] 3 (0, 0)), .blk b8 (.cells #[.int .i64 (x : Int)] 3 (0, 0)), .blk b16 (.cells #[.int .i64 (wd s.hires : Nat)] 3 (0, 0)), .blk b9 (.cells #[.int .i64 (y : Int)] 3 (0, 0)), .blk b17 (.cells #[.int .i64 (ht s.hires : Nat)] 3 (0, 0)), .blk b7 (.cells (scrV s) 32 (0, 0)), .blk b12 (.cells #[.bool clip] 4 (0, 0)), .blk b20 (.cells #[.bool (stH (fun j p => xorQ p (sprD s true clip x y ((d.drop (j * st)).take st))) (fun j p => hitK p (sprD s true clip x y ((d.drop (j * st)).take st)) 64) s.P [])] 4 (0, 0))] : List Res) = _
          rw [show ([] : List (Fin 4)).length * st = 0 from Nat.zero_mul _, stH_nil]
          rfl
        refine (apply08 s hm 38 [.pointer (some ⟨b13, 0, none⟩), .pointer (some ⟨b19, 0, none⟩), .pointer (some ⟨b11, 0, none⟩), .pointer (some ⟨b18, 0, none⟩), .pointer (some ⟨b8, 0, none⟩), .pointer (some ⟨b16, 0, none⟩), .pointer (some ⟨b9, 0, none⟩), .pointer (some ⟨b17, 0, none⟩), .pointer (some ⟨b7, 0, none⟩), .pointer (some ⟨b12, 0, none⟩), .pointer (some ⟨b20, 0, none⟩)] [b13, b19, b11, b18, b8, b16, b9, b17, b7, b12, b20] (fun pre : List (Fin 4) => ([.blk b13 (.cells #[.slice (datA A c st pre.length) (d.length - pre.length * st) (c - pre.length * st)] 39 (0, 0)), .blk b19 (.cells #[.int .i64 (st : Int)] 3 (0, 0)), .blk b11 (.cells #[.bool true] 4 (0, 0)), .blk b18 (.cells #[.int .i64 ((cntB true : Nat) : Int)] 3 (0, 0)), .blk b8 (.cells #[.int .i64 (x : Int)] 3 (0, 0)), .blk b16 (.cells #[.int .i64 (wd s.hires : Nat)] 3 (0, 0)), .blk b9 (.cells #[.int .i64 (y : Int)] 3 (0, 0)), .blk b17 (.cells #[.int .i64 (ht s.hires : Nat)] 3 (0, 0)), .blk b7 (.cells (scrV s) 32 (0, 0)), .blk b12 (.cells #[.bool clip] 4 (0, 0)), .blk b20 (.cells #[.bool (stH (fun j p => xorQ p (sprD s true clip x y ((d.drop (j * st)).take st))) (fun j p => hitK p (sprD s true clip x y ((d.drop (j * st)).take st)) 64) s.P pre)] 4 (0, 0))] : List Res)) (fun j p => xorQ p (sprD s true clip x y ((d.drop (j * st)).take st))) w2 (by kernel_rfl) (fun _ => rfl) (fun pre r hr => ?_) (fun pre x1 W hlen hW => ?_) (Eq.mp (congrArg (fun H => Sat w2 _ H w2) e0.symm) h3)).mono fun e W' he => ⟨(), he.1, trivial, he.2⟩
        · simp only [List.mem_cons, List.not_mem_nil, or_false] at hr
          rcases hr with rfl | rfl | rfl | rfl | rfl | rfl | rfl | rfl | rfl | rfl | rfl <;> rfl
        · have hle : pre.length * st + st ≤ d.length := by rw [hd, ← Nat.succ_mul]; exact Nat.mul_le_mul_right _ hlen
          have hWW := Sat.hand (A := (fun pre : List (Fin 4) => ([.blk b13 (.cells #[.slice (datA A c st pre.length) (d.length - pre.length * st) (c - pre.length * st)] 39 (0, 0)), .blk b19 (.cells #[.int .i64 (st : Int)] 3 (0, 0)), .blk b11 (.cells #[.bool true] 4 (0, 0)), .blk b18 (.cells #[.int .i64 ((cntB true : Nat) : Int)] 3 (0, 0)), .blk b8 (.cells #[.int .i64 (x : Int)] 3 (0, 0)), .blk b16 (.cells #[.int .i64 (wd s.hires : Nat)] 3 (0, 0)), .blk b9 (.cells #[.int .i64 (y : Int)] 3 (0, 0)), .blk b17 (.cells #[.int .i64 (ht s.hires : Nat)] 3 (0, 0)), .blk b7 (.cells (scrV s) 32 (0, 0)), .blk b12 (.cells #[.bool clip] 4 (0, 0)), .blk b20 (.cells #[.bool (stH (fun j p => xorQ p (sprD s true clip x y ((d.drop (j * st)).take st))) (fun j p => hitK p (sprD s true clip x y ((d.drop (j * st)).take st)) 64) s.P pre)] 4 (0, 0))] : List Res)) pre) (G := []) (by rw [List.append_nil]; exact hW)
          have hRW := datRB (c := c) (st := st) ((hR.below.keep (S := []) (by simp) h2).keep hTB hW) hmc pre.length (by omega)
          have hl2 : (d.drop (pre.length * st)).length = d.length - pre.length * st := List.length_drop ..
          have hcall := drawD08 s st true clip x y b13 b19 b11 b18 b8 b16 b9 b17 b7 b12 b20 (stH (fun j p => xorQ p (sprD s true clip x y ((d.drop (j * st)).take st))) (fun j p => hitK p (sprD s true clip x y ((d.drop (j * st)).take st)) 64) s.P pre) (datA A c st pre.length) (c - pre.length * st) (d.drop (pre.length * st)) ((stP (fun j p => xorQ p (sprD s true clip x y ((d.drop (j * st)).take st))) s.P pre).1 x1.val) W (fun z hz => hd8 z (List.mem_of_mem_drop hz)) (by omega) (by omega) hstb (by omega) w.heap.size hRW hTB (by rw [hl2]; exact hWW)
          rw [hl2] at hcall
          refine hcall.mono fun e W' he => ⟨he.1, ?_⟩
          have h5 := he.2
          have e5 : (pre ++ [x1]).length * st = pre.length * st + st := by rw [List.length_append]; exact Nat.succ_mul _ _
          show Sat W [b13, b19, b11, b18, b8, b16, b9, b17, b7, b12, b20] [.blk b13 (.cells #[.slice (datA A c st (pre ++ [x1]).length) (d.length - (pre ++ [x1]).length * st) (c - (pre ++ [x1]).length * st)] 39 (0, 0)), .blk b19 (.cells #[.int .i64 (st : Int)] 3 (0, 0)), .blk b11 (.cells #[.bool true] 4 (0, 0)), .blk b18 (.cells #[.int .i64 ((cntB true : Nat) : Int)] 3 (0, 0)), .blk b8 (.cells #[.int .i64 (x : Int)] 3 (0, 0)), .blk b16 (.cells #[.int .i64 (wd s.hires : Nat)] 3 (0, 0)), .blk b9 (.cells #[.int .i64 (y : Int)] 3 (0, 0)), .blk b17 (.cells #[.int .i64 (ht s.hires : Nat)] 3 (0, 0)), .blk b7 (.cells (scrV s) 32 (0, 0)), .blk b12 (.cells #[.bool clip] 4 (0, 0)), .blk b20 (.cells #[.bool (stH (fun j p => xorQ p (sprD s true clip x y ((d.drop (j * st)).take st))) (fun j p => hitK p (sprD s true clip x y ((d.drop (j * st)).take st)) 64) s.P (pre ++ [x1]))] 4 (0, 0))] W'
          rw [e5, stH_snoc, List.length_append, show d.length - (pre.length * st + st) = d.length - pre.length * st - st by omega, show c - (pre.length * st + st) = c - pre.length * st - st by omega]
          exact h5) ?_
    intro _ _
    refine r_allocV (cs := scrV scr0) (by kernel_rfl) rfl fun b21 => ?_
    refine r_storeV rfl rfl rfl (scrV_size _) (scrV_size _) (scrV_one _) ?_
    refine r_nil ?_
    refine r_tn ?_
    refine r_seq ?_
    refine r_have (fun w hw => Sat.ne (b1 := b20) (b2 := b14) hw) fun hne0_b20 => ?_
    refine r_mixedD { xb := [b14], rb := [b20], rs := [36], fs := [14], acs := [] } (by kernel_rfl) (by kernel_rfl) (fun w hw k hk => by
      simp only [List.mem_cons, List.not_mem_nil, or_false] at hk
      rcases hk with rfl <;> exact Sat.lt hw) ?_
    refine r_loadV rfl rfl rfl rfl (scrV_size _) ?_
    refine r_load1 rfl rfl rfl (by rfl) ?_
    refine r_storeV rfl rfl rfl (scrV_size _) (scrV_size _) (scrV_one _) ?_
    refine r_assign rfl rfl ?_
    refine r_nil ?_
    refine r_tn ?_
    refine r_ret ?_
    exact r_done2 (.inl rfl) rfl (res_cellV rfl rfl rfl (scrV_size _)) (res_tmp rfl) fun w hw => ⟨rfl, hw.clear⟩
end Go.Proofs.Ytgamehjakgcgnaa
