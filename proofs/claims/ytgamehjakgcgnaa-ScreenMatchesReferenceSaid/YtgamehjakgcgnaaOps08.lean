/-
  Screens (chapter 08): New, Select, Resolution, Clear, Scroll, Color, rows.
-/
import Derived.Test.YtgamehjakgcgnaaApply08
namespace Go.Proofs.Ytgamehjakgcgnaa
open Go Go.RowKit
set_option linter.unusedVariables false
set_option linter.unusedSimpArgs false
set_option maxHeartbeats 2000000
set_option maxRecDepth 4000
attribute [local irreducible] mix

theorem scr_setmask (s : Scr) (m : Nat) : (scrV s).setIfInBounds 513 (.int .i64 (m : Int)) = scrV ⟨s.P, s.hires, m⟩ := by
  unfold scrV scrL
  rw [List.setIfInBounds_toArray, List.set_append_right _ _ (by rw [planesL_len]; omega), planesL_len]
  rfl
theorem scr_planes (s : Scr) : (scrV s).extract 0 512 = (planesL s.P).toArray := by
  apply Array.ext_getElem?
  intro i
  rw [Array.getElem?_extract, scrV_size]
  by_cases hi : i < 512
  · rw [if_pos (by omega), Nat.zero_add]
    show (planesL s.P ++ scrT s).toArray[i]? = _
    rw [List.getElem?_toArray, List.getElem?_toArray, List.getElem?_append, planesL_len, if_pos hi]
  · rw [if_neg (by omega), List.getElem?_toArray, List.getElem?_eq_none (by rw [planesL_len]; omega)]
theorem planes_at (s : Scr) {k : Nat} (hk : k < 4) : (planesL s.P).toArray.extract (k * 128) (k * 128 + 128) = planeV (s.P k) := by
  have h := extract_planes (P := s.P) (T := []) hk
  rw [List.append_nil, Nat.mul_comm] at h
  exact h
theorem shl4 : ∀ k : Nat, k < 4 → IntKind.i64.wrap (1 * 2 ^ (min ((k : Nat) : Int).toNat IntKind.i64.bits)) = ((2 ^ k : Nat) : Int) := by decide +kernel
theorem or4 : ∀ x : Nat, x < 16 → ∀ k : Nat, k < 4 → IntKind.i64.wrap ((BitVec.ofInt IntKind.i64.bits ((x : Nat) : Int) ||| BitVec.ofInt IntKind.i64.bits ((2 ^ k : Nat) : Int)).toNat : Int) = ((x ||| 2 ^ k : Nat) : Int) := by decide +kernel
theorem col_yes {f : Nat → Bool} {k : Nat} (h : f k = true) : num f k ||| 2 ^ k = num f (k + 1) := by
  have h2 := Nat.two_pow_add_eq_or_of_lt (num_lt f k) 1
  rw [Nat.mul_one] at h2
  rw [Nat.or_comm, ← h2, Nat.add_comm]
  simp only [num]
  rw [h]; rfl
theorem col_no {f : Nat → Bool} {k : Nat} (h : f k = false) : num f k = num f (k + 1) := by simp only [num]; rw [h]; rfl
/-- the two bytes of a row -/
def pairAt (d : List Int) (k : Nat) : Int := 256 * d.getD (2 * k) 0 + d.getD (2 * k + 1) 0
def pairU (d : List Int) (k : Nat) : List Int := (List.range k).map (pairAt d)
theorem pairU_len (d : List Int) (k : Nat) : (pairU d k).length = k := by simp [pairU]
theorem pairU_succ (d : List Int) (k : Nat) : pairU d (k + 1) = pairU d k ++ [pairAt d k] := by
  unfold pairU
  rw [List.range_succ, List.map_append]; rfl
theorem pairAt_is {d : List Int} {k : Nat} (h : 2 * k + 1 < d.length) {z1 z2 : Nat} (h1 : d[2 * k] = z1) (h2 : d[2 * k + 1] = z2) : pairAt d k = ((256 * z1 + z2 : Nat) : Int) := by
  unfold pairAt
  have e1 : d.getD (2 * k) 0 = (z1 : Int) := by simp [List.getD, show 2 * k < d.length by omega, h1]
  have e2 : d.getD (2 * k + 1) 0 = (z2 : Int) := by simp [List.getD, h, h2]
  rw [e1, e2]; omega
def rowsU (d : List Int) (big : Bool) : List Int := if big then pairU d (d.length / 2) else d
theorem rowsU_small (d : List Int) : rowsU d false = d := rfl
theorem rowsU_big (d : List Int) : rowsU d true = pairU d (d.length / 2) := rfl
theorem shl16 {x : Nat} (h : x < 256) : IntKind.u16.wrap (((x : Nat) : Int) * 2 ^ (min (8 : Int).toNat IntKind.u16.bits)) = ((256 * x : Nat) : Int) := by
  have e : (8 : Int).toNat = 8 := rfl
  have e2 : IntKind.u16.bits = 16 := rfl
  rw [e, e2, show (2 : Int) ^ min 8 16 = 256 from by decide]
  exact (IntWalk.u16_in _ ⟨by omega, by omega⟩).trans (by omega)
theorem or16 {x y : Nat} (hx : x < 256) (hy : y < 256) : IntKind.u16.wrap ((BitVec.ofInt IntKind.u16.bits ((256 * x : Nat) : Int) ||| BitVec.ofInt IntKind.u16.bits ((y : Nat) : Int)).toNat : Int) = ((256 * x + y : Nat) : Int) := by
  have e : ∀ z : Nat, z < 65536 → (BitVec.ofInt IntKind.u16.bits (z : Int)).toNat = z := fun z hz => by
    show (BitVec.ofInt 16 (z : Int)).toNat = z
    rw [BitVec.ofInt_natCast, BitVec.toNat_ofNat]
    exact Nat.mod_eq_of_lt hz
  rw [BitVec.toNat_or, e _ (by omega), e _ (by omega), show 256 * x ||| y = 256 * x + y from (Nat.two_pow_add_eq_or_of_lt (i := 8) hy x).symm]
  exact IntWalk.u16_in _ ⟨by omega, by omega⟩
attribute [local irreducible] scrV stP planeV


theorem new08  (w : World) :
    Calls Try.prog 9 #[] w fun e w' => e = .returned (.agg (scrV ⟨fun _ => noneQ, false, 1⟩)) ∧ Sat w [] [] w' := by
  refine enter Try.func9 rfl rfl rfl ?_
  refine r_seq ?_
  refine r_region ?_
  refine r_allocV (cs := scrV scr0) (by kernel_rfl) rfl fun b0 => ?_
  refine r_nil ?_
  refine r_tn ?_
  refine r_seq ?_
  refine r_region ?_
  refine r_build (cells := scrV ⟨fun _ => noneQ, false, 1⟩) rfl rfl (by kernel_rfl) ?_
  refine r_storeV rfl rfl rfl (scrV_size _) (scrV_size _) (scrV_one _) ?_
  refine r_nil ?_
  refine r_tn ?_
  refine r_ret ?_
  exact r_done1 (.inl rfl) rfl (res_cellV rfl rfl rfl (scrV_size _)) fun w hw => ⟨rfl, hw.clear⟩

theorem select08 (s : Scr) (m : Nat) (w : World) :
    Calls Try.prog 15 #[.agg (scrV s), .int .i64 (m : Int)] w fun e w' => e = .returned (.agg (scrV ⟨s.P, s.hires, m⟩)) ∧ Sat w [] [] w' := by
  refine enter Try.func15 rfl rfl rfl ?_
  refine r_seq ?_
  refine r_region ?_
  refine r_boxV rfl rfl fun b2 => ?_
  refine r_allocV (cs := scrV scr0) (by kernel_rfl) rfl fun b4 => ?_
  refine r_nil ?_
  refine r_tn ?_
  refine r_seq ?_
  refine r_region ?_
  refine r_move rfl rfl ?_
  refine r_fieldAddr (off := 513) (o' := 513) rfl rfl rfl rfl ?_
  refine r_store (m := 1) (cs' := scrV ⟨s.P, s.hires, m⟩) rfl rfl rfl rfl (by rw [scrV_size]; decide) rfl ((splice_one _ _ _ (by rw [scrV_size]; decide)).trans (scr_setmask s m)) ?_
  refine r_nil ?_
  refine r_tn ?_
  refine r_seq ?_
  refine r_region ?_
  refine r_loadV rfl rfl rfl rfl (scrV_size _) ?_
  refine r_storeV rfl rfl rfl (scrV_size _) (scrV_size _) (scrV_one _) ?_
  refine r_nil ?_
  refine r_tn ?_
  refine r_ret ?_
  exact r_done1 (.inl rfl) rfl (res_cellV rfl rfl rfl (scrV_size _)) fun w hw => ⟨rfl, hw.clear⟩

theorem resol08 (s : Scr) (hires : Bool) (w : World) :
    Calls Try.prog 26 #[.agg (scrV s), .bool hires] w fun e w' => e = .returned (.agg (scrV ⟨fun _ => noneQ, hires, s.mask⟩)) ∧ Sat w [] [] w' := by
  refine enter Try.func26 rfl rfl rfl ?_
  refine r_seq ?_
  refine r_region ?_
  refine r_boxV rfl rfl fun b2 => ?_
  refine r_allocV (cs := scrV scr0) (by kernel_rfl) rfl fun b4 => ?_
  refine r_nil ?_
  refine r_tn ?_
  refine r_seq ?_
  refine r_region ?_
  refine r_move rfl rfl ?_
  refine r_fieldAddr (off := 513) (o' := 513) rfl rfl rfl rfl ?_
  refine r_load1 rfl rfl rfl (scr_mask s) ?_
  refine r_build (cells := scrV ⟨fun _ => noneQ, hires, s.mask⟩) rfl rfl (by kernel_rfl) ?_
  refine r_storeV rfl rfl rfl (scrV_size _) (scrV_size _) (scrV_one _) ?_
  refine r_nil ?_
  refine r_tn ?_
  refine r_ret ?_
  exact r_done1 (.inl rfl) rfl (res_cellV rfl rfl rfl (scrV_size _)) fun w hw => ⟨rfl, hw.clear⟩

theorem clearD08 (p : Nat → Nat → Bool) (w : World) :
    Calls Try.prog 44 #[.agg (planeV p)] w fun e w' => e = .returned (.agg (planeV noneQ)) ∧ Sat w [] [] w' := by
  refine enter Try.func44 rfl rfl rfl ?_
  refine r_seq ?_
  refine r_region ?_
  refine r_boxV rfl rfl fun b1 => ?_
  refine r_allocV (cs := planeV noneQ) (by kernel_rfl) rfl fun b2 => ?_
  refine r_nil ?_
  refine r_tn ?_
  refine r_seq ?_
  refine r_region ?_
  refine r_build (cells := planeV noneQ) rfl rfl (by kernel_rfl) ?_
  refine r_storeV rfl rfl rfl (planeV_size _) (planeV_size _) (planeV_one _) ?_
  refine r_nil ?_
  refine r_tn ?_
  refine r_ret ?_
  exact r_done1 (.inl rfl) rfl (res_cellV rfl rfl rfl (planeV_size _)) fun w hw => ⟨rfl, hw.clear⟩

theorem clear08 (s : Scr) (hm : s.mask < 16) (w : World) :
    Calls Try.prog 25 #[.agg (scrV s)] w fun e w' => e = .returned (.agg (scrV ⟨(stP (fun _ _ => noneQ) s.P (sel s.mask)).1, s.hires, s.mask⟩)) ∧ Sat w [] [] w' := by
  refine enter Try.func25 rfl rfl rfl ?_
  refine r_seq ?_
  refine r_region ?_
  refine r_boxV rfl rfl fun b1 => ?_
  refine r_allocV (cs := scrV scr0) (by kernel_rfl) rfl fun b2 => ?_
  refine r_nil ?_
  refine r_tn ?_
  refine r_seq ?_
  refine r_region ?_
  refine r_loadV rfl rfl rfl rfl (scrV_size _) ?_
  refine r_call rfl rfl rfl (by kernel_rfl) rfl (fun w hw => by exact apply08 s hm 44 [] [] (fun _ => []) (fun _ _ => noneQ) w (by kernel_rfl) (fun _ => rfl) (fun _ r hr => by cases hr) (fun pre x W _ _ => clearD08 _ W) (Sat.nil w)) ?_
  refine r_storeV rfl rfl rfl (scrV_size _) (scrV_size _) (scrV_one _) ?_
  refine r_nil ?_
  refine r_tn ?_
  refine r_ret ?_
  exact r_done1 (.inl rfl) rfl (res_cellV rfl rfl rfl (scrV_size _)) fun w hw => ⟨rfl, hw.clear⟩

theorem scrollD08 (s : Scr) (dx dy : Int) (b1 b2 b3 : Nat) (p : Nat → Nat → Bool) (w : World) (h1 : Rd w (some ⟨b1, 0, none⟩) [.int .i64 dx]) (h2 : Rd w (some ⟨b2, 0, none⟩) [.int .i64 dy]) (h3 : Rd w (some ⟨b3, 0, none⟩) (scrV s).toList) (hdx : -4611686018427387904 ≤ dx ∧ dx ≤ 4611686018427387904) (hdy : -4611686018427387904 ≤ dy ∧ dy ≤ 4611686018427387904) :
    Calls Try.prog 45 #[.agg (planeV p), .pointer (some ⟨b1, 0, none⟩), .pointer (some ⟨b2, 0, none⟩), .pointer (some ⟨b3, 0, none⟩)] w fun e w' => e = .returned (.agg (planeV (scrollQ p dx dy s.hires))) ∧ Sat w [] [] w' := by
  refine enter Try.func45 rfl rfl rfl ?_
  refine r_seq ?_
  refine r_region ?_
  refine r_boxV rfl rfl fun b4 => ?_
  refine r_allocV (cs := planeV noneQ) (by kernel_rfl) rfl fun b5 => ?_
  refine r_nil ?_
  refine r_tn ?_
  refine r_seq ?_
  refine r_region ?_
  refine r_loadV rfl rfl rfl rfl (planeV_size _) ?_
  refine r_loadC (p := ⟨b1, 0, none⟩) rfl rfl rfl (fun w hw => (h1.keep hw).cell (j := 0) rfl rfl) ?_
  refine r_loadC (p := ⟨b2, 0, none⟩) rfl rfl rfl (fun w hw => (h2.keep hw).cell (j := 0) rfl rfl) ?_
  refine r_fieldAddr (off := 512) rfl rfl rfl rfl ?_
  refine r_loadC (p := ⟨b3, 0 + 512, none⟩) rfl rfl rfl (fun w hw => (h3.keep hw).cell (j := 512) (by rw [Array.getElem?_toList]; exact scr_hires s) rfl) ?_
  refine r_call rfl rfl rfl (by kernel_rfl) rfl (fun w hw => by exact scroll07 p dx dy s.hires w hdx hdy) ?_
  refine r_storeV rfl rfl rfl (planeV_size _) (planeV_size _) (planeV_one _) ?_
  refine r_nil ?_
  refine r_tn ?_
  refine r_ret ?_
  exact r_done1 (.inl rfl) rfl (res_cellV rfl rfl rfl (planeV_size _)) fun w hw => ⟨rfl, hw.clear⟩

theorem scrollS08 (s : Scr) (hm : s.mask < 16) (dx dy : Int) (w : World) (hdx : -4611686018427387904 ≤ dx ∧ dx ≤ 4611686018427387904) (hdy : -4611686018427387904 ≤ dy ∧ dy ≤ 4611686018427387904) :
    Calls Try.prog 27 #[.agg (scrV s), .int .i64 dx, .int .i64 dy] w fun e w' => e = .returned (.agg (scrV ⟨(stP (fun _ p => scrollQ p dx dy s.hires) s.P (sel s.mask)).1, s.hires, s.mask⟩)) ∧ Sat w [] [] w' := by
  refine enter Try.func27 rfl rfl rfl ?_
  refine r_seq ?_
  refine r_region ?_
  refine r_boxV rfl rfl fun b3 => ?_
  refine r_box1 rfl rfl rfl fun b4 => ?_
  refine r_box1 rfl rfl rfl fun b5 => ?_
  refine r_allocV (cs := scrV scr0) (by kernel_rfl) rfl fun b6 => ?_
  refine r_nil ?_
  refine r_tn ?_
  refine r_seq ?_
  refine r_region ?_
  refine r_loadV rfl rfl rfl rfl (scrV_size _) ?_
  refine r_makeFunc rfl rfl rfl ?_
  refine r_call rfl rfl rfl (by kernel_rfl) rfl (fun w hw => by exact apply08 s hm 45 [.pointer (some ⟨b4, 0, none⟩), .pointer (some ⟨b5, 0, none⟩), .pointer (some ⟨b3, 0, none⟩)] [] (fun _ => []) (fun _ p => scrollQ p dx dy s.hires) w (by kernel_rfl) (fun _ => rfl) (fun _ r hr => by cases hr) (fun pre x W _ hW => scrollD08 s dx dy b4 b5 b3 _ W (Rd.keep (Rd.blk (hw.look (HasBlk.pick (b := b4))) (fun j u h => by rw [Nat.zero_add]; exact Array.getElem?_toList.symm.trans h)) hW) (Rd.keep (Rd.blk (hw.look (HasBlk.pick (b := b5))) (fun j u h => by rw [Nat.zero_add]; exact Array.getElem?_toList.symm.trans h)) hW) (Rd.keep (Rd.blk (hw.look (HasBlk.pick (b := b3))) (fun j u h => by rw [Nat.zero_add]; exact Array.getElem?_toList.symm.trans h)) hW) hdx hdy) (Sat.nil w)) ?_
  refine r_storeV rfl rfl rfl (scrV_size _) (scrV_size _) (scrV_one _) ?_
  refine r_nil ?_
  refine r_tn ?_
  refine r_ret ?_
  exact r_done1 (.inl rfl) rfl (res_cellV rfl rfl rfl (scrV_size _)) fun w hw => ⟨rfl, hw.clear⟩

theorem color08 (s : Scr) (x y : Int) (w : World) :
    Calls Try.prog 22 #[.agg (scrV s), .int .i64 x, .int .i64 y] w fun e w' => e = .returned (.int .i64 ((num (fun i => pixQ (s.P i) x y) 4 : Nat) : Int)) ∧ Sat w [] [] w' := by
  refine enter Try.func22 rfl rfl rfl ?_
  refine r_seq ?_
  refine r_region ?_
  refine r_boxV rfl rfl fun b3 => ?_
  refine r_assign rfl rfl ?_
  refine r_nil ?_
  refine r_tn ?_
  refine r_seq ?_
  refine r_region ?_
  refine r_assign rfl rfl ?_
  refine r_nil ?_
  refine r_tn ?_
  refine r_seq ?_
  refine r_seq ?_
  refine r_region ?_
  refine r_fieldAddr (off := 0) (o' := 0) rfl rfl rfl rfl ?_
  refine r_loadN (m := 512) (vs := (planesL s.P).toArray) rfl rfl rfl rfl (by rw [scrV_size]; decide) (scr_planes s) ?_
  refine r_move rfl rfl ?_
  refine r_nil ?_
  refine r_tn ?_
  refine r_block ?_
  refine r_loopN (fun k => [(1, .int .i64 x), (2, .int .i64 y), (7, .int .i64 ((num (fun i => pixQ (s.P i) x y) k : Nat) : Int)), (11, .agg (planesL s.P).toArray), (12, .int .i64 (k : Int))]) (fun k => []) (fun k => k ≤ 4) 4 0 (by omega) ⟨rfl, rfl, rfl, rfl, rfl, trivial⟩ (fun w hw => hw.clear) fun k hk => ?_
  refine r_seq ?_
  refine r_region ?_
  refine r_lss rfl rfl rfl rfl ?_
  refine r_nil ?_
  refine r_tn ?_
  refine r_seq ?_
  refine r_cond rfl (fun hc => ?_) (fun hc => ?_)
  · refine r_skip ?_
    refine r_tn ?_
    refine r_seq ?_
    refine r_block ?_
    refine r_seq ?_
    refine r_region ?_
    have hk2 : k < 4 := by have h := of_decide_eq_true hc; omega
    clear hc
    refine r_move rfl rfl ?_
    refine r_indexAgg (i' := k) (sz := 128) (vs := planeV (s.P k)) rfl rfl rfl rfl rfl rfl rfl hk2 (planes_at s hk2) ?_
    refine r_allocV (cs := planeV noneQ) (by kernel_rfl) rfl fun b9 => ?_
    refine r_assign rfl rfl ?_
    refine r_storeV rfl rfl rfl (planeV_size _) (planeV_size _) (planeV_one _) ?_
    refine r_nil ?_
    refine r_tn ?_
    refine r_seq ?_
    refine r_region ?_
    refine r_loadV rfl rfl rfl rfl (planeV_size _) ?_
    refine r_move rfl rfl ?_
    refine r_move rfl rfl ?_
    refine r_call rfl rfl rfl (by kernel_rfl) rfl (fun w hw => by exact pixel07 (s.P k) x y w) ?_
    refine r_nil ?_
    refine r_tn ?_
    refine r_cond rfl (fun hc => ?_) (fun hc => ?_)
    · refine r_region ?_
      refine r_move rfl rfl ?_
      refine r_move rfl rfl ?_
      refine r_shl (r := ((2 ^ k : Nat) : Int)) rfl rfl rfl (by omega) (shl4 _ hk2) ?_
      refine r_or (r := ((num (fun i => pixQ (s.P i) x y) k ||| 2 ^ k : Nat) : Int)) rfl rfl rfl (or4 _ (Nat.lt_of_lt_of_le (num_lt _ k) (Nat.pow_le_pow_right (by decide) (show k ≤ 4 by omega))) _ hk2) ?_
      refine r_assign rfl rfl ?_
      refine r_nil ?_
      refine r_bn ?_
      refine r_tn ?_
      refine r_region ?_
      refine r_add rfl rfl rfl (w64 (by omega)) ?_
      refine r_move rfl rfl ?_
      refine r_nil ?_
      refine r_tn ?_
      first
        | exact r_againN (k + 1) (by omega) (by omega) ⟨rfl, rfl, congrArg (fun z : Nat => some (Value.int .i64 (z : Int))) (col_yes hc), rfl, rfl, trivial⟩ (fun w hw => hw.clear)
        | exact r_againN (k + 1) (by omega) (by omega) ⟨rfl, rfl, congrArg (fun z : Nat => some (Value.int .i64 (z : Int))) (col_no hc), rfl, rfl, trivial⟩ (fun w hw => hw.clear)
    · refine r_skip ?_
      refine r_bn ?_
      refine r_tn ?_
      refine r_region ?_
      refine r_add rfl rfl rfl (w64 (by omega)) ?_
      refine r_move rfl rfl ?_
      refine r_nil ?_
      refine r_tn ?_
      first
        | exact r_againN (k + 1) (by omega) (by omega) ⟨rfl, rfl, congrArg (fun z : Nat => some (Value.int .i64 (z : Int))) (col_yes hc), rfl, rfl, trivial⟩ (fun w hw => hw.clear)
        | exact r_againN (k + 1) (by omega) (by omega) ⟨rfl, rfl, congrArg (fun z : Nat => some (Value.int .i64 (z : Int))) (col_no hc), rfl, rfl, trivial⟩ (fun w hw => hw.clear)
  · refine r_exit ?_
    refine r_te ?_
    refine r_te ?_
    refine r_be ?_
    refine r_tn ?_
    refine r_seq ?_
    refine r_region ?_
    refine r_move rfl rfl ?_
    refine r_assign rfl rfl ?_
    refine r_nil ?_
    refine r_tn ?_
    refine r_ret ?_
    have hk4 : k = 4 := by have h := of_decide_eq_false hc; omega
    subst hk4
    exact r_done1 (.inl rfl) rfl (res_tmp rfl) fun w hw => ⟨rfl, hw.clear⟩

theorem rows08 (d : List Int) (big : Bool) (A : Option Addr) (c : Nat) (hd8 : ∀ z ∈ d, 0 ≤ z ∧ z ≤ 255) (hl : d.length ≤ 1000000) (w : World) (hR : Rd w A (d.map (Value.int .u8))) :
    Calls Try.prog 40 #[.slice A d.length c, .bool big] w fun e w' => ∃ i : Option Addr × Nat, e = .returned (.slice i.1 (rowsU d big).length i.2) ∧ True ∧ Sat w [] [.own 90 1 (.slice i.1 (rowsU d big).length i.2) (rowsU d big).length ((rowsU d big).map (Value.int .u16))] w' := by
  cases big
  · refine enter Try.func40 rfl rfl rfl ?_
    refine r_seq ?_
    refine r_region ?_
    refine r_assign rfl rfl ?_
    refine r_nil ?_
    refine r_tn ?_
    refine r_seq ?_
    refine r_region ?_
    refine r_assign rfl rfl ?_
    refine r_nil ?_
    refine r_tn ?_
    refine r_seq ?_
    refine r_seq ?_
    refine r_region ?_
    refine r_move rfl rfl ?_
    refine r_not rfl rfl rfl ?_
    refine r_nil ?_
    refine r_tn ?_
    refine r_cond_t rfl ?_
    refine r_seq ?_
    refine r_seq ?_
    refine r_region ?_
    refine r_move rfl rfl ?_
    refine r_len rfl rfl rfl ?_
    refine r_move rfl rfl ?_
    refine r_nil ?_
    refine r_tn ?_
    refine r_block ?_
    refine Run.ownNil 90 1 ?_
    refine r_loop2 (fun k A5 c5 => [(0, .slice A d.length c), (5, .slice A5 k c5), (11, .slice A d.length c), (12, .int .i64 (d.length : Int)), (13, .int .i64 (k : Int))]) (fun k A5 c5 => [.own 90 1 (.slice A5 (k) c5) (k) ((d.take k).map (Value.int .u16))]) (fun k A5 c5 => k ≤ d.length) d.length 0 none 0 (by omega) ⟨rfl, rfl, rfl, rfl, rfl, trivial⟩ (fun w hw => by have h2 : Sat _ _ [.own 90 1 (.slice none 0 0) 0 []] w := hw.sub; exact h2) fun k A5 c5 hk => ?_
    refine r_seq ?_
    refine r_region ?_
    refine r_lss rfl rfl rfl rfl ?_
    refine r_nil ?_
    refine r_tn ?_
    refine r_seq ?_
    refine r_cond rfl (fun hc => ?_) (fun hc => ?_)
    · refine r_skip ?_
      refine r_tn ?_
      refine r_seq ?_
      refine r_block ?_
      refine r_seq ?_
      refine r_region ?_
      have hk2 : k < d.length := by have h := of_decide_eq_true hc; omega
      clear hc
      obtain ⟨ba, oa, rfl, hca⟩ := hR k _ (by rw [List.getElem?_map, List.getElem?_eq_getElem hk2]; rfl)
      have hz := hd8 _ (List.getElem_mem hk2)
      refine r_indexSl (sz := 1) (o' := oa + k) rfl rfl rfl rfl rfl (by omega) (by omega) (by simp) ?_
      refine r_loadC (p := ⟨ba, oa + k, none⟩) (v := .int .u8 d[k]) rfl rfl rfl (fun w hw => (hR.keep hw).cell (by rw [List.getElem?_map, List.getElem?_eq_getElem hk2]; rfl) rfl) ?_
      refine r_assign rfl rfl ?_
      refine r_nil ?_
      refine r_tn ?_
      refine r_region ?_
      refine r_move rfl rfl ?_
      refine r_move rfl rfl ?_
      refine r_convert (r := d[k]) rfl rfl rfl rfl (IntWalk.u16_in _ ⟨by omega, by omega⟩) ?_
      refine r_lit (sz := 1) (pv := [(0, .int .u16 d[k])]) (cells := #[.int .u16 d[k]]) rfl rfl rfl rfl rfl rfl (by kernel_rfl) rfl (fun b20 => ?_) (by decide)
      refine r_append (k := 1) (news := ([d[k]].map (Value.int .u16))) (sz := 1) (bytes := 2) rfl rfl rfl rfl rfl rfl (by decide) (fun w hw => own_rd (A := some ⟨b20, 0, none⟩) (m := 1) (c := 1) hw) rfl (fun u hu => by obtain ⟨z, _, rfl⟩ := List.mem_map.1 hu; rfl) (by omega) (by unfold maxLen; omega) fun A21 c21 => ?_
      refine r_assign rfl rfl ?_
      refine r_nil ?_
      refine r_bn ?_
      refine r_tn ?_
      refine r_region ?_
      refine r_add rfl rfl rfl (w64 (by omega)) ?_
      refine r_move rfl rfl ?_
      refine r_nil ?_
      refine r_tn ?_
      exact r_again2 (k + 1) A21 c21 (by omega) (by omega) ⟨rfl, rfl, rfl, rfl, rfl, trivial⟩ (fun w hw => by rw [List.take_add_one, List.getElem?_eq_getElem hk2, show (some d[k]).toList = [d[k]] from rfl, List.map_append]; exact hw.sub)
    · refine r_exit ?_
      refine r_te ?_
      refine r_te ?_
      refine r_be ?_
      refine r_tn ?_
      refine r_seq ?_
      refine r_region ?_
      have hk3 : k = d.length := by have h := of_decide_eq_false hc; omega
      subst hk3
      refine r_move rfl rfl ?_
      refine r_assign rfl rfl ?_
      refine r_nil ?_
      refine r_tn ?_
      refine r_ret ?_
      refine r_tr ?_
      exact r_done1 (.inl rfl) rfl (res_tmp rfl) fun w hw => ⟨(A5, c5), by first | (rw [rowsU_small]; done) | (rw [rowsU_small]; rfl) | (rw [rowsU_big, pairU_len]; done), trivial, by first | (rw [rowsU_small]; rw [List.take_length] at hw; exact hw.sub) | (rw [rowsU_big, pairU_len]; exact hw.sub)⟩
  · refine enter Try.func40 rfl rfl rfl ?_
    refine r_seq ?_
    refine r_region ?_
    refine r_assign rfl rfl ?_
    refine r_nil ?_
    refine r_tn ?_
    refine r_seq ?_
    refine r_region ?_
    refine r_assign rfl rfl ?_
    refine r_nil ?_
    refine r_tn ?_
    refine r_seq ?_
    refine r_seq ?_
    refine r_region ?_
    refine r_move rfl rfl ?_
    refine r_not rfl rfl rfl ?_
    refine r_nil ?_
    refine r_tn ?_
    refine r_cond_f rfl ?_
    refine r_skip ?_
    refine r_tn ?_
    refine r_seq ?_
    refine r_seq ?_
    refine r_region ?_
    refine r_assign rfl rfl ?_
    refine r_nil ?_
    refine r_tn ?_
    refine r_block ?_
    refine Run.ownNil 90 1 ?_
    refine r_loop2 (fun k A5 c5 => [(0, .slice A d.length c), (5, .slice A5 k c5), (8, .int .i64 ((2 * k : Nat) : Int))]) (fun k A5 c5 => [.own 90 1 (.slice A5 (k) c5) (k) ((pairU d k).map (Value.int .u16))]) (fun k A5 c5 => k ≤ d.length / 2) (d.length / 2) 0 none 0 (by omega) ⟨rfl, rfl, rfl, trivial⟩ (fun w hw => by have h2 : Sat _ _ [.own 90 1 (.slice none 0 0) 0 []] w := hw.sub; exact h2) fun k A5 c5 hk => ?_
    refine r_seq ?_
    refine r_seq ?_
    refine r_region ?_
    refine r_move rfl rfl ?_
    refine r_add (r := ((2 * k + 1 : Nat) : Int)) rfl rfl rfl ((w64 (by omega)).trans (by omega)) ?_
    refine r_move rfl rfl ?_
    refine r_len rfl rfl rfl ?_
    refine r_lss (p := decide (k < d.length / 2)) rfl rfl rfl (decide_eq_decide.2 ⟨fun _ => by omega, fun _ => by omega⟩) ?_
    refine r_nil ?_
    refine r_tn ?_
    refine r_cond rfl (fun hc => ?_) (fun hc => ?_)
    · refine r_skip ?_
      refine r_tn ?_
      refine r_seq ?_
      refine r_block ?_
      refine r_mixed (by kernel_rfl) (by kernel_rfl) ?_
      have hk2 : k < d.length / 2 := of_decide_eq_true hc
      clear hc
      have ha : 2 * k < d.length := by omega
      have hb : 2 * k + 1 < d.length := by omega
      obtain ⟨ba, oa, rfl, hca⟩ := hR (2 * k) _ (by rw [List.getElem?_map, List.getElem?_eq_getElem ha]; rfl)
      have hz1 := hd8 _ (List.getElem_mem ha)
      have hz2 := hd8 _ (List.getElem_mem hb)
      obtain ⟨z1, hz1e⟩ : ∃ z : Nat, d[2 * k] = z := ⟨d[2 * k].toNat, by omega⟩
      obtain ⟨z2, hz2e⟩ : ∃ z : Nat, d[2 * k + 1] = z := ⟨d[2 * k + 1].toNat, by omega⟩
      rw [hz1e] at hz1
      rw [hz2e] at hz2
      refine r_move rfl rfl ?_
      refine r_move rfl rfl ?_
      refine r_move rfl rfl ?_
      refine r_indexSl (sz := 1) (o' := oa + 2 * k) rfl rfl rfl rfl rfl (by omega) (by omega) (by omega) ?_
      refine r_loadC (p := ⟨ba, oa + 2 * k, none⟩) (v := .int .u8 (z1 : Int)) rfl rfl rfl (fun w hw => (hR.keep hw).cell (by rw [List.getElem?_map, List.getElem?_eq_getElem ha, hz1e]; rfl) rfl) ?_
      refine r_convert (r := (z1 : Int)) rfl rfl rfl rfl (IntWalk.u16_in _ ⟨by omega, by omega⟩) ?_
      refine r_shl (r := ((256 * z1 : Nat) : Int)) rfl rfl rfl (by decide) (shl16 (by omega)) ?_
      refine r_move rfl rfl ?_
      refine r_move rfl rfl ?_
      refine r_add (r := ((2 * k + 1 : Nat) : Int)) rfl rfl rfl ((w64 (by omega)).trans (by omega)) ?_
      refine r_indexSl (sz := 1) (o' := oa + (2 * k + 1)) rfl rfl rfl rfl rfl (by omega) (by omega) (by omega) ?_
      refine r_loadC (p := ⟨ba, oa + (2 * k + 1), none⟩) (v := .int .u8 (z2 : Int)) rfl rfl rfl (fun w hw => (hR.keep hw).cell (by rw [List.getElem?_map, List.getElem?_eq_getElem hb, hz2e]; rfl) rfl) ?_
      refine r_convert (r := (z2 : Int)) rfl rfl rfl rfl (IntWalk.u16_in _ ⟨by omega, by omega⟩) ?_
      refine r_or (r := ((256 * z1 + z2 : Nat) : Int)) rfl rfl rfl (or16 (by omega) (by omega)) ?_
      have hpe : pairAt d k = ((256 * z1 + z2 : Nat) : Int) := pairAt_is hb hz1e hz2e
      rw [← hpe]
      refine r_lit (sz := 1) (pv := [(0, .int .u16 (pairAt d k))]) (cells := #[.int .u16 (pairAt d k)]) rfl rfl rfl rfl rfl rfl (by kernel_rfl) rfl (fun b45 => ?_) (by decide)
      refine r_append (k := 1) (news := ([pairAt d k].map (Value.int .u16))) (sz := 1) (bytes := 2) rfl rfl rfl rfl rfl rfl (by decide) (fun w hw => own_rd (A := some ⟨b45, 0, none⟩) (m := 1) (c := 1) hw) rfl (fun u hu => by obtain ⟨z, _, rfl⟩ := List.mem_map.1 hu; rfl) (by omega) (by unfold maxLen; omega) fun A46 c46 => ?_
      refine r_assign rfl rfl ?_
      refine r_nil ?_
      refine r_bn ?_
      refine r_tn ?_
      refine r_region ?_
      refine r_move rfl rfl ?_
      refine r_add (r := ((2 * (k + 1) : Nat) : Int)) rfl rfl rfl ((w64 (by omega)).trans (by omega)) ?_
      refine r_assign rfl rfl ?_
      refine r_nil ?_
      refine r_tn ?_
      exact r_again2 (k + 1) A46 c46 (by omega) (by omega) ⟨rfl, rfl, rfl, trivial⟩ (fun w hw => by rw [pairU_succ, List.map_append]; exact hw.sub)
    · refine r_exit ?_
      refine r_te ?_
      refine r_te ?_
      refine r_be ?_
      refine r_tn ?_
      refine r_seq ?_
      refine r_region ?_
      have hk3 : k = d.length / 2 := by have h := of_decide_eq_false hc; omega
      subst hk3
      refine r_move rfl rfl ?_
      refine r_assign rfl rfl ?_
      refine r_nil ?_
      refine r_tn ?_
      refine r_ret ?_
      exact r_done1 (.inl rfl) rfl (res_tmp rfl) fun w hw => ⟨(A5, c5), by first | (rw [rowsU_small]; done) | (rw [rowsU_small]; rfl) | (rw [rowsU_big, pairU_len]; done), trivial, by first | (rw [rowsU_small]; rw [List.take_length] at hw; exact hw.sub) | (rw [rowsU_big, pairU_len]; exact hw.sub)⟩
end Go.Proofs.Ytgamehjakgcgnaa
