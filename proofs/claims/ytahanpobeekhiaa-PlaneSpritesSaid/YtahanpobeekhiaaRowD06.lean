/-
  Rows of pixels (chapter 06): all, masked, Shift.
-/
import Derived.Test.YtahanpobeekhiaaRowC06
import Derived.Test.YtahanpobeekhiaaRdN
namespace Go.Proofs.Ytahanpobeekhiaa
open Go Go.RowKit
set_option linter.unusedVariables false
set_option linter.unusedSimpArgs false
set_option maxHeartbeats 2000000

/-- a row's width -/
abbrev wd (wide : Bool) : Nat := if wide then 128 else 64
def wideP (wide : Bool) (x : Nat) : Bool := decide (x < wd wide)

theorem rowAll (wide : Bool) (w : World) :
    Calls Try.prog 50 #[.int .i64 (wd wide : Nat)] w fun e w' => e = .returned (.agg (rowV (wideP wide))) ∧ Sat w [] [] w' := by
  cases wide
  · refine enter Try.func50 rfl rfl rfl ?_
    refine r_seq ?_
    refine r_region ?_
    refine r_allocV (cs := #[.int .u64 0, .int .u64 0]) rfl rfl fun b2 => ?_
    refine r_nil ?_
    refine r_tn ?_
    refine r_seq ?_
    refine r_seq ?_
    refine r_region ?_
    refine r_move rfl rfl ?_
    refine r_eql rfl rfl rfl (decide_eq_true (by decide)) ?_
    refine r_nil ?_
    refine r_tn ?_
    refine r_cond_t rfl ?_
    refine r_seq ?_
    refine r_region ?_
    refine r_build (cells := rowV (wideP false)) rfl rfl (by kernel_rfl) ?_
    refine r_storeV rfl rfl rfl rfl rfl rfl ?_
    refine r_nil ?_
    refine r_tn ?_
    refine r_ret ?_
    refine r_tr ?_
    exact r_done1 (.inl rfl) rfl (res_cellV rfl rfl rfl rfl) fun w hw => ⟨rfl, hw.clear⟩
  · refine enter Try.func50 rfl rfl rfl ?_
    refine r_seq ?_
    refine r_region ?_
    refine r_allocV (cs := #[.int .u64 0, .int .u64 0]) rfl rfl fun b2 => ?_
    refine r_nil ?_
    refine r_tn ?_
    refine r_seq ?_
    refine r_seq ?_
    refine r_region ?_
    refine r_move rfl rfl ?_
    refine r_eql rfl rfl rfl (decide_eq_false (by decide)) ?_
    refine r_nil ?_
    refine r_tn ?_
    refine r_cond_f rfl ?_
    refine r_skip ?_
    refine r_tn ?_
    refine r_seq ?_
    refine r_region ?_
    refine r_build (cells := rowV (wideP true)) rfl rfl (by kernel_rfl) ?_
    refine r_storeV rfl rfl rfl rfl rfl rfl ?_
    refine r_nil ?_
    refine r_tn ?_
    refine r_ret ?_
    exact r_done1 (.inl rfl) rfl (res_cellV rfl rfl rfl rfl) fun w hw => ⟨rfl, hw.clear⟩

def mk1 (p q : Nat → Bool) (k x : Nat) : Bool := if k = 0 then p x else p x && q x

theorem rowMasked (p q : Nat → Bool) (b : Nat) (w : World) (hb : Rd w (some ⟨b, 0, none⟩) (rowV q).toList) :
    Calls Try.prog 48 #[.agg (rowV p), .slice (some ⟨b, 0, none⟩) 1 1] w fun e w' => e = .returned (.agg (rowV (fun x => p x && q x))) ∧ Sat w [] [] w' := by
  refine enter Try.func48 rfl rfl rfl ?_
  refine r_seq ?_
  refine r_region ?_
  refine r_boxV rfl rfl fun b2 => ?_
  refine r_allocV (cs := #[.int .u64 0, .int .u64 0]) rfl rfl fun b4 => ?_
  refine r_nil ?_
  refine r_tn ?_
  refine r_seq ?_
  refine r_seq ?_
  refine r_region ?_
  refine r_move rfl rfl ?_
  refine r_len rfl rfl rfl ?_
  refine r_move rfl rfl ?_
  refine r_nil ?_
  refine r_tn ?_
  refine r_block ?_
  refine r_loopN (fun i => [(2, .pointer (some ⟨b2, 0, none⟩)), (4, .pointer (some ⟨b4, 0, none⟩)), (7, .slice (some ⟨b, 0, none⟩) 1 1), (8, .int .i64 1), (9, .int .i64 (i : Int))]) (fun i => [.blk b2 (.cells (rowV (mk1 p q i)) 27 (0, 0)), .blk b4 (.cells #[.int .u64 0, .int .u64 0] 27 (0, 0))]) (fun i => i ≤ 1) 1 0 (by omega) ⟨rfl, rfl, rfl, rfl, rfl, trivial⟩ (fun w hw => by rw [show mk1 p q 0 = p from rfl]; exact hw.sub) fun i hi => ?_
  refine r_seq ?_
  refine r_region ?_
  refine r_lss rfl rfl rfl rfl ?_
  refine r_nil ?_
  refine r_tn ?_
  refine r_seq ?_
  refine r_cond rfl (fun hc => ?_) (fun hc => ?_)
  · refine r_skip ?_
    refine r_tn ?_
    refine r_seq ?_
    refine r_block ?_
    refine r_seq ?_
    refine r_region ?_
    have hi0 : i = 0 := by have h := of_decide_eq_true hc; omega
    subst hi0
    refine r_indexSl (sz := 2) rfl rfl rfl rfl rfl (by omega) (by omega) rfl ?_
    refine r_loadRd (vs := (rowV q).toList) rfl rfl rfl rfl rfl (fun w hw => hb.keep hw) ?_
    refine r_allocV (cs := #[.int .u64 0, .int .u64 0]) rfl rfl fun b6 => ?_
    refine r_storeV rfl rfl rfl rfl rfl rfl ?_
    refine r_nil ?_
    refine r_tn ?_
    refine r_region ?_
    refine r_loadV rfl rfl rfl rfl rfl ?_
    refine r_loadV rfl rfl rfl rfl rfl ?_
    refine r_call rfl rfl rfl (by kernel_rfl) rfl (fun w hw => by exact rowAnd p q w) ?_
    refine r_storeV rfl rfl rfl rfl rfl rfl ?_
    refine r_nil ?_
    refine r_bn ?_
    refine r_tn ?_
    refine r_region ?_
    refine r_add rfl rfl rfl (w64 (by omega)) ?_
    refine r_move rfl rfl ?_
    refine r_nil ?_
    refine r_tn ?_
    exact r_againN 1 (by omega) (by omega) ⟨rfl, rfl, rfl, rfl, rfl, trivial⟩ (fun w hw => by rw [show mk1 p q 1 = fun x => p x && q x from rfl]; exact hw.sub)
  · refine r_exit ?_
    refine r_te ?_
    refine r_te ?_
    refine r_be ?_
    refine r_tn ?_
    refine r_seq ?_
    refine r_region ?_
    refine r_loadV rfl rfl rfl rfl rfl ?_
    refine r_storeV rfl rfl rfl rfl rfl rfl ?_
    refine r_nil ?_
    refine r_tn ?_
    refine r_ret ?_
    have hi1 : i = 1 := by have h := of_decide_eq_false hc; omega
    subst hi1
    exact r_done1 (.inl rfl) rfl (res_cellV rfl rfl rfl rfl) fun w hw => ⟨rfl, hw.clear⟩

/-- a row of a width moved to the right -/
def shiftP (p : Nat → Bool) (n : Int) (wide : Bool) (x : Nat) : Bool := decide (x < wd wide) && (decide (0 ≤ (x : Int) - n) && decide ((x : Int) - n < 128) && p ((x : Int) - n).toNat)
theorem shift_left (p : Nat → Bool) (wide : Bool) {n : Int} (h : n < 0) (x : Nat) (hx : x < 128) : (leftP p (-n).toNat x && wideP wide x) = shiftP p n wide x := by
  unfold leftP wideP shiftP
  rw [Bool.and_comm]
  congr 1
  have e : x + (-n).toNat = ((x : Int) - n).toNat := by omega
  rw [e]
  have e1 : decide (((x : Int) - n).toNat < 128) = decide ((x : Int) - n < 128) := by congr 1; exact propext ⟨fun _ => by omega, fun _ => by omega⟩
  have e2 : decide (0 ≤ (x : Int) - n) = true := decide_eq_true (by omega)
  rw [e1, e2, Bool.true_and]
theorem shift_right (p : Nat → Bool) (wide : Bool) {n : Int} (h : ¬ n < 0) (x : Nat) (hx : x < 128) : (rightP p n.toNat x && wideP wide x) = shiftP p n wide x := by
  unfold rightP wideP shiftP
  rw [Bool.and_comm]
  congr 1
  have e1 : decide (n.toNat ≤ x) = decide (0 ≤ (x : Int) - n) := by congr 1; exact propext ⟨fun _ => by omega, fun _ => by omega⟩
  have e2 : decide ((x : Int) - n < 128) = true := decide_eq_true (by omega)
  have e : x - n.toNat = ((x : Int) - n).toNat := by omega
  rw [e, e1, e2, Bool.and_true]

theorem rowShift (p : Nat → Bool) (n : Int) (wide : Bool) (w : World) (hn : -4611686018427387904 ≤ n ∧ n ≤ 4611686018427387904) :
    Calls Try.prog 20 #[.agg (rowV p), .int .i64 n, .int .i64 (wd wide : Nat)] w fun e w' => e = .returned (.agg (rowV (shiftP p n wide))) ∧ Sat w [] [] w' := by
  refine enter Try.func20 rfl rfl rfl ?_
  refine r_seq ?_
  refine r_region ?_
  refine r_boxV rfl rfl fun b3 => ?_
  refine r_allocV (cs := #[.int .u64 0, .int .u64 0]) rfl rfl fun b6 => ?_
  refine r_nil ?_
  refine r_tn ?_
  refine r_seq ?_
  refine r_seq ?_
  refine r_region ?_
  refine r_move rfl rfl ?_
  refine r_lss rfl rfl rfl rfl ?_
  refine r_nil ?_
  refine r_tn ?_
  refine r_cond rfl (fun hc => ?_) (fun hc => ?_)
  · refine r_seq ?_
    refine r_region ?_
    refine r_loadV rfl rfl rfl rfl rfl ?_
    refine r_move rfl rfl ?_
    refine r_neg rfl rfl (w64 (by omega)) ?_
    have hneg := of_decide_eq_true hc
    refine r_convert (r := (((-n).toNat : Nat) : Int)) rfl rfl rfl rfl ((IntWalk.u64_in _ ⟨by omega, by omega⟩).trans (by omega)) ?_
    refine r_call rfl rfl rfl (by kernel_rfl) rfl (fun w hw => by exact rowLeft p (-n).toNat w (by omega)) ?_
    refine r_move rfl rfl ?_
    refine r_call rfl rfl rfl (by kernel_rfl) rfl (fun w hw => by exact rowAll wide w) ?_
    refine r_lit (sz := 2) (pv := [(0, .agg (rowV (wideP wide)))]) (cells := rowV (wideP wide)) rfl rfl rfl rfl rfl rfl (by kernel_rfl) rfl (fun b16 => ?_) (by decide)
    refine r_call rfl rfl rfl (by kernel_rfl) rfl (fun w hw => by exact rowMasked (leftP p (-n).toNat) (wideP wide) b16 w (own_rd (A := some ⟨b16, 0, none⟩) (m := 1) (c := 1) hw)) ?_
    refine r_storeV rfl rfl rfl rfl rfl rfl ?_
    refine r_nil ?_
    refine r_tn ?_
    refine r_ret ?_
    refine r_tr ?_
    exact r_done1 (.inl rfl) rfl (res_cellV rfl rfl rfl rfl) fun w hw => ⟨congrArg (fun c => Ending.returned (.agg c)) (rowV_congr fun x hx => shift_left p wide hneg x hx), hw.clear⟩
  · refine r_skip ?_
    refine r_tn ?_
    refine r_seq ?_
    refine r_region ?_
    refine r_loadV rfl rfl rfl rfl rfl ?_
    refine r_move rfl rfl ?_
    have hpos := of_decide_eq_false hc
    refine r_convert (r := ((n.toNat : Nat) : Int)) rfl rfl rfl rfl ((IntWalk.u64_in _ ⟨by omega, by omega⟩).trans (by omega)) ?_
    refine r_call rfl rfl rfl (by kernel_rfl) rfl (fun w hw => by exact rowRight p n.toNat w (by omega)) ?_
    refine r_move rfl rfl ?_
    refine r_call rfl rfl rfl (by kernel_rfl) rfl (fun w hw => by exact rowAll wide w) ?_
    refine r_lit (sz := 2) (pv := [(0, .agg (rowV (wideP wide)))]) (cells := rowV (wideP wide)) rfl rfl rfl rfl rfl rfl (by kernel_rfl) rfl (fun b24 => ?_) (by decide)
    refine r_call rfl rfl rfl (by kernel_rfl) rfl (fun w hw => by exact rowMasked (rightP p n.toNat) (wideP wide) b24 w (own_rd (A := some ⟨b24, 0, none⟩) (m := 1) (c := 1) hw)) ?_
    refine r_storeV rfl rfl rfl rfl rfl rfl ?_
    refine r_nil ?_
    refine r_tn ?_
    refine r_ret ?_
    exact r_done1 (.inl rfl) rfl (res_cellV rfl rfl rfl rfl) fun w hw => ⟨congrArg (fun c => Ending.returned (.agg c)) (rowV_congr fun x hx => shift_right p wide hpos x hx), hw.clear⟩
end Go.Proofs.Ytahanpobeekhiaa
