/-
  Rows of pixels (chapter 06): the number of pixels.
-/
import Derived.Test.YtahanpobeekhiaaRowD06
import Derived.Test.YtahanpobeekhiaaPop
namespace Go.Proofs.Ytahanpobeekhiaa
open Go Go.RowKit
set_option linter.unusedVariables false
set_option linter.unusedSimpArgs false
set_option maxHeartbeats 2000000

theorem addU {x y z : Nat} (h : x + y = z) (hz : z < 2 ^ 64) : IntKind.u64.wrap ((x : Int) + (y : Int)) = ((z : Nat) : Int) := by
  rw [← h] at hz ⊢
  exact (IntWalk.u64_in _ ⟨by omega, by omega⟩).trans (by omega)
theorem shr_lt {x : Nat} (h : x < 2 ^ 64) (k : Nat) : x >>> k < 2 ^ 64 := Nat.lt_of_le_of_lt (by rw [Nat.shiftRight_eq_div_pow]; exact Nat.div_le_self _ _) h
theorem add3 (b : Nat → Bool) : flds 4 (pop4 b) 16 >>> 4 + flds 4 (pop4 b) 16 = flds 4 (pop8a b) 16 := by
  rw [(st3 b).1]
  conv => lhs; rhs; rw [flds_upto 4 (pop4 b) 16]
  exact flds_add _ _ 16
theorem add4 (b : Nat → Bool) : flds 8 (pop8 b) 8 + flds 8 (pop8 b) 8 >>> 8 = flds 8 (pop16 b) 8 := by
  rw [st4 b]
  conv => lhs; lhs; rw [flds_upto 8 (pop8 b) 8]
  exact flds_add _ _ 8
theorem add5 (b : Nat → Bool) : flds 8 (pop16 b) 8 + flds 8 (pop16 b) 8 >>> 16 = flds 8 (pop32 b) 8 := by
  rw [st5 b]
  conv => lhs; lhs; rw [flds_upto 8 (pop16 b) 8]
  exact flds_add _ _ 8
theorem add6 (b : Nat → Bool) : flds 8 (pop32 b) 8 + flds 8 (pop32 b) 8 >>> 32 = flds 8 (pop64 b) 8 := by
  rw [st6 b]
  conv => lhs; lhs; rw [flds_upto 8 (pop32 b) 8]
  exact flds_add _ _ 8
theorem pop_top (b : Nat → Bool) : flds 8 (pop64 b) 8 < 9223372036854775808 := by
  have h := pop64_le b
  have h0 := h 0; have h1 := h 1; have h2 := h 2; have h3 := h 3; have h4 := h 4; have h5 := h 5; have h6 := h 6; have h7 := h 7
  simp only [flds]
  omega
theorem and127 {x : Nat} (h : x < 9223372036854775808) : IntKind.i64.wrap (BitVec.ofInt IntKind.i64.bits (x : Int) &&& BitVec.ofInt IntKind.i64.bits 127).toNat = ((x &&& 127 : Nat) : Int) := by
  have e : ∀ z : Nat, z < 2 ^ 64 → (BitVec.ofInt IntKind.i64.bits (z : Int)).toNat = z := fun z hz => by
    show (BitVec.ofInt 64 (z : Int)).toNat = z
    rw [BitVec.ofInt_natCast, BitVec.toNat_ofNat]
    exact Nat.mod_eq_of_lt hz
  rw [BitVec.toNat_and, e x (by omega), show (BitVec.ofInt IntKind.i64.bits 127).toNat = 127 from e 127 (by decide)]
  have h2 : x &&& 127 < 2 ^ 7 := Nat.and_lt_two_pow x (by decide)
  exact w64 (by omega)

theorem onesCount (b : Nat → Bool) (w : World) :
    Calls Try.prog 53 #[.int .u64 ((num b 64 : Nat) : Int)] w fun e w' => e = .returned (.int .i64 ((cnt b 64 : Nat) : Int)) ∧ Sat w [] [] w' := by
  refine enter Try.func53 rfl rfl rfl ?_
  refine r_seq ?_
  refine r_region ?_
  refine r_assign rfl rfl ?_
  refine r_nil ?_
  refine r_tn ?_
  refine r_seq ?_
  refine r_region ?_
  refine r_move rfl rfl ?_
  refine r_shr (r := ((_ >>> 1 : Nat) : Int)) rfl rfl rfl (by decide) (shr64 (num_lt b 64) 1) ?_
  refine r_and rfl rfl rfl (((u64_bits (shr_lt (num_lt b 64) 1) (by decide)).1).trans (congrArg (fun z : Nat => (z : Int)) ((st1 b).1))) ?_
  refine r_move rfl rfl ?_
  refine r_and rfl rfl rfl (((u64_bits (num_lt b 64) (by decide)).1).trans (congrArg (fun z : Nat => (z : Int)) ((st1 b).2))) ?_
  refine r_add rfl rfl rfl (addU (flds_add _ _ 32) (flds_lt (lt_of_le' (pop2_le b) (by decide)) 32)) ?_
  refine r_assign rfl rfl ?_
  refine r_nil ?_
  refine r_tn ?_
  refine r_seq ?_
  refine r_region ?_
  refine r_move rfl rfl ?_
  refine r_shr (r := ((_ >>> 2 : Nat) : Int)) rfl rfl rfl (by decide) (shr64 (flds_lt (lt_of_le' (pop2_le b) (by decide)) 32) 2) ?_
  refine r_and rfl rfl rfl (((u64_bits (shr_lt (flds_lt (lt_of_le' (pop2_le b) (by decide)) 32) 2) (by decide)).1).trans (congrArg (fun z : Nat => (z : Int)) ((st2 b).1))) ?_
  refine r_move rfl rfl ?_
  refine r_and rfl rfl rfl (((u64_bits (flds_lt (lt_of_le' (pop2_le b) (by decide)) 32) (by decide)).1).trans (congrArg (fun z : Nat => (z : Int)) ((st2 b).2))) ?_
  refine r_add rfl rfl rfl (addU (flds_add _ _ 16) (flds_lt (lt_of_le' (pop4_le b) (by decide)) 16)) ?_
  refine r_assign rfl rfl ?_
  refine r_nil ?_
  refine r_tn ?_
  refine r_seq ?_
  refine r_region ?_
  refine r_move rfl rfl ?_
  refine r_shr (r := ((_ >>> 4 : Nat) : Int)) rfl rfl rfl (by decide) (shr64 (flds_lt (lt_of_le' (pop4_le b) (by decide)) 16) 4) ?_
  refine r_move rfl rfl ?_
  refine r_add rfl rfl rfl (addU (add3 b) (flds_lt (lt_of_le' (pop8a_le b) (by decide)) 16)) ?_
  refine r_and rfl rfl rfl (((u64_bits (flds_lt (lt_of_le' (pop8a_le b) (by decide)) 16) (by decide)).1).trans (congrArg (fun z : Nat => (z : Int)) ((st3 b).2))) ?_
  refine r_assign rfl rfl ?_
  refine r_nil ?_
  refine r_tn ?_
  refine r_seq ?_
  refine r_region ?_
  refine r_move rfl rfl ?_
  refine r_move rfl rfl ?_
  refine r_shr (r := ((_ >>> 8 : Nat) : Int)) rfl rfl rfl (by decide) (shr64 (flds_lt (lt_of_le' (pop8_le b) (by decide)) 8) 8) ?_
  refine r_add rfl rfl rfl (addU (add4 b) (flds_lt (lt_of_le' (pop16_le b) (by decide)) 8)) ?_
  refine r_assign rfl rfl ?_
  refine r_nil ?_
  refine r_tn ?_
  refine r_seq ?_
  refine r_region ?_
  refine r_move rfl rfl ?_
  refine r_move rfl rfl ?_
  refine r_shr (r := ((_ >>> 16 : Nat) : Int)) rfl rfl rfl (by decide) (shr64 (flds_lt (lt_of_le' (pop16_le b) (by decide)) 8) 16) ?_
  refine r_add rfl rfl rfl (addU (add5 b) (flds_lt (lt_of_le' (pop32_le b) (by decide)) 8)) ?_
  refine r_assign rfl rfl ?_
  refine r_nil ?_
  refine r_tn ?_
  refine r_seq ?_
  refine r_region ?_
  refine r_move rfl rfl ?_
  refine r_move rfl rfl ?_
  refine r_shr (r := ((_ >>> 32 : Nat) : Int)) rfl rfl rfl (by decide) (shr64 (flds_lt (lt_of_le' (pop32_le b) (by decide)) 8) 32) ?_
  refine r_add rfl rfl rfl (addU (add6 b) (flds_lt (lt_of_le' (pop64_le b) (by decide)) 8)) ?_
  refine r_assign rfl rfl ?_
  refine r_nil ?_
  refine r_tn ?_
  refine r_seq ?_
  refine r_region ?_
  refine r_move rfl rfl ?_
  refine r_convert rfl rfl rfl rfl (w64 (by have h := pop_top b; omega)) ?_
  refine r_and rfl rfl rfl ((and127 (pop_top b)).trans (congrArg (fun z : Nat => (z : Int)) ((st7 b).trans (pop64_cnt b)))) ?_
  refine r_assign rfl rfl ?_
  refine r_nil ?_
  refine r_tn ?_
  refine r_ret ?_
  exact r_done1 (.inl rfl) rfl (res_tmp rfl) fun w hw => ⟨rfl, hw.clear⟩

theorem cnt_le (b : Nat → Bool) : ∀ m, cnt b m ≤ m
  | 0 => Nat.le_refl _
  | m + 1 => by have h := cnt_le b m; have h2 := Bool.toNat_le (b m); simp only [cnt]; omega
theorem cnt_halves (p : Nat → Bool) : cnt (fun i => p (63 - i)) 64 + cnt (fun i => p (127 - i)) 64 = cnt p 128 := by
  simp only [cnt, Nat.reduceSub]
  omega

theorem rowCount (p : Nat → Bool) (w : World) :
    Calls Try.prog 24 #[.agg (rowV p)] w fun e w' => e = .returned (.int .i64 ((cnt p 128 : Nat) : Int)) ∧ Sat w [] [] w' := by
  refine enter Try.func24 rfl rfl rfl ?_
  refine r_seq ?_
  refine r_region ?_
  refine r_boxV rfl rfl fun b1 => ?_
  refine r_assign rfl rfl ?_
  refine r_nil ?_
  refine r_tn ?_
  refine r_seq ?_
  refine r_mixedD { xb := [], rb := [b1], rs := [7], fs := [], acs := [5] } (by kernel_rfl) (by kernel_rfl) (fun w hw k hk => by
    simp only [List.mem_cons, List.not_mem_nil, or_false] at hk
    rcases hk with rfl <;> exact Sat.lt hw) ?_
  refine r_fieldAddr (off := 0) (o' := 0) rfl rfl rfl rfl ?_
  refine r_load1 rfl rfl rfl (by rfl) ?_
  refine r_call rfl rfl rfl (by kernel_rfl) rfl (fun w hw => by exact onesCount (fun i => p (63 - i)) w) ?_
  refine r_fieldAddr (off := 1) (o' := 1) rfl rfl rfl rfl ?_
  refine r_load1 rfl rfl rfl (by rfl) ?_
  refine r_call rfl rfl rfl (by kernel_rfl) rfl (fun w hw => by exact onesCount (fun i => p (127 - i)) w) ?_
  refine r_add rfl rfl rfl (show _ = ((cnt p 128 : Nat) : Int) from (w64 (by have h1 := cnt_le (fun i => p (63 - i)) 64; have h2 := cnt_le (fun i => p (127 - i)) 64; omega)).trans (by rw [← cnt_halves p]; omega)) ?_
  refine r_assign rfl rfl ?_
  refine r_nil ?_
  refine r_tn ?_
  refine r_ret ?_
  exact r_done1 (.inl rfl) rfl (res_tmp rfl) fun w hw => ⟨rfl, hw.clear⟩
end Go.Proofs.Ytahanpobeekhiaa
