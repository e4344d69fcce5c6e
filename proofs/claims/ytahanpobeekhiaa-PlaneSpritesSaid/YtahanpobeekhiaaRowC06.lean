/-
  Rows of pixels (chapter 06): pixel, Get, Set, right, left.
-/
import Derived.Test.YtahanpobeekhiaaNum2
namespace Go.Proofs.Ytahanpobeekhiaa
open Go Go.RowKit
set_option linter.unusedVariables false
set_option linter.unusedSimpArgs false
set_option maxHeartbeats 2000000

theorem rowPixel (x : Int) (w : World) (hx : 0 ≤ x ∧ x < 128) :
    Calls Try.prog 47 #[.int .i64 x] w fun e w' => e = .returned (.agg (rowV (fun y => y == x.toNat))) ∧ Sat w [] [] w' := by
  obtain ⟨k, rfl⟩ := Int.eq_ofNat_of_zero_le hx.1
  refine enter Try.func47 rfl rfl rfl ?_
  refine r_seq ?_
  refine r_region ?_
  refine r_allocV (cs := #[.int .u64 0, .int .u64 0]) rfl rfl fun b2 => ?_
  refine r_nil ?_
  refine r_tn ?_
  refine r_seq ?_
  refine r_seq ?_
  refine r_region ?_
  refine r_move rfl rfl ?_
  refine r_lss rfl rfl rfl rfl ?_
  refine r_nil ?_
  refine r_tn ?_
  refine r_cond rfl (fun hc => ?_) (fun hc => ?_)
  · refine r_seq ?_
    refine r_region ?_
    refine r_move rfl rfl ?_
    refine r_convert (r := (k : Int)) rfl rfl rfl rfl (IntWalk.u64_in _ ⟨by omega, by omega⟩) ?_
    have hk := of_decide_eq_true hc
    refine r_shr rfl rfl rfl (by omega) (top_shr k (by omega)) ?_
    refine r_build (cells := #[.int .u64 ((num (fun i => i == 63 - k) 64 : Nat) : Int), .int .u64 0]) rfl rfl (by kernel_rfl) ?_
    refine r_storeV rfl rfl rfl rfl rfl rfl ?_
    refine r_nil ?_
    refine r_tn ?_
    refine r_ret ?_
    refine r_tr ?_
    exact r_done1 (.inl rfl) rfl (res_cellV rfl rfl rfl rfl) fun w hw => ⟨congrArg (fun c => Ending.returned (.agg c)) (pix_hi (by omega)), hw.clear⟩
  · refine r_skip ?_
    refine r_tn ?_
    refine r_seq ?_
    refine r_region ?_
    refine r_move rfl rfl ?_
    refine r_sub rfl rfl rfl (w64 (by omega)) ?_
    have hk := of_decide_eq_false hc
    refine r_convert (r := ((k - 64 : Nat) : Int)) rfl rfl rfl rfl ((IntWalk.u64_in _ ⟨by omega, by omega⟩).trans (by omega)) ?_
    refine r_shr rfl rfl rfl (by omega) (top_shr (k - 64) (by omega)) ?_
    refine r_build (cells := #[.int .u64 0, .int .u64 ((num (fun i => i == 63 - (k - 64)) 64 : Nat) : Int)]) rfl rfl (by kernel_rfl) ?_
    refine r_storeV rfl rfl rfl rfl rfl rfl ?_
    refine r_nil ?_
    refine r_tn ?_
    refine r_ret ?_
    exact r_done1 (.inl rfl) rfl (res_cellV rfl rfl rfl rfl) fun w hw => ⟨congrArg (fun c => Ending.returned (.agg c)) ((pix_lo (by omega)).trans (rowV_congr fun x _ => by rw [show k - 64 + 64 = ((k : Nat) : Int).toNat by simp; omega])), hw.clear⟩

def getB (p : Nat → Bool) (x : Int) : Bool := decide (0 ≤ x) && decide (x < 128) && p x.toNat
def setP (p : Nat → Bool) (x : Int) (on : Bool) (y : Nat) : Bool := if (y : Int) = x then on else p y
theorem in_range {x : Int} (h : (decide (0 ≤ x) && decide (x < 128)) = true) : 0 ≤ x ∧ x < 128 := by simpa using h


theorem rowGet (p : Nat → Bool) (x : Int) (w : World) :
    Calls Try.prog 18 #[.agg (rowV p), .int .i64 x] w fun e w' => e = .returned (.bool (getB p x)) ∧ Sat w [] [] w' := by
  refine enter Try.func18 rfl rfl rfl ?_
  refine r_seq ?_
  refine r_region ?_
  refine r_boxV rfl rfl fun b2 => ?_
  refine r_assign rfl rfl ?_
  refine r_nil ?_
  refine r_tn ?_
  refine r_seq ?_
  refine r_mixedD { xb := [], rb := [b2], rs := [8], fs := [], acs := [10] } (by kernel_rfl) (by kernel_rfl) (fun w hw k hk => by
    simp only [List.mem_cons, List.not_mem_nil, or_false] at hk
    rcases hk with rfl <;> exact Sat.lt hw) ?_
  refine r_move rfl rfl ?_
  refine r_call rfl rfl rfl (by kernel_rfl) rfl (fun w hw => by exact rowIn x w) ?_
  refine r_move rfl rfl ?_
  refine r_split 7 rfl (fun hb7 => ?_) (fun hb7 => ?_)
  · refine r_go rfl rfl ?_
    refine r_loadV rfl rfl rfl rfl rfl ?_
    refine r_go rfl rfl ?_
    refine r_move rfl rfl ?_
    refine r_go rfl rfl ?_
    refine r_call rfl rfl rfl (by kernel_rfl) rfl (fun w hw => by exact rowPixel x w (in_range hb7)) ?_
    refine r_go rfl rfl ?_
    refine r_call rfl rfl rfl (by kernel_rfl) rfl (fun w hw => by exact rowAnd p (fun y => y == x.toNat) w) ?_
    refine r_go rfl rfl ?_
    refine r_call rfl rfl rfl (by kernel_rfl) rfl (fun w hw => by exact rowEmpty (fun y => p y && (y == x.toNat)) w) ?_
    refine r_go rfl rfl ?_
    refine r_not rfl rfl rfl ?_
    refine r_pick_t rfl rfl rfl ?_
    refine r_assign rfl rfl ?_
    refine r_nil ?_
    refine r_tn ?_
    refine r_ret ?_
    exact r_done1 (.inl rfl) rfl (res_tmp rfl) fun w hw => ⟨by have h := in_range hb7; rw [one_empty p (by omega)]; simp [getB, h.1, h.2], hw.clear⟩
  · refine r_pass rfl rfl rfl rfl ?_
    refine r_pass rfl rfl rfl rfl ?_
    refine r_pass rfl rfl rfl rfl ?_
    refine r_pass rfl rfl rfl rfl ?_
    refine r_pass rfl rfl rfl rfl ?_
    refine r_pass rfl rfl rfl rfl ?_
    refine r_pick_f rfl rfl rfl ?_
    refine r_assign rfl rfl ?_
    refine r_nil ?_
    refine r_tn ?_
    refine r_ret ?_
    exact r_done1 (.inl rfl) rfl (res_tmp rfl) fun w hw => ⟨by unfold getB; rw [hb7]; rfl, hw.clear⟩

theorem set_out {p : Nat → Bool} {x : Int} {on : Bool} (h : ¬ (0 ≤ x ∧ x < 128)) : rowV p = rowV (setP p x on) := rowV_congr fun y hy => by
  unfold setP; rw [if_neg (by omega)]
theorem set_same {p : Nat → Bool} {x : Int} {on : Bool} (h : 0 ≤ x ∧ x < 128) (he : getB p x = on) : rowV p = rowV (setP p x on) := rowV_congr fun y hy => by
  unfold setP
  split
  · next e => subst e; rw [← he]; simp [getB, h.2]
  · rfl
theorem set_flip {p : Nat → Bool} {x : Int} {on : Bool} (h : 0 ≤ x ∧ x < 128) (he : getB p x ≠ on) : rowV (fun y => p y ^^ (y == x.toNat)) = rowV (setP p x on) := rowV_congr fun y hy => by
  obtain ⟨k, rfl⟩ := Int.eq_ofNat_of_zero_le h.1
  unfold setP
  by_cases e : y = k
  · subst e
    have h2 : y < 128 := hy
    simp [getB, h2] at he
    have h3 : ((y : Nat) : Int).toNat = y := rfl
    simp [h3]
    cases hp : p y <;> cases on <;> simp_all
  · have e2 : ¬ ((y : Int) = (k : Nat)) := by omega
    rw [if_neg e2]
    have h3 : ((k : Nat) : Int).toNat = k := rfl
    show (p y ^^ (y == ((k : Nat) : Int).toNat)) = p y
    rw [h3, beq_eq_false_iff_ne.2 e, Bool.xor_false]


theorem rowSet (p : Nat → Bool) (x : Int) (on : Bool) (w : World) :
    Calls Try.prog 26 #[.agg (rowV p), .int .i64 x, .bool on] w fun e w' => e = .returned (.agg (rowV (setP p x on))) ∧ Sat w [] [] w' := by
  refine enter Try.func26 rfl rfl rfl ?_
  refine r_seq ?_
  refine r_region ?_
  refine r_boxV rfl rfl fun b3 => ?_
  refine r_allocV (cs := #[.int .u64 0, .int .u64 0]) rfl rfl fun b6 => ?_
  refine r_nil ?_
  refine r_tn ?_
  refine r_seq ?_
  refine r_seq ?_
  refine r_region ?_
  refine r_move rfl rfl ?_
  refine r_call rfl rfl rfl (by kernel_rfl) rfl (fun w hw => by exact rowIn x w) ?_
  refine r_not rfl rfl rfl ?_
  refine r_move rfl rfl ?_
  refine r_split 10 rfl (fun hb10 => ?_) (fun hb10 => ?_)
  · refine r_pass rfl rfl rfl rfl ?_
    refine r_pass rfl rfl rfl rfl ?_
    refine r_pass rfl rfl rfl rfl ?_
    refine r_pass rfl rfl rfl rfl ?_
    refine r_pass rfl rfl rfl rfl ?_
    refine r_pick_t rfl rfl rfl ?_
    refine r_nil ?_
    refine r_tn ?_
    refine r_cond_t rfl ?_
    refine r_seq ?_
    refine r_region ?_
    refine r_loadV rfl rfl rfl rfl rfl ?_
    refine r_storeV rfl rfl rfl rfl rfl rfl ?_
    refine r_nil ?_
    refine r_tn ?_
    refine r_ret ?_
    refine r_tr ?_
    exact r_done1 (.inl rfl) rfl (res_cellV rfl rfl rfl rfl) fun w hw => ⟨congrArg (fun c => Ending.returned (.agg c)) (set_out (by have h := hb10; simp at h; omega)), hw.clear⟩
  · refine r_go rfl rfl ?_
    refine r_loadV rfl rfl rfl rfl rfl ?_
    refine r_go rfl rfl ?_
    refine r_move rfl rfl ?_
    refine r_go rfl rfl ?_
    refine r_call rfl rfl rfl (by kernel_rfl) rfl (fun w hw => by exact rowGet p x w) ?_
    refine r_go rfl rfl ?_
    refine r_move rfl rfl ?_
    refine r_go rfl rfl ?_
    refine r_eql_bool (p := getB p x == on) rfl rfl rfl rfl rfl ?_
    refine r_pick_f rfl rfl rfl ?_
    refine r_nil ?_
    refine r_tn ?_
    refine r_cond rfl (fun hc => ?_) (fun hc => ?_)
    · refine r_seq ?_
      refine r_region ?_
      refine r_loadV rfl rfl rfl rfl rfl ?_
      refine r_storeV rfl rfl rfl rfl rfl rfl ?_
      refine r_nil ?_
      refine r_tn ?_
      refine r_ret ?_
      refine r_tr ?_
      exact r_done1 (.inl rfl) rfl (res_cellV rfl rfl rfl rfl) fun w hw => ⟨congrArg (fun c => Ending.returned (.agg c)) (set_same (in_range (by simpa using hb10)) (by simpa using hc)), hw.clear⟩
    · refine r_skip ?_
      refine r_tn ?_
      refine r_seq ?_
      refine r_mixedD { xb := [], rb := [b3], rs := [18], fs := [], acs := [20] } (by kernel_rfl) (by kernel_rfl) (fun w hw k hk => by
        simp only [List.mem_cons, List.not_mem_nil, or_false] at hk
        rcases hk with rfl <;> exact Sat.lt hw) ?_
      refine r_loadV rfl rfl rfl rfl rfl ?_
      refine r_move rfl rfl ?_
      refine r_call rfl rfl rfl (by kernel_rfl) rfl (fun w hw => by exact rowPixel x w (in_range (by simpa using hb10))) ?_
      refine r_call rfl rfl rfl (by kernel_rfl) rfl (fun w hw => by exact rowXor p (fun y => y == x.toNat) w) ?_
      refine r_storeV rfl rfl rfl rfl rfl rfl ?_
      refine r_nil ?_
      refine r_tn ?_
      refine r_ret ?_
      exact r_done1 (.inl rfl) rfl (res_cellV rfl rfl rfl rfl) fun w hw => ⟨congrArg (fun c => Ending.returned (.agg c)) (set_flip (in_range (by simpa using hb10)) (by simpa using hc)), hw.clear⟩

theorem rowRight (p : Nat → Bool) (n : Nat) (w : World) (hn : n < 9223372036854775808) :
    Calls Try.prog 51 #[.agg (rowV p), .int .u64 (n : Int)] w fun e w' => e = .returned (.agg (rowV (rightP p n))) ∧ Sat w [] [] w' := by
  refine enter Try.func51 rfl rfl rfl ?_
  refine r_seq ?_
  refine r_region ?_
  refine r_boxV rfl rfl fun b2 => ?_
  refine r_allocV (cs := #[.int .u64 0, .int .u64 0]) rfl rfl fun b4 => ?_
  refine r_nil ?_
  refine r_tn ?_
  refine r_seq ?_
  refine r_region ?_
  refine r_fieldAddr (off := 0) (o' := 0) rfl rfl rfl rfl ?_
  refine r_load1 rfl rfl rfl (by rfl) ?_
  refine r_move rfl rfl ?_
  refine r_shr rfl rfl rfl (by omega) (shrN _ n) ?_
  refine r_fieldAddr (off := 1) (o' := 1) rfl rfl rfl rfl ?_
  refine r_load1 rfl rfl rfl (by rfl) ?_
  refine r_move rfl rfl ?_
  refine r_shr rfl rfl rfl (by omega) (shrN _ n) ?_
  refine r_fieldAddr (off := 0) (o' := 0) rfl rfl rfl rfl ?_
  refine r_load1 rfl rfl rfl (by rfl) ?_
  refine r_move rfl rfl ?_
  refine r_sub rfl rfl rfl (sN_eq hn) ?_
  refine r_shl rfl rfl rfl (by omega) (shlN _ (sN n)) ?_
  refine r_or rfl rfl rfl ((((u64_bits (num_lt _ 64) (num_lt _ 64)).2.1).trans (congrArg (fun z : Nat => (z : Int)) (num_or _ _ 64)))) ?_
  refine r_fieldAddr (off := 0) (o' := 0) rfl rfl rfl rfl ?_
  refine r_load1 rfl rfl rfl (by rfl) ?_
  refine r_move rfl rfl ?_
  refine r_sub rfl rfl rfl (tN_eq hn) ?_
  refine r_shr rfl rfl rfl (by omega) (shrN _ (tN n)) ?_
  refine r_or rfl rfl rfl ((((u64_bits (num_lt _ 64) (num_lt _ 64)).2.1).trans (congrArg (fun z : Nat => (z : Int)) (num_or _ _ 64)))) ?_
  refine r_build (cells := #[.int .u64 ((num (fun i => decide (i + n < 64) && (fun i => p (63 - i)) (i + n)) 64 : Nat) : Int), .int .u64 ((num (fun i => (decide (i + n < 64) && (fun i => p (127 - i)) (i + n)) || (decide (sN n ≤ i) && (fun i => p (63 - i)) (i - sN n)) || (decide (i + tN n < 64) && (fun i => p (63 - i)) (i + tN n))) 64 : Nat) : Int)]) rfl rfl (by kernel_rfl) ?_
  refine r_storeV rfl rfl rfl rfl rfl rfl ?_
  refine r_nil ?_
  refine r_tn ?_
  refine r_ret ?_
  exact r_done1 (.inl rfl) rfl (res_cellV rfl rfl rfl rfl) fun w hw => ⟨congrArg (fun c => Ending.returned (.agg c)) (by unfold rowV; rw [right_hi p n, right_lo p hn]), hw.clear⟩

theorem rowLeft (p : Nat → Bool) (n : Nat) (w : World) (hn : n < 9223372036854775808) :
    Calls Try.prog 49 #[.agg (rowV p), .int .u64 (n : Int)] w fun e w' => e = .returned (.agg (rowV (leftP p n))) ∧ Sat w [] [] w' := by
  refine enter Try.func49 rfl rfl rfl ?_
  refine r_seq ?_
  refine r_region ?_
  refine r_boxV rfl rfl fun b2 => ?_
  refine r_allocV (cs := #[.int .u64 0, .int .u64 0]) rfl rfl fun b4 => ?_
  refine r_nil ?_
  refine r_tn ?_
  refine r_seq ?_
  refine r_region ?_
  refine r_fieldAddr (off := 0) (o' := 0) rfl rfl rfl rfl ?_
  refine r_load1 rfl rfl rfl (by rfl) ?_
  refine r_move rfl rfl ?_
  refine r_shl rfl rfl rfl (by omega) (shlN _ n) ?_
  refine r_fieldAddr (off := 1) (o' := 1) rfl rfl rfl rfl ?_
  refine r_load1 rfl rfl rfl (by rfl) ?_
  refine r_move rfl rfl ?_
  refine r_sub rfl rfl rfl (sN_eq hn) ?_
  refine r_shr rfl rfl rfl (by omega) (shrN _ (sN n)) ?_
  refine r_or rfl rfl rfl ((((u64_bits (num_lt _ 64) (num_lt _ 64)).2.1).trans (congrArg (fun z : Nat => (z : Int)) (num_or _ _ 64)))) ?_
  refine r_fieldAddr (off := 1) (o' := 1) rfl rfl rfl rfl ?_
  refine r_load1 rfl rfl rfl (by rfl) ?_
  refine r_move rfl rfl ?_
  refine r_sub rfl rfl rfl (tN_eq hn) ?_
  refine r_shl rfl rfl rfl (by omega) (shlN _ (tN n)) ?_
  refine r_or rfl rfl rfl ((((u64_bits (num_lt _ 64) (num_lt _ 64)).2.1).trans (congrArg (fun z : Nat => (z : Int)) (num_or _ _ 64)))) ?_
  refine r_fieldAddr (off := 1) (o' := 1) rfl rfl rfl rfl ?_
  refine r_load1 rfl rfl rfl (by rfl) ?_
  refine r_move rfl rfl ?_
  refine r_shl rfl rfl rfl (by omega) (shlN _ n) ?_
  refine r_build (cells := #[.int .u64 ((num (fun i => (decide (n ≤ i) && (fun i => p (63 - i)) (i - n)) || (decide (i + sN n < 64) && (fun i => p (127 - i)) (i + sN n)) || (decide (tN n ≤ i) && (fun i => p (127 - i)) (i - tN n))) 64 : Nat) : Int), .int .u64 ((num (fun i => decide (n ≤ i) && (fun i => p (127 - i)) (i - n)) 64 : Nat) : Int)]) rfl rfl (by kernel_rfl) ?_
  refine r_storeV rfl rfl rfl rfl rfl rfl ?_
  refine r_nil ?_
  refine r_tn ?_
  refine r_ret ?_
  exact r_done1 (.inl rfl) rfl (res_cellV rfl rfl rfl rfl) fun w hw => ⟨congrArg (fun c => Ending.returned (.agg c)) (by unfold rowV; rw [left_hi p hn, left_lo p n]), hw.clear⟩
end Go.Proofs.Ytahanpobeekhiaa
