/-
  The reference for planes (chapter 07): Words; forward, right, count.
-/
import Derived.Test.YtahanpobeekhiaaRefC07
namespace Go.Proofs.Ytahanpobeekhiaa
open Go Go.RowKit
set_option linter.unusedVariables false
set_option linter.unusedSimpArgs false
set_option maxHeartbeats 2000000
attribute [local irreducible] mix

theorem mul2U {x k : Nat} (h : x < 2 ^ k) (hk : k < 64) : IntKind.u64.wrap (2 * ((x : Nat) : Int)) = ((2 * x : Nat) : Int) := by
  have h2 : (2 : Nat) ^ k ≤ 2 ^ 63 := Nat.pow_le_pow_right (by decide) (by omega)
  generalize (2 : Nat) ^ k = z at *
  exact (IntWalk.u64_in _ ⟨by omega, by omega⟩).trans (by omega)
theorem add2U {x k : Nat} (h : x < 2 ^ k) (hk : k < 64) : IntKind.u64.wrap (((2 * x : Nat) : Int) + 1) = ((2 * x + 1 : Nat) : Int) := by
  have h2 : (2 : Nat) ^ k ≤ 2 ^ 63 := Nat.pow_le_pow_right (by decide) (by omega)
  generalize (2 : Nat) ^ k = z at *
  exact (IntWalk.u64_in _ ⟨by omega, by omega⟩).trans (by omega)
theorem num_low (b : Nat → Bool) : ∀ m, num b (m + 1) = 2 * num (fun j => b (j + 1)) m + (b 0).toNat
  | 0 => by simp only [num]; cases b 0 <;> rfl
  | m + 1 => by
    have h := num_low b m
    have e : num b (m + 1 + 1) = num b (m + 1) + (if b (m + 1) then 2 ^ (m + 1) else 0) := rfl
    have e2 : num (fun j => b (j + 1)) (m + 1) = num (fun j => b (j + 1)) m + (if b (m + 1) then 2 ^ m else 0) := rfl
    rw [e, e2, h]
    cases b (m + 1)
    · simp
    · simp only [if_true, Nat.pow_succ]; omega
theorem word_step0 (b : Nat → Bool) (k : Nat) (hk : k < 64) {v : Bool} (h : b (k) = v) : some (Value.int .u64 ((2 * num (fun j => b (k - 1 - j)) k + v.toNat : Nat) : Int)) = some (.int .u64 ((num (fun j => b ((k + 1) - 1 - j)) (k + 1) : Nat) : Int)) := by
  have e : num (fun j => b ((k + 1) - 1 - j)) (k + 1) = 2 * num (fun j => b (k - 1 - j)) k + v.toNat := by
    rw [num_low]
    have e1 : num (fun j => (fun j => b ((k + 1) - 1 - j)) (j + 1)) k = num (fun j => b (k - 1 - j)) k := num_congr fun i hi => by
      show b ((k + 1) - 1 - (i + 1)) = b (k - 1 - i)
      rw [show (k + 1) - 1 - (i + 1) = k - 1 - i by omega]
    rw [e1, ← h]
    rfl
  rw [e]
theorem word_step64 (b : Nat → Bool) (k : Nat) (hk : k < 64) {v : Bool} (h : b (64 + k) = v) : some (Value.int .u64 ((2 * num (fun j => b (64 + k - 1 - j)) k + v.toNat : Nat) : Int)) = some (.int .u64 ((num (fun j => b (64 + (k + 1) - 1 - j)) (k + 1) : Nat) : Int)) := by
  have e : num (fun j => b (64 + (k + 1) - 1 - j)) (k + 1) = 2 * num (fun j => b (64 + k - 1 - j)) k + v.toNat := by
    rw [num_low]
    have e1 : num (fun j => (fun j => b (64 + (k + 1) - 1 - j)) (j + 1)) k = num (fun j => b (64 + k - 1 - j)) k := num_congr fun i hi => by
      show b (64 + (k + 1) - 1 - (i + 1)) = b (64 + k - 1 - i)
      rw [show 64 + (k + 1) - 1 - (i + 1) = 64 + k - 1 - i by omega]
    rw [e1, ← h]
    rfl
  rw [e]

theorem words07 (P : Nat → Nat → Bool) (y a ca : Nat) (w : World) (ha : Rd w (some ⟨a, 0, none⟩) (boolsN 8192 (flatP P))) (hy : y < 64) :
    Calls Try.prog 55 #[.slice (some ⟨a, 0, none⟩) 8192 ca, .int .i64 (y : Int)] w fun e w' => e = .returned (.tuple #[.int .u64 ((hiN (P y) : Nat) : Int), .int .u64 ((loN (P y) : Nat) : Int)]) ∧ Sat w [] [] w' := by
  refine enter Try.func55 rfl rfl rfl ?_
  refine r_seq ?_
  refine r_region ?_
  refine r_assign rfl rfl ?_
  refine r_assign rfl rfl ?_
  refine r_nil ?_
  refine r_tn ?_
  refine r_seq ?_
  refine r_region ?_
  refine r_assign rfl rfl ?_
  refine r_nil ?_
  refine r_tn ?_
  refine r_seq ?_
  refine r_region ?_
  refine r_assign rfl rfl ?_
  refine r_nil ?_
  refine r_tn ?_
  refine r_seq ?_
  refine r_seq ?_
  refine r_region ?_
  refine r_assign rfl rfl ?_
  refine r_nil ?_
  refine r_tn ?_
  refine r_block ?_
  refine r_loopN (fun k => [(0, .slice (some ⟨a, 0, none⟩) 8192 ca), (1, .int .i64 (y : Int)), (6, .int .u64 ((num (fun j => P y (k - 1 - j)) k : Nat) : Int)), (7, .int .u64 ((num (fun j => P y (64 + k - 1 - j)) k : Nat) : Int)), (8, .int .i64 (k : Int))]) (fun k => []) (fun k => k ≤ 64) 64 0 (by omega) ⟨rfl, rfl, rfl, rfl, rfl, trivial⟩ (fun w hw => hw) fun k hk => ?_
  refine r_seq ?_
  refine r_seq ?_
  refine r_region ?_
  refine r_move rfl rfl ?_
  refine r_lss rfl rfl rfl rfl ?_
  refine r_nil ?_
  refine r_tn ?_
  refine r_cond rfl (fun hc => ?_) (fun hc => ?_)
  · refine r_skip ?_
    refine r_tn ?_
    refine r_seq ?_
    refine r_block ?_
    refine r_seq ?_
    refine r_region ?_
    have hk2 : k < 64 := by have h := of_decide_eq_true hc; omega
    refine r_move rfl rfl ?_
    refine r_mul (r := ((2 * num (fun j => P y (k - 1 - j)) k : Nat) : Int)) rfl rfl rfl (mul2U (num_lt _ k) (by omega)) ?_
    refine r_assign rfl rfl ?_
    refine r_nil ?_
    refine r_tn ?_
    refine r_seq ?_
    refine r_region ?_
    refine r_move rfl rfl ?_
    refine r_mul (r := ((2 * num (fun j => P y (64 + k - 1 - j)) k : Nat) : Int)) rfl rfl rfl (mul2U (num_lt _ k) (by omega)) ?_
    refine r_assign rfl rfl ?_
    refine r_nil ?_
    refine r_tn ?_
    refine r_seq ?_
    refine r_seq ?_
    refine r_region ?_
    refine r_move rfl rfl ?_
    refine r_move rfl rfl ?_
    refine r_move rfl rfl ?_
    refine r_call rfl rfl rfl (by kernel_rfl) rfl (fun w hw => by exact refGet07 P (k : Int) (y : Int) a ca w (ha.keep hw) (by omega) (by omega)) ?_
    refine r_nil ?_
    refine r_tn ?_
    refine r_cond rfl (fun hc => ?_) (fun hc => ?_)
    · refine r_region ?_
      refine r_move rfl rfl ?_
      refine r_add (r := ((2 * num (fun j => P y (k - 1 - j)) k + 1 : Nat) : Int)) rfl rfl rfl (add2U (num_lt _ k) (by omega)) ?_
      refine r_assign rfl rfl ?_
      refine r_nil ?_
      refine r_tn ?_
      refine r_seq ?_
      refine r_region ?_
      have hc1 : P y k = _ := hc
      refine r_move rfl rfl ?_
      refine r_move rfl rfl ?_
      refine r_add (r := ((64 + k : Nat) : Int)) rfl rfl rfl ((w64 (by omega)).trans (by omega)) ?_
      refine r_move rfl rfl ?_
      refine r_call rfl rfl rfl (by kernel_rfl) rfl (fun w hw => by exact refGet07 P ((64 + k : Nat) : Int) (y : Int) a ca w (ha.keep hw) (by omega) (by omega)) ?_
      refine r_nil ?_
      refine r_tn ?_
      refine r_cond rfl (fun hc => ?_) (fun hc => ?_)
      · refine r_region ?_
        refine r_move rfl rfl ?_
        refine r_add (r := ((2 * num (fun j => P y (64 + k - 1 - j)) k + 1 : Nat) : Int)) rfl rfl rfl (add2U (num_lt _ k) (by omega)) ?_
        refine r_assign rfl rfl ?_
        refine r_nil ?_
        refine r_bn ?_
        refine r_tn ?_
        refine r_region ?_
        refine r_move rfl rfl ?_
        refine r_add rfl rfl rfl (w64 (by omega)) ?_
        refine r_assign rfl rfl ?_
        refine r_nil ?_
        refine r_tn ?_
        exact r_againN (k + 1) (by omega) (by omega) ⟨rfl, rfl, word_step0 (fun x => P y x) k hk2 hc1, word_step64 (fun x => P y x) k hk2 hc, rfl, trivial⟩ (fun w hw => hw)
      · refine r_skip ?_
        refine r_bn ?_
        refine r_tn ?_
        refine r_region ?_
        refine r_move rfl rfl ?_
        refine r_add rfl rfl rfl (w64 (by omega)) ?_
        refine r_assign rfl rfl ?_
        refine r_nil ?_
        refine r_tn ?_
        exact r_againN (k + 1) (by omega) (by omega) ⟨rfl, rfl, word_step0 (fun x => P y x) k hk2 hc1, word_step64 (fun x => P y x) k hk2 hc, rfl, trivial⟩ (fun w hw => hw)
    · refine r_skip ?_
      refine r_tn ?_
      refine r_seq ?_
      refine r_region ?_
      have hc1 : P y k = _ := hc
      refine r_move rfl rfl ?_
      refine r_move rfl rfl ?_
      refine r_add (r := ((64 + k : Nat) : Int)) rfl rfl rfl ((w64 (by omega)).trans (by omega)) ?_
      refine r_move rfl rfl ?_
      refine r_call rfl rfl rfl (by kernel_rfl) rfl (fun w hw => by exact refGet07 P ((64 + k : Nat) : Int) (y : Int) a ca w (ha.keep hw) (by omega) (by omega)) ?_
      refine r_nil ?_
      refine r_tn ?_
      refine r_cond rfl (fun hc => ?_) (fun hc => ?_)
      · refine r_region ?_
        refine r_move rfl rfl ?_
        refine r_add (r := ((2 * num (fun j => P y (64 + k - 1 - j)) k + 1 : Nat) : Int)) rfl rfl rfl (add2U (num_lt _ k) (by omega)) ?_
        refine r_assign rfl rfl ?_
        refine r_nil ?_
        refine r_bn ?_
        refine r_tn ?_
        refine r_region ?_
        refine r_move rfl rfl ?_
        refine r_add rfl rfl rfl (w64 (by omega)) ?_
        refine r_assign rfl rfl ?_
        refine r_nil ?_
        refine r_tn ?_
        exact r_againN (k + 1) (by omega) (by omega) ⟨rfl, rfl, word_step0 (fun x => P y x) k hk2 hc1, word_step64 (fun x => P y x) k hk2 hc, rfl, trivial⟩ (fun w hw => hw)
      · refine r_skip ?_
        refine r_bn ?_
        refine r_tn ?_
        refine r_region ?_
        refine r_move rfl rfl ?_
        refine r_add rfl rfl rfl (w64 (by omega)) ?_
        refine r_assign rfl rfl ?_
        refine r_nil ?_
        refine r_tn ?_
        exact r_againN (k + 1) (by omega) (by omega) ⟨rfl, rfl, word_step0 (fun x => P y x) k hk2 hc1, word_step64 (fun x => P y x) k hk2 hc, rfl, trivial⟩ (fun w hw => hw)
  · refine r_exit ?_
    refine r_te ?_
    refine r_te ?_
    refine r_be ?_
    refine r_tn ?_
    refine r_seq ?_
    refine r_region ?_
    refine r_move rfl rfl ?_
    refine r_move rfl rfl ?_
    refine r_assign rfl rfl ?_
    refine r_assign rfl rfl ?_
    refine r_nil ?_
    refine r_tn ?_
    refine r_ret ?_
    have hk2 : k = 64 := by have h := of_decide_eq_false hc; omega
    subst hk2
    exact r_done2 (.inl rfl) rfl (res_tmp rfl) (res_tmp rfl) fun w hw => ⟨by rw [show (fun j => P y (64 + 64 - 1 - j)) = fun j => P y (127 - j) from rfl]; rfl, hw⟩

theorem forward07 (P : Nat → Nat → Bool) (a ca : Nat) (w : World) (ha : Rd w (some ⟨a, 0, none⟩) (boolsN 8192 (flatP P))) :
    Calls Try.prog 32 #[.slice (some ⟨a, 0, none⟩) 8192 ca] w fun e w' => e = .returned (.agg (planeV P)) ∧ Sat w [] [] w' := by
  refine enter Try.func32 rfl rfl rfl ?_
  refine r_seq ?_
  refine r_region ?_
  refine r_allocV (cs := planeV noneQ) (by kernel_rfl) rfl fun b2 => ?_
  refine r_nil ?_
  refine r_tn ?_
  refine r_seq ?_
  refine r_region ?_
  refine r_allocV (cs := planeV noneQ) (by kernel_rfl) rfl fun b3 => ?_
  refine r_nil ?_
  refine r_tn ?_
  refine r_seq ?_
  refine r_seq ?_
  refine r_region ?_
  refine r_assign rfl rfl ?_
  refine r_nil ?_
  refine r_tn ?_
  refine r_block ?_
  refine r_loopN (fun k => [(0, .slice (some ⟨a, 0, none⟩) 8192 ca), (2, .pointer (some ⟨b2, 0, none⟩)), (3, .pointer (some ⟨b3, 0, none⟩)), (4, .int .i64 (k : Int))]) (fun k => [.blk b2 (.cells (planeV noneQ) 54 (0, 0)), .blk b3 (.cells (planeV (partQ P k)) 54 (0, 0))]) (fun k => k ≤ 64) 64 0 (by omega) ⟨rfl, rfl, rfl, rfl, trivial⟩ (fun w hw => by rw [show partQ P 0 = noneQ from rfl]; exact hw.sub) fun k hk => ?_
  refine r_seq ?_
  refine r_seq ?_
  refine r_region ?_
  refine r_move rfl rfl ?_
  refine r_lss rfl rfl rfl rfl ?_
  refine r_nil ?_
  refine r_tn ?_
  refine r_cond rfl (fun hc => ?_) (fun hc => ?_)
  · refine r_skip ?_
    refine r_tn ?_
    refine r_seq ?_
    refine r_block ?_
    refine r_seq ?_
    refine r_region ?_
    have hk2 : k < 64 := by have h := of_decide_eq_true hc; omega
    refine r_move rfl rfl ?_
    refine r_move rfl rfl ?_
    refine r_call rfl rfl rfl (by kernel_rfl) rfl (fun w hw => by exact words07 P k a ca w (ha.keep hw) hk2) ?_
    refine r_move rfl rfl ?_
    refine r_extract rfl rfl rfl ?_
    refine r_extract rfl rfl rfl ?_
    refine r_assign rfl rfl ?_
    refine r_assign rfl rfl ?_
    refine r_nil ?_
    refine r_tn ?_
    refine r_region ?_
    refine r_move rfl rfl ?_
    refine r_move rfl rfl ?_
    refine r_move rfl rfl ?_
    refine r_build (cells := rowV (P k)) rfl rfl (by kernel_rfl) ?_
    refine r_fieldAddr (off := 0) (o' := 0) rfl rfl rfl rfl ?_
    refine r_indexArr (sz := 2) (o' := 2 * (k)) rfl rfl rfl rfl rfl (by omega) (by omega) (by omega) ?_
    refine r_store (m := 2) (cs' := planeV (partQ P (k + 1))) rfl rfl rfl rfl (by rw [planeV_size]; omega) rfl ((planeV_set _ (by omega) _).trans (by rw [partQ_succ])) ?_
    refine r_nil ?_
    refine r_bn ?_
    refine r_tn ?_
    refine r_region ?_
    refine r_move rfl rfl ?_
    refine r_add rfl rfl rfl (w64 (by omega)) ?_
    refine r_assign rfl rfl ?_
    refine r_nil ?_
    refine r_tn ?_
    exact r_againN (k + 1) (by omega) (by omega) ⟨rfl, rfl, rfl, rfl, trivial⟩ (fun w hw => hw.sub)
  · refine r_exit ?_
    refine r_te ?_
    refine r_te ?_
    refine r_be ?_
    refine r_tn ?_
    refine r_seq ?_
    refine r_region ?_
    refine r_loadV rfl rfl rfl rfl (planeV_size _) ?_
    refine r_storeV rfl rfl rfl (planeV_size _) (planeV_size _) (planeV_one _) ?_
    refine r_nil ?_
    refine r_tn ?_
    refine r_ret ?_
    have hk2 : k = 64 := by have h := of_decide_eq_false hc; omega
    subst hk2
    exact r_done1 (.inl rfl) rfl (res_cellV rfl rfl rfl (planeV_size _)) fun w hw => ⟨congrArg (fun c => Ending.returned (.agg c)) (planeV_congr fun y hy x _ => by unfold partQ; rw [if_pos hy]), hw.clear⟩

def rightM7 (n : Nat) (x y : Int) (hires : Bool) : Bool := decide ((n : Int) ≤ 16) && decide (0 ≤ x) && decide (0 ≤ y) && decide (x < (wd hires : Nat)) && decide (y < (ht hires : Nat))

theorem right07 (A : Option Addr) (n c : Nat) (x y : Int) (hires : Bool) (w : World) :
    Calls Try.prog 30 #[.slice A n c, .int .i64 x, .int .i64 y, .bool hires] w fun e w' => e = .returned (.bool (rightM7 n x y hires)) ∧ Sat w [] [] w' := by
  refine enter Try.func30 rfl rfl rfl ?_
  refine r_seq ?_
  refine r_region ?_
  refine r_assign rfl rfl ?_
  refine r_nil ?_
  refine r_tn ?_
  refine r_seq ?_
  refine r_region ?_
  refine r_move rfl rfl ?_
  refine r_len rfl rfl rfl ?_
  refine r_leq rfl rfl rfl rfl ?_
  refine r_move rfl rfl ?_
  refine r_split 12 rfl (fun hb12 => ?_) (fun hb12 => ?_)
  · refine r_go rfl rfl ?_
    refine r_move rfl rfl ?_
    refine r_go rfl rfl ?_
    refine r_geq rfl rfl rfl rfl ?_
    refine r_pick_t rfl rfl rfl ?_
    refine r_move rfl rfl ?_
    refine r_split 16 rfl (fun hb16 => ?_) (fun hb16 => ?_)
    · refine r_go rfl rfl ?_
      refine r_move rfl rfl ?_
      refine r_go rfl rfl ?_
      refine r_geq rfl rfl rfl rfl ?_
      refine r_pick_t rfl rfl rfl ?_
      refine r_move rfl rfl ?_
      refine r_split 20 rfl (fun hb20 => ?_) (fun hb20 => ?_)
      · refine r_go rfl rfl ?_
        refine r_move rfl rfl ?_
        refine r_go rfl rfl ?_
        refine r_move rfl rfl ?_
        refine r_go rfl rfl ?_
        refine r_call rfl rfl rfl (by kernel_rfl) rfl (fun w hw => by exact width06 hires w) ?_
        refine r_go rfl rfl ?_
        refine r_lss rfl rfl rfl rfl ?_
        refine r_pick_t rfl rfl rfl ?_
        refine r_move rfl rfl ?_
        refine r_split 26 rfl (fun hb26 => ?_) (fun hb26 => ?_)
        · refine r_go rfl rfl ?_
          refine r_move rfl rfl ?_
          refine r_go rfl rfl ?_
          refine r_move rfl rfl ?_
          refine r_go rfl rfl ?_
          refine r_call rfl rfl rfl (by kernel_rfl) rfl (fun w hw => by exact refHeight07 hires w) ?_
          refine r_go rfl rfl ?_
          refine r_lss rfl rfl rfl rfl ?_
          refine r_pick_t rfl rfl rfl ?_
          refine r_assign rfl rfl ?_
          refine r_nil ?_
          refine r_tn ?_
          refine r_ret ?_
          exact r_done1 (.inl rfl) rfl (res_tmp rfl) fun w hw => ⟨by simp_all [rightM7] <;> (first | done | (intros; omega)), hw.clear⟩
        · refine r_pass rfl rfl rfl rfl ?_
          refine r_pass rfl rfl rfl rfl ?_
          refine r_pass rfl rfl rfl rfl ?_
          refine r_pass rfl rfl rfl rfl ?_
          refine r_pick_f rfl rfl rfl ?_
          refine r_assign rfl rfl ?_
          refine r_nil ?_
          refine r_tn ?_
          refine r_ret ?_
          exact r_done1 (.inl rfl) rfl (res_tmp rfl) fun w hw => ⟨by simp_all [rightM7] <;> (first | done | (intros; omega)), hw.clear⟩
      · refine r_pass rfl rfl rfl rfl ?_
        refine r_pass rfl rfl rfl rfl ?_
        refine r_pass rfl rfl rfl rfl ?_
        refine r_pass rfl rfl rfl rfl ?_
        refine r_pick_f rfl rfl rfl ?_
        refine r_move rfl rfl ?_
        refine r_pass rfl rfl rfl rfl ?_
        refine r_pass rfl rfl rfl rfl ?_
        refine r_pass rfl rfl rfl rfl ?_
        refine r_pass rfl rfl rfl rfl ?_
        refine r_pick_f rfl rfl rfl ?_
        refine r_assign rfl rfl ?_
        refine r_nil ?_
        refine r_tn ?_
        refine r_ret ?_
        exact r_done1 (.inl rfl) rfl (res_tmp rfl) fun w hw => ⟨by simp_all [rightM7] <;> (first | done | (intros; omega)), hw.clear⟩
    · refine r_pass rfl rfl rfl rfl ?_
      refine r_pass rfl rfl rfl rfl ?_
      refine r_pick_f rfl rfl rfl ?_
      refine r_move rfl rfl ?_
      refine r_pass rfl rfl rfl rfl ?_
      refine r_pass rfl rfl rfl rfl ?_
      refine r_pass rfl rfl rfl rfl ?_
      refine r_pass rfl rfl rfl rfl ?_
      refine r_pick_f rfl rfl rfl ?_
      refine r_move rfl rfl ?_
      refine r_pass rfl rfl rfl rfl ?_
      refine r_pass rfl rfl rfl rfl ?_
      refine r_pass rfl rfl rfl rfl ?_
      refine r_pass rfl rfl rfl rfl ?_
      refine r_pick_f rfl rfl rfl ?_
      refine r_assign rfl rfl ?_
      refine r_nil ?_
      refine r_tn ?_
      refine r_ret ?_
      exact r_done1 (.inl rfl) rfl (res_tmp rfl) fun w hw => ⟨by simp_all [rightM7] <;> (first | done | (intros; omega)), hw.clear⟩
  · refine r_pass rfl rfl rfl rfl ?_
    refine r_pass rfl rfl rfl rfl ?_
    refine r_pick_f rfl rfl rfl ?_
    refine r_move rfl rfl ?_
    refine r_pass rfl rfl rfl rfl ?_
    refine r_pass rfl rfl rfl rfl ?_
    refine r_pick_f rfl rfl rfl ?_
    refine r_move rfl rfl ?_
    refine r_pass rfl rfl rfl rfl ?_
    refine r_pass rfl rfl rfl rfl ?_
    refine r_pass rfl rfl rfl rfl ?_
    refine r_pass rfl rfl rfl rfl ?_
    refine r_pick_f rfl rfl rfl ?_
    refine r_move rfl rfl ?_
    refine r_pass rfl rfl rfl rfl ?_
    refine r_pass rfl rfl rfl rfl ?_
    refine r_pass rfl rfl rfl rfl ?_
    refine r_pass rfl rfl rfl rfl ?_
    refine r_pick_f rfl rfl rfl ?_
    refine r_assign rfl rfl ?_
    refine r_nil ?_
    refine r_tn ?_
    refine r_ret ?_
    exact r_done1 (.inl rfl) rfl (res_tmp rfl) fun w hw => ⟨by simp_all [rightM7] <;> (first | done | (intros; omega)), hw.clear⟩

abbrev cb (big : Bool) : Nat := if big then 16 else 8
theorem cnt07 (big : Bool) (w : World) :
    Calls Try.prog 40 #[.bool big] w fun e w' => e = .returned (.int .i64 (cb big : Nat)) ∧ Sat w [] [] w' := by
  cases big
  · refine enter Try.func40 rfl rfl rfl ?_
    refine r_seq ?_
    refine r_region ?_
    refine r_assign rfl rfl ?_
    refine r_nil ?_
    refine r_tn ?_
    refine r_seq ?_
    refine r_seq ?_
    refine r_region ?_
    refine r_move rfl rfl ?_
    refine r_nil ?_
    refine r_tn ?_
    refine r_cond_f rfl ?_
    refine r_skip ?_
    refine r_tn ?_
    refine r_seq ?_
    refine r_region ?_
    refine r_assign rfl rfl ?_
    refine r_nil ?_
    refine r_tn ?_
    refine r_ret ?_
    exact r_done1 (.inl rfl) rfl (res_tmp rfl) fun w hw => ⟨rfl, hw.clear⟩
  · refine enter Try.func40 rfl rfl rfl ?_
    refine r_seq ?_
    refine r_region ?_
    refine r_assign rfl rfl ?_
    refine r_nil ?_
    refine r_tn ?_
    refine r_seq ?_
    refine r_seq ?_
    refine r_region ?_
    refine r_move rfl rfl ?_
    refine r_nil ?_
    refine r_tn ?_
    refine r_cond_t rfl ?_
    refine r_seq ?_
    refine r_region ?_
    refine r_assign rfl rfl ?_
    refine r_nil ?_
    refine r_tn ?_
    refine r_ret ?_
    refine r_tr ?_
    exact r_done1 (.inl rfl) rfl (res_tmp rfl) fun w hw => ⟨rfl, hw.clear⟩
end Go.Proofs.Ytahanpobeekhiaa
