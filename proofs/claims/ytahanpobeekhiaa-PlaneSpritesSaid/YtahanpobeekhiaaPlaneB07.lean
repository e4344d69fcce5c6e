/-
  Planes of pixels (chapter 07): Size, Pixel, each.
-/
import Derived.Test.YtahanpobeekhiaaPlane07
namespace Go.Proofs.Ytahanpobeekhiaa
open Go Go.RowKit
set_option linter.unusedVariables false
set_option linter.unusedSimpArgs false
set_option maxHeartbeats 2000000
attribute [local irreducible] mix

theorem size07 (hires : Bool) (w : World) :
    Calls Try.prog 33 #[.bool hires] w fun e w' => e = .returned (.tuple #[.int .i64 (wd hires : Nat), .int .i64 (ht hires : Nat)]) ∧ Sat w [] [] w' := by
  cases hires
  · refine enter Try.func33 rfl rfl rfl ?_
    refine r_seq ?_
    refine r_region ?_
    refine r_assign rfl rfl ?_
    refine r_assign rfl rfl ?_
    refine r_nil ?_
    refine r_tn ?_
    refine r_seq ?_
    refine r_seq ?_
    refine r_region ?_
    refine r_move rfl rfl ?_
    refine r_nil ?_
    refine r_tn ?_
    refine r_cond_f rfl ?_
    refine r_skip ?_
    refine r_tn ?_
    refine r_seq ?_
    refine r_region ?_
    refine r_assign rfl rfl ?_
    refine r_assign rfl rfl ?_
    refine r_nil ?_
    refine r_tn ?_
    refine r_ret ?_
    exact r_done2 (.inl rfl) rfl (res_tmp rfl) (res_tmp rfl) fun w hw => ⟨rfl, hw.clear⟩
  · refine enter Try.func33 rfl rfl rfl ?_
    refine r_seq ?_
    refine r_region ?_
    refine r_assign rfl rfl ?_
    refine r_assign rfl rfl ?_
    refine r_nil ?_
    refine r_tn ?_
    refine r_seq ?_
    refine r_seq ?_
    refine r_region ?_
    refine r_move rfl rfl ?_
    refine r_nil ?_
    refine r_tn ?_
    refine r_cond_t rfl ?_
    refine r_seq ?_
    refine r_region ?_
    refine r_assign rfl rfl ?_
    refine r_assign rfl rfl ?_
    refine r_nil ?_
    refine r_tn ?_
    refine r_ret ?_
    refine r_tr ?_
    exact r_done2 (.inl rfl) rfl (res_tmp rfl) (res_tmp rfl) fun w hw => ⟨rfl, hw.clear⟩

theorem in64 {y : Int} (h1 : decide (0 ≤ y) = true) (h2 : decide (y < 64) = true) : 0 ≤ y ∧ y < 64 := ⟨of_decide_eq_true h1, of_decide_eq_true h2⟩
def pixQ (P : Nat → Nat → Bool) (x y : Int) : Bool := decide (0 ≤ y) && decide (y < 64) && getB (P y.toNat) x

theorem pixel07 (P : Nat → Nat → Bool) (x y : Int) (w : World) :
    Calls Try.prog 35 #[.agg (planeV P), .int .i64 x, .int .i64 y] w fun e w' => e = .returned (.bool (pixQ P x y)) ∧ Sat w [] [] w' := by
  refine enter Try.func35 rfl rfl rfl ?_
  refine r_seq ?_
  refine r_region ?_
  refine r_boxV rfl rfl fun b3 => ?_
  refine r_assign rfl rfl ?_
  refine r_nil ?_
  refine r_tn ?_
  refine r_seq ?_
  refine r_region ?_
  refine r_move rfl rfl ?_
  refine r_geq rfl rfl rfl rfl ?_
  refine r_move rfl rfl ?_
  refine r_split 9 rfl (fun hb9 => ?_) (fun hb9 => ?_)
  · refine r_go rfl rfl ?_
    refine r_move rfl rfl ?_
    refine r_go rfl rfl ?_
    refine r_lss rfl rfl rfl rfl ?_
    refine r_pick_t rfl rfl rfl ?_
    refine r_move rfl rfl ?_
    refine r_split 13 rfl (fun hb13 => ?_) (fun hb13 => ?_)
    · refine r_go rfl rfl ?_
      refine r_move rfl rfl ?_
      refine r_go rfl rfl ?_
      refine r_fieldAddr (off := 0) (o' := 0) rfl rfl rfl rfl ?_
      refine r_go rfl rfl ?_
      have hy := in64 hb9 hb13
      refine r_indexArr (sz := 2) (o' := 2 * (y.toNat)) rfl rfl rfl rfl rfl (by omega) (by omega) (by omega) ?_
      refine r_go rfl rfl ?_
      refine r_loadN (m := 2) rfl rfl rfl rfl (by rw [planeV_size]; omega) (planeV_row _ (by omega)) ?_
      refine r_go rfl rfl ?_
      refine r_move rfl rfl ?_
      refine r_go rfl rfl ?_
      refine r_call rfl rfl rfl (by kernel_rfl) rfl (fun w hw => by exact rowGet (P y.toNat) x w) ?_
      refine r_pick_t rfl rfl rfl ?_
      refine r_assign rfl rfl ?_
      refine r_nil ?_
      refine r_tn ?_
      refine r_ret ?_
      exact r_done1 (.inl rfl) rfl (res_tmp rfl) fun w hw => ⟨by simp_all [pixQ] <;> (first | done | (intros; omega)), hw.clear⟩
    · refine r_pass rfl rfl rfl rfl ?_
      refine r_pass rfl rfl rfl rfl ?_
      refine r_pass rfl rfl rfl rfl ?_
      refine r_pass rfl rfl rfl rfl ?_
      refine r_pass rfl rfl rfl rfl ?_
      refine r_pass rfl rfl rfl rfl ?_
      refine r_pick_f rfl rfl rfl ?_
      refine r_assign rfl rfl ?_
      refine r_nil ?_
      refine r_tn ?_
      refine r_ret ?_
      exact r_done1 (.inl rfl) rfl (res_tmp rfl) fun w hw => ⟨by simp_all [pixQ] <;> (first | done | (intros; omega)), hw.clear⟩
  · refine r_pass rfl rfl rfl rfl ?_
    refine r_pass rfl rfl rfl rfl ?_
    refine r_pick_f rfl rfl rfl ?_
    refine r_move rfl rfl ?_
    refine r_pass rfl rfl rfl rfl ?_
    refine r_pass rfl rfl rfl rfl ?_
    refine r_pass rfl rfl rfl rfl ?_
    refine r_pass rfl rfl rfl rfl ?_
    refine r_pass rfl rfl rfl rfl ?_
    refine r_pass rfl rfl rfl rfl ?_
    refine r_pick_f rfl rfl rfl ?_
    refine r_assign rfl rfl ?_
    refine r_nil ?_
    refine r_tn ?_
    refine r_ret ?_
    exact r_done1 (.inl rfl) rfl (res_tmp rfl) fun w hw => ⟨by simp_all [pixQ] <;> (first | done | (intros; omega)), hw.clear⟩

theorem each07 (n : Nat) (f : Nat → Nat → Bool) (g : FuncId) (cs : List Value) (hg : callable Try.prog g = true) (hn : n ≤ 64) (w : World)
    (hcall : ∀ k, k < n → ∀ w1, Sat w [] [] w1 → Calls Try.prog g ((Value.int .i64 (k : Int)) :: cs).toArray w1 fun e w' => e = .returned (.agg (rowV (f k))) ∧ Sat w1 [] [] w') :
    Calls Try.prog 56 #[.int .i64 (n : Int), .func (.func g) #[] cs.toArray] w fun e w' => e = .returned (.agg (planeV (partQ f n))) ∧ Sat w [] [] w' := by
  refine enter Try.func56 rfl rfl rfl ?_
  refine r_seq ?_
  refine r_region ?_
  refine r_allocV (cs := planeV noneQ) (by kernel_rfl) rfl fun b4 => ?_
  refine r_nil ?_
  refine r_tn ?_
  refine r_seq ?_
  refine r_seq ?_
  refine r_region ?_
  refine r_move rfl rfl ?_
  refine r_move rfl rfl ?_
  refine r_nil ?_
  refine r_tn ?_
  refine r_block ?_
  refine r_loopN (fun k => [(1, .func (.func g) #[] cs.toArray), (4, .pointer (some ⟨b4, 0, none⟩)), (6, .int .i64 (n : Int)), (7, .int .i64 (k : Int))]) (fun k => [.blk b4 (.cells (planeV (partQ f k)) 54 (0, 0))]) (fun k => k ≤ n) n 0 (by omega) ⟨rfl, rfl, rfl, rfl, trivial⟩ (fun w hw => by rw [show partQ f 0 = noneQ from rfl]; exact hw.sub) fun k hk => ?_
  refine r_seq ?_
  refine r_region ?_
  refine r_lss rfl rfl rfl rfl ?_
  refine r_nil ?_
  refine r_tn ?_
  refine r_seq ?_
  refine r_cond rfl (fun hc => ?_) (fun hc => ?_)
  · refine r_skip ?_
    refine r_tn ?_
    refine r_seq ?_
    refine r_block ?_
    refine r_seq ?_
    refine r_region ?_
    have hk2 : k < n := by have h := of_decide_eq_true hc; omega
    refine r_move rfl rfl ?_
    refine r_assign rfl rfl ?_
    refine r_nil ?_
    refine r_tn ?_
    refine r_region ?_
    refine r_move rfl rfl ?_
    refine r_move rfl rfl ?_
    refine r_move rfl rfl ?_
    refine r_call (cs := cs) rfl rfl rfl hg rfl (fun w1 hw => by exact hcall k hk2 w1 hw.clear) ?_
    refine r_fieldAddr (off := 0) (o' := 0) rfl rfl rfl rfl ?_
    refine r_indexArr (sz := 2) (o' := 2 * (k)) rfl rfl rfl rfl rfl (by omega) (by omega) (by omega) ?_
    refine r_store (m := 2) (cs' := planeV (partQ f (k + 1))) rfl rfl rfl rfl (by rw [planeV_size]; omega) rfl ((planeV_set _ (by omega) _).trans (by rw [partQ_succ])) ?_
    refine r_nil ?_
    refine r_bn ?_
    refine r_tn ?_
    refine r_region ?_
    refine r_add rfl rfl rfl (w64 (by omega)) ?_
    refine r_move rfl rfl ?_
    refine r_nil ?_
    refine r_tn ?_
    exact r_againN (k + 1) (by omega) (by omega) ⟨rfl, rfl, rfl, rfl, trivial⟩ (fun w hw => hw.sub)
  · refine r_exit ?_
    refine r_te ?_
    refine r_te ?_
    refine r_be ?_
    refine r_tn ?_
    refine r_seq ?_
    refine r_region ?_
    refine r_loadV rfl rfl rfl rfl (planeV_size _) ?_
    refine r_storeV rfl rfl rfl (planeV_size _) (planeV_size _) (planeV_one _) ?_
    refine r_nil ?_
    refine r_tn ?_
    refine r_ret ?_
    have hk2 : k = n := by have h := of_decide_eq_false hc; omega
    subst hk2
    exact r_done1 (.inl rfl) rfl (res_cellV rfl rfl rfl (planeV_size _)) fun w hw => ⟨rfl, hw.clear⟩

theorem each07b (b : Nat) (st : Nat → Value) (n : Nat) (f : Nat → Nat → Bool) (g : FuncId) (cs : List Value) (hg : callable Try.prog g = true) (hn : n ≤ 64) (w : World)
    (hcall : ∀ k, k < n → ∀ w1, (∀ b1, b1 < w.heap.size → b1 ≠ b → w1.heap[b1]? = w.heap[b1]?) → Sat w1 [b] [.blk b (.cells #[st k] 4 (0, 0))] w1 → Calls Try.prog g ((Value.int .i64 (k : Int)) :: cs).toArray w1 fun e w' => e = .returned (.agg (rowV (f k))) ∧ Sat w1 [b] [.blk b (.cells #[st (k + 1)] 4 (0, 0))] w')
    (hS : Sat w [b] [.blk b (.cells #[st 0] 4 (0, 0))] w) :
    Calls Try.prog 56 #[.int .i64 (n : Int), .func (.func g) #[] cs.toArray] w fun e w' => e = .returned (.agg (planeV (partQ f n))) ∧ Sat w [b] [.blk b (.cells #[st n] 4 (0, 0))] w' := by
  refine enterS Try.func56 rfl rfl rfl hS ?_
  refine r_seq ?_
  refine r_region ?_
  refine r_allocV (cs := planeV noneQ) (by kernel_rfl) rfl fun b4 => ?_
  refine r_nil ?_
  refine r_tn ?_
  refine r_seq ?_
  refine r_seq ?_
  refine r_region ?_
  refine r_move rfl rfl ?_
  refine r_move rfl rfl ?_
  refine r_nil ?_
  refine r_tn ?_
  refine r_block ?_
  refine r_loopN (fun k => [(1, .func (.func g) #[] cs.toArray), (4, .pointer (some ⟨b4, 0, none⟩)), (6, .int .i64 (n : Int)), (7, .int .i64 (k : Int))]) (fun k => [.blk b (.cells #[st k] 4 (0, 0)), .blk b4 (.cells (planeV (partQ f k)) 54 (0, 0))]) (fun k => k ≤ n) n 0 (by omega) ⟨rfl, rfl, rfl, rfl, trivial⟩ (fun w hw => by rw [show partQ f 0 = noneQ from rfl]; exact hw.sub) fun k hk => ?_
  refine r_seq ?_
  refine r_region ?_
  refine r_lss rfl rfl rfl rfl ?_
  refine r_nil ?_
  refine r_tn ?_
  refine r_seq ?_
  refine r_cond rfl (fun hc => ?_) (fun hc => ?_)
  · refine r_skip ?_
    refine r_tn ?_
    refine r_seq ?_
    refine r_block ?_
    refine r_seq ?_
    refine r_region ?_
    have hk2 : k < n := by have h := of_decide_eq_true hc; omega
    refine r_move rfl rfl ?_
    refine r_assign rfl rfl ?_
    refine r_nil ?_
    refine r_tn ?_
    refine r_region ?_
    refine r_move rfl rfl ?_
    refine r_move rfl rfl ?_
    refine r_move rfl rfl ?_
    refine r_callbw0 (b := b) (cs := cs) rfl rfl rfl hg rfl (fun w1 hw hs => by exact hcall k hk2 w1 (fun b1 h1 h2 => hw.keep b1 h1 (by simpa using h2)) hs) ?_
    refine r_fieldAddr (off := 0) (o' := 0) rfl rfl rfl rfl ?_
    refine r_indexArr (sz := 2) (o' := 2 * (k)) rfl rfl rfl rfl rfl (by omega) (by omega) (by omega) ?_
    refine r_store (m := 2) (cs' := planeV (partQ f (k + 1))) rfl rfl rfl rfl (by rw [planeV_size]; omega) rfl ((planeV_set _ (by omega) _).trans (by rw [partQ_succ])) ?_
    refine r_nil ?_
    refine r_bn ?_
    refine r_tn ?_
    refine r_region ?_
    refine r_add rfl rfl rfl (w64 (by omega)) ?_
    refine r_move rfl rfl ?_
    refine r_nil ?_
    refine r_tn ?_
    exact r_againN (k + 1) (by omega) (by omega) ⟨rfl, rfl, rfl, rfl, trivial⟩ (fun w hw => hw.sub)
  · refine r_exit ?_
    refine r_te ?_
    refine r_te ?_
    refine r_be ?_
    refine r_tn ?_
    refine r_seq ?_
    refine r_region ?_
    refine r_loadV rfl rfl rfl rfl (planeV_size _) ?_
    refine r_storeV rfl rfl rfl (planeV_size _) (planeV_size _) (planeV_one _) ?_
    refine r_nil ?_
    refine r_tn ?_
    refine r_ret ?_
    have hk2 : k = n := by have h := of_decide_eq_false hc; omega
    subst hk2
    exact r_done1 (.inl rfl) rfl (res_cellV rfl rfl rfl (planeV_size _)) fun w hw => ⟨rfl, hw.sub⟩
end Go.Proofs.Ytahanpobeekhiaa
