/-
  Screens (chapter 08): the selected planes.
-/
import Derived.Test.YtgamehjakgcgnaaScr08
namespace Go.Proofs.Ytgamehjakgcgnaa
open Go Go.RowKit
set_option linter.unusedVariables false
set_option linter.unusedSimpArgs false
set_option maxHeartbeats 2000000
set_option maxRecDepth 4000
attribute [local irreducible] mix

theorem per08 (n : Int) (big : Bool) (w : World) :
    Calls Try.prog 36 #[.int .i64 n, .bool big] w fun e w' => e = .returned (.int .i64 (if big then 32 else n)) ∧ Sat w [] [] w' := by
  refine enter Try.func36 rfl rfl rfl ?_
  refine r_seq ?_
  refine r_region ?_
  refine r_assign rfl rfl ?_
  refine r_nil ?_
  refine r_tn ?_
  refine r_seq ?_
  refine r_seq ?_
  refine r_region ?_
  refine r_move rfl rfl ?_
  refine r_nil ?_
  refine r_tn ?_
  refine r_cond rfl (fun hc => ?_) (fun hc => ?_)
  · refine r_seq ?_
    refine r_region ?_
    refine r_assign rfl rfl ?_
    refine r_nil ?_
    refine r_tn ?_
    refine r_ret ?_
    refine r_tr ?_
    exact r_done1 (.inl rfl) rfl (res_tmp rfl) fun w hw => ⟨by rw [hc]; rfl, hw.clear⟩
  · refine r_skip ?_
    refine r_tn ?_
    refine r_seq ?_
    refine r_region ?_
    refine r_move rfl rfl ?_
    refine r_assign rfl rfl ?_
    refine r_nil ?_
    refine r_tn ?_
    refine r_ret ?_
    exact r_done1 (.inl rfl) rfl (res_tmp rfl) fun w hw => ⟨by rw [hc]; rfl, hw.clear⟩

theorem selected08 (s : Scr) (w : World) :
    Calls Try.prog 43 #[.agg (scrV s)] w fun e w' => ∃ i : Nat, e = .returned (.func (.func 62) #[] #[.pointer (some ⟨i, 0, none⟩)]) ∧ True ∧ Sat w [] [.blk i (.cells (scrV s) 32 (0, 0))] w' := by
  refine enter Try.func43 rfl rfl rfl ?_
  refine r_seq ?_
  refine r_region ?_
  refine r_boxV rfl rfl fun b1 => ?_
  refine r_assign rfl rfl ?_
  refine r_nil ?_
  refine r_tn ?_
  refine r_seq ?_
  refine r_region ?_
  refine r_makeFunc rfl rfl rfl ?_
  refine r_assign rfl rfl ?_
  refine r_nil ?_
  refine r_tn ?_
  refine r_ret ?_
  exact r_done1 (.inl rfl) rfl (res_tmp rfl) fun w hw => ⟨b1, rfl, trivial, hw⟩

theorem selK_mono (m : Nat) (k : Nat) : ∀ n, (selK m k).length ≤ (selK m (k + n)).length
  | 0 => Nat.le_refl _
  | n + 1 => Nat.le_trans (selK_mono m k n) (by show _ ≤ (selK m (k + n) ++ _).length; rw [List.length_append]; omega)
theorem selK_lt {m k : Nat} (h : k < 4) (hb : m.testBit k = true) : (selK m k).length < (sel m).length := by
  have h1 := selK_mono m (k + 1) (3 - k)
  rw [show k + 1 + (3 - k) = 4 by omega, selK_yes h hb, List.length_append] at h1
  exact h1
/-- the iterator over the selected planes -/
theorem sel_stops (s : Scr) (hm : s.mask < 16) (b : Nat) (w : World) (hb0 : w.heap[b]? = some (.cells (scrV s) 32 (0, 0))) :
    SeqStopsK Fence.wide 2 Try.prog 62 #[.pointer (some ⟨b, 0, none⟩)] (fun i : Fin 4 => #[.int .i64 ((i.val : Nat) : Int)]) (KpB b) (fun xs => xs = sel s.mask) (fun _ => True) (sel s.mask).length w := by
  intro l J Jx W hW hJ hJx hY h0
  have hbw : b < w.heap.size := (Array.getElem?_eq_some_iff.1 hb0).1
  have hb : W.heap[b]? = some (.cells (scrV s) 32 (0, 0)) := (hW.block b hbw).trans hb0
  have hbl : b < W.heap.size := (Array.getElem?_eq_some_iff.1 hb).1
  refine (callsIn_wide (n := 2)).2 ?_
  rw [show #[Value.func (.yield l) #[] #[]] ++ #[.pointer (some ⟨b, 0, none⟩)] = [Value.func (.yield l) #[] #[], .pointer (some ⟨b, 0, none⟩)].toArray from rfl]
  refine enter Try.func62 rfl rfl rfl ?_
  refine r_seq ?_
  refine r_region ?_
  refine r_move rfl rfl ?_
  refine r_nil ?_
  refine r_tn ?_
  refine r_block ?_
  refine r_loopW (ι := Nat) (fun k a w => k ≤ 4 ∧ Holds 20 [(0, .func (.yield l) #[] #[]), (1, .pointer (some ⟨b, 0, none⟩)), (4, .int .i64 (k : Int))] a ∧ J (selK s.mask k) w ∧ w.heap[b]? = some (.cells (scrV s) 32 (0, 0))) (fun k => 4 - k) 0 (fun a w ha2 hw2 => ⟨by omega, ha2.weak (lkAll_mem ⟨rfl, rfl, rfl, trivial⟩), hJ _ _ _ none h0 hw2.none (fun r e => by cases e), (hw2.keep b hbl (by simp)).trans hb⟩) fun k a w hi => ?_
  obtain ⟨hk, ha2, hJk, hbk⟩ := hi
  have hbkl : b < w.heap.size := (Array.getElem?_eq_some_iff.1 hbk).1
  refine (?_ : Run 20 w [] [(0, .func (.yield l) #[] #[]), (1, .pointer (some ⟨b, 0, none⟩)), (4, .int .i64 (k : Int))] [] _) a w ha2 (Sat.nil w)
  refine r_seq ?_
  refine r_region ?_
  refine r_lss rfl rfl rfl rfl ?_
  refine r_nil ?_
  refine r_tn ?_
  refine r_seq ?_
  refine r_cond rfl (fun hc => ?_) (fun hc => ?_)
  · refine r_skip ?_
    refine r_tn ?_
    refine r_seq ?_
    refine r_block ?_
    refine r_seq ?_
    refine r_region ?_
    have hk2 : k < 4 := by have h := of_decide_eq_true hc; omega
    clear hc
    refine r_move rfl rfl ?_
    refine r_assign rfl rfl ?_
    refine r_nil ?_
    refine r_tn ?_
    refine r_seq ?_
    refine r_regionY (l1 := [_, _, _, _, _, _, _, _, _]) (rest := [_, _, _]) (by kernel_rfl) ?_
    refine r_fieldAddr (off := 513) (o' := 513) rfl rfl rfl rfl ?_
    refine r_loadC (p := ⟨b, 513, none⟩) (v := .int .i64 (s.mask : Int)) rfl rfl rfl (fun w2 hw2 => by rw [cell_of_row w2 b 513 _ _ _ ((hw2.keep b hbkl (by simp)).trans hbk)]; exact scr_mask s) ?_
    refine r_move rfl rfl ?_
    refine r_shr (r := ((s.mask >>> k : Nat) : Int)) rfl rfl rfl (by omega) (shr4 _ hm _ hk2) ?_
    refine r_and (r := (((s.mask >>> k) % 2 : Nat) : Int)) rfl rfl rfl (and4 _ (shr_lt4 _ hm _ hk2)) ?_
    refine r_eql (p := s.mask.testBit k) rfl rfl rfl (bit4 _ hm _ hk2) ?_
    refine r_move rfl rfl ?_
    refine r_split 13 rfl (fun hb13 => ?_) (fun hb13 => ?_)
    · refine r_go rfl rfl ?_
      refine r_move rfl rfl ?_
      refine r_go rfl rfl ?_
      refine r_move rfl rfl ?_
      refine r_nil ?_
      refine r_yield (v := .int .i64 (k : Int)) (B := fun b2 W3 => (b2 = true ∧ J (selK s.mask k ++ [⟨k, hk2⟩]) W3 ∧ W3.heap[b]? = some (.cells (scrV s) 32 (0, 0))) ∨ (b2 = false ∧ Jx (selK s.mask k ++ [⟨k, hk2⟩]) W3)) (fun a ha3 => by have hv := ha3.val 13 _ rfl; simp [Region.wanted, yielded, hv]) rfl rfl rfl (by kernel_rfl) (fun w2 hw2 => ?_) (fun b2 W3 hy3 => ?_)
      · have hb2 : w2.heap[b]? = some (.cells (scrV s) 32 (0, 0)) := (hw2.keep b hbkl (by simp)).trans hbk
        refine YieldAt.mono (hY (selK s.mask k) ⟨k, hk2⟩ w2 (hJ _ _ _ none hJk hw2.none (fun r e => by cases e)) (selK_lt hk2 hb13)) fun e W3 h => ?_
        rcases h with ⟨rfl, h1, h2⟩ | ⟨rfl, h1⟩
        · exact ⟨true, rfl, .inl ⟨rfl, h1, Eq.trans h2 hb2⟩⟩
        · exact ⟨false, rfl, .inr ⟨rfl, h1⟩⟩
      refine r_go rfl rfl ?_
      refine r_not rfl rfl rfl ?_
      refine r_pick_t rfl rfl rfl ?_
      refine r_nil ?_
      refine r_tn ?_
      refine r_cond rfl (fun hc => ?_) (fun hc => ?_)
      · refine r_ret ?_
        refine r_br ?_
        refine r_tr ?_
        refine r_tr ?_
        refine r_br ?_
        rcases hy3 with ⟨rfl, _⟩ | ⟨rfl, hx⟩
        · cases hc
        · exact r_done0 (.inl rfl) rfl fun w2 hw2 => ⟨⟨_, rfl⟩, .inr ⟨_, trivial, hJx _ _ _ none hx hw2.none (fun r e => by cases e)⟩⟩
      · refine r_skip ?_
        refine r_bn ?_
        refine r_tn ?_
        refine r_region ?_
        refine r_add rfl rfl rfl (w64 (by omega)) ?_
        refine r_move rfl rfl ?_
        refine r_nil ?_
        refine r_tn ?_
        rcases hy3 with ⟨rfl, hJ3, hb3⟩ | ⟨rfl, _⟩
        · exact fun a w ha2 hw2 => ⟨k + 1, by omega, by omega, ha2.weak (lkAll_mem ⟨rfl, rfl, rfl, trivial⟩), by rw [selK_yes hk2 hb13]; exact hJ _ _ _ none hJ3 hw2.none (fun r e => by cases e), (hw2.keep b (Array.getElem?_eq_some_iff.1 hb3).1 (by simp)).trans hb3⟩
        · cases hc
    · refine r_pass rfl rfl rfl rfl ?_
      refine r_pass rfl rfl rfl rfl ?_
      refine r_nil ?_
      refine r_noYield (dst := 16) rfl (fun a ha3 => by have hv := ha3.val 13 _ rfl; simp [Region.wanted, yielded, hv]) (by kernel_rfl) (by kernel_rfl) ?_
      refine r_pass rfl rfl rfl rfl ?_
      refine r_pick_f rfl rfl rfl ?_
      refine r_nil ?_
      refine r_tn ?_
      refine r_cond_f rfl ?_
      refine r_skip ?_
      refine r_bn ?_
      refine r_tn ?_
      refine r_region ?_
      refine r_add rfl rfl rfl (w64 (by omega)) ?_
      refine r_move rfl rfl ?_
      refine r_nil ?_
      refine r_tn ?_
      exact fun a w ha2 hw2 => ⟨k + 1, by omega, by omega, ha2.weak (lkAll_mem ⟨rfl, rfl, rfl, trivial⟩), by rw [selK_no hk2 hb13]; exact hJ _ _ _ none hJk hw2.none (fun r e => by cases e), (hw2.keep b hbkl (by simp)).trans hbk⟩
  · refine r_exit ?_
    refine r_te ?_
    refine r_te ?_
    refine r_be ?_
    have hk3 : k = 4 := by have h := of_decide_eq_false hc; omega
    subst hk3
    exact r_done0 (.inr rfl) rfl fun w2 hw2 => ⟨⟨_, rfl⟩, .inl ⟨_, rfl, hJ _ _ _ none hJk hw2.none (fun r e => by cases e)⟩⟩
end Go.Proofs.Ytgamehjakgcgnaa
