/-
  Lists are copied and compared as lists.
-/
import Derived.Test.YtapknkmlgmckkaaChecked
import Derived.Test.YtapknkmlgmckkaaMore
namespace Go.Proofs.Ytapknkmlgmckkaa
open Go Go.RowKit
set_option linter.unusedVariables false

theorem cloneI (A : Option Addr) (c : Nat) (xs : List Int) (w : World) (hm : xs.length * 8 ≤ 140737488355328) (hA : Rd w A (xs.map (Value.int .i64))) :
    Calls Try.prog 45 #[.slice A xs.length c] w fun e w' => ∃ i : Option Addr × Nat, e = .returned (.slice i.1 xs.length i.2) ∧ True ∧ Sat w [] [.own 3 1 (.slice i.1 xs.length i.2) xs.length (xs.map (Value.int .i64))] w' := by
  cases A with
  | none =>
    have hx : xs = [] := by
      cases xs with
      | nil => rfl
      | cons x l => obtain ⟨b, o, h1, _⟩ := hA 0 _ rfl; cases h1
    subst hx
    refine enter Try.func45 rfl rfl rfl ?_
    refine r_seq ?_
    refine r_region ?_
    refine r_assign rfl rfl ?_
    refine r_nil ?_
    refine r_tn ?_
    refine r_seq ?_
    refine r_seq ?_
    refine r_region ?_
    refine r_move rfl rfl ?_
    refine r_eqlNil rfl rfl rfl rfl rfl ?_
    refine r_nil ?_
    refine r_tn ?_
    refine r_cond_t rfl ?_
    refine r_seq ?_
    refine r_region ?_
    refine r_assign rfl rfl ?_
    refine r_nil ?_
    refine r_tn ?_
    refine r_ret ?_
    refine r_tr ?_
    exact Run.ownNil 3 1 (r_done1 (.inl rfl) rfl (res_tmp rfl) fun w hw => ⟨(none, 0), rfl, trivial, hw⟩)
  | some ad =>
    refine enter Try.func45 rfl rfl rfl ?_
    refine r_seq ?_
    refine r_region ?_
    refine r_assign rfl rfl ?_
    refine r_nil ?_
    refine r_tn ?_
    refine r_seq ?_
    refine r_seq ?_
    refine r_region ?_
    refine r_move rfl rfl ?_
    refine r_eqlNil rfl rfl rfl rfl rfl ?_
    refine r_nil ?_
    refine r_tn ?_
    refine r_cond_f rfl ?_
    refine r_skip ?_
    refine r_tn ?_
    refine r_seq ?_
    refine r_region ?_
    refine r_lit (sz := 1) (pv := []) (cells := #[]) rfl rfl rfl rfl rfl rfl (by kernel_rfl) rfl (fun b5 => ?_) (by decide)
    refine r_move rfl rfl ?_
    refine r_append (k := xs.length) (news := xs.map (Value.int .i64)) (sz := 1) (bytes := 8) rfl rfl rfl rfl rfl rfl (by decide) (fun w hw => hA.keep hw) (by simp) (fun u hu => by obtain ⟨x, _, rfl⟩ := List.mem_map.1 hu; rfl) (by omega) (by unfold maxLen; omega) fun A7 c7 => ?_
    refine r_assign rfl rfl ?_
    refine r_nil ?_
    refine r_tn ?_
    refine r_ret ?_
    exact r_done1 (.inl rfl) rfl (res_tmp rfl) fun w hw => ⟨(A7, c7), by simp, trivial, by simpa using hw⟩


theorem cloneB (A : Option Addr) (c : Nat) (xs : List Int) (w : World) (hm : xs.length * 1 ≤ 140737488355328) (hA : Rd w A (xs.map (Value.int .u8))) :
    Calls Try.prog 41 #[.slice A xs.length c] w fun e w' => ∃ i : Option Addr × Nat, e = .returned (.slice i.1 xs.length i.2) ∧ True ∧ Sat w [] [.own 5 1 (.slice i.1 xs.length i.2) xs.length (xs.map (Value.int .u8))] w' := by
  cases A with
  | none =>
    have hx : xs = [] := by
      cases xs with
      | nil => rfl
      | cons x l => obtain ⟨b, o, h1, _⟩ := hA 0 _ rfl; cases h1
    subst hx
    refine enter Try.func41 rfl rfl rfl ?_
    refine r_seq ?_
    refine r_region ?_
    refine r_assign rfl rfl ?_
    refine r_nil ?_
    refine r_tn ?_
    refine r_seq ?_
    refine r_seq ?_
    refine r_region ?_
    refine r_move rfl rfl ?_
    refine r_eqlNil rfl rfl rfl rfl rfl ?_
    refine r_nil ?_
    refine r_tn ?_
    refine r_cond_t rfl ?_
    refine r_seq ?_
    refine r_region ?_
    refine r_assign rfl rfl ?_
    refine r_nil ?_
    refine r_tn ?_
    refine r_ret ?_
    refine r_tr ?_
    exact Run.ownNil 5 1 (r_done1 (.inl rfl) rfl (res_tmp rfl) fun w hw => ⟨(none, 0), rfl, trivial, hw⟩)
  | some ad =>
    refine enter Try.func41 rfl rfl rfl ?_
    refine r_seq ?_
    refine r_region ?_
    refine r_assign rfl rfl ?_
    refine r_nil ?_
    refine r_tn ?_
    refine r_seq ?_
    refine r_seq ?_
    refine r_region ?_
    refine r_move rfl rfl ?_
    refine r_eqlNil rfl rfl rfl rfl rfl ?_
    refine r_nil ?_
    refine r_tn ?_
    refine r_cond_f rfl ?_
    refine r_skip ?_
    refine r_tn ?_
    refine r_seq ?_
    refine r_region ?_
    refine r_lit (sz := 1) (pv := []) (cells := #[]) rfl rfl rfl rfl rfl rfl (by kernel_rfl) rfl (fun b5 => ?_) (by decide)
    refine r_move rfl rfl ?_
    refine r_append (k := xs.length) (news := xs.map (Value.int .u8)) (sz := 1) (bytes := 1) rfl rfl rfl rfl rfl rfl (by decide) (fun w hw => hA.keep hw) (by simp) (fun u hu => by obtain ⟨x, _, rfl⟩ := List.mem_map.1 hu; rfl) (by omega) (by unfold maxLen; omega) fun A7 c7 => ?_
    refine r_assign rfl rfl ?_
    refine r_nil ?_
    refine r_tn ?_
    refine r_ret ?_
    exact r_done1 (.inl rfl) rfl (res_tmp rfl) fun w hw => ⟨(A7, c7), by simp, trivial, by simpa using hw⟩


theorem numbers (A B : Option Addr) (c d : Nat) (xs ys : List Int) (w : World) (hm : xs.length ≤ 140737488351232) (hA : Rd w A (xs.map (Value.int .i64))) (hB : Rd w B (ys.map (Value.int .i64))) :
    Calls Try.prog 27 #[.slice A xs.length c, .slice B ys.length d] w fun e w' => e = .returned (.bool (decide (xs = ys))) ∧ Sat w [] [] w' := by
  refine enter Try.func27 rfl rfl rfl ?_
  refine r_seq ?_
  refine r_region ?_
  refine r_assign rfl rfl ?_
  refine r_nil ?_
  refine r_tn ?_
  refine r_seq ?_
  refine r_seq ?_
  refine r_region ?_
  refine r_move rfl rfl ?_
  refine r_len rfl rfl rfl ?_
  refine r_move rfl rfl ?_
  refine r_len rfl rfl rfl ?_
  refine r_neq rfl rfl rfl rfl ?_
  refine r_nil ?_
  refine r_tn ?_
  refine r_cond rfl (fun hc => ?_) (fun hc => ?_)
  · refine r_seq ?_
    refine r_region ?_
    refine r_assign rfl rfl ?_
    refine r_nil ?_
    refine r_tn ?_
    refine r_ret ?_
    refine r_tr ?_
    exact r_done1 (.inl rfl) rfl (res_tmp rfl) fun w hw => ⟨by have hne : xs ≠ ys := (fun e => by subst e; simp at hc); simp [hne], hw.clear⟩
  · refine r_skip ?_
    refine r_tn ?_
    refine r_seq ?_
    refine r_seq ?_
    refine r_region ?_
    refine r_assign rfl rfl ?_
    refine r_nil ?_
    refine r_tn ?_
    refine r_block ?_
    have hlen : xs.length = ys.length := by have h := of_decide_eq_false hc; omega
    refine r_loopN (fun k => [(0, .slice A xs.length c), (1, .slice B ys.length d), (5, .int .i64 (k : Int))]) (fun k => []) (fun k => k ≤ xs.length ∧ xs.take k = ys.take k) xs.length 0 ⟨by omega, rfl⟩ ⟨rfl, rfl, rfl, trivial⟩ (fun w hw => hw.clear) fun k hk => ?_
    refine r_seq ?_
    refine r_seq ?_
    refine r_region ?_
    refine r_move rfl rfl ?_
    refine r_move rfl rfl ?_
    refine r_len rfl rfl rfl ?_
    refine r_lss rfl rfl rfl rfl ?_
    refine r_nil ?_
    refine r_tn ?_
    refine r_cond rfl (fun hc => ?_) (fun hc => ?_)
    · refine r_skip ?_
      refine r_tn ?_
      refine r_seq ?_
      refine r_block ?_
      refine r_seq ?_
      refine r_mixed (by kernel_rfl) (by kernel_rfl) ?_
      have hlt : k < xs.length := by simpa using hc
      obtain ⟨ba, oa, rfl, hca⟩ := hA k (.int .i64 xs[k]) (by simp [hlt])
      have hltb : k < ys.length := by omega
      obtain ⟨bb, ob, rfl, hcb⟩ := hB k (.int .i64 ys[k]) (by simp [hltb])
      refine r_move rfl rfl ?_
      refine r_move rfl rfl ?_
      refine r_indexSl (sz := 1) rfl rfl rfl rfl rfl (by omega) (by omega) (show _ = oa + k by simp) ?_
      refine r_loadC rfl rfl rfl (fun w hw => (hA.keep hw).cell (j := k) (u := .int .i64 xs[k]) (by simp [hlt]) rfl) ?_
      refine r_move rfl rfl ?_
      refine r_move rfl rfl ?_
      refine r_indexSl (sz := 1) rfl rfl rfl rfl rfl (by omega) (by omega) (show _ = ob + k by simp) ?_
      refine r_loadC rfl rfl rfl (fun w hw => (hB.keep hw).cell (j := k) (u := .int .i64 ys[k]) (by simp [hltb]) rfl) ?_
      refine r_neq rfl rfl rfl rfl ?_
      refine r_nil ?_
      refine r_tn ?_
      refine r_cond rfl (fun hc => ?_) (fun hc => ?_)
      · refine r_seq ?_
        refine r_region ?_
        refine r_assign rfl rfl ?_
        refine r_nil ?_
        refine r_tn ?_
        refine r_ret ?_
        refine r_br ?_
        refine r_tr ?_
        refine r_tr ?_
        refine r_br ?_
        refine r_tr ?_
        have hne : xs[k] ≠ ys[k] := by simpa using hc
        exact r_done1 (.inl rfl) rfl (res_tmp rfl) fun w hw => ⟨by have hne2 : xs ≠ ys := (fun e => by subst e; exact hne rfl); simp [hne2], hw.clear⟩
      · refine r_skip ?_
        refine r_bn ?_
        refine r_tn ?_
        refine r_region ?_
        refine r_move rfl rfl ?_
        refine r_add rfl rfl rfl (w64 (by omega)) ?_
        refine r_assign rfl rfl ?_
        refine r_nil ?_
        refine r_tn ?_
        refine r_againN (k + 1) ⟨by omega, ?_⟩ (by omega) ⟨rfl, rfl, rfl, trivial⟩ (fun w hw => hw.clear)
        have heq : xs[k] = ys[k] := by simpa using hc
        rw [List.take_succ_eq_append_getElem hlt, List.take_succ_eq_append_getElem (by omega), hk.2, heq]
    · refine r_exit ?_
      refine r_te ?_
      refine r_te ?_
      refine r_be ?_
      refine r_tn ?_
      refine r_seq ?_
      refine r_region ?_
      refine r_assign rfl rfl ?_
      refine r_nil ?_
      refine r_tn ?_
      refine r_ret ?_
      have hnk : ¬ k < xs.length := by simpa using hc
      have heq : xs = ys := by have h2 := hk.2; rwa [show k = xs.length by omega, List.take_length, hlen, List.take_length] at h2
      exact r_done1 (.inl rfl) rfl (res_tmp rfl) fun w hw => ⟨by simp [heq], hw.clear⟩

theorem same (A B : Option Addr) (c d : Nat) (xs ys : List Int) (w : World) (hm : xs.length ≤ 140737488351232) (hA : Rd w A (xs.map (Value.int .u8))) (hB : Rd w B (ys.map (Value.int .u8))) :
    Calls Try.prog 20 #[.slice A xs.length c, .slice B ys.length d] w fun e w' => e = .returned (.bool (decide (xs = ys))) ∧ Sat w [] [] w' := by
  refine enter Try.func20 rfl rfl rfl ?_
  refine r_seq ?_
  refine r_region ?_
  refine r_assign rfl rfl ?_
  refine r_nil ?_
  refine r_tn ?_
  refine r_seq ?_
  refine r_seq ?_
  refine r_region ?_
  refine r_move rfl rfl ?_
  refine r_len rfl rfl rfl ?_
  refine r_move rfl rfl ?_
  refine r_len rfl rfl rfl ?_
  refine r_neq rfl rfl rfl rfl ?_
  refine r_nil ?_
  refine r_tn ?_
  refine r_cond rfl (fun hc => ?_) (fun hc => ?_)
  · refine r_seq ?_
    refine r_region ?_
    refine r_assign rfl rfl ?_
    refine r_nil ?_
    refine r_tn ?_
    refine r_ret ?_
    refine r_tr ?_
    exact r_done1 (.inl rfl) rfl (res_tmp rfl) fun w hw => ⟨by have hne : xs ≠ ys := (fun e => by subst e; simp at hc); simp [hne], hw.clear⟩
  · refine r_skip ?_
    refine r_tn ?_
    refine r_seq ?_
    refine r_seq ?_
    refine r_region ?_
    refine r_assign rfl rfl ?_
    refine r_nil ?_
    refine r_tn ?_
    refine r_block ?_
    have hlen : xs.length = ys.length := by have h := of_decide_eq_false hc; omega
    refine r_loopN (fun k => [(0, .slice A xs.length c), (1, .slice B ys.length d), (5, .int .i64 (k : Int))]) (fun k => []) (fun k => k ≤ xs.length ∧ xs.take k = ys.take k) xs.length 0 ⟨by omega, rfl⟩ ⟨rfl, rfl, rfl, trivial⟩ (fun w hw => hw.clear) fun k hk => ?_
    refine r_seq ?_
    refine r_seq ?_
    refine r_region ?_
    refine r_move rfl rfl ?_
    refine r_move rfl rfl ?_
    refine r_len rfl rfl rfl ?_
    refine r_lss rfl rfl rfl rfl ?_
    refine r_nil ?_
    refine r_tn ?_
    refine r_cond rfl (fun hc => ?_) (fun hc => ?_)
    · refine r_skip ?_
      refine r_tn ?_
      refine r_seq ?_
      refine r_block ?_
      refine r_seq ?_
      refine r_mixed (by kernel_rfl) (by kernel_rfl) ?_
      have hlt : k < xs.length := by simpa using hc
      obtain ⟨ba, oa, rfl, hca⟩ := hA k (.int .u8 xs[k]) (by simp [hlt])
      have hltb : k < ys.length := by omega
      obtain ⟨bb, ob, rfl, hcb⟩ := hB k (.int .u8 ys[k]) (by simp [hltb])
      refine r_move rfl rfl ?_
      refine r_move rfl rfl ?_
      refine r_indexSl (sz := 1) rfl rfl rfl rfl rfl (by omega) (by omega) (show _ = oa + k by simp) ?_
      refine r_loadC rfl rfl rfl (fun w hw => (hA.keep hw).cell (j := k) (u := .int .u8 xs[k]) (by simp [hlt]) rfl) ?_
      refine r_move rfl rfl ?_
      refine r_move rfl rfl ?_
      refine r_indexSl (sz := 1) rfl rfl rfl rfl rfl (by omega) (by omega) (show _ = ob + k by simp) ?_
      refine r_loadC rfl rfl rfl (fun w hw => (hB.keep hw).cell (j := k) (u := .int .u8 ys[k]) (by simp [hltb]) rfl) ?_
      refine r_neq rfl rfl rfl rfl ?_
      refine r_nil ?_
      refine r_tn ?_
      refine r_cond rfl (fun hc => ?_) (fun hc => ?_)
      · refine r_seq ?_
        refine r_region ?_
        refine r_assign rfl rfl ?_
        refine r_nil ?_
        refine r_tn ?_
        refine r_ret ?_
        refine r_br ?_
        refine r_tr ?_
        refine r_tr ?_
        refine r_br ?_
        refine r_tr ?_
        have hne : xs[k] ≠ ys[k] := by simpa using hc
        exact r_done1 (.inl rfl) rfl (res_tmp rfl) fun w hw => ⟨by have hne2 : xs ≠ ys := (fun e => by subst e; exact hne rfl); simp [hne2], hw.clear⟩
      · refine r_skip ?_
        refine r_bn ?_
        refine r_tn ?_
        refine r_region ?_
        refine r_move rfl rfl ?_
        refine r_add rfl rfl rfl (w64 (by omega)) ?_
        refine r_assign rfl rfl ?_
        refine r_nil ?_
        refine r_tn ?_
        refine r_againN (k + 1) ⟨by omega, ?_⟩ (by omega) ⟨rfl, rfl, rfl, trivial⟩ (fun w hw => hw.clear)
        have heq : xs[k] = ys[k] := by simpa using hc
        rw [List.take_succ_eq_append_getElem hlt, List.take_succ_eq_append_getElem (by omega), hk.2, heq]
    · refine r_exit ?_
      refine r_te ?_
      refine r_te ?_
      refine r_be ?_
      refine r_tn ?_
      refine r_seq ?_
      refine r_region ?_
      refine r_assign rfl rfl ?_
      refine r_nil ?_
      refine r_tn ?_
      refine r_ret ?_
      have hnk : ¬ k < xs.length := by simpa using hc
      have heq : xs = ys := by have h2 := hk.2; rwa [show k = xs.length by omega, List.take_length, hlen, List.take_length] at h2
      exact r_done1 (.inl rfl) rfl (res_tmp rfl) fun w hw => ⟨by simp [heq], hw.clear⟩
end Go.Proofs.Ytapknkmlgmckkaa
