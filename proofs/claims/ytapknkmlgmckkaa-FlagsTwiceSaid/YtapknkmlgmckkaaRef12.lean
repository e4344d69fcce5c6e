/-
  The flags (chapter 12): the reference by the same plain functions; the examples of the documentation hold.
-/
import Derived.Test.YtapknkmlgmckkaaFlags
namespace Go.Proofs.Ytapknkmlgmckkaa
open Go Go.RowKit
set_option linter.unusedVariables false
set_option maxHeartbeats 2000000

def mixM (f b : List Int) (k : Nat) : List Int := b.take k ++ f.drop k
theorem mixM_set {f b : List Int} {k : Nat} (hb : k < b.length) (hf : k < f.length) : ((mixM f b k).map (Value.int .u8)).set k (.int .u8 b[k]) = (mixM f b (k + 1)).map (Value.int .u8) := by
  rw [← List.map_set]
  congr 1
  have hl : (b.take k).length = k := by simp; omega
  unfold mixM
  rw [List.set_append_right _ _ (by omega), hl, Nat.sub_self, List.take_succ_eq_append_getElem hb, List.drop_eq_getElem_cons hf, List.set_cons_zero]
  simp only [List.append_assoc, List.cons_append, List.nil_append]
theorem mixM_end {f b : List Int} {k : Nat} (hf : f.length = 16) (h1 : k ≤ b.length) (h2 : k ≤ 16) (h3 : b.length ≤ k ∨ 16 ≤ k) : mixM f b k = saveM f b := by
  unfold mixM saveM
  rcases h3 with h | h
  · have : k = b.length := by omega
    subst this
    rw [List.take_of_length_le (Nat.le_refl _), List.take_of_length_le (by omega)]
  · have : k = 16 := by omega
    subst this
    rw [List.length_take, Nat.min_eq_left h1]
theorem fl_rdA {w0 w : World} {S : List Nat} {H G : List Res} {b : Nat} {l : List Int} {T : TypeId} {fr : Nat × Nat} [hp : HasBlk b H (.cells (fl l) T fr) G] (hw : Sat w0 S H w) : Rd w (some ⟨b, 0, none⟩) (l.map (Value.int .u8)) := by
  have h := fl_rd (b := b) (l := l) hw l.length
  rwa [List.take_length] at h
theorem sameN (A B : Option Addr) (c d m k : Nat) (xs ys : List Int) (w : World) (h1 : xs.length = m) (h2 : ys.length = k) (hm : m ≤ 140737488351232) (hA : Rd w A (xs.map (Value.int .u8))) (hB : Rd w B (ys.map (Value.int .u8))) :
    Calls Try.prog 20 #[.slice A m c, .slice B k d] w fun e w' => e = .returned (.bool (decide (xs = ys))) ∧ Sat w [] [] w' := by
  subst h1; subst h2
  exact same A B c d xs ys w hm hA hB
theorem sameT (A B : Option Addr) (c d m k : Nat) (xs ys : List Int) (w : World) (h1 : xs.length = m) (h2 : ys.length = k) (hm : m ≤ 140737488351232) (hA : Rd w A (xs.map (Value.int .u8))) (hB : Rd w B (ys.map (Value.int .u8))) (he : xs = ys) :
    Calls Try.prog 20 #[.slice A m c, .slice B k d] w fun e w' => e = .returned (.bool true) ∧ Sat w [] [] w' := by
  have h := sameN A B c d m k xs ys w h1 h2 hm hA hB
  rwa [decide_eq_true he] at h


theorem refSave12 (f b : List Int) (hf : f.length = 16) (hb : b.length ≤ 140737488351232) (A B : Option Addr) (c d : Nat) (w : World) (hA : Rd w A (f.map (Value.int .u8))) (hB : Rd w B (b.map (Value.int .u8))) :
    Calls Try.prog 19 #[.slice A 16 c, .slice B b.length d] w fun e w' => ∃ i : Option Addr × Nat, e = .returned (.slice i.1 16 i.2) ∧ True ∧ Sat w [] [.own 5 1 (.slice i.1 16 i.2) 16 ((saveM f b).map (Value.int .u8))] w' := by
  refine enter Try.func19 rfl rfl rfl ?_
  refine r_seq ?_
  refine r_region ?_
  refine r_assign rfl rfl ?_
  refine r_nil ?_
  refine r_tn ?_
  refine r_seq ?_
  refine r_region ?_
  refine r_lit (sz := 1) (pv := []) (cells := #[]) rfl rfl rfl rfl rfl rfl (by kernel_rfl) rfl (fun b7 => ?_) (by decide)
  refine r_move rfl rfl ?_
  refine r_append (k := 16) (news := f.map (Value.int .u8)) (sz := 1) (bytes := 1) rfl rfl rfl rfl rfl rfl (by decide) (fun w hw => hA.keep hw) (by first | (simp; done) | (simp; omega)) (fun u hu => by simp at hu; first | (obtain ⟨x, _, rfl⟩ := hu; rfl) | (subst hu; rfl)) (by omega) (by unfold maxLen; omega) fun A9 c9 => ?_
  refine r_assign rfl rfl ?_
  refine r_nil ?_
  refine r_tn ?_
  refine r_seq ?_
  refine r_seq ?_
  refine r_region ?_
  refine r_assign rfl rfl ?_
  refine r_nil ?_
  refine r_tn ?_
  refine r_block ?_
  refine r_loopN (fun k => [(0, .slice A 16 c), (1, .slice B b.length d), (5, .slice A9 16 c9), (6, .int .i64 (k : Int))]) (fun k => [.own 5 1 (.slice A9 16 c9) 16 ((mixM f b k).map (Value.int .u8))]) (fun k => k ≤ b.length ∧ k ≤ 16) 16 0 (by omega) ⟨rfl, rfl, rfl, rfl, trivial⟩ (fun w hw => by simpa [mixM] using hw.only) fun k hk => ?_
  refine r_seq ?_
  refine r_seq ?_
  refine r_region ?_
  refine r_move rfl rfl ?_
  refine r_move rfl rfl ?_
  refine r_len rfl rfl rfl ?_
  refine r_lss rfl rfl rfl rfl ?_
  refine r_move rfl rfl ?_
  refine r_split 14 rfl (fun hb14 => ?_) (fun hb14 => ?_)
  · refine r_go rfl rfl ?_
    refine r_move rfl rfl ?_
    refine r_go rfl rfl ?_
    refine r_lss rfl rfl rfl rfl ?_
    refine r_pick_t rfl rfl rfl ?_
    refine r_nil ?_
    refine r_tn ?_
    refine r_cond rfl (fun hc => ?_) (fun hc => ?_)
    · refine r_skip ?_
      refine r_tn ?_
      refine r_seq ?_
      refine r_block ?_
      refine r_region ?_
      have hkb : k < b.length := by have h := of_decide_eq_true hb14; omega
      have hk16 : k < 16 := by have h := of_decide_eq_true hc; omega
      refine r_have (fun w hw => own_some (A := A9) (m := 16) (c := c9) hw (by omega)) fun hg => ?_
      obtain ⟨g, rfl⟩ := hg
      obtain ⟨bb, ob, rfl, hcb⟩ := hB k (.int .u8 b[k]) (by simp [hkb])
      refine r_move rfl rfl ?_
      refine r_move rfl rfl ?_
      refine r_move rfl rfl ?_
      refine r_move rfl rfl ?_
      refine r_indexSl (sz := 1) rfl rfl rfl rfl rfl (by omega) (by omega) (show _ = ob + k by simp) ?_
      refine r_loadC rfl rfl rfl (fun w hw => (hB.keep hw).cell (j := k) (u := .int .u8 b[k]) (by simp [hkb]) rfl) ?_
      refine r_indexSl (sz := 1) rfl rfl rfl rfl rfl (by omega) (by omega) (show _ = k by simp) ?_
      refine r_storeOwn (m := 16) (c := c9) rfl rfl rfl rfl rfl (by omega) ?_
      refine r_nil ?_
      refine r_bn ?_
      refine r_tn ?_
      refine r_region ?_
      refine r_move rfl rfl ?_
      refine r_add rfl rfl rfl (w64 (by omega)) ?_
      refine r_assign rfl rfl ?_
      refine r_nil ?_
      refine r_tn ?_
      refine r_againN (k + 1) (by omega) (by omega) ⟨rfl, rfl, rfl, rfl, trivial⟩ (fun w hw => ?_)
      rw [mixM_set hkb (by omega)] at hw
      exact hw.only
    · refine r_exit ?_
      refine r_te ?_
      refine r_te ?_
      refine r_be ?_
      refine r_tn ?_
      refine r_seq ?_
      refine r_region ?_
      refine r_move rfl rfl ?_
      refine r_assign rfl rfl ?_
      refine r_nil ?_
      refine r_tn ?_
      refine r_ret ?_
      have hend := mixM_end hf hk.1 hk.2 (.inr (by have h := of_decide_eq_false hc; omega))
      rw [hend]
      exact r_done1 (.inl rfl) rfl (res_tmp rfl) fun w hw => ⟨(A9, c9), rfl, trivial, hw⟩
  · refine r_pass rfl rfl rfl rfl ?_
    refine r_pass rfl rfl rfl rfl ?_
    refine r_pick_f rfl rfl rfl ?_
    refine r_nil ?_
    refine r_tn ?_
    refine r_cond_f rfl ?_
    refine r_exit ?_
    refine r_te ?_
    refine r_te ?_
    refine r_be ?_
    refine r_tn ?_
    refine r_seq ?_
    refine r_region ?_
    refine r_move rfl rfl ?_
    refine r_assign rfl rfl ?_
    refine r_nil ?_
    refine r_tn ?_
    refine r_ret ?_
    have hend := mixM_end hf hk.1 hk.2 (.inl (by have h := of_decide_eq_false hb14; omega))
    rw [hend]
    exact r_done1 (.inl rfl) rfl (res_tmp rfl) fun w hw => ⟨(A9, c9), rfl, trivial, hw⟩

theorem refLoad12 (f : List Int) (hf : f.length = 16) (n : Int) (hn : -9223372036854775808 ≤ n ∧ n ≤ 9223372036854775807) (A : Option Addr) (c : Nat) (w : World) (hA : Rd w A (f.map (Value.int .u8))) :
    Calls Try.prog 22 #[.slice A 16 c, .int .i64 n] w fun e w' => ∃ i : Option Addr × Nat, e = .returned (.slice i.1 (loadM f n).length i.2) ∧ True ∧ Sat w [] [.own 5 1 (.slice i.1 (loadM f n).length i.2) (loadM f n).length ((loadM f n).map (Value.int .u8))] w' := by
  have hL : (loadM f n).length = min n.toNat 16 := by simp [loadM, hf]
  refine enter Try.func22 rfl rfl rfl ?_
  refine r_seq ?_
  refine r_region ?_
  refine r_assign rfl rfl ?_
  refine r_nil ?_
  refine r_tn ?_
  refine r_seq ?_
  refine r_region ?_
  refine r_assign rfl rfl ?_
  refine r_nil ?_
  refine r_tn ?_
  refine r_seq ?_
  refine r_seq ?_
  refine r_region ?_
  refine r_assign rfl rfl ?_
  refine r_nil ?_
  refine r_tn ?_
  refine r_block ?_
  refine Run.ownNil 5 1 ?_
  refine r_loop2 (fun k A2 c2 => [(0, .slice A 16 c), (1, .int .i64 n), (5, .slice A2 k c2), (6, .int .i64 (k : Int))]) (fun k A2 c2 => [.own 5 1 (.slice A2 k c2) k ((f.take k).map (Value.int .u8))]) (fun k A2 c2 => k ≤ 16 ∧ k ≤ n.toNat) 16 0 none 0 (by omega) ⟨rfl, rfl, rfl, rfl, trivial⟩ (fun w hw => hw) fun k A2 c2 hk => ?_
  refine r_seq ?_
  refine r_seq ?_
  refine r_region ?_
  refine r_move rfl rfl ?_
  refine r_move rfl rfl ?_
  refine r_lss rfl rfl rfl rfl ?_
  refine r_move rfl rfl ?_
  refine r_split 10 rfl (fun hb10 => ?_) (fun hb10 => ?_)
  · refine r_go rfl rfl ?_
    refine r_move rfl rfl ?_
    refine r_go rfl rfl ?_
    refine r_lss rfl rfl rfl rfl ?_
    refine r_pick_t rfl rfl rfl ?_
    refine r_nil ?_
    refine r_tn ?_
    refine r_cond rfl (fun hc => ?_) (fun hc => ?_)
    · refine r_skip ?_
      refine r_tn ?_
      refine r_seq ?_
      refine r_block ?_
      refine r_region ?_
      have hkn : (k : Int) < n := by have h := of_decide_eq_true hb10; omega
      have hk16 : k < 16 := by have h := of_decide_eq_true hc; omega
      have hkf : k < f.length := by omega
      obtain ⟨ba, oa, rfl, hca⟩ := hA k (.int .u8 f[k]) (by simp [hkf])
      refine r_move rfl rfl ?_
      refine r_move rfl rfl ?_
      refine r_move rfl rfl ?_
      refine r_indexSl (sz := 1) rfl rfl rfl rfl rfl (by omega) (by omega) (show _ = oa + k by simp) ?_
      refine r_loadC rfl rfl rfl (fun w hw => (hA.keep hw).cell (j := k) (u := .int .u8 f[k]) (by simp [hkf]) rfl) ?_
      refine r_lit (sz := 1) (pv := [(0, .int .u8 f[k])]) (cells := #[.int .u8 f[k]]) rfl rfl rfl rfl rfl rfl (by kernel_rfl) rfl (fun b21 => ?_) (by decide)
      refine r_append (k := 1) (news := [.int .u8 f[k]]) (sz := 1) (bytes := 1) rfl rfl rfl rfl rfl rfl (by decide) (fun w hw => own_rd (A := some ⟨b21, 0, none⟩) (m := 1) (c := 1) hw) (by first | (simp; done) | (simp; omega)) (fun u hu => by simp at hu; first | (obtain ⟨x, _, rfl⟩ := hu; rfl) | (subst hu; rfl)) (by omega) (by unfold maxLen; omega) fun A22 c22 => ?_
      refine r_assign rfl rfl ?_
      refine r_nil ?_
      refine r_bn ?_
      refine r_tn ?_
      refine r_region ?_
      refine r_move rfl rfl ?_
      refine r_add rfl rfl rfl (w64 (by omega)) ?_
      refine r_assign rfl rfl ?_
      refine r_nil ?_
      refine r_tn ?_
      refine r_again2 (k + 1) A22 c22 (by omega) (by omega) ⟨rfl, rfl, rfl, rfl, trivial⟩ (fun w hw => ?_)
      have h := hw.only
      rw [show (f.take k).map (Value.int .u8) ++ [.int .u8 f[k]] = (f.take (k + 1)).map (Value.int .u8) by rw [List.take_succ_eq_append_getElem hkf, List.map_append]; rfl] at h
      exact h
    · refine r_exit ?_
      refine r_te ?_
      refine r_te ?_
      refine r_be ?_
      refine r_tn ?_
      refine r_seq ?_
      refine r_region ?_
      refine r_move rfl rfl ?_
      refine r_assign rfl rfl ?_
      refine r_nil ?_
      refine r_tn ?_
      refine r_ret ?_
      have hk16 : k = 16 := by have h := of_decide_eq_false hc; omega
      have hkl : (loadM f n).length = k := by omega
      have hte : f.take k = loadM f n := by unfold loadM; rw [List.take_of_length_le (by omega), List.take_of_length_le (by omega)]
      exact r_done1 (.inl rfl) rfl (res_tmp rfl) fun w hw => ⟨(A2, c2), by rw [hkl], trivial, by rw [hkl, ← hte]; exact hw⟩
  · refine r_pass rfl rfl rfl rfl ?_
    refine r_pass rfl rfl rfl rfl ?_
    refine r_pick_f rfl rfl rfl ?_
    refine r_nil ?_
    refine r_tn ?_
    refine r_cond_f rfl ?_
    refine r_exit ?_
    refine r_te ?_
    refine r_te ?_
    refine r_be ?_
    refine r_tn ?_
    refine r_seq ?_
    refine r_region ?_
    refine r_move rfl rfl ?_
    refine r_assign rfl rfl ?_
    refine r_nil ?_
    refine r_tn ?_
    refine r_ret ?_
    have hkn : k = n.toNat := by have h := of_decide_eq_false hb10; omega
    have hkl : (loadM f n).length = k := by omega
    have hte : f.take k = loadM f n := by unfold loadM; rw [hkn]
    exact r_done1 (.inl rfl) rfl (res_tmp rfl) fun w hw => ⟨(A2, c2), by rw [hkl], trivial, by rw [hkl, ← hte]; exact hw⟩

theorem awake12 (w : World) :
    Calls Try.prog 17 #[] w fun e w' => e = .returned (.bool true) ∧ Sat w [] [] w' := by
  refine enter Try.func17 rfl rfl rfl ?_
  refine r_seq ?_
  refine r_region ?_
  refine r_assign rfl rfl ?_
  refine r_nil ?_
  refine r_tn ?_
  refine r_seq ?_
  refine r_region ?_
  refine r_build (cells := fl zeros16) rfl rfl (by kernel_rfl) ?_
  refine r_lit (sz := 1) (pv := [(0, .int .u8 (1)), (1, .int .u8 (2)), (2, .int .u8 (3))]) (cells := #[.int .u8 (1), .int .u8 (2), .int .u8 (3)]) rfl rfl rfl rfl rfl rfl (by kernel_rfl) rfl (fun b3 => ?_) (by decide)
  refine r_call rfl rfl rfl (by kernel_rfl) rfl (fun w hw => by exact save12 zeros16 [1, 2, 3] rfl _ _ w (own_rd (A := some ⟨b3, 0, none⟩) (m := 3) (c := 3) hw)) ?_
  refine r_lit (sz := 1) (pv := [(0, .int .u8 (9))]) (cells := #[.int .u8 (9)]) rfl rfl rfl rfl rfl rfl (by kernel_rfl) rfl (fun b5 => ?_) (by decide)
  refine r_call rfl rfl rfl (by kernel_rfl) rfl (fun w hw => by exact save12 (saveM zeros16 [1, 2, 3]) [9] rfl _ _ w (own_rd (A := some ⟨b5, 0, none⟩) (m := 1) (c := 1) hw)) ?_
  refine r_alloc rfl rfl fun b1 => ?_
  refine r_storeV rfl rfl rfl rfl rfl rfl ?_
  refine r_nil ?_
  refine r_tn ?_
  refine r_seq ?_
  refine r_region ?_
  refine r_loadV rfl rfl rfl rfl rfl ?_
  refine r_callx rfl rfl rfl (by kernel_rfl) rfl (fun w hw => load12 (saveM (saveM zeros16 [1, 2, 3]) [9]) rfl 3 (by decide) w) ?_
  rintro ⟨A8, c8⟩ _
  refine r_lit (sz := 1) (pv := [(0, .int .u8 (9)), (1, .int .u8 (2)), (2, .int .u8 (3))]) (cells := #[.int .u8 (9), .int .u8 (2), .int .u8 (3)]) rfl rfl rfl rfl rfl rfl (by kernel_rfl) rfl (fun b9 => ?_) (by decide)
  refine r_call (v := .bool true) rfl rfl rfl (by kernel_rfl) rfl (fun w hw => by exact sameT A8 (some ⟨b9, 0, none⟩) c8 3 3 3 (loadM (saveM (saveM zeros16 [1, 2, 3]) [9]) 3) [9, 2, 3] w (by decide) rfl (by decide) (own_rd (A := A8) (m := (loadM (saveM (saveM zeros16 [1, 2, 3]) [9]) 3).length) (c := c8) hw) (own_rd (A := some ⟨b9, 0, none⟩) (m := 3) (c := 3) hw) (by decide)) ?_
  refine r_move rfl rfl ?_
  refine r_go rfl rfl ?_
  refine r_loadV rfl rfl rfl rfl rfl ?_
  refine r_go rfl rfl ?_
  refine r_callx rfl rfl rfl (by kernel_rfl) rfl (fun w hw => load12 (saveM (saveM zeros16 [1, 2, 3]) [9]) rfl (-1) (by decide) w) ?_
  rintro ⟨A13, c13⟩ _
  refine r_go rfl rfl ?_
  refine r_len rfl rfl rfl ?_
  refine r_go rfl rfl ?_
  refine r_eql rfl rfl rfl (decide_eq_true (by decide)) ?_
  refine r_pick_t rfl rfl rfl ?_
  refine r_move rfl rfl ?_
  refine r_go rfl rfl ?_
  refine r_loadV rfl rfl rfl rfl rfl ?_
  refine r_go rfl rfl ?_
  refine r_callx rfl rfl rfl (by kernel_rfl) rfl (fun w hw => load12 (saveM (saveM zeros16 [1, 2, 3]) [9]) rfl 99 (by decide) w) ?_
  rintro ⟨A19, c19⟩ _
  refine r_go rfl rfl ?_
  refine r_len rfl rfl rfl ?_
  refine r_go rfl rfl ?_
  refine r_eql rfl rfl rfl (decide_eq_true (by decide)) ?_
  refine r_pick_t rfl rfl rfl ?_
  refine r_move rfl rfl ?_
  refine r_go rfl rfl ?_
  refine r_call (v := .bool true) rfl rfl rfl (by kernel_rfl) rfl (fun w hw => by exact allowed12 2 7 w) ?_
  refine r_pick_t rfl rfl rfl ?_
  refine r_move rfl rfl ?_
  refine r_go rfl rfl ?_
  refine r_call (v := .bool false) rfl rfl rfl (by kernel_rfl) rfl (fun w hw => by exact allowed12 2 8 w) ?_
  refine r_go rfl rfl ?_
  refine r_not rfl rfl rfl ?_
  refine r_pick_t rfl rfl rfl ?_
  refine r_move rfl rfl ?_
  refine r_go rfl rfl ?_
  refine r_call (v := .bool true) rfl rfl rfl (by kernel_rfl) rfl (fun w hw => by exact allowed12 3 8 w) ?_
  refine r_pick_t rfl rfl rfl ?_
  refine r_move rfl rfl ?_
  refine r_go rfl rfl ?_
  refine r_call (v := .bool false) rfl rfl rfl (by kernel_rfl) rfl (fun w hw => by exact allowed12 1 0 w) ?_
  refine r_go rfl rfl ?_
  refine r_not rfl rfl rfl ?_
  refine r_pick_t rfl rfl rfl ?_
  refine r_assign rfl rfl ?_
  refine r_nil ?_
  refine r_tn ?_
  refine r_ret ?_
  exact r_done1 (.inl rfl) rfl (res_tmp rfl) fun w hw => ⟨rfl, hw.clear⟩
end Go.Proofs.Ytapknkmlgmckkaa
