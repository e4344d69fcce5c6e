/-
  The stack's list; the reference's Push and Pop; the stack's Push and Pop by a plain function.
-/
import Derived.Test.YtapknkmlgmckkaaAw17
import Derived.Test.YtapknkmlgmckkaaLib17
namespace Go.Proofs.Ytapknkmlgmckkaa
open Go Go.RowKit
set_option linter.unusedVariables false
theorem own_cap {w0 w : World} {S : List Nat} {H G : List Res} {T sz m c : Nat} {A : Option Addr} {xs : List Value} [hp : HasOwn (.slice A m c) H T sz m xs G] (hw : Sat w0 S H w) : m ≤ c := by
  have h := hw.look hp.pick
  rcases h.2 with ⟨h1, h2⟩ | ⟨g, cap, cur, h1, _, _, h3, _⟩
  · omega
  · injection h1 with _ _ h4
    omega
def popM (m : List Int) : List Int × Int × Int := if m.length = 0 then ([], 0, 3) else (m.take (m.length - 1), m.getD (m.length - 1) 0, 0)
def pushM (m : List Int) (a : Int) : List Int × Int := if m.length < 16 then (m ++ [a], 0) else (m, 2)
theorem popM_nil : popM [] = ([], 0, 3) := rfl
theorem popM_app (l : List Int) (a : Int) : popM (l ++ [a]) = (l, a, 0) := by
  simp only [popM]
  rw [if_neg (by simp), List.length_append, List.length_singleton, Nat.add_sub_cancel, List.take_left]
  simp [List.getD]
theorem popM_take (m : List Int) : (popM m).1 = m.take (popM m).1.length := by
  rcases List.eq_nil_or_concat m with rfl | ⟨l, a, rfl⟩
  · rfl
  · rw [List.concat_eq_append, popM_app, List.take_left]
theorem popM_le (m : List Int) : (popM m).1.length ≤ m.length := by
  rcases List.eq_nil_or_concat m with rfl | ⟨l, a, rfl⟩
  · exact Nat.le_refl _
  · rw [List.concat_eq_append, popM_app]; simp
theorem Pop_any (m : List Int) (hm : m.length ≤ 16) (w : World) :
    Calls Try.prog 16 #[.agg (stk m)] w fun e w' => e = .returned (.tuple #[.agg (stk (popM m).1), .int .i64 (popM m).2.1, .int .i64 (popM m).2.2]) ∧ Sat w [] [] w' := by
  rcases List.eq_nil_or_concat m with rfl | ⟨l, a, rfl⟩
  · exact Pop_empty w
  · rw [List.concat_eq_append] at hm ⊢
    rw [popM_app]
    exact Pop_ok l (by simp at hm; omega) a w
theorem Push_any (m : List Int) (hm : m.length ≤ 16) (a : Int) (w : World) :
    Calls Try.prog 15 #[.agg (stk m), .int .i64 a] w fun e w' => e = .returned (.tuple #[.agg (stk (pushM m a).1), .int .i64 (pushM m a).2]) ∧ Sat w [] [] w' := by
  unfold pushM
  by_cases h : m.length < 16
  · rw [if_pos h]; exact Push_ok m h a w
  · rw [if_neg h]; exact Push_full m (by omega) a w
theorem stk_rd {w0 w : World} {S : List Nat} {H G : List Res} {b : Nat} {l : List Int} {fr : Nat × Nat} (hl : l.length ≤ 16) [hp : HasBlk b H (.cells (stk l) 26 fr) G] (hw : Sat w0 S H w) : Rd w (some ⟨b, 0, none⟩) (l.map (Value.int .i64)) := by
  refine Rd.blk (hw.look hp.pick) fun j u hj => ?_
  have hlt : j < l.length := by simpa using (List.getElem?_eq_some_iff.1 hj).1
  rw [Nat.zero_add, stk_at hl hlt, ← hj]
  simp [hlt]


theorem stackList (l : List Int) (hl : l.length ≤ 16) (w : World) :
    Calls Try.prog 43 #[.agg (stk l)] w fun e w' => ∃ i : Option Addr × Nat, e = .returned (.slice i.1 l.length i.2) ∧ True ∧ Sat w [] [.own 3 1 (.slice i.1 l.length i.2) l.length (l.map (Value.int .i64))] w' := by
  refine enter Try.func43 rfl rfl rfl ?_
  refine r_seq ?_
  refine r_region ?_
  refine r_box rfl rfl fun b1 => ?_
  refine r_assign rfl rfl ?_
  refine r_nil ?_
  refine r_tn ?_
  refine r_seq ?_
  refine r_region ?_
  refine r_fieldAddr (off := 0) (o' := 0) rfl rfl rfl rfl ?_
  refine r_fieldAddr (off := 16) (o' := 16) rfl rfl rfl rfl ?_
  refine r_load1 rfl rfl rfl (stk_depth hl) ?_
  refine r_sliceArrHi rfl rfl rfl rfl rfl rfl hl ?_
  refine r_callx rfl rfl rfl (by kernel_rfl) rfl (fun w hw => cloneI _ 16 l w (by omega) (stk_rd hl hw)) ?_
  rintro ⟨A7, c7⟩ _
  refine r_assign rfl rfl ?_
  refine r_nil ?_
  refine r_tn ?_
  refine r_ret ?_
  exact r_done1 (.inl rfl) rfl (res_tmp rfl) fun w hw => ⟨(A7, c7), rfl, trivial, hw.only⟩

theorem list17 (l : List Int) (hl : l.length ≤ 16) (w : World) :
    Calls Try.prog 28 #[.agg (stk l)] w fun e w' => ∃ i : Option Addr × Nat, e = .returned (.slice i.1 l.length i.2) ∧ True ∧ Sat w [] [.own 3 1 (.slice i.1 l.length i.2) l.length (l.map (Value.int .i64))] w' := by
  refine enter Try.func28 rfl rfl rfl ?_
  refine r_seq ?_
  refine r_region ?_
  refine r_box rfl rfl fun b1 => ?_
  refine r_assign rfl rfl ?_
  refine r_nil ?_
  refine r_tn ?_
  refine r_seq ?_
  refine r_seq ?_
  refine r_region ?_
  refine r_fieldAddr (off := 16) (o' := 16) rfl rfl rfl rfl ?_
  refine r_load1 rfl rfl rfl (stk_depth hl) ?_
  refine r_lss rfl rfl rfl (decide_eq_false (by omega)) ?_
  refine r_move rfl rfl ?_
  refine r_go rfl rfl ?_
  refine r_fieldAddr (off := 16) (o' := 16) rfl rfl rfl rfl ?_
  refine r_go rfl rfl ?_
  refine r_load1 rfl rfl rfl (stk_depth hl) ?_
  refine r_go rfl rfl ?_
  refine r_gtr rfl rfl rfl (decide_eq_false (by omega)) ?_
  refine r_pick_f rfl rfl rfl ?_
  refine r_nil ?_
  refine r_tn ?_
  refine r_cond_f rfl ?_
  refine r_skip ?_
  refine r_tn ?_
  refine r_seq ?_
  refine r_region ?_
  refine r_loadV rfl rfl rfl rfl (stk_size hl) ?_
  refine r_callx rfl rfl rfl (by kernel_rfl) rfl (fun w hw => stackList l hl w) ?_
  rintro ⟨A13, c13⟩ _
  refine r_assign rfl rfl ?_
  refine r_nil ?_
  refine r_tn ?_
  refine r_ret ?_
  exact r_done1 (.inl rfl) rfl (res_tmp rfl) fun w hw => ⟨(A13, c13), rfl, trivial, hw.only⟩

theorem refPush_ok (A : Option Addr) (c : Nat) (m : List Int) (hm : m.length < 16) (a : Int) (w : World) (hS : Sat w ([Res.own 3 1 (.slice A m.length c) m.length (m.map (Value.int .i64))].filterMap Res.foot) [.own 3 1 (.slice A m.length c) m.length (m.map (Value.int .i64))] w) :
    Calls Try.prog 26 #[.slice A m.length c, .int .i64 a] w fun e w' => ∃ i : Option Addr × Nat, e = .returned (.tuple #[.slice i.1 (m ++ [a]).length i.2, .int .i64 0]) ∧ True ∧
      Sat w ([Res.own 3 1 (.slice A m.length c) m.length (m.map (Value.int .i64))].filterMap Res.foot) [.own 3 1 (.slice i.1 (m ++ [a]).length i.2) (m ++ [a]).length ((m ++ [a]).map (Value.int .i64))] w' := by
  refine enterS Try.func26 rfl rfl rfl hS ?_
  refine r_seq ?_
  refine r_region ?_
  refine r_assign rfl rfl ?_
  refine r_assign rfl rfl ?_
  refine r_nil ?_
  refine r_tn ?_
  refine r_seq ?_
  refine r_seq ?_
  refine r_region ?_
  refine r_move rfl rfl ?_
  refine r_len rfl rfl rfl ?_
  refine r_geq rfl rfl rfl (decide_eq_false (by omega)) ?_
  refine r_nil ?_
  refine r_tn ?_
  refine r_cond_f rfl ?_
  refine r_skip ?_
  refine r_tn ?_
  refine r_seq ?_
  refine r_region ?_
  refine r_lit (sz := 1) (pv := []) (cells := #[]) rfl rfl rfl rfl rfl rfl (by kernel_rfl) rfl (fun b10 => ?_) (by decide)
  refine r_move rfl rfl ?_
  refine r_append (k := m.length) (news := m.map (Value.int .i64)) (sz := 1) (bytes := 8) rfl rfl rfl rfl rfl rfl (by decide) (fun w hw => own_rd (A := A) (m := m.length) (c := c) hw) (by simp) (fun u hu => by simp at hu; first | (obtain ⟨x, _, rfl⟩ := hu; rfl) | (subst hu; rfl)) (by omega) (by unfold maxLen; omega) fun A12 c12 => ?_
  refine r_move rfl rfl ?_
  refine r_lit (sz := 1) (pv := [(0, .int .i64 a)]) (cells := #[.int .i64 a]) rfl rfl rfl rfl rfl rfl (by kernel_rfl) rfl (fun b14 => ?_) (by decide)
  refine r_append (k := 1) (news := [.int .i64 a]) (sz := 1) (bytes := 8) rfl rfl rfl rfl rfl rfl (by decide) (fun w hw => own_rd (A := some ⟨b14, 0, none⟩) (m := 1) (c := 1) hw) (by simp) (fun u hu => by simp at hu; first | (obtain ⟨x, _, rfl⟩ := hu; rfl) | (subst hu; rfl)) (by omega) (by unfold maxLen; omega) fun A15 c15 => ?_
  refine r_assign rfl rfl ?_
  refine r_assign rfl rfl ?_
  refine r_nil ?_
  refine r_tn ?_
  refine r_ret ?_
  exact r_done2 (.inl rfl) rfl (res_tmp rfl) (res_tmp rfl) fun w hw => ⟨(A15, c15), by simp, trivial, by simpa using hw.only⟩

theorem refPush_full (A : Option Addr) (c : Nat) (m : List Int) (hm : m.length = 16) (a : Int) (w : World) (hS : Sat w ([Res.own 3 1 (.slice A m.length c) m.length (m.map (Value.int .i64))].filterMap Res.foot) [.own 3 1 (.slice A m.length c) m.length (m.map (Value.int .i64))] w) :
    Calls Try.prog 26 #[.slice A m.length c, .int .i64 a] w fun e w' => ∃ i : Option Addr × Nat, e = .returned (.tuple #[.slice i.1 m.length i.2, .int .i64 2]) ∧ True ∧
      Sat w ([Res.own 3 1 (.slice A m.length c) m.length (m.map (Value.int .i64))].filterMap Res.foot) [.own 3 1 (.slice i.1 m.length i.2) m.length (m.map (Value.int .i64))] w' := by
  refine enterS Try.func26 rfl rfl rfl hS ?_
  refine r_seq ?_
  refine r_region ?_
  refine r_assign rfl rfl ?_
  refine r_assign rfl rfl ?_
  refine r_nil ?_
  refine r_tn ?_
  refine r_seq ?_
  refine r_seq ?_
  refine r_region ?_
  refine r_move rfl rfl ?_
  refine r_len rfl rfl rfl ?_
  refine r_geq rfl rfl rfl (decide_eq_true (by omega)) ?_
  refine r_nil ?_
  refine r_tn ?_
  refine r_cond_t rfl ?_
  refine r_seq ?_
  refine r_region ?_
  refine r_move rfl rfl ?_
  refine r_assign rfl rfl ?_
  refine r_assign rfl rfl ?_
  refine r_nil ?_
  refine r_tn ?_
  refine r_ret ?_
  refine r_tr ?_
  exact r_done2 (.inl rfl) rfl (res_tmp rfl) (res_tmp rfl) fun w hw => ⟨(A, c), rfl, trivial, hw⟩

theorem refPush_any (A : Option Addr) (c : Nat) (m : List Int) (hm : m.length ≤ 16) (a : Int) (w : World) (hS : Sat w ([Res.own 3 1 (.slice A m.length c) m.length (m.map (Value.int .i64))].filterMap Res.foot) [.own 3 1 (.slice A m.length c) m.length (m.map (Value.int .i64))] w) :
    Calls Try.prog 26 #[.slice A m.length c, .int .i64 a] w fun e w' => ∃ i : Option Addr × Nat, e = .returned (.tuple #[.slice i.1 (pushM m a).1.length i.2, .int .i64 (pushM m a).2]) ∧ True ∧
      Sat w ([Res.own 3 1 (.slice A m.length c) m.length (m.map (Value.int .i64))].filterMap Res.foot) [.own 3 1 (.slice i.1 (pushM m a).1.length i.2) (pushM m a).1.length ((pushM m a).1.map (Value.int .i64))] w' := by
  unfold pushM
  by_cases h : m.length < 16
  · rw [if_pos h]; exact refPush_ok A c m h a w hS
  · rw [if_neg h]; exact refPush_full A c m (by omega) a w hS


theorem refPop_ok (A : Option Addr) (c : Nat) (m : List Int) (a : Int) (hm : m.length < 140737488355328) (hc : (m ++ [a]).length ≤ c) (w : World) (hR : Rd w A ((m ++ [a]).map (Value.int .i64))) :
    Calls Try.prog 25 #[.slice A (m ++ [a]).length c] w fun e w' => e = .returned (.tuple #[.slice A m.length c, .int .i64 a, .int .i64 0]) ∧ Sat w [] [] w' := by
  have hl : (m ++ [a]).length = m.length + 1 := by simp
  have hj : ((m ++ [a]).map (Value.int .i64))[m.length]? = some (.int .i64 a) := by simp
  obtain ⟨ba, oa, rfl, hcell⟩ := hR _ _ hj
  refine enter Try.func25 rfl rfl rfl ?_
  refine r_seq ?_
  refine r_region ?_
  refine r_assign rfl rfl ?_
  refine r_assign rfl rfl ?_
  refine r_assign rfl rfl ?_
  refine r_nil ?_
  refine r_tn ?_
  refine r_seq ?_
  refine r_seq ?_
  refine r_region ?_
  refine r_move rfl rfl ?_
  refine r_len rfl rfl rfl ?_
  refine r_eql rfl rfl rfl (decide_eq_false (by omega)) ?_
  refine r_nil ?_
  refine r_tn ?_
  refine r_cond_f rfl ?_
  refine r_skip ?_
  refine r_tn ?_
  refine r_seq ?_
  refine r_mixed (by kernel_rfl) (by kernel_rfl) ?_
  refine r_move rfl rfl ?_
  refine r_move rfl rfl ?_
  refine r_len rfl rfl rfl ?_
  refine r_sub rfl rfl rfl (show _ = (m.length : Int) by rw [hl]; exact (w64 (by omega)).trans (by omega)) ?_
  refine r_sliceHi (h' := m.length) rfl rfl rfl rfl rfl rfl (by omega) ?_
  refine r_move rfl rfl ?_
  refine r_move rfl rfl ?_
  refine r_len rfl rfl rfl ?_
  refine r_sub rfl rfl rfl (show _ = (m.length : Int) by rw [hl]; exact (w64 (by omega)).trans (by omega)) ?_
  refine r_indexSl (sz := 1) rfl rfl rfl rfl rfl (by omega) (by omega) (show _ = oa + m.length by simp) ?_
  refine r_loadC rfl rfl rfl (fun w hw => (hR.keep hw).cell hj rfl) ?_
  refine r_assign rfl rfl ?_
  refine r_assign rfl rfl ?_
  refine r_assign rfl rfl ?_
  refine r_nil ?_
  refine r_tn ?_
  refine r_ret ?_
  exact r_done3 (.inl rfl) rfl (res_tmp rfl) (res_tmp rfl) (res_tmp rfl) fun w hw => ⟨rfl, hw.clear⟩

theorem refPop_empty (A : Option Addr) (c : Nat) (w : World) :
    Calls Try.prog 25 #[.slice A 0 c] w fun e w' => e = .returned (.tuple #[.slice A 0 c, .int .i64 0, .int .i64 3]) ∧ Sat w [] [] w' := by
  refine enter Try.func25 rfl rfl rfl ?_
  refine r_seq ?_
  refine r_region ?_
  refine r_assign rfl rfl ?_
  refine r_assign rfl rfl ?_
  refine r_assign rfl rfl ?_
  refine r_nil ?_
  refine r_tn ?_
  refine r_seq ?_
  refine r_seq ?_
  refine r_region ?_
  refine r_move rfl rfl ?_
  refine r_len rfl rfl rfl ?_
  refine r_eql rfl rfl rfl (decide_eq_true rfl) ?_
  refine r_nil ?_
  refine r_tn ?_
  refine r_cond_t rfl ?_
  refine r_seq ?_
  refine r_region ?_
  refine r_move rfl rfl ?_
  refine r_assign rfl rfl ?_
  refine r_assign rfl rfl ?_
  refine r_assign rfl rfl ?_
  refine r_nil ?_
  refine r_tn ?_
  refine r_ret ?_
  refine r_tr ?_
  exact r_done3 (.inl rfl) rfl (res_tmp rfl) (res_tmp rfl) (res_tmp rfl) fun w hw => ⟨rfl, hw.clear⟩

theorem refPop_any (A : Option Addr) (c : Nat) (m : List Int) (hm : m.length ≤ 16) (hc : m.length ≤ c) (w : World) (hR : Rd w A (m.map (Value.int .i64))) :
    Calls Try.prog 25 #[.slice A m.length c] w fun e w' => e = .returned (.tuple #[.slice A (popM m).1.length c, .int .i64 (popM m).2.1, .int .i64 (popM m).2.2]) ∧ Sat w [] [] w' := by
  rcases List.eq_nil_or_concat m with rfl | ⟨l, a, rfl⟩
  · exact refPop_empty A c w
  · rw [List.concat_eq_append] at hm hc hR ⊢
    rw [popM_app]
    exact refPop_ok A c l a (by simp at hm; omega) hc w hR

end Go.Proofs.Ytapknkmlgmckkaa
