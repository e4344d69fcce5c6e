/-
  FlagsTwice: of two lists that are saved the second lies over the first.
-/
import Derived.Test.YtapknkmlgmckkaaSave12
namespace Go.Proofs.Ytapknkmlgmckkaa
open Go Go.RowKit
set_option linter.unusedVariables false
set_option maxHeartbeats 2000000

def flLs : List LeafK := List.replicate 16 (.i .u8)
theorem flFlat : flatT Try.prog 36 flLs := ⟨by kernel_rfl, by kernel_rfl, by kernel_rfl⟩
theorem ok_ints8 : ∀ (l : List Value) (m : Nat), l.length = m → (∀ v ∈ l, ∃ n, v = .int .u8 n) → cellsOk (List.replicate m (.i .u8)) l = true
  | [], 0, _, _ => rfl
  | [], m + 1, h, _ => by simp at h
  | v :: l, 0, h, _ => by simp at h
  | v :: l, m + 1, h, hv => by
    obtain ⟨n, rfl⟩ := hv v (.head _)
    simp only [List.replicate_succ, cellsOk, leafOk, decide_true, Bool.true_and]
    exact ok_ints8 l m (by simpa using h) fun v hv' => hv v (.tail _ hv')
theorem fl_ok {l : List Int} (h : l.length = 16) : cellsOk flLs (fl l).toList = true := by
  refine ok_ints8 _ _ (by simp [fl, h]) fun v hv => ?_
  simp only [fl, List.mem_map] at hv
  obtain ⟨x, _, rfl⟩ := hv
  exact ⟨_, rfl⟩
theorem fl_self {l : List Int} (h : l.length = 16) : cellsEq (fl l).toList (fl l).toList = true := cellsEq_self (fl_ok h)


theorem FlagsTwice_manyA (A B : Option Addr) (c d : Nat) (a b : List Int) (W : World) (ha : 16 < a.length) (hb : b.length ≤ 140737488351232) (hA : Rd W A (a.map (Value.int .u8))) (hB : Rd W B (b.map (Value.int .u8))) (hcap : a.length ≤ c) :
    Calls Try.prog 7 #[.slice A a.length c, .slice B b.length d] W fun e w' => e = .returned (.bool true) ∧ Sat W [] [] w' := by
  refine enter Try.func7 rfl rfl rfl ?_
  refine r_seq ?_
  refine r_region ?_
  refine r_assign rfl rfl ?_
  refine r_nil ?_
  refine r_tn ?_
  refine r_seq ?_
  refine r_seq ?_
  refine r_region ?_
  refine r_call rfl rfl rfl (by kernel_rfl) rfl (fun w hw => by exact awake12 w) ?_
  refine r_not rfl rfl rfl ?_
  refine r_move rfl rfl ?_
  refine r_go rfl rfl ?_
  refine r_move rfl rfl ?_
  refine r_go rfl rfl ?_
  refine r_len rfl rfl rfl ?_
  refine r_go rfl rfl ?_
  refine r_gtr rfl rfl rfl (decide_eq_true (by omega)) ?_
  refine r_pick_f rfl rfl rfl ?_
  refine r_move rfl rfl ?_
  refine r_pass rfl rfl rfl rfl ?_
  refine r_pass rfl rfl rfl rfl ?_
  refine r_pass rfl rfl rfl rfl ?_
  refine r_pick_t rfl rfl rfl ?_
  refine r_nil ?_
  refine r_tn ?_
  refine r_cond_t rfl ?_
  refine r_seq ?_
  refine r_region ?_
  refine r_call rfl rfl rfl (by kernel_rfl) rfl (fun w hw => by exact awake12 w) ?_
  refine r_assign rfl rfl ?_
  refine r_nil ?_
  refine r_tn ?_
  refine r_ret ?_
  refine r_tr ?_
  exact r_done1 (.inl rfl) rfl (res_tmp rfl) fun w hw => ⟨rfl, hw.clear⟩

theorem FlagsTwice_manyB (A B : Option Addr) (c d : Nat) (a b : List Int) (W : World) (ha : a.length ≤ 16) (hb : 16 < b.length) (hA : Rd W A (a.map (Value.int .u8))) (hB : Rd W B (b.map (Value.int .u8))) (hcap : a.length ≤ c) :
    Calls Try.prog 7 #[.slice A a.length c, .slice B b.length d] W fun e w' => e = .returned (.bool true) ∧ Sat W [] [] w' := by
  refine enter Try.func7 rfl rfl rfl ?_
  refine r_seq ?_
  refine r_region ?_
  refine r_assign rfl rfl ?_
  refine r_nil ?_
  refine r_tn ?_
  refine r_seq ?_
  refine r_seq ?_
  refine r_region ?_
  refine r_call rfl rfl rfl (by kernel_rfl) rfl (fun w hw => by exact awake12 w) ?_
  refine r_not rfl rfl rfl ?_
  refine r_move rfl rfl ?_
  refine r_go rfl rfl ?_
  refine r_move rfl rfl ?_
  refine r_go rfl rfl ?_
  refine r_len rfl rfl rfl ?_
  refine r_go rfl rfl ?_
  refine r_gtr rfl rfl rfl (decide_eq_false (by omega)) ?_
  refine r_pick_f rfl rfl rfl ?_
  refine r_move rfl rfl ?_
  refine r_go rfl rfl ?_
  refine r_move rfl rfl ?_
  refine r_go rfl rfl ?_
  refine r_len rfl rfl rfl ?_
  refine r_go rfl rfl ?_
  refine r_gtr rfl rfl rfl (decide_eq_true (by omega)) ?_
  refine r_pick_f rfl rfl rfl ?_
  refine r_nil ?_
  refine r_tn ?_
  refine r_cond_t rfl ?_
  refine r_seq ?_
  refine r_region ?_
  refine r_call rfl rfl rfl (by kernel_rfl) rfl (fun w hw => by exact awake12 w) ?_
  refine r_assign rfl rfl ?_
  refine r_nil ?_
  refine r_tn ?_
  refine r_ret ?_
  refine r_tr ?_
  exact r_done1 (.inl rfl) rfl (res_tmp rfl) fun w hw => ⟨rfl, hw.clear⟩

theorem FlagsTwice_ok (A B : Option Addr) (c d : Nat) (a b : List Int) (W : World) (ha : a.length ≤ 16) (hb : b.length ≤ 16) (hA : Rd W A (a.map (Value.int .u8))) (hB : Rd W B (b.map (Value.int .u8))) (hcap : a.length ≤ c) :
    Calls Try.prog 7 #[.slice A a.length c, .slice B b.length d] W fun e w' => e = .returned (.bool true) ∧ Sat W [] [] w' := by
  refine enter Try.func7 rfl rfl rfl ?_
  refine r_seq ?_
  refine r_region ?_
  refine r_assign rfl rfl ?_
  refine r_nil ?_
  refine r_tn ?_
  refine r_seq ?_
  refine r_seq ?_
  refine r_region ?_
  refine r_call rfl rfl rfl (by kernel_rfl) rfl (fun w hw => by exact awake12 w) ?_
  refine r_not rfl rfl rfl ?_
  refine r_move rfl rfl ?_
  refine r_go rfl rfl ?_
  refine r_move rfl rfl ?_
  refine r_go rfl rfl ?_
  refine r_len rfl rfl rfl ?_
  refine r_go rfl rfl ?_
  refine r_gtr rfl rfl rfl (decide_eq_false (by omega)) ?_
  refine r_pick_f rfl rfl rfl ?_
  refine r_move rfl rfl ?_
  refine r_go rfl rfl ?_
  refine r_move rfl rfl ?_
  refine r_go rfl rfl ?_
  refine r_len rfl rfl rfl ?_
  refine r_go rfl rfl ?_
  refine r_gtr rfl rfl rfl (decide_eq_false (by omega)) ?_
  refine r_pick_f rfl rfl rfl ?_
  refine r_nil ?_
  refine r_tn ?_
  refine r_cond_f rfl ?_
  refine r_skip ?_
  refine r_tn ?_
  refine r_seq ?_
  refine r_region ?_
  refine r_build (cells := fl zeros16) rfl rfl (by kernel_rfl) ?_
  refine r_move rfl rfl ?_
  refine r_call rfl rfl rfl (by kernel_rfl) rfl (fun w hw => by exact save12 zeros16 a rfl A c w (hA.keep hw)) ?_
  refine r_move rfl rfl ?_
  refine r_call rfl rfl rfl (by kernel_rfl) rfl (fun w hw => by exact save12 (saveM zeros16 a) b (saveM_length rfl a) B d w (hB.keep hw)) ?_
  refine r_alloc rfl rfl fun b5 => ?_
  refine r_storeV rfl rfl rfl (fl_size (saveM_length (saveM_length rfl a) b)) rfl (fl_one _) ?_
  refine r_nil ?_
  refine r_tn ?_
  refine r_seq ?_
  refine r_seq ?_
  refine r_region ?_
  refine r_move rfl rfl ?_
  refine r_len rfl rfl rfl ?_
  refine r_move rfl rfl ?_
  refine r_len rfl rfl rfl ?_
  refine r_geq rfl rfl rfl rfl ?_
  refine r_nil ?_
  refine r_tn ?_
  refine r_cond rfl (fun hc => ?_) (fun hc => ?_)
  · refine r_seq ?_
    refine r_mixedD { xb := [], rb := [b5], rs := [30], fs := [], acs := [33] } (by kernel_rfl) (by kernel_rfl) (fun w hw k hk => by
      simp only [List.mem_cons, List.not_mem_nil, or_false] at hk
      rcases hk with rfl <;> exact Sat.lt hw) ?_
    refine r_loadV rfl rfl rfl rfl (fl_size (saveM_length (saveM_length rfl a) b)) ?_
    refine r_build (cells := fl zeros16) rfl rfl (by kernel_rfl) ?_
    refine r_move rfl rfl ?_
    refine r_call rfl rfl rfl (by kernel_rfl) rfl (fun w hw => by exact save12 zeros16 b rfl B d w (hB.keep hw)) ?_
    have hab : a.length ≤ b.length := by have h := of_decide_eq_true hc; omega
    rw [saveM_saveM ha hb hab]
    refine r_eqlAgg rfl rfl rfl flFlat (fl_ok (saveM_length rfl b)) (fl_ok (saveM_length rfl b)) (fl_self (saveM_length rfl b)) ?_
    refine r_assign rfl rfl ?_
    refine r_nil ?_
    refine r_tn ?_
    refine r_ret ?_
    refine r_tr ?_
    exact r_done1 (.inl rfl) rfl (res_tmp rfl) fun w hw => ⟨rfl, hw.clear⟩
  · refine r_skip ?_
    refine r_tn ?_
    refine r_seq ?_
    refine r_region ?_
    have hab : b.length ≤ a.length := by have h := of_decide_eq_false hc; omega
    refine r_loadV rfl rfl rfl rfl (fl_size (saveM_length (saveM_length rfl a) b)) ?_
    refine r_move rfl rfl ?_
    refine r_len rfl rfl rfl ?_
    refine r_callx rfl rfl rfl (by kernel_rfl) rfl (fun w hw => load12 (saveM (saveM zeros16 a) b) (saveM_length (saveM_length rfl a) b) a.length (by omega) w) ?_
    rintro ⟨A38, c38⟩ _
    rw [loadM_two ha hb rfl hab]
    refine r_assign rfl rfl ?_
    refine r_nil ?_
    refine r_tn ?_
    refine r_seq ?_
    refine r_mixed (by kernel_rfl) (by kernel_rfl) ?_
    refine r_move rfl rfl ?_
    refine r_len rfl rfl rfl ?_
    refine r_move rfl rfl ?_
    refine r_len rfl rfl rfl ?_
    refine r_eql rfl rfl rfl (decide_eq_true (by simp; omega)) ?_
    refine r_move rfl rfl ?_
    refine r_go rfl rfl ?_
    refine r_move rfl rfl ?_
    refine r_go rfl rfl ?_
    refine r_lit (sz := 1) (pv := []) (cells := #[]) rfl rfl rfl rfl rfl rfl (by kernel_rfl) rfl (fun b46 => ?_) (by decide)
    refine r_go rfl rfl ?_
    refine r_move rfl rfl ?_
    refine r_go rfl rfl ?_
    refine r_append (k := b.length) (news := b.map (Value.int .u8)) (sz := 1) (bytes := 1) rfl rfl rfl rfl rfl rfl (by decide) (fun w hw => hB.keep hw) (by first | (simp; done) | (simp; omega)) (fun u hu => by simp at hu; first | (obtain ⟨x, _, rfl⟩ := hu; rfl) | (subst hu; rfl)) (by omega) (by unfold maxLen; omega) fun A48 c48 => ?_
    rw [List.nil_append, Nat.zero_add]
    refine r_go rfl rfl ?_
    refine r_move rfl rfl ?_
    refine r_go rfl rfl ?_
    refine r_move rfl rfl ?_
    refine r_go rfl rfl ?_
    refine r_len rfl rfl rfl ?_
    refine r_go rfl rfl ?_
    refine r_sliceLo (h' := b.length) (sz := 1) rfl rfl rfl rfl rfl rfl hab ?_
    refine r_go rfl rfl ?_
    refine r_append (k := a.length - b.length) (news := (a.drop b.length).map (Value.int .u8)) (sz := 1) (bytes := 1) rfl rfl rfl rfl rfl rfl (by decide) (fun w hw => by rw [List.map_drop]; exact (hA.keep hw).drop b.length (by simpa using hcap) (Nat.mul_one _)) (by simp) (ints_one _ _) (by omega) (by unfold maxLen; omega) fun A53 c53 => ?_
    refine r_go rfl rfl ?_
    refine r_call (v := .bool true) rfl rfl rfl (by kernel_rfl) rfl (fun w hw => by exact sameT A38 A53 c38 c53 _ _ (b ++ a.drop b.length) (b ++ a.drop b.length) w rfl (by simp) (by simp; omega) (own_rd (A := A38) (m := (b ++ a.drop b.length).length) (c := c38) hw) (by rw [List.map_append]; exact own_rd (A := A53) (m := b.length + (a.length - b.length)) (c := c53) hw) rfl) ?_
    refine r_pick_t rfl rfl rfl ?_
    refine r_assign rfl rfl ?_
    refine r_nil ?_
    refine r_tn ?_
    refine r_ret ?_
    exact r_done1 (.inl rfl) rfl (res_tmp rfl) fun w hw => ⟨rfl, hw.clear⟩

theorem FlagsTwice_walk (A : Option Addr) (c : Nat) (a : List Int) (B : Option Addr) (d : Nat) (b : List Int) (W : World) (hA : Rd W A (a.map (Value.int .u8))) (hma : a.length ≤ 140737488351232) (hcap : a.length ≤ c) (hB : Rd W B (b.map (Value.int .u8))) (hmb : b.length ≤ 140737488351232) (hcapb : b.length ≤ d) :
    Calls Try.prog 7 #[.slice A a.length c, .slice B b.length d] W fun e w' => e = .returned (.bool true) ∧ Sat W [] [] w' := by
  by_cases h1 : a.length ≤ 16
  · by_cases h2 : b.length ≤ 16
    · exact FlagsTwice_ok A B c d a b W h1 h2 hA hB hcap
    · exact FlagsTwice_manyB A B c d a b W h1 (by omega) hA hB hcap
  · exact FlagsTwice_manyA A B c d a b W (by omega) hmb hA hB hcap
end Go.Proofs.Ytapknkmlgmckkaa
