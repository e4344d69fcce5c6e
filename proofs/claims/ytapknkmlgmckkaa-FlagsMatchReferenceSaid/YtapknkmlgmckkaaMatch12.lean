/-
  FlagsMatchReference: the flags do what the reference does.
-/
import Derived.Test.YtapknkmlgmckkaaRef12
namespace Go.Proofs.Ytapknkmlgmckkaa
open Go Go.RowKit
set_option linter.unusedVariables false
set_option maxHeartbeats 2000000

theorem loadM_le {f : List Int} (hf : f.length = 16) (n : Int) : (loadM f n).length ≤ 16 := by simp [loadM, hf]; omega
theorem wf64 {n : Int} (h : (Lit.int .i64 n).wf = true) : -9223372036854775808 ≤ n ∧ n ≤ 9223372036854775807 := by
  have h2 := h
  simp only [Lit.wf, Bool.and_eq_true, decide_eq_true_eq] at h2
  rw [show IntKind.i64.min = -9223372036854775808 from by rfl, show IntKind.i64.max = 9223372036854775807 from by rfl] at h2
  exact h2


theorem FlagsMatchReference_manyA (A B : Option Addr) (c d : Nat) (a b : List Int) (W : World) (ha : 100 < a.length) (hb : b.length ≤ 140737488351232) (hA : Rd W A (a.map (Value.int .u8))) (hB : Rd W B (b.map (Value.int .u8))) (n level x : Int) (hn : -9223372036854775808 ≤ n ∧ n ≤ 9223372036854775807) :
    Calls Try.prog 4 #[.slice A a.length c, .slice B b.length d, .int .i64 n, .int .i64 level, .int .i64 x] W fun e w' => e = .returned (.bool true) ∧ Sat W [] [] w' := by
  refine enter Try.func4 rfl rfl rfl ?_
  refine r_seq ?_
  refine r_region ?_
  refine r_assign rfl rfl ?_
  refine r_nil ?_
  refine r_tn ?_
  refine r_seq ?_
  refine r_seq ?_
  refine r_region ?_
  refine r_call rfl rfl rfl (by kernel_rfl) rfl (fun w hw => by exact awake12 w) ?_
  refine r_not rfl rfl rfl ?_
  refine r_move rfl rfl ?_
  refine r_go rfl rfl ?_
  refine r_move rfl rfl ?_
  refine r_go rfl rfl ?_
  refine r_len rfl rfl rfl ?_
  refine r_go rfl rfl ?_
  refine r_gtr rfl rfl rfl (decide_eq_true (by omega)) ?_
  refine r_pick_f rfl rfl rfl ?_
  refine r_move rfl rfl ?_
  refine r_pass rfl rfl rfl rfl ?_
  refine r_pass rfl rfl rfl rfl ?_
  refine r_pass rfl rfl rfl rfl ?_
  refine r_pick_t rfl rfl rfl ?_
  refine r_nil ?_
  refine r_tn ?_
  refine r_cond_t rfl ?_
  refine r_seq ?_
  refine r_region ?_
  refine r_call rfl rfl rfl (by kernel_rfl) rfl (fun w hw => by exact awake12 w) ?_
  refine r_assign rfl rfl ?_
  refine r_nil ?_
  refine r_tn ?_
  refine r_ret ?_
  refine r_tr ?_
  exact r_done1 (.inl rfl) rfl (res_tmp rfl) fun w hw => ⟨rfl, hw.clear⟩

theorem FlagsMatchReference_manyB (A B : Option Addr) (c d : Nat) (a b : List Int) (W : World) (ha : a.length ≤ 100) (hb : 100 < b.length) (hA : Rd W A (a.map (Value.int .u8))) (hB : Rd W B (b.map (Value.int .u8))) (n level x : Int) (hn : -9223372036854775808 ≤ n ∧ n ≤ 9223372036854775807) :
    Calls Try.prog 4 #[.slice A a.length c, .slice B b.length d, .int .i64 n, .int .i64 level, .int .i64 x] W fun e w' => e = .returned (.bool true) ∧ Sat W [] [] w' := by
  refine enter Try.func4 rfl rfl rfl ?_
  refine r_seq ?_
  refine r_region ?_
  refine r_assign rfl rfl ?_
  refine r_nil ?_
  refine r_tn ?_
  refine r_seq ?_
  refine r_seq ?_
  refine r_region ?_
  refine r_call rfl rfl rfl (by kernel_rfl) rfl (fun w hw => by exact awake12 w) ?_
  refine r_not rfl rfl rfl ?_
  refine r_move rfl rfl ?_
  refine r_go rfl rfl ?_
  refine r_move rfl rfl ?_
  refine r_go rfl rfl ?_
  refine r_len rfl rfl rfl ?_
  refine r_go rfl rfl ?_
  refine r_gtr rfl rfl rfl (decide_eq_false (by omega)) ?_
  refine r_pick_f rfl rfl rfl ?_
  refine r_move rfl rfl ?_
  refine r_go rfl rfl ?_
  refine r_move rfl rfl ?_
  refine r_go rfl rfl ?_
  refine r_len rfl rfl rfl ?_
  refine r_go rfl rfl ?_
  refine r_gtr rfl rfl rfl (decide_eq_true (by omega)) ?_
  refine r_pick_f rfl rfl rfl ?_
  refine r_nil ?_
  refine r_tn ?_
  refine r_cond_t rfl ?_
  refine r_seq ?_
  refine r_region ?_
  refine r_call rfl rfl rfl (by kernel_rfl) rfl (fun w hw => by exact awake12 w) ?_
  refine r_assign rfl rfl ?_
  refine r_nil ?_
  refine r_tn ?_
  refine r_ret ?_
  refine r_tr ?_
  exact r_done1 (.inl rfl) rfl (res_tmp rfl) fun w hw => ⟨rfl, hw.clear⟩

theorem FlagsMatchReference_ok (A B : Option Addr) (c d : Nat) (a b : List Int) (W : World) (ha : a.length ≤ 100) (hb : b.length ≤ 100) (hA : Rd W A (a.map (Value.int .u8))) (hB : Rd W B (b.map (Value.int .u8))) (n level x : Int) (hn : -9223372036854775808 ≤ n ∧ n ≤ 9223372036854775807) :
    Calls Try.prog 4 #[.slice A a.length c, .slice B b.length d, .int .i64 n, .int .i64 level, .int .i64 x] W fun e w' => e = .returned (.bool true) ∧ Sat W [] [] w' := by
  refine enter Try.func4 rfl rfl rfl ?_
  refine r_seq ?_
  refine r_region ?_
  refine r_assign rfl rfl ?_
  refine r_nil ?_
  refine r_tn ?_
  refine r_seq ?_
  refine r_seq ?_
  refine r_region ?_
  refine r_call rfl rfl rfl (by kernel_rfl) rfl (fun w hw => by exact awake12 w) ?_
  refine r_not rfl rfl rfl ?_
  refine r_move rfl rfl ?_
  refine r_go rfl rfl ?_
  refine r_move rfl rfl ?_
  refine r_go rfl rfl ?_
  refine r_len rfl rfl rfl ?_
  refine r_go rfl rfl ?_
  refine r_gtr rfl rfl rfl (decide_eq_false (by omega)) ?_
  refine r_pick_f rfl rfl rfl ?_
  refine r_move rfl rfl ?_
  refine r_go rfl rfl ?_
  refine r_move rfl rfl ?_
  refine r_go rfl rfl ?_
  refine r_len rfl rfl rfl ?_
  refine r_go rfl rfl ?_
  refine r_gtr rfl rfl rfl (decide_eq_false (by omega)) ?_
  refine r_pick_f rfl rfl rfl ?_
  refine r_nil ?_
  refine r_tn ?_
  refine r_cond_f rfl ?_
  refine r_skip ?_
  refine r_tn ?_
  refine r_seq ?_
  refine r_region ?_
  refine r_build (cells := fl zeros16) rfl rfl (by kernel_rfl) ?_
  refine r_move rfl rfl ?_
  refine r_call rfl rfl rfl (by kernel_rfl) rfl (fun w hw => by exact save12 zeros16 a rfl A c w (hA.keep hw)) ?_
  refine r_move rfl rfl ?_
  refine r_call rfl rfl rfl (by kernel_rfl) rfl (fun w hw => by exact save12 (saveM zeros16 a) b (saveM_length rfl a) B d w (hB.keep hw)) ?_
  refine r_alloc rfl rfl fun b11 => ?_
  refine r_storeV rfl rfl rfl (fl_size (saveM_length (saveM_length rfl a) b)) rfl (fl_one _) ?_
  refine r_nil ?_
  refine r_tn ?_
  refine r_seq ?_
  refine r_region ?_
  refine r_makeSlice (m := 16) (sz := 1) (bytes := 1) (xs := zeros16.map (Value.int .u8)) rfl rfl rfl rfl rfl rfl rfl (by decide) (by decide) (by kernel_rfl) (fun b31 => ?_)
  refine r_move rfl rfl ?_
  refine r_callx rfl rfl rfl (by kernel_rfl) rfl (fun w hw => refSave12 zeros16 a rfl (by omega) (some ⟨b31, 0, none⟩) A 16 c w (own_rd (A := some ⟨b31, 0, none⟩) (m := 16) (c := 16) hw) (hA.keep hw)) ?_
  rintro ⟨A33, c33⟩ _
  refine r_move rfl rfl ?_
  refine r_callx rfl rfl rfl (by kernel_rfl) rfl (fun w hw => refSave12 (saveM zeros16 a) b (saveM_length rfl a) (by omega) A33 B c33 d w (own_rd (A := A33) (m := 16) (c := c33) hw) (hB.keep hw)) ?_
  rintro ⟨A35, c35⟩ _
  refine r_assign rfl rfl ?_
  refine r_nil ?_
  refine r_tn ?_
  refine r_seq ?_
  refine r_region ?_
  refine r_fieldAddr (off := 0) (o' := 0) rfl rfl rfl rfl ?_
  refine r_sliceArr rfl rfl rfl rfl ?_
  refine r_move rfl rfl ?_
  refine r_call (v := .bool true) rfl rfl rfl (by kernel_rfl) rfl (fun w hw => by exact sameT (some ⟨b11, 0, none⟩) A35 16 c35 16 16 (saveM (saveM zeros16 a) b) (saveM (saveM zeros16 a) b) w (saveM_length (saveM_length rfl a) b) (saveM_length (saveM_length rfl a) b) (by decide) (fl_rdA (b := b11) hw) (own_rd (A := A35) (m := 16) (c := c35) hw) rfl) ?_
  refine r_move rfl rfl ?_
  refine r_go rfl rfl ?_
  refine r_loadV rfl rfl rfl rfl (fl_size (saveM_length (saveM_length rfl a) b)) ?_
  refine r_go rfl rfl ?_
  refine r_move rfl rfl ?_
  refine r_go rfl rfl ?_
  refine r_callx rfl rfl rfl (by kernel_rfl) rfl (fun w hw => load12 (saveM (saveM zeros16 a) b) (saveM_length (saveM_length rfl a) b) n hn w) ?_
  rintro ⟨A43, c43⟩ _
  refine r_go rfl rfl ?_
  refine r_move rfl rfl ?_
  refine r_go rfl rfl ?_
  refine r_move rfl rfl ?_
  refine r_go rfl rfl ?_
  refine r_callx rfl rfl rfl (by kernel_rfl) rfl (fun w hw => refLoad12 (saveM (saveM zeros16 a) b) (saveM_length (saveM_length rfl a) b) n hn A35 c35 w (own_rd (A := A35) (m := 16) (c := c35) hw)) ?_
  rintro ⟨A46, c46⟩ _
  refine r_go rfl rfl ?_
  refine r_call (v := .bool true) rfl rfl rfl (by kernel_rfl) rfl (fun w hw => by exact sameT A43 A46 c43 c46 _ _ (loadM (saveM (saveM zeros16 a) b) n) (loadM (saveM (saveM zeros16 a) b) n) w rfl rfl (Nat.le_trans (loadM_le (saveM_length (saveM_length rfl a) b) n) (by decide)) (own_rd (A := A43) (m := (loadM (saveM (saveM zeros16 a) b) n).length) (c := c43) hw) (own_rd (A := A46) (m := (loadM (saveM (saveM zeros16 a) b) n).length) (c := c46) hw) rfl) ?_
  refine r_pick_t rfl rfl rfl ?_
  refine r_move rfl rfl ?_
  refine r_go rfl rfl ?_
  refine r_move rfl rfl ?_
  refine r_go rfl rfl ?_
  refine r_move rfl rfl ?_
  refine r_go rfl rfl ?_
  refine r_call rfl rfl rfl (by kernel_rfl) rfl (fun w hw => by exact allowed12 level x w) ?_
  refine r_go rfl rfl ?_
  refine r_move rfl rfl ?_
  refine r_go rfl rfl ?_
  refine r_move rfl rfl ?_
  refine r_go rfl rfl ?_
  refine r_call rfl rfl rfl (by kernel_rfl) rfl (fun w hw => by exact refAllowed12 level x w) ?_
  refine r_go rfl rfl ?_
  refine r_eql_bool rfl rfl rfl rfl (beq_self_eq_true _) ?_
  refine r_pick_t rfl rfl rfl ?_
  refine r_assign rfl rfl ?_
  refine r_nil ?_
  refine r_tn ?_
  refine r_ret ?_
  exact r_done1 (.inl rfl) rfl (res_tmp rfl) fun w hw => ⟨rfl, hw.clear⟩

theorem FlagsMatchReference_walk (A : Option Addr) (c : Nat) (a : List Int) (B : Option Addr) (d : Nat) (b : List Int) (n level x : Int) (W : World) (hA : Rd W A (a.map (Value.int .u8))) (hma : a.length ≤ 140737488351232) (hB : Rd W B (b.map (Value.int .u8))) (hmb : b.length ≤ 140737488351232) (hn : (Lit.int .i64 n).wf = true) (_ : (Lit.int .i64 level).wf = true) (_ : (Lit.int .i64 x).wf = true) :
    Calls Try.prog 4 #[.slice A a.length c, .slice B b.length d, .int .i64 n, .int .i64 level, .int .i64 x] W fun e w' => e = .returned (.bool true) ∧ Sat W [] [] w' := by
  by_cases h1 : a.length ≤ 100
  · by_cases h2 : b.length ≤ 100
    · exact FlagsMatchReference_ok A B c d a b W h1 h2 hA hB n level x (wf64 hn)
    · exact FlagsMatchReference_manyB A B c d a b W h1 (by omega) hA hB n level x (wf64 hn)
  · exact FlagsMatchReference_manyA A B c d a b W (by omega) hmb hA hB n level x (wf64 hn)
end Go.Proofs.Ytapknkmlgmckkaa
