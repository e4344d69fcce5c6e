/-
  RandomCycles: a stream begins anew behind its list.
-/
import Derived.Test.YtapknkmlgmckkaaAw13
namespace Go.Proofs.Ytapknkmlgmckkaa
open Go Go.RowKit
set_option linter.unusedVariables false
set_option maxHeartbeats 2000000

theorem wf8 {n : Int} (h : (Lit.int .u8 n).wf = true) : 0 ≤ n ∧ n ≤ 255 := by
  have h2 := h
  simp only [Lit.wf, Bool.and_eq_true, decide_eq_true_eq] at h2
  rw [show IntKind.u8.min = 0 from by rfl, show IntKind.u8.max = 255 from by rfl] at h2
  exact h2
theorem wf16 {n : Int} (h : (Lit.int .u16 n).wf = true) : 0 ≤ n ∧ n ≤ 65535 := by
  have h2 := h
  simp only [Lit.wf, Bool.and_eq_true, decide_eq_true_eq] at h2
  rw [show IntKind.u16.min = 0 from by rfl, show IntKind.u16.max = 65535 from by rfl] at h2
  exact h2
theorem wf64' {n : Int} (h : (Lit.int .i64 n).wf = true) : -9223372036854775808 ≤ n ∧ n ≤ 9223372036854775807 := by
  have h2 := h
  simp only [Lit.wf, Bool.and_eq_true, decide_eq_true_eq] at h2
  rw [show IntKind.i64.min = -9223372036854775808 from by rfl, show IntKind.i64.max = 9223372036854775807 from by rfl] at h2
  exact h2


theorem atM_cyc {l : List Int} {n : Int} (hn : 0 ≤ n) : atM l n = atM l (n + l.length) := by
  unfold atM
  by_cases h0 : l.length = 0
  · simp [h0]
  · rw [if_neg (by omega), if_neg (by omega)]
    have : (n + (l.length : Int)).toNat = n.toNat + l.length := by omega
    rw [this, Nat.add_mod_right]
theorem atM_neg {l : List Int} {n : Int} (hn : n < 0) : atM l n = 0 := by
  unfold atM
  rw [if_pos (.inl hn)]
theorem atM_mod {l : List Int} {n : Nat} (h : n % l.length < l.length) : atM l ((n % l.length : Nat) : Int) = l[n % l.length] := by
  rw [atM_at (by omega) (by rw [Int.toNat_natCast, Nat.mod_mod]; exact h)]
  simp only [Int.toNat_natCast, Nat.mod_mod]


theorem RandomCycles_many (A : Option Addr) (c : Nat) (l : List Int) (n : Int) (W : World) (hA : Rd W A (l.map (Value.int .u8))) (hma : l.length ≤ 140737488351232) (hn : 0 ≤ n ∧ n ≤ 65535) (hl : 1000 < l.length) :
    Calls Try.prog 11 #[.slice A l.length c, .int .u16 n] W fun e w' => e = .returned (.bool true) ∧ Sat W [] [] w' := by
  refine enter Try.func11 rfl rfl rfl ?_
  refine r_seq ?_
  refine r_region ?_
  refine r_assign rfl rfl ?_
  refine r_nil ?_
  refine r_tn ?_
  refine r_seq ?_
  refine r_seq ?_
  refine r_region ?_
  refine r_call rfl rfl rfl (by kernel_rfl) rfl (fun w hw => by exact awake13 w) ?_
  refine r_not rfl rfl rfl ?_
  refine r_move rfl rfl ?_
  refine r_go rfl rfl ?_
  refine r_move rfl rfl ?_
  refine r_go rfl rfl ?_
  refine r_len rfl rfl rfl ?_
  refine r_go rfl rfl ?_
  refine r_gtr rfl rfl rfl (decide_eq_true (by omega)) ?_
  refine r_pick_f rfl rfl rfl ?_
  refine r_move rfl rfl ?_
  refine r_pass rfl rfl rfl rfl ?_
  refine r_pass rfl rfl rfl rfl ?_
  refine r_pass rfl rfl rfl rfl ?_
  refine r_pick_t rfl rfl rfl ?_
  refine r_nil ?_
  refine r_tn ?_
  refine r_cond_t rfl ?_
  refine r_seq ?_
  refine r_region ?_
  refine r_call rfl rfl rfl (by kernel_rfl) rfl (fun w hw => by exact awake13 w) ?_
  refine r_assign rfl rfl ?_
  refine r_nil ?_
  refine r_tn ?_
  refine r_ret ?_
  refine r_tr ?_
  exact r_done1 (.inl rfl) rfl (res_tmp rfl) fun w hw => ⟨rfl, hw.clear⟩

theorem RandomCycles_zero (A : Option Addr) (c : Nat) (l : List Int) (n : Int) (W : World) (hA : Rd W A (l.map (Value.int .u8))) (hma : l.length ≤ 140737488351232) (hn : 0 ≤ n ∧ n ≤ 65535) (hl : l.length = 0) :
    Calls Try.prog 11 #[.slice A l.length c, .int .u16 n] W fun e w' => e = .returned (.bool true) ∧ Sat W [] [] w' := by
  refine enter Try.func11 rfl rfl rfl ?_
  refine r_seq ?_
  refine r_region ?_
  refine r_assign rfl rfl ?_
  refine r_nil ?_
  refine r_tn ?_
  refine r_seq ?_
  refine r_seq ?_
  refine r_region ?_
  refine r_call rfl rfl rfl (by kernel_rfl) rfl (fun w hw => by exact awake13 w) ?_
  refine r_not rfl rfl rfl ?_
  refine r_move rfl rfl ?_
  refine r_go rfl rfl ?_
  refine r_move rfl rfl ?_
  refine r_go rfl rfl ?_
  refine r_len rfl rfl rfl ?_
  refine r_go rfl rfl ?_
  refine r_gtr rfl rfl rfl (decide_eq_false (by omega)) ?_
  refine r_pick_f rfl rfl rfl ?_
  refine r_move rfl rfl ?_
  refine r_go rfl rfl ?_
  refine r_move rfl rfl ?_
  refine r_go rfl rfl ?_
  refine r_len rfl rfl rfl ?_
  refine r_go rfl rfl ?_
  refine r_eql rfl rfl rfl (decide_eq_true (by omega)) ?_
  refine r_pick_f rfl rfl rfl ?_
  refine r_nil ?_
  refine r_tn ?_
  refine r_cond_t rfl ?_
  refine r_seq ?_
  refine r_region ?_
  refine r_call rfl rfl rfl (by kernel_rfl) rfl (fun w hw => by exact awake13 w) ?_
  refine r_assign rfl rfl ?_
  refine r_nil ?_
  refine r_tn ?_
  refine r_ret ?_
  refine r_tr ?_
  exact r_done1 (.inl rfl) rfl (res_tmp rfl) fun w hw => ⟨rfl, hw.clear⟩

theorem RandomCycles_ok (A : Option Addr) (c : Nat) (l : List Int) (n : Int) (W : World) (hA : Rd W A (l.map (Value.int .u8))) (hma : l.length ≤ 140737488351232) (hn : 0 ≤ n ∧ n ≤ 65535) (hl : l.length ≤ 1000) (h0 : l.length ≠ 0) :
    Calls Try.prog 11 #[.slice A l.length c, .int .u16 n] W fun e w' => e = .returned (.bool true) ∧ Sat W [] [] w' := by
  refine enter Try.func11 rfl rfl rfl ?_
  refine r_seq ?_
  refine r_region ?_
  refine r_assign rfl rfl ?_
  refine r_nil ?_
  refine r_tn ?_
  refine r_seq ?_
  refine r_seq ?_
  refine r_region ?_
  refine r_call rfl rfl rfl (by kernel_rfl) rfl (fun w hw => by exact awake13 w) ?_
  refine r_not rfl rfl rfl ?_
  refine r_move rfl rfl ?_
  refine r_go rfl rfl ?_
  refine r_move rfl rfl ?_
  refine r_go rfl rfl ?_
  refine r_len rfl rfl rfl ?_
  refine r_go rfl rfl ?_
  refine r_gtr rfl rfl rfl (decide_eq_false (by omega)) ?_
  refine r_pick_f rfl rfl rfl ?_
  refine r_move rfl rfl ?_
  refine r_go rfl rfl ?_
  refine r_move rfl rfl ?_
  refine r_go rfl rfl ?_
  refine r_len rfl rfl rfl ?_
  refine r_go rfl rfl ?_
  refine r_eql rfl rfl rfl (decide_eq_false (by omega)) ?_
  refine r_pick_f rfl rfl rfl ?_
  refine r_nil ?_
  refine r_tn ?_
  refine r_cond_f rfl ?_
  refine r_skip ?_
  refine r_tn ?_
  refine r_seq ?_
  refine r_region ?_
  refine r_move rfl rfl ?_
  refine r_convert rfl rfl rfl rfl (w64 (by omega)) ?_
  refine r_assign rfl rfl ?_
  refine r_nil ?_
  refine r_tn ?_
  refine r_seq ?_
  have hlt : n.toNat % l.length < l.length := Nat.mod_lt _ (by omega)
  obtain ⟨ba, oa, rfl, hca⟩ := hA (n.toNat % l.length) (.int .u8 (l[n.toNat % l.length]'hlt)) (by simp [hlt])
  refine r_mixedD { xb := [], rb := [ba], rs := [44], fs := [], acs := [37] } (by kernel_rfl) (by kernel_rfl) (fun w hw k hk => by
    simp only [List.mem_cons, List.not_mem_nil, or_false] at hk
    subst hk
    exact Nat.lt_of_lt_of_le (World.block_lt_of_cell? W _ hca) hw.size) ?_
  refine r_move rfl rfl ?_
  refine r_move rfl rfl ?_
  refine r_call rfl rfl rfl (by kernel_rfl) rfl (fun w hw => by exact at13 _ c l n (by omega) (by omega) w (hA.keep hw)) ?_
  refine r_move rfl rfl ?_
  refine r_move rfl rfl ?_
  refine r_move rfl rfl ?_
  refine r_len rfl rfl rfl ?_
  refine r_add rfl rfl rfl (w64 (by omega)) ?_
  refine r_call rfl rfl rfl (by kernel_rfl) rfl (fun w hw => by exact at13 _ c l (n + l.length) (by omega) (by omega) w (hA.keep hw)) ?_
  refine r_eql rfl rfl rfl (decide_eq_true (atM_cyc (by omega))) ?_
  refine r_move rfl rfl ?_
  refine r_go rfl rfl ?_
  refine r_move rfl rfl ?_
  refine r_go rfl rfl ?_
  refine r_move rfl rfl ?_
  refine r_go rfl rfl ?_
  refine r_move rfl rfl ?_
  refine r_go rfl rfl ?_
  refine r_len rfl rfl rfl ?_
  refine r_go rfl rfl ?_
  refine r_rem rfl rfl rfl (by omega) (rem_at (by omega)) ?_
  refine r_go rfl rfl ?_
  refine r_call rfl rfl rfl (by kernel_rfl) rfl (fun w hw => by exact at13 _ c l ((n.toNat % l.length : Nat) : Int) (by omega) (by omega) w (hA.keep hw)) ?_
  refine r_go rfl rfl ?_
  refine r_move rfl rfl ?_
  refine r_go rfl rfl ?_
  refine r_move rfl rfl ?_
  refine r_go rfl rfl ?_
  refine r_move rfl rfl ?_
  refine r_go rfl rfl ?_
  refine r_len rfl rfl rfl ?_
  refine r_go rfl rfl ?_
  refine r_rem rfl rfl rfl (by omega) (rem_at (by omega)) ?_
  refine r_go rfl rfl ?_
  refine r_indexSl (sz := 1) rfl rfl rfl rfl rfl (by omega) (by omega) (show _ = oa + n.toNat % l.length by rw [Int.toNat_natCast, Nat.mul_one]) ?_
  refine r_go rfl rfl ?_
  refine r_loadC rfl rfl rfl (fun w hw => (hA.keep hw).cell (j := n.toNat % l.length) (u := .int .u8 (l[n.toNat % l.length]'hlt)) (by simp [hlt]) rfl) ?_
  refine r_go rfl rfl ?_
  refine r_eql rfl rfl rfl (decide_eq_true (atM_mod hlt)) ?_
  refine r_pick_t rfl rfl rfl ?_
  refine r_move rfl rfl ?_
  refine r_go rfl rfl ?_
  refine r_move rfl rfl ?_
  refine r_go rfl rfl ?_
  refine r_move rfl rfl ?_
  refine r_go rfl rfl ?_
  refine r_sub rfl rfl rfl (w64 (by omega)) ?_
  refine r_go rfl rfl ?_
  refine r_call rfl rfl rfl (by kernel_rfl) rfl (fun w hw => by exact at13 _ c l (-1 - n) (by omega) (by omega) w (hA.keep hw)) ?_
  refine r_go rfl rfl ?_
  refine r_eql rfl rfl rfl (decide_eq_true (atM_neg (by omega))) ?_
  refine r_pick_t rfl rfl rfl ?_
  refine r_assign rfl rfl ?_
  refine r_nil ?_
  refine r_tn ?_
  refine r_ret ?_
  exact r_done1 (.inl rfl) rfl (res_tmp rfl) fun w hw => ⟨rfl, hw.clear⟩

theorem RandomCycles_walk (A : Option Addr) (c : Nat) (l : List Int) (n : Int) (W : World) (hA : Rd W A (l.map (Value.int .u8))) (hma : l.length ≤ 140737488351232) (hn : (Lit.int .u16 n).wf = true) :
    Calls Try.prog 11 #[.slice A l.length c, .int .u16 n] W fun e w' => e = .returned (.bool true) ∧ Sat W [] [] w' := by
  by_cases h1 : l.length ≤ 1000
  · by_cases h0 : l.length = 0
    · exact RandomCycles_zero A c l n W hA hma (wf16 hn) h0
    · exact RandomCycles_ok A c l n W hA hma (wf16 hn) h1 h0
  · exact RandomCycles_many A c l n W hA hma (wf16 hn) (by omega)
end Go.Proofs.Ytapknkmlgmckkaa
