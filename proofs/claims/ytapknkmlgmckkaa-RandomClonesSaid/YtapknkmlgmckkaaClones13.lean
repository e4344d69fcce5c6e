/-
  RandomClones: a clone yields what the stream would yield.
-/
import Derived.Test.YtapknkmlgmckkaaAw13
namespace Go.Proofs.Ytapknkmlgmckkaa
open Go Go.RowKit
set_option linter.unusedVariables false
set_option maxHeartbeats 2000000

theorem wf8 {n : Int} (h : (Lit.int .u8 n).wf = true) : 0 ≤ n ∧ n ≤ 255 := by
  have h2 := h
  simp only [Lit.wf, Bool.and_eq_true, decide_eq_true_eq] at h2
  rw [show IntKind.u8.min = 0 from by rfl, show IntKind.u8.max = 255 from by rfl] at h2
  exact h2
theorem wf16 {n : Int} (h : (Lit.int .u16 n).wf = true) : 0 ≤ n ∧ n ≤ 65535 := by
  have h2 := h
  simp only [Lit.wf, Bool.and_eq_true, decide_eq_true_eq] at h2
  rw [show IntKind.u16.min = 0 from by rfl, show IntKind.u16.max = 65535 from by rfl] at h2
  exact h2
theorem wf64' {n : Int} (h : (Lit.int .i64 n).wf = true) : -9223372036854775808 ≤ n ∧ n ≤ 9223372036854775807 := by
  have h2 := h
  simp only [Lit.wf, Bool.and_eq_true, decide_eq_true_eq] at h2
  rw [show IntKind.i64.min = -9223372036854775808 from by rfl, show IntKind.i64.max = 9223372036854775807 from by rfl] at h2
  exact h2


set_option maxRecDepth 4000 in
theorem RandomClones_many (A : Option Addr) (c : Nat) (l : List Int) (n m : Int) (W : World) (hA : Rd W A (l.map (Value.int .u8))) (hma : l.length ≤ 140737488351232) (hn : 0 ≤ n ∧ n ≤ 255) (hm : 0 ≤ m ∧ m ≤ 255) (hl : 1000 < l.length) :
    Calls Try.prog 12 #[.slice A l.length c, .int .u8 n, .int .u8 m] W fun e w' => e = .returned (.bool true) ∧ Sat W [] [] w' := by
  refine enter Try.func12 rfl rfl rfl ?_
  refine r_seq ?_
  refine r_region ?_
  refine r_assign rfl rfl ?_
  refine r_nil ?_
  refine r_tn ?_
  refine r_seq ?_
  refine r_seq ?_
  refine r_region ?_
  refine r_call rfl rfl rfl (by kernel_rfl) rfl (fun w hw => by exact awake13 w) ?_
  refine r_not rfl rfl rfl ?_
  refine r_move rfl rfl ?_
  refine r_go rfl rfl ?_
  refine r_move rfl rfl ?_
  refine r_go rfl rfl ?_
  refine r_len rfl rfl rfl ?_
  refine r_go rfl rfl ?_
  refine r_gtr rfl rfl rfl (decide_eq_true (by omega)) ?_
  refine r_pick_f rfl rfl rfl ?_
  refine r_nil ?_
  refine r_tn ?_
  refine r_cond_t rfl ?_
  refine r_seq ?_
  refine r_region ?_
  refine r_call rfl rfl rfl (by kernel_rfl) rfl (fun w hw => by exact awake13 w) ?_
  refine r_assign rfl rfl ?_
  refine r_nil ?_
  refine r_tn ?_
  refine r_ret ?_
  refine r_tr ?_
  exact r_done1 (.inl rfl) rfl (res_tmp rfl) fun w hw => ⟨rfl, hw.clear⟩

theorem RandomClones_ok (A : Option Addr) (c : Nat) (l : List Int) (n m : Int) (W : World) (hA : Rd W A (l.map (Value.int .u8))) (hma : l.length ≤ 140737488351232) (hn : 0 ≤ n ∧ n ≤ 255) (hm : 0 ≤ m ∧ m ≤ 255) (hl : l.length ≤ 1000) :
    Calls Try.prog 12 #[.slice A l.length c, .int .u8 n, .int .u8 m] W fun e w' => e = .returned (.bool true) ∧ Sat W [] [] w' := by
  refine enter Try.func12 rfl rfl rfl ?_
  refine r_seq ?_
  refine r_region ?_
  refine r_assign rfl rfl ?_
  refine r_nil ?_
  refine r_tn ?_
  refine r_seq ?_
  refine r_seq ?_
  refine r_region ?_
  refine r_call rfl rfl rfl (by kernel_rfl) rfl (fun w hw => by exact awake13 w) ?_
  refine r_not rfl rfl rfl ?_
  refine r_move rfl rfl ?_
  refine r_go rfl rfl ?_
  refine r_move rfl rfl ?_
  refine r_go rfl rfl ?_
  refine r_len rfl rfl rfl ?_
  refine r_go rfl rfl ?_
  refine r_gtr rfl rfl rfl (decide_eq_false (by omega)) ?_
  refine r_pick_f rfl rfl rfl ?_
  refine r_nil ?_
  refine r_tn ?_
  refine r_cond_f rfl ?_
  refine r_skip ?_
  refine r_tn ?_
  refine r_seq ?_
  refine r_region ?_
  refine r_move rfl rfl ?_
  refine r_callx rfl rfl rfl (by kernel_rfl) rfl (fun w hw => new13 A c l (by omega) w (hA.keep hw)) ?_
  rintro ⟨b21, A21, c21⟩ _
  refine r_assign rfl rfl ?_
  refine r_nil ?_
  refine r_tn ?_
  refine r_seq ?_
  refine r_seq ?_
  refine r_region ?_
  refine r_move rfl rfl ?_
  refine r_eql_pointer rfl rfl rfl rfl rfl ?_
  refine r_nil ?_
  refine r_tn ?_
  refine r_cond_f rfl ?_
  refine r_skip ?_
  refine r_tn ?_
  refine r_seq ?_
  refine r_seq ?_
  refine r_region ?_
  refine r_assign rfl rfl ?_
  refine r_nil ?_
  refine r_tn ?_
  refine r_block ?_
  refine r_loopN (fun k => [(0, .slice A l.length c), (1, .int .u8 n), (2, .int .u8 m), (7, .pointer (some ⟨b21, 0, none⟩)), (8, .int .i64 (k : Int))]) (fun k => [stB b21 A21 c21 l k, stO A21 c21 l]) (fun k => (k : Int) ≤ n) n.toNat 0 (by omega) ⟨rfl, rfl, rfl, rfl, rfl, trivial⟩ (fun w hw => hw.sub) fun k hk => ?_
  refine r_seq ?_
  refine r_seq ?_
  refine r_region ?_
  refine r_move rfl rfl ?_
  refine r_move rfl rfl ?_
  refine r_convert rfl rfl rfl rfl (w64 (by omega)) ?_
  refine r_lss rfl rfl rfl rfl ?_
  refine r_nil ?_
  refine r_tn ?_
  refine r_cond rfl (fun hc => ?_) (fun hc => ?_)
  · refine r_skip ?_
    refine r_tn ?_
    refine r_seq ?_
    refine r_block ?_
    refine r_region ?_
    refine r_move rfl rfl ?_
    have hkn : (k : Int) < n := by have h := of_decide_eq_true hc; omega
    refine r_callbo0 b21 (.slice A21 l.length c21) rfl rfl rfl (by kernel_rfl) rfl (fun w hs => by exact next13 b21 A21 c21 l k (by omega) (by omega) w hs) ?_
    refine r_nil ?_
    refine r_bn ?_
    refine r_tn ?_
    refine r_region ?_
    refine r_move rfl rfl ?_
    refine r_add rfl rfl rfl (w64 (by omega)) ?_
    refine r_assign rfl rfl ?_
    refine r_nil ?_
    refine r_tn ?_
    refine r_againN (k + 1) (by omega) (by omega) ⟨rfl, rfl, rfl, rfl, rfl, trivial⟩ (fun w hw => (hw.sub : Sat _ _ [stB b21 A21 c21 l ((k : Int) + 1), stO A21 c21 l] w))
  · refine r_exit ?_
    refine r_te ?_
    refine r_te ?_
    refine r_be ?_
    refine r_tn ?_
    refine r_seq ?_
    refine r_region ?_
    have hkn : n = (k : Int) := by have h := of_decide_eq_false hc; omega
    subst hkn
    refine r_move rfl rfl ?_
    refine r_callx rfl rfl rfl (by kernel_rfl) rfl (fun w hw => clone13 b21 A21 c21 l k (by omega) w (Rd.blk (hw.look (HasBlk.pick (b := b21))) (fun j u h => by simpa using h)) (own_rd (A := A21) (m := l.length) (c := c21) hw)) ?_
    rintro ⟨b33, A33, c33⟩ _
    refine r_assign rfl rfl ?_
    refine r_nil ?_
    refine r_tn ?_
    refine r_seq ?_
    refine r_seq ?_
    refine r_region ?_
    refine r_move rfl rfl ?_
    refine r_eql_pointer rfl rfl rfl rfl rfl ?_
    refine r_nil ?_
    refine r_tn ?_
    refine r_cond_f rfl ?_
    refine r_skip ?_
    refine r_tn ?_
    refine r_seq ?_
    refine r_seq ?_
    refine r_region ?_
    refine r_assign rfl rfl ?_
    refine r_nil ?_
    refine r_tn ?_
    refine r_block ?_
    refine r_loopN (fun j => [(0, .slice A l.length c), (1, .int .u8 (k : Int)), (2, .int .u8 m), (7, .pointer (some ⟨b21, 0, none⟩)), (9, .pointer (some ⟨b33, 0, none⟩)), (10, .int .i64 (j : Int))]) (fun j => [stB b21 A21 c21 l ((k : Int) + j), stO A21 c21 l, stB b33 A33 c33 l k, stO A33 c33 l]) (fun j => (j : Int) ≤ m) m.toNat 0 (by omega) ⟨rfl, rfl, rfl, rfl, rfl, rfl, trivial⟩ (fun w hw => by rw [show (k : Int) + ((0 : Nat) : Int) = k by omega]; exact hw.sub) fun j hj => ?_
    refine r_seq ?_
    refine r_seq ?_
    refine r_region ?_
    refine r_move rfl rfl ?_
    refine r_move rfl rfl ?_
    refine r_convert rfl rfl rfl rfl (w64 (by omega)) ?_
    refine r_lss rfl rfl rfl rfl ?_
    refine r_nil ?_
    refine r_tn ?_
    refine r_cond rfl (fun hc => ?_) (fun hc => ?_)
    · refine r_skip ?_
      refine r_tn ?_
      refine r_seq ?_
      refine r_block ?_
      refine r_region ?_
      refine r_move rfl rfl ?_
      have hjm : (j : Int) < m := by have h := of_decide_eq_true hc; omega
      refine r_callbo0 b21 (.slice A21 l.length c21) rfl rfl rfl (by kernel_rfl) rfl (fun w hs => by exact next13 b21 A21 c21 l ((k : Int) + j) (by omega) (by omega) w hs) ?_
      refine r_nil ?_
      refine r_bn ?_
      refine r_tn ?_
      refine r_region ?_
      refine r_move rfl rfl ?_
      refine r_add rfl rfl rfl (w64 (by omega)) ?_
      refine r_assign rfl rfl ?_
      refine r_nil ?_
      refine r_tn ?_
      refine r_againN (j + 1) (by omega) (by omega) ⟨rfl, rfl, rfl, rfl, rfl, rfl, trivial⟩ (fun w hw => by rw [show (k : Int) + ((j + 1 : Nat) : Int) = k + j + 1 by omega]; exact hw.sub)
    · refine r_exit ?_
      refine r_te ?_
      refine r_te ?_
      refine r_be ?_
      refine r_tn ?_
      refine r_seq ?_
      refine r_seq ?_
      refine r_region ?_
      refine r_assign rfl rfl ?_
      refine r_nil ?_
      refine r_tn ?_
      refine r_block ?_
      have hjm : m = (j : Int) := by have h := of_decide_eq_false hc; omega
      subst hjm
      refine r_loopN (fun i => [(0, .slice A l.length c), (1, .int .u8 (k : Int)), (2, .int .u8 (j : Int)), (7, .pointer (some ⟨b21, 0, none⟩)), (9, .pointer (some ⟨b33, 0, none⟩)), (11, .int .i64 (i : Int))]) (fun i => [stB b21 A21 c21 l ((k : Int) + j + i), stO A21 c21 l, stB b33 A33 c33 l ((k : Int) + i), stO A33 c33 l]) (fun i => i ≤ 5) 5 0 (by omega) ⟨rfl, rfl, rfl, rfl, rfl, rfl, trivial⟩ (fun w hw => by rw [show (k : Int) + j + ((0 : Nat) : Int) = k + j by omega, show (k : Int) + ((0 : Nat) : Int) = k by omega]; exact hw.sub) fun i hi => ?_
      refine r_seq ?_
      refine r_seq ?_
      refine r_region ?_
      refine r_move rfl rfl ?_
      refine r_lss rfl rfl rfl rfl ?_
      refine r_nil ?_
      refine r_tn ?_
      refine r_cond rfl (fun hc => ?_) (fun hc => ?_)
      · refine r_skip ?_
        refine r_tn ?_
        refine r_seq ?_
        refine r_block ?_
        refine r_seq ?_
        refine r_region ?_
        refine r_move rfl rfl ?_
        have hi5 : i < 5 := by have h := of_decide_eq_true hc; omega
        refine r_call rfl rfl rfl (by kernel_rfl) rfl (fun w hw => by exact count13 b33 (.slice A33 l.length c33) ((k : Int) + i) w (Rd.blk (hw.look (HasBlk.pick (b := b33))) (fun j u h => by simpa using h))) ?_
        refine r_move rfl rfl ?_
        refine r_convert rfl rfl rfl rfl (w64 (by omega)) ?_
        refine r_move rfl rfl ?_
        refine r_add rfl rfl rfl (w64 (by omega)) ?_
        refine r_neq rfl rfl rfl (decide_eq_false (by simp)) ?_
        refine r_move rfl rfl ?_
        refine r_go rfl rfl ?_
        refine r_move rfl rfl ?_
        refine r_go rfl rfl ?_
        refine r_callbo0 b33 (.slice A33 l.length c33) rfl rfl rfl (by kernel_rfl) rfl (fun w hs => by exact next13 b33 A33 c33 l ((k : Int) + i) (by omega) (by omega) w hs) ?_
        refine r_go rfl rfl ?_
        refine r_move rfl rfl ?_
        refine r_go rfl rfl ?_
        refine r_move rfl rfl ?_
        refine r_go rfl rfl ?_
        refine r_convert rfl rfl rfl rfl (w64 (by omega)) ?_
        refine r_go rfl rfl ?_
        refine r_move rfl rfl ?_
        refine r_go rfl rfl ?_
        refine r_add rfl rfl rfl (w64 (by omega)) ?_
        refine r_go rfl rfl ?_
        refine r_call rfl rfl rfl (by kernel_rfl) rfl (fun w hw => by exact refAt13 A c l ((k : Int) + i) (by omega) (by omega) w (hA.keep hw)) ?_
        refine r_go rfl rfl ?_
        refine r_neq rfl rfl rfl (decide_eq_false (by simp)) ?_
        refine r_pick_f rfl rfl rfl ?_
        refine r_move rfl rfl ?_
        refine r_go rfl rfl ?_
        refine r_move rfl rfl ?_
        refine r_go rfl rfl ?_
        refine r_callbo0 b21 (.slice A21 l.length c21) rfl rfl rfl (by kernel_rfl) rfl (fun w hs => by exact next13 b21 A21 c21 l ((k : Int) + j + i) (by omega) (by omega) w hs) ?_
        refine r_go rfl rfl ?_
        refine r_move rfl rfl ?_
        refine r_go rfl rfl ?_
        refine r_move rfl rfl ?_
        refine r_go rfl rfl ?_
        refine r_convert rfl rfl rfl rfl (w64 (by omega)) ?_
        refine r_go rfl rfl ?_
        refine r_move rfl rfl ?_
        refine r_go rfl rfl ?_
        refine r_convert rfl rfl rfl rfl (w64 (by omega)) ?_
        refine r_go rfl rfl ?_
        refine r_add rfl rfl rfl (w64 (by omega)) ?_
        refine r_go rfl rfl ?_
        refine r_move rfl rfl ?_
        refine r_go rfl rfl ?_
        refine r_add rfl rfl rfl (w64 (by omega)) ?_
        refine r_go rfl rfl ?_
        refine r_call rfl rfl rfl (by kernel_rfl) rfl (fun w hw => by exact refAt13 A c l ((k : Int) + j + i) (by omega) (by omega) w (hA.keep hw)) ?_
        refine r_go rfl rfl ?_
        refine r_neq rfl rfl rfl (decide_eq_false (by simp)) ?_
        refine r_pick_f rfl rfl rfl ?_
        refine r_nil ?_
        refine r_tn ?_
        refine r_cond_f rfl ?_
        refine r_skip ?_
        refine r_bn ?_
        refine r_tn ?_
        refine r_region ?_
        refine r_move rfl rfl ?_
        refine r_add rfl rfl rfl (w64 (by omega)) ?_
        refine r_assign rfl rfl ?_
        refine r_nil ?_
        refine r_tn ?_
        refine r_againN (i + 1) (by omega) (by omega) ⟨rfl, rfl, rfl, rfl, rfl, rfl, trivial⟩ (fun w hw => by rw [show (k : Int) + j + ((i + 1 : Nat) : Int) = k + j + i + 1 by omega, show (k : Int) + ((i + 1 : Nat) : Int) = k + i + 1 by omega]; exact hw.sub)
      · refine r_exit ?_
        refine r_te ?_
        refine r_te ?_
        refine r_be ?_
        refine r_tn ?_
        refine r_seq ?_
        refine r_region ?_
        refine r_assign rfl rfl ?_
        refine r_nil ?_
        refine r_tn ?_
        refine r_ret ?_
        exact r_done1 (.inl rfl) rfl (res_tmp rfl) fun w hw => ⟨rfl, hw.clear⟩

theorem RandomClones_walk (A : Option Addr) (c : Nat) (l : List Int) (n m : Int) (W : World) (hA : Rd W A (l.map (Value.int .u8))) (hma : l.length ≤ 140737488351232) (hn : (Lit.int .u8 n).wf = true) (hm : (Lit.int .u8 m).wf = true) :
    Calls Try.prog 12 #[.slice A l.length c, .int .u8 n, .int .u8 m] W fun e w' => e = .returned (.bool true) ∧ Sat W [] [] w' := by
  by_cases h1 : l.length ≤ 1000
  · exact RandomClones_ok A c l n m W hA hma (wf8 hn) (wf8 hm) h1
  · exact RandomClones_many A c l n m W hA hma (wf8 hn) (wf8 hm) (by omega)
end Go.Proofs.Ytapknkmlgmckkaa
