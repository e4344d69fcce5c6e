/-
  RandomMatchesReference: a stream yields what the reference tells.
-/
import Derived.Test.YtapknkmlgmckkaaAw13
namespace Go.Proofs.Ytapknkmlgmckkaa
open Go Go.RowKit
set_option linter.unusedVariables false
set_option maxHeartbeats 2000000

theorem wf8 {n : Int} (h : (Lit.int .u8 n).wf = true) : 0 ≤ n ∧ n ≤ 255 := by
  have h2 := h
  simp only [Lit.wf, Bool.and_eq_true, decide_eq_true_eq] at h2
  rw [show IntKind.u8.min = 0 from by rfl, show IntKind.u8.max = 255 from by rfl] at h2
  exact h2
theorem wf16 {n : Int} (h : (Lit.int .u16 n).wf = true) : 0 ≤ n ∧ n ≤ 65535 := by
  have h2 := h
  simp only [Lit.wf, Bool.and_eq_true, decide_eq_true_eq] at h2
  rw [show IntKind.u16.min = 0 from by rfl, show IntKind.u16.max = 65535 from by rfl] at h2
  exact h2
theorem wf64' {n : Int} (h : (Lit.int .i64 n).wf = true) : -9223372036854775808 ≤ n ∧ n ≤ 9223372036854775807 := by
  have h2 := h
  simp only [Lit.wf, Bool.and_eq_true, decide_eq_true_eq] at h2
  rw [show IntKind.i64.min = -9223372036854775808 from by rfl, show IntKind.i64.max = 9223372036854775807 from by rfl] at h2
  exact h2


set_option maxRecDepth 4000 in
theorem RandomMatchesReference_many (A : Option Addr) (c : Nat) (l : List Int) (n q : Int) (W : World) (hA : Rd W A (l.map (Value.int .u8))) (hma : l.length ≤ 140737488351232) (hn : 0 ≤ n ∧ n ≤ 255) (hq : -9223372036854775808 ≤ q ∧ q ≤ 9223372036854775807) (hl : 1000 < l.length) :
    Calls Try.prog 10 #[.slice A l.length c, .int .u8 n, .int .i64 q] W fun e w' => e = .returned (.bool true) ∧ Sat W [] [] w' := by
  refine enter Try.func10 rfl rfl rfl ?_
  refine r_seq ?_
  refine r_region ?_
  refine r_assign rfl rfl ?_
  refine r_nil ?_
  refine r_tn ?_
  refine r_seq ?_
  refine r_seq ?_
  refine r_region ?_
  refine r_call rfl rfl rfl (by kernel_rfl) rfl (fun w hw => by exact awake13 w) ?_
  refine r_not rfl rfl rfl ?_
  refine r_move rfl rfl ?_
  refine r_go rfl rfl ?_
  refine r_move rfl rfl ?_
  refine r_go rfl rfl ?_
  refine r_len rfl rfl rfl ?_
  refine r_go rfl rfl ?_
  refine r_gtr rfl rfl rfl (decide_eq_true (by omega)) ?_
  refine r_pick_f rfl rfl rfl ?_
  refine r_nil ?_
  refine r_tn ?_
  refine r_cond_t rfl ?_
  refine r_seq ?_
  refine r_region ?_
  refine r_call rfl rfl rfl (by kernel_rfl) rfl (fun w hw => by exact awake13 w) ?_
  refine r_assign rfl rfl ?_
  refine r_nil ?_
  refine r_tn ?_
  refine r_ret ?_
  refine r_tr ?_
  exact r_done1 (.inl rfl) rfl (res_tmp rfl) fun w hw => ⟨rfl, hw.clear⟩

theorem RandomMatchesReference_ok (A : Option Addr) (c : Nat) (l : List Int) (n q : Int) (W : World) (hA : Rd W A (l.map (Value.int .u8))) (hma : l.length ≤ 140737488351232) (hn : 0 ≤ n ∧ n ≤ 255) (hq : -9223372036854775808 ≤ q ∧ q ≤ 9223372036854775807) (hl : l.length ≤ 1000) :
    Calls Try.prog 10 #[.slice A l.length c, .int .u8 n, .int .i64 q] W fun e w' => e = .returned (.bool true) ∧ Sat W [] [] w' := by
  refine enter Try.func10 rfl rfl rfl ?_
  refine r_seq ?_
  refine r_region ?_
  refine r_assign rfl rfl ?_
  refine r_nil ?_
  refine r_tn ?_
  refine r_seq ?_
  refine r_seq ?_
  refine r_region ?_
  refine r_call rfl rfl rfl (by kernel_rfl) rfl (fun w hw => by exact awake13 w) ?_
  refine r_not rfl rfl rfl ?_
  refine r_move rfl rfl ?_
  refine r_go rfl rfl ?_
  refine r_move rfl rfl ?_
  refine r_go rfl rfl ?_
  refine r_len rfl rfl rfl ?_
  refine r_go rfl rfl ?_
  refine r_gtr rfl rfl rfl (decide_eq_false (by omega)) ?_
  refine r_pick_f rfl rfl rfl ?_
  refine r_nil ?_
  refine r_tn ?_
  refine r_cond_f rfl ?_
  refine r_skip ?_
  refine r_tn ?_
  refine r_seq ?_
  refine r_region ?_
  refine r_lit (sz := 1) (pv := []) (cells := #[]) rfl rfl rfl rfl rfl rfl (by kernel_rfl) rfl (fun b19 => ?_) (by decide)
  refine r_move rfl rfl ?_
  refine r_append (k := l.length) (news := l.map (Value.int .u8)) (sz := 1) (bytes := 1) rfl rfl rfl rfl rfl rfl (by decide) (fun w hw => hA.keep hw) (by first | (simp; done) | (simp; omega)) (fun u hu => by simp at hu; first | (obtain ⟨x, _, rfl⟩ := hu; rfl) | (subst hu; rfl)) (by omega) (by unfold maxLen; omega) fun A21 c21 => ?_
  rw [List.nil_append, Nat.zero_add]
  refine r_assign rfl rfl ?_
  refine r_nil ?_
  refine r_tn ?_
  refine r_seq ?_
  refine r_region ?_
  refine r_move rfl rfl ?_
  refine r_callx rfl rfl rfl (by kernel_rfl) rfl (fun w hw => new13 A21 c21 l (by omega) w (own_rd (A := A21) (m := l.length) (c := c21) hw)) ?_
  rintro ⟨b23, A23, c23⟩ _
  refine r_assign rfl rfl ?_
  refine r_nil ?_
  refine r_tn ?_
  refine r_seq ?_
  refine r_seq ?_
  refine r_region ?_
  refine r_move rfl rfl ?_
  refine r_eql_pointer rfl rfl rfl rfl rfl ?_
  refine r_nil ?_
  refine r_tn ?_
  refine r_cond_f rfl ?_
  refine r_skip ?_
  refine r_tn ?_
  refine r_seq ?_
  refine r_seq ?_
  refine r_region ?_
  refine r_assign rfl rfl ?_
  refine r_nil ?_
  refine r_tn ?_
  refine r_block ?_
  refine r_loop1 (fun k y => [(0, .slice A l.length c), (1, .int .u8 n), (2, .int .i64 q), (8, .pointer (some ⟨b23, 0, none⟩)), (7, .slice A21 l.length c21), (9, .int .i64 (k : Int))]) (fun k y => [.own 5 1 (.slice A21 l.length c21) l.length (y.map (Value.int .u8)), stB b23 A23 c23 l 0, stO A23 c23 l]) (fun k y => k ≤ l.length ∧ y.length = l.length) l.length 0 l (by simp) ⟨rfl, rfl, rfl, rfl, rfl, rfl, trivial⟩ (fun w hw => hw.sub) fun k y hk => ?_
  refine r_seq ?_
  refine r_seq ?_
  refine r_region ?_
  refine r_move rfl rfl ?_
  refine r_move rfl rfl ?_
  refine r_len rfl rfl rfl ?_
  refine r_lss rfl rfl rfl rfl ?_
  refine r_nil ?_
  refine r_tn ?_
  refine r_cond rfl (fun hc => ?_) (fun hc => ?_)
  · refine r_skip ?_
    refine r_tn ?_
    refine r_seq ?_
    refine r_block ?_
    refine r_region ?_
    have hkb : k < l.length := by have h := of_decide_eq_true hc; omega
    have hky : k < y.length := by omega
    refine r_have (fun w hw => own_some (A := A21) (m := l.length) (c := c21) hw (by omega)) fun hg => ?_
    obtain ⟨g, rfl⟩ := hg
    refine r_move rfl rfl ?_
    refine r_move rfl rfl ?_
    refine r_indexSl (sz := 1) rfl rfl rfl rfl rfl (by omega) (by omega) (show _ = k by simp) ?_
    refine r_loadC rfl rfl rfl (fun w hw => by have h := (own_rd (A := some ⟨g, 0, none⟩) (m := l.length) (c := c21) hw).cell (j := k) (u := .int .u8 y[k]) (by simp [hky]) rfl; simpa using h) ?_
    refine r_add rfl rfl rfl rfl ?_
    refine r_indexSl (sz := 1) rfl rfl rfl rfl rfl (by omega) (by omega) (show _ = k by simp) ?_
    refine r_storeOwn (m := l.length) (c := c21) rfl rfl rfl rfl rfl (by omega) ?_
    refine r_nil ?_
    refine r_bn ?_
    refine r_tn ?_
    refine r_region ?_
    refine r_move rfl rfl ?_
    refine r_add rfl rfl rfl (w64 (by omega)) ?_
    refine r_assign rfl rfl ?_
    refine r_nil ?_
    refine r_tn ?_
    refine r_again1 (k + 1) (y.set k (IntKind.u8.wrap (y[k] + 1))) ⟨by omega, by simp; omega⟩ (by omega) ⟨rfl, rfl, rfl, rfl, rfl, rfl, trivial⟩ (fun w hw => by rw [← List.map_set] at hw; exact hw.sub)
  · refine r_exit ?_
    refine r_te ?_
    refine r_te ?_
    refine r_be ?_
    refine r_tn ?_
    refine r_seq ?_
    refine r_seq ?_
    refine r_region ?_
    refine r_assign rfl rfl ?_
    refine r_nil ?_
    refine r_tn ?_
    refine r_block ?_
    refine r_loopN (fun k => [(0, .slice A l.length c), (1, .int .u8 n), (2, .int .i64 q), (8, .pointer (some ⟨b23, 0, none⟩)), (10, .int .i64 (k : Int))]) (fun k => [stB b23 A23 c23 l k, stO A23 c23 l]) (fun k => (k : Int) ≤ n) n.toNat 0 (by omega) ⟨rfl, rfl, rfl, rfl, rfl, trivial⟩ (fun w hw => hw.sub) fun k hk => ?_
    refine r_seq ?_
    refine r_seq ?_
    refine r_region ?_
    refine r_move rfl rfl ?_
    refine r_move rfl rfl ?_
    refine r_convert rfl rfl rfl rfl (w64 (z := n) (by omega)) ?_
    refine r_lss rfl rfl rfl rfl ?_
    refine r_nil ?_
    refine r_tn ?_
    refine r_cond rfl (fun hc => ?_) (fun hc => ?_)
    · refine r_skip ?_
      refine r_tn ?_
      refine r_seq ?_
      refine r_block ?_
      refine r_seq ?_
      refine r_region ?_
      refine r_move rfl rfl ?_
      have hkn : (k : Int) < n := by have h := of_decide_eq_true hc; omega
      refine r_call rfl rfl rfl (by kernel_rfl) rfl (fun w hw => by exact count13 b23 (.slice A23 l.length c23) k w (Rd.blk (hw.look (HasBlk.pick (b := b23))) (fun j u h => by simpa using h))) ?_
      refine r_move rfl rfl ?_
      refine r_neq rfl rfl rfl (decide_eq_false (by simp)) ?_
      refine r_move rfl rfl ?_
      refine r_go rfl rfl ?_
      refine r_move rfl rfl ?_
      refine r_go rfl rfl ?_
      refine r_callbo0 b23 (.slice A23 l.length c23) rfl rfl rfl (by kernel_rfl) rfl (fun w hs => by exact next13 b23 A23 c23 l k (by omega) (by omega) w hs) ?_
      refine r_go rfl rfl ?_
      refine r_move rfl rfl ?_
      refine r_go rfl rfl ?_
      refine r_move rfl rfl ?_
      refine r_go rfl rfl ?_
      refine r_call rfl rfl rfl (by kernel_rfl) rfl (fun w hw => by exact refAt13 A c l k (by omega) (by omega) w (hA.keep hw)) ?_
      refine r_go rfl rfl ?_
      refine r_neq rfl rfl rfl (decide_eq_false (by simp)) ?_
      refine r_pick_f rfl rfl rfl ?_
      refine r_nil ?_
      refine r_tn ?_
      refine r_cond_f rfl ?_
      refine r_skip ?_
      refine r_bn ?_
      refine r_tn ?_
      refine r_region ?_
      refine r_move rfl rfl ?_
      refine r_add rfl rfl rfl (w64 (by omega)) ?_
      refine r_assign rfl rfl ?_
      refine r_nil ?_
      refine r_tn ?_
      refine r_againN (k + 1) (by omega) (by omega) ⟨rfl, rfl, rfl, rfl, rfl, trivial⟩ (fun w hw => (hw.sub : Sat _ _ [stB b23 A23 c23 l ((k : Int) + 1), stO A23 c23 l] w))
    · refine r_exit ?_
      refine r_te ?_
      refine r_te ?_
      refine r_be ?_
      refine r_tn ?_
      refine r_seq ?_
      refine r_region ?_
      refine r_move rfl rfl ?_
      have hkn : (k : Int) = n := by have h := of_decide_eq_false hc; omega
      refine r_call rfl rfl rfl (by kernel_rfl) rfl (fun w hw => by exact count13 b23 (.slice A23 l.length c23) k w (Rd.blk (hw.look (HasBlk.pick (b := b23))) (fun j u h => by simpa using h))) ?_
      refine r_move rfl rfl ?_
      refine r_convert rfl rfl rfl rfl (w64 (z := n) (by omega)) ?_
      refine r_eql rfl rfl rfl (decide_eq_true hkn) ?_
      refine r_move rfl rfl ?_
      refine r_go rfl rfl ?_
      refine r_move rfl rfl ?_
      refine r_go rfl rfl ?_
      refine r_move rfl rfl ?_
      refine r_go rfl rfl ?_
      refine r_call rfl rfl rfl (by kernel_rfl) rfl (fun w hw => by exact at13 A c l q hq (by omega) w (hA.keep hw)) ?_
      refine r_go rfl rfl ?_
      refine r_move rfl rfl ?_
      refine r_go rfl rfl ?_
      refine r_move rfl rfl ?_
      refine r_go rfl rfl ?_
      refine r_call rfl rfl rfl (by kernel_rfl) rfl (fun w hw => by exact refAt13 A c l q hq (by omega) w (hA.keep hw)) ?_
      refine r_go rfl rfl ?_
      refine r_eql rfl rfl rfl (decide_eq_true (by simp)) ?_
      refine r_pick_t rfl rfl rfl ?_
      refine r_assign rfl rfl ?_
      refine r_nil ?_
      refine r_tn ?_
      refine r_ret ?_
      exact r_done1 (.inl rfl) rfl (res_tmp rfl) fun w hw => ⟨rfl, hw.clear⟩

theorem RandomMatchesReference_walk (A : Option Addr) (c : Nat) (l : List Int) (n q : Int) (W : World) (hA : Rd W A (l.map (Value.int .u8))) (hma : l.length ≤ 140737488351232) (hn : (Lit.int .u8 n).wf = true) (hq : (Lit.int .i64 q).wf = true) :
    Calls Try.prog 10 #[.slice A l.length c, .int .u8 n, .int .i64 q] W fun e w' => e = .returned (.bool true) ∧ Sat W [] [] w' := by
  by_cases h1 : l.length ≤ 1000
  · exact RandomMatchesReference_ok A c l n q W hA hma (wf8 hn) (wf64' hq) h1
  · exact RandomMatchesReference_many A c l n q W hA hma (wf8 hn) (wf64' hq) (by omega)
end Go.Proofs.Ytapknkmlgmckkaa
