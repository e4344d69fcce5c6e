/-
  RandomResumes: a stream that is resumed goes on where the other one stood.
-/
import Derived.Test.YtapknkmlgmckkaaAw13
namespace Go.Proofs.Ytapknkmlgmckkaa
open Go Go.RowKit
set_option linter.unusedVariables false
set_option maxHeartbeats 2000000

theorem wf8 {n : Int} (h : (Lit.int .u8 n).wf = true) : 0 ≤ n ∧ n ≤ 255 := by
  have h2 := h
  simp only [Lit.wf, Bool.and_eq_true, decide_eq_true_eq] at h2
  rw [show IntKind.u8.min = 0 from by rfl, show IntKind.u8.max = 255 from by rfl] at h2
  exact h2
theorem wf16 {n : Int} (h : (Lit.int .u16 n).wf = true) : 0 ≤ n ∧ n ≤ 65535 := by
  have h2 := h
  simp only [Lit.wf, Bool.and_eq_true, decide_eq_true_eq] at h2
  rw [show IntKind.u16.min = 0 from by rfl, show IntKind.u16.max = 65535 from by rfl] at h2
  exact h2
theorem wf64' {n : Int} (h : (Lit.int .i64 n).wf = true) : -9223372036854775808 ≤ n ∧ n ≤ 9223372036854775807 := by
  have h2 := h
  simp only [Lit.wf, Bool.and_eq_true, decide_eq_true_eq] at h2
  rw [show IntKind.i64.min = -9223372036854775808 from by rfl, show IntKind.i64.max = 9223372036854775807 from by rfl] at h2
  exact h2


theorem drop_step {l y : List Int} {k : Nat} (hk : k < y.length) (hl : k < l.length) (h : y.drop k = l.drop k) : y[k] = l[k] ∧ ∀ v, (y.set k v).drop (k + 1) = l.drop (k + 1) := by
  rw [List.drop_eq_getElem_cons hk, List.drop_eq_getElem_cons hl] at h
  injection h with h1 h2
  exact ⟨h1, fun v => by rw [List.drop_set_of_lt (by omega), h2]⟩


set_option maxRecDepth 4000 in
theorem RandomResumes_many (A : Option Addr) (c : Nat) (l : List Int) (n q : Int) (W : World) (hA : Rd W A (l.map (Value.int .u8))) (hma : l.length ≤ 140737488351232) (hn : 0 ≤ n ∧ n ≤ 255) (hq : -9223372036854775808 ≤ q ∧ q ≤ 9223372036854775807) (hl : 1000 < l.length) :
    Calls Try.prog 13 #[.slice A l.length c, .int .u8 n, .int .i64 q] W fun e w' => e = .returned (.bool true) ∧ Sat W [] [] w' := by
  refine enter Try.func13 rfl rfl rfl ?_
  refine r_seq ?_
  refine r_region ?_
  refine r_assign rfl rfl ?_
  refine r_nil ?_
  refine r_tn ?_
  refine r_seq ?_
  refine r_seq ?_
  refine r_region ?_
  refine r_call rfl rfl rfl (by kernel_rfl) rfl (fun w hw => by exact awake13 w) ?_
  refine r_not rfl rfl rfl ?_
  refine r_move rfl rfl ?_
  refine r_go rfl rfl ?_
  refine r_move rfl rfl ?_
  refine r_go rfl rfl ?_
  refine r_len rfl rfl rfl ?_
  refine r_go rfl rfl ?_
  refine r_gtr rfl rfl rfl (decide_eq_true (by omega)) ?_
  refine r_pick_f rfl rfl rfl ?_
  refine r_nil ?_
  refine r_tn ?_
  refine r_cond_t rfl ?_
  refine r_seq ?_
  refine r_region ?_
  refine r_call rfl rfl rfl (by kernel_rfl) rfl (fun w hw => by exact awake13 w) ?_
  refine r_assign rfl rfl ?_
  refine r_nil ?_
  refine r_tn ?_
  refine r_ret ?_
  refine r_tr ?_
  exact r_done1 (.inl rfl) rfl (res_tmp rfl) fun w hw => ⟨rfl, hw.clear⟩

theorem RandomResumes_ok (A : Option Addr) (c : Nat) (l : List Int) (n q : Int) (W : World) (hA : Rd W A (l.map (Value.int .u8))) (hma : l.length ≤ 140737488351232) (hn : 0 ≤ n ∧ n ≤ 255) (hq : -9223372036854775808 ≤ q ∧ q ≤ 9223372036854775807) (hl : l.length ≤ 1000) :
    Calls Try.prog 13 #[.slice A l.length c, .int .u8 n, .int .i64 q] W fun e w' => e = .returned (.bool true) ∧ Sat W [] [] w' := by
  refine enter Try.func13 rfl rfl rfl ?_
  refine r_seq ?_
  refine r_region ?_
  refine r_assign rfl rfl ?_
  refine r_nil ?_
  refine r_tn ?_
  refine r_seq ?_
  refine r_seq ?_
  refine r_region ?_
  refine r_call rfl rfl rfl (by kernel_rfl) rfl (fun w hw => by exact awake13 w) ?_
  refine r_not rfl rfl rfl ?_
  refine r_move rfl rfl ?_
  refine r_go rfl rfl ?_
  refine r_move rfl rfl ?_
  refine r_go rfl rfl ?_
  refine r_len rfl rfl rfl ?_
  refine r_go rfl rfl ?_
  refine r_gtr rfl rfl rfl (decide_eq_false (by omega)) ?_
  refine r_pick_f rfl rfl rfl ?_
  refine r_nil ?_
  refine r_tn ?_
  refine r_cond_f rfl ?_
  refine r_skip ?_
  refine r_tn ?_
  refine r_seq ?_
  refine r_region ?_
  refine r_move rfl rfl ?_
  refine r_callx rfl rfl rfl (by kernel_rfl) rfl (fun w hw => new13 A c l (by omega) w (hA.keep hw)) ?_
  rintro ⟨b23, A23, c23⟩ _
  refine r_assign rfl rfl ?_
  refine r_nil ?_
  refine r_tn ?_
  refine r_seq ?_
  refine r_seq ?_
  refine r_region ?_
  refine r_move rfl rfl ?_
  refine r_eql_pointer rfl rfl rfl rfl rfl ?_
  refine r_nil ?_
  refine r_tn ?_
  refine r_cond_f rfl ?_
  refine r_skip ?_
  refine r_tn ?_
  refine r_seq ?_
  refine r_seq ?_
  refine r_region ?_
  refine r_assign rfl rfl ?_
  refine r_nil ?_
  refine r_tn ?_
  refine r_block ?_
  refine r_loopN (fun k => [(0, .slice A l.length c), (1, .int .u8 n), (2, .int .i64 q), (7, .pointer (some ⟨b23, 0, none⟩)), (8, .int .i64 (k : Int))]) (fun k => [stB b23 A23 c23 l k, stO A23 c23 l]) (fun k => (k : Int) ≤ n) n.toNat 0 (by omega) ⟨rfl, rfl, rfl, rfl, rfl, trivial⟩ (fun w hw => hw.sub) fun k hk => ?_
  refine r_seq ?_
  refine r_seq ?_
  refine r_region ?_
  refine r_move rfl rfl ?_
  refine r_move rfl rfl ?_
  refine r_convert rfl rfl rfl rfl (w64 (by omega)) ?_
  refine r_lss rfl rfl rfl rfl ?_
  refine r_nil ?_
  refine r_tn ?_
  refine r_cond rfl (fun hc => ?_) (fun hc => ?_)
  · refine r_skip ?_
    refine r_tn ?_
    refine r_seq ?_
    refine r_block ?_
    refine r_region ?_
    refine r_move rfl rfl ?_
    have hkn : (k : Int) < n := by have h := of_decide_eq_true hc; omega
    refine r_callbo0 b23 (.slice A23 l.length c23) rfl rfl rfl (by kernel_rfl) rfl (fun w hs => by exact next13 b23 A23 c23 l k (by omega) (by omega) w hs) ?_
    refine r_nil ?_
    refine r_bn ?_
    refine r_tn ?_
    refine r_region ?_
    refine r_move rfl rfl ?_
    refine r_add rfl rfl rfl (w64 (by omega)) ?_
    refine r_assign rfl rfl ?_
    refine r_nil ?_
    refine r_tn ?_
    refine r_againN (k + 1) (by omega) (by omega) ⟨rfl, rfl, rfl, rfl, rfl, trivial⟩ (fun w hw => (hw.sub : Sat _ _ [stB b23 A23 c23 l ((k : Int) + 1), stO A23 c23 l] w))
  · refine r_exit ?_
    refine r_te ?_
    refine r_te ?_
    refine r_be ?_
    refine r_tn ?_
    refine r_seq ?_
    refine r_region ?_
    have hkn : n = (k : Int) := by have h := of_decide_eq_false hc; omega
    subst hkn
    refine r_move rfl rfl ?_
    refine r_callx rfl rfl rfl (by kernel_rfl) rfl (fun w hw => list13 b23 A23 c23 l k (by omega) w (Rd.blk (hw.look (HasBlk.pick (b := b23))) (fun j u h => by simpa using h)) (own_rd (A := A23) (m := l.length) (c := c23) hw)) ?_
    rintro ⟨A35, c35⟩ _
    refine r_assign rfl rfl ?_
    refine r_nil ?_
    refine r_tn ?_
    refine r_seq ?_
    refine r_region ?_
    refine r_move rfl rfl ?_
    refine r_move rfl rfl ?_
    refine r_call rfl rfl rfl (by kernel_rfl) rfl (fun w hw => by exact count13 b23 (.slice A23 l.length c23) k w (Rd.blk (hw.look (HasBlk.pick (b := b23))) (fun j u h => by simpa using h))) ?_
    refine r_callx rfl rfl rfl (by kernel_rfl) rfl (fun w hw => resume13 A35 c35 l k (by omega) w (own_rd (A := A35) (m := l.length) (c := c35) hw)) ?_
    rintro ⟨b39, A39, c39⟩ _
    rw [if_neg (show ¬ (0 : Int) > k by omega)]
    refine r_assign rfl rfl ?_
    refine r_nil ?_
    refine r_tn ?_
    refine r_seq ?_
    refine r_region ?_
    refine r_move rfl rfl ?_
    refine r_move rfl rfl ?_
    refine r_callx rfl rfl rfl (by kernel_rfl) rfl (fun w hw => resume13 A c l q (by omega) w (hA.keep hw)) ?_
    rintro ⟨b42, A42, c42⟩ _
    refine r_assign rfl rfl ?_
    refine r_nil ?_
    refine r_tn ?_
    refine r_seq ?_
    refine r_seq ?_
    refine r_region ?_
    refine r_move rfl rfl ?_
    refine r_eql_pointer rfl rfl rfl rfl rfl ?_
    refine r_move rfl rfl ?_
    refine r_go rfl rfl ?_
    refine r_move rfl rfl ?_
    refine r_go rfl rfl ?_
    refine r_eql_pointer rfl rfl rfl rfl rfl ?_
    refine r_pick_f rfl rfl rfl ?_
    refine r_move rfl rfl ?_
    refine r_go rfl rfl ?_
    refine r_move rfl rfl ?_
    refine r_go rfl rfl ?_
    refine r_len rfl rfl rfl ?_
    refine r_go rfl rfl ?_
    refine r_move rfl rfl ?_
    refine r_go rfl rfl ?_
    refine r_len rfl rfl rfl ?_
    refine r_go rfl rfl ?_
    refine r_neq rfl rfl rfl (decide_eq_false (by simp)) ?_
    refine r_pick_f rfl rfl rfl ?_
    refine r_nil ?_
    refine r_tn ?_
    refine r_cond_f rfl ?_
    refine r_skip ?_
    refine r_tn ?_
    refine r_seq ?_
    refine r_seq ?_
    refine r_region ?_
    refine r_assign rfl rfl ?_
    refine r_nil ?_
    refine r_tn ?_
    refine r_block ?_
    refine r_loop1 (fun i y => [(0, .slice A l.length c), (1, .int .u8 (k : Int)), (2, .int .i64 q), (10, .pointer (some ⟨b39, 0, none⟩)), (11, .pointer (some ⟨b42, 0, none⟩)), (9, .slice A35 l.length c35), (12, .int .i64 (i : Int))]) (fun i y => [.own 5 1 (.slice A35 l.length c35) l.length (y.map (Value.int .u8)), stB b39 A39 c39 l k, stO A39 c39 l, stB b42 A42 c42 l (if (0 : Int) > q then 0 else q), stO A42 c42 l]) (fun i y => i ≤ l.length ∧ y.length = l.length ∧ y.drop i = l.drop i) l.length 0 l (by simp) ⟨rfl, rfl, rfl, rfl, rfl, rfl, rfl, trivial⟩ (fun w hw => hw.sub) fun i y hi => ?_
    refine r_seq ?_
    refine r_seq ?_
    refine r_region ?_
    refine r_move rfl rfl ?_
    refine r_move rfl rfl ?_
    refine r_len rfl rfl rfl ?_
    refine r_lss rfl rfl rfl rfl ?_
    refine r_nil ?_
    refine r_tn ?_
    refine r_cond rfl (fun hc => ?_) (fun hc => ?_)
    · refine r_skip ?_
      refine r_tn ?_
      refine r_seq ?_
      refine r_block ?_
      refine r_seq ?_
      refine r_seq ?_
      refine r_mixed (by kernel_rfl) (by kernel_rfl) ?_
      have hil : i < l.length := by have h := of_decide_eq_true hc; omega
      have hiy : i < y.length := by omega
      have hds := drop_step hiy hil hi.2.2
      refine r_have (fun w hw => own_some (A := A35) (m := l.length) (c := c35) hw (by omega)) fun hg => ?_
      obtain ⟨g, rfl⟩ := hg
      obtain ⟨ba, oa, rfl, hca⟩ := hA i (.int .u8 l[i]) (by simp [hil])
      refine r_move rfl rfl ?_
      refine r_move rfl rfl ?_
      refine r_indexSl (sz := 1) rfl rfl rfl rfl rfl (by omega) (by omega) (show _ = i by simp) ?_
      refine r_loadC rfl rfl rfl (fun w hw => by have h := (own_rd (A := some ⟨g, 0, none⟩) (m := l.length) (c := c35) hw).cell (j := i) (u := .int .u8 y[i]) (by simp [hiy]) rfl; simpa using h) ?_
      refine r_move rfl rfl ?_
      refine r_move rfl rfl ?_
      refine r_indexSl (sz := 1) rfl rfl rfl rfl rfl (by omega) (by omega) (show _ = oa + i by simp) ?_
      refine r_loadC rfl rfl rfl (fun w hw => (hA.keep hw).cell (j := i) (u := .int .u8 l[i]) (by simp [hil]) rfl) ?_
      refine r_neq rfl rfl rfl (decide_eq_false (by simp [hds.1])) ?_
      refine r_nil ?_
      refine r_tn ?_
      refine r_cond_f rfl ?_
      refine r_skip ?_
      refine r_tn ?_
      refine r_region ?_
      refine r_move rfl rfl ?_
      refine r_move rfl rfl ?_
      refine r_indexSl (sz := 1) rfl rfl rfl rfl rfl (by omega) (by omega) (show _ = i by simp) ?_
      refine r_loadC rfl rfl rfl (fun w hw => by have h := (own_rd (A := some ⟨g, 0, none⟩) (m := l.length) (c := c35) hw).cell (j := i) (u := .int .u8 y[i]) (by simp [hiy]) rfl; simpa using h) ?_
      refine r_add rfl rfl rfl rfl ?_
      refine r_indexSl (sz := 1) rfl rfl rfl rfl rfl (by omega) (by omega) (show _ = i by simp) ?_
      refine r_storeOwn (m := l.length) (c := c35) rfl rfl rfl rfl rfl (by omega) ?_
      refine r_nil ?_
      refine r_bn ?_
      refine r_tn ?_
      refine r_region ?_
      refine r_move rfl rfl ?_
      refine r_add rfl rfl rfl (w64 (by omega)) ?_
      refine r_assign rfl rfl ?_
      refine r_nil ?_
      refine r_tn ?_
      refine r_again1 (i + 1) (y.set i (IntKind.u8.wrap (y[i] + 1))) ⟨by omega, by simp; omega, hds.2 _⟩ (by omega) ⟨rfl, rfl, rfl, rfl, rfl, rfl, rfl, trivial⟩ (fun w hw => by rw [← List.map_set] at hw; exact hw.sub)
    · refine r_exit ?_
      refine r_te ?_
      refine r_te ?_
      refine r_be ?_
      refine r_tn ?_
      refine r_seq ?_
      refine r_seq ?_
      refine r_region ?_
      refine r_assign rfl rfl ?_
      refine r_nil ?_
      refine r_tn ?_
      refine r_block ?_
      refine r_loopN (fun i => [(0, .slice A l.length c), (1, .int .u8 (k : Int)), (2, .int .i64 q), (10, .pointer (some ⟨b39, 0, none⟩)), (11, .pointer (some ⟨b42, 0, none⟩)), (13, .int .i64 (i : Int))]) (fun i => [stB b39 A39 c39 l ((k : Int) + i), stO A39 c39 l, stB b42 A42 c42 l (if (0 : Int) > q then 0 else q), stO A42 c42 l]) (fun i => i ≤ 5) 5 0 (by omega) ⟨rfl, rfl, rfl, rfl, rfl, rfl, trivial⟩ (fun w hw => by rw [show (k : Int) + ((0 : Nat) : Int) = k by omega]; exact hw.sub) fun i hi => ?_
      refine r_seq ?_
      refine r_seq ?_
      refine r_region ?_
      refine r_move rfl rfl ?_
      refine r_lss rfl rfl rfl rfl ?_
      refine r_nil ?_
      refine r_tn ?_
      refine r_cond rfl (fun hc => ?_) (fun hc => ?_)
      · refine r_skip ?_
        refine r_tn ?_
        refine r_seq ?_
        refine r_block ?_
        refine r_seq ?_
        refine r_region ?_
        refine r_move rfl rfl ?_
        have hi5 : i < 5 := by have h := of_decide_eq_true hc; omega
        refine r_call rfl rfl rfl (by kernel_rfl) rfl (fun w hw => by exact count13 b39 (.slice A39 l.length c39) ((k : Int) + i) w (Rd.blk (hw.look (HasBlk.pick (b := b39))) (fun j u h => by simpa using h))) ?_
        refine r_move rfl rfl ?_
        refine r_convert rfl rfl rfl rfl (w64 (by omega)) ?_
        refine r_move rfl rfl ?_
        refine r_add rfl rfl rfl (w64 (by omega)) ?_
        refine r_neq rfl rfl rfl (decide_eq_false (by simp)) ?_
        refine r_move rfl rfl ?_
        refine r_go rfl rfl ?_
        refine r_move rfl rfl ?_
        refine r_go rfl rfl ?_
        refine r_callbo0 b39 (.slice A39 l.length c39) rfl rfl rfl (by kernel_rfl) rfl (fun w hs => by exact next13 b39 A39 c39 l ((k : Int) + i) (by omega) (by omega) w hs) ?_
        refine r_go rfl rfl ?_
        refine r_move rfl rfl ?_
        refine r_go rfl rfl ?_
        refine r_move rfl rfl ?_
        refine r_go rfl rfl ?_
        refine r_convert rfl rfl rfl rfl (w64 (by omega)) ?_
        refine r_go rfl rfl ?_
        refine r_move rfl rfl ?_
        refine r_go rfl rfl ?_
        refine r_add rfl rfl rfl (w64 (by omega)) ?_
        refine r_go rfl rfl ?_
        refine r_call rfl rfl rfl (by kernel_rfl) rfl (fun w hw => by exact refAt13 A c l ((k : Int) + i) (by omega) (by omega) w (hA.keep hw)) ?_
        refine r_go rfl rfl ?_
        refine r_neq rfl rfl rfl (decide_eq_false (by simp)) ?_
        refine r_pick_f rfl rfl rfl ?_
        refine r_nil ?_
        refine r_tn ?_
        refine r_cond_f rfl ?_
        refine r_skip ?_
        refine r_bn ?_
        refine r_tn ?_
        refine r_region ?_
        refine r_move rfl rfl ?_
        refine r_add rfl rfl rfl (w64 (by omega)) ?_
        refine r_assign rfl rfl ?_
        refine r_nil ?_
        refine r_tn ?_
        refine r_againN (i + 1) (by omega) (by omega) ⟨rfl, rfl, rfl, rfl, rfl, rfl, trivial⟩ (fun w hw => by rw [show (k : Int) + ((i + 1 : Nat) : Int) = k + i + 1 by omega]; exact hw.sub)
      · refine r_exit ?_
        refine r_te ?_
        refine r_te ?_
        refine r_be ?_
        refine r_tn ?_
        refine r_seq ?_
        refine r_region ?_
        refine r_move rfl rfl ?_
        refine r_call rfl rfl rfl (by kernel_rfl) rfl (fun w hw => by exact count13 b42 (.slice A42 l.length c42) (if (0 : Int) > q then 0 else q) w (Rd.blk (hw.look (HasBlk.pick (b := b42))) (fun j u h => by simpa using h))) ?_
        refine r_move rfl rfl ?_
        refine r_max rfl rfl rfl rfl ?_
        refine r_eql rfl rfl rfl (decide_eq_true (by simp)) ?_
        refine r_move rfl rfl ?_
        refine r_go rfl rfl ?_
        refine r_move rfl rfl ?_
        refine r_go rfl rfl ?_
        refine r_geq rfl rfl rfl rfl ?_
        refine r_go rfl rfl ?_
        refine r_move rfl rfl ?_
        refine r_split 107 rfl (fun hb107 => ?_) (fun hb107 => ?_)
        · refine r_pass rfl rfl rfl rfl ?_
          refine r_pass rfl rfl rfl rfl ?_
          refine r_pass rfl rfl rfl rfl ?_
          refine r_pass rfl rfl rfl rfl ?_
          refine r_pass rfl rfl rfl rfl ?_
          refine r_pass rfl rfl rfl rfl ?_
          refine r_pass rfl rfl rfl rfl ?_
          refine r_go rfl rfl ?_
          refine r_pick_t rfl rfl rfl ?_
          refine r_pick_t rfl rfl rfl ?_
          refine r_assign rfl rfl ?_
          refine r_nil ?_
          refine r_tn ?_
          refine r_ret ?_
          exact r_done1 (.inl rfl) rfl (res_tmp rfl) fun w hw => ⟨rfl, hw.clear⟩
        · refine r_go rfl rfl ?_
          refine r_move rfl rfl ?_
          refine r_go rfl rfl ?_
          have hq9 : q < 9223372036854775807 := by have h := of_decide_eq_false hb107; omega
          refine r_callbo0 b42 (.slice A42 l.length c42) rfl rfl rfl (by kernel_rfl) rfl (fun w hs => by exact next13 b42 A42 c42 l (if (0 : Int) > q then 0 else q) (by split <;> omega) (by omega) w hs) ?_
          refine r_go rfl rfl ?_
          refine r_move rfl rfl ?_
          refine r_go rfl rfl ?_
          refine r_move rfl rfl ?_
          refine r_go rfl rfl ?_
          refine r_max rfl rfl rfl rfl ?_
          refine r_go rfl rfl ?_
          refine r_call rfl rfl rfl (by kernel_rfl) rfl (fun w hw => by exact refAt13 A c l (if (0 : Int) > q then 0 else q) (by split <;> omega) (by omega) w (hA.keep hw)) ?_
          refine r_go rfl rfl ?_
          refine r_eql rfl rfl rfl (decide_eq_true (by simp)) ?_
          refine r_go rfl rfl ?_
          refine r_pick_f rfl rfl rfl ?_
          refine r_pick_t rfl rfl rfl ?_
          refine r_assign rfl rfl ?_
          refine r_nil ?_
          refine r_tn ?_
          refine r_ret ?_
          exact r_done1 (.inl rfl) rfl (res_tmp rfl) fun w hw => ⟨rfl, hw.clear⟩

theorem RandomResumes_walk (A : Option Addr) (c : Nat) (l : List Int) (n q : Int) (W : World) (hA : Rd W A (l.map (Value.int .u8))) (hma : l.length ≤ 140737488351232) (hn : (Lit.int .u8 n).wf = true) (hq : (Lit.int .i64 q).wf = true) :
    Calls Try.prog 13 #[.slice A l.length c, .int .u8 n, .int .i64 q] W fun e w' => e = .returned (.bool true) ∧ Sat W [] [] w' := by
  by_cases h1 : l.length ≤ 1000
  · exact RandomResumes_ok A c l n q W hA hma (wf8 hn) (wf64' hq) h1
  · exact RandomResumes_many A c l n q W hA hma (wf8 hn) (wf64' hq) (by omega)
end Go.Proofs.Ytapknkmlgmckkaa
