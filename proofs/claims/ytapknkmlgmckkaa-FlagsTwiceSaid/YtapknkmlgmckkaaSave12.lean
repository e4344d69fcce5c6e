/-
  FlagsSave: what is saved is loaded, and lies apart from what was handed in and given out.
-/
import Derived.Test.YtapknkmlgmckkaaRef12
namespace Go.Proofs.Ytapknkmlgmckkaa
open Go Go.RowKit
set_option linter.unusedVariables false
set_option maxHeartbeats 2000000

theorem fl_at {l : List Int} {k : Nat} (h : k < l.length) : (fl l)[k]? = some (.int .u8 (l.getD k 0)) := by
  simp [fl, List.getD, h]
theorem saveM_tail {f b : List Int} {k : Nat} (hb : b.length ≤ 16) (hk : b.length ≤ k) : (saveM f b).getD k 0 = f.getD k 0 := by
  unfold saveM
  rw [List.take_of_length_le hb]
  simp only [List.getD]
  rw [List.getElem?_append_right hk, List.getElem?_drop, show b.length + (k - b.length) = k by omega]
theorem loadM_saveM {f b : List Int} (hb : b.length ≤ 16) : loadM (saveM f b) (b.length : Int) = b := by
  unfold loadM saveM
  rw [List.take_of_length_le hb, Int.toNat_natCast, List.take_left]
theorem saveM_saveM {f a b : List Int} (ha : a.length ≤ 16) (hb : b.length ≤ 16) (hab : a.length ≤ b.length) : saveM (saveM f a) b = saveM f b := by
  unfold saveM
  rw [List.take_of_length_le ha, List.take_of_length_le hb, List.drop_append, List.drop_of_length_le hab, List.drop_drop, show a.length + (b.length - a.length) = b.length by omega, List.nil_append]
theorem loadM_two {f a b : List Int} (ha : a.length ≤ 16) (hb : b.length ≤ 16) (hf : f.length = 16) (hab : b.length ≤ a.length) : loadM (saveM (saveM f a) b) (a.length : Int) = b ++ a.drop b.length := by
  unfold loadM saveM
  rw [List.take_of_length_le ha, List.take_of_length_le hb, Int.toNat_natCast, List.take_append, List.take_of_length_le hab, List.drop_append_of_le_length hab, List.take_append_of_le_length (by simp), List.take_of_length_le (by simp)]


theorem FlagsSave_manyA (A B : Option Addr) (c d : Nat) (a b : List Int) (W : World) (ha : 100 < a.length) (hb : b.length ≤ 140737488351232) (hA : Rd W A (a.map (Value.int .u8))) (hB : Rd W B (b.map (Value.int .u8))) :
    Calls Try.prog 5 #[.slice A a.length c, .slice B b.length d] W fun e w' => e = .returned (.bool true) ∧ Sat W [] [] w' := by
  refine enter Try.func5 rfl rfl rfl ?_
  refine r_seq ?_
  refine r_region ?_
  refine r_assign rfl rfl ?_
  refine r_nil ?_
  refine r_tn ?_
  refine r_seq ?_
  refine r_seq ?_
  refine r_region ?_
  refine r_call rfl rfl rfl (by kernel_rfl) rfl (fun w hw => by exact awake12 w) ?_
  refine r_not rfl rfl rfl ?_
  refine r_move rfl rfl ?_
  refine r_go rfl rfl ?_
  refine r_move rfl rfl ?_
  refine r_go rfl rfl ?_
  refine r_len rfl rfl rfl ?_
  refine r_go rfl rfl ?_
  refine r_gtr rfl rfl rfl (decide_eq_true (by omega)) ?_
  refine r_pick_f rfl rfl rfl ?_
  refine r_move rfl rfl ?_
  refine r_pass rfl rfl rfl rfl ?_
  refine r_pass rfl rfl rfl rfl ?_
  refine r_pass rfl rfl rfl rfl ?_
  refine r_pick_t rfl rfl rfl ?_
  refine r_nil ?_
  refine r_tn ?_
  refine r_cond_t rfl ?_
  refine r_seq ?_
  refine r_region ?_
  refine r_call rfl rfl rfl (by kernel_rfl) rfl (fun w hw => by exact awake12 w) ?_
  refine r_assign rfl rfl ?_
  refine r_nil ?_
  refine r_tn ?_
  refine r_ret ?_
  refine r_tr ?_
  exact r_done1 (.inl rfl) rfl (res_tmp rfl) fun w hw => ⟨rfl, hw.clear⟩

theorem FlagsSave_manyB (A B : Option Addr) (c d : Nat) (a b : List Int) (W : World) (ha : a.length ≤ 100) (hb : 16 < b.length) (hA : Rd W A (a.map (Value.int .u8))) (hB : Rd W B (b.map (Value.int .u8))) :
    Calls Try.prog 5 #[.slice A a.length c, .slice B b.length d] W fun e w' => e = .returned (.bool true) ∧ Sat W [] [] w' := by
  refine enter Try.func5 rfl rfl rfl ?_
  refine r_seq ?_
  refine r_region ?_
  refine r_assign rfl rfl ?_
  refine r_nil ?_
  refine r_tn ?_
  refine r_seq ?_
  refine r_seq ?_
  refine r_region ?_
  refine r_call rfl rfl rfl (by kernel_rfl) rfl (fun w hw => by exact awake12 w) ?_
  refine r_not rfl rfl rfl ?_
  refine r_move rfl rfl ?_
  refine r_go rfl rfl ?_
  refine r_move rfl rfl ?_
  refine r_go rfl rfl ?_
  refine r_len rfl rfl rfl ?_
  refine r_go rfl rfl ?_
  refine r_gtr rfl rfl rfl (decide_eq_false (by omega)) ?_
  refine r_pick_f rfl rfl rfl ?_
  refine r_move rfl rfl ?_
  refine r_go rfl rfl ?_
  refine r_move rfl rfl ?_
  refine r_go rfl rfl ?_
  refine r_len rfl rfl rfl ?_
  refine r_go rfl rfl ?_
  refine r_gtr rfl rfl rfl (decide_eq_true (by omega)) ?_
  refine r_pick_f rfl rfl rfl ?_
  refine r_nil ?_
  refine r_tn ?_
  refine r_cond_t rfl ?_
  refine r_seq ?_
  refine r_region ?_
  refine r_call rfl rfl rfl (by kernel_rfl) rfl (fun w hw => by exact awake12 w) ?_
  refine r_assign rfl rfl ?_
  refine r_nil ?_
  refine r_tn ?_
  refine r_ret ?_
  refine r_tr ?_
  exact r_done1 (.inl rfl) rfl (res_tmp rfl) fun w hw => ⟨rfl, hw.clear⟩

theorem FlagsSave_ok (A B : Option Addr) (c d : Nat) (a b : List Int) (W : World) (ha : a.length ≤ 100) (hb : b.length ≤ 16) (hA : Rd W A (a.map (Value.int .u8))) (hB : Rd W B (b.map (Value.int .u8))) :
    Calls Try.prog 5 #[.slice A a.length c, .slice B b.length d] W fun e w' => e = .returned (.bool true) ∧ Sat W [] [] w' := by
  refine enter Try.func5 rfl rfl rfl ?_
  refine r_seq ?_
  refine r_region ?_
  refine r_assign rfl rfl ?_
  refine r_nil ?_
  refine r_tn ?_
  refine r_seq ?_
  refine r_seq ?_
  refine r_region ?_
  refine r_call rfl rfl rfl (by kernel_rfl) rfl (fun w hw => by exact awake12 w) ?_
  refine r_not rfl rfl rfl ?_
  refine r_move rfl rfl ?_
  refine r_go rfl rfl ?_
  refine r_move rfl rfl ?_
  refine r_go rfl rfl ?_
  refine r_len rfl rfl rfl ?_
  refine r_go rfl rfl ?_
  refine r_gtr rfl rfl rfl (decide_eq_false (by omega)) ?_
  refine r_pick_f rfl rfl rfl ?_
  refine r_move rfl rfl ?_
  refine r_go rfl rfl ?_
  refine r_move rfl rfl ?_
  refine r_go rfl rfl ?_
  refine r_len rfl rfl rfl ?_
  refine r_go rfl rfl ?_
  refine r_gtr rfl rfl rfl (decide_eq_false (by omega)) ?_
  refine r_pick_f rfl rfl rfl ?_
  refine r_nil ?_
  refine r_tn ?_
  refine r_cond_f rfl ?_
  refine r_skip ?_
  refine r_tn ?_
  refine r_seq ?_
  refine r_region ?_
  refine r_build (cells := fl zeros16) rfl rfl (by kernel_rfl) ?_
  refine r_move rfl rfl ?_
  refine r_call rfl rfl rfl (by kernel_rfl) rfl (fun w hw => by exact save12 zeros16 a rfl A c w (hA.keep hw)) ?_
  refine r_alloc rfl rfl fun b5 => ?_
  refine r_storeV rfl rfl rfl (fl_size (saveM_length rfl a)) rfl (fl_one _) ?_
  refine r_nil ?_
  refine r_tn ?_
  refine r_seq ?_
  refine r_region ?_
  refine r_lit (sz := 1) (pv := []) (cells := #[]) rfl rfl rfl rfl rfl rfl (by kernel_rfl) rfl (fun b28 => ?_) (by decide)
  refine r_move rfl rfl ?_
  refine r_append (k := b.length) (news := b.map (Value.int .u8)) (sz := 1) (bytes := 1) rfl rfl rfl rfl rfl rfl (by decide) (fun w hw => hB.keep hw) (by first | (simp; done) | (simp; omega)) (fun u hu => by simp at hu; first | (obtain ⟨x, _, rfl⟩ := hu; rfl) | (subst hu; rfl)) (by omega) (by unfold maxLen; omega) fun A30 c30 => ?_
  rw [List.nil_append, Nat.zero_add]
  refine r_assign rfl rfl ?_
  refine r_nil ?_
  refine r_tn ?_
  refine r_seq ?_
  refine r_region ?_
  refine r_loadV rfl rfl rfl rfl (fl_size (saveM_length rfl a)) ?_
  refine r_move rfl rfl ?_
  refine r_call rfl rfl rfl (by kernel_rfl) rfl (fun w hw => by exact save12 (saveM zeros16 a) b (saveM_length rfl a) A30 c30 w (own_rd (A := A30) (m := b.length) (c := c30) hw)) ?_
  refine r_alloc rfl rfl fun b7 => ?_
  refine r_storeV rfl rfl rfl (fl_size (saveM_length (saveM_length rfl a) b)) rfl (fl_one _) ?_
  refine r_nil ?_
  refine r_tn ?_
  refine r_seq ?_
  refine r_seq ?_
  refine r_region ?_
  refine r_move rfl rfl ?_
  refine r_len rfl rfl rfl ?_
  refine r_assign rfl rfl ?_
  refine r_nil ?_
  refine r_tn ?_
  refine r_block ?_
  refine r_loopN (fun k => [(1, .slice B b.length d), (5, .pointer (some ⟨b5, 0, none⟩)), (7, .pointer (some ⟨b7, 0, none⟩)), (6, .slice A30 b.length c30), (8, .int .i64 (k : Int))]) (fun k => [.own 5 1 (.slice A30 b.length c30) b.length (b.map (Value.int .u8)), .blk b7 (.cells (fl (saveM (saveM zeros16 a) b)) 36 (0, 0)), .blk b5 (.cells (fl (saveM zeros16 a)) 36 (0, 0))]) (fun k => b.length ≤ k ∧ k ≤ 16) 16 b.length (by omega) ⟨rfl, rfl, rfl, rfl, rfl, trivial⟩ (fun w hw => hw.sub) fun k hk => ?_
  refine r_seq ?_
  refine r_seq ?_
  refine r_region ?_
  refine r_move rfl rfl ?_
  refine r_lss rfl rfl rfl rfl ?_
  refine r_nil ?_
  refine r_tn ?_
  refine r_cond rfl (fun hc => ?_) (fun hc => ?_)
  · refine r_skip ?_
    refine r_tn ?_
    refine r_seq ?_
    refine r_block ?_
    refine r_seq ?_
    refine r_mixed (by kernel_rfl) (by kernel_rfl) ?_
    refine r_move rfl rfl ?_
    refine r_fieldAddr (off := 0) rfl rfl rfl rfl ?_
    have hk16 : k < 16 := by have h := of_decide_eq_true hc; omega
    refine r_indexArr (sz := 1) rfl rfl rfl rfl rfl (by omega) (by omega) (show _ = k by simp) ?_
    refine r_load1 rfl rfl rfl (fl_at (by rw [(saveM_length (saveM_length rfl a) b)]; exact hk16)) ?_
    refine r_move rfl rfl ?_
    refine r_fieldAddr (off := 0) rfl rfl rfl rfl ?_
    refine r_indexArr (sz := 1) rfl rfl rfl rfl rfl (by omega) (by omega) (show _ = k by simp) ?_
    refine r_load1 rfl rfl rfl (fl_at (by rw [saveM_length rfl a]; exact hk16)) ?_
    refine r_neq (p := false) rfl rfl rfl (by rw [saveM_tail (by omega) hk.1]; simp) ?_
    refine r_nil ?_
    refine r_tn ?_
    refine r_cond_f rfl ?_
    refine r_skip ?_
    refine r_bn ?_
    refine r_tn ?_
    refine r_region ?_
    refine r_move rfl rfl ?_
    refine r_add rfl rfl rfl (w64 (by omega)) ?_
    refine r_assign rfl rfl ?_
    refine r_nil ?_
    refine r_tn ?_
    exact r_againN (k + 1) (by omega) (by omega) ⟨rfl, rfl, rfl, rfl, rfl, trivial⟩ (fun w hw => hw.sub)
  · refine r_exit ?_
    refine r_te ?_
    refine r_te ?_
    refine r_be ?_
    refine r_tn ?_
    refine r_seq ?_
    refine r_seq ?_
    refine r_region ?_
    refine r_assign rfl rfl ?_
    refine r_nil ?_
    refine r_tn ?_
    refine r_block ?_
    refine r_loop1 (fun k y => [(1, .slice B b.length d), (7, .pointer (some ⟨b7, 0, none⟩)), (6, .slice A30 b.length c30), (9, .int .i64 (k : Int))]) (fun k y => [.own 5 1 (.slice A30 b.length c30) b.length (y.map (Value.int .u8)), .blk b7 (.cells (fl (saveM (saveM zeros16 a) b)) 36 (0, 0))]) (fun k y => k ≤ b.length ∧ y.length = b.length) b.length 0 b (by simp) ⟨rfl, rfl, rfl, rfl, trivial⟩ (fun w hw => hw.sub) fun k y hk => ?_
    refine r_seq ?_
    refine r_seq ?_
    refine r_region ?_
    refine r_move rfl rfl ?_
    refine r_move rfl rfl ?_
    refine r_len rfl rfl rfl ?_
    refine r_lss rfl rfl rfl rfl ?_
    refine r_nil ?_
    refine r_tn ?_
    refine r_cond rfl (fun hc => ?_) (fun hc => ?_)
    · refine r_skip ?_
      refine r_tn ?_
      refine r_seq ?_
      refine r_block ?_
      refine r_region ?_
      have hkb : k < b.length := by have h := of_decide_eq_true hc; omega
      have hky : k < y.length := by omega
      refine r_have (fun w hw => own_some (A := A30) (m := b.length) (c := c30) hw (by omega)) fun hg => ?_
      obtain ⟨g, rfl⟩ := hg
      refine r_move rfl rfl ?_
      refine r_move rfl rfl ?_
      refine r_indexSl (sz := 1) rfl rfl rfl rfl rfl (by omega) (by omega) (show _ = k by simp) ?_
      refine r_loadC rfl rfl rfl (fun w hw => by have h := (own_rd (A := some ⟨g, 0, none⟩) (m := b.length) (c := c30) hw).cell (j := k) (u := .int .u8 y[k]) (by simp [hky]) rfl; simpa using h) ?_
      refine r_add rfl rfl rfl rfl ?_
      refine r_indexSl (sz := 1) rfl rfl rfl rfl rfl (by omega) (by omega) (show _ = k by simp) ?_
      refine r_storeOwn (m := b.length) (c := c30) rfl rfl rfl rfl rfl (by omega) ?_
      refine r_nil ?_
      refine r_bn ?_
      refine r_tn ?_
      refine r_region ?_
      refine r_move rfl rfl ?_
      refine r_add rfl rfl rfl (w64 (by omega)) ?_
      refine r_assign rfl rfl ?_
      refine r_nil ?_
      refine r_tn ?_
      refine r_again1 (k + 1) (y.set k (IntKind.u8.wrap (y[k] + 1))) ⟨by omega, by simp; omega⟩ (by omega) ⟨rfl, rfl, rfl, rfl, trivial⟩ (fun w hw => by rw [← List.map_set] at hw; exact hw.sub)
    · refine r_exit ?_
      refine r_te ?_
      refine r_te ?_
      refine r_be ?_
      refine r_tn ?_
      refine r_seq ?_
      refine r_region ?_
      refine r_loadV rfl rfl rfl rfl (fl_size (saveM_length (saveM_length rfl a) b)) ?_
      refine r_move rfl rfl ?_
      refine r_len rfl rfl rfl ?_
      refine r_callx rfl rfl rfl (by kernel_rfl) rfl (fun w hw => load12 (saveM (saveM zeros16 a) b) (saveM_length (saveM_length rfl a) b) b.length (by omega) w) ?_
      rintro ⟨A64, c64⟩ _
      rw [loadM_saveM (by omega)]
      refine r_assign rfl rfl ?_
      refine r_nil ?_
      refine r_tn ?_
      refine r_seq ?_
      refine r_seq ?_
      refine r_region ?_
      refine r_move rfl rfl ?_
      refine r_move rfl rfl ?_
      refine r_call (v := .bool true) rfl rfl rfl (by kernel_rfl) rfl (fun w hw => by exact sameT A64 B c64 d _ _ b b w rfl rfl (by omega) (own_rd (A := A64) (m := b.length) (c := c64) hw) (hB.keep hw) rfl) ?_
      refine r_not rfl rfl rfl ?_
      refine r_nil ?_
      refine r_tn ?_
      refine r_cond_f rfl ?_
      refine r_skip ?_
      refine r_tn ?_
      refine r_seq ?_
      refine r_seq ?_
      refine r_region ?_
      refine r_assign rfl rfl ?_
      refine r_nil ?_
      refine r_tn ?_
      refine r_block ?_
      refine r_loop1 (fun k y => [(1, .slice B b.length d), (7, .pointer (some ⟨b7, 0, none⟩)), (10, .slice A64 b.length c64), (11, .int .i64 (k : Int))]) (fun k y => [.own 5 1 (.slice A64 b.length c64) b.length (y.map (Value.int .u8)), .blk b7 (.cells (fl (saveM (saveM zeros16 a) b)) 36 (0, 0))]) (fun k y => k ≤ b.length ∧ y.length = b.length) b.length 0 b (by simp) ⟨rfl, rfl, rfl, rfl, trivial⟩ (fun w hw => hw.sub) fun k y hk => ?_
      refine r_seq ?_
      refine r_seq ?_
      refine r_region ?_
      refine r_move rfl rfl ?_
      refine r_move rfl rfl ?_
      refine r_len rfl rfl rfl ?_
      refine r_lss rfl rfl rfl rfl ?_
      refine r_nil ?_
      refine r_tn ?_
      refine r_cond rfl (fun hc => ?_) (fun hc => ?_)
      · refine r_skip ?_
        refine r_tn ?_
        refine r_seq ?_
        refine r_block ?_
        refine r_region ?_
        have hkb : k < b.length := by have h := of_decide_eq_true hc; omega
        have hky : k < y.length := by omega
        refine r_have (fun w hw => own_some (A := A64) (m := b.length) (c := c64) hw (by omega)) fun hg => ?_
        obtain ⟨g, rfl⟩ := hg
        refine r_move rfl rfl ?_
        refine r_move rfl rfl ?_
        refine r_indexSl (sz := 1) rfl rfl rfl rfl rfl (by omega) (by omega) (show _ = k by simp) ?_
        refine r_loadC rfl rfl rfl (fun w hw => by have h := (own_rd (A := some ⟨g, 0, none⟩) (m := b.length) (c := c64) hw).cell (j := k) (u := .int .u8 y[k]) (by simp [hky]) rfl; simpa using h) ?_
        refine r_add rfl rfl rfl rfl ?_
        refine r_indexSl (sz := 1) rfl rfl rfl rfl rfl (by omega) (by omega) (show _ = k by simp) ?_
        refine r_storeOwn (m := b.length) (c := c64) rfl rfl rfl rfl rfl (by omega) ?_
        refine r_nil ?_
        refine r_bn ?_
        refine r_tn ?_
        refine r_region ?_
        refine r_move rfl rfl ?_
        refine r_add rfl rfl rfl (w64 (by omega)) ?_
        refine r_assign rfl rfl ?_
        refine r_nil ?_
        refine r_tn ?_
        refine r_again1 (k + 1) (y.set k (IntKind.u8.wrap (y[k] + 1))) ⟨by omega, by simp; omega⟩ (by omega) ⟨rfl, rfl, rfl, rfl, trivial⟩ (fun w hw => by rw [← List.map_set] at hw; exact hw.sub)
      · refine r_exit ?_
        refine r_te ?_
        refine r_te ?_
        refine r_be ?_
        refine r_tn ?_
        refine r_seq ?_
        refine r_region ?_
        refine r_loadV rfl rfl rfl rfl (fl_size (saveM_length (saveM_length rfl a) b)) ?_
        refine r_move rfl rfl ?_
        refine r_len rfl rfl rfl ?_
        refine r_callx rfl rfl rfl (by kernel_rfl) rfl (fun w hw => load12 (saveM (saveM zeros16 a) b) (saveM_length (saveM_length rfl a) b) b.length (by omega) w) ?_
        rintro ⟨A84, c84⟩ _
        rw [loadM_saveM (by omega)]
        refine r_move rfl rfl ?_
        refine r_call (v := .bool true) rfl rfl rfl (by kernel_rfl) rfl (fun w hw => by exact sameT A84 B c84 d _ _ b b w rfl rfl (by omega) (own_rd (A := A84) (m := b.length) (c := c84) hw) (hB.keep hw) rfl) ?_
        refine r_assign rfl rfl ?_
        refine r_nil ?_
        refine r_tn ?_
        refine r_ret ?_
        exact r_done1 (.inl rfl) rfl (res_tmp rfl) fun w hw => ⟨rfl, hw.clear⟩

theorem FlagsSave_walk (A : Option Addr) (c : Nat) (a : List Int) (B : Option Addr) (d : Nat) (b : List Int) (W : World) (hA : Rd W A (a.map (Value.int .u8))) (hma : a.length ≤ 140737488351232) (hB : Rd W B (b.map (Value.int .u8))) (hmb : b.length ≤ 140737488351232) :
    Calls Try.prog 5 #[.slice A a.length c, .slice B b.length d] W fun e w' => e = .returned (.bool true) ∧ Sat W [] [] w' := by
  by_cases h1 : a.length ≤ 100
  · by_cases h2 : b.length ≤ 16
    · exact FlagsSave_ok A B c d a b W h1 h2 hA hB
    · exact FlagsSave_manyB A B c d a b W h1 (by omega) hA hB
  · exact FlagsSave_manyA A B c d a b W (by omega) hmb hA hB
end Go.Proofs.Ytapknkmlgmckkaa
