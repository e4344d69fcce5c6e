/-
  The arithmetic unit (chapter 18): Do by a plain function.
-/
import Derived.Test.YtddoohbgiieiiaaOps18
namespace Go.Proofs.Ytddoohbgiieiiaa
open Go Go.RowKit
set_option linter.unusedVariables false
set_option linter.unusedSimpArgs false
set_option maxHeartbeats 2000000

abbrev ins (op X Y N NN Ad Ln : Int) : Array Value := #[.int .i64 op, .int .i64 X, .int .i64 Y, .int .i64 N, .int .i64 NN, .int .i64 Ad, .int .i64 Ln]
abbrev pro (lv : Int) (a b c r d e f : Bool) : Array Value := #[.int .i64 lv, .bool a, .bool b, .bool c, .bool r, .bool d, .bool e, .bool f]
/-- the registers behind an operation -/
def doL (l : List Int) (X res fl : Int) : List Int := if 0 ≤ fl then (l.set X.toNat (IntKind.u8.wrap res)).set 15 (IntKind.u8.wrap fl) else l.set X.toNat (IntKind.u8.wrap res)
theorem doL_len {l : List Int} (h : l.length = 16) (X res fl : Int) : (doL l X res fl).length = 16 := by
  unfold doL; split <;> simp [h]


theorem do_known (l : List Int) (op X Y N NN Ad Ln lv : Int) (a b c r d e f : Bool) (hl : l.length = 16) (hr : ∀ i, 0 ≤ l.getD i 0 ∧ l.getD i 0 ≤ 255) (hX : 0 ≤ X ∧ X ≤ 15) (hY : 0 ≤ Y ∧ Y ≤ 15) (hN : 0 ≤ NN ∧ NN ≤ 255) (g : FuncId) (i : Nat) (cap : Nat → List Value) (res flg : Int) (hg : callable Try.prog g = true)
    (hfind : ∀ b3, Instr.findNow (.int .i64) (.int .i64 op) (opsE b3).toList 0 = some (some (i, .func (.func g) #[] (cap b3).toArray)))
    (hcall : ∀ (b1 b3 : Nat) (w : World), Rd w (some ⟨b1, 0, none⟩) [.bool r] → Rd w (some ⟨b3, 0, none⟩) [.func (.func 22) #[] #[.pointer (some ⟨b1, 0, none⟩)]] →
      Calls Try.prog g (([.int .i64 (l.getD X.toNat 0), .int .i64 (l.getD Y.toNat 0), .int .i64 NN, .int .i64 (if a then l.getD Y.toNat 0 else l.getD X.toNat 0)] : List Value) ++ cap b3).toArray w fun e w' => e = .returned (.agg #[.int .i64 res, .int .i64 flg]) ∧ Sat w [] [] w') (w : World) :
    Calls Try.prog 10 #[.agg (fl l), .agg (ins op X Y N NN Ad Ln), .agg (pro lv a b c r d e f)] w fun e w' => e = .returned (.tuple #[.agg (fl (doL l X res flg)), .bool true]) ∧ Sat w [] [] w' := by
  refine enter Try.func10 rfl rfl rfl ?_
  refine r_seq ?_
  refine r_region ?_
  refine r_boxV rfl rfl fun b3 => ?_
  refine r_boxV rfl rfl fun b4 => ?_
  refine r_boxV rfl rfl fun b5 => ?_
  refine r_allocV (cs := fl (List.replicate 16 0)) rfl rfl fun b6 => ?_
  refine r_assign rfl rfl ?_
  refine r_nil ?_
  refine r_tn ?_
  refine r_seq ?_
  refine r_mixedD { xb := [], rb := [b4], rs := [19], fs := [], acs := [17] } (by kernel_rfl) (by kernel_rfl) (fun w hw k hk => by
    simp only [List.mem_cons, List.not_mem_nil, or_false] at hk
    rcases hk with rfl <;> exact Sat.lt hw) ?_
  refine r_fieldAddr (off := 4) (o' := 4) rfl rfl rfl rfl ?_
  refine r_load1 rfl rfl rfl (by rfl) ?_
  refine r_callx rfl rfl rfl (by kernel_rfl) rfl (fun w hw => operations18 r w) ?_
  rintro ⟨b17, c17, d17⟩ _
  refine r_fieldAddr (off := 0) (o' := 0) rfl rfl rfl rfl ?_
  refine r_load1 rfl rfl rfl (by rfl) ?_
  refine r_lookupOk (k := .i64) (b := b17) (v := .func (.func g) #[] (cap c17).toArray) (ok := true) (r := some (i, .func (.func g) #[] (cap c17).toArray)) rfl rfl rfl rfl rfl (hfind c17) rfl rfl ?_
  refine r_move rfl rfl ?_
  refine r_extract rfl rfl rfl ?_
  refine r_extract rfl rfl rfl ?_
  refine r_assign rfl rfl ?_
  refine r_assign rfl rfl ?_
  refine r_nil ?_
  refine r_tn ?_
  refine r_seq ?_
  refine r_seq ?_
  refine r_region ?_
  refine r_move rfl rfl ?_
  refine r_not rfl rfl rfl ?_
  refine r_nil ?_
  refine r_tn ?_
  refine r_cond_f rfl ?_
  refine r_skip ?_
  refine r_tn ?_
  refine r_seq ?_
  refine r_mixed (by kernel_rfl) (by kernel_rfl) ?_
  refine r_fieldAddr (off := 1) (o' := 1) rfl rfl rfl rfl ?_
  refine r_load1 rfl rfl rfl (by rfl) ?_
  refine r_indexArr (sz := 1) rfl rfl rfl rfl rfl (by omega) (by omega) (show _ = X.toNat by simp) ?_
  refine r_load1 rfl rfl rfl (fl_at (k := X.toNat) (by omega)) ?_
  refine r_convert rfl rfl rfl rfl (w64 (by have := hr X.toNat; omega)) ?_
  refine r_fieldAddr (off := 2) (o' := 2) rfl rfl rfl rfl ?_
  refine r_load1 rfl rfl rfl (by rfl) ?_
  refine r_indexArr (sz := 1) rfl rfl rfl rfl rfl (by omega) (by omega) (show _ = Y.toNat by simp) ?_
  refine r_load1 rfl rfl rfl (fl_at (k := Y.toNat) (by omega)) ?_
  refine r_convert rfl rfl rfl rfl (w64 (by have := hr Y.toNat; omega)) ?_
  refine r_assign rfl rfl ?_
  refine r_assign rfl rfl ?_
  refine r_nil ?_
  refine r_tn ?_
  refine r_seq ?_
  refine r_region ?_
  refine r_move rfl rfl ?_
  refine r_assign rfl rfl ?_
  refine r_nil ?_
  refine r_tn ?_
  refine r_seq ?_
  refine r_cut (fun _ : Unit => ([(3, .pointer (some ⟨b3, 0, none⟩)), (4, .pointer (some ⟨b4, 0, none⟩)), (6, .pointer (some ⟨b6, 0, none⟩)), (8, .func (.func g) #[] (cap c17).toArray), (10, .int .i64 (l.getD X.toNat 0)), (11, .int .i64 (l.getD Y.toNat 0)), (12, .int .i64 (if a then l.getD Y.toNat 0 else l.getD X.toNat 0))], [.blk b3 (.cells (fl l) 22 (0, 0)), .blk b4 (.cells (ins op X Y N NN Ad Ln) 24 (0, 0)), .blk b6 (.cells (fl (List.replicate 16 0)) 22 (0, 0)), .blk c17 (.cells #[.func (.func 22) #[] #[.pointer (some ⟨d17, 0, none⟩)]] 54 (0, 0)), .blk d17 (.cells #[.bool r] 4 (0, 0))])) ?_ ?_
  · refine r_seq ?_
    refine r_region ?_
    refine r_fieldAddr (off := 1) (o' := 1) rfl rfl rfl rfl ?_
    refine r_load1 rfl rfl rfl (by rfl) ?_
    refine r_nil ?_
    refine r_tn ?_
    refine r_cond rfl (fun hc => ?_) (fun hc => ?_)
    · refine r_region ?_
      refine r_move rfl rfl ?_
      refine r_assign rfl rfl ?_
      refine r_nil ?_
      refine r_tn ?_
      subst hc
      exact r_at () ⟨rfl, rfl, rfl, rfl, rfl, rfl, rfl, trivial⟩ (fun w hw => hw.sub)
    · refine r_skip ?_
      refine r_tn ?_
      subst hc
      exact r_at () ⟨rfl, rfl, rfl, rfl, rfl, rfl, rfl, trivial⟩ (fun w hw => hw.sub)
  intro _
  refine r_seq ?_
  refine r_region ?_
  refine r_move rfl rfl ?_
  refine r_move rfl rfl ?_
  refine r_move rfl rfl ?_
  refine r_fieldAddr (off := 4) (o' := 4) rfl rfl rfl rfl ?_
  refine r_load1 rfl rfl rfl (by rfl) ?_
  refine r_move rfl rfl ?_
  refine r_call (v := .agg #[.int .i64 res, .int .i64 flg]) rfl rfl rfl hg rfl (fun w hw => by exact hcall d17 c17 w (Rd.blk (hw.look (HasBlk.pick (b := d17))) (fun j u h => by simpa using h)) (Rd.blk (hw.look (HasBlk.pick (b := c17))) (fun j u h => by simpa using h))) ?_
  refine r_alloc rfl rfl fun b13 => ?_
  refine r_storeV rfl rfl rfl rfl rfl rfl ?_
  refine r_nil ?_
  refine r_tn ?_
  refine r_seq ?_
  refine r_region ?_
  refine r_fieldAddr (off := 1) (o' := 1) rfl rfl rfl rfl ?_
  refine r_load1 rfl rfl rfl (by rfl) ?_
  refine r_fieldAddr (off := 0) (o' := 0) rfl rfl rfl rfl ?_
  refine r_load1 rfl rfl rfl (by rfl) ?_
  refine r_convert rfl rfl rfl rfl rfl ?_
  refine r_indexArr (sz := 1) rfl rfl rfl rfl rfl (by omega) (by omega) (show _ = X.toNat by simp) ?_
  refine r_store1 rfl rfl rfl rfl rfl (by rw [fl_len]; omega) ?_
  rw [fl_set]
  refine r_nil ?_
  refine r_tn ?_
  refine r_seq ?_
  refine r_seq ?_
  refine r_region ?_
  refine r_fieldAddr (off := 1) (o' := 1) rfl rfl rfl rfl ?_
  refine r_load1 rfl rfl rfl (by rfl) ?_
  refine r_geq rfl rfl rfl rfl ?_
  refine r_nil ?_
  refine r_tn ?_
  refine r_cond rfl (fun hc => ?_) (fun hc => ?_)
  · refine r_region ?_
    refine r_fieldAddr (off := 1) (o' := 1) rfl rfl rfl rfl ?_
    refine r_load1 rfl rfl rfl (by rfl) ?_
    refine r_convert rfl rfl rfl rfl rfl ?_
    refine r_indexArr (sz := 1) rfl rfl rfl rfl rfl (by omega) (by omega) (show _ = 15 by simp) ?_
    refine r_store1 rfl rfl rfl rfl rfl (by rw [fl_len]; simp; omega) ?_
    rw [fl_set]
    refine r_nil ?_
    refine r_tn ?_
    refine r_seq ?_
    refine r_region ?_
    refine r_loadV rfl rfl rfl rfl (fl_size (show _ = 16 by simp [hl])) ?_
    refine r_storeV rfl rfl rfl (fl_size (show _ = 16 by simp [hl])) rfl (fl_one _) ?_
    refine r_assign rfl rfl ?_
    refine r_nil ?_
    refine r_tn ?_
    refine r_ret ?_
    exact r_done2 (.inl rfl) rfl (res_cellV rfl rfl rfl (fl_size (show _ = 16 by simp [hl]))) (res_tmp rfl) fun w hw => ⟨by unfold doL; first | rw [if_pos (of_decide_eq_true hc)] | rw [if_neg (of_decide_eq_false hc)], hw.clear⟩
  · refine r_skip ?_
    refine r_tn ?_
    refine r_seq ?_
    refine r_region ?_
    refine r_loadV rfl rfl rfl rfl (fl_size (show _ = 16 by simp [hl])) ?_
    refine r_storeV rfl rfl rfl (fl_size (show _ = 16 by simp [hl])) rfl (fl_one _) ?_
    refine r_assign rfl rfl ?_
    refine r_nil ?_
    refine r_tn ?_
    refine r_ret ?_
    exact r_done2 (.inl rfl) rfl (res_cellV rfl rfl rfl (fl_size (show _ = 16 by simp [hl]))) (res_tmp rfl) fun w hw => ⟨by unfold doL; first | rw [if_pos (of_decide_eq_true hc)] | rw [if_neg (of_decide_eq_false hc)], hw.clear⟩

theorem find_none {op x y nn s : Int} {r : Bool} (h : outM op x y nn s r = none) (b3 : Nat) : Instr.findNow (.int .i64) (.int .i64 op) (opsE b3).toList 0 = some none := by
  have hne : op ≠ 8 ∧ op ≠ 9 ∧ op ≠ 10 ∧ op ≠ 11 ∧ op ≠ 12 ∧ op ≠ 13 ∧ op ≠ 14 ∧ op ≠ 15 ∧ op ≠ 16 ∧ op ≠ 17 ∧ op ≠ 18 := by
    refine ⟨?_, ?_, ?_, ?_, ?_, ?_, ?_, ?_, ?_, ?_, ?_⟩ <;> (intro e; subst e; exact absurd h (by rintro ⟨⟩))
  obtain ⟨h8, h9, h10, h11, h12, h13, h14, h15, h16, h17, h18⟩ := hne
  have e : ∀ k : Int, op ≠ k → (op == k) = false := fun k hk => by simpa using hk
  simp [opsE, Instr.findNow, Instr.sameNow, e 8 h8, e 9 h9, e 10 h10, e 11 h11, e 12 h12, e 13 h13, e 14 h14, e 15 h15, e 16 h16, e 17 h17, e 18 h18]
theorem do_none (l : List Int) (op X Y N NN Ad Ln lv : Int) (a b c r d e f : Bool) (hl : l.length = 16) {x y nn s : Int} (h : outM op x y nn s r = none) (w : World) :
    Calls Try.prog 10 #[.agg (fl l), .agg (ins op X Y N NN Ad Ln), .agg (pro lv a b c r d e f)] w fun e w' => e = .returned (.tuple #[.agg (fl l), .bool false]) ∧ Sat w [] [] w' := by
  refine enter Try.func10 rfl rfl rfl ?_
  refine r_seq ?_
  refine r_region ?_
  refine r_boxV rfl rfl fun b3 => ?_
  refine r_boxV rfl rfl fun b4 => ?_
  refine r_boxV rfl rfl fun b5 => ?_
  refine r_allocV (cs := fl (List.replicate 16 0)) rfl rfl fun b6 => ?_
  refine r_assign rfl rfl ?_
  refine r_nil ?_
  refine r_tn ?_
  refine r_seq ?_
  refine r_mixedD { xb := [], rb := [b4], rs := [19], fs := [], acs := [17] } (by kernel_rfl) (by kernel_rfl) (fun w hw k hk => by
    simp only [List.mem_cons, List.not_mem_nil, or_false] at hk
    rcases hk with rfl <;> exact Sat.lt hw) ?_
  refine r_fieldAddr (off := 4) (o' := 4) rfl rfl rfl rfl ?_
  refine r_load1 rfl rfl rfl (by rfl) ?_
  refine r_callx rfl rfl rfl (by kernel_rfl) rfl (fun w hw => operations18 r w) ?_
  rintro ⟨b17, c17, d17⟩ _
  refine r_fieldAddr (off := 0) (o' := 0) rfl rfl rfl rfl ?_
  refine r_load1 rfl rfl rfl (by rfl) ?_
  refine r_lookupOk (k := .i64) (b := b17) (v := .nilFunc) (ok := false) (r := none) rfl rfl rfl rfl rfl (find_none h c17) rfl rfl ?_
  refine r_move rfl rfl ?_
  refine r_extract rfl rfl rfl ?_
  refine r_extract rfl rfl rfl ?_
  refine r_assign rfl rfl ?_
  refine r_assign rfl rfl ?_
  refine r_nil ?_
  refine r_tn ?_
  refine r_seq ?_
  refine r_seq ?_
  refine r_region ?_
  refine r_move rfl rfl ?_
  refine r_not rfl rfl rfl ?_
  refine r_nil ?_
  refine r_tn ?_
  refine r_cond_t rfl ?_
  refine r_seq ?_
  refine r_region ?_
  refine r_loadV rfl rfl rfl rfl (fl_size hl) ?_
  refine r_storeV rfl rfl rfl (fl_size hl) rfl (fl_one _) ?_
  refine r_assign rfl rfl ?_
  refine r_nil ?_
  refine r_tn ?_
  refine r_ret ?_
  refine r_tr ?_
  exact r_done2 (.inl rfl) rfl (res_cellV rfl rfl rfl (fl_size hl)) (res_tmp rfl) fun w hw => ⟨rfl, hw.clear⟩

theorem do18 (l : List Int) (op X Y N NN Ad Ln lv : Int) (a b c r d e f : Bool) (hl : l.length = 16) (hr : ∀ i, 0 ≤ l.getD i 0 ∧ l.getD i 0 ≤ 255) (hX : 0 ≤ X ∧ X ≤ 15) (hY : 0 ≤ Y ∧ Y ≤ 15) (hN : 0 ≤ NN ∧ NN ≤ 255) {res flg : Int} (h : outM op (l.getD X.toNat 0) (l.getD Y.toNat 0) NN (if a then l.getD Y.toNat 0 else l.getD X.toNat 0) r = some (res, flg)) (w : World) :
    Calls Try.prog 10 #[.agg (fl l), .agg (ins op X Y N NN Ad Ln), .agg (pro lv a b c r d e f)] w fun e w' => e = .returned (.tuple #[.agg (fl (doL l X res flg)), .bool true]) ∧ Sat w [] [] w' := by
  have hs : 0 ≤ (if a then l.getD Y.toNat 0 else l.getD X.toNat 0) ∧ (if a then l.getD Y.toNat 0 else l.getD X.toNat 0) ≤ 255 := by
    split
    · exact hr _
    · exact hr _
  generalize hss : (if a then l.getD Y.toNat 0 else l.getD X.toNat 0) = s at h hs
  by_cases hop : op = 8
  · subst hop
    have h2 : outM 8 (l.getD X.toNat 0) (l.getD Y.toNat 0) NN s r = some _ := rfl
    rw [h2] at h
    injection h with h
    injection h with h3 h4
    subst h3; subst h4
    exact do_known l 8 X Y N NN Ad Ln lv a b c r d e f hl hr hX hY hN 25 0 (fun b3 => []) _ _ (by kernel_rfl) (fun b3 => by rfl) (fun b1 b3 w hb hb3 => by rw [hss]; exact op18_8 (l.getD X.toNat 0) (l.getD Y.toNat 0) NN s w (hr _) (hr _) hN hs) w
  by_cases hop : op = 9
  · subst hop
    have h2 : outM 9 (l.getD X.toNat 0) (l.getD Y.toNat 0) NN s r = some _ := rfl
    rw [h2] at h
    injection h with h
    injection h with h3 h4
    subst h3; subst h4
    exact do_known l 9 X Y N NN Ad Ln lv a b c r d e f hl hr hX hY hN 26 1 (fun b3 => []) _ _ (by kernel_rfl) (fun b3 => by rfl) (fun b1 b3 w hb hb3 => by rw [hss]; exact op18_9 (l.getD X.toNat 0) (l.getD Y.toNat 0) NN s w (hr _) (hr _) hN hs) w
  by_cases hop : op = 10
  · subst hop
    have h2 : outM 10 (l.getD X.toNat 0) (l.getD Y.toNat 0) NN s r = some _ := rfl
    rw [h2] at h
    injection h with h
    injection h with h3 h4
    subst h3; subst h4
    exact do_known l 10 X Y N NN Ad Ln lv a b c r d e f hl hr hX hY hN 27 2 (fun b3 => []) _ _ (by kernel_rfl) (fun b3 => by rfl) (fun b1 b3 w hb hb3 => by rw [hss]; exact op18_10 (l.getD X.toNat 0) (l.getD Y.toNat 0) NN s w (hr _) (hr _) hN hs) w
  by_cases hop : op = 11
  · subst hop
    have h2 : outM 11 (l.getD X.toNat 0) (l.getD Y.toNat 0) NN s r = some _ := rfl
    rw [h2] at h
    injection h with h
    injection h with h3 h4
    subst h3; subst h4
    exact do_known l 11 X Y N NN Ad Ln lv a b c r d e f hl hr hX hY hN 28 3 (fun b3 => [.pointer (some ⟨b3, 0, none⟩)]) _ _ (by kernel_rfl) (fun b3 => by rfl) (fun b1 b3 w hb hb3 => by rw [hss]; exact op18_11 b1 b3 r (l.getD X.toNat 0) (l.getD Y.toNat 0) NN s w hb hb3 (hr _) (hr _) hN hs) w
  by_cases hop : op = 12
  · subst hop
    have h2 : outM 12 (l.getD X.toNat 0) (l.getD Y.toNat 0) NN s r = some _ := rfl
    rw [h2] at h
    injection h with h
    injection h with h3 h4
    subst h3; subst h4
    exact do_known l 12 X Y N NN Ad Ln lv a b c r d e f hl hr hX hY hN 29 4 (fun b3 => [.pointer (some ⟨b3, 0, none⟩)]) _ _ (by kernel_rfl) (fun b3 => by rfl) (fun b1 b3 w hb hb3 => by rw [hss]; exact op18_12 b1 b3 r (l.getD X.toNat 0) (l.getD Y.toNat 0) NN s w hb hb3 (hr _) (hr _) hN hs) w
  by_cases hop : op = 13
  · subst hop
    have h2 : outM 13 (l.getD X.toNat 0) (l.getD Y.toNat 0) NN s r = some _ := rfl
    rw [h2] at h
    injection h with h
    injection h with h3 h4
    subst h3; subst h4
    exact do_known l 13 X Y N NN Ad Ln lv a b c r d e f hl hr hX hY hN 30 5 (fun b3 => [.pointer (some ⟨b3, 0, none⟩)]) _ _ (by kernel_rfl) (fun b3 => by rfl) (fun b1 b3 w hb hb3 => by rw [hss]; exact op18_13 b1 b3 r (l.getD X.toNat 0) (l.getD Y.toNat 0) NN s w hb hb3 (hr _) (hr _) hN hs) w
  by_cases hop : op = 14
  · subst hop
    have h2 : outM 14 (l.getD X.toNat 0) (l.getD Y.toNat 0) NN s r = some _ := rfl
    rw [h2] at h
    injection h with h
    injection h with h3 h4
    subst h3; subst h4
    exact do_known l 14 X Y N NN Ad Ln lv a b c r d e f hl hr hX hY hN 31 6 (fun b3 => []) _ _ (by kernel_rfl) (fun b3 => by rfl) (fun b1 b3 w hb hb3 => by rw [hss]; exact op18_14 (l.getD X.toNat 0) (l.getD Y.toNat 0) NN s w (hr _) (hr _) hN hs) w
  by_cases hop : op = 15
  · subst hop
    have h2 : outM 15 (l.getD X.toNat 0) (l.getD Y.toNat 0) NN s r = some _ := rfl
    rw [h2] at h
    injection h with h
    injection h with h3 h4
    subst h3; subst h4
    exact do_known l 15 X Y N NN Ad Ln lv a b c r d e f hl hr hX hY hN 32 7 (fun b3 => []) _ _ (by kernel_rfl) (fun b3 => by rfl) (fun b1 b3 w hb hb3 => by rw [hss]; exact op18_15 (l.getD X.toNat 0) (l.getD Y.toNat 0) NN s w (hr _) (hr _) hN hs) w
  by_cases hop : op = 16
  · subst hop
    have h2 : outM 16 (l.getD X.toNat 0) (l.getD Y.toNat 0) NN s r = some _ := rfl
    rw [h2] at h
    injection h with h
    injection h with h3 h4
    subst h3; subst h4
    exact do_known l 16 X Y N NN Ad Ln lv a b c r d e f hl hr hX hY hN 34 9 (fun b3 => []) _ _ (by kernel_rfl) (fun b3 => by rfl) (fun b1 b3 w hb hb3 => by rw [hss]; exact op18_16 (l.getD X.toNat 0) (l.getD Y.toNat 0) NN s w (hr _) (hr _) hN hs) w
  by_cases hop : op = 17
  · subst hop
    have h2 : outM 17 (l.getD X.toNat 0) (l.getD Y.toNat 0) NN s r = some _ := rfl
    rw [h2] at h
    injection h with h
    injection h with h3 h4
    subst h3; subst h4
    exact do_known l 17 X Y N NN Ad Ln lv a b c r d e f hl hr hX hY hN 33 8 (fun b3 => []) _ _ (by kernel_rfl) (fun b3 => by rfl) (fun b1 b3 w hb hb3 => by rw [hss]; exact op18_17 (l.getD X.toNat 0) (l.getD Y.toNat 0) NN s w (hr _) (hr _) hN hs) w
  by_cases hop : op = 18
  · subst hop
    have h2 : outM 18 (l.getD X.toNat 0) (l.getD Y.toNat 0) NN s r = some _ := rfl
    rw [h2] at h
    injection h with h
    injection h with h3 h4
    subst h3; subst h4
    exact do_known l 18 X Y N NN Ad Ln lv a b c r d e f hl hr hX hY hN 35 10 (fun b3 => []) _ _ (by kernel_rfl) (fun b3 => by rfl) (fun b1 b3 w hb hb3 => by rw [hss]; exact op18_18 (l.getD X.toNat 0) (l.getD Y.toNat 0) NN s w (hr _) (hr _) hN hs) w
  exfalso
  simp_all [outM]
end Go.Proofs.Ytddoohbgiieiiaa
