/-
  Macros (chapter 30): the reference s Same, Right.
-/
import Derived.Test.YtghjbnbkfohmlaaDoorTexts30
namespace Go.Proofs.YtghjbnbkfohmlaaDoor
open Go Go.RowKit
set_option linter.unusedVariables false
set_option linter.unusedSimpArgs false
set_option maxHeartbeats 2000000
set_option maxRecDepth 4000
attribute [local irreducible] mix

theorem keFlat : flatT Tryd.prog 32 [.i .i64, .b] := ⟨by kernel_rfl, by kernel_rfl, by kernel_rfl⟩
theorem ke_self (e : Ev) : (!cellsEq [Value.int .i64 e.1, .bool e.2] [Value.int .i64 e.1, .bool e.2]) = false := by
  have h : cellsEq [Value.int .i64 e.1, .bool e.2] [Value.int .i64 e.1, .bool e.2] = true := cellsEq_self (ks := [.i .i64, .b]) rfl
  rw [h]; rfl
theorem evsL_at : ∀ {f : List Ev} {j : Nat} (h : j < f.length), (evsL f)[j * 2]? = some (.int .i64 (f[j]).1) ∧ (evsL f)[j * 2 + 1]? = some (.bool (f[j]).2)
  | e :: f, 0, _ => ⟨rfl, rfl⟩
  | e :: f, j + 1, h => by
    have h2 := evsL_at (f := f) (j := j) (by simpa using h)
    rw [show (j + 1) * 2 = (j * 2) + 1 + 1 by omega, evsL_cons]
    exact h2
theorem ev_some {w : World} {A : Option Addr} {f : List Ev} (h : Rd w A (evsL f)) {j : Nat} (hj : j < f.length) : ∃ b o, A = some ⟨b, o, none⟩ := rd_some h (evsL_at hj).1
theorem ev_rd {w : World} {b o : Nat} {f : List Ev} (h : Rd w (some ⟨b, o, none⟩) (evsL f)) {j : Nat} (hj : j < f.length) : Rd w (some ⟨b, o + j * 2, none⟩) [.int .i64 (f[j]).1, .bool (f[j]).2] := fun i u hi => by
  refine ⟨b, o + j * 2, rfl, ?_⟩
  rw [Nat.add_assoc]
  match i, hi with
  | 0, hi =>
    obtain rfl := Option.some.inj hi
    exact h.cell (evsL_at hj).1 rfl
  | 1, hi =>
    obtain rfl := Option.some.inj hi
    exact h.cell (evsL_at hj).2 rfl
def okF (f : List Ev) : Prop := f.length ≤ 51 ∧ ∀ x ∈ f, keyOK x
def keyB (e : Ev) : Bool := decide (0 ≤ e.1) && decide (e.1 ≤ 15)
theorem keyB_iff (e : Ev) : keyB e = true ↔ keyOK e := by simp [keyB, keyOK]
def rightB (fs : List (List Ev)) : Bool := decide (fs.length ≤ 100) && fs.all fun f => decide (f.length ≤ 51) && f.all keyB
theorem right_iff (fs : List (List Ev)) : rightB fs = true ↔ fs.length ≤ 100 ∧ ∀ f ∈ fs, okF f := by
  unfold rightB okF
  simp only [Bool.and_eq_true, decide_eq_true_eq, List.all_eq_true, keyB_iff]
theorem right_len {fs : List (List Ev)} (h : 100 < fs.length) : rightB fs = false := by
  cases e : rightB fs with
  | false => rfl
  | true => have := ((right_iff fs).1 e).1; omega
theorem right_key {fs : List (List Ev)} {k j : Nat} (hk : k < fs.length) (hj : j < fs[k].length) (h : ¬ keyOK fs[k][j]) : rightB fs = false := by
  cases e : rightB fs with
  | false => rfl
  | true => exact absurd ((((right_iff fs).1 e).2 _ (List.getElem_mem hk)).2 _ (List.getElem_mem hj)) h
theorem right_long {fs : List (List Ev)} {k : Nat} (hk : k < fs.length) (h : 51 < fs[k].length) : rightB fs = false := by
  cases e : rightB fs with
  | false => rfl
  | true => have := (((right_iff fs).1 e).2 _ (List.getElem_mem hk)).1; omega
theorem right_yes {fs : List (List Ev)} (h : fs.length ≤ 100) (h2 : ∀ j (hj : j < fs.length), okF fs[j]) : rightB fs = true := (right_iff fs).2 ⟨h, fun f hf => by
  obtain ⟨j, hj, rfl⟩ := List.mem_iff_getElem.1 hf
  exact h2 j hj⟩
attribute [local irreducible] evsL ownsOf rightB


theorem refSame30 (fs : List (List Ev)) (hlen : fs.length ≤ 1000000000000) (A B : Option Addr) (c d : Nat) (hv1 hv2 : List Value) (w : World) (hA : Rd w A hv1) (hF1 : FrRd w hv1 fs) (hB : Rd w B hv2) (hF2 : FrRd w hv2 fs) (hsh : ∀ f ∈ fs, f.length ≤ 1000000000000) :
    Calls Tryd.prog 12 #[.slice A fs.length c, .slice B fs.length d] w fun e w' => e = .returned (.bool true) ∧ Sat w [] [] w' := by
  have hfl : ∀ k (h : k < fs.length), fs[k].length ≤ 1000000000000 := fun k h => hsh _ (List.getElem_mem h)
  refine enter Tryd.func12 rfl rfl rfl ?_
  refine r_seq ?_
  refine r_region ?_
  refine r_assign rfl rfl ?_
  refine r_nil ?_
  refine r_tn ?_
  refine r_seq ?_
  refine r_seq ?_
  refine r_region ?_
  refine r_move rfl rfl ?_
  refine r_len rfl rfl rfl ?_
  refine r_move rfl rfl ?_
  refine r_len rfl rfl rfl ?_
  refine r_neq (p := false) rfl rfl rfl (decide_eq_false (by simp)) ?_
  refine r_nil ?_
  refine r_tn ?_
  refine r_cond_f rfl ?_
  refine r_skip ?_
  refine r_tn ?_
  refine r_seq ?_
  refine r_seq ?_
  refine r_region ?_
  refine r_assign rfl rfl ?_
  refine r_nil ?_
  refine r_tn ?_
  refine r_block ?_
  refine r_loopN (fun k => [(0, .slice A fs.length c), (1, .slice B fs.length d), (5, .int .i64 (k : Int))]) (fun _ => []) (fun k => k ≤ fs.length) fs.length 0 (by omega) ⟨rfl, rfl, rfl, trivial⟩ (fun w hw => hw.clear) fun k hk => ?_
  refine r_seq ?_
  refine r_seq ?_
  refine r_region ?_
  refine r_move rfl rfl ?_
  refine r_move rfl rfl ?_
  refine r_len rfl rfl rfl ?_
  refine r_lss rfl rfl rfl rfl ?_
  refine r_nil ?_
  refine r_tn ?_
  refine r_cond rfl (fun hc => ?_) (fun hc => ?_)
  · refine r_skip ?_
    refine r_tn ?_
    refine r_seq ?_
    refine r_block ?_
    refine r_seq ?_
    refine r_seq ?_
    refine r_mixed (by kernel_rfl) (by kernel_rfl) ?_
    have hk2 : k < fs.length := by have h := of_decide_eq_true hc; omega
    clear hc
    obtain ⟨A1, c1, e1, r1⟩ := hF1.2 k hk2
    obtain ⟨bA, oA, rfl⟩ := rd_some hA e1
    obtain ⟨A2, c2, e2, r2⟩ := hF2.2 k hk2
    obtain ⟨bB, oB, rfl⟩ := rd_some hB e2
    have hfk := hfl k hk2
    refine r_move rfl rfl ?_
    refine r_move rfl rfl ?_
    refine r_indexSl (sz := 1) (o' := oA + k) rfl rfl rfl rfl rfl (by omega) (by omega) (by omega) ?_
    refine r_loadC (p := ⟨bA, oA + k, none⟩) (v := .slice A1 fs[k].length c1) rfl rfl rfl (fun w hw => (hA.keep hw).cell e1 rfl) ?_
    refine r_len rfl rfl rfl ?_
    refine r_move rfl rfl ?_
    refine r_move rfl rfl ?_
    refine r_indexSl (sz := 1) (o' := oB + k) rfl rfl rfl rfl rfl (by omega) (by omega) (by omega) ?_
    refine r_loadC (p := ⟨bB, oB + k, none⟩) (v := .slice A2 fs[k].length c2) rfl rfl rfl (fun w hw => (hB.keep hw).cell e2 rfl) ?_
    refine r_len rfl rfl rfl ?_
    refine r_neq (p := false) rfl rfl rfl (decide_eq_false (by simp)) ?_
    refine r_nil ?_
    refine r_tn ?_
    refine r_cond_f rfl ?_
    refine r_skip ?_
    refine r_tn ?_
    refine r_seq ?_
    refine r_region ?_
    refine r_assign rfl rfl ?_
    refine r_nil ?_
    refine r_tn ?_
    refine r_block ?_
    refine r_loopN (fun j => [(0, .slice (some ⟨bA, oA, none⟩) fs.length c), (1, .slice (some ⟨bB, oB, none⟩) fs.length d), (5, .int .i64 (k : Int)), (6, .int .i64 (j : Int))]) (fun _ => []) (fun j => j ≤ fs[k].length) fs[k].length 0 (by omega) ⟨rfl, rfl, rfl, rfl, trivial⟩ (fun w hw => hw.clear) fun j hj => ?_
    refine r_seq ?_
    refine r_seq ?_
    refine r_region ?_
    refine r_move rfl rfl ?_
    refine r_move rfl rfl ?_
    refine r_move rfl rfl ?_
    refine r_indexSl (sz := 1) (o' := oA + k) rfl rfl rfl rfl rfl (by omega) (by omega) (by omega) ?_
    refine r_loadC (p := ⟨bA, oA + k, none⟩) (v := .slice A1 fs[k].length c1) rfl rfl rfl (fun w hw => (hA.keep hw).cell e1 rfl) ?_
    refine r_len rfl rfl rfl ?_
    refine r_lss (p := decide (j < fs[k].length)) rfl rfl rfl (decide_eq_decide.2 ⟨fun _ => by omega, fun _ => by omega⟩) ?_
    refine r_nil ?_
    refine r_tn ?_
    refine r_cond rfl (fun hc => ?_) (fun hc => ?_)
    · refine r_skip ?_
      refine r_tn ?_
      refine r_seq ?_
      refine r_block ?_
      refine r_seq ?_
      refine r_mixed (by kernel_rfl) (by kernel_rfl) ?_
      have hj2 : j < fs[k].length := of_decide_eq_true hc
      clear hc
      obtain ⟨b1, o1, rfl⟩ := ev_some r1 hj2
      obtain ⟨b2, o2, rfl⟩ := ev_some r2 hj2
      refine r_move rfl rfl ?_
      refine r_move rfl rfl ?_
      refine r_indexSl (sz := 1) (o' := oA + k) rfl rfl rfl rfl rfl (by omega) (by omega) (by omega) ?_
      refine r_loadC (p := ⟨bA, oA + k, none⟩) (v := .slice (some ⟨b1, o1, none⟩) fs[k].length c1) rfl rfl rfl (fun w hw => (hA.keep hw).cell e1 rfl) ?_
      refine r_move rfl rfl ?_
      refine r_indexSl (sz := 2) (o' := o1 + j * 2) rfl rfl rfl rfl rfl (by omega) (by omega) (by omega) ?_
      refine r_loadRd (m := 2) (vs := [.int .i64 ((fs[k][j]'hj2)).1, .bool ((fs[k][j]'hj2)).2]) rfl rfl rfl rfl rfl (fun w hw => ev_rd (r1.keep hw) hj2) ?_
      refine r_move rfl rfl ?_
      refine r_move rfl rfl ?_
      refine r_indexSl (sz := 1) (o' := oB + k) rfl rfl rfl rfl rfl (by omega) (by omega) (by omega) ?_
      refine r_loadC (p := ⟨bB, oB + k, none⟩) (v := .slice (some ⟨b2, o2, none⟩) fs[k].length c2) rfl rfl rfl (fun w hw => (hB.keep hw).cell e2 rfl) ?_
      refine r_move rfl rfl ?_
      refine r_indexSl (sz := 2) (o' := o2 + j * 2) rfl rfl rfl rfl rfl (by omega) (by omega) (by omega) ?_
      refine r_loadRd (m := 2) (vs := [.int .i64 ((fs[k][j]'hj2)).1, .bool ((fs[k][j]'hj2)).2]) rfl rfl rfl rfl rfl (fun w hw => ev_rd (r2.keep hw) hj2) ?_
      refine r_neqAgg (p := false) rfl rfl rfl keFlat rfl rfl (ke_self _) ?_
      refine r_nil ?_
      refine r_tn ?_
      refine r_cond_f rfl ?_
      refine r_skip ?_
      refine r_bn ?_
      refine r_tn ?_
      refine r_region ?_
      refine r_move rfl rfl ?_
      refine r_add rfl rfl rfl (w64 (by omega)) ?_
      refine r_assign rfl rfl ?_
      refine r_nil ?_
      refine r_tn ?_
      exact r_againN (j + 1) (by omega) (by omega) ⟨rfl, rfl, rfl, rfl, trivial⟩ (fun w hw => hw.clear)
    · refine r_exit ?_
      refine r_te ?_
      refine r_te ?_
      refine r_be ?_
      refine r_bn ?_
      refine r_tn ?_
      refine r_region ?_
      refine r_move rfl rfl ?_
      refine r_add rfl rfl rfl (w64 (by omega)) ?_
      refine r_assign rfl rfl ?_
      refine r_nil ?_
      refine r_tn ?_
      exact r_againN (k + 1) (by omega) (by omega) ⟨rfl, rfl, rfl, trivial⟩ (fun w hw => hw.clear)
  · refine r_exit ?_
    refine r_te ?_
    refine r_te ?_
    refine r_be ?_
    refine r_tn ?_
    refine r_seq ?_
    refine r_region ?_
    refine r_assign rfl rfl ?_
    refine r_nil ?_
    refine r_tn ?_
    refine r_ret ?_
    exact r_done1 (.inl rfl) rfl (res_tmp rfl) fun w hw => ⟨rfl, hw.clear⟩

theorem refRight30 (fs : List (List Ev)) (A : Option Addr) (c : Nat) (hv1 : List Value) (w : World) (hA : Rd w A hv1) (hF1 : FrRd w hv1 fs) :
    Calls Tryd.prog 9 #[.slice A fs.length c] w fun e w' => e = .returned (.bool (rightB fs)) ∧ Sat w [] [] w' := by
  refine enter Tryd.func9 rfl rfl rfl ?_
  refine r_seq ?_
  refine r_region ?_
  refine r_assign rfl rfl ?_
  refine r_nil ?_
  refine r_tn ?_
  refine r_seq ?_
  refine r_seq ?_
  refine r_region ?_
  refine r_move rfl rfl ?_
  refine r_len rfl rfl rfl ?_
  refine r_gtr (p := decide (100 < fs.length)) rfl rfl rfl (decide_eq_decide.2 ⟨fun _ => by omega, fun _ => by omega⟩) ?_
  refine r_nil ?_
  refine r_tn ?_
  refine r_cond rfl (fun hc => ?_) (fun hc => ?_)
  · refine r_seq ?_
    refine r_region ?_
    refine r_assign rfl rfl ?_
    refine r_nil ?_
    refine r_tn ?_
    refine r_ret ?_
    refine r_tr ?_
    exact r_done1 (.inl rfl) rfl (res_tmp rfl) fun w hw => ⟨by rw [right_len (of_decide_eq_true hc)], hw.clear⟩
  · refine r_skip ?_
    refine r_tn ?_
    refine r_seq ?_
    refine r_seq ?_
    refine r_region ?_
    refine r_assign rfl rfl ?_
    refine r_nil ?_
    refine r_tn ?_
    refine r_block ?_
    have hl100 : fs.length ≤ 100 := by have h := of_decide_eq_false hc; omega
    clear hc
    refine r_loopN (fun k => [(0, .slice A fs.length c), (3, .int .i64 (k : Int))]) (fun _ => []) (fun k => k ≤ fs.length ∧ ∀ j (h : j < fs.length), j < k → okF fs[j]) fs.length 0 ⟨by omega, fun j h hj => by omega⟩ ⟨rfl, rfl, trivial⟩ (fun w hw => hw.clear) fun k hk => ?_
    obtain ⟨hk, hg⟩ := hk
    refine r_seq ?_
    refine r_seq ?_
    refine r_region ?_
    refine r_move rfl rfl ?_
    refine r_move rfl rfl ?_
    refine r_len rfl rfl rfl ?_
    refine r_lss rfl rfl rfl rfl ?_
    refine r_nil ?_
    refine r_tn ?_
    refine r_cond rfl (fun hc => ?_) (fun hc => ?_)
    · refine r_skip ?_
      refine r_tn ?_
      refine r_seq ?_
      refine r_block ?_
      refine r_seq ?_
      refine r_region ?_
      first
        | (have hk2 : k < fs.length := by have h := of_decide_eq_true hc; omega
           clear hc
           obtain ⟨A1, c1, e1, r1⟩ := hF1.2 k hk2
           obtain ⟨bA, oA, rfl⟩ := rd_some hA e1
           refine r_assign rfl rfl ?_)
        | refine r_assign rfl rfl ?_
      refine r_nil ?_
      refine r_tn ?_
      refine r_block ?_
      refine r_loopN (fun j => [(0, .slice (some ⟨bA, oA, none⟩) fs.length c), (3, .int .i64 (k : Int)), (4, .int .i64 (j : Int))]) (fun _ => []) (fun j => j ≤ fs[k].length ∧ j ≤ 51 ∧ ∀ i (h : i < fs[k].length), i < j → keyOK fs[k][i]) fs[k].length 0 ⟨by omega, by omega, fun i h hi => by omega⟩ ⟨rfl, rfl, rfl, trivial⟩ (fun w hw => hw.clear) fun j hj => ?_
      obtain ⟨hj, hj51, hgj⟩ := hj
      refine r_seq ?_
      refine r_seq ?_
      refine r_region ?_
      refine r_move rfl rfl ?_
      refine r_move rfl rfl ?_
      refine r_move rfl rfl ?_
      refine r_indexSl (sz := 1) (o' := oA + k) rfl rfl rfl rfl rfl (by omega) (by omega) (by omega) ?_
      refine r_loadC (p := ⟨bA, oA + k, none⟩) (v := .slice A1 fs[k].length c1) rfl rfl rfl (fun w hw => (hA.keep hw).cell e1 rfl) ?_
      refine r_len rfl rfl rfl ?_
      refine r_lss (p := decide (j < fs[k].length)) rfl rfl rfl (decide_eq_decide.2 ⟨fun _ => by omega, fun _ => by omega⟩) ?_
      refine r_nil ?_
      refine r_tn ?_
      refine r_cond rfl (fun hc => ?_) (fun hc => ?_)
      · refine r_skip ?_
        refine r_tn ?_
        refine r_seq ?_
        refine r_block ?_
        refine r_seq ?_
        refine r_region ?_
        have hj2 : j < fs[k].length := of_decide_eq_true hc
        clear hc
        obtain ⟨b1, o1, rfl⟩ := ev_some r1 hj2
        refine r_move rfl rfl ?_
        refine r_move rfl rfl ?_
        refine r_indexSl (sz := 1) (o' := oA + k) rfl rfl rfl rfl rfl (by omega) (by omega) (by omega) ?_
        refine r_loadC (p := ⟨bA, oA + k, none⟩) (v := .slice (some ⟨b1, o1, none⟩) fs[k].length c1) rfl rfl rfl (fun w hw => (hA.keep hw).cell e1 rfl) ?_
        refine r_move rfl rfl ?_
        refine r_indexSl (sz := 2) (o' := o1 + j * 2) rfl rfl rfl rfl rfl (by omega) (by omega) (by omega) ?_
        refine r_fieldAddr (off := 0) (o' := o1 + j * 2) rfl rfl rfl rfl ?_
        refine r_loadC (p := ⟨b1, o1 + j * 2, none⟩) (v := .int .i64 (fs[k][j]'hj2).1) rfl rfl rfl (fun w hw => (ev_rd (r1.keep hw) hj2).cell (j := 0) rfl rfl) ?_
        refine r_lss (p := decide ((fs[k][j]'hj2).1 < 0)) rfl rfl rfl rfl ?_
        refine r_move rfl rfl ?_
        refine r_split 32 rfl (fun hb32 => ?_) (fun hb32 => ?_)
        · refine r_pass rfl rfl rfl rfl ?_
          refine r_pass rfl rfl rfl rfl ?_
          refine r_pass rfl rfl rfl rfl ?_
          refine r_pass rfl rfl rfl rfl ?_
          refine r_pass rfl rfl rfl rfl ?_
          refine r_pass rfl rfl rfl rfl ?_
          refine r_pass rfl rfl rfl rfl ?_
          refine r_pass rfl rfl rfl rfl ?_
          refine r_pass rfl rfl rfl rfl ?_
          refine r_pick_t rfl rfl rfl ?_
          refine r_move rfl rfl ?_
          refine r_pass rfl rfl rfl rfl ?_
          refine r_pass rfl rfl rfl rfl ?_
          refine r_pick_t rfl rfl rfl ?_
          refine r_nil ?_
          refine r_tn ?_
          refine r_cond_t rfl ?_
          refine r_seq ?_
          refine r_region ?_
          refine r_assign rfl rfl ?_
          refine r_nil ?_
          refine r_tn ?_
          refine r_ret ?_
          refine r_br ?_
          refine r_tr ?_
          refine r_tr ?_
          refine r_br ?_
          refine r_br ?_
          refine r_tr ?_
          refine r_tr ?_
          refine r_br ?_
          refine r_tr ?_
          exact r_done1 (.inl rfl) rfl (res_tmp rfl) fun w hw => ⟨by rw [right_key hk2 hj2 (fun h => by have h2 := of_decide_eq_true hb32; have h3 := h.1; omega)], hw.clear⟩
        · refine r_go rfl rfl ?_
          refine r_move rfl rfl ?_
          refine r_go rfl rfl ?_
          refine r_move rfl rfl ?_
          refine r_go rfl rfl ?_
          refine r_indexSl (sz := 1) (o' := oA + k) rfl rfl rfl rfl rfl (by omega) (by omega) (by omega) ?_
          refine r_go rfl rfl ?_
          refine r_loadC (p := ⟨bA, oA + k, none⟩) (v := .slice (some ⟨b1, o1, none⟩) fs[k].length c1) rfl rfl rfl (fun w hw => (hA.keep hw).cell e1 rfl) ?_
          refine r_go rfl rfl ?_
          refine r_move rfl rfl ?_
          refine r_go rfl rfl ?_
          refine r_indexSl (sz := 2) (o' := o1 + j * 2) rfl rfl rfl rfl rfl (by omega) (by omega) (by omega) ?_
          refine r_go rfl rfl ?_
          refine r_fieldAddr (off := 0) (o' := o1 + j * 2) rfl rfl rfl rfl ?_
          refine r_go rfl rfl ?_
          refine r_loadC (p := ⟨b1, o1 + j * 2, none⟩) (v := .int .i64 (fs[k][j]'hj2).1) rfl rfl rfl (fun w hw => (ev_rd (r1.keep hw) hj2).cell (j := 0) rfl rfl) ?_
          refine r_go rfl rfl ?_
          refine r_gtr (p := decide (15 < (fs[k][j]'hj2).1)) rfl rfl rfl rfl ?_
          refine r_pick_f rfl rfl rfl ?_
          refine r_move rfl rfl ?_
          refine r_split 43 rfl (fun hb43 => ?_) (fun hb43 => ?_)
          · refine r_pass rfl rfl rfl rfl ?_
            refine r_pass rfl rfl rfl rfl ?_
            refine r_pick_t rfl rfl rfl ?_
            refine r_nil ?_
            refine r_tn ?_
            refine r_cond_t rfl ?_
            refine r_seq ?_
            refine r_region ?_
            refine r_assign rfl rfl ?_
            refine r_nil ?_
            refine r_tn ?_
            refine r_ret ?_
            refine r_br ?_
            refine r_tr ?_
            refine r_tr ?_
            refine r_br ?_
            refine r_br ?_
            refine r_tr ?_
            refine r_tr ?_
            refine r_br ?_
            refine r_tr ?_
            exact r_done1 (.inl rfl) rfl (res_tmp rfl) fun w hw => ⟨by rw [right_key hk2 hj2 (fun h => by have h2 := of_decide_eq_true hb43; have h3 := h.2; omega)], hw.clear⟩
          · refine r_go rfl rfl ?_
            have hke : keyOK (fs[k][j]'hj2) := ⟨by have h := of_decide_eq_false hb32; omega, by have h := of_decide_eq_false hb43; omega⟩
            refine r_move rfl rfl ?_
            refine r_go rfl rfl ?_
            refine r_gtr (p := decide (50 < j)) rfl rfl rfl (decide_eq_decide.2 ⟨fun _ => by omega, fun _ => by omega⟩) ?_
            refine r_pick_f rfl rfl rfl ?_
            refine r_nil ?_
            refine r_tn ?_
            refine r_cond rfl (fun hc => ?_) (fun hc => ?_)
            · refine r_seq ?_
              refine r_region ?_
              refine r_assign rfl rfl ?_
              refine r_nil ?_
              refine r_tn ?_
              refine r_ret ?_
              refine r_br ?_
              refine r_tr ?_
              refine r_tr ?_
              refine r_br ?_
              refine r_br ?_
              refine r_tr ?_
              refine r_tr ?_
              refine r_br ?_
              refine r_tr ?_
              have h50 : 50 < j := of_decide_eq_true hc
              exact r_done1 (.inl rfl) rfl (res_tmp rfl) fun w hw => ⟨by rw [right_long hk2 (by omega)], hw.clear⟩
            · refine r_skip ?_
              refine r_bn ?_
              refine r_tn ?_
              refine r_region ?_
              refine r_move rfl rfl ?_
              refine r_add rfl rfl rfl (w64 (by omega)) ?_
              first
                | (have hk2 : k < fs.length := by have h := of_decide_eq_true hc; omega
                   clear hc
                   obtain ⟨A1, c1, e1, r1⟩ := hF1.2 k hk2
                   obtain ⟨bA, oA, rfl⟩ := rd_some hA e1
                   refine r_assign rfl rfl ?_)
                | refine r_assign rfl rfl ?_
              refine r_nil ?_
              refine r_tn ?_
              have hj50 : j ≤ 50 := by have h := of_decide_eq_false hc; omega
              exact r_againN (j + 1) ⟨by omega, by omega, fun i h hi => by
                by_cases e : i = j
                · subst e; exact hke
                · exact hgj i h (by omega)⟩ (by omega) ⟨rfl, rfl, rfl, trivial⟩ (fun w hw => hw.clear)
      · refine r_exit ?_
        refine r_te ?_
        refine r_te ?_
        refine r_be ?_
        refine r_bn ?_
        refine r_tn ?_
        refine r_region ?_
        refine r_move rfl rfl ?_
        refine r_add rfl rfl rfl (w64 (by omega)) ?_
        refine r_assign rfl rfl ?_
        refine r_nil ?_
        refine r_tn ?_
        have hj3 : j = fs[k].length := by have h : ¬ j < fs[k].length := of_decide_eq_false hc; omega
        exact r_againN (k + 1) ⟨by omega, fun i h hi => by
          by_cases e : i = k
          · subst e; exact ⟨by omega, fun x hx => by obtain ⟨q, hq, rfl⟩ := List.mem_iff_getElem.1 hx; exact hgj q hq (by omega)⟩
          · exact hg i h (by omega)⟩ (by omega) ⟨rfl, rfl, trivial⟩ (fun w hw => hw.clear)
    · refine r_exit ?_
      refine r_te ?_
      refine r_te ?_
      refine r_be ?_
      refine r_tn ?_
      refine r_seq ?_
      refine r_region ?_
      refine r_assign rfl rfl ?_
      refine r_nil ?_
      refine r_tn ?_
      refine r_ret ?_
      have hk3 : k = fs.length := by have h := of_decide_eq_false hc; omega
      subst hk3
      exact r_done1 (.inl rfl) rfl (res_tmp rfl) fun w hw => ⟨by rw [right_yes hl100 fun j h => hg j h h], hw.clear⟩
end Go.Proofs.YtghjbnbkfohmlaaDoor
