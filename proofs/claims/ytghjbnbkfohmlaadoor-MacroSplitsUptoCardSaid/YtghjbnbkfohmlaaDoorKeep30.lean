/-
  Macros (chapter 30): MacroKeeps.
-/
import Derived.Test.YtghjbnbkfohmlaaDoorInv30
namespace Go.Proofs.YtghjbnbkfohmlaaDoor
open Go Go.RowKit
set_option linter.unusedVariables false
set_option linter.unusedSimpArgs false
set_option maxHeartbeats 2000000
set_option maxRecDepth 4000
attribute [local irreducible] mix

theorem ownsOf_cons (p : Value × List Ev) (L : List (Value × List Ev)) : ownsOf (p :: L) = .own 32 2 p.1 p.2.length (evsL p.2) :: ownsOf L := rfl
theorem evsL_one (f : List Ev) : ∀ u ∈ evsL f, u.oneCell' = true := by
  intro u hu
  unfold evsL at hu
  obtain ⟨x, _, hx⟩ := List.mem_flatMap.1 hu
  simp only [List.mem_cons, List.not_mem_nil, or_false] at hx
  rcases hx with rfl | rfl <;> rfl
theorem evsL_set : ∀ {f : List Ev} {k : Nat} (h : k < f.length), (evsL f).set (k * 2) (.int .i64 99) = evsL (f.set k (99, (f[k]'h).2))
  | e :: f, 0, _ => rfl
  | e :: f, k + 1, h => by
    have h2 := evsL_set (f := f) (k := k) (by simpa using h)
    rw [show (k + 1) * 2 = (k * 2) + 1 + 1 by omega, evsL_cons, List.set_cons_succ, List.set_cons_succ, h2, List.set_cons_succ, evsL_cons]
    rfl
/-- headers of rows whose contents are not told -/
def FrS (hv : List Value) (fs : List (List Ev)) (M : List (Value × List Ev)) : Prop := hv.length = fs.length ∧ ∀ i (h : i < fs.length), ∃ A c, hv[i]? = some (.slice A fs[i].length c) ∧ (fs[i] ≠ [] → ∃ f : List Ev, f.length = fs[i].length ∧ (.slice A fs[i].length c, f) ∈ M)
theorem FrL.toS {hv : List Value} {fs : List (List Ev)} {M : List (Value × List Ev)} (h : FrL hv fs M) : FrS hv fs M := ⟨h.1, fun i hi => by
  obtain ⟨A, c, h1, h2⟩ := h.2 i hi
  exact ⟨A, c, h1, fun hn => ⟨_, rfl, h2 hn⟩⟩⟩
theorem FrS.row {hv : List Value} {fs : List (List Ev)} {M : List (Value × List Ev)} (h : FrS hv fs M) {i : Nat} (hi : i < fs.length) {A : Option Addr} {c : Nat} (e : hv[i]? = some (.slice A fs[i].length c)) (hn : fs[i] ≠ []) : ∃ f : List Ev, f.length = fs[i].length ∧ (.slice A fs[i].length c, f) ∈ M := by
  obtain ⟨B, d, h1, h2⟩ := h.2 i hi
  rw [e] at h1
  injection h1 with h1
  injection h1 with h3 _ h4
  subst h3 h4
  exact h2 hn
theorem FrS.put {hv : List Value} {fs : List (List Ev)} {M1 M2 : List (Value × List Ev)} {A : Option Addr} {m c : Nat} {f f2 : List Ev} (h : FrS hv fs (M1 ++ (.slice A m c, f) :: M2)) (hf : f.length = m) (h2 : f2.length = f.length) : FrS hv fs ((.slice A m c, f2) :: (M1 ++ M2)) := ⟨h.1, fun i hi => by
  obtain ⟨B, d, h3, h4⟩ := h.2 i hi
  refine ⟨B, d, h3, fun hn => ?_⟩
  obtain ⟨q, hq, hm⟩ := h4 hn
  rcases List.mem_append.1 hm with hm | hm
  · exact ⟨q, hq, .tail _ (List.mem_append.2 (.inl hm))⟩
  · rcases List.mem_cons.1 hm with hm | hm
    · injection hm with e1 e2
      injection e1 with e1 e3 e4
      subst e1 e2 e4
      exact ⟨f2, by rw [h2, hq], by rw [e3]; exact .head _⟩
    · exact ⟨q, hq, .tail _ (List.mem_append.2 (.inr hm))⟩⟩
theorem permP {Y : List Res} {A : Option Addr} {m c : Nat} {f : List Ev} {M1 M2 L : List (Value × List Ev)} (hf : f.length = m) : (Y ++ ownsOf ((M1 ++ (.slice A m c, f) :: M2) ++ L)).Perm (.own 32 2 (.slice A m c) m (evsL f) :: (Y ++ ownsOf ((M1 ++ M2) ++ L))) := by
  subst hf
  rw [ownsOf_app, ownsOf_app, ownsOf_cons, ownsOf_app, ownsOf_app, List.append_assoc, List.append_assoc, List.cons_append]
  refine (List.Perm.append_left Y List.perm_middle).trans ?_
  exact List.perm_middle
theorem permR {Y : List Res} {A : Option Addr} {m c : Nat} {f : List Ev} {M1 M2 L : List (Value × List Ev)} (hf : f.length = m) : (.own 32 2 (.slice A m c) m (evsL f) :: (Y ++ ownsOf ((M1 ++ M2) ++ L))).Perm (Y ++ ownsOf (((.slice A m c, f) :: (M1 ++ M2)) ++ L)) := by
  subst hf
  rw [List.cons_append, ownsOf_cons]
  exact List.perm_middle.symm
attribute [local irreducible] evsL ownsOf rightB cmdsL waitT evT stOf


theorem MacroKeeps_walk (fs : List (List Ev)) (A : Option Addr) (c : Nat) (hv1 : List Value) (w : World) (hG : Glob30 w) (hA : Rd w A hv1) (hF1 : FrRd w hv1 fs) :
    Calls Tryd.prog 3 #[.slice A fs.length c] w fun e w' => e = .returned (.bool true) ∧ Sat w [] [] w' := by
  refine enter Tryd.func3 rfl rfl rfl ?_
  refine r_seq ?_
  refine r_region ?_
  refine r_assign rfl rfl ?_
  refine r_nil ?_
  refine r_tn ?_
  refine r_seq ?_
  refine r_seq ?_
  refine r_region ?_
  refine r_call rfl rfl rfl (by kernel_rfl) rfl (fun w hw => by exact awake30 w (hG.keep hw.clear)) ?_
  refine r_not rfl rfl rfl ?_
  refine r_move rfl rfl ?_
  refine r_go rfl rfl ?_
  refine r_move rfl rfl ?_
  refine r_go rfl rfl ?_
  refine r_call rfl rfl rfl (by kernel_rfl) rfl (fun w hw => by exact refRight30 fs A c hv1 w (hA.keep hw.clear) (hF1.keep hw.clear)) ?_
  refine r_go rfl rfl ?_
  refine r_not rfl rfl rfl ?_
  refine r_pick_f rfl rfl rfl ?_
  refine r_nil ?_
  refine r_tn ?_
  refine r_cond rfl (fun hc => ?_) (fun hc => ?_)
  · refine r_seq ?_
    refine r_region ?_
    refine r_call rfl rfl rfl (by kernel_rfl) rfl (fun w hw => by exact awake30 w (hG.keep hw.clear)) ?_
    refine r_assign rfl rfl ?_
    refine r_nil ?_
    refine r_tn ?_
    refine r_ret ?_
    refine r_tr ?_
    exact r_done1 (.inl rfl) rfl (res_tmp rfl) fun w hw => ⟨rfl, hw.clear⟩
  · refine r_skip ?_
    refine r_tn ?_
    refine r_seq ?_
    refine r_region ?_
    refine r_assign rfl rfl ?_
    refine r_nil ?_
    refine r_tn ?_
    refine r_seq ?_
    refine r_seq ?_
    refine r_region ?_
    refine r_assign rfl rfl ?_
    refine r_nil ?_
    refine r_tn ?_
    refine r_block ?_
    have hr : rightB fs = true := by cases e : rightB fs with | true => rfl | false => rw [e] at hc; cases hc
    obtain ⟨hl100, hfr⟩ := (right_iff fs).1 hr
    have hE := cmds_expand (fs := fs) (by omega) (fun f hf => (hfr f hf).2)
    have hsh : ∀ f ∈ fs, f.length ≤ 1000000000000 := fun f hf => by have h := (hfr f hf).1; omega
    have hcl := cmdsL_len hfr
    refine Run.startL ?_
    refine Run.ownNil 25 1 ?_
    refine r_loop4 (fun k (hvo : List Value) A3 (c3 : Nat) (L : List (Value × List Ev)) => [(0, .slice A fs.length c), (3, .slice A3 k c3), (4, .int .i64 (k : Int))]) (fun k hvo A3 c3 L => [.own 25 1 (.slice A3 k c3) k hvo] ++ ownsOf L) (fun k hvo A3 c3 L => k ≤ fs.length ∧ FrL hvo (fs.take k) L) fs.length 0 [] none 0 [] ⟨by omega, FrL.nil _⟩ ⟨rfl, rfl, rfl, trivial⟩ (fun w hw => hw) fun k hvo A3 c3 L hp => ?_
    obtain ⟨hk, hFo⟩ := hp
    refine r_seq ?_
    refine r_seq ?_
    refine r_region ?_
    refine r_move rfl rfl ?_
    refine r_move rfl rfl ?_
    refine r_len rfl rfl rfl ?_
    refine r_lss (p := decide (k < fs.length)) rfl rfl rfl (decide_eq_decide.2 ⟨fun _ => by omega, fun _ => by omega⟩) ?_
    refine r_nil ?_
    refine r_tn ?_
    refine r_cond rfl (fun hc => ?_) (fun hc => ?_)
    · refine r_skip ?_
      refine r_tn ?_
      refine r_seq ?_
      refine r_block ?_
      refine r_region ?_
      have hk2 : k < fs.length := by have h := of_decide_eq_true hc; omega
      clear hc
      obtain ⟨A1, c1, e1, r1⟩ := hF1.2 k hk2
      obtain ⟨bA, oA, rfl⟩ := rd_some hA e1
      have hfk := (hfr _ (List.getElem_mem hk2)).1
      refine r_move rfl rfl ?_
      refine r_lit (sz := 2) (pv := []) (cells := #[]) rfl rfl rfl rfl rfl rfl (by kernel_rfl) rfl (fun b29 => ?_) (by decide)
      refine r_move rfl rfl ?_
      refine r_move rfl rfl ?_
      refine r_indexSl (sz := 1) (o' := oA + k) rfl rfl rfl rfl rfl (by omega) (by omega) (by omega) ?_
      refine r_loadC (p := ⟨bA, oA + k, none⟩) (v := .slice A1 fs[k].length c1) rfl rfl rfl (fun w hw => (hA.keep hw).cell e1 rfl) ?_
      refine r_append (k := fs[k].length) (news := evsL fs[k]) (sz := 2) (bytes := 16) rfl rfl rfl rfl rfl rfl (by decide) (fun w hw => r1.keep hw.clear) (evsL_len _) (evsL_one _) (by omega) (by unfold maxLen; omega) fun A34 c34 => ?_
      rw [show (0 + fs[k].length) = fs[k].length from Nat.zero_add _, show (#[] : Array Value).toList ++ evsL fs[k] = evsL fs[k] from rfl]
      refine r_lit (sz := 1) (pv := [(0, .slice A34 fs[k].length c34)]) (cells := #[.slice A34 fs[k].length c34]) rfl rfl rfl rfl rfl rfl (by kernel_rfl) rfl (fun b35 => ?_) (by decide)
      refine r_append (k := 1) (news := [.slice A34 fs[k].length c34]) (sz := 1) (bytes := 24) rfl rfl rfl rfl rfl rfl (by decide) (fun w hw => own_rd (A := some ⟨b35, 0, none⟩) (m := 1) (c := 1) hw) rfl (fun u hu => by simp at hu; subst hu; rfl) (by omega) (by unfold maxLen; omega) fun A36 c36 => ?_
      refine r_assign rfl rfl ?_
      refine r_nil ?_
      refine r_bn ?_
      refine r_tn ?_
      refine r_region ?_
      refine r_move rfl rfl ?_
      refine r_add rfl rfl rfl (w64 (by omega)) ?_
      refine r_assign rfl rfl ?_
      refine r_nil ?_
      refine r_tn ?_
      exact r_again4 (k + 1) (hvo ++ [.slice A34 fs[k].length c34]) A36 c36 ((.slice A34 fs[k].length c34, fs[k]) :: L) ⟨by omega, by rw [List.take_add_one, List.getElem?_eq_getElem hk2]; exact hFo.snoc fs[k] A34 c34⟩ (by omega) ⟨rfl, rfl, rfl, trivial⟩ (fun w hw => by
        show Sat _ _ (.own 25 1 (.slice A36 (k + 1) c36) (k + 1) (hvo ++ [.slice A34 fs[k].length c34]) :: ownsOf ((.slice A34 fs[k].length c34, fs[k]) :: L)) w
        rw [ownsOf_cons]
        exact hw.sub)
    · refine r_exit ?_
      refine r_te ?_
      refine r_te ?_
      refine r_be ?_
      refine r_tn ?_
      refine r_seq ?_
      refine r_region ?_
      have hk3 : k = fs.length := by have h : ¬ k < fs.length := of_decide_eq_false hc; omega
      clear hc
      subst hk3
      rw [List.take_length] at hFo
      refine r_move rfl rfl ?_
      refine r_callx rfl rfl rfl (by kernel_rfl) rfl (fun w hw => by exact commandsF30 fs hl100 hfr A3 c3 hvo w (own_rd (A := A3) (m := fs.length) (c := c3) hw) (hFo.rd (fun x hx => hw.ok x (by simp [hx]))) (hG.keep hw.clear)) ?_
      rintro ⟨A38, c38⟩ _
      refine r_assign rfl rfl ?_
      refine r_nil ?_
      refine r_tn ?_
      refine r_seq ?_
      refine r_region ?_
      refine r_move rfl rfl ?_
      refine r_callE (X := [.own 9 1 (.slice A38 (cmdsL fs).length c38) (cmdsL fs).length ((cmdsL fs).map txV), .own 25 1 (.slice A3 fs.length c3) fs.length hvo]) (L0 := L) (by first | rfl | exact (by simp)) rfl rfl rfl (by kernel_rfl) rfl (fun w hw => by exact expandE30 A38 c38 (cmdsL fs).length (cmdsL fs) fs rfl hE.1 hE.2 (by have h := cmdsL_len hfr; omega) (cmdsL_small hl100) w (hG.keep hw.clear) (own_rd (A := A38) (m := (cmdsL fs).length) (c := c38) hw)) ?_
      rintro ⟨B, d, _, _, hu, M⟩ hF2
      have hF2 : FrL hu fs M := hF2
      refine Run.less (H' := .own 25 1 (.slice B fs.length d) fs.length hu :: .own 9 1 (.slice A38 (cmdsL fs).length c38) (cmdsL fs).length ((cmdsL fs).map txV) :: .own 25 1 (.slice A3 fs.length c3) fs.length hvo :: ownsOf (M ++ L)) (fun w hw => hw.sub) ?_
      refine r_move rfl rfl ?_
      refine r_extract (v := .slice B fs.length d) rfl rfl rfl ?_
      refine r_extract (v := .int .i64 0) rfl rfl rfl ?_
      refine r_extract (v := .int .i64 0) rfl rfl rfl ?_
      refine r_assign rfl rfl ?_
      refine r_assign rfl rfl ?_
      refine r_assign rfl rfl ?_
      refine r_nil ?_
      refine r_tn ?_
      refine r_seq ?_
      refine r_seq ?_
      refine r_region ?_
      refine r_assign rfl rfl ?_
      refine r_nil ?_
      refine r_tn ?_
      refine r_block ?_
      refine r_loop1 (fun i (M' : List (Value × List Ev)) => [(0, .slice A fs.length c), (3, .slice A3 fs.length c3), (5, .slice A38 (cmdsL fs).length c38), (6, .slice B fs.length d), (9, .int .i64 (i : Int))]) (fun i M' => [.own 25 1 (.slice B fs.length d) fs.length hu, .own 9 1 (.slice A38 (cmdsL fs).length c38) (cmdsL fs).length ((cmdsL fs).map txV), .own 25 1 (.slice A3 fs.length c3) fs.length hvo] ++ ownsOf (M' ++ L)) (fun i M' => i ≤ fs.length ∧ FrS hu fs M') fs.length 0 M ⟨by omega, hF2.toS⟩ ⟨rfl, rfl, rfl, rfl, rfl, trivial⟩ (fun w hw => hw) fun i M' hp => ?_
      obtain ⟨hi, hS⟩ := hp
      refine r_seq ?_
      refine r_seq ?_
      refine r_region ?_
      refine r_move rfl rfl ?_
      refine r_move rfl rfl ?_
      refine r_len rfl rfl rfl ?_
      refine r_lss (p := decide (i < fs.length)) rfl rfl rfl (decide_eq_decide.2 ⟨fun _ => by omega, fun _ => by omega⟩) ?_
      refine r_nil ?_
      refine r_tn ?_
      refine r_cond rfl (fun hc => ?_) (fun hc => ?_)
      · refine r_skip ?_
        refine r_tn ?_
        refine r_seq ?_
        refine r_block ?_
        refine r_seq ?_
        refine r_region ?_
        refine r_assign rfl rfl ?_
        refine r_nil ?_
        refine r_tn ?_
        refine r_block ?_
        have hi2 : i < fs.length := by have h := of_decide_eq_true hc; omega
        clear hc
        refine r_have (fun w hw => own_some (A := B) (m := fs.length) (c := d) hw (by omega)) fun hg => ?_
        obtain ⟨g, rfl⟩ := hg
        obtain ⟨A1, c1, e1, _⟩ := hS.2 i hi2
        have hfi := (hfr _ (List.getElem_mem hi2)).1
        refine r_loop1 (fun k (M'' : List (Value × List Ev)) => [(0, .slice A fs.length c), (3, .slice A3 fs.length c3), (5, .slice A38 (cmdsL fs).length c38), (6, .slice (some ⟨g, 0, none⟩) fs.length d), (9, .int .i64 (i : Int)), (10, .int .i64 (k : Int))]) (fun k M'' => [.own 25 1 (.slice (some ⟨g, 0, none⟩) fs.length d) fs.length hu, .own 9 1 (.slice A38 (cmdsL fs).length c38) (cmdsL fs).length ((cmdsL fs).map txV), .own 25 1 (.slice A3 fs.length c3) fs.length hvo] ++ ownsOf (M'' ++ L)) (fun k M'' => k ≤ fs[i].length ∧ FrS hu fs M'') fs[i].length 0 M' ⟨by omega, hS⟩ ⟨rfl, rfl, rfl, rfl, rfl, rfl, trivial⟩ (fun w hw => hw) fun k M'' hp => ?_
        obtain ⟨hk, hS2⟩ := hp
        refine r_seq ?_
        refine r_seq ?_
        refine r_region ?_
        refine r_move rfl rfl ?_
        refine r_move rfl rfl ?_
        refine r_move rfl rfl ?_
        refine r_indexSl (sz := 1) (o' := i) rfl rfl rfl rfl rfl (by omega) (by omega) (by omega) ?_
        refine r_loadC (p := ⟨g, i, none⟩) (v := .slice A1 fs[i].length c1) rfl rfl rfl (fun w hw => by have h := (own_rd (A := some ⟨g, 0, none⟩) (m := fs.length) (c := d) hw).cell e1 rfl; rw [Nat.zero_add] at h; exact h) ?_
        refine r_len rfl rfl rfl ?_
        refine r_lss (p := decide (k < fs[i].length)) rfl rfl rfl (decide_eq_decide.2 ⟨fun _ => by omega, fun _ => by omega⟩) ?_
        refine r_nil ?_
        refine r_tn ?_
        refine r_cond rfl (fun hc => ?_) (fun hc => ?_)
        · refine r_skip ?_
          refine r_tn ?_
          refine r_seq ?_
          refine r_block ?_
          refine r_region ?_
          have hk2 : k < fs[i].length := by have h := of_decide_eq_true hc; omega
          clear hc
          obtain ⟨f1, hf1, hm1⟩ := hS2.row hi2 e1 (fun e => by rw [e] at hk2; exact absurd hk2 (Nat.not_lt_zero k))
          obtain ⟨M1, M2, rfl⟩ := List.append_of_mem hm1
          refine Run.perm (permP hf1) ?_
          refine r_have (fun w hw => own_some (A := A1) (m := fs[i].length) (c := c1) hw (by omega)) fun hg => ?_
          obtain ⟨g1, rfl⟩ := hg
          have hkf : k < f1.length := by omega
          refine r_move rfl rfl ?_
          refine r_move rfl rfl ?_
          refine r_indexSl (sz := 1) (o' := i) rfl rfl rfl rfl rfl (by omega) (by omega) (by omega) ?_
          refine r_loadC (p := ⟨g, i, none⟩) (v := .slice (some ⟨g1, 0, none⟩) fs[i].length c1) rfl rfl rfl (fun w hw => by have h := (own_rd (A := some ⟨g, 0, none⟩) (m := fs.length) (c := d) hw).cell e1 rfl; rw [Nat.zero_add] at h; exact h) ?_
          refine r_move rfl rfl ?_
          refine r_indexSl (sz := 2) (o' := k * 2) rfl rfl rfl rfl rfl (by omega) (by omega) (by omega) ?_
          refine r_fieldAddr (off := 0) (o' := k * 2) rfl rfl rfl rfl ?_
          refine r_storeCell (sz := 2) (m := fs[i].length) (c := c1) rfl rfl rfl rfl rfl (by omega) ?_
          refine r_nil ?_
          refine r_bn ?_
          refine r_tn ?_
          refine r_region ?_
          refine r_move rfl rfl ?_
          refine r_add rfl rfl rfl (w64 (by omega)) ?_
          refine r_assign rfl rfl ?_
          refine r_nil ?_
          refine r_tn ?_
          exact r_again1 (k + 1) ((.slice (some ⟨g1, 0, none⟩) fs[i].length c1, f1.set k (99, (f1[k]'hkf).2)) :: (M1 ++ M2)) ⟨by omega, hS2.put hf1 (by rw [List.length_set])⟩ (by omega) ⟨rfl, rfl, rfl, rfl, rfl, rfl, trivial⟩ (fun w hw => by
            rw [evsL_set hkf] at hw
            exact hw.perm (permR (by rw [List.length_set]; exact hf1)))
        · refine r_exit ?_
          refine r_te ?_
          refine r_te ?_
          refine r_be ?_
          refine r_bn ?_
          refine r_tn ?_
          refine r_region ?_
          refine r_move rfl rfl ?_
          refine r_add rfl rfl rfl (w64 (by omega)) ?_
          refine r_assign rfl rfl ?_
          refine r_nil ?_
          refine r_tn ?_
          exact r_again1 (i + 1) M'' ⟨by omega, hS2⟩ (by omega) ⟨rfl, rfl, rfl, rfl, rfl, trivial⟩ (fun w hw => hw)
      · refine r_exit ?_
        refine r_te ?_
        refine r_te ?_
        refine r_be ?_
        refine r_tn ?_
        refine r_seq ?_
        refine r_region ?_
        refine r_move rfl rfl ?_
        refine r_callE (X := [.own 25 1 (.slice B fs.length d) fs.length hu, .own 9 1 (.slice A38 (cmdsL fs).length c38) (cmdsL fs).length ((cmdsL fs).map txV), .own 25 1 (.slice A3 fs.length c3) fs.length hvo]) (L0 := M' ++ L) (by first | rfl | exact (by simp)) rfl rfl rfl (by kernel_rfl) rfl (fun w hw => by exact expandE30 A38 c38 (cmdsL fs).length (cmdsL fs) fs rfl hE.1 hE.2 (by have h := cmdsL_len hfr; omega) (cmdsL_small hl100) w (hG.keep hw.clear) (own_rd (A := A38) (m := (cmdsL fs).length) (c := c38) hw)) ?_
        rintro ⟨C, e, _, _, ht, O⟩ hF3
        have hF3 : FrL ht fs O := hF3
        refine Run.less (H' := .own 25 1 (.slice C fs.length e) fs.length ht :: .own 9 1 (.slice A38 (cmdsL fs).length c38) (cmdsL fs).length ((cmdsL fs).map txV) :: .own 25 1 (.slice A3 fs.length c3) fs.length hvo :: ownsOf (O ++ (M' ++ L))) (fun w hw => hw.sub) ?_
        refine r_move rfl rfl ?_
        refine r_extract (v := .slice C fs.length e) rfl rfl rfl ?_
        refine r_extract (v := .int .i64 0) rfl rfl rfl ?_
        refine r_extract (v := .int .i64 0) rfl rfl rfl ?_
        refine r_assign rfl rfl ?_
        refine r_assign rfl rfl ?_
        refine r_assign rfl rfl ?_
        refine r_nil ?_
        refine r_tn ?_
        refine r_seq ?_
        refine r_region ?_
        refine r_move rfl rfl ?_
        refine r_move rfl rfl ?_
        refine r_call rfl rfl rfl (by kernel_rfl) rfl (fun w hw => by exact refSame30 fs (by omega) A3 A c3 c hvo hv1 w (own_rd (A := A3) (m := fs.length) (c := c3) hw) (((hFo.right M').right O).rd (fun x hx => hw.ok x (by simp [hx]))) (hA.keep hw.clear) (hF1.keep hw.clear) hsh) ?_
        refine r_move rfl rfl ?_
        refine r_go rfl rfl ?_
        refine r_move rfl rfl ?_
        refine r_go rfl rfl ?_
        refine r_move rfl rfl ?_
        refine r_go rfl rfl ?_
        refine r_call rfl rfl rfl (by kernel_rfl) rfl (fun w hw => by exact refSame30 fs (by omega) C A e c ht hv1 w (own_rd (A := C) (m := fs.length) (c := e) hw) ((hF3.left (M' ++ L)).rd (fun x hx => hw.ok x (by simp [hx]))) (hA.keep hw.clear) (hF1.keep hw.clear) hsh) ?_
        refine r_pick_t rfl rfl rfl ?_
        refine r_assign rfl rfl ?_
        refine r_nil ?_
        refine r_tn ?_
        refine r_ret ?_
        exact r_done1 (.inl rfl) rfl (res_tmp rfl) fun w hw => ⟨rfl, hw.clear⟩
end Go.Proofs.YtghjbnbkfohmlaaDoor
