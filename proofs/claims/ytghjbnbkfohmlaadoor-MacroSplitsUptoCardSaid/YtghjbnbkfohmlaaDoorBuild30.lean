/-
  Macros (chapter 30): the builder; the commands by their words.
-/
import Derived.Test.YtghjbnbkfohmlaaDoorCount30
namespace Go.Proofs.YtghjbnbkfohmlaaDoor
open Go Go.RowKit
set_option linter.unusedVariables false
set_option linter.unusedSimpArgs false
set_option maxHeartbeats 2000000
set_option maxRecDepth 4000
attribute [local irreducible] mix
def OkAll (R : List Res) (w : World) : Prop := ∀ x, x ∈ R → x.ok w
theorem okAll_rd {R : List Res} {w : World} (h : OkAll R w) {T sz n c : Nat} {A : Option Addr} {xs : List Value} (hm : Res.own T sz (.slice A n c) n xs ∈ R) : Rd w A xs := owns_rd (h _ hm)

class TailRes (H2 H : List Res) : Prop where
  sub : ∃ G, H.Perm (H2 ++ G)
instance TailRes.refl (R : List Res) : TailRes R R := ⟨⟨[], by rw [List.append_nil]⟩⟩
instance TailRes.skip (R H : List Res) (x : Res) [h : TailRes R H] : TailRes R (x :: H) := ⟨by
  obtain ⟨G, hp⟩ := h.sub
  exact ⟨x :: G, (hp.cons x).trans List.perm_middle.symm⟩⟩
instance TailRes.app0 (R B : List Res) [h : TailRes R B] : TailRes R ([] ++ B) := h
instance TailRes.app (R A B : List Res) (x : Res) [h : TailRes R (x :: (A ++ B))] : TailRes R ((x :: A) ++ B) := h
instance (priority := low) SubRes.tail (R H : List Res) [h : TailRes R H] : SubRes R H := ⟨h.sub⟩
theorem Run.less {n : Nat} {w0 : World} {S : List Nat} {E : List (Nat × Value)} {H H' : List Res} {Gl : Act → World → Prop} (hs : ∀ w, Sat w0 S H w → Sat w0 S H' w) (h : Run n w0 S E H' Gl) : Run n w0 S E H Gl := fun a w ha hw => h a w ha (hs w hw)
/-- the cells of events -/
def evsL (f : List Ev) : List Value := f.flatMap fun e => [.int .i64 e.1, .bool e.2]
theorem evsL_nil : evsL [] = [] := rfl
theorem evsL_cons (e : Ev) (f : List Ev) : evsL (e :: f) = .int .i64 e.1 :: .bool e.2 :: evsL f := rfl
theorem evsL_app (f g : List Ev) : evsL (f ++ g) = evsL f ++ evsL g := by simp [evsL]
theorem evsL_snoc (f : List Ev) (n : Int) (d : Bool) : evsL (f ++ [(n, d)]) = evsL f ++ [.int .i64 n, .bool d] := evsL_app f [(n, d)]
theorem evsL_len : ∀ f : List Ev, (evsL f).length = f.length * 2
  | [] => rfl
  | e :: f => by
    rw [evsL_cons, List.length_cons, List.length_cons, List.length_cons, evsL_len f]; omega
/-- frames' rows of events -/
def ownsOf (L : List (Value × List Ev)) : List Res := L.map fun p => .own 32 2 p.1 p.2.length (evsL p.2)
structure BIx where
  A0 : Option Addr
  c0 : Nat
  A1 : Option Addr
  c1 : Nat
  hv : List Value
  L : List (Value × List Ev)
/-- the headers of frames, and their rows -/
def FrL (hv : List Value) (fs : List (List Ev)) (L : List (Value × List Ev)) : Prop := hv.length = fs.length ∧ ∀ i (h : i < fs.length), ∃ A c, hv[i]? = some (.slice A fs[i].length c) ∧ (fs[i] ≠ [] → (.slice A fs[i].length c, fs[i]) ∈ L)
def FrRd (w : World) (hv : List Value) (fs : List (List Ev)) : Prop := hv.length = fs.length ∧ ∀ i (h : i < fs.length), ∃ A c, hv[i]? = some (.slice A fs[i].length c) ∧ Rd w A (evsL fs[i])
theorem FrL.rd {w : World} {hv : List Value} {fs : List (List Ev)} {L : List (Value × List Ev)} (h : FrL hv fs L) (hk : OkAll (ownsOf L) w) : FrRd w hv fs := by
  refine ⟨h.1, fun i hi => ?_⟩
  obtain ⟨A, c, h1, h2⟩ := h.2 i hi
  refine ⟨A, c, h1, ?_⟩
  by_cases e : fs[i] = []
  · rw [e]; exact Rd.nil _ _
  · exact okAll_rd (n := fs[i].length) (c := c) hk (List.mem_map.2 ⟨_, h2 e, rfl⟩)
theorem FrRd.keep {w w1 : World} {hv : List Value} {fs : List (List Ev)} {H : List Res} (h : FrRd w hv fs) (hw : Sat w [] H w1) : FrRd w1 hv fs := ⟨h.1, fun i hi => by
  obtain ⟨A, c, h1, h2⟩ := h.2 i hi
  exact ⟨A, c, h1, h2.keep hw⟩⟩
theorem FrL.nil (L : List (Value × List Ev)) : FrL [] [] L := ⟨rfl, fun i h => by simp at h⟩
theorem FrL.snoc {hv : List Value} {fs : List (List Ev)} {L : List (Value × List Ev)} (h : FrL hv fs L) (f : List Ev) (A : Option Addr) (c : Nat) : FrL (hv ++ [.slice A f.length c]) (fs ++ [f]) ((.slice A f.length c, f) :: L) := by
  refine ⟨by rw [List.length_append, List.length_append, h.1]; rfl, fun i hi => ?_⟩
  by_cases hl : i < fs.length
  · obtain ⟨B, d, h1, h2⟩ := h.2 i hl
    have e : (fs ++ [f])[i] = fs[i] := List.getElem_append_left hl
    rw [e]
    exact ⟨B, d, by rw [List.getElem?_append_left (by rw [h.1]; exact hl)]; exact h1, fun hn => .tail _ (h2 hn)⟩
  · have e0 : i = fs.length := by
      rw [List.length_append] at hi
      simp only [List.length_cons, List.length_nil] at hi
      omega
    subst e0
    have e : (fs ++ [f])[fs.length] = f := by simp
    rw [e]
    refine ⟨A, c, ?_, fun _ => .head _⟩
    rw [← h.1]
    simp
theorem FrL.nils {hv : List Value} {fs : List (List Ev)} {L : List (Value × List Ev)} (h : FrL hv fs L) (k : Nat) : FrL (hv ++ List.replicate k (.slice none 0 0)) (fs ++ List.replicate k []) L := by
  refine ⟨by rw [List.length_append, List.length_append, h.1, List.length_replicate, List.length_replicate], fun i hi => ?_⟩
  by_cases hl : i < fs.length
  · obtain ⟨B, d, h1, h2⟩ := h.2 i hl
    have e : (fs ++ List.replicate k [])[i] = fs[i] := List.getElem_append_left hl
    rw [e]
    exact ⟨B, d, by rw [List.getElem?_append_left (by rw [h.1]; exact hl)]; exact h1, h2⟩
  · have hk : i - fs.length < k := by
      rw [List.length_append, List.length_replicate] at hi
      omega
    have e : (fs ++ List.replicate k ([] : List Ev))[i] = [] := by
      rw [List.getElem_append_right (by omega), List.getElem_replicate]
    rw [e]
    refine ⟨none, 0, ?_, fun hn => absurd rfl hn⟩
    rw [List.getElem?_append_right (by rw [h.1]; omega), List.getElem?_replicate, if_pos (by rw [h.1]; exact hk)]
    rfl
/-- the builder with its things -/
abbrev BRes (b : Nat) (s : St) (ix : BIx) : List Res := .blk b (.cells #[.slice ix.A0 s.fs.length ix.c0, .slice ix.A1 s.pr.length ix.c1] 51 (0, 0)) :: .own 25 1 (.slice ix.A0 s.fs.length ix.c0) s.fs.length ix.hv :: .own 32 2 (.slice ix.A1 s.pr.length ix.c1) s.pr.length (evsL s.pr) :: ownsOf ix.L
theorem bres_ev {b : Nat} {fs : List (List Ev)} {pr : List Ev} {n : Int} {d : Bool} {A0 A1 : Option Addr} {c0 c1 : Nat} {hv : List Value} {L : List (Value × List Ev)} :
    BRes b (stEv ⟨fs, pr⟩ (n, d)) ⟨A0, c0, A1, c1, hv, L⟩ = .blk b (.cells #[.slice A0 fs.length c0, .slice A1 (pr.length + 1) c1] 51 (0, 0)) :: .own 25 1 (.slice A0 fs.length c0) fs.length hv :: .own 32 2 (.slice A1 (pr.length + 1) c1) (pr.length + 1) (evsL pr ++ [.int .i64 n, .bool d]) :: ownsOf L := by
  unfold BRes stEv
  rw [len_snoc, evsL_snoc]
def wHv (ix : BIx) (s : St) (n : Nat) : List Value := ix.hv ++ [.slice ix.A1 s.pr.length ix.c1] ++ List.replicate (n - 1) (.slice none 0 0)
def wL (ix : BIx) (s : St) : List (Value × List Ev) := (.slice ix.A1 s.pr.length ix.c1, s.pr) :: ix.L
theorem FrL.wait {ix : BIx} {s : St} (h : FrL ix.hv s.fs ix.L) (n : Nat) : FrL (wHv ix s n) (stWait s n).fs (wL ix s) := (h.snoc s.pr ix.A1 ix.c1).nils (n - 1)
theorem bres_wait {b n : Nat} {fs : List (List Ev)} {pr : List Ev} {A0 A1 A2 : Option Addr} {c0 c1 c2 : Nat} {hv : List Value} {L : List (Value × List Ev)} :
    BRes b (stWait ⟨fs, pr⟩ n) ⟨A2, c2, none, 0, wHv ⟨A0, c0, A1, c1, hv, L⟩ ⟨fs, pr⟩ n, wL ⟨A0, c0, A1, c1, hv, L⟩ ⟨fs, pr⟩⟩ = .blk b (.cells #[.slice A2 (fs.length + 1 + (n - 1)) c2, .slice none 0 0] 51 (0, 0)) :: .own 25 1 (.slice A2 (fs.length + 1 + (n - 1)) c2) (fs.length + 1 + (n - 1)) (hv ++ [.slice A1 pr.length c1] ++ List.replicate (n - 1) (.slice none 0 0)) :: .own 32 2 (.slice none 0 0) 0 [] :: .own 32 2 (.slice A1 pr.length c1) pr.length (evsL pr) :: ownsOf L := by
  have e : (fs ++ [pr] ++ List.replicate (n - 1) []).length = fs.length + 1 + (n - 1) := by
    rw [List.length_append, len_snoc, List.length_replicate]
  unfold BRes stWait
  simp only [e]
  rfl
def resH (s : St) (ix : BIx) : List Value := if s.pr = [] then ix.hv else ix.hv ++ [.slice ix.A1 s.pr.length ix.c1]
def resL (s : St) (ix : BIx) : List (Value × List Ev) := if s.pr = [] then ix.L else (.slice ix.A1 s.pr.length ix.c1, s.pr) :: ix.L
theorem FrL.res {ix : BIx} {s : St} (h : FrL ix.hv s.fs ix.L) : FrL (resH s ix) (resF s) (resL s ix) := by
  unfold resH resF resL
  by_cases e : s.pr = []
  · rw [if_pos e, if_pos e, if_pos e]; exact h
  · rw [if_neg e, if_neg e, if_neg e]; exact h.snoc s.pr ix.A1 ix.c1
theorem resF_ne {fs : List (List Ev)} {pr : List Ev} (h : pr ≠ []) : (resF ⟨fs, pr⟩).length = fs.length + 1 := by
  unfold resF
  rw [if_neg h]
  exact len_snoc _ _
theorem resF_nil {fs : List (List Ev)} {pr : List Ev} (h : pr = []) : (resF ⟨fs, pr⟩).length = fs.length := by
  unfold resF
  rw [if_pos h]
abbrev resRes (s : St) (ix : BIx) (A : Option Addr) (c : Nat) : List Res := .own 25 1 (.slice A (resF s).length c) (resF s).length (resH s ix) :: ownsOf (resL s ix)
theorem resRes_ne {fs : List (List Ev)} {pr : List Ev} {A0 A1 A : Option Addr} {c0 c1 c : Nat} {hv : List Value} {L : List (Value × List Ev)} (h : pr ≠ []) :
    resRes ⟨fs, pr⟩ ⟨A0, c0, A1, c1, hv, L⟩ A c = .own 25 1 (.slice A (fs.length + 1) c) (fs.length + 1) (hv ++ [.slice A1 pr.length c1]) :: .own 32 2 (.slice A1 pr.length c1) pr.length (evsL pr) :: ownsOf L := by
  unfold resRes
  rw [resF_ne h]
  unfold resH resL
  rw [if_neg h, if_neg h]
  rfl
theorem resRes_nil {fs : List (List Ev)} {pr : List Ev} {A0 A1 A : Option Addr} {c0 c1 c : Nat} {hv : List Value} {L : List (Value × List Ev)} (h : pr = []) :
    resRes ⟨fs, pr⟩ ⟨A0, c0, A1, c1, hv, L⟩ A c = .own 25 1 (.slice A fs.length c) fs.length hv :: ownsOf L := by
  unfold resRes
  rw [resF_nil h]
  unfold resH resL
  rw [if_pos h, if_pos h]
def cmdEs (bT bF : Nat) : Array MapEntry := #[⟨.string (ByteArray.mk #[112, 114, 101, 115, 115]), .func (.func 39) #[] #[.pointer (some ⟨bT, 0, none⟩)], 0⟩, ⟨.string (ByteArray.mk #[114, 101, 108, 101, 97, 115, 101]), .func (.func 39) #[] #[.pointer (some ⟨bF, 0, none⟩)], 1⟩, ⟨.string (ByteArray.mk #[119, 97, 105, 116]), .func (.func 33) #[] #[], 2⟩, ⟨.string (ByteArray.mk #[116, 97, 112]), .func (.func 34) #[] #[], 3⟩]
attribute [local irreducible] evsL ownsOf


theorem event30 (b : Nat) (s : St) (ix : BIx) (n : Int) (d : Bool) (hlen : s.pr.length ≤ 100000000) (S : List Nat) (w : World) (hS : Sat w S (BRes b s ix) w) :
    Calls Tryd.prog 41 #[.pointer (some ⟨b, 0, none⟩), .int .i64 n, .bool d] w fun e w' => ∃ i : Option Addr × Nat, e = .returned (.tuple #[]) ∧ True ∧ Sat w S (BRes b (stEv s (n, d)) ⟨ix.A0, ix.c0, i.1, i.2, ix.hv, ix.L⟩) w' := by
  obtain ⟨fs, pr⟩ := s
  obtain ⟨A0, c0, A1, c1, hv, L⟩ := ix
  have hS2 : Sat w S (.blk b (.cells #[.slice A0 fs.length c0, .slice A1 pr.length c1] 51 (0, 0)) :: .own 25 1 (.slice A0 fs.length c0) (fs.length) (hv) :: .own 32 2 (.slice A1 pr.length c1) (pr.length) (evsL pr) :: ownsOf L) w := hS
  refine enterS Tryd.func41 rfl rfl rfl hS2 ?_
  refine r_region ?_
  refine r_move rfl rfl ?_
  refine r_move rfl rfl ?_
  refine r_nilCheck rfl rfl ?_
  refine r_fieldAddr (off := 1) (o' := 1) rfl rfl rfl rfl ?_
  refine r_load1 (v := .slice A1 pr.length c1) rfl rfl rfl rfl ?_
  refine r_move rfl rfl ?_
  refine r_move rfl rfl ?_
  refine r_build (cells := #[.int .i64 n, .bool d]) rfl rfl (by kernel_rfl) ?_
  refine r_lit (sz := 2) (pv := [(0, .agg #[.int .i64 n, .bool d])]) (cells := #[.int .i64 n, .bool d]) rfl rfl rfl rfl rfl rfl (by kernel_rfl) rfl (fun b14 => ?_) (by decide)
  have hlen : pr.length ≤ 100000000 := hlen
  refine r_append (k := 1) (news := [.int .i64 n, .bool d]) (sz := 2) (bytes := 16) rfl rfl rfl rfl rfl rfl (by decide) (fun w hw => own_rd (A := some ⟨b14, 0, none⟩) (m := 1) (c := 1) hw) rfl (fun u hu => by simp at hu; rcases hu with rfl | rfl <;> rfl) (by omega) (by unfold maxLen; omega) fun A15 c15 => ?_
  refine r_nilCheck rfl rfl ?_
  refine r_fieldAddr (off := 1) (o' := 1) rfl rfl rfl rfl ?_
  refine r_store (m := 1) (cs' := #[.slice A0 fs.length c0, .slice A15 (pr.length + 1) c15]) rfl rfl rfl rfl (by show 1 + 1 ≤ 2; decide) rfl rfl ?_
  refine r_nil ?_
  exact r_done0 (.inr rfl) rfl  fun w hw => ⟨(A15, c15), rfl, trivial, by
    rw [bres_ev]
    exact hw.sub⟩

theorem wait30 (b : Nat) (s : St) (ix : BIx) (n : Nat) (hn : 1 ≤ n ∧ n ≤ 65535) (hlen : s.fs.length ≤ 100000000000) (S : List Nat) (w : World) (hS : Sat w S (BRes b s ix) w) :
    Calls Tryd.prog 43 #[.pointer (some ⟨b, 0, none⟩), .int .i64 (n : Int)] w fun e w' => ∃ i : Option Addr × Nat, e = .returned (.tuple #[]) ∧ True ∧ Sat w S (BRes b (stWait s n) ⟨i.1, i.2, none, 0, wHv ix s n, wL ix s⟩) w' := by
  obtain ⟨fs, pr⟩ := s
  obtain ⟨A0, c0, A1, c1, hv, L⟩ := ix
  have hS2 : Sat w S (.blk b (.cells #[.slice A0 fs.length c0, .slice A1 pr.length c1] 51 (0, 0)) :: .own 25 1 (.slice A0 fs.length c0) (fs.length) (hv) :: .own 32 2 (.slice A1 pr.length c1) (pr.length) (evsL pr) :: ownsOf L) w := hS
  refine enterS Tryd.func43 rfl rfl rfl hS2 ?_
  refine r_seq ?_
  refine r_mixedD { xb := [], rb := [b], rs := [8], fs := [], acs := [13] } (by kernel_rfl) (by kernel_rfl) (fun w hw k hk => by
    simp only [List.mem_cons, List.not_mem_nil, or_false] at hk
    rcases hk with rfl <;> exact Sat.lt hw) ?_
  refine r_move rfl rfl ?_
  refine r_move rfl rfl ?_
  refine r_nilCheck rfl rfl ?_
  refine r_fieldAddr (off := 0) (o' := 0) rfl rfl rfl rfl ?_
  refine r_load1 (v := .slice A0 fs.length c0) rfl rfl rfl rfl ?_
  refine r_move rfl rfl ?_
  refine r_nilCheck rfl rfl ?_
  refine r_fieldAddr (off := 1) (o' := 1) rfl rfl rfl rfl ?_
  refine r_load1 (v := .slice A1 pr.length c1) rfl rfl rfl rfl ?_
  refine r_lit (sz := 1) (pv := [(0, .slice A1 pr.length c1)]) (cells := #[.slice A1 pr.length c1]) rfl rfl rfl rfl rfl rfl (by kernel_rfl) rfl (fun b13 => ?_) (by decide)
  have hlen : fs.length ≤ 100000000000 := hlen
  refine r_append (k := 1) (news := [.slice A1 pr.length c1]) (sz := 1) (bytes := 24) rfl rfl rfl rfl rfl rfl (by decide) (fun w hw => own_rd (A := some ⟨b13, 0, none⟩) (m := 1) (c := 1) hw) rfl (fun u hu => by simp at hu; subst hu; rfl) (by omega) (by unfold maxLen; omega) fun A14 c14 => ?_
  refine r_nilCheck rfl rfl ?_
  refine r_fieldAddr (off := 0) (o' := 0) rfl rfl rfl rfl ?_
  refine r_store (m := 1) (cs' := #[.slice A14 (fs.length + 1) c14, .slice A1 pr.length c1]) rfl rfl rfl rfl (by show 0 + 1 ≤ 2; decide) rfl rfl ?_
  refine r_nil ?_
  refine r_tn ?_
  refine r_seq ?_
  refine r_region ?_
  refine r_move rfl rfl ?_
  refine r_move rfl rfl ?_
  refine r_nilCheck rfl rfl ?_
  refine r_fieldAddr (off := 0) (o' := 0) rfl rfl rfl rfl ?_
  refine r_load1 (v := .slice A14 (fs.length + 1) c14) rfl rfl rfl rfl ?_
  refine r_move rfl rfl ?_
  refine r_sub (r := ((n - 1 : Nat) : Int)) rfl rfl rfl ((w64 (by omega)).trans (by omega)) ?_
  refine r_appendZeros (k := n - 1) (bytes := 24) (zv := .slice none 0 0) rfl rfl rfl rfl rfl rfl rfl rfl rfl (by omega) (by unfold maxLen; omega) fun A24 c24 => ?_
  refine r_nilCheck rfl rfl ?_
  refine r_fieldAddr (off := 0) (o' := 0) rfl rfl rfl rfl ?_
  refine r_store (m := 1) (cs' := #[.slice A24 (fs.length + 1 + (n - 1)) c24, .slice A1 pr.length c1]) rfl rfl rfl rfl (by show 0 + 1 ≤ 2; decide) rfl rfl ?_
  refine r_nil ?_
  refine r_tn ?_
  refine r_region ?_
  refine r_move rfl rfl ?_
  refine r_nilCheck rfl rfl ?_
  refine r_fieldAddr (off := 1) (o' := 1) rfl rfl rfl rfl ?_
  refine r_store (m := 1) (cs' := #[.slice A24 (fs.length + 1 + (n - 1)) c24, .slice none 0 0]) rfl rfl rfl rfl (by show 1 + 1 ≤ 2; decide) rfl rfl ?_
  refine r_nil ?_
  refine Run.ownNil 32 2 ?_
  exact r_done0 (.inr rfl) rfl  fun w hw => ⟨(A24, c24), rfl, trivial, by
    rw [bres_wait]
    exact hw.sub⟩

theorem result30 (b : Nat) (s : St) (ix : BIx) (hlen : s.fs.length ≤ 100000000000) (S : List Nat) (w : World) (hS : Sat w S (BRes b s ix) w) :
    Calls Tryd.prog 25 #[.pointer (some ⟨b, 0, none⟩)] w fun e w' => ∃ i : Option Addr × Nat, e = .returned (.slice i.1 (resF s).length i.2) ∧ True ∧ Sat w S (resRes s ix i.1 i.2) w' := by
  obtain ⟨fs, pr⟩ := s
  obtain ⟨A0, c0, A1, c1, hv, L⟩ := ix
  have hS2 : Sat w S (.blk b (.cells #[.slice A0 fs.length c0, .slice A1 pr.length c1] 51 (0, 0)) :: .own 25 1 (.slice A0 fs.length c0) (fs.length) (hv) :: .own 32 2 (.slice A1 pr.length c1) (pr.length) (evsL pr) :: ownsOf L) w := hS
  refine enterS Tryd.func25 rfl rfl rfl hS2 ?_
  refine r_seq ?_
  refine r_region ?_
  refine r_assign rfl rfl ?_
  refine r_nil ?_
  refine r_tn ?_
  refine r_seq ?_
  refine r_seq ?_
  refine r_region ?_
  refine r_move rfl rfl ?_
  refine r_nilCheck rfl rfl ?_
  refine r_fieldAddr (off := 1) (o' := 1) rfl rfl rfl rfl ?_
  refine r_load1 (v := .slice A1 pr.length c1) rfl rfl rfl rfl ?_
  refine r_len rfl rfl rfl ?_
  refine r_gtr (p := decide (0 < pr.length)) rfl rfl rfl (decide_eq_decide.2 ⟨fun _ => by omega, fun _ => by omega⟩) ?_
  refine r_nil ?_
  refine r_tn ?_
  refine r_cond rfl (fun hc => ?_) (fun hc => ?_)
  · refine r_seq ?_
    refine r_mixedD { xb := [], rb := [b], rs := [12], fs := [], acs := [17] } (by kernel_rfl) (by kernel_rfl) (fun w hw k hk => by
      simp only [List.mem_cons, List.not_mem_nil, or_false] at hk
      rcases hk with rfl <;> exact Sat.lt hw) ?_
    refine r_move rfl rfl ?_
    refine r_nilCheck rfl rfl ?_
    refine r_fieldAddr (off := 0) (o' := 0) rfl rfl rfl rfl ?_
    refine r_load1 (v := .slice A0 fs.length c0) rfl rfl rfl rfl ?_
    refine r_move rfl rfl ?_
    refine r_nilCheck rfl rfl ?_
    refine r_fieldAddr (off := 1) (o' := 1) rfl rfl rfl rfl ?_
    refine r_load1 (v := .slice A1 pr.length c1) rfl rfl rfl rfl ?_
    refine r_lit (sz := 1) (pv := [(0, .slice A1 pr.length c1)]) (cells := #[.slice A1 pr.length c1]) rfl rfl rfl rfl rfl rfl (by kernel_rfl) rfl (fun b17 => ?_) (by decide)
    have hlen : fs.length ≤ 100000000000 := hlen
    refine r_append (k := 1) (news := [.slice A1 pr.length c1]) (sz := 1) (bytes := 24) rfl rfl rfl rfl rfl rfl (by decide) (fun w hw => own_rd (A := some ⟨b17, 0, none⟩) (m := 1) (c := 1) hw) rfl (fun u hu => by simp at hu; subst hu; rfl) (by omega) (by unfold maxLen; omega) fun A18 c18 => ?_
    refine r_assign rfl rfl ?_
    refine r_nil ?_
    refine r_tn ?_
    refine r_ret ?_
    refine r_tr ?_
    have hne : pr ≠ [] := fun e => by subst e; exact absurd (of_decide_eq_true hc) (by decide)
    exact r_done1 (.inl rfl) rfl (res_tmp rfl) fun w hw => ⟨(A18, c18), by rw [resF_ne hne], trivial, by
      rw [resRes_ne hne]
      exact hw.sub⟩
  · refine r_skip ?_
    refine r_tn ?_
    refine r_seq ?_
    refine r_region ?_
    refine r_move rfl rfl ?_
    refine r_nilCheck rfl rfl ?_
    refine r_fieldAddr (off := 0) (o' := 0) rfl rfl rfl rfl ?_
    refine r_load1 (v := .slice A0 fs.length c0) rfl rfl rfl rfl ?_
    refine r_assign rfl rfl ?_
    refine r_nil ?_
    refine r_tn ?_
    refine r_ret ?_
    have hne : pr = [] := List.eq_nil_of_length_eq_zero (by have h : ¬ 0 < pr.length := of_decide_eq_false hc; omega)
    exact r_done1 (.inl rfl) rfl (res_tmp rfl) fun w hw => ⟨(A0, c0), by rw [resF_nil hne], trivial, by
      rw [resRes_nil hne]
      exact hw.sub⟩

theorem pressing30 (d : Bool) (w : World) :
    Calls Tryd.prog 32 #[.bool d] w fun e w' => ∃ i : Nat, e = .returned (.func (.func 39) #[] #[.pointer (some ⟨i, 0, none⟩)]) ∧ True ∧ Sat w [] [.blk i (.cells #[.bool d] 4 (0, 0))] w' := by
  refine enter Tryd.func32 rfl rfl rfl ?_
  refine r_seq ?_
  refine r_region ?_
  refine r_box1 rfl rfl rfl fun b1 => ?_
  refine r_assign rfl rfl ?_
  refine r_nil ?_
  refine r_tn ?_
  refine r_seq ?_
  refine r_region ?_
  refine r_makeFunc (fs := []) (cs := [.pointer (some ⟨b1, 0, none⟩)]) rfl rfl rfl ?_
  refine r_assign rfl rfl ?_
  refine r_nil ?_
  refine r_tn ?_
  refine r_ret ?_
  exact r_done1 (.inl rfl) rfl (res_tmp rfl) fun w hw => ⟨b1, rfl, trivial, hw.sub⟩

theorem commands30  (w : World) :
    Calls Tryd.prog 24 #[] w fun e w' => ∃ i : Nat × Nat × Nat, e = .returned (.map (some i.1)) ∧ True ∧ Sat w [] [.blk i.1 (.map (cmdEs i.2.1 i.2.2) 4), .blk i.2.1 (.cells #[.bool true] 4 (0, 0)), .blk i.2.2 (.cells #[.bool false] 4 (0, 0))] w' := by
  refine enter Tryd.func24 rfl rfl rfl ?_
  refine r_seq ?_
  refine r_region ?_
  refine r_assign rfl rfl ?_
  refine r_nil ?_
  refine r_tn ?_
  refine r_seq ?_
  refine r_region ?_
  refine r_makeMap rfl fun b1 => ?_
  refine r_callx rfl rfl rfl (by kernel_rfl) rfl (fun w hw => by exact pressing30 true w) ?_
  rintro bT _
  refine r_insertS (es' := #[⟨.string (ByteArray.mk #[112, 114, 101, 115, 115]), .func (.func 39) #[] #[.pointer (some ⟨bT, 0, none⟩)], 0⟩]) rfl rfl rfl rfl rfl (by kernel_rfl) rfl ?_
  refine r_callx rfl rfl rfl (by kernel_rfl) rfl (fun w hw => by exact pressing30 false w) ?_
  rintro bF _
  refine r_insertS (es' := #[⟨.string (ByteArray.mk #[112, 114, 101, 115, 115]), .func (.func 39) #[] #[.pointer (some ⟨bT, 0, none⟩)], 0⟩, ⟨.string (ByteArray.mk #[114, 101, 108, 101, 97, 115, 101]), .func (.func 39) #[] #[.pointer (some ⟨bF, 0, none⟩)], 1⟩]) rfl rfl rfl rfl rfl (by kernel_rfl) rfl ?_
  refine r_insertS (es' := #[⟨.string (ByteArray.mk #[112, 114, 101, 115, 115]), .func (.func 39) #[] #[.pointer (some ⟨bT, 0, none⟩)], 0⟩, ⟨.string (ByteArray.mk #[114, 101, 108, 101, 97, 115, 101]), .func (.func 39) #[] #[.pointer (some ⟨bF, 0, none⟩)], 1⟩, ⟨.string (ByteArray.mk #[119, 97, 105, 116]), .func (.func 33) #[] #[], 2⟩]) rfl rfl rfl rfl rfl (by kernel_rfl) rfl ?_
  refine r_insertS (es' := #[⟨.string (ByteArray.mk #[112, 114, 101, 115, 115]), .func (.func 39) #[] #[.pointer (some ⟨bT, 0, none⟩)], 0⟩, ⟨.string (ByteArray.mk #[114, 101, 108, 101, 97, 115, 101]), .func (.func 39) #[] #[.pointer (some ⟨bF, 0, none⟩)], 1⟩, ⟨.string (ByteArray.mk #[119, 97, 105, 116]), .func (.func 33) #[] #[], 2⟩, ⟨.string (ByteArray.mk #[116, 97, 112]), .func (.func 34) #[] #[], 3⟩]) rfl rfl rfl rfl rfl (by kernel_rfl) rfl ?_
  refine r_move rfl rfl ?_
  refine r_assign rfl rfl ?_
  refine r_nil ?_
  refine r_tn ?_
  refine r_ret ?_
  exact r_done1 (.inl rfl) rfl (res_tmp rfl) fun w hw => ⟨(b1, bT, bF), rfl, trivial, by
    have h2 : Sat _ _ [.blk b1 (.map #[⟨.string (ByteArray.mk #[112, 114, 101, 115, 115]), .func (.func 39) #[] #[.pointer (some ⟨bT, 0, none⟩)], 0⟩, ⟨.string (ByteArray.mk #[114, 101, 108, 101, 97, 115, 101]), .func (.func 39) #[] #[.pointer (some ⟨bF, 0, none⟩)], 1⟩, ⟨.string (ByteArray.mk #[119, 97, 105, 116]), .func (.func 33) #[] #[], 2⟩, ⟨.string (ByteArray.mk #[116, 97, 112]), .func (.func 34) #[] #[], 3⟩] (0 + 1 + 1 + 1 + 1)), .blk bT (.cells #[.bool true] 4 (0, 0)), .blk bF (.cells #[.bool false] 4 (0, 0))] w := hw.sub
    exact h2⟩
end Go.Proofs.YtghjbnbkfohmlaaDoor
