/-
  Macros (chapter 30): what awake asks. No walk.
-/
import Derived.Test.YtghjbnbkfohmlaaDoorComm30
namespace Go.Proofs.YtghjbnbkfohmlaaDoor
open Go Go.RowKit
set_option linter.unusedVariables false
set_option linter.unusedSimpArgs false
set_option maxHeartbeats 2000000
set_option maxRecDepth 4000
attribute [local irreducible] mix

section
variable {P : Program} {n : Nat} {w0 : World} {S : List Nat} {E : List (Nat × Value)} {H G : List Res} {Q : Exit → Act → World → Prop}
variable {dr : Option Dr} {ops : Array Oper} {K : Act → World → Prop} {rest : List Oper} {d : Nat} {ty : TypeId} {pos : String} {after : Array Edge}
theorem ownsOf_nil : ownsOf [] = [] := rfl
theorem ownsOf_app (L M : List (Value × List Ev)) : ownsOf (L ++ M) = ownsOf L ++ ownsOf M := by unfold ownsOf; rw [List.map_append]
theorem permE (Y X : List Res) (L M : List (Value × List Ev)) : ((Y ++ ownsOf L) ++ (X ++ ownsOf M)).Perm (Y ++ (X ++ ownsOf (L ++ M))) := by
  rw [ownsOf_app, List.append_assoc]
  refine List.Perm.append_left Y ?_
  rw [← List.append_assoc, ← List.append_assoc]
  exact List.Perm.append_right _ List.perm_append_comm
/-- a call that answers with a tail of rows of events -/
theorem r_callE {ι : Type} {X : List Res} {L0 : List (Value × List Ev)} {f : Operand} {args : List Operand} {tys : Array TypeId} {g : FuncId} {vs cs us : List Value} {v : ι → Value} {Y : ι → List Res} {L : ι → List (Value × List Ev)} {φ : ι → Prop}
    (hH : H = X ++ ownsOf L0) (hf : ev E f = some (.func (.func g) #[] cs.toArray)) (ha : evs E args = some vs) (hu : vs ++ cs = us) (hg : callable P g = true) (hd : Nat.blt d n = true)
    (hc : ∀ w, Sat w0 S (X ++ ownsOf L0) w → Calls P g us.toArray w fun e w' => ∃ i, e = .returned (v i) ∧ φ i ∧ Sat w [] (Y i ++ ownsOf (L i)) w')
    (hk : ∀ i, φ i → Run n w0 S ((d, v i) :: E) (Y i ++ (X ++ ownsOf (L i ++ L0))) (mix P dr ops K rest)) :
    Run n w0 S E H (mix P dr ops K (⟨some d, .call { callee := .value f, args := args.toArray, argTypes := tys }, ty, pos, after, none⟩ :: rest)) := by
  subst hH
  exact r_callx hf ha hu hg hd hc fun i hi => Run.perm (permE (Y i) X (L i) L0) (hk i hi)
theorem Run.startL {Gl : Act → World → Prop} (h : Run n w0 S E (ownsOf []) Gl) : Run n w0 S E [] Gl := h
end
theorem FrL.mono {hv : List Value} {fs : List (List Ev)} {L M : List (Value × List Ev)} (h : FrL hv fs L) (hs : ∀ p ∈ L, p ∈ M) : FrL hv fs M := ⟨h.1, fun i hi => by
  obtain ⟨A, c, h1, h2⟩ := h.2 i hi
  exact ⟨A, c, h1, fun hn => hs _ (h2 hn)⟩⟩
theorem FrL.left {hv : List Value} {fs : List (List Ev)} {L : List (Value × List Ev)} (h : FrL hv fs L) (M : List (Value × List Ev)) : FrL hv fs (L ++ M) := h.mono fun p hp => List.mem_append.2 (.inl hp)
theorem FrL.right {hv : List Value} {fs : List (List Ev)} {L : List (Value × List Ev)} (h : FrL hv fs L) (M : List (Value × List Ev)) : FrL hv fs (M ++ L) := h.mono fun p hp => List.mem_append.2 (.inr hp)
/-- Expand, with its result told -/
theorem expandE30 (A : Option Addr) (c m : Nat) (ls : List (List UInt8)) (fs : List (List Ev)) (hm : ls.length = m) (hfs : resF (stOf ls) = fs) (hok : okLs ls = true) (hlen1 : ls.length ≤ 1000000) (hlen2 : ∀ l ∈ ls, l.length ≤ 1000000) (w : World) (hG : Glob30 w) (hR : Rd w A (ls.map txV)) :
    Calls Tryd.prog 11 #[.slice A m c] w fun e w' => ∃ ix : BIx, e = .returned (.tuple #[.slice ix.A0 fs.length ix.c0, .int .i64 0, .int .i64 0]) ∧ FrL ix.hv fs ix.L ∧ Sat w [] ([.own 25 1 (.slice ix.A0 fs.length ix.c0) fs.length ix.hv] ++ ownsOf ix.L) w' := by
  subst hm; subst hfs
  exact expand30 A c ls hok hlen1 hlen2 w hG hR
theorem small_of {ls : List (List UInt8)} (h : ls.all (fun l => decide (l.length ≤ 1000000)) = true) : ∀ l ∈ ls, l.length ≤ 1000000 := fun l hl => of_decide_eq_true (List.all_eq_true.1 h l hl)
theorem d1 : Lib.decDigits 1 = [49] := dec_small (by decide)
theorem d2 : Lib.decDigits 2 = [50] := dec_small (by decide)
theorem d7 : Lib.decDigits 7 = [55] := dec_small (by decide)
def aw1 : List (List Ev) := [[(1, true)], [], [(1, false)]]
def awL1 : List (List UInt8) := [[112, 114, 101, 115, 115, 32, 49], [119, 97, 105, 116, 32, 50], [114, 101, 108, 101, 97, 115, 101, 32, 49]]
theorem w2T : waitT 2 = [119, 97, 105, 116, 32, 50] := by unfold waitT; rw [d2]; rfl
theorem w7T : waitT 7 = [119, 97, 105, 116, 32, 55] := by unfold waitT; rw [d7]; rfl
theorem aw_cmds : cmdsL aw1 = awL1 := by
  unfold cmdsL aw1
  rw [cmdsGo_full 0 true _ (by simp), cmdsGo_empty, cmdsGo_full 2 true _ (by simp), cmdsGo_nil, if_neg (by omega), if_pos (by omega), if_neg (by simp), w2T]
  rfl
theorem aw_st1 : resF (stOf awL1) = aw1 ∧ okLs awL1 = true := by
  rw [← aw_cmds]
  exact cmds_expand (by decide) (by
    intro f hf x hx
    simp only [aw1, List.mem_cons, List.not_mem_nil, or_false] at hf
    rcases hf with rfl | rfl | rfl <;> simp at hx <;> subst hx <;> exact ⟨by decide, by decide⟩)
def awT : List (List UInt8) := [[116, 97, 112, 32, 49, 32, 50]]
theorem aw_tap : lineC [116, 97, 112, 32, 49, 32, 50] = some (.tap 1 2) := by
  have h := line_tap (k := 1) (n := 2) (by decide) (by decide)
  rw [d2] at h
  exact h
theorem aw_st2 : resF (stOf awT) = aw1 ∧ okLs awT = true := by
  unfold awT
  rw [stOf_run, runL_cons, okLs_cons, aw_tap]
  exact ⟨rfl, rfl⟩
def awB : List (List UInt8) := [[112, 114, 101, 115, 115, 32, 49], [119, 97, 105, 116, 32, 48]]
theorem aw_w0 : lineC [119, 97, 105, 116, 32, 48] = none := by
  have e : splitS [119, 97, 105, 116, 32, 48] = [waitW, [48]] := by decide
  unfold lineC
  rw [e, cmd_wait, countN_zero (by decide) rfl]
  rfl
theorem aw_p1 : lineC [112, 114, 101, 115, 115, 32, 49] = some (.ev 1 true) := line_ev (n := 1) (by decide) true
theorem aw_bad : okLs awB = false ∧ badI awB = 1 := by
  refine ⟨?_, ?_⟩
  · unfold awB
    rw [okLs_cons, okLs_cons, aw_w0]
    exact Bool.and_false _
  · exact badI_at (k := 1) (by decide) aw_w0 fun j hj h1 => by
      have : j = 0 := by omega
      subst this
      show (lineC [112, 114, 101, 115, 115, 32, 49]).isSome = true
      rw [aw_p1]; rfl
def awW : List (List UInt8) := [[119, 97, 105, 116, 32, 55]]
theorem aw_w7 : (resF (stOf awW)).length = 7 ∧ okLs awW = true := by
  unfold awW
  rw [← w7T, stOf_run, run_wait (by decide), okLs_cons, line_wait (by decide)]
  exact ⟨rfl, rfl⟩
def awN : List (List UInt8) := [[119, 97, 105, 116]]
theorem aw_wn : okLs awN = false := by
  unfold awN
  have e : lineC [119, 97, 105, 116] = none := by
    have e : splitS [119, 97, 105, 116] = [waitW] := by decide
    unfold lineC
    rw [e]
    show cmdW waitW [] = none
    unfold cmdW
    rw [if_neg (by decide), if_neg (by decide), if_pos rfl]
    rfl
  rw [okLs_cons, e]
  rfl
attribute [local irreducible] evsL ownsOf rightB cmdsL waitT evT stOf

end Go.Proofs.YtghjbnbkfohmlaaDoor
