/-
  Macros (chapter 30): the texts of commands; the commands of frames, and that they expand to the frames. No walk.
-/
import Derived.Test.YtghjbnbkfohmlaaDoorExp30
namespace Go.Proofs.YtghjbnbkfohmlaaDoor
open Go Go.RowKit
set_option linter.unusedVariables false
set_option linter.unusedSimpArgs false
set_option maxRecDepth 4000

/-- the text of an event -/
def evT (e : Ev) : List UInt8 := (bif e.2 then pressW else releaseW) ++ 32 :: [hexC e.1.toNat]
def waitT (n : Nat) : List UInt8 := waitW ++ 32 :: Lib.decDigits n
theorem hexC_no32 : ∀ n, n < 16 → (32 : UInt8) ∉ [hexC n] := by decide
theorem dec_no32 (u : Nat) : (32 : UInt8) ∉ Lib.decDigits u := by
  intro h
  have h1 := (dec_digs u).1
  rw [List.all_eq_true] at h1
  have h2 := h1 _ h
  exact absurd h2 (by decide)
theorem splitS_two {a b : List UInt8} (ha : (32 : UInt8) ∉ a) (hb : (32 : UInt8) ∉ b) : splitS (a ++ 32 :: b) = [a, b] := by
  rw [splitS_at a b ha, splitS_none b hb]
theorem split_ev {k : List UInt8} (d : Bool) (h : (32 : UInt8) ∉ k) : splitS ((bif d then pressW else releaseW) ++ 32 :: k) = [bif d then pressW else releaseW, k] := splitS_two (by cases d <;> decide) h
theorem cmd_ev (d : Bool) (k : List UInt8) : cmdOf [bif d then pressW else releaseW, k] = (keyN k).map fun n => .ev n d := by
  cases d
  · show cmdW releaseW [k] = _
    unfold cmdW
    rw [if_neg (by decide), if_pos rfl]
    rfl
  · show cmdW pressW [k] = _
    unfold cmdW
    rw [if_pos rfl]
    rfl
theorem cmd_wait (t : List UInt8) : cmdOf [waitW, t] = (countN t).map .wait := by
  show cmdW waitW [t] = _
  unfold cmdW
  rw [if_neg (by decide), if_neg (by decide), if_pos rfl]
  rfl
theorem cmd_tap (k t : List UInt8) : cmdOf [tapW, k, t] = (keyN k).bind fun k => (countN t).map fun n => .tap k n := by
  show cmdW tapW [k, t] = _
  unfold cmdW
  rw [if_neg (by decide), if_neg (by decide), if_neg (by decide), if_pos rfl]
  rfl
theorem line_ev {n : Nat} (hn : n < 16) (d : Bool) : lineC ((bif d then pressW else releaseW) ++ 32 :: [hexC n]) = some (.ev n d) := by
  unfold lineC
  rw [split_ev d (hexC_no32 n hn), cmd_ev, keyN_hex n hn]
  rfl
theorem line_wait {n : Nat} (h : 1 ≤ n ∧ n ≤ 65535) : lineC (waitT n) = some (.wait n) := by
  unfold lineC waitT
  rw [splitS_two (by decide) (dec_no32 n), cmd_wait, countN_dec h.1 h.2]
  rfl
theorem line_tap {k n : Nat} (hk : k < 16) (h : 1 ≤ n ∧ n ≤ 65535) : lineC (tapW ++ 32 :: ([hexC k] ++ 32 :: Lib.decDigits n)) = some (.tap k n) := by
  unfold lineC
  rw [splitS_at tapW _ (by decide), splitS_two (hexC_no32 k hk) (dec_no32 n), cmd_tap, keyN_hex k hk, countN_dec h.1 h.2]
  rfl
/-! ### States -/
def runL (s : St) (ls : List (List UInt8)) : St := ls.foldl (fun s l => stTry s (lineC l)) s
theorem runL_nil (s : St) : runL s [] = s := rfl
theorem runL_cons (s : St) (l : List UInt8) (ls : List (List UInt8)) : runL s (l :: ls) = runL (stTry s (lineC l)) ls := rfl
theorem runL_app (s : St) (a b : List (List UInt8)) : runL s (a ++ b) = runL (runL s a) b := by unfold runL; rw [List.foldl_append]
theorem stOf_run (ls : List (List UInt8)) : stOf ls = runL ⟨[], []⟩ ls := rfl
theorem okLs_nil : okLs [] = true := rfl
theorem okLs_cons (l : List UInt8) (ls : List (List UInt8)) : okLs (l :: ls) = ((lineC l).isSome && okLs ls) := rfl
theorem okLs_app (a b : List (List UInt8)) : okLs (a ++ b) = (okLs a && okLs b) := by unfold okLs; rw [List.all_append]
/-! ### The commands of frames -/
def keyOK (e : Ev) : Prop := 0 ≤ e.1 ∧ e.1 ≤ 15
theorem line_evT {e : Ev} (h : keyOK e) : lineC (evT e) = some (.ev e.1.toNat e.2) := by
  have := h.1
  have := h.2
  unfold evT
  exact line_ev (by omega) e.2
theorem run_evs : ∀ (f : List Ev) (s : St), (∀ e ∈ f, keyOK e) → runL s (f.map evT) = ⟨s.fs, s.pr ++ f⟩ ∧ okLs (f.map evT) = true
  | [], s, _ => ⟨by rw [List.append_nil]; rfl, rfl⟩
  | e :: f, s, h => by
    have he := h e (.head _)
    have h0 := he.1
    have hl := line_evT he
    rw [List.map_cons, runL_cons, hl, okLs_cons, hl]
    obtain ⟨i1, i2⟩ := run_evs f (stTry s (some (.ev e.1.toNat e.2))) fun x hx => h x (.tail _ hx)
    refine ⟨?_, i2⟩
    rw [i1]
    have e2 : ((e.1.toNat : Nat) : Int) = e.1 := by omega
    show (⟨s.fs, s.pr ++ [(((e.1.toNat : Nat) : Int), e.2)] ++ f⟩ : St) = _
    rw [e2, List.append_assoc]
    rfl
/-- the commands of frames, behind w frames that are not told yet (e: the last of them is empty) -/
def cmdsGo : Nat → Bool → List (List Ev) → List (List UInt8)
  | w, e, [] => if 1 < w ∨ (0 < w ∧ e = true) then [waitT w] else []
  | w, e, f :: fs => if f = [] then cmdsGo (w + 1) true fs else (if 0 < w then [waitT w] else []) ++ (f.map evT ++ cmdsGo 1 false fs)
theorem cmdsGo_nil (w : Nat) (e : Bool) : cmdsGo w e [] = if 1 < w ∨ (0 < w ∧ e = true) then [waitT w] else [] := rfl
theorem cmdsGo_empty (w : Nat) (e : Bool) (fs : List (List Ev)) : cmdsGo w e ([] :: fs) = cmdsGo (w + 1) true fs := by
  show (if _ then _ else _) = _
  rw [if_pos rfl]
theorem cmdsGo_full (w : Nat) (e : Bool) {f : List Ev} (fs : List (List Ev)) (h : f ≠ []) : cmdsGo w e (f :: fs) = (if 0 < w then [waitT w] else []) ++ (f.map evT ++ cmdsGo 1 false fs) := by
  show (if _ then _ else _) = _
  rw [if_neg h]
def cmdsL (fs : List (List Ev)) : List (List UInt8) := cmdsGo 0 true fs
theorem run_wait {s : St} {w : Nat} (h : 1 ≤ w ∧ w ≤ 65535) : runL s [waitT w] = stWait s w := by
  rw [runL_cons, line_wait h]; rfl
theorem run_cmds : ∀ (fs : List (List Ev)) (w : Nat) (e : Bool) (done : List (List Ev)) (pr : List Ev), 1 ≤ w → w + fs.length ≤ 65535 → (e = true ↔ 1 < w ∨ pr = []) → (∀ f ∈ fs, ∀ x ∈ f, keyOK x) →
    resF (runL ⟨done, pr⟩ (cmdsGo w e fs)) = done ++ [pr] ++ List.replicate (w - 1) [] ++ fs ∧ okLs (cmdsGo w e fs) = true
  | [], w, e, done, pr, hw, hl, he, _ => by
    rw [cmdsGo_nil]
    have hl2 : w ≤ 65535 := hl
    by_cases hc : 1 < w ∨ (0 < w ∧ e = true)
    · rw [if_pos hc, run_wait ⟨hw, hl2⟩, okLs_cons, line_wait ⟨hw, hl2⟩]
      refine ⟨?_, rfl⟩
      rw [List.append_nil]
      rfl
    · rw [if_neg hc]
      have hw1 : w = 1 := by
        apply Classical.byContradiction
        intro hn
        exact hc (.inl (by omega))
      subst hw1
      have hpr : pr ≠ [] := fun h => hc (.inr ⟨Nat.one_pos, he.2 (.inr h)⟩)
      refine ⟨?_, rfl⟩
      rw [runL_nil, List.append_nil]
      unfold resF
      rw [if_neg hpr]
      exact (List.append_nil _).symm
  | f :: fs, w, e, done, pr, hw, hl, he, hk => by
    rw [List.length_cons] at hl
    by_cases hf : f = []
    · subst hf
      rw [cmdsGo_empty]
      obtain ⟨i1, i2⟩ := run_cmds fs (w + 1) true done pr (by omega) (by omega) ⟨fun _ => .inl (by omega), fun _ => rfl⟩ fun f hf => hk f (.tail _ hf)
      refine ⟨?_, i2⟩
      rw [i1, show w + 1 - 1 = (w - 1) + 1 by omega, List.replicate_succ']
      simp only [List.append_assoc, List.cons_append, List.nil_append]
    · have hw2 : 1 ≤ w ∧ w ≤ 65535 := ⟨hw, by omega⟩
      rw [cmdsGo_full w e fs hf, if_pos (by omega), runL_app, run_wait hw2, runL_app, okLs_app, okLs_app, okLs_cons, line_wait hw2]
      obtain ⟨j1, j2⟩ := run_evs f (stWait ⟨done, pr⟩ w) (hk f (.head _))
      rw [j1, j2]
      obtain ⟨i1, i2⟩ := run_cmds fs 1 false (stWait ⟨done, pr⟩ w).fs ((stWait ⟨done, pr⟩ w).pr ++ f) (Nat.le_refl _) (by omega) ⟨fun h => (Bool.noConfusion h), fun h => by
        rcases h with h | h
        · omega
        · exact absurd (List.append_eq_nil_iff.1 h).2 hf⟩ fun f hf => hk f (.tail _ hf)
      refine ⟨?_, by rw [i2]; rfl⟩
      rw [i1]
      show done ++ [pr] ++ List.replicate (w - 1) [] ++ [[] ++ f] ++ [] ++ fs = _
      simp only [List.append_assoc, List.cons_append, List.nil_append]
theorem cmds_expand {fs : List (List Ev)} (hl : fs.length ≤ 60000) (hk : ∀ f ∈ fs, ∀ x ∈ f, keyOK x) : resF (stOf (cmdsL fs)) = fs ∧ okLs (cmdsL fs) = true := by
  unfold cmdsL
  rw [stOf_run]
  cases fs with
  | nil => exact ⟨rfl, rfl⟩
  | cons f fs =>
    rw [List.length_cons] at hl
    by_cases hf : f = []
    · subst hf
      rw [cmdsGo_empty]
      obtain ⟨i1, i2⟩ := run_cmds fs 1 true [] [] (Nat.le_refl _) (by omega) ⟨fun _ => .inr rfl, fun _ => rfl⟩ fun f hf => hk f (.tail _ hf)
      exact ⟨i1, i2⟩
    · rw [cmdsGo_full 0 true fs hf, if_neg (by omega), List.nil_append, runL_app, okLs_app]
      obtain ⟨j1, j2⟩ := run_evs f ⟨[], []⟩ (hk f (.head _))
      rw [j1, j2]
      obtain ⟨i1, i2⟩ := run_cmds fs 1 false [] ([] ++ f) (Nat.le_refl _) (by omega) ⟨fun h => (Bool.noConfusion h), fun h => by
        rcases h with h | h
        · omega
        · exact absurd h hf⟩ fun f hf => hk f (.tail _ hf)
      exact ⟨i1, i2⟩
/-- a block of frames: one, and empty ones behind it -/
theorem cmds_empties : ∀ (m w : Nat) (e : Bool) (rest : List (List Ev)), cmdsGo w e (List.replicate m [] ++ rest) = cmdsGo (w + m) (e || decide (0 < m)) rest
  | 0, w, e, rest => by simp
  | m + 1, w, e, rest => by
    rw [List.replicate_succ, List.cons_append, cmdsGo_empty, cmds_empties m (w + 1) true rest, show w + 1 + m = w + (m + 1) by omega]
    simp
theorem cmds_start (f : List Ev) (fs : List (List Ev)) : cmdsL (f :: fs) = f.map evT ++ cmdsGo 1 (decide (f = [])) fs := by
  unfold cmdsL
  by_cases h : f = []
  · subst h
    rw [cmdsGo_empty, decide_eq_true rfl]; rfl
  · rw [cmdsGo_full 0 true fs h, decide_eq_false h]; rfl
theorem cmds_block (f : List Ev) (m : Nat) (rest : List (List Ev)) (h : rest.head? ≠ some []) : cmdsL (f :: (List.replicate m [] ++ rest)) = f.map evT ++ ((if rest ≠ [] ∨ f = [] ∨ 0 < m then [waitT (1 + m)] else []) ++ cmdsL rest) := by
  rw [cmds_start, cmds_empties]
  congr 1
  cases rest with
  | nil =>
    rw [cmdsGo_nil]
    unfold cmdsL
    rw [cmdsGo_nil, if_neg (show ¬ (1 < 0 ∨ (0 < 0 ∧ true = true)) by omega), List.append_nil]
    congr 1
    exact propext ⟨fun h => by
      rcases h with h | ⟨_, h⟩
      · exact .inr (.inr (by omega))
      · rw [Bool.or_eq_true, decide_eq_true_eq, decide_eq_true_eq] at h
        exact .inr h, fun h => by
      rcases h with h | h | h
      · exact absurd rfl h
      · exact .inr ⟨by omega, by rw [decide_eq_true h]; rfl⟩
      · exact .inl (by omega)⟩
  | cons g t =>
    have hg : g ≠ [] := fun e => h (by rw [e]; rfl)
    unfold cmdsL
    rw [cmdsGo_full _ _ t hg, cmdsGo_full 0 true t hg, if_pos (by omega), if_pos (.inl (by simp)), if_neg (by omega)]
    rfl
theorem cmds_len : ∀ (fs : List (List Ev)) (w : Nat) (e : Bool) (m : Nat), (∀ f ∈ fs, f.length ≤ m) → (cmdsGo w e fs).length ≤ (m + 1) * fs.length + 1
  | [], w, e, m, _ => by
    rw [cmdsGo_nil]
    split <;> simp
  | f :: fs, w, e, m, h => by
    have hm := h f (.head _)
    rw [List.length_cons, Nat.mul_add, Nat.mul_one]
    by_cases hf : f = []
    · subst hf
      rw [cmdsGo_empty]
      have := cmds_len fs (w + 1) true m fun f hf => h f (.tail _ hf)
      omega
    · rw [cmdsGo_full w e fs hf, List.length_append, List.length_append, List.length_map]
      have := cmds_len fs 1 false m fun f hf => h f (.tail _ hf)
      split
      · simp only [List.length_cons, List.length_nil]; omega
      · simp only [List.length_nil]; omega
theorem waitT_len {n : Nat} (h : n ≤ 65535) : (waitT n).length ≤ 100 := by
  have := dec_short (u := n) (k := 5) (by decide) (by have : (10 : Nat) ^ 5 = 100000 := by decide
                                                      omega)
  unfold waitT
  rw [List.length_append, List.length_cons]
  have e : waitW.length = 4 := rfl
  omega
theorem evT_len (e : Ev) : (evT e).length ≤ 100 := by
  unfold evT
  cases e.2 <;> exact Nat.le_of_ble_eq_true rfl
theorem cmds_small : ∀ (fs : List (List Ev)) (w : Nat) (e : Bool), w + fs.length ≤ 65535 → ∀ l ∈ cmdsGo w e fs, l.length ≤ 100
  | [], w, e, hw, l, hl => by
    rw [cmdsGo_nil] at hl
    split at hl
    · rw [List.mem_singleton.1 hl]
      exact waitT_len hw
    · cases hl
  | f :: fs, w, e, hw, l, hl => by
    rw [List.length_cons] at hw
    by_cases hf : f = []
    · subst hf
      rw [cmdsGo_empty] at hl
      exact cmds_small fs (w + 1) true (by omega) l hl
    · rw [cmdsGo_full w e fs hf] at hl
      rcases List.mem_append.1 hl with hl | hl
      · split at hl
        · rw [List.mem_singleton.1 hl]
          exact waitT_len (by omega)
        · cases hl
      · rcases List.mem_append.1 hl with hl | hl
        · obtain ⟨x, _, rfl⟩ := List.mem_map.1 hl
          exact evT_len x
        · exact cmds_small fs 1 false (by omega) l hl
end Go.Proofs.YtghjbnbkfohmlaaDoor
