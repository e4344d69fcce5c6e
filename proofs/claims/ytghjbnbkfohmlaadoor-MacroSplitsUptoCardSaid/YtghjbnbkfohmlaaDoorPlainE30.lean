/-
  Macros (chapter 30): the lines of Basic. No walk.
-/
import Derived.Test.YtghjbnbkfohmlaaDoorBas30
namespace Go.Proofs.YtghjbnbkfohmlaaDoor
open Go Go.RowKit
set_option linter.unusedVariables false
set_option linter.unusedSimpArgs false
set_option maxHeartbeats 2000000
set_option maxRecDepth 4000
attribute [local irreducible] mix

theorem str_dec (l m : List UInt8) : ((tx l).toList == (tx m).toList) = decide (l = m) := by
  rw [tx_list, tx_list]
  by_cases h : l = m
  · rw [decide_eq_true h]; exact beq_iff_eq.2 h
  · rw [decide_eq_false h]; exact beq_eq_false_iff_ne.2 h
theorem ev_inv {y : List UInt8} {n : Nat} {d : Bool} (h : lineC y = some (.ev n d)) : ∃ w1, splitS y = [bif d then pressW else releaseW, w1] ∧ keyN w1 = some n := by
  obtain ⟨w0, ws, e⟩ := splitS_ne y
  have h2 := (lineC_of e).symm.trans h
  unfold cmdW at h2
  split at h2
  · rename_i hw
    unfold evC at h2
    split at h2
    · obtain ⟨m, hm, he⟩ := Option.map_eq_some_iff.1 h2
      injection he with e1 e2
      subst e1 e2
      exact ⟨_, by rw [e, hw]; rfl, hm⟩
    · cases h2
  · split at h2
    · rename_i hw
      unfold evC at h2
      split at h2
      · obtain ⟨m, hm, he⟩ := Option.map_eq_some_iff.1 h2
        injection he with e1 e2
        subst e1 e2
        exact ⟨_, by rw [e, hw]; rfl, hm⟩
      · cases h2
    · split at h2
      · unfold waitC at h2
        split at h2
        · obtain ⟨m, hm, he⟩ := Option.map_eq_some_iff.1 h2
          cases he
        · cases h2
      · split at h2
        · unfold tapC at h2
          split at h2
          · obtain ⟨q, hq, h3⟩ := Option.bind_eq_some_iff.1 h2
            obtain ⟨m, hm, he⟩ := Option.map_eq_some_iff.1 h3
            cases he
          · cases h2
        · cases h2
theorem wait_inv {y : List UInt8} {n : Nat} (h : lineC y = some (.wait n)) : ∃ w1, splitS y = [waitW, w1] ∧ countN w1 = some n := by
  obtain ⟨w0, ws, e⟩ := splitS_ne y
  have h2 := (lineC_of e).symm.trans h
  unfold cmdW at h2
  split at h2
  · unfold evC at h2
    split at h2
    · obtain ⟨m, hm, he⟩ := Option.map_eq_some_iff.1 h2
      cases he
    · cases h2
  · split at h2
    · unfold evC at h2
      split at h2
      · obtain ⟨m, hm, he⟩ := Option.map_eq_some_iff.1 h2
        cases he
      · cases h2
    · split at h2
      · rename_i hw
        unfold waitC at h2
        split at h2
        · obtain ⟨m, hm, he⟩ := Option.map_eq_some_iff.1 h2
          injection he with e1
          subst e1
          exact ⟨_, by rw [e, hw], hm⟩
        · cases h2
      · split at h2
        · unfold tapC at h2
          split at h2
          · obtain ⟨q, hq, h3⟩ := Option.bind_eq_some_iff.1 h2
            obtain ⟨m, hm, he⟩ := Option.map_eq_some_iff.1 h3
            cases he
          · cases h2
        · cases h2
theorem tap_inv {y : List UInt8} {k n : Nat} (h : lineC y = some (.tap k n)) : k < 16 ∧ 1 ≤ n ∧ n ≤ 65535 := by
  obtain ⟨w0, ws, e⟩ := splitS_ne y
  have h2 := (lineC_of e).symm.trans h
  unfold cmdW at h2
  split at h2
  · unfold evC at h2
    split at h2
    · obtain ⟨m, hm, he⟩ := Option.map_eq_some_iff.1 h2
      cases he
    · cases h2
  · split at h2
    · unfold evC at h2
      split at h2
      · obtain ⟨m, hm, he⟩ := Option.map_eq_some_iff.1 h2
        cases he
      · cases h2
    · split at h2
      · unfold waitC at h2
        split at h2
        · obtain ⟨m, hm, he⟩ := Option.map_eq_some_iff.1 h2
          cases he
        · cases h2
      · split at h2
        · unfold tapC at h2
          split at h2
          · obtain ⟨q, hq, h3⟩ := Option.bind_eq_some_iff.1 h2
            obtain ⟨m, hm, he⟩ := Option.map_eq_some_iff.1 h3
            injection he with e1 e2
            subst e1 e2
            have := countN_some hm
            exact ⟨(keyN_some hq).1, this.1, this.2.1⟩
          · cases h2
        · cases h2
theorem bas_nil {x : List UInt8} (h : basicL x = []) : lineC x = none := by
  unfold basicL at h
  generalize lineC x = c at h
  match c, h with
  | none, _ => rfl
  | some (.ev _ _), h => cases h
  | some (.wait _), h => cases h
  | some (.tap _ _), h => cases h
theorem bas_some {x : List UInt8} (h : basicL x ≠ []) : ∃ c, lineC x = some c := by
  unfold basicL at h
  generalize lineC x = c at h
  match c, h with
  | none, h => exact absurd rfl h
  | some c, _ => exact ⟨c, rfl⟩
theorem bas_len (x : List UInt8) : (basicL x).length ≤ 3 := by
  unfold basicL
  generalize lineC x = c
  match c with
  | none => exact Nat.zero_le _
  | some (.ev _ _) => exact Nat.le_of_ble_eq_true rfl
  | some (.wait _) => exact Nat.le_of_ble_eq_true rfl
  | some (.tap _ _) => exact Nat.le_refl _
theorem line_evN {k : Nat} (hk : k < 16) (d : Bool) : lineC (evT ((k : Int), d)) = some (.ev k d) := line_ev hk d
theorem bas_run {x : List UInt8} {c : Cmd} (h : lineC x = some c) (s : St) : runL s (basicL x) = stTry s (lineC x) := by
  rw [bas_of h, h]
  match c, h with
  | .ev n d, h => show runL s [x] = _; rw [runL_cons, h]; rfl
  | .wait n, h => show runL s [x] = _; rw [runL_cons, h]; rfl
  | .tap k n, h =>
    obtain ⟨h1, h2⟩ := tap_inv h
    show runL s [evT ((k : Int), true), waitT n, evT ((k : Int), false)] = _
    rw [runL_cons, runL_cons, runL_cons, line_evN h1, line_evN h1, line_wait h2]
    rfl
theorem bas_lines {x y : List UInt8} (h : y ∈ basicL x) : (∃ n d, lineC y = some (.ev n d)) ∨ ∃ n, lineC y = some (.wait n) := by
  cases hc : lineC x with
  | none => rw [bas_of hc] at h; cases h
  | some c =>
    rw [bas_of hc] at h
    match c, hc, h with
    | .ev n d, hc, h => rw [List.mem_singleton.1 h]; exact .inl ⟨n, d, hc⟩
    | .wait n, hc, h => rw [List.mem_singleton.1 h]; exact .inr ⟨n, hc⟩
    | .tap k n, hc, h =>
      obtain ⟨h1, h2⟩ := tap_inv hc
      have h : y ∈ [evT ((k : Int), true), waitT n, evT ((k : Int), false)] := h
      simp only [List.mem_cons, List.not_mem_nil, or_false] at h
      rcases h with rfl | rfl | rfl
      · exact .inl ⟨k, true, line_evN h1 true⟩
      · exact .inr ⟨n, line_wait h2⟩
      · exact .inl ⟨k, false, line_evN h1 false⟩
theorem bas_small {x y : List UInt8} (h : y ∈ basicL x) (hx : x.length ≤ 100000000) : y.length ≤ 100000000 := by
  cases hc : lineC x with
  | none => rw [bas_of hc] at h; cases h
  | some c =>
    rw [bas_of hc] at h
    match c, hc, h with
    | .ev n d, hc, h => rw [List.mem_singleton.1 h]; exact hx
    | .wait n, hc, h => rw [List.mem_singleton.1 h]; exact hx
    | .tap k n, hc, h =>
      obtain ⟨h1, h2⟩ := tap_inv hc
      have h : y ∈ [evT ((k : Int), true), waitT n, evT ((k : Int), false)] := h
      simp only [List.mem_cons, List.not_mem_nil, or_false] at h
      rcases h with rfl | rfl | rfl
      · exact Nat.le_trans (evT_len _) (by decide)
      · exact Nat.le_trans (waitT_len h2.2) (by decide)
      · exact Nat.le_trans (evT_len _) (by decide)
theorem basic_line {x y : List UInt8} (h : y ∈ basicL x) : ∃ w0 w1, splitS y = [w0, w1] ∧ (w0 = waitW → ∃ n, countN w1 = some n ∧ 1 ≤ n ∧ n ≤ 65535 ∧ lineC y = some (.wait n)) ∧ (w0 ≠ waitW → ∃ n, keyN w1 = some n ∧ lineC y = some (.ev n (decide (w0 = pressW)))) := by
  rcases bas_lines h with ⟨n, d, h⟩ | ⟨n, h⟩
  · obtain ⟨w1, h1, h2⟩ := ev_inv h
    refine ⟨_, w1, h1, fun e => ?_, fun _ => ⟨n, h2, ?_⟩⟩
    · cases d
      · exact absurd e (by decide)
      · exact absurd e (by decide)
    · rw [h]
      cases d <;> rfl
  · obtain ⟨w1, h1, h2⟩ := wait_inv h
    have h3 := countN_some h2
    exact ⟨_, w1, h1, fun _ => ⟨n, h2, h3.1, h3.2.1, h⟩, fun e => absurd rfl e⟩
theorem run_bound : ∀ (s : St) (l : List (List UInt8)), (runL s l).fs.length ≤ s.fs.length + 65535 * l.length ∧ (runL s l).pr.length ≤ s.pr.length + l.length
  | s, [] => ⟨Nat.le_refl _, Nat.le_refl _⟩
  | s, x :: l => by
    rw [runL_cons, List.length_cons]
    obtain ⟨i1, i2⟩ := run_bound (stTry s (lineC x)) l
    have hb : (stTry s (lineC x)).fs.length ≤ s.fs.length + 65535 ∧ (stTry s (lineC x)).pr.length ≤ s.pr.length + 1 := by
      cases hc : lineC x with
      | none => exact ⟨by show s.fs.length ≤ _; omega, by show s.pr.length ≤ _; omega⟩
      | some c => exact stDo_count s c (cmd_rng hc)
    omega
theorem run_zero (s : St) (l : List (List UInt8)) : runL s (l.take 0) = s := by rw [List.take_zero]; rfl
theorem run_one (s : St) (y : List UInt8) : runL s [y] = stTry s (lineC y) := rfl
theorem st_zero (ls : List (List UInt8)) : stOf (ls.take 0) = ⟨[], []⟩ := by rw [List.take_zero]; rfl
theorem stWait_len (s : St) (n : Nat) : (stWait s n).fs.length = s.fs.length + 1 + (n - 1) := by
  unfold stWait
  rw [List.length_append, len_snoc, List.length_replicate]
theorem stWait_pr (s : St) (n : Nat) : (stWait s n).pr = [] := rfl
theorem stEv_pr (s : St) (e : Ev) : (stEv s e).pr = s.pr ++ [e] := rfl
theorem stEv_len (s : St) (e : Ev) : (stEv s e).pr.length = s.pr.length + 1 := by rw [stEv_pr, len_snoc]
theorem wHv_def {ix : BIx} {s : St} {n j : Nat} (h : n - 1 = j) : wHv ix s n = ix.hv ++ [.slice ix.A1 s.pr.length ix.c1] ++ List.replicate j (.slice none 0 0) := by
  unfold wHv
  rw [h]
theorem resF_yes {s : St} (h : s.pr ≠ []) : resF s = s.fs ++ [s.pr] := if_neg h
theorem resF_no {s : St} (h : s.pr = []) : resF s = s.fs := if_pos h
theorem resH_yes {s : St} {ix : BIx} (h : s.pr ≠ []) : resH s ix = ix.hv ++ [.slice ix.A1 s.pr.length ix.c1] := if_neg h
theorem resH_no {s : St} {ix : BIx} (h : s.pr = []) : resH s ix = ix.hv := if_pos h
theorem resL_yes {s : St} {ix : BIx} (h : s.pr ≠ []) : resL s ix = (.slice ix.A1 s.pr.length ix.c1, s.pr) :: ix.L := if_neg h
theorem resL_no {s : St} {ix : BIx} (h : s.pr = []) : resL s ix = ix.L := if_pos h
attribute [local irreducible] evsL ownsOf rightB cmdsL waitT evT stOf splitS keyN countN basicL lineC cmdOf runL resF

end Go.Proofs.YtghjbnbkfohmlaaDoor
