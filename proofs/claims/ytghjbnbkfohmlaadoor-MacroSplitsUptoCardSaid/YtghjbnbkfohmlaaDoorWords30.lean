/-
  Macros (chapter 30): words, keys, counts, commands and what they do. No walk.
-/
import Derived.Test.YtghjbnbkfohmlaaDoorTxt30
import Derived.Lib.AtoiTie
import Derived.Lib.SplitLaws
namespace Go.Proofs.YtghjbnbkfohmlaaDoor
open Go Go.RowKit
set_option linter.unusedVariables false
set_option linter.unusedSimpArgs false
set_option maxRecDepth 4000

/-! ### Words -/
/-- a text cut at its spaces -/
def splitS : List UInt8 → List (List UInt8)
  | [] => [[]]
  | c :: l => if c = 32 then [] :: splitS l else match splitS l with
    | [] => [[c]]
    | w :: ws => (c :: w) :: ws
theorem splitS_cons {c : UInt8} {l w : List UInt8} {ws : List (List UInt8)} (h : c ≠ 32) (e : splitS l = w :: ws) : splitS (c :: l) = (c :: w) :: ws := by
  show (if c = 32 then _ else _) = _
  rw [if_neg h, e]
theorem splitS_sp (l : List UInt8) : splitS (32 :: l) = [] :: splitS l := rfl
theorem splitS_ne : ∀ l : List UInt8, ∃ w ws, splitS l = w :: ws
  | [] => ⟨[], [], rfl⟩
  | c :: l => by
    by_cases h : c = 32
    · subst h; exact ⟨[], _, rfl⟩
    · obtain ⟨w, ws, e⟩ := splitS_ne l
      exact ⟨_, _, splitS_cons h e⟩
theorem splitS_at : ∀ (a b : List UInt8), (32 : UInt8) ∉ a → splitS (a ++ 32 :: b) = a :: splitS b
  | [], b, _ => rfl
  | c :: a, b, h => by
    have h1 : c ≠ 32 := fun e => h (by rw [e]; exact .head _)
    have h2 := splitS_at a b fun hm => h (.tail _ hm)
    exact splitS_cons h1 h2
theorem splitS_none : ∀ (a : List UInt8), (32 : UInt8) ∉ a → splitS a = [a]
  | [], _ => rfl
  | c :: a, h => by
    have h1 : c ≠ 32 := fun e => h (by rw [e]; exact .head _)
    exact splitS_cons h1 (splitS_none a fun hm => h (.tail _ hm))
theorem splitS_no32 : ∀ (l w : List UInt8), w ∈ splitS l → (32 : UInt8) ∉ w
  | [], w, hw => by
    have : w = [] := by simpa [splitS] using hw
    subst this; simp
  | c :: l, w, hw => by
    by_cases h : c = 32
    · subst h
      rw [splitS_sp] at hw
      rcases List.mem_cons.1 hw with rfl | hw
      · simp
      · exact splitS_no32 l w hw
    · obtain ⟨x, xs, e⟩ := splitS_ne l
      rw [splitS_cons h e] at hw
      rcases List.mem_cons.1 hw with rfl | hw
      · intro hm
        rcases List.mem_cons.1 hm with e2 | hm
        · exact h e2.symm
        · exact splitS_no32 l x (by rw [e]; exact .head _) hm
      · exact splitS_no32 l w (by rw [e]; exact .tail _ hw)
theorem splitS_len : ∀ l : List UInt8, (splitS l).length ≤ l.length + 1
  | [] => Nat.le_refl _
  | c :: l => by
    have ih := splitS_len l
    by_cases h : c = 32
    · subst h
      rw [splitS_sp, List.length_cons, List.length_cons]; omega
    · obtain ⟨x, xs, e⟩ := splitS_ne l
      rw [splitS_cons h e, List.length_cons, List.length_cons]
      rw [e, List.length_cons] at ih
      omega
theorem splitS_small : ∀ (l w : List UInt8), w ∈ splitS l → w.length ≤ l.length
  | [], w, hw => by
    have : w = [] := by simpa [splitS] using hw
    subst this; simp
  | c :: l, w, hw => by
    by_cases h : c = 32
    · subst h
      rw [splitS_sp] at hw
      rcases List.mem_cons.1 hw with rfl | hw
      · simp
      · have := splitS_small l w hw
        rw [List.length_cons]; omega
    · obtain ⟨x, xs, e⟩ := splitS_ne l
      rw [splitS_cons h e] at hw
      rcases List.mem_cons.1 hw with rfl | hw
      · have := splitS_small l x (by rw [e]; exact .head _)
        rw [List.length_cons, List.length_cons]; omega
      · have := splitS_small l w (by rw [e]; exact .tail _ hw)
        rw [List.length_cons]; omega
theorem splitS_index : ∀ l : List UInt8, (Lib.index l [32] = -1 ∧ splitS l = [l]) ∨ ∃ i : Nat, Lib.index l [32] = i ∧ splitS l = l.take i :: splitS (l.drop (i + 1))
  | [] => .inl ⟨rfl, rfl⟩
  | c :: l => by
    by_cases h : c = 32
    · subst h
      exact .inr ⟨0, rfl, rfl⟩
    · have hp : ([32] : List UInt8).isPrefixOf (c :: l) = false := by
        show ((32 : UInt8) == c && _) = false
        rw [beq_eq_false_iff_ne.2 fun e => h e.symm, Bool.false_and]
      have e1 : Lib.index (c :: l) [32] = if Lib.index l [32] == -1 then -1 else Lib.index l [32] + 1 := by
        show (if ([32] : List UInt8).isPrefixOf (c :: l) then (0 : Int) else _) = _
        rw [hp]; rfl
      rcases splitS_index l with ⟨h1, h2⟩ | ⟨i, h1, h2⟩
      · exact .inl ⟨by rw [e1, h1]; rfl, splitS_cons h h2⟩
      · refine .inr ⟨i + 1, ?_, splitS_cons h h2⟩
        rw [e1, h1, if_neg (by simp)]
        omega
theorem splitK_all : ∀ (k : Nat) (l : List UInt8), Lib.count l [32] = k → Lib.splitK [32] 0 k l = splitS l
  | 0, l, h => by
    rcases splitS_index l with ⟨h1, h2⟩ | ⟨i, h1, h2⟩
    · rw [h2]; rfl
    · have := Lib.count_hit (sub := [32]) (by simp) h1
      omega
  | k + 1, l, h => by
    rcases splitS_index l with ⟨h1, h2⟩ | ⟨i, h1, h2⟩
    · have := Lib.count_miss h1
      omega
    · have h3 := Lib.count_hit (sub := [32]) (by simp) h1
      have h4 : Lib.count (l.drop (i + 1)) [32] = k := by
        have e : ([32] : List UInt8).length = 1 := rfl
        rw [e] at h3
        omega
      have ih := splitK_all k (l.drop (i + 1)) h4
      rw [h2, ← ih]
      show (if Lib.index l [32] == -1 then _ else _) = _
      rw [h1, if_neg (by simp)]
      rfl
theorem splitB_all (l : List UInt8) : (Lib.splitB (ByteArray.mk #[32]) 0 (Lib.countB (tx l) (ByteArray.mk #[32])) (tx l)).map Value.string = (splitS l).map txV := by
  have h1 := Lib.splitB_data (ByteArray.mk #[32]) 0 (Lib.countB (tx l) (ByteArray.mk #[32])) (tx l)
  have h2 : Lib.splitK (ByteArray.mk #[32]).data.toList 0 (Lib.countB (tx l) (ByteArray.mk #[32])) (tx l).data.toList = splitS l := splitK_all _ l rfl
  rw [h2] at h1
  rw [← h1, List.map_map]
  apply List.map_congr_left
  intro s _
  rfl
theorem countB_len (l : List UInt8) : Lib.countB (tx l) (ByteArray.mk #[32]) + 1 = (splitS l).length := by
  have h := congrArg List.length (splitB_all l)
  rw [List.length_map, List.length_map, Lib.splitB_all (ByteArray.mk #[32]) (by decide) 0 _ (tx l) rfl] at h
  exact h

/-! ### Keys and counts -/
def keyN (s : List UInt8) : Option Nat := (List.range 16).find? fun n => decide ([hexC n] = s)
theorem keyN_hex : ∀ n, n < 16 → keyN [hexC n] = some n := by decide
theorem keyN_some {s : List UInt8} {n : Nat} (h : keyN s = some n) : n < 16 ∧ s = [hexC n] := by
  have h1 := List.mem_of_find?_eq_some h
  have h2 := List.find?_some h
  exact ⟨List.mem_range.1 h1, (of_decide_eq_true h2).symm⟩
theorem keyN_none {s : List UInt8} (h : ∀ j, j < 16 → [hexC j] ≠ s) : keyN s = none := List.find?_eq_none.2 fun j hj => by
  have := h j (List.mem_range.1 hj)
  simpa using this
theorem keyN_of {s : List UInt8} {n : Nat} (hn : n < 16) (h : [hexC n] = s) : keyN s = some n := by rw [← h]; exact keyN_hex n hn

/-- a count of frames -/
def countN (s : List UInt8) : Option Nat := match Lib.atoiAll s with
  | .ok v => if 1 ≤ v ∧ v ≤ 65535 ∧ Lib.itoa v = s then some v.toNat else none
  | _ => none
theorem decFrom_append (m : List UInt8) : ∀ (l : List UInt8) (acc : Nat), Lib.decFrom acc (l ++ m) = (Lib.decFrom acc l).bind fun a => Lib.decFrom a m
  | [], acc => rfl
  | c :: l, acc => by
    show (match Lib.digitVal c with | some d => Lib.decFrom (acc * 10 + d) (l ++ m) | none => none) = (match Lib.digitVal c with | some d => Lib.decFrom (acc * 10 + d) l | none => none).bind _
    cases Lib.digitVal c with
    | none => rfl
    | some d => exact decFrom_append m l _
theorem dig_of : ∀ d, d < 10 → Lib.digitVal (UInt8.ofNat (48 + d)) = some d := by decide
theorem dec_small {u : Nat} (h : u < 10) : Lib.decDigits u = [UInt8.ofNat (48 + u)] := by rw [Lib.decDigits, dif_pos h]
theorem decFrom_dec (u : Nat) : Lib.decFrom 0 (Lib.decDigits u) = some u := by
  induction u using Nat.strongRecOn with
  | _ u ih =>
    by_cases h : u < 10
    · rw [dec_small h]
      show (match Lib.digitVal (UInt8.ofNat (48 + u)) with | some d => some (0 * 10 + d) | none => none) = _
      rw [dig_of u h]
      show some (0 * 10 + u) = _
      congr 1
      omega
    · rw [dec_big h, decFrom_append, ih (u / 10) (by omega)]
      show (match Lib.digitVal (UInt8.ofNat (48 + u % 10)) with | some d => some (u / 10 * 10 + d) | none => none) = _
      rw [dig_of _ (Nat.mod_lt u (by decide))]
      show some (u / 10 * 10 + u % 10) = _
      congr 1
      omega
theorem ch_ne : ∀ d, d < 10 → UInt8.ofNat (48 + d) ≠ 45 ∧ UInt8.ofNat (48 + d) ≠ 43 := by decide
theorem dec_head (u : Nat) : ∃ d r, d < 10 ∧ Lib.decDigits u = UInt8.ofNat (48 + d) :: r ∧ (1 ≤ u → 1 ≤ d) := by
  induction u using Nat.strongRecOn with
  | _ u ih =>
    by_cases h : u < 10
    · exact ⟨u, [], h, dec_small h, fun h => h⟩
    · obtain ⟨d, r, h1, h2, h3⟩ := ih (u / 10) (by omega)
      exact ⟨d, r ++ [UInt8.ofNat (48 + u % 10)], h1, by rw [dec_big h, h2]; rfl, fun _ => h3 (by omega)⟩
theorem dec_short {u k : Nat} (hk : 1 ≤ k) (h : u < 10 ^ k) : (Lib.decDigits u).length ≤ k := by
  induction k generalizing u with
  | zero => omega
  | succ k ih =>
    by_cases h1 : u < 10
    · rw [dec_small h1]
      show 1 ≤ k + 1
      omega
    · have hk1 : 1 ≤ k := by
        apply Classical.byContradiction
        intro hn
        have : k = 0 := by omega
        subst this
        simp at h
        omega
      rw [dec_big h1, List.length_append]
      have := ih hk1 (u := u / 10) (by rw [Nat.pow_succ] at h; omega)
      simp only [List.length_cons, List.length_nil]
      omega
theorem atoi_dec {u : Nat} (h : u ≤ 65535) : Lib.atoiAll (Lib.decDigits u) = .ok (u : Int) := by
  have hl := dec_short (u := u) (k := 5) (by decide) (by have : (10 : Nat) ^ 5 = 100000 := by decide
                                                         omega)
  rw [Lib.atoiAll_short _ (by omega)]
  obtain ⟨d, r, h1, h2, _⟩ := dec_head u
  have hd := decFrom_dec u
  obtain ⟨n1, n2⟩ := ch_ne d h1
  rw [h2] at hd ⊢
  have e : Lib.atoi (UInt8.ofNat (48 + d) :: r) = some (u : Int) := by
    show (if (UInt8.ofNat (48 + d) == 45) = true then _ else if (UInt8.ofNat (48 + d) == 43) = true then _ else (Lib.decNat (UInt8.ofNat (48 + d) :: r)).map fun (m : Nat) => (m : Int)) = _
    rw [if_neg (by simpa using n1), if_neg (by simpa using n2)]
    have : Lib.decNat (UInt8.ofNat (48 + d) :: r) = some u := hd
    rw [this]
    rfl
  rw [e]
  rfl
theorem countN_dec {n : Nat} (h1 : 1 ≤ n) (h2 : n ≤ 65535) : countN (Lib.decDigits n) = some n := by
  unfold countN
  rw [atoi_dec h2]
  show (if _ then _ else _) = _
  rw [if_pos ⟨by omega, by omega, itoa_nat n⟩]
  rfl
theorem countN_some {s : List UInt8} {n : Nat} (h : countN s = some n) : 1 ≤ n ∧ n ≤ 65535 ∧ Lib.decDigits n = s := by
  unfold countN at h
  split at h
  · rename_i v hv
    split at h
    · rename_i h2
      injection h with h
      obtain ⟨m, rfl⟩ : ∃ m : Nat, v = m := ⟨v.toNat, by omega⟩
      have : m = n := by simpa using h
      subst this
      exact ⟨by omega, by omega, by rw [← itoa_nat]; exact h2.2.2⟩
    · cases h
  · cases h
theorem countN_none {s : List UInt8} (h : ∀ n, 1 ≤ n → n ≤ 65535 → Lib.decDigits n ≠ s) : countN s = none := by
  cases hc : countN s with
  | none => rfl
  | some n =>
    obtain ⟨h1, h2, h3⟩ := countN_some hc
    exact absurd h3 (h n h1 h2)
/-- the number that digits spell -/
def valD (l : List UInt8) : Nat := l.foldl (fun a c => 10 * a + (c.toNat - 48)) 0
def digB (c : UInt8) : Bool := decide (48 ≤ c.toNat) && decide (c.toNat ≤ 57)
theorem valD_snoc (l : List UInt8) (c : UInt8) : valD (l ++ [c]) = 10 * valD l + (c.toNat - 48) := by simp [valD]
theorem digB_of : ∀ d, d < 10 → digB (UInt8.ofNat (48 + d)) = true ∧ (UInt8.ofNat (48 + d)).toNat - 48 = d := by decide
theorem dec_digs (u : Nat) : (Lib.decDigits u).all digB = true ∧ valD (Lib.decDigits u) = u := by
  induction u using Nat.strongRecOn with
  | _ u ih =>
    by_cases h : u < 10
    · rw [dec_small h]
      obtain ⟨h1, h2⟩ := digB_of u h
      refine ⟨by show (digB _ && true) = true; rw [h1]; rfl, ?_⟩
      have := valD_snoc [] (UInt8.ofNat (48 + u))
      rw [List.nil_append, h2] at this
      rw [this]
      show 10 * 0 + u = u
      omega
    · rw [dec_big h]
      obtain ⟨i1, i2⟩ := ih (u / 10) (by omega)
      obtain ⟨h1, h2⟩ := digB_of (u % 10) (Nat.mod_lt u (by decide))
      refine ⟨by rw [List.all_append, i1]; show (true && (digB _ && true)) = true; rw [h1]; rfl, ?_⟩
      rw [valD_snoc, i2, h2]
      omega
theorem dec_back : ∀ (k : Nat) (l : List UInt8), l.length = k + 1 → l.all digB = true → l.head? ≠ some 48 → 1 ≤ valD l ∧ Lib.decDigits (valD l) = l
  | 0, l, hl, hd, h0 => by
    match l, hl with
    | [c], _ =>
      have hc : digB c = true := by simpa using hd
      have hc2 : 48 ≤ c.toNat ∧ c.toNat ≤ 57 := by simpa [digB] using hc
      have hn : c.toNat ≠ 48 := fun e => h0 (by rw [show c = 48 from UInt8.toNat_inj.1 e]; rfl)
      have e := valD_snoc [] c
      rw [List.nil_append] at e
      have e2 : valD [c] = c.toNat - 48 := by rw [e]; show 10 * 0 + _ = _; omega
      rw [e2]
      refine ⟨by omega, ?_⟩
      rw [dec_small (by omega), show 48 + (c.toNat - 48) = c.toNat by omega, UInt8.ofNat_toNat]
  | k + 1, l, hl, hd, h0 => by
    have hne : l ≠ [] := by intro e; subst e; simp at hl
    obtain ⟨t, c, rfl⟩ : ∃ t c, l = t ++ [c] := ⟨l.dropLast, l.getLast hne, (List.dropLast_concat_getLast hne).symm⟩
    have ht : t.length = k + 1 := by rw [List.length_append] at hl; simpa using hl
    rw [List.all_append, Bool.and_eq_true] at hd
    have hc : digB c = true := by simpa using hd.2
    have hc2 : 48 ≤ c.toNat ∧ c.toNat ≤ 57 := by simpa [digB] using hc
    obtain ⟨i1, i2⟩ := dec_back k t ht hd.1 (by
      match t, ht with
      | a :: t, _ => simpa using h0)
    rw [valD_snoc]
    refine ⟨by omega, ?_⟩
    rw [dec_big (by omega), show (10 * valD t + (c.toNat - 48)) / 10 = valD t by omega, i2, show (10 * valD t + (c.toNat - 48)) % 10 = c.toNat - 48 by omega, show 48 + (c.toNat - 48) = c.toNat by omega, UInt8.ofNat_toNat]

/-! ### Commands -/
abbrev Ev := Int × Bool
inductive Cmd where
  | ev (n : Nat) (d : Bool)
  | wait (n : Nat)
  | tap (k n : Nat)
def pressW : List UInt8 := [112, 114, 101, 115, 115]
def releaseW : List UInt8 := [114, 101, 108, 101, 97, 115, 101]
def waitW : List UInt8 := [119, 97, 105, 116]
def tapW : List UInt8 := [116, 97, 112]
/-- the commands with a word and further words -/
def evC (d : Bool) : List (List UInt8) → Option Cmd
  | [k] => (keyN k).map fun n => .ev n d
  | _ => none
def waitC : List (List UInt8) → Option Cmd
  | [s] => (countN s).map .wait
  | _ => none
def tapC : List (List UInt8) → Option Cmd
  | [k, s] => (keyN k).bind fun k => (countN s).map fun n => .tap k n
  | _ => none
def cmdW (w : List UInt8) (ws : List (List UInt8)) : Option Cmd :=
  if w = pressW then evC true ws else if w = releaseW then evC false ws else if w = waitW then waitC ws else if w = tapW then tapC ws else none
def cmdOf : List (List UInt8) → Option Cmd
  | [] => none
  | w :: ws => cmdW w ws
structure St where
  fs : List (List Ev)
  pr : List Ev
def stEv (s : St) (e : Ev) : St := ⟨s.fs, s.pr ++ [e]⟩
def stWait (s : St) (n : Nat) : St := ⟨s.fs ++ [s.pr] ++ List.replicate (n - 1) [], []⟩
def stDo (s : St) : Cmd → St
  | .ev n d => stEv s ((n : Int), d)
  | .wait n => stWait s n
  | .tap k n => stEv (stWait (stEv s ((k : Int), true)) n) ((k : Int), false)
def stTry (s : St) (c : Option Cmd) : St := match c with
  | some c => stDo s c
  | none => s
def lineC (l : List UInt8) : Option Cmd := cmdOf (splitS l)
/-- the state behind lines -/
def stOf (ls : List (List UInt8)) : St := ls.foldl (fun s l => stTry s (lineC l)) ⟨[], []⟩
def resF (s : St) : List (List Ev) := if s.pr = [] then s.fs else s.fs ++ [s.pr]
theorem stOf_snoc (ls : List (List UInt8)) (l : List UInt8) : stOf (ls ++ [l]) = stTry (stOf ls) (lineC l) := by simp [stOf]
theorem stDo_count (s : St) (c : Cmd) (h : ∀ k n, (c = .wait n ∨ c = .tap k n) → 1 ≤ n ∧ n ≤ 65535) : (stDo s c).fs.length ≤ s.fs.length + 65535 ∧ (stDo s c).pr.length ≤ s.pr.length + 1 := by
  cases c with
  | ev n d => simp [stDo, stEv]
  | wait n =>
    have := h 0 n (.inl rfl)
    simp [stDo, stWait]; omega
  | tap k n =>
    have := h k n (.inr rfl)
    simp [stDo, stWait, stEv]; omega
theorem cmd_rng {l : List UInt8} {c : Cmd} (h : lineC l = some c) : ∀ k n, (c = .wait n ∨ c = .tap k n) → 1 ≤ n ∧ n ≤ 65535 := by
  intro k n hc
  unfold lineC cmdOf at h
  split at h
  · cases h
  · rename_i w ws _
    unfold cmdW at h
    split at h
    · unfold evC at h
      split at h
      · obtain ⟨m, _, rfl⟩ := Option.map_eq_some_iff.1 h
        rcases hc with hc | hc <;> cases hc
      · cases h
    · split at h
      · unfold evC at h
        split at h
        · obtain ⟨m, _, rfl⟩ := Option.map_eq_some_iff.1 h
          rcases hc with hc | hc <;> cases hc
        · cases h
      · split at h
        · unfold waitC at h
          split at h
          · obtain ⟨m, hm, rfl⟩ := Option.map_eq_some_iff.1 h
            have := countN_some hm
            rcases hc with hc | hc
            · injection hc with hc; subst hc; exact ⟨this.1, this.2.1⟩
            · cases hc
          · cases h
        · split at h
          · unfold tapC at h
            split at h
            · obtain ⟨q, hq, h⟩ := Option.bind_eq_some_iff.1 h
              obtain ⟨m, hm, rfl⟩ := Option.map_eq_some_iff.1 h
              have := countN_some hm
              rcases hc with hc | hc
              · cases hc
              · injection hc with _ hc; subst hc; exact ⟨this.1, this.2.1⟩
            · cases h
          · cases h
theorem stOf_count : ∀ (n : Nat) (ls : List (List UInt8)), ls.length = n → (stOf ls).fs.length ≤ 65535 * n ∧ (stOf ls).pr.length ≤ n
  | 0, ls, h => by
    have : ls = [] := List.eq_nil_of_length_eq_zero h
    subst this
    exact ⟨Nat.le_refl _, Nat.le_refl _⟩
  | n + 1, ls, h => by
    have hne : ls ≠ [] := by intro e; subst e; simp at h
    obtain ⟨t, l, rfl⟩ : ∃ t l, ls = t ++ [l] := ⟨ls.dropLast, ls.getLast hne, (List.dropLast_concat_getLast hne).symm⟩
    have ht : t.length = n := by rw [List.length_append] at h; simpa using h
    obtain ⟨i1, i2⟩ := stOf_count n t ht
    rw [stOf_snoc]
    cases hc : lineC l with
    | none => exact ⟨by show (stOf t).fs.length ≤ _; omega, by show (stOf t).pr.length ≤ _; omega⟩
    | some c =>
      obtain ⟨h1, h2⟩ := stDo_count (stOf t) c (cmd_rng hc)
      exact ⟨by show (stDo (stOf t) c).fs.length ≤ _; omega, by show (stDo (stOf t) c).pr.length ≤ _; omega⟩
end Go.Proofs.YtghjbnbkfohmlaaDoor
