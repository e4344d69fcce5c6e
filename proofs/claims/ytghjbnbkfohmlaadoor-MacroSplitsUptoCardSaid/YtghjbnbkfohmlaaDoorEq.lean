/-
  '==' of structs and arrays all of whose cells are numbers, bools and strings: it compares the cells. And literals of structs and arrays. No program in sight.
-/
import Derived.Test.YtghjbnbkfohmlaaDoorSlice
namespace Go.Proofs.YtghjbnbkfohmlaaDoor
open Go Go.RowKit
set_option linter.unusedVariables false
set_option linter.unusedSimpArgs false

inductive LeafK where
  | b | i (k : IntKind) | s
def leafOk : LeafK → Value → Bool
  | .b, .bool _ => true
  | .s, .string _ => true
  | .i k, .int k' _ => decide (k = k')
  | _, _ => false
/-- the kinds of a type's cells -/
def leavesF (rec : TypeId → Option (List LeafK)) : List Field → Nat → Option (List LeafK)
  | [], _ => some []
  | f :: fs, off =>
    if f.name = "_" ∨ f.offset ≠ off then none else
    match rec f.type with
    | some l => if l.length = 0 then none else (leavesF rec fs (off + l.length)).map (l ++ ·)
    | none => none
def leaves (P : Program) : Nat → TypeId → Option (List LeafK)
  | 0, _ => none
  | d + 1, t =>
    match P.underlying t, (P.info? t).map (·.size) with
    | some .bool, some 1 => some [.b]
    | some .string, some 1 => some [.s]
    | some (.int k), some 1 => some [.i k]
    | some (.struct fs), some n => if P.stoodInHeld t then none else match leavesF (leaves P d) fs.toList 0 with
      | some l => if l.length = n ∧ 0 < n then some l else none
      | none => none
    | some (.array m e), some n => match leaves P d e with
      | some l => if (0 < m ∧ m * l.length = n) ∧ (P.info? e).map (·.size) = some l.length then some (List.replicate m l).flatten else none
      | none => none
    | _, _ => none

def cellsOk : List LeafK → List Value → Bool
  | [], [] => true
  | k :: ks, v :: vs => leafOk k v && cellsOk ks vs
  | _, _ => false
def cell1 : Value → Value → Bool
  | .bool a, .bool b => a == b
  | .int _ a, .int _ b => a == b
  | .string a, .string b => a == b
  | _, _ => false
def cellsEq : List Value → List Value → Bool
  | [], [] => true
  | x :: xs, y :: ys => cell1 x y && cellsEq xs ys
  | _, _ => false

theorem beq_bytes (a b : ByteArray) : (a == b) = decide (a = b) := by
  obtain ⟨⟨x⟩⟩ := a
  obtain ⟨⟨y⟩⟩ := b
  show ((⟨x⟩ : Array UInt8) == ⟨y⟩) = _
  by_cases h : x = y <;> simp [h]
theorem cellsOk_length : ∀ {ks : List LeafK} {vs : List Value}, cellsOk ks vs = true → vs.length = ks.length
  | [], [], _ => rfl
  | [], _ :: _, h => by simp [cellsOk] at h
  | _ :: _, [], h => by simp [cellsOk] at h
  | k :: ks, v :: vs, h => by
    simp only [cellsOk, Bool.and_eq_true] at h
    simp [cellsOk_length h.2]
theorem cellsOk_append : ∀ {k1 k2 : List LeafK} {vs : List Value}, cellsOk (k1 ++ k2) vs = true → cellsOk k1 (vs.take k1.length) = true ∧ cellsOk k2 (vs.drop k1.length) = true
  | [], k2, vs, h => by simpa [cellsOk] using h
  | k :: k1, k2, [], h => by simp [cellsOk] at h
  | k :: k1, k2, v :: vs, h => by
    simp only [List.cons_append, cellsOk, Bool.and_eq_true] at h
    obtain ⟨h1, h2⟩ := cellsOk_append h.2
    simp [cellsOk, h.1, h1, h2]
theorem cellsEq_append : ∀ {a b c d : List Value}, a.length = c.length → cellsEq (a ++ b) (c ++ d) = (cellsEq a c && cellsEq b d)
  | [], b, [], d, _ => by simp [cellsEq]
  | [], _, _ :: _, _, h => by simp at h
  | _ :: _, _, [], _, h => by simp at h
  | x :: a, b, y :: c, d, h => by
    simp only [List.cons_append, cellsEq]
    rw [cellsEq_append (by simpa using h), Bool.and_assoc]
theorem cellsEq_self : ∀ {ks : List LeafK} {xs : List Value}, cellsOk ks xs = true → cellsEq xs xs = true
  | [], [], _ => rfl
  | [], _ :: _, h => by simp [cellsOk] at h
  | _ :: _, [], h => by simp [cellsOk] at h
  | k :: ks, v :: vs, h => by
    simp only [cellsOk, Bool.and_eq_true] at h
    simp only [cellsEq, cellsEq_self h.2, Bool.and_true]
    cases v <;> cases k <;> simp [leafOk] at h <;> simp [cell1, beq_bytes]
theorem cellsEq_eq : ∀ {ks : List LeafK} {xs ys : List Value}, cellsOk ks xs = true → cellsOk ks ys = true → cellsEq xs ys = true → xs = ys
  | [], [], [], _, _, _ => rfl
  | [], _ :: _, _, h, _, _ => by simp [cellsOk] at h
  | [], [], _ :: _, _, h, _ => by simp [cellsOk] at h
  | _ :: _, [], _, h, _, _ => by simp [cellsOk] at h
  | _ :: _, _ :: _, [], _, h, _ => by simp [cellsOk] at h
  | k :: ks, x :: xs, y :: ys, h1, h2, h3 => by
    simp only [cellsOk, cellsEq, Bool.and_eq_true] at h1 h2 h3
    have := cellsEq_eq h1.2 h2.2 h3.2
    subst this
    have hxy : x = y := by
      have a := h1.1
      have b := h2.1
      have c := h3.1
      cases x <;> cases y <;> simp [cell1, beq_bytes] at c <;> cases k <;> simp_all [leafOk]
    rw [hxy]

section
variable {P : Program}
/-- a value of a type, out of its cells -/
def ValOf (P : Program) (t : TypeId) (xs : List Value) (v : Value) : Prop := (isAggT P t = some true ∧ v = .agg xs.toArray) ∨ (isAggT P t = some false ∧ xs = [v])

theorem run_part {t : TypeId} {n off : Nat} {cs : Array Value} (hsz : (P.info? t).map (·.size) = some n) (hle : off + n ≤ cs.size) (h1 : isAggT P t = some false → n = 1) (h2 : (isAggT P t).isSome = true) (w : World) :
    ∃ v, (part t cs off).run P w = .ok v w ∧ ValOf P t ((cs.toList.drop off).take n) v := by
  obtain ⟨i, hi, hs⟩ := Option.map_eq_some_iff.1 hsz
  cases ha : isAggT P t with
  | none => rw [ha] at h2; cases h2
  | some b =>
    cases b
    · have hn := h1 ha
      subst hn
      have hlt : off < cs.size := by omega
      refine ⟨cs[off], ?_, .inr ⟨ha, ?_⟩⟩
      · simp [part, Sem.run_bind, run_isAgg ha, hlt]
      · rw [List.drop_eq_getElem_cons (by simpa using hlt)]
        simp
    · refine ⟨.agg (cs.extract off (off + n)), ?_, .inl ⟨ha, ?_⟩⟩
      · simp [part, Sem.run_bind, run_isAgg ha, sizeOf, typeInfo, hi, hs]
      · congr 1
        apply Array.ext'
        simp

theorem leaves_size : ∀ {d : Nat} {t : TypeId} {l : List LeafK}, leaves P d t = some l → (P.info? t).map (·.size) = some l.length ∧ (isAggT P t).isSome = true ∧ (isAggT P t = some false → l.length = 1) := by
  intro d t l h
  cases d with
  | zero => simp [leaves] at h
  | succ d =>
    unfold leaves at h
    unfold isAggT
    split at h
    · rename_i hu hs; simp only [Option.some.injEq] at h; subst h; simp [hu, hs]
    · rename_i hu hs; simp only [Option.some.injEq] at h; subst h; simp [hu, hs]
    · rename_i hu hs; simp only [Option.some.injEq] at h; subst h; simp [hu, hs]
    · rename_i hu hs
      split at h
      · cases h
      · split at h
        · split at h
          · rename_i hl _ he; simp only [Option.some.injEq] at h; subst h; simp [hu, hs, he.1]
          · cases h
        · cases h
    · rename_i m e n hu hs
      split at h
      · split at h
        · rename_i hl he; simp only [Option.some.injEq] at h; subst h; simp [hu, hs, List.length_flatten, he.1.2]
        · cases h
      · cases h
    · cases h

theorem leaves_ne_nil : ∀ {d : Nat} {t : TypeId} {l : List LeafK}, leaves P d t = some l → l ≠ []
  | 0, _, _, h => by simp [leaves] at h
  | d + 1, t, l, h => by
    unfold leaves at h
    split at h
    · simp only [Option.some.injEq] at h; subst h; simp
    · simp only [Option.some.injEq] at h; subst h; simp
    · simp only [Option.some.injEq] at h; subst h; simp
    · split at h
      · cases h
      · split at h
        · split at h
          · rename_i he; simp only [Option.some.injEq] at h; subst h
            intro e; subst e; simp at he; omega
          · cases h
        · cases h
    · split at h
      · rename_i l' hl'
        split at h
        · rename_i he; simp only [Option.some.injEq] at h; subst h
          have := leaves_ne_nil hl'
          intro e
          rw [List.flatten_eq_nil_iff] at e
          exact this (e l' (by simp; omega))
        · cases h
      · cases h
    · cases h
theorem run_eqFields {d : Nat} (ih : ∀ (t : TypeId) (l : List LeafK), leaves P d t = some l → ∀ (xs ys : List Value) (x y : Value) (w : World), cellsOk l xs = true → cellsOk l ys = true → ValOf P t xs x → ValOf P t ys y → (Op.equalIn d t x y).run P w = .ok (cellsEq xs ys) w)
    {xs ys : Array Value} (w : World) : ∀ (fs : List Field) (off : Nat) (l : List LeafK), leavesF (leaves P d) fs off = some l → cellsOk l (xs.toList.drop off) = true → cellsOk l (ys.toList.drop off) = true →
      (Op.eqFields d xs ys fs).run P w = .ok (cellsEq (xs.toList.drop off) (ys.toList.drop off)) w
  | [], off, l, h, h1, h2 => by
    simp only [leavesF, Option.some.injEq] at h
    subst h
    have e1 : xs.toList.drop off = [] := by cases hx : xs.toList.drop off <;> simp_all [cellsOk]
    have e2 : ys.toList.drop off = [] := by cases hx : ys.toList.drop off <;> simp_all [cellsOk]
    rw [e1, e2]
    rfl
  | f :: fs, off, l, h, h1, h2 => by
    unfold leavesF at h
    split at h
    · cases h
    · rename_i hne
      split at h
      · rename_i l1 hl1
        by_cases hz : l1.length = 0
        · rw [if_pos hz] at h; cases h
        · rw [if_neg hz] at h
          obtain ⟨l2, hl2, rfl⟩ := Option.map_eq_some_iff.1 h
          have hname : f.name ≠ "_" := fun e => hne (.inl e)
          have hoff : f.offset = off := Classical.byContradiction fun e => hne (.inr e)
          obtain ⟨s1, s2, s3⟩ := leaves_size hl1
          obtain ⟨a1, a2⟩ := cellsOk_append h1
          obtain ⟨b1, b2⟩ := cellsOk_append h2
          have lx := cellsOk_length h1
          have ly := cellsOk_length h2
          simp only [List.length_drop, Array.length_toList, List.length_append] at lx ly
          obtain ⟨vx, hx1, hx2⟩ := run_part (P := P) (t := f.type) (cs := xs) (off := off) (n := l1.length) s1 (by omega) s3 s2 w
          obtain ⟨vy, hy1, hy2⟩ := run_part (P := P) (t := f.type) (cs := ys) (off := off) (n := l1.length) s1 (by omega) s3 s2 w
          have hr := ih f.type l1 hl1 _ _ vx vy w a1 b1 hx2 hy2
          have hrest := run_eqFields ih w fs (off + l1.length) l2 hl2 (by rw [List.drop_drop] at a2; exact a2) (by rw [List.drop_drop] at b2; exact b2)
          have e : cellsEq (xs.toList.drop off) (ys.toList.drop off) = (cellsEq ((xs.toList.drop off).take l1.length) ((ys.toList.drop off).take l1.length) && cellsEq (xs.toList.drop (off + l1.length)) (ys.toList.drop (off + l1.length))) := by
            rw [← cellsEq_append (by simp; omega)]
            rw [← List.drop_drop, ← List.drop_drop, List.take_append_drop, List.take_append_drop]
          rw [e]
          subst hoff
          simp only [Op.eqFields, hname, ne_eq, not_false_eq_true, if_true, Sem.run_bind, hx1, hy1, hr, Result.andThen_ok]
          cases cellsEq ((xs.toList.drop f.offset).take l1.length) ((ys.toList.drop f.offset).take l1.length)
          · simp
          · simpa using hrest
      · cases h

/-- an array's elements, one by one -/
def eqElems (d : Nat) (e : TypeId) (n : Nat) (xs ys : Array Value) : List Nat → Sem Bool
  | [] => pure true
  | i :: is => do
    let a ← part e xs (i * n)
    let b ← part e ys (i * n)
    let r ← Op.equalIn d e a b
    if (!r) = true then pure false else eqElems d e n xs ys is

theorem run_equalIn_array (d : Nat) (t e : TypeId) (m n : Nat) (xs ys : Array Value) (ht : P.underlying t = some (.array m e)) (hn : (P.info? e).map (·.size) = some n) (w : World) :
    (Op.equalIn (d + 1) t (.agg xs) (.agg ys)).run P w = (eqElems d e n xs ys (List.range m)).run P w := by
  obtain ⟨i, hi, hs⟩ := Option.map_eq_some_iff.1 hn
  have hz : ∀ w, (sizeOf e).run P w = .ok n w := fun w => by simp [sizeOf, typeInfo, hi, hs, Sem.run_bind]
  simp only [Op.equalIn, Sem.run_bind, run_underlying ht, Result.andThen_ok, hz]
  simp only [Std.Legacy.Range.forIn_eq_forIn_range', Std.Legacy.Range.size, Nat.sub_zero, Nat.add_one_sub_one, Nat.div_one]
  rw [List.range_eq_range']
  generalize List.range' 0 m = is
  induction is generalizing w with
  | nil => simp [eqElems]
  | cons j is ih =>
    simp only [List.forIn_cons, eqElems, Sem.run_bind, Sem.run_ite]
    generalize (part e xs (j * n)).run P w = r1
    cases r1 with
    | ok a w1 =>
      simp only [Result.andThen_ok]
      generalize (part e ys (j * n)).run P w1 = r2
      cases r2 with
      | ok b w2 =>
        simp only [Result.andThen_ok]
        generalize (Op.equalIn d e a b).run P w2 = r3
        cases r3 with
        | ok r w3 =>
          cases r
          · simp only [Result.andThen_ok, Bool.not_false, if_true, Sem.run_pure]
          · simp only [Result.andThen_ok, Bool.not_true, Bool.false_eq_true, if_false, Sem.run_pure]
            exact ih w3
        | halt x w3 => simp [Result.andThen]
      | halt x w2 => simp [Result.andThen]
    | halt x w1 => simp [Result.andThen]

theorem run_eqElems {d : Nat} {e : TypeId} {l : List LeafK} (hl : leaves P d e = some l) (ih : ∀ (xs ys : List Value) (x y : Value) (w : World), cellsOk l xs = true → cellsOk l ys = true → ValOf P e xs x → ValOf P e ys y → (Op.equalIn d e x y).run P w = .ok (cellsEq xs ys) w)
    {xs ys : Array Value} (w : World) : ∀ (m k : Nat), cellsOk (List.replicate m l).flatten (xs.toList.drop (k * l.length)) = true → cellsOk (List.replicate m l).flatten (ys.toList.drop (k * l.length)) = true →
      (eqElems d e l.length xs ys (List.range' k m)).run P w = .ok (cellsEq (xs.toList.drop (k * l.length)) (ys.toList.drop (k * l.length))) w
  | 0, k, h1, h2 => by
    simp only [List.replicate_zero, List.flatten_nil] at h1 h2
    have e1 : xs.toList.drop (k * l.length) = [] := by cases hx : xs.toList.drop (k * l.length) <;> simp_all [cellsOk]
    have e2 : ys.toList.drop (k * l.length) = [] := by cases hx : ys.toList.drop (k * l.length) <;> simp_all [cellsOk]
    rw [e1, e2]
    rfl
  | m + 1, k, h1, h2 => by
    obtain ⟨s1, s2, s3⟩ := leaves_size hl
    simp only [List.replicate_succ, List.flatten_cons] at h1 h2
    obtain ⟨a1, a2⟩ := cellsOk_append h1
    obtain ⟨b1, b2⟩ := cellsOk_append h2
    have lx := cellsOk_length h1
    have ly := cellsOk_length h2
    simp only [List.length_drop, Array.length_toList, List.length_append] at lx ly
    have hk : (k + 1) * l.length = k * l.length + l.length := by rw [Nat.add_mul, Nat.one_mul]
    have key : ∀ (z : Array Value), z.size - k * l.length = l.length + (List.replicate m l).flatten.length → k * l.length + l.length ≤ z.size ∨ l.length = 0 := fun z hz => by
      by_cases h0 : l.length = 0
      · exact .inr h0
      · exact .inl (by omega)
    by_cases h0 : l.length = 0
    · -- elements of no cells
      have hl0 : l = [] := List.eq_nil_of_length_eq_zero h0
      subst hl0
      exfalso
      have : isAggT P e = some true := by
        cases hh : isAggT P e with
        | none => rw [hh] at s2; cases s2
        | some b => cases b with
          | true => rfl
          | false => have := s3 hh; simp at this
      exact absurd hl (by
        intro hl
        exact leaves_ne_nil hl rfl)
    · obtain ⟨vx, hx1, hx2⟩ := run_part (P := P) (t := e) (cs := xs) (off := k * l.length) (n := l.length) s1 (by omega) s3 s2 w
      obtain ⟨vy, hy1, hy2⟩ := run_part (P := P) (t := e) (cs := ys) (off := k * l.length) (n := l.length) s1 (by omega) s3 s2 w
      have hr := ih _ _ vx vy w a1 b1 hx2 hy2
      have hrest := run_eqElems hl ih w m (k + 1) (by rw [List.drop_drop] at a2; rw [hk]; exact a2) (by rw [List.drop_drop] at b2; rw [hk]; exact b2)
      rw [hk] at hrest
      have e1 : cellsEq (xs.toList.drop (k * l.length)) (ys.toList.drop (k * l.length)) = (cellsEq ((xs.toList.drop (k * l.length)).take l.length) ((ys.toList.drop (k * l.length)).take l.length) && cellsEq (xs.toList.drop (k * l.length + l.length)) (ys.toList.drop (k * l.length + l.length))) := by
        rw [← cellsEq_append (by simp; omega)]
        rw [← List.drop_drop, ← List.drop_drop, List.take_append_drop, List.take_append_drop]
      rw [e1]
      simp only [List.range'_succ, eqElems, Sem.run_bind, hx1, hy1, hr, Result.andThen_ok]
      cases cellsEq ((xs.toList.drop (k * l.length)).take l.length) ((ys.toList.drop (k * l.length)).take l.length)
      · simp
      · simpa using hrest

theorem run_equalIn : ∀ (d : Nat) (t : TypeId) (l : List LeafK), leaves P d t = some l → ∀ (xs ys : List Value) (x y : Value) (w : World), cellsOk l xs = true → cellsOk l ys = true → ValOf P t xs x → ValOf P t ys y →
    (Op.equalIn d t x y).run P w = .ok (cellsEq xs ys) w
  | 0, t, l, h => by simp [leaves] at h
  | d + 1, t, l, h => by
    intro xs ys x y w h1 h2 hx hy
    have hd := run_equalIn d
    unfold leaves at h
    have one : ∀ (k : LeafK) (v : List Value), cellsOk [k] v = true → ∃ u, v = [u] ∧ leafOk k u = true := fun k v hv => by
      cases v with
      | nil => simp [cellsOk] at hv
      | cons u us => cases us with
        | nil => exact ⟨u, rfl, by simpa [cellsOk] using hv⟩
        | cons _ _ => simp [cellsOk] at hv
    have sc : ∀ {b : Bool} (u : List Value) (v : Value), isAggT P t = some false → ValOf P t u v → u = [v] := fun u v ha hv => by
      rcases hv with ⟨h3, _⟩ | ⟨_, h3⟩
      · rw [ha] at h3; cases h3
      · exact h3
    split at h
    · rename_i hu hs
      simp only [Option.some.injEq] at h; subst h
      have ha : isAggT P t = some false := by unfold isAggT; rw [hu]
      obtain ⟨a, rfl, ha1⟩ := one _ _ h1
      obtain ⟨b, rfl, hb1⟩ := one _ _ h2
      have e1 := sc (b := true) _ _ ha hx
      have e2 := sc (b := true) _ _ ha hy
      injection e1 with e1 _; injection e2 with e2 _
      subst e1; subst e2
      cases a <;> simp [leafOk] at ha1
      cases b <;> simp [leafOk] at hb1
      simp [Op.equalIn, run_underlying hu, Sem.run_bind, cellsEq, cell1]
    · rename_i hu hs
      simp only [Option.some.injEq] at h; subst h
      have ha : isAggT P t = some false := by unfold isAggT; rw [hu]
      obtain ⟨a, rfl, ha1⟩ := one _ _ h1
      obtain ⟨b, rfl, hb1⟩ := one _ _ h2
      have e1 := sc (b := true) _ _ ha hx
      have e2 := sc (b := true) _ _ ha hy
      injection e1 with e1 _; injection e2 with e2 _
      subst e1; subst e2
      cases a <;> simp [leafOk] at ha1
      cases b <;> simp [leafOk] at hb1
      simp [Op.equalIn, run_underlying hu, Sem.run_bind, cellsEq, cell1]
    · rename_i k hu hs
      simp only [Option.some.injEq] at h; subst h
      have ha : isAggT P t = some false := by unfold isAggT; rw [hu]
      obtain ⟨a, rfl, ha1⟩ := one _ _ h1
      obtain ⟨b, rfl, hb1⟩ := one _ _ h2
      have e1 := sc (b := true) _ _ ha hx
      have e2 := sc (b := true) _ _ ha hy
      injection e1 with e1 _; injection e2 with e2 _
      subst e1; subst e2
      cases a <;> simp [leafOk] at ha1
      cases b <;> simp [leafOk] at hb1
      subst ha1; subst hb1
      simp [Op.equalIn, run_underlying hu, Sem.run_bind, cellsEq, cell1]
    · rename_i fs m hu hs
      have ha : isAggT P t = some true := by unfold isAggT; rw [hu]
      have hv : ∀ (u : List Value) (v : Value), ValOf P t u v → v = .agg u.toArray := fun u v hv => by
        rcases hv with ⟨_, h3⟩ | ⟨h3, _⟩
        · exact h3
        · rw [ha] at h3; cases h3
      rw [hv _ _ hx, hv _ _ hy]
      split at h
      · cases h
      · rename_i hst
        split at h
        · rename_i l' hl'
          split at h
          · simp only [Option.some.injEq] at h; subst h
            have hfo : P.fieldsOf t = fs := by unfold Program.fieldsOf; rw [hu]
            rw [run_equalIn_struct w d t _ _ (by rw [hfo]; exact hu) (by simpa using hst), hfo]
            have := run_eqFields (P := P) hd (xs := xs.toArray) (ys := ys.toArray) w fs.toList 0 l' hl' (by simpa using h1) (by simpa using h2)
            simpa using this
          · cases h
        · cases h
    · rename_i m e n hu hs
      have ha : isAggT P t = some true := by unfold isAggT; rw [hu]
      have hv : ∀ (u : List Value) (v : Value), ValOf P t u v → v = .agg u.toArray := fun u v hv => by
        rcases hv with ⟨_, h3⟩ | ⟨h3, _⟩
        · exact h3
        · rw [ha] at h3; cases h3
      rw [hv _ _ hx, hv _ _ hy]
      split at h
      · rename_i l' hl'
        split at h
        · rename_i hc
          simp only [Option.some.injEq] at h; subst h
          rw [run_equalIn_array d t e m l'.length _ _ hu hc.2]
          have := run_eqElems (P := P) hl' (hd e l' hl') (xs := xs.toArray) (ys := ys.toArray) w m 0 (by simpa using h1) (by simpa using h2)
          rw [List.range_eq_range']
          simpa using this
        · cases h
      · cases h
    · cases h

/-! ### Literals of structs and arrays -/
theorem run_mapML {α β : Type} (f : α → Sem β) (g : α → β) (w : World) : ∀ (l : List α), (∀ a ∈ l, (f a).run P w = .ok (g a) w) → (l.mapM f).run P w = .ok (l.map g) w
  | [], _ => by simp
  | a :: l, h => by
    rw [List.mapM_cons, Sem.run_bind, h a (.head _)]
    simp only [Result.andThen_ok]
    rw [Sem.run_bind, run_mapML f g w l (fun b hb => h b (.tail _ hb))]
    simp
theorem run_mapM {α β : Type} (f : α → Sem β) (g : α → β) (w : World) (as : Array α) (h : ∀ a ∈ as.toList, (f a).run P w = .ok (g a) w) : (as.mapM f).run P w = .ok (as.map g) w := by
  rw [Array.mapM_eq_mapM_toList, map_eq_pure_bind, Sem.run_bind, run_mapML f g w as.toList h]
  simp only [Result.andThen_ok, Sem.run_pure]
  congr 1
  apply Array.ext'
  simp

/-- the cells of a literal -/
def buildOf (P : Program) (t : TypeId) (pv : List (Nat × Value)) : Option (Array Value) :=
  match (P.info? t).bind (·.zero), P.underlying t with
  | some z, some (.struct fs) =>
    if fs.toList.all (fun f => (P.info? f.type).isSome) then
      Instr.fill ((fs.map fun f => (f.offset, ((P.info? f.type).map (·.size)).getD 0))[·]?) z.cells pv
    else none
  | some z, some (.array _ e) => match (P.info? e).map (·.size) with
    | some n => Instr.fill (fun i => some (i * n, n)) z.cells pv
    | none => none
  | _, _ => none

theorem run_buildOf {t : TypeId} {pv : List (Nat × Value)} {cells : Array Value} (h : buildOf P t pv = some cells) (w : World) : (Instr.build t pv.toArray).run P w = .ok (.agg cells) w := by
  unfold buildOf at h
  split at h
  · rename_i z fs hz hu
    obtain ⟨i, hi, hzz⟩ := Option.bind_eq_some_iff.1 hz
    split at h
    · rename_i hall
      have hm := run_mapM (P := P) (fun f : Field => do pure (f.offset, ← sizeOf f.type)) (fun f => (f.offset, ((P.info? f.type).map (·.size)).getD 0)) w fs (fun f hf => by
        have := List.all_eq_true.1 hall f hf
        obtain ⟨i, hi⟩ := Option.isSome_iff_exists.1 this
        simp [sizeOf, typeInfo, hi, Sem.run_bind])
      unfold Instr.build
      rw [Sem.run_bind]
      have e1 : (zeroValue t).run P w = .ok z w := by simp [zeroValue, typeInfo, hi, hzz, Sem.run_bind]
      rw [e1]
      simp only [Result.andThen_ok]
      rw [Sem.run_bind, run_underlying hu]
      simp only [Result.andThen_ok]
      rw [Sem.run_bind, hm]
      simp only [Result.andThen_ok, h]
      rfl
    · cases h
  · rename_i z m e hz hu
    obtain ⟨i, hi, hzz⟩ := Option.bind_eq_some_iff.1 hz
    split at h
    · rename_i n hn
      obtain ⟨j, hj, hs⟩ := Option.map_eq_some_iff.1 hn
      simp [Instr.build, zeroValue, typeInfo, hi, hzz, Sem.run_bind, run_underlying hu, sizeOf, hj, hs, h]
    · cases h
  · cases h

section
variable {n : Nat} {w0 : World} {S : List Nat} {E : List (Nat × Value)} {H : List Res} {dr : Option Dr} {ops : Array Oper} {K : Act → World → Prop} {rest : List Oper} {d : Nat} {ty : TypeId} {pos : String} {after : Array Edge} {x y : Operand}
def evp (E : List (Nat × Value)) : List (Nat × Operand) → Option (List (Nat × Value))
  | [] => some []
  | (i, x) :: l => match ev E x, evp E l with
    | some v, some vs => some ((i, v) :: vs)
    | _, _ => none
theorem Holds.evp {a : Act} (h : Holds n E a) : ∀ {xs : List (Nat × Operand)} {vs : List (Nat × Value)}, evp E xs = some vs → xs.map (fun p => (p.1, a.eval p.2)) = vs
  | [], vs, hx => by simpa [Go.Proofs.YtghjbnbkfohmlaaDoor.evp] using hx
  | (i, x) :: xs, vs, hx => by
    unfold Go.Proofs.YtghjbnbkfohmlaaDoor.evp at hx
    cases h1 : Go.Proofs.YtghjbnbkfohmlaaDoor.ev E x with
    | none => simp [h1] at hx
    | some v =>
      cases h2 : Go.Proofs.YtghjbnbkfohmlaaDoor.evp E xs with
      | none => simp [h1, h2] at hx
      | some us =>
        simp only [h1, h2, Option.some.injEq] at hx
        subst hx
        simp [h.ev h1, h.evp h2]
theorem r_build {t : TypeId} {parts : List (Nat × Operand)} {pv : List (Nat × Value)} {cells : Array Value} (hd : Nat.blt d n = true) (hp : evp E parts = some pv) (hb : buildOf P t pv = some cells)
    (hk : Run n w0 S ((d, .agg cells) :: E) H (mix P dr ops K rest)) : Run n w0 S E H (mix P dr ops K (⟨some d, .build t parts.toArray, ty, pos, after, none⟩ :: rest)) :=
  r_value hd (by cases dr <;> rfl) (fun a ha w => by
    have e0 : execOp a.eval ⟨some d, .build t parts.toArray, ty, pos, after, none⟩ = (do pure (.value (← Instr.build t (parts.toArray.map fun p => (p.1, a.eval p.2))))) := rfl
    have e1 : (parts.toArray.map fun p => (p.1, a.eval p.2)) = pv.toArray := by rw [← ha.evp hp]; simp
    rw [e0, e1, Sem.run_bind, run_buildOf hb]
    rfl) hk

/-- are a type's values compared cell by cell? -/
def flatT (P : Program) (t : TypeId) (ls : List LeafK) : Prop := leaves P 10000 t = some ls ∧ P.eqGuardType P.depth t = false ∧ isAggT P t = some true
theorem r_eqlAgg {t t' : TypeId} {xs ys : Array Value} {ls : List LeafK} {p : Bool} (hd : Nat.blt d n = true) (hx : ev E x = some (.agg xs)) (hy : ev E y = some (.agg ys)) (hf : flatT P t ls) (h1 : cellsOk ls xs.toList = true) (h2 : cellsOk ls ys.toList = true) (hr : cellsEq xs.toList ys.toList = p)
    (hk : Run n w0 S ((d, .bool p) :: E) H (mix P dr ops K rest)) : Run n w0 S E H (mix P dr ops K (⟨some d, .binOp .eql t x y t', ty, pos, after, none⟩ :: rest)) :=
  r_bin hd hx hy (fun w => run_eqGuard_agg w _ _ _ _ _ _ hf.2.1) (fun w => by
    rw [run_eql_struct, run_equalIn 10000 t ls hf.1 xs.toList ys.toList _ _ w h1 h2 (.inl ⟨hf.2.2, by simp⟩) (.inl ⟨hf.2.2, by simp⟩), hr]
    rfl) hk
theorem r_neqAgg {t t' : TypeId} {xs ys : Array Value} {ls : List LeafK} {p : Bool} (hd : Nat.blt d n = true) (hx : ev E x = some (.agg xs)) (hy : ev E y = some (.agg ys)) (hf : flatT P t ls) (h1 : cellsOk ls xs.toList = true) (h2 : cellsOk ls ys.toList = true) (hr : (!cellsEq xs.toList ys.toList) = p)
    (hk : Run n w0 S ((d, .bool p) :: E) H (mix P dr ops K rest)) : Run n w0 S E H (mix P dr ops K (⟨some d, .binOp .neq t x y t', ty, pos, after, none⟩ :: rest)) :=
  r_bin hd hx hy (fun w => run_eqGuard_agg w _ _ _ _ _ _ hf.2.1) (fun w => by
    rw [run_neq_struct, run_equalIn 10000 t ls hf.1 xs.toList ys.toList _ _ w h1 h2 (.inl ⟨hf.2.2, by simp⟩) (.inl ⟨hf.2.2, by simp⟩), ← hr]
    rfl) hk
end
end
end Go.Proofs.YtghjbnbkfohmlaaDoor
