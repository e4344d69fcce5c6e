/-
  The judgement of a walk ('Run'): in every frame whose slots hold what E says, and in every world of which H says what is known, the rest of the code comes to what is asked. A rule for each form of code and for the operations that touch no memory. No program in sight.
-/
import Derived.Test.YtghjbnbkfohmlaaDoorOps
import Derived.Test.YtghjbnbkfohmlaaDoorMix
namespace Go.Proofs.YtghjbnbkfohmlaaDoor
open Go Go.RowKit
set_option linter.unusedVariables false
set_option linter.unusedSimpArgs false

def lk : List (Nat × Value) → Nat → Option Value
  | [], _ => none
  | (k, v) :: E, t => cond (Nat.beq k t) (some v) (lk E t)

structure Holds (n : Nat) (E : List (Nat × Value)) (a : Act) : Prop where
  size : a.tmps.size = n
  defers : a.defers = []
  val : ∀ t v, lk E t = some v → a.tmps[t]? = some v

def ev (E : List (Nat × Value)) : Operand → Option Value
  | .tmp t => lk E t
  | .const v => some v
  | .global g => some (.pointer (some ⟨g, 0, none⟩))
  | .func f => some (.func (.func f) #[] #[])

def evs (E : List (Nat × Value)) : List Operand → Option (List Value)
  | [] => some []
  | x :: l => match ev E x, evs E l with
    | some v, some vs => some (v :: vs)
    | _, _ => none

theorem Holds.ev {n : Nat} {E : List (Nat × Value)} {a : Act} (h : Holds n E a) {x : Operand} {v : Value} (hx : ev E x = some v) : a.eval x = v := by
  cases x with
  | tmp t =>
    have := h.val t v hx
    simp [Act.eval, this]
  | const v => simpa [Go.Proofs.YtghjbnbkfohmlaaDoor.ev, Act.eval] using hx
  | global g => simpa [Go.Proofs.YtghjbnbkfohmlaaDoor.ev, Act.eval] using hx
  | func f => simpa [Go.Proofs.YtghjbnbkfohmlaaDoor.ev, Act.eval] using hx

theorem Holds.evs {n : Nat} {E : List (Nat × Value)} {a : Act} (h : Holds n E a) : ∀ {xs : List Operand} {vs : List Value}, evs E xs = some vs → xs.map a.eval = vs
  | [], vs, hx => by simpa [Go.Proofs.YtghjbnbkfohmlaaDoor.evs] using hx
  | x :: xs, vs, hx => by
    unfold Go.Proofs.YtghjbnbkfohmlaaDoor.evs at hx
    cases h1 : Go.Proofs.YtghjbnbkfohmlaaDoor.ev E x with
    | none => simp [h1] at hx
    | some v =>
      cases h2 : Go.Proofs.YtghjbnbkfohmlaaDoor.evs E xs with
      | none => simp [h1, h2] at hx
      | some us =>
        simp only [h1, h2, Option.some.injEq] at hx
        subst hx
        simp [h.ev h1, h.evs h2]

theorem Holds.put {n : Nat} {E : List (Nat × Value)} {a : Act} (h : Holds n E a) {d : Nat} (hd : Nat.blt d n = true) (v : Value) : Holds n ((d, v) :: E) (a.put (some d) v) := by
  have hd' : d < n := by simpa [Nat.blt_eq] using hd
  refine ⟨by simp [Act.put, h.size], h.defers, fun t u hu => ?_⟩
  unfold lk at hu
  by_cases e : d = t
  · subst e
    have : Nat.beq d d = true := by simp
    rw [this] at hu
    simp only [cond_true, Option.some.injEq] at hu
    subst hu
    simp [Act.put, h.size, hd']
  · have : Nat.beq d t = false := by
      cases hb : Nat.beq d t
      · rfl
      · exact absurd (Nat.eq_of_beq_eq_true hb) e
    rw [this] at hu
    simp only [cond_false] at hu
    have := h.val t u hu
    simp [Act.put, Array.getElem?_setIfInBounds_ne e, this]

theorem Holds.weak {n : Nat} {E E' : List (Nat × Value)} {a : Act} (h : Holds n E a) (he : ∀ p ∈ E', lk E p.1 = some p.2) : Holds n E' a := by
  refine ⟨h.size, h.defers, fun t v hv => ?_⟩
  have : (t, v) ∈ E' := by
    clear he
    induction E' with
    | nil => simp [lk] at hv
    | cons p E' ih =>
      obtain ⟨k, u⟩ := p
      unfold lk at hv
      cases hb : Nat.beq k t
      · rw [hb] at hv; exact .tail _ (ih hv)
      · rw [hb] at hv
        have := Nat.eq_of_beq_eq_true hb
        subst this
        simp only [cond_true, Option.some.injEq] at hv
        subst hv
        exact .head _
  exact h.val t v (he _ this)

/-- each of these slots holds what is said -/
def lkAll (E : List (Nat × Value)) : List (Nat × Value) → Prop
  | [] => True
  | (k, v) :: E' => lk E k = some v ∧ lkAll E E'
theorem lkAll_mem {E : List (Nat × Value)} : ∀ {E' : List (Nat × Value)}, lkAll E E' → ∀ p ∈ E', lk E p.1 = some p.2
  | [], _, _, h => by cases h
  | (k, v) :: E', h, p, hp => by
    rcases List.mem_cons.1 hp with rfl | hp
    · exact h.1
    · exact lkAll_mem h.2 p hp

/-- what is asked of the rest of the code -/
def Run (n : Nat) (w0 : World) (S : List Nat) (E : List (Nat × Value)) (H : List Res) (G : Act → World → Prop) : Prop :=
  ∀ a w, Holds n E a → Sat w0 S H w → G a w

section
variable {P : Program} {n : Nat} {w0 : World} {S : List Nat} {E E' : List (Nat × Value)} {H H' : List Res} {Q : Exit → Act → World → Prop}

theorem Run.weak {G : Act → World → Prop} (he : lkAll E E') (h : Run n w0 S E' H G) : Run n w0 S E H G :=
  fun a w ha hw => h a w (ha.weak (lkAll_mem he)) hw
theorem Run.perm {G : Act → World → Prop} (p : H.Perm H') (h : Run n w0 S E H' G) : Run n w0 S E H G :=
  fun a w ha hw => h a w ha (hw.perm p)
theorem Run.front {G : Act → World → Prop} {r : Res} (p : Pick r H H') (h : Run n w0 S E (r :: H') G) : Run n w0 S E H G :=
  Run.perm p.perm h
theorem Run.drop {G : Act → World → Prop} {r : Res} (p : Pick r H H') (h : Run n w0 S E H' G) : Run n w0 S E H G :=
  fun a w ha hw => h a w ha (hw.pick p).drop
theorem r_have {G : Act → World → Prop} {p : Prop} (hp : ∀ w, Sat w0 S H w → p) (h : p → Run n w0 S E H G) : Run n w0 S E H G := fun a w ha hw => h (hp w hw) a w ha hw
theorem Run.clear {G : Act → World → Prop} (h : Run n w0 S E [] G) : Run n w0 S E H G :=
  fun a w ha hw => h a w ha hw.clear

/-! ### Code -/
theorem r_seq {x y : Code} (h : Run n w0 S E H (x.wp P (Exit.then (y.wp P Q) Q))) : Run n w0 S E H ((Code.seq x y).wp P Q) :=
  fun a w ha hw => wp_seq (h a w ha hw)
theorem r_skip (h : Run n w0 S E H (Q .normal)) : Run n w0 S E H (Code.skip.wp P Q) := fun a w ha hw => wp_skip (h a w ha hw)
theorem r_exit {id : Nat} (h : Run n w0 S E H (Q (.exit id))) : Run n w0 S E H ((Code.exit id).wp P Q) := fun a w ha hw => wp_exit (h a w ha hw)
theorem r_ret (h : Run n w0 S E H (Q .ret)) : Run n w0 S E H (Code.ret.wp P Q) := fun a w ha hw => wp_ret (h a w ha hw)
theorem r_block {id : Nat} {c : Code} (h : Run n w0 S E H (c.wp P (Exit.inBlock id Q))) : Run n w0 S E H ((Code.block id c).wp P Q) := fun a w ha hw => wp_block (h a w ha hw)
theorem r_region {id : Nat} {l : List Oper} (h : Run n w0 S E H (mix P none l.toArray (Q .normal) l)) : Run n w0 S E H ((Code.region id l.toArray false).wp P Q) :=
  fun a w ha hw => wp_region_mix (h a w ha hw)
theorem r_mixed {id : Nat} {l : List Oper} (hm : P.follows .mixedOrders = true) (hB : mixB {} l = true) (h : Run n w0 S E H (mix P (some {}) l.toArray (Q .normal) l)) : Run n w0 S E H ((Code.region id l.toArray true).wp P Q) :=
  fun a _ ha hw => wp_region_mixed hm hB (fun k hk => by cases hk) (h a _ ha hw.drew)
/-- a region in which reads and what acts or writes are not ordered -/
theorem r_mixedD {id : Nat} {l : List Oper} (D : Dr) (hm : P.follows .mixedOrders = true) (hB : mixB { rs := D.rs, fs := D.fs, acs := D.acs } l = true) (hg : ∀ w, Sat w0 S H w → ∀ k ∈ D.rb, k < w.heap.size)
    (h : Run n w0 S E H (mix P (some D) l.toArray (Q .normal) l)) : Run n w0 S E H ((Code.region id l.toArray true).wp P Q) :=
  fun a w ha hw => wp_region_mixed hm (mixB_flags hB) (hg w hw) (h a _ ha hw.drew)
/-- a region whose walk forks -/
theorem r_tree {id : Nat} {l : List Oper} (D : Dr) (t : Tree) (hm : P.follows .mixedOrders = true) (hs : (Region.noSelect l.toArray && edgesB l && treeB { rs := D.rs, fs := D.fs, acs := D.acs } l (waitBits l) t (Array.replicate l.length false) l.length) = true) (hg : ∀ w, Sat w0 S H w → ∀ k ∈ D.rb, k < w.heap.size)
    (h : Run n w0 S E H (mixT P D l.toArray (Q .normal) t)) : Run n w0 S E H ((Code.region id l.toArray true).wp P Q) :=
  fun a w ha hw => by
    simp only [Bool.and_eq_true] at hs
    exact wp_region_tree hm t hs.1.1 hs.1.2 (treeB_flags hs.2) (hg w hw) (h a _ ha hw.drew)
theorem r_take {D : Dr} {i : Nat} {t : Tree} {o : Oper} {ops : Array Oper} {K : Act → World → Prop} (ho : ops[i]? = some o) (h : Run n w0 S E H (mix P (some D) ops (mixT P D ops K t) [o])) : Run n w0 S E H (mixT P D ops K (.take i t)) :=
  fun a w ha hw => by
    have h2 := h a w ha hw
    simp only [mix] at h2
    simp only [mixT, stepI, ho]
    exact h2
theorem r_fork {D : Dr} {i j : Nat} {t u : Tree} {o o' : Oper} {ops : Array Oper} {K : Act → World → Prop} (ho : ops[i]? = some o) (ho' : ops[j]? = some o') (h : Run n w0 S E H (mix P (some D) ops (mixT P D ops K t) [o])) (h' : Run n w0 S E H (mix P (some D) ops (mixT P D ops K u) [o'])) :
    Run n w0 S E H (mixT P D ops K (.fork i t j u)) :=
  fun a w ha hw => by
    have h2 := h a w ha hw
    have h3 := h' a w ha hw
    simp only [mix] at h2 h3
    simp only [mixT, stepI, ho, ho']
    exact ⟨h2, h3⟩
theorem r_treeEnd {D : Dr} {ops : Array Oper} {K : Act → World → Prop} (h : Run n w0 S E H K) : Run n w0 S E H (mixT P D ops K .done) := h
theorem Sat.lt {w0 w : World} {S : List Nat} {H G : List Res} {b : Nat} {o : Obj} [h1 : HasBlk b H o G] (hw : Sat w0 S H w) : b < w.heap.size := (hw.look h1.pick).lt rfl
theorem Sat.ne {w0 w : World} {S : List Nat} {H G1 G2 : List Res} {b1 b2 : Nat} {o1 o2 : Obj} [h1 : HasBlk b1 H o1 G1] [h2 : HasBlk b2 G1 o2 G2] (hw : Sat w0 S H w) : b1 ≠ b2 := by
  have h := (hw.pick h1.pick).apart
  have hm : Res.blk b2 o2 ∈ G1 := h2.pick.perm.mem_iff.2 (.head _)
  intro e
  exact (List.pairwise_cons.1 h).1 _ hm b1 rfl (by rw [e]; rfl)
theorem r_cond {c : Operand} {x y : Code} {b : Bool} (hc : ev E c = some (.bool b)) (ht : b = true → Run n w0 S E H (x.wp P Q)) (hf : b = false → Run n w0 S E H (y.wp P Q)) :
    Run n w0 S E H ((Code.cond c x y).wp P Q) :=
  fun a w ha hw => wp_cond_split (ha.ev hc) (fun h => ht h a w ha hw) (fun h => hf h a w ha hw)
theorem r_cond_t {c : Operand} {x y : Code} (hc : ev E c = some (.bool true)) (h : Run n w0 S E H (x.wp P Q)) : Run n w0 S E H ((Code.cond c x y).wp P Q) :=
  fun a w ha hw => wp_cond_true (ha.ev hc) (h a w ha hw)
theorem r_cond_f {c : Operand} {x y : Code} (hc : ev E c = some (.bool false)) (h : Run n w0 S E H (y.wp P Q)) : Run n w0 S E H ((Code.cond c x y).wp P Q) :=
  fun a w ha hw => wp_cond_false (ha.ev hc) (h a w ha hw)
/-- what stands behind a piece of code is walked once, for each state that the piece may end in -/
theorem r_cut {ι : Type} (M : ι → List (Nat × Value) × List Res) {x : Code} {next : Act → World → Prop}
    (hx : Run n w0 S E H (x.wp P (Exit.then (fun a w => ∃ i, Holds n (M i).1 a ∧ Sat w0 S (M i).2 w) Q))) (hy : ∀ i, Run n w0 S (M i).1 (M i).2 next) :
    Run n w0 S E H (x.wp P (Exit.then next Q)) :=
  fun a w ha hw => Code.wp_mono (fun e a w q => by
    cases e <;> first | exact q | (obtain ⟨i, h1, h2⟩ := q; exact hy i a w h1 h2)) (hx a w ha hw)
theorem r_at {ι : Type} {M : ι → List (Nat × Value) × List Res} (i : ι) (he : lkAll E (M i).1) (hh : ∀ w, Sat w0 S H w → Sat w0 S (M i).2 w) :
    Run n w0 S E H (fun a w => ∃ i, Holds n (M i).1 a ∧ Sat w0 S (M i).2 w) :=
  fun _ w ha hw => ⟨i, ha.weak (lkAll_mem he), hh w hw⟩
theorem r_loop {ι : Type} (M : ι → List (Nat × Value) × List Res) (μ : ι → Nat) {c : Code} (i : ι) (he : lkAll E (M i).1) (hh : ∀ w, Sat w0 S H w → Sat w0 S (M i).2 w)
    (round : ∀ i, Run n w0 S (M i).1 (M i).2 (c.wp P (Exit.then (fun a w => ∃ j, μ j < μ i ∧ Holds n (M j).1 a ∧ Sat w0 S (M j).2 w) Q))) :
    Run n w0 S E H ((Code.loop c).wp P Q) := by
  intro a w ha hw
  have key : ∀ m (i : ι) a w, μ i < m → Holds n (M i).1 a → Sat w0 S (M i).2 w → Code.rounds P c Q m a w := by
    intro m
    induction m with
    | zero => intro i a w hm; exact absurd hm (Nat.not_lt_zero _)
    | succ m ih =>
      intro i a w hm ha hw
      rw [rounds_succ]
      refine Code.wp_mono (fun e a' w' q => ?_) (round i a w ha hw)
      cases e <;> first | exact q | skip
      obtain ⟨j, hlt, haj, hwj⟩ := q
      exact ih j a' w' (by omega) haj hwj
  exact wp_loop_rounds (μ i + 1) (key _ i a w (Nat.lt_succ_self _) (ha.weak (lkAll_mem he)) (hh w hw))
theorem r_again {ι : Type} {M : ι → List (Nat × Value) × List Res} {μ : ι → Nat} {i : ι} (j : ι) (hlt : μ j < μ i) (he : lkAll E (M j).1) (hh : ∀ w, Sat w0 S H w → Sat w0 S (M j).2 w) :
    Run n w0 S E H (fun a w => ∃ j, μ j < μ i ∧ Holds n (M j).1 a ∧ Sat w0 S (M j).2 w) :=
  fun _ w ha hw => ⟨j, hlt, ha.weak (lkAll_mem he), hh w hw⟩

/-! the ways out, through the layers -/
variable {nx : Act → World → Prop}
theorem r_tn (h : Run n w0 S E H nx) : Run n w0 S E H (Exit.then nx Q .normal) := h
theorem r_tr (h : Run n w0 S E H (Q .ret)) : Run n w0 S E H (Exit.then nx Q .ret) := h
theorem r_te {id : Nat} (h : Run n w0 S E H (Q (.exit id))) : Run n w0 S E H (Exit.then nx Q (.exit id)) := h
theorem r_bn {id : Nat} (h : Run n w0 S E H (Q .normal)) : Run n w0 S E H (Exit.inBlock id Q .normal) := h
theorem r_br {id : Nat} (h : Run n w0 S E H (Q .ret)) : Run n w0 S E H (Exit.inBlock id Q .ret) := h
theorem r_be {id : Nat} (h : Run n w0 S E H (Q .normal)) : Run n w0 S E H (Exit.inBlock id Q (.exit id)) := fun a w ha hw => by
  simp only [Exit.inBlock, if_true]; exact h a w ha hw
theorem r_bx {id id' : Nat} (hne : Nat.beq id' id = false) (h : Run n w0 S E H (Q (.exit id'))) : Run n w0 S E H (Exit.inBlock id Q (.exit id')) := fun a w ha hw => by
  have : ¬ id' = id := fun e => by subst e; simp at hne
  simp only [Exit.inBlock, if_neg this]; exact h a w ha hw

/-! ### Numbers -/
theorem w64 {z : Int} (h : -9223372036854775808 ≤ z ∧ z ≤ 9223372036854775807) : IntKind.i64.wrap z = z := IntWalk.i64_in z h

/-! ### Operations -/
variable {dr : Option Dr} {ops : Array Oper} {K : Act → World → Prop} {rest : List Oper} {d : Nat} {op : Op} {ty : TypeId} {pos : String} {after : Array Edge}

theorem r_nil {G : Act → World → Prop} (h : Run n w0 S E H G) : Run n w0 S E H (mix P dr ops G []) := h

theorem wanted_none {dst : Option Tmp} (f : Nat → Option Bool) : Region.wanted ⟨dst, op, ty, pos, after, none⟩ f = true := rfl

/-- in a region that draws: is it so of this operation -/
def OkKind (dr : Option Dr) (f : Kind → Bool) (op : Op) : Bool :=
  match dr with
  | none => true
  | some _ => f (kindOf op)
theorem r_value {v : Value} (hd : Nat.blt d n = true) (hkd : OkKind dr (fun k => k == .pure) op = true) (hrun : ∀ a, Holds n E a → ∀ w, (execOp a.eval ⟨some d, op, ty, pos, after, none⟩).run P w = .ok (.value v) w)
    (hk : Run n w0 S ((d, v) :: E) H (mix P dr ops K rest)) : Run n w0 S E H (mix P dr ops K (⟨some d, op, ty, pos, after, none⟩ :: rest)) := by
  intro a w ha hw
  have h2 := hk _ w (ha.put hd v) hw
  cases dr with
  | none =>
    simp only [mix, stepOp, wanted_none, if_true]
    rw [hrun a ha w]; exact h2
  | some D =>
    simp only [OkKind, beq_iff_eq] at hkd
    simp only [mix, stepOp, stepS, wanted_none, if_true, clsAt, hkd, byS]
    exact ⟨v, hrun a ha, h2⟩

/-- what is asked of a read whose order is open: an old block that no act turns -/
def OkRead (dr : Option Dr) (d b : Nat) : Prop :=
  match dr with
  | none => True
  | some D => D.rs.contains d = true → b ∈ D.rb ∧ b ∉ D.xb
/-- an operation that reads a block -/
theorem r_read {v : Value} {x : Operand} {p : Addr} (hd : Nat.blt d n = true) (hc : OkKind dr (fun k => k == .read) op = true) (ho : addrOf op = x) (hx : ev E x = some (.pointer (some p))) (hok : OkRead dr d p.block)
    (hrun : ∀ a, Holds n E a → ∀ w, Sat w0 S H w → ∀ w', w'.heap[p.block]? = w.heap[p.block]? → (execOp a.eval ⟨some d, op, ty, pos, after, none⟩).run P w' = .ok (.value v) w')
    (hk : Run n w0 S ((d, v) :: E) H (mix P dr ops K rest)) : Run n w0 S E H (mix P dr ops K (⟨some d, op, ty, pos, after, none⟩ :: rest)) := by
  intro a w ha hw
  have h2 := hk _ w (ha.put hd v) hw
  cases dr with
  | none =>
    simp only [mix, stepOp, wanted_none, if_true]
    rw [hrun a ha w hw w rfl]; exact h2
  | some D =>
    simp only [OkKind, beq_iff_eq] at hc
    simp only [mix, stepOp, stepS, wanted_none, if_true, clsAt, flagOf, hc, byS]
    have hb : blockOf (a.eval (addrOf op)) = some p.block := by rw [ho, ha.ev hx]; rfl
    exact ⟨v, fun w' h => hrun a ha w hw w' (h _ hb), fun hf => ⟨_, hb, hok hf⟩, h2⟩

/-- what is asked of an act whose order is open: it turns none but these old blocks -/
def OkAct (dr : Option Dr) (dst : Option Tmp) (X : List Nat) : Prop :=
  match dr with
  | none => True
  | some D => dstIn D.acs dst = true → ∀ k ∈ X, k ∈ D.xb
/-- an operation that acts -/
theorem r_act {dst : Option Tmp} {X : List Nat} (hc : OkKind dr (fun k => k == .act) op = true) (hok : OkAct dr dst X)
    (h : ∀ a w, Holds n E a → Sat w0 S H w → actUpon P ⟨dst, op, ty, pos, after, none⟩ (fun a w' => Keep X w w' ∧ mix P dr ops K rest a w') a ((execOp a.eval ⟨dst, op, ty, pos, after, none⟩).run P w)) :
    Run n w0 S E H (mix P dr ops K (⟨dst, op, ty, pos, after, none⟩ :: rest)) := by
  intro a w ha hw
  have h2 := h a w ha hw
  cases dr with
  | none =>
    simp only [mix, stepOp, wanted_none, if_true]
    exact actUpon_mono (fun _ _ h => h.2) h2
  | some D =>
    simp only [OkKind, beq_iff_eq] at hc
    simp only [mix, stepOp, stepS, wanted_none, if_true, clsAt, flagOf, hc, byS]
    exact actUpon_mono (fun _ _ h => ⟨h.1.1, fun hf => ⟨h.1.1, fun k hk hx => h.1.2 k hk fun hX => hx (hok hf k hX)⟩, h.2⟩) h2

/-- what is asked of a write whose order is open -/
def OkWrite (dr : Option Dr) (x : Operand) (b : Nat) : Prop :=
  match dr with
  | none => True
  | some D => slotIn D.fs x = true → b ∈ D.xb
/-- an operation that writes a block -/
theorem r_write {dst : Option Tmp} {x : Operand} {p : Addr} (hc : OkKind dr (fun k => k == .write) op = true) (ho : addrOf op = x) (hx : ev E x = some (.pointer (some p))) (hok : OkWrite dr x p.block)
    (h : ∀ a w, Holds n E a → Sat w0 S H w → ∃ w', (execOp a.eval ⟨dst, op, ty, pos, after, none⟩).run P w = .ok .skip w' ∧ w'.heap.size = w.heap.size ∧ (∀ k, k ≠ p.block → w'.heap[k]? = w.heap[k]?) ∧ mix P dr ops K rest (a.put dst undef) w') :
    Run n w0 S E H (mix P dr ops K (⟨dst, op, ty, pos, after, none⟩ :: rest)) := by
  intro a w ha hw
  obtain ⟨w', h1, h2, h3, h4⟩ := h a w ha hw
  cases dr with
  | none =>
    simp only [mix, stepOp, wanted_none, if_true, h1]
    exact h4
  | some D =>
    simp only [OkKind, beq_iff_eq] at hc
    simp only [mix, stepOp, stepS, wanted_none, if_true, clsAt, flagOf, hc, byS]
    have hb : blockOf (a.eval (addrOf op)) = some p.block := by rw [ho, ha.ev hx]; rfl
    exact ⟨w', h1, h2, fun k hk => h3 k fun e => hk (by rw [hb, e]), fun hf => ⟨_, hb, hok (by rw [← ho]; exact hf)⟩, h4⟩

/-- a guard that says no -/
theorem r_pass {j t : Nat} {want b : Bool} (hj : (ops[j]?).bind (·.dst) = some t) (hb : lk E t = some (.bool b)) (hne : (b == want) = false) (hd : Nat.blt d n = true)
    (hk : Run n w0 S ((d, undef) :: E) H (mix P dr ops K rest)) : Run n w0 S E H (mix P dr ops K (⟨some d, op, ty, pos, after, some (j, want)⟩ :: rest)) := by
  intro a w ha hw
  have hwn : Region.wanted ⟨some d, op, ty, pos, after, some (j, want)⟩ (yielded ops a.tmps) = false := by
    simp [Region.wanted, yielded, hj, ha.val t _ hb, hne]
  have h2 := hk _ w (ha.put hd undef) hw
  cases dr <;> simp only [mix, stepOp, stepS, hwn, Bool.false_eq_true, if_false] <;> exact h2
/-- a guard that says yes -/
theorem r_go {dst : Option Tmp} {j t : Nat} {want : Bool} (hj : (ops[j]?).bind (·.dst) = some t) (hb : lk E t = some (.bool want))
    (hk : Run n w0 S E H (mix P dr ops K (⟨dst, op, ty, pos, after, none⟩ :: rest))) : Run n w0 S E H (mix P dr ops K (⟨dst, op, ty, pos, after, some (j, want)⟩ :: rest)) := by
  intro a w ha hw
  have hwn : Region.wanted ⟨dst, op, ty, pos, after, some (j, want)⟩ (yielded ops a.tmps) = true := by
    simp [Region.wanted, yielded, hj, ha.val t _ hb]
  have h2 := hk a w ha hw
  cases dr with
  | none =>
    simp only [mix, stepOp, hwn, wanted_none, if_true] at h2 ⊢
    exact h2
  | some D =>
    simp only [mix, stepOp, stepS, hwn, wanted_none, if_true, clsAt, flagOf] at h2 ⊢
    exact h2

/-- a slot's Bool is split on -/
theorem r_split {G : Act → World → Prop} (t : Nat) {p : Bool} (hx : lk E t = some (.bool p)) (ht : p = true → Run n w0 S ((t, .bool true) :: E) H G) (hf : p = false → Run n w0 S ((t, .bool false) :: E) H G) :
    Run n w0 S E H G := by
  have h : ∀ b, p = b → Run n w0 S ((t, .bool b) :: E) H G → Run n w0 S E H G := fun b hb hr a w ha hw =>
    hr a w ⟨ha.size, ha.defers, fun t' v hv => by
      unfold lk at hv
      cases hbq : Nat.beq t t'
      · rw [hbq] at hv; exact ha.val t' v hv
      · rw [hbq] at hv
        have := Nat.eq_of_beq_eq_true hbq
        subst this
        simp only [cond_true, Option.some.injEq] at hv
        subst hv; subst hb
        exact ha.val t _ hx⟩ hw
  cases p
  · exact h false rfl (hf rfl)
  · exact h true rfl (ht rfl)
theorem r_is {G : Act → World → Prop} (t : Nat) {p : Bool} (b : Bool) (hx : lk E t = some (.bool p)) (hp : p = b) (h : Run n w0 S ((t, .bool b) :: E) H G) : Run n w0 S E H G := by
  cases b
  · exact r_split t hx (fun ht => by rw [hp] at ht; cases ht) (fun _ => h)
  · exact r_split t hx (fun _ => h) (fun hf => by rw [hp] at hf; cases hf)

section pure
variable {x y z : Operand}
theorem r_move {v : Value} (hd : Nat.blt d n = true) (hx : ev E x = some v) (hk : Run n w0 S ((d, v) :: E) H (mix P dr ops K rest)) : Run n w0 S E H (mix P dr ops K (⟨some d, .move x, ty, pos, after, none⟩ :: rest)) :=
  r_value hd (by cases dr <;> rfl) (fun a ha w => by simp [execOp, ha.ev hx]) hk
theorem r_assign {v : Value} (hd : Nat.blt d n = true) (hx : ev E x = some v) (hk : Run n w0 S ((d, v) :: E) H (mix P dr ops K rest)) : Run n w0 S E H (mix P dr ops K (⟨some d, .assign x, ty, pos, after, none⟩ :: rest)) :=
  r_value hd (by cases dr <;> rfl) (fun a ha w => by simp [execOp, ha.ev hx]) hk
theorem r_pick_t {v : Value} (hd : Nat.blt d n = true) (hx : ev E x = some (.bool true)) (hy : ev E y = some v) (hk : Run n w0 S ((d, v) :: E) H (mix P dr ops K rest)) :
    Run n w0 S E H (mix P dr ops K (⟨some d, .pick x y z, ty, pos, after, none⟩ :: rest)) :=
  r_value hd (by cases dr <;> rfl) (fun a ha w => by simp [execOp, ha.ev hx, ha.ev hy, asBool]) hk
theorem r_pick_f {v : Value} (hd : Nat.blt d n = true) (hx : ev E x = some (.bool false)) (hz : ev E z = some v) (hk : Run n w0 S ((d, v) :: E) H (mix P dr ops K rest)) :
    Run n w0 S E H (mix P dr ops K (⟨some d, .pick x y z, ty, pos, after, none⟩ :: rest)) :=
  r_value hd (by cases dr <;> rfl) (fun a ha w => by simp [execOp, ha.ev hx, ha.ev hz, asBool]) hk
theorem r_nilCheck {p : Addr} (hd : Nat.blt d n = true) (hx : ev E x = some (.pointer (some p))) (hk : Run n w0 S ((d, .pointer (some p)) :: E) H (mix P dr ops K rest)) :
    Run n w0 S E H (mix P dr ops K (⟨some d, .nilCheck x, ty, pos, after, none⟩ :: rest)) :=
  r_value hd (by cases dr <;> rfl) (fun a ha w => by simp [execOp, ha.ev hx]) hk
theorem r_not {b r : Bool} (hd : Nat.blt d n = true) (hx : ev E x = some (.bool b)) (hr : (!b) = r) {t : TypeId} (hk : Run n w0 S ((d, .bool r) :: E) H (mix P dr ops K rest)) :
    Run n w0 S E H (mix P dr ops K (⟨some d, .unOp .not t x, ty, pos, after, none⟩ :: rest)) :=
  r_value hd (by cases dr <;> rfl) (fun a ha w => by simp [execOp, ha.ev hx, Op.unary, hr]) hk
theorem r_neg {k : IntKind} {a r : Int} (hd : Nat.blt d n = true) (hx : ev E x = some (.int k a)) (hr : k.wrap (0 - a) = r) {t : TypeId} (hk : Run n w0 S ((d, .int k r) :: E) H (mix P dr ops K rest)) :
    Run n w0 S E H (mix P dr ops K (⟨some d, .unOp .neg t x, ty, pos, after, none⟩ :: rest)) :=
  r_value hd (by cases dr <;> rfl) (fun a ha w => by simp only [execOp, ha.ev hx, Op.unary, Op.intArith, hr]; rfl) hk

variable {k : IntKind} {a b r : Int} {t t' : TypeId}
theorem r_bin {op : BinOp} {u v : Value} {res : Value} (hd : Nat.blt d n = true) (hx : ev E x = some u) (hy : ev E y = some v) (hg : ∀ w, (eqGuard op t x y u v).run P w = .ok () w)
    (hr : ∀ w, (binOp op t u v).run P w = .ok res w) (hk : Run n w0 S ((d, res) :: E) H (mix P dr ops K rest)) :
    Run n w0 S E H (mix P dr ops K (⟨some d, .binOp op t x y t', ty, pos, after, none⟩ :: rest)) :=
  r_value hd (by cases dr <;> rfl) (fun a ha w => by simp [execOp, ha.ev hx, ha.ev hy, Sem.run_bind, hg w, hr w]) hk
theorem guard_int (op : BinOp) (t : TypeId) (x y : Operand) (k k' : IntKind) (a b : Int) (w : World) : (eqGuard op t x y (.int k a) (.int k' b)).run P w = .ok () w := by
  cases op <;> simp [eqGuard]
theorem r_add (hd : Nat.blt d n = true) (hx : ev E x = some (.int k a)) (hy : ev E y = some (.int k b)) (hr : k.wrap (a + b) = r) (hk : Run n w0 S ((d, .int k r) :: E) H (mix P dr ops K rest)) :
    Run n w0 S E H (mix P dr ops K (⟨some d, .binOp .add t x y t', ty, pos, after, none⟩ :: rest)) :=
  r_bin hd hx hy (guard_int _ _ _ _ _ _ _ _) (fun w => by simp only [binOp, ne_eq, not_true, if_false, Op.intArith, hr]; rfl) hk
theorem r_sub (hd : Nat.blt d n = true) (hx : ev E x = some (.int k a)) (hy : ev E y = some (.int k b)) (hr : k.wrap (a - b) = r) (hk : Run n w0 S ((d, .int k r) :: E) H (mix P dr ops K rest)) :
    Run n w0 S E H (mix P dr ops K (⟨some d, .binOp .sub t x y t', ty, pos, after, none⟩ :: rest)) :=
  r_bin hd hx hy (guard_int _ _ _ _ _ _ _ _) (fun w => by simp only [binOp, ne_eq, not_true, if_false, Op.intArith, hr]; rfl) hk
theorem r_mul (hd : Nat.blt d n = true) (hx : ev E x = some (.int k a)) (hy : ev E y = some (.int k b)) (hr : k.wrap (a * b) = r) (hk : Run n w0 S ((d, .int k r) :: E) H (mix P dr ops K rest)) :
    Run n w0 S E H (mix P dr ops K (⟨some d, .binOp .mul t x y t', ty, pos, after, none⟩ :: rest)) :=
  r_bin hd hx hy (guard_int _ _ _ _ _ _ _ _) (fun w => by simp only [binOp, ne_eq, not_true, if_false, Op.intArith, hr]; rfl) hk
theorem r_quo (hd : Nat.blt d n = true) (hx : ev E x = some (.int k a)) (hy : ev E y = some (.int k b)) (hb : b ≠ 0) (hr : k.wrap (a.tdiv b) = r) (hk : Run n w0 S ((d, .int k r) :: E) H (mix P dr ops K rest)) :
    Run n w0 S E H (mix P dr ops K (⟨some d, .binOp .quo t x y t', ty, pos, after, none⟩ :: rest)) :=
  r_bin hd hx hy (guard_int _ _ _ _ _ _ _ _) (fun w => by simp only [binOp, ne_eq, not_true, if_false, Op.intDiv, hb, hr]; rfl) hk
theorem r_rem (hd : Nat.blt d n = true) (hx : ev E x = some (.int k a)) (hy : ev E y = some (.int k b)) (hb : b ≠ 0) (hr : a.tmod b = r) (hk : Run n w0 S ((d, .int k r) :: E) H (mix P dr ops K rest)) :
    Run n w0 S E H (mix P dr ops K (⟨some d, .binOp .rem t x y t', ty, pos, after, none⟩ :: rest)) :=
  r_bin hd hx hy (guard_int _ _ _ _ _ _ _ _) (fun w => by simp only [binOp, ne_eq, not_true, if_false, Op.intDiv, hb, hr]; rfl) hk
variable {p : Bool}
theorem r_eql (hd : Nat.blt d n = true) (hx : ev E x = some (.int k a)) (hy : ev E y = some (.int k b)) (hr : decide (a = b) = p) (hk : Run n w0 S ((d, .bool p) :: E) H (mix P dr ops K rest)) :
    Run n w0 S E H (mix P dr ops K (⟨some d, .binOp .eql t x y t', ty, pos, after, none⟩ :: rest)) :=
  r_bin hd hx hy (guard_int _ _ _ _ _ _ _ _) (fun w => by
    have e : (a == b) = p := by rw [← hr]; rfl
    simp only [binOp, ne_eq, not_true, if_false, Op.intCmp, e]; rfl) hk
theorem r_neq (hd : Nat.blt d n = true) (hx : ev E x = some (.int k a)) (hy : ev E y = some (.int k b)) (hr : decide (a ≠ b) = p) (hk : Run n w0 S ((d, .bool p) :: E) H (mix P dr ops K rest)) :
    Run n w0 S E H (mix P dr ops K (⟨some d, .binOp .neq t x y t', ty, pos, after, none⟩ :: rest)) :=
  r_bin hd hx hy (guard_int _ _ _ _ _ _ _ _) (fun w => by
    have e : (a != b) = p := by rw [← hr]; by_cases h : a = b <;> simp [h]
    simp only [binOp, ne_eq, not_true, if_false, Op.intCmp, e]; rfl) hk
theorem r_lss (hd : Nat.blt d n = true) (hx : ev E x = some (.int k a)) (hy : ev E y = some (.int k b)) (hr : decide (a < b) = p) (hk : Run n w0 S ((d, .bool p) :: E) H (mix P dr ops K rest)) :
    Run n w0 S E H (mix P dr ops K (⟨some d, .binOp .lss t x y t', ty, pos, after, none⟩ :: rest)) :=
  r_bin hd hx hy (guard_int _ _ _ _ _ _ _ _) (fun w => by simp only [binOp, ne_eq, not_true, if_false, Op.intCmp, hr]; rfl) hk
theorem r_leq (hd : Nat.blt d n = true) (hx : ev E x = some (.int k a)) (hy : ev E y = some (.int k b)) (hr : decide (a ≤ b) = p) (hk : Run n w0 S ((d, .bool p) :: E) H (mix P dr ops K rest)) :
    Run n w0 S E H (mix P dr ops K (⟨some d, .binOp .leq t x y t', ty, pos, after, none⟩ :: rest)) :=
  r_bin hd hx hy (guard_int _ _ _ _ _ _ _ _) (fun w => by simp only [binOp, ne_eq, not_true, if_false, Op.intCmp, hr]; rfl) hk
theorem r_gtr (hd : Nat.blt d n = true) (hx : ev E x = some (.int k a)) (hy : ev E y = some (.int k b)) (hr : decide (b < a) = p) (hk : Run n w0 S ((d, .bool p) :: E) H (mix P dr ops K rest)) :
    Run n w0 S E H (mix P dr ops K (⟨some d, .binOp .gtr t x y t', ty, pos, after, none⟩ :: rest)) :=
  r_bin hd hx hy (guard_int _ _ _ _ _ _ _ _) (fun w => by simp only [binOp, ne_eq, not_true, if_false, Op.intCmp, GT.gt, hr]; rfl) hk
theorem r_geq (hd : Nat.blt d n = true) (hx : ev E x = some (.int k a)) (hy : ev E y = some (.int k b)) (hr : decide (b ≤ a) = p) (hk : Run n w0 S ((d, .bool p) :: E) H (mix P dr ops K rest)) :
    Run n w0 S E H (mix P dr ops K (⟨some d, .binOp .geq t x y t', ty, pos, after, none⟩ :: rest)) :=
  r_bin hd hx hy (guard_int _ _ _ _ _ _ _ _) (fun w => by simp only [binOp, ne_eq, not_true, if_false, Op.intCmp, GE.ge, hr]; rfl) hk
theorem addr_add (b o m : Nat) : (⟨b, o, none⟩ : Addr).add m = ⟨b, o + m, none⟩ := by
  unfold Addr.add
  split
  · rename_i h; subst h; rfl
  · rfl
def fieldOff (P : Program) (s : TypeId) (f : Nat) : Option Nat :=
  match P.underlying s with
  | some (.struct fs) => (fs[f]?).bind fun f => (match P.info? f.type with | some i => if i.size = 0 then none else some f.offset | none => none)
  | _ => none
theorem r_fieldAddr {s : TypeId} {f : Nat} {bl o off o' : Nat} (hd : Nat.blt d n = true) (hx : ev E x = some (.pointer (some ⟨bl, o, none⟩))) (hs : fieldOff P s f = some off) (ho : o + off = o')
    (hk : Run n w0 S ((d, .pointer (some ⟨bl, o', none⟩)) :: E) H (mix P dr ops K rest)) : Run n w0 S E H (mix P dr ops K (⟨some d, .fieldAddr s x f, ty, pos, after, none⟩ :: rest)) :=
  r_value hd (by cases dr <;> rfl) (fun a ha w => by
    unfold fieldOff at hs
    subst ho
    cases hu : P.underlying s with
    | none => simp [hu] at hs
    | some ds =>
      cases ds <;> simp only [hu] at hs <;> try (cases hs; done)
      rename_i fs
      obtain ⟨fd, hf, hs⟩ := Option.bind_eq_some_iff.1 hs
      cases hi : P.info? fd.type with
      | none => simp [hi] at hs
      | some i =>
        simp only [hi] at hs
        split at hs
        · cases hs
        · rename_i h0
          simp only [Option.some.injEq] at hs
          simp [execOp, ha.ev hx, Instr.fieldAt, Sem.run_bind, run_underlying hu, hf, Instr.sureAddr, fieldPlace, sizeOf, typeInfo, hi, h0, hs, addr_add]) hk
theorem r_indexArr {s : TypeId} {bl o o' len sz : Nat} {i : Int} {e : TypeId} (hd : Nat.blt d n = true) (hx : ev E x = some (.pointer (some ⟨bl, o, none⟩))) (hy : ev E y = some (.int k i))
    (hs : P.underlying s = some (.array len e)) (hz : (P.info? e).map (·.size) = some sz) (h0 : 0 ≤ i) (h1 : i < len) (ho : o + i.toNat * sz = o')
    (hk : Run n w0 S ((d, .pointer (some ⟨bl, o', none⟩)) :: E) H (mix P dr ops K rest)) : Run n w0 S E H (mix P dr ops K (⟨some d, .indexAddr s x y, ty, pos, after, none⟩ :: rest)) :=
  r_value hd (by cases dr <;> rfl) (fun a ha w => by
    obtain ⟨inf, hi, hsz⟩ := Option.map_eq_some_iff.1 hz
    subst ho
    simp [execOp, ha.ev hx, ha.ev hy, Instr.indexAt, asIntOf, Sem.run_bind, run_underlying hs, Instr.sureAddr, h0, h1, sizeOf, typeInfo, hi, hsz, addr_add]) hk
theorem r_indexSl {s : TypeId} {bl o o' len cap sz : Nat} {i : Int} {e : TypeId} (hd : Nat.blt d n = true) (hx : ev E x = some (.slice (some ⟨bl, o, none⟩) len cap)) (hy : ev E y = some (.int k i))
    (hs : P.underlying s = some (.slice e)) (hz : (P.info? e).map (·.size) = some sz) (h0 : 0 ≤ i) (h1 : i < len) (ho : o + i.toNat * sz = o')
    (hk : Run n w0 S ((d, .pointer (some ⟨bl, o', none⟩)) :: E) H (mix P dr ops K rest)) : Run n w0 S E H (mix P dr ops K (⟨some d, .indexAddr s x y, ty, pos, after, none⟩ :: rest)) :=
  r_value hd (by cases dr <;> rfl) (fun a ha w => by
    obtain ⟨inf, hi, hsz⟩ := Option.map_eq_some_iff.1 hz
    subst ho
    simp [execOp, ha.ev hx, ha.ev hy, Instr.indexAt, asIntOf, Sem.run_bind, run_underlying hs, h0, h1, sizeOf, typeInfo, hi, hsz, addr_add]) hk
theorem r_extract {vs : Array Value} {i : Nat} {v : Value} (hd : Nat.blt d n = true) (hx : ev E x = some (.tuple vs)) (hv : vs[i]? = some v) (hk : Run n w0 S ((d, v) :: E) H (mix P dr ops K rest)) :
    Run n w0 S E H (mix P dr ops K (⟨some d, .extract x i, ty, pos, after, none⟩ :: rest)) :=
  r_value hd (by cases dr <;> rfl) (fun a ha w => by simp [execOp, ha.ev hx, Instr.extract, hv]) hk
theorem r_makeFunc {fn : Fn} {first captured : List Operand} {fs cs : List Value} (hd : Nat.blt d n = true) (hf : evs E first = some fs) (hc : evs E captured = some cs)
    (hk : Run n w0 S ((d, .func fn fs.toArray cs.toArray) :: E) H (mix P dr ops K rest)) : Run n w0 S E H (mix P dr ops K (⟨some d, .makeFunc fn first.toArray captured.toArray, ty, pos, after, none⟩ :: rest)) :=
  r_value hd (by cases dr <;> rfl) (fun a ha w => by simp [execOp, Instr.makeFunc, ha.evs hf, ha.evs hc]) hk
end pure
end
end Go.Proofs.YtghjbnbkfohmlaaDoor
