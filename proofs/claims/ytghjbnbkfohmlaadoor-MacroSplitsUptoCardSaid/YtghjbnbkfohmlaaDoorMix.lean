/-
  Regions of operations walked in the order of the text ('mix'), and theorems that such walks serve every order that a region may draw: each two operations that are not ordered by edges commute ('mixB', a Bool over the operations), or the walk forks ('treeB'). No program in sight.
-/
import Derived.WalkKit
import Derived.Deep.Quiet
import Derived.KernelRfl
namespace Go.Proofs.YtghjbnbkfohmlaaDoor
open Go Go.RowKit
set_option linter.unusedVariables false
set_option linter.unusedSimpArgs false

inductive Kind where
  | pure | read | write | act
  deriving DecidableEq

def kindOf : Op → Kind
  | .move _ | .assign _ | .pick .. | .nilCheck _ | .binOp .. | .unOp .. | .fieldAddr .. | .field .. | .indexAddr .. | .index .. | .extract .. | .makeFunc .. | .build .. | .slice .. | .makeInterface .. | .convert .. => .pure
  | .call { callee := .builtin .len, .. } | .call { callee := .builtin .min, .. } | .call { callee := .builtin .max, .. } => .pure
  | .load .. => .read
  | .store .. => .write
  | _ => .act

/-- what is known of a region that draws its order: the old blocks that an operation which acts may turn (xb), the blocks that are read while an order is open (rb); the slots of the reads (rs), of the writes' addresses (fs) and of the acts (acs) of which this is asked -/
structure Dr where
  xb : List Nat := []
  rb : List Nat := []
  rs : List Nat := []
  fs : List Nat := []
  acs : List Nat := []

/-- an operation's kind, with the block that it reads or writes, and whether it is one of those of which more is asked -/
inductive Cls where
  | pure | read (b : Option Nat) (fl : Bool) | write (b : Option Nat) (fl : Bool) | act (fl : Bool)

def blockOf : Value → Option Nat
  | .pointer (some a) => some a.block
  | _ => none
def addrOf : Op → Operand
  | .load _ x => x
  | .store _ x _ => x
  | _ => .const .nilFunc
def slotIn (l : List Nat) : Operand → Bool
  | .tmp t => l.contains t
  | _ => false
def dstIn (l : List Nat) : Option Tmp → Bool
  | some t => l.contains t
  | none => false
def flagOf (D : Dr) (o : Oper) : Bool :=
  match kindOf o.op with
  | .pure => false
  | .read => dstIn D.rs o.dst
  | .write => slotIn D.fs (addrOf o.op)
  | .act => dstIn D.acs o.dst
def clsAt (D : Dr) (ρ : Operand → Value) (o : Oper) : Cls :=
  match kindOf o.op with
  | .pure => .pure
  | .read => .read (blockOf (ρ (addrOf o.op))) (flagOf D o)
  | .write => .write (blockOf (ρ (addrOf o.op))) (flagOf D o)
  | .act => .act (flagOf D o)

/-- what an operation that acts may come to -/
def actUpon (P : Program) (o : Oper) (K : Act → World → Prop) (a : Act) : Result Next → Prop
  | .ok (.value v) w' => K (a.put o.dst v) w'
  | .ok .skip w' => K (a.put o.dst undef) w'
  | .ok (.enter f args) w' => Calls P f args w' fun e w'' => ∃ v, e = .returned v ∧ K (a.put o.dst v) w''
  | _ => False

/-- old blocks stay, but those in X -/
def Keep (X : List Nat) (w w' : World) : Prop := w.heap.size ≤ w'.heap.size ∧ ∀ k, k < w.heap.size → k ∉ X → w'.heap[k]? = w.heap[k]?

def byS (P : Program) (D : Dr) (o : Oper) (K : Act → World → Prop) (s : Sem Next) (a : Act) (w : World) : Cls → Prop
  | .pure => ∃ v, (∀ w, s.run P w = .ok (.value v) w) ∧ K (a.put o.dst v) w
  | .read b fl => ∃ v, (∀ w', (∀ k, b = some k → w'.heap[k]? = w.heap[k]?) → s.run P w' = .ok (.value v) w') ∧ (fl = true → ∃ k, b = some k ∧ k ∈ D.rb ∧ k ∉ D.xb) ∧ K (a.put o.dst v) w
  | .write b fl => ∃ w', s.run P w = .ok .skip w' ∧ w'.heap.size = w.heap.size ∧ (∀ k, b ≠ some k → w'.heap[k]? = w.heap[k]?) ∧ (fl = true → ∃ k, b = some k ∧ k ∈ D.xb) ∧ K (a.put o.dst undef) w'
  | .act fl => actUpon P o (fun a w' => w.heap.size ≤ w'.heap.size ∧ (fl = true → Keep D.xb w w') ∧ K a w') a (s.run P w)

def stepS (P : Program) (D : Dr) (o : Oper) (K : Act → World → Prop) (wn : Bool) (s : Sem Next) (c : Cls) (a : Act) (w : World) : Prop :=
  if wn then byS P D o K s a w c else K (a.put o.dst undef) w

/-- one operation; 'dr': whether the region draws its order -/
def stepOp (P : Program) (dr : Option Dr) (ops : Array Oper) (o : Oper) (K : Act → World → Prop) (a : Act) (w : World) : Prop :=
  match dr with
  | some D => stepS P D o K (Region.wanted o (yielded ops a.tmps)) (execOp a.eval o) (clsAt D a.eval o) a w
  | none => if Region.wanted o (yielded ops a.tmps) then actUpon P o K a ((execOp a.eval o).run P w) else K (a.put o.dst undef) w

def mix (P : Program) (dr : Option Dr) (ops : Array Oper) (K : Act → World → Prop) : List Oper → Act → World → Prop
  | [], a, w => K a w
  | o :: l, a, w => stepOp P dr ops o (mix P dr ops K l) a w

section
variable {P : Program} {dr : Option Dr} {D : Dr} {ops : Array Oper}

theorem actUpon_mono {o : Oper} {K K' : Act → World → Prop} {a : Act} {r : Result Next} (h : ∀ v w, K (a.put o.dst v) w → K' (a.put o.dst v) w) (hh : actUpon P o K a r) : actUpon P o K' a r := by
  cases r with
  | ok n w' =>
    cases n <;> simp only [actUpon] at hh ⊢
    case value v => exact h _ _ hh
    case skip => exact h _ _ hh
    case enter f args => exact hh.mono fun e w'' ⟨v, he, hk⟩ => ⟨v, he, h _ _ hk⟩
  | halt x w' => simp only [actUpon] at hh

/-- a step hands on the frame with one slot put, and a world that has not shrunk -/
theorem stepS_mono {o : Oper} {K K' : Act → World → Prop} {wn : Bool} {s : Sem Next} {c : Cls} {a : Act} {w : World} (h : ∀ v w', w.heap.size ≤ w'.heap.size → K (a.put o.dst v) w' → K' (a.put o.dst v) w')
    (hh : stepS P D o K wn s c a w) : stepS P D o K' wn s c a w := by
  unfold stepS at *
  cases wn
  · exact h _ _ (Nat.le_refl _) hh
  · cases c <;> simp only [byS, if_true] at hh ⊢
    · obtain ⟨v, h1, h2⟩ := hh; exact ⟨v, h1, h _ _ (Nat.le_refl _) h2⟩
    · obtain ⟨v, h1, h2, h3⟩ := hh; exact ⟨v, h1, h2, h _ _ (Nat.le_refl _) h3⟩
    · obtain ⟨w', h1, h2, h3, h4, h5⟩ := hh; exact ⟨w', h1, h2, h3, h4, h _ _ (Nat.le_of_eq h2.symm) h5⟩
    · exact actUpon_mono (fun v w' ⟨h1, h2, h3⟩ => ⟨h1, h2, h _ _ h1 h3⟩) hh

theorem stepOp_mono {o : Oper} {K K' : Act → World → Prop} {a : Act} {w : World} (h : ∀ a w, K a w → K' a w) (hh : stepOp P dr ops o K a w) : stepOp P dr ops o K' a w := by
  cases dr with
  | some D => exact stepS_mono (fun _ _ _ => h _ _) hh
  | none =>
    simp only [stepOp] at hh ⊢
    split
    · rename_i hw; rw [if_pos hw] at hh; exact actUpon_mono (fun _ _ => h _ _) hh
    · rename_i hw; rw [if_neg hw] at hh; exact h _ _ hh

theorem wp_actUpon {o : Oper} {K : Act → World → Prop} {Q : Exit → Act → World → Prop} {a : Act} {w : World} (h2 : actUpon P o K a ((execOp a.eval o).run P w)) : o.wp P a w K Q := by
  unfold Oper.wp
  generalize (execOp a.eval o).run P w = r at h2
  cases r with
  | ok n w' =>
    cases n <;> simp only [actUpon] at h2 <;> simp only [Oper.upon]
    case value v => exact h2
    case skip => exact h2
    case enter f args => exact h2.mono fun e w'' ⟨v, he, hk⟩ => by subst he; exact hk
  | halt x w' => simp only [actUpon] at h2

theorem stepOp_wp {o : Oper} {K : Act → World → Prop} {Q : Exit → Act → World → Prop} {a : Act} {w : World} (hh : stepOp P dr ops o K a w) :
    if Region.wanted o (yielded ops a.tmps) then o.wp P a w K Q else K (a.put o.dst undef) w := by
  cases dr with
  | none =>
    simp only [stepOp] at hh
    split
    · rename_i hw; rw [if_pos hw] at hh; exact wp_actUpon hh
    · rename_i hw; rw [if_neg hw] at hh; exact hh
  | some D =>
    simp only [stepOp, stepS] at hh
    cases hw : Region.wanted o (yielded ops a.tmps) <;> simp only [hw, if_true, Bool.false_eq_true, if_false] at hh ⊢
    · exact hh
    · refine wp_actUpon ?_
      generalize clsAt D a.eval o = c at hh
      cases c <;> simp only [byS] at hh
      · obtain ⟨v, h1, h2⟩ := hh; rw [h1 w]; exact h2
      · obtain ⟨v, h1, _, h2⟩ := hh; rw [h1 w (fun _ _ => rfl)]; exact h2
      · obtain ⟨w', h1, _, _, _, h2⟩ := hh; rw [h1]; exact h2
      · exact actUpon_mono (fun _ _ h => h.2.2) hh

theorem wpList_of_mix {Q : Exit → Act → World → Prop} : ∀ (l : List Oper) (a : Act) (w : World), mix P dr ops (Q .normal) l a w → wpList P ops Q l a w
  | [], _, _, h => h
  | o :: l, a, w, h => by
    have h2 := stepOp_wp (Q := Q) (stepOp_mono (fun a w h => wpList_of_mix l a w h) h)
    unfold wpList
    split
    · rename_i hw; rw [if_pos hw] at h2; exact .inl h2
    · rename_i hw; rw [if_neg hw] at h2; exact h2

theorem wp_region_mix {id : Nat} {l : List Oper} {Q : Exit → Act → World → Prop} {a : Act} {w : World} (h : mix P none l.toArray (Q .normal) l a w) : (Code.region id l.toArray false).wp P Q a w :=
  wp_region_lit (wpList_of_mix l a w h)

/-! ### Every order -/
/-- which two operations commute: by their kinds, and by what is asked of them -/
def kcom (D : Dr) (x y : Oper) : Bool :=
  match kindOf x.op, kindOf y.op with
  | .pure, _ | _, .pure | .read, .read => true
  | .read, .act | .read, .write | .act, .read | .write, .read => flagOf D x && flagOf D y
  | _, _ => false
def com (D : Dr) (ops : Array Oper) (x y : Oper) : Bool := x.apart ops y && kcom D x y

theorem calls_some {f : FuncId} {args : Array Value} {w : World} {R : Ending → World → Prop} (h : Calls P f args w R) : ∃ e w', R e w' :=
  let ⟨e, w', _, r, _⟩ := h []
  ⟨e, w', r⟩

/-- which classes commute -/
def ClsCom : Cls → Cls → Prop
  | .pure, _ | _, .pure | .read .., .read .. => True
  | .read _ f, .write _ g | .write _ f, .read _ g | .read _ f, .act g | .act f, .read _ g => f = true ∧ g = true
  | _, _ => False

theorem clsCom_of {ρ : Operand → Value} {x y : Oper} (h : kcom D x y = true) : ClsCom (clsAt D ρ x) (clsAt D ρ y) := by
  unfold kcom at h
  unfold clsAt
  cases hx : kindOf x.op <;> cases hy : kindOf y.op <;> simp_all [ClsCom]

def Good (D : Dr) (w : World) : Prop := ∀ k ∈ D.rb, k < w.heap.size
theorem Good.mono {w w' : World} (h : Good D w) (hs : w.heap.size ≤ w'.heap.size) : Good D w' := fun k hk => Nat.lt_of_lt_of_le (h k hk) hs

theorem stepS_swap {x y : Oper} {K : Act → World → Prop} {wx wy : Bool} {sx sy : Sem Next} {cx cy : Cls} {a : Act} {w : World} (hgood : Good D w) (hcl : ClsCom cx cy)
    (pc : ∀ (a : Act) v u, (a.put x.dst v).put y.dst u = (a.put y.dst u).put x.dst v)
    (h : stepS P D x (stepS P D y K wy sy cy) wx sx cx a w) : stepS P D y (stepS P D x K wx sx cx) wy sy cy a w := by
  unfold stepS at h ⊢
  cases wx <;> cases wy <;> simp only [if_true, Bool.false_eq_true, if_false] at h ⊢
  · rw [← pc]; exact h
  · -- x is passed over
    cases cy <;> simp only [byS] at h ⊢
    · obtain ⟨v, hv, hk⟩ := h; exact ⟨v, hv, by rw [← pc]; exact hk⟩
    · obtain ⟨v, hv, hf, hk⟩ := h; exact ⟨v, hv, hf, by rw [← pc]; exact hk⟩
    · obtain ⟨w', hv, hz, hs, hf, hk⟩ := h; exact ⟨w', hv, hz, hs, hf, by rw [← pc]; exact hk⟩
    · generalize sy.run P w = r at h ⊢
      cases r with
      | ok n w' =>
        cases n <;> simp only [actUpon, pc] at h ⊢
        case value v => exact h
        case skip => exact h
        case enter f args => exact h
      | halt z w' => simp only [actUpon] at h
  · -- y is passed over
    cases cx <;> simp only [byS] at h ⊢
    · obtain ⟨v, hv, hk⟩ := h; exact ⟨v, hv, by rw [← pc]; exact hk⟩
    · obtain ⟨v, hv, hf, hk⟩ := h; exact ⟨v, hv, hf, by rw [← pc]; exact hk⟩
    · obtain ⟨w', hv, hz, hs, hf, hk⟩ := h; exact ⟨w', hv, hz, hs, hf, by rw [← pc]; exact hk⟩
    · generalize sx.run P w = r at h ⊢
      cases r with
      | ok n w' =>
        cases n <;> simp only [actUpon, pc] at h ⊢
        case value v => exact h
        case skip => exact h
        case enter f args => exact h
      | halt z w' => simp only [actUpon] at h
  · cases cx <;> cases cy <;> simp only [byS] at h ⊢ <;> simp only [ClsCom] at hcl
    · obtain ⟨v, hv, u, hu, hk⟩ := h; exact ⟨u, hu, v, hv, by rw [← pc]; exact hk⟩
    · obtain ⟨v, hv, u, hu, hf, hk⟩ := h; exact ⟨u, hu, hf, v, hv, by rw [← pc]; exact hk⟩
    · obtain ⟨v, hv, w', hu, hz, hs, hf, hk⟩ := h; exact ⟨w', hu, hz, hs, hf, v, hv, by rw [← pc]; exact hk⟩
    · -- pure, act
      obtain ⟨v, hv, h⟩ := h
      generalize sy.run P w = r at h ⊢
      cases r with
      | ok n w' =>
        cases n <;> simp only [actUpon, pc] at h ⊢
        case value u => exact ⟨h.1, h.2.1, v, hv, h.2.2⟩
        case skip => exact ⟨h.1, h.2.1, v, hv, h.2.2⟩
        case enter f args => exact h.mono fun e w'' ⟨u, he, h1, h2, hk⟩ => ⟨u, he, h1, h2, v, hv, hk⟩
      | halt z w' => simp only [actUpon] at h
    · obtain ⟨v, hv, hf, u, hu, hk⟩ := h; exact ⟨u, hu, v, hv, hf, by rw [← pc]; exact hk⟩
    · obtain ⟨v, hv, hf, u, hu, hg, hk⟩ := h; exact ⟨u, hu, hg, v, hv, hf, by rw [← pc]; exact hk⟩
    · -- a read, then a write of another block
      obtain ⟨v, hv, hf, w', hu, hz, hs, hg, hk⟩ := h
      obtain ⟨k1, e1, _, n1⟩ := hf hcl.1
      obtain ⟨k2, e2, n2⟩ := hg hcl.2
      refine ⟨w', hu, hz, hs, hg, v, fun w2 h2 => hv w2 fun k hk1 => (h2 k hk1).trans (hs k fun e => ?_), hf, by rw [← pc]; exact hk⟩
      rw [e1] at hk1; rw [e2] at e
      injection hk1 with hk1; injection e with e
      exact n1 (by rw [hk1, ← e]; exact n2)
    · -- a read, then an act
      obtain ⟨v, hv, hf, h⟩ := h
      obtain ⟨k1, e1, m1, n1⟩ := hf hcl.1
      have hlt := hgood k1 m1
      have key : ∀ w', Keep D.xb w w' → ∀ w2, (∀ k, _ = some k → w2.heap[k]? = w'.heap[k]?) → sx.run P w2 = .ok (.value v) w2 := fun w' hk w2 h2 => hv w2 fun k hk1 => by
        rw [h2 k hk1]
        rw [e1] at hk1; injection hk1 with hk1; subst hk1
        exact hk.2 k1 hlt n1
      generalize sy.run P w = r at h ⊢
      cases r with
      | ok n w' =>
        cases n <;> simp only [actUpon, pc] at h ⊢
        case value u => exact ⟨h.1, h.2.1, v, key w' (h.2.1 hcl.2), hf, h.2.2⟩
        case skip => exact ⟨h.1, h.2.1, v, key w' (h.2.1 hcl.2), hf, h.2.2⟩
        case enter f args => exact h.mono fun e w'' ⟨u, he, h1, h2, hk⟩ => ⟨u, he, h1, h2, v, key w'' (h2 hcl.2), hf, hk⟩
      | halt z w' => simp only [actUpon] at h
    · obtain ⟨w', hu, hz, hs, hf, v, hv, hk⟩ := h; exact ⟨v, hv, w', hu, hz, hs, hf, by rw [← pc]; exact hk⟩
    · -- a write, then a read of another block
      obtain ⟨w', hu, hz, hs, hg, v, hv, hf, hk⟩ := h
      obtain ⟨k1, e1, _, n1⟩ := hf hcl.2
      obtain ⟨k2, e2, n2⟩ := hg hcl.1
      refine ⟨v, fun w2 h2 => hv w2 fun k hk1 => (h2 k hk1).trans (hs k fun e => ?_).symm, hf, w', hu, hz, hs, hg, by rw [← pc]; exact hk⟩
      rw [e1] at hk1; rw [e2] at e
      injection hk1 with hk1; injection e with e
      exact n1 (by rw [hk1, ← e]; exact n2)
    · -- act, pure
      generalize sx.run P w = r at h ⊢
      cases r with
      | ok n w' =>
        cases n <;> simp only [actUpon] at h
        case value u => obtain ⟨h1, h2, v, hv, hk⟩ := h; exact ⟨v, hv, by simp only [actUpon]; rw [← pc]; exact ⟨h1, h2, hk⟩⟩
        case skip => obtain ⟨h1, h2, v, hv, hk⟩ := h; exact ⟨v, hv, by simp only [actUpon]; rw [← pc]; exact ⟨h1, h2, hk⟩⟩
        case enter f args =>
          obtain ⟨_, w0, u0, _, _, _, v, hv, _⟩ := calls_some h
          refine ⟨v, hv, ?_⟩
          refine h.mono fun e w'' ⟨u, he, h1, h2, v', hv', hk⟩ => ⟨u, he, h1, h2, ?_⟩
          have e1 : v' = v := by
            have := (hv' w'').symm.trans (hv w'')
            injection this with e1 _
            injection e1
          subst e1
          rw [← pc]; exact hk
      | halt z w' => simp only [actUpon] at h
    · -- act, read
      rename_i b fr
      have back : ∀ (w' : World) (v : Value), Keep D.xb w w' → (∀ w2, (∀ k, b = some k → w2.heap[k]? = w'.heap[k]?) → sy.run P w2 = .ok (.value v) w2) → (fr = true → ∃ k, b = some k ∧ k ∈ D.rb ∧ k ∉ D.xb) → ∀ w2, (∀ k, b = some k → w2.heap[k]? = w.heap[k]?) → sy.run P w2 = .ok (.value v) w2 :=
        fun w' v hk hv hf w2 h2 => hv w2 fun k hk1 => by
          obtain ⟨k1, e1, m1, n1⟩ := hf hcl.2
          rw [h2 k hk1]
          rw [e1] at hk1; injection hk1 with hk1; subst hk1
          exact (hk.2 k1 (hgood k1 m1) n1).symm
      generalize sx.run P w = r at h ⊢
      cases r with
      | ok n w' =>
        cases n <;> simp only [actUpon] at h
        case value u => obtain ⟨h1, h2, v, hv, hf, hk⟩ := h; exact ⟨v, back w' v (h2 hcl.1) hv hf, hf, by simp only [actUpon]; rw [← pc]; exact ⟨h1, h2, hk⟩⟩
        case skip => obtain ⟨h1, h2, v, hv, hf, hk⟩ := h; exact ⟨v, back w' v (h2 hcl.1) hv hf, hf, by simp only [actUpon]; rw [← pc]; exact ⟨h1, h2, hk⟩⟩
        case enter f args =>
          obtain ⟨_, w0, u0, _, _, hk0, v, hv, hf, _⟩ := calls_some h
          have hb := back w0 v (hk0 hcl.1) hv hf
          refine ⟨v, hb, hf, ?_⟩
          refine h.mono fun e w'' ⟨u, he, h1, h2, v', hv', hf', hk⟩ => ⟨u, he, h1, h2, ?_⟩
          have e1 : v' = v := by
            have := (back w'' v' (h2 hcl.1) hv' hf' w (fun _ _ => rfl)).symm.trans (hb w (fun _ _ => rfl))
            injection this with e1 _
            injection e1
          subst e1
          rw [← pc]; exact hk
      | halt z w' => simp only [actUpon] at h

theorem kind_addr {op : Op} {t : Tmp} (h : addrOf op = .tmp t) : .tmp t ∈ op.operands.toList := by
  cases op <;> simp [addrOf] at h <;> simp [Op.operands, h]

theorem clsAt_put {ops : Array Oper} {o : Oper} {a : Act} {dst : Option Tmp} {v : Value} (h : ∀ d, dst = some d → d ∉ o.looksAt ops) : clsAt D (a.put dst v).eval o = clsAt D a.eval o := by
  have e : (a.put dst v).eval (addrOf o.op) = a.eval (addrOf o.op) := Act.eval_put fun d hd hx => h d hd (List.mem_append_left _ (List.mem_filterMap.2 ⟨.tmp d, kind_addr hx, rfl⟩))
  unfold clsAt
  rw [e]

/-- two operations that commute -/
theorem stepOp_swap {x y : Oper} (hsx : ∀ cs b, x.op ≠ .select cs b) (hsy : ∀ cs b, y.op ≠ .select cs b) (hc : com D ops x y = true) {K : Act → World → Prop} {a : Act} {w : World} (hg : Good D w)
    (h : stepOp P (some D) ops x (stepOp P (some D) ops y K) a w) : stepOp P (some D) ops y (stepOp P (some D) ops x K) a w := by
  simp only [com, Bool.and_eq_true] at hc
  obtain ⟨h1, h2, h3⟩ := Oper.apart_spec hc.1
  have ex : ∀ (a : Act) v, execOp (a.put y.dst v).eval x = execOp a.eval x := fun a v => execOp_put x hsx a y.dst v h3
  have ey : ∀ (a : Act) v, execOp (a.put x.dst v).eval y = execOp a.eval y := fun a v => execOp_put y hsy a x.dst v h1
  have wx : ∀ (a : Act) v, Region.wanted x (yielded ops (a.put y.dst v).tmps) = Region.wanted x (yielded ops a.tmps) := fun a v => wanted_put x a y.dst v h3
  have wy : ∀ (a : Act) v, Region.wanted y (yielded ops (a.put x.dst v).tmps) = Region.wanted y (yielded ops a.tmps) := fun a v => wanted_put y a x.dst v h1
  have cx : ∀ (a : Act) v, clsAt D (a.put y.dst v).eval x = clsAt D a.eval x := fun a v => clsAt_put (ops := ops) h3
  have cy : ∀ (a : Act) v, clsAt D (a.put x.dst v).eval y = clsAt D a.eval y := fun a v => clsAt_put (ops := ops) h1
  have h' : stepS P D x (stepS P D y K (Region.wanted y (yielded ops a.tmps)) (execOp a.eval y) (clsAt D a.eval y)) (Region.wanted x (yielded ops a.tmps)) (execOp a.eval x) (clsAt D a.eval x) a w :=
    stepS_mono (fun v w' _ hh => by simpa only [stepOp, ey, wy, cy] using hh) h
  refine stepS_mono (fun v w' _ hh => ?_) (stepS_swap hg (clsCom_of hc.2) (fun a v u => Act.put_comm a v u h2) h')
  simpa only [stepOp, ex, wx, cx] using hh

theorem stepOp_good {o : Oper} {K K' : Act → World → Prop} {a : Act} {w : World} (hg : Good D w) (h : ∀ a w, Good D w → K a w → K' a w) (hh : stepOp P (some D) ops o K a w) : stepOp P (some D) ops o K' a w :=
  stepS_mono (fun v w' hz hk => h _ _ (hg.mono hz) hk) hh

/-! the same over indices -/
def stepI (P : Program) (D : Dr) (ops : Array Oper) (i : Nat) (K : Act → World → Prop) (a : Act) (w : World) : Prop :=
  match ops[i]? with
  | none => K a w
  | some o => stepOp P (some D) ops o K a w

theorem stepI_good {i : Nat} {K K' : Act → World → Prop} {a : Act} {w : World} (hg : Good D w) (h : ∀ a w, Good D w → K a w → K' a w) (hh : stepI P D ops i K a w) : stepI P D ops i K' a w := by
  unfold stepI at *
  cases hi : ops[i]? with
  | none => simp only [hi] at hh ⊢; exact h _ _ hg hh
  | some o => simp only [hi] at hh ⊢; exact stepOp_good hg h hh

def comI (D : Dr) (ops : Array Oper) (j i : Nat) : Prop := ∀ x y, ops[j]? = some x → ops[i]? = some y → com D ops x y = true

theorem stepI_swap (hs : Region.noSelect ops = true) {j i : Nat} (hc : comI D ops j i) {K : Act → World → Prop} {a : Act} {w : World} (hg : Good D w)
    (h : stepI P D ops j (stepI P D ops i K) a w) : stepI P D ops i (stepI P D ops j K) a w := by
  unfold stepI at *
  cases hj : ops[j]? with
  | none => simp only [hj] at h ⊢; exact h
  | some x =>
    cases hi : ops[i]? with
    | none => simp only [hj, hi] at h ⊢; exact h
    | some y =>
      simp only [hj, hi] at h ⊢
      exact stepOp_swap (fun cs b => Region.noSelect_spec hs j x cs b hj) (fun cs b => Region.noSelect_spec hs i y cs b hi) (hc x y hj hi) hg h

/-- which operations an operation waits for, through others too: a number's bits -/
def edgeBits (acc : List Nat) (es : List Edge) : Nat := es.foldl (fun s e => if Region.binds .any e then s ||| 2 ^ e.on ||| acc.getD e.on 0 else s) 0
def waitBits (l : List Oper) : List Nat := l.foldl (fun acc o => acc ++ [edgeBits acc o.after.toList]) []

theorem edgeBits_spec (acc : List Nat) {j : Nat} : ∀ (es : List Edge) (s : Nat), (es.foldl (fun s e => if Region.binds .any e then s ||| 2 ^ e.on ||| acc.getD e.on 0 else s) s).testBit j = true →
    s.testBit j = true ∨ ∃ e ∈ es, Region.binds .any e = true ∧ (e.on = j ∨ (acc.getD e.on 0).testBit j = true)
  | [], s, h => .inl h
  | e :: es, s, h => by
    simp only [List.foldl_cons] at h
    rcases edgeBits_spec acc es _ h with h1 | ⟨e', he', h1⟩
    · by_cases hb : Region.binds .any e = true
      · simp only [hb, if_true, Nat.testBit_or, Bool.or_eq_true] at h1
        rcases h1 with (h1 | h1) | h1
        · exact .inl h1
        · refine .inr ⟨e, .head _, hb, .inl ?_⟩
          rw [Nat.testBit_two_pow] at h1
          simpa using h1
        · exact .inr ⟨e, .head _, hb, .inr h1⟩
      · rw [if_neg hb] at h1; exact .inl h1
    · exact .inr ⟨e', .tail _ he', h1⟩

theorem waitBits_append (l : List Oper) (o : Oper) : waitBits (l ++ [o]) = waitBits l ++ [edgeBits (waitBits l) o.after.toList] := by
  simp [waitBits]
theorem rev_ind {p : List Oper → Prop} (h0 : p []) (h1 : ∀ l o, p l → p (l ++ [o])) (l : List Oper) : p l := by
  have h : ∀ l : List Oper, p l.reverse := fun l => by
    induction l with
    | nil => exact h0
    | cons o l ih => rw [List.reverse_cons]; exact h1 _ _ ih
  simpa using h l.reverse
theorem waitBits_length (l : List Oper) : (waitBits l).length = l.length := by
  refine rev_ind (p := fun l => (waitBits l).length = l.length) rfl (fun l o ih => ?_) l
  rw [waitBits_append]; simp [ih]

theorem waitBits_spec : ∀ (l : List Oper), (∀ i o, l[i]? = some o → ∀ e ∈ o.after, Region.binds .any e = true → e.on < i) → ∀ (i j : Nat) (o : Oper), l[i]? = some o → ((waitBits l).getD i 0).testBit j = true →
    ∃ e ∈ o.after, Region.binds .any e = true ∧ (e.on = j ∨ ((waitBits l).getD e.on 0).testBit j = true) := by
  intro l
  refine rev_ind (p := fun l => (∀ i o, l[i]? = some o → ∀ e ∈ o.after, Region.binds .any e = true → e.on < i) → ∀ (i j : Nat) (o : Oper), l[i]? = some o → ((waitBits l).getD i 0).testBit j = true →
    ∃ e ∈ o.after, Region.binds .any e = true ∧ (e.on = j ∨ ((waitBits l).getD e.on 0).testBit j = true)) (fun _ i j o h => by simp at h) (fun l o ih => ?_) l
  · intro hl i j o' hi hb
    rw [waitBits_append] at hb ⊢
    have hlen := waitBits_length l
    have keep : ∀ k, k < l.length → (waitBits l ++ [edgeBits (waitBits l) o.after.toList]).getD k 0 = (waitBits l).getD k 0 := fun k hk => by
      simp only [List.getD_eq_getElem?_getD]
      rw [List.getElem?_append_left (by omega)]
    by_cases hlt : i < l.length
    · rw [List.getElem?_append_left hlt] at hi
      rw [keep i hlt] at hb
      obtain ⟨e, he, hbe, h1⟩ := ih (fun i o hi => hl i o (by rw [List.getElem?_append_left (List.getElem?_eq_some_iff.1 hi).1]; exact hi)) i j o' hi hb
      have : e.on < i := hl i o' (by rw [List.getElem?_append_left hlt]; exact hi) e he hbe
      exact ⟨e, he, hbe, by rw [keep e.on (by omega)]; exact h1⟩
    · have hie : i = l.length := by
        have := (List.getElem?_eq_some_iff.1 hi).1
        simp at this; omega
      have ho : o' = o := by
        rw [hie] at hi; simpa using hi.symm
      subst ho
      have hg : (waitBits l ++ [edgeBits (waitBits l) o'.after.toList]).getD i 0 = edgeBits (waitBits l) o'.after.toList := by
        simp only [List.getD_eq_getElem?_getD]
        rw [List.getElem?_append_right (by omega)]
        simp [hie, hlen]
      rw [hg] at hb
      rcases edgeBits_spec (waitBits l) o'.after.toList 0 hb with h1 | ⟨e, he, hbe, h1⟩
      · simp at h1
      · have : e.on < i := hl i o' hi e (by simpa using he) hbe
        exact ⟨e, by simpa using he, hbe, by rw [keep e.on (by omega)]; exact h1⟩

/-- edges lead back -/
def edgesB (l : List Oper) : Bool := l.zipIdx.all (fun (o, i) => o.after.toList.all fun e => !Region.binds .any e || decide (e.on < i))
theorem edgesB_spec {l : List Oper} (h : edgesB l = true) : ∀ i o, l[i]? = some o → ∀ e ∈ o.after, Region.binds .any e = true → e.on < i := by
  intro i o hi e he hb
  have h1 := List.all_eq_true.1 h (o, i) (by rw [List.mem_zipIdx_iff_getElem?]; exact hi)
  have h2 := List.all_eq_true.1 h1 e (by simpa using he)
  simpa [hb] using h2

/-- what has been carried out is closed under waiting -/
def Down (l : List Oper) (listed : Array Bool) : Prop := ∀ i o, l[i]? = some o → listed.getD i false = true → ∀ e ∈ o.after, Region.binds .any e = true → listed.getD e.on false = true

theorem down_bits {l : List Oper} (hB : edgesB l = true) {listed : Array Bool} (hd : Down l listed) : ∀ (i j : Nat) (o : Oper), l[i]? = some o → (∀ e ∈ o.after, Region.binds .any e = true → listed.getD e.on false = true) →
    ((waitBits l).getD i 0).testBit j = true → listed.getD j false = true := by
  intro i
  induction i using Nat.strongRecOn with
  | ind i ih =>
    intro j o hi hall hb
    obtain ⟨e, he, hbe, h1⟩ := waitBits_spec l (edgesB_spec hB) i j o hi hb
    have hl := hall e he hbe
    rcases h1 with rfl | h1
    · exact hl
    · have hlt := edgesB_spec hB i o hi e he hbe
      have hoi : e.on < l.length := by have := (List.getElem?_eq_some_iff.1 hi).1; omega
      exact ih e.on hlt j _ (List.getElem?_eq_getElem hoi) (hd e.on _ (List.getElem?_eq_getElem hoi) hl) h1

theorem down_set {l : List Oper} {listed : Array Bool} (hd : Down l listed) {i : Nat} {o : Oper} (hi : l[i]? = some o) (hall : ∀ e ∈ o.after, Region.binds .any e = true → listed.getD e.on false = true) : Down l (listed.setIfInBounds i true) := by
  intro k ok hk' hkl e he hb
  by_cases hki : k = i
  · subst hki
    have : ok = o := by rw [hi] at hk'; exact (Option.some.inj hk').symm
    subst this
    exact getD_set_true (hall e he hb)
  · rw [getD_set_ne false (Ne.symm hki)] at hkl
    exact getD_set_true (hd k ok hk' hkl e he hb)

/-- every order from here on -/
def anyI (P : Program) (D : Dr) (ops : Array Oper) (K : Act → World → Prop) : Nat → Array Bool → Act → World → Prop
  | 0, listed, a, w => Region.ready .any ops listed = [] ∧ K a w
  | fuel + 1, listed, a, w => (Region.ready .any ops listed = [] → K a w) ∧ ∀ i ∈ Region.ready .any ops listed, stepI P D ops i (anyI P D ops K fuel (listed.setIfInBounds i true)) a w

theorem wpAny_of_anyI {Q : Exit → Act → World → Prop} : ∀ (fuel : Nat) (listed : Array Bool) (a : Act) (w : World), Good D w → anyI P D ops (Q .normal) fuel listed a w → wpAny P .any ops Q fuel listed a w
  | 0, _, _, _, _, h => h
  | fuel + 1, listed, a, w, hg, h => ⟨h.1, fun i hi => by
      have h2 := stepI_good (K' := wpAny P .any ops Q fuel (listed.setIfInBounds i true)) hg (fun a w hg hk => wpAny_of_anyI fuel _ a w hg hk) (h.2 i hi)
      unfold stepI at h2
      unfold wpOp
      cases ho : ops[i]? with
      | none => simp only [ho] at h2 ⊢; exact h2
      | some o =>
        simp only [ho] at h2 ⊢
        have h3 := stepOp_wp (Q := Q) h2
        split
        · rename_i hw; rw [if_pos hw] at h3; exact .inl h3
        · rename_i hw; rw [if_neg hw] at h3; exact h3⟩

/-- an operation that may come up now and commutes with all that may come up before it is taken first -/
theorem anyI_first {l : List Oper} (hs : Region.noSelect l.toArray = true) (he : edgesB l = true) {K : Act → World → Prop} {i : Nat} : ∀ (fuel : Nat) (listed : Array Bool) (a : Act) (w : World), Good D w → Down l listed →
    (∀ j, j < l.length → j ≠ i → listed.getD j true = false → ((waitBits l).getD j 0).testBit i = false → comI D l.toArray i j) →
    i ∈ Region.ready .any l.toArray listed → stepI P D l.toArray i (anyI P D l.toArray K fuel (listed.setIfInBounds i true)) a w → anyI P D l.toArray K (fuel + 1) listed a w := by
  intro fuel
  induction fuel with
  | zero =>
    intro listed a w hg hd hfree hr h
    refine ⟨fun e => (by rw [e] at hr; cases hr), fun j hj => ?_⟩
    by_cases hji : j = i
    · subst hji; exact h
    · exfalso
      have hne : ∀ a w, anyI P D l.toArray K 0 (listed.setIfInBounds i true) a w → False := fun a w hk => by
        have := ready_mono hj hji
        have e := hk.1
        rw [e] at this; cases this
      have := stepI_good (K' := fun _ _ => False) hg (fun a w _ hk => hne a w hk) h
      unfold stepI at this
      cases hi : l.toArray[i]? with
      | none => simp only [hi] at this
      | some o =>
        simp only [hi, stepOp, stepS] at this
        split at this
        · generalize clsAt D a.eval o = c at this
          cases c <;> simp only [byS] at this
          · obtain ⟨_, _, h⟩ := this; exact h
          · obtain ⟨_, _, _, h⟩ := this; exact h
          · obtain ⟨_, _, _, _, _, h⟩ := this; exact h
          · generalize (execOp a.eval o).run P w = r at this
            cases r with
            | ok n w' =>
              cases n <;> simp only [actUpon] at this
              case value v => exact this.2.2
              case skip => exact this.2.2
              case enter f args => obtain ⟨_, _, _, _, _, _, h⟩ := calls_some this; exact h
            | halt z w' => simp only [actUpon] at this
        · exact this
  | succ fuel ih =>
    intro listed a w hg hd hfree hr h
    refine ⟨fun e => (by rw [e] at hr; cases hr), fun j hj => ?_⟩
    by_cases hji : j = i
    · subst hji; exact h
    · have hj' := hj
      rw [mem_ready] at hj'
      obtain ⟨h0, oj, ho, hall⟩ := hj'
      have hoj : l[j]? = some oj := by simpa using ho
      have hjl : j < l.length := (List.getElem?_eq_some_iff.1 hoj).1
      have hcom : comI D l.toArray i j := hfree j hjl hji h0 (by
        cases hb : ((waitBits l).getD j 0).testBit i
        · rfl
        · have h1 := down_bits he hd j i oj hoj hall hb
          have hr' := hr
          rw [mem_ready] at hr'
          have h2 := hr'.1
          by_cases hsz : i < listed.size
          · simp [hsz] at h1 h2; rw [h1] at h2; cases h2
          · simp [hsz] at h1)
      have h1 : stepI P D l.toArray i (stepI P D l.toArray j (anyI P D l.toArray K fuel ((listed.setIfInBounds i true).setIfInBounds j true))) a w :=
        stepI_good hg (fun a w _ hk => hk.2 j (ready_mono hj hji)) h
      have h2 := stepI_swap hs hcom hg h1
      refine stepI_good hg (fun a' w' hg' h3 => ?_) h2
      rw [Array.setIfInBounds_comm _ _ (Ne.symm hji)] at h3
      refine ih (listed.setIfInBounds j true) a' w' hg' (down_set hd hoj hall) (fun k hok hki hun hk => hfree k hok hki ?_ hk) (ready_mono hr (Ne.symm hji)) h3
      by_cases hjk : j = k
      · subst hjk
        by_cases hsz : j < listed.size
        · simp [hsz] at hun
        · rw [Array.getD_eq_getD_getElem?, Array.getElem?_eq_none (by simpa using hsz)] at hun
          cases hun
      · rw [getD_set_ne true hjk] at hun; exact hun

/-! ### The walk as a tree -/
inductive Tree where
  | done
  | take (i : Nat) (t : Tree)
  | fork (i : Nat) (t : Tree) (j : Nat) (u : Tree)

def mixT (P : Program) (D : Dr) (ops : Array Oper) (K : Act → World → Prop) : Tree → Act → World → Prop
  | .done, a, w => K a w
  | .take i t, a, w => stepI P D ops i (mixT P D ops K t) a w
  | .fork i t j u, a, w => stepI P D ops i (mixT P D ops K t) a w ∧ stepI P D ops j (mixT P D ops K u) a w

def freeB (D : Dr) (l : List Oper) (bits : List Nat) (listed : Array Bool) (i : Nat) : Bool :=
  (List.range l.length).all fun j => j == i || listed.getD j true || (bits.getD j 0).testBit i || (match l[i]?, l[j]? with
    | some oi, some oj => com D l.toArray oi oj
    | _, _ => true)

def treeB (D : Dr) (l : List Oper) (bits : List Nat) : Tree → Array Bool → Nat → Bool
  | .done, listed, 0 => (Region.ready .any l.toArray listed).isEmpty
  | .take i t, listed, fuel + 1 => (Region.ready .any l.toArray listed).contains i && freeB D l bits listed i && treeB D l bits t (listed.setIfInBounds i true) fuel
  | .fork i t j u, listed, fuel + 1 => (Region.ready .any l.toArray listed == [i, j]) && treeB D l bits t (listed.setIfInBounds i true) fuel && treeB D l bits u (listed.setIfInBounds j true) fuel
  | _, _, _ => false

theorem ready_set {l : List Oper} {listed : Array Bool} (hd : Down l listed) {i : Nat} (hi : i ∈ Region.ready .any l.toArray listed) : Down l (listed.setIfInBounds i true) := by
  rw [mem_ready] at hi
  obtain ⟨_, o, ho, hall⟩ := hi
  exact down_set hd (by simpa using ho) hall

theorem anyI_of_tree {l : List Oper} (hs : Region.noSelect l.toArray = true) (he : edgesB l = true) {K : Act → World → Prop} : ∀ (t : Tree) (listed : Array Bool) (fuel : Nat) (a : Act) (w : World), Good D w → Down l listed → treeB D l (waitBits l) t listed fuel = true → mixT P D l.toArray K t a w → anyI P D l.toArray K fuel listed a w
  | .done, listed, 0, a, w, hg, _, hB, h => ⟨by simpa [treeB] using hB, h⟩
  | .done, _, _ + 1, _, _, _, _, hB, _ => by simp [treeB] at hB
  | .take _ _, _, 0, _, _, _, _, hB, _ => by simp [treeB] at hB
  | .fork .., _, 0, _, _, _, _, hB, _ => by simp [treeB] at hB
  | .take i t, listed, fuel + 1, a, w, hg, hd, hB, h => by
    simp only [treeB, Bool.and_eq_true] at hB
    obtain ⟨⟨h1, h2⟩, h3⟩ := hB
    have hi : i ∈ Region.ready .any l.toArray listed := by simpa using h1
    refine anyI_first hs he fuel listed a w hg hd ?_ hi (stepI_good hg (fun a w hg hk => anyI_of_tree hs he t _ fuel a w hg (ready_set hd hi) h3 hk) h)
    intro j hjl hji hun hw x y hx hy
    have := List.all_eq_true.1 h2 j (List.mem_range.2 hjl)
    have hx' : l[i]? = some x := by simpa using hx
    have hy' : l[j]? = some y := by simpa using hy
    rw [hx', hy'] at this
    simp only [hun, hw, Bool.or_false, Bool.or_eq_true, beq_iff_eq] at this
    rcases this with h4 | h4
    · exact absurd h4 hji
    · exact h4
  | .fork i t j u, listed, fuel + 1, a, w, hg, hd, hB, h => by
    simp only [treeB, Bool.and_eq_true] at hB
    obtain ⟨⟨h1, h2⟩, h3⟩ := hB
    have hr : Region.ready .any l.toArray listed = [i, j] := by simpa using h1
    refine ⟨fun e => (by rw [hr] at e; cases e), fun k hk => ?_⟩
    have hd' := ready_set hd hk
    rw [hr] at hk
    rcases List.mem_cons.1 hk with rfl | hk
    · exact stepI_good hg (fun a w hg hk => anyI_of_tree hs he t _ fuel a w hg hd' h2 hk) h.1
    · have := List.mem_singleton.1 hk
      subst this
      exact stepI_good hg (fun a w hg hk => anyI_of_tree hs he u _ fuel a w hg hd' h3 hk) h.2

theorem down_none (l : List Oper) (m : Nat) : Down l (Array.replicate m false) := fun i o _ hk => by
  exfalso
  by_cases hi : i < m <;> simp [hi] at hk
theorem wp_region_tree {id : Nat} {l : List Oper} {Q : Exit → Act → World → Prop} {a : Act} {w : World} (hm : P.follows .mixedOrders = true) (t : Tree) (hs : Region.noSelect l.toArray = true) (he : edgesB l = true) (hB : treeB D l (waitBits l) t (Array.replicate l.length false) l.length = true) (hg : Good D w)
    (h : mixT P D l.toArray (Q .normal) t a w.drew) : (Code.region id l.toArray true).wp P Q a w := by
  refine wp_region_any hm ?_
  have h1 : Good D w.drew := hg
  have h2 := wpAny_of_anyI (Q := Q) l.length (Array.replicate l.length false) a w.drew h1 (anyI_of_tree hs he t _ _ a w.drew h1 (down_none l _) hB h)
  simpa using h2

/-! ### The walk in the text's order -/
def mixI (P : Program) (D : Dr) (ops : Array Oper) (K : Act → World → Prop) : List Nat → Act → World → Prop
  | [], a, w => K a w
  | i :: l, a, w => stepI P D ops i (mixI P D ops K l) a w

theorem mixI_range {K : Act → World → Prop} : ∀ (l : List Oper) (k : Nat), (∀ j, l[j]? = ops[k + j]?) → ∀ (a : Act) (w : World), mix P (some D) ops K l a w → mixI P D ops K (List.range' k l.length) a w
  | [], _, _, _, _, h => h
  | o :: l, k, hl, a, w, h => by
    have h0 : ops[k]? = some o := by simpa using (hl 0).symm
    simp only [List.length_cons, List.range'_succ, mixI, stepI, h0]
    exact stepOp_mono (fun a w => mixI_range l (k + 1) (fun j => by have := hl (j + 1); simpa [Nat.add_assoc, Nat.add_comm 1 j] using this) a w) h

theorem mixI_pull (hs : Region.noSelect ops = true) {i : Nat} {K : Act → World → Prop} {U2 : List Nat} : ∀ (U1 : List Nat), (∀ j ∈ U1, comI D ops j i) → ∀ (a : Act) (w : World), Good D w →
    mixI P D ops K (U1 ++ i :: U2) a w → stepI P D ops i (mixI P D ops K (U1 ++ U2)) a w
  | [], _, _, _, _, h => h
  | j :: U1, hc, a, w, hg, h => by
    have h2 : stepI P D ops j (stepI P D ops i (mixI P D ops K (U1 ++ U2))) a w :=
      stepI_good hg (fun a w hg => mixI_pull hs U1 (fun k hk => hc k (.tail _ hk)) a w hg) h
    exact stepI_swap hs (hc j (.head _)) hg h2

/-- each two operations are ordered or commute -/
def mixB (D : Dr) (l : List Oper) : Bool :=
  Region.noSelect l.toArray &&
  edgesB l &&
  (l.zip (waitBits l)).zipIdx.all fun ((y, b), i) => (l.take i).zipIdx.all fun (x, j) => b.testBit j || com D l.toArray x y

theorem mixB_edgesB {l : List Oper} (h : mixB D l = true) : edgesB l = true := by
  simp only [mixB, Bool.and_eq_true] at h; exact h.1.2
theorem mixB_edges {l : List Oper} (h : mixB D l = true) : ∀ i o, l[i]? = some o → ∀ e ∈ o.after, Region.binds .any e = true → e.on < i := edgesB_spec (mixB_edgesB h)

theorem mixB_pair {l : List Oper} (h : mixB D l = true) {i j : Nat} (hji : j < i) : ((waitBits l).getD i 0).testBit j = true ∨ comI D l.toArray j i := by
  by_cases hb : ((waitBits l).getD i 0).testBit j = true
  · exact .inl hb
  · refine .inr fun x y hx hy => ?_
    have hx' : l[j]? = some x := by simpa using hx
    have hy' : l[i]? = some y := by simpa using hy
    have hil := (List.getElem?_eq_some_iff.1 hy').1
    simp only [mixB, Bool.and_eq_true] at h
    have hw : (waitBits l)[i]? = some ((waitBits l).getD i 0) := by
      rw [List.getD_eq_getElem?_getD, List.getElem?_eq_getElem (by rw [waitBits_length]; exact hil)]; rfl
    have h1 := List.all_eq_true.1 h.2 ((y, (waitBits l).getD i 0), i) (by
      rw [List.mem_zipIdx_iff_getElem?]
      exact List.getElem?_zip_eq_some.2 ⟨hy', hw⟩)
    have h2 := List.all_eq_true.1 h1 (x, j) (by
      rw [List.mem_zipIdx_iff_getElem?]
      simp [hji, hx'])
    rcases Bool.or_eq_true _ _ ▸ h2 with h3 | h3
    · exact absurd h3 hb
    · exact h3

def left (n : Nat) (listed : Array Bool) : List Nat := (List.range n).filter fun i => !listed.getD i true

theorem mem_left {n : Nat} {listed : Array Bool} {i : Nat} : i ∈ left n listed ↔ i < n ∧ listed.getD i true = false := by
  simp [left]

theorem left_set {n : Nat} {listed : Array Bool} (hsz : listed.size = n) {i : Nat} (U1 U2 : List Nat) (h : left n listed = U1 ++ i :: U2) : left n (listed.setIfInBounds i true) = U1 ++ U2 := by
  have hnd : (left n listed).Nodup := List.Nodup.sublist List.filter_sublist List.nodup_range
  have hi : i ∈ left n listed := by rw [h]; simp
  have hin : i < n := (mem_left.1 hi).1
  have e1 : left n (listed.setIfInBounds i true) = (left n listed).filter (fun j => j != i) := by
    unfold left
    rw [List.filter_filter]
    refine List.filter_congr fun j hj => ?_
    by_cases hji : i = j
    · subst hji; simp [hsz, hin]
    · simp [hji, Ne.symm hji]
  rw [e1, h]
  rw [h] at hnd
  have hd := List.nodup_append.1 hnd
  rw [List.filter_append]
  congr 1
  · refine List.filter_eq_self.2 fun j hj => ?_
    have := hd.2.2 j hj i (.head _)
    simpa using this
  · rw [List.filter_cons]
    simp only [bne_self_eq_false, Bool.false_eq_true, if_false]
    refine List.filter_eq_self.2 fun j hj => ?_
    have := (List.nodup_cons.1 hd.2.1).1
    simp only [bne_iff_ne]
    intro e; subst e; exact this hj

theorem anyI_of_mixI {l : List Oper} (hB : mixB D l = true) {K : Act → World → Prop} : ∀ (fuel : Nat) (listed : Array Bool) (a : Act) (w : World), Good D w → listed.size = l.length → Down l listed →
    (left l.length listed).length = fuel → mixI P D l.toArray K (left l.length listed) a w → anyI P D l.toArray K fuel listed a w := by
  have hs : Region.noSelect l.toArray = true := by simp only [mixB, Bool.and_eq_true] at hB; exact hB.1.1
  intro fuel
  induction fuel with
  | zero =>
    intro listed a w _ hsz hd hf h
    have hl : left l.length listed = [] := List.eq_nil_of_length_eq_zero hf
    refine ⟨?_, by rw [hl] at h; exact h⟩
    rw [List.eq_nil_iff_forall_not_mem]
    intro j hj
    rw [mem_ready] at hj
    obtain ⟨h0, o, ho, _⟩ := hj
    have : j ∈ left l.length listed := mem_left.2 ⟨by have := (Array.getElem?_eq_some_iff.1 ho).1; simpa using this, h0⟩
    rw [hl] at this; cases this
  | succ fuel ih =>
    intro listed a w hag hsz hd hf h
    constructor
    · intro hr
      exfalso
      cases hl : left l.length listed with
      | nil => rw [hl] at hf; simp at hf
      | cons i U =>
        have hi : i ∈ left l.length listed := by rw [hl]; exact .head _
        obtain ⟨hin, h0⟩ := mem_left.1 hi
        have : i ∈ Region.ready .any l.toArray listed := by
          rw [mem_ready]
          refine ⟨h0, l[i], by simp [hin], fun e he hb => ?_⟩
          have hlt := mixB_edges hB i l[i] (List.getElem?_eq_getElem hin) e he hb
          have hnl : e.on ∉ left l.length listed := by
            rw [hl]
            intro hm
            have hsorted : (left l.length listed).Pairwise (· < ·) := List.Pairwise.sublist List.filter_sublist List.pairwise_lt_range
            rw [hl] at hsorted
            rcases List.mem_cons.1 hm with h1 | h1
            · omega
            · have := (List.pairwise_cons.1 hsorted).1 _ h1; omega
          rw [mem_left] at hnl
          have hts : listed.getD e.on true = true := by
            cases hx : listed.getD e.on true
            · exact absurd ⟨by omega, hx⟩ hnl
            · rfl
          rw [Array.getD_eq_getD_getElem?] at hts ⊢
          rw [Array.getElem?_eq_getElem (show e.on < listed.size by omega)] at hts ⊢
          exact hts
        rw [hr] at this; cases this
    · intro i hir
      have hir' := hir
      rw [mem_ready] at hir'
      obtain ⟨h0, o, ho, hall⟩ := hir'
      have hlo : l[i]? = some o := by simpa using ho
      have hin : i < l.length := (List.getElem?_eq_some_iff.1 hlo).1
      have hm : i ∈ left l.length listed := mem_left.2 ⟨hin, h0⟩
      obtain ⟨U1, U2, hU⟩ := List.append_of_mem hm
      have hsorted : (left l.length listed).Pairwise (· < ·) := List.Pairwise.sublist List.filter_sublist List.pairwise_lt_range
      have hlt1 : ∀ j ∈ U1, j < i := fun j hj => by
        rw [hU] at hsorted
        exact (List.pairwise_append.1 hsorted).2.2 j hj i (.head _)
      have hcom : ∀ j ∈ U1, comI D l.toArray j i := fun j hj => by
        rcases mixB_pair hB (hlt1 j hj) with h1 | h1
        · have h2 := down_bits (mixB_edgesB hB) hd i j o hlo hall h1
          have h3 : j ∈ left l.length listed := by rw [hU]; exact List.mem_append_left _ hj
          have h4 := (mem_left.1 h3)
          rw [Array.getD_eq_getD_getElem?] at h2
          have h5 := h4.2
          rw [Array.getD_eq_getD_getElem?] at h5
          rw [Array.getElem?_eq_getElem (show j < listed.size by omega)] at h2 h5
          simp only [Option.getD_some] at h2 h5
          rw [h2] at h5; cases h5
        · exact h1
      rw [hU] at h
      refine stepI_good hag (fun a' w' hag' hk => ?_) (mixI_pull hs U1 hcom a w hag h)
      have hset := left_set (n := l.length) hsz U1 U2 hU
      refine ih _ a' w' hag' (by simp [hsz]) ?_ ?_ (by rw [hset]; exact hk)
      · exact down_set hd hlo hall
      · rw [hset]
        rw [hU] at hf
        simp at hf ⊢; omega

theorem mixB_flags {l : List Oper} (h : mixB { rs := D.rs, fs := D.fs, acs := D.acs } l = true) : mixB D l = true := h
theorem treeB_flags {l : List Oper} {bits : List Nat} {t : Tree} {listed : Array Bool} {fuel : Nat} (h : treeB { rs := D.rs, fs := D.fs, acs := D.acs } l bits t listed fuel = true) : treeB D l bits t listed fuel = true := by
  induction t generalizing listed fuel with
  | done => cases fuel <;> exact h
  | take i t ih =>
    cases fuel with
    | zero => exact h
    | succ fuel =>
      simp only [treeB, Bool.and_eq_true] at h ⊢
      exact ⟨⟨h.1.1, h.1.2⟩, ih h.2⟩
  | fork i t j u ih1 ih2 =>
    cases fuel with
    | zero => exact h
    | succ fuel =>
      simp only [treeB, Bool.and_eq_true] at h ⊢
      exact ⟨⟨h.1.1, ih1 h.1.2⟩, ih2 h.2⟩
theorem wp_region_mixed {id : Nat} {l : List Oper} {Q : Exit → Act → World → Prop} {a : Act} {w : World} (hm : P.follows .mixedOrders = true) (hB : mixB D l = true) (hg : Good D w)
    (h : mix P (some D) l.toArray (Q .normal) l a w.drew) : (Code.region id l.toArray true).wp P Q a w := by
  refine wp_region_any hm ?_
  have h1 := mixI_range (ops := l.toArray) l 0 (by simp) a w.drew h
  have hl : left l.length (Array.replicate l.length false) = List.range l.length := by
    refine List.filter_eq_self.2 fun j hj => ?_
    have := List.mem_range.1 hj
    simp [this]
  have h2 := anyI_of_mixI hB (K := Q .normal) l.length (Array.replicate l.length false) a w.drew hg (by simp) (fun i o _ hk => by
    exfalso
    by_cases hi : i < l.length <;> simp [hi] at hk) (by rw [hl]; simp) (by rw [hl, List.range_eq_range']; exact h1)
  have h3 := wpAny_of_anyI (Q := Q) _ _ a w.drew hg h2
  simpa using h3
end
end Go.Proofs.YtghjbnbkfohmlaaDoor
