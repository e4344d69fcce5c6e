/-
  What a walk knows of the memory, kept as a list of things ('Res'): a block with its cells, or a slice of the call's own. 'Sat w0 S H w': since the call began (in the world w0) no old block but those in S has turned, and all of H holds in w. Lemmas for the operations of a walk over such a list. No program in sight.
-/
import Derived.WalkKit
import Derived.Deep.Quiet
import Derived.KernelRfl
namespace Go.Proofs.YtghjbnbkfohmlaaDoor
open Go Go.RowKit

inductive Res where
  | blk (b : Nat) (o : Obj)
  | own (T sz : Nat) (v : Value) (n : Nat) (xs : List Value)

def Res.foot : Res → Option Nat
  | .blk b _ => some b
  | .own _ _ v _ _ => v.ownBlock

def Res.ok (w : World) : Res → Prop
  | .blk b o => w.heap[b]? = some o
  | .own T sz v n xs => w.ownsRow 0 T sz v n xs

theorem Res.ok.lt {w : World} {r : Res} (h : r.ok w) {k : Nat} (hk : r.foot = some k) : k < w.heap.size := by
  cases r with
  | blk b o =>
    simp only [Res.foot, Option.some.injEq] at hk
    subst hk
    exact (Array.getElem?_eq_some_iff.1 h).1
  | own T sz v n xs => exact (World.ownsRow.lt h k hk).2

theorem Res.ok.kept {w w' : World} {r : Res} (h : r.ok w) (he : ∀ k, r.foot = some k → w'.heap[k]? = w.heap[k]?) : r.ok w' := by
  cases r with
  | blk b o => exact (he b rfl).trans h
  | own T sz v n xs =>
    refine ⟨h.1, ?_⟩
    rcases h.2 with hn | ⟨g, cap, cur, rfl, hb, hg, rest⟩
    · exact .inl hn
    · exact .inr ⟨g, cap, cur, rfl, hb, (he g rfl).trans hg, rest⟩

def Far (r s : Res) : Prop := ∀ k, r.foot = some k → s.foot ≠ some k
theorem Far.symm {r s : Res} (h : Far r s) : Far s r := fun k hs hr => h k hr hs

structure Sat (w0 : World) (S : List Nat) (H : List Res) (w : World) : Prop where
  os : w.os = w0.os
  tape : w.tape = w0.tape
  output : w.output = w0.output
  size : w0.heap.size ≤ w.heap.size
  keep : ∀ k, k < w0.heap.size → k ∉ S → w.heap[k]? = w0.heap[k]?
  ok : ∀ r ∈ H, r.ok w
  feet : ∀ r ∈ H, ∀ k, r.foot = some k → w0.heap.size ≤ k ∨ k ∈ S
  apart : H.Pairwise Far

theorem Sat.nil (w : World) : Sat w [] [] w := ⟨rfl, rfl, rfl, Nat.le_refl _, fun _ _ _ => rfl, by simp, by simp, .nil⟩

theorem Sat.perm {w0 w : World} {S : List Nat} {H H' : List Res} (h : Sat w0 S H w) (p : H.Perm H') : Sat w0 S H' w :=
  ⟨h.os, h.tape, h.output, h.size, h.keep, fun r hr => h.ok r (p.mem_iff.2 hr), fun r hr => h.feet r (p.mem_iff.2 hr),
    (p.pairwise_iff (fun hab => Far.symm hab)).1 h.apart⟩

theorem Sat.drop {w0 w : World} {S : List Nat} {r : Res} {H : List Res} (h : Sat w0 S (r :: H) w) : Sat w0 S H w :=
  ⟨h.os, h.tape, h.output, h.size, h.keep, fun s hs => h.ok s (.tail _ hs), fun s hs => h.feet s (.tail _ hs), (List.pairwise_cons.1 h.apart).2⟩

theorem Sat.clear {w0 w : World} {S : List Nat} {H : List Res} (h : Sat w0 S H w) : Sat w0 S [] w :=
  ⟨h.os, h.tape, h.output, h.size, h.keep, by simp, by simp, .nil⟩

theorem Sat.only {w0 w : World} {S : List Nat} {r : Res} {H : List Res} (h : Sat w0 S (r :: H) w) : Sat w0 S [r] w :=
  ⟨h.os, h.tape, h.output, h.size, h.keep, fun s hs => by rw [List.mem_singleton.1 hs]; exact h.ok r (.head _), fun s hs => by rw [List.mem_singleton.1 hs]; exact h.feet r (.head _), List.pairwise_singleton _ _⟩

theorem Sat.below {w0 w : World} {H : List Res} (h : Sat w0 [] H w) : Below w0.heap.size w0 w :=
  ⟨h.os, h.tape, h.output, h.size, fun k hk => h.keep k hk (by simp)⟩

theorem Sat.drew {w0 w : World} {S : List Nat} {H : List Res} (h : Sat w0 S H w) : Sat w0 S H w.drew :=
  ⟨h.os, h.tape, h.output, h.size, h.keep, fun r hr => (h.ok r hr).kept fun _ _ => rfl, h.feet, h.apart⟩

theorem Sat.alloc {w0 w : World} {S : List Nat} {H : List Res} (h : Sat w0 S H w) (o : Obj) : Sat w0 S (.blk w.heap.size o :: H) (w.alloc o) := by
  have hb : ∀ k, k < w.heap.size → (w.alloc o).heap[k]? = w.heap[k]? := fun k hk => Below.heap_alloc w o k hk
  have hs := h.size
  refine ⟨h.os, h.tape, h.output, by simp; omega, fun k hk hS => (hb k (by omega)).trans (h.keep k hk hS), ?_, ?_, ?_⟩
  · intro r hr
    rcases List.mem_cons.1 hr with rfl | hr
    · exact heap_alloc_new w o
    · exact (h.ok r hr).kept fun k hk => hb k ((h.ok r hr).lt hk)
  · intro r hr k hk
    rcases List.mem_cons.1 hr with rfl | hr
    · simp only [Res.foot, Option.some.injEq] at hk; subst hk; exact .inl hs
    · exact h.feet r hr k hk
  · refine List.pairwise_cons.2 ⟨fun s hs' k hk hk' => ?_, h.apart⟩
    simp only [Res.foot, Option.some.injEq] at hk
    subst hk
    exact absurd ((h.ok s hs').lt hk') (Nat.lt_irrefl _)

/-- the block of the first thing is replaced -/
theorem Sat.write {w0 w w' : World} {S : List Nat} {r r' : Res} {H : List Res} (h : Sat w0 S (r :: H) w) (hf : r'.foot = r.foot)
    (hos : w'.os = w.os) (ht : w'.tape = w.tape) (hout : w'.output = w.output) (hsz : w.heap.size ≤ w'.heap.size)
    (hk : ∀ k, k < w.heap.size → r.foot ≠ some k → w'.heap[k]? = w.heap[k]?) (hr : r'.ok w') : Sat w0 S (r' :: H) w' := by
  have hs := h.size
  refine ⟨hos.trans h.os, ht.trans h.tape, hout.trans h.output, by omega, fun k hk0 hS => (hk k (by omega) ?_).trans (h.keep k hk0 hS), ?_, ?_, ?_⟩
  · intro e
    rcases h.feet r (.head _) k e with h1 | h1
    · omega
    · exact hS h1
  · intro s hs'
    rcases List.mem_cons.1 hs' with rfl | hs'
    · exact hr
    · have hok := h.ok s (.tail _ hs')
      exact hok.kept fun k hk1 => hk k (hok.lt hk1) (fun e => (List.pairwise_cons.1 h.apart).1 s hs' k e hk1)
  · intro s hs' k hk1
    rcases List.mem_cons.1 hs' with rfl | hs'
    · exact h.feet r (.head _) k (hf ▸ hk1)
    · exact h.feet s (.tail _ hs') k hk1
  · refine List.pairwise_cons.2 ⟨fun s hs' k hk1 => (List.pairwise_cons.1 h.apart).1 s hs' k (hf ▸ hk1), (List.pairwise_cons.1 h.apart).2⟩

/-- the first thing grows into a block that is new -/
theorem Sat.grown {w0 w w' : World} {S : List Nat} {r r' : Res} {H : List Res} (h : Sat w0 S (r :: H) w) 
    (hg : w.grownBy w' r.foot) (hf : ∀ k, r'.foot = some k → r.foot = some k ∨ w.heap.size ≤ k) (hr : r'.ok w') : Sat w0 S (r' :: H) w' := by
  have hs := h.size
  have hk := hg.block
  have hsz := hg.size
  refine ⟨hg.os.trans h.os, hg.tape.trans h.tape, hg.output.trans h.output, by omega, fun k hk0 hS => (hk k (by omega) ?_).trans (h.keep k hk0 hS), ?_, ?_, ?_⟩
  · intro e
    rcases h.feet r (.head _) k e.symm with h1 | h1
    · omega
    · exact hS h1
  · intro s hs'
    rcases List.mem_cons.1 hs' with rfl | hs'
    · exact hr
    · have hok := h.ok s (.tail _ hs')
      exact hok.kept fun k hk1 => hk k (hok.lt hk1) (fun e => (List.pairwise_cons.1 h.apart).1 s hs' k e.symm hk1)
  · intro s hs' k hk1
    rcases List.mem_cons.1 hs' with rfl | hs'
    · rcases hf k hk1 with h1 | h1
      · exact h.feet r (.head _) k h1
      · exact .inl (by omega)
    · exact h.feet s (.tail _ hs') k hk1
  · refine List.pairwise_cons.2 ⟨fun s hs' k hk1 hk2 => ?_, (List.pairwise_cons.1 h.apart).2⟩
    rcases hf k hk1 with h1 | h1
    · exact (List.pairwise_cons.1 h.apart).1 s hs' k h1 hk2
    · have := (h.ok s (.tail _ hs')).lt hk2
      omega

/-- behind a call: it was handed the things 'A' (and may have turned the old blocks T of theirs), and left 'A'' -/
theorem Sat.call {w0 w w' : World} {S T : List Nat} {A A' G : List Res} (h : Sat w0 S (A ++ G) w) (hc : Sat w T A' w')
    (hT : ∀ k ∈ T, ∃ r ∈ A, r.foot = some k) : Sat w0 S (A' ++ G) w' := by
  have hs := h.size
  have hs' := hc.size
  have hpa := List.pairwise_append.1 h.apart
  have hTS : ∀ k ∈ T, w0.heap.size ≤ k ∨ k ∈ S := fun k hk => by
    obtain ⟨r, hr, hf⟩ := hT k hk
    exact h.feet r (List.mem_append.2 (.inl hr)) k hf
  have hG : ∀ g ∈ G, ∀ k, g.foot = some k → k < w.heap.size ∧ k ∉ T := fun g hg k hk =>
    ⟨(h.ok g (List.mem_append.2 (.inr hg))).lt hk, fun hkT => by
      obtain ⟨r, hr, hf⟩ := hT k hkT
      exact hpa.2.2 r hr g hg k hf hk⟩
  refine ⟨hc.os.trans h.os, hc.tape.trans h.tape, hc.output.trans h.output, by omega, ?_, ?_, ?_, ?_⟩
  · intro k hk hS
    refine (hc.keep k (by omega) fun hkT => ?_).trans (h.keep k hk hS)
    rcases hTS k hkT with h1 | h1
    · omega
    · exact hS h1
  · intro r hr
    rcases List.mem_append.1 hr with hr | hr
    · exact hc.ok r hr
    · exact (h.ok r (List.mem_append.2 (.inr hr))).kept fun k hk => hc.keep k (hG r hr k hk).1 (hG r hr k hk).2
  · intro r hr k hk
    rcases List.mem_append.1 hr with hr | hr
    · rcases hc.feet r hr k hk with h1 | h1
      · exact .inl (by omega)
      · exact hTS k h1
    · exact h.feet r (List.mem_append.2 (.inr hr)) k hk
  · refine List.pairwise_append.2 ⟨hc.apart, hpa.2.1, fun r hr g hg k hk hk' => ?_⟩
    rcases hc.feet r hr k hk with h1 | h1
    · have := (hG g hg k hk').1
      omega
    · exact (hG g hg k hk').2 h1

/-- a call that was handed nothing of the list -/
theorem Sat.call0 {w0 w w' : World} {S : List Nat} {A' G : List Res} (h : Sat w0 S G w) (hc : Sat w [] A' w') : Sat w0 S (A' ++ G) w' :=
  Sat.call (A := []) h hc (by simp)

/-- what a call sees that is handed some things -/
theorem Sat.hand {w0 w : World} {S : List Nat} {A G : List Res} (h : Sat w0 S (A ++ G) w) : Sat w (A.filterMap Res.foot) A w :=
  ⟨rfl, rfl, rfl, Nat.le_refl _, fun _ _ _ => rfl, fun r hr => h.ok r (List.mem_append.2 (.inl hr)),
    fun r hr _ hk => .inr (List.mem_filterMap.2 ⟨r, hr, hk⟩), (List.pairwise_append.1 h.apart).1⟩

/-- where a thing stands in a list -/
inductive Pick (r : Res) : List Res → List Res → Prop
  | here (G : List Res) : Pick r (r :: G) G
  | there {x : Res} {H G : List Res} (h : Pick r H G) : Pick r (x :: H) (x :: G)
theorem Pick.perm {r : Res} {H G : List Res} (h : Pick r H G) : H.Perm (r :: G) := by
  induction h with
  | here G => exact .refl _
  | there h ih => exact (ih.cons _).trans (.swap _ _ _)
theorem Sat.pick {w0 w : World} {S : List Nat} {r : Res} {H G : List Res} (h : Sat w0 S H w) (p : Pick r H G) : Sat w0 S (r :: G) w := h.perm p.perm
theorem Sat.look {w0 w : World} {S : List Nat} {r : Res} {H G : List Res} (h : Sat w0 S H w) (p : Pick r H G) : r.ok w := h.ok r (p.perm.mem_iff.2 (.head _))

/-- the block b in a list, and the list without it: found by Lean -/
class HasBlk (b : Nat) (H : List Res) (o : outParam Obj) (G : outParam (List Res)) : Prop where
  pick : Pick (.blk b o) H G
instance (priority := high) HasBlk.here (b : Nat) (o : Obj) (G : List Res) : HasBlk b (.blk b o :: G) o G := ⟨.here G⟩
instance HasBlk.there (b : Nat) (o : Obj) (x : Res) (H G : List Res) [h : HasBlk b H o G] : HasBlk b (x :: H) o (x :: G) := ⟨.there h.pick⟩

instance HasBlk.app (b : Nat) (o : Obj) (x : Res) (A B G : List Res) [h : HasBlk b (x :: (A ++ B)) o G] : HasBlk b ((x :: A) ++ B) o G := h
instance HasBlk.app0 (b : Nat) (o : Obj) (B G : List Res) [h : HasBlk b B o G] : HasBlk b ([] ++ B) o G := h

/-- a slice of the call's own in a list -/
class HasOwn (v : Value) (H : List Res) (T sz n : outParam Nat) (xs : outParam (List Value)) (G : outParam (List Res)) : Prop where
  pick : Pick (.own T sz v n xs) H G
instance (priority := high) HasOwn.here (v : Value) (T sz n : Nat) (xs : List Value) (G : List Res) : HasOwn v (.own T sz v n xs :: G) T sz n xs G := ⟨.here G⟩
instance HasOwn.there (v : Value) (T sz n : Nat) (xs : List Value) (x : Res) (H G : List Res) [h : HasOwn v H T sz n xs G] : HasOwn v (x :: H) T sz n xs (x :: G) := ⟨.there h.pick⟩

instance HasOwn.app (v : Value) (T sz n : Nat) (xs : List Value) (x : Res) (A B G : List Res) [h : HasOwn v (x :: (A ++ B)) T sz n xs G] : HasOwn v ((x :: A) ++ B) T sz n xs G := h
instance HasOwn.app0 (v : Value) (T sz n : Nat) (xs : List Value) (B G : List Res) [h : HasOwn v B T sz n xs G] : HasOwn v ([] ++ B) T sz n xs G := h

/-- a list with one thing replaced, in its place -/
inductive Swap (r r' : Res) : List Res → List Res → Prop
  | here (G : List Res) : Swap r r' (r :: G) (r' :: G)
  | there {x : Res} {H H' : List Res} (h : Swap r r' H H') : Swap r r' (x :: H) (x :: H')
theorem Swap.out {r r' : Res} {H H' : List Res} (h : Swap r r' H H') : ∃ G, Pick r H G ∧ Pick r' H' G := by
  induction h with
  | here G => exact ⟨G, .here G, .here G⟩
  | there h ih => obtain ⟨G, h1, h2⟩ := ih; exact ⟨_, .there h1, .there h2⟩
theorem Sat.put {w0 w : World} {S : List Nat} {r' : Res} {H' G : List Res} (h : Sat w0 S (r' :: G) w) (p : Pick r' H' G) : Sat w0 S H' w := h.perm p.perm.symm
/-- the block b turned from o to o' -/
class SwapBlk (b : Nat) (o' : Obj) (H : List Res) (o : outParam Obj) (H' : outParam (List Res)) : Prop where
  swap : Swap (.blk b o) (.blk b o') H H'
instance (priority := high) SwapBlk.here (b : Nat) (o o' : Obj) (G : List Res) : SwapBlk b o' (.blk b o :: G) o (.blk b o' :: G) := ⟨.here G⟩
instance SwapBlk.there (b : Nat) (o o' : Obj) (x : Res) (H H' : List Res) [h : SwapBlk b o' H o H'] : SwapBlk b o' (x :: H) o (x :: H') := ⟨.there h.swap⟩
instance SwapBlk.app (b : Nat) (o o' : Obj) (x : Res) (A B H' : List Res) [h : SwapBlk b o' (x :: (A ++ B)) o H'] : SwapBlk b o' ((x :: A) ++ B) o H' := h
instance SwapBlk.app0 (b : Nat) (o o' : Obj) (B H' : List Res) [h : SwapBlk b o' B o H'] : SwapBlk b o' ([] ++ B) o H' := h

end Go.Proofs.YtghjbnbkfohmlaaDoor
