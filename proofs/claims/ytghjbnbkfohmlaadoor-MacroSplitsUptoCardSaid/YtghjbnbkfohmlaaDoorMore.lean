/-
  More rules of the judgement: rounds that are counted by a number; further operations.
-/
import Derived.Test.YtghjbnbkfohmlaaDoorSlice
import Derived.Test.YtghjbnbkfohmlaaDoorEq
namespace Go.Proofs.YtghjbnbkfohmlaaDoor
open Go Go.RowKit
set_option linter.unusedVariables false
section
variable {P : Program} {n : Nat} {w0 : World} {S : List Nat} {E : List (Nat × Value)} {H G : List Res} {Q : Exit → Act → World → Prop}
/-- a guard on a slot that was passed over -/
theorem r_passU {dr : Option Dr} {ops : Array Oper} {K : Act → World → Prop} {rest : List Oper} {d j t : Nat} {op : Op} {ty : TypeId} {pos : String} {after : Array Edge} {want : Bool} (hj : (ops[j]?).bind (·.dst) = some t) (hb : lk E t = some undef) (hd : Nat.blt d n = true)
    (hk : Run n w0 S ((d, undef) :: E) H (mix P dr ops K rest)) : Run n w0 S E H (mix P dr ops K (⟨some d, op, ty, pos, after, some (j, want)⟩ :: rest)) := by
  intro a w ha hw
  have hwn : Region.wanted ⟨some d, op, ty, pos, after, some (j, want)⟩ (yielded ops a.tmps) = false := by
    simp [Region.wanted, yielded, hj, ha.val t _ hb, undef]
  have h2 := hk _ w (ha.put hd undef) hw
  cases dr <;> simp only [mix, stepOp, stepS, hwn, Bool.false_eq_true, if_false] <;> exact h2
/-- a literal, by its cells -/
theorem r_lit {dr : Option Dr} {ops : Array Oper} {K : Act → World → Prop} {rest : List Oper} {d : Nat} {ty : TypeId} {pos : String} {after : Array Edge} {t e : TypeId} {len sz : Nat} {z : Value} {parts : List (Nat × Operand)} {pv : List (Nat × Value)} {cells : Array Value} (hd : Nat.blt d n = true) (ht : P.underlying t = some (.slice e)) (hz : (P.info? e).map (·.size) = some sz) (hzero : (P.info? e).bind (·.zero) = some z)
    (hv : evp E parts = some pv) (hlen : Nat.ble (len * sz) 4096 = true)
    (hf : Instr.fill (fun i => some (i * sz, sz)) ((Array.range (len * sz)).map ((if len * sz = 0 then #[] else z.cells)[· % (if len * sz = 0 then #[] else z.cells).size]!)) pv = some cells) (hs : cells.size = len * sz)
    (hk : ∀ b, Run n w0 S ((d, .slice (some ⟨b, 0, none⟩) len len) :: E) (.own e sz (.slice (some ⟨b, 0, none⟩) len len) len cells.toList :: H) (mix P dr ops K rest)) (hl : len ≤ 4096) :
    Run n w0 S E H (mix P dr ops K (⟨some d, .buildSlice t len parts.toArray, ty, pos, after, none⟩ :: rest)) :=
  r_buildSlice hd ht hz hzero (fun a ha => ha.evp hv) hlen hf hs hk hl
theorem r_loopN (E' : Nat → List (Nat × Value)) (H' : Nat → List Res) (p : Nat → Prop) (N k0 : Nat) {c : Code} (hp : p k0) (he : lkAll E (E' k0)) (hh : ∀ w, Sat w0 S H w → Sat w0 S (H' k0) w)
    (round : ∀ k, p k → Run n w0 S (E' k) (H' k) (c.wp P (Exit.then (fun a w => ∃ j, p j ∧ N - j < N - k ∧ Holds n (E' j) a ∧ Sat w0 S (H' j) w) Q))) :
    Run n w0 S E H ((Code.loop c).wp P Q) := by
  refine r_loop (ι := { k : Nat // p k }) (fun i => (E' i.1, H' i.1)) (fun i => N - i.1) ⟨k0, hp⟩ he hh fun i => ?_
  intro a w ha hw
  refine Code.wp_mono (fun e a' w' q => ?_) (round i.1 i.2 a w ha hw)
  cases e <;> first | exact q | skip
  obtain ⟨j, hj, hlt, haj, hwj⟩ := q
  exact ⟨⟨j, hj⟩, hlt, haj, hwj⟩
theorem r_againN {E' : Nat → List (Nat × Value)} {H' : Nat → List Res} {p : Nat → Prop} {N k : Nat} (j : Nat) (hp : p j) (hlt : N - j < N - k) (he : lkAll E (E' j)) (hh : ∀ w, Sat w0 S H w → Sat w0 S (H' j) w) :
    Run n w0 S E H (fun a w => ∃ j, p j ∧ N - j < N - k ∧ Holds n (E' j) a ∧ Sat w0 S (H' j) w) :=
  fun _ w ha hw => ⟨j, hp, hlt, ha.weak (lkAll_mem he), hh w hw⟩
theorem r_loop1 {T0 : Type} (E' : Nat → T0 → List (Nat × Value)) (H' : Nat → T0 → List Res) (p : Nat → T0 → Prop) (N k0 : Nat) (x0 : T0) {c : Code} (hp : p k0 x0) (he : lkAll E (E' k0 x0)) (hh : ∀ w, Sat w0 S H w → Sat w0 S (H' k0 x0) w)
    (round : ∀ k (x : T0), p k x → Run n w0 S (E' k x) (H' k x) (c.wp P (Exit.then (fun a w => ∃ j j0, p j j0 ∧ N - j < N - k ∧ Holds n (E' j j0) a ∧ Sat w0 S (H' j j0) w) Q))) :
    Run n w0 S E H ((Code.loop c).wp P Q) := by
  refine r_loop (ι := { i : Nat × T0 // p i.1 i.2 }) (fun i => (E' i.1.1 i.1.2, H' i.1.1 i.1.2)) (fun i => N - i.1.1) ⟨(k0, x0), hp⟩ he hh fun i => ?_
  intro a w ha hw
  refine Code.wp_mono (fun e a' w' q => ?_) (round i.1.1 i.1.2 i.2 a w ha hw)
  cases e <;> first | exact q | skip
  obtain ⟨j, j0, hj, hlt, haj, hwj⟩ := q
  exact ⟨⟨(j, j0), hj⟩, hlt, haj, hwj⟩
theorem r_again1 {T0 : Type} {E' : Nat → T0 → List (Nat × Value)} {H' : Nat → T0 → List Res} {p : Nat → T0 → Prop} {N k : Nat} (j : Nat) (j0 : T0) (hp : p j j0) (hlt : N - j < N - k) (he : lkAll E (E' j j0)) (hh : ∀ w, Sat w0 S H w → Sat w0 S (H' j j0) w) :
    Run n w0 S E H (fun a w => ∃ j j0, p j j0 ∧ N - j < N - k ∧ Holds n (E' j j0) a ∧ Sat w0 S (H' j j0) w) :=
  fun _ w ha hw => ⟨j, j0, hp, hlt, ha.weak (lkAll_mem he), hh w hw⟩
theorem r_loop2 {T0 : Type} {T1 : Type} (E' : Nat → T0 → T1 → List (Nat × Value)) (H' : Nat → T0 → T1 → List Res) (p : Nat → T0 → T1 → Prop) (N k0 : Nat) (x0 : T0) (y0 : T1) {c : Code} (hp : p k0 x0 y0) (he : lkAll E (E' k0 x0 y0)) (hh : ∀ w, Sat w0 S H w → Sat w0 S (H' k0 x0 y0) w)
    (round : ∀ k (x : T0) (y : T1), p k x y → Run n w0 S (E' k x y) (H' k x y) (c.wp P (Exit.then (fun a w => ∃ j j0 j1, p j j0 j1 ∧ N - j < N - k ∧ Holds n (E' j j0 j1) a ∧ Sat w0 S (H' j j0 j1) w) Q))) :
    Run n w0 S E H ((Code.loop c).wp P Q) := by
  refine r_loop (ι := { i : Nat × T0 × T1 // p i.1 i.2.1 i.2.2 }) (fun i => (E' i.1.1 i.1.2.1 i.1.2.2, H' i.1.1 i.1.2.1 i.1.2.2)) (fun i => N - i.1.1) ⟨(k0, x0, y0), hp⟩ he hh fun i => ?_
  intro a w ha hw
  refine Code.wp_mono (fun e a' w' q => ?_) (round i.1.1 i.1.2.1 i.1.2.2 i.2 a w ha hw)
  cases e <;> first | exact q | skip
  obtain ⟨j, j0, j1, hj, hlt, haj, hwj⟩ := q
  exact ⟨⟨(j, j0, j1), hj⟩, hlt, haj, hwj⟩
theorem r_again2 {T0 : Type} {T1 : Type} {E' : Nat → T0 → T1 → List (Nat × Value)} {H' : Nat → T0 → T1 → List Res} {p : Nat → T0 → T1 → Prop} {N k : Nat} (j : Nat) (j0 : T0) (j1 : T1) (hp : p j j0 j1) (hlt : N - j < N - k) (he : lkAll E (E' j j0 j1)) (hh : ∀ w, Sat w0 S H w → Sat w0 S (H' j j0 j1) w) :
    Run n w0 S E H (fun a w => ∃ j j0 j1, p j j0 j1 ∧ N - j < N - k ∧ Holds n (E' j j0 j1) a ∧ Sat w0 S (H' j j0 j1) w) :=
  fun _ w ha hw => ⟨j, j0, j1, hp, hlt, ha.weak (lkAll_mem he), hh w hw⟩
theorem r_loop3 {T0 : Type} {T1 : Type} {T2 : Type} (E' : Nat → T0 → T1 → T2 → List (Nat × Value)) (H' : Nat → T0 → T1 → T2 → List Res) (p : Nat → T0 → T1 → T2 → Prop) (N k0 : Nat) (x0 : T0) (y0 : T1) (z0 : T2) {c : Code} (hp : p k0 x0 y0 z0) (he : lkAll E (E' k0 x0 y0 z0)) (hh : ∀ w, Sat w0 S H w → Sat w0 S (H' k0 x0 y0 z0) w)
    (round : ∀ k (x : T0) (y : T1) (z : T2), p k x y z → Run n w0 S (E' k x y z) (H' k x y z) (c.wp P (Exit.then (fun a w => ∃ j j0 j1 j2, p j j0 j1 j2 ∧ N - j < N - k ∧ Holds n (E' j j0 j1 j2) a ∧ Sat w0 S (H' j j0 j1 j2) w) Q))) :
    Run n w0 S E H ((Code.loop c).wp P Q) := by
  refine r_loop (ι := { i : Nat × T0 × T1 × T2 // p i.1 i.2.1 i.2.2.1 i.2.2.2 }) (fun i => (E' i.1.1 i.1.2.1 i.1.2.2.1 i.1.2.2.2, H' i.1.1 i.1.2.1 i.1.2.2.1 i.1.2.2.2)) (fun i => N - i.1.1) ⟨(k0, x0, y0, z0), hp⟩ he hh fun i => ?_
  intro a w ha hw
  refine Code.wp_mono (fun e a' w' q => ?_) (round i.1.1 i.1.2.1 i.1.2.2.1 i.1.2.2.2 i.2 a w ha hw)
  cases e <;> first | exact q | skip
  obtain ⟨j, j0, j1, j2, hj, hlt, haj, hwj⟩ := q
  exact ⟨⟨(j, j0, j1, j2), hj⟩, hlt, haj, hwj⟩
theorem r_again3 {T0 : Type} {T1 : Type} {T2 : Type} {E' : Nat → T0 → T1 → T2 → List (Nat × Value)} {H' : Nat → T0 → T1 → T2 → List Res} {p : Nat → T0 → T1 → T2 → Prop} {N k : Nat} (j : Nat) (j0 : T0) (j1 : T1) (j2 : T2) (hp : p j j0 j1 j2) (hlt : N - j < N - k) (he : lkAll E (E' j j0 j1 j2)) (hh : ∀ w, Sat w0 S H w → Sat w0 S (H' j j0 j1 j2) w) :
    Run n w0 S E H (fun a w => ∃ j j0 j1 j2, p j j0 j1 j2 ∧ N - j < N - k ∧ Holds n (E' j j0 j1 j2) a ∧ Sat w0 S (H' j j0 j1 j2) w) :=
  fun _ w ha hw => ⟨j, j0, j1, j2, hp, hlt, ha.weak (lkAll_mem he), hh w hw⟩
theorem r_loop4 {T0 : Type} {T1 : Type} {T2 : Type} {T3 : Type} (E' : Nat → T0 → T1 → T2 → T3 → List (Nat × Value)) (H' : Nat → T0 → T1 → T2 → T3 → List Res) (p : Nat → T0 → T1 → T2 → T3 → Prop) (N k0 : Nat) (x0 : T0) (y0 : T1) (z0 : T2) (u0 : T3) {c : Code} (hp : p k0 x0 y0 z0 u0) (he : lkAll E (E' k0 x0 y0 z0 u0)) (hh : ∀ w, Sat w0 S H w → Sat w0 S (H' k0 x0 y0 z0 u0) w)
    (round : ∀ k (x : T0) (y : T1) (z : T2) (u : T3), p k x y z u → Run n w0 S (E' k x y z u) (H' k x y z u) (c.wp P (Exit.then (fun a w => ∃ j j0 j1 j2 j3, p j j0 j1 j2 j3 ∧ N - j < N - k ∧ Holds n (E' j j0 j1 j2 j3) a ∧ Sat w0 S (H' j j0 j1 j2 j3) w) Q))) :
    Run n w0 S E H ((Code.loop c).wp P Q) := by
  refine r_loop (ι := { i : Nat × T0 × T1 × T2 × T3 // p i.1 i.2.1 i.2.2.1 i.2.2.2.1 i.2.2.2.2 }) (fun i => (E' i.1.1 i.1.2.1 i.1.2.2.1 i.1.2.2.2.1 i.1.2.2.2.2, H' i.1.1 i.1.2.1 i.1.2.2.1 i.1.2.2.2.1 i.1.2.2.2.2)) (fun i => N - i.1.1) ⟨(k0, x0, y0, z0, u0), hp⟩ he hh fun i => ?_
  intro a w ha hw
  refine Code.wp_mono (fun e a' w' q => ?_) (round i.1.1 i.1.2.1 i.1.2.2.1 i.1.2.2.2.1 i.1.2.2.2.2 i.2 a w ha hw)
  cases e <;> first | exact q | skip
  obtain ⟨j, j0, j1, j2, j3, hj, hlt, haj, hwj⟩ := q
  exact ⟨⟨(j, j0, j1, j2, j3), hj⟩, hlt, haj, hwj⟩
theorem r_again4 {T0 : Type} {T1 : Type} {T2 : Type} {T3 : Type} {E' : Nat → T0 → T1 → T2 → T3 → List (Nat × Value)} {H' : Nat → T0 → T1 → T2 → T3 → List Res} {p : Nat → T0 → T1 → T2 → T3 → Prop} {N k : Nat} (j : Nat) (j0 : T0) (j1 : T1) (j2 : T2) (j3 : T3) (hp : p j j0 j1 j2 j3) (hlt : N - j < N - k) (he : lkAll E (E' j j0 j1 j2 j3)) (hh : ∀ w, Sat w0 S H w → Sat w0 S (H' j j0 j1 j2 j3) w) :
    Run n w0 S E H (fun a w => ∃ j j0 j1 j2 j3, p j j0 j1 j2 j3 ∧ N - j < N - k ∧ Holds n (E' j j0 j1 j2 j3) a ∧ Sat w0 S (H' j j0 j1 j2 j3) w) :=
  fun _ w ha hw => ⟨j, j0, j1, j2, j3, hp, hlt, ha.weak (lkAll_mem he), hh w hw⟩
theorem r_loop5 {T0 : Type} {T1 : Type} {T2 : Type} {T3 : Type} {T4 : Type} (E' : Nat → T0 → T1 → T2 → T3 → T4 → List (Nat × Value)) (H' : Nat → T0 → T1 → T2 → T3 → T4 → List Res) (p : Nat → T0 → T1 → T2 → T3 → T4 → Prop) (N k0 : Nat) (x0 : T0) (y0 : T1) (z0 : T2) (u0 : T3) (v0 : T4) {c : Code} (hp : p k0 x0 y0 z0 u0 v0) (he : lkAll E (E' k0 x0 y0 z0 u0 v0)) (hh : ∀ w, Sat w0 S H w → Sat w0 S (H' k0 x0 y0 z0 u0 v0) w)
    (round : ∀ k (x : T0) (y : T1) (z : T2) (u : T3) (v : T4), p k x y z u v → Run n w0 S (E' k x y z u v) (H' k x y z u v) (c.wp P (Exit.then (fun a w => ∃ j j0 j1 j2 j3 j4, p j j0 j1 j2 j3 j4 ∧ N - j < N - k ∧ Holds n (E' j j0 j1 j2 j3 j4) a ∧ Sat w0 S (H' j j0 j1 j2 j3 j4) w) Q))) :
    Run n w0 S E H ((Code.loop c).wp P Q) := by
  refine r_loop (ι := { i : Nat × T0 × T1 × T2 × T3 × T4 // p i.1 i.2.1 i.2.2.1 i.2.2.2.1 i.2.2.2.2.1 i.2.2.2.2.2 }) (fun i => (E' i.1.1 i.1.2.1 i.1.2.2.1 i.1.2.2.2.1 i.1.2.2.2.2.1 i.1.2.2.2.2.2, H' i.1.1 i.1.2.1 i.1.2.2.1 i.1.2.2.2.1 i.1.2.2.2.2.1 i.1.2.2.2.2.2)) (fun i => N - i.1.1) ⟨(k0, x0, y0, z0, u0, v0), hp⟩ he hh fun i => ?_
  intro a w ha hw
  refine Code.wp_mono (fun e a' w' q => ?_) (round i.1.1 i.1.2.1 i.1.2.2.1 i.1.2.2.2.1 i.1.2.2.2.2.1 i.1.2.2.2.2.2 i.2 a w ha hw)
  cases e <;> first | exact q | skip
  obtain ⟨j, j0, j1, j2, j3, j4, hj, hlt, haj, hwj⟩ := q
  exact ⟨⟨(j, j0, j1, j2, j3, j4), hj⟩, hlt, haj, hwj⟩
theorem r_again5 {T0 : Type} {T1 : Type} {T2 : Type} {T3 : Type} {T4 : Type} {E' : Nat → T0 → T1 → T2 → T3 → T4 → List (Nat × Value)} {H' : Nat → T0 → T1 → T2 → T3 → T4 → List Res} {p : Nat → T0 → T1 → T2 → T3 → T4 → Prop} {N k : Nat} (j : Nat) (j0 : T0) (j1 : T1) (j2 : T2) (j3 : T3) (j4 : T4) (hp : p j j0 j1 j2 j3 j4) (hlt : N - j < N - k) (he : lkAll E (E' j j0 j1 j2 j3 j4)) (hh : ∀ w, Sat w0 S H w → Sat w0 S (H' j j0 j1 j2 j3 j4) w) :
    Run n w0 S E H (fun a w => ∃ j j0 j1 j2 j3 j4, p j j0 j1 j2 j3 j4 ∧ N - j < N - k ∧ Holds n (E' j j0 j1 j2 j3 j4) a ∧ Sat w0 S (H' j j0 j1 j2 j3 j4) w) :=
  fun _ w ha hw => ⟨j, j0, j1, j2, j3, j4, hp, hlt, ha.weak (lkAll_mem he), hh w hw⟩

/-- a slice of the call's own, cut short -/
theorem Sat.ownTake {T sz m c j : Nat} {A : Option Addr} {xs : List Value} {w : World} {G : List Res} (h : Sat w0 S (.own T sz (.slice A m c) m xs :: G) w) (hj : j ≤ m) : Sat w0 S (.own T sz (.slice A j c) j (xs.take (j * sz)) :: G) w := by
  refine h.write (by cases A <;> rfl) rfl rfl rfl (Nat.le_refl _) (fun _ _ _ => rfl) ?_
  have ho := h.ok _ (.head _)
  have hl := ho.1
  refine ⟨by rw [List.length_take, hl]; exact Nat.min_eq_left (Nat.mul_le_mul_right _ hj), ?_⟩
  rcases ho.2 with ⟨h1, h2⟩ | ⟨g, cap, cur, h1, h2, h3, h4, h5, h6, h7⟩
  · subst h2
    obtain rfl : j = 0 := by omega
    injection h1 with h1 h8 h9
    subst h1; subst h9
    exact .inl ⟨rfl, rfl⟩
  · injection h1 with h1 h8 h9
    subst h1; subst h9
    refine .inr ⟨g, c, cur, rfl, h2, h3, by omega, h5, h6, ?_⟩
    rw [← h7, List.take_take, Nat.min_eq_left (Nat.mul_le_mul_right _ hj)]
theorem Run.ownTake {Gl : Act → World → Prop} {T sz m c j : Nat} {A : Option Addr} {xs : List Value} (v : Value) (hv : v = .slice A m c) [hp : HasOwn v H T sz m xs G] (hj : j ≤ m)
    (h : Run n w0 S E (.own T sz (.slice A j c) j (xs.take (j * sz)) :: G) Gl) : Run n w0 S E H Gl := fun a w ha hw => by
  subst hv
  exact h a w ha ((hw.pick hp.pick).ownTake hj)

/-- a part of a list of things, in any order: found by Lean -/
class SubRes (H2 H : List Res) : Prop where
  sub : ∃ G, H.Perm (H2 ++ G)
instance SubRes.nil (H : List Res) : SubRes [] H := ⟨⟨H, .refl _⟩⟩
instance SubRes.blk (b : Nat) (o : Obj) (H2 H G : List Res) [h : HasBlk b H o G] [h2 : SubRes H2 G] : SubRes (.blk b o :: H2) H :=
  ⟨by obtain ⟨G', hp⟩ := h2.sub; exact ⟨G', h.pick.perm.trans (hp.cons _)⟩⟩
instance SubRes.own (v : Value) (T sz m : Nat) (xs : List Value) (H2 H G : List Res) [h : HasOwn v H T sz m xs G] [h2 : SubRes H2 G] : SubRes (.own T sz v m xs :: H2) H :=
  ⟨by obtain ⟨G', hp⟩ := h2.sub; exact ⟨G', h.pick.perm.trans (hp.cons _)⟩⟩
theorem Sat.front {A G : List Res} {w : World} (h : Sat w0 S (A ++ G) w) : Sat w0 S A w :=
  ⟨h.os, h.tape, h.output, h.size, h.keep, fun r hr => h.ok r (List.mem_append.2 (.inl hr)), fun r hr => h.feet r (List.mem_append.2 (.inl hr)), (List.pairwise_append.1 h.apart).1⟩
theorem Sat.sub {H2 : List Res} {w : World} (h : Sat w0 S H w) [s : SubRes H2 H] : Sat w0 S H2 w := by
  obtain ⟨G, hp⟩ := s.sub
  exact (h.perm hp).front
/-- a call that is handed a slice of the call's own -/
theorem r_callo (v0 : Value) {T sz m : Nat} {xs : List Value} {dr : Option Dr} {ops : Array Oper} {K : Act → World → Prop} {rest : List Oper} {d : Nat} {ty : TypeId} {pos : String} {after : Array Edge} {ι : Type} {f : Operand} {args : List Operand} {tys : Array TypeId} {g : FuncId} {vs cs us : List Value} {v : ι → Value} {A' : ι → List Res} {φ : ι → Prop} [ho : HasOwn v0 H T sz m xs G]
    (hf : ev E f = some (.func (.func g) #[] cs.toArray)) (ha : evs E args = some vs) (hu : vs ++ cs = us) (hg : callable P g = true) (hd : Nat.blt d n = true)
    (hc : ∀ w, Sat w ([Res.own T sz v0 m xs].filterMap Res.foot) [.own T sz v0 m xs] w → Calls P g us.toArray w fun e w' => ∃ i, e = .returned (v i) ∧ φ i ∧ Sat w ([Res.own T sz v0 m xs].filterMap Res.foot) (A' i) w')
    (hk : ∀ i, φ i → Run n w0 S ((d, v i) :: E) (A' i ++ G) (mix P dr ops K rest)) (hok : OkAct dr (some d) ([Res.own T sz v0 m xs].filterMap Res.foot) := by first | exact True.intro | (simp [OkAct, dstIn]; done) | (simp [OkAct, dstIn, *]; done)) :
    Run n w0 S E H (mix P dr ops K (⟨some d, .call { callee := .value f, args := args.toArray, argTypes := tys }, ty, pos, after, none⟩ :: rest)) :=
  r_callm (A := [.own T sz v0 m xs]) (G := G) ho.pick.perm hf ha hu hg hd (fun w _ hs => hc w hs) hk hok
end
end Go.Proofs.YtghjbnbkfohmlaaDoor
