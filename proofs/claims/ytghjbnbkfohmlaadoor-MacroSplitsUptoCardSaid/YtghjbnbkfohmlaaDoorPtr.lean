/-
  Further rules of the judgement: an address against nil; a call that is handed a block and a row.
-/
import Derived.Test.YtghjbnbkfohmlaaDoorBuilt
namespace Go.Proofs.YtghjbnbkfohmlaaDoor
open Go Go.RowKit
set_option linter.unusedVariables false
set_option linter.unusedSimpArgs false
section
variable {P : Program} {n : Nat} {w0 : World} {S : List Nat} {E : List (Nat × Value)} {H G G1 : List Res} {Q : Exit → Act → World → Prop}
variable {dr : Option Dr} {ops : Array Oper} {K : Act → World → Prop} {rest : List Oper} {d : Nat} {ty : TypeId} {pos : String} {after : Array Edge} {x y z : Operand}
theorem run_equal_ptrNil {t e : TypeId} (ht : P.underlying t = some (.pointer e)) (dp : Nat) (a : Option Addr) (w : World) : (Op.equalIn (dp + 1) t (.pointer a) (.pointer none)).run P w = .ok a.isNone w := by
  unfold Op.equalIn
  cases a <;> simp [Sem.run_bind, run_underlying ht]
theorem r_eql_pointer {t t' e : TypeId} {a : Option Addr} {p : Bool} (hd : Nat.blt d n = true) (hx : ev E x = some (.pointer a)) (hy : ev E y = some (.pointer none)) (ht : P.underlying t = some (.pointer e)) (hr : a.isNone = p)
    (hk : Run n w0 S ((d, .bool p) :: E) H (mix P dr ops K rest)) :
    Run n w0 S E H (mix P dr ops K (⟨some d, .binOp .eql t x y t', ty, pos, after, none⟩ :: rest)) :=
  r_bin hd hx hy (fun w => by simp [eqGuard]) (fun w => by
    subst hr
    show (do pure (.bool (← Op.equalIn (9999 + 1) t (.pointer a) (.pointer none))) : Sem Value).run P w = _
    rw [Sem.run_bind, run_equal_ptrNil ht]
    rfl) hk
theorem r_neq_pointer {t t' e : TypeId} {a : Option Addr} {p : Bool} (hd : Nat.blt d n = true) (hx : ev E x = some (.pointer a)) (hy : ev E y = some (.pointer none)) (ht : P.underlying t = some (.pointer e)) (hr : (!a.isNone) = p)
    (hk : Run n w0 S ((d, .bool p) :: E) H (mix P dr ops K rest)) :
    Run n w0 S E H (mix P dr ops K (⟨some d, .binOp .neq t x y t', ty, pos, after, none⟩ :: rest)) :=
  r_bin hd hx hy (fun w => by simp [eqGuard]) (fun w => by
    subst hr
    show (do pure (.bool (!(← Op.equalIn (9999 + 1) t (.pointer a) (.pointer none)))) : Sem Value).run P w = _
    rw [Sem.run_bind, run_equal_ptrNil ht]
    rfl) hk
/-- a box for an array or a struct, an element -/
theorem r_boxV {t : TypeId} {cs : Array Value} (hx : ev E x = some (.agg cs)) (hd : Nat.blt d n = true) (hk : ∀ b, Run n w0 S ((d, .pointer (some ⟨b, 0, none⟩)) :: E) (.blk b (.cells cs t (0, 0)) :: H) (mix P dr ops K rest)) :
    Run n w0 S E H (mix P dr ops K (⟨some d, .box t x, ty, pos, after, none⟩ :: rest)) := r_box hd hx hk
theorem r_box1 {t : TypeId} {v : Value} (hx : ev E x = some v) (hv : v.cells = #[v]) (hd : Nat.blt d n = true) (hk : ∀ b, Run n w0 S ((d, .pointer (some ⟨b, 0, none⟩)) :: E) (.blk b (.cells #[v] t (0, 0)) :: H) (mix P dr ops K rest)) :
    Run n w0 S E H (mix P dr ops K (⟨some d, .box t x, ty, pos, after, none⟩ :: rest)) := r_box hd hx fun b => by rw [hv]; exact hk b
theorem r_allocV {t : TypeId} {cs : Array Value} (hz : (P.info? t).bind (·.zero) = some (.agg cs)) (hd : Nat.blt d n = true) (hk : ∀ b, Run n w0 S ((d, .pointer (some ⟨b, 0, none⟩)) :: E) (.blk b (.cells cs t (0, 0)) :: H) (mix P dr ops K rest)) :
    Run n w0 S E H (mix P dr ops K (⟨some d, .alloc t, ty, pos, after, none⟩ :: rest)) := r_alloc hz hd hk
/-- an element of an array that is a value -/
theorem r_indexAgg {t e : TypeId} {len sz i' : Nat} {k : IntKind} {i : Int} {cs vs : Array Value} (hd : Nat.blt d n = true) (hx : ev E x = some (.agg cs)) (hy : ev E y = some (.int k i)) (ht : P.underlying t = some (.array len e)) (hz : (P.info? e).map (·.size) = some sz) (he : isAggT P e = some true)
    (hi : i = (i' : Nat)) (hlt : i' < len) (hv : cs.extract (i' * sz) (i' * sz + sz) = vs) (hk : Run n w0 S ((d, .agg vs) :: E) H (mix P dr ops K rest)) :
    Run n w0 S E H (mix P dr ops K (⟨some d, .index t x y, ty, pos, after, none⟩ :: rest)) :=
  r_value hd (by cases dr <;> rfl) (fun a ha w => by
    subst hi; subst hv
    obtain ⟨q, hq, hs⟩ := Option.map_eq_some_iff.1 hz
    have h1 : (0 : Int) ≤ (i' : Int) ∧ (i' : Int) < (len : Int) := by omega
    simp [execOp, ha.ev hx, ha.ev hy, Instr.index, asIntOf, run_underlying ht, Sem.run_bind, hlt, part, run_isAgg he, sizeOf, typeInfo, hq, hs]) hk
theorem r_indexCell {t e : TypeId} {len i' : Nat} {k : IntKind} {i : Int} {cs : Array Value} {v : Value} (hd : Nat.blt d n = true) (hx : ev E x = some (.agg cs)) (hy : ev E y = some (.int k i)) (ht : P.underlying t = some (.array len e)) (hz : (P.info? e).map (·.size) = some 1) (he : isAggT P e = some false)
    (hi : i = (i' : Nat)) (hlt : i' < len) (hv : cs[i']? = some v) (hk : Run n w0 S ((d, v) :: E) H (mix P dr ops K rest)) :
    Run n w0 S E H (mix P dr ops K (⟨some d, .index t x y, ty, pos, after, none⟩ :: rest)) :=
  r_value hd (by cases dr <;> rfl) (fun a ha w => by
    subst hi
    obtain ⟨q, hq, hs⟩ := Option.map_eq_some_iff.1 hz
    simp [execOp, ha.ev hx, ha.ev hy, Instr.index, asIntOf, run_underlying ht, Sem.run_bind, hlt, part, run_isAgg he, sizeOf, typeInfo, hq, hs, hv]) hk
/-- a call that is handed a block and a row -/
theorem r_callbo (b : Nat) (v0 : Value) {o : Obj} {T sz m : Nat} {xs : List Value} {ι : Type} {f : Operand} {args : List Operand} {tys : Array TypeId} {g : FuncId} {vs cs us : List Value} {v : ι → Value} {A' : ι → List Res} {φ : ι → Prop} [hb : HasBlk b H o G1] [ho : HasOwn v0 G1 T sz m xs G]
    (hf : ev E f = some (.func (.func g) #[] cs.toArray)) (ha : evs E args = some vs) (hu : vs ++ cs = us) (hg : callable P g = true) (hd : Nat.blt d n = true)
    (hc : ∀ w, Sat w ([Res.blk b o, .own T sz v0 m xs].filterMap Res.foot) [.blk b o, .own T sz v0 m xs] w → Calls P g us.toArray w fun e w' => ∃ i, e = .returned (v i) ∧ φ i ∧ Sat w ([Res.blk b o, .own T sz v0 m xs].filterMap Res.foot) (A' i) w')
    (hk : ∀ i, φ i → Run n w0 S ((d, v i) :: E) (A' i ++ G) (mix P dr ops K rest)) (hok : OkAct dr (some d) ([Res.blk b o, .own T sz v0 m xs].filterMap Res.foot) := by first | exact True.intro | (simp [OkAct, dstIn]; done) | (simp [OkAct, dstIn, *]; done)) :
    Run n w0 S E H (mix P dr ops K (⟨some d, .call { callee := .value f, args := args.toArray, argTypes := tys }, ty, pos, after, none⟩ :: rest)) :=
  r_callm (A := [.blk b o, .own T sz v0 m xs]) (G := G) (hb.pick.perm.trans (ho.pick.perm.cons _)) hf ha hu hg hd (fun w _ hs => hc w hs) hk hok
theorem r_callbo0 (b : Nat) (v0 : Value) {o : Obj} {T sz m : Nat} {xs : List Value} {f : Operand} {args : List Operand} {tys : Array TypeId} {g : FuncId} {vs cs us : List Value} {v : Value} {A' : List Res} [hb : HasBlk b H o G1] [ho : HasOwn v0 G1 T sz m xs G]
    (hf : ev E f = some (.func (.func g) #[] cs.toArray)) (ha : evs E args = some vs) (hu : vs ++ cs = us) (hg : callable P g = true) (hd : Nat.blt d n = true)
    (hc : ∀ w, Sat w ([Res.blk b o, .own T sz v0 m xs].filterMap Res.foot) [.blk b o, .own T sz v0 m xs] w → Calls P g us.toArray w fun e w' => e = .returned v ∧ Sat w ([Res.blk b o, .own T sz v0 m xs].filterMap Res.foot) A' w')
    (hk : Run n w0 S ((d, v) :: E) (A' ++ G) (mix P dr ops K rest)) (hok : OkAct dr (some d) ([Res.blk b o, .own T sz v0 m xs].filterMap Res.foot) := by first | exact True.intro | (simp [OkAct, dstIn]; done) | (simp [OkAct, dstIn, *]; done)) :
    Run n w0 S E H (mix P dr ops K (⟨some d, .call { callee := .value f, args := args.toArray, argTypes := tys }, ty, pos, after, none⟩ :: rest)) :=
  r_callbo (ι := Unit) b v0 (v := fun _ => v) (A' := fun _ => A') (φ := fun _ => True) hf ha hu hg hd (fun w hs => (hc w hs).mono fun _ _ ⟨he, hs⟩ => ⟨(), he, trivial, hs⟩) (fun _ _ => hk) hok
end
end Go.Proofs.YtghjbnbkfohmlaaDoor
