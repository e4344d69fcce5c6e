/-
  Further rules: a value of several cells out of a row that is only read; a call that is handed a block and looks at others.
-/
import Derived.Test.YtghjbnbkfohmlaaDoorPtr
namespace Go.Proofs.YtghjbnbkfohmlaaDoor
open Go Go.RowKit
set_option linter.unusedVariables false
section
variable {P : Program} {n : Nat} {w0 : World} {S : List Nat} {E : List (Nat × Value)} {H G : List Res} {Q : Exit → Act → World → Prop}
variable {dr : Option Dr} {ops : Array Oper} {K : Act → World → Prop} {rest : List Oper} {d : Nat} {ty : TypeId} {pos : String} {after : Array Edge} {x y : Operand}
theorem r_loadRd {t : TypeId} {b off m : Nat} {vs : List Value} (hx : ev E x = some (.pointer (some ⟨b, off, none⟩)))
    (ht : isAggT P t = some true) (hm : (P.info? t).map (·.size) = some m) (hd : Nat.blt d n = true) (hl : vs.length = m) (hv : ∀ w, Sat w0 S H w → Rd w (some ⟨b, off, none⟩) vs)
    (hk : Run n w0 S ((d, .agg vs.toArray) :: E) H (mix P dr ops K rest)) (hok : OkRead dr d b := by first | exact True.intro | (simp [OkRead]; done) | (simp [OkRead, *]; done)) :
    Run n w0 S E H (mix P dr ops K (⟨some d, .load t x, ty, pos, after, none⟩ :: rest)) :=
  r_read hd (by cases dr <;> rfl) rfl hx hok (fun a ha w hw w' hb => by
    obtain ⟨i, hi, hs⟩ := Option.map_eq_some_iff.1 hm
    have h1 := run_loadCells_list (P := P) w' ⟨b, off, none⟩ vs (fun j v hj => by
      have hadd : (⟨b, off, none⟩ : Addr).add j = ⟨b, off + j, none⟩ := by unfold Addr.add; split <;> simp_all
      rw [hadd]
      exact (World.cell?_of_block (a := ⟨b, off + j, none⟩) (w := w) hb).trans ((hv w hw).cell hj rfl))
    rw [hl] at h1
    simp [execOp, ha.ev hx, Instr.loadAt, Instr.sureAddr, loadVar, Sem.run_bind, run_isAgg ht, Result.andThen, sizeOf, typeInfo, hi, hs, h1]) hk
theorem r_callbw {b : Nat} {o : Obj} {ι : Type} {f : Operand} {args : List Operand} {tys : Array TypeId} {g : FuncId} {vs cs us : List Value} {v : ι → Value} {A' : ι → List Res} {φ : ι → Prop} [hb : HasBlk b H o G]
    (hf : ev E f = some (.func (.func g) #[] cs.toArray)) (ha : evs E args = some vs) (hu : vs ++ cs = us) (hg : callable P g = true) (hd : Nat.blt d n = true)
    (hc : ∀ w, Sat w0 S H w → Sat w [b] [.blk b o] w → Calls P g us.toArray w fun e w' => ∃ i, e = .returned (v i) ∧ φ i ∧ Sat w [b] (A' i) w')
    (hk : ∀ i, φ i → Run n w0 S ((d, v i) :: E) (A' i ++ G) (mix P dr ops K rest)) (hok : OkAct dr (some d) [b] := by first | exact True.intro | (simp [OkAct, dstIn]; done) | (simp [OkAct, dstIn, *]; done)) :
    Run n w0 S E H (mix P dr ops K (⟨some d, .call { callee := .value f, args := args.toArray, argTypes := tys }, ty, pos, after, none⟩ :: rest)) :=
  r_callm (A := [.blk b o]) (G := G) hb.pick.perm hf ha hu hg hd (fun w hw hs => hc w (hw.perm hb.pick.perm.symm) hs) hk hok
theorem r_callbw0 {b : Nat} {o : Obj} {f : Operand} {args : List Operand} {tys : Array TypeId} {g : FuncId} {vs cs us : List Value} {v : Value} {A' : List Res} [hb : HasBlk b H o G]
    (hf : ev E f = some (.func (.func g) #[] cs.toArray)) (ha : evs E args = some vs) (hu : vs ++ cs = us) (hg : callable P g = true) (hd : Nat.blt d n = true)
    (hc : ∀ w, Sat w0 S H w → Sat w [b] [.blk b o] w → Calls P g us.toArray w fun e w' => e = .returned v ∧ Sat w [b] A' w')
    (hk : Run n w0 S ((d, v) :: E) (A' ++ G) (mix P dr ops K rest)) (hok : OkAct dr (some d) [b] := by first | exact True.intro | (simp [OkAct, dstIn]; done) | (simp [OkAct, dstIn, *]; done)) :
    Run n w0 S E H (mix P dr ops K (⟨some d, .call { callee := .value f, args := args.toArray, argTypes := tys }, ty, pos, after, none⟩ :: rest)) :=
  r_callbw (ι := Unit) (v := fun _ => v) (A' := fun _ => A') (φ := fun _ => True) (b := b) hf ha hu hg hd (fun w hw hs => (hc w hw hs).mono fun _ _ ⟨he, hs⟩ => ⟨(), he, trivial, hs⟩) (fun _ _ => hk) hok
end
end Go.Proofs.YtghjbnbkfohmlaaDoor
