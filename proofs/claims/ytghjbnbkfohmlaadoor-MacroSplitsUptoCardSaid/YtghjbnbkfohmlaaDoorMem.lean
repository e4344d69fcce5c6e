/-
  Rules of the judgement 'Run' for operations that touch memory, for calls, and for a function's beginning and end. No program in sight.
-/
import Derived.Test.YtghjbnbkfohmlaaDoorRun
namespace Go.Proofs.YtghjbnbkfohmlaaDoor
open Go Go.RowKit
set_option linter.unusedVariables false
set_option linter.unusedSimpArgs false

section
variable {P : Program} {n : Nat} {w0 : World} {S : List Nat} {E E' : List (Nat × Value)} {H H' G : List Res} {o : Obj} {Q : Exit → Act → World → Prop}
variable {dr : Option Dr} {ops : Array Oper} {K : Act → World → Prop} {rest : List Oper} {d : Nat} {ty : TypeId} {pos : String} {after : Array Edge} {x y : Operand}

/-! ### New blocks, loads, stores -/
theorem keep_alloc (w : World) (o : Obj) (X : List Nat) : Keep X w (w.alloc o) := ⟨by simp, fun k hk _ => Below.heap_alloc w o k hk⟩
theorem okAct_nil {dst : Option Tmp} : OkAct dr dst [] := by cases dr <;> simp [OkAct]
theorem Sat.kept {w w' : World} {T : List Nat} {A : List Res} (h : Sat w T A w') : Keep T w w' := ⟨h.size, h.keep⟩

theorem r_box {T : TypeId} {v : Value} (hd : Nat.blt d n = true) (hx : ev E x = some v)
    (hk : ∀ b, Run n w0 S ((d, .pointer (some ⟨b, 0, none⟩)) :: E) (.blk b (.cells v.cells T (0, 0)) :: H) (mix P dr ops K rest)) :
    Run n w0 S E H (mix P dr ops K (⟨some d, .box T x, ty, pos, after, none⟩ :: rest)) :=
  r_act (X := []) (by cases dr <;> rfl) okAct_nil fun a w ha hw => by
    have h := hk _ _ _ (ha.put hd (.pointer (some ⟨w.heap.size, 0, none⟩))) (hw.alloc (.cells v.cells T))
    have hkp := keep_alloc w (.cells v.cells T) []
    have e := ha.ev hx
    subst e
    simpa [execOp, Instr.box, newVar, newRow, Result.andThen, Sem.run_bind, actUpon] using And.intro hkp h

theorem r_alloc {T : TypeId} {z : Value} (hz : (P.info? T).bind (·.zero) = some z) (hd : Nat.blt d n = true)
    (hk : ∀ b, Run n w0 S ((d, .pointer (some ⟨b, 0, none⟩)) :: E) (.blk b (.cells z.cells T (0, 0)) :: H) (mix P dr ops K rest)) :
    Run n w0 S E H (mix P dr ops K (⟨some d, .alloc T, ty, pos, after, none⟩ :: rest)) :=
  r_act (X := []) (by cases dr <;> rfl) okAct_nil fun a w ha hw => by
    have h := hk _ _ _ (ha.put hd (.pointer (some ⟨w.heap.size, 0, none⟩))) (hw.alloc (.cells z.cells T))
    have hkp := keep_alloc w (.cells z.cells T) []
    obtain ⟨i, hi, hz⟩ := Option.bind_eq_some_iff.1 hz
    simpa [execOp, Instr.alloc, zeroValue, typeInfo, hi, hz, newVar, newRow, Result.andThen, Sem.run_bind, actUpon] using And.intro hkp h

/-- one cell, of which a fact is known -/
theorem r_loadC {t : TypeId} {p : Addr} {v : Value} (hx : ev E x = some (.pointer (some p))) (ht : isAggT P t = some false) (hd : Nat.blt d n = true) (hv : ∀ w, Sat w0 S H w → w.cell? p = some v)
    (hk : Run n w0 S ((d, v) :: E) H (mix P dr ops K rest)) (hok : OkRead dr d p.block := by first | exact True.intro | (simp [OkRead]; done) | (simp [OkRead, *]; done)) :
    Run n w0 S E H (mix P dr ops K (⟨some d, .load t x, ty, pos, after, none⟩ :: rest)) :=
  r_read hd (by cases dr <;> rfl) rfl hx hok (fun a ha w hw w' hb => by
    have hv' : w'.cell? p = some v := (World.cell?_of_block (w := w) hb).trans (hv w hw)
    simp [execOp, ha.ev hx, Instr.loadAt, Instr.sureAddr, loadVar, Sem.run_bind, run_isAgg ht, Result.andThen, run_load, hv']) hk

theorem r_load1 {t : TypeId} {b off : Nat} {cs : Array Value} {T : TypeId} {fr : Nat × Nat} {v : Value} (hx : ev E x = some (.pointer (some ⟨b, off, none⟩)))
    [hp : HasBlk b H (.cells cs T fr) G] (ht : isAggT P t = some false) (hd : Nat.blt d n = true) (hv : cs[off]? = some v)
    (hk : Run n w0 S ((d, v) :: E) H (mix P dr ops K rest)) (hok : OkRead dr d b := by first | exact True.intro | (simp [OkRead]; done) | (simp [OkRead, *]; done)) :
    Run n w0 S E H (mix P dr ops K (⟨some d, .load t x, ty, pos, after, none⟩ :: rest)) :=
  r_loadC hx ht hd (fun w hw => by rw [cell_of_row w b off cs T fr (hw.look hp.pick)]; exact hv) hk hok

theorem run_loadCells_blk {w : World} {b off m : Nat} {cs : Array Value} {T : TypeId} {fr : Nat × Nat} (hb : w.heap[b]? = some (.cells cs T fr)) (hle : off + m ≤ cs.size) :
    (loadCells ⟨b, off, none⟩ m).run P w = .ok (cs.extract off (off + m)) w := by
  have h1 := run_loadCells_list (P := P) w ⟨b, off, none⟩ (cs.extract off (off + m)).toList (fun j v hj => by
    have hadd : (⟨b, off, none⟩ : Addr).add j = ⟨b, off + j, none⟩ := by unfold Addr.add; split <;> simp_all
    rw [hadd, cell_of_row w b _ cs T fr hb]
    rw [Array.getElem?_toList, Array.getElem?_extract] at hj
    split at hj
    · exact hj
    · cases hj)
  have e : (cs.extract off (off + m)).toList.length = m := by simp; omega
  rw [e] at h1
  rw [h1]

theorem r_loadN {t : TypeId} {b off m : Nat} {cs : Array Value} {T : TypeId} {fr : Nat × Nat} {vs : Array Value} (hx : ev E x = some (.pointer (some ⟨b, off, none⟩)))
    [hp : HasBlk b H (.cells cs T fr) G] (ht : isAggT P t = some true) (hm : (P.info? t).map (·.size) = some m) (hd : Nat.blt d n = true) (hle : off + m ≤ cs.size) (hv : cs.extract off (off + m) = vs)
    (hk : Run n w0 S ((d, .agg vs) :: E) H (mix P dr ops K rest)) (hok : OkRead dr d b := by first | exact True.intro | (simp [OkRead]; done) | (simp [OkRead, *]; done)) :
    Run n w0 S E H (mix P dr ops K (⟨some d, .load t x, ty, pos, after, none⟩ :: rest)) :=
  r_read hd (by cases dr <;> rfl) rfl hx hok (fun a ha w hw w' hb => by
    obtain ⟨i, hi, hs⟩ := Option.map_eq_some_iff.1 hm
    subst hv
    have hb' : w'.heap[b]? = some (.cells cs T fr) := hb.trans (hw.look hp.pick)
    simp [execOp, ha.ev hx, Instr.loadAt, Instr.sureAddr, loadVar, Sem.run_bind, run_isAgg ht, Result.andThen, sizeOf, typeInfo, hi, hs, run_loadCells_blk (P := P) hb' hle]) hk

/-- a whole variable -/
theorem r_loadV {t : TypeId} {b : Nat} {cs : Array Value} {T : TypeId} {fr : Nat × Nat} (hx : ev E x = some (.pointer (some ⟨b, 0, none⟩)))
    [hp : HasBlk b H (.cells cs T fr) G] (ht : isAggT P t = some true) {m : Nat} (hm : (P.info? t).map (·.size) = some m) (hd : Nat.blt d n = true) (hsz : cs.size = m)
    (hk : Run n w0 S ((d, .agg cs) :: E) H (mix P dr ops K rest)) (hok : OkRead dr d b := by first | exact True.intro | (simp [OkRead]; done) | (simp [OkRead, *]; done)) :
    Run n w0 S E H (mix P dr ops K (⟨some d, .load t x, ty, pos, after, none⟩ :: rest)) :=
  r_loadN (m := cs.size) hx ht (by rw [hsz]; exact hm) hd (by omega) (by simp) hk hok

/-- the cells of a block after a store -/
theorem r_store {t : TypeId} {b off m : Nat} {cs cs' : Array Value} {T : TypeId} {v : Value} (hx : ev E x = some (.pointer (some ⟨b, off, none⟩))) (hy : ev E y = some v)
    [hb : HasBlk b H (.cells cs T (0, 0)) G] (hm : (P.info? t).map (·.size) = some m) (hv : v.cells.size = m) (hle : off + m ≤ cs.size)
    (h1 : v.cells.toList.all Value.oneCell' = true) (hs : splice cs off v.cells = cs') [hp : SwapBlk b (.cells cs' T (0, 0)) H o H']
    (hk : Run n w0 S E H' (mix P dr ops K rest)) (hok : OkWrite dr x b := by first | exact True.intro | (simp [OkWrite, slotIn]; done) | (simp [OkWrite, slotIn, *]; done)) :
    Run n w0 S E H (mix P dr ops K (⟨none, .store t x y, ty, pos, after, none⟩ :: rest)) :=
  r_write (by cases dr <;> rfl) rfl hx hok fun a w ha hw => by
    obtain ⟨G', hp1, hp2⟩ := hp.swap.out
    have hb1 : w.heap[b]? = some (.cells cs T (0, 0)) := hw.look hb.pick
    have ho : o = .cells cs T (0, 0) := by
      have h2 : w.heap[b]? = some o := hw.look hp1
      rw [hb1] at h2; exact (Option.some.inj h2).symm
    subst ho
    have hw' := hw.pick hp1
    obtain ⟨i, hi, hsz⟩ := Option.map_eq_some_iff.1 hm
    have hst := run_storeCells_at P b off T v.cells.toList 0 cs w hb1 (by simp; omega) (List.all_eq_true.1 h1)
    have hh := setRow_heap w b cs (splice cs off v.cells) T (0, 0) hb1
    subst hs
    have hw2 := (hw'.write (w' := w.setRow b (splice cs off v.cells)) (r' := .blk b (.cells (splice cs off v.cells) T (0, 0))) rfl rfl rfl rfl (by simp [World.setRow]) (fun k _ hk => by
      simp only [Res.foot, ne_eq, Option.some.injEq] at hk
      simp [World.setRow, Array.getElem?_modify, hk]) hh).put hp2
    have h := hk a (w.setRow b (splice cs off v.cells)) ha hw2
    simp only [Nat.add_zero] at hst
    have e : off + v.cells.toList.length = off + v.cells.size := by simp
    rw [e] at hst
    refine ⟨w.setRow b (splice cs off v.cells), ?_, by simp [World.setRow], fun k hk => by simp [World.setRow, Array.getElem?_modify, Ne.symm hk], h⟩
    simp [execOp, ha.ev hx, ha.ev hy, Instr.storeAt, Instr.sureAddr, storeVar, Sem.run_bind, Result.andThen, sizeOf, typeInfo, hi, hsz, hv, hst, splice]

theorem splice_one (cs : Array Value) (off : Nat) (v : Value) (h : off < cs.size) : splice cs off #[v] = cs.setIfInBounds off v := by
  apply Array.ext'
  simp only [splice, Array.toList_setIfInBounds, List.size_toArray, List.length_cons, List.length_nil]
  rw [List.set_eq_take_append_cons_drop, if_pos (by simpa using h)]
  simp

theorem splice_all (cs vs : Array Value) (h : vs.size = cs.size) : splice cs 0 vs = vs := by
  have h2 : cs.toList.drop cs.size = [] := List.drop_eq_nil_of_le (by simp)
  simp [splice, h, h2]

/-- one cell is written -/
theorem r_store1 {t : TypeId} {b off : Nat} {cs : Array Value} {T : TypeId} {v : Value} (hx : ev E x = some (.pointer (some ⟨b, off, none⟩))) (hy : ev E y = some v)
    [hb : HasBlk b H (.cells cs T (0, 0)) G] (hm : (P.info? t).map (·.size) = some 1) (hv : v.cells = #[v]) (h1 : v.oneCell' = true) (hle : off < cs.size)
    [hp : SwapBlk b (.cells (cs.setIfInBounds off v) T (0, 0)) H o H'] (hk : Run n w0 S E H' (mix P dr ops K rest)) (hok : OkWrite dr x b := by first | exact True.intro | (simp [OkWrite, slotIn]; done) | (simp [OkWrite, slotIn, *]; done)) :
    Run n w0 S E H (mix P dr ops K (⟨none, .store t x y, ty, pos, after, none⟩ :: rest)) :=
  r_store (cs' := cs.setIfInBounds off v) hx hy hm (by rw [hv]; rfl) (by omega) (by rw [hv]; simpa using h1) (by rw [hv]; exact splice_one cs off v hle) hk hok

/-- a whole variable is written -/
theorem r_storeV {t : TypeId} {b : Nat} {cs vs : Array Value} {T : TypeId} (hx : ev E x = some (.pointer (some ⟨b, 0, none⟩))) (hy : ev E y = some (.agg vs))
    [hb : HasBlk b H (.cells cs T (0, 0)) G] {m : Nat} (hm : (P.info? t).map (·.size) = some m) (hv : vs.size = m) (hsz : cs.size = m)
    (h1 : vs.toList.all Value.oneCell' = true) [hp : SwapBlk b (.cells vs T (0, 0)) H o H']
    (hk : Run n w0 S E H' (mix P dr ops K rest)) (hok : OkWrite dr x b := by first | exact True.intro | (simp [OkWrite, slotIn]; done) | (simp [OkWrite, slotIn, *]; done)) :
    Run n w0 S E H (mix P dr ops K (⟨none, .store t x y, ty, pos, after, none⟩ :: rest)) :=
  r_store (cs' := vs) hx hy hm hv (by omega) h1 (splice_all cs vs (hv.trans hsz.symm)) hk hok

/-! ### Calls -/
def callable (P : Program) (g : FuncId) : Bool :=
  match P.funcs[g]? with
  | some fn => fn.name != "runtime.NumGoroutine" && fn.body.isSome
  | none => false

theorem run_call {g : FuncId} (h : callable P g = true) (vs : Array Value) (w : World) : (callFunc g vs).run P w = .ok (.enter g vs) w := by
  unfold callable at h
  cases hf : P.funcs[g]? with
  | none => simp [hf] at h
  | some fn =>
    simp only [hf, Bool.and_eq_true, bne_iff_ne, ne_eq] at h
    obtain ⟨h1, h2⟩ := h
    obtain ⟨c, hc⟩ := Option.isSome_iff_exists.1 h2
    simp [callFunc, Sem.run_bind, hf, h1, hc]

/-- a call that may turn some of the things at the list's head -/
theorem r_callm {ι : Type} {f : Operand} {args : List Operand} {tys : Array TypeId} {g : FuncId} {vs cs us : List Value} {A : List Res} {v : ι → Value} {A' : ι → List Res} {φ : ι → Prop}
    (hp : H.Perm (A ++ G)) (hf : ev E f = some (.func (.func g) #[] cs.toArray)) (ha : evs E args = some vs) (hu : vs ++ cs = us) (hg : callable P g = true) (hd : Nat.blt d n = true)
    (hc : ∀ w, Sat w0 S (A ++ G) w → Sat w (A.filterMap Res.foot) A w → Calls P g us.toArray w fun e w' => ∃ i, e = .returned (v i) ∧ φ i ∧ Sat w (A.filterMap Res.foot) (A' i) w')
    (hk : ∀ i, φ i → Run n w0 S ((d, v i) :: E) (A' i ++ G) (mix P dr ops K rest)) (hok : OkAct dr (some d) (A.filterMap Res.foot) := by first | exact True.intro | (simp [OkAct, dstIn]; done) | (simp [OkAct, dstIn, *]; done)) :
    Run n w0 S E H (mix P dr ops K (⟨some d, .call { callee := .value f, args := args.toArray, argTypes := tys }, ty, pos, after, none⟩ :: rest)) :=
  r_act (X := A.filterMap Res.foot) (by cases dr <;> rfl) hok fun a w ha' hw => by
    have hw' := hw.perm hp
    have hrun : (execOp a.eval ⟨some d, .call { callee := .value f, args := args.toArray, argTypes := tys }, ty, pos, after, none⟩).run P w = .ok (.enter g us.toArray) w := by
      have e1 := ha'.evs ha
      subst hu
      simp [execOp, resolve, ha'.ev hf, Deferred.ofValue, invoke, run_call hg, e1]
    rw [hrun]
    refine (hc w hw' hw'.hand).mono fun e w' ⟨i, he, hφ, hs⟩ => ⟨v i, he, hs.kept, ?_⟩
    refine hk i hφ _ w' (ha'.put hd _) (hw'.call hs fun k hk => ?_)
    obtain ⟨r, hr, hf⟩ := List.mem_filterMap.1 hk
    exact ⟨r, hr, hf⟩

/-- a call that is handed nothing of the list -/
theorem r_callx {ι : Type} {f : Operand} {args : List Operand} {tys : Array TypeId} {g : FuncId} {vs cs us : List Value} {v : ι → Value} {A' : ι → List Res} {φ : ι → Prop}
    (hf : ev E f = some (.func (.func g) #[] cs.toArray)) (ha : evs E args = some vs) (hu : vs ++ cs = us) (hg : callable P g = true) (hd : Nat.blt d n = true)
    (hc : ∀ w, Sat w0 S H w → Calls P g us.toArray w fun e w' => ∃ i, e = .returned (v i) ∧ φ i ∧ Sat w [] (A' i) w')
    (hk : ∀ i, φ i → Run n w0 S ((d, v i) :: E) (A' i ++ H) (mix P dr ops K rest)) :
    Run n w0 S E H (mix P dr ops K (⟨some d, .call { callee := .value f, args := args.toArray, argTypes := tys }, ty, pos, after, none⟩ :: rest)) :=
  r_callm (A := []) (G := H) (.refl _) hf ha hu hg hd (fun w hw _ => hc w hw) hk okAct_nil

theorem r_call {f : Operand} {args : List Operand} {tys : Array TypeId} {g : FuncId} {vs cs us : List Value} {v : Value} {A' : List Res}
    (hf : ev E f = some (.func (.func g) #[] cs.toArray)) (ha : evs E args = some vs) (hu : vs ++ cs = us) (hg : callable P g = true) (hd : Nat.blt d n = true)
    (hc : ∀ w, Sat w0 S H w → Calls P g us.toArray w fun e w' => e = .returned v ∧ Sat w [] A' w')
    (hk : Run n w0 S ((d, v) :: E) (A' ++ H) (mix P dr ops K rest)) :
    Run n w0 S E H (mix P dr ops K (⟨some d, .call { callee := .value f, args := args.toArray, argTypes := tys }, ty, pos, after, none⟩ :: rest)) :=
  r_callx (ι := Unit) (v := fun _ => v) (A' := fun _ => A') (φ := fun _ => True) hf ha hu hg hd (fun w hw => (hc w hw).mono fun _ _ ⟨he, hs⟩ => ⟨(), he, trivial, hs⟩) (fun _ _ => hk)

/-- a call that is handed one block, or two, and may turn them -/
theorem r_callb {b : Nat} {ι : Type} {f : Operand} {args : List Operand} {tys : Array TypeId} {g : FuncId} {vs cs us : List Value} {v : ι → Value} {A' : ι → List Res} {φ : ι → Prop} [hb : HasBlk b H o G]
    (hf : ev E f = some (.func (.func g) #[] cs.toArray)) (ha : evs E args = some vs) (hu : vs ++ cs = us) (hg : callable P g = true) (hd : Nat.blt d n = true)
    (hc : ∀ w, Sat w [b] [.blk b o] w → Calls P g us.toArray w fun e w' => ∃ i, e = .returned (v i) ∧ φ i ∧ Sat w [b] (A' i) w')
    (hk : ∀ i, φ i → Run n w0 S ((d, v i) :: E) (A' i ++ G) (mix P dr ops K rest)) (hok : OkAct dr (some d) [b] := by first | exact True.intro | (simp [OkAct, dstIn]; done) | (simp [OkAct, dstIn, *]; done)) :
    Run n w0 S E H (mix P dr ops K (⟨some d, .call { callee := .value f, args := args.toArray, argTypes := tys }, ty, pos, after, none⟩ :: rest)) :=
  r_callm (A := [.blk b o]) (G := G) hb.pick.perm hf ha hu hg hd (fun w _ hs => hc w hs) hk hok
theorem r_callb0 {b : Nat} {f : Operand} {args : List Operand} {tys : Array TypeId} {g : FuncId} {vs cs us : List Value} {v : Value} {A' : List Res} [hb : HasBlk b H o G]
    (hf : ev E f = some (.func (.func g) #[] cs.toArray)) (ha : evs E args = some vs) (hu : vs ++ cs = us) (hg : callable P g = true) (hd : Nat.blt d n = true)
    (hc : ∀ w, Sat w [b] [.blk b o] w → Calls P g us.toArray w fun e w' => e = .returned v ∧ Sat w [b] A' w')
    (hk : Run n w0 S ((d, v) :: E) (A' ++ G) (mix P dr ops K rest)) (hok : OkAct dr (some d) [b] := by first | exact True.intro | (simp [OkAct, dstIn]; done) | (simp [OkAct, dstIn, *]; done)) :
    Run n w0 S E H (mix P dr ops K (⟨some d, .call { callee := .value f, args := args.toArray, argTypes := tys }, ty, pos, after, none⟩ :: rest)) :=
  r_callb (ι := Unit) (v := fun _ => v) (A' := fun _ => A') (φ := fun _ => True) (b := b) hf ha hu hg hd (fun w hw => (hc w hw).mono fun _ _ ⟨he, hs⟩ => ⟨(), he, trivial, hs⟩) (fun _ _ => hk) hok
theorem r_callb2 {b1 b2 : Nat} {o1 o2 : Obj} {G1 : List Res} {ι : Type} {f : Operand} {args : List Operand} {tys : Array TypeId} {g : FuncId} {vs cs us : List Value} {v : ι → Value} {A' : ι → List Res} {φ : ι → Prop} [hb1 : HasBlk b1 H o1 G1] [hb2 : HasBlk b2 G1 o2 G]
    (hf : ev E f = some (.func (.func g) #[] cs.toArray)) (ha : evs E args = some vs) (hu : vs ++ cs = us) (hg : callable P g = true) (hd : Nat.blt d n = true)
    (hc : ∀ w, Sat w [b1, b2] [.blk b1 o1, .blk b2 o2] w → Calls P g us.toArray w fun e w' => ∃ i, e = .returned (v i) ∧ φ i ∧ Sat w [b1, b2] (A' i) w')
    (hk : ∀ i, φ i → Run n w0 S ((d, v i) :: E) (A' i ++ G) (mix P dr ops K rest)) (hok : OkAct dr (some d) [b1, b2] := by first | exact True.intro | (simp [OkAct, dstIn]; done) | (simp [OkAct, dstIn, *]; done)) :
    Run n w0 S E H (mix P dr ops K (⟨some d, .call { callee := .value f, args := args.toArray, argTypes := tys }, ty, pos, after, none⟩ :: rest)) :=
  r_callm (A := [.blk b1 o1, .blk b2 o2]) (G := G) (hb1.pick.perm.trans (hb2.pick.perm.cons _)) hf ha hu hg hd (fun w _ hs => hc w hs) hk hok
theorem r_callb20 {b1 b2 : Nat} {o1 o2 : Obj} {G1 : List Res} {f : Operand} {args : List Operand} {tys : Array TypeId} {g : FuncId} {vs cs us : List Value} {v : Value} {A' : List Res} [hb1 : HasBlk b1 H o1 G1] [hb2 : HasBlk b2 G1 o2 G]
    (hf : ev E f = some (.func (.func g) #[] cs.toArray)) (ha : evs E args = some vs) (hu : vs ++ cs = us) (hg : callable P g = true) (hd : Nat.blt d n = true)
    (hc : ∀ w, Sat w [b1, b2] [.blk b1 o1, .blk b2 o2] w → Calls P g us.toArray w fun e w' => e = .returned v ∧ Sat w [b1, b2] A' w')
    (hk : Run n w0 S ((d, v) :: E) (A' ++ G) (mix P dr ops K rest)) (hok : OkAct dr (some d) [b1, b2] := by first | exact True.intro | (simp [OkAct, dstIn]; done) | (simp [OkAct, dstIn, *]; done)) :
    Run n w0 S E H (mix P dr ops K (⟨some d, .call { callee := .value f, args := args.toArray, argTypes := tys }, ty, pos, after, none⟩ :: rest)) :=
  r_callb2 (ι := Unit) (v := fun _ => v) (A' := fun _ => A') (φ := fun _ => True) (b1 := b1) (b2 := b2) hf ha hu hg hd (fun w hw => (hc w hw).mono fun _ _ ⟨he, hs⟩ => ⟨(), he, trivial, hs⟩) (fun _ _ => hk) hok

/-! ### A function's beginning and its end -/
def argE : List Value → Nat → List (Nat × Value)
  | [], _ => []
  | v :: l, i => (i, v) :: argE l (i + 1)

theorem lk_argE : ∀ (l : List Value) (i t : Nat) (v : Value), lk (argE l i) t = some v → i ≤ t ∧ l[t - i]? = some v
  | [], _, _, _, h => by simp [argE, lk] at h
  | u :: l, i, t, v, h => by
    unfold argE lk at h
    cases hb : Nat.beq i t
    · rw [hb] at h
      obtain ⟨h1, h2⟩ := lk_argE l (i + 1) t v h
      exact ⟨by omega, by rw [show t - i = (t - (i + 1)) + 1 by omega]; simpa using h2⟩
    · rw [hb] at h
      have := Nat.eq_of_beq_eq_true hb
      subst this
      simp at h
      subst h
      simp

theorem enterS {f : FuncId} {fn : Func} {c : Code} {args : List Value} {m : Nat} {w : World} {A : List Res} {R : Ending → World → Prop} (hf : P.funcs[f]? = some fn) (hb : fn.body = some c) (hn : fn.ntmps = m)
    (hle : Nat.ble args.length m = true) (hS : Sat w S A w) (h : Run m w S (argE args 0) A (c.wp P (bodyPost P fn R))) : Calls P f args.toArray w R := by
  have hle' : args.length ≤ m := by simpa using hle
  refine calls_of_wp hf hb (h _ _ ⟨?_, rfl, fun t v hv => ?_⟩ hS)
  · simp [hn]; omega
  · obtain ⟨_, h2⟩ := lk_argE args 0 t v hv
    have h2' : args[t]? = some v := by simpa using h2
    show (args.toArray ++ Array.replicate (fn.ntmps - args.toArray.size) undef)[t]? = some v
    rw [Array.getElem?_append_left (by simpa using (List.getElem?_eq_some_iff.1 h2').1)]
    simpa using h2'

theorem enter {f : FuncId} {fn : Func} {c : Code} {args : List Value} {m : Nat} {w : World} {R : Ending → World → Prop} (hf : P.funcs[f]? = some fn) (hb : fn.body = some c) (hn : fn.ntmps = m)
    (hle : Nat.ble args.length m = true) (h : Run m w [] (argE args 0) [] (c.wp P (bodyPost P fn R))) : Calls P f args.toArray w R :=
  enterS hf hb hn hle (Sat.nil w) h

/-- what a result variable holds -/
def ResAt (P : Program) (E : List (Nat × Value)) (H : List Res) (r : ResultVar) (v : Value) : Prop :=
  match r with
  | .tmp t => lk E t = some v
  | .cell ad t => ∃ b cs T fr G, lk E ad = some (.pointer (some ⟨b, 0, none⟩)) ∧ Pick (.blk b (.cells cs T fr)) H G ∧
      ((isAggT P t = some true ∧ (P.info? t).map (·.size) = some cs.size ∧ v = .agg cs) ∨ (isAggT P t = some false ∧ cs[0]? = some v))

theorem res_tmp {t : Tmp} {v : Value} (h : lk E t = some v) : ResAt P E H (.tmp t) v := h
theorem res_cellV {ad : Tmp} {t : TypeId} {b : Nat} {cs : Array Value} {T : TypeId} {fr : Nat × Nat} (h : lk E ad = some (.pointer (some ⟨b, 0, none⟩))) [hp : HasBlk b H (.cells cs T fr) G]
    (ht : isAggT P t = some true) {m : Nat} (hm : (P.info? t).map (·.size) = some m) (hsz : cs.size = m) : ResAt P E H (.cell ad t) (.agg cs) := ⟨b, cs, T, fr, G, h, hp.pick, .inl ⟨ht, by rw [hsz]; exact hm, rfl⟩⟩
theorem res_cell1 {ad : Tmp} {t : TypeId} {b : Nat} {cs : Array Value} {T : TypeId} {fr : Nat × Nat} {v : Value} (h : lk E ad = some (.pointer (some ⟨b, 0, none⟩))) [hp : HasBlk b H (.cells cs T fr) G]
    (ht : isAggT P t = some false) (hv : cs[0]? = some v) : ResAt P E H (.cell ad t) v := ⟨b, cs, T, fr, G, h, hp.pick, .inr ⟨ht, hv⟩⟩

def resOne (tmps : Array Value) : ResultVar → Sem Value
  | .tmp t => pure (tmps.getD t undef)
  | .cell a t => do loadVar t (← asAddr (tmps.getD a undef))

theorem run_resAt {r : ResultVar} {v : Value} {a : Act} {w : World} (h : ResAt P E H r v) (ha : Holds n E a) (hw : Sat w0 S H w) : (resOne a.tmps r).run P w = .ok v w := by
  cases r with
  | tmp t =>
    have := ha.val t v h
    simp [resOne, this]
  | cell ad t =>
    obtain ⟨b, cs, T, fr, G, hb, hp, hv⟩ := h
    have h1 := ha.val ad _ hb
    have hblk : w.heap[b]? = some (.cells cs T fr) := hw.look hp
    rcases hv with ⟨ht, hm, rfl⟩ | ⟨ht, hv⟩
    · obtain ⟨i, hi, hs⟩ := Option.map_eq_some_iff.1 hm
      simp [resOne, h1, asAddr, loadVar, Sem.run_bind, run_isAgg ht, sizeOf, typeInfo, hi, hs, run_loadCells_blk (P := P) (off := 0) (m := cs.size) hblk (by omega)]
    · have hc : w.cell? ⟨b, 0, none⟩ = some v := by rw [cell_of_row w b 0 cs T fr hblk]; exact hv
      simp [resOne, h1, asAddr, loadVar, Sem.run_bind, run_isAgg ht, run_load, hc]

theorem results_eq (fn : Func) (tmps : Array Value) : results fn tmps = (do let vs ← fn.results.mapM (resOne tmps); pure (if h : vs.size = 1 then vs[0] else .tuple vs)) := by
  unfold results
  congr 2

variable {fn : Func} {R : Ending → World → Prop} {e : Exit}
theorem r_done1 {r : ResultVar} {v : Value} (he : e = .ret ∨ e = .normal) (hres : fn.results = #[r]) (h1 : ResAt P E H r v) (hp : ∀ w, Sat w0 S H w → R (.returned v) w) :
    Run n w0 S E H (bodyPost P fn R e) := by
  intro a w ha hw
  have hr : (results fn a.tmps).run P w = .ok v w := by
    rw [results_eq, hres]
    simp [run_resAt h1 ha hw]
  rcases he with rfl | rfl
  · exact ⟨ha.defers, v, hr, hp w hw⟩
  · exact ⟨ha.defers, v, hr, hp w hw⟩
theorem r_done2 {r1 r2 : ResultVar} {v1 v2 : Value} (he : e = .ret ∨ e = .normal) (hres : fn.results = #[r1, r2]) (h1 : ResAt P E H r1 v1) (h2 : ResAt P E H r2 v2) (hp : ∀ w, Sat w0 S H w → R (.returned (.tuple #[v1, v2])) w) :
    Run n w0 S E H (bodyPost P fn R e) := by
  intro a w ha hw
  have hr : (results fn a.tmps).run P w = .ok (.tuple #[v1, v2]) w := by
    rw [results_eq, hres]
    simp [Sem.run_bind, run_resAt h1 ha hw, run_resAt h2 ha hw]
  rcases he with rfl | rfl
  · exact ⟨ha.defers, _, hr, hp w hw⟩
  · exact ⟨ha.defers, _, hr, hp w hw⟩
theorem r_done3 {r1 r2 r3 : ResultVar} {v1 v2 v3 : Value} (he : e = .ret ∨ e = .normal) (hres : fn.results = #[r1, r2, r3]) (h1 : ResAt P E H r1 v1) (h2 : ResAt P E H r2 v2) (h3 : ResAt P E H r3 v3)
    (hp : ∀ w, Sat w0 S H w → R (.returned (.tuple #[v1, v2, v3])) w) :
    Run n w0 S E H (bodyPost P fn R e) := by
  intro a w ha hw
  have hr : (results fn a.tmps).run P w = .ok (.tuple #[v1, v2, v3]) w := by
    rw [results_eq, hres]
    simp [Sem.run_bind, run_resAt h1 ha hw, run_resAt h2 ha hw, run_resAt h3 ha hw]
  rcases he with rfl | rfl
  · exact ⟨ha.defers, _, hr, hp w hw⟩
  · exact ⟨ha.defers, _, hr, hp w hw⟩
theorem r_done0 (he : e = .ret ∨ e = .normal) (hres : fn.results = #[]) (hp : ∀ w, Sat w0 S H w → R (.returned (.tuple #[])) w) : Run n w0 S E H (bodyPost P fn R e) := by
  intro a w ha hw
  have hr : (results fn a.tmps).run P w = .ok (.tuple #[]) w := by
    rw [results_eq, hres]
    simp
  rcases he with rfl | rfl
  · exact ⟨ha.defers, _, hr, hp w hw⟩
  · exact ⟨ha.defers, _, hr, hp w hw⟩
end
end Go.Proofs.YtghjbnbkfohmlaaDoor
