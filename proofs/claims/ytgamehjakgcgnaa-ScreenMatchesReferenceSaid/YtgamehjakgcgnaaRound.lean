/-
  A range over a function ('Code.rangeFunc') in our judgement: the regions of a round, the loop itself, and the function's end behind it, where the loop's block for deferred calls is shut. No program in sight.
-/
import Derived.Test.YtgamehjakgcgnaaPtr
import Derived.RangeFuncFrom
import Derived.RangeFuncLeaves
import Derived.RangeFuncCalls
import Derived.RangeFuncBound
import Derived.OrdersIn
import Derived.TacticsIn
import Derived.Shelf.Abstract
namespace Go.Proofs.Ytgamehjakgcgnaa
open Go Go.RowKit Go.Shelf
set_option linter.unusedVariables false
set_option linter.unusedSimpArgs false
def noDefer (o : Oper) : Bool := match o.op with | .defer _ => false | _ => true
theorem noDefer_spec {o : Oper} (h : noDefer o = true) : ∀ c, o.op ≠ .defer c := fun c e => by
  unfold noDefer at h
  rw [e] at h; cases h
/-- a fence that lets all in -/
def EnvOk (F : Fence) (n : Nat) (P : Program) : Prop := (∀ f, F.fn f) ∧ F.depth = none ∧ ∀ (f : FuncId) (args : Array Value) (w : World) (R : Ending → World → Prop), Calls P f args w R → CallsIn F (n - 1) P f args w R
theorem env_round (l n : Nat) (P : Program) : EnvOk (Fence.wide.inRound l) n P := ⟨fun _ => trivial, rfl, fun _ _ _ _ h => CallsIn.inRound l (callsIn_wide.2 h)⟩
theorem env_wide (n : Nat) (P : Program) : EnvOk Fence.wide n P := ⟨fun _ => trivial, rfl, fun _ _ _ _ h => callsIn_wide.2 h⟩
section
variable {F : Fence} {m : Nat} {P : Program} {dr : Option Dr} {D : Dr} {ops : Array Oper} {Q : Exit → Act → World → Prop}
theorem wpIn_actUpon (he : EnvOk F m P) {o : Oper} (hnd : noDefer o = true) {K : Act → World → Prop} {a : Act} {w : World} (h2 : actUpon P o K a ((execOp a.eval o).run P w)) : o.wpIn F m P a w K Q := by
  unfold Oper.wpIn
  refine ⟨fun f _ => he.1 f, ?_⟩
  rw [Oper.semAt_eq F.round a.eval o (noDefer_spec hnd)]
  generalize (execOp a.eval o).run P w = r at h2
  cases r with
  | ok x w' =>
    cases x <;> simp only [actUpon] at h2 <;> simp only [Oper.uponIn]
    case value v => exact h2
    case skip => exact h2
    case enter f args => exact ⟨fun hs => (by rw [he.2.1] at hs; cases hs), (he.2.2 f args w' _ h2).mono fun e w'' ⟨v, e2, hk⟩ => by subst e2; exact hk⟩
  | halt x w' => simp only [actUpon] at h2
theorem stepOp_wpIn (he : EnvOk F m P) {o : Oper} (hnd : noDefer o = true) {K : Act → World → Prop} {a : Act} {w : World} (hh : stepOp P dr ops o K a w) :
    if Region.wanted o (yielded ops a.tmps) then o.wpIn F m P a w K Q else (∀ f, o.about P w a.eval = some f → F.fn f) ∧ K (a.put o.dst undef) w := by
  cases dr with
  | none =>
    simp only [stepOp] at hh
    split
    · rename_i hw; rw [if_pos hw] at hh; exact wpIn_actUpon he hnd hh
    · rename_i hw; rw [if_neg hw] at hh; exact ⟨fun f _ => he.1 f, hh⟩
  | some D =>
    simp only [stepOp, stepS] at hh
    cases hw : Region.wanted o (yielded ops a.tmps) <;> simp only [hw, if_true, Bool.false_eq_true, if_false] at hh ⊢
    · exact ⟨fun f _ => he.1 f, hh⟩
    · refine wpIn_actUpon he hnd ?_
      generalize clsAt D a.eval o = c at hh
      cases c <;> simp only [byS] at hh
      · obtain ⟨v, h1, h2⟩ := hh; rw [h1 w]; exact h2
      · obtain ⟨v, h1, _, h2⟩ := hh; rw [h1 w (fun _ _ => rfl)]; exact h2
      · obtain ⟨w', h1, _, _, _, h2⟩ := hh; rw [h1]; exact h2
      · exact actUpon_mono (fun _ _ h => h.2.2) hh
/-- operations, and what comes behind them -/
theorem wpListIn_of_mix (he : EnvOk F m P) {rest : List Oper} : ∀ (l : List Oper), l.all noDefer = true → ∀ (a : Act) (w : World), mix P dr ops (wpListIn F m P ops Q rest) l a w → wpListIn F m P ops Q (l ++ rest) a w
  | [], _, _, _, h => h
  | o :: l, hl, a, w, h => by
    rw [List.all_cons, Bool.and_eq_true] at hl
    have h2 := stepOp_wpIn (Q := Q) he hl.1 (stepOp_mono (fun a w h => wpListIn_of_mix he l hl.2 a w h) h)
    show if Region.wanted o (yielded ops a.tmps) then o.wpIn F m P a w (wpListIn F m P ops Q (l ++ rest)) Q else (∀ f, o.about P w a.eval = some f → F.fn f) ∧ wpListIn F m P ops Q (l ++ rest) (a.put o.dst undef) w
    exact h2
theorem wpIn_region_mix (he : EnvOk F m P) {id : Nat} {l : List Oper} (hl : l.all noDefer = true) {a : Act} {w : World} (h : mix P none l.toArray (Q .normal) l a w) : (Code.region id l.toArray false).wpIn F m P Q a w := by
  have h2 := wpListIn_of_mix (Q := Q) he (rest := []) l hl a w h
  rw [List.append_nil] at h2
  exact wpIn_region_lit h2
theorem wpAnyIn_of_anyI (he : EnvOk F m P) (hl : ∀ (i : Nat) (o : Oper), ops[i]? = some o → noDefer o = true) : ∀ (fuel : Nat) (listed : Array Bool) (a : Act) (w : World), Good D w → anyI P D ops (Q .normal) fuel listed a w → wpAnyIn F m P .any ops Q fuel listed a w
  | 0, _, _, _, _, h => h
  | fuel + 1, listed, a, w, hg, h => ⟨h.1, fun i hi => by
      have h2 := stepI_good (K' := wpAnyIn F m P .any ops Q fuel (listed.setIfInBounds i true)) hg (fun a w hg hk => wpAnyIn_of_anyI he hl fuel _ a w hg hk) (h.2 i hi)
      unfold stepI at h2
      unfold wpOpIn
      cases ho : ops[i]? with
      | none => simp only [ho] at h2 ⊢; exact h2
      | some o =>
        simp only [ho] at h2 ⊢
        exact stepOp_wpIn (Q := Q) he (hl i o ho) h2⟩
theorem wpIn_region_mixed (he : EnvOk F m P) {id : Nat} {l : List Oper} (hl : l.all noDefer = true) {a : Act} {w : World} (hm : P.follows .mixedOrders = true) (hB : mixB D l = true) (hg : Good D w)
    (h : mix P (some D) l.toArray (Q .normal) l a w.drew) : (Code.region id l.toArray true).wpIn F m P Q a w := by
  refine wpIn_region_any hm ?_
  have h1 := mixI_range (ops := l.toArray) l 0 (by simp) a w.drew h
  have hle : left l.length (Array.replicate l.length false) = List.range l.length := by
    refine List.filter_eq_self.2 fun j hj => ?_
    have := List.mem_range.1 hj
    simp [this]
  have h2 := anyI_of_mixI hB (K := Q .normal) l.length (Array.replicate l.length false) a w.drew hg (by simp) (fun i o _ hk => by
    exfalso
    by_cases hi : i < l.length <;> simp [hi] at hk) (by rw [hle]; simp) (by rw [hle, List.range_eq_range']; exact h1)
  have h3 := wpAnyIn_of_anyI (Q := Q) he (fun i o ho => by
    have ho' : l[i]? = some o := by simpa using ho
    exact List.all_eq_true.1 hl o (List.mem_of_getElem? ho')) _ _ a w.drew hg h2
  simpa using h3
end
/-! ### In the round's fence -/
section
variable {P : Program} {n m lr : Nat} {w0 : World} {S : List Nat} {E E' : List (Nat × Value)} {H H' : List Res} {Q : Exit → Act → World → Prop}
theorem ri_block {id : Nat} {c : Code} (h : Run n w0 S E H (c.wpIn (Fence.wide.inRound lr) m P (Exit.inBlock id Q))) : Run n w0 S E H ((Code.block id c).wpIn (Fence.wide.inRound lr) m P Q) := fun a w ha hw => wpIn_block (h a w ha hw)
theorem ri_region {id : Nat} {l : List Oper} (hl : l.all noDefer = true) (h : Run n w0 S E H (mix P none l.toArray (Q .normal) l)) : Run n w0 S E H ((Code.region id l.toArray false).wpIn (Fence.wide.inRound lr) m P Q) :=
  fun a w ha hw => wpIn_region_mix (env_round lr m P) hl (h a w ha hw)
theorem ri_mixedD {id : Nat} {l : List Oper} (D : Dr) (hl : l.all noDefer = true) (hm : P.follows .mixedOrders = true) (hB : mixB { rs := D.rs, fs := D.fs, acs := D.acs } l = true) (hg : ∀ w, Sat w0 S H w → ∀ k ∈ D.rb, k < w.heap.size)
    (h : Run n w0 S E H (mix P (some D) l.toArray (Q .normal) l)) : Run n w0 S E H ((Code.region id l.toArray true).wpIn (Fence.wide.inRound lr) m P Q) :=
  fun a w ha hw => wpIn_region_mixed (env_round lr m P) hl hm (mixB_flags hB) (hg w hw) (h a _ ha hw.drew)
/-! ### Behind the loop: a mark among the deferred calls -/
def marked (D : Nat) (a : Act) : Act := { a with defers := [{ target := .collected D, args := #[] }] }
theorem marked_eval (D : Nat) (a : Act) : (marked D a).eval = a.eval := by
  funext x
  cases x <;> rfl
theorem marked_put (D : Nat) (a : Act) (d : Option Tmp) (v : Value) : (marked D a).put d v = marked D (a.put d v) := by cases d <;> rfl
def Mk (D : Nat) (G : Act → World → Prop) : Act → World → Prop := fun a w => G (marked D a) w
theorem mix_marked {ops : Array Oper} {K : Act → World → Prop} (D : Nat) : ∀ (l : List Oper) (a : Act) (w : World), mix P none ops (Mk D K) l a w → mix P none ops K l (marked D a) w
  | [], _, _, h => h
  | o :: l, a, w, h => by
    have h : stepOp P none ops o (mix P none ops (Mk D K) l) a w := h
    show stepOp P none ops o (mix P none ops K l) (marked D a) w
    have key : ∀ r, actUpon P o (mix P none ops (Mk D K) l) a r → actUpon P o (mix P none ops K l) (marked D a) r := fun r hr => by
      cases r with
      | ok x w' =>
        cases x <;> simp only [actUpon, marked_put] at hr ⊢
        case value v => exact mix_marked D l _ _ hr
        case skip => exact mix_marked D l _ _ hr
        case enter f args => exact hr.mono fun e w'' ⟨v, he, hk⟩ => ⟨v, he, mix_marked D l _ _ hk⟩
      | halt x w' => simp only [actUpon] at hr
    simp only [stepOp] at h ⊢
    rw [marked_eval, marked_put]
    show if Region.wanted o (yielded ops a.tmps) then _ else _
    split
    · rename_i hw; rw [if_pos hw] at h; exact key _ h
    · rename_i hw; rw [if_neg hw] at h; exact mix_marked D l _ _ h
variable {D : Nat}
theorem m_seq {x y : Code} (h : Run n w0 S E H (Mk D (x.wp P (Exit.then (y.wp P Q) Q)))) : Run n w0 S E H (Mk D ((Code.seq x y).wp P Q)) := fun a w ha hw => wp_seq (h a w ha hw)
theorem m_region {id : Nat} {l : List Oper} (h : Run n w0 S E H (mix P none l.toArray (Mk D (Q .normal)) l)) : Run n w0 S E H (Mk D ((Code.region id l.toArray false).wp P Q)) :=
  fun a w ha hw => wp_region_mix (mix_marked D l a w (h a w ha hw))
theorem m_ret (h : Run n w0 S E H (Mk D (Q .ret))) : Run n w0 S E H (Mk D (Code.ret.wp P Q)) := fun a w ha hw => wp_ret (h a w ha hw)
theorem m_tn {nx : Act → World → Prop} (h : Run n w0 S E H (Mk D nx)) : Run n w0 S E H (Mk D (Exit.then nx Q .normal)) := h
theorem m_tr {nx : Act → World → Prop} (h : Run n w0 S E H (Mk D (Q .ret))) : Run n w0 S E H (Mk D (Exit.then nx Q .ret)) := h
theorem m_bn {id : Nat} (h : Run n w0 S E H (Mk D (Q .normal))) : Run n w0 S E H (Mk D (Exit.inBlock id Q .normal)) := h
theorem m_done1 {fn : Func} {R : Ending → World → Prop} {r : ResultVar} {v : Value} {G : List Res} {e : Exit} (he : e = .ret ∨ e = .normal) (hres : fn.results = #[r]) [hb : HasBlk D H (.deferred (some [])) G]
    (h1 : ResAt P E (.blk D (.deferred none) :: G) r v) (hp : ∀ w, Sat w0 S G w → R (.returned v) w) : Run n w0 S E H (Mk D (bodyPostM Fence.wide m P fn R e)) := by
  intro a w ha hw
  have hw1 := hw.pick hb.pick
  have hk : w.heap[D]? = some (.deferred (some [])) := hw.look hb.pick
  have hlt : D < w.heap.size := (Array.getElem?_eq_some_iff.1 hk).1
  have hw2 : Sat w0 S (.blk D (.deferred none) :: G) (w.putObj D (.deferred none)) := by
    have hg := grownBy_putObj' w D (.deferred none)
    exact hw1.grown (r' := .blk D (.deferred none)) hg (fun k h => .inl h) (World.putObj_heap_same hlt)
  have hr : (results fn a.tmps).run P (w.putObj D (.deferred none)) = .ok v (w.putObj D (.deferred none)) := by
    rw [results_eq, hres]
    simp [run_resAt h1 ha hw2]
  have hl : LeavesInM Fence.wide m P fn a.tmps R [{ target := .collected D, args := #[] }] .returning w := ⟨by simp, .inl ⟨_, _, rfl, run_takeDeferred hk, v, hr, hp _ hw2.drop⟩⟩
  rcases he with rfl | rfl
  · exact hl
  · exact hl
theorem enterMS {f : FuncId} {fn : Func} {c : Code} {args : List Value} {w : World} {A : List Res} {R : Ending → World → Prop} (hf : P.funcs[f]? = some fn) (hb : fn.body = some c) (hn : fn.ntmps = n)
    (hle : Nat.ble args.length n = true) (hS : Sat w S A w) (h : Run n w S (argE args 0) A (c.wp P (bodyPostM Fence.wide 3 P fn R))) : Calls P f args.toArray w R := by
  have hle' : args.length ≤ n := by simpa using hle
  refine (callsIn_wide (n := 3)).1 (callsIn_of_wp_marks hf hb trivial (wpIn_wide.2 (h _ _ ⟨?_, rfl, fun t v hv => ?_⟩ hS)) rfl)
  · simp [hn]; omega
  · obtain ⟨_, h2⟩ := lk_argE args 0 t v hv
    have h2' : args[t]? = some v := by simpa using h2
    show (args.toArray ++ Array.replicate (fn.ntmps - args.toArray.size) undef)[t]? = some v
    rw [Array.getElem?_append_left (by simpa using (List.getElem?_eq_some_iff.1 h2').1)]
    simpa using h2'
/-! ### The loop -/
def Res.cells : Res → Prop
  | .blk _ o => o.isCells = true
  | .own .. => True
theorem Res.cells.at {r : Res} (h : r.cells) {w : World} (hok : r.ok w) {k : Nat} (hk : r.foot = some k) : ∃ o : Obj, w.heap[k]? = some o ∧ o.isCells = true := by
  cases r with
  | blk b o =>
    simp only [Res.foot, Option.some.injEq] at hk
    subst hk
    exact ⟨o, hok, h⟩
  | own T sz v nn xs =>
    rcases hok.2 with ⟨h1, _⟩ | ⟨g, cap, cur, h1, _, h2, _⟩
    · rw [h1] at hk; cases hk
    · rw [h1] at hk
      have e : g = k := by simpa [Res.foot, Value.ownBlock] using hk
      subst e
      exact ⟨_, h2, rfl⟩
theorem Sat.turned {H : List Res} (hc : ∀ r ∈ H, r.cells) {w w' : World} {row : Option Nat} {B : Nat} (hw : Sat w0 S H w) (hB : w0.heap.size ≤ B) (hg : w.grownBy w' row) (hr : ∀ r, row = some r → B ≤ r ∧ ∃ o : Obj, w.heap[r]? = some o ∧ o.isCells = false) : Sat w0 S H w' := by
  refine ⟨hg.os.trans hw.os, hg.tape.trans hw.tape, hg.output.trans hw.output, Nat.le_trans hw.size hg.size, fun k hk hS => ?_, fun r hr2 => ?_, hw.feet, hw.apart⟩
  · have hs := hw.size
    exact (hg.block k (by omega) (fun e => by have := (hr k e.symm).1; omega)).trans (hw.keep k hk hS)
  · have hok := hw.ok r hr2
    refine hok.kept fun k hk => ?_
    obtain ⟨o, h1, h2⟩ := (hc r hr2).at hok hk
    refine hg.block k (hok.lt hk) (fun e => ?_)
    obtain ⟨_, o2, h3, h4⟩ := hr k e.symm
    rw [h1] at h3
    injection h3 with h3
    rw [h3, h4] at h2; cases h2
/-- what a round keeps: the block that the iterator reads -/
def KpB (bs : Nat) (W W' : World) : Prop := W'.heap[bs]? = W.heap[bs]?
theorem r_range {g : Operand} {ps : Array Tmp} {assign body : Code} {gf : Nat} {lb : Array Value} {sel : List (Fin 4)} {bs N : Nat} (hg : ev E g = some (.func (.func gf) #[] lb)) (eg : Enters P gf) (hps : ps.size = 1)
    (HH : List (Fin 4) → List Res) (hcell : ∀ pre, ∀ r ∈ HH pre, r.cells) (hh : ∀ w, Sat w0 S H w → Sat w0 S (HH []) w)
    (hbs : ∀ w, Sat w0 S H w → bs < w.heap.size) (hbn : ∀ pre, ∀ r ∈ HH pre, r.foot ≠ some bs)
    (hseq : ∀ w, Sat w0 S H w → SeqStopsK Fence.wide 2 P gf lb (fun i : Fin 4 => #[.int .i64 ((i.val : Nat) : Int)]) (KpB bs) (fun xs => xs = sel) (fun _ => True) N w)
    (as_ : Nat → Act → Act)
    (hassign : ∀ (l x : Nat) (a : Act) (W : World) (K : Act → World → Prop), Holds n E a → K (as_ x a) W → assign.wpIn (Fence.wide.inRound l) 1 P (Exit.then K (fun _ _ _ => False)) { tmps := (ps.zip #[Value.int .i64 ((x : Nat) : Int)]).foldl (fun t (p, v) => t.setIfInBounds p v) a.tmps, defers := [] } W)
    (E1 : Nat → List (Nat × Value)) (has : ∀ x a, Holds n E a → Holds n (E1 x) (as_ x a))
    (hbody : ∀ (l : Nat) (pre : List (Fin 4)) (x : Fin 4) (W : World), pre.length < N → Sat w0 S (HH pre) W →
      Run n W ((HH pre).filterMap Res.foot) (E1 x.val) (HH pre) (body.wpIn (Fence.wide.inRound l) 1 P (fun e _ w => e = .normal ∧ Sat W ((HH pre).filterMap Res.foot) (HH (pre ++ [x])) w)))
    (hk : ∀ D, Run n w0 S E (.blk D (.deferred (some [])) :: HH sel) (Mk D (Q .normal))) : Run n w0 S E H ((Code.rangeFunc g ps assign body).wp P Q) := by
  intro a w ha hw
  refine (wpIn_wide (n := 3)).1 ?_
  have hb := hbs w hw
  have hs0 := hw.size
  refine wpIn_rangeFunc_ownF (F := Fence.wide) rfl (by decide) (ha.ev hg) trivial eg (hseq w hw) (Kp := KpB bs) (fun h k => Eq.trans k h) (fun W l o o' hl ho _ _ => World.putObj_heap_other (by omega)) (Below.refl _ w) (fun _ => by rw [hps]; rfl)
    (fun pre W => Sat w0 S (HH pre) W ∧ bs < W.heap.size) (fun _ _ _ => False) ?_ (fun _ _ _ _ _ h _ _ => h) ⟨hh w hw, hb⟩ (fun x => as_ x.val a) ?_ ?_ ?_ ?_
  · intro pre A B row h1 hg1 hr1
    exact ⟨Sat.turned (hcell pre) h1.1 hs0 hg1 hr1, Nat.lt_of_lt_of_le h1.2 hg1.size⟩
  · intro l x W K hK
    exact hassign l x.val a W K ha hK
  · intro l pre x W h1 hlen
    have hhand : Sat W ((HH pre).filterMap Res.foot) (HH pre) W := Sat.hand (G := []) (by rw [List.append_nil]; exact h1.1)
    have hfoot : ∀ k, k ∈ (HH pre).filterMap Res.foot → ∃ r ∈ HH pre, r.foot = some k := fun k hk => List.mem_filterMap.1 hk
    refine wpIn_mono (hbody l pre x W hlen h1.1 (as_ x.val a) W (has x.val a ha) hhand) fun e a2 W2 h2 => ?_
    obtain ⟨rfl, h2⟩ := h2
    refine ⟨⟨h2.size, fun k o ho hnc => ?_⟩, ?_, ?_, Nat.lt_of_lt_of_le h1.2 h2.size⟩
    · have hkl : k < W.heap.size := (Array.getElem?_eq_some_iff.1 ho).1
      refine (h2.keep k hkl fun hm => ?_).trans ho
      obtain ⟨r, hr, hrk⟩ := hfoot k hm
      obtain ⟨o2, h3, h4⟩ := (hcell pre r hr).at (h1.1.ok r hr) hrk
      rw [ho] at h3
      injection h3 with h3
      rw [← h3, hnc] at h4; cases h4
    · exact h2.keep bs h1.2 fun hm => by
        obtain ⟨r, hr, hrk⟩ := hfoot bs hm
        exact hbn pre r hr hrk
    · have h5 := Sat.call (A := HH pre) (G := []) (by rw [List.append_nil]; exact h1.1) h2 hfoot
      rw [List.append_nil] at h5
      exact h5
  · intro D xs W hD hxs h1 hKD
    subst hxs
    have hWs := h1.1
    have hsat : Sat w0 S (.blk D (.deferred (some [])) :: HH xs) W := by
      refine ⟨hWs.os, hWs.tape, hWs.output, hWs.size, hWs.keep, fun r hr => ?_, fun r hr k hk2 => ?_, List.pairwise_cons.2 ⟨fun r hr k h2 h3 => ?_, hWs.apart⟩⟩
      · rcases List.mem_cons.1 hr with rfl | hr
        · exact hKD
        · exact hWs.ok r hr
      · rcases List.mem_cons.1 hr with rfl | hr
        · have e : D = k := by simpa [Res.foot] using hk2
          subst e
          exact .inl (by omega)
        · exact hWs.feet r hr k hk2
      · have e : D = k := by simpa [Res.foot] using h2
        subst e
        obtain ⟨o, h4, h5⟩ := (hcell _ r hr).at (hWs.ok r hr) h3
        rw [hKD] at h4
        injection h4 with h4
        rw [← h4] at h5; cases h5
    have h := hk D a W ha hsat
    have e : ({ a with defers := { target := .collected D, args := #[] } :: a.defers } : Act) = marked D a := by unfold marked; rw [ha.defers]
    rw [e]
    exact h
  · intro D c pre W _ _ h1 _
    exact h1.elim
/-! ### The iterator -/
theorem r_loopW {ι : Type} (Inv : ι → Act → World → Prop) (μ : ι → Nat) {c : Code} (i : ι) (h0 : ∀ a w, Holds n E a → Sat w0 S H w → Inv i a w)
    (round : ∀ i a w, Inv i a w → c.wp P (Exit.then (fun a w => ∃ j, μ j < μ i ∧ Inv j a w) Q) a w) : Run n w0 S E H ((Code.loop c).wp P Q) := by
  intro a w ha hw
  have key : ∀ m (i : ι) a w, μ i < m → Inv i a w → Code.rounds P c Q m a w := by
    intro m
    induction m with
    | zero => intro i a w hm; exact absurd hm (Nat.not_lt_zero _)
    | succ m ih =>
      intro i a w hm hi
      rw [rounds_succ]
      refine Code.wp_mono (fun e a' w' q => ?_) (round i a w hi)
      cases e <;> first | exact q | skip
      obtain ⟨j, hlt, hj⟩ := q
      exact ih j a' w' (by omega) hj
  exact wp_loop_rounds (μ i + 1) (key _ i a w (Nat.lt_succ_self _) (h0 a w ha hw))
theorem Sat.none {w w' : World} (h : Sat w [] [] w') : w.grownBy w' none := ⟨h.os, h.tape, h.output, h.size, fun k hk _ => h.keep k hk (by simp)⟩
/-- a region in which yield is called -/
theorem r_regionY {id : Nat} {l1 rest : List Oper} (hl : l1.all noDefer = true) (h : Run n w0 S E H (mix P none (l1 ++ rest).toArray (wpListIn Fence.wide 2 P (l1 ++ rest).toArray Q rest) l1)) : Run n w0 S E H ((Code.region id (l1 ++ rest).toArray false).wp P Q) :=
  fun a w ha hw => (wpIn_wide (n := 2)).1 (wpIn_region_lit (wpListIn_of_mix (env_wide 2 P) l1 hl a w (h a w ha hw)))
/-- yield is called: the rest is walked from the world that the round leaves -/
theorem r_yield {ops : Array Oper} {rest : List Oper} {dst lY : Nat} {f x : Operand} {tys : Array TypeId} {ty : TypeId} {pos : String} {after : Array Edge} {g : Option (Nat × Bool)} {v : Value} {B : Bool → World → Prop}
    (hwn : ∀ a, Holds n E a → Region.wanted ⟨some dst, .call { callee := .value f, args := #[x], argTypes := tys }, ty, pos, after, g⟩ (yielded ops a.tmps) = true)
    (hf : ev E f = some (.func (.yield lY) #[] #[])) (hx : ev E x = some v) (hd : Nat.blt dst n = true) (hl : rest.all noDefer = true)
    (hy : ∀ w, Sat w0 S H w → YieldAt Fence.wide 1 P lY #[v] w fun e W' => ∃ b, e = .returned (.bool b) ∧ B b W')
    (hk : ∀ b W', B b W' → Run n W' [] ((dst, .bool b) :: E) [] (mix P none ops (Q .normal) rest)) :
    Run n w0 S E H (wpListIn Fence.wide 2 P ops Q (⟨some dst, .call { callee := .value f, args := #[x], argTypes := tys }, ty, pos, after, g⟩ :: rest)) := by
  intro a w ha hw
  show if Region.wanted _ (yielded ops a.tmps) then _ else _
  rw [if_pos (hwn a ha)]
  obtain ⟨fn, tmps, asg, bd, hyr, hR⟩ := hy w hw
  unfold Oper.wpIn
  refine ⟨fun _ _ => trivial, ?_⟩
  rw [Oper.semAt_eq _ a.eval _ (fun c e => by cases e)]
  have hrun : (execOp a.eval ⟨some dst, .call { callee := .value f, args := #[x], argTypes := tys }, ty, pos, after, g⟩).run P w = .ok (.round lY fn tmps asg bd) w := by
    simp [execOp, resolve, ha.ev hf, ha.ev hx, Deferred.ofValue, invoke, hyr]
  rw [hrun]
  refine ⟨fun h => (by cases h), RoundIn.mono hR fun e W' h => ?_⟩
  obtain ⟨b, rfl, hB⟩ := h
  have h2 := hk b W' hB (a.put (some dst) (.bool b)) W' (ha.put hd (.bool b)) (Sat.nil W')
  have h3 := wpListIn_of_mix (Q := Q) (env_wide 2 P) (rest := []) rest hl _ W' h2
  rw [List.append_nil] at h3
  exact h3
theorem r_noYield {ops : Array Oper} {rest : List Oper} {o : Oper} {dst : Nat} (ho : o.dst = some dst) (hwn : ∀ a, Holds n E a → Region.wanted o (yielded ops a.tmps) = false) (hd : Nat.blt dst n = true) (hl : rest.all noDefer = true)
    (hk : Run n w0 S ((dst, undef) :: E) H (mix P none ops (Q .normal) rest)) : Run n w0 S E H (wpListIn Fence.wide 2 P ops Q (o :: rest)) := by
  intro a w ha hw
  show if Region.wanted _ (yielded ops a.tmps) then _ else _
  rw [if_neg (by rw [hwn a ha]; simp)]
  refine ⟨fun _ _ => trivial, ?_⟩
  rw [ho]
  have h3 := wpListIn_of_mix (Q := Q) (env_wide 2 P) (rest := []) rest hl _ w (hk _ w (ha.put hd undef) hw)
  rw [List.append_nil] at h3
  exact h3
end
/-! ### Things whose list has a tail that is not told -/
class TailRes (H2 H : List Res) : Prop where
  sub : ∃ G, H.Perm (H2 ++ G)
instance TailRes.refl (R : List Res) : TailRes R R := ⟨⟨[], by rw [List.append_nil]⟩⟩
instance TailRes.skip (R H : List Res) (x : Res) [h : TailRes R H] : TailRes R (x :: H) := ⟨by
  obtain ⟨G, hp⟩ := h.sub
  exact ⟨x :: G, (hp.cons x).trans List.perm_middle.symm⟩⟩
instance TailRes.app0 (R B : List Res) [h : TailRes R B] : TailRes R ([] ++ B) := h
instance TailRes.app (R A B : List Res) (x : Res) [h : TailRes R (x :: (A ++ B))] : TailRes R ((x :: A) ++ B) := h
instance (priority := low) SubRes.tail (R H : List Res) [h : TailRes R H] : SubRes R H := ⟨h.sub⟩
theorem Sat.behind {w0 w : World} {S : List Nat} {A G : List Res} (h : Sat w0 S (A ++ G) w) : Sat w0 S G w := (h.perm List.perm_append_comm).front
/-- of the things that are there some are looked at no more, or in another order -/
theorem Run.less {n : Nat} {w0 : World} {S : List Nat} {E : List (Nat × Value)} {H H' : List Res} {Gl : Act → World → Prop} (hs : ∀ w, Sat w0 S H w → Sat w0 S H' w) (h : Run n w0 S E H' Gl) : Run n w0 S E H Gl := fun a w ha hw => h a w ha (hs w hw)
theorem zip_one (t : Nat) (v : Value) (a : Array Value) : ((#[t] : Array Nat).zip #[v]).foldl (fun t (p : Nat × Value) => t.setIfInBounds p.1 p.2) a = a.setIfInBounds t v := by simp
theorem Holds.range1 {n : Nat} {E : List (Nat × Value)} {a : Act} (h : Holds n E a) {t : Nat} (ht : Nat.blt t n = true) (v : Value) : Holds n ((t, v) :: E) { tmps := a.tmps.setIfInBounds t v, defers := [] } := by
  have h2 := h.put ht v
  have e : a.put (some t) v = { tmps := a.tmps.setIfInBounds t v, defers := [] } := by
    unfold Act.put
    simp [h.defers]
  rw [e] at h2
  exact h2
theorem assign_one {P : Program} {l m id : Nat} {t s : Nat} {ty : TypeId} {pos : String} {after : Array Edge} {K : Act → World → Prop} {F2 : Exit → Act → World → Prop} {a : Act} {W : World} (h : K (a.put (some t) (a.eval (.tmp s))) W) :
    (Code.region id #[⟨some t, .assign (.tmp s), ty, pos, after, none⟩] false).wpIn (Fence.wide.inRound l) m P (Exit.then K F2) a W := by
  refine wpIn_region_mix (l := [⟨some t, .assign (.tmp s), ty, pos, after, none⟩]) (env_round l m P) rfl ?_
  show stepOp P none _ _ _ a W
  simp only [stepOp, Region.wanted, if_true]
  show actUpon P _ _ a ((execOp a.eval ⟨some t, .assign (.tmp s), ty, pos, after, none⟩).run P W)
  simp [execOp, actUpon]
  exact h
end Go.Proofs.Ytgamehjakgcgnaa
