/-
  Steps of chapter 08: what a row's argument tells that is a struct, or a slice of structs, with a field of bytes.
-/
import Derived.Test.YtgamehjakgcgnaaRef08
import Derived.Test.YtgamehjakgcgnaaFlats
namespace Go.Proofs.Ytgamehjakgcgnaa
open Go Go.RowKit Go.ChangeShapes Go.WideShapes Go.ChangeAt
set_option linter.unusedVariables false
set_option maxRecDepth 4000
theorem row_each {H' : Type} {enc : TypeId × Value → H'} {P : Program} {W : World} {base : Nat} {t e : TypeId} {v : Value} {d : DataW H'} {ps : List MemPlace} {m : Nat} {Q : List Value → Prop} (hu : P.underlying t = some (.slice e)) (hco : P.cellsOf e = m) (h0 : 0 < m)
    (hq : ∀ n cs y, DataW.trod enc P W 0 (fun _ => true) true n e cs = some y → Q cs)
    (hv : Value.okWide P W .any base t v) (h : DataW.Trod enc P W 0 (fun _ => true) true t v d ps) :
    ∃ (A : Option Addr) (len c : Nat) (ch : Nat → List Value), v = .slice A len c ∧ (∀ i, i < len → Q (ch i)) ∧ Rd W A ((List.range len).flatMap ch) ∧ (∀ x ∈ ps, x.block < W.heap.size) ∧ len ≤ c := by
  obtain ⟨A, len, c, rfl⟩ := okWide_slice hu hv
  obtain ⟨fuel, hf⟩ := h
  have hlt : ∀ x ∈ ps, x.block < W.heap.size := DataW.trod_lt fuel _ _ _ hf
  rcases DataW.trod_slice hu hf with ⟨hcs, _⟩ | ⟨a, len', cap, elems, rest, n, _, hcs, _, hb, hlc, hm, hlen, hel, _, _⟩
  · simp [Value.cells] at hcs
    obtain ⟨rfl, rfl, rfl⟩ := hcs
    exact ⟨none, 0, 0, fun _ => [], rfl, fun i hi => by omega, Rd.nil _ _, hlt, Nat.le_refl _⟩
  · simp [Value.cells] at hcs
    obtain ⟨rfl, rfl, rfl⟩ := hcs
    have each : ∀ i, i < len → ∃ cs, W.cells? 0 (a.add (i * m)) m = some cs ∧ Q cs := fun i hi => by
      have h1 := hel i hi
      rw [List.getElem?_eq_getElem (by omega), Option.bind_eq_some_iff, hco] at h1
      obtain ⟨cs, h2, h3⟩ := h1
      exact ⟨cs, h2, hq _ _ _ h3⟩
    have hch : ∀ i, ∃ cs, i < len → W.cells? 0 (a.add (i * m)) m = some cs ∧ Q cs := fun i => by
      by_cases hi : i < len
      · obtain ⟨cs, h1⟩ := each i hi
        exact ⟨cs, fun _ => h1⟩
      · exact ⟨[], fun h => absurd h hi⟩
    refine ⟨_, _, _, fun i => Classical.choose (hch i), rfl, fun i hi => (Classical.choose_spec (hch i) hi).2, ?_, hlt, hlc⟩
    generalize hF : (fun i => Classical.choose (hch i)) = F
    have hF2 : ∀ i, i < len → W.cells? 0 (a.add (i * m)) m = some (F i) := fun i hi => by rw [← hF]; exact (Classical.choose_spec (hch i) hi).1
    obtain ⟨c1, c2⟩ := chunk_at (f := F) h0 (len := len) (fun i hi => (World.cells?_some (hF2 i hi)).2.1)
    intro j u hj
    have hjl : j < len * m := by rw [← c1]; exact (List.getElem?_eq_some_iff.1 hj).1
    rw [c2 j hjl] at hj
    have hq : j / m < len := by
      rw [Nat.div_lt_iff_lt_mul h0]; exact hjl
    have hl0 : 0 < len := Nat.lt_of_le_of_lt (Nat.zero_le _) hq
    have hr : j % m < m := Nat.mod_lt _ h0
    have key := (World.cells?_some (hF2 _ hq)).2.2 _ hr
    rw [hj] at key
    obtain ⟨b, o, s⟩ := a
    have hs : s = none := by
      have h0' := (World.cells?_some (hF2 0 hl0)).2.2 0 h0
      have h1 := (World.cells?_some (hF2 0 hl0)).2.1
      rw [Nat.zero_mul, List.getElem?_eq_getElem (by omega)] at h0'
      simp only [Addr.add, if_true, World.cell?] at h0'
      cases s with
      | none => rfl
      | some x =>
        split at h0'
        · simp at h0'
        · cases h0'
    subst hs
    refine ⟨b, o, rfl, ?_⟩
    rw [addr_add, addr_add] at key
    rw [← key]
    congr 2
    have := Nat.div_add_mod j m
    rw [Nat.mul_comm] at this
    omega
/-- a step's fields -/
structure StepD where
  kind : Int
  mask : Int
  hires : Bool
  x : Int
  y : Int
  n : Int
  big : Bool
  clip : Bool
  A : Option Addr
  c : Nat
  d : List Int
def stepL (s : StepD) : List Value := [.int .i64 s.kind, .int .i64 s.mask, .bool s.hires, .int .i64 s.x, .int .i64 s.y, .int .i64 s.n, .bool s.big, .bool s.clip, .slice s.A s.d.length s.c]
theorem stepL_len (s : StepD) : (stepL s).length = 9 := rfl
def i64wf (a : Int) : Prop := -9223372036854775808 ≤ a ∧ a ≤ 9223372036854775807
def okStep (W : World) (s : StepD) : Prop := i64wf s.kind ∧ i64wf s.mask ∧ i64wf s.x ∧ i64wf s.y ∧ i64wf s.n ∧ Rd W s.A (s.d.map (Value.int .u8)) ∧ (∀ z ∈ s.d, 0 ≤ z ∧ z ≤ 255) ∧ s.d.length ≤ s.c
def fieldsB : TypeDesc → List (TypeId × Nat)
  | .struct fs => fs.toList.map fun f => (f.type, f.offset)
  | _ => []
section
variable {H' : Type} {enc : TypeId × Value → H'} {P : Program} {w : World} {fuel : Nat} {cs : List Value} {y : DataW H' × List MemPlace} {t e : TypeId}
theorem trod_fields {ts : List (TypeId × Nat)} (hu : (P.underlying t).map fieldsB = some ts) (hne : ts ≠ []) (h : DataW.trod enc P w 0 (fun _ => true) true fuel t cs = some y) :
    cs.length = P.cellsOf t ∧ ∃ n, ∀ p ∈ ts, ∃ y, DataW.trod enc P w 0 (fun _ => true) true n p.1 ((cs.drop p.2).take (P.cellsOf p.1)) = some y := by
  cases fuel with
  | zero => simp [DataW.trod] at h
  | succ fuel =>
    obtain ⟨u, hu1, hu2⟩ := Option.map_eq_some_iff.1 hu
    cases u <;> first | (exact absurd hu2.symm hne) | skip
    unfold DataW.trod at h
    simp only [hu1] at h
    split at h
    · rename_i hl
      obtain ⟨xs, hxs, _⟩ := Option.map_eq_some_iff.1 h
      refine ⟨hl, fuel, fun p hp => ?_⟩
      rw [← hu2] at hp
      obtain ⟨f, hf, rfl⟩ := List.mem_map.1 hp
      exact mapM_all hxs f hf
    · cases h
theorem trod_i64 (hl : leaves P 1 t = some [.i .i64]) {v : Value} (h : DataW.trod enc P w 0 (fun _ => true) true fuel t [v] = some y) : ∃ z, v = .int .i64 z ∧ i64wf z := by
  obtain ⟨z, vs, e, hw, _⟩ := cellsWf_int (trod_leaves 1 t _ hl _ _ _ h rfl)
  injection e with e _
  simp only [Lit.wf, Bool.and_eq_true, decide_eq_true_eq] at hw
  rw [show IntKind.i64.min = -9223372036854775808 from by rfl, show IntKind.i64.max = 9223372036854775807 from by rfl] at hw
  exact ⟨z, e, hw⟩
theorem trod_bool (hl : leaves P 1 t = some [.b]) {v : Value} (h : DataW.trod enc P w 0 (fun _ => true) true fuel t [v] = some y) : ∃ z, v = .bool z := by
  obtain ⟨z, vs, e, _⟩ := cellsWf_bool (trod_leaves 1 t _ hl _ _ _ h rfl)
  injection e with e _
  exact ⟨z, e⟩
theorem trod_bytes (hu : P.underlying t = some (.slice e)) (he : P.underlying e = some (.int .u8)) (hc : P.cellsOf e = 1) {v : Value} (h : DataW.trod enc P w 0 (fun _ => true) true fuel t [v] = some y) :
    ∃ (A : Option Addr) (c : Nat) (d : List Int), v = .slice A d.length c ∧ Rd w A (d.map (Value.int .u8)) ∧ (∀ z ∈ d, 0 ≤ z ∧ z ≤ 255) ∧ d.length ≤ c := by
  rcases open_ints hu he hc h with ⟨hcs, _⟩ | ⟨x, l, cp, zs, hcs, _, hl, hm, hz, hx, hcell, hwz⟩
  · injection hcs with e1 _
    exact ⟨none, 0, [], e1, Rd.nil _ _, fun z hz => (by cases hz), Nat.le_refl _⟩
  · injection hcs with e1 _
    have hz' : zs.length = cp := by simpa using hz
    refine ⟨some x, cp, zs.take l, ?_, ?_, fun n hn => ?_, ?_⟩
    · rw [e1, List.length_take, Nat.min_eq_left (by omega)]
    · rw [List.map_take]
      exact (rd_of_cells hcell).take l
    · have hw := hwz n (List.mem_of_mem_take hn)
      simp only [Lit.wf, Bool.and_eq_true, decide_eq_true_eq] at hw
      rw [show IntKind.u8.min = 0 from by rfl, show IntKind.u8.max = 255 from by rfl] at hw
      exact hw
    · rw [List.length_take]; omega
end
theorem step_fields : (Try.prog.underlying 41).map fieldsB = some [(3, 0), (3, 1), (4, 2), (3, 3), (3, 4), (3, 5), (4, 6), (4, 7), (39, 8)] := by kernel_rfl
theorem step_cells : Try.prog.cellsOf 41 = 9 := by kernel_rfl
theorem int_cells : Try.prog.cellsOf 3 = 1 := by kernel_rfl
theorem bool_cells : Try.prog.cellsOf 4 = 1 := by kernel_rfl
theorem bytes_cells : Try.prog.cellsOf 39 = 1 := by kernel_rfl
theorem byte_cells : Try.prog.cellsOf 5 = 1 := by kernel_rfl
theorem bytes_under : Try.prog.underlying 39 = some (.slice 5) := by kernel_rfl
theorem byte_under : Try.prog.underlying 5 = some (.int .u8) := by kernel_rfl
theorem step_agg : isAggT Try.prog 41 = some true := by kernel_rfl
theorem int_leaf : leaves Try.prog 1 3 = some [.i .i64] := by kernel_rfl
theorem bool_leaf : leaves Try.prog 1 4 = some [.b] := by kernel_rfl
theorem step_of {H' : Type} {enc : TypeId × Value → H'} {w : World} {fuel : Nat} {cs : List Value} {y : DataW H' × List MemPlace} (h : DataW.trod enc Try.prog w 0 (fun _ => true) true fuel 41 cs = some y) : ∃ s, cs = stepL s ∧ okStep w s := by
  obtain ⟨hl, n, hp⟩ := trod_fields step_fields (by intro h; cases h) h
  rw [step_cells] at hl
  match cs, hl, hp with
  | [v0, v1, v2, v3, v4, v5, v6, v7, v8], _, hp =>
    obtain ⟨y0, h0⟩ := hp (3, 0) (by simp)
    obtain ⟨y1, h1⟩ := hp (3, 1) (by simp)
    obtain ⟨y2, h2⟩ := hp (4, 2) (by simp)
    obtain ⟨y3, h3⟩ := hp (3, 3) (by simp)
    obtain ⟨y4, h4⟩ := hp (3, 4) (by simp)
    obtain ⟨y5, h5⟩ := hp (3, 5) (by simp)
    obtain ⟨y6, h6⟩ := hp (4, 6) (by simp)
    obtain ⟨y7, h7⟩ := hp (4, 7) (by simp)
    obtain ⟨y8, h8⟩ := hp (39, 8) (by simp)
    simp only [int_cells] at h0 h1 h3 h4 h5
    simp only [bool_cells] at h2 h6 h7
    simp only [bytes_cells] at h8
    obtain ⟨a0, rfl, w0⟩ := trod_i64 int_leaf h0
    obtain ⟨a1, rfl, w1⟩ := trod_i64 int_leaf h1
    obtain ⟨a2, rfl⟩ := trod_bool bool_leaf h2
    obtain ⟨a3, rfl, w3⟩ := trod_i64 int_leaf h3
    obtain ⟨a4, rfl, w4⟩ := trod_i64 int_leaf h4
    obtain ⟨a5, rfl, w5⟩ := trod_i64 int_leaf h5
    obtain ⟨a6, rfl⟩ := trod_bool bool_leaf h6
    obtain ⟨a7, rfl⟩ := trod_bool bool_leaf h7
    obtain ⟨A, c, d, rfl, r1, r2, r3⟩ := trod_bytes bytes_under byte_under byte_cells h8
    exact ⟨⟨a0, a1, a2, a3, a4, a5, a6, a7, A, c, d⟩, rfl, w0, w1, w3, w4, w5, r1, r2, r3⟩
def stepsL (l : List StepD) : List Value := l.flatMap stepL
theorem steps_of {W : World} {ch : Nat → List Value} : ∀ {len : Nat}, (∀ i, i < len → ∃ s, ch i = stepL s ∧ okStep W s) → ∃ l : List StepD, l.length = len ∧ (∀ s ∈ l, okStep W s) ∧ (List.range len).flatMap ch = stepsL l
  | 0, _ => ⟨[], rfl, fun c hc => (by cases hc), rfl⟩
  | len + 1, h => by
    obtain ⟨l, h1, h2, h3⟩ := steps_of (len := len) (fun i hi => h i (by omega))
    obtain ⟨c, e, hc⟩ := h len (by omega)
    refine ⟨l ++ [c], by simp [h1], fun x hx => ?_, ?_⟩
    · rcases List.mem_append.1 hx with hx | hx
      · exact h2 x hx
      · rw [List.mem_singleton.1 hx]; exact hc
    · rw [List.range_succ, List.flatMap_append, h3, List.flatMap_cons, List.flatMap_nil, List.append_nil, e]
      unfold stepsL
      rw [List.flatMap_append, List.flatMap_cons, List.flatMap_nil, List.append_nil]
theorem steps_at : ∀ {l : List StepD} {i j : Nat} (hi : i < l.length), j < 9 → (stepsL l)[i * 9 + j]? = (stepL l[i])[j]?
  | [], i, _, hi, _ => by simp at hi
  | c :: l, 0, j, hi, hj => by
    show (stepL c ++ stepsL l)[0 * 9 + j]? = _
    rw [Nat.zero_mul, Nat.zero_add, List.getElem?_append, stepL_len c, if_pos hj]; rfl
  | c :: l, i + 1, j, hi, hj => by
    show (stepL c ++ stepsL l)[(i + 1) * 9 + j]? = _
    rw [List.getElem?_append, stepL_len c, if_neg (by omega), show (i + 1) * 9 + j - 9 = i * 9 + j by omega]
    exact steps_at (by simpa using hi) hj
theorem Rd_step {w : World} {b o : Nat} {l : List StepD} (hA : Rd w (some ⟨b, o, none⟩) (stepsL l)) {i : Nat} (hi : i < l.length) : Rd w (some ⟨b, o + i * 9, none⟩) (stepL l[i]) := fun j u hj => by
  have hlt : j < 9 := by
    have := (List.getElem?_eq_some_iff.1 hj).1
    rwa [stepL_len] at this
  rw [← steps_at hi hlt] at hj
  obtain ⟨b', o', e, hc⟩ := hA _ u hj
  injection e with e
  injection e with e1 e2 _
  subst e1; subst e2
  exact ⟨_, _, rfl, by rw [Nat.add_assoc]; exact hc⟩
theorem steps_some {w : World} {A : Option Addr} {l : List StepD} (hA : Rd w A (stepsL l)) {i : Nat} (hi : i < l.length) : ∃ b o, A = some ⟨b, o, none⟩ := by
  obtain ⟨b, o, e, _⟩ := hA (i * 9 + 0) (.int .i64 l[i].kind) (by rw [steps_at hi (by omega)]; rfl)
  exact ⟨b, o, e⟩
theorem okStep.keep {W W' : World} {s : StepD} (h : okStep W s) {H : List Res} (hw : Sat W [] H W') : okStep W' s := ⟨h.1, h.2.1, h.2.2.1, h.2.2.2.1, h.2.2.2.2.1, h.2.2.2.2.2.1.keep hw, h.2.2.2.2.2.2⟩
theorem row_steps {H' : Type} {enc : TypeId × Value → H'} {W : World} {base : Nat} {t : TypeId} {v : Value} {d : DataW H'} {ps : List MemPlace} (hu : Try.prog.underlying t = some (.slice 41))
    (hv : Value.okWide Try.prog W .any base t v) (h : DataW.Trod enc Try.prog W 0 (fun _ => true) true t v d ps) :
    ∃ (A : Option Addr) (c : Nat) (l : List StepD), v = .slice A l.length c ∧ Rd W A (stepsL l) ∧ (∀ s ∈ l, okStep W s) ∧ (∀ x ∈ ps, x.block < W.heap.size) := by
  obtain ⟨A, len, c, ch, rfl, h1, h2, h3, _⟩ := row_each (m := 9) (Q := fun cs => ∃ s, cs = stepL s ∧ okStep W s) hu step_cells (by omega) (fun n cs y h => step_of h) hv h
  obtain ⟨l, rfl, h4, h5⟩ := steps_of h1
  rw [h5] at h2
  exact ⟨A, c, l, rfl, h2, h4, h3⟩
theorem row_step {H' : Type} {enc : TypeId × Value → H'} {W : World} {base : Nat} {v : Value} {d : DataW H'} {ps : List MemPlace}
    (hv : Value.okWide Try.prog W .any base 41 v) (h : DataW.Trod enc Try.prog W 0 (fun _ => true) true 41 v d ps) :
    ∃ s : StepD, v = .agg (stepL s).toArray ∧ okStep W s ∧ (∀ x ∈ ps, x.block < W.heap.size) := by
  obtain ⟨cs, rfl, hsz⟩ := okWide_agg step_agg hv
  obtain ⟨fuel, hf⟩ := h
  have hf : DataW.trod enc Try.prog W 0 (fun _ => true) true fuel 41 cs.toList = some (d, ps) := hf
  obtain ⟨s, e, hs⟩ := step_of hf
  exact ⟨s, by rw [← e], hs, DataW.trod_lt fuel _ _ _ hf⟩
end Go.Proofs.Ytgamehjakgcgnaa
