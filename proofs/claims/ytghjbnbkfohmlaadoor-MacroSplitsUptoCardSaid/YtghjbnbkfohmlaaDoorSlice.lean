/-
  Rules of the judgement 'Run' for slices: lengths, slice expressions, literals, append, make, copy. No program in sight.
-/
import Derived.Test.YtghjbnbkfohmlaaDoorMem
namespace Go.Proofs.YtghjbnbkfohmlaaDoor
open Go Go.RowKit
set_option linter.unusedVariables false
set_option linter.unusedSimpArgs false

/-- the cells from an address on -/
def Rd (w : World) (A : Option Addr) (xs : List Value) : Prop := ∀ (j : Nat) u, xs[j]? = some u → ∃ b o, A = some ⟨b, o, none⟩ ∧ w.cell? ⟨b, o + j, none⟩ = some u

theorem Rd.nil (w : World) (A : Option Addr) : Rd w A [] := fun j u h => by simp at h

theorem Rd.keepS {w w1 : World} {A : Option Addr} {xs : List Value} {S : List Nat} {H : List Res} (h : Rd w A xs) (hS : Sat w S H w1) (hn : ∀ a, A = some a → a.block ∉ S) : Rd w1 A xs := fun j u hj => by
  obtain ⟨b, o, rfl, hc⟩ := h j u hj
  refine ⟨b, o, rfl, ?_⟩
  have hb : b < w.heap.size := World.block_lt_of_cell? w _ hc
  rw [World.cell?_of_block (w := w) (hS.keep b hb (hn _ rfl))]
  exact hc
theorem Rd.keep {w w1 : World} {A : Option Addr} {xs : List Value} {H : List Res} (h : Rd w A xs) (hS : Sat w [] H w1) : Rd w1 A xs := h.keepS hS (by simp)

theorem Rd.take {w : World} {A : Option Addr} {xs : List Value} (k : Nat) (h : Rd w A xs) : Rd w A (xs.take k) := fun j u hj => by
  rw [List.getElem?_take] at hj
  split at hj
  · exact h j u hj
  · cases hj

theorem Rd.cell {w : World} {A : Option Addr} {xs : List Value} (h : Rd w A xs) {j : Nat} {u : Value} (hj : xs[j]? = some u) {b o : Nat} (hA : A = some ⟨b, o, none⟩) : w.cell? ⟨b, o + j, none⟩ = some u := by
  obtain ⟨b', o', h1, h2⟩ := h j u hj
  rw [hA] at h1
  injection h1 with h1
  injection h1 with h3 h4
  subst h3; subst h4
  exact h2

theorem Rd.blk {w : World} {b o : Nat} {cs : Array Value} {T : TypeId} {fr : Nat × Nat} {xs : List Value} (hb : w.heap[b]? = some (.cells cs T fr)) (hx : ∀ j u, xs[j]? = some u → cs[o + j]? = some u) : Rd w (some ⟨b, o, none⟩) xs :=
  fun j u hj => ⟨b, o, rfl, by rw [cell_of_row w b _ cs T fr hb]; exact hx j u hj⟩

theorem owns_rd {w : World} {T sz n c : Nat} {A : Option Addr} {xs : List Value} (h : w.ownsRow 0 T sz (.slice A n c) n xs) : Rd w A xs := fun j u hj => by
  rcases h.2 with ⟨h1, h2⟩ | ⟨g, cap, cur, h1, _, hg, _, _, _, htake⟩
  · have := h.1
    subst h2
    simp at this
    subst this
    simp at hj
  · injection h1 with h1 _ h2
    subst h1; subst h2
    refine ⟨g, 0, rfl, ?_⟩
    rw [cell_of_row w g _ cur T (0, 0) hg, Nat.zero_add]
    rw [← htake, List.getElem?_take] at hj
    split at hj
    · simpa using hj
    · cases hj

section
variable {P : Program} {n : Nat} {w0 : World} {S : List Nat} {E E' : List (Nat × Value)} {H H' G : List Res} {Q : Exit → Act → World → Prop}
variable {dr : Option Dr} {ops : Array Oper} {K : Act → World → Prop} {rest : List Oper} {d : Nat} {ty : TypeId} {pos : String} {after : Array Edge} {x y : Operand}

/-- what a list says of a slice of the call's own -/
theorem own_rd {w : World} {T sz m c : Nat} {A : Option Addr} {xs : List Value} [hp : HasOwn (.slice A m c) H T sz m xs G] (hw : Sat w0 S H w) : Rd w A xs := owns_rd (hw.look hp.pick)
theorem own_len {w : World} {T sz m k : Nat} {v : Value} {xs : List Value} [hp : HasOwn v H T sz m xs G] (hw : Sat w0 S H w) (hk : m * sz = k) : xs.length = k := hk ▸ (hw.look hp.pick).1

theorem r_len {t : TypeId} {A : Option Addr} {l c : Nat} (hd : Nat.blt d n = true) (hx : ev E x = some (.slice A l c)) {e : TypeId} (ht : P.underlying t = some (.slice e))
    (hk : Run n w0 S ((d, .int .i64 l) :: E) H (mix P dr ops K rest)) :
    Run n w0 S E H (mix P dr ops K (⟨some d, .call { callee := .builtin .len, args := #[x], argTypes := #[t] }, ty, pos, after, none⟩ :: rest)) :=
  r_value hd (by cases dr <;> rfl) (fun a ha w => by simp [execOp, resolve, invoke, builtin, ha.ev hx, Builtin.len_, run_underlying ht, goInt, Sem.run_bind]) hk
theorem r_lenStr {t : TypeId} {s : ByteArray} (hd : Nat.blt d n = true) (hx : ev E x = some (.string s)) (ht : P.underlying t = some .string)
    (hk : Run n w0 S ((d, .int .i64 s.size) :: E) H (mix P dr ops K rest)) :
    Run n w0 S E H (mix P dr ops K (⟨some d, .call { callee := .builtin .len, args := #[x], argTypes := #[t] }, ty, pos, after, none⟩ :: rest)) :=
  r_value hd (by cases dr <;> rfl) (fun a ha w => by simp [execOp, resolve, invoke, builtin, ha.ev hx, Builtin.len_, run_underlying ht, goInt, Sem.run_bind]) hk

theorem run_equal_nil {t e : TypeId} (ht : P.underlying t = some (.slice e)) (dp : Nat) (A : Option Addr) (l c l' c' : Nat) (w : World) : (Op.equalIn (dp + 1) t (.slice A l c) (.slice none l' c')).run P w = .ok A.isNone w := by
  unfold Op.equalIn
  cases A <;> simp [Sem.run_bind, run_underlying ht]
theorem r_eqlNil {t t' e : TypeId} {A : Option Addr} {l c l' c' : Nat} {p : Bool} (hd : Nat.blt d n = true) (hx : ev E x = some (.slice A l c)) (hy : ev E y = some (.slice none l' c')) (ht : P.underlying t = some (.slice e)) (hr : A.isNone = p)
    (hk : Run n w0 S ((d, .bool p) :: E) H (mix P dr ops K rest)) :
    Run n w0 S E H (mix P dr ops K (⟨some d, .binOp .eql t x y t', ty, pos, after, none⟩ :: rest)) :=
  r_bin hd hx hy (fun w => by simp [eqGuard]) (fun w => by
    subst hr
    show (do pure (.bool (← Op.equalIn (9999 + 1) t (.slice A l c) (.slice none l' c'))) : Sem Value).run P w = _
    rw [Sem.run_bind, run_equal_nil ht]
    rfl) hk

/-- an array's slice, up to a number -/
theorem r_sliceArr {t : TypeId} {b o len : Nat} {e : TypeId} (hd : Nat.blt d n = true) (hx : ev E x = some (.pointer (some ⟨b, o, none⟩))) (ht : P.underlying t = some (.array len e)) (hz : ((P.info? e).map (·.size)).isSome = true)
    (hk : Run n w0 S ((d, .slice (some ⟨b, o, none⟩) len len) :: E) H (mix P dr ops K rest)) :
    Run n w0 S E H (mix P dr ops K (⟨some d, .slice t x none none none, ty, pos, after, none⟩ :: rest)) :=
  r_value hd (by cases dr <;> rfl) (fun a ha w => by
    obtain ⟨z, hz⟩ := Option.isSome_iff_exists.1 hz
    obtain ⟨i, hi, _⟩ := Option.map_eq_some_iff.1 hz
    simp [execOp, ha.ev hx, Instr.sliceAt, run_underlying ht, Sem.run_bind, Instr.sureAddr, Instr.sliceBounds, sizeOf, typeInfo, hi, addr_add]) hk
theorem r_sliceArrHi {t : TypeId} {b o len : Nat} {e : TypeId} {k : IntKind} {h : Int} {h' : Nat} (hd : Nat.blt d n = true) (hx : ev E x = some (.pointer (some ⟨b, o, none⟩))) (hy : ev E y = some (.int k h)) (ht : P.underlying t = some (.array len e)) (hz : ((P.info? e).map (·.size)).isSome = true)
    (h0 : h = (h' : Nat)) (h1 : h' ≤ len)
    (hk : Run n w0 S ((d, .slice (some ⟨b, o, none⟩) h' len) :: E) H (mix P dr ops K rest)) :
    Run n w0 S E H (mix P dr ops K (⟨some d, .slice t x none (some y) none, ty, pos, after, none⟩ :: rest)) :=
  r_value hd (by cases dr <;> rfl) (fun a ha w => by
    obtain ⟨z, hz⟩ := Option.isSome_iff_exists.1 hz
    obtain ⟨i, hi, _⟩ := Option.map_eq_some_iff.1 hz
    subst h0
    simp [execOp, ha.ev hx, ha.ev hy, Instr.sliceAt, run_underlying ht, Sem.run_bind, Instr.sureAddr, Instr.sliceBounds, Instr.sliceBound, asIntOf, sizeOf, typeInfo, hi, addr_add, h1]) hk
/-- a slice's beginning -/
theorem r_sliceHi {t : TypeId} {A : Option Addr} {len cap : Nat} {e : TypeId} {k : IntKind} {h : Int} {h' : Nat} (hd : Nat.blt d n = true) (hx : ev E x = some (.slice A len cap)) (hy : ev E y = some (.int k h)) (ht : P.underlying t = some (.slice e)) (hz : ((P.info? e).map (·.size)).isSome = true)
    (h0 : h = (h' : Nat)) (h1 : h' ≤ cap)
    (hk : Run n w0 S ((d, .slice A h' cap) :: E) H (mix P dr ops K rest)) :
    Run n w0 S E H (mix P dr ops K (⟨some d, .slice t x none (some y) none, ty, pos, after, none⟩ :: rest)) :=
  r_value hd (by cases dr <;> rfl) (fun a ha w => by
    obtain ⟨z, hz⟩ := Option.isSome_iff_exists.1 hz
    obtain ⟨i, hi, _⟩ := Option.map_eq_some_iff.1 hz
    subst h0
    have e0 : A.map (fun x => x.add 0) = A := by cases A <;> simp [Addr.add]
    simp [execOp, ha.ev hx, ha.ev hy, Instr.sliceAt, Instr.slice, run_underlying ht, Sem.run_bind, Instr.sliceBounds, Instr.sliceBound, asIntOf, sizeOf, typeInfo, hi, h1, e0]) hk
/-- a slice's rest -/
theorem r_sliceLo {t : TypeId} {A : Option Addr} {len cap sz : Nat} {e : TypeId} {k : IntKind} {h : Int} {h' : Nat} (hd : Nat.blt d n = true) (hx : ev E x = some (.slice A len cap)) (hy : ev E y = some (.int k h)) (ht : P.underlying t = some (.slice e)) (hz : (P.info? e).map (·.size) = some sz)
    (h0 : h = (h' : Nat)) (h1 : h' ≤ len)
    (hk : Run n w0 S ((d, .slice (if cap = h' then A else A.map (·.add (h' * sz))) (len - h') (cap - h')) :: E) H (mix P dr ops K rest)) :
    Run n w0 S E H (mix P dr ops K (⟨some d, .slice t x (some y) none none, ty, pos, after, none⟩ :: rest)) :=
  r_value hd (by cases dr <;> rfl) (fun a ha w => by
    obtain ⟨i, hi, hs⟩ := Option.map_eq_some_iff.1 hz
    subst h0
    simp [execOp, ha.ev hx, ha.ev hy, Instr.sliceAt, Instr.slice, run_underlying ht, Sem.run_bind, Instr.sliceBounds, Instr.sliceBound, asIntOf, sizeOf, typeInfo, hi, hs, h1]) hk

theorem Rd.drop {w : World} {A : Option Addr} {xs : List Value} (k : Nat) (h : Rd w A xs) {cap l : Nat} (hl : xs.length ≤ cap) (hkl : l = k) : Rd w (if cap = k then A else A.map (·.add l)) (xs.drop k) := fun j u hj => by
  subst hkl
  rw [List.getElem?_drop] at hj
  have hlt := (List.getElem?_eq_some_iff.1 hj).1
  obtain ⟨b, o, rfl, hc⟩ := h _ u hj
  rw [if_neg (by omega)]
  exact ⟨b, o + l, by simp [addr_add], by rw [Nat.add_assoc]; exact hc⟩

/-! a slice of the call's own -/
theorem Sat.ownNew {w0 w : World} {S : List Nat} {H : List Res} (h : Sat w0 S H w) (cs : Array Value) (T sz m : Nat) (hm : m ≤ maxLen) (hs : cs.size = m * sz) :
    Sat w0 S (.own T sz (.slice (some ⟨w.heap.size, 0, none⟩) m m) m cs.toList :: H) (w.alloc (.cells cs T)) := by
  have h1 := h.alloc (.cells cs T)
  have h2 := h1.ok (.blk w.heap.size (.cells cs T)) (.head _)
  refine h1.write (w' := w.alloc (.cells cs T)) (r' := .own T sz (.slice (some ⟨w.heap.size, 0, none⟩) m m) m cs.toList) rfl rfl rfl rfl (Nat.le_refl _) (fun _ _ _ => rfl) ?_
  exact ⟨by simp [hs], .inr ⟨w.heap.size, m, cs, rfl, Nat.zero_le _, h2, Nat.le_refl _, hm, hs, List.take_of_length_le (by simp [hs])⟩⟩

theorem Sat.openOwn {w0 w : World} {S : List Nat} {G : List Res} {T sz m c : Nat} {A : Option Addr} {xs : List Value} (h : Sat w0 S (.own T sz (.slice A m c) m xs :: G) w) :
    (A = none ∧ m = 0 ∧ c = 0 ∧ xs = [] ∧ Sat w0 S G w) ∨ ∃ g cur, A = some ⟨g, 0, none⟩ ∧ m ≤ c ∧ c ≤ maxLen ∧ cur.size = c * sz ∧ cur.toList.take (m * sz) = xs ∧ Sat w0 S (.blk g (.cells cur T (0, 0)) :: G) w := by
  have hok := h.ok _ (.head _)
  rcases hok.2 with ⟨h1, h2⟩ | ⟨g, cap, cur, h1, _, hg, hle, hm, hsz, ht⟩
  · injection h1 with h1 h3 h4
    refine .inl ⟨h1, h2, h4, ?_, h.drop⟩
    have := hok.1
    subst h2
    simpa using this
  · injection h1 with h1 _ h2
    subst h1; subst h2
    exact .inr ⟨g, cur, rfl, hle, hm, hsz, ht, h.write (r' := .blk g (.cells cur T (0, 0))) rfl rfl rfl rfl (Nat.le_refl _) (fun _ _ _ => rfl) hg⟩

theorem Sat.closeOwn {w0 w : World} {S : List Nat} {G : List Res} {T sz m c g : Nat} {cur : Array Value} {xs : List Value} (h : Sat w0 S (.blk g (.cells cur T (0, 0)) :: G) w) (hle : m ≤ c) (hc : c ≤ maxLen) (hsz : cur.size = c * sz) (ht : cur.toList.take (m * sz) = xs) :
    Sat w0 S (.own T sz (.slice (some ⟨g, 0, none⟩) m c) m xs :: G) w := by
  have hok := h.ok _ (.head _)
  have hm : m * sz ≤ c * sz := Nat.mul_le_mul_right _ hle
  refine h.write (r' := .own T sz (.slice (some ⟨g, 0, none⟩) m c) m xs) rfl rfl rfl rfl (Nat.le_refl _) (fun _ _ _ => rfl) ?_
  exact ⟨by rw [← ht]; simp; omega, .inr ⟨g, c, cur, rfl, Nat.zero_le _, hok, hle, hc, hsz, ht⟩⟩

/-- the nil slice is owned -/
theorem Sat.ownNil {w0 w : World} {S : List Nat} {H : List Res} (h : Sat w0 S H w) (T sz : Nat) : Sat w0 S (.own T sz (.slice none 0 0) 0 [] :: H) w :=
  ⟨h.os, h.tape, h.output, h.size, h.keep, fun r hr => by
    rcases List.mem_cons.1 hr with rfl | hr
    · exact World.ownsRow_nil w 0 T sz
    · exact h.ok r hr, fun r hr k hk => by
    rcases List.mem_cons.1 hr with rfl | hr
    · simp [Res.foot, Value.ownBlock] at hk
    · exact h.feet r hr k hk, List.pairwise_cons.2 ⟨fun s _ k hk => by simp [Res.foot, Value.ownBlock] at hk, h.apart⟩⟩
theorem Run.ownNil {G : Act → World → Prop} (T sz : Nat) (h : Run n w0 S E (.own T sz (.slice none 0 0) 0 [] :: H) G) : Run n w0 S E H G := fun a w ha hw => h a w ha (hw.ownNil T sz)

theorem Run.openOwn {Gl : Act → World → Prop} {T sz m c : Nat} {A : Option Addr} {xs : List Value} (v : Value) (hv : v = .slice A m c) [hp : HasOwn v H T sz m xs G]
    (h0 : A = none → m = 0 → c = 0 → xs = [] → Run n w0 S E G Gl)
    (h1 : ∀ g cur, A = some ⟨g, 0, none⟩ → m ≤ c → c ≤ maxLen → cur.size = c * sz → cur.toList.take (m * sz) = xs → Run n w0 S E (.blk g (.cells cur T (0, 0)) :: G) Gl) : Run n w0 S E H Gl := by
  intro a w ha hw
  subst hv
  rcases (hw.pick hp.pick).openOwn with ⟨e1, e2, e3, e4, hs⟩ | ⟨g, cur, e1, e2, e3, e4, e5, hs⟩
  · exact h0 e1 e2 e3 e4 a w ha hs
  · exact h1 g cur e1 e2 e3 e4 e5 a w ha hs

/-- a literal -/
theorem run_buildSlice {t e : TypeId} {len sz : Nat} {z : Value} {pv : List (Nat × Value)} {cells : Array Value} (ht : P.underlying t = some (.slice e)) (hz : (P.info? e).map (·.size) = some sz) (hzero : (P.info? e).bind (·.zero) = some z)
    (hlen : Nat.ble (len * sz) 4096 = true) (hf : Instr.fill (fun i => some (i * sz, sz)) ((Array.range (len * sz)).map ((if len * sz = 0 then #[] else z.cells)[· % (if len * sz = 0 then #[] else z.cells).size]!)) pv = some cells) (w : World) :
    (Instr.buildSlice t len pv.toArray).run P w = .ok (.slice (some ⟨w.heap.size, 0, none⟩) len len) (w.alloc (.cells cells e)) := by
  obtain ⟨i, hi, hsz⟩ := Option.map_eq_some_iff.1 hz
  obtain ⟨i', hi', hzz⟩ := Option.bind_eq_some_iff.1 hzero
  have : i' = i := by rw [hi] at hi'; exact (Option.some.inj hi').symm
  subst this
  have hlen' : ¬ len * sz > 2 ^ 24 := by
    have := Nat.le_of_ble_eq_true hlen
    omega
  unfold Instr.buildSlice
  rw [Sem.run_bind, run_underlying ht]
  simp only [Result.andThen_ok]
  rw [Sem.run_bind]
  have e1 : (sizeOf e).run P w = .ok sz w := by simp [sizeOf, typeInfo, hi, hsz, Sem.run_bind]
  rw [e1]
  simp only [Result.andThen_ok, if_neg hlen']
  by_cases h0 : len * sz = 0
  · simp only [h0, if_true] at hf ⊢
    simp only [Sem.run_bind, Sem.run_pure, Result.andThen_ok, hf]
    simp [newRow]
  · simp only [h0, if_false] at hf ⊢
    have e2 : (zeroValue e).run P w = .ok z w := by simp [zeroValue, typeInfo, hi, hzz, Sem.run_bind]
    simp only [Sem.run_bind, Sem.run_pure, Result.andThen_ok, e2, hf]
    simp [newRow]

theorem r_buildSlice {t e : TypeId} {len sz : Nat} {z : Value} {parts : List (Nat × Operand)} {pv : List (Nat × Value)} {cells : Array Value} (hd : Nat.blt d n = true) (ht : P.underlying t = some (.slice e)) (hz : (P.info? e).map (·.size) = some sz) (hzero : (P.info? e).bind (·.zero) = some z)
    (hv : ∀ a, Holds n E a → parts.map (fun p => (p.1, a.eval p.2)) = pv) (hlen : Nat.ble (len * sz) 4096 = true)
    (hf : Instr.fill (fun i => some (i * sz, sz)) ((Array.range (len * sz)).map ((if len * sz = 0 then #[] else z.cells)[· % (if len * sz = 0 then #[] else z.cells).size]!)) pv = some cells) (hs : cells.size = len * sz)
    (hk : ∀ b, Run n w0 S ((d, .slice (some ⟨b, 0, none⟩) len len) :: E) (.own e sz (.slice (some ⟨b, 0, none⟩) len len) len cells.toList :: H) (mix P dr ops K rest)) (hl : len ≤ 4096) :
    Run n w0 S E H (mix P dr ops K (⟨some d, .buildSlice t len parts.toArray, ty, pos, after, none⟩ :: rest)) :=
  r_act (X := []) (by cases dr <;> rfl) okAct_nil fun a w ha hw => by
    have hkp := keep_alloc w (.cells cells e) []
    have h := hk _ _ _ (ha.put hd (.slice (some ⟨w.heap.size, 0, none⟩) len len)) (hw.ownNew cells e sz len (by unfold maxLen; omega) hs)
    have hpv := hv a ha
    have hpa : (parts.toArray.map fun p => (p.1, a.eval p.2)) = pv.toArray := by rw [← hpv]; simp
    have hrun : (execOp a.eval ⟨some d, .buildSlice t len parts.toArray, ty, pos, after, none⟩).run P w = .ok (.value (.slice (some ⟨w.heap.size, 0, none⟩) len len)) (w.alloc (.cells cells e)) := by
      have e0 : execOp a.eval ⟨some d, .buildSlice t len parts.toArray, ty, pos, after, none⟩ = (do pure (.value (← Instr.buildSlice t len (parts.toArray.map fun p => (p.1, a.eval p.2))))) := rfl
      rw [e0, hpa, Sem.run_bind, run_buildSlice ht hz hzero hlen hf]
      rfl
    rw [hrun]
    exact ⟨hkp, h⟩

theorem run_append_nothing {w : World} {t ty' e sz c2 : Nat} {v : Value} {m : Nat} {xs : List Value} (ht : P.underlying t = some (.slice e)) (hz : (P.info? e).map (·.size) = some sz) (hown : w.ownsRow 0 e sz v m xs) :
    (Builtin.append_ #[t, t] ty' #[v, .slice none 0 c2]).run P w = .ok v w := by
  obtain ⟨i, hi, _⟩ := Option.map_eq_some_iff.1 hz
  rcases hown.2 with ⟨rfl, rfl⟩ | ⟨g, cap, cur, rfl, _, _, hnc, _⟩
  · simp [Builtin.append_, run_underlying ht, sizeOf, typeInfo, hi, Builtin.lenOf, Builtin.firstCells]
  · simp [Builtin.append_, run_underlying ht, sizeOf, typeInfo, hi, Builtin.lenOf, Builtin.firstCells, hnc, storeCells]

/-- where an append lies -/
theorem append_where {w w' : World} {t ty' e sz bytes m c k c2 : Nat} {z v' : Value} {i : TypeInfo} {A : Option Addr} {ad : Addr} {xs news : List Value} (ht : P.underlying t = some (.slice e)) (hi : P.info? e = some i) (hz : i.zero = some z)
    (hsz : i.size = sz) (hby : i.bytes = bytes) (hown : w.ownsRow 0 e sz (.slice A m c) m xs) (hl : news.length = k * sz) (hnews : ∀ j u, news[j]? = some u → w.cell? (ad.add j) = some u) (h1 : ∀ u ∈ news, u.oneCell' = true)
    (h63 : m + k ≤ maxLen) (hb : (m + k) * bytes ≤ 140737488355328) (hrun : (Builtin.append_ #[t, t] ty' #[.slice A m c, .slice (some ad) k c2]).run P w = .ok v' w') :
    ∀ q, v'.ownBlock = some q → (Value.slice A m c).ownBlock = some q ∨ w.heap.size ≤ q := by
  subst hsz
  subst hby
  have hsmall : m + k ≤ 9223372036854775807 := by simp only [maxLen] at h63; omega
  intro q hq
  rcases hown.2 with ⟨h2, rfl⟩ | ⟨g, cap, cur, h2, _, hg, hnc, hcm, hcs, htake⟩
  · injection h2 with h3 _ h4
    subst h3; subst h4
    by_cases hm : k = 0
    · subst hm
      have hn : news = [] := List.eq_nil_of_length_eq_zero (by simpa using hl)
      subst hn
      have hr : (Builtin.append_ #[t, t] ty' #[.slice none 0 0, .slice (some ad) 0 c2]).run P w = .ok (.slice none 0 0) w := by
        simp [Builtin.append_, run_underlying ht, sizeOf, typeInfo, hi, Builtin.lenOf, Builtin.firstCells, loadCells, loadCellsFrom]
      rw [hr] at hrun
      injection hrun with e1 _
      subst e1
      simp [Value.ownBlock] at hq
    · have hr := run_append_nil (P := P) w t ty' e i z ht hi hz ad k c2 news hl hnews (by omega) (by omega) (by simp only [Nat.zero_add] at hb; omega)
      rw [hr] at hrun
      injection hrun with e1 _
      subst e1
      simp only [Value.ownBlock, Option.some.injEq] at hq
      exact .inr (by omega)
  · injection h2 with h3 _ h4
    subst h3; subst h4
    by_cases hroom : m + k ≤ c
    · have hfit : m * i.size + news.length ≤ cur.size := by rw [hl, hcs, ← Nat.add_mul]; exact Nat.mul_le_mul_right _ hroom
      have hr := run_append_room (P := P) w t ty' e i ht hi g m c cur hg ad k c2 news hl hnews h1 hroom hfit
      rw [hr] at hrun
      injection hrun with e1 _
      subst e1
      exact .inl hq
    · have holds : ∀ j u, xs[j]? = some u → w.cell? ((⟨g, 0, none⟩ : Addr).add j) = some u := hown.cells (g := g) rfl
      have hr := run_append_grow (P := P) w t ty' e i z ht hi hz ⟨g, 0, none⟩ m c xs hown.1 holds ad k c2 news hl hnews (by omega) (by omega) (growslice_fits (by omega) hb)
      rw [hr] at hrun
      injection hrun with e1 _
      subst e1
      simp only [Value.ownBlock, Option.some.injEq] at hq
      exact .inr (by omega)

/-- append to a slice of the call's own; the source's cells are known -/
theorem r_append {t e : TypeId} {sz bytes m c k c2 : Nat} {z : Value} {A A2 : Option Addr} {xs news : List Value} (hd : Nat.blt d n = true) (hx : ev E x = some (.slice A m c)) (hy : ev E y = some (.slice A2 k c2)) [hp : HasOwn (.slice A m c) H e sz m xs G]
    (ht : P.underlying t = some (.slice e)) (hinfo : (P.info? e).map (fun i => (i.zero, i.size, i.bytes)) = some (some z, sz, bytes)) (hzs : z.cells.size = sz) (hsz : 0 < sz)
    (hsrc : ∀ w, Sat w0 S H w → Rd w A2 news) (hl : news.length = k * sz) (h1 : ∀ u ∈ news, u.oneCell' = true) (hb : (m + k) * bytes ≤ 140737488355328) (h63 : m + k ≤ maxLen)
    (hk : ∀ A' c', Run n w0 S ((d, .slice A' (m + k) c') :: E) (.own e sz (.slice A' (m + k) c') (m + k) (xs ++ news) :: G) (mix P dr ops K rest)) (hok : OkAct dr (some d) (Value.slice A m c).ownBlock.toList := by first | exact True.intro | (simp [OkAct, dstIn]; done) | (simp [OkAct, dstIn, *]; done)) :
    Run n w0 S E H (mix P dr ops K (⟨some d, .call { callee := .builtin .append, args := #[x, y], argTypes := #[t, t] }, ty, pos, after, none⟩ :: rest)) :=
  r_act (X := (Value.slice A m c).ownBlock.toList) (by cases dr <;> rfl) hok fun a w ha hw => by
    have hw' := hw.pick hp.pick
    have hown := hw.look hp.pick
    obtain ⟨i, hi, hz0, hz1, hz2⟩ := info_parts hinfo
    have hr := hsrc w hw
    have fin : ∀ v' w', (Builtin.append_ #[t, t] ty #[.slice A m c, .slice A2 k c2]).run P w = .ok v' w' → w'.ownsRow 0 e sz v' (m + k) (xs ++ news) → w.grownBy w' (Value.slice A m c).ownBlock → (∀ q, v'.ownBlock = some q → (Value.slice A m c).ownBlock = some q ∨ w.heap.size ≤ q) →
        actUpon P ⟨some d, .call { callee := .builtin .append, args := #[x, y], argTypes := #[t, t] }, ty, pos, after, none⟩ (fun a w' => Keep (Value.slice A m c).ownBlock.toList w w' ∧ mix P dr ops K rest a w') a ((execOp a.eval ⟨some d, .call { callee := .builtin .append, args := #[x, y], argTypes := #[t, t] }, ty, pos, after, none⟩).run P w) := by
      intro v' w' hrun ho hg hq
      have hv' : ∃ A' c', v' = .slice A' (m + k) c' := by
        rcases ho.2 with ⟨h1, h2⟩ | ⟨g, cap, cur, h1, _⟩
        · exact ⟨none, 0, by rw [h1, h2]⟩
        · exact ⟨_, _, h1⟩
      obtain ⟨A', c', rfl⟩ := hv'
      have h := hk A' c' _ w' (ha.put hd _) (hw'.grown (r' := .own e sz (.slice A' (m + k) c') (m + k) (xs ++ news)) hg hq ho)
      simp [execOp, resolve, invoke, builtin, ha.ev hx, ha.ev hy, hrun, actUpon]
      refine ⟨⟨hg.size, fun k hk hX => hg.block k hk fun e => hX (by rw [← e]; simp)⟩, h⟩
    cases A2 with
    | none =>
      have hn : news = [] := by
        cases news with
        | nil => rfl
        | cons u l => obtain ⟨b, o, h1, _⟩ := hr 0 u rfl; cases h1
      have hk0 : k = 0 := by
        subst hn
        rcases Nat.eq_zero_or_pos k with h | h
        · exact h
        · have := Nat.mul_pos h hsz
          simp at hl
          omega
      subst hn; subst hk0
      refine fin _ w (run_append_nothing ht (by rw [hi]; simp [hz1]) hown) (by simpa using (show w.ownsRow 0 e sz (.slice A m c) m xs from hown)) (by exact ⟨rfl, rfl, rfl, Nat.le_refl _, fun _ _ _ => rfl⟩) (fun q hq => .inl hq)
    | some ad =>
      have hn : ∀ j u, news[j]? = some u → w.cell? (ad.add j) = some u := fun j u hj => by
        obtain ⟨b, o, h1, h2⟩ := hr j u hj
        injection h1 with h1
        subst h1
        rw [addr_add]; exact h2
      obtain ⟨v', w', hrun, ho, hg, _⟩ := run_append_own (P := P) w 0 t ty e i z sz bytes ht hi hz0 hz1 hz2 hzs hsz (.slice A m c) m xs hown ad k c2 news hl hn h1 h63 hb (Nat.zero_le _)
      exact fin v' w' hrun ho hg (append_where ht hi hz0 hz1 hz2 hown hl hn h1 h63 hb hrun)
end
end Go.Proofs.YtghjbnbkfohmlaaDoor
