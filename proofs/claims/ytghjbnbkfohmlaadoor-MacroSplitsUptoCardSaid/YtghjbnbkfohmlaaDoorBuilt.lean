/-
  Further rules of the judgement: copy, least and greatest, bits, shifts, changes of a number's kind, maps of numbers, rows that are made.
-/
import Derived.Test.YtghjbnbkfohmlaaDoorMore
import Derived.Laws.CopyRow
import Derived.Laws.MakeOwn
import Derived.MapKept
namespace Go.Proofs.YtghjbnbkfohmlaaDoor
open Go Go.RowKit
set_option linter.unusedVariables false
set_option linter.unusedSimpArgs false
section
variable {P : Program} {n : Nat} {w0 : World} {S : List Nat} {E : List (Nat × Value)} {H G : List Res} {Q : Exit → Act → World → Prop}
variable {dr : Option Dr} {ops : Array Oper} {K : Act → World → Prop} {rest : List Oper} {d : Nat} {ty : TypeId} {pos : String} {after : Array Edge} {x y z : Operand}

theorem r_copy {dT sT elem : TypeId} {g o m c k c2 : Nat} {A2 : Option Addr} {xs : List Value} {cur cur' : Array Value} {T : TypeId} (hd : Nat.blt d n = true)
    (hx : ev E x = some (.slice (some ⟨g, o, none⟩) m c)) (hy : ev E y = some (.slice A2 k c2)) [hp : HasBlk g H (.cells cur T (0, 0)) G]
    (hu : P.underlying dT = some (.slice elem)) (hs : (P.info? elem).map (·.size) = some 1)
    (hsrc : ∀ w, Sat w0 S H w → Rd w A2 xs) (hl : xs.length = k) (h1 : ∀ u ∈ xs, u.oneCell' = true) (hfit : o + Nat.min k m ≤ cur.size)
    (hcur : (cur.toList.take o ++ xs.take (Nat.min k m) ++ cur.toList.drop (o + Nat.min k m)).toArray = cur')
    (hk : Run n w0 S ((d, .int .i64 (Nat.min k m : Nat)) :: E) (.blk g (.cells cur' T (0, 0)) :: G) (mix P dr ops K rest))
    (hok : OkAct dr (some d) [g] := by first | exact True.intro | (simp [OkAct, dstIn]; done) | (simp [OkAct, dstIn, *]; done)) :
    Run n w0 S E H (mix P dr ops K (⟨some d, .call { callee := .builtin .copy, args := #[x, y], argTypes := #[dT, sT] }, ty, pos, after, none⟩ :: rest)) :=
  r_act (X := [g]) (by cases dr <;> rfl) hok fun a w ha hw => by
    have hw' := hw.pick hp.pick
    have hg : w.heap[g]? = some (.cells cur T (0, 0)) := hw.look hp.pick
    have hr := hsrc w hw
    have hlen : (xs.take (Nat.min k m)).length = Nat.min k m := by
      rw [List.length_take, hl]; exact Nat.min_eq_left (Nat.min_le_left _ _)
    have fin : ∀ w', (Builtin.copy_ #[dT, sT] ty #[.slice (some ⟨g, o, none⟩) m c, .slice A2 k c2]).run P w = .ok (goInt (Nat.min k m)) w' → w' = w.setRow g cur' →
        actUpon P ⟨some d, .call { callee := .builtin .copy, args := #[x, y], argTypes := #[dT, sT] }, ty, pos, after, none⟩ (fun a w' => Keep [g] w w' ∧ mix P dr ops K rest a w') a ((execOp a.eval ⟨some d, .call { callee := .builtin .copy, args := #[x, y], argTypes := #[dT, sT] }, ty, pos, after, none⟩).run P w) := by
      intro w' hrun he
      subst he
      have h := hk _ (w.setRow g cur') (ha.put hd _) (hw'.write (w' := w.setRow g cur') (r' := .blk g (.cells cur' T (0, 0))) rfl rfl rfl rfl (by simp [World.setRow]) (fun k _ hk => by
        simp only [Res.foot, ne_eq, Option.some.injEq] at hk
        simp [World.setRow, Array.getElem?_modify, hk]) (setRow_heap w g cur cur' T (0, 0) hg))
      simp [execOp, resolve, invoke, builtin, ha.ev hx, ha.ev hy, hrun, actUpon]
      exact ⟨⟨by simp [World.setRow], fun k hk hX => by
        have hne : ¬ g = k := fun e => hX (by rw [e]; exact .head _)
        simp [World.setRow, Array.getElem?_modify, hne]⟩, h⟩
    have hzero : Nat.min k m = 0 → cur' = cur := fun h0 => by
      rw [← hcur, h0]
      simp
    cases A2 with
    | none =>
      have hk0 : k = 0 := by
        cases hxs : xs with
        | nil => rw [← hl, hxs]; rfl
        | cons u l => obtain ⟨b, o, h1, _⟩ := hr 0 u (by rw [hxs]; rfl); cases h1
      have h0 : Nat.min k m = 0 := by rw [hk0]; exact Nat.zero_min _
      refine fin w ?_ (by rw [hzero h0, setRow_self w g cur T (0, 0) hg])
      rw [h0]
      exact run_copy_none w dT sT ty elem _ _ m c k c2 hu hs h0
    | some ad =>
      have hrun := run_copy_row P w dT sT ty elem g o m c ad k c2 cur T (xs.take (Nat.min k m)) hu hs hg hlen (fun j v hj => by
        obtain ⟨b, oo, h1, h2⟩ := (hr.take (Nat.min k m)) j v hj
        injection h1 with h1
        subst h1
        rw [addr_add]; exact h2) (by rw [hlen]; exact hfit) (fun u hu => h1 u (List.mem_of_mem_take hu))
      rw [hlen] at hrun
      exact fin _ hrun (by rw [hcur])

theorem r_min {k : IntKind} {a b r : Int} {tys : Array TypeId} (hd : Nat.blt d n = true) (hx : ev E x = some (.int k a)) (hy : ev E y = some (.int k b)) (hr : (if b < a then b else a) = r)
    (hk : Run n w0 S ((d, .int k r) :: E) H (mix P dr ops K rest)) :
    Run n w0 S E H (mix P dr ops K (⟨some d, .call { callee := .builtin .min, args := #[x, y], argTypes := tys }, ty, pos, after, none⟩ :: rest)) :=
  r_value hd (by cases dr <;> rfl) (fun a ha w => by subst hr; simp [execOp, resolve, invoke, builtin, ha.ev hx, ha.ev hy, Builtin.min_, Builtin.min2, Sem.run_bind]) hk
theorem r_max {k : IntKind} {a b r : Int} {tys : Array TypeId} (hd : Nat.blt d n = true) (hx : ev E x = some (.int k a)) (hy : ev E y = some (.int k b)) (hr : (if b > a then b else a) = r)
    (hk : Run n w0 S ((d, .int k r) :: E) H (mix P dr ops K rest)) :
    Run n w0 S E H (mix P dr ops K (⟨some d, .call { callee := .builtin .max, args := #[x, y], argTypes := tys }, ty, pos, after, none⟩ :: rest)) :=
  r_value hd (by cases dr <;> rfl) (fun a ha w => by subst hr; simp [execOp, resolve, invoke, builtin, ha.ev hx, ha.ev hy, Builtin.max_, Builtin.max2, Sem.run_bind]) hk

theorem run_equal_bool {t : TypeId} (ht : P.underlying t = some .bool) (dp : Nat) (a b : Bool) (w : World) : (Op.equalIn (dp + 1) t (.bool a) (.bool b)).run P w = .ok (a == b) w := by
  simp [Op.equalIn, run_underlying ht, Sem.run_bind, Result.andThen]
theorem r_eql_bool {t t' : TypeId} {a b p : Bool} (hd : Nat.blt d n = true) (hx : ev E x = some (.bool a)) (hy : ev E y = some (.bool b)) (ht : P.underlying t = some .bool) (hr : (a == b) = p) (hk : Run n w0 S ((d, .bool p) :: E) H (mix P dr ops K rest)) :
    Run n w0 S E H (mix P dr ops K (⟨some d, .binOp .eql t x y t', ty, pos, after, none⟩ :: rest)) :=
  r_bin hd hx hy (fun w => by simp [eqGuard]) (fun w => by
    subst hr
    show (do pure (.bool (← Op.equalIn (9999 + 1) t (.bool a) (.bool b))) : Sem Value).run P w = _
    rw [Sem.run_bind, run_equal_bool ht]
    rfl) hk
theorem r_neq_bool {t t' : TypeId} {a b p : Bool} (hd : Nat.blt d n = true) (hx : ev E x = some (.bool a)) (hy : ev E y = some (.bool b)) (ht : P.underlying t = some .bool) (hr : (!(a == b)) = p) (hk : Run n w0 S ((d, .bool p) :: E) H (mix P dr ops K rest)) :
    Run n w0 S E H (mix P dr ops K (⟨some d, .binOp .neq t x y t', ty, pos, after, none⟩ :: rest)) :=
  r_bin hd hx hy (fun w => by simp [eqGuard]) (fun w => by
    subst hr
    show (do pure (.bool (!(← Op.equalIn (9999 + 1) t (.bool a) (.bool b)))) : Sem Value).run P w = _
    rw [Sem.run_bind, run_equal_bool ht]
    rfl) hk

theorem r_and {k : IntKind} {a b r : Int} {t t' : TypeId} (hd : Nat.blt d n = true) (hx : ev E x = some (.int k a)) (hy : ev E y = some (.int k b)) (hr : k.wrap (BitVec.ofInt k.bits a &&& BitVec.ofInt k.bits b).toNat = r) (hk : Run n w0 S ((d, .int k r) :: E) H (mix P dr ops K rest)) :
    Run n w0 S E H (mix P dr ops K (⟨some d, .binOp .and t x y t', ty, pos, after, none⟩ :: rest)) :=
  r_bin hd hx hy (guard_int _ _ _ _ _ _ _ _) (fun w => by simp only [binOp, ne_eq, not_true, if_false, Op.intBits, hr]; rfl) hk
theorem r_or {k : IntKind} {a b r : Int} {t t' : TypeId} (hd : Nat.blt d n = true) (hx : ev E x = some (.int k a)) (hy : ev E y = some (.int k b)) (hr : k.wrap (BitVec.ofInt k.bits a ||| BitVec.ofInt k.bits b).toNat = r) (hk : Run n w0 S ((d, .int k r) :: E) H (mix P dr ops K rest)) :
    Run n w0 S E H (mix P dr ops K (⟨some d, .binOp .or t x y t', ty, pos, after, none⟩ :: rest)) :=
  r_bin hd hx hy (guard_int _ _ _ _ _ _ _ _) (fun w => by simp only [binOp, ne_eq, not_true, if_false, Op.intBits, hr]; rfl) hk
theorem r_xor {k : IntKind} {a b r : Int} {t t' : TypeId} (hd : Nat.blt d n = true) (hx : ev E x = some (.int k a)) (hy : ev E y = some (.int k b)) (hr : k.wrap (BitVec.ofInt k.bits a ^^^ BitVec.ofInt k.bits b).toNat = r) (hk : Run n w0 S ((d, .int k r) :: E) H (mix P dr ops K rest)) :
    Run n w0 S E H (mix P dr ops K (⟨some d, .binOp .xor t x y t', ty, pos, after, none⟩ :: rest)) :=
  r_bin hd hx hy (guard_int _ _ _ _ _ _ _ _) (fun w => by simp only [binOp, ne_eq, not_true, if_false, Op.intBits, hr]; rfl) hk
theorem r_andNot {k : IntKind} {a b r : Int} {t t' : TypeId} (hd : Nat.blt d n = true) (hx : ev E x = some (.int k a)) (hy : ev E y = some (.int k b)) (hr : k.wrap (BitVec.ofInt k.bits a &&& ~~~(BitVec.ofInt k.bits b)).toNat = r) (hk : Run n w0 S ((d, .int k r) :: E) H (mix P dr ops K rest)) :
    Run n w0 S E H (mix P dr ops K (⟨some d, .binOp .andNot t x y t', ty, pos, after, none⟩ :: rest)) :=
  r_bin hd hx hy (guard_int _ _ _ _ _ _ _ _) (fun w => by simp only [binOp, ne_eq, not_true, if_false, Op.intBits, hr]; rfl) hk
theorem guard_shift (op : BinOp) (t : TypeId) (x y : Operand) (u v : Value) (w : World) (h : (op matches .eql | .neq) = false) : (eqGuard op t x y u v).run P w = .ok () w := by
  cases op <;> simp_all [eqGuard]
theorem r_shl {k k' : IntKind} {a b r : Int} {t t' : TypeId} (hd : Nat.blt d n = true) (hx : ev E x = some (.int k a)) (hy : ev E y = some (.int k' b)) (hb : 0 ≤ b) (hr : k.wrap (a * 2 ^ (min b.toNat k.bits)) = r) (hk : Run n w0 S ((d, .int k r) :: E) H (mix P dr ops K rest)) :
    Run n w0 S E H (mix P dr ops K (⟨some d, .binOp .shl t x y t', ty, pos, after, none⟩ :: rest)) :=
  r_bin hd hx hy (fun w => guard_shift _ _ _ _ _ _ _ rfl) (fun w => by simp only [binOp, Op.shift, Int.not_lt.2 hb, if_false, hr]; rfl) hk
theorem r_shr {k k' : IntKind} {a b r : Int} {t t' : TypeId} (hd : Nat.blt d n = true) (hx : ev E x = some (.int k a)) (hy : ev E y = some (.int k' b)) (hb : 0 ≤ b) (hr : a.fdiv (2 ^ (min b.toNat k.bits)) = r) (hk : Run n w0 S ((d, .int k r) :: E) H (mix P dr ops K rest)) :
    Run n w0 S E H (mix P dr ops K (⟨some d, .binOp .shr t x y t', ty, pos, after, none⟩ :: rest)) :=
  r_bin hd hx hy (fun w => guard_shift _ _ _ _ _ _ _ rfl) (fun w => by simp only [binOp, Op.shift, Int.not_lt.2 hb, if_false, hr]; rfl) hk
theorem r_convert {s t : TypeId} {k k' : IntKind} {a r : Int} {u : TypeDesc} (hd : Nat.blt d n = true) (hx : ev E x = some (.int k a)) (hs : P.underlying s = some u) (ht : P.underlying t = some (.int k')) (hr : k'.wrap a = r) (hk : Run n w0 S ((d, .int k' r) :: E) H (mix P dr ops K rest)) :
    Run n w0 S E H (mix P dr ops K (⟨some d, .convert s t x, ty, pos, after, none⟩ :: rest)) :=
  r_value hd (by cases dr <;> rfl) (fun a ha w => by subst hr; simp [execOp, ha.ev hx, convert, run_underlying hs, run_underlying ht, Sem.run_bind, Conv.intToInt]) hk
/-- a field, an element of a value -/
theorem r_fieldOf {s : TypeId} {f off m : Nat} {cs vs : Array Value} {v : Value} (hd : Nat.blt d n = true) (hx : ev E x = some (.agg cs)) (hrun : ∀ w, (Instr.field s (.agg cs) f).run P w = .ok v w) (hk : Run n w0 S ((d, v) :: E) H (mix P dr ops K rest)) :
    Run n w0 S E H (mix P dr ops K (⟨some d, .field s x f, ty, pos, after, none⟩ :: rest)) :=
  r_value hd (by cases dr <;> rfl) (fun a ha w => by simp [execOp, ha.ev hx, Sem.run_bind, hrun w]) hk

/-- a map of numbers to anything, by its entries -/
theorem r_makeMap {t : TypeId} (hd : Nat.blt d n = true) (hk : ∀ b, Run n w0 S ((d, .map (some b)) :: E) (.blk b (.map #[] 0) :: H) (mix P dr ops K rest)) :
    Run n w0 S E H (mix P dr ops K (⟨some d, .makeMap t none, ty, pos, after, none⟩ :: rest)) :=
  r_act (X := []) (by cases dr <;> rfl) okAct_nil fun a w ha hw => by
    have h := hk _ _ _ (ha.put hd (.map (some w.heap.size))) (hw.alloc (.map #[] 0))
    have hrun : (execOp a.eval ⟨some d, .makeMap t none, ty, pos, after, none⟩).run P w = .ok (.value (.map (some w.heap.size))) (w.alloc (.map #[] 0)) := rfl
    rw [hrun]
    exact ⟨keep_alloc w _ [], h⟩
theorem checkKey_int {kt : TypeId} {k : IntKind} (hd : P.underlying kt = some (.int k)) (e : Bool) (m : Nat) (v : Value) (w : World) : (Instr.checkKey e (m + 1) kt v).run P w = .ok () w := by
  simp [Instr.checkKey, run_underlying hd, Sem.run_bind]
theorem findKey_int {kt : TypeId} {k : IntKind} (hd : P.underlying kt = some (.int k)) {v : Value} {es : List MapEntry} {r : Option (Nat × Value)} (h : Instr.findNow (.int k) v es 0 = some r) (w : World) : (Instr.findKey kt v es).run P w = .ok r w := by
  simp [Instr.findKey, run_underlying hd, Sem.run_bind, h]
theorem r_insert {t kt et : TypeId} {k : IntKind} {b clock : Nat} {kv v : Value} {es es' : Array MapEntry} (hm : ev E x = some (.map (some b))) (hy : ev E y = some kv) (hz : ev E z = some v) [hp : HasBlk b H (.map es clock) G]
    (ht : P.underlying t = some (.map kt et)) (hkt : P.underlying kt = some (.int k)) (hf : Instr.findNow (.int k) kv es.toList 0 = some none) (he : es.push { key := kv, val := v, born := clock } = es')
    (hk : Run n w0 S E (.blk b (.map es' (clock + 1)) :: G) (mix P dr ops K rest)) (hok : OkAct dr none [b] := by first | exact True.intro | (simp [OkAct, dstIn]; done) | (simp [OkAct, dstIn, *]; done)) :
    Run n w0 S E H (mix P dr ops K (⟨none, .insert t x y z, ty, pos, after, none⟩ :: rest)) :=
  r_act (X := [b]) (by cases dr <;> rfl) hok fun a w ha hw => by
    subst he
    have hb : w.heap[b]? = some (.map es clock) := hw.look hp.pick
    have hlt : b < w.heap.size := (hw.look hp.pick).lt rfl
    have h := hk a { w with heap := w.heap.setIfInBounds b (.map (es.push { key := kv, val := v, born := clock }) (clock + 1)) } ha ((hw.pick hp.pick).write (r' := .blk b (.map (es.push { key := kv, val := v, born := clock }) (clock + 1))) rfl rfl rfl rfl (by simp) (fun k _ hk => by
      simp only [Res.foot, ne_eq, Option.some.injEq] at hk
      simp [Array.getElem?_setIfInBounds, hk]) (by simp [Res.ok, hlt]))
    have hrun : (Instr.mapUpdate t (.map (some b)) kv v).run P w = .ok () { w with heap := w.heap.setIfInBounds b (.map (es.push { key := kv, val := v, born := clock }) (clock + 1)) } := by
      simp [Instr.mapUpdate, run_underlying ht, Sem.run_bind, MapKept.run_getObj_map hb, checkKey_int hkt, findKey_int hkt hf, MapKept.run_setObj_map _ hb, Result.andThen]
    simp [execOp, ha.ev hm, ha.ev hy, ha.ev hz, Sem.run_bind, hrun, actUpon]
    exact ⟨⟨by simp, fun k hk hX => by
      have hne : ¬ b = k := fun e => hX (by rw [e]; exact .head _)
      simp [Array.getElem?_setIfInBounds, hne]⟩, h⟩
theorem r_lookupOk {t kt et : TypeId} {k : IntKind} {b clock : Nat} {kv v zv : Value} {ok : Bool} {es : Array MapEntry} {r : Option (Nat × Value)} (hd : Nat.blt d n = true) (hm : ev E x = some (.map (some b))) (hy : ev E y = some kv) [hp : HasBlk b H (.map es clock) G]
    (ht : P.underlying t = some (.map kt et)) (hkt : P.underlying kt = some (.int k)) (hf : Instr.findNow (.int k) kv es.toList 0 = some r) (hz : (P.info? et).bind (·.zero) = some zv) (hv : (match r with | some (_, u) => (u, true) | none => (zv, false)) = (v, ok))
    (hk : Run n w0 S ((d, .tuple #[v, .bool ok]) :: E) H (mix P dr ops K rest)) :
    Run n w0 S E H (mix P dr ops K (⟨some d, .lookup t x y true, ty, pos, after, none⟩ :: rest)) :=
  r_act (X := []) (by cases dr <;> rfl) okAct_nil fun a w ha hw => by
    have hb : w.heap[b]? = some (.map es clock) := hw.look hp.pick
    have h := hk _ _ (ha.put hd (.tuple #[v, .bool ok])) hw
    obtain ⟨i, hi, hzz⟩ := Option.bind_eq_some_iff.1 hz
    have hrun : (Instr.lookup t (.map (some b)) kv true).run P w = .ok (.tuple #[v, .bool ok]) w := by
      cases r with
      | none =>
        injection hv with h1 h2
        subst h1; subst h2
        simp [Instr.lookup, run_underlying ht, Sem.run_bind, MapKept.run_getObj_map hb, checkKey_int hkt, findKey_int hkt hf, zeroValue, typeInfo, hi, hzz, Result.andThen]
      | some q =>
        obtain ⟨j, u⟩ := q
        injection hv with h1 h2
        subst h1; subst h2
        simp [Instr.lookup, run_underlying ht, Sem.run_bind, MapKept.run_getObj_map hb, checkKey_int hkt, findKey_int hkt hf, Result.andThen]
    simp [execOp, ha.ev hm, ha.ev hy, Sem.run_bind, hrun, actUpon]
    exact ⟨⟨Nat.le_refl _, fun _ _ _ => rfl⟩, h⟩
theorem r_lookup1 {t kt et : TypeId} {k : IntKind} {b clock : Nat} {kv v zv : Value} {es : Array MapEntry} {r : Option (Nat × Value)} (hd : Nat.blt d n = true) (hm : ev E x = some (.map (some b))) (hy : ev E y = some kv) [hp : HasBlk b H (.map es clock) G]
    (ht : P.underlying t = some (.map kt et)) (hkt : P.underlying kt = some (.int k)) (hf : Instr.findNow (.int k) kv es.toList 0 = some r) (hz : (P.info? et).bind (·.zero) = some zv) (hv : (match r with | some (_, u) => u | none => zv) = v)
    (hk : Run n w0 S ((d, v) :: E) H (mix P dr ops K rest)) :
    Run n w0 S E H (mix P dr ops K (⟨some d, .lookup t x y false, ty, pos, after, none⟩ :: rest)) :=
  r_act (X := []) (by cases dr <;> rfl) okAct_nil fun a w ha hw => by
    have hb : w.heap[b]? = some (.map es clock) := hw.look hp.pick
    have h := hk _ _ (ha.put hd v) hw
    obtain ⟨i, hi, hzz⟩ := Option.bind_eq_some_iff.1 hz
    have hrun : (Instr.lookup t (.map (some b)) kv false).run P w = .ok v w := by
      subst hv
      cases r with
      | none => simp [Instr.lookup, run_underlying ht, Sem.run_bind, MapKept.run_getObj_map hb, checkKey_int hkt, findKey_int hkt hf, zeroValue, typeInfo, hi, hzz, Result.andThen]
      | some q =>
        obtain ⟨j, u⟩ := q
        simp [Instr.lookup, run_underlying ht, Sem.run_bind, MapKept.run_getObj_map hb, checkKey_int hkt, findKey_int hkt hf, Result.andThen]
    simp [execOp, ha.ev hm, ha.ev hy, Sem.run_bind, hrun, actUpon]
    exact ⟨⟨Nat.le_refl _, fun _ _ _ => rfl⟩, h⟩

/-- a row that is made, as long as its room -/
theorem r_makeSlice {t e : TypeId} {sz bytes m : Nat} {zv : Value} {xs : List Value} {k1 k2 : IntKind} {l c : Int} (hd : Nat.blt d n = true) (hx : ev E x = some (.int k1 l)) (hy : ev E y = some (.int k2 c)) (hl : l = (m : Nat)) (hc : c = (m : Nat))
    (ht : P.underlying t = some (.slice e)) (hinfo : (P.info? e).map (fun i => (i.zero, i.size, i.bytes)) = some (some zv, sz, bytes)) (hb : bytes * m ≤ 281474976710656) (h63 : m ≤ maxLen) (hxs : (madeCells zv.cells (m * sz)).toList = xs)
    (hk : ∀ b, Run n w0 S ((d, .slice (some ⟨b, 0, none⟩) m m) :: E) (.own e sz (.slice (some ⟨b, 0, none⟩) m m) m xs :: H) (mix P dr ops K rest)) :
    Run n w0 S E H (mix P dr ops K (⟨some d, .makeSlice t x y, ty, pos, after, none⟩ :: rest)) :=
  r_act (X := []) (by cases dr <;> rfl) okAct_nil fun a w ha hw => by
    subst hl; subst hc; subst hxs
    obtain ⟨i, hi, hz0, hz1, hz2⟩ := info_parts hinfo
    have hsz : (madeCells zv.cells (m * sz)).size = m * sz := by simp [madeCells]
    have h := hk _ _ _ (ha.put hd (.slice (some ⟨w.heap.size, 0, none⟩) m m)) (hw.ownNew (madeCells zv.cells (m * sz)) e sz m h63 hsz)
    have hm2 : (m : Int) ≤ 9223372036854775807 := Int.le_trans (Int.ofNat_le.2 h63) (by decide)
    have hrun := run_make w t e i zv ht hi hz0 k1 k2 (m : Int) (m : Int) (by omega) (Int.le_refl _) (by rw [hz2, ← Int.natCast_mul]; exact Int.ofNat_le.2 hb) hm2
    simp only [Int.toNat_natCast, hz1] at hrun
    simp [execOp, ha.ev hx, ha.ev hy, Sem.run_bind, hrun, actUpon]
    exact ⟨keep_alloc w _ [], h⟩
/-- a row of the call's own, of one-cell elements: an element is turned -/
theorem Run.closeOwn {Gl : Act → World → Prop} {T sz m c g : Nat} {cur : Array Value} {xs : List Value} [hp : HasBlk g H (.cells cur T (0, 0)) G] (hle : m ≤ c) (hc : c ≤ maxLen) (hsz : cur.size = c * sz) (ht : cur.toList.take (m * sz) = xs)
    (h : Run n w0 S E (.own T sz (.slice (some ⟨g, 0, none⟩) m c) m xs :: G) Gl) : Run n w0 S E H Gl := fun a w ha hw => h a w ha ((hw.pick hp.pick).closeOwn hle hc hsz ht)
theorem r_storeOwn {t : TypeId} {T m c i g : Nat} {xs : List Value} {v : Value} (hx : ev E x = some (.pointer (some ⟨g, i, none⟩))) (hy : ev E y = some v) [hp : HasOwn (.slice (some ⟨g, 0, none⟩) m c) H T 1 m xs G]
    (hm : (P.info? t).map (·.size) = some 1) (hv : v.cells = #[v]) (h1 : v.oneCell' = true) (hi : i < m)
    (hk : Run n w0 S E (.own T 1 (.slice (some ⟨g, 0, none⟩) m c) m (xs.set i v) :: G) (mix P dr ops K rest)) (hok : OkWrite dr x g := by first | exact True.intro | (simp [OkWrite, slotIn]; done) | (simp [OkWrite, slotIn, *]; done)) :
    Run n w0 S E H (mix P dr ops K (⟨none, .store t x y, ty, pos, after, none⟩ :: rest)) := by
  refine Run.openOwn (.slice (some ⟨g, 0, none⟩) m c) rfl (fun h => by cases h) fun g' cur e1 e2 e3 e4 e5 => ?_
  injection e1 with e1
  injection e1 with e1 _ _
  subst e1
  refine r_store1 hx hy hm hv h1 (by omega) ?_ hok
  refine Run.closeOwn (sz := 1) e2 e3 (by simpa using e4) ?_ hk
  rw [← e5, Array.toList_setIfInBounds, List.take_set]
theorem own_some {w : World} {T sz m c : Nat} {A : Option Addr} {xs : List Value} [hp : HasOwn (.slice A m c) H T sz m xs G] (hw : Sat w0 S H w) (hm : 0 < m) : ∃ g, A = some ⟨g, 0, none⟩ := by
  have h := hw.look hp.pick
  rcases h.2 with ⟨h1, h2⟩ | ⟨g, cap, cur, h1, _⟩
  · omega
  · injection h1 with h1 _ _
    exact ⟨g, h1⟩
theorem own_le {w : World} {T sz m c : Nat} {A : Option Addr} {xs : List Value} [hp : HasOwn (.slice A m c) H T sz m xs G] (hw : Sat w0 S H w) : m ≤ c := by
  have h := hw.look hp.pick
  rcases h.2 with ⟨h1, h2⟩ | ⟨g, cap, cur, h1, _, _, h3, _⟩
  · omega
  · injection h1 with _ _ h4
    omega
end
end Go.Proofs.YtghjbnbkfohmlaaDoor
