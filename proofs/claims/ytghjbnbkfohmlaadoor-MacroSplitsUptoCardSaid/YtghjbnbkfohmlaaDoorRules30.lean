/-
  Further rules: maps with strings as keys; append of a number of zero values to a row of the call's own; a cell of a row of the call's own is turned. No program in sight.
-/
import Derived.Test.YtghjbnbkfohmlaaDoorWords30
import Derived.Lib.AppendZerosOnto
namespace Go.Proofs.YtghjbnbkfohmlaaDoor
open Go Go.RowKit
set_option linter.unusedVariables false
set_option linter.unusedSimpArgs false

theorem zeroCells_one (v : Value) (n : Nat) : (Builtin.zeroCells #[v] n).toList = List.replicate n v := by
  unfold Builtin.zeroCells
  rw [Array.toList_map, Array.toList_range]
  apply List.ext_getElem?
  intro i
  rw [List.getElem?_map, List.getElem?_replicate]
  by_cases h : i < n
  · rw [List.getElem?_range (show i < n * #[v].size by simpa using h), if_pos h]
    show some ((#[v] : Array Value)[i % 1]!) = _
    rw [Nat.mod_one]
    rfl
  · rw [if_neg h, List.getElem?_eq_none (by rw [List.length_range]; simpa using h)]
    rfl
theorem run_append_own_zeros {P : Program} (w : World) (t tn ty e : TypeId) (i : TypeInfo) (z : Value) (bytes : Nat) (kq kn : IntKind) (ht : P.underlying t = some (.slice e)) (htn : P.underlying tn = some (.int kn)) (hi : P.info? e = some i) (hz : i.zero = some z)
    (hsize : i.size = 1) (hby : i.bytes = bytes) (hzs : z.cells = #[z]) (hz1 : z.oneCell' = true) (v : Value) (n : Nat) (xs : List Value) (hown : w.ownsRow 0 e 1 v n xs) (k : Nat) (h63 : n + k ≤ maxLen) (hbytes : (n + k) * bytes ≤ 140737488355328) :
    ∃ v' w', (Builtin.append_ #[t, tn] ty #[v, .int kq k]).run P w = .ok v' w' ∧ w'.ownsRow 0 e 1 v' (n + k) (xs ++ List.replicate k z) ∧ w.grownBy w' v.ownBlock ∧ (∀ q, v'.ownBlock = some q → v.ownBlock = some q ∨ w.heap.size ≤ q) := by
  subst hby
  have hsmall : n + k ≤ 9223372036854775807 := by simp only [maxLen] at h63; omega
  have hw : IntKind.i64.wrap (k : Int) = k := w64 (by omega)
  have hneg : ¬ ((k : Int) < 0) := by omega
  have hkb : k * i.bytes ≤ 140737488355328 := Nat.le_trans (Nat.mul_le_mul_right _ (by omega)) hbytes
  have h48i : ¬ (281474976710656 < (k : Int) * (i.bytes : Int)) := by
    rw [← Int.natCast_mul]; omega
  have hlen : (xs ++ List.replicate k z).length = (n + k) * 1 := by rw [List.length_append, hown.1, List.length_replicate]; omega
  have grown : ∀ (old : Nat), old < n + k → ∀ (row : Option Nat),
      (w.drew.alloc (.cells (xs.toArray ++ Builtin.zeroCells z.cells k ++ Builtin.zeroCells z.cells (grownCap w (n + k) old e - (n + k))) e)).ownsRow 0 e 1
        (.slice (some ⟨w.heap.size, 0, none⟩) (n + k) (grownCap w (n + k) old e)) (n + k) (xs ++ List.replicate k z) ∧
      w.grownBy (w.drew.alloc (.cells (xs.toArray ++ Builtin.zeroCells z.cells k ++ Builtin.zeroCells z.cells (grownCap w (n + k) old e - (n + k))) e)) row := by
    intro old ho row
    have hge := grownCap_ge w (n + k) old e
    have hcm : grownCap w (n + k) old e ≤ maxLen := grownCap_le_maxLen w (n + k) old e h63
    have hzc : z.cells.size = 1 := by rw [hzs]; rfl
    refine ⟨⟨hlen, .inr ⟨w.heap.size, _, _, rfl, Nat.zero_le _, heap_alloc_new w.drew _, hge, hcm, ?_, ?_⟩⟩, ⟨rfl, rfl, rfl, by simp, fun k hk _ => Below.heap_alloc w.drew _ k hk⟩⟩
    · simp only [Array.size_append, List.size_toArray, size_zeroCells, hzc, hown.1, ← Nat.add_mul]
      congr 1
      omega
    · simp only [Array.toList_append, List.append_assoc]
      have e1 : (Builtin.zeroCells z.cells k).toList = List.replicate k z := by rw [hzs]; exact zeroCells_one z k
      rw [e1, ← List.append_assoc, ← hlen]
      exact List.take_left
  rcases hown.2 with ⟨rfl, rfl⟩ | ⟨g, cap, cur, rfl, _, hg, hnc, hcm, hcs, htake⟩
  · have hx : xs = [] := List.eq_nil_of_length_eq_zero (by simpa using hown.1)
    subst hx
    by_cases hk : k = 0
    · subst hk
      refine ⟨.slice none 0 0, w, ?_, World.ownsRow_nil w 0 e 1, ⟨rfl, rfl, rfl, Nat.le_refl _, fun _ _ _ => rfl⟩, fun q hq => .inl hq⟩
      have hw0 : IntKind.i64.wrap (0 : Int) = 0 := rfl
      simp [Builtin.append_, run_underlying ht, run_underlying htn, sizeOf, typeInfo, zeroValue, hi, hz, hsize, asInt, asIntOf, hw0]
    · have hr := Lib.run_append_nil_zeros (P := P) w t tn ty e i z kq kn ht htn hi hz k (by omega) (by omega) (by omega) (by omega)
      have hgr := grown 0 (by omega) (Value.ownBlock (.slice none 0 0))
      simp only [Nat.zero_add, List.nil_append, Array.empty_append] at hgr ⊢
      exact ⟨_, _, hr, hgr.1, hgr.2, fun q hq => by simp [Value.ownBlock] at hq; exact .inr (by omega)⟩
  · by_cases hroom : n + k ≤ cap
    · by_cases hk : k = 0
      · subst hk
        refine ⟨.slice (some ⟨g, 0, none⟩) n cap, w, ?_, by simpa using hown, ⟨rfl, rfl, rfl, Nat.le_refl _, fun _ _ _ => rfl⟩, fun q hq => .inl hq⟩
        have hw0 : IntKind.i64.wrap (0 : Int) = 0 := rfl
        simp [Builtin.append_, run_underlying ht, run_underlying htn, sizeOf, typeInfo, zeroValue, hi, hz, hsize, asInt, asIntOf, hw0, hnc, storeCells]
      · have e1 : (Builtin.zeroCells z.cells k).toList = List.replicate k z := by rw [hzs]; exact zeroCells_one z k
        have hfit : n * 1 + (List.replicate k z).length ≤ cur.size := by rw [List.length_replicate, hcs]; omega
        have hst := run_storeCells_at P g (n * 1) e (List.replicate k z) 0 cur w hg (by simpa using hfit) (fun u hu => by rw [List.eq_of_mem_replicate hu]; exact hz1)
        simp only [Nat.add_zero] at hst
        have hr : (Builtin.append_ #[t, tn] ty #[.slice (some ⟨g, 0, none⟩) n cap, .int kq k]).run P w = .ok (.slice (some ⟨g, 0, none⟩) (n + k) cap) (w.setRow g (cur.toList.take (n * 1) ++ List.replicate k z ++ cur.toList.drop (n * 1 + (List.replicate k z).length)).toArray) := by
          simp only [Nat.mul_one] at hst ⊢
          simp [Builtin.append_, run_underlying ht, run_underlying htn, sizeOf, typeInfo, zeroValue, hi, hz, hsize, asInt, asIntOf, hw, hneg, h48i, hroom, hk, e1, addr_add]
          simp at hst
          rw [hst]
          rfl
        refine ⟨_, _, hr, ⟨hlen, .inr ⟨g, cap, _, rfl, Nat.zero_le _, setRow_heap w g cur _ e _ hg, hroom, hcm, ?_, ?_⟩⟩, ⟨rfl, rfl, rfl, by simp [World.setRow], fun k _ hk => setRow_other w g k _ (fun e => hk (by simp [Value.ownBlock, e]))⟩, fun q hq => .inl hq⟩
        · simp only [List.size_toArray, List.length_append, List.length_take, List.length_drop, Array.length_toList, List.length_replicate]
          omega
        · rw [htake, ← hlen]
          exact List.take_left
    · have hold : (Builtin.firstCells i.size n (.slice (some ⟨g, 0, none⟩) n cap)).run P w.drew = .ok xs.toArray w.drew := by
        have h1 := run_firstCells_some (P := P) w.drew i.size n ⟨g, 0, none⟩ n cap xs (by rw [hown.1, hsize]) (fun j u hj => hown.cells (g := g) rfl j u hj)
        exact h1
      have hr := Lib.run_append_grow_zeros (P := P) w t tn ty e i z kq kn ht htn hi hz (some ⟨g, 0, none⟩) n cap xs hold k (by omega) (by omega) (by omega) (by omega) (by omega) (growslice_fits (by omega) hbytes)
      have hgr := grown cap (by omega) (Value.ownBlock (.slice (some ⟨g, 0, none⟩) n cap))
      exact ⟨_, _, hr, hgr.1, hgr.2, fun q hq => by simp [Value.ownBlock] at hq; exact .inr (by omega)⟩

section
variable {P : Program} {n : Nat} {w0 : World} {S : List Nat} {E : List (Nat × Value)} {H G : List Res} {Q : Exit → Act → World → Prop}
variable {dr : Option Dr} {ops : Array Oper} {K : Act → World → Prop} {rest : List Oper} {d : Nat} {ty : TypeId} {pos : String} {after : Array Edge} {x y z : Operand}
/-- append of a number of zero values to a row of the call's own -/
theorem r_appendZeros {t tn e : TypeId} {bytes m c k : Nat} {zv : Value} {kq kn : IntKind} {ki : Int} {A : Option Addr} {xs : List Value} (hd : Nat.blt d n = true) (hx : ev E x = some (.slice A m c)) (hy : ev E y = some (.int kq ki)) [hp : HasOwn (.slice A m c) H e 1 m xs G]
    (ht : P.underlying t = some (.slice e)) (htn : P.underlying tn = some (.int kn)) (hinfo : (P.info? e).map (fun i => (i.zero, i.size, i.bytes)) = some (some zv, 1, bytes)) (hzs : zv.cells = #[zv]) (hz1 : zv.oneCell' = true) (hki : ki = (k : Nat)) (hb : (m + k) * bytes ≤ 140737488355328) (h63 : m + k ≤ maxLen)
    (hk : ∀ A' c', Run n w0 S ((d, .slice A' (m + k) c') :: E) (.own e 1 (.slice A' (m + k) c') (m + k) (xs ++ List.replicate k zv) :: G) (mix P dr ops K rest)) (hok : OkAct dr (some d) (Value.slice A m c).ownBlock.toList := by first | exact True.intro | (simp [OkAct, dstIn]; done) | (simp [OkAct, dstIn, *]; done)) :
    Run n w0 S E H (mix P dr ops K (⟨some d, .call { callee := .builtin .append, args := #[x, y], argTypes := #[t, tn] }, ty, pos, after, none⟩ :: rest)) :=
  r_act (X := (Value.slice A m c).ownBlock.toList) (by cases dr <;> rfl) hok fun a w ha hw => by
    subst hki
    have hw' := hw.pick hp.pick
    have hown := hw.look hp.pick
    obtain ⟨i, hi, hz0, hz1', hz2⟩ := info_parts hinfo
    obtain ⟨v', w', hrun, ho, hg, hq⟩ := run_append_own_zeros (P := P) w t tn ty e i zv bytes kq kn ht htn hi hz0 hz1' hz2 hzs hz1 (.slice A m c) m xs hown k h63 hb
    have hv' : ∃ A' c', v' = .slice A' (m + k) c' := by
      rcases ho.2 with ⟨h1, h2⟩ | ⟨g, cap, cur, h1, _⟩
      · exact ⟨none, 0, by rw [h1, h2]⟩
      · exact ⟨_, _, h1⟩
    obtain ⟨A', c', rfl⟩ := hv'
    have h := hk A' c' _ w' (ha.put hd _) (hw'.grown (r' := .own e 1 (.slice A' (m + k) c') (m + k) (xs ++ List.replicate k zv)) hg hq ho)
    simp [execOp, resolve, invoke, builtin, ha.ev hx, ha.ev hy, hrun, actUpon]
    exact ⟨⟨hg.size, fun k hk hX => hg.block k hk fun e => hX (by rw [← e]; simp)⟩, h⟩
/-- a cell of a row of the call's own is turned -/
theorem r_storeCell {t : TypeId} {T sz m c i g : Nat} {xs : List Value} {v : Value} (hx : ev E x = some (.pointer (some ⟨g, i, none⟩))) (hy : ev E y = some v) [hp : HasOwn (.slice (some ⟨g, 0, none⟩) m c) H T sz m xs G]
    (hm : (P.info? t).map (·.size) = some 1) (hv : v.cells = #[v]) (h1 : v.oneCell' = true) (hi : i < m * sz)
    (hk : Run n w0 S E (.own T sz (.slice (some ⟨g, 0, none⟩) m c) m (xs.set i v) :: G) (mix P dr ops K rest)) (hok : OkWrite dr x g := by first | exact True.intro | (simp [OkWrite, slotIn]; done) | (simp [OkWrite, slotIn, *]; done)) :
    Run n w0 S E H (mix P dr ops K (⟨none, .store t x y, ty, pos, after, none⟩ :: rest)) := by
  refine Run.openOwn (.slice (some ⟨g, 0, none⟩) m c) rfl (fun h => by cases h) fun g' cur e1 e2 e3 e4 e5 => ?_
  injection e1 with e1
  injection e1 with e1 _ _
  subst e1
  have hle : m * sz ≤ c * sz := Nat.mul_le_mul_right _ e2
  refine r_store1 hx hy hm hv h1 (by omega) ?_ hok
  refine Run.closeOwn (sz := sz) e2 e3 (by simpa using e4) ?_ hk
  rw [← e5, Array.toList_setIfInBounds, List.take_set]

/-! maps with strings as keys -/
theorem checkKey_str {kt : TypeId} (hd : P.underlying kt = some .string) (e : Bool) (m : Nat) (v : Value) (w : World) : (Instr.checkKey e (m + 1) kt v).run P w = .ok () w := by
  simp [Instr.checkKey, run_underlying hd, Sem.run_bind]
theorem findKey_str {kt : TypeId} (hd : P.underlying kt = some .string) {v : Value} {es : List MapEntry} {r : Option (Nat × Value)} (h : Instr.findNow .string v es 0 = some r) (w : World) : (Instr.findKey kt v es).run P w = .ok r w := by
  simp [Instr.findKey, run_underlying hd, Sem.run_bind, h]
theorem r_insertS {t kt et : TypeId} {b clock : Nat} {kv v : Value} {es es' : Array MapEntry} (hm : ev E x = some (.map (some b))) (hy : ev E y = some kv) (hz : ev E z = some v) [hp : HasBlk b H (.map es clock) G]
    (ht : P.underlying t = some (.map kt et)) (hkt : P.underlying kt = some .string) (hf : Instr.findNow .string kv es.toList 0 = some none) (he : es.push { key := kv, val := v, born := clock } = es')
    (hk : Run n w0 S E (.blk b (.map es' (clock + 1)) :: G) (mix P dr ops K rest)) (hok : OkAct dr none [b] := by first | exact True.intro | (simp [OkAct, dstIn]; done) | (simp [OkAct, dstIn, *]; done)) :
    Run n w0 S E H (mix P dr ops K (⟨none, .insert t x y z, ty, pos, after, none⟩ :: rest)) :=
  r_act (X := [b]) (by cases dr <;> rfl) hok fun a w ha hw => by
    subst he
    have hb : w.heap[b]? = some (.map es clock) := hw.look hp.pick
    have hlt : b < w.heap.size := (hw.look hp.pick).lt rfl
    have h := hk a { w with heap := w.heap.setIfInBounds b (.map (es.push { key := kv, val := v, born := clock }) (clock + 1)) } ha ((hw.pick hp.pick).write (r' := .blk b (.map (es.push { key := kv, val := v, born := clock }) (clock + 1))) rfl rfl rfl rfl (by simp) (fun k _ hk => by
      simp only [Res.foot, ne_eq, Option.some.injEq] at hk
      simp [Array.getElem?_setIfInBounds, hk]) (by simp [Res.ok, hlt]))
    have hrun : (Instr.mapUpdate t (.map (some b)) kv v).run P w = .ok () { w with heap := w.heap.setIfInBounds b (.map (es.push { key := kv, val := v, born := clock }) (clock + 1)) } := by
      simp [Instr.mapUpdate, run_underlying ht, Sem.run_bind, MapKept.run_getObj_map hb, checkKey_str hkt, findKey_str hkt hf, MapKept.run_setObj_map _ hb, Result.andThen]
    simp [execOp, ha.ev hm, ha.ev hy, ha.ev hz, Sem.run_bind, hrun, actUpon]
    exact ⟨⟨by simp, fun k hk hX => by
      have hne : ¬ b = k := fun e => hX (by rw [e]; exact .head _)
      simp [Array.getElem?_setIfInBounds, hne]⟩, h⟩
def lookPair (r : Option (Nat × Value)) (zv : Value) : Value × Bool := match r with | some (_, u) => (u, true) | none => (zv, false)
theorem r_lookupOkS {t kt et : TypeId} {b clock : Nat} {kv v zv : Value} {ok : Bool} {es : Array MapEntry} {r : Option (Nat × Value)} (hd : Nat.blt d n = true) (hm : ev E x = some (.map (some b))) (hy : ev E y = some kv) [hp : HasBlk b H (.map es clock) G]
    (ht : P.underlying t = some (.map kt et)) (hkt : P.underlying kt = some .string) (hf : Instr.findNow .string kv es.toList 0 = some r) (hz : (P.info? et).bind (·.zero) = some zv) (hv : lookPair r zv = (v, ok))
    (hk : Run n w0 S ((d, .tuple #[v, .bool ok]) :: E) H (mix P dr ops K rest)) :
    Run n w0 S E H (mix P dr ops K (⟨some d, .lookup t x y true, ty, pos, after, none⟩ :: rest)) :=
  r_act (X := []) (by cases dr <;> rfl) okAct_nil fun a w ha hw => by
    have hb : w.heap[b]? = some (.map es clock) := hw.look hp.pick
    have h := hk _ _ (ha.put hd (.tuple #[v, .bool ok])) hw
    obtain ⟨i, hi, hzz⟩ := Option.bind_eq_some_iff.1 hz
    have hrun : (Instr.lookup t (.map (some b)) kv true).run P w = .ok (.tuple #[v, .bool ok]) w := by
      cases r with
      | none =>
        injection hv with h1 h2
        subst h1; subst h2
        simp [Instr.lookup, run_underlying ht, Sem.run_bind, MapKept.run_getObj_map hb, checkKey_str hkt, findKey_str hkt hf, zeroValue, typeInfo, hi, hzz, Result.andThen]
      | some q =>
        obtain ⟨j, u⟩ := q
        injection hv with h1 h2
        subst h1; subst h2
        simp [Instr.lookup, run_underlying ht, Sem.run_bind, MapKept.run_getObj_map hb, checkKey_str hkt, findKey_str hkt hf, Result.andThen]
    simp [execOp, ha.ev hm, ha.ev hy, Sem.run_bind, hrun, actUpon]
    exact ⟨⟨Nat.le_refl _, fun _ _ _ => rfl⟩, h⟩
end
end Go.Proofs.YtghjbnbkfohmlaaDoor
