/-
  Rules for texts: conversion of runes, index, part, comparison, sum, a range over a text. No program.
-/
import Derived.Test.YtghjbnbkfohmlaaDoorApG
import Derived.Laws.Cover4
import Derived.Lib.OthersKept
namespace Go.Proofs.YtghjbnbkfohmlaaDoor
open Go Go.RowKit
set_option linter.unusedVariables false
set_option linter.unusedSimpArgs false
/-- a text out of its bytes -/
def tx (l : List UInt8) : ByteArray := ⟨l.toArray⟩
theorem tx_size (l : List UInt8) : (tx l).size = l.length := rfl
theorem tx_at (l : List UInt8) {i : Nat} (h : i < l.length) : (tx l)[i]? = some l[i] := by
  rw [getElem?_pos (tx l) i h]
  rfl
theorem tx_list (l : List UInt8) : (tx l).toList = l := by rw [ByteArray.toList_eq]; rfl
theorem tx_inj {l m : List UInt8} (h : tx l = tx m) : l = m := by rw [← tx_list l, h, tx_list]
theorem tx_append (l m : List UInt8) : tx l ++ tx m = tx (l ++ m) := by
  apply ByteArray.ext
  rw [ByteArray.data_append]
  simp [tx]
theorem tx_self (s : ByteArray) : tx s.data.toList = s := rfl
theorem tx_extract (l : List UInt8) (a b : Nat) : (tx l).extract a b = tx ((l.take b).drop a) := by
  apply ByteArray.ext
  rw [ByteArray.data_extract]
  simp [tx, List.extract_eq_take_drop, List.drop_take]
theorem rune_ascii {n : Int} (h0 : 0 ≤ n) (h1 : n < 128) : Utf8.encode n = tx [UInt8.ofNat n.toNat] := by
  unfold Utf8.encode
  have hv : Utf8.valid n = true := by
    unfold Utf8.valid
    rw [Bool.or_eq_true, Bool.and_eq_true]
    exact .inl ⟨decide_eq_true h0, decide_eq_true (by omega)⟩
  simp only [hv, if_true]
  rw [if_pos (by omega)]
  rfl
theorem runes_fold : ∀ (ns : List Int) (l : List UInt8), (∀ n ∈ ns, 0 ≤ n ∧ n < 128) → ns.foldl (fun r n => r ++ Utf8.encode n) (tx l) = tx (l ++ ns.map fun n => UInt8.ofNat n.toNat)
  | [], l, _ => by simp
  | n :: ns, l, h => by
    rw [List.foldl_cons, rune_ascii (h n (.head _)).1 (h n (.head _)).2, tx_append, runes_fold ns _ (fun m hm => h m (.tail _ hm))]
    simp
theorem runes_tx {ns : List Int} (h : ∀ n ∈ ns, 0 ≤ n ∧ n < 128) : runesBytes ns = tx (ns.map fun n => UInt8.ofNat n.toNat) := by
  have := runes_fold ns [] h
  exact this
theorem iterAt_grown {w : World} {k : Nat} {s : ByteArray} {pos : Nat} (pos' : Nat) (hk : w.heap[k]? = some (.stringIter s pos)) : w.grownBy (w.iterAt k s pos') (some k) := by
  refine ⟨rfl, rfl, rfl, by simp [World.iterAt], fun j hj hne => ?_⟩
  simp only [World.iterAt, Array.getElem?_setIfInBounds]
  rw [if_neg (fun h => hne (by rw [h]))]
section
variable {P : Program} {n : Nat} {w0 : World} {S : List Nat} {E : List (Nat × Value)} {H G : List Res} {Q : Exit → Act → World → Prop}
variable {dr : Option Dr} {ops : Array Oper} {K : Act → World → Prop} {rest : List Oper} {d : Nat} {ty : TypeId} {pos : String} {after : Array Edge} {x y : Operand}
/-- runes as a text -/
theorem r_runesStr {t t2 e : TypeId} {A : Option Addr} {m c : Nat} {l : List Int} (hd : Nat.blt d n = true) (hx : ev E x = some (.slice A m c)) (ht : P.underlying t = some (.slice e)) (he : P.underlying e = some (.int .i32)) (ht2 : P.underlying t2 = some .string) (hl : l.length = m) (h0 : 0 < m)
    (hv : ∀ w, Sat w0 S H w → Rd w A (l.map (Value.int .i32)))
    (hk : Run n w0 S ((d, .string (runesBytes l)) :: E) H (mix P none ops K rest)) :
    Run n w0 S E H (mix P none ops K (⟨some d, .convert t t2 x, ty, pos, after, none⟩ :: rest)) :=
  r_act (X := []) rfl True.intro fun a w ha hw => by
    obtain ⟨b, o, rfl, _⟩ := hv w hw 0 (.int .i32 (l[0]'(by omega))) (by simp [show 0 < l.length by omega])
    have h1 := run_loadCells_list (P := P) w ⟨b, o, none⟩ (l.map (Value.int .i32)) (fun j v hj => by rw [addr_add]; exact (hv w hw).cell hj rfl)
    rw [List.length_map, hl] at h1
    have h := hk _ _ (ha.put hd (.string (runesBytes l))) hw
    have hrun : (convert t t2 (.slice (some ⟨b, o, none⟩) m c)).run P w = .ok (.string (runesBytes l)) w := by
      rw [run_convert_runes_string w t t2 e _ _ _ ht he ht2]
      exact run_runesToString w _ m c l h1
    simp [execOp, ha.ev hx, hrun, actUpon]
    exact ⟨⟨Nat.le_refl _, fun k hk hX => rfl⟩, h⟩
theorem r_idxStr {t : TypeId} {s : ByteArray} {i' : Nat} {k : IntKind} {i : Int} {z : UInt8} (hd : Nat.blt d n = true) (hx : ev E x = some (.string s)) (hy : ev E y = some (.int k i)) (ht : P.underlying t = some .string) (hi : i = (i' : Nat)) (hz : s[i']? = some z)
    (hk : Run n w0 S ((d, .int .u8 z.toNat) :: E) H (mix P dr ops K rest)) :
    Run n w0 S E H (mix P dr ops K (⟨some d, .index t x y, ty, pos, after, none⟩ :: rest)) :=
  r_value hd (by cases dr <;> rfl) (fun a ha w => by
    subst hi
    simp [execOp, ha.ev hx, ha.ev hy, Instr.index, run_underlying ht, Sem.run_bind, asIntOf, hz, Sem.run_pure]) hk
theorem r_partHi {t : TypeId} {s : ByteArray} {k : IntKind} {h : Int} {h' : Nat} (hd : Nat.blt d n = true) (hx : ev E x = some (.string s)) (hy : ev E y = some (.int k h)) (ht : P.underlying t = some .string) (h0 : h = (h' : Nat)) (h1 : h' ≤ s.size)
    (hk : Run n w0 S ((d, .string (s.extract 0 h')) :: E) H (mix P dr ops K rest)) :
    Run n w0 S E H (mix P dr ops K (⟨some d, .slice t x none (some y) none, ty, pos, after, none⟩ :: rest)) :=
  r_value hd (by cases dr <;> rfl) (fun a ha w => by
    subst h0
    simp [execOp, ha.ev hx, ha.ev hy, Instr.sliceAt, Instr.slice, run_underlying ht, Sem.run_bind, Instr.sliceBounds, Instr.sliceBound, asIntOf, h1, Sem.run_pure]) hk
theorem r_partBoth {t : TypeId} {s : ByteArray} {z : Operand} {k k2 : IntKind} {lo h : Int} {l' h' : Nat} (hd : Nat.blt d n = true) (hx : ev E x = some (.string s)) (hy : ev E y = some (.int k lo)) (hz : ev E z = some (.int k2 h)) (ht : P.underlying t = some .string) (hl : lo = (l' : Nat)) (h0 : h = (h' : Nat)) (h1 : h' ≤ s.size) (h2 : l' ≤ h')
    (hk : Run n w0 S ((d, .string (s.extract l' h')) :: E) H (mix P dr ops K rest)) :
    Run n w0 S E H (mix P dr ops K (⟨some d, .slice t x (some y) (some z) none, ty, pos, after, none⟩ :: rest)) :=
  r_value hd (by cases dr <;> rfl) (fun a ha w => by
    subst h0; subst hl
    simp [execOp, ha.ev hx, ha.ev hy, ha.ev hz, Instr.sliceAt, Instr.slice, run_underlying ht, Sem.run_bind, Instr.sliceBounds, Instr.sliceBound, asIntOf, h1, h2, Sem.run_pure]) hk
theorem r_eql_string {t t' : TypeId} {a b : ByteArray} {p : Bool} (hd : Nat.blt d n = true) (hx : ev E x = some (.string a)) (hy : ev E y = some (.string b)) (hr : (a.toList == b.toList) = p) (hk : Run n w0 S ((d, .bool p) :: E) H (mix P dr ops K rest)) :
    Run n w0 S E H (mix P dr ops K (⟨some d, .binOp .eql t x y t', ty, pos, after, none⟩ :: rest)) :=
  r_bin hd hx hy (fun w => by simp [eqGuard]) (fun w => by
    subst hr
    simp [binOp, Op.stringOp, Sem.run_pure]) hk
theorem r_addStr {t t' : TypeId} {a b : ByteArray} (hd : Nat.blt d n = true) (hx : ev E x = some (.string a)) (hy : ev E y = some (.string b)) (hs : a.size + b.size ≤ 9223372036854775807) (hk : Run n w0 S ((d, .string (a ++ b)) :: E) H (mix P dr ops K rest)) :
    Run n w0 S E H (mix P dr ops K (⟨some d, .binOp .add t x y t', ty, pos, after, none⟩ :: rest)) :=
  r_bin hd hx hy (fun w => by simp [eqGuard]) (fun w => by
    have h : ¬ ((a.size + b.size : Nat) : Int) > IntKind.i64.max := by
      rw [show IntKind.i64.max = 9223372036854775807 from by rfl]; omega
    simp only [binOp, Op.stringOp, ne_eq, not_true, if_false]
    rw [if_neg h]
    rfl) hk
/-- a range over a text begins -/
theorem r_rangeStr {t : TypeId} {s : ByteArray} (hd : Nat.blt d n = true) (hx : ev E x = some (.string s)) (ht : P.underlying t = some .string)
    (hk : ∀ b, Run n w0 S ((d, .pointer (some ⟨b, 0, none⟩)) :: E) (.blk b (.stringIter s 0) :: H) (mix P dr ops K rest)) :
    Run n w0 S E H (mix P dr ops K (⟨some d, .range t x, ty, pos, after, none⟩ :: rest)) :=
  r_act (X := []) (by cases dr <;> rfl) okAct_nil fun a w ha hw => by
    have h := hk _ _ _ (ha.put hd (.pointer (some ⟨w.heap.size, 0, none⟩))) (hw.alloc (.stringIter s 0))
    have hkp := keep_alloc w (.stringIter s 0) []
    have hn : (Sem.new (.stringIter s 0) Sem.pure).run P w = .ok w.heap.size (w.alloc (.stringIter s 0)) := rfl
    simpa [execOp, hn, ha.ev hx, Instr.range, run_underlying ht, newObj, Result.andThen, Sem.run_bind, Sem.run_pure, actUpon] using And.intro hkp h
theorem r_next {s : ByteArray} {b p : Nat} (hd : Nat.blt d n = true) (hx : ev E x = some (.pointer (some ⟨b, 0, none⟩))) [hb : HasBlk b H (.stringIter s p) G] (hp : p < s.size)
    (hk : Run n w0 S ((d, .tuple #[.bool true, .int .i64 (p : Int), .int .i32 (Utf8.decode s p).1]) :: E) (.blk b (.stringIter s (p + (Utf8.decode s p).2)) :: G) (mix P none ops K rest)) :
    Run n w0 S E H (mix P none ops K (⟨some d, .next x true, ty, pos, after, none⟩ :: rest)) :=
  r_act (X := [b]) rfl True.intro fun a w ha hw => by
    have hw' := hw.pick hb.pick
    have hg : w.heap[b]? = some (.stringIter s p) := hw.look hb.pick
    have h2 := iterAt_grown (p + (Utf8.decode s p).2) hg
    have h := hk _ _ (ha.put hd _) (hw'.grown (r' := .blk b (.stringIter s (p + (Utf8.decode s p).2))) h2 (fun q hq => .inl hq) (Lib.iterAt_heap w b s p _ hg))
    have hrun := fun ty => Lib.run_next_any_at (P := P) w b s p ty hg hp
    simp [execOp, ha.ev hx, hrun, actUpon]
    exact ⟨⟨h2.size, fun k hk hX => h2.block k hk (by simpa using hX)⟩, h⟩
theorem r_nextEnd {s : ByteArray} {b p : Nat} (hd : Nat.blt d n = true) (hx : ev E x = some (.pointer (some ⟨b, 0, none⟩))) [hb : HasBlk b H (.stringIter s p) G] (hp : ¬ p < s.size)
    (hk : Run n w0 S ((d, .tuple #[.bool false]) :: E) H (mix P none ops K rest)) :
    Run n w0 S E H (mix P none ops K (⟨some d, .next x true, ty, pos, after, none⟩ :: rest)) :=
  r_act (X := []) rfl True.intro fun a w ha hw => by
    have hg : w.heap[b]? = some (.stringIter s p) := hw.look hb.pick
    have h := hk _ _ (ha.put hd _) hw
    have hrun := fun ty => Lib.run_next_end_at (P := P) w b s p ty hg hp
    simp [execOp, ha.ev hx, hrun, actUpon]
    exact ⟨⟨Nat.le_refl _, fun k hk hX => rfl⟩, h⟩
end
end Go.Proofs.YtghjbnbkfohmlaaDoor
