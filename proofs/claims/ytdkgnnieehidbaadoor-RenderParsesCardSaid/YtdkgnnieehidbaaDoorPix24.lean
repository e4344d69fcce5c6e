/-
  Rendering (chapter 24): what Parse computes. No walk.
-/
import Derived.Test.YtdkgnnieehidbaaDoorRecord24
import Derived.Laws.RangeString
namespace Go.Proofs.YtdkgnnieehidbaaDoor
open Go Go.RowKit
set_option linter.unusedVariables false
set_option linter.unusedSimpArgs false
set_option maxHeartbeats 2000000
set_option maxRecDepth 4000
attribute [local irreducible] mix

def PEq (P Q : Nat → Nat → Nat → Bool) : Prop := ∀ k, k < 4 → ∀ y, y < 64 → ∀ x, x < 128 → P k y x = Q k y x
theorem planesL_congr {P Q : Nat → Nat → Nat → Bool} (h : PEq P Q) : planesL P = planesL Q := by
  unfold planesL
  apply List.map_congr_left
  intro j hj
  have hj := List.mem_range.1 hj
  have e1 : hiN (P (j / 128) (j % 128 / 2)) = hiN (Q (j / 128) (j % 128 / 2)) := num_congr fun i hi => h _ (by omega) _ (by omega) _ (by omega)
  have e2 : loN (P (j / 128) (j % 128 / 2)) = loN (Q (j / 128) (j % 128 / 2)) := num_congr fun i hi => h _ (by omega) _ (by omega) _ (by omega)
  unfold cellP
  rw [e1, e2]
def setPl (P : Nat → Nat → Nat → Bool) (k : Nat) (Q : Nat → Nat → Bool) (i : Nat) : Nat → Nat → Bool := if i = k then Q else P i
theorem splice_planes {P : Nat → Nat → Nat → Bool} {T : List Value} {k : Nat} (hk : k < 4) (Q : Nat → Nat → Bool) : splice (planesL P ++ T).toArray (128 * k) (planeV Q) = (planesL (setPl P k Q) ++ T).toArray := by
  unfold splice
  apply Array.ext_getElem?
  intro j
  have hp : ∀ j : Nat, ((planesL P ++ T).toArray).toList[j]? = (planesL P ++ T)[j]? := fun j => rfl
  have hl : ((planesL P ++ T).toArray).toList.length = 512 + T.length := by rw [show (planesL P ++ T).toArray.toList = planesL P ++ T from rfl, List.length_append, planesL_len]
  have hq : ∀ j : Nat, (planeV Q).toList[j]? = (planeV Q)[j]? := fun j => Array.getElem?_toList
  have hpl : ∀ (P : Nat → Nat → Nat → Bool) (j : Nat), j < 512 → (planesL P ++ T)[j]? = some (.int .u64 ((cellP (P (j / 128)) (j % 128) : Nat) : Int)) := fun P j hj => by
    rw [List.getElem?_append, planesL_len, if_pos hj, planesL_at _ hj]
  have htl : ∀ j : Nat, 512 ≤ j → (planesL (setPl P k Q) ++ T)[j]? = (planesL P ++ T)[j]? := fun j hj => by
    rw [List.getElem?_append, List.getElem?_append, planesL_len, planesL_len, if_neg (by omega), if_neg (by omega)]
  rw [List.getElem?_toArray, List.getElem?_toArray, List.append_assoc, List.getElem?_append, List.length_take, hl, List.getElem?_take, planeV_size]
  by_cases h1 : j < 128 * k
  · rw [if_pos (by omega), if_pos h1, hp, hpl _ _ (by omega), hpl _ _ (by omega)]
    unfold setPl
    rw [if_neg (show ¬ j / 128 = k by omega)]
  · rw [if_neg (by omega), show min (128 * k) (512 + T.length) = 128 * k by omega, List.getElem?_append, hq, Array.length_toList, planeV_size]
    by_cases h2 : j < 128 * k + 128
    · rw [if_pos (by omega), planeV_at _ (by omega), hpl _ _ (by omega)]
      unfold setPl
      rw [if_pos (show j / 128 = k by omega), show j % 128 = j - 128 * k by omega]
    · rw [if_neg (by omega), List.getElem?_drop, hp, show 128 * k + 128 + (j - 128 * k - 128) = j by omega]
      by_cases h3 : j < 512
      · rw [hpl _ _ h3, hpl _ _ h3]
        unfold setPl
        rw [if_neg (show ¬ j / 128 = k by omega)]
      · rw [htl j (by omega)]
theorem shr4 : ∀ m : Nat, m < 16 → ∀ k : Nat, k < 4 → ((m : Nat) : Int).fdiv (2 ^ (min ((k : Nat) : Int).toNat IntKind.i64.bits)) = ((m >>> k : Nat) : Int) := by decide +kernel
theorem and4 : ∀ x : Nat, x < 16 → IntKind.i64.wrap ((BitVec.ofInt IntKind.i64.bits ((x : Nat) : Int) &&& BitVec.ofInt IntKind.i64.bits 1).toNat : Int) = ((x % 2 : Nat) : Int) := by decide +kernel
theorem bit4 : ∀ m : Nat, m < 16 → ∀ k : Nat, k < 4 → decide ((((m >>> k) % 2 : Nat) : Int) = 1) = m.testBit k := by decide +kernel
theorem shr_lt4 : ∀ m : Nat, m < 16 → ∀ k : Nat, k < 4 → m >>> k < 16 := by decide +kernel

def nextV (s : ByteArray) (p : Nat) : Value := .tuple (if p < s.size then #[.bool true, .int .i64 (p : Int), .int .i32 (Utf8.decode s p).1] else #[.bool false])
def nextP (s : ByteArray) (p : Nat) : Nat := if p < s.size then p + (Utf8.decode s p).2 else p
section
variable {P : Program} {n : Nat} {w0 : World} {S : List Nat} {E : List (Nat × Value)} {H G : List Res} {Q : Exit → Act → World → Prop}
variable {dr : Option Dr} {ops : Array Oper} {K : Act → World → Prop} {rest : List Oper} {d : Nat} {ty : TypeId} {pos : String} {after : Array Edge} {x y : Operand}
theorem Run.swapBlk {Gl : Act → World → Prop} {b : Nat} {o : Obj} [hb : HasBlk b H o G] (h : Run n w0 S E (.blk b o :: G) Gl) : Run n w0 S E H Gl := fun a w ha hw => h a w ha (hw.pick hb.pick)
theorem r_nextAny {s : ByteArray} {b p : Nat} (hd : Nat.blt d n = true) (hx : ev E x = some (.pointer (some ⟨b, 0, none⟩))) [hb : HasBlk b H (.stringIter s p) G]
    (hk : Run n w0 S ((d, nextV s p) :: E) (.blk b (.stringIter s (nextP s p)) :: G) (mix P none ops K rest)) :
    Run n w0 S E H (mix P none ops K (⟨some d, .next x true, ty, pos, after, none⟩ :: rest)) := by
  by_cases h : p < s.size
  · refine r_next (s := s) (p := p) hd hx h ?_
    have e1 : nextV s p = .tuple #[.bool true, .int .i64 (p : Int), .int .i32 (Utf8.decode s p).1] := by unfold nextV; rw [if_pos h]
    have e2 : nextP s p = p + (Utf8.decode s p).2 := by unfold nextP; rw [if_pos h]
    rw [e1, e2] at hk
    exact hk
  · refine r_nextEnd (s := s) (p := p) hd hx h ?_
    have e1 : nextV s p = .tuple #[.bool false] := by unfold nextV; rw [if_neg h]
    have e2 : nextP s p = p := by unfold nextP; rw [if_neg h]
    rw [e1, e2] at hk
    exact Run.swapBlk (b := b) hk
end
theorem nextV_0 (s : ByteArray) (p : Nat) : (if p < s.size then #[Value.bool true, .int .i64 (p : Int), .int .i32 (Utf8.decode s p).1] else #[.bool false])[0]? = some (.bool (decide (p < s.size))) := by
  by_cases h : p < s.size
  · rw [if_pos h, decide_eq_true h]; rfl
  · rw [if_neg h, decide_eq_false h]; rfl
theorem nextV_1 {s : ByteArray} {p : Nat} (h : p < s.size) : (if p < s.size then #[Value.bool true, .int .i64 (p : Int), .int .i32 (Utf8.decode s p).1] else #[.bool false])[1]? = some (.int .i64 (p : Int)) := by rw [if_pos h]; rfl
theorem nextV_2 {s : ByteArray} {p : Nat} (h : p < s.size) : (if p < s.size then #[Value.bool true, .int .i64 (p : Int), .int .i32 (Utf8.decode s p).1] else #[.bool false])[2]? = some (.int .i32 (Utf8.decode s p).1) := by rw [if_pos h]; rfl
theorem decode_high (s : ByteArray) (p : Nat) (h : p < s.size) (hb : 128 ≤ (s[p]'h).toNat) : 128 ≤ (Utf8.decode s p).1 := by
  have e : (s.get! (p + 0)) = s[p]'h := by
    show s.get! p = _
    simp [ByteArray.get!, getElem!_pos, h]
    rfl
  unfold Utf8.decode
  simp only [e]
  rw [if_neg (by omega)]
  split
  · split
    · rename_i h2; exact Nat.le_trans (by decide) h2
    · decide
  · split
    · split
      · rename_i h2
        rw [Bool.and_eq_true] at h2
        exact Nat.le_trans (by decide) (of_decide_eq_true h2.1)
      · decide
    · split
      · split
        · rename_i h2
          rw [Bool.and_eq_true] at h2
          exact Nat.le_trans (by decide) (of_decide_eq_true h2.1)
        · decide
      · decide
/-- the number of a byte as a character, or -1 -/
def valB (z : UInt8) : Int := valR (z.toNat : Int)
theorem valR_cases (r : Int) : (∃ n, n < 16 ∧ (chN n : Int) = r ∧ valR r = n) ∨ valR r = -1 := by
  by_cases h : ∃ n, n < 16 ∧ (chN n : Int) = r
  · obtain ⟨n, h1, h2⟩ := h
    exact .inl ⟨n, h1, h2, valR_of h1 h2⟩
  · exact .inr (valR_none fun j hj e => h ⟨j, hj, e⟩)
theorem valR_high {r : Int} (h : 128 ≤ r) : valR r = -1 := by
  rcases valR_cases r with ⟨n, h1, h2, _⟩ | h1
  · have := chN_lt n h1
    omega
  · exact h1
theorem dec_val (l : List UInt8) {p : Nat} (h : p < l.length) : valR (Utf8.decode (tx l) p).1 = valB l[p] ∧ (0 ≤ valB l[p] → nextP (tx l) p = p + 1) := by
  have hs : p < (tx l).size := h
  have e : (tx l)[p]'hs = l[p] := rfl
  by_cases hb : (l[p]).toNat < 128
  · have hd := decode_ascii (tx l) p hs (by rw [e]; exact hb)
    rw [hd]
    refine ⟨rfl, fun _ => ?_⟩
    unfold nextP
    rw [if_pos hs, hd]
  · have h1 := decode_high (tx l) p hs (by rw [e]; omega)
    have h2 : valR (Utf8.decode (tx l) p).1 = -1 := valR_high (by omega)
    have h3 : valB l[p] = -1 := valR_high (by omega)
    exact ⟨h2.trans h3.symm, fun h0 => absurd (Int.le_trans h0 (Int.le_of_eq h3)) (by decide)⟩
theorem valB_cases (z : UInt8) : (∃ n : Nat, n < 16 ∧ valB z = n) ∨ valB z = -1 := by
  rcases valR_cases (z.toNat : Int) with ⟨n, h1, _, h2⟩ | h1
  · exact .inl ⟨n, h1, h2⟩
  · exact .inr h1
def okLine (w : Nat) (l : List UInt8) : Bool := decide (l.length = w) && l.all fun z => decide (0 ≤ valB z)
def hiL (ls : List (List UInt8)) : Bool := decide (ls.length = 64)
/-- whether lines are those of a screen -/
def parseOK (ls : List (List UInt8)) : Bool := decide (ls.length = ht (hiL ls)) && ls.all (okLine (wd (hiL ls)))
/-- a pixel of lines -/
def bq (ls : List (List UInt8)) (i y x : Nat) : Bool := decide (y < ls.length) && (decide (x < wd (hiL ls)) && (valB ((ls.getD y []).getD x 0)).toNat.testBit i)
/-- the pixels of lines ahead of a place -/
def pQ (ls : List (List UInt8)) (y x i y1 x1 : Nat) : Bool := decide (y1 < y ∨ (y1 = y ∧ x1 < x)) && bq ls i y1 x1
def stQ (ls : List (List UInt8)) (y x k i : Nat) : Nat → Nat → Bool := pQ ls y (if i < k then x + 1 else x) i
theorem okLine_no {w : Nat} {l : List UInt8} {p : Nat} (h : p < l.length) (h2 : valB l[p] < 0) : okLine w l = false := by
  unfold okLine
  have e : l.all (fun z => decide (0 ≤ valB z)) = false := by
    rw [List.all_eq_false]
    exact ⟨l[p], List.getElem_mem h, by simp; omega⟩
  rw [e, Bool.and_false]
theorem okLine_len {w : Nat} {l : List UInt8} (h : l.length ≠ w) : okLine w l = false := by
  unfold okLine; rw [decide_eq_false h]; rfl
theorem okLine_yes {w : Nat} {l : List UInt8} (h : l.length = w) (h2 : ∀ j (hj : j < l.length), 0 ≤ valB l[j]) : okLine w l = true := by
  unfold okLine
  rw [decide_eq_true h, Bool.true_and, List.all_eq_true]
  intro z hz
  obtain ⟨j, hj, rfl⟩ := List.mem_iff_getElem.1 hz
  exact decide_eq_true (h2 j hj)
theorem parse_no {ls : List (List UInt8)} {y : Nat} (h : y < ls.length) (h2 : okLine (wd (hiL ls)) ls[y] = false) : parseOK ls = false := by
  unfold parseOK
  have e : ls.all (okLine (wd (hiL ls))) = false := by
    rw [List.all_eq_false]
    exact ⟨ls[y], List.getElem_mem h, by rw [h2]; simp⟩
  rw [e, Bool.and_false]
theorem parse_len {ls : List (List UInt8)} (h : ls.length ≠ ht (hiL ls)) : parseOK ls = false := by
  unfold parseOK; rw [decide_eq_false h]; rfl
theorem parse_yes {ls : List (List UInt8)} (h : ls.length = ht (hiL ls)) (h2 : ∀ j (hj : j < ls.length), okLine (wd (hiL ls)) ls[j] = true) : parseOK ls = true := by
  unfold parseOK
  rw [decide_eq_true h, Bool.true_and, List.all_eq_true]
  intro l hl
  obtain ⟨j, hj, rfl⟩ := List.mem_iff_getElem.1 hl
  exact h2 j hj
theorem bq_at {ls : List (List UInt8)} {y x n : Nat} (hy : y < ls.length) (hx : x < (ls[y]).length) (hw : x < wd (hiL ls)) (hv : valB (ls[y])[x] = (n : Int)) (i : Nat) : bq ls i y x = n.testBit i := by
  unfold bq
  have e1 : ls.getD y [] = ls[y] := by simp [List.getD, hy]
  have e2 : (ls[y]).getD x 0 = (ls[y])[x] := by simp [List.getD, hx]
  rw [e1, e2, hv, decide_eq_true hy, decide_eq_true hw]
  rfl
theorem pix_spr {x y : Nat} {hires : Bool} (hx : x < wd hires) (hy : y < ht hires) {y1 x1 : Nat} (hx1 : x1 < 128) : sprQ [128] 8 x y hires true 1 y1 x1 = decide (y1 = y ∧ x1 = x) := by
  unfold sprQ
  by_cases h : y1 = y
  · subst h
    rw [if_pos ⟨Nat.le_refl _, hy, by omega⟩, Nat.sub_self, spr_clip _ 8 x hires (by decide) x1 hx1]
    have e : bitsAt [128] 0 = 128 := rfl
    rw [e]
    by_cases h2 : x1 = x
    · subst h2
      rw [decide_eq_true ⟨hx, Nat.le_refl _, by omega⟩, Nat.sub_self, decide_eq_true ⟨rfl, rfl⟩]
      rfl
    · rw [decide_eq_false (show ¬ (y1 = y1 ∧ x1 = x) from fun h3 => h2 h3.2)]
      by_cases h3 : x1 < wd hires ∧ x ≤ x1 ∧ x1 - x < 8
      · rw [decide_eq_true h3, Bool.true_and]
        have h4 : ∀ d, d < 8 → d ≠ 0 → (128 : Nat).testBit (8 - 1 - d) = false := by decide
        exact h4 (x1 - x) h3.2.2 (by omega)
      · rw [decide_eq_false h3]; rfl
  · rw [decide_eq_false (fun h2 => h h2.1)]
    rw [if_neg (show ¬ (y ≤ y1 ∧ y1 < ht hires ∧ y1 - y < 1) from fun h2 => h (by omega)), if_neg (show ¬ (true = false ∧ y1 < y ∧ y1 + ht hires - y < 1) from fun h2 => by cases h2.1)]
    rfl
theorem pQ_yes {ls : List (List UInt8)} {y x i : Nat} (hb : bq ls i y x = true) (hx : x < wd (hiL ls)) (hy : y < ht (hiL ls)) {y1 x1 : Nat} (hx1 : x1 < 128) : xorQ (pQ ls y x i) (sprQ [128] 8 x y (hiL ls) true 1) y1 x1 = pQ ls y (x + 1) i y1 x1 := by
  unfold xorQ
  rw [pix_spr hx hy hx1]
  unfold pQ
  by_cases h : y1 = y ∧ x1 = x
  · obtain ⟨rfl, rfl⟩ := h
    rw [decide_eq_false (show ¬ (y1 < y1 ∨ (y1 = y1 ∧ x1 < x1)) by omega), decide_eq_true (show y1 = y1 ∧ x1 = x1 from ⟨rfl, rfl⟩), decide_eq_true (show (y1 < y1 ∨ (y1 = y1 ∧ x1 < x1 + 1)) by omega), hb]
    rfl
  · rw [decide_eq_false h, Bool.xor_false]
    congr 1
    exact decide_eq_decide.2 ⟨fun h2 => by omega, fun h2 => by
      by_cases e : y1 = y
      · by_cases e2 : x1 = x
        · exact absurd ⟨e, e2⟩ h
        · omega
      · omega⟩
theorem pQ_no {ls : List (List UInt8)} {y x i : Nat} (hb : bq ls i y x = false) (y1 x1 : Nat) : pQ ls y x i y1 x1 = pQ ls y (x + 1) i y1 x1 := by
  unfold pQ
  by_cases h : y1 = y ∧ x1 = x
  · obtain ⟨rfl, rfl⟩ := h
    rw [hb, Bool.and_false, Bool.and_false]
  · congr 1
    exact decide_eq_decide.2 ⟨fun h2 => by omega, fun h2 => by
      by_cases e : y1 = y
      · by_cases e2 : x1 = x
        · exact absurd ⟨e, e2⟩ h
        · omega
      · omega⟩
theorem pQ_next {ls : List (List UInt8)} {y i : Nat} (y1 x1 : Nat) : pQ ls y (wd (hiL ls)) i y1 x1 = pQ ls (y + 1) 0 i y1 x1 := by
  unfold pQ bq
  by_cases h : x1 < wd (hiL ls)
  · congr 1
    exact decide_eq_decide.2 ⟨fun h2 => by omega, fun h2 => by omega⟩
  · rw [decide_eq_false h, Bool.false_and, Bool.and_false, Bool.and_false, Bool.and_false]
theorem pQ_all {ls : List (List UInt8)} {i : Nat} (y1 x1 : Nat) : pQ ls ls.length 0 i y1 x1 = bq ls i y1 x1 := by
  unfold pQ
  by_cases h : y1 < ls.length
  · rw [decide_eq_true (.inl h), Bool.true_and]
  · rw [decide_eq_false (show ¬ (y1 < ls.length ∨ (y1 = ls.length ∧ x1 < 0)) by omega), Bool.false_and]
    unfold bq
    rw [decide_eq_false h]; rfl
theorem pQ_start (ls : List (List UInt8)) (i : Nat) : pQ ls 0 0 i = noneQ := by
  funext y1 x1
  unfold pQ
  rw [decide_eq_false (show ¬ (y1 < 0 ∨ (y1 = 0 ∧ x1 < 0)) by omega)]; rfl
theorem planesV_congr {P Q : Nat → Nat → Nat → Bool} (h : PEq P Q) : planesV P = planesV Q := congrArg List.toArray (planesL_congr h)
theorem planesV_pl (P : Nat → Nat → Nat → Bool) {k : Nat} (h : k < 4) : (planesV P).extract (128 * k) (128 * k + 128) = planeV (P k) := by
  have := planesV_plane P h
  rwa [Nat.mul_comm] at this
theorem planesV_set (P : Nat → Nat → Nat → Bool) {k : Nat} (h : k < 4) (Q : Nat → Nat → Bool) : splice (planesV P) (128 * k) (planeV Q) = planesV (setPl P k Q) := by
  have := splice_planes (P := P) (T := []) h Q
  rwa [List.append_nil, List.append_nil] at this
theorem stQ_yes {ls : List (List UInt8)} {y x k : Nat} (hb : bq ls k y x = true) (hx : x < wd (hiL ls)) (hy : y < ht (hiL ls)) : PEq (setPl (stQ ls y x k) k (xorQ (stQ ls y x k k) (sprQ [128] 8 x y (hiL ls) true 1))) (stQ ls y x (k + 1)) := by
  intro i hi y1 hy1 x1 hx1
  unfold setPl
  by_cases e : i = k
  · subst e
    rw [if_pos rfl]
    have e1 : stQ ls y x i i = pQ ls y x i := by unfold stQ; rw [if_neg (by omega)]
    have e2 : stQ ls y x (i + 1) i = pQ ls y (x + 1) i := by unfold stQ; rw [if_pos (by omega)]
    rw [e1, e2]
    exact pQ_yes hb hx hy hx1
  · rw [if_neg e]
    unfold stQ
    by_cases h : i < k
    · rw [if_pos h, if_pos (by omega)]
    · rw [if_neg h, if_neg (by omega)]
theorem stQ_no {ls : List (List UInt8)} {y x k : Nat} (hb : bq ls k y x = false) : PEq (stQ ls y x k) (stQ ls y x (k + 1)) := by
  intro i hi y1 hy1 x1 hx1
  unfold stQ
  by_cases e : i = k
  · subst e
    rw [if_neg (by omega), if_pos (by omega)]
    exact pQ_no hb y1 x1
  · by_cases h : i < k
    · rw [if_pos h, if_pos (by omega)]
    · rw [if_neg h, if_neg (by omega)]
theorem stQ_zero (ls : List (List UInt8)) (y x : Nat) : stQ ls y x 0 = pQ ls y x := by
  funext i
  unfold stQ
  rw [if_neg (by omega)]
theorem stQ_four (ls : List (List UInt8)) (y x : Nat) : PEq (stQ ls y x 4) (pQ ls y (x + 1)) := by
  intro i hi y1 _ x1 _
  unfold stQ
  rw [if_pos hi]
/-- the planes of lines -/
def linesP (ls : List (List UInt8)) (i y x : Nat) : Bool := bq ls i y x
theorem start_eq (ls : List (List UInt8)) : planesV (pQ ls 0 0) = planesV (fun _ => noneQ) := congrArg planesV (funext fun i => pQ_start ls i)
theorem next_eq (ls : List (List UInt8)) (y : Nat) : planesV (pQ ls y (wd (hiL ls))) = planesV (pQ ls (y + 1) 0) := planesV_congr fun i _ y1 _ x1 _ => pQ_next y1 x1
theorem all_eq (ls : List (List UInt8)) : planesV (pQ ls ls.length 0) = planesV (linesP ls) := planesV_congr fun i _ y1 _ x1 _ => pQ_all y1 x1

end Go.Proofs.YtdkgnnieehidbaaDoor
