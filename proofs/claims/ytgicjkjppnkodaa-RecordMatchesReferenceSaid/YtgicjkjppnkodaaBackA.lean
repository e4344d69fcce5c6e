/-
  Records (chapter 23): what is encoded is decoded, and the other way round. No walk.
-/
import Derived.Test.YtgicjkjppnkodaaTop23
import Derived.Laws.Strings
namespace Go.Proofs.Ytgicjkjppnkodaa
section
open Go Go.RowKit
set_option linter.unusedVariables false
set_option linter.unusedSimpArgs false
set_option maxHeartbeats 2000000
set_option maxRecDepth 4000

theorem bytes_app {a b : List Int} (ha : bytesB a) (hb : bytesB b) : bytesB (a ++ b) := fun z hz => by
  rcases List.mem_append.1 hz with h | h
  · exact ha z h
  · exact hb z h
theorem be_bytes (size n : Nat) : bytesB (be size n) := fun z hz => by
  obtain ⟨i, _, rfl⟩ := List.mem_map.1 hz
  omega
theorem be_succ (s n : Nat) : be (s + 1) n = be s (n / 256) ++ [((n % 256 : Nat) : Int)] := by
  unfold be
  rw [List.range_succ, List.map_append]
  congr 1
  · apply List.map_congr_left
    intro i hi
    have hi := List.mem_range.1 hi
    rw [show 8 * (s + 1 - 1 - i) = 8 + 8 * (s - 1 - i) by omega, Nat.shiftRight_add]
    rw [Nat.shiftRight_eq_div_pow n 8]
  · simp
theorem beN_be : ∀ (s n : Nat), n < 256 ^ s → beN (be s n) = n
  | 0, n, h => by
    have e : n = 0 := by simpa using h
    rw [e]; rfl
  | s + 1, n, h => by
    rw [be_succ, beN_snoc, beN_be s (n / 256) (by rw [Nat.pow_succ] at h; omega)]
    omega
theorem be_beN : ∀ (k : Nat) {l : List Int}, l.length = k → bytesB l → be k (beN l) = l
  | 0, l, h, _ => by rw [List.eq_nil_of_length_eq_zero h]; rfl
  | k + 1, l, h, hb => by
    rcases List.eq_nil_or_concat l with rfl | ⟨L, z, rfl⟩
    · simp at h
    · rw [List.concat_eq_append] at h hb ⊢
      have h2 : L.length = k := by simpa using h
      have hz := hb z (by simp)
      rw [be_succ, beN_snoc]
      have e1 : (256 * beN L + z.toNat) / 256 = beN L := by omega
      have e2 : (256 * beN L + z.toNat) % 256 = z.toNat := by omega
      rw [e1, e2, be_beN k h2 (fun y hy => hb y (by simp [hy])), Int.toNat_of_nonneg hz.1]
theorem rdL_app {a b : List Int} {s : Nat} (h : a.length = s) : rdL (a ++ b) s = b := by
  unfold rdL
  rw [if_pos (by rw [List.length_append]; omega), ← h, List.drop_left]
theorem rdB_app {a b : List Int} {s : Nat} (h : a.length = s) (bad : Bool) : rdB (a ++ b) s bad = bad := by
  unfold rdB
  rw [if_pos (by rw [List.length_append]; omega)]
theorem rdV_app {a b : List Int} {s : Nat} (h : a.length = s) : rdV (a ++ b) s = beN a := by
  unfold rdV
  rw [if_pos (by rw [List.length_append]; omega), ← h, List.take_left]
theorem rd_split {l : List Int} {s : Nat} {bad : Bool} (hl : bytesB l) (h : rdB l s bad = false) : bad = false ∧ l = be s (rdV l s) ++ rdL l s ∧ s ≤ l.length := by
  unfold rdB at h
  split at h
  · rename_i hs
    refine ⟨h, ?_, hs⟩
    unfold rdV rdL
    rw [if_pos hs, if_pos hs, be_beN s (by rw [List.length_take]; omega) (fun z hz => hl z (List.mem_of_mem_take hz)), List.take_append_drop]
  · cases h

/-! planes that agree -/
def PEq (P Q : Nat → Nat → Nat → Bool) : Prop := ∀ k, k < 4 → ∀ y, y < 64 → ∀ x, x < 128 → P k y x = Q k y x
theorem hiN_congr {p q : Nat → Bool} (h : ∀ x, x < 128 → p x = q x) : hiN p = hiN q := num_congr fun i hi => h _ (by omega)
theorem loN_congr {p q : Nat → Bool} (h : ∀ x, x < 128 → p x = q x) : loN p = loN q := num_congr fun i hi => h _ (by omega)
theorem rowsB_congr {p q : Nat → Nat → Bool} : ∀ {n : Nat}, (∀ y, y < n → hiN (p y) = hiN (q y) ∧ loN (p y) = loN (q y)) → rowsB p n = rowsB q n
  | 0, _ => rfl
  | n + 1, h => by
    rw [rowsB_succ, rowsB_succ, rowsB_congr (n := n) (fun y hy => h y (by omega)), (h n (by omega)).1, (h n (by omega)).2]
theorem rowsQ_congr {p q : Nat → Nat → Bool} (h : ∀ y, y < 64 → ∀ x, x < 128 → p y x = q y x) : rowsB p 64 = rowsB q 64 :=
  rowsB_congr fun y hy => ⟨hiN_congr (h y hy), loN_congr (h y hy)⟩
theorem eqQ_congr {P P2 Q Q2 : Nat → Nat → Bool} (h : ∀ y, y < 64 → ∀ x, x < 128 → P y x = P2 y x) (h2 : ∀ y, y < 64 → ∀ x, x < 128 → Q y x = Q2 y x) : eqQ P Q = eqQ P2 Q2 := by
  apply Bool.eq_iff_iff.2
  rw [eqQ_iff, eqQ_iff]
  exact ⟨fun e y hy x hx => by rw [← h y hy x hx, ← h2 y hy x hx]; exact e y hy x hx, fun e y hy x hx => by rw [h y hy x hx, h2 y hy x hx]; exact e y hy x hx⟩
theorem usedF_congr {P Q : Nat → Nat → Nat → Bool} (h : PEq P Q) {k : Nat} (hk : k < 4) : usedF P k = usedF Q k := by
  unfold usedF
  rw [eqQ_congr (h k hk) (fun _ _ _ _ => rfl)]
theorem bodyB_congr {P Q : Nat → Nat → Nat → Bool} (h : PEq P Q) : ∀ {k : Nat}, k ≤ 4 → bodyB P k = bodyB Q k
  | 0, _ => rfl
  | k + 1, hk => by
    unfold bodyB
    rw [bodyB_congr h (k := k) (by omega), usedF_congr h (by omega), rowsQ_congr (h k (by omega))]
theorem lenB_congr {P Q : Nat → Nat → Nat → Bool} (h : PEq P Q) : ∀ {k : Nat}, k ≤ 4 → lenB P k = lenB Q k
  | 0, _ => rfl
  | k + 1, hk => by
    unfold lenB
    rw [lenB_congr h (k := k) (by omega), usedF_congr h (by omega)]
theorem planesL_congr {P Q : Nat → Nat → Nat → Bool} (h : PEq P Q) : planesL P = planesL Q := by
  unfold planesL
  apply List.map_congr_left
  intro j hj
  have hj := List.mem_range.1 hj
  have e1 : hiN (P (j / 128) (j % 128 / 2)) = hiN (Q (j / 128) (j % 128 / 2)) := hiN_congr (h _ (by omega) _ (by omega))
  have e2 : loN (P (j / 128) (j % 128 / 2)) = loN (Q (j / 128) (j % 128 / 2)) := loN_congr (h _ (by omega) _ (by omega))
  unfold cellP
  rw [e1, e2]
theorem fitsB_iff (P : Nat → Nat → Bool) (hires : Bool) : fitsB P hires = true ↔ ∀ y, y < 64 → ∀ x, x < 128 → P y x = true → x < wd hires ∧ y < ht hires := by
  unfold fitsB
  rw [eqQ_iff]
  constructor
  · intro h y hy x hx hp
    have h2 := h y hy x hx
    rw [hp] at h2
    unfold scrollQ partQ scrollRow at h2
    by_cases c1 : y < ht hires
    · rw [if_pos c1, if_pos (by omega)] at h2
      unfold shiftP at h2
      rw [Bool.and_eq_true] at h2
      exact ⟨of_decide_eq_true h2.1, c1⟩
    · rw [if_neg c1] at h2
      have h3 : false = true := h2
      cases h3
  · intro h y hy x hx
    unfold scrollQ partQ scrollRow
    by_cases c1 : y < ht hires
    · rw [if_pos c1, if_pos (by omega)]
      unfold shiftP
      rw [show ((y : Int) - 0).toNat = y by omega, show ((x : Int) - 0).toNat = x by omega, decide_eq_true (show (0 : Int) ≤ (x : Int) - 0 by omega), decide_eq_true (show (x : Int) - 0 < 128 by omega)]
      rw [Bool.true_and, Bool.true_and]
      cases hp : P y x with
      | false => rw [Bool.and_false]
      | true => rw [decide_eq_true (h y hy x hx hp).1]; rfl
    · rw [if_neg c1]
      cases hp : P y x with
      | false => rfl
      | true => exact absurd (h y hy x hx hp).2 c1
theorem fitsB_congr {P Q : Nat → Nat → Bool} (h : ∀ y, y < 64 → ∀ x, x < 128 → P y x = Q y x) (hires : Bool) : fitsB P hires = fitsB Q hires := by
  apply Bool.eq_iff_iff.2
  rw [fitsB_iff, fitsB_iff]
  exact ⟨fun e y hy x hx hp => e y hy x hx (by rw [h y hy x hx]; exact hp), fun e y hy x hx hp => e y hy x hx (by rw [← h y hy x hx]; exact hp)⟩
theorem fitsK_congr {P Q : Nat → Nat → Nat → Bool} (h : PEq P Q) (hires : Bool) : ∀ {k : Nat}, k ≤ 4 → fitsK P hires k = fitsK Q hires k
  | 0, _ => rfl
  | k + 1, hk => by
    unfold fitsK
    rw [fitsK_congr h hires (k := k) (by omega), fitsB_congr (h k (by omega))]

/-! the rows -/
theorem rowBits_row (q : Nat → Bool) {x : Nat} (hx : x < 128) : rowBits (hiN q) (loN q) x = q x := by
  unfold rowBits
  split
  · rename_i h
    unfold hiN
    rw [num_bit, decide_eq_true (by omega), Bool.true_and]
    congr 1; omega
  · rename_i h
    unfold loN
    rw [num_bit, decide_eq_true (by omega), Bool.true_and]
    congr 1; omega
theorem num_lt64 (f : Nat → Bool) : num f 64 < 256 ^ 8 := num_lt f 64
theorem rows_enc (p : Nat → Nat → Bool) (bad : Bool) : ∀ (y : Nat) (t : List Int), rowsS (rowsB p y ++ t, bad) y = (t, bad)
  | 0, t => rfl
  | y + 1, t => by
    show (rdL (rdL (rowsS _ y).1 8) 8, rdB (rdL (rowsS _ y).1 8) 8 (rdB (rowsS _ y).1 8 (rowsS _ y).2)) = _
    rw [rowsB_succ, List.append_assoc, List.append_assoc, rows_enc p bad y]
    show (rdL (rdL (be 8 (hiN (p y)) ++ (be 8 (loN (p y)) ++ t)) 8) 8, rdB (rdL (be 8 (hiN (p y)) ++ (be 8 (loN (p y)) ++ t)) 8) 8 (rdB (be 8 (hiN (p y)) ++ (be 8 (loN (p y)) ++ t)) 8 bad)) = _
    rw [rdL_app (be_len 8 _), rdL_app (be_len 8 _), rdB_app (be_len 8 _), rdB_app (be_len 8 _)]
theorem rowsB_cut (p : Nat → Nat → Bool) (y : Nat) : ∀ n, ∃ t, rowsB p (y + 1 + n) = rowsB p y ++ (be 8 (hiN (p y)) ++ (be 8 (loN (p y)) ++ t))
  | 0 => ⟨[], by rw [Nat.add_zero, rowsB_succ, List.append_nil, List.append_assoc]⟩
  | n + 1 => by
    obtain ⟨t, ht⟩ := rowsB_cut p y n
    refine ⟨t ++ (be 8 (hiN (p (y + 1 + n))) ++ be 8 (loN (p (y + 1 + n)))), ?_⟩
    rw [← Nat.add_assoc, rowsB_succ, ht]
    simp only [List.append_assoc]
theorem rows_pix (p : Nat → Nat → Bool) (bad : Bool) (rest : List Int) {y : Nat} (hy : y < 64) {x : Nat} (hx : x < 128) : rowsP (rowsB p 64 ++ rest, bad) y x = p y x := by
  obtain ⟨t, ht⟩ := rowsB_cut p y (63 - y)
  rw [show y + 1 + (63 - y) = 64 by omega] at ht
  unfold rowsP
  rw [ht, List.append_assoc, List.append_assoc, rows_enc p bad y, List.append_assoc]
  show rowBits (rdV (be 8 (hiN (p y)) ++ (be 8 (loN (p y)) ++ (t ++ rest))) 8) (rdV (rdL (be 8 (hiN (p y)) ++ (be 8 (loN (p y)) ++ (t ++ rest))) 8) 8) x = _
  rw [rdL_app (be_len 8 _), rdV_app (be_len 8 _), rdV_app (be_len 8 _), beN_be 8 (hiN (p y)) (num_lt64 _), beN_be 8 (loN (p y)) (num_lt64 _)]
  exact rowBits_row (p y) hx
theorem used_test (P : Nat → Nat → Nat → Bool) {k : Nat} (hk : k < 4) : (num (usedF P) 4).testBit k = usedF P k := by
  rw [num_bit, decide_eq_true hk, Bool.true_and]
theorem plS_enc (P : Nat → Nat → Nat → Bool) (bad : Bool) : ∀ (k : Nat) (t : List Int), k ≤ 4 → plS (num (usedF P) 4) (bodyB P k ++ t, bad) k = (t, bad)
  | 0, t, _ => rfl
  | k + 1, t, hk => by
    cases hu : usedF P k with
    | true =>
      rw [plS_yes (by rw [used_test P (by omega), hu]), bodyB_yes hu, List.append_assoc, plS_enc P bad k _ (by omega), rows_enc]
    | false =>
      rw [plS_no (by rw [used_test P (by omega), hu]), bodyB_no hu, plS_enc P bad k _ (by omega)]
theorem bodyB_cut (P : Nat → Nat → Nat → Bool) (k : Nat) : ∀ n, ∃ t, bodyB P (k + 1 + n) = bodyB P (k + 1) ++ t
  | 0 => ⟨[], by rw [Nat.add_zero, List.append_nil]⟩
  | n + 1 => by
    obtain ⟨t, ht⟩ := bodyB_cut P k n
    refine ⟨t ++ (if usedF P (k + 1 + n) then rowsB (P (k + 1 + n)) 64 else []), ?_⟩
    rw [← Nat.add_assoc]
    show bodyB P (k + 1 + n) ++ _ = _
    rw [ht, List.append_assoc]
theorem plP_enc (P : Nat → Nat → Nat → Bool) (bad : Bool) (rest : List Int) : PEq (plP (num (usedF P) 4) (bodyB P 4 ++ rest, bad) 4) P := by
  intro k hk y hy x hx
  unfold plP
  rw [used_test P hk]
  cases hu : usedF P k with
  | false =>
    rw [if_neg (fun h => by cases h.2)]
    have h := hu
    unfold usedF at h
    have h2 : eqQ (P k) noneQ = true := by simpa using h
    exact ((eqQ_iff _ _).1 h2 y hy x hx).symm
  | true =>
    obtain ⟨t, ht⟩ := bodyB_cut P k (3 - k)
    rw [show k + 1 + (3 - k) = 4 by omega] at ht
    rw [if_pos ⟨hk, rfl⟩, ht, bodyB_yes hu, List.append_assoc, List.append_assoc, plS_enc P bad k _ (by omega)]
    unfold partQ
    rw [if_pos hy]
    exact rows_pix (P k) bad (t ++ rest) hy hx
end
section
open Go Go.RowKit
set_option linter.unusedVariables false
set_option linter.unusedSimpArgs false
set_option maxHeartbeats 2000000
set_option maxRecDepth 4000

/-! a record -/
theorem wrap64 {n : Nat} (h : n ≤ 4611686018427387904) : IntKind.i64.wrap ((n : Nat) : Int) = ((n : Nat) : Int) := IntWalk.i64_in _ ⟨by omega, by omega⟩
def okR (r : Rec) : Prop := r.pat.length = 16 ∧ bytesB r.pat ∧ (0 ≤ r.pitch ∧ r.pitch ≤ 255)
theorem wrap_small {z : Int} (h : 0 ≤ z ∧ z ≤ 255) : IntKind.u8.wrap z = z := IntWalk.u8_in _ ⟨by omega, by omega⟩
theorem status_rng {r : Rec} (h : validR r = true) : (0 ≤ r.kind ∧ r.kind ≤ 3) ∧ (0 ≤ r.cause ∧ r.cause ≤ 4) := by
  unfold validR at h
  rw [Bool.and_eq_true] at h
  have h2 := h.2
  unfold statusB at h2
  split at h2
  · cases h2
  · rename_i c
    refine ⟨⟨by omega, by omega⟩, ?_⟩
    split at h2
    · cases h2
    · split at h2
      · have h3 := of_decide_eq_true h2; omega
      · have h3 := of_decide_eq_true h2; omega
def flagN (a b : Bool) : Nat := num (fun i => if i = 0 then a else b) 2
theorem flagN_le (a b : Bool) : flagN a b ≤ 3 := by revert a b; decide
theorem flagN_one (a b : Bool) : decide (((flagN a b &&& 1 : Nat) : Int) ≠ 0) = a := by revert a b; decide
theorem flagN_two (a b : Bool) : decide (((flagN a b &&& 2 : Nat) : Int) ≠ 0) = b := by revert a b; decide
theorem flagN_of : ∀ n : Nat, n < 4 → flagN (decide (((n &&& 1 : Nat) : Int) ≠ 0)) (decide (((n &&& 2 : Nat) : Int) ≠ 0)) = n := by decide
theorem beN_one {z : Int} (h : 0 ≤ z) : beN [z] = z.toNat := by
  show 256 * 0 + z.toNat = z.toNat
  omega
/-! bytes that are decoded -/
theorem rowsS_mono (s : List Int × Bool) : ∀ {n : Nat}, (rowsS s n).2 = false → s.2 = false
  | 0, h => h
  | n + 1, h => by
    have h : rdB (rdL (rowsS s n).1 8) 8 (rdB (rowsS s n).1 8 (rowsS s n).2) = false := h
    refine rowsS_mono s (n := n) ?_
    cases hb : (rowsS s n).2 with
    | false => rfl
    | true =>
      rw [hb] at h
      unfold rdB at h
      split at h
      · split at h <;> cases h
      · cases h
theorem rows_dec {s : List Int × Bool} (hs : bytesB s.1) : ∀ {n : Nat}, (rowsS s n).2 = false → s.1 = rowsB (rowsP s) n ++ (rowsS s n).1
  | 0, _ => rfl
  | n + 1, h => by
    have h : rdB (rdL (rowsS s n).1 8) 8 (rdB (rowsS s n).1 8 (rowsS s n).2) = false := h
    obtain ⟨h1, e1, _⟩ := rd_split (rdL_bytes (rowsS_bytes hs n) 8) h
    obtain ⟨h2, e2, _⟩ := rd_split (rowsS_bytes hs n) h1
    have ih := rows_dec hs h2
    have r1 : hiN (rowsP s n) = rdV (rowsS s n).1 8 := rowBits_hi (rdV_lt (rowsS_bytes hs n) (by decide))
    have r2 : loN (rowsP s n) = rdV (rdL (rowsS s n).1 8) 8 := rowBits_lo (rdV_lt (rdL_bytes (rowsS_bytes hs n) 8) (by decide))
    rw [rowsB_succ, r1, r2, List.append_assoc, List.append_assoc]
    show s.1 = rowsB (rowsP s) n ++ (be 8 _ ++ (be 8 _ ++ rdL (rdL (rowsS s n).1 8) 8))
    rw [← e1, ← e2, ← ih]
theorem pl_dec {u : Nat} {s : List Int × Bool} (hs : bytesB s.1) (P : Nat → Nat → Nat → Bool) (hP : P = plP u s 4) (hu : ∀ k, k < 4 → u.testBit k = usedF P k) : ∀ {k : Nat}, k ≤ 4 → (plS u s k).2 = false → s.2 = false ∧ s.1 = bodyB P k ++ (plS u s k).1
  | 0, _, h => ⟨h, rfl⟩
  | k + 1, hk, h => by
    cases hb : u.testBit k with
    | false =>
      rw [plS_no hb] at h ⊢
      rw [bodyB_no (by rw [← hu k (by omega), hb])]
      exact pl_dec hs P hP hu (by omega) h
    | true =>
      rw [plS_yes hb] at h ⊢
      have h2 := rowsS_mono _ h
      obtain ⟨h3, ih⟩ := pl_dec hs P hP hu (k := k) (by omega) h2
      refine ⟨h3, ?_⟩
      rw [bodyB_yes (by rw [← hu k (by omega), hb]), List.append_assoc]
      have e := rows_dec (plS_bytes hs k) h
      have e2 : rowsB (P k) 64 = rowsB (rowsP (plS u s k)) 64 := by
        refine rowsQ_congr fun y hy x hx => ?_
        rw [hP]
        unfold plP
        rw [if_pos ⟨by omega, hb⟩]
        unfold partQ
        rw [if_pos hy]
      rw [e2, ← e]
      exact ih
theorem be_one {n : Nat} (h : n < 256) : be 1 n = [((n : Nat) : Int)] := by
  rw [be_succ, Nat.mod_eq_of_lt h]; rfl
theorem rdL_yes {l : List Int} {n : Nat} (h : n ≤ l.length) : rdL l n = l.drop n := by unfold rdL; rw [if_pos h]
attribute [local irreducible] rdL rdB rdV beN rowsS rowsP usedF plS plP bodyB num be
theorem dec_cycle (l : List Int) : (decRec l).cycle = IntKind.i64.wrap ((dV l 6 : Nat) : Int) := rfl
/-- the parts of a record's bytes -/
theorem enc_parts (r : Rec) (rest : List Int) : encB r ++ rest = [((flagN r.hires r.sound : Nat) : Int)] ++ ([r.pitch] ++ (r.pat ++ ([IntKind.u8.wrap r.kind] ++ ([IntKind.u8.wrap r.cause] ++ (be 2 r.pc.toNat ++ (be 8 r.cycle.toNat ++ ([((num (usedF r.P) 4 : Nat) : Int)] ++ (bodyB r.P 4 ++ rest)))))))) := by
  unfold encB headB flagN
  simp only [List.append_assoc, List.cons_append, List.nil_append]
theorem dL_s (l : List Int) (k : Nat) : dL l (k + 1) = rdL (dL l k) (dsz k) := rfl
theorem dB_s (l : List Int) (k : Nat) : dB l (k + 1) = rdB (dL l k) (dsz k) (dB l k) := rfl
theorem d_step {l a b : List Int} {k : Nat} (h : dL l k = a ++ b) (hb : dB l k = false) (ha : a.length = dsz k) : dL l (k + 1) = b ∧ dB l (k + 1) = false ∧ dV l k = beN a := by
  rw [dL_s, dB_s, h, hb, rdL_app ha, rdB_app ha]
  refine ⟨rfl, rfl, ?_⟩
  unfold dV
  rw [h, rdV_app ha]
theorem num4_lt (f : Nat → Bool) : num f 4 < 16 := num_lt f 4
theorem dec_enc {r : Rec} (ok : okR r) (hv : validR r = true) (rest : List Int) : decOK (encB r ++ rest) = true ∧ decS (encB r ++ rest) = (rest, false) ∧ recL (decRec (encB r ++ rest)) = recL r ∧ encB (decRec (encB r ++ rest)) = encB r := by
  obtain ⟨hp, hpb, hpi⟩ := ok
  obtain ⟨⟨hpc0, hpc1⟩, ⟨hcy0, hcy1⟩⟩ := valid_get hv
  obtain ⟨⟨hk0, hk1⟩, ⟨hc0, hc1⟩⟩ := status_rng hv
  have e := enc_parts r rest
  generalize encB r ++ rest = l at *
  obtain ⟨l1, b1, v0⟩ := d_step (k := 0) (show dL l 0 = _ from e) rfl rfl
  obtain ⟨l2, b2, v1⟩ := d_step (k := 1) l1 b1 rfl
  have h16 : 16 ≤ (dL l 2).length := by rw [l2, List.length_append, hp]; omega
  have hpat : dPat l = r.pat := by rw [dPat_yes h16, l2, ← hp, List.take_left]
  obtain ⟨l3, b3, v2⟩ := d_step (k := 2) l2 b2 hp
  obtain ⟨l4, b4, v3⟩ := d_step (k := 3) l3 b3 rfl
  obtain ⟨l5, b5, v4⟩ := d_step (k := 4) l4 b4 rfl
  obtain ⟨l6, b6, v5⟩ := d_step (k := 5) l5 b5 (be_len 2 _)
  obtain ⟨l7, b7, v6⟩ := d_step (k := 6) l6 b6 (be_len 8 _)
  obtain ⟨l8, b8, v7⟩ := d_step (k := 7) l7 b7 rfl
  rw [beN_one (by omega), Int.toNat_natCast] at v0
  rw [beN_one (by omega)] at v1
  rw [wrap_small (by omega), beN_one (by omega)] at v3 v4
  rw [beN_be 2 _ (by omega)] at v5
  rw [beN_be 8 _ (by omega)] at v6
  rw [beN_one (by omega), Int.toNat_natCast] at v7
  have hu := num4_lt (usedF r.P)
  have v7m : dV l 7 % 256 = num (usedF r.P) 4 := by rw [v7]; omega
  have eP : (decRec l).P = plP (num (usedF r.P) 4) (bodyB r.P 4 ++ rest, false) 4 := by
    show plP (dV l 7 % 256) (dL l 8, dB l 8) 4 = _
    rw [v7m, l8, b8]
  have hPE : PEq (decRec l).P r.P := by rw [eP]; exact plP_enc r.P false rest
  have hS : decS l = (rest, false) := by
    rw [decS_def, v7m, l8, b8]
    exact plS_enc r.P false 4 rest (by omega)
  have eh : (decRec l).hires = r.hires := by
    show fBit l 1 = _
    unfold fBit
    rw [v0]; exact flagN_one _ _
  have es : (decRec l).sound = r.sound := by
    show fBit l 2 = _
    unfold fBit
    rw [v0]; exact flagN_two _ _
  have epi : (decRec l).pitch = r.pitch := by
    show ((dV l 1 % 256 : Nat) : Int) = _
    rw [v1]; omega
  have epa : (decRec l).pat = r.pat := hpat
  have ek : (decRec l).kind = r.kind := by
    show ((dV l 3 : Nat) : Int) = _
    rw [v3]; omega
  have ec : (decRec l).cause = r.cause := by
    show ((dV l 4 : Nat) : Int) = _
    rw [v4]; omega
  have epc : (decRec l).pc = r.pc := by
    show ((dV l 5 : Nat) : Int) = _
    rw [v5]; omega
  have ecy : (decRec l).cycle = r.cycle := by
    rw [dec_cycle, v6, wrap64 (by omega), Int.toNat_of_nonneg hcy0]
  have hval : validR (decRec l) = true := by
    rw [← hv]
    unfold validR
    rw [eh, ek, ec, epc, ecy, fitsK_congr hPE r.hires (Nat.le_refl 4)]
  have hused : num (usedF (decRec l).P) 4 = num (usedF r.P) 4 := num_congr fun i hi => usedF_congr hPE hi
  refine ⟨?_, hS, ?_, ?_⟩
  · unfold decOK
    rw [decS_def] at hS
    rw [hS, hval, decide_eq_true (show dV l 0 ≤ 3 by rw [v0]; exact flagN_le _ _), decide_eq_true (show dV l 6 ≤ 4611686018427387904 by rw [v6]; omega), decide_eq_true (show num (usedF (decRec l).P) 4 = dV l 7 % 256 by rw [hused, v7m])]
    rfl
  · unfold recL tailL
    rw [planesL_congr hPE, eh, es, epi, epa, ek, ec, epc, ecy]
  · unfold encB headB
    rw [eh, es, epi, epa, ek, ec, epc, ecy, bodyB_congr hPE (Nat.le_refl 4), hused]

theorem d_back {l : List Int} (hl : bytesB l) {k : Nat} (h : dB l (k + 1) = false) : dB l k = false ∧ dL l k = be (dsz k) (dV l k) ++ dL l (k + 1) ∧ dsz k ≤ (dL l k).length := rd_split (dL_bytes hl k) h
theorem enc_dec {l : List Int} (hl : bytesB l) (h : decOK l = true) : l = encB (decRec l) ++ (decS l).1 ∧ validR (decRec l) = true := by
  have hbad := decOK_bad h
  unfold decOK at h
  simp only [Bool.and_eq_true] at h
  obtain ⟨⟨⟨⟨_, f1⟩, f2⟩, f3⟩, hv⟩ := h
  have f1 := of_decide_eq_true f1
  have f2 := of_decide_eq_true f2
  have f3 := of_decide_eq_true f3
  refine ⟨?_, hv⟩
  rw [decS_def] at hbad ⊢
  have hu : ∀ k, k < 4 → (dV l 7 % 256).testBit k = usedF (decRec l).P k := fun k hk => by rw [← f3, used_test _ hk]
  obtain ⟨b8, e8⟩ := pl_dec (u := dV l 7 % 256) (s := (dL l 8, dB l 8)) (dL_bytes hl 8) (decRec l).P rfl hu (Nat.le_refl 4) hbad
  obtain ⟨b7, e7, _⟩ := d_back hl (k := 7) b8
  obtain ⟨b6, e6, _⟩ := d_back hl (k := 6) b7
  obtain ⟨b5, e5, _⟩ := d_back hl (k := 5) b6
  obtain ⟨b4, e4, _⟩ := d_back hl (k := 4) b5
  obtain ⟨b3, e3, _⟩ := d_back hl (k := 3) b4
  obtain ⟨b2, e2, g2⟩ := d_back hl (k := 2) b3
  obtain ⟨b1, e1, _⟩ := d_back hl (k := 1) b2
  obtain ⟨b0, e0, _⟩ := d_back hl (k := 0) b1
  have e2 : dL l 2 = dPat l ++ dL l 3 := by
    have g : 16 ≤ (dL l 2).length := g2
    rw [dPat_yes g, dL_s l 2, rdL_yes g2]
    exact (List.take_append_drop 16 _).symm
  have v0 := dV_byte hl 0 rfl
  have v1 := dV_byte hl 1 rfl
  have v3 := dV_byte hl 3 rfl
  have v4 := dV_byte hl 4 rfl
  have v7 := dV_byte hl 7 rfl
  have ef : flagN (decRec l).hires (decRec l).sound = dV l 0 := flagN_of _ (by omega)
  rw [enc_parts, ef]
  rw [show (decRec l).pitch = ((dV l 1 : Nat) : Int) by show ((dV l 1 % 256 : Nat) : Int) = _; rw [Nat.mod_eq_of_lt v1]]
  rw [show (decRec l).pat = dPat l from rfl]
  rw [show (decRec l).kind = ((dV l 3 : Nat) : Int) from rfl, show (decRec l).cause = ((dV l 4 : Nat) : Int) from rfl, show (decRec l).pc = ((dV l 5 : Nat) : Int) from rfl]
  rw [show (decRec l).cycle = ((dV l 6 : Nat) : Int) by rw [dec_cycle, wrap64 f2]]
  rw [f3, Nat.mod_eq_of_lt v7]
  rw [Nat.mod_eq_of_lt v7] at e8
  rw [wrap_small (by omega), wrap_small (by omega), Int.toNat_natCast, Int.toNat_natCast]
  rw [← be_one v0, ← be_one v1, ← be_one v3, ← be_one v4, ← be_one v7]
  rw [← show dL l 8 = bodyB (decRec l).P 4 ++ (plS (dV l 7) (dL l 8, dB l 8) 4).1 from e8]
  rw [← show dL l 7 = be 1 (dV l 7) ++ dL l 8 from e7, ← show dL l 6 = be 8 (dV l 6) ++ dL l 7 from e6, ← show dL l 5 = be 2 (dV l 5) ++ dL l 6 from e5, ← show dL l 4 = be 1 (dV l 4) ++ dL l 5 from e4, ← show dL l 3 = be 1 (dV l 3) ++ dL l 4 from e3, ← e2, ← show dL l 1 = be 1 (dV l 1) ++ dL l 2 from e1]
  exact e0

theorem dec_ok {l : List Int} (hl : bytesB l) : okR (decRec l) := by
  refine ⟨decRec_len _, ?_, ?_⟩
  · show bytesB (dPat l)
    unfold dPat
    split
    · exact fun z hz => dL_bytes hl 2 z (List.mem_of_mem_take hz)
    · intro z hz
      rw [(List.mem_replicate.1 hz).2]; decide
  · show 0 ≤ ((dV l 1 % 256 : Nat) : Int) ∧ ((dV l 1 % 256 : Nat) : Int) ≤ 255
    omega
end
section
open Go Go.RowKit
set_option linter.unusedVariables false
set_option linter.unusedSimpArgs false
set_option maxHeartbeats 2000000
set_option maxRecDepth 4000
attribute [local irreducible] rdL rdB rdV beN rowsS rowsP usedF plS plP num be encB decRec decOK decS dL dB dV validR

/-! the whole -/
def magicL : List Int := [67, 56, 82, 49]
theorem byte_is {z k : Int} (h : 0 ≤ z ∧ z ≤ 255) (hk : 0 ≤ k ∧ k ≤ 255) : UInt8.ofNat z.toNat = UInt8.ofNat k.toNat ↔ z = k := by
  constructor
  · intro e
    have e2 := congrArg UInt8.toNat e
    rw [UInt8.toNat_ofNat', UInt8.toNat_ofNat'] at e2
    omega
  · intro e; rw [e]
theorem strOf_list : ∀ (l : List Int) (b : ByteArray), (l.foldl (fun r z => r.push (UInt8.ofNat z.toNat)) b).data.toList = b.data.toList ++ l.map fun z => UInt8.ofNat z.toNat
  | [], b => by simp
  | z :: l, b => by
    rw [List.foldl_cons, strOf_list l]
    show (b.data.push _).toList ++ _ = _
    simp
theorem magicB_iff {l : List Int} (hl : bytesB l) (h4 : 4 ≤ l.length) : magicB l = true ↔ l.take 4 = magicL := by
  unfold magicB
  rw [beq_iff_eq, ByteArray.toList_eq, ByteArray.toList_eq]
  unfold strOf
  rw [strOf_list]
  have hb : bytesB (l.take 4) := fun z hz => hl z (List.mem_of_mem_take hz)
  have hlen : (l.take 4).length = 4 := by rw [List.length_take]; omega
  generalize l.take 4 = t at *
  match t, hlen with
  | [a, b, c, d], _ =>
    have ha := hb a (by simp)
    have hb' := hb b (by simp)
    have hc := hb c (by simp)
    have hd := hb d (by simp)
    show [UInt8.ofNat a.toNat, UInt8.ofNat b.toNat, UInt8.ofNat c.toNat, UInt8.ofNat d.toNat] = [UInt8.ofNat (67 : Int).toNat, UInt8.ofNat (56 : Int).toNat, UInt8.ofNat (82 : Int).toNat, UInt8.ofNat (49 : Int).toNat] ↔ [a, b, c, d] = [67, 56, 82, 49]
    simp only [List.cons.injEq, and_true]
    rw [byte_is ha (by decide), byte_is hb' (by decide), byte_is hc (by decide), byte_is hd (by decide)]
def topB (l : List Rec) : List Int := magicL ++ (be 4 l.length ++ l.flatMap encB)
theorem top_state {rs : List Rec} (rest : List Int) (ok : ∀ r ∈ rs, okR r) (hv : ∀ r ∈ rs, validR r = true) : ∀ {k : Nat}, k ≤ rs.length → dSt (topB rs ++ rest) k = ((rs.drop k).flatMap encB ++ rest, false)
  | 0, _ => by
    show (rdL (rdL (topB rs ++ rest) 4) 4, rdB (rdL (topB rs ++ rest) 4) 4 (rdB (topB rs ++ rest) 4 false)) = _
    unfold topB
    rw [List.append_assoc, List.append_assoc, rdL_app (a := magicL) (s := 4) rfl, rdB_app (a := magicL) (s := 4) rfl, rdL_app (be_len 4 _), rdB_app (be_len 4 _), List.drop_zero]
  | k + 1, hk => by
    rw [dSt_fst, top_state rest ok hv (k := k) (by omega)]
    have hlt : k < rs.length := by omega
    rw [List.drop_eq_getElem_cons hlt, List.flatMap_cons, List.append_assoc]
    exact (dec_enc (ok _ (List.getElem_mem hlt)) (hv _ (List.getElem_mem hlt)) _).2.1
theorem top_rec {rs : List Rec} (rest : List Int) (ok : ∀ r ∈ rs, okR r) (hv : ∀ r ∈ rs, validR r = true) {k : Nat} (hk : k < rs.length) : decOK (dSt (topB rs ++ rest) k).1 = true ∧ recL (decRec (dSt (topB rs ++ rest) k).1) = recL rs[k] ∧ encB (decRec (dSt (topB rs ++ rest) k).1) = encB rs[k] := by
  rw [top_state rest ok hv (by omega), List.drop_eq_getElem_cons hk, List.flatMap_cons]
  show decOK ((encB rs[k] ++ _) ++ rest) = true ∧ recL (decRec ((encB rs[k] ++ _) ++ rest)) = _ ∧ encB (decRec ((encB rs[k] ++ _) ++ rest)) = _
  rw [List.append_assoc]
  have h := dec_enc (ok _ (List.getElem_mem hk)) (hv _ (List.getElem_mem hk)) ((rs.drop (k + 1)).flatMap encB ++ rest)
  exact ⟨h.1, h.2.2⟩
theorem top_num {rs : List Rec} (rest : List Int) (h : rs.length ≤ 1048576) : topN (topB rs ++ rest) = rs.length := by
  unfold topN topB
  rw [List.append_assoc, List.append_assoc, rdL_app (a := magicL) (s := 4) rfl, rdV_app (be_len 4 _), beN_be 4 _ (by omega)]
theorem top_len (rs : List Rec) : (topB rs).length = 8 + (rs.flatMap encB).length := by
  unfold topB
  rw [List.length_append, List.length_append, be_len]
  show 4 + _ = _
  omega
theorem encB_bytes {r : Rec} (ok : okR r) : bytesB (encB r) := by
  have hw : ∀ z : Int, 0 ≤ IntKind.u8.wrap z ∧ IntKind.u8.wrap z ≤ 255 := fun z => by
    have h : IntKind.u8.wrap z = z % 256 := by
      unfold IntKind.wrap
      simp [IntKind.signed, IntKind.bits]
    rw [h]; omega
  have one : ∀ {z : Int}, 0 ≤ z ∧ z ≤ 255 → bytesB [z] := fun h y hy => by
    have e : y = _ := List.mem_singleton.1 hy
    rw [e]; exact h
  have hrows : ∀ (p : Nat → Nat → Bool) (y : Nat), bytesB (rowsB p y) := fun p y => by
    induction y with
    | zero => exact fun z hz => by cases hz
    | succ y ih => rw [rowsB_succ]; exact bytes_app (bytes_app ih (be_bytes _ _)) (be_bytes _ _)
  have hbody : ∀ k, bytesB (bodyB r.P k) := fun k => by
    induction k with
    | zero => exact fun z hz => by cases hz
    | succ k ih =>
      unfold bodyB
      split
      · exact bytes_app ih (hrows _ _)
      · exact bytes_app ih (fun z hz => by cases hz)
  have h := enc_parts r []
  rw [List.append_nil, List.append_nil] at h
  rw [h]
  have hf := flagN_le r.hires r.sound
  have hu := num4_lt (usedF r.P)
  exact bytes_app (one (by omega)) (bytes_app (one ok.2.2) (bytes_app ok.2.1 (bytes_app (one (hw _)) (bytes_app (one (hw _)) (bytes_app (be_bytes _ _) (bytes_app (be_bytes _ _) (bytes_app (one (by omega)) (hbody 4))))))))
theorem top_bytes {rs : List Rec} (ok : ∀ r ∈ rs, okR r) : bytesB (topB rs) := by
  unfold topB
  refine bytes_app (by unfold bytesB magicL; decide) (bytes_app (be_bytes _ _) fun z hz => ?_)
  obtain ⟨r, hr, hz⟩ := List.mem_flatMap.1 hz
  exact encB_bytes (ok r hr) z hz
theorem top_dec {rs : List Rec} {rest : List Int} (ok : ∀ r ∈ rs, okR r) (hv : ∀ r ∈ rs, validR r = true) (hn : rs.length ≤ 1048576) (hb : bytesB rest) : topOK (topB rs ++ rest) = decide (rest.length = 0) := by
  have h4 : 4 ≤ (topB rs ++ rest).length := by rw [List.length_append, top_len]; omega
  have hm : magicB (topB rs ++ rest) = true := by
    rw [magicB_iff (bytes_app (top_bytes ok) hb) h4]
    unfold topB
    rw [List.append_assoc]
    exact List.take_left (l₁ := magicL)
  rw [top_end h4 hm (top_num rest hn).symm (fun j hj => (top_rec rest ok hv hj).1), top_state rest ok hv (Nat.le_refl _), List.drop_length, decide_eq_true hn]
  simp
theorem recsL_ext {a b : List Rec} (h : a.length = b.length) (he : ∀ (k : Nat) (ha : k < a.length) (hb : k < b.length), recL a[k] = recL b[k]) : recsL a = recsL b := by
  have e : a.map recL = b.map recL := List.ext_getElem (by simpa using h) fun k h1 h2 => by
    rw [List.getElem_map, List.getElem_map]
    exact he k (by simpa using h1) (by simpa using h2)
  unfold recsL
  rw [List.flatMap_def, List.flatMap_def, e]
theorem top_recs {rs : List Rec} (ok : ∀ r ∈ rs, okR r) (hv : ∀ r ∈ rs, validR r = true) (hn : rs.length ≤ 1048576) : topN (topB rs) = rs.length ∧ recsL (tR (topB rs) (topN (topB rs))) = recsL rs := by
  have h := top_num (rs := rs) [] hn
  rw [List.append_nil] at h
  refine ⟨h, ?_⟩
  rw [h]
  refine recsL_ext (tR_len _ _) fun k ha hb => ?_
  have h2 := (top_rec [] ok hv hb).2.1
  rw [List.append_nil] at h2
  rw [← h2]
  have e : (tR (topB rs) rs.length)[k] = decRec (dSt (topB rs) k).1 := by
    show ((List.range rs.length).map fun j => decRec (dSt (topB rs) j).1)[k]'(by rw [List.length_map, List.length_range]; exact hb) = _
    rw [List.getElem_map, List.getElem_range]
  rw [e]
theorem topOK_parts {l : List Int} (h : topOK l = true) : 4 ≤ l.length ∧ magicB l = true ∧ (∀ j, j < topN l → decOK (dSt l j).1 = true) ∧ (dSt l (topN l)).2 = false ∧ (dSt l (topN l)).1.length = 0 ∧ topN l ≤ 1048576 := by
  unfold topOK at h
  simp only [Bool.and_eq_true] at h
  obtain ⟨h1, h2, h3, h4, h5, h6⟩ := h
  exact ⟨of_decide_eq_true h1, h2, fun j hj => List.all_eq_true.1 h3 j (List.mem_range.2 hj), by simpa using h4, of_decide_eq_true h5, of_decide_eq_true h6⟩
theorem tR_ok {l : List Int} (hl : bytesB l) (k : Nat) : ∀ r ∈ tR l k, okR r := fun r hr => by
  obtain ⟨j, _, rfl⟩ := List.mem_map.1 hr
  exact dec_ok (dSt_bytes hl j)
theorem tR_valid {l : List Int} (hl : bytesB l) (h : topOK l = true) : ∀ r ∈ tR l (topN l), validR r = true := fun r hr => by
  obtain ⟨j, hj, rfl⟩ := List.mem_map.1 hr
  exact (enc_dec (dSt_bytes hl j) ((topOK_parts h).2.2.1 j (List.mem_range.1 hj))).2
/-- bytes that are decoded are the encoding of the result -/
theorem top_back {l : List Int} (hl : bytesB l) (h : topOK l = true) : l = topB (tR l (topN l)) := by
  obtain ⟨h4, hm, hj, hbad, hz, hn⟩ := topOK_parts h
  have hrec : ∀ k, k ≤ topN l → (dSt l 0).1 = (tR l k).flatMap encB ++ (dSt l k).1 := fun k => by
    induction k with
    | zero => intro _; rfl
    | succ k ih =>
      intro hk
      rw [tR_succ, List.flatMap_append, List.append_assoc, ih (by omega)]
      congr 1
      rw [List.flatMap_cons, List.flatMap_nil, List.append_nil]
      exact (enc_dec (dSt_bytes hl k) (hj k (by omega))).1
  have e0 := hrec _ (Nat.le_refl _)
  rw [List.eq_nil_of_length_eq_zero hz, List.append_nil] at e0
  have hb0 : (dSt l 0).2 = false := by
    rcases Nat.eq_zero_or_pos (topN l) with h0 | h0
    · rw [h0] at hbad; exact hbad
    · exact dSt_bad h4 h0 (fun j hj => by omega)
  have hb0 : rdB (rdL l 4) 4 (rdB l 4 false) = false := hb0
  obtain ⟨_, e1, _⟩ := rd_split (rdL_bytes hl 4) hb0
  have e1 : rdL l 4 = be 4 (topN l) ++ (dSt l 0).1 := e1
  unfold topB
  rw [tR_len, ← e0, ← e1, ← (magicB_iff hl h4).1 hm]
  unfold rdL
  rw [if_pos h4]
  exact (List.take_append_drop 4 l).symm
/-- a byte less, and they are not decoded -/
theorem top_less {rs : List Rec} (ok : ∀ r ∈ rs, okR r) (hv : ∀ r ∈ rs, validR r = true) (hn : rs.length ≤ 1048576) {k : Nat} (hk : k < (topB rs).length) : topOK ((topB rs).take k) = false := by
  cases h : topOK ((topB rs).take k) with
  | false => rfl
  | true =>
    have hb : bytesB ((topB rs).take k) := fun z hz => top_bytes ok z (List.mem_of_mem_take hz)
    have hb2 : bytesB ((topB rs).drop k) := fun z hz => top_bytes ok z (List.mem_of_mem_drop hz)
    have e := top_back hb h
    have h2 := top_dec (rest := (topB rs).drop k) (tR_ok hb (topN ((topB rs).take k))) (tR_valid hb h) (by rw [tR_len]; exact (topOK_parts h).2.2.2.2.2) hb2
    rw [← e, List.take_append_drop] at h2
    have h3 := top_dec (rest := []) ok hv hn (fun z hz => by cases hz)
    rw [List.append_nil, h2, decide_eq_decide] at h3
    have h4 := h3.2 rfl
    rw [List.length_drop] at h4
    omega
end
end Go.Proofs.Ytgicjkjppnkodaa
