/-
  Planes of pixels (chapter 07): counts. No walk.
-/
import Derived.Test.YtahanpobeekhiaaAw07
import Derived.Test.YtahanpobeekhiaaMatch06
import Derived.Test.YtahanpobeekhiaaXors06
namespace Go.Proofs.Ytahanpobeekhiaa
open Go Go.RowKit
set_option linter.unusedVariables false
set_option linter.unusedSimpArgs false
set_option maxHeartbeats 2000000

theorem cnt_add (f : Nat → Bool) (a : Nat) : ∀ b, cnt f (a + b) = cnt f a + cnt (fun i => f (a + i)) b
  | 0 => rfl
  | b + 1 => by rw [← Nat.add_assoc]; simp only [cnt]; rw [cnt_add f a b]; omega
theorem cnt_congr {f g : Nat → Bool} : ∀ {m : Nat}, (∀ x, x < m → f x = g x) → cnt f m = cnt g m
  | 0, _ => rfl
  | m + 1, h => by simp only [cnt]; rw [h m (by omega), cnt_congr fun x hx => h x (by omega)]
theorem cntR_flat (P : Nat → Nat → Bool) : ∀ m, cntR P m = cnt (flatP P) (128 * m)
  | 0 => rfl
  | m + 1 => by
    rw [Nat.mul_succ, cnt_add]
    simp only [cntR]
    rw [cntR_flat P m]
    have e : cnt (P m) 128 = cnt (fun i => flatP P (128 * m + i)) 128 := cnt_congr fun x hx => by
      show P m x = P ((128 * m + x) / 128) ((128 * m + x) % 128)
      rw [show (128 * m + x) / 128 = m by omega, show (128 * m + x) % 128 = x by omega]
    rw [e]
theorem cnt_pos {f : Nat → Bool} : ∀ {m : Nat}, 0 < cnt f m ↔ ∃ x, x < m ∧ f x = true
  | 0 => ⟨fun h => (by cases h), fun ⟨_, h, _⟩ => (by omega)⟩
  | m + 1 => by
    simp only [cnt]
    constructor
    · intro h
      cases hf : f m with
      | true => exact ⟨m, by omega, hf⟩
      | false =>
        rw [hf] at h
        obtain ⟨x, hx, h2⟩ := cnt_pos.1 (show 0 < cnt f m from h)
        exact ⟨x, by omega, h2⟩
    · rintro ⟨x, hx, h2⟩
      by_cases e : x = m
      · subst e; rw [h2]; simp
      · have := cnt_pos.2 ⟨x, (show x < m by omega), h2⟩
        omega
def bothN (P Q : Nat → Nat → Bool) (i : Nat) : Bool := flatP P i && flatP Q i
theorem hitN_eq (P Q : Nat → Nat → Bool) : ∀ m, hitN P Q m = decide (0 < cnt (bothN P Q) m)
  | 0 => rfl
  | m + 1 => by
    simp only [hitN, cnt]
    rw [hitN_eq P Q m]
    have e : (flatP P m && flatP Q m) = bothN P Q m := rfl
    rw [e]
    have h2 : ∀ (n : Nat) (v : Bool), (decide (0 < n) || v) = decide (0 < n + v.toNat) := fun n v => by cases v <;> simp
    exact h2 _ _
theorem hitK_iff (P Q : Nat → Nat → Bool) : ∀ m, hitK P Q m = true ↔ ∃ y, y < m ∧ ∃ x, x < 128 ∧ P y x = true ∧ Q y x = true
  | 0 => ⟨fun h => (by cases h), fun ⟨_, h, _⟩ => (by omega)⟩
  | m + 1 => by
    simp only [hitK, Bool.or_eq_true]
    rw [hitK_iff P Q m]
    constructor
    · rintro (⟨y, hy, h⟩ | h)
      · exact ⟨y, by omega, h⟩
      · have h2 : ¬ eqB (fun x => P m x && Q m x) noneP = true := by simpa using h
        rw [eqB_iff] at h2
        refine ⟨m, by omega, ?_⟩
        apply Classical.byContradiction
        intro h3
        refine h2 fun x hx => ?_
        cases hp : P m x <;> cases hq : Q m x <;> simp [noneP]
        exact h3 ⟨x, hx, hp, hq⟩
    · rintro ⟨y, hy, x, hx, hp, hq⟩
      by_cases e : y = m
      · subst e
        right
        have h2 : eqB (fun x => P y x && Q y x) noneP = false := Bool.eq_false_iff.2 fun h => by
          have := (eqB_iff _ _).1 h x hx
          simp [hp, hq, noneP] at this
        rw [h2]; rfl
      · exact .inl ⟨y, by omega, x, hx, hp, hq⟩
theorem hitK_eq (P Q : Nat → Nat → Bool) : hitK P Q 64 = decide (0 < cnt (bothN P Q) 8192) := by
  rw [Bool.eq_iff_iff, hitK_iff, decide_eq_true_eq, cnt_pos]
  constructor
  · rintro ⟨y, hy, x, hx, hp, hq⟩
    refine ⟨128 * y + x, by omega, ?_⟩
    unfold bothN flatP
    rw [show (128 * y + x) / 128 = y by omega, show (128 * y + x) % 128 = x by omega, hp, hq]; rfl
  · rintro ⟨i, hi, h⟩
    unfold bothN flatP at h
    rw [Bool.and_eq_true] at h
    exact ⟨i / 128, by omega, i % 128, by omega, h.1, h.2⟩
theorem cntR_xor (P Q : Nat → Nat → Bool) : cntR (xorQ P Q) 64 + 2 * cnt (bothN P Q) 8192 = cntR P 64 + cntR Q 64 := by
  rw [cntR_flat, cntR_flat, cntR_flat]
  exact cnt_xor (flatP P) (flatP Q) 8192
theorem cntR_zero {P : Nat → Nat → Bool} (h : ∀ y, y < 64 → ∀ x, x < 128 → P y x = false) : cntR P 64 = 0 := by
  rw [cntR_flat]
  exact cnt_off fun i hi => h (i / 128) (by omega) (i % 128) (by omega)

end Go.Proofs.Ytahanpobeekhiaa
