/-
  A pixel of a plane by its number.
-/
import Derived.Test.YtahanpobeekhiaaAw07
namespace Go.Proofs.Ytahanpobeekhiaa
open Go Go.RowKit
set_option linter.unusedVariables false
set_option linter.unusedSimpArgs false
set_option maxHeartbeats 2000000
attribute [local irreducible] mix

theorem pixQ_nat (P : Nat → Nat → Bool) {k i : Nat} (hk : k < 128) (hi : i < 64) : pixQ P (k : Int) (i : Int) = flatP P (128 * i + k) := by
  unfold pixQ flatP
  rw [decide_eq_true (show (0 : Int) ≤ (i : Int) by omega), decide_eq_true (show (i : Int) < 64 by omega), getB_nat _ hk, show (128 * i + k) / 128 = i by omega, show (128 * i + k) % 128 = k by omega]
  rfl

end Go.Proofs.Ytahanpobeekhiaa
