/-
  More rules of the judgement: rounds that are counted by a number; further operations.
-/
import Derived.Test.YtapknkmlgmckkaaSlice
import Derived.Test.YtapknkmlgmckkaaEq
namespace Go.Proofs.Ytapknkmlgmckkaa
open Go Go.RowKit
set_option linter.unusedVariables false
section
variable {P : Program} {n : Nat} {w0 : World} {S : List Nat} {E : List (Nat × Value)} {H : List Res} {Q : Exit → Act → World → Prop}
theorem r_loopN (E' : Nat → List (Nat × Value)) (H' : Nat → List Res) (p : Nat → Prop) (N k0 : Nat) {c : Code} (hp : p k0) (he : lkAll E (E' k0)) (hh : ∀ w, Sat w0 S H w → Sat w0 S (H' k0) w)
    (round : ∀ k, p k → Run n w0 S (E' k) (H' k) (c.wp P (Exit.then (fun a w => ∃ j, p j ∧ N - j < N - k ∧ Holds n (E' j) a ∧ Sat w0 S (H' j) w) Q))) :
    Run n w0 S E H ((Code.loop c).wp P Q) := by
  refine r_loop (ι := { k : Nat // p k }) (fun i => (E' i.1, H' i.1)) (fun i => N - i.1) ⟨k0, hp⟩ he hh fun i => ?_
  intro a w ha hw
  refine Code.wp_mono (fun e a' w' q => ?_) (round i.1 i.2 a w ha hw)
  cases e <;> first | exact q | skip
  obtain ⟨j, hj, hlt, haj, hwj⟩ := q
  exact ⟨⟨j, hj⟩, hlt, haj, hwj⟩
theorem r_againN {E' : Nat → List (Nat × Value)} {H' : Nat → List Res} {p : Nat → Prop} {N k : Nat} (j : Nat) (hp : p j) (hlt : N - j < N - k) (he : lkAll E (E' j)) (hh : ∀ w, Sat w0 S H w → Sat w0 S (H' j) w) :
    Run n w0 S E H (fun a w => ∃ j, p j ∧ N - j < N - k ∧ Holds n (E' j) a ∧ Sat w0 S (H' j) w) :=
  fun _ w ha hw => ⟨j, hp, hlt, ha.weak (lkAll_mem he), hh w hw⟩
end
end Go.Proofs.Ytapknkmlgmckkaa
