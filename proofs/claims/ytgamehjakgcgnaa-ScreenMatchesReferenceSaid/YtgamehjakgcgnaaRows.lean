/-
  No cell of these rows narrows 'for every input' (looked for: loops, veiled, ifaces, maps, wideKeys, modest, calm, conditions, laid).
  DERIVED. THE GIVEN ROWS OF THIS SEAT. 5 by the template 'for every input the law returns true; each argument reads behind the call as it read before'; 0 by the template 'total and deterministic' (their statements: YtgamehjakgcgnaaTotals.lean).
  GIVEN WITH THE SEED: the statements are not yours to turn. If you find one false, say at which input.
  Laid BY PROGRAM, IN A SANDBOX (cutbox-rows.mjs): the forced cells as the released guide's own fill.sh prints them over the translation 25efba590ed46633… (all of the seat's roots in one cut). By AI agents, Wed Nov 11 2026. No macro, syntax, notation, axiom, sorry.
-/
import Derived.Test.YtgamehjakgcgnaaChecked
import GoSem.Claim
import GoSem.ClaimJoined
import GoSem.ClaimMapViews
import Derived.JoinedTies
import Derived.KernelRfl
namespace Go.Proofs.Ytgamehjakgcgnaa
/- THE CELL 'sum', in the pinned program and in every row, IS THE sha256 OF THE DUMP (.gsa) THAT YtgamehjakgcgnaaProg.lean LOADS. Nothing in Lean hashes anything: it is a label: what it is worth is what the hold of that sum in a sandbox is worth. -/
noncomputable def Try.pinned : Pinned := { name := "ytgamehjakgcgnaa", sum := "25efba590ed46633bf19948d9d6076cb5b3b411433dfe651a3bd01b0e0ca628b", checked := Try.checked }
namespace Rows
def none {H : Type} : Left H := { results := [], args := [] }

/-- 'cosmaclaw08.ScreenMatchesReference': WHATEVER THE INPUT: true; the input reads as it did. -/
def screenMatchesReferenceSpec : ChangeSpec := { name := "screenMatchesReference", fn := fun _ => fun
  | [d] => { results := [.lit (.bool true)], args := [d] }
  | _ => none }
def screenMatchesReferenceRow : OpenClaim := { program := "ytgamehjakgcgnaa", sum := "25efba590ed46633bf19948d9d6076cb5b3b411433dfe651a3bd01b0e0ca628b", func := "cosmac/cosmaclaw08.ScreenMatchesReference", spec := "screenMatchesReference", unfollowed := true, recurses := true, apart := false }
def ScreenMatchesReferenceSaid : Prop := screenMatchesReferenceRow.holds Try.pinned (OpenSpec.ofChange screenMatchesReferenceSpec)

/-- ITS FALSE NEIGHBOUR: 'it returns false'. Refute it at one input. -/
def screenMatchesReferenceWrong : ChangeSpec := { name := "screenMatchesReference", fn := fun _ => fun
  | [d] => { results := [.lit (.bool false)], args := [d] }
  | _ => none }
def ScreenMatchesReferenceWrongFalsely : Prop := screenMatchesReferenceRow.holds Try.pinned (OpenSpec.ofChange screenMatchesReferenceWrong)

/-- 'cosmaclaw08.ScreenPlanes': WHATEVER THE INPUT: true; the input reads as it did. -/
def screenPlanesSpec : ChangeSpec := { name := "screenPlanes", fn := fun _ => fun
  | [d1, d2, d3] => { results := [.lit (.bool true)], args := [d1, d2, d3] }
  | _ => none }
def screenPlanesRow : OpenClaim := { program := "ytgamehjakgcgnaa", sum := "25efba590ed46633bf19948d9d6076cb5b3b411433dfe651a3bd01b0e0ca628b", func := "cosmac/cosmaclaw08.ScreenPlanes", spec := "screenPlanes", unfollowed := true, recurses := true, apart := false }
def ScreenPlanesSaid : Prop := screenPlanesRow.holds Try.pinned (OpenSpec.ofChange screenPlanesSpec)

/-- ITS FALSE NEIGHBOUR: 'it returns false'. Refute it at one input. -/
def screenPlanesWrong : ChangeSpec := { name := "screenPlanes", fn := fun _ => fun
  | [d1, d2, d3] => { results := [.lit (.bool false)], args := [d1, d2, d3] }
  | _ => none }
def ScreenPlanesWrongFalsely : Prop := screenPlanesRow.holds Try.pinned (OpenSpec.ofChange screenPlanesWrong)

/-- 'cosmaclaw08.ScreenSingles': WHATEVER THE INPUT: true; the input reads as it did. -/
def screenSinglesSpec : ChangeSpec := { name := "screenSingles", fn := fun _ => fun
  | [d1, d2, d3] => { results := [.lit (.bool true)], args := [d1, d2, d3] }
  | _ => none }
def screenSinglesRow : OpenClaim := { program := "ytgamehjakgcgnaa", sum := "25efba590ed46633bf19948d9d6076cb5b3b411433dfe651a3bd01b0e0ca628b", func := "cosmac/cosmaclaw08.ScreenSingles", spec := "screenSingles", unfollowed := true, recurses := true, apart := false }
def ScreenSinglesSaid : Prop := screenSinglesRow.holds Try.pinned (OpenSpec.ofChange screenSinglesSpec)

/-- ITS FALSE NEIGHBOUR: 'it returns false'. Refute it at one input. -/
def screenSinglesWrong : ChangeSpec := { name := "screenSingles", fn := fun _ => fun
  | [d1, d2, d3] => { results := [.lit (.bool false)], args := [d1, d2, d3] }
  | _ => none }
def ScreenSinglesWrongFalsely : Prop := screenSinglesRow.holds Try.pinned (OpenSpec.ofChange screenSinglesWrong)

/-- 'cosmaclaw08.ScreenColors': WHATEVER THE INPUT: true; the input reads as it did. -/
def screenColorsSpec : ChangeSpec := { name := "screenColors", fn := fun _ => fun
  | [d1, d2, d3] => { results := [.lit (.bool true)], args := [d1, d2, d3] }
  | _ => none }
def screenColorsRow : OpenClaim := { program := "ytgamehjakgcgnaa", sum := "25efba590ed46633bf19948d9d6076cb5b3b411433dfe651a3bd01b0e0ca628b", func := "cosmac/cosmaclaw08.ScreenColors", spec := "screenColors", unfollowed := true, recurses := true, apart := false }
def ScreenColorsSaid : Prop := screenColorsRow.holds Try.pinned (OpenSpec.ofChange screenColorsSpec)

/-- ITS FALSE NEIGHBOUR: 'it returns false'. Refute it at one input. -/
def screenColorsWrong : ChangeSpec := { name := "screenColors", fn := fun _ => fun
  | [d1, d2, d3] => { results := [.lit (.bool false)], args := [d1, d2, d3] }
  | _ => none }
def ScreenColorsWrongFalsely : Prop := screenColorsRow.holds Try.pinned (OpenSpec.ofChange screenColorsWrong)

/-- 'cosmaclaw08.ScreenRestores': WHATEVER THE INPUT: true; the input reads as it did. -/
def screenRestoresSpec : ChangeSpec := { name := "screenRestores", fn := fun _ => fun
  | [d1, d2] => { results := [.lit (.bool true)], args := [d1, d2] }
  | _ => none }
def screenRestoresRow : OpenClaim := { program := "ytgamehjakgcgnaa", sum := "25efba590ed46633bf19948d9d6076cb5b3b411433dfe651a3bd01b0e0ca628b", func := "cosmac/cosmaclaw08.ScreenRestores", spec := "screenRestores", unfollowed := true, recurses := true, apart := false }
def ScreenRestoresSaid : Prop := screenRestoresRow.holds Try.pinned (OpenSpec.ofChange screenRestoresSpec)

/-- ITS FALSE NEIGHBOUR: 'it returns false'. Refute it at one input. -/
def screenRestoresWrong : ChangeSpec := { name := "screenRestores", fn := fun _ => fun
  | [d1, d2] => { results := [.lit (.bool false)], args := [d1, d2] }
  | _ => none }
def ScreenRestoresWrongFalsely : Prop := screenRestoresRow.holds Try.pinned (OpenSpec.ofChange screenRestoresWrong)

/- THE SECOND FORM. 'bulk': how many values and letters a reading holds, each counted each time it is reached (what is shared counts as often as it is met; a slice's spare places count too). A statement '..UptoSaid' is the law's where the arguments, and the package variables that the reading takes, are together of bulk at most 1048576: NARROWER than '..Said'. Prove '..Said' where nothing that the law and all that it calls make is longer than what came in: it says more and counts as full. Else prove '..UptoSaid'. A law counts once. -/
mutual
def uptoBulk {H : Type} : DataW H → Nat
  | .lit (.string bytes) => bytes.length + 1
  | .lit _ => 1
  | .nil => 1
  | .ptr d => uptoBulk d + 1
  | .slice elems spare => uptoBulkAll elems + uptoBulkAll spare + 1
  | .agg parts => uptoBulkAll parts + 1
  | .iface _ d => uptoBulk d + 1
  | .map entries => uptoBulkEntries entries + 1
  | .held _ => 1
def uptoBulkAll {H : Type} : List (DataW H) → Nat
  | [] => 0
  | d :: r => uptoBulk d + uptoBulkAll r
def uptoBulkEntries {H : Type} : List (Lit × DataW H) → Nat
  | [] => 0
  | x :: r => uptoBulkEntry x + uptoBulkEntries r
def uptoBulkEntry {H : Type} : Lit × DataW H → Nat
  | (.string bytes, d) => bytes.length + uptoBulk d + 1
  | (_, d) => uptoBulk d + 1
 end
def uptoSmall : (H : Type) → List (DataW H) → Bool := fun _ ds => decide (uptoBulkAll ds ≤ 1048576)
def OpenSpec.upto (s : _root_.Go.ChangeSpec) : _root_.Go.OpenSpec := { _root_.Go.OpenSpec.ofChange s with cond := some uptoSmall }

/-- 'cosmaclaw08.ScreenMatchesReference', WHERE WHAT IT READS IS OF BULK AT MOST 1048576: true; the input reads as it did. -/
def screenMatchesReferenceUptoRow : OpenClaim := { program := "ytgamehjakgcgnaa", sum := "25efba590ed46633bf19948d9d6076cb5b3b411433dfe651a3bd01b0e0ca628b", func := "cosmac/cosmaclaw08.ScreenMatchesReference", spec := "screenMatchesReference", unfollowed := true, recurses := true, apart := false, narrowed := true }
def ScreenMatchesReferenceUptoSaid : Prop := screenMatchesReferenceUptoRow.holds Try.pinned (OpenSpec.upto screenMatchesReferenceSpec)

/-- 'cosmaclaw08.ScreenPlanes', WHERE WHAT IT READS IS OF BULK AT MOST 1048576: true; the input reads as it did. -/
def screenPlanesUptoRow : OpenClaim := { program := "ytgamehjakgcgnaa", sum := "25efba590ed46633bf19948d9d6076cb5b3b411433dfe651a3bd01b0e0ca628b", func := "cosmac/cosmaclaw08.ScreenPlanes", spec := "screenPlanes", unfollowed := true, recurses := true, apart := false, narrowed := true }
def ScreenPlanesUptoSaid : Prop := screenPlanesUptoRow.holds Try.pinned (OpenSpec.upto screenPlanesSpec)

/-- 'cosmaclaw08.ScreenSingles', WHERE WHAT IT READS IS OF BULK AT MOST 1048576: true; the input reads as it did. -/
def screenSinglesUptoRow : OpenClaim := { program := "ytgamehjakgcgnaa", sum := "25efba590ed46633bf19948d9d6076cb5b3b411433dfe651a3bd01b0e0ca628b", func := "cosmac/cosmaclaw08.ScreenSingles", spec := "screenSingles", unfollowed := true, recurses := true, apart := false, narrowed := true }
def ScreenSinglesUptoSaid : Prop := screenSinglesUptoRow.holds Try.pinned (OpenSpec.upto screenSinglesSpec)

/-- 'cosmaclaw08.ScreenColors', WHERE WHAT IT READS IS OF BULK AT MOST 1048576: true; the input reads as it did. -/
def screenColorsUptoRow : OpenClaim := { program := "ytgamehjakgcgnaa", sum := "25efba590ed46633bf19948d9d6076cb5b3b411433dfe651a3bd01b0e0ca628b", func := "cosmac/cosmaclaw08.ScreenColors", spec := "screenColors", unfollowed := true, recurses := true, apart := false, narrowed := true }
def ScreenColorsUptoSaid : Prop := screenColorsUptoRow.holds Try.pinned (OpenSpec.upto screenColorsSpec)

/-- 'cosmaclaw08.ScreenRestores', WHERE WHAT IT READS IS OF BULK AT MOST 1048576: true; the input reads as it did. -/
def screenRestoresUptoRow : OpenClaim := { program := "ytgamehjakgcgnaa", sum := "25efba590ed46633bf19948d9d6076cb5b3b411433dfe651a3bd01b0e0ca628b", func := "cosmac/cosmaclaw08.ScreenRestores", spec := "screenRestores", unfollowed := true, recurses := true, apart := false, narrowed := true }
def ScreenRestoresUptoSaid : Prop := screenRestoresUptoRow.holds Try.pinned (OpenSpec.upto screenRestoresSpec)

end Rows
end Go.Proofs.Ytgamehjakgcgnaa
