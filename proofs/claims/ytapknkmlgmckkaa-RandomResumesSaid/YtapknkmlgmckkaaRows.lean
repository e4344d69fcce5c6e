/-
  No cell of these rows narrows 'for every input' (looked for: loops, veiled, ifaces, maps, wideKeys, modest, calm, conditions, laid).
  DERIVED. THE GIVEN ROWS OF THIS SEAT. 11 by the template 'for every input the law returns true; each argument reads behind the call as it read before'; 0 by the template 'total and deterministic' (their statements: YtapknkmlgmckkaaTotals.lean).
  GIVEN WITH THE SEED: the statements are not yours to turn. If you find one false, say at which input.
  Laid BY PROGRAM, IN A SANDBOX (cutbox-rows.mjs): the forced cells as the released guide's own fill.sh prints them over the translation 1f2f4ab833d3d69b… (all of the seat's roots in one cut). By AI agents, Wed Nov 11 2026. No macro, syntax, notation, axiom, sorry.
-/
import Derived.Test.YtapknkmlgmckkaaChecked
import GoSem.Claim
import GoSem.ClaimJoined
import GoSem.ClaimMapViews
import Derived.JoinedTies
import Derived.KernelRfl
namespace Go.Proofs.Ytapknkmlgmckkaa
/- THE CELL 'sum', in the pinned program and in every row, IS THE sha256 OF THE DUMP (.gsa) THAT YtapknkmlgmckkaaProg.lean LOADS. Nothing in Lean hashes anything: it is a label: what it is worth is what the hold of that sum in a sandbox is worth. -/
noncomputable def Try.pinned : Pinned := { name := "ytapknkmlgmckkaa", sum := "1f2f4ab833d3d69b904d33702a016eb6c5ec8aa061500b5e190d1f18da3f637a", checked := Try.checked }
namespace Rows
def none {H : Type} : Left H := { results := [], args := [] }

/-- 'cosmaclaw17.StackInverse': WHATEVER THE INPUT: true; the input reads as it did. -/
def stackInverseSpec : ChangeSpec := { name := "stackInverse", fn := fun _ => fun
  | [d1, d2] => { results := [.lit (.bool true)], args := [d1, d2] }
  | _ => none }
def stackInverseRow : OpenClaim := { program := "ytapknkmlgmckkaa", sum := "1f2f4ab833d3d69b904d33702a016eb6c5ec8aa061500b5e190d1f18da3f637a", func := "cosmac/cosmaclaw17.StackInverse", spec := "stackInverse", unfollowed := true, recurses := true, apart := false }
def StackInverseSaid : Prop := stackInverseRow.holds Try.pinned (OpenSpec.ofChange stackInverseSpec)

/-- ITS FALSE NEIGHBOUR: 'it returns false'. Refute it at one input. -/
def stackInverseWrong : ChangeSpec := { name := "stackInverse", fn := fun _ => fun
  | [d1, d2] => { results := [.lit (.bool false)], args := [d1, d2] }
  | _ => none }
def StackInverseWrongFalsely : Prop := stackInverseRow.holds Try.pinned (OpenSpec.ofChange stackInverseWrong)

/-- 'cosmaclaw12.FlagsMatchReference': WHATEVER THE INPUT: true; the input reads as it did. -/
def flagsMatchReferenceSpec : ChangeSpec := { name := "flagsMatchReference", fn := fun _ => fun
  | [d1, d2, d3, d4, d5] => { results := [.lit (.bool true)], args := [d1, d2, d3, d4, d5] }
  | _ => none }
def flagsMatchReferenceRow : OpenClaim := { program := "ytapknkmlgmckkaa", sum := "1f2f4ab833d3d69b904d33702a016eb6c5ec8aa061500b5e190d1f18da3f637a", func := "cosmac/cosmaclaw12.FlagsMatchReference", spec := "flagsMatchReference", apart := false }
def FlagsMatchReferenceSaid : Prop := flagsMatchReferenceRow.holds Try.pinned (OpenSpec.ofChange flagsMatchReferenceSpec)

/-- ITS FALSE NEIGHBOUR: 'it returns false'. Refute it at one input. -/
def flagsMatchReferenceWrong : ChangeSpec := { name := "flagsMatchReference", fn := fun _ => fun
  | [d1, d2, d3, d4, d5] => { results := [.lit (.bool false)], args := [d1, d2, d3, d4, d5] }
  | _ => none }
def FlagsMatchReferenceWrongFalsely : Prop := flagsMatchReferenceRow.holds Try.pinned (OpenSpec.ofChange flagsMatchReferenceWrong)

/-- 'cosmaclaw12.FlagsSave': WHATEVER THE INPUT: true; the input reads as it did. -/
def flagsSaveSpec : ChangeSpec := { name := "flagsSave", fn := fun _ => fun
  | [d1, d2] => { results := [.lit (.bool true)], args := [d1, d2] }
  | _ => none }
def flagsSaveRow : OpenClaim := { program := "ytapknkmlgmckkaa", sum := "1f2f4ab833d3d69b904d33702a016eb6c5ec8aa061500b5e190d1f18da3f637a", func := "cosmac/cosmaclaw12.FlagsSave", spec := "flagsSave", apart := false }
def FlagsSaveSaid : Prop := flagsSaveRow.holds Try.pinned (OpenSpec.ofChange flagsSaveSpec)

/-- ITS FALSE NEIGHBOUR: 'it returns false'. Refute it at one input. -/
def flagsSaveWrong : ChangeSpec := { name := "flagsSave", fn := fun _ => fun
  | [d1, d2] => { results := [.lit (.bool false)], args := [d1, d2] }
  | _ => none }
def FlagsSaveWrongFalsely : Prop := flagsSaveRow.holds Try.pinned (OpenSpec.ofChange flagsSaveWrong)

/-- 'cosmaclaw12.FlagsLevels': WHATEVER THE INPUT: true; the input reads as it did. -/
def flagsLevelsSpec : ChangeSpec := { name := "flagsLevels", fn := fun _ => fun
  | [d1, d2] => { results := [.lit (.bool true)], args := [d1, d2] }
  | _ => none }
def flagsLevelsRow : OpenClaim := { program := "ytapknkmlgmckkaa", sum := "1f2f4ab833d3d69b904d33702a016eb6c5ec8aa061500b5e190d1f18da3f637a", func := "cosmac/cosmaclaw12.FlagsLevels", spec := "flagsLevels", apart := false }
def FlagsLevelsSaid : Prop := flagsLevelsRow.holds Try.pinned (OpenSpec.ofChange flagsLevelsSpec)

/-- ITS FALSE NEIGHBOUR: 'it returns false'. Refute it at one input. -/
def flagsLevelsWrong : ChangeSpec := { name := "flagsLevels", fn := fun _ => fun
  | [d1, d2] => { results := [.lit (.bool false)], args := [d1, d2] }
  | _ => none }
def FlagsLevelsWrongFalsely : Prop := flagsLevelsRow.holds Try.pinned (OpenSpec.ofChange flagsLevelsWrong)

/-- 'cosmaclaw12.FlagsTwice': WHATEVER THE INPUT: true; the input reads as it did. -/
def flagsTwiceSpec : ChangeSpec := { name := "flagsTwice", fn := fun _ => fun
  | [d1, d2] => { results := [.lit (.bool true)], args := [d1, d2] }
  | _ => none }
def flagsTwiceRow : OpenClaim := { program := "ytapknkmlgmckkaa", sum := "1f2f4ab833d3d69b904d33702a016eb6c5ec8aa061500b5e190d1f18da3f637a", func := "cosmac/cosmaclaw12.FlagsTwice", spec := "flagsTwice", apart := false }
def FlagsTwiceSaid : Prop := flagsTwiceRow.holds Try.pinned (OpenSpec.ofChange flagsTwiceSpec)

/-- ITS FALSE NEIGHBOUR: 'it returns false'. Refute it at one input. -/
def flagsTwiceWrong : ChangeSpec := { name := "flagsTwice", fn := fun _ => fun
  | [d1, d2] => { results := [.lit (.bool false)], args := [d1, d2] }
  | _ => none }
def FlagsTwiceWrongFalsely : Prop := flagsTwiceRow.holds Try.pinned (OpenSpec.ofChange flagsTwiceWrong)

/-- 'cosmaclaw17.StackMatchesReference': WHATEVER THE INPUT: true; the input reads as it did. -/
def stackMatchesReferenceSpec : ChangeSpec := { name := "stackMatchesReference", fn := fun _ => fun
  | [d] => { results := [.lit (.bool true)], args := [d] }
  | _ => none }
def stackMatchesReferenceRow : OpenClaim := { program := "ytapknkmlgmckkaa", sum := "1f2f4ab833d3d69b904d33702a016eb6c5ec8aa061500b5e190d1f18da3f637a", func := "cosmac/cosmaclaw17.StackMatchesReference", spec := "stackMatchesReference", unfollowed := true, recurses := true, apart := false }
def StackMatchesReferenceSaid : Prop := stackMatchesReferenceRow.holds Try.pinned (OpenSpec.ofChange stackMatchesReferenceSpec)

/-- ITS FALSE NEIGHBOUR: 'it returns false'. Refute it at one input. -/
def stackMatchesReferenceWrong : ChangeSpec := { name := "stackMatchesReference", fn := fun _ => fun
  | [d] => { results := [.lit (.bool false)], args := [d] }
  | _ => none }
def StackMatchesReferenceWrongFalsely : Prop := stackMatchesReferenceRow.holds Try.pinned (OpenSpec.ofChange stackMatchesReferenceWrong)

/-- 'cosmaclaw17.StackLists': WHATEVER THE INPUT: true; the input reads as it did. -/
def stackListsSpec : ChangeSpec := { name := "stackLists", fn := fun _ => fun
  | [d] => { results := [.lit (.bool true)], args := [d] }
  | _ => none }
def stackListsRow : OpenClaim := { program := "ytapknkmlgmckkaa", sum := "1f2f4ab833d3d69b904d33702a016eb6c5ec8aa061500b5e190d1f18da3f637a", func := "cosmac/cosmaclaw17.StackLists", spec := "stackLists", unfollowed := true, recurses := true, apart := false }
def StackListsSaid : Prop := stackListsRow.holds Try.pinned (OpenSpec.ofChange stackListsSpec)

/-- ITS FALSE NEIGHBOUR: 'it returns false'. Refute it at one input. -/
def stackListsWrong : ChangeSpec := { name := "stackLists", fn := fun _ => fun
  | [d] => { results := [.lit (.bool false)], args := [d] }
  | _ => none }
def StackListsWrongFalsely : Prop := stackListsRow.holds Try.pinned (OpenSpec.ofChange stackListsWrong)

/-- 'cosmaclaw13.RandomMatchesReference': WHATEVER THE INPUT: true; the input reads as it did. -/
def randomMatchesReferenceSpec : ChangeSpec := { name := "randomMatchesReference", fn := fun _ => fun
  | [d1, d2, d3] => { results := [.lit (.bool true)], args := [d1, d2, d3] }
  | _ => none }
def randomMatchesReferenceRow : OpenClaim := { program := "ytapknkmlgmckkaa", sum := "1f2f4ab833d3d69b904d33702a016eb6c5ec8aa061500b5e190d1f18da3f637a", func := "cosmac/cosmaclaw13.RandomMatchesReference", spec := "randomMatchesReference", unfollowed := true, recurses := true, apart := false }
def RandomMatchesReferenceSaid : Prop := randomMatchesReferenceRow.holds Try.pinned (OpenSpec.ofChange randomMatchesReferenceSpec)

/-- ITS FALSE NEIGHBOUR: 'it returns false'. Refute it at one input. -/
def randomMatchesReferenceWrong : ChangeSpec := { name := "randomMatchesReference", fn := fun _ => fun
  | [d1, d2, d3] => { results := [.lit (.bool false)], args := [d1, d2, d3] }
  | _ => none }
def RandomMatchesReferenceWrongFalsely : Prop := randomMatchesReferenceRow.holds Try.pinned (OpenSpec.ofChange randomMatchesReferenceWrong)

/-- 'cosmaclaw13.RandomCycles': WHATEVER THE INPUT: true; the input reads as it did. -/
def randomCyclesSpec : ChangeSpec := { name := "randomCycles", fn := fun _ => fun
  | [d1, d2] => { results := [.lit (.bool true)], args := [d1, d2] }
  | _ => none }
def randomCyclesRow : OpenClaim := { program := "ytapknkmlgmckkaa", sum := "1f2f4ab833d3d69b904d33702a016eb6c5ec8aa061500b5e190d1f18da3f637a", func := "cosmac/cosmaclaw13.RandomCycles", spec := "randomCycles", unfollowed := true, recurses := true, apart := false }
def RandomCyclesSaid : Prop := randomCyclesRow.holds Try.pinned (OpenSpec.ofChange randomCyclesSpec)

/-- ITS FALSE NEIGHBOUR: 'it returns false'. Refute it at one input. -/
def randomCyclesWrong : ChangeSpec := { name := "randomCycles", fn := fun _ => fun
  | [d1, d2] => { results := [.lit (.bool false)], args := [d1, d2] }
  | _ => none }
def RandomCyclesWrongFalsely : Prop := randomCyclesRow.holds Try.pinned (OpenSpec.ofChange randomCyclesWrong)

/-- 'cosmaclaw13.RandomClones': WHATEVER THE INPUT: true; the input reads as it did. -/
def randomClonesSpec : ChangeSpec := { name := "randomClones", fn := fun _ => fun
  | [d1, d2, d3] => { results := [.lit (.bool true)], args := [d1, d2, d3] }
  | _ => none }
def randomClonesRow : OpenClaim := { program := "ytapknkmlgmckkaa", sum := "1f2f4ab833d3d69b904d33702a016eb6c5ec8aa061500b5e190d1f18da3f637a", func := "cosmac/cosmaclaw13.RandomClones", spec := "randomClones", unfollowed := true, recurses := true, apart := false }
def RandomClonesSaid : Prop := randomClonesRow.holds Try.pinned (OpenSpec.ofChange randomClonesSpec)

/-- ITS FALSE NEIGHBOUR: 'it returns false'. Refute it at one input. -/
def randomClonesWrong : ChangeSpec := { name := "randomClones", fn := fun _ => fun
  | [d1, d2, d3] => { results := [.lit (.bool false)], args := [d1, d2, d3] }
  | _ => none }
def RandomClonesWrongFalsely : Prop := randomClonesRow.holds Try.pinned (OpenSpec.ofChange randomClonesWrong)

/-- 'cosmaclaw13.RandomResumes': WHATEVER THE INPUT: true; the input reads as it did. -/
def randomResumesSpec : ChangeSpec := { name := "randomResumes", fn := fun _ => fun
  | [d1, d2, d3] => { results := [.lit (.bool true)], args := [d1, d2, d3] }
  | _ => none }
def randomResumesRow : OpenClaim := { program := "ytapknkmlgmckkaa", sum := "1f2f4ab833d3d69b904d33702a016eb6c5ec8aa061500b5e190d1f18da3f637a", func := "cosmac/cosmaclaw13.RandomResumes", spec := "randomResumes", unfollowed := true, recurses := true, apart := false }
def RandomResumesSaid : Prop := randomResumesRow.holds Try.pinned (OpenSpec.ofChange randomResumesSpec)

/-- ITS FALSE NEIGHBOUR: 'it returns false'. Refute it at one input. -/
def randomResumesWrong : ChangeSpec := { name := "randomResumes", fn := fun _ => fun
  | [d1, d2, d3] => { results := [.lit (.bool false)], args := [d1, d2, d3] }
  | _ => none }
def RandomResumesWrongFalsely : Prop := randomResumesRow.holds Try.pinned (OpenSpec.ofChange randomResumesWrong)

/- THE SECOND FORM. 'bulk': how many values and letters a reading holds, each counted each time it is reached (what is shared counts as often as it is met; a slice's spare places count too). A statement '..UptoSaid' is the law's where the arguments, and the package variables that the reading takes, are together of bulk at most 1048576: NARROWER than '..Said'. Prove '..Said' where nothing that the law and all that it calls make is longer than what came in: it says more and counts as full. Else prove '..UptoSaid'. A law counts once. -/
mutual
def uptoBulk {H : Type} : DataW H → Nat
  | .lit (.string bytes) => bytes.length + 1
  | .lit _ => 1
  | .nil => 1
  | .ptr d => uptoBulk d + 1
  | .slice elems spare => uptoBulkAll elems + uptoBulkAll spare + 1
  | .agg parts => uptoBulkAll parts + 1
  | .iface _ d => uptoBulk d + 1
  | .map entries => uptoBulkEntries entries + 1
  | .held _ => 1
def uptoBulkAll {H : Type} : List (DataW H) → Nat
  | [] => 0
  | d :: r => uptoBulk d + uptoBulkAll r
def uptoBulkEntries {H : Type} : List (Lit × DataW H) → Nat
  | [] => 0
  | x :: r => uptoBulkEntry x + uptoBulkEntries r
def uptoBulkEntry {H : Type} : Lit × DataW H → Nat
  | (.string bytes, d) => bytes.length + uptoBulk d + 1
  | (_, d) => uptoBulk d + 1
 end
def uptoSmall : (H : Type) → List (DataW H) → Bool := fun _ ds => decide (uptoBulkAll ds ≤ 1048576)
def OpenSpec.upto (s : _root_.Go.ChangeSpec) : _root_.Go.OpenSpec := { _root_.Go.OpenSpec.ofChange s with cond := some uptoSmall }

/-- 'cosmaclaw17.StackInverse', WHERE WHAT IT READS IS OF BULK AT MOST 1048576: true; the input reads as it did. -/
def stackInverseUptoRow : OpenClaim := { program := "ytapknkmlgmckkaa", sum := "1f2f4ab833d3d69b904d33702a016eb6c5ec8aa061500b5e190d1f18da3f637a", func := "cosmac/cosmaclaw17.StackInverse", spec := "stackInverse", unfollowed := true, recurses := true, apart := false, narrowed := true }
def StackInverseUptoSaid : Prop := stackInverseUptoRow.holds Try.pinned (OpenSpec.upto stackInverseSpec)

/-- 'cosmaclaw12.FlagsMatchReference', WHERE WHAT IT READS IS OF BULK AT MOST 1048576: true; the input reads as it did. -/
def flagsMatchReferenceUptoRow : OpenClaim := { program := "ytapknkmlgmckkaa", sum := "1f2f4ab833d3d69b904d33702a016eb6c5ec8aa061500b5e190d1f18da3f637a", func := "cosmac/cosmaclaw12.FlagsMatchReference", spec := "flagsMatchReference", apart := false, narrowed := true }
def FlagsMatchReferenceUptoSaid : Prop := flagsMatchReferenceUptoRow.holds Try.pinned (OpenSpec.upto flagsMatchReferenceSpec)

/-- 'cosmaclaw12.FlagsSave', WHERE WHAT IT READS IS OF BULK AT MOST 1048576: true; the input reads as it did. -/
def flagsSaveUptoRow : OpenClaim := { program := "ytapknkmlgmckkaa", sum := "1f2f4ab833d3d69b904d33702a016eb6c5ec8aa061500b5e190d1f18da3f637a", func := "cosmac/cosmaclaw12.FlagsSave", spec := "flagsSave", apart := false, narrowed := true }
def FlagsSaveUptoSaid : Prop := flagsSaveUptoRow.holds Try.pinned (OpenSpec.upto flagsSaveSpec)

/-- 'cosmaclaw12.FlagsLevels', WHERE WHAT IT READS IS OF BULK AT MOST 1048576: true; the input reads as it did. -/
def flagsLevelsUptoRow : OpenClaim := { program := "ytapknkmlgmckkaa", sum := "1f2f4ab833d3d69b904d33702a016eb6c5ec8aa061500b5e190d1f18da3f637a", func := "cosmac/cosmaclaw12.FlagsLevels", spec := "flagsLevels", apart := false, narrowed := true }
def FlagsLevelsUptoSaid : Prop := flagsLevelsUptoRow.holds Try.pinned (OpenSpec.upto flagsLevelsSpec)

/-- 'cosmaclaw12.FlagsTwice', WHERE WHAT IT READS IS OF BULK AT MOST 1048576: true; the input reads as it did. -/
def flagsTwiceUptoRow : OpenClaim := { program := "ytapknkmlgmckkaa", sum := "1f2f4ab833d3d69b904d33702a016eb6c5ec8aa061500b5e190d1f18da3f637a", func := "cosmac/cosmaclaw12.FlagsTwice", spec := "flagsTwice", apart := false, narrowed := true }
def FlagsTwiceUptoSaid : Prop := flagsTwiceUptoRow.holds Try.pinned (OpenSpec.upto flagsTwiceSpec)

/-- 'cosmaclaw17.StackMatchesReference', WHERE WHAT IT READS IS OF BULK AT MOST 1048576: true; the input reads as it did. -/
def stackMatchesReferenceUptoRow : OpenClaim := { program := "ytapknkmlgmckkaa", sum := "1f2f4ab833d3d69b904d33702a016eb6c5ec8aa061500b5e190d1f18da3f637a", func := "cosmac/cosmaclaw17.StackMatchesReference", spec := "stackMatchesReference", unfollowed := true, recurses := true, apart := false, narrowed := true }
def StackMatchesReferenceUptoSaid : Prop := stackMatchesReferenceUptoRow.holds Try.pinned (OpenSpec.upto stackMatchesReferenceSpec)

/-- 'cosmaclaw17.StackLists', WHERE WHAT IT READS IS OF BULK AT MOST 1048576: true; the input reads as it did. -/
def stackListsUptoRow : OpenClaim := { program := "ytapknkmlgmckkaa", sum := "1f2f4ab833d3d69b904d33702a016eb6c5ec8aa061500b5e190d1f18da3f637a", func := "cosmac/cosmaclaw17.StackLists", spec := "stackLists", unfollowed := true, recurses := true, apart := false, narrowed := true }
def StackListsUptoSaid : Prop := stackListsUptoRow.holds Try.pinned (OpenSpec.upto stackListsSpec)

/-- 'cosmaclaw13.RandomMatchesReference', WHERE WHAT IT READS IS OF BULK AT MOST 1048576: true; the input reads as it did. -/
def randomMatchesReferenceUptoRow : OpenClaim := { program := "ytapknkmlgmckkaa", sum := "1f2f4ab833d3d69b904d33702a016eb6c5ec8aa061500b5e190d1f18da3f637a", func := "cosmac/cosmaclaw13.RandomMatchesReference", spec := "randomMatchesReference", unfollowed := true, recurses := true, apart := false, narrowed := true }
def RandomMatchesReferenceUptoSaid : Prop := randomMatchesReferenceUptoRow.holds Try.pinned (OpenSpec.upto randomMatchesReferenceSpec)

/-- 'cosmaclaw13.RandomCycles', WHERE WHAT IT READS IS OF BULK AT MOST 1048576: true; the input reads as it did. -/
def randomCyclesUptoRow : OpenClaim := { program := "ytapknkmlgmckkaa", sum := "1f2f4ab833d3d69b904d33702a016eb6c5ec8aa061500b5e190d1f18da3f637a", func := "cosmac/cosmaclaw13.RandomCycles", spec := "randomCycles", unfollowed := true, recurses := true, apart := false, narrowed := true }
def RandomCyclesUptoSaid : Prop := randomCyclesUptoRow.holds Try.pinned (OpenSpec.upto randomCyclesSpec)

/-- 'cosmaclaw13.RandomClones', WHERE WHAT IT READS IS OF BULK AT MOST 1048576: true; the input reads as it did. -/
def randomClonesUptoRow : OpenClaim := { program := "ytapknkmlgmckkaa", sum := "1f2f4ab833d3d69b904d33702a016eb6c5ec8aa061500b5e190d1f18da3f637a", func := "cosmac/cosmaclaw13.RandomClones", spec := "randomClones", unfollowed := true, recurses := true, apart := false, narrowed := true }
def RandomClonesUptoSaid : Prop := randomClonesUptoRow.holds Try.pinned (OpenSpec.upto randomClonesSpec)

/-- 'cosmaclaw13.RandomResumes', WHERE WHAT IT READS IS OF BULK AT MOST 1048576: true; the input reads as it did. -/
def randomResumesUptoRow : OpenClaim := { program := "ytapknkmlgmckkaa", sum := "1f2f4ab833d3d69b904d33702a016eb6c5ec8aa061500b5e190d1f18da3f637a", func := "cosmac/cosmaclaw13.RandomResumes", spec := "randomResumes", unfollowed := true, recurses := true, apart := false, narrowed := true }
def RandomResumesUptoSaid : Prop := randomResumesUptoRow.holds Try.pinned (OpenSpec.upto randomResumesSpec)

end Rows
end Go.Proofs.Ytapknkmlgmckkaa
