/-
  No cell of these rows narrows 'for every input' (looked for: loops, veiled, ifaces, maps, wideKeys, modest, calm, conditions, laid).
  DERIVED. THE GIVEN ROWS OF THIS SEAT. 5 by the template 'for every input the law returns true; each argument reads behind the call as it read before'; 0 by the template 'total and deterministic' (their statements: YtddoohbgiieiiaaTotals.lean).
  GIVEN WITH THE SEED: the statements are not yours to turn. If you find one false, say at which input.
  Laid BY PROGRAM, IN A SANDBOX (cutbox-rows.mjs): the forced cells as the released guide's own fill.sh prints them over the translation b571af5c39fdfe5f… (all of the seat's roots in one cut). By AI agents, Wed Nov 11 2026. No macro, syntax, notation, axiom, sorry.
-/
import Derived.Test.YtddoohbgiieiiaaChecked
import GoSem.Claim
import GoSem.ClaimJoined
import GoSem.ClaimMapViews
import Derived.JoinedTies
import Derived.KernelRfl
namespace Go.Proofs.Ytddoohbgiieiiaa
/- THE CELL 'sum', in the pinned program and in every row, IS THE sha256 OF THE DUMP (.gsa) THAT YtddoohbgiieiiaaProg.lean LOADS. Nothing in Lean hashes anything: it is a label: what it is worth is what the hold of that sum in a sandbox is worth. -/
noncomputable def Try.pinned : Pinned := { name := "ytddoohbgiieiiaa", sum := "b571af5c39fdfe5ff56d638860b46ed0791830d77edd6671e194c5c80910b3aa", checked := Try.checked }
namespace Rows
def none {H : Type} : Left H := { results := [], args := [] }

/-- 'cosmaclaw18.AluMatchesReference': WHATEVER THE INPUT: true; the input reads as it did. -/
def aluMatchesReferenceSpec : ChangeSpec := { name := "aluMatchesReference", fn := fun _ => fun
  | [d1, d2, d3, d4] => { results := [.lit (.bool true)], args := [d1, d2, d3, d4] }
  | _ => none }
def aluMatchesReferenceRow : OpenClaim := { program := "ytddoohbgiieiiaa", sum := "b571af5c39fdfe5ff56d638860b46ed0791830d77edd6671e194c5c80910b3aa", func := "cosmac/cosmaclaw18.AluMatchesReference", spec := "aluMatchesReference", unfollowed := true, recurses := true, apart := false }
def AluMatchesReferenceSaid : Prop := aluMatchesReferenceRow.holds Try.pinned (OpenSpec.ofChange aluMatchesReferenceSpec)

/-- ITS FALSE NEIGHBOUR: 'it returns false'. Refute it at one input. -/
def aluMatchesReferenceWrong : ChangeSpec := { name := "aluMatchesReference", fn := fun _ => fun
  | [d1, d2, d3, d4] => { results := [.lit (.bool false)], args := [d1, d2, d3, d4] }
  | _ => none }
def AluMatchesReferenceWrongFalsely : Prop := aluMatchesReferenceRow.holds Try.pinned (OpenSpec.ofChange aluMatchesReferenceWrong)

/-- 'cosmaclaw18.AluFlags': WHATEVER THE INPUT: true; the input reads as it did. -/
def aluFlagsSpec : ChangeSpec := { name := "aluFlags", fn := fun _ => fun
  | [d1, d2, d3] => { results := [.lit (.bool true)], args := [d1, d2, d3] }
  | _ => none }
def aluFlagsRow : OpenClaim := { program := "ytddoohbgiieiiaa", sum := "b571af5c39fdfe5ff56d638860b46ed0791830d77edd6671e194c5c80910b3aa", func := "cosmac/cosmaclaw18.AluFlags", spec := "aluFlags", unfollowed := true, recurses := true, apart := false }
def AluFlagsSaid : Prop := aluFlagsRow.holds Try.pinned (OpenSpec.ofChange aluFlagsSpec)

/-- ITS FALSE NEIGHBOUR: 'it returns false'. Refute it at one input. -/
def aluFlagsWrong : ChangeSpec := { name := "aluFlags", fn := fun _ => fun
  | [d1, d2, d3] => { results := [.lit (.bool false)], args := [d1, d2, d3] }
  | _ => none }
def AluFlagsWrongFalsely : Prop := aluFlagsRow.holds Try.pinned (OpenSpec.ofChange aluFlagsWrong)

/-- 'cosmaclaw18.AluOthers': WHATEVER THE INPUT: true; the input reads as it did. -/
def aluOthersSpec : ChangeSpec := { name := "aluOthers", fn := fun _ => fun
  | [d1, d2, d3] => { results := [.lit (.bool true)], args := [d1, d2, d3] }
  | _ => none }
def aluOthersRow : OpenClaim := { program := "ytddoohbgiieiiaa", sum := "b571af5c39fdfe5ff56d638860b46ed0791830d77edd6671e194c5c80910b3aa", func := "cosmac/cosmaclaw18.AluOthers", spec := "aluOthers", unfollowed := true, recurses := true, apart := false }
def AluOthersSaid : Prop := aluOthersRow.holds Try.pinned (OpenSpec.ofChange aluOthersSpec)

/-- ITS FALSE NEIGHBOUR: 'it returns false'. Refute it at one input. -/
def aluOthersWrong : ChangeSpec := { name := "aluOthers", fn := fun _ => fun
  | [d1, d2, d3] => { results := [.lit (.bool false)], args := [d1, d2, d3] }
  | _ => none }
def AluOthersWrongFalsely : Prop := aluOthersRow.holds Try.pinned (OpenSpec.ofChange aluOthersWrong)

/-- 'cosmaclaw18.AluDigits': WHATEVER THE INPUT: true; the input reads as it did. -/
def aluDigitsSpec : ChangeSpec := { name := "aluDigits", fn := fun _ => fun
  | [d] => { results := [.lit (.bool true)], args := [d] }
  | _ => none }
def aluDigitsRow : OpenClaim := { program := "ytddoohbgiieiiaa", sum := "b571af5c39fdfe5ff56d638860b46ed0791830d77edd6671e194c5c80910b3aa", func := "cosmac/cosmaclaw18.AluDigits", spec := "aluDigits", unfollowed := true, recurses := true, apart := false }
def AluDigitsSaid : Prop := aluDigitsRow.holds Try.pinned (OpenSpec.ofChange aluDigitsSpec)

/-- ITS FALSE NEIGHBOUR: 'it returns false'. Refute it at one input. -/
def aluDigitsWrong : ChangeSpec := { name := "aluDigits", fn := fun _ => fun
  | [d] => { results := [.lit (.bool false)], args := [d] }
  | _ => none }
def AluDigitsWrongFalsely : Prop := aluDigitsRow.holds Try.pinned (OpenSpec.ofChange aluDigitsWrong)

/-- 'cosmaclaw18.AluLogic': WHATEVER THE INPUT: true; the input reads as it did. -/
def aluLogicSpec : ChangeSpec := { name := "aluLogic", fn := fun _ => fun
  | [d1, d2, d3, d4] => { results := [.lit (.bool true)], args := [d1, d2, d3, d4] }
  | _ => none }
def aluLogicRow : OpenClaim := { program := "ytddoohbgiieiiaa", sum := "b571af5c39fdfe5ff56d638860b46ed0791830d77edd6671e194c5c80910b3aa", func := "cosmac/cosmaclaw18.AluLogic", spec := "aluLogic", unfollowed := true, recurses := true, apart := false }
def AluLogicSaid : Prop := aluLogicRow.holds Try.pinned (OpenSpec.ofChange aluLogicSpec)

/-- ITS FALSE NEIGHBOUR: 'it returns false'. Refute it at one input. -/
def aluLogicWrong : ChangeSpec := { name := "aluLogic", fn := fun _ => fun
  | [d1, d2, d3, d4] => { results := [.lit (.bool false)], args := [d1, d2, d3, d4] }
  | _ => none }
def AluLogicWrongFalsely : Prop := aluLogicRow.holds Try.pinned (OpenSpec.ofChange aluLogicWrong)

/- THE SECOND FORM. 'bulk': how many values and letters a reading holds, each counted each time it is reached (what is shared counts as often as it is met; a slice's spare places count too). A statement '..UptoSaid' is the law's where the arguments, and the package variables that the reading takes, are together of bulk at most 1048576: NARROWER than '..Said'. Prove '..Said' where nothing that the law and all that it calls make is longer than what came in: it says more and counts as full. Else prove '..UptoSaid'. A law counts once. -/
mutual
def uptoBulk {H : Type} : DataW H → Nat
  | .lit (.string bytes) => bytes.length + 1
  | .lit _ => 1
  | .nil => 1
  | .ptr d => uptoBulk d + 1
  | .slice elems spare => uptoBulkAll elems + uptoBulkAll spare + 1
  | .agg parts => uptoBulkAll parts + 1
  | .iface _ d => uptoBulk d + 1
  | .map entries => uptoBulkEntries entries + 1
  | .held _ => 1
def uptoBulkAll {H : Type} : List (DataW H) → Nat
  | [] => 0
  | d :: r => uptoBulk d + uptoBulkAll r
def uptoBulkEntries {H : Type} : List (Lit × DataW H) → Nat
  | [] => 0
  | x :: r => uptoBulkEntry x + uptoBulkEntries r
def uptoBulkEntry {H : Type} : Lit × DataW H → Nat
  | (.string bytes, d) => bytes.length + uptoBulk d + 1
  | (_, d) => uptoBulk d + 1
 end
def uptoSmall : (H : Type) → List (DataW H) → Bool := fun _ ds => decide (uptoBulkAll ds ≤ 1048576)
def OpenSpec.upto (s : _root_.Go.ChangeSpec) : _root_.Go.OpenSpec := { _root_.Go.OpenSpec.ofChange s with cond := some uptoSmall }

/-- 'cosmaclaw18.AluMatchesReference', WHERE WHAT IT READS IS OF BULK AT MOST 1048576: true; the input reads as it did. -/
def aluMatchesReferenceUptoRow : OpenClaim := { program := "ytddoohbgiieiiaa", sum := "b571af5c39fdfe5ff56d638860b46ed0791830d77edd6671e194c5c80910b3aa", func := "cosmac/cosmaclaw18.AluMatchesReference", spec := "aluMatchesReference", unfollowed := true, recurses := true, apart := false, narrowed := true }
def AluMatchesReferenceUptoSaid : Prop := aluMatchesReferenceUptoRow.holds Try.pinned (OpenSpec.upto aluMatchesReferenceSpec)

/-- 'cosmaclaw18.AluFlags', WHERE WHAT IT READS IS OF BULK AT MOST 1048576: true; the input reads as it did. -/
def aluFlagsUptoRow : OpenClaim := { program := "ytddoohbgiieiiaa", sum := "b571af5c39fdfe5ff56d638860b46ed0791830d77edd6671e194c5c80910b3aa", func := "cosmac/cosmaclaw18.AluFlags", spec := "aluFlags", unfollowed := true, recurses := true, apart := false, narrowed := true }
def AluFlagsUptoSaid : Prop := aluFlagsUptoRow.holds Try.pinned (OpenSpec.upto aluFlagsSpec)

/-- 'cosmaclaw18.AluOthers', WHERE WHAT IT READS IS OF BULK AT MOST 1048576: true; the input reads as it did. -/
def aluOthersUptoRow : OpenClaim := { program := "ytddoohbgiieiiaa", sum := "b571af5c39fdfe5ff56d638860b46ed0791830d77edd6671e194c5c80910b3aa", func := "cosmac/cosmaclaw18.AluOthers", spec := "aluOthers", unfollowed := true, recurses := true, apart := false, narrowed := true }
def AluOthersUptoSaid : Prop := aluOthersUptoRow.holds Try.pinned (OpenSpec.upto aluOthersSpec)

/-- 'cosmaclaw18.AluDigits', WHERE WHAT IT READS IS OF BULK AT MOST 1048576: true; the input reads as it did. -/
def aluDigitsUptoRow : OpenClaim := { program := "ytddoohbgiieiiaa", sum := "b571af5c39fdfe5ff56d638860b46ed0791830d77edd6671e194c5c80910b3aa", func := "cosmac/cosmaclaw18.AluDigits", spec := "aluDigits", unfollowed := true, recurses := true, apart := false, narrowed := true }
def AluDigitsUptoSaid : Prop := aluDigitsUptoRow.holds Try.pinned (OpenSpec.upto aluDigitsSpec)

/-- 'cosmaclaw18.AluLogic', WHERE WHAT IT READS IS OF BULK AT MOST 1048576: true; the input reads as it did. -/
def aluLogicUptoRow : OpenClaim := { program := "ytddoohbgiieiiaa", sum := "b571af5c39fdfe5ff56d638860b46ed0791830d77edd6671e194c5c80910b3aa", func := "cosmac/cosmaclaw18.AluLogic", spec := "aluLogic", unfollowed := true, recurses := true, apart := false, narrowed := true }
def AluLogicUptoSaid : Prop := aluLogicUptoRow.holds Try.pinned (OpenSpec.upto aluLogicSpec)

end Rows
end Go.Proofs.Ytddoohbgiieiiaa
