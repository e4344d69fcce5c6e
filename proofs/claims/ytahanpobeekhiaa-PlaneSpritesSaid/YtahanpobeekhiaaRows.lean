/-
  No cell of these rows narrows 'for every input' (looked for: loops, veiled, ifaces, maps, wideKeys, modest, calm, conditions, laid).
  DERIVED. THE GIVEN ROWS OF THIS SEAT. 11 by the template 'for every input the law returns true; each argument reads behind the call as it read before'; 0 by the template 'total and deterministic' (their statements: YtahanpobeekhiaaTotals.lean).
  GIVEN WITH THE SEED: the statements are not yours to turn. If you find one false, say at which input.
  Laid BY PROGRAM, IN A SANDBOX (cutbox-rows.mjs): the forced cells as the released guide's own fill.sh prints them over the translation 7a86f1457fc7b81c… (all of the seat's roots in one cut). By AI agents, Wed Nov 11 2026. No macro, syntax, notation, axiom, sorry.
-/
import Derived.Test.YtahanpobeekhiaaChecked
import GoSem.Claim
import GoSem.ClaimJoined
import GoSem.ClaimMapViews
import Derived.JoinedTies
import Derived.KernelRfl
namespace Go.Proofs.Ytahanpobeekhiaa
/- THE CELL 'sum', in the pinned program and in every row, IS THE sha256 OF THE DUMP (.gsa) THAT YtahanpobeekhiaaProg.lean LOADS. Nothing in Lean hashes anything: it is a label: what it is worth is what the hold of that sum in a sandbox is worth. -/
noncomputable def Try.pinned : Pinned := { name := "ytahanpobeekhiaa", sum := "7a86f1457fc7b81cb3ab830106fcf109872237fa6c4e587276342e6dc3b98844", checked := Try.checked }
namespace Rows
def none {H : Type} : Left H := { results := [], args := [] }

/-- 'cosmaclaw06.RowMatchesReference': WHATEVER THE INPUT: true; the input reads as it did. -/
def rowMatchesReferenceSpec : ChangeSpec := { name := "rowMatchesReference", fn := fun _ => fun
  | [d1, d2, d3, d4, d5, d6, d7] => { results := [.lit (.bool true)], args := [d1, d2, d3, d4, d5, d6, d7] }
  | _ => none }
def rowMatchesReferenceRow : OpenClaim := { program := "ytahanpobeekhiaa", sum := "7a86f1457fc7b81cb3ab830106fcf109872237fa6c4e587276342e6dc3b98844", func := "cosmac/cosmaclaw06.RowMatchesReference", spec := "rowMatchesReference", unfollowed := true, recurses := true, apart := false }
def RowMatchesReferenceSaid : Prop := rowMatchesReferenceRow.holds Try.pinned (OpenSpec.ofChange rowMatchesReferenceSpec)

/-- ITS FALSE NEIGHBOUR: 'it returns false'. Refute it at one input. -/
def rowMatchesReferenceWrong : ChangeSpec := { name := "rowMatchesReference", fn := fun _ => fun
  | [d1, d2, d3, d4, d5, d6, d7] => { results := [.lit (.bool false)], args := [d1, d2, d3, d4, d5, d6, d7] }
  | _ => none }
def RowMatchesReferenceWrongFalsely : Prop := rowMatchesReferenceRow.holds Try.pinned (OpenSpec.ofChange rowMatchesReferenceWrong)

/-- 'cosmaclaw06.RowSets': WHATEVER THE INPUT: true; the input reads as it did. -/
def rowSetsSpec : ChangeSpec := { name := "rowSets", fn := fun _ => fun
  | [d1, d2, d3, d4] => { results := [.lit (.bool true)], args := [d1, d2, d3, d4] }
  | _ => none }
def rowSetsRow : OpenClaim := { program := "ytahanpobeekhiaa", sum := "7a86f1457fc7b81cb3ab830106fcf109872237fa6c4e587276342e6dc3b98844", func := "cosmac/cosmaclaw06.RowSets", spec := "rowSets", unfollowed := true, recurses := true, apart := false }
def RowSetsSaid : Prop := rowSetsRow.holds Try.pinned (OpenSpec.ofChange rowSetsSpec)

/-- ITS FALSE NEIGHBOUR: 'it returns false'. Refute it at one input. -/
def rowSetsWrong : ChangeSpec := { name := "rowSets", fn := fun _ => fun
  | [d1, d2, d3, d4] => { results := [.lit (.bool false)], args := [d1, d2, d3, d4] }
  | _ => none }
def RowSetsWrongFalsely : Prop := rowSetsRow.holds Try.pinned (OpenSpec.ofChange rowSetsWrong)

/-- 'cosmaclaw06.RowShifts': WHATEVER THE INPUT: true; the input reads as it did. -/
def rowShiftsSpec : ChangeSpec := { name := "rowShifts", fn := fun _ => fun
  | [d1, d2, d3, d4, d5] => { results := [.lit (.bool true)], args := [d1, d2, d3, d4, d5] }
  | _ => none }
def rowShiftsRow : OpenClaim := { program := "ytahanpobeekhiaa", sum := "7a86f1457fc7b81cb3ab830106fcf109872237fa6c4e587276342e6dc3b98844", func := "cosmac/cosmaclaw06.RowShifts", spec := "rowShifts", unfollowed := true, recurses := true, apart := false }
def RowShiftsSaid : Prop := rowShiftsRow.holds Try.pinned (OpenSpec.ofChange rowShiftsSpec)

/-- ITS FALSE NEIGHBOUR: 'it returns false'. Refute it at one input. -/
def rowShiftsWrong : ChangeSpec := { name := "rowShifts", fn := fun _ => fun
  | [d1, d2, d3, d4, d5] => { results := [.lit (.bool false)], args := [d1, d2, d3, d4, d5] }
  | _ => none }
def RowShiftsWrongFalsely : Prop := rowShiftsRow.holds Try.pinned (OpenSpec.ofChange rowShiftsWrong)

/-- 'cosmaclaw06.RowXors': WHATEVER THE INPUT: true; the input reads as it did. -/
def rowXorsSpec : ChangeSpec := { name := "rowXors", fn := fun _ => fun
  | [d1, d2, d3, d4] => { results := [.lit (.bool true)], args := [d1, d2, d3, d4] }
  | _ => none }
def rowXorsRow : OpenClaim := { program := "ytahanpobeekhiaa", sum := "7a86f1457fc7b81cb3ab830106fcf109872237fa6c4e587276342e6dc3b98844", func := "cosmac/cosmaclaw06.RowXors", spec := "rowXors", unfollowed := true, recurses := true, apart := false }
def RowXorsSaid : Prop := rowXorsRow.holds Try.pinned (OpenSpec.ofChange rowXorsSpec)

/-- ITS FALSE NEIGHBOUR: 'it returns false'. Refute it at one input. -/
def rowXorsWrong : ChangeSpec := { name := "rowXors", fn := fun _ => fun
  | [d1, d2, d3, d4] => { results := [.lit (.bool false)], args := [d1, d2, d3, d4] }
  | _ => none }
def RowXorsWrongFalsely : Prop := rowXorsRow.holds Try.pinned (OpenSpec.ofChange rowXorsWrong)

/-- 'cosmaclaw06.RowMoves': WHATEVER THE INPUT: true; the input reads as it did. -/
def rowMovesSpec : ChangeSpec := { name := "rowMoves", fn := fun _ => fun
  | [d1, d2, d3, d4] => { results := [.lit (.bool true)], args := [d1, d2, d3, d4] }
  | _ => none }
def rowMovesRow : OpenClaim := { program := "ytahanpobeekhiaa", sum := "7a86f1457fc7b81cb3ab830106fcf109872237fa6c4e587276342e6dc3b98844", func := "cosmac/cosmaclaw06.RowMoves", spec := "rowMoves", unfollowed := true, recurses := true, apart := false }
def RowMovesSaid : Prop := rowMovesRow.holds Try.pinned (OpenSpec.ofChange rowMovesSpec)

/-- ITS FALSE NEIGHBOUR: 'it returns false'. Refute it at one input. -/
def rowMovesWrong : ChangeSpec := { name := "rowMoves", fn := fun _ => fun
  | [d1, d2, d3, d4] => { results := [.lit (.bool false)], args := [d1, d2, d3, d4] }
  | _ => none }
def RowMovesWrongFalsely : Prop := rowMovesRow.holds Try.pinned (OpenSpec.ofChange rowMovesWrong)

/-- 'cosmaclaw07.PlaneMatchesReference': WHATEVER THE INPUT: true; the input reads as it did. -/
def planeMatchesReferenceSpec : ChangeSpec := { name := "planeMatchesReference", fn := fun _ => fun
  | [d1, d2, d3, d4, d5, d6, d7, d8, d9] => { results := [.lit (.bool true)], args := [d1, d2, d3, d4, d5, d6, d7, d8, d9] }
  | _ => none }
def planeMatchesReferenceRow : OpenClaim := { program := "ytahanpobeekhiaa", sum := "7a86f1457fc7b81cb3ab830106fcf109872237fa6c4e587276342e6dc3b98844", func := "cosmac/cosmaclaw07.PlaneMatchesReference", spec := "planeMatchesReference", unfollowed := true, recurses := true, apart := false }
def PlaneMatchesReferenceSaid : Prop := planeMatchesReferenceRow.holds Try.pinned (OpenSpec.ofChange planeMatchesReferenceSpec)

/-- ITS FALSE NEIGHBOUR: 'it returns false'. Refute it at one input. -/
def planeMatchesReferenceWrong : ChangeSpec := { name := "planeMatchesReference", fn := fun _ => fun
  | [d1, d2, d3, d4, d5, d6, d7, d8, d9] => { results := [.lit (.bool false)], args := [d1, d2, d3, d4, d5, d6, d7, d8, d9] }
  | _ => none }
def PlaneMatchesReferenceWrongFalsely : Prop := planeMatchesReferenceRow.holds Try.pinned (OpenSpec.ofChange planeMatchesReferenceWrong)

/-- 'cosmaclaw07.PlaneDraws': WHATEVER THE INPUT: true; the input reads as it did. -/
def planeDrawsSpec : ChangeSpec := { name := "planeDraws", fn := fun _ => fun
  | [d1, d2, d3, d4, d5, d6, d7] => { results := [.lit (.bool true)], args := [d1, d2, d3, d4, d5, d6, d7] }
  | _ => none }
def planeDrawsRow : OpenClaim := { program := "ytahanpobeekhiaa", sum := "7a86f1457fc7b81cb3ab830106fcf109872237fa6c4e587276342e6dc3b98844", func := "cosmac/cosmaclaw07.PlaneDraws", spec := "planeDraws", unfollowed := true, recurses := true, apart := false }
def PlaneDrawsSaid : Prop := planeDrawsRow.holds Try.pinned (OpenSpec.ofChange planeDrawsSpec)

/-- ITS FALSE NEIGHBOUR: 'it returns false'. Refute it at one input. -/
def planeDrawsWrong : ChangeSpec := { name := "planeDraws", fn := fun _ => fun
  | [d1, d2, d3, d4, d5, d6, d7] => { results := [.lit (.bool false)], args := [d1, d2, d3, d4, d5, d6, d7] }
  | _ => none }
def PlaneDrawsWrongFalsely : Prop := planeDrawsRow.holds Try.pinned (OpenSpec.ofChange planeDrawsWrong)

/-- 'cosmaclaw07.PlaneScrolls': WHATEVER THE INPUT: true; the input reads as it did. -/
def planeScrollsSpec : ChangeSpec := { name := "planeScrolls", fn := fun _ => fun
  | [d1, d2, d3, d4, d5] => { results := [.lit (.bool true)], args := [d1, d2, d3, d4, d5] }
  | _ => none }
def planeScrollsRow : OpenClaim := { program := "ytahanpobeekhiaa", sum := "7a86f1457fc7b81cb3ab830106fcf109872237fa6c4e587276342e6dc3b98844", func := "cosmac/cosmaclaw07.PlaneScrolls", spec := "planeScrolls", unfollowed := true, recurses := true, apart := false }
def PlaneScrollsSaid : Prop := planeScrollsRow.holds Try.pinned (OpenSpec.ofChange planeScrollsSpec)

/-- ITS FALSE NEIGHBOUR: 'it returns false'. Refute it at one input. -/
def planeScrollsWrong : ChangeSpec := { name := "planeScrolls", fn := fun _ => fun
  | [d1, d2, d3, d4, d5] => { results := [.lit (.bool false)], args := [d1, d2, d3, d4, d5] }
  | _ => none }
def PlaneScrollsWrongFalsely : Prop := planeScrollsRow.holds Try.pinned (OpenSpec.ofChange planeScrollsWrong)

/-- 'cosmaclaw07.PlaneSprites': WHATEVER THE INPUT: true; the input reads as it did. -/
def planeSpritesSpec : ChangeSpec := { name := "planeSprites", fn := fun _ => fun
  | [d1, d2, d3, d4, d5] => { results := [.lit (.bool true)], args := [d1, d2, d3, d4, d5] }
  | _ => none }
def planeSpritesRow : OpenClaim := { program := "ytahanpobeekhiaa", sum := "7a86f1457fc7b81cb3ab830106fcf109872237fa6c4e587276342e6dc3b98844", func := "cosmac/cosmaclaw07.PlaneSprites", spec := "planeSprites", unfollowed := true, recurses := true, apart := false }
def PlaneSpritesSaid : Prop := planeSpritesRow.holds Try.pinned (OpenSpec.ofChange planeSpritesSpec)

/-- ITS FALSE NEIGHBOUR: 'it returns false'. Refute it at one input. -/
def planeSpritesWrong : ChangeSpec := { name := "planeSprites", fn := fun _ => fun
  | [d1, d2, d3, d4, d5] => { results := [.lit (.bool false)], args := [d1, d2, d3, d4, d5] }
  | _ => none }
def PlaneSpritesWrongFalsely : Prop := planeSpritesRow.holds Try.pinned (OpenSpec.ofChange planeSpritesWrong)

/-- 'cosmaclaw07.PlaneMoves': WHATEVER THE INPUT: true; the input reads as it did. -/
def planeMovesSpec : ChangeSpec := { name := "planeMoves", fn := fun _ => fun
  | [d1, d2, d3, d4, d5] => { results := [.lit (.bool true)], args := [d1, d2, d3, d4, d5] }
  | _ => none }
def planeMovesRow : OpenClaim := { program := "ytahanpobeekhiaa", sum := "7a86f1457fc7b81cb3ab830106fcf109872237fa6c4e587276342e6dc3b98844", func := "cosmac/cosmaclaw07.PlaneMoves", spec := "planeMoves", unfollowed := true, recurses := true, apart := false }
def PlaneMovesSaid : Prop := planeMovesRow.holds Try.pinned (OpenSpec.ofChange planeMovesSpec)

/-- ITS FALSE NEIGHBOUR: 'it returns false'. Refute it at one input. -/
def planeMovesWrong : ChangeSpec := { name := "planeMoves", fn := fun _ => fun
  | [d1, d2, d3, d4, d5] => { results := [.lit (.bool false)], args := [d1, d2, d3, d4, d5] }
  | _ => none }
def PlaneMovesWrongFalsely : Prop := planeMovesRow.holds Try.pinned (OpenSpec.ofChange planeMovesWrong)

/-- 'cosmaclaw07.PlaneCounts': WHATEVER THE INPUT: true; the input reads as it did. -/
def planeCountsSpec : ChangeSpec := { name := "planeCounts", fn := fun _ => fun
  | [d1, d2, d3, d4, d5, d6, d7] => { results := [.lit (.bool true)], args := [d1, d2, d3, d4, d5, d6, d7] }
  | _ => none }
def planeCountsRow : OpenClaim := { program := "ytahanpobeekhiaa", sum := "7a86f1457fc7b81cb3ab830106fcf109872237fa6c4e587276342e6dc3b98844", func := "cosmac/cosmaclaw07.PlaneCounts", spec := "planeCounts", unfollowed := true, recurses := true, apart := false }
def PlaneCountsSaid : Prop := planeCountsRow.holds Try.pinned (OpenSpec.ofChange planeCountsSpec)

/-- ITS FALSE NEIGHBOUR: 'it returns false'. Refute it at one input. -/
def planeCountsWrong : ChangeSpec := { name := "planeCounts", fn := fun _ => fun
  | [d1, d2, d3, d4, d5, d6, d7] => { results := [.lit (.bool false)], args := [d1, d2, d3, d4, d5, d6, d7] }
  | _ => none }
def PlaneCountsWrongFalsely : Prop := planeCountsRow.holds Try.pinned (OpenSpec.ofChange planeCountsWrong)

/- THE SECOND FORM. 'bulk': how many values and letters a reading holds, each counted each time it is reached (what is shared counts as often as it is met; a slice's spare places count too). A statement '..UptoSaid' is the law's where the arguments, and the package variables that the reading takes, are together of bulk at most 1048576: NARROWER than '..Said'. Prove '..Said' where nothing that the law and all that it calls make is longer than what came in: it says more and counts as full. Else prove '..UptoSaid'. A law counts once. -/
mutual
def uptoBulk {H : Type} : DataW H → Nat
  | .lit (.string bytes) => bytes.length + 1
  | .lit _ => 1
  | .nil => 1
  | .ptr d => uptoBulk d + 1
  | .slice elems spare => uptoBulkAll elems + uptoBulkAll spare + 1
  | .agg parts => uptoBulkAll parts + 1
  | .iface _ d => uptoBulk d + 1
  | .map entries => uptoBulkEntries entries + 1
  | .held _ => 1
def uptoBulkAll {H : Type} : List (DataW H) → Nat
  | [] => 0
  | d :: r => uptoBulk d + uptoBulkAll r
def uptoBulkEntries {H : Type} : List (Lit × DataW H) → Nat
  | [] => 0
  | x :: r => uptoBulkEntry x + uptoBulkEntries r
def uptoBulkEntry {H : Type} : Lit × DataW H → Nat
  | (.string bytes, d) => bytes.length + uptoBulk d + 1
  | (_, d) => uptoBulk d + 1
 end
def uptoSmall : (H : Type) → List (DataW H) → Bool := fun _ ds => decide (uptoBulkAll ds ≤ 1048576)
def OpenSpec.upto (s : _root_.Go.ChangeSpec) : _root_.Go.OpenSpec := { _root_.Go.OpenSpec.ofChange s with cond := some uptoSmall }

/-- 'cosmaclaw06.RowMatchesReference', WHERE WHAT IT READS IS OF BULK AT MOST 1048576: true; the input reads as it did. -/
def rowMatchesReferenceUptoRow : OpenClaim := { program := "ytahanpobeekhiaa", sum := "7a86f1457fc7b81cb3ab830106fcf109872237fa6c4e587276342e6dc3b98844", func := "cosmac/cosmaclaw06.RowMatchesReference", spec := "rowMatchesReference", unfollowed := true, recurses := true, apart := false, narrowed := true }
def RowMatchesReferenceUptoSaid : Prop := rowMatchesReferenceUptoRow.holds Try.pinned (OpenSpec.upto rowMatchesReferenceSpec)

/-- 'cosmaclaw06.RowSets', WHERE WHAT IT READS IS OF BULK AT MOST 1048576: true; the input reads as it did. -/
def rowSetsUptoRow : OpenClaim := { program := "ytahanpobeekhiaa", sum := "7a86f1457fc7b81cb3ab830106fcf109872237fa6c4e587276342e6dc3b98844", func := "cosmac/cosmaclaw06.RowSets", spec := "rowSets", unfollowed := true, recurses := true, apart := false, narrowed := true }
def RowSetsUptoSaid : Prop := rowSetsUptoRow.holds Try.pinned (OpenSpec.upto rowSetsSpec)

/-- 'cosmaclaw06.RowShifts', WHERE WHAT IT READS IS OF BULK AT MOST 1048576: true; the input reads as it did. -/
def rowShiftsUptoRow : OpenClaim := { program := "ytahanpobeekhiaa", sum := "7a86f1457fc7b81cb3ab830106fcf109872237fa6c4e587276342e6dc3b98844", func := "cosmac/cosmaclaw06.RowShifts", spec := "rowShifts", unfollowed := true, recurses := true, apart := false, narrowed := true }
def RowShiftsUptoSaid : Prop := rowShiftsUptoRow.holds Try.pinned (OpenSpec.upto rowShiftsSpec)

/-- 'cosmaclaw06.RowXors', WHERE WHAT IT READS IS OF BULK AT MOST 1048576: true; the input reads as it did. -/
def rowXorsUptoRow : OpenClaim := { program := "ytahanpobeekhiaa", sum := "7a86f1457fc7b81cb3ab830106fcf109872237fa6c4e587276342e6dc3b98844", func := "cosmac/cosmaclaw06.RowXors", spec := "rowXors", unfollowed := true, recurses := true, apart := false, narrowed := true }
def RowXorsUptoSaid : Prop := rowXorsUptoRow.holds Try.pinned (OpenSpec.upto rowXorsSpec)

/-- 'cosmaclaw06.RowMoves', WHERE WHAT IT READS IS OF BULK AT MOST 1048576: true; the input reads as it did. -/
def rowMovesUptoRow : OpenClaim := { program := "ytahanpobeekhiaa", sum := "7a86f1457fc7b81cb3ab830106fcf109872237fa6c4e587276342e6dc3b98844", func := "cosmac/cosmaclaw06.RowMoves", spec := "rowMoves", unfollowed := true, recurses := true, apart := false, narrowed := true }
def RowMovesUptoSaid : Prop := rowMovesUptoRow.holds Try.pinned (OpenSpec.upto rowMovesSpec)

/-- 'cosmaclaw07.PlaneMatchesReference', WHERE WHAT IT READS IS OF BULK AT MOST 1048576: true; the input reads as it did. -/
def planeMatchesReferenceUptoRow : OpenClaim := { program := "ytahanpobeekhiaa", sum := "7a86f1457fc7b81cb3ab830106fcf109872237fa6c4e587276342e6dc3b98844", func := "cosmac/cosmaclaw07.PlaneMatchesReference", spec := "planeMatchesReference", unfollowed := true, recurses := true, apart := false, narrowed := true }
def PlaneMatchesReferenceUptoSaid : Prop := planeMatchesReferenceUptoRow.holds Try.pinned (OpenSpec.upto planeMatchesReferenceSpec)

/-- 'cosmaclaw07.PlaneDraws', WHERE WHAT IT READS IS OF BULK AT MOST 1048576: true; the input reads as it did. -/
def planeDrawsUptoRow : OpenClaim := { program := "ytahanpobeekhiaa", sum := "7a86f1457fc7b81cb3ab830106fcf109872237fa6c4e587276342e6dc3b98844", func := "cosmac/cosmaclaw07.PlaneDraws", spec := "planeDraws", unfollowed := true, recurses := true, apart := false, narrowed := true }
def PlaneDrawsUptoSaid : Prop := planeDrawsUptoRow.holds Try.pinned (OpenSpec.upto planeDrawsSpec)

/-- 'cosmaclaw07.PlaneScrolls', WHERE WHAT IT READS IS OF BULK AT MOST 1048576: true; the input reads as it did. -/
def planeScrollsUptoRow : OpenClaim := { program := "ytahanpobeekhiaa", sum := "7a86f1457fc7b81cb3ab830106fcf109872237fa6c4e587276342e6dc3b98844", func := "cosmac/cosmaclaw07.PlaneScrolls", spec := "planeScrolls", unfollowed := true, recurses := true, apart := false, narrowed := true }
def PlaneScrollsUptoSaid : Prop := planeScrollsUptoRow.holds Try.pinned (OpenSpec.upto planeScrollsSpec)

/-- 'cosmaclaw07.PlaneSprites', WHERE WHAT IT READS IS OF BULK AT MOST 1048576: true; the input reads as it did. -/
def planeSpritesUptoRow : OpenClaim := { program := "ytahanpobeekhiaa", sum := "7a86f1457fc7b81cb3ab830106fcf109872237fa6c4e587276342e6dc3b98844", func := "cosmac/cosmaclaw07.PlaneSprites", spec := "planeSprites", unfollowed := true, recurses := true, apart := false, narrowed := true }
def PlaneSpritesUptoSaid : Prop := planeSpritesUptoRow.holds Try.pinned (OpenSpec.upto planeSpritesSpec)

/-- 'cosmaclaw07.PlaneMoves', WHERE WHAT IT READS IS OF BULK AT MOST 1048576: true; the input reads as it did. -/
def planeMovesUptoRow : OpenClaim := { program := "ytahanpobeekhiaa", sum := "7a86f1457fc7b81cb3ab830106fcf109872237fa6c4e587276342e6dc3b98844", func := "cosmac/cosmaclaw07.PlaneMoves", spec := "planeMoves", unfollowed := true, recurses := true, apart := false, narrowed := true }
def PlaneMovesUptoSaid : Prop := planeMovesUptoRow.holds Try.pinned (OpenSpec.upto planeMovesSpec)

/-- 'cosmaclaw07.PlaneCounts', WHERE WHAT IT READS IS OF BULK AT MOST 1048576: true; the input reads as it did. -/
def planeCountsUptoRow : OpenClaim := { program := "ytahanpobeekhiaa", sum := "7a86f1457fc7b81cb3ab830106fcf109872237fa6c4e587276342e6dc3b98844", func := "cosmac/cosmaclaw07.PlaneCounts", spec := "planeCounts", unfollowed := true, recurses := true, apart := false, narrowed := true }
def PlaneCountsUptoSaid : Prop := planeCountsUptoRow.holds Try.pinned (OpenSpec.upto planeCountsSpec)

end Rows
end Go.Proofs.Ytahanpobeekhiaa
