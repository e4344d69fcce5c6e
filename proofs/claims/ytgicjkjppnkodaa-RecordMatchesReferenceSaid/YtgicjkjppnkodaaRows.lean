/-
  No cell of these rows narrows 'for every input' (looked for: loops, veiled, ifaces, maps, wideKeys, modest, calm, conditions, laid).
  DERIVED. THE GIVEN ROWS OF THIS SEAT. 5 by the template 'for every input the law returns true; each argument reads behind the call as it read before'; 0 by the template 'total and deterministic' (their statements: YtgicjkjppnkodaaTotals.lean).
  GIVEN WITH THE SEED: the statements are not yours to turn. If you find one false, say at which input.
  Laid BY PROGRAM, IN A SANDBOX (cutbox-rows.mjs): the forced cells as the released guide's own fill.sh prints them over the translation cf203bbcdbd773fc… (all of the seat's roots in one cut). By AI agents, Wed Nov 11 2026. No macro, syntax, notation, axiom, sorry.
-/
import Derived.Test.YtgicjkjppnkodaaChecked
import GoSem.Claim
import GoSem.ClaimJoined
import GoSem.ClaimMapViews
import Derived.JoinedTies
import Derived.KernelRfl
namespace Go.Proofs.Ytgicjkjppnkodaa
/- THE CELL 'sum', in the pinned program and in every row, IS THE sha256 OF THE DUMP (.gsa) THAT YtgicjkjppnkodaaProg.lean LOADS. Nothing in Lean hashes anything: it is a label: what it is worth is what the hold of that sum in a sandbox is worth. -/
noncomputable def Try.pinned : Pinned := { name := "ytgicjkjppnkodaa", sum := "cf203bbcdbd773fc3614f705fc71aabd4dffd532c0f6529e7311e226a3bbe9c8", checked := Try.checked }
namespace Rows
def none {H : Type} : Left H := { results := [], args := [] }

/-- 'cosmaclaw23.RecordMatchesReference': WHATEVER THE INPUT: true; the input reads as it did. -/
def recordMatchesReferenceSpec : ChangeSpec := { name := "recordMatchesReference", fn := fun _ => fun
  | [d] => { results := [.lit (.bool true)], args := [d] }
  | _ => none }
def recordMatchesReferenceRow : OpenClaim := { program := "ytgicjkjppnkodaa", sum := "cf203bbcdbd773fc3614f705fc71aabd4dffd532c0f6529e7311e226a3bbe9c8", func := "cosmac/cosmaclaw23.RecordMatchesReference", spec := "recordMatchesReference", unfollowed := true, recurses := true, apart := false }
def RecordMatchesReferenceSaid : Prop := recordMatchesReferenceRow.holds Try.pinned (OpenSpec.ofChange recordMatchesReferenceSpec)

/-- ITS FALSE NEIGHBOUR: 'it returns false'. Refute it at one input. -/
def recordMatchesReferenceWrong : ChangeSpec := { name := "recordMatchesReference", fn := fun _ => fun
  | [d] => { results := [.lit (.bool false)], args := [d] }
  | _ => none }
def RecordMatchesReferenceWrongFalsely : Prop := recordMatchesReferenceRow.holds Try.pinned (OpenSpec.ofChange recordMatchesReferenceWrong)

/-- 'cosmaclaw23.RecordCanonical': WHATEVER THE INPUT: true; the input reads as it did. -/
def recordCanonicalSpec : ChangeSpec := { name := "recordCanonical", fn := fun _ => fun
  | [d1, d2, d3] => { results := [.lit (.bool true)], args := [d1, d2, d3] }
  | _ => none }
def recordCanonicalRow : OpenClaim := { program := "ytgicjkjppnkodaa", sum := "cf203bbcdbd773fc3614f705fc71aabd4dffd532c0f6529e7311e226a3bbe9c8", func := "cosmac/cosmaclaw23.RecordCanonical", spec := "recordCanonical", unfollowed := true, recurses := true, apart := false }
def RecordCanonicalSaid : Prop := recordCanonicalRow.holds Try.pinned (OpenSpec.ofChange recordCanonicalSpec)

/-- ITS FALSE NEIGHBOUR: 'it returns false'. Refute it at one input. -/
def recordCanonicalWrong : ChangeSpec := { name := "recordCanonical", fn := fun _ => fun
  | [d1, d2, d3] => { results := [.lit (.bool false)], args := [d1, d2, d3] }
  | _ => none }
def RecordCanonicalWrongFalsely : Prop := recordCanonicalRow.holds Try.pinned (OpenSpec.ofChange recordCanonicalWrong)

/-- 'cosmaclaw23.RecordBytes': WHATEVER THE INPUT: true; the input reads as it did. -/
def recordBytesSpec : ChangeSpec := { name := "recordBytes", fn := fun _ => fun
  | [d] => { results := [.lit (.bool true)], args := [d] }
  | _ => none }
def recordBytesRow : OpenClaim := { program := "ytgicjkjppnkodaa", sum := "cf203bbcdbd773fc3614f705fc71aabd4dffd532c0f6529e7311e226a3bbe9c8", func := "cosmac/cosmaclaw23.RecordBytes", spec := "recordBytes", unfollowed := true, recurses := true, apart := false }
def RecordBytesSaid : Prop := recordBytesRow.holds Try.pinned (OpenSpec.ofChange recordBytesSpec)

/-- ITS FALSE NEIGHBOUR: 'it returns false'. Refute it at one input. -/
def recordBytesWrong : ChangeSpec := { name := "recordBytes", fn := fun _ => fun
  | [d] => { results := [.lit (.bool false)], args := [d] }
  | _ => none }
def RecordBytesWrongFalsely : Prop := recordBytesRow.holds Try.pinned (OpenSpec.ofChange recordBytesWrong)

/-- 'cosmaclaw23.RecordDiffs': WHATEVER THE INPUT: true; the input reads as it did. -/
def recordDiffsSpec : ChangeSpec := { name := "recordDiffs", fn := fun _ => fun
  | [d1, d2, d3] => { results := [.lit (.bool true)], args := [d1, d2, d3] }
  | _ => none }
def recordDiffsRow : OpenClaim := { program := "ytgicjkjppnkodaa", sum := "cf203bbcdbd773fc3614f705fc71aabd4dffd532c0f6529e7311e226a3bbe9c8", func := "cosmac/cosmaclaw23.RecordDiffs", spec := "recordDiffs", unfollowed := true, recurses := true, apart := false }
def RecordDiffsSaid : Prop := recordDiffsRow.holds Try.pinned (OpenSpec.ofChange recordDiffsSpec)

/-- ITS FALSE NEIGHBOUR: 'it returns false'. Refute it at one input. -/
def recordDiffsWrong : ChangeSpec := { name := "recordDiffs", fn := fun _ => fun
  | [d1, d2, d3] => { results := [.lit (.bool false)], args := [d1, d2, d3] }
  | _ => none }
def RecordDiffsWrongFalsely : Prop := recordDiffsRow.holds Try.pinned (OpenSpec.ofChange recordDiffsWrong)

/-- 'cosmaclaw23.RecordSizes': WHATEVER THE INPUT: true; the input reads as it did. -/
def recordSizesSpec : ChangeSpec := { name := "recordSizes", fn := fun _ => fun
  | [d] => { results := [.lit (.bool true)], args := [d] }
  | _ => none }
def recordSizesRow : OpenClaim := { program := "ytgicjkjppnkodaa", sum := "cf203bbcdbd773fc3614f705fc71aabd4dffd532c0f6529e7311e226a3bbe9c8", func := "cosmac/cosmaclaw23.RecordSizes", spec := "recordSizes", unfollowed := true, recurses := true, apart := false }
def RecordSizesSaid : Prop := recordSizesRow.holds Try.pinned (OpenSpec.ofChange recordSizesSpec)

/-- ITS FALSE NEIGHBOUR: 'it returns false'. Refute it at one input. -/
def recordSizesWrong : ChangeSpec := { name := "recordSizes", fn := fun _ => fun
  | [d] => { results := [.lit (.bool false)], args := [d] }
  | _ => none }
def RecordSizesWrongFalsely : Prop := recordSizesRow.holds Try.pinned (OpenSpec.ofChange recordSizesWrong)

/- THE SECOND FORM. 'bulk': how many values and letters a reading holds, each counted each time it is reached (what is shared counts as often as it is met; a slice's spare places count too). A statement '..UptoSaid' is the law's where the arguments, and the package variables that the reading takes, are together of bulk at most 1048576: NARROWER than '..Said'. Prove '..Said' where nothing that the law and all that it calls make is longer than what came in: it says more and counts as full. Else prove '..UptoSaid'. A law counts once. -/
mutual
def uptoBulk {H : Type} : DataW H → Nat
  | .lit (.string bytes) => bytes.length + 1
  | .lit _ => 1
  | .nil => 1
  | .ptr d => uptoBulk d + 1
  | .slice elems spare => uptoBulkAll elems + uptoBulkAll spare + 1
  | .agg parts => uptoBulkAll parts + 1
  | .iface _ d => uptoBulk d + 1
  | .map entries => uptoBulkEntries entries + 1
  | .held _ => 1
def uptoBulkAll {H : Type} : List (DataW H) → Nat
  | [] => 0
  | d :: r => uptoBulk d + uptoBulkAll r
def uptoBulkEntries {H : Type} : List (Lit × DataW H) → Nat
  | [] => 0
  | x :: r => uptoBulkEntry x + uptoBulkEntries r
def uptoBulkEntry {H : Type} : Lit × DataW H → Nat
  | (.string bytes, d) => bytes.length + uptoBulk d + 1
  | (_, d) => uptoBulk d + 1
 end
def uptoSmall : (H : Type) → List (DataW H) → Bool := fun _ ds => decide (uptoBulkAll ds ≤ 1048576)
def OpenSpec.upto (s : _root_.Go.ChangeSpec) : _root_.Go.OpenSpec := { _root_.Go.OpenSpec.ofChange s with cond := some uptoSmall }

/-- 'cosmaclaw23.RecordMatchesReference', WHERE WHAT IT READS IS OF BULK AT MOST 1048576: true; the input reads as it did. -/
def recordMatchesReferenceUptoRow : OpenClaim := { program := "ytgicjkjppnkodaa", sum := "cf203bbcdbd773fc3614f705fc71aabd4dffd532c0f6529e7311e226a3bbe9c8", func := "cosmac/cosmaclaw23.RecordMatchesReference", spec := "recordMatchesReference", unfollowed := true, recurses := true, apart := false, narrowed := true }
def RecordMatchesReferenceUptoSaid : Prop := recordMatchesReferenceUptoRow.holds Try.pinned (OpenSpec.upto recordMatchesReferenceSpec)

/-- 'cosmaclaw23.RecordCanonical', WHERE WHAT IT READS IS OF BULK AT MOST 1048576: true; the input reads as it did. -/
def recordCanonicalUptoRow : OpenClaim := { program := "ytgicjkjppnkodaa", sum := "cf203bbcdbd773fc3614f705fc71aabd4dffd532c0f6529e7311e226a3bbe9c8", func := "cosmac/cosmaclaw23.RecordCanonical", spec := "recordCanonical", unfollowed := true, recurses := true, apart := false, narrowed := true }
def RecordCanonicalUptoSaid : Prop := recordCanonicalUptoRow.holds Try.pinned (OpenSpec.upto recordCanonicalSpec)

/-- 'cosmaclaw23.RecordBytes', WHERE WHAT IT READS IS OF BULK AT MOST 1048576: true; the input reads as it did. -/
def recordBytesUptoRow : OpenClaim := { program := "ytgicjkjppnkodaa", sum := "cf203bbcdbd773fc3614f705fc71aabd4dffd532c0f6529e7311e226a3bbe9c8", func := "cosmac/cosmaclaw23.RecordBytes", spec := "recordBytes", unfollowed := true, recurses := true, apart := false, narrowed := true }
def RecordBytesUptoSaid : Prop := recordBytesUptoRow.holds Try.pinned (OpenSpec.upto recordBytesSpec)

/-- 'cosmaclaw23.RecordDiffs', WHERE WHAT IT READS IS OF BULK AT MOST 1048576: true; the input reads as it did. -/
def recordDiffsUptoRow : OpenClaim := { program := "ytgicjkjppnkodaa", sum := "cf203bbcdbd773fc3614f705fc71aabd4dffd532c0f6529e7311e226a3bbe9c8", func := "cosmac/cosmaclaw23.RecordDiffs", spec := "recordDiffs", unfollowed := true, recurses := true, apart := false, narrowed := true }
def RecordDiffsUptoSaid : Prop := recordDiffsUptoRow.holds Try.pinned (OpenSpec.upto recordDiffsSpec)

/-- 'cosmaclaw23.RecordSizes', WHERE WHAT IT READS IS OF BULK AT MOST 1048576: true; the input reads as it did. -/
def recordSizesUptoRow : OpenClaim := { program := "ytgicjkjppnkodaa", sum := "cf203bbcdbd773fc3614f705fc71aabd4dffd532c0f6529e7311e226a3bbe9c8", func := "cosmac/cosmaclaw23.RecordSizes", spec := "recordSizes", unfollowed := true, recurses := true, apart := false, narrowed := true }
def RecordSizesUptoSaid : Prop := recordSizesUptoRow.holds Try.pinned (OpenSpec.upto recordSizesSpec)

end Rows
end Go.Proofs.Ytgicjkjppnkodaa
