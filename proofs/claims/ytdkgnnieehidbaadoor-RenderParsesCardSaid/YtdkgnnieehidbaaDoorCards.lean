/-
  DERIVED. GIVEN WITH THE SEED: THE CARDS: each row of YtdkgnnieehidbaaDoorRows.lean that lists a variable, with what it lists TIED to the program's text (the seventh form; the later family's looks); each row that meets fmt, with fmt's text TOLD by the authors' own Lean function (tested against real Go, not proved from fmt's source: count such statements apart). THE CARD IS WHAT COUNTS. Prove the row's statement (the work); the ties are given (YtdkgnnieehidbaaDoorTie.lean); close each card by the builder's one call (the guide's Derived/Test/ToyasCard.lean, 'card_holds'). Laid BY PROGRAM, IN A SANDBOX (cutbox-door.mjs). By AI agents, Wed Nov 11 2026. No macro, syntax, notation, axiom, sorry.
-/
import Derived.Test.YtdkgnnieehidbaaDoorRows
import GoSem.ClaimSeven
namespace Go.Proofs.YtdkgnnieehidbaaDoor
namespace Rows

/-- THE TIED CARD OF 'cosmaclaw24.RenderMatchesReference'. -/
def renderMatchesReferenceCard : Claim7 := { stood := { row := renderMatchesReferenceRow, standIns := [], harness := (true, "933173fbe44128aeb07f7771f8d1d7fdbe2feeddf3f3792baf556deaab84f81c"), looks := false }, kinds := [], alts := [], laidByText := true, laidKinds := [.data, .data, .data, .data, .data], laidTests := true, laidLooks := .later }
def RenderMatchesReferenceCardSaid : Prop := Claim7.holds Tryd.pinned (.plain (OpenSpec.ofChange renderMatchesReferenceSpec)) renderMatchesReferenceCard

/-- THE TIED CARD OF 'cosmaclaw24.RenderInverse'. -/
def renderInverseCard : Claim7 := { stood := { row := renderInverseRow, standIns := [], harness := (true, "933173fbe44128aeb07f7771f8d1d7fdbe2feeddf3f3792baf556deaab84f81c"), looks := false }, kinds := [], alts := [], laidByText := true, laidKinds := [.data, .data, .data, .data, .data], laidTests := true, laidLooks := .later }
def RenderInverseCardSaid : Prop := Claim7.holds Tryd.pinned (.plain (OpenSpec.ofChange renderInverseSpec)) renderInverseCard

/-- THE TIED CARD OF 'cosmaclaw24.RenderParses'. -/
def renderParsesCard : Claim7 := { stood := { row := renderParsesRow, standIns := [], harness := (true, "933173fbe44128aeb07f7771f8d1d7fdbe2feeddf3f3792baf556deaab84f81c"), looks := false }, kinds := [], alts := [], laidByText := true, laidKinds := [.data, .data, .data, .data, .data], laidTests := true, laidLooks := .later }
def RenderParsesCardSaid : Prop := Claim7.holds Tryd.pinned (.plain (OpenSpec.ofChange renderParsesSpec)) renderParsesCard

/-- THE TIED CARD OF 'cosmaclaw24.RenderSizes'. -/
def renderSizesCard : Claim7 := { stood := { row := renderSizesRow, standIns := [], harness := (true, "933173fbe44128aeb07f7771f8d1d7fdbe2feeddf3f3792baf556deaab84f81c"), looks := false }, kinds := [], alts := [], laidByText := true, laidKinds := [.data, .data, .data, .data, .data], laidTests := true, laidLooks := .later }
def RenderSizesCardSaid : Prop := Claim7.holds Tryd.pinned (.plain (OpenSpec.ofChange renderSizesSpec)) renderSizesCard

/-- THE SECOND FORM's CARD OF 'cosmaclaw24.RenderMatchesReference'. -/
def renderMatchesReferenceUptoCard : Claim7 := { stood := { row := renderMatchesReferenceUptoRow, standIns := [], harness := (true, "933173fbe44128aeb07f7771f8d1d7fdbe2feeddf3f3792baf556deaab84f81c"), looks := false }, kinds := [], alts := [], laidByText := true, laidKinds := [.data, .data, .data, .data, .data], laidTests := true, laidLooks := .later }
def RenderMatchesReferenceUptoCardSaid : Prop := Claim7.holds Tryd.pinned (.plain (OpenSpec.upto renderMatchesReferenceSpec)) renderMatchesReferenceUptoCard

/-- THE SECOND FORM's CARD OF 'cosmaclaw24.RenderInverse'. -/
def renderInverseUptoCard : Claim7 := { stood := { row := renderInverseUptoRow, standIns := [], harness := (true, "933173fbe44128aeb07f7771f8d1d7fdbe2feeddf3f3792baf556deaab84f81c"), looks := false }, kinds := [], alts := [], laidByText := true, laidKinds := [.data, .data, .data, .data, .data], laidTests := true, laidLooks := .later }
def RenderInverseUptoCardSaid : Prop := Claim7.holds Tryd.pinned (.plain (OpenSpec.upto renderInverseSpec)) renderInverseUptoCard

/-- THE SECOND FORM's CARD OF 'cosmaclaw24.RenderParses'. -/
def renderParsesUptoCard : Claim7 := { stood := { row := renderParsesUptoRow, standIns := [], harness := (true, "933173fbe44128aeb07f7771f8d1d7fdbe2feeddf3f3792baf556deaab84f81c"), looks := false }, kinds := [], alts := [], laidByText := true, laidKinds := [.data, .data, .data, .data, .data], laidTests := true, laidLooks := .later }
def RenderParsesUptoCardSaid : Prop := Claim7.holds Tryd.pinned (.plain (OpenSpec.upto renderParsesSpec)) renderParsesUptoCard

/-- THE SECOND FORM's CARD OF 'cosmaclaw24.RenderSizes'. -/
def renderSizesUptoCard : Claim7 := { stood := { row := renderSizesUptoRow, standIns := [], harness := (true, "933173fbe44128aeb07f7771f8d1d7fdbe2feeddf3f3792baf556deaab84f81c"), looks := false }, kinds := [], alts := [], laidByText := true, laidKinds := [.data, .data, .data, .data, .data], laidTests := true, laidLooks := .later }
def RenderSizesUptoCardSaid : Prop := Claim7.holds Tryd.pinned (.plain (OpenSpec.upto renderSizesSpec)) renderSizesUptoCard
end Rows
end Go.Proofs.YtdkgnnieehidbaaDoor
