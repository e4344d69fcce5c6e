/-
  DERIVED. GIVEN WITH THE SEED: THE CARDS: each row of YtghjbnbkfohmlaaDoorRows.lean that lists a variable, with what it lists TIED to the program's text (the seventh form; the later family's looks); each row that meets fmt, with fmt's text TOLD by the authors' own Lean function (tested against real Go, not proved from fmt's source: count such statements apart). THE CARD IS WHAT COUNTS. Prove the row's statement (the work); the ties are given (YtghjbnbkfohmlaaDoorTie.lean); close each card by the builder's one call (the guide's Derived/Test/ToyasCard.lean, 'card_holds'). Laid BY PROGRAM, IN A SANDBOX (cutbox-door.mjs). By AI agents, Wed Nov 11 2026. No macro, syntax, notation, axiom, sorry.
-/
import Derived.Test.YtghjbnbkfohmlaaDoorRows
import GoSem.ClaimSeven
namespace Go.Proofs.YtghjbnbkfohmlaaDoor
namespace Rows

/-- THE TIED CARD OF 'cosmaclaw30.MacroKeeps'. -/
def macroKeepsCard : Claim7 := { stood := { row := macroKeepsRow, standIns := [], harness := (true, "3aa30ec0933b6f05d82194c1a3f2109078f52a8b5f69bc06c1063bf768d0bdb6"), looks := true }, kinds := [], alts := [], laidByText := true, laidKinds := [.data, .data, .data, .data, .sentinel, .sentinel, .data, .pinned], laidTests := true, laidLooks := .later }
def MacroKeepsCardSaid : Prop := Claim7.holds Tryd.pinned (.plain (OpenSpec.ofChange macroKeepsSpec)) macroKeepsCard

/-- THE TIED CARD OF 'cosmaclaw30.MacroTaps'. -/
def macroTapsCard : Claim7 := { stood := { row := macroTapsRow, standIns := [], harness := (true, "3aa30ec0933b6f05d82194c1a3f2109078f52a8b5f69bc06c1063bf768d0bdb6"), looks := true }, kinds := [], alts := [], laidByText := true, laidKinds := [.data, .data, .data, .data, .sentinel, .sentinel, .data, .pinned], laidTests := true, laidLooks := .later }
def MacroTapsCardSaid : Prop := Claim7.holds Tryd.pinned (.plain (OpenSpec.ofChange macroTapsSpec)) macroTapsCard

/-- THE TIED CARD OF 'cosmaclaw30.MacroMatchesReference'. -/
def macroMatchesReferenceCard : Claim7 := { stood := { row := macroMatchesReferenceRow, standIns := [], harness := (true, "3aa30ec0933b6f05d82194c1a3f2109078f52a8b5f69bc06c1063bf768d0bdb6"), looks := true }, kinds := [], alts := [], laidByText := true, laidKinds := [.data, .data, .data, .data, .sentinel, .sentinel, .data, .pinned], laidTests := true, laidLooks := .later }
def MacroMatchesReferenceCardSaid : Prop := Claim7.holds Tryd.pinned (.plain (OpenSpec.ofChange macroMatchesReferenceSpec)) macroMatchesReferenceCard

/-- THE TIED CARD OF 'cosmaclaw30.MacroInverse'. -/
def macroInverseCard : Claim7 := { stood := { row := macroInverseRow, standIns := [], harness := (true, "3aa30ec0933b6f05d82194c1a3f2109078f52a8b5f69bc06c1063bf768d0bdb6"), looks := true }, kinds := [], alts := [], laidByText := true, laidKinds := [.data, .data, .data, .data, .sentinel, .sentinel, .data, .pinned], laidTests := true, laidLooks := .later }
def MacroInverseCardSaid : Prop := Claim7.holds Tryd.pinned (.plain (OpenSpec.ofChange macroInverseSpec)) macroInverseCard

/-- THE TIED CARD OF 'cosmaclaw30.MacroSplits'. -/
def macroSplitsCard : Claim7 := { stood := { row := macroSplitsRow, standIns := [], harness := (true, "3aa30ec0933b6f05d82194c1a3f2109078f52a8b5f69bc06c1063bf768d0bdb6"), looks := true }, kinds := [], alts := [], laidByText := true, laidKinds := [.data, .data, .data, .data, .sentinel, .sentinel, .data, .pinned], laidTests := true, laidLooks := .later }
def MacroSplitsCardSaid : Prop := Claim7.holds Tryd.pinned (.plain (OpenSpec.ofChange macroSplitsSpec)) macroSplitsCard

/-- THE SECOND FORM's CARD OF 'cosmaclaw30.MacroKeeps'. -/
def macroKeepsUptoCard : Claim7 := { stood := { row := macroKeepsUptoRow, standIns := [], harness := (true, "3aa30ec0933b6f05d82194c1a3f2109078f52a8b5f69bc06c1063bf768d0bdb6"), looks := true }, kinds := [], alts := [], laidByText := true, laidKinds := [.data, .data, .data, .data, .sentinel, .sentinel, .data, .pinned], laidTests := true, laidLooks := .later }
def MacroKeepsUptoCardSaid : Prop := Claim7.holds Tryd.pinned (.plain (OpenSpec.upto macroKeepsSpec)) macroKeepsUptoCard

/-- THE SECOND FORM's CARD OF 'cosmaclaw30.MacroTaps'. -/
def macroTapsUptoCard : Claim7 := { stood := { row := macroTapsUptoRow, standIns := [], harness := (true, "3aa30ec0933b6f05d82194c1a3f2109078f52a8b5f69bc06c1063bf768d0bdb6"), looks := true }, kinds := [], alts := [], laidByText := true, laidKinds := [.data, .data, .data, .data, .sentinel, .sentinel, .data, .pinned], laidTests := true, laidLooks := .later }
def MacroTapsUptoCardSaid : Prop := Claim7.holds Tryd.pinned (.plain (OpenSpec.upto macroTapsSpec)) macroTapsUptoCard

/-- THE SECOND FORM's CARD OF 'cosmaclaw30.MacroMatchesReference'. -/
def macroMatchesReferenceUptoCard : Claim7 := { stood := { row := macroMatchesReferenceUptoRow, standIns := [], harness := (true, "3aa30ec0933b6f05d82194c1a3f2109078f52a8b5f69bc06c1063bf768d0bdb6"), looks := true }, kinds := [], alts := [], laidByText := true, laidKinds := [.data, .data, .data, .data, .sentinel, .sentinel, .data, .pinned], laidTests := true, laidLooks := .later }
def MacroMatchesReferenceUptoCardSaid : Prop := Claim7.holds Tryd.pinned (.plain (OpenSpec.upto macroMatchesReferenceSpec)) macroMatchesReferenceUptoCard

/-- THE SECOND FORM's CARD OF 'cosmaclaw30.MacroInverse'. -/
def macroInverseUptoCard : Claim7 := { stood := { row := macroInverseUptoRow, standIns := [], harness := (true, "3aa30ec0933b6f05d82194c1a3f2109078f52a8b5f69bc06c1063bf768d0bdb6"), looks := true }, kinds := [], alts := [], laidByText := true, laidKinds := [.data, .data, .data, .data, .sentinel, .sentinel, .data, .pinned], laidTests := true, laidLooks := .later }
def MacroInverseUptoCardSaid : Prop := Claim7.holds Tryd.pinned (.plain (OpenSpec.upto macroInverseSpec)) macroInverseUptoCard

/-- THE SECOND FORM's CARD OF 'cosmaclaw30.MacroSplits'. -/
def macroSplitsUptoCard : Claim7 := { stood := { row := macroSplitsUptoRow, standIns := [], harness := (true, "3aa30ec0933b6f05d82194c1a3f2109078f52a8b5f69bc06c1063bf768d0bdb6"), looks := true }, kinds := [], alts := [], laidByText := true, laidKinds := [.data, .data, .data, .data, .sentinel, .sentinel, .data, .pinned], laidTests := true, laidLooks := .later }
def MacroSplitsUptoCardSaid : Prop := Claim7.holds Tryd.pinned (.plain (OpenSpec.upto macroSplitsSpec)) macroSplitsUptoCard
end Rows
end Go.Proofs.YtghjbnbkfohmlaaDoor
