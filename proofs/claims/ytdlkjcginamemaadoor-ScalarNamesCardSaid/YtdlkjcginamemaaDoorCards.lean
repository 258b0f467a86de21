/-
  DERIVED. GIVEN WITH THE SEED: THE CARDS: each row of YtdlkjcginamemaaDoorRows.lean that lists a variable, with what it lists TIED to the program's text (the seventh form; the later family's looks); each row that meets fmt, with fmt's text TOLD by the authors' own Lean function (tested against real Go, not proved from fmt's source: count such statements apart). THE CARD IS WHAT COUNTS. Prove the row's statement (the work); the ties are given (YtdlkjcginamemaaDoorTie.lean); close each card by the builder's one call (the guide's Derived/Test/ToyasCard.lean, 'card_holds'). Laid BY PROGRAM, IN A SANDBOX (cutbox-door.mjs). By AI agents, Wed Nov 11 2026. No macro, syntax, notation, axiom, sorry.
-/
import Derived.Test.YtdlkjcginamemaaDoorRows
import GoSem.ClaimSeven
namespace Go.Proofs.YtdlkjcginamemaaDoor
namespace Rows

/-- THE TIED CARD OF 'tollbarlaw06.ScalarReads'. -/
def scalarReadsCard : Claim7 := { stood := { row := scalarReadsRow, standIns := [], harness := (true, "a50411933cc3b8007c9023ee89a878cb44c1ab3c947a6100024f8506611cea9d"), looks := true }, kinds := [], alts := [], laidByText := true, laidKinds := [.data, .data, .data, .data, .sentinel, .sentinel, .data, .pinned], laidTests := true, laidLooks := .later }
def ScalarReadsCardSaid : Prop := Claim7.holds Tryd.pinned (.plain (OpenSpec.ofChange scalarReadsSpec)) scalarReadsCard

/-- THE TIED CARD OF 'tollbarlaw06.ScalarShows'. -/
def scalarShowsCard : Claim7 := { stood := { row := scalarShowsRow, standIns := [], harness := (true, "a50411933cc3b8007c9023ee89a878cb44c1ab3c947a6100024f8506611cea9d"), looks := true }, kinds := [], alts := [], laidByText := true, laidKinds := [.data, .data, .data, .data, .sentinel, .sentinel, .data, .pinned], laidTests := true, laidLooks := .later }
def ScalarShowsCardSaid : Prop := Claim7.holds Tryd.pinned (.plain (OpenSpec.ofChange scalarShowsSpec)) scalarShowsCard

/-- THE TIED CARD OF 'tollbarlaw06.ScalarUnits'. -/
def scalarUnitsCard : Claim7 := { stood := { row := scalarUnitsRow, standIns := [], harness := (true, "a50411933cc3b8007c9023ee89a878cb44c1ab3c947a6100024f8506611cea9d"), looks := true }, kinds := [], alts := [], laidByText := true, laidKinds := [.data, .data, .data, .data, .sentinel, .sentinel, .data, .pinned], laidTests := true, laidLooks := .later }
def ScalarUnitsCardSaid : Prop := Claim7.holds Tryd.pinned (.plain (OpenSpec.ofChange scalarUnitsSpec)) scalarUnitsCard

/-- THE TIED CARD OF 'tollbarlaw06.ScalarNames'. -/
def scalarNamesCard : Claim7 := { stood := { row := scalarNamesRow, standIns := [], harness := (true, "a50411933cc3b8007c9023ee89a878cb44c1ab3c947a6100024f8506611cea9d"), looks := true }, kinds := [], alts := [], laidByText := true, laidKinds := [.data, .data, .data, .data, .sentinel, .sentinel, .data, .pinned], laidTests := true, laidLooks := .later }
def ScalarNamesCardSaid : Prop := Claim7.holds Tryd.pinned (.plain (OpenSpec.ofChange scalarNamesSpec)) scalarNamesCard

/-- THE SECOND FORM's CARD OF 'tollbarlaw06.ScalarReads'. -/
def scalarReadsUptoCard : Claim7 := { stood := { row := scalarReadsUptoRow, standIns := [], harness := (true, "a50411933cc3b8007c9023ee89a878cb44c1ab3c947a6100024f8506611cea9d"), looks := true }, kinds := [], alts := [], laidByText := true, laidKinds := [.data, .data, .data, .data, .sentinel, .sentinel, .data, .pinned], laidTests := true, laidLooks := .later }
def ScalarReadsUptoCardSaid : Prop := Claim7.holds Tryd.pinned (.plain (OpenSpec.upto scalarReadsSpec)) scalarReadsUptoCard

/-- THE SECOND FORM's CARD OF 'tollbarlaw06.ScalarShows'. -/
def scalarShowsUptoCard : Claim7 := { stood := { row := scalarShowsUptoRow, standIns := [], harness := (true, "a50411933cc3b8007c9023ee89a878cb44c1ab3c947a6100024f8506611cea9d"), looks := true }, kinds := [], alts := [], laidByText := true, laidKinds := [.data, .data, .data, .data, .sentinel, .sentinel, .data, .pinned], laidTests := true, laidLooks := .later }
def ScalarShowsUptoCardSaid : Prop := Claim7.holds Tryd.pinned (.plain (OpenSpec.upto scalarShowsSpec)) scalarShowsUptoCard

/-- THE SECOND FORM's CARD OF 'tollbarlaw06.ScalarUnits'. -/
def scalarUnitsUptoCard : Claim7 := { stood := { row := scalarUnitsUptoRow, standIns := [], harness := (true, "a50411933cc3b8007c9023ee89a878cb44c1ab3c947a6100024f8506611cea9d"), looks := true }, kinds := [], alts := [], laidByText := true, laidKinds := [.data, .data, .data, .data, .sentinel, .sentinel, .data, .pinned], laidTests := true, laidLooks := .later }
def ScalarUnitsUptoCardSaid : Prop := Claim7.holds Tryd.pinned (.plain (OpenSpec.upto scalarUnitsSpec)) scalarUnitsUptoCard

/-- THE SECOND FORM's CARD OF 'tollbarlaw06.ScalarNames'. -/
def scalarNamesUptoCard : Claim7 := { stood := { row := scalarNamesUptoRow, standIns := [], harness := (true, "a50411933cc3b8007c9023ee89a878cb44c1ab3c947a6100024f8506611cea9d"), looks := true }, kinds := [], alts := [], laidByText := true, laidKinds := [.data, .data, .data, .data, .sentinel, .sentinel, .data, .pinned], laidTests := true, laidLooks := .later }
def ScalarNamesUptoCardSaid : Prop := Claim7.holds Tryd.pinned (.plain (OpenSpec.upto scalarNamesSpec)) scalarNamesUptoCard
end Rows
end Go.Proofs.YtdlkjcginamemaaDoor
