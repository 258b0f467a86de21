/-
  DERIVED. GIVEN WITH THE SEED: THE CARDS: each row of YtdoifigogbdodaaGreatDoorRows.lean that lists a variable, with what it lists TIED to the program's text (the seventh form; the later family's looks); each row that meets fmt, with fmt's text TOLD by the authors' own Lean function (tested against real Go, not proved from fmt's source: count such statements apart). THE CARD IS WHAT COUNTS. Prove the row's statement (the work); the ties are given (YtdoifigogbdodaaGreatDoorTie.lean); close each card by the builder's one call (the guide's Derived/Test/ToyasCard.lean, 'card_holds'). Laid BY PROGRAM, IN A SANDBOX (cutbox-door.mjs). By AI agents, Wed Nov 11 2026. No macro, syntax, notation, axiom, sorry.
-/
import Derived.Test.YtdoifigogbdodaaGreatDoorRows
import GoSem.ClaimSeven
namespace Go.Proofs.YtdoifigogbdodaaGreatDoor
namespace Rows

/-- THE TIED CARD OF 'tollbarlaw33.WordsLines'. -/
def wordsLinesCard : Claim7 := { stood := { row := wordsLinesRow, standIns := [], harness := (true, "6ed3d3cfc73d228c521729e8d84883bf7d531e87e75554a7720933ea51646b60"), looks := true }, kinds := [], alts := [], laidByText := true, laidKinds := [.data, .data, .data, .data, .sentinel, .sentinel, .pinned], laidTests := true, laidLooks := .later }
def WordsLinesCardSaid : Prop := Claim7.holds Tryz.pinned (.plain (OpenSpec.ofChange wordsLinesSpec)) wordsLinesCard

/-- THE TIED CARD OF 'tollbarlaw33.WordsTells'. -/
def wordsTellsCard : Claim7 := { stood := { row := wordsTellsRow, standIns := [], harness := (true, "6ed3d3cfc73d228c521729e8d84883bf7d531e87e75554a7720933ea51646b60"), looks := true }, kinds := [], alts := [], laidByText := true, laidKinds := [.data, .data, .data, .data, .sentinel, .sentinel, .pinned], laidTests := true, laidLooks := .later }
def WordsTellsCardSaid : Prop := Claim7.holds Tryz.pinned (.plain (OpenSpec.ofChange wordsTellsSpec)) wordsTellsCard

/-- THE TIED CARD OF 'tollbarlaw33.WordsApart'. -/
def wordsApartCard : Claim7 := { stood := { row := wordsApartRow, standIns := [], harness := (true, "6ed3d3cfc73d228c521729e8d84883bf7d531e87e75554a7720933ea51646b60"), looks := true }, kinds := [], alts := [], laidByText := true, laidKinds := [.data, .data, .data, .data, .sentinel, .sentinel, .pinned], laidTests := true, laidLooks := .later }
def WordsApartCardSaid : Prop := Claim7.holds Tryz.pinned (.plain (OpenSpec.ofChange wordsApartSpec)) wordsApartCard

/-- THE TIED CARD OF 'tollbarlaw33.WordsWho'. -/
def wordsWhoCard : Claim7 := { stood := { row := wordsWhoRow, standIns := [], harness := (true, "6ed3d3cfc73d228c521729e8d84883bf7d531e87e75554a7720933ea51646b60"), looks := true }, kinds := [], alts := [], laidByText := true, laidKinds := [.data, .data, .data, .data, .sentinel, .sentinel, .pinned], laidTests := true, laidLooks := .later }
def WordsWhoCardSaid : Prop := Claim7.holds Tryz.pinned (.plain (OpenSpec.ofChange wordsWhoSpec)) wordsWhoCard

/-- THE SECOND FORM's CARD OF 'tollbarlaw33.WordsLines'. -/
def wordsLinesUptoCard : Claim7 := { stood := { row := wordsLinesUptoRow, standIns := [], harness := (true, "6ed3d3cfc73d228c521729e8d84883bf7d531e87e75554a7720933ea51646b60"), looks := true }, kinds := [], alts := [], laidByText := true, laidKinds := [.data, .data, .data, .data, .sentinel, .sentinel, .pinned], laidTests := true, laidLooks := .later }
def WordsLinesUptoCardSaid : Prop := Claim7.holds Tryz.pinned (.plain (OpenSpec.upto wordsLinesSpec)) wordsLinesUptoCard

/-- THE SECOND FORM's CARD OF 'tollbarlaw33.WordsTells'. -/
def wordsTellsUptoCard : Claim7 := { stood := { row := wordsTellsUptoRow, standIns := [], harness := (true, "6ed3d3cfc73d228c521729e8d84883bf7d531e87e75554a7720933ea51646b60"), looks := true }, kinds := [], alts := [], laidByText := true, laidKinds := [.data, .data, .data, .data, .sentinel, .sentinel, .pinned], laidTests := true, laidLooks := .later }
def WordsTellsUptoCardSaid : Prop := Claim7.holds Tryz.pinned (.plain (OpenSpec.upto wordsTellsSpec)) wordsTellsUptoCard

/-- THE SECOND FORM's CARD OF 'tollbarlaw33.WordsApart'. -/
def wordsApartUptoCard : Claim7 := { stood := { row := wordsApartUptoRow, standIns := [], harness := (true, "6ed3d3cfc73d228c521729e8d84883bf7d531e87e75554a7720933ea51646b60"), looks := true }, kinds := [], alts := [], laidByText := true, laidKinds := [.data, .data, .data, .data, .sentinel, .sentinel, .pinned], laidTests := true, laidLooks := .later }
def WordsApartUptoCardSaid : Prop := Claim7.holds Tryz.pinned (.plain (OpenSpec.upto wordsApartSpec)) wordsApartUptoCard

/-- THE SECOND FORM's CARD OF 'tollbarlaw33.WordsWho'. -/
def wordsWhoUptoCard : Claim7 := { stood := { row := wordsWhoUptoRow, standIns := [], harness := (true, "6ed3d3cfc73d228c521729e8d84883bf7d531e87e75554a7720933ea51646b60"), looks := true }, kinds := [], alts := [], laidByText := true, laidKinds := [.data, .data, .data, .data, .sentinel, .sentinel, .pinned], laidTests := true, laidLooks := .later }
def WordsWhoUptoCardSaid : Prop := Claim7.holds Tryz.pinned (.plain (OpenSpec.upto wordsWhoSpec)) wordsWhoUptoCard
end Rows
end Go.Proofs.YtdoifigogbdodaaGreatDoor
