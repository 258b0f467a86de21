/-
  DERIVED. GIVEN WITH THE SEED: THE CARDS: each row of YtfoeekaanngoiaaDoorRows.lean that lists a variable, with what it lists TIED to the program's text (the seventh form; the later family's looks); each row that meets fmt, with fmt's text TOLD by the authors' own Lean function (tested against real Go, not proved from fmt's source: count such statements apart). THE CARD IS WHAT COUNTS. Prove the row's statement (the work); the ties are given (YtfoeekaanngoiaaDoorTie.lean); close each card by the builder's one call (the guide's Derived/Test/ToyasCard.lean, 'card_holds'). Laid BY PROGRAM, IN A SANDBOX (cutbox-door.mjs). By AI agents, Wed Nov 11 2026. No macro, syntax, notation, axiom, sorry.
-/
import Derived.Test.YtfoeekaanngoiaaDoorRows
import GoSem.ClaimSeven
namespace Go.Proofs.YtfoeekaanngoiaaDoor
namespace Rows

/-- THE TIED CARD OF 'tollbarlaw05.LexTells'. -/
def lexTellsCard : Claim7 := { stood := { row := lexTellsRow, standIns := [], harness := (true, "5167175692f6b8b96ff9e7e52c3486c89199b0647b4454650107781bc9e88a01"), looks := true }, kinds := [], alts := [], laidByText := true, laidKinds := [.data, .pinned], laidTests := true, laidLooks := .later }
def LexTellsCardSaid : Prop := Claim7.holds Tryd.pinned (.plain (OpenSpec.ofChange lexTellsSpec)) lexTellsCard

/-- THE TIED CARD OF 'tollbarlaw05.LexQuotes'. -/
def lexQuotesCard : Claim7 := { stood := { row := lexQuotesRow, standIns := [], harness := (true, "5167175692f6b8b96ff9e7e52c3486c89199b0647b4454650107781bc9e88a01"), looks := true }, kinds := [], alts := [], laidByText := true, laidKinds := [.data, .pinned], laidTests := true, laidLooks := .later }
def LexQuotesCardSaid : Prop := Claim7.holds Tryd.pinned (.plain (OpenSpec.ofChange lexQuotesSpec)) lexQuotesCard

/-- THE TIED CARD OF 'tollbarlaw05.LexBetween'. -/
def lexBetweenCard : Claim7 := { stood := { row := lexBetweenRow, standIns := [], harness := (true, "5167175692f6b8b96ff9e7e52c3486c89199b0647b4454650107781bc9e88a01"), looks := true }, kinds := [], alts := [], laidByText := true, laidKinds := [.data, .pinned], laidTests := true, laidLooks := .later }
def LexBetweenCardSaid : Prop := Claim7.holds Tryd.pinned (.plain (OpenSpec.ofChange lexBetweenSpec)) lexBetweenCard

/-- THE TIED CARD OF 'tollbarlaw05.LexFronts'. -/
def lexFrontsCard : Claim7 := { stood := { row := lexFrontsRow, standIns := [], harness := (true, "5167175692f6b8b96ff9e7e52c3486c89199b0647b4454650107781bc9e88a01"), looks := true }, kinds := [], alts := [], laidByText := true, laidKinds := [.data, .pinned], laidTests := true, laidLooks := .later }
def LexFrontsCardSaid : Prop := Claim7.holds Tryd.pinned (.plain (OpenSpec.ofChange lexFrontsSpec)) lexFrontsCard

/-- THE TIED CARD OF 'tollbarlaw05.LexJoins'. -/
def lexJoinsCard : Claim7 := { stood := { row := lexJoinsRow, standIns := [], harness := (true, "5167175692f6b8b96ff9e7e52c3486c89199b0647b4454650107781bc9e88a01"), looks := true }, kinds := [], alts := [], laidByText := true, laidKinds := [.data, .pinned], laidTests := true, laidLooks := .later }
def LexJoinsCardSaid : Prop := Claim7.holds Tryd.pinned (.plain (OpenSpec.ofChange lexJoinsSpec)) lexJoinsCard

/-- THE SECOND FORM's CARD OF 'tollbarlaw05.LexTells'. -/
def lexTellsUptoCard : Claim7 := { stood := { row := lexTellsUptoRow, standIns := [], harness := (true, "5167175692f6b8b96ff9e7e52c3486c89199b0647b4454650107781bc9e88a01"), looks := true }, kinds := [], alts := [], laidByText := true, laidKinds := [.data, .pinned], laidTests := true, laidLooks := .later }
def LexTellsUptoCardSaid : Prop := Claim7.holds Tryd.pinned (.plain (OpenSpec.upto lexTellsSpec)) lexTellsUptoCard

/-- THE SECOND FORM's CARD OF 'tollbarlaw05.LexQuotes'. -/
def lexQuotesUptoCard : Claim7 := { stood := { row := lexQuotesUptoRow, standIns := [], harness := (true, "5167175692f6b8b96ff9e7e52c3486c89199b0647b4454650107781bc9e88a01"), looks := true }, kinds := [], alts := [], laidByText := true, laidKinds := [.data, .pinned], laidTests := true, laidLooks := .later }
def LexQuotesUptoCardSaid : Prop := Claim7.holds Tryd.pinned (.plain (OpenSpec.upto lexQuotesSpec)) lexQuotesUptoCard

/-- THE SECOND FORM's CARD OF 'tollbarlaw05.LexBetween'. -/
def lexBetweenUptoCard : Claim7 := { stood := { row := lexBetweenUptoRow, standIns := [], harness := (true, "5167175692f6b8b96ff9e7e52c3486c89199b0647b4454650107781bc9e88a01"), looks := true }, kinds := [], alts := [], laidByText := true, laidKinds := [.data, .pinned], laidTests := true, laidLooks := .later }
def LexBetweenUptoCardSaid : Prop := Claim7.holds Tryd.pinned (.plain (OpenSpec.upto lexBetweenSpec)) lexBetweenUptoCard

/-- THE SECOND FORM's CARD OF 'tollbarlaw05.LexFronts'. -/
def lexFrontsUptoCard : Claim7 := { stood := { row := lexFrontsUptoRow, standIns := [], harness := (true, "5167175692f6b8b96ff9e7e52c3486c89199b0647b4454650107781bc9e88a01"), looks := true }, kinds := [], alts := [], laidByText := true, laidKinds := [.data, .pinned], laidTests := true, laidLooks := .later }
def LexFrontsUptoCardSaid : Prop := Claim7.holds Tryd.pinned (.plain (OpenSpec.upto lexFrontsSpec)) lexFrontsUptoCard

/-- THE SECOND FORM's CARD OF 'tollbarlaw05.LexJoins'. -/
def lexJoinsUptoCard : Claim7 := { stood := { row := lexJoinsUptoRow, standIns := [], harness := (true, "5167175692f6b8b96ff9e7e52c3486c89199b0647b4454650107781bc9e88a01"), looks := true }, kinds := [], alts := [], laidByText := true, laidKinds := [.data, .pinned], laidTests := true, laidLooks := .later }
def LexJoinsUptoCardSaid : Prop := Claim7.holds Tryd.pinned (.plain (OpenSpec.upto lexJoinsSpec)) lexJoinsUptoCard
end Rows
end Go.Proofs.YtfoeekaanngoiaaDoor
