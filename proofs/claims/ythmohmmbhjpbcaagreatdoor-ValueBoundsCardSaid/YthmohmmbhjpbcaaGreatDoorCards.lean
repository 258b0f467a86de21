/-
  DERIVED. GIVEN WITH THE SEED: THE CARDS: each row of YthmohmmbhjpbcaaGreatDoorRows.lean that lists a variable, with what it lists TIED to the program's text (the seventh form; the later family's looks); each row that meets fmt, with fmt's text TOLD by the authors' own Lean function (tested against real Go, not proved from fmt's source: count such statements apart). THE CARD IS WHAT COUNTS. Prove the row's statement (the work); the ties are given (YthmohmmbhjpbcaaGreatDoorTie.lean); close each card by the builder's one call (the guide's Derived/Test/ToyasCard.lean, 'card_holds'). Laid BY PROGRAM, IN A SANDBOX (cutbox-door.mjs). By AI agents, Wed Nov 11 2026. No macro, syntax, notation, axiom, sorry.
-/
import Derived.Test.YthmohmmbhjpbcaaGreatDoorRows
import GoSem.ClaimSeven
namespace Go.Proofs.YthmohmmbhjpbcaaGreatDoor
namespace Rows

/-- THE TIED CARD OF 'tollbarlaw08.ValueShows'. -/
def valueShowsCard : Claim7 := { stood := { row := valueShowsRow, standIns := [], harness := (true, "728f13a68302fb43a0bf473680bd5df1a5a1f564673656637b7cae9cb494131c"), looks := true }, kinds := [], alts := [], laidByText := true, laidKinds := [.data, .data, .data, .sentinel, .sentinel, .data], laidTests := true, laidLooks := .later }
def ValueShowsCardSaid : Prop := Claim7.holds Tryz.pinned (.plain (OpenSpec.ofChange valueShowsSpec)) valueShowsCard

/-- THE TIED CARD OF 'tollbarlaw08.ValueReads'. -/
def valueReadsCard : Claim7 := { stood := { row := valueReadsRow, standIns := [], harness := (true, "728f13a68302fb43a0bf473680bd5df1a5a1f564673656637b7cae9cb494131c"), looks := true }, kinds := [], alts := [], laidByText := true, laidKinds := [.data, .data, .data, .sentinel, .sentinel, .data], laidTests := true, laidLooks := .later }
def ValueReadsCardSaid : Prop := Claim7.holds Tryz.pinned (.plain (OpenSpec.ofChange valueReadsSpec)) valueReadsCard

/-- THE TIED CARD OF 'tollbarlaw08.ValueBounds'. -/
def valueBoundsCard : Claim7 := { stood := { row := valueBoundsRow, standIns := [], harness := (true, "728f13a68302fb43a0bf473680bd5df1a5a1f564673656637b7cae9cb494131c"), looks := true }, kinds := [], alts := [], laidByText := true, laidKinds := [.data, .data, .data, .sentinel, .sentinel, .data], laidTests := true, laidLooks := .later }
def ValueBoundsCardSaid : Prop := Claim7.holds Tryz.pinned (.plain (OpenSpec.ofChange valueBoundsSpec)) valueBoundsCard

/-- THE TIED CARD OF 'tollbarlaw08.ValueApart'. -/
def valueApartCard : Claim7 := { stood := { row := valueApartRow, standIns := [], harness := (true, "728f13a68302fb43a0bf473680bd5df1a5a1f564673656637b7cae9cb494131c"), looks := true }, kinds := [], alts := [], laidByText := true, laidKinds := [.data, .data, .data, .sentinel, .sentinel, .data], laidTests := true, laidLooks := .later }
def ValueApartCardSaid : Prop := Claim7.holds Tryz.pinned (.plain (OpenSpec.ofChange valueApartSpec)) valueApartCard

/-- THE SECOND FORM's CARD OF 'tollbarlaw08.ValueShows'. -/
def valueShowsUptoCard : Claim7 := { stood := { row := valueShowsUptoRow, standIns := [], harness := (true, "728f13a68302fb43a0bf473680bd5df1a5a1f564673656637b7cae9cb494131c"), looks := true }, kinds := [], alts := [], laidByText := true, laidKinds := [.data, .data, .data, .sentinel, .sentinel, .data], laidTests := true, laidLooks := .later }
def ValueShowsUptoCardSaid : Prop := Claim7.holds Tryz.pinned (.plain (OpenSpec.upto valueShowsSpec)) valueShowsUptoCard

/-- THE SECOND FORM's CARD OF 'tollbarlaw08.ValueReads'. -/
def valueReadsUptoCard : Claim7 := { stood := { row := valueReadsUptoRow, standIns := [], harness := (true, "728f13a68302fb43a0bf473680bd5df1a5a1f564673656637b7cae9cb494131c"), looks := true }, kinds := [], alts := [], laidByText := true, laidKinds := [.data, .data, .data, .sentinel, .sentinel, .data], laidTests := true, laidLooks := .later }
def ValueReadsUptoCardSaid : Prop := Claim7.holds Tryz.pinned (.plain (OpenSpec.upto valueReadsSpec)) valueReadsUptoCard

/-- THE SECOND FORM's CARD OF 'tollbarlaw08.ValueBounds'. -/
def valueBoundsUptoCard : Claim7 := { stood := { row := valueBoundsUptoRow, standIns := [], harness := (true, "728f13a68302fb43a0bf473680bd5df1a5a1f564673656637b7cae9cb494131c"), looks := true }, kinds := [], alts := [], laidByText := true, laidKinds := [.data, .data, .data, .sentinel, .sentinel, .data], laidTests := true, laidLooks := .later }
def ValueBoundsUptoCardSaid : Prop := Claim7.holds Tryz.pinned (.plain (OpenSpec.upto valueBoundsSpec)) valueBoundsUptoCard

/-- THE SECOND FORM's CARD OF 'tollbarlaw08.ValueApart'. -/
def valueApartUptoCard : Claim7 := { stood := { row := valueApartUptoRow, standIns := [], harness := (true, "728f13a68302fb43a0bf473680bd5df1a5a1f564673656637b7cae9cb494131c"), looks := true }, kinds := [], alts := [], laidByText := true, laidKinds := [.data, .data, .data, .sentinel, .sentinel, .data], laidTests := true, laidLooks := .later }
def ValueApartUptoCardSaid : Prop := Claim7.holds Tryz.pinned (.plain (OpenSpec.upto valueApartSpec)) valueApartUptoCard
end Rows
end Go.Proofs.YthmohmmbhjpbcaaGreatDoor
