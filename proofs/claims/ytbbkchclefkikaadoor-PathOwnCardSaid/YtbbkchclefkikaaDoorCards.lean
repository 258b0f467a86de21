/-
  DERIVED. GIVEN WITH THE SEED: THE CARDS: each row of YtbbkchclefkikaaDoorRows.lean that lists a variable, with what it lists TIED to the program's text (the seventh form; the later family's looks); each row that meets fmt, with fmt's text TOLD by the authors' own Lean function (tested against real Go, not proved from fmt's source: count such statements apart). THE CARD IS WHAT COUNTS. Prove the row's statement (the work); the ties are given (YtbbkchclefkikaaDoorTie.lean); close each card by the builder's one call (the guide's Derived/Test/ToyasCard.lean, 'card_holds'). Laid BY PROGRAM, IN A SANDBOX (cutbox-door.mjs). By AI agents, Wed Nov 11 2026. No macro, syntax, notation, axiom, sorry.
-/
import Derived.Test.YtbbkchclefkikaaDoorRows
import GoSem.ClaimSeven
namespace Go.Proofs.YtbbkchclefkikaaDoor
namespace Rows

/-- THE TIED CARD OF 'tollbarlaw15.PathTells'. -/
def pathTellsCard : Claim7 := { stood := { row := pathTellsRow, standIns := [], harness := (true, "fda909ceec2be10ef093b5eb3d662446ccef708e6e5d95960622d78c599753fa"), looks := false }, kinds := [], alts := [], laidByText := true, laidKinds := [.data, .pinned], laidTests := true, laidLooks := .later }
def PathTellsCardSaid : Prop := Claim7.holds Tryd.pinned (.plain (OpenSpec.ofChange pathTellsSpec)) pathTellsCard

/-- THE TIED CARD OF 'tollbarlaw15.PathShows'. -/
def pathShowsCard : Claim7 := { stood := { row := pathShowsRow, standIns := [], harness := (true, "fda909ceec2be10ef093b5eb3d662446ccef708e6e5d95960622d78c599753fa"), looks := false }, kinds := [], alts := [], laidByText := true, laidKinds := [.data, .pinned], laidTests := true, laidLooks := .later }
def PathShowsCardSaid : Prop := Claim7.holds Tryd.pinned (.plain (OpenSpec.ofChange pathShowsSpec)) pathShowsCard

/-- THE TIED CARD OF 'tollbarlaw15.PathOwn'. -/
def pathOwnCard : Claim7 := { stood := { row := pathOwnRow, standIns := [], harness := (true, "fda909ceec2be10ef093b5eb3d662446ccef708e6e5d95960622d78c599753fa"), looks := false }, kinds := [], alts := [], laidByText := true, laidKinds := [.data, .pinned], laidTests := true, laidLooks := .later }
def PathOwnCardSaid : Prop := Claim7.holds Tryd.pinned (.plain (OpenSpec.ofChange pathOwnSpec)) pathOwnCard

/-- THE TIED CARD OF 'tollbarlaw15.PathFronts'. -/
def pathFrontsCard : Claim7 := { stood := { row := pathFrontsRow, standIns := [], harness := (true, "fda909ceec2be10ef093b5eb3d662446ccef708e6e5d95960622d78c599753fa"), looks := false }, kinds := [], alts := [], laidByText := true, laidKinds := [.data, .pinned], laidTests := true, laidLooks := .later }
def PathFrontsCardSaid : Prop := Claim7.holds Tryd.pinned (.plain (OpenSpec.ofChange pathFrontsSpec)) pathFrontsCard

/-- THE SECOND FORM's CARD OF 'tollbarlaw15.PathTells'. -/
def pathTellsUptoCard : Claim7 := { stood := { row := pathTellsUptoRow, standIns := [], harness := (true, "fda909ceec2be10ef093b5eb3d662446ccef708e6e5d95960622d78c599753fa"), looks := false }, kinds := [], alts := [], laidByText := true, laidKinds := [.data, .pinned], laidTests := true, laidLooks := .later }
def PathTellsUptoCardSaid : Prop := Claim7.holds Tryd.pinned (.plain (OpenSpec.upto pathTellsSpec)) pathTellsUptoCard

/-- THE SECOND FORM's CARD OF 'tollbarlaw15.PathShows'. -/
def pathShowsUptoCard : Claim7 := { stood := { row := pathShowsUptoRow, standIns := [], harness := (true, "fda909ceec2be10ef093b5eb3d662446ccef708e6e5d95960622d78c599753fa"), looks := false }, kinds := [], alts := [], laidByText := true, laidKinds := [.data, .pinned], laidTests := true, laidLooks := .later }
def PathShowsUptoCardSaid : Prop := Claim7.holds Tryd.pinned (.plain (OpenSpec.upto pathShowsSpec)) pathShowsUptoCard

/-- THE SECOND FORM's CARD OF 'tollbarlaw15.PathOwn'. -/
def pathOwnUptoCard : Claim7 := { stood := { row := pathOwnUptoRow, standIns := [], harness := (true, "fda909ceec2be10ef093b5eb3d662446ccef708e6e5d95960622d78c599753fa"), looks := false }, kinds := [], alts := [], laidByText := true, laidKinds := [.data, .pinned], laidTests := true, laidLooks := .later }
def PathOwnUptoCardSaid : Prop := Claim7.holds Tryd.pinned (.plain (OpenSpec.upto pathOwnSpec)) pathOwnUptoCard

/-- THE SECOND FORM's CARD OF 'tollbarlaw15.PathFronts'. -/
def pathFrontsUptoCard : Claim7 := { stood := { row := pathFrontsUptoRow, standIns := [], harness := (true, "fda909ceec2be10ef093b5eb3d662446ccef708e6e5d95960622d78c599753fa"), looks := false }, kinds := [], alts := [], laidByText := true, laidKinds := [.data, .pinned], laidTests := true, laidLooks := .later }
def PathFrontsUptoCardSaid : Prop := Claim7.holds Tryd.pinned (.plain (OpenSpec.upto pathFrontsSpec)) pathFrontsUptoCard
end Rows
end Go.Proofs.YtbbkchclefkikaaDoor
