/-
  DERIVED. GIVEN WITH THE SEED: THE CARDS: each row of YtooefkbecoopdaaDoorRows.lean that lists a variable, with what it lists TIED to the program's text (the seventh form; the later family's looks); each row that meets fmt, with fmt's text TOLD by the authors' own Lean function (tested against real Go, not proved from fmt's source: count such statements apart). THE CARD IS WHAT COUNTS. Prove the row's statement (the work); the ties are given (YtooefkbecoopdaaDoorTie.lean); close each card by the builder's one call (the guide's Derived/Test/ToyasCard.lean, 'card_holds'). Laid BY PROGRAM, IN A SANDBOX (cutbox-door.mjs). By AI agents, Wed Nov 11 2026. No macro, syntax, notation, axiom, sorry.
-/
import Derived.Test.YtooefkbecoopdaaDoorRows
import GoSem.ClaimSeven
namespace Go.Proofs.YtooefkbecoopdaaDoor
namespace Rows

/-- THE TIED CARD OF 'tollbarlaw15.PathShows'. -/
def pathShowsCard : Claim7 := { stood := { row := pathShowsRow, standIns := [], harness := (true, "f714fc7eb65ff91713e6b320bab7176fb35a1f1d846c41cc29dba627da83727f"), looks := false }, kinds := [], alts := [], laidByText := true, laidKinds := [.data, .pinned], laidTests := true, laidLooks := .later }
def PathShowsCardSaid : Prop := Claim7.holds Tryd.pinned (.plain (OpenSpec.ofChange pathShowsSpec)) pathShowsCard

/-- THE TIED CARD OF 'tollbarlaw15.PathFronts'. -/
def pathFrontsCard : Claim7 := { stood := { row := pathFrontsRow, standIns := [], harness := (true, "f714fc7eb65ff91713e6b320bab7176fb35a1f1d846c41cc29dba627da83727f"), looks := false }, kinds := [], alts := [], laidByText := true, laidKinds := [.data, .pinned], laidTests := true, laidLooks := .later }
def PathFrontsCardSaid : Prop := Claim7.holds Tryd.pinned (.plain (OpenSpec.ofChange pathFrontsSpec)) pathFrontsCard

/-- THE SECOND FORM's CARD OF 'tollbarlaw15.PathShows'. -/
def pathShowsUptoCard : Claim7 := { stood := { row := pathShowsUptoRow, standIns := [], harness := (true, "f714fc7eb65ff91713e6b320bab7176fb35a1f1d846c41cc29dba627da83727f"), looks := false }, kinds := [], alts := [], laidByText := true, laidKinds := [.data, .pinned], laidTests := true, laidLooks := .later }
def PathShowsUptoCardSaid : Prop := Claim7.holds Tryd.pinned (.plain (OpenSpec.upto pathShowsSpec)) pathShowsUptoCard

/-- THE SECOND FORM's CARD OF 'tollbarlaw15.PathFronts'. -/
def pathFrontsUptoCard : Claim7 := { stood := { row := pathFrontsUptoRow, standIns := [], harness := (true, "f714fc7eb65ff91713e6b320bab7176fb35a1f1d846c41cc29dba627da83727f"), looks := false }, kinds := [], alts := [], laidByText := true, laidKinds := [.data, .pinned], laidTests := true, laidLooks := .later }
def PathFrontsUptoCardSaid : Prop := Claim7.holds Tryd.pinned (.plain (OpenSpec.upto pathFrontsSpec)) pathFrontsUptoCard
end Rows
end Go.Proofs.YtooefkbecoopdaaDoor
