/-
  No cell of these rows narrows 'for every input' (looked for: loops, veiled, ifaces, maps, wideKeys, modest, calm, conditions, laid).
  DERIVED. THE GIVEN ROWS OF THIS SEAT. 3 by the template 'for every input the law returns true; each argument reads behind the call as it read before'; 0 by the template 'total and deterministic' (their statements: YtlbmiphdipohlaaTotals.lean).
  GIVEN WITH THE SEED: the statements are not yours to turn. If you find one false, say at which input.
  Laid BY PROGRAM, IN A SANDBOX (cutbox-rows.mjs): the forced cells as the released guide's own fill.sh prints them over the translation 0141e31da7280231… (all of the seat's roots in one cut). By AI agents, Wed Nov 11 2026. No macro, syntax, notation, axiom, sorry.
-/
import Derived.Test.YtlbmiphdipohlaaChecked
import GoSem.Claim
import GoSem.ClaimJoined
import GoSem.ClaimMapViews
import Derived.JoinedTies
import Derived.KernelRfl
namespace Go.Proofs.Ytlbmiphdipohlaa
/- THE CELL 'sum', in the pinned program and in every row, IS THE sha256 OF THE DUMP (.gsa) THAT YtlbmiphdipohlaaProg.lean LOADS. Nothing in Lean hashes anything: it is a label: what it is worth is what the hold of that sum in a sandbox is worth. -/
noncomputable def Try.pinned : Pinned := { name := "ytlbmiphdipohlaa", sum := "0141e31da72802317dcec8daa1013406f629b1bdf171d81418ec0b46225cee75", checked := Try.checked }
namespace Rows
def none {H : Type} : Left H := { results := [], args := [] }

/-- 'tollbarlaw29.HoldDoes': WHATEVER THE INPUT: true; the input reads as it did. -/
def holdDoesSpec : ChangeSpec := { name := "holdDoes", fn := fun _ => fun
  | [d] => { results := [.lit (.bool true)], args := [d] }
  | _ => none }
def holdDoesRow : OpenClaim := { program := "ytlbmiphdipohlaa", sum := "0141e31da72802317dcec8daa1013406f629b1bdf171d81418ec0b46225cee75", func := "tollbar/tollbarlaw29.HoldDoes", spec := "holdDoes", apart := false }
def HoldDoesSaid : Prop := holdDoesRow.holds Try.pinned (OpenSpec.ofChange holdDoesSpec)

/-- ITS FALSE NEIGHBOUR: 'it returns false'. Refute it at one input. -/
def holdDoesWrong : ChangeSpec := { name := "holdDoes", fn := fun _ => fun
  | [d] => { results := [.lit (.bool false)], args := [d] }
  | _ => none }
def HoldDoesWrongFalsely : Prop := holdDoesRow.holds Try.pinned (OpenSpec.ofChange holdDoesWrong)

/-- 'tollbarlaw29.HoldOne': WHATEVER THE INPUT: true; the input reads as it did. -/
def holdOneSpec : ChangeSpec := { name := "holdOne", fn := fun _ => fun
  | [d1, d2, d3] => { results := [.lit (.bool true)], args := [d1, d2, d3] }
  | _ => none }
def holdOneRow : OpenClaim := { program := "ytlbmiphdipohlaa", sum := "0141e31da72802317dcec8daa1013406f629b1bdf171d81418ec0b46225cee75", func := "tollbar/tollbarlaw29.HoldOne", spec := "holdOne", apart := false }
def HoldOneSaid : Prop := holdOneRow.holds Try.pinned (OpenSpec.ofChange holdOneSpec)

/-- ITS FALSE NEIGHBOUR: 'it returns false'. Refute it at one input. -/
def holdOneWrong : ChangeSpec := { name := "holdOne", fn := fun _ => fun
  | [d1, d2, d3] => { results := [.lit (.bool false)], args := [d1, d2, d3] }
  | _ => none }
def HoldOneWrongFalsely : Prop := holdOneRow.holds Try.pinned (OpenSpec.ofChange holdOneWrong)

/-- 'tollbarlaw29.HoldTurns': WHATEVER THE INPUT: true; the input reads as it did. -/
def holdTurnsSpec : ChangeSpec := { name := "holdTurns", fn := fun _ => fun
  | [d] => { results := [.lit (.bool true)], args := [d] }
  | _ => none }
def holdTurnsRow : OpenClaim := { program := "ytlbmiphdipohlaa", sum := "0141e31da72802317dcec8daa1013406f629b1bdf171d81418ec0b46225cee75", func := "tollbar/tollbarlaw29.HoldTurns", spec := "holdTurns", apart := false }
def HoldTurnsSaid : Prop := holdTurnsRow.holds Try.pinned (OpenSpec.ofChange holdTurnsSpec)

/-- ITS FALSE NEIGHBOUR: 'it returns false'. Refute it at one input. -/
def holdTurnsWrong : ChangeSpec := { name := "holdTurns", fn := fun _ => fun
  | [d] => { results := [.lit (.bool false)], args := [d] }
  | _ => none }
def HoldTurnsWrongFalsely : Prop := holdTurnsRow.holds Try.pinned (OpenSpec.ofChange holdTurnsWrong)

/- THE SECOND FORM. 'bulk': how many values and letters a reading holds, each counted each time it is reached (what is shared counts as often as it is met; a slice's spare places count too). A statement '..UptoSaid' is the law's where the arguments, and the package variables that the reading takes, are together of bulk at most 1048576: NARROWER than '..Said'. Prove '..Said' where nothing that the law and all that it calls make is longer than what came in: it says more and counts as full. Else prove '..UptoSaid'. A law counts once. -/
mutual
def uptoBulk {H : Type} : DataW H → Nat
  | .lit (.string bytes) => bytes.length + 1
  | .lit _ => 1
  | .nil => 1
  | .ptr d => uptoBulk d + 1
  | .slice elems spare => uptoBulkAll elems + uptoBulkAll spare + 1
  | .agg parts => uptoBulkAll parts + 1
  | .iface _ d => uptoBulk d + 1
  | .map entries => uptoBulkEntries entries + 1
  | .held _ => 1
def uptoBulkAll {H : Type} : List (DataW H) → Nat
  | [] => 0
  | d :: r => uptoBulk d + uptoBulkAll r
def uptoBulkEntries {H : Type} : List (Lit × DataW H) → Nat
  | [] => 0
  | x :: r => uptoBulkEntry x + uptoBulkEntries r
def uptoBulkEntry {H : Type} : Lit × DataW H → Nat
  | (.string bytes, d) => bytes.length + uptoBulk d + 1
  | (_, d) => uptoBulk d + 1
 end
def uptoSmall : (H : Type) → List (DataW H) → Bool := fun _ ds => decide (uptoBulkAll ds ≤ 1048576)
def OpenSpec.upto (s : _root_.Go.ChangeSpec) : _root_.Go.OpenSpec := { _root_.Go.OpenSpec.ofChange s with cond := some uptoSmall }

/-- 'tollbarlaw29.HoldDoes', WHERE WHAT IT READS IS OF BULK AT MOST 1048576: true; the input reads as it did. -/
def holdDoesUptoRow : OpenClaim := { program := "ytlbmiphdipohlaa", sum := "0141e31da72802317dcec8daa1013406f629b1bdf171d81418ec0b46225cee75", func := "tollbar/tollbarlaw29.HoldDoes", spec := "holdDoes", apart := false, narrowed := true }
def HoldDoesUptoSaid : Prop := holdDoesUptoRow.holds Try.pinned (OpenSpec.upto holdDoesSpec)

/-- 'tollbarlaw29.HoldOne', WHERE WHAT IT READS IS OF BULK AT MOST 1048576: true; the input reads as it did. -/
def holdOneUptoRow : OpenClaim := { program := "ytlbmiphdipohlaa", sum := "0141e31da72802317dcec8daa1013406f629b1bdf171d81418ec0b46225cee75", func := "tollbar/tollbarlaw29.HoldOne", spec := "holdOne", apart := false, narrowed := true }
def HoldOneUptoSaid : Prop := holdOneUptoRow.holds Try.pinned (OpenSpec.upto holdOneSpec)

/-- 'tollbarlaw29.HoldTurns', WHERE WHAT IT READS IS OF BULK AT MOST 1048576: true; the input reads as it did. -/
def holdTurnsUptoRow : OpenClaim := { program := "ytlbmiphdipohlaa", sum := "0141e31da72802317dcec8daa1013406f629b1bdf171d81418ec0b46225cee75", func := "tollbar/tollbarlaw29.HoldTurns", spec := "holdTurns", apart := false, narrowed := true }
def HoldTurnsUptoSaid : Prop := holdTurnsUptoRow.holds Try.pinned (OpenSpec.upto holdTurnsSpec)

end Rows
end Go.Proofs.Ytlbmiphdipohlaa
