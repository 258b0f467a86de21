-- laid by a program of this session (pp.sh) out of the translation
import Derived.Test.YtdlkjcginamemaaDoorProg
import Derived.Test.YtdlkjcginamemaaDoorShelf
import Derived.Test.YtdlkjcginamemaaDoorScalarRate
import Derived.Below
import Derived.Deep.Draws
import Derived.Deep.AppendLies
import Derived.Maps.AppendAt
import Derived.OwnWalk
import Derived.Laws.BytesArg
import Derived.Laws.MakeOwn
import Derived.Laws.OwnMore
import Derived.Deep.OwnRows
import Derived.Tactics
import Derived.Lib.ConvBytes
import Derived.Laws.Slices
import Derived.WalkKit
import Derived.KernelRfl
import Derived.RowKit3
import Derived.Deep.LoopGhost
import Derived.Deep.QuietTactic
import Derived.BigQuiet
import Derived.WideLaws
import Derived.Deep.DeepCutAuto
import Derived.Deep.CutBlock
import Derived.Deep.RegionHeld3
import Derived.Laws.Rows
import Derived.Lib.AppendStr
import Derived.ArgAppend
import Derived.Laws.IdiomCopy
import Derived.OrdersHeld
import Derived.Laws.BitsLemmas
import Derived.RowKit
import Derived.Test.YtdlkjcginamemaaDoorWWords
import Derived.Test.YtdlkjcginamemaaDoorWLast
import Derived.Test.YtdlkjcginamemaaDoorWTab
import Derived.Test.YtdlkjcginamemaaDoorWFour
import Derived.Test.YtdlkjcginamemaaDoorWQPut
import Derived.Test.YtdlkjcginamemaaDoorWApart
import Derived.Test.YtdlkjcginamemaaDoorWArr
import Derived.Test.YtdlkjcginamemaaDoorWZeros
import Derived.Test.YtdlkjcginamemaaDoorWFoot
import Derived.Test.YtdlkjcginamemaaDoorWKept
import Derived.Test.YtdlkjcginamemaaDoorWShare
import Derived.Test.YtdlkjcginamemaaDoorWN
import Derived.Test.YtdlkjcginamemaaDoorWFootNe
import Derived.Test.YtdlkjcginamemaaDoorWAt
import Derived.Test.YtdlkjcginamemaaDoorWEqStruct
import Derived.Test.YtdlkjcginamemaaDoorWRepsOne
import Derived.Test.YtdlkjcginamemaaDoorWInv
import Derived.Test.YtdlkjcginamemaaDoorWInvWords
import Derived.Test.YtdlkjcginamemaaDoorWGuard
import Derived.Test.YtdlkjcginamemaaDoorWNEv
import Derived.Test.YtdlkjcginamemaaDoorWMore
namespace Go.Proofs.YtdlkjcginamemaaDoor.QScalar
open Go.RowKit Go.Proofs.YtdlkjcginamemaaDoorW.PrintWords Go.Proofs.YtdlkjcginamemaaDoorW.PrintLast Go.Proofs.YtdlkjcginamemaaDoorW.PrintMore
open Go.Proofs.YtdlkjcginamemaaDoor.Scalar (G gOf)
attribute [local go_sem] max2_int min2_int max_two min_two max_three min_three max_four min_four   -- for this text's walks alone
set_option linter.unusedVariables false
set_option linter.unusedSimpArgs false

theorem isEmpty_ne (l : List UInt8) : l.isEmpty = !(l != []) := by cases l <;> rfl


def errW : Option Int → Value
  | none => .nilIface
  | some c => .iface 0 (.int .i64 c)
theorem errW_none : errW none = .nilIface := rfl
theorem errW_some (c : Int) : errW (some c) = .iface 0 (.int .i64 c) := rfl

theorem info5 : (Tryd.prog.info? 5).map (fun i => (i.zero, i.size, i.bytes)) = some (some (.int .u8 0), 1, 1) := by kernel_rfl
-- the values' own types

end Go.Proofs.YtdlkjcginamemaaDoor.QScalar
