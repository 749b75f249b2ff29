/- Plain functions, contracts and rows, written by a program of this session out of the translation (hprint.sh, over the kit's print). Lean checks them. -/
import Derived.Test.YtdepicgdbealpaaGreatDoorProg
import Derived.Below
import Derived.Deep.Draws
import Derived.Deep.AppendLies
import Derived.Maps.AppendAt
import Derived.OwnWalk
import Derived.Laws.BytesArg
import Derived.Laws.MakeOwn
import Derived.Laws.OwnMore
import Derived.Deep.OwnRows
import Derived.Tactics
import Derived.Lib.ConvBytes
import Derived.Laws.Slices
import Derived.WalkKit
import Derived.KernelRfl
import Derived.RowKit3
import Derived.Deep.LoopGhost
import Derived.Deep.QuietTactic
import Derived.BigQuiet
import Derived.WideLaws
import Derived.Deep.DeepCutAuto
import Derived.Deep.CutBlock
import Derived.Deep.RegionHeld3
import Derived.Laws.Rows
import Derived.Lib.AppendStr
import Derived.ArgAppend
import Derived.Laws.IdiomCopy
import Derived.OrdersHeld
import Derived.Laws.BitsLemmas
import Derived.RowKit
import Derived.Test.YtdepicgdbealpaaGreatDoorV4
import Derived.Test.YtdepicgdbealpaaGreatDoorV5
import Derived.Test.YtdepicgdbealpaaGreatDoorTold
import Derived.Test.YtdepicgdbealpaaGreatDoorWWords
import Derived.Test.YtdepicgdbealpaaGreatDoorWLast
import Derived.Test.YtdepicgdbealpaaGreatDoorWTab
import Derived.Test.YtdepicgdbealpaaGreatDoorWApart
import Derived.Test.YtdepicgdbealpaaGreatDoorWFoot
import Derived.Test.YtdepicgdbealpaaGreatDoorWKept
import Derived.Test.YtdepicgdbealpaaGreatDoorWShare
import Derived.Test.YtdepicgdbealpaaGreatDoorWN
import Derived.Test.YtdepicgdbealpaaGreatDoorWEqStruct
import Derived.Test.YtdepicgdbealpaaGreatDoorWRepsOne
import Derived.Test.YtdepicgdbealpaaGreatDoorWGuard
import Derived.Test.YtdepicgdbealpaaGreatDoorWMore
namespace Go.Proofs.YtdepicgdbealpaaGreatDoor.Y
open Go.RowKit Go.Proofs.YtdepicgdbealpaaGreatDoorW.PrintWords Go.Proofs.YtdepicgdbealpaaGreatDoorW.PrintLast Go.Proofs.YtdepicgdbealpaaGreatDoorW.PrintMore
attribute [local go_sem] max2_int min2_int max_two min_two max_three min_three max_four min_four   -- for this text's walks alone
set_option linter.unusedVariables false
set_option linter.unusedSimpArgs false

def errW : Option Int → Value
 | none => .nilIface
 | some c => .iface 0 (.int .i64 c)
theorem errW_none : errW none = .nilIface := rfl
theorem errW_some (c : Int) : errW (some c) = .iface 0 (.int .i64 c) := rfl

-- the values' own types

end Go.Proofs.YtdepicgdbealpaaGreatDoor.Y
