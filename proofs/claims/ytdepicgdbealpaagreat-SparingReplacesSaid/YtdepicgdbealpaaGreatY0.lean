/- Plain functions, contracts and rows, written by a program of this session out of the translation (hprint.sh, over the kit's print). Lean checks them. -/
import Derived.Test.YtdepicgdbealpaaGreatProg
import Derived.Below
import Derived.Deep.Draws
import Derived.Deep.AppendLies
import Derived.Maps.AppendAt
import Derived.OwnWalk
import Derived.Laws.BytesArg
import Derived.Laws.MakeOwn
import Derived.Laws.OwnMore
import Derived.Deep.OwnRows
import Derived.Tactics
import Derived.Lib.ConvBytes
import Derived.Laws.Slices
import Derived.WalkKit
import Derived.KernelRfl
import Derived.RowKit3
import Derived.Deep.LoopGhost
import Derived.Deep.QuietTactic
import Derived.BigQuiet
import Derived.WideLaws
import Derived.Deep.DeepCutAuto
import Derived.Deep.CutBlock
import Derived.Deep.RegionHeld3
import Derived.Laws.Rows
import Derived.Lib.AppendStr
import Derived.ArgAppend
import Derived.Laws.IdiomCopy
import Derived.OrdersHeld
import Derived.Laws.BitsLemmas
import Derived.RowKit
import Derived.Test.YtdepicgdbealpaaGreatV0
import Derived.Test.YtdepicgdbealpaaGreatV1
import Derived.Test.YtdepicgdbealpaaGreatV2
import Derived.Test.YtdepicgdbealpaaGreatV3
import Derived.Test.YtdepicgdbealpaaGreatV4
import Derived.Test.YtdepicgdbealpaaGreatV5
import Derived.Test.YtdepicgdbealpaaGreatV6
import Derived.Test.YtdepicgdbealpaaGreatV7
import Derived.Test.YtdepicgdbealpaaGreatV8
import Derived.Test.YtdepicgdbealpaaGreatV9
import Derived.Test.YtdepicgdbealpaaGreatV10
import Derived.Test.YtdepicgdbealpaaGreatV11
import Derived.Test.YtdepicgdbealpaaGreatV12
import Derived.Test.YtdepicgdbealpaaGreatV13
import Derived.Test.YtdepicgdbealpaaGreatTold
import Derived.Test.YtdepicgdbealpaaGreatWWords
import Derived.Test.YtdepicgdbealpaaGreatWLast
import Derived.Test.YtdepicgdbealpaaGreatWTab
import Derived.Test.YtdepicgdbealpaaGreatWApart
import Derived.Test.YtdepicgdbealpaaGreatWFoot
import Derived.Test.YtdepicgdbealpaaGreatWKept
import Derived.Test.YtdepicgdbealpaaGreatWShare
import Derived.Test.YtdepicgdbealpaaGreatWN
import Derived.Test.YtdepicgdbealpaaGreatWEqStruct
import Derived.Test.YtdepicgdbealpaaGreatWRepsOne
import Derived.Test.YtdepicgdbealpaaGreatWGuard
import Derived.Test.YtdepicgdbealpaaGreatWMore
namespace Go.Proofs.YtdepicgdbealpaaGreat.Y
open Go.RowKit Go.Proofs.YtdepicgdbealpaaGreatW.PrintWords Go.Proofs.YtdepicgdbealpaaGreatW.PrintLast Go.Proofs.YtdepicgdbealpaaGreatW.PrintMore
attribute [local go_sem] max2_int min2_int max_two min_two max_three min_three max_four min_four   -- for this text's walks alone
set_option linter.unusedVariables false
set_option linter.unusedSimpArgs false

def errW : Option Int → Value
  | none => .nilIface
  | some c => .iface 0 (.int .i64 c)
theorem errW_none : errW none = .nilIface := rfl
theorem errW_some (c : Int) : errW (some c) = .iface 0 (.int .i64 c) := rfl

-- the values' own types

end Go.Proofs.YtdepicgdbealpaaGreat.Y
