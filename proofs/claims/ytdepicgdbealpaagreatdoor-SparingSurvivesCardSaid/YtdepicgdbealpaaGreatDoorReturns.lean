/- The law SparingReturns returns true. -/
import Derived.Test.YtdepicgdbealpaaGreatDoorRt
import Derived.Test.YtdepicgdbealpaaGreatDoorFew
import Derived.Test.YtdepicgdbealpaaGreatDoorAwake
namespace Go.Proofs.YtdepicgdbealpaaGreatDoor.Enc
set_option linter.unusedVariables false
set_option linter.unusedSimpArgs false
open Go.RowKit Go.Lib Go.Proofs.YtdepicgdbealpaaGreatDoorW.PrintWords Go.Proofs.YtdepicgdbealpaaGreatDoorW.PrintLast Go.Proofs.YtdepicgdbealpaaGreatDoorW.PrintMore
open Go.Proofs.YtdepicgdbealpaaGreatDoor Go.Proofs.YtdepicgdbealpaaGreatDoor.V Go.Proofs.YtdepicgdbealpaaGreatDoor.Spare

theorem encG_ok (s : Int) (l : List S54) (loc : Int) (hv : validB s l = true) (hw : wordB loc = true) : encG s l loc = (blockB 0 1 loc (bodyF s l), 0) := by
 unfold encG encF
 rw [if_pos hv, if_pos hw]
end Go.Proofs.YtdepicgdbealpaaGreatDoor.Enc
