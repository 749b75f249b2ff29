/- The reference's Valid, New and Encode are the program's. -/
import Derived.Test.YtdepicgdbealpaaGreatDoorBlk
import Derived.Test.YtdepicgdbealpaaGreatDoorV0
import Derived.Test.YtdepicgdbealpaaGreatDoorV4
import Derived.Test.YtdepicgdbealpaaGreatDoorPlain
namespace Go.Proofs.YtdepicgdbealpaaGreatDoor.Enc
set_option linter.unusedVariables false
set_option linter.unusedSimpArgs false
open Go.RowKit Go.Lib Go.Proofs.YtdepicgdbealpaaGreatDoorW.PrintWords Go.Proofs.YtdepicgdbealpaaGreatDoorW.PrintLast Go.Proofs.YtdepicgdbealpaaGreatDoorW.PrintMore
open Go.Proofs.YtdepicgdbealpaaGreatDoor Go.Proofs.YtdepicgdbealpaaGreatDoor.V Go.Proofs.YtdepicgdbealpaaGreatDoor.Spare

theorem word_iff (n : Int) : wordB n = true ↔ 0 ≤ n ∧ n < 4294967296 := by unfold wordB; simp

/-! ### Encode -/
end Go.Proofs.YtdepicgdbealpaaGreatDoor.Enc
