/- Lemmas for the proof. -/
import Derived.Test.YtignanmmgaldeaaGreatDoorZL
import Derived.Stop.LaidErr
import Derived.Lay
import Derived.Test.YtignanmmgaldeaaGreatDoorTie
import Derived.Test.YtignanmmgaldeaaGreatDoorCards
set_option linter.unusedVariables false
namespace Go.Proofs.YtignanmmgaldeaaGreatDoor.congruenceEnds
open Go.ChangeShapes Go.WideShapes Go.ChangeAt Go.RowKit
open Go.ChangeMaps (open_string shut_string)
theorem closed26:((Rows.congruenceEndsRow.lifted==Tryz.pinned.checked.prog.liftsFinal))=true:=by kernel_rfl
end Go.Proofs.YtignanmmgaldeaaGreatDoor.congruenceEnds
