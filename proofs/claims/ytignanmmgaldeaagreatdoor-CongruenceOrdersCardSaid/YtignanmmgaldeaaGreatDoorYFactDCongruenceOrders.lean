/- Lemmas for the proof. -/
import Derived.WalkKit
import Derived.ProofKit
import Derived.OpenShut
import Derived.ShutString
import Derived.SizedLaws
import Derived.Stop.LaidErr
import Derived.Lay
import Derived.Test.YtignanmmgaldeaaGreatDoorTie
import Derived.Test.YtignanmmgaldeaaGreatDoorCards
set_option linter.unusedVariables false
namespace Go.Proofs.YtignanmmgaldeaaGreatDoor.congruenceOrders
open Go.ChangeShapes Go.WideShapes Go.ChangeAt Go.RowKit
open Go.ChangeMaps (open_string shut_string)
theorem zQ:(Rows.congruenceOrdersRow.wf (OpenSpec.ofChange Rows.congruenceOrdersSpec))=true:=by kernel_rfl
theorem zS:(laidOutB Tryz.pinned.checked.prog)=true:=by kernel_rfl
theorem closed2:(mapsRowed Tryz.pinned.checked.prog)=true:=by kernel_rfl
theorem zT:(Tryz.f7.params.all (Tryz.pinned.checked.prog.readableRec ·))=true:=by kernel_rfl
theorem zU:(namedTie Tryz.pinned.checked.prog Rows.congruenceOrdersRow.named Rows.congruenceOrdersSpec.vars)=true:=by kernel_rfl
theorem closed5:((Rows.congruenceOrdersRow.stops== []))=true:=by kernel_rfl
theorem zV:((Tryz.pinned.checked.prog.stops== []))=true:=by kernel_rfl
theorem zW:((Rows.congruenceOrdersRow.knobs== []))=true:=by kernel_rfl
theorem zX:((Tryz.pinned.checked.prog.stopKnobs== []))=true:=by kernel_rfl
theorem zY:((Rows.congruenceOrdersRow.inPlace==Tryz.pinned.checked.prog.inPlace 7))=true:=by kernel_rfl
theorem wO:((Rows.congruenceOrdersRow.unfollowed==Tryz.pinned.checked.prog.unfollowed 7))=true:=by kernel_rfl
end Go.Proofs.YtignanmmgaldeaaGreatDoor.congruenceOrders
