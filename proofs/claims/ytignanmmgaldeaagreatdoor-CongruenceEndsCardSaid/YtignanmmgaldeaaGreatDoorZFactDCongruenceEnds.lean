/- Lemmas for the proof. -/
import Derived.Test.YtignanmmgaldeaaGreatDoorZL
import Derived.Stop.LaidErr
import Derived.Lay
import Derived.Test.YtignanmmgaldeaaGreatDoorTie
import Derived.Test.YtignanmmgaldeaaGreatDoorCards
set_option linter.unusedVariables false
namespace Go.Proofs.YtignanmmgaldeaaGreatDoor.congruenceEnds
open Go.ChangeShapes Go.WideShapes Go.ChangeAt Go.RowKit
open Go.ChangeMaps (open_string shut_string)
theorem closed0:(Rows.congruenceEndsRow.wf (OpenSpec.ofChange Rows.congruenceEndsSpec))=true:=by kernel_rfl
theorem closed1:(laidOutB Tryz.pinned.checked.prog)=true:=by kernel_rfl
theorem closed2:(mapsRowed Tryz.pinned.checked.prog)=true:=by kernel_rfl
theorem closed3:(Tryz.f13.params.all (Tryz.pinned.checked.prog.readableRec ·))=true:=by kernel_rfl
theorem closed4:(namedTie Tryz.pinned.checked.prog Rows.congruenceEndsRow.named Rows.congruenceEndsSpec.vars)=true:=by kernel_rfl
theorem closed5:((Rows.congruenceEndsRow.stops== []))=true:=by kernel_rfl
theorem closed6:((Tryz.pinned.checked.prog.stops== []))=true:=by kernel_rfl
theorem closed7:((Rows.congruenceEndsRow.knobs== []))=true:=by kernel_rfl
theorem closed8:((Tryz.pinned.checked.prog.stopKnobs== []))=true:=by kernel_rfl
theorem closed9:((Rows.congruenceEndsRow.inPlace==Tryz.pinned.checked.prog.inPlace 13))=true:=by kernel_rfl
theorem closed10:((Rows.congruenceEndsRow.unfollowed==Tryz.pinned.checked.prog.unfollowed 13))=true:=by kernel_rfl
end Go.Proofs.YtignanmmgaldeaaGreatDoor.congruenceEnds
