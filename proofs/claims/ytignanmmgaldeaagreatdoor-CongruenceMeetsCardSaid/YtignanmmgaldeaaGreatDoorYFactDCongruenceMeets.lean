/- Lemmas for the proof. -/
import Derived.WalkKit
import Derived.ProofKit
import Derived.OpenShut
import Derived.ShutString
import Derived.SizedLaws
import Derived.Stop.LaidErr
import Derived.Lay
import Derived.Test.YtignanmmgaldeaaGreatDoorTie
import Derived.Test.YtignanmmgaldeaaGreatDoorCards
set_option linter.unusedVariables false
namespace Go.Proofs.YtignanmmgaldeaaGreatDoor.congruenceMeets
open Go.ChangeShapes Go.WideShapes Go.ChangeAt Go.RowKit
open Go.ChangeMaps (open_string shut_string)
theorem vW:(Rows.congruenceMeetsRow.wf (OpenSpec.ofChange Rows.congruenceMeetsSpec))=true:=by kernel_rfl
theorem vX:(laidOutB Tryz.pinned.checked.prog)=true:=by kernel_rfl
theorem closed2:(mapsRowed Tryz.pinned.checked.prog)=true:=by kernel_rfl
theorem vY:(Tryz.f15.params.all (Tryz.pinned.checked.prog.readableRec ·))=true:=by kernel_rfl
theorem vZ:(namedTie Tryz.pinned.checked.prog Rows.congruenceMeetsRow.named Rows.congruenceMeetsSpec.vars)=true:=by kernel_rfl
theorem closed5:((Rows.congruenceMeetsRow.stops== []))=true:=by kernel_rfl
theorem wB:((Tryz.pinned.checked.prog.stops== []))=true:=by kernel_rfl
theorem wC:((Rows.congruenceMeetsRow.knobs== []))=true:=by kernel_rfl
theorem wE:((Tryz.pinned.checked.prog.stopKnobs== []))=true:=by kernel_rfl
theorem wF:((Rows.congruenceMeetsRow.inPlace==Tryz.pinned.checked.prog.inPlace 15))=true:=by kernel_rfl
theorem sS:((Rows.congruenceMeetsRow.unfollowed==Tryz.pinned.checked.prog.unfollowed 15))=true:=by kernel_rfl
end Go.Proofs.YtignanmmgaldeaaGreatDoor.congruenceMeets
