/- Lemmas for the proof. -/
import Derived.WalkKit
import Derived.ProofKit
import Derived.OpenShut
import Derived.ShutString
import Derived.SizedLaws
import Derived.Stop.LaidErr
import Derived.Lay
import Derived.Test.YtignanmmgaldeaaGreatDoorTie
import Derived.Test.YtignanmmgaldeaaGreatDoorCards
set_option linter.unusedVariables false
namespace Go.Proofs.YtignanmmgaldeaaGreatDoor.congruenceSound
open Go.ChangeShapes Go.WideShapes Go.ChangeAt Go.RowKit
open Go.ChangeMaps (open_string shut_string)
theorem vW:(Rows.congruenceSoundRow.wf (OpenSpec.ofChange Rows.congruenceSoundSpec))=true:=by kernel_rfl
theorem vX:(laidOutB Tryz.pinned.checked.prog)=true:=by kernel_rfl
theorem closed2:(mapsRowed Tryz.pinned.checked.prog)=true:=by kernel_rfl
theorem vY:(Tryz.f14.params.all (Tryz.pinned.checked.prog.readableRec ·))=true:=by kernel_rfl
theorem vZ:(namedTie Tryz.pinned.checked.prog Rows.congruenceSoundRow.named Rows.congruenceSoundSpec.vars)=true:=by kernel_rfl
theorem closed5:((Rows.congruenceSoundRow.stops== []))=true:=by kernel_rfl
theorem wB:((Tryz.pinned.checked.prog.stops== []))=true:=by kernel_rfl
theorem wC:((Rows.congruenceSoundRow.knobs== []))=true:=by kernel_rfl
theorem wE:((Tryz.pinned.checked.prog.stopKnobs== []))=true:=by kernel_rfl
theorem wF:((Rows.congruenceSoundRow.inPlace==Tryz.pinned.checked.prog.inPlace 14))=true:=by kernel_rfl
theorem sS:((Rows.congruenceSoundRow.unfollowed==Tryz.pinned.checked.prog.unfollowed 14))=true:=by kernel_rfl
end Go.Proofs.YtignanmmgaldeaaGreatDoor.congruenceSound
