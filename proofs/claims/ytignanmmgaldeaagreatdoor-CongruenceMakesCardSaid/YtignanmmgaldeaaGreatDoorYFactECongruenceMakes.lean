/- Lemmas for the proof. -/
import Derived.WalkKit
import Derived.ProofKit
import Derived.OpenShut
import Derived.ShutString
import Derived.SizedLaws
import Derived.Stop.LaidErr
import Derived.Lay
import Derived.Test.YtignanmmgaldeaaGreatDoorTie
import Derived.Test.YtignanmmgaldeaaGreatDoorCards
set_option linter.unusedVariables false
namespace Go.Proofs.YtignanmmgaldeaaGreatDoor.congruenceMakes
open Go.ChangeShapes Go.WideShapes Go.ChangeAt Go.RowKit
open Go.ChangeMaps (open_string shut_string)
theorem wP:((Rows.congruenceMakesRow.recurses==Tryz.pinned.checked.prog.recurses 11))=true:=by kernel_rfl
theorem wQ:((Rows.congruenceMakesRow.named==Tryz.pinned.checked.prog.varsNamed 11))=true:=by kernel_rfl
theorem wR:((Rows.congruenceMakesRow.maps==(Tryz.f11.params.toList++Rows.congruenceMakesSpec.plain.varTypes Tryz.pinned.checked.prog).any (Tryz.pinned.checked.prog.mapsRec ·)))=true:=by kernel_rfl
theorem wS:((Rows.congruenceMakesRow.ifaces==(Tryz.f11.params.toList++Rows.congruenceMakesSpec.plain.varTypes Tryz.pinned.checked.prog).any (Tryz.pinned.checked.prog.ifacesRec ·)))=true:=by kernel_rfl
theorem wU:((Rows.congruenceMakesRow.mapsOut==Tryz.pinned.checked.prog.mapsAmong Tryz.f11.resultTypes.toList))=true:=by kernel_rfl
theorem wV:((Rows.congruenceMakesRow.loops==(Tryz.f11.params.toList++Rows.congruenceMakesSpec.plain.varTypes Tryz.pinned.checked.prog).any (Tryz.pinned.checked.prog.loopsFrom ·)))=true:=by kernel_rfl
theorem wW:((Rows.congruenceMakesRow.wideKeys==(Tryz.f11.params.toList++Rows.congruenceMakesSpec.plain.varTypes Tryz.pinned.checked.prog++Tryz.f11.resultTypes.toList).any (Tryz.pinned.checked.prog.wideKeysFrom ·)))=true:=by kernel_rfl
theorem wX:(Rows.congruenceMakesSpec.vars.all (Tryz.pinned.checked.prog.varReadable ·))=true:=by kernel_rfl
theorem wY:(Tryz.f11.resultTypes.all (fun t=>Tryz.pinned.checked.prog.readableRec t&&decide (t<Tryz.pinned.checked.prog.types.size)))=true:=by kernel_rfl
theorem wZ:((Rows.congruenceMakesRow.ifacesOut==Tryz.f11.resultTypes.toList.any (Tryz.pinned.checked.prog.ifacesRec ·)))=true:=by kernel_rfl
theorem xA:((Rows.congruenceMakesRow.loopsOut==Tryz.f11.resultTypes.toList.any (Tryz.pinned.checked.prog.loopsFrom ·)))=true:=by kernel_rfl
theorem xC:((Rows.congruenceMakesRow.plainKeys==Tryz.pinned.checked.prog.plainKeys))=true:=by kernel_rfl
theorem xE:(Rows.congruenceMakesRow.shortTexts.isNone)=true:=by kernel_rfl
theorem xG:(Tryz.pinned.checked.prog.stopsHeard)=true:=by kernel_rfl
theorem xH:((Rows.congruenceMakesRow.kinds==(if Rows.congruenceMakesRow.domain.isEmpty then[] else Tryz.f11.params.toList.map fun t=>match Tryz.pinned.checked.prog.underlying t with |some (.int k)=>some k|_=>none)))=true:=by kernel_rfl
theorem xI:((Rows.congruenceMakesRow.pinned==Rows.congruenceMakesRow.pinnedBy))=true:=by kernel_rfl
theorem xJ:((Rows.congruenceMakesRow.veiled==(Tryz.f11.params.toList++Rows.congruenceMakesSpec.plain.varTypes Tryz.pinned.checked.prog++Tryz.f11.resultTypes.toList).any (Tryz.pinned.checked.prog.veiledRec ·)))=true:=by kernel_rfl
theorem xK:(Rows.congruenceMakesRow.veiledFits Tryz.pinned.checked.prog Tryz.f11.params.toList (Tryz.f11.params.toList++Rows.congruenceMakesSpec.plain.varTypes Tryz.pinned.checked.prog++Tryz.f11.resultTypes.toList))=true:=by kernel_rfl
end Go.Proofs.YtignanmmgaldeaaGreatDoor.congruenceMakes
