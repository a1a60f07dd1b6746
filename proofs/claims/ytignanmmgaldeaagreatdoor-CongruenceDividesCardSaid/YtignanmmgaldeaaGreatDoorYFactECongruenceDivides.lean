/- Lemmas for the proof. -/
import Derived.WalkKit
import Derived.ProofKit
import Derived.OpenShut
import Derived.ShutString
import Derived.SizedLaws
import Derived.Stop.LaidErr
import Derived.Lay
import Derived.Test.YtignanmmgaldeaaGreatDoorTie
import Derived.Test.YtignanmmgaldeaaGreatDoorCards
set_option linter.unusedVariables false
namespace Go.Proofs.YtignanmmgaldeaaGreatDoor.congruenceDivides
open Go.ChangeShapes Go.WideShapes Go.ChangeAt Go.RowKit
open Go.ChangeMaps (open_string shut_string)
theorem wP:((Rows.congruenceDividesRow.recurses==Tryz.pinned.checked.prog.recurses 6))=true:=by kernel_rfl
theorem wQ:((Rows.congruenceDividesRow.named==Tryz.pinned.checked.prog.varsNamed 6))=true:=by kernel_rfl
theorem wR:((Rows.congruenceDividesRow.maps==(Tryz.f6.params.toList++Rows.congruenceDividesSpec.plain.varTypes Tryz.pinned.checked.prog).any (Tryz.pinned.checked.prog.mapsRec ·)))=true:=by kernel_rfl
theorem wS:((Rows.congruenceDividesRow.ifaces==(Tryz.f6.params.toList++Rows.congruenceDividesSpec.plain.varTypes Tryz.pinned.checked.prog).any (Tryz.pinned.checked.prog.ifacesRec ·)))=true:=by kernel_rfl
theorem wU:((Rows.congruenceDividesRow.mapsOut==Tryz.pinned.checked.prog.mapsAmong Tryz.f6.resultTypes.toList))=true:=by kernel_rfl
theorem wV:((Rows.congruenceDividesRow.loops==(Tryz.f6.params.toList++Rows.congruenceDividesSpec.plain.varTypes Tryz.pinned.checked.prog).any (Tryz.pinned.checked.prog.loopsFrom ·)))=true:=by kernel_rfl
theorem wW:((Rows.congruenceDividesRow.wideKeys==(Tryz.f6.params.toList++Rows.congruenceDividesSpec.plain.varTypes Tryz.pinned.checked.prog++Tryz.f6.resultTypes.toList).any (Tryz.pinned.checked.prog.wideKeysFrom ·)))=true:=by kernel_rfl
theorem wX:(Rows.congruenceDividesSpec.vars.all (Tryz.pinned.checked.prog.varReadable ·))=true:=by kernel_rfl
theorem wY:(Tryz.f6.resultTypes.all (fun t=>Tryz.pinned.checked.prog.readableRec t&&decide (t<Tryz.pinned.checked.prog.types.size)))=true:=by kernel_rfl
theorem wZ:((Rows.congruenceDividesRow.ifacesOut==Tryz.f6.resultTypes.toList.any (Tryz.pinned.checked.prog.ifacesRec ·)))=true:=by kernel_rfl
theorem xA:((Rows.congruenceDividesRow.loopsOut==Tryz.f6.resultTypes.toList.any (Tryz.pinned.checked.prog.loopsFrom ·)))=true:=by kernel_rfl
theorem xC:((Rows.congruenceDividesRow.plainKeys==Tryz.pinned.checked.prog.plainKeys))=true:=by kernel_rfl
theorem xE:(Rows.congruenceDividesRow.shortTexts.isNone)=true:=by kernel_rfl
theorem xG:(Tryz.pinned.checked.prog.stopsHeard)=true:=by kernel_rfl
theorem xH:((Rows.congruenceDividesRow.kinds==(if Rows.congruenceDividesRow.domain.isEmpty then[] else Tryz.f6.params.toList.map fun t=>match Tryz.pinned.checked.prog.underlying t with |some (.int k)=>some k|_=>none)))=true:=by kernel_rfl
theorem xI:((Rows.congruenceDividesRow.pinned==Rows.congruenceDividesRow.pinnedBy))=true:=by kernel_rfl
theorem xJ:((Rows.congruenceDividesRow.veiled==(Tryz.f6.params.toList++Rows.congruenceDividesSpec.plain.varTypes Tryz.pinned.checked.prog++Tryz.f6.resultTypes.toList).any (Tryz.pinned.checked.prog.veiledRec ·)))=true:=by kernel_rfl
theorem xK:(Rows.congruenceDividesRow.veiledFits Tryz.pinned.checked.prog Tryz.f6.params.toList (Tryz.f6.params.toList++Rows.congruenceDividesSpec.plain.varTypes Tryz.pinned.checked.prog++Tryz.f6.resultTypes.toList))=true:=by kernel_rfl
end Go.Proofs.YtignanmmgaldeaaGreatDoor.congruenceDivides
