/- Lemmas for the proof. -/
import Derived.WalkKit
import Derived.ProofKit
import Derived.OpenShut
import Derived.ShutString
import Derived.SizedLaws
import Derived.Stop.LaidErr
import Derived.Lay
import Derived.Test.YtignanmmgaldeaaGreatDoorTie
import Derived.Test.YtignanmmgaldeaaGreatDoorCards
set_option linter.unusedVariables false
namespace Go.Proofs.YtignanmmgaldeaaGreatDoor.congruenceMeets
open Go.ChangeShapes Go.WideShapes Go.ChangeAt Go.RowKit
open Go.ChangeMaps (open_string shut_string)
theorem sU:((Rows.congruenceMeetsRow.recurses==Tryz.pinned.checked.prog.recurses 15))=true:=by kernel_rfl
theorem sV:((Rows.congruenceMeetsRow.named==Tryz.pinned.checked.prog.varsNamed 15))=true:=by kernel_rfl
theorem sW:((Rows.congruenceMeetsRow.maps==(Tryz.f15.params.toList++Rows.congruenceMeetsSpec.plain.varTypes Tryz.pinned.checked.prog).any (Tryz.pinned.checked.prog.mapsRec ·)))=true:=by kernel_rfl
theorem sZ:((Rows.congruenceMeetsRow.ifaces==(Tryz.f15.params.toList++Rows.congruenceMeetsSpec.plain.varTypes Tryz.pinned.checked.prog).any (Tryz.pinned.checked.prog.ifacesRec ·)))=true:=by kernel_rfl
theorem tC:((Rows.congruenceMeetsRow.mapsOut==Tryz.pinned.checked.prog.mapsAmong Tryz.f15.resultTypes.toList))=true:=by kernel_rfl
theorem tH:((Rows.congruenceMeetsRow.loops==(Tryz.f15.params.toList++Rows.congruenceMeetsSpec.plain.varTypes Tryz.pinned.checked.prog).any (Tryz.pinned.checked.prog.loopsFrom ·)))=true:=by kernel_rfl
theorem tJ:((Rows.congruenceMeetsRow.wideKeys==(Tryz.f15.params.toList++Rows.congruenceMeetsSpec.plain.varTypes Tryz.pinned.checked.prog++Tryz.f15.resultTypes.toList).any (Tryz.pinned.checked.prog.wideKeysFrom ·)))=true:=by kernel_rfl
theorem tK:(Rows.congruenceMeetsSpec.vars.all (Tryz.pinned.checked.prog.varReadable ·))=true:=by kernel_rfl
theorem tN:(Tryz.f15.resultTypes.all (fun t=>Tryz.pinned.checked.prog.readableRec t&&decide (t<Tryz.pinned.checked.prog.types.size)))=true:=by kernel_rfl
theorem tV:((Rows.congruenceMeetsRow.ifacesOut==Tryz.f15.resultTypes.toList.any (Tryz.pinned.checked.prog.ifacesRec ·)))=true:=by kernel_rfl
theorem tX:((Rows.congruenceMeetsRow.loopsOut==Tryz.f15.resultTypes.toList.any (Tryz.pinned.checked.prog.loopsFrom ·)))=true:=by kernel_rfl
theorem tY:((Rows.congruenceMeetsRow.plainKeys==Tryz.pinned.checked.prog.plainKeys))=true:=by kernel_rfl
theorem tZ:(Rows.congruenceMeetsRow.shortTexts.isNone)=true:=by kernel_rfl
theorem uA:(Tryz.pinned.checked.prog.stopsHeard)=true:=by kernel_rfl
theorem uB:((Rows.congruenceMeetsRow.kinds==(if Rows.congruenceMeetsRow.domain.isEmpty then[] else Tryz.f15.params.toList.map fun t=>match Tryz.pinned.checked.prog.underlying t with |some (.int k)=>some k|_=>none)))=true:=by kernel_rfl
theorem uC:((Rows.congruenceMeetsRow.pinned==Rows.congruenceMeetsRow.pinnedBy))=true:=by kernel_rfl
theorem uD:((Rows.congruenceMeetsRow.veiled==(Tryz.f15.params.toList++Rows.congruenceMeetsSpec.plain.varTypes Tryz.pinned.checked.prog++Tryz.f15.resultTypes.toList).any (Tryz.pinned.checked.prog.veiledRec ·)))=true:=by kernel_rfl
theorem uF:(Rows.congruenceMeetsRow.veiledFits Tryz.pinned.checked.prog Tryz.f15.params.toList (Tryz.f15.params.toList++Rows.congruenceMeetsSpec.plain.varTypes Tryz.pinned.checked.prog++Tryz.f15.resultTypes.toList))=true:=by kernel_rfl
end Go.Proofs.YtignanmmgaldeaaGreatDoor.congruenceMeets
