/- Lemmas for the proof. -/
import Derived.WalkKit
import Derived.ProofKit
import Derived.OpenShut
import Derived.ShutString
import Derived.SizedLaws
import Derived.Stop.LaidErr
import Derived.Lay
import Derived.Test.YtignanmmgaldeaaGreatDoorTie
import Derived.Test.YtignanmmgaldeaaGreatDoorCards
set_option linter.unusedVariables false
namespace Go.Proofs.YtignanmmgaldeaaGreatDoor.congruenceGrows
open Go.ChangeShapes Go.WideShapes Go.ChangeAt Go.RowKit
open Go.ChangeMaps (open_string shut_string)
theorem sU:((Rows.congruenceGrowsRow.recurses==Tryz.pinned.checked.prog.recurses 10))=true:=by kernel_rfl
theorem sV:((Rows.congruenceGrowsRow.named==Tryz.pinned.checked.prog.varsNamed 10))=true:=by kernel_rfl
theorem sW:((Rows.congruenceGrowsRow.maps==(Tryz.f10.params.toList++Rows.congruenceGrowsSpec.plain.varTypes Tryz.pinned.checked.prog).any (Tryz.pinned.checked.prog.mapsRec ·)))=true:=by kernel_rfl
theorem sZ:((Rows.congruenceGrowsRow.ifaces==(Tryz.f10.params.toList++Rows.congruenceGrowsSpec.plain.varTypes Tryz.pinned.checked.prog).any (Tryz.pinned.checked.prog.ifacesRec ·)))=true:=by kernel_rfl
theorem tC:((Rows.congruenceGrowsRow.mapsOut==Tryz.pinned.checked.prog.mapsAmong Tryz.f10.resultTypes.toList))=true:=by kernel_rfl
theorem tH:((Rows.congruenceGrowsRow.loops==(Tryz.f10.params.toList++Rows.congruenceGrowsSpec.plain.varTypes Tryz.pinned.checked.prog).any (Tryz.pinned.checked.prog.loopsFrom ·)))=true:=by kernel_rfl
theorem tJ:((Rows.congruenceGrowsRow.wideKeys==(Tryz.f10.params.toList++Rows.congruenceGrowsSpec.plain.varTypes Tryz.pinned.checked.prog++Tryz.f10.resultTypes.toList).any (Tryz.pinned.checked.prog.wideKeysFrom ·)))=true:=by kernel_rfl
theorem tK:(Rows.congruenceGrowsSpec.vars.all (Tryz.pinned.checked.prog.varReadable ·))=true:=by kernel_rfl
theorem tN:(Tryz.f10.resultTypes.all (fun t=>Tryz.pinned.checked.prog.readableRec t&&decide (t<Tryz.pinned.checked.prog.types.size)))=true:=by kernel_rfl
theorem tV:((Rows.congruenceGrowsRow.ifacesOut==Tryz.f10.resultTypes.toList.any (Tryz.pinned.checked.prog.ifacesRec ·)))=true:=by kernel_rfl
theorem tX:((Rows.congruenceGrowsRow.loopsOut==Tryz.f10.resultTypes.toList.any (Tryz.pinned.checked.prog.loopsFrom ·)))=true:=by kernel_rfl
theorem tY:((Rows.congruenceGrowsRow.plainKeys==Tryz.pinned.checked.prog.plainKeys))=true:=by kernel_rfl
theorem tZ:(Rows.congruenceGrowsRow.shortTexts.isNone)=true:=by kernel_rfl
theorem uA:(Tryz.pinned.checked.prog.stopsHeard)=true:=by kernel_rfl
theorem uB:((Rows.congruenceGrowsRow.kinds==(if Rows.congruenceGrowsRow.domain.isEmpty then[] else Tryz.f10.params.toList.map fun t=>match Tryz.pinned.checked.prog.underlying t with |some (.int k)=>some k|_=>none)))=true:=by kernel_rfl
theorem uC:((Rows.congruenceGrowsRow.pinned==Rows.congruenceGrowsRow.pinnedBy))=true:=by kernel_rfl
theorem uD:((Rows.congruenceGrowsRow.veiled==(Tryz.f10.params.toList++Rows.congruenceGrowsSpec.plain.varTypes Tryz.pinned.checked.prog++Tryz.f10.resultTypes.toList).any (Tryz.pinned.checked.prog.veiledRec ·)))=true:=by kernel_rfl
theorem uF:(Rows.congruenceGrowsRow.veiledFits Tryz.pinned.checked.prog Tryz.f10.params.toList (Tryz.f10.params.toList++Rows.congruenceGrowsSpec.plain.varTypes Tryz.pinned.checked.prog++Tryz.f10.resultTypes.toList))=true:=by kernel_rfl
end Go.Proofs.YtignanmmgaldeaaGreatDoor.congruenceGrows
