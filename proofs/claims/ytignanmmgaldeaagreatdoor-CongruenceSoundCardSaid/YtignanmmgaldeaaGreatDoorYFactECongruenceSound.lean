/- Lemmas for the proof. -/
import Derived.WalkKit
import Derived.ProofKit
import Derived.OpenShut
import Derived.ShutString
import Derived.SizedLaws
import Derived.Stop.LaidErr
import Derived.Lay
import Derived.Test.YtignanmmgaldeaaGreatDoorTie
import Derived.Test.YtignanmmgaldeaaGreatDoorCards
set_option linter.unusedVariables false
namespace Go.Proofs.YtignanmmgaldeaaGreatDoor.congruenceSound
open Go.ChangeShapes Go.WideShapes Go.ChangeAt Go.RowKit
open Go.ChangeMaps (open_string shut_string)
theorem sU:((Rows.congruenceSoundRow.recurses==Tryz.pinned.checked.prog.recurses 14))=true:=by kernel_rfl
theorem sV:((Rows.congruenceSoundRow.named==Tryz.pinned.checked.prog.varsNamed 14))=true:=by kernel_rfl
theorem sW:((Rows.congruenceSoundRow.maps==(Tryz.f14.params.toList++Rows.congruenceSoundSpec.plain.varTypes Tryz.pinned.checked.prog).any (Tryz.pinned.checked.prog.mapsRec ·)))=true:=by kernel_rfl
theorem sZ:((Rows.congruenceSoundRow.ifaces==(Tryz.f14.params.toList++Rows.congruenceSoundSpec.plain.varTypes Tryz.pinned.checked.prog).any (Tryz.pinned.checked.prog.ifacesRec ·)))=true:=by kernel_rfl
theorem tC:((Rows.congruenceSoundRow.mapsOut==Tryz.pinned.checked.prog.mapsAmong Tryz.f14.resultTypes.toList))=true:=by kernel_rfl
theorem tH:((Rows.congruenceSoundRow.loops==(Tryz.f14.params.toList++Rows.congruenceSoundSpec.plain.varTypes Tryz.pinned.checked.prog).any (Tryz.pinned.checked.prog.loopsFrom ·)))=true:=by kernel_rfl
theorem tJ:((Rows.congruenceSoundRow.wideKeys==(Tryz.f14.params.toList++Rows.congruenceSoundSpec.plain.varTypes Tryz.pinned.checked.prog++Tryz.f14.resultTypes.toList).any (Tryz.pinned.checked.prog.wideKeysFrom ·)))=true:=by kernel_rfl
theorem tK:(Rows.congruenceSoundSpec.vars.all (Tryz.pinned.checked.prog.varReadable ·))=true:=by kernel_rfl
theorem tN:(Tryz.f14.resultTypes.all (fun t=>Tryz.pinned.checked.prog.readableRec t&&decide (t<Tryz.pinned.checked.prog.types.size)))=true:=by kernel_rfl
theorem tV:((Rows.congruenceSoundRow.ifacesOut==Tryz.f14.resultTypes.toList.any (Tryz.pinned.checked.prog.ifacesRec ·)))=true:=by kernel_rfl
theorem tX:((Rows.congruenceSoundRow.loopsOut==Tryz.f14.resultTypes.toList.any (Tryz.pinned.checked.prog.loopsFrom ·)))=true:=by kernel_rfl
theorem tY:((Rows.congruenceSoundRow.plainKeys==Tryz.pinned.checked.prog.plainKeys))=true:=by kernel_rfl
theorem tZ:(Rows.congruenceSoundRow.shortTexts.isNone)=true:=by kernel_rfl
theorem uA:(Tryz.pinned.checked.prog.stopsHeard)=true:=by kernel_rfl
theorem uB:((Rows.congruenceSoundRow.kinds==(if Rows.congruenceSoundRow.domain.isEmpty then[] else Tryz.f14.params.toList.map fun t=>match Tryz.pinned.checked.prog.underlying t with |some (.int k)=>some k|_=>none)))=true:=by kernel_rfl
theorem uC:((Rows.congruenceSoundRow.pinned==Rows.congruenceSoundRow.pinnedBy))=true:=by kernel_rfl
theorem uD:((Rows.congruenceSoundRow.veiled==(Tryz.f14.params.toList++Rows.congruenceSoundSpec.plain.varTypes Tryz.pinned.checked.prog++Tryz.f14.resultTypes.toList).any (Tryz.pinned.checked.prog.veiledRec ·)))=true:=by kernel_rfl
theorem uF:(Rows.congruenceSoundRow.veiledFits Tryz.pinned.checked.prog Tryz.f14.params.toList (Tryz.f14.params.toList++Rows.congruenceSoundSpec.plain.varTypes Tryz.pinned.checked.prog++Tryz.f14.resultTypes.toList))=true:=by kernel_rfl
end Go.Proofs.YtignanmmgaldeaaGreatDoor.congruenceSound
