/- Lemmas for the proof. -/
import Derived.WalkKit
import Derived.ProofKit
import Derived.OpenShut
import Derived.ShutString
import Derived.SizedLaws
import Derived.Stop.LaidErr
import Derived.Lay
import Derived.Test.YtignanmmgaldeaaGreatDoorTie
import Derived.Test.YtignanmmgaldeaaGreatDoorCards
set_option linter.unusedVariables false
namespace Go.Proofs.YtignanmmgaldeaaGreatDoor.congruenceLattice
open Go.ChangeShapes Go.WideShapes Go.ChangeAt Go.RowKit
open Go.ChangeMaps (open_string shut_string)
theorem sU:((Rows.congruenceLatticeRow.recurses==Tryz.pinned.checked.prog.recurses 8))=true:=by kernel_rfl
theorem sV:((Rows.congruenceLatticeRow.named==Tryz.pinned.checked.prog.varsNamed 8))=true:=by kernel_rfl
theorem sW:((Rows.congruenceLatticeRow.maps==(Tryz.f8.params.toList++Rows.congruenceLatticeSpec.plain.varTypes Tryz.pinned.checked.prog).any (Tryz.pinned.checked.prog.mapsRec ·)))=true:=by kernel_rfl
theorem sZ:((Rows.congruenceLatticeRow.ifaces==(Tryz.f8.params.toList++Rows.congruenceLatticeSpec.plain.varTypes Tryz.pinned.checked.prog).any (Tryz.pinned.checked.prog.ifacesRec ·)))=true:=by kernel_rfl
theorem tC:((Rows.congruenceLatticeRow.mapsOut==Tryz.pinned.checked.prog.mapsAmong Tryz.f8.resultTypes.toList))=true:=by kernel_rfl
theorem tH:((Rows.congruenceLatticeRow.loops==(Tryz.f8.params.toList++Rows.congruenceLatticeSpec.plain.varTypes Tryz.pinned.checked.prog).any (Tryz.pinned.checked.prog.loopsFrom ·)))=true:=by kernel_rfl
theorem tJ:((Rows.congruenceLatticeRow.wideKeys==(Tryz.f8.params.toList++Rows.congruenceLatticeSpec.plain.varTypes Tryz.pinned.checked.prog++Tryz.f8.resultTypes.toList).any (Tryz.pinned.checked.prog.wideKeysFrom ·)))=true:=by kernel_rfl
theorem tK:(Rows.congruenceLatticeSpec.vars.all (Tryz.pinned.checked.prog.varReadable ·))=true:=by kernel_rfl
theorem tN:(Tryz.f8.resultTypes.all (fun t=>Tryz.pinned.checked.prog.readableRec t&&decide (t<Tryz.pinned.checked.prog.types.size)))=true:=by kernel_rfl
theorem tV:((Rows.congruenceLatticeRow.ifacesOut==Tryz.f8.resultTypes.toList.any (Tryz.pinned.checked.prog.ifacesRec ·)))=true:=by kernel_rfl
theorem tX:((Rows.congruenceLatticeRow.loopsOut==Tryz.f8.resultTypes.toList.any (Tryz.pinned.checked.prog.loopsFrom ·)))=true:=by kernel_rfl
theorem tY:((Rows.congruenceLatticeRow.plainKeys==Tryz.pinned.checked.prog.plainKeys))=true:=by kernel_rfl
theorem tZ:(Rows.congruenceLatticeRow.shortTexts.isNone)=true:=by kernel_rfl
theorem uA:(Tryz.pinned.checked.prog.stopsHeard)=true:=by kernel_rfl
theorem uB:((Rows.congruenceLatticeRow.kinds==(if Rows.congruenceLatticeRow.domain.isEmpty then[] else Tryz.f8.params.toList.map fun t=>match Tryz.pinned.checked.prog.underlying t with |some (.int k)=>some k|_=>none)))=true:=by kernel_rfl
theorem uC:((Rows.congruenceLatticeRow.pinned==Rows.congruenceLatticeRow.pinnedBy))=true:=by kernel_rfl
theorem uD:((Rows.congruenceLatticeRow.veiled==(Tryz.f8.params.toList++Rows.congruenceLatticeSpec.plain.varTypes Tryz.pinned.checked.prog++Tryz.f8.resultTypes.toList).any (Tryz.pinned.checked.prog.veiledRec ·)))=true:=by kernel_rfl
theorem uF:(Rows.congruenceLatticeRow.veiledFits Tryz.pinned.checked.prog Tryz.f8.params.toList (Tryz.f8.params.toList++Rows.congruenceLatticeSpec.plain.varTypes Tryz.pinned.checked.prog++Tryz.f8.resultTypes.toList))=true:=by kernel_rfl
end Go.Proofs.YtignanmmgaldeaaGreatDoor.congruenceLattice
