/- Lemmas for the proof. -/
import Derived.WalkKit
import Derived.ProofKit
import Derived.OpenShut
import Derived.ShutString
import Derived.SizedLaws
import Derived.Stop.LaidErr
import Derived.Lay
import Derived.Test.YtignanmmgaldeaaGreatDoorTie
import Derived.Test.YtignanmmgaldeaaGreatDoorCards
set_option linter.unusedVariables false
namespace Go.Proofs.YtignanmmgaldeaaGreatDoor.congruenceComputes
open Go.ChangeShapes Go.WideShapes Go.ChangeAt Go.RowKit
open Go.ChangeMaps (open_string shut_string)
theorem wP:((Rows.congruenceComputesRow.recurses==Tryz.pinned.checked.prog.recurses 9))=true:=by kernel_rfl
theorem wQ:((Rows.congruenceComputesRow.named==Tryz.pinned.checked.prog.varsNamed 9))=true:=by kernel_rfl
theorem wR:((Rows.congruenceComputesRow.maps==(Tryz.f9.params.toList++Rows.congruenceComputesSpec.plain.varTypes Tryz.pinned.checked.prog).any (Tryz.pinned.checked.prog.mapsRec ·)))=true:=by kernel_rfl
theorem wS:((Rows.congruenceComputesRow.ifaces==(Tryz.f9.params.toList++Rows.congruenceComputesSpec.plain.varTypes Tryz.pinned.checked.prog).any (Tryz.pinned.checked.prog.ifacesRec ·)))=true:=by kernel_rfl
theorem wU:((Rows.congruenceComputesRow.mapsOut==Tryz.pinned.checked.prog.mapsAmong Tryz.f9.resultTypes.toList))=true:=by kernel_rfl
theorem wV:((Rows.congruenceComputesRow.loops==(Tryz.f9.params.toList++Rows.congruenceComputesSpec.plain.varTypes Tryz.pinned.checked.prog).any (Tryz.pinned.checked.prog.loopsFrom ·)))=true:=by kernel_rfl
theorem wW:((Rows.congruenceComputesRow.wideKeys==(Tryz.f9.params.toList++Rows.congruenceComputesSpec.plain.varTypes Tryz.pinned.checked.prog++Tryz.f9.resultTypes.toList).any (Tryz.pinned.checked.prog.wideKeysFrom ·)))=true:=by kernel_rfl
theorem wX:(Rows.congruenceComputesSpec.vars.all (Tryz.pinned.checked.prog.varReadable ·))=true:=by kernel_rfl
theorem wY:(Tryz.f9.resultTypes.all (fun t=>Tryz.pinned.checked.prog.readableRec t&&decide (t<Tryz.pinned.checked.prog.types.size)))=true:=by kernel_rfl
theorem wZ:((Rows.congruenceComputesRow.ifacesOut==Tryz.f9.resultTypes.toList.any (Tryz.pinned.checked.prog.ifacesRec ·)))=true:=by kernel_rfl
theorem xA:((Rows.congruenceComputesRow.loopsOut==Tryz.f9.resultTypes.toList.any (Tryz.pinned.checked.prog.loopsFrom ·)))=true:=by kernel_rfl
theorem xC:((Rows.congruenceComputesRow.plainKeys==Tryz.pinned.checked.prog.plainKeys))=true:=by kernel_rfl
theorem xE:(Rows.congruenceComputesRow.shortTexts.isNone)=true:=by kernel_rfl
theorem xG:(Tryz.pinned.checked.prog.stopsHeard)=true:=by kernel_rfl
theorem xH:((Rows.congruenceComputesRow.kinds==(if Rows.congruenceComputesRow.domain.isEmpty then[] else Tryz.f9.params.toList.map fun t=>match Tryz.pinned.checked.prog.underlying t with |some (.int k)=>some k|_=>none)))=true:=by kernel_rfl
theorem xI:((Rows.congruenceComputesRow.pinned==Rows.congruenceComputesRow.pinnedBy))=true:=by kernel_rfl
theorem xJ:((Rows.congruenceComputesRow.veiled==(Tryz.f9.params.toList++Rows.congruenceComputesSpec.plain.varTypes Tryz.pinned.checked.prog++Tryz.f9.resultTypes.toList).any (Tryz.pinned.checked.prog.veiledRec ·)))=true:=by kernel_rfl
theorem xK:(Rows.congruenceComputesRow.veiledFits Tryz.pinned.checked.prog Tryz.f9.params.toList (Tryz.f9.params.toList++Rows.congruenceComputesSpec.plain.varTypes Tryz.pinned.checked.prog++Tryz.f9.resultTypes.toList))=true:=by kernel_rfl
end Go.Proofs.YtignanmmgaldeaaGreatDoor.congruenceComputes
