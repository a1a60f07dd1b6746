/- Lemmas for the proof. -/
import Derived.WalkKit
import Derived.ProofKit
import Derived.OpenShut
import Derived.ShutString
import Derived.SizedLaws
import Derived.Stop.LaidErr
import Derived.Lay
import Derived.Test.YtignanmmgaldeaaGreatDoorTie
import Derived.Test.YtignanmmgaldeaaGreatDoorCards
set_option linter.unusedVariables false
namespace Go.Proofs.YtignanmmgaldeaaGreatDoor.congruenceOrders
open Go.ChangeShapes Go.WideShapes Go.ChangeAt Go.RowKit
open Go.ChangeMaps (open_string shut_string)
theorem wP:((Rows.congruenceOrdersRow.recurses==Tryz.pinned.checked.prog.recurses 7))=true:=by kernel_rfl
theorem wQ:((Rows.congruenceOrdersRow.named==Tryz.pinned.checked.prog.varsNamed 7))=true:=by kernel_rfl
theorem wR:((Rows.congruenceOrdersRow.maps==(Tryz.f7.params.toList++Rows.congruenceOrdersSpec.plain.varTypes Tryz.pinned.checked.prog).any (Tryz.pinned.checked.prog.mapsRec ·)))=true:=by kernel_rfl
theorem wS:((Rows.congruenceOrdersRow.ifaces==(Tryz.f7.params.toList++Rows.congruenceOrdersSpec.plain.varTypes Tryz.pinned.checked.prog).any (Tryz.pinned.checked.prog.ifacesRec ·)))=true:=by kernel_rfl
theorem wU:((Rows.congruenceOrdersRow.mapsOut==Tryz.pinned.checked.prog.mapsAmong Tryz.f7.resultTypes.toList))=true:=by kernel_rfl
theorem wV:((Rows.congruenceOrdersRow.loops==(Tryz.f7.params.toList++Rows.congruenceOrdersSpec.plain.varTypes Tryz.pinned.checked.prog).any (Tryz.pinned.checked.prog.loopsFrom ·)))=true:=by kernel_rfl
theorem wW:((Rows.congruenceOrdersRow.wideKeys==(Tryz.f7.params.toList++Rows.congruenceOrdersSpec.plain.varTypes Tryz.pinned.checked.prog++Tryz.f7.resultTypes.toList).any (Tryz.pinned.checked.prog.wideKeysFrom ·)))=true:=by kernel_rfl
theorem wX:(Rows.congruenceOrdersSpec.vars.all (Tryz.pinned.checked.prog.varReadable ·))=true:=by kernel_rfl
theorem wY:(Tryz.f7.resultTypes.all (fun t=>Tryz.pinned.checked.prog.readableRec t&&decide (t<Tryz.pinned.checked.prog.types.size)))=true:=by kernel_rfl
theorem wZ:((Rows.congruenceOrdersRow.ifacesOut==Tryz.f7.resultTypes.toList.any (Tryz.pinned.checked.prog.ifacesRec ·)))=true:=by kernel_rfl
theorem xA:((Rows.congruenceOrdersRow.loopsOut==Tryz.f7.resultTypes.toList.any (Tryz.pinned.checked.prog.loopsFrom ·)))=true:=by kernel_rfl
theorem xC:((Rows.congruenceOrdersRow.plainKeys==Tryz.pinned.checked.prog.plainKeys))=true:=by kernel_rfl
theorem xE:(Rows.congruenceOrdersRow.shortTexts.isNone)=true:=by kernel_rfl
theorem xG:(Tryz.pinned.checked.prog.stopsHeard)=true:=by kernel_rfl
theorem xH:((Rows.congruenceOrdersRow.kinds==(if Rows.congruenceOrdersRow.domain.isEmpty then[] else Tryz.f7.params.toList.map fun t=>match Tryz.pinned.checked.prog.underlying t with |some (.int k)=>some k|_=>none)))=true:=by kernel_rfl
theorem xI:((Rows.congruenceOrdersRow.pinned==Rows.congruenceOrdersRow.pinnedBy))=true:=by kernel_rfl
theorem xJ:((Rows.congruenceOrdersRow.veiled==(Tryz.f7.params.toList++Rows.congruenceOrdersSpec.plain.varTypes Tryz.pinned.checked.prog++Tryz.f7.resultTypes.toList).any (Tryz.pinned.checked.prog.veiledRec ·)))=true:=by kernel_rfl
theorem xK:(Rows.congruenceOrdersRow.veiledFits Tryz.pinned.checked.prog Tryz.f7.params.toList (Tryz.f7.params.toList++Rows.congruenceOrdersSpec.plain.varTypes Tryz.pinned.checked.prog++Tryz.f7.resultTypes.toList))=true:=by kernel_rfl
end Go.Proofs.YtignanmmgaldeaaGreatDoor.congruenceOrders
