/- Lemmas for the proof. -/
import Derived.WalkKit
import Derived.ProofKit
import Derived.OpenShut
import Derived.ShutString
import Derived.SizedLaws
import Derived.Stop.LaidErr
import Derived.Lay
import Derived.Test.YtignanmmgaldeaaGreatDoorTie
import Derived.Test.YtignanmmgaldeaaGreatDoorCards
set_option linter.unusedVariables false
namespace Go.Proofs.YtignanmmgaldeaaGreatDoor.congruenceChecks
open Go.ChangeShapes Go.WideShapes Go.ChangeAt Go.RowKit
open Go.ChangeMaps (open_string shut_string)
theorem wP:((Rows.congruenceChecksRow.recurses==Tryz.pinned.checked.prog.recurses 12))=true:=by kernel_rfl
theorem wQ:((Rows.congruenceChecksRow.named==Tryz.pinned.checked.prog.varsNamed 12))=true:=by kernel_rfl
theorem wR:((Rows.congruenceChecksRow.maps==(Tryz.f12.params.toList++Rows.congruenceChecksSpec.plain.varTypes Tryz.pinned.checked.prog).any (Tryz.pinned.checked.prog.mapsRec ·)))=true:=by kernel_rfl
theorem wS:((Rows.congruenceChecksRow.ifaces==(Tryz.f12.params.toList++Rows.congruenceChecksSpec.plain.varTypes Tryz.pinned.checked.prog).any (Tryz.pinned.checked.prog.ifacesRec ·)))=true:=by kernel_rfl
theorem wU:((Rows.congruenceChecksRow.mapsOut==Tryz.pinned.checked.prog.mapsAmong Tryz.f12.resultTypes.toList))=true:=by kernel_rfl
theorem wV:((Rows.congruenceChecksRow.loops==(Tryz.f12.params.toList++Rows.congruenceChecksSpec.plain.varTypes Tryz.pinned.checked.prog).any (Tryz.pinned.checked.prog.loopsFrom ·)))=true:=by kernel_rfl
theorem wW:((Rows.congruenceChecksRow.wideKeys==(Tryz.f12.params.toList++Rows.congruenceChecksSpec.plain.varTypes Tryz.pinned.checked.prog++Tryz.f12.resultTypes.toList).any (Tryz.pinned.checked.prog.wideKeysFrom ·)))=true:=by kernel_rfl
theorem wX:(Rows.congruenceChecksSpec.vars.all (Tryz.pinned.checked.prog.varReadable ·))=true:=by kernel_rfl
theorem wY:(Tryz.f12.resultTypes.all (fun t=>Tryz.pinned.checked.prog.readableRec t&&decide (t<Tryz.pinned.checked.prog.types.size)))=true:=by kernel_rfl
theorem wZ:((Rows.congruenceChecksRow.ifacesOut==Tryz.f12.resultTypes.toList.any (Tryz.pinned.checked.prog.ifacesRec ·)))=true:=by kernel_rfl
theorem xA:((Rows.congruenceChecksRow.loopsOut==Tryz.f12.resultTypes.toList.any (Tryz.pinned.checked.prog.loopsFrom ·)))=true:=by kernel_rfl
theorem xC:((Rows.congruenceChecksRow.plainKeys==Tryz.pinned.checked.prog.plainKeys))=true:=by kernel_rfl
theorem xE:(Rows.congruenceChecksRow.shortTexts.isNone)=true:=by kernel_rfl
theorem xG:(Tryz.pinned.checked.prog.stopsHeard)=true:=by kernel_rfl
theorem xH:((Rows.congruenceChecksRow.kinds==(if Rows.congruenceChecksRow.domain.isEmpty then[] else Tryz.f12.params.toList.map fun t=>match Tryz.pinned.checked.prog.underlying t with |some (.int k)=>some k|_=>none)))=true:=by kernel_rfl
theorem xI:((Rows.congruenceChecksRow.pinned==Rows.congruenceChecksRow.pinnedBy))=true:=by kernel_rfl
theorem xJ:((Rows.congruenceChecksRow.veiled==(Tryz.f12.params.toList++Rows.congruenceChecksSpec.plain.varTypes Tryz.pinned.checked.prog++Tryz.f12.resultTypes.toList).any (Tryz.pinned.checked.prog.veiledRec ·)))=true:=by kernel_rfl
theorem xK:(Rows.congruenceChecksRow.veiledFits Tryz.pinned.checked.prog Tryz.f12.params.toList (Tryz.f12.params.toList++Rows.congruenceChecksSpec.plain.varTypes Tryz.pinned.checked.prog++Tryz.f12.resultTypes.toList))=true:=by kernel_rfl
end Go.Proofs.YtignanmmgaldeaaGreatDoor.congruenceChecks
