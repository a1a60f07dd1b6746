/- Lemmas for the proof. -/
import Derived.Test.YtignanmmgaldeaaGreatDoorZL
import Derived.Stop.LaidErr
import Derived.Lay
import Derived.Test.YtignanmmgaldeaaGreatDoorTie
import Derived.Test.YtignanmmgaldeaaGreatDoorCards
set_option linter.unusedVariables false
namespace Go.Proofs.YtignanmmgaldeaaGreatDoor.congruenceEnds
open Go.ChangeShapes Go.WideShapes Go.ChangeAt Go.RowKit
open Go.ChangeMaps (open_string shut_string)
theorem closed11:((Rows.congruenceEndsRow.recurses==Tryz.pinned.checked.prog.recurses 13))=true:=by kernel_rfl
theorem closed12:((Rows.congruenceEndsRow.named==Tryz.pinned.checked.prog.varsNamed 13))=true:=by kernel_rfl
theorem closed13:((Rows.congruenceEndsRow.maps==(Tryz.f13.params.toList++Rows.congruenceEndsSpec.plain.varTypes Tryz.pinned.checked.prog).any (Tryz.pinned.checked.prog.mapsRec ·)))=true:=by kernel_rfl
theorem closed14:((Rows.congruenceEndsRow.ifaces==(Tryz.f13.params.toList++Rows.congruenceEndsSpec.plain.varTypes Tryz.pinned.checked.prog).any (Tryz.pinned.checked.prog.ifacesRec ·)))=true:=by kernel_rfl
theorem closed15:((Rows.congruenceEndsRow.mapsOut==Tryz.pinned.checked.prog.mapsAmong Tryz.f13.resultTypes.toList))=true:=by kernel_rfl
theorem closed16:((Rows.congruenceEndsRow.loops==(Tryz.f13.params.toList++Rows.congruenceEndsSpec.plain.varTypes Tryz.pinned.checked.prog).any (Tryz.pinned.checked.prog.loopsFrom ·)))=true:=by kernel_rfl
theorem closed17:((Rows.congruenceEndsRow.wideKeys==(Tryz.f13.params.toList++Rows.congruenceEndsSpec.plain.varTypes Tryz.pinned.checked.prog++Tryz.f13.resultTypes.toList).any (Tryz.pinned.checked.prog.wideKeysFrom ·)))=true:=by kernel_rfl
theorem closed18:(Rows.congruenceEndsSpec.vars.all (Tryz.pinned.checked.prog.varReadable ·))=true:=by kernel_rfl
theorem closed19:(Tryz.f13.resultTypes.all (fun t=>Tryz.pinned.checked.prog.readableRec t&&decide (t<Tryz.pinned.checked.prog.types.size)))=true:=by kernel_rfl
theorem closed20:((Rows.congruenceEndsRow.ifacesOut==Tryz.f13.resultTypes.toList.any (Tryz.pinned.checked.prog.ifacesRec ·)))=true:=by kernel_rfl
theorem closed21:((Rows.congruenceEndsRow.loopsOut==Tryz.f13.resultTypes.toList.any (Tryz.pinned.checked.prog.loopsFrom ·)))=true:=by kernel_rfl
theorem closed22:((Rows.congruenceEndsRow.plainKeys==Tryz.pinned.checked.prog.plainKeys))=true:=by kernel_rfl
theorem closed23:(Rows.congruenceEndsRow.shortTexts.isNone)=true:=by kernel_rfl
theorem closed24:(Tryz.pinned.checked.prog.stopsHeard)=true:=by kernel_rfl
theorem closed28:((Rows.congruenceEndsRow.kinds==(if Rows.congruenceEndsRow.domain.isEmpty then[] else Tryz.f13.params.toList.map fun t=>match Tryz.pinned.checked.prog.underlying t with |some (.int k)=>some k|_=>none)))=true:=by kernel_rfl
theorem closed29:((Rows.congruenceEndsRow.pinned==Rows.congruenceEndsRow.pinnedBy))=true:=by kernel_rfl
theorem closed30:((Rows.congruenceEndsRow.veiled==(Tryz.f13.params.toList++Rows.congruenceEndsSpec.plain.varTypes Tryz.pinned.checked.prog++Tryz.f13.resultTypes.toList).any (Tryz.pinned.checked.prog.veiledRec ·)))=true:=by kernel_rfl
theorem closed31:(Rows.congruenceEndsRow.veiledFits Tryz.pinned.checked.prog Tryz.f13.params.toList (Tryz.f13.params.toList++Rows.congruenceEndsSpec.plain.varTypes Tryz.pinned.checked.prog++Tryz.f13.resultTypes.toList))=true:=by kernel_rfl
end Go.Proofs.YtignanmmgaldeaaGreatDoor.congruenceEnds
