/- BigintAdds: closed facts of the row. -/
import Derived.Test.YtignanmmgaldeaaGreatDoorRows
import Derived.WalkKit
import Derived.ProofKit
import Derived.OpenShut
import Derived.ShutString
import Derived.ChangeOld
import Derived.Below
import Derived.SizedLaws
import Derived.Stop.LaidErr
import Derived.MakeChecks
import Derived.Lay
import Derived.LaidOnce
import Derived.SevenTiedAt
import Derived.Test.YtignanmmgaldeaaGreatDoorTie
import Derived.Test.YtignanmmgaldeaaGreatDoorCards
namespace Go.Proofs.YtignanmmgaldeaaGreatDoor.bigintAdds
open Go.ChangeShapes Go.WideShapes Go.ChangeAt Go.RowKit
open Go.ChangeMaps (open_string shut_string)
set_option linter.unusedVariables false
theorem closed11 : ((Rows.bigintAddsRow.recurses == Tryz.pinned.checked.prog.recurses 4)) = true := by kernel_rfl
theorem closed12 : ((Rows.bigintAddsRow.named == Tryz.pinned.checked.prog.varsNamed 4)) = true := by kernel_rfl
theorem closed13 : ((Rows.bigintAddsRow.maps == (Tryz.f4.params.toList ++ Rows.bigintAddsSpec.plain.varTypes Tryz.pinned.checked.prog).any (Tryz.pinned.checked.prog.mapsRec ·))) = true := by kernel_rfl
theorem closed14 : ((Rows.bigintAddsRow.ifaces == (Tryz.f4.params.toList ++ Rows.bigintAddsSpec.plain.varTypes Tryz.pinned.checked.prog).any (Tryz.pinned.checked.prog.ifacesRec ·))) = true := by kernel_rfl
theorem closed15 : ((Rows.bigintAddsRow.mapsOut == Tryz.pinned.checked.prog.mapsAmong Tryz.f4.resultTypes.toList)) = true := by kernel_rfl
theorem closed16 : ((Rows.bigintAddsRow.loops == (Tryz.f4.params.toList ++ Rows.bigintAddsSpec.plain.varTypes Tryz.pinned.checked.prog).any (Tryz.pinned.checked.prog.loopsFrom ·))) = true := by kernel_rfl
theorem closed17 : ((Rows.bigintAddsRow.wideKeys == (Tryz.f4.params.toList ++ Rows.bigintAddsSpec.plain.varTypes Tryz.pinned.checked.prog ++ Tryz.f4.resultTypes.toList).any (Tryz.pinned.checked.prog.wideKeysFrom ·))) = true := by kernel_rfl
theorem closed18 : (Rows.bigintAddsSpec.vars.all (Tryz.pinned.checked.prog.varReadable ·)) = true := by kernel_rfl
theorem closed19 : (Tryz.f4.resultTypes.all (fun t => Tryz.pinned.checked.prog.readableRec t && decide (t < Tryz.pinned.checked.prog.types.size))) = true := by kernel_rfl
theorem closed20 : ((Rows.bigintAddsRow.ifacesOut == Tryz.f4.resultTypes.toList.any (Tryz.pinned.checked.prog.ifacesRec ·))) = true := by kernel_rfl
theorem closed21 : ((Rows.bigintAddsRow.loopsOut == Tryz.f4.resultTypes.toList.any (Tryz.pinned.checked.prog.loopsFrom ·))) = true := by kernel_rfl
theorem closed22 : ((Rows.bigintAddsRow.plainKeys == Tryz.pinned.checked.prog.plainKeys)) = true := by kernel_rfl
theorem closed23 : (Rows.bigintAddsRow.shortTexts.isNone) = true := by kernel_rfl
theorem closed24 : (Tryz.pinned.checked.prog.stopsHeard) = true := by kernel_rfl
theorem closed28 : ((Rows.bigintAddsRow.kinds == (if Rows.bigintAddsRow.domain.isEmpty then [] else Tryz.f4.params.toList.map fun t => match Tryz.pinned.checked.prog.underlying t with | some (.int k) => some k | _ => none))) = true := by kernel_rfl
theorem closed29 : ((Rows.bigintAddsRow.pinned == Rows.bigintAddsRow.pinnedBy)) = true := by kernel_rfl
theorem closed30 : ((Rows.bigintAddsRow.veiled == (Tryz.f4.params.toList ++ Rows.bigintAddsSpec.plain.varTypes Tryz.pinned.checked.prog ++ Tryz.f4.resultTypes.toList).any (Tryz.pinned.checked.prog.veiledRec ·))) = true := by kernel_rfl
theorem closed31 : (Rows.bigintAddsRow.veiledFits Tryz.pinned.checked.prog Tryz.f4.params.toList (Tryz.f4.params.toList ++ Rows.bigintAddsSpec.plain.varTypes Tryz.pinned.checked.prog ++ Tryz.f4.resultTypes.toList)) = true := by kernel_rfl
end Go.Proofs.YtignanmmgaldeaaGreatDoor.bigintAdds
