/- BigintAdds: closed facts of the row. -/
import Derived.Test.YtignanmmgaldeaaGreatDoorRows
import Derived.WalkKit
import Derived.ProofKit
import Derived.OpenShut
import Derived.ShutString
import Derived.ChangeOld
import Derived.Below
import Derived.SizedLaws
import Derived.Stop.LaidErr
import Derived.MakeChecks
import Derived.Lay
import Derived.LaidOnce
import Derived.SevenTiedAt
import Derived.Test.YtignanmmgaldeaaGreatDoorTie
import Derived.Test.YtignanmmgaldeaaGreatDoorCards
namespace Go.Proofs.YtignanmmgaldeaaGreatDoor.bigintAdds
open Go.ChangeShapes Go.WideShapes Go.ChangeAt Go.RowKit
open Go.ChangeMaps (open_string shut_string)
set_option linter.unusedVariables false
theorem closed0 : (Rows.bigintAddsRow.wf (OpenSpec.ofChange Rows.bigintAddsSpec)) = true := by kernel_rfl
theorem closed1 : (laidOutB Tryz.pinned.checked.prog) = true := by kernel_rfl
theorem closed2 : (mapsRowed Tryz.pinned.checked.prog) = true := by kernel_rfl
theorem closed3 : (Tryz.f4.params.all (Tryz.pinned.checked.prog.readableRec ·)) = true := by kernel_rfl
theorem closed4 : (namedTie Tryz.pinned.checked.prog Rows.bigintAddsRow.named Rows.bigintAddsSpec.vars) = true := by kernel_rfl
theorem closed5 : ((Rows.bigintAddsRow.stops == [])) = true := by kernel_rfl
theorem closed6 : ((Tryz.pinned.checked.prog.stops == [])) = true := by kernel_rfl
theorem closed7 : ((Rows.bigintAddsRow.knobs == [])) = true := by kernel_rfl
theorem closed8 : ((Tryz.pinned.checked.prog.stopKnobs == [])) = true := by kernel_rfl
theorem closed9 : ((Rows.bigintAddsRow.inPlace == Tryz.pinned.checked.prog.inPlace 4)) = true := by kernel_rfl
theorem closed10 : ((Rows.bigintAddsRow.unfollowed == Tryz.pinned.checked.prog.unfollowed 4)) = true := by kernel_rfl
end Go.Proofs.YtignanmmgaldeaaGreatDoor.bigintAdds
