/- Lemmas for the proof. -/
import Derived.Test.YtignanmmgaldeaaGreatDoorYLiftCongruenceLattice
import Derived.Test.YtignanmmgaldeaaGreatDoorYFactACongruenceLattice
import Derived.Test.YtignanmmgaldeaaGreatDoorYFactBCongruenceLattice
import Derived.Test.YtignanmmgaldeaaGreatDoorYFactCCongruenceLattice
import Derived.Test.YtignanmmgaldeaaGreatDoorYFactDCongruenceLattice
import Derived.Test.YtignanmmgaldeaaGreatDoorYFactECongruenceLattice
set_option linter.unusedVariables false
set_option maxRecDepth 100000
namespace Go.Proofs.YtignanmmgaldeaaGreatDoor.congruenceLattice
open Go.ChangeShapes Go.WideShapes Go.ChangeAt Go.RowKit
open Go.ChangeMaps (open_string shut_string)
theorem two{a b:Bool}(h:a=true)(k:b=true):(a&&b)=true:=by rw[h,k];rfl
theorem closed:joinedFacts Tryz.pinned.checked.prog 8 Tryz.f8 Rows.congruenceLatticeSpec Rows.congruenceLatticeRow=true:=by
 unfold joinedFacts;exact two (two (two (two (two (two (two (two (two (two (two (two (two (two (two (two (two (two (two (two (two (two (two (two (two (two (two (two (two (two (two (vW) vX) closed2) vY) vZ) closed5) wB) wC) wE) wF) sS) sU) sV) sW) sZ) tC) tH) tJ) tK) tN) tV) tX) tY) tZ) uA) sN) sO) sQ) uB) uC) uD) uF
theorem over:Rows.congruenceLatticeRow.holds Tryz.pinned (OpenSpec.ofChange Rows.congruenceLatticeSpec):=
 OpenClaim.holds_of_wide 8 Tryz.f8 rfl rfl rfl rfl rfl rfl rfl ⟨rfl,rfl,rfl,rfl,rfl⟩ rfl rfl rfl rfl rfl (by kernel_rfl) Tryz.func8 closed
  (of_decide_eq_true (by kernel_rfl)) (by unfold Func.isWrapper;first|(rw[if_pos (by decide +kernel)];kernel_rfl)|(rw[if_neg (by decide +kernel)];exact⟨rfl,rfl⟩))
  (fun os started H enc _=>lifted os started H enc)
theorem proved:Rows.CongruenceLatticeSaid:=over
end Go.Proofs.YtignanmmgaldeaaGreatDoor.congruenceLattice
