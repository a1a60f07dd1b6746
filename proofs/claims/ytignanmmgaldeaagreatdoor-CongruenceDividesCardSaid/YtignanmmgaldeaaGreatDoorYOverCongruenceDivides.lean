/- Lemmas for the proof. -/
import Derived.Test.YtignanmmgaldeaaGreatDoorYLiftCongruenceDivides
import Derived.Test.YtignanmmgaldeaaGreatDoorYFactACongruenceDivides
import Derived.Test.YtignanmmgaldeaaGreatDoorYFactBCongruenceDivides
import Derived.Test.YtignanmmgaldeaaGreatDoorYFactCCongruenceDivides
import Derived.Test.YtignanmmgaldeaaGreatDoorYFactDCongruenceDivides
import Derived.Test.YtignanmmgaldeaaGreatDoorYFactECongruenceDivides
set_option linter.unusedVariables false
set_option maxRecDepth 100000
namespace Go.Proofs.YtignanmmgaldeaaGreatDoor.congruenceDivides
open Go.ChangeShapes Go.WideShapes Go.ChangeAt Go.RowKit
open Go.ChangeMaps (open_string shut_string)
theorem two{a b:Bool}(h:a=true)(k:b=true):(a&&b)=true:=by rw[h,k];rfl
theorem closed:joinedFacts Tryz.pinned.checked.prog 6 Tryz.f6 Rows.congruenceDividesSpec Rows.congruenceDividesRow=true:=by
 unfold joinedFacts;exact two (two (two (two (two (two (two (two (two (two (two (two (two (two (two (two (two (two (two (two (two (two (two (two (two (two (two (two (two (two (two (zQ) zS) closed2) zT) zU) closed5) zV) zW) zX) zY) wO) wP) wQ) wR) wS) wU) wV) wW) wX) wY) wZ) xA) xC) xE) xG) wK) wL) wM) xH) xI) xJ) xK
theorem over:Rows.congruenceDividesRow.holds Tryz.pinned (OpenSpec.ofChange Rows.congruenceDividesSpec):=
 OpenClaim.holds_of_wide 6 Tryz.f6 rfl rfl rfl rfl rfl rfl rfl ⟨rfl,rfl,rfl,rfl,rfl⟩ rfl rfl rfl rfl rfl (by kernel_rfl) Tryz.func6 closed
  (of_decide_eq_true (by kernel_rfl)) (by unfold Func.isWrapper;first|(rw[if_pos (by decide +kernel)];kernel_rfl)|(rw[if_neg (by decide +kernel)];exact⟨rfl,rfl⟩))
  (fun os started H enc _=>lifted os started H enc)
theorem proved:Rows.CongruenceDividesSaid:=over
end Go.Proofs.YtignanmmgaldeaaGreatDoor.congruenceDivides
