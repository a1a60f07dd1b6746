/- Lemmas for the proof. -/
import Derived.Test.YtignanmmgaldeaaGreatDoorYLiftCongruenceOrders
import Derived.Test.YtignanmmgaldeaaGreatDoorYFactACongruenceOrders
import Derived.Test.YtignanmmgaldeaaGreatDoorYFactBCongruenceOrders
import Derived.Test.YtignanmmgaldeaaGreatDoorYFactCCongruenceOrders
import Derived.Test.YtignanmmgaldeaaGreatDoorYFactDCongruenceOrders
import Derived.Test.YtignanmmgaldeaaGreatDoorYFactECongruenceOrders
set_option linter.unusedVariables false
set_option maxRecDepth 100000
namespace Go.Proofs.YtignanmmgaldeaaGreatDoor.congruenceOrders
open Go.ChangeShapes Go.WideShapes Go.ChangeAt Go.RowKit
open Go.ChangeMaps (open_string shut_string)
theorem two{a b:Bool}(h:a=true)(k:b=true):(a&&b)=true:=by rw[h,k];rfl
theorem closed:joinedFacts Tryz.pinned.checked.prog 7 Tryz.f7 Rows.congruenceOrdersSpec Rows.congruenceOrdersRow=true:=by
 unfold joinedFacts;exact two (two (two (two (two (two (two (two (two (two (two (two (two (two (two (two (two (two (two (two (two (two (two (two (two (two (two (two (two (two (two (zQ) zS) closed2) zT) zU) closed5) zV) zW) zX) zY) wO) wP) wQ) wR) wS) wU) wV) wW) wX) wY) wZ) xA) xC) xE) xG) wK) wL) wM) xH) xI) xJ) xK
theorem over:Rows.congruenceOrdersRow.holds Tryz.pinned (OpenSpec.ofChange Rows.congruenceOrdersSpec):=
 OpenClaim.holds_of_wide 7 Tryz.f7 rfl rfl rfl rfl rfl rfl rfl ⟨rfl,rfl,rfl,rfl,rfl⟩ rfl rfl rfl rfl rfl (by kernel_rfl) Tryz.func7 closed
  (of_decide_eq_true (by kernel_rfl)) (by unfold Func.isWrapper;first|(rw[if_pos (by decide +kernel)];kernel_rfl)|(rw[if_neg (by decide +kernel)];exact⟨rfl,rfl⟩))
  (fun os started H enc _=>lifted os started H enc)
theorem proved:Rows.CongruenceOrdersSaid:=over
end Go.Proofs.YtignanmmgaldeaaGreatDoor.congruenceOrders
