/- Lemmas for the proof. -/
import Derived.Test.YtignanmmgaldeaaGreatDoorYLiftCongruenceSound
import Derived.Test.YtignanmmgaldeaaGreatDoorYFactACongruenceSound
import Derived.Test.YtignanmmgaldeaaGreatDoorYFactBCongruenceSound
import Derived.Test.YtignanmmgaldeaaGreatDoorYFactCCongruenceSound
import Derived.Test.YtignanmmgaldeaaGreatDoorYFactDCongruenceSound
import Derived.Test.YtignanmmgaldeaaGreatDoorYFactECongruenceSound
set_option linter.unusedVariables false
set_option maxRecDepth 100000
namespace Go.Proofs.YtignanmmgaldeaaGreatDoor.congruenceSound
open Go.ChangeShapes Go.WideShapes Go.ChangeAt Go.RowKit
open Go.ChangeMaps (open_string shut_string)
theorem two{a b:Bool}(h:a=true)(k:b=true):(a&&b)=true:=by rw[h,k];rfl
theorem closed:joinedFacts Tryz.pinned.checked.prog 14 Tryz.f14 Rows.congruenceSoundSpec Rows.congruenceSoundRow=true:=by
 unfold joinedFacts;exact two (two (two (two (two (two (two (two (two (two (two (two (two (two (two (two (two (two (two (two (two (two (two (two (two (two (two (two (two (two (two (vW) vX) closed2) vY) vZ) closed5) wB) wC) wE) wF) sS) sU) sV) sW) sZ) tC) tH) tJ) tK) tN) tV) tX) tY) tZ) uA) sN) sO) sQ) uB) uC) uD) uF
theorem over:Rows.congruenceSoundRow.holds Tryz.pinned (OpenSpec.ofChange Rows.congruenceSoundSpec):=
 OpenClaim.holds_of_wide 14 Tryz.f14 rfl rfl rfl rfl rfl rfl rfl ⟨rfl,rfl,rfl,rfl,rfl⟩ rfl rfl rfl rfl rfl (by kernel_rfl) Tryz.func14 closed
  (of_decide_eq_true (by kernel_rfl)) (by unfold Func.isWrapper;first|(rw[if_pos (by decide +kernel)];kernel_rfl)|(rw[if_neg (by decide +kernel)];exact⟨rfl,rfl⟩))
  (fun os started H enc _=>lifted os started H enc)
theorem proved:Rows.CongruenceSoundSaid:=over
end Go.Proofs.YtignanmmgaldeaaGreatDoor.congruenceSound
