/- Lemmas for the proof. -/
import Derived.Test.YtignanmmgaldeaaGreatDoorZLiftCongruenceEnds
import Derived.Test.YtignanmmgaldeaaGreatDoorZFactACongruenceEnds
import Derived.Test.YtignanmmgaldeaaGreatDoorZFactBCongruenceEnds
import Derived.Test.YtignanmmgaldeaaGreatDoorZFactCCongruenceEnds
import Derived.Test.YtignanmmgaldeaaGreatDoorZFactDCongruenceEnds
import Derived.Test.YtignanmmgaldeaaGreatDoorZFactECongruenceEnds
set_option linter.unusedVariables false
set_option maxRecDepth 100000
namespace Go.Proofs.YtignanmmgaldeaaGreatDoor.congruenceEnds
open Go.ChangeShapes Go.WideShapes Go.ChangeAt Go.RowKit
open Go.ChangeMaps (open_string shut_string)
theorem two{a b:Bool}(h:a=true)(k:b=true):(a&&b)=true:=by rw[h,k];rfl
theorem closed:joinedFacts Tryz.pinned.checked.prog 13 Tryz.f13 Rows.congruenceEndsSpec Rows.congruenceEndsRow=true:=by
 unfold joinedFacts
 exact two (two (two (two (two (two (two (two (two (two (two (two (two (two (two (two (two (two (two (two (two (two (two (two (two (two (two (two (two (two (two (closed0) closed1) closed2) closed3) closed4) closed5) closed6) closed7) closed8) closed9) closed10) closed11) closed12) closed13) closed14) closed15) closed16) closed17) closed18) closed19) closed20) closed21) closed22) closed23) closed24) closed25) closed26) closed27) closed28) closed29) closed30) closed31
theorem over:Rows.congruenceEndsRow.holds Tryz.pinned (OpenSpec.ofChange Rows.congruenceEndsSpec):=
 OpenClaim.holds_of_wide 13 Tryz.f13 rfl rfl rfl rfl rfl rfl rfl ⟨rfl,rfl,rfl,rfl,rfl⟩ rfl rfl rfl rfl rfl (by kernel_rfl) Tryz.func13 closed
  (of_decide_eq_true (by kernel_rfl)) (by unfold Func.isWrapper;first|(rw[if_pos (by decide +kernel)];kernel_rfl)|(rw[if_neg (by decide +kernel)];exact⟨rfl,rfl⟩))
  (fun os started H enc _=>lifted os started H enc)
theorem proved:Rows.CongruenceEndsSaid:=over
end Go.Proofs.YtignanmmgaldeaaGreatDoor.congruenceEnds
