/- surveyorlaw01.awake: the examples of the chapter, as a contract. -/
import Derived.Test.YtignanmmgaldeaaGreatDoorLPowAll
set_option linter.unusedVariables false
set_option linter.unusedSimpArgs false
namespace Go.Proofs.YtignanmmgaldeaaGreatDoor
open Go.RowKit Go.Shelf Go.Proofs.YtignanmmgaldeaaGreatDoorW.PrintWords
set_option maxRecDepth 100000 in
set_option maxHeartbeats 4000000 in
theorem awake01_walk (w : World) (hG : GW w) :
    Calls Tryz.prog 17 #[] w fun e w' => e = .returned (.bool true) ∧ Below w.heap.size w w' := by
  have H0 : Aside0 (bigint_Quo.f ⟨#[45, 55]⟩ ⟨#[50]⟩ = some (⟨#[45, 52]⟩, 0)) := Aside0.mk (by decide +kernel)
  have H1 : Aside0 (bigint_Rem.f ⟨#[45, 55]⟩ ⟨#[50]⟩ = some (⟨#[49]⟩, 0)) := Aside0.mk (by decide +kernel)
  have H2 : Aside0 (bigint_Quo.f ⟨#[55]⟩ ⟨#[45, 50]⟩ = some (⟨#[45, 52]⟩, 0)) := Aside0.mk (by decide +kernel)
  have H3 : Aside0 (bigint_Rem.f ⟨#[55]⟩ ⟨#[45, 50]⟩ = some (⟨#[45, 49]⟩, 0)) := Aside0.mk (by decide +kernel)
  have H4 : Aside0 (bigint_Add.f ⟨#[57, 57, 57, 57, 57, 57, 57, 57, 57, 57, 57, 57, 57, 57, 57, 57, 57, 57, 57, 57]⟩ ⟨#[49]⟩ = some (⟨#[49, 48, 48, 48, 48, 48, 48, 48, 48, 48, 48, 48, 48, 48, 48, 48, 48, 48, 48, 48, 48]⟩, 0)) := Aside0.mk (by decide +kernel)
  have H5 : Aside0 (bigint_Mul.f ⟨#[49, 49, 49, 49, 49, 49, 49, 49, 49]⟩ ⟨#[49, 49, 49, 49, 49, 49, 49, 49, 49]⟩ = some (⟨#[49, 50, 51, 52, 53, 54, 55, 56, 57, 56, 55, 54, 53, 52, 51, 50, 49]⟩, 0)) := Aside0.mk (by decide +kernel)
  have H6 : Aside0 (bigint_Bezout.f ⟨#[49, 50]⟩ ⟨#[45, 49, 56]⟩ = some (⟨#[54]⟩, ⟨#[50]⟩, ⟨#[49]⟩, 0)) := Aside0.mk (by decide +kernel)
  have H7 : Aside0 (bigint_Lcm.f ⟨#[49, 50]⟩ ⟨#[45, 49, 56]⟩ = some (⟨#[51, 54]⟩, 0)) := Aside0.mk (by decide +kernel)
  have H8 : Aside0 (bigint_Pow.f ⟨#[50]⟩ 64 = some (⟨#[49, 56, 52, 52, 54, 55, 52, 52, 48, 55, 51, 55, 48, 57, 53, 53, 49, 54, 49, 54]⟩, 0)) := Aside0.mk (by decide +kernel)
  have H9 : Aside0 (bigint_Check.f ⟨#[45, 48]⟩ = some 3) := Aside0.mk (by decide +kernel)
  have H10 : Aside0 (bigint_Check.f ⟨#[48, 48, 55]⟩ = some 3) := Aside0.mk (by decide +kernel)
  have H11 : Aside0 (bigint_Check.f ⟨#[45, 49, 50]⟩ = some 0) := Aside0.mk (by decide +kernel)
  have HG := Lib.hid hG
  have HB0 := Lib.hid (Below.refl w.heap.size w)
  clear hG
  go_enter Tryz.func17, Tryz.ntmps17
  go_wp2_with fail
  refine (bigint_Quo.calls _ _ _ _ _ (HG.out.below HB0.out) H0.out).mono ?_
  rintro e v0 ⟨rfl, k0⟩
  have HB1 := Lib.hid (HB0.out.trans (k0.mono HB0.out.size))
  clear k0 HB0
  go_wp2_with fail
  refine (bigint_Rem.calls _ _ _ _ _ (HG.out.below HB1.out) H1.out).mono ?_
  rintro e v1 ⟨rfl, k1⟩
  have HB2 := Lib.hid (HB1.out.trans (k1.mono HB1.out.size))
  clear k1 HB1
  go_wp2_with fail
  refine (bigint_Quo.calls _ _ _ _ _ (HG.out.below HB2.out) H2.out).mono ?_
  rintro e v2 ⟨rfl, k2⟩
  have HB3 := Lib.hid (HB2.out.trans (k2.mono HB2.out.size))
  clear k2 HB2
  go_wp2_with fail
  refine (bigint_Rem.calls _ _ _ _ _ (HG.out.below HB3.out) H3.out).mono ?_
  rintro e v3 ⟨rfl, k3⟩
  have HB4 := Lib.hid (HB3.out.trans (k3.mono HB3.out.size))
  clear k3 HB3
  go_wp2_with fail
  refine (bigint_Add.calls _ _ _ _ _ (HG.out.below HB4.out) H4.out).mono ?_
  rintro e v4 ⟨rfl, k4⟩
  have HB5 := Lib.hid (HB4.out.trans (k4.mono HB4.out.size))
  clear k4 HB4
  go_wp2_with fail
  refine (bigint_Mul.calls _ _ _ _ _ (HG.out.below HB5.out) H5.out).mono ?_
  rintro e v5 ⟨rfl, k5⟩
  have HB6 := Lib.hid (HB5.out.trans (k5.mono HB5.out.size))
  clear k5 HB5
  go_wp2_with fail
  refine (bigint_Bezout.calls _ _ _ _ _ _ _ (HG.out.below HB6.out) H6.out).mono ?_
  rintro e v6 ⟨rfl, k6⟩
  have HB7 := Lib.hid (HB6.out.trans (k6.mono HB6.out.size))
  clear k6 HB6
  go_wp2_with fail
  refine (bigint_Lcm.calls _ _ _ _ _ (HG.out.below HB7.out) H7.out).mono ?_
  rintro e v7 ⟨rfl, k7⟩
  have HB8 := Lib.hid (HB7.out.trans (k7.mono HB7.out.size))
  clear k7 HB7
  go_wp2_with fail
  refine (bigint_Pow.calls _ _ _ _ _ (HG.out.below HB8.out) H8.out).mono ?_
  rintro e v8 ⟨rfl, k8⟩
  have HB9 := Lib.hid (HB8.out.trans (k8.mono HB8.out.size))
  clear k8 HB8
  go_wp2_with fail
  refine (bigint_Check.calls _ _ _ H9.out).mono ?_
  rintro e v9 ⟨rfl, k9⟩
  have HB10 := Lib.hid (HB9.out.trans (k9.mono HB9.out.size))
  clear k9 HB9
  go_wp2_with fail
  refine (bigint_Check.calls _ _ _ H10.out).mono ?_
  rintro e v10 ⟨rfl, k10⟩
  have HB11 := Lib.hid (HB10.out.trans (k10.mono HB10.out.size))
  clear k10 HB10
  go_wp2_with fail
  refine (bigint_Check.calls _ _ _ H11.out).mono ?_
  rintro e v11 ⟨rfl, k11⟩
  have HB12 := Lib.hid (HB11.out.trans (k11.mono HB11.out.size))
  clear k11 HB11
  go_wp2_with fail
  go_ret
  exact ⟨rfl, HB12.out⟩
def law01_awake.f : Option Bool := some true
theorem law01_awake.calls (r0 : Bool) (w : World) (hG : GW w) (h : law01_awake.f = some r0) :
    Calls Tryz.prog 17 #[] w fun e w' => e = .returned (.bool r0) ∧ Below w.heap.size w w' := by
  cases h
  exact awake01_walk w hG
theorem awake_val : law01_awake.f = some true := rfl
end Go.Proofs.YtignanmmgaldeaaGreatDoor
