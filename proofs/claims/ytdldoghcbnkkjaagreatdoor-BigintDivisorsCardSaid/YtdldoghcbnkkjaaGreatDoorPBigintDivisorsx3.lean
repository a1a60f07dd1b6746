-- printed by a program of this session (wip/gprint.py, a patched run of the print) out of the translation. Lean checks it.
import Derived.Test.YtdldoghcbnkkjaaGreatDoorPBigintDivisorsx0
import Derived.Test.YtdldoghcbnkkjaaGreatDoorPBigintDivisorsx1
import Derived.Test.YtdldoghcbnkkjaaGreatDoorPBigintDivisorsx2
namespace Go.Proofs.YtdldoghcbnkkjaaGreatDoor.PBigintDivisors
open Go.RowKit Go.Proofs.YtdldoghcbnkkjaaGreatDoorW.PrintWords Go.Proofs.YtdldoghcbnkkjaaGreatDoorW.PrintLast Go.Proofs.YtdldoghcbnkkjaaGreatDoorW.PrintMore
attribute [local go_sem] max2_int min2_int max_two min_two max_three min_three max_four min_four   -- for this text's walks alone
set_option linter.unusedVariables false
set_option linter.unusedSimpArgs false

/-! ### surveyorlaw01_BigintDivisors: function 9 -/
mutual
def surveyorlaw01_BigintDivisors.j0 : Nat → ByteArray → ByteArray → ByteArray → ByteArray → ByteArray → ByteArray → ByteArray → Bool → Option (Bool)
  | 0, _, _, _, _, _, _, _, _ => none
  | k + 1, x0, x1, x13, x16, x17, x19, x21, x101 => if x101 = true then (some false) else ((surveyorlaw01_sums.f x0 x16).bind fun bt157 => ((surveyorlaw01_sums.f x1 x17).bind fun bt160 => ((surveyorlaw01_sums.f bt157.2.1 bt160.2.1).bind fun bt163 => ((surveyorlaw01_sums.f x13 x21).bind fun bt166 => (if bt157.2.2 = true then (if bt160.2.2 = true then (if bt163.2.2 = true then (if bt166.2.2 = true then (if bt163.1.toList = x13.toList then (surveyorlaw01_BigintDivisors.j1 k x0 x1 x13 (x19.toList != bt166.2.1.toList)) else (surveyorlaw01_BigintDivisors.j1 k x0 x1 x13 true)) else (surveyorlaw01_BigintDivisors.j1 k x0 x1 x13 true)) else (surveyorlaw01_BigintDivisors.j1 k x0 x1 x13 true)) else (surveyorlaw01_BigintDivisors.j1 k x0 x1 x13 true)) else (surveyorlaw01_BigintDivisors.j1 k x0 x1 x13 true))))))
def surveyorlaw01_BigintDivisors.j1 : Nat → ByteArray → ByteArray → ByteArray → Bool → Option (Bool)
  | 0, _, _, _, _ => none
  | k + 1, x0, x1, x13, x153 => if x153 = true then (some false) else (if x13.toList = ([48] : List UInt8) then (if x0.toList = ([48] : List UInt8) then (if x1.toList = ([48] : List UInt8) then ((surveyorlaw01_awake.f k).bind fun t169 => (some t169)) else (some false)) else (some false)) else ((bigint_Rem.f x0 x13).bind fun bt170 => ((bigint_Rem.f x1 x13).bind fun bt172 => (if bt170.2 = 0 then (if bt172.2 = 0 then (if bt170.1.toList = ([48] : List UInt8) then (if bt172.1.toList = ([48] : List UInt8) then ((surveyorlaw01_awake.f k).bind fun t174 => (some t174)) else (some false)) else (some false)) else (some false)) else (some false)))))
end
def surveyorlaw01_BigintDivisors.f (k : Nat) (a0 : ByteArray) (a1 : ByteArray) (a2 : ByteArray) : Option (Bool) := (surveyorlaw01_right.f k (([a0, a1, a2] : List ByteArray))).bind fun t139 => (if t139 = true then ((surveyorlaw01_sums.f a0 a2).bind fun bt141 => ((surveyorlaw01_sums.f a1 a2).bind fun bt144 => ((bigint_Gcd.f a0 a1).bind fun bt147 => ((bigint_Bezout.f a0 a1).bind fun bt149 => ((bigint_Gcd.f bt141.2.1 bt144.2.1).bind fun bt153 => ((bigint_Abs.f a2).bind fun bt155 => (if bt141.2.2 = true then (if bt144.2.2 = true then (if (wrap64 ((wrap64 ((wrap64 (bt147.2 + bt149.2.2.2)) + bt153.2)) + bt155.2)) = 0 then (surveyorlaw01_BigintDivisors.j0 k a0 a1 bt147.1 bt149.2.1 bt149.2.2.1 bt153.1 bt155.1 (bt147.1.toList != bt149.1.toList)) else (surveyorlaw01_BigintDivisors.j0 k a0 a1 bt147.1 bt149.2.1 bt149.2.2.1 bt153.1 bt155.1 true)) else (surveyorlaw01_BigintDivisors.j0 k a0 a1 bt147.1 bt149.2.1 bt149.2.2.1 bt153.1 bt155.1 true)) else (surveyorlaw01_BigintDivisors.j0 k a0 a1 bt147.1 bt149.2.1 bt149.2.2.1 bt153.1 bt155.1 true)))))))) else ((surveyorlaw01_awake.f k).bind fun t140 => (some t140)))
theorem surveyorlaw01_BigintDivisors.mono_l : ∀ k, (∀ y0 y1 y2 y3 y4 y5 y6 y7, LeO (surveyorlaw01_BigintDivisors.j0 k y0 y1 y2 y3 y4 y5 y6 y7) (surveyorlaw01_BigintDivisors.j0 (k + 1) y0 y1 y2 y3 y4 y5 y6 y7)) ∧ (∀ y0 y1 y2 y3, LeO (surveyorlaw01_BigintDivisors.j1 k y0 y1 y2 y3) (surveyorlaw01_BigintDivisors.j1 (k + 1) y0 y1 y2 y3))
  | 0 => ⟨fun _ _ _ _ _ _ _ _ r h => by simp [surveyorlaw01_BigintDivisors.j0] at h, fun _ _ _ _ r h => by simp [surveyorlaw01_BigintDivisors.j1] at h⟩
  | k + 1 => by
    obtain ⟨ih0, ih1⟩ := surveyorlaw01_BigintDivisors.mono_l k
    refine ⟨?_, ?_⟩
    · intro y0 y1 y2 y3 y4 y5 y6 y7
      unfold surveyorlaw01_BigintDivisors.j0
      repeat' first
      | (with_reducible exact ih0 _ _ _ _ _ _ _ _)
      | (with_reducible exact ih1 _ _ _ _)
      | (with_reducible exact surveyorlaw01_awake.mono _)
      | (with_reducible exact surveyorlaw01_right.mono _ _)
      | (with_reducible exact LeO.refl _)
      | (with_reducible exact LeO.none _)
      | (with_reducible refine LeO.ite ?_ ?_)
      | (with_reducible refine LeO.bind ?_ (fun _ => ?_))
      | exact ih0 _ _ _ _ _ _ _ _
      | exact ih1 _ _ _ _
      | exact surveyorlaw01_awake.mono _
      | exact surveyorlaw01_right.mono _ _
      | exact LeO.none _
      | refine LeO.ite ?_ ?_
      | refine LeO.bind ?_ (fun _ => ?_)
    · intro y0 y1 y2 y3
      unfold surveyorlaw01_BigintDivisors.j1
      repeat' first
      | (with_reducible exact ih0 _ _ _ _ _ _ _ _)
      | (with_reducible exact ih1 _ _ _ _)
      | (with_reducible exact surveyorlaw01_awake.mono _)
      | (with_reducible exact surveyorlaw01_right.mono _ _)
      | (with_reducible exact LeO.refl _)
      | (with_reducible exact LeO.none _)
      | (with_reducible refine LeO.ite ?_ ?_)
      | (with_reducible refine LeO.bind ?_ (fun _ => ?_))
      | exact ih0 _ _ _ _ _ _ _ _
      | exact ih1 _ _ _ _
      | exact surveyorlaw01_awake.mono _
      | exact surveyorlaw01_right.mono _ _
      | exact LeO.none _
      | refine LeO.ite ?_ ?_
      | refine LeO.bind ?_ (fun _ => ?_)
theorem surveyorlaw01_BigintDivisors.mono : ∀ a0 a1 a2 k, LeO (surveyorlaw01_BigintDivisors.f k a0 a1 a2) (surveyorlaw01_BigintDivisors.f (k + 1) a0 a1 a2) := by
  intro a0 a1 a2 k
  obtain ⟨ih0, ih1⟩ := surveyorlaw01_BigintDivisors.mono_l k
  unfold surveyorlaw01_BigintDivisors.f
  repeat' first
      | (with_reducible exact ih0 _ _ _ _ _ _ _ _)
      | (with_reducible exact ih1 _ _ _ _)
      | (with_reducible exact surveyorlaw01_awake.mono _)
      | (with_reducible exact surveyorlaw01_right.mono _ _)
      | (with_reducible exact LeO.refl _)
      | (with_reducible exact LeO.none _)
      | (with_reducible refine LeO.ite ?_ ?_)
      | (with_reducible refine LeO.bind ?_ (fun _ => ?_))
      | exact ih0 _ _ _ _ _ _ _ _
      | exact ih1 _ _ _ _
      | exact surveyorlaw01_awake.mono _
      | exact surveyorlaw01_right.mono _ _
      | exact LeO.none _
      | refine LeO.ite ?_ ?_
      | refine LeO.bind ?_ (fun _ => ?_)
set_option maxHeartbeats 8000000 in
set_option maxRecDepth 100000 in
theorem surveyorlaw01_BigintDivisors.calls (k : Nat) (a0 : ByteArray) (a1 : ByteArray) (a2 : ByteArray) (r : Bool) (w : World) (hG : GW w) (h : surveyorlaw01_BigintDivisors.f k a0 a1 a2 = some r) :
    Calls Tryz.prog 9 #[.string a0, .string a1, .string a2] w fun e w' => e = .returned (.bool r) ∧ Below w.heap.size w w' := by
  have HG := Aside0.mk hG
  clear hG
  have HB := Aside0.mk (Below.refl w.heap.size w)
  have H : ((surveyorlaw01_right.f k (([a0, a1, a2] : List ByteArray))).bind fun t139 => (if t139 = true then ((surveyorlaw01_sums.f a0 a2).bind fun bt141 => ((surveyorlaw01_sums.f a1 a2).bind fun bt144 => ((bigint_Gcd.f a0 a1).bind fun bt147 => ((bigint_Bezout.f a0 a1).bind fun bt149 => ((bigint_Gcd.f bt141.2.1 bt144.2.1).bind fun bt153 => ((bigint_Abs.f a2).bind fun bt155 => (if bt141.2.2 = true then (if bt144.2.2 = true then (if (wrap64 ((wrap64 ((wrap64 (bt147.2 + bt149.2.2.2)) + bt153.2)) + bt155.2)) = 0 then (surveyorlaw01_BigintDivisors.j0 k a0 a1 bt147.1 bt149.2.1 bt149.2.2.1 bt153.1 bt155.1 (bt147.1.toList != bt149.1.toList)) else (surveyorlaw01_BigintDivisors.j0 k a0 a1 bt147.1 bt149.2.1 bt149.2.2.1 bt153.1 bt155.1 true)) else (surveyorlaw01_BigintDivisors.j0 k a0 a1 bt147.1 bt149.2.1 bt149.2.2.1 bt153.1 bt155.1 true)) else (surveyorlaw01_BigintDivisors.j0 k a0 a1 bt147.1 bt149.2.1 bt149.2.2.1 bt153.1 bt155.1 true)))))))) else ((surveyorlaw01_awake.f k).bind fun t140 => (some t140)))) = some r := h
  clear h
  obtain ⟨y136, hy136⟩ : ∃ y_ : List ByteArray, y_ = (([a0, a1, a2] : List ByteArray)) := ⟨_, rfl⟩
  replace H : ((surveyorlaw01_right.f k y136).bind fun t139 => (if t139 = true then ((surveyorlaw01_sums.f a0 a2).bind fun bt141 => ((surveyorlaw01_sums.f a1 a2).bind fun bt144 => ((bigint_Gcd.f a0 a1).bind fun bt147 => ((bigint_Bezout.f a0 a1).bind fun bt149 => ((bigint_Gcd.f bt141.2.1 bt144.2.1).bind fun bt153 => ((bigint_Abs.f a2).bind fun bt155 => (if bt141.2.2 = true then (if bt144.2.2 = true then (if (wrap64 ((wrap64 ((wrap64 (bt147.2 + bt149.2.2.2)) + bt153.2)) + bt155.2)) = 0 then (surveyorlaw01_BigintDivisors.j0 k a0 a1 bt147.1 bt149.2.1 bt149.2.2.1 bt153.1 bt155.1 (bt147.1.toList != bt149.1.toList)) else (surveyorlaw01_BigintDivisors.j0 k a0 a1 bt147.1 bt149.2.1 bt149.2.2.1 bt153.1 bt155.1 true)) else (surveyorlaw01_BigintDivisors.j0 k a0 a1 bt147.1 bt149.2.1 bt149.2.2.1 bt153.1 bt155.1 true)) else (surveyorlaw01_BigintDivisors.j0 k a0 a1 bt147.1 bt149.2.1 bt149.2.2.1 bt153.1 bt155.1 true)))))))) else ((surveyorlaw01_awake.f k).bind fun t140 => (some t140)))) = some r := by first | (rw [hy136]; with_reducible exact H) | (have H2_ := (Option.bind_some _ _).symm.trans H; rw [hy136]; with_reducible exact H2_) | (have H2_ := (Option.bind_some _ _).symm.trans H; with_reducible exact H2_) | with_reducible exact H | (rw [hy136]; exact H) | exact H
  have Ny136 := Aside0.mk hy136
  clear hy136
  replace H := Option.bind_eq_some_iff.mp H
  obtain ⟨t139, A40, H⟩ := H
  replace H : (if t139 = true then ((surveyorlaw01_sums.f a0 a2).bind fun bt141 => ((surveyorlaw01_sums.f a1 a2).bind fun bt144 => ((bigint_Gcd.f a0 a1).bind fun bt147 => ((bigint_Bezout.f a0 a1).bind fun bt149 => ((bigint_Gcd.f bt141.2.1 bt144.2.1).bind fun bt153 => ((bigint_Abs.f a2).bind fun bt155 => (if bt141.2.2 = true then (if bt144.2.2 = true then (if (wrap64 ((wrap64 ((wrap64 (bt147.2 + bt149.2.2.2)) + bt153.2)) + bt155.2)) = 0 then (surveyorlaw01_BigintDivisors.j0 k a0 a1 bt147.1 bt149.2.1 bt149.2.2.1 bt153.1 bt155.1 (bt147.1.toList != bt149.1.toList)) else (surveyorlaw01_BigintDivisors.j0 k a0 a1 bt147.1 bt149.2.1 bt149.2.2.1 bt153.1 bt155.1 true)) else (surveyorlaw01_BigintDivisors.j0 k a0 a1 bt147.1 bt149.2.1 bt149.2.2.1 bt153.1 bt155.1 true)) else (surveyorlaw01_BigintDivisors.j0 k a0 a1 bt147.1 bt149.2.1 bt149.2.2.1 bt153.1 bt155.1 true)))))))) else ((surveyorlaw01_awake.f k).bind fun t140 => (some t140))) = some r := H
  have A4 := Aside0.mk A40
  clear A40
  by_cases c5 : t139 = true
  · subst c5
    have H1 : ((surveyorlaw01_sums.f a0 a2).bind fun bt141 => ((surveyorlaw01_sums.f a1 a2).bind fun bt144 => ((bigint_Gcd.f a0 a1).bind fun bt147 => ((bigint_Bezout.f a0 a1).bind fun bt149 => ((bigint_Gcd.f bt141.2.1 bt144.2.1).bind fun bt153 => ((bigint_Abs.f a2).bind fun bt155 => (if bt141.2.2 = true then (if bt144.2.2 = true then (if (wrap64 ((wrap64 ((wrap64 (bt147.2 + bt149.2.2.2)) + bt153.2)) + bt155.2)) = 0 then (surveyorlaw01_BigintDivisors.j0 k a0 a1 bt147.1 bt149.2.1 bt149.2.2.1 bt153.1 bt155.1 (bt147.1.toList != bt149.1.toList)) else (surveyorlaw01_BigintDivisors.j0 k a0 a1 bt147.1 bt149.2.1 bt149.2.2.1 bt153.1 bt155.1 true)) else (surveyorlaw01_BigintDivisors.j0 k a0 a1 bt147.1 bt149.2.1 bt149.2.2.1 bt153.1 bt155.1 true)) else (surveyorlaw01_BigintDivisors.j0 k a0 a1 bt147.1 bt149.2.1 bt149.2.2.1 bt153.1 bt155.1 true)))))))) = some r := by rw [if_pos rfl] at H; exact H
    clear H
    have H := H1
    clear H1
    replace H := Option.bind_eq_some_iff.mp H
    obtain ⟨⟨t141, t142, t143⟩, A60, H⟩ := H
    replace H : ((surveyorlaw01_sums.f a1 a2).bind fun bt144 => ((bigint_Gcd.f a0 a1).bind fun bt147 => ((bigint_Bezout.f a0 a1).bind fun bt149 => ((bigint_Gcd.f t142 bt144.2.1).bind fun bt153 => ((bigint_Abs.f a2).bind fun bt155 => (if t143 = true then (if bt144.2.2 = true then (if (wrap64 ((wrap64 ((wrap64 (bt147.2 + bt149.2.2.2)) + bt153.2)) + bt155.2)) = 0 then (surveyorlaw01_BigintDivisors.j0 k a0 a1 bt147.1 bt149.2.1 bt149.2.2.1 bt153.1 bt155.1 (bt147.1.toList != bt149.1.toList)) else (surveyorlaw01_BigintDivisors.j0 k a0 a1 bt147.1 bt149.2.1 bt149.2.2.1 bt153.1 bt155.1 true)) else (surveyorlaw01_BigintDivisors.j0 k a0 a1 bt147.1 bt149.2.1 bt149.2.2.1 bt153.1 bt155.1 true)) else (surveyorlaw01_BigintDivisors.j0 k a0 a1 bt147.1 bt149.2.1 bt149.2.2.1 bt153.1 bt155.1 true))))))) = some r := H
    have A6 := Aside0.mk A60
    clear A60
    replace H := Option.bind_eq_some_iff.mp H
    obtain ⟨⟨t144, t145, t146⟩, A70, H⟩ := H
    replace H : ((bigint_Gcd.f a0 a1).bind fun bt147 => ((bigint_Bezout.f a0 a1).bind fun bt149 => ((bigint_Gcd.f t142 t145).bind fun bt153 => ((bigint_Abs.f a2).bind fun bt155 => (if t143 = true then (if t146 = true then (if (wrap64 ((wrap64 ((wrap64 (bt147.2 + bt149.2.2.2)) + bt153.2)) + bt155.2)) = 0 then (surveyorlaw01_BigintDivisors.j0 k a0 a1 bt147.1 bt149.2.1 bt149.2.2.1 bt153.1 bt155.1 (bt147.1.toList != bt149.1.toList)) else (surveyorlaw01_BigintDivisors.j0 k a0 a1 bt147.1 bt149.2.1 bt149.2.2.1 bt153.1 bt155.1 true)) else (surveyorlaw01_BigintDivisors.j0 k a0 a1 bt147.1 bt149.2.1 bt149.2.2.1 bt153.1 bt155.1 true)) else (surveyorlaw01_BigintDivisors.j0 k a0 a1 bt147.1 bt149.2.1 bt149.2.2.1 bt153.1 bt155.1 true)))))) = some r := H
    have A7 := Aside0.mk A70
    clear A70
    replace H := Option.bind_eq_some_iff.mp H
    obtain ⟨⟨t147, t148⟩, A80, H⟩ := H
    replace H : ((bigint_Bezout.f a0 a1).bind fun bt149 => ((bigint_Gcd.f t142 t145).bind fun bt153 => ((bigint_Abs.f a2).bind fun bt155 => (if t143 = true then (if t146 = true then (if (wrap64 ((wrap64 ((wrap64 (t148 + bt149.2.2.2)) + bt153.2)) + bt155.2)) = 0 then (surveyorlaw01_BigintDivisors.j0 k a0 a1 t147 bt149.2.1 bt149.2.2.1 bt153.1 bt155.1 (t147.toList != bt149.1.toList)) else (surveyorlaw01_BigintDivisors.j0 k a0 a1 t147 bt149.2.1 bt149.2.2.1 bt153.1 bt155.1 true)) else (surveyorlaw01_BigintDivisors.j0 k a0 a1 t147 bt149.2.1 bt149.2.2.1 bt153.1 bt155.1 true)) else (surveyorlaw01_BigintDivisors.j0 k a0 a1 t147 bt149.2.1 bt149.2.2.1 bt153.1 bt155.1 true))))) = some r := H
    have A8 := Aside0.mk A80
    clear A80
    replace H := Option.bind_eq_some_iff.mp H
    obtain ⟨⟨t149, t150, t151, t152⟩, A90, H⟩ := H
    replace H : ((bigint_Gcd.f t142 t145).bind fun bt153 => ((bigint_Abs.f a2).bind fun bt155 => (if t143 = true then (if t146 = true then (if (wrap64 ((wrap64 ((wrap64 (t148 + t152)) + bt153.2)) + bt155.2)) = 0 then (surveyorlaw01_BigintDivisors.j0 k a0 a1 t147 t150 t151 bt153.1 bt155.1 (t147.toList != t149.toList)) else (surveyorlaw01_BigintDivisors.j0 k a0 a1 t147 t150 t151 bt153.1 bt155.1 true)) else (surveyorlaw01_BigintDivisors.j0 k a0 a1 t147 t150 t151 bt153.1 bt155.1 true)) else (surveyorlaw01_BigintDivisors.j0 k a0 a1 t147 t150 t151 bt153.1 bt155.1 true)))) = some r := H
    have A9 := Aside0.mk A90
    clear A90
    replace H := Option.bind_eq_some_iff.mp H
    obtain ⟨⟨t153, t154⟩, A100, H⟩ := H
    replace H : ((bigint_Abs.f a2).bind fun bt155 => (if t143 = true then (if t146 = true then (if (wrap64 ((wrap64 ((wrap64 (t148 + t152)) + t154)) + bt155.2)) = 0 then (surveyorlaw01_BigintDivisors.j0 k a0 a1 t147 t150 t151 t153 bt155.1 (t147.toList != t149.toList)) else (surveyorlaw01_BigintDivisors.j0 k a0 a1 t147 t150 t151 t153 bt155.1 true)) else (surveyorlaw01_BigintDivisors.j0 k a0 a1 t147 t150 t151 t153 bt155.1 true)) else (surveyorlaw01_BigintDivisors.j0 k a0 a1 t147 t150 t151 t153 bt155.1 true))) = some r := H
    have A10 := Aside0.mk A100
    clear A100
    replace H := Option.bind_eq_some_iff.mp H
    obtain ⟨⟨t155, t156⟩, A110, H⟩ := H
    replace H : (if t143 = true then (if t146 = true then (if (wrap64 ((wrap64 ((wrap64 (t148 + t152)) + t154)) + t156)) = 0 then (surveyorlaw01_BigintDivisors.j0 k a0 a1 t147 t150 t151 t153 t155 (t147.toList != t149.toList)) else (surveyorlaw01_BigintDivisors.j0 k a0 a1 t147 t150 t151 t153 t155 true)) else (surveyorlaw01_BigintDivisors.j0 k a0 a1 t147 t150 t151 t153 t155 true)) else (surveyorlaw01_BigintDivisors.j0 k a0 a1 t147 t150 t151 t153 t155 true)) = some r := H
    have A11 := Aside0.mk A110
    clear A110
    have HC12 := Aside0.mk H
    clear H
    go_enter Tryz.func9, Tryz.ntmps9
    go_upto_region 9 with (first | ((with_reducible refine gate_dst (N := 38) rfl ?_); refine Kd.R_lit Kd.string _ 22 ?hg (N := 38) ?hd (xs := ([a0, a1, a2] : List ByteArray)) (inner := [.string a0, .string a1, .string a2]) (ok := fun _ => True) (okp := fun _ => True) ?hr ?hp (fun _ hk => hk) trivial (Below.refl _ _) (Nat.le_refl _) (by simp) ?_; (case hd => rfl); (case hg => rfl); (case hr => first | (go_simp; done) | (go_simp; rfl)); (case hp => exact (Reps.one (show Kd.M Kd.string _ _ _ a0 [.string a0] from rfl) (Reps.one (show Kd.M Kd.string _ _ _ a1 [.string a1] from rfl) (Reps.one (show Kd.M Kd.string _ _ _ a2 [.string a2] from rfl) (Reps.none _ _))))); intro v137 w13 ho14 hb hg_ hnew_; clear hg_ hnew_; (first | rw [← Ny136.out] at ho14 | (simp only [Int.reduceToNat] at ho14; rw [← Ny136.out] at ho14)); have n0_ := Aside0.mk (Kd.R_lower ho14 (below_size (by repeat (first | (with_reducible first | exact HB.out | apply below_alloc | apply pw_below_drewN | apply below_drew1) | exact HB.out)))); have n1_ := Aside0.mk (below_step (by repeat (first | (with_reducible first | exact HB.out | apply below_alloc | apply pw_below_drewN | apply below_drew1) | exact HB.out)) hb); clear HB; have HO138 := n0_; have HB := n1_; clear n0_ n1_; clear hb ho14; obtain ⟨Ao15, co15, eo15⟩ := Kd.R_slice HO138.out; subst eo15) | ((with_reducible refine gate_callee (f := 41) rfl ?_); refine goesL_ (some 39) rfl rfl Tryz.func41 (by kernel_rfl) rfl #[.slice Ao15 y136.length co15] rfl (by (try simp only [List.map_toArray, List.map_cons, List.map_nil]); first | done | rfl | (simp only [List.length_drop, List.length_take]; rfl)) ?_; (with_reducible refine (surveyorlaw01_right.calls k _ _ y136 true _ ?side1 ?side2 A4.out).mono ?_); (case side1 => repeat (first | exact (Kd.R_reads' HO138.out).2.2 | (with_reducible refine Kd.C_alloc ?_ _) | (with_reducible refine Kd.C_drewN ?_ _) | (with_reducible refine Kd.C_drew ?_))); (case side2 => exact (Kd.R_reads' HO138.out).2.1); rintro e w' ⟨rfl, ⟨nd, rfl⟩⟩; refine ⟨_, rfl, ?_⟩) | ((with_reducible refine gate_callee (f := 42) rfl ?_); refine goesL_ (some 45) rfl rfl Tryz.func42 (by kernel_rfl) rfl #[.string a0, .string a2] rfl (by (try simp only [List.map_toArray, List.map_cons, List.map_nil]); first | done | rfl | (simp only [List.length_drop, List.length_take]; rfl)) ?_; (with_reducible refine (surveyorlaw01_sums.calls (hG := HG.out.below (by repeat (first | (with_reducible first | exact HB.out | apply below_alloc | apply pw_below_drewN | apply below_drew1) | exact HB.out))) a0 a2 t141 t142 t143 _ A6.out).mono ?_); rintro e w16 ⟨rfl, hb⟩; refine ⟨_, rfl, ?_⟩; have n0_ := Aside0.mk (Kd.R_below (by (with_reducible repeat (first | apply Kd.R_alloc | apply Kd.R_drewN | apply Kd.R_drew)); exact HO138.out) hb); have n1_ := Aside0.mk (below_step (by repeat (first | (with_reducible first | exact HB.out | apply below_alloc | apply pw_below_drewN | apply below_drew1) | exact HB.out)) hb); clear HO138; clear HB; have HO138 := n0_; have HB := n1_; clear n0_ n1_; (try clear hb); (try clear hb2); (try clear hk); (try clear hi)) | ((with_reducible refine gate_callee (f := 42) rfl ?_); refine goesL_ (some 52) rfl rfl Tryz.func42 (by kernel_rfl) rfl #[.string a1, .string a2] rfl (by (try simp only [List.map_toArray, List.map_cons, List.map_nil]); first | done | rfl | (simp only [List.length_drop, List.length_take]; rfl)) ?_; (with_reducible refine (surveyorlaw01_sums.calls (hG := HG.out.below (by repeat (first | (with_reducible first | exact HB.out | apply below_alloc | apply pw_below_drewN | apply below_drew1) | exact HB.out))) a1 a2 t144 t145 t146 _ A7.out).mono ?_); rintro e w17 ⟨rfl, hb⟩; refine ⟨_, rfl, ?_⟩; have n0_ := Aside0.mk (Kd.R_below (by (with_reducible repeat (first | apply Kd.R_alloc | apply Kd.R_drewN | apply Kd.R_drew)); exact HO138.out) hb); have n1_ := Aside0.mk (below_step (by repeat (first | (with_reducible first | exact HB.out | apply below_alloc | apply pw_below_drewN | apply below_drew1) | exact HB.out)) hb); clear HO138; clear HB; have HO138 := n0_; have HB := n1_; clear n0_ n1_; (try clear hb); (try clear hb2); (try clear hk); (try clear hi)) | ((with_reducible refine gate_callee (f := 35) rfl ?_); refine goesL_ (some 59) rfl rfl Tryz.func35 (by kernel_rfl) rfl #[.string a0, .string a1] rfl (by (try simp only [List.map_toArray, List.map_cons, List.map_nil]); first | done | rfl | (simp only [List.length_drop, List.length_take]; rfl)) ?_; (with_reducible refine (bigint_Gcd.calls (hG := HG.out.below (by repeat (first | (with_reducible first | exact HB.out | apply below_alloc | apply pw_below_drewN | apply below_drew1) | exact HB.out))) a0 a1 t147 t148 _ A8.out).mono ?_); rintro e w18 ⟨rfl, hb⟩; refine ⟨_, rfl, ?_⟩; have n0_ := Aside0.mk (Kd.R_below (by (with_reducible repeat (first | apply Kd.R_alloc | apply Kd.R_drewN | apply Kd.R_drew)); exact HO138.out) hb); have n1_ := Aside0.mk (below_step (by repeat (first | (with_reducible first | exact HB.out | apply below_alloc | apply pw_below_drewN | apply below_drew1) | exact HB.out)) hb); clear HO138; clear HB; have HO138 := n0_; have HB := n1_; clear n0_ n1_; (try clear hb); (try clear hb2); (try clear hk); (try clear hi)) | ((with_reducible refine gate_callee (f := 39) rfl ?_); refine goesL_ (some 65) rfl rfl Tryz.func39 (by kernel_rfl) rfl #[.string a0, .string a1] rfl (by (try simp only [List.map_toArray, List.map_cons, List.map_nil]); first | done | rfl | (simp only [List.length_drop, List.length_take]; rfl)) ?_; (with_reducible refine (bigint_Bezout.calls (hG := HG.out.below (by repeat (first | (with_reducible first | exact HB.out | apply below_alloc | apply pw_below_drewN | apply below_drew1) | exact HB.out))) a0 a1 t149 t150 t151 t152 _ A9.out).mono ?_); rintro e w19 ⟨rfl, hb⟩; refine ⟨_, rfl, ?_⟩; have n0_ := Aside0.mk (Kd.R_below (by (with_reducible repeat (first | apply Kd.R_alloc | apply Kd.R_drewN | apply Kd.R_drew)); exact HO138.out) hb); have n1_ := Aside0.mk (below_step (by repeat (first | (with_reducible first | exact HB.out | apply below_alloc | apply pw_below_drewN | apply below_drew1) | exact HB.out)) hb); clear HO138; clear HB; have HO138 := n0_; have HB := n1_; clear n0_ n1_; (try clear hb); (try clear hb2); (try clear hk); (try clear hi)) | ((with_reducible refine gate_callee (f := 35) rfl ?_); refine goesL_ (some 73) rfl rfl Tryz.func35 (by kernel_rfl) rfl #[.string t142, .string t145] rfl (by (try simp only [List.map_toArray, List.map_cons, List.map_nil]); first | done | rfl | (simp only [List.length_drop, List.length_take]; rfl)) ?_; (with_reducible refine (bigint_Gcd.calls (hG := HG.out.below (by repeat (first | (with_reducible first | exact HB.out | apply below_alloc | apply pw_below_drewN | apply below_drew1) | exact HB.out))) t142 t145 t153 t154 _ A10.out).mono ?_); rintro e w20 ⟨rfl, hb⟩; refine ⟨_, rfl, ?_⟩; have n0_ := Aside0.mk (Kd.R_below (by (with_reducible repeat (first | apply Kd.R_alloc | apply Kd.R_drewN | apply Kd.R_drew)); exact HO138.out) hb); have n1_ := Aside0.mk (below_step (by repeat (first | (with_reducible first | exact HB.out | apply below_alloc | apply pw_below_drewN | apply below_drew1) | exact HB.out)) hb); clear HO138; clear HB; have HO138 := n0_; have HB := n1_; clear n0_ n1_; (try clear hb); (try clear hb2); (try clear hk); (try clear hi)) | ((with_reducible refine gate_callee (f := 44) rfl ?_); refine goesL_ (some 78) rfl rfl Tryz.func44 (by kernel_rfl) rfl #[.string a2] rfl (by (try simp only [List.map_toArray, List.map_cons, List.map_nil]); first | done | rfl | (simp only [List.length_drop, List.length_take]; rfl)) ?_; (with_reducible refine (bigint_Abs.calls a2 t155 t156 _ A11.out).mono ?_); rintro e w21 ⟨rfl, hb⟩; refine ⟨_, rfl, ?_⟩; have n0_ := Aside0.mk (Kd.R_below (by (with_reducible repeat (first | apply Kd.R_alloc | apply Kd.R_drewN | apply Kd.R_drew)); exact HO138.out) hb); have n1_ := Aside0.mk (below_step (by repeat (first | (with_reducible first | exact HB.out | apply below_alloc | apply pw_below_drewN | apply below_drew1) | exact HB.out)) hb); clear HO138; clear HB; have HO138 := n0_; have HB := n1_; clear n0_ n1_; (try clear hb); (try clear hb2); (try clear hk); (try clear hi)))
    (try simp only [Act.put, List.setIfInBounds_toArray, List.set_cons_zero, List.set_cons_succ])
    go_cut [101] (fun v101 wc => ∃ (kq : Nat) (x101_11 : Bool), v101 = .bool x101_11 ∧ Aside0 (surveyorlaw01_BigintDivisors.j0 kq a0 a1 t147 t150 t151 t153 t155 x101_11 = some r) ∧ Aside0 (kq ≤ k) ∧ Aside0 (Below w.heap.size w wc))
    case first =>
      have H := HC12.out
      clear HC12
      by_cases c22 : t143 = true
      · subst c22
        have H1 : (if t146 = true then (if (wrap64 ((wrap64 ((wrap64 (t148 + t152)) + t154)) + t156)) = 0 then (surveyorlaw01_BigintDivisors.j0 k a0 a1 t147 t150 t151 t153 t155 (t147.toList != t149.toList)) else (surveyorlaw01_BigintDivisors.j0 k a0 a1 t147 t150 t151 t153 t155 true)) else (surveyorlaw01_BigintDivisors.j0 k a0 a1 t147 t150 t151 t153 t155 true)) = some r := by rw [if_pos rfl] at H; exact H
        clear H
        have H := H1
        clear H1
        by_cases c23 : t146 = true
        · subst c23
          have H1 : (if (wrap64 ((wrap64 ((wrap64 (t148 + t152)) + t154)) + t156)) = 0 then (surveyorlaw01_BigintDivisors.j0 k a0 a1 t147 t150 t151 t153 t155 (t147.toList != t149.toList)) else (surveyorlaw01_BigintDivisors.j0 k a0 a1 t147 t150 t151 t153 t155 true)) = some r := by rw [if_pos rfl] at H; exact H
          clear H
          have H := H1
          clear H1
          by_cases c24 : (wrap64 ((wrap64 ((wrap64 (t148 + t152)) + t154)) + t156)) = 0
          · rw [if_pos c24] at H
            have c24b0 : ((wrap64 ((wrap64 ((wrap64 (t148 + t152)) + t154)) + t156)) == 0) = true := beq_iff_eq.mpr c24
            have c24b1 : ((wrap64 ((wrap64 ((wrap64 (t148 + t152)) + t154)) + t156)) != 0) = false := bne_eq_false_iff_eq.mpr c24
            clear c24
            (first | rw [c24b0] | (simp only [i64_w, i32_w]; rw [c24b0]) | skip)
            have H' := Aside0.mk H
            clear H
            go_wp2
            go_meet
            case rel => exact ⟨_, ((t147.toList != t149.toList)), (by first | rfl | (simp; done) | (simp [*]; done)), H', ⟨by first | omega | exact Nat.le_refl _⟩, ⟨by repeat (first | (with_reducible first | exact HB.out | apply below_alloc | apply pw_below_drewN | apply below_drew1) | exact HB.out)⟩⟩
          · rw [if_neg c24] at H
            have c24b0 : ((wrap64 ((wrap64 ((wrap64 (t148 + t152)) + t154)) + t156)) == 0) = false := beq_eq_false_iff_ne.mpr c24
            have c24b1 : ((wrap64 ((wrap64 ((wrap64 (t148 + t152)) + t154)) + t156)) != 0) = true := bne_iff_ne.mpr c24
            (first | rw [c24b0] | (simp only [i64_w, i32_w]; rw [c24b0]) | skip)
            have H' := Aside0.mk H
            clear H
            go_wp2
            go_meet
            case rel => exact ⟨_, (true), (by first | rfl | (simp; done) | (simp [*]; done)), H', ⟨by first | omega | exact Nat.le_refl _⟩, ⟨by repeat (first | (with_reducible first | exact HB.out | apply below_alloc | apply pw_below_drewN | apply below_drew1) | exact HB.out)⟩⟩
        · replace c23 := Bool.eq_false_iff.mpr c23
          subst c23
          have H1 : (surveyorlaw01_BigintDivisors.j0 k a0 a1 t147 t150 t151 t153 t155 true) = some r := by rw [if_neg (show ¬ (false = true) by decide)] at H; exact H
          clear H
          have H := H1
          clear H1
          have H' := Aside0.mk H
          clear H
          go_wp2
          go_meet
          case rel => exact ⟨_, (true), (by first | rfl | (simp; done) | (simp [*]; done)), H', ⟨by first | omega | exact Nat.le_refl _⟩, ⟨by repeat (first | (with_reducible first | exact HB.out | apply below_alloc | apply pw_below_drewN | apply below_drew1) | exact HB.out)⟩⟩
      · replace c22 := Bool.eq_false_iff.mpr c22
        subst c22
        have H1 : (surveyorlaw01_BigintDivisors.j0 k a0 a1 t147 t150 t151 t153 t155 true) = some r := by rw [if_neg (show ¬ (false = true) by decide)] at H; exact H
        clear H
        have H := H1
        clear H1
        have H' := Aside0.mk H
        clear H
        go_wp2
        go_meet
        case rel => exact ⟨_, (true), (by first | rfl | (simp; done) | (simp [*]; done)), H', ⟨by first | omega | exact Nat.le_refl _⟩, ⟨by repeat (first | (with_reducible first | exact HB.out | apply below_alloc | apply pw_below_drewN | apply below_drew1) | exact HB.out)⟩⟩
    case rest =>
      clear HC12
      try clear c2
      try clear p2
      try clear c3
      try clear c4
      try clear c5
      try clear p6
      try clear c9
      try clear c22
      try clear c23
      try clear c24
      try clear c24b0
      try clear c24b1
      obtain ⟨kq, x101_11, rfl, HA, HJ11, HB⟩ := hcut
      cases kq with
      | zero => exact absurd HA.out (by simp [surveyorlaw01_BigintDivisors.j0])
      | succ kj11 =>
        have H := HA.out
        clear HA
        simp only [surveyorlaw01_BigintDivisors.j0] at H
        by_cases c25 : x101_11 = true
        · subst c25
          have H1 : (some false) = some r := by rw [if_pos rfl] at H; exact H
          clear H
          have H := H1
          clear H1
          obtain rfl := Option.some.inj H
          go_wp2
          go_ret
          exact ⟨by first | rfl | (simp [errW_none, errW_some] <;> rfl) | (simp [*, errW_none, errW_some] <;> rfl), by repeat (first | (with_reducible first | exact HB.out | apply below_alloc | apply pw_below_drewN | apply below_drew1) | exact HB.out)⟩
        · replace c25 := Bool.eq_false_iff.mpr c25
          subst c25
          have H1 : ((surveyorlaw01_sums.f a0 t150).bind fun bt157 => ((surveyorlaw01_sums.f a1 t151).bind fun bt160 => ((surveyorlaw01_sums.f bt157.2.1 bt160.2.1).bind fun bt163 => ((surveyorlaw01_sums.f t147 t155).bind fun bt166 => (if bt157.2.2 = true then (if bt160.2.2 = true then (if bt163.2.2 = true then (if bt166.2.2 = true then (if bt163.1.toList = t147.toList then (surveyorlaw01_BigintDivisors.j1 kj11 a0 a1 t147 (t153.toList != bt166.2.1.toList)) else (surveyorlaw01_BigintDivisors.j1 kj11 a0 a1 t147 true)) else (surveyorlaw01_BigintDivisors.j1 kj11 a0 a1 t147 true)) else (surveyorlaw01_BigintDivisors.j1 kj11 a0 a1 t147 true)) else (surveyorlaw01_BigintDivisors.j1 kj11 a0 a1 t147 true)) else (surveyorlaw01_BigintDivisors.j1 kj11 a0 a1 t147 true)))))) = some r := by rw [if_neg (show ¬ (false = true) by decide)] at H; exact H
          clear H
          have H := H1
          clear H1
          replace H := Option.bind_eq_some_iff.mp H
          obtain ⟨⟨t157, t158, t159⟩, A260, H⟩ := H
          replace H : ((surveyorlaw01_sums.f a1 t151).bind fun bt160 => ((surveyorlaw01_sums.f t158 bt160.2.1).bind fun bt163 => ((surveyorlaw01_sums.f t147 t155).bind fun bt166 => (if t159 = true then (if bt160.2.2 = true then (if bt163.2.2 = true then (if bt166.2.2 = true then (if bt163.1.toList = t147.toList then (surveyorlaw01_BigintDivisors.j1 kj11 a0 a1 t147 (t153.toList != bt166.2.1.toList)) else (surveyorlaw01_BigintDivisors.j1 kj11 a0 a1 t147 true)) else (surveyorlaw01_BigintDivisors.j1 kj11 a0 a1 t147 true)) else (surveyorlaw01_BigintDivisors.j1 kj11 a0 a1 t147 true)) else (surveyorlaw01_BigintDivisors.j1 kj11 a0 a1 t147 true)) else (surveyorlaw01_BigintDivisors.j1 kj11 a0 a1 t147 true))))) = some r := H
          have A26 := Aside0.mk A260
          clear A260
          replace H := Option.bind_eq_some_iff.mp H
          obtain ⟨⟨t160, t161, t162⟩, A270, H⟩ := H
          replace H : ((surveyorlaw01_sums.f t158 t161).bind fun bt163 => ((surveyorlaw01_sums.f t147 t155).bind fun bt166 => (if t159 = true then (if t162 = true then (if bt163.2.2 = true then (if bt166.2.2 = true then (if bt163.1.toList = t147.toList then (surveyorlaw01_BigintDivisors.j1 kj11 a0 a1 t147 (t153.toList != bt166.2.1.toList)) else (surveyorlaw01_BigintDivisors.j1 kj11 a0 a1 t147 true)) else (surveyorlaw01_BigintDivisors.j1 kj11 a0 a1 t147 true)) else (surveyorlaw01_BigintDivisors.j1 kj11 a0 a1 t147 true)) else (surveyorlaw01_BigintDivisors.j1 kj11 a0 a1 t147 true)) else (surveyorlaw01_BigintDivisors.j1 kj11 a0 a1 t147 true)))) = some r := H
          have A27 := Aside0.mk A270
          clear A270
          replace H := Option.bind_eq_some_iff.mp H
          obtain ⟨⟨t163, t164, t165⟩, A280, H⟩ := H
          replace H : ((surveyorlaw01_sums.f t147 t155).bind fun bt166 => (if t159 = true then (if t162 = true then (if t165 = true then (if bt166.2.2 = true then (if t163.toList = t147.toList then (surveyorlaw01_BigintDivisors.j1 kj11 a0 a1 t147 (t153.toList != bt166.2.1.toList)) else (surveyorlaw01_BigintDivisors.j1 kj11 a0 a1 t147 true)) else (surveyorlaw01_BigintDivisors.j1 kj11 a0 a1 t147 true)) else (surveyorlaw01_BigintDivisors.j1 kj11 a0 a1 t147 true)) else (surveyorlaw01_BigintDivisors.j1 kj11 a0 a1 t147 true)) else (surveyorlaw01_BigintDivisors.j1 kj11 a0 a1 t147 true))) = some r := H
          have A28 := Aside0.mk A280
          clear A280
          replace H := Option.bind_eq_some_iff.mp H
          obtain ⟨⟨t166, t167, t168⟩, A290, H⟩ := H
          replace H : (if t159 = true then (if t162 = true then (if t165 = true then (if t168 = true then (if t163.toList = t147.toList then (surveyorlaw01_BigintDivisors.j1 kj11 a0 a1 t147 (t153.toList != t167.toList)) else (surveyorlaw01_BigintDivisors.j1 kj11 a0 a1 t147 true)) else (surveyorlaw01_BigintDivisors.j1 kj11 a0 a1 t147 true)) else (surveyorlaw01_BigintDivisors.j1 kj11 a0 a1 t147 true)) else (surveyorlaw01_BigintDivisors.j1 kj11 a0 a1 t147 true)) else (surveyorlaw01_BigintDivisors.j1 kj11 a0 a1 t147 true)) = some r := H
          have A29 := Aside0.mk A290
          clear A290
          have HC30 := Aside0.mk H
          clear H
          go_upto_region 15 with (first | ((with_reducible refine gate_callee (f := 42) rfl ?_); refine goesL_ (some 105) rfl rfl Tryz.func42 (by kernel_rfl) rfl #[.string a0, .string t150] rfl (by (try simp only [List.map_toArray, List.map_cons, List.map_nil]); first | done | rfl | (simp only [List.length_drop, List.length_take]; rfl)) ?_; (with_reducible refine (surveyorlaw01_sums.calls (hG := HG.out.below (by repeat (first | (with_reducible first | exact HB.out | apply below_alloc | apply pw_below_drewN | apply below_drew1) | exact HB.out))) a0 t150 t157 t158 t159 _ A26.out).mono ?_); rintro e w31 ⟨rfl, hb⟩; refine ⟨_, rfl, ?_⟩; have n0_ := Aside0.mk (below_step (by repeat (first | (with_reducible first | exact HB.out | apply below_alloc | apply pw_below_drewN | apply below_drew1) | exact HB.out)) hb); clear HB; have HB := n0_; clear n0_; (try clear hb); (try clear hb2); (try clear hk); (try clear hi)) | ((with_reducible refine gate_callee (f := 42) rfl ?_); refine goesL_ (some 112) rfl rfl Tryz.func42 (by kernel_rfl) rfl #[.string a1, .string t151] rfl (by (try simp only [List.map_toArray, List.map_cons, List.map_nil]); first | done | rfl | (simp only [List.length_drop, List.length_take]; rfl)) ?_; (with_reducible refine (surveyorlaw01_sums.calls (hG := HG.out.below (by repeat (first | (with_reducible first | exact HB.out | apply below_alloc | apply pw_below_drewN | apply below_drew1) | exact HB.out))) a1 t151 t160 t161 t162 _ A27.out).mono ?_); rintro e w32 ⟨rfl, hb⟩; refine ⟨_, rfl, ?_⟩; have n0_ := Aside0.mk (below_step (by repeat (first | (with_reducible first | exact HB.out | apply below_alloc | apply pw_below_drewN | apply below_drew1) | exact HB.out)) hb); clear HB; have HB := n0_; clear n0_; (try clear hb); (try clear hb2); (try clear hk); (try clear hi)) | ((with_reducible refine gate_callee (f := 42) rfl ?_); refine goesL_ (some 119) rfl rfl Tryz.func42 (by kernel_rfl) rfl #[.string t158, .string t161] rfl (by (try simp only [List.map_toArray, List.map_cons, List.map_nil]); first | done | rfl | (simp only [List.length_drop, List.length_take]; rfl)) ?_; (with_reducible refine (surveyorlaw01_sums.calls (hG := HG.out.below (by repeat (first | (with_reducible first | exact HB.out | apply below_alloc | apply pw_below_drewN | apply below_drew1) | exact HB.out))) t158 t161 t163 t164 t165 _ A28.out).mono ?_); rintro e w33 ⟨rfl, hb⟩; refine ⟨_, rfl, ?_⟩; have n0_ := Aside0.mk (below_step (by repeat (first | (with_reducible first | exact HB.out | apply below_alloc | apply pw_below_drewN | apply below_drew1) | exact HB.out)) hb); clear HB; have HB := n0_; clear n0_; (try clear hb); (try clear hb2); (try clear hk); (try clear hi)) | ((with_reducible refine gate_callee (f := 42) rfl ?_); refine goesL_ (some 126) rfl rfl Tryz.func42 (by kernel_rfl) rfl #[.string t147, .string t155] rfl (by (try simp only [List.map_toArray, List.map_cons, List.map_nil]); first | done | rfl | (simp only [List.length_drop, List.length_take]; rfl)) ?_; (with_reducible refine (surveyorlaw01_sums.calls (hG := HG.out.below (by repeat (first | (with_reducible first | exact HB.out | apply below_alloc | apply pw_below_drewN | apply below_drew1) | exact HB.out))) t147 t155 t166 t167 t168 _ A29.out).mono ?_); rintro e w34 ⟨rfl, hb⟩; refine ⟨_, rfl, ?_⟩; have n0_ := Aside0.mk (below_step (by repeat (first | (with_reducible first | exact HB.out | apply below_alloc | apply pw_below_drewN | apply below_drew1) | exact HB.out)) hb); clear HB; have HB := n0_; clear n0_; (try clear hb); (try clear hb2); (try clear hk); (try clear hi)))
          (try simp only [Act.put, List.setIfInBounds_toArray, List.set_cons_zero, List.set_cons_succ])
          go_cut [153] (fun v153 wc => ∃ (kq : Nat) (x153_29 : Bool), v153 = .bool x153_29 ∧ Aside0 (surveyorlaw01_BigintDivisors.j1 kq a0 a1 t147 x153_29 = some r) ∧ Aside0 (kq ≤ kj11) ∧ Aside0 (Below w.heap.size w wc))
          case first =>
            have H := HC30.out
            clear HC30
            by_cases c35 : t159 = true
            · subst c35
              have H1 : (if t162 = true then (if t165 = true then (if t168 = true then (if t163.toList = t147.toList then (surveyorlaw01_BigintDivisors.j1 kj11 a0 a1 t147 (t153.toList != t167.toList)) else (surveyorlaw01_BigintDivisors.j1 kj11 a0 a1 t147 true)) else (surveyorlaw01_BigintDivisors.j1 kj11 a0 a1 t147 true)) else (surveyorlaw01_BigintDivisors.j1 kj11 a0 a1 t147 true)) else (surveyorlaw01_BigintDivisors.j1 kj11 a0 a1 t147 true)) = some r := by rw [if_pos rfl] at H; exact H
              clear H
              have H := H1
              clear H1
              by_cases c36 : t162 = true
              · subst c36
                have H1 : (if t165 = true then (if t168 = true then (if t163.toList = t147.toList then (surveyorlaw01_BigintDivisors.j1 kj11 a0 a1 t147 (t153.toList != t167.toList)) else (surveyorlaw01_BigintDivisors.j1 kj11 a0 a1 t147 true)) else (surveyorlaw01_BigintDivisors.j1 kj11 a0 a1 t147 true)) else (surveyorlaw01_BigintDivisors.j1 kj11 a0 a1 t147 true)) = some r := by rw [if_pos rfl] at H; exact H
                clear H
                have H := H1
                clear H1
                by_cases c37 : t165 = true
                · subst c37
                  have H1 : (if t168 = true then (if t163.toList = t147.toList then (surveyorlaw01_BigintDivisors.j1 kj11 a0 a1 t147 (t153.toList != t167.toList)) else (surveyorlaw01_BigintDivisors.j1 kj11 a0 a1 t147 true)) else (surveyorlaw01_BigintDivisors.j1 kj11 a0 a1 t147 true)) = some r := by rw [if_pos rfl] at H; exact H
                  clear H
                  have H := H1
                  clear H1
                  by_cases c38 : t168 = true
                  · subst c38
                    have H1 : (if t163.toList = t147.toList then (surveyorlaw01_BigintDivisors.j1 kj11 a0 a1 t147 (t153.toList != t167.toList)) else (surveyorlaw01_BigintDivisors.j1 kj11 a0 a1 t147 true)) = some r := by rw [if_pos rfl] at H; exact H
                    clear H
                    have H := H1
                    clear H1
                    by_cases c39 : t163.toList = t147.toList
                    · rw [if_pos c39] at H
                      have c39b0 : (t163.toList == t147.toList) = true := beq_iff_eq.mpr c39
                      have c39b1 : (t163.toList != t147.toList) = false := bne_eq_false_iff_eq.mpr c39
                      clear c39
                      (first | rw [c39b0] | (simp only [i64_w, i32_w]; rw [c39b0]) | skip)
                      have H' := Aside0.mk H
                      clear H
                      go_wp2
                      go_meet
                      case rel => exact ⟨_, ((t153.toList != t167.toList)), (by first | rfl | (simp; done) | (simp [*]; done)), H', ⟨by have := HJ11.out; first | omega | exact Nat.le_refl _⟩, ⟨by repeat (first | (with_reducible first | exact HB.out | apply below_alloc | apply pw_below_drewN | apply below_drew1) | exact HB.out)⟩⟩
                    · rw [if_neg c39] at H
                      have c39b0 : (t163.toList == t147.toList) = false := beq_eq_false_iff_ne.mpr c39
                      have c39b1 : (t163.toList != t147.toList) = true := bne_iff_ne.mpr c39
                      (first | rw [c39b0] | (simp only [i64_w, i32_w]; rw [c39b0]) | skip)
                      have H' := Aside0.mk H
                      clear H
                      go_wp2
                      go_meet
                      case rel => exact ⟨_, (true), (by first | rfl | (simp; done) | (simp [*]; done)), H', ⟨by have := HJ11.out; first | omega | exact Nat.le_refl _⟩, ⟨by repeat (first | (with_reducible first | exact HB.out | apply below_alloc | apply pw_below_drewN | apply below_drew1) | exact HB.out)⟩⟩
                  · replace c38 := Bool.eq_false_iff.mpr c38
                    subst c38
                    have H1 : (surveyorlaw01_BigintDivisors.j1 kj11 a0 a1 t147 true) = some r := by rw [if_neg (show ¬ (false = true) by decide)] at H; exact H
                    clear H
                    have H := H1
                    clear H1
                    have H' := Aside0.mk H
                    clear H
                    go_wp2
                    go_meet
                    case rel => exact ⟨_, (true), (by first | rfl | (simp; done) | (simp [*]; done)), H', ⟨by have := HJ11.out; first | omega | exact Nat.le_refl _⟩, ⟨by repeat (first | (with_reducible first | exact HB.out | apply below_alloc | apply pw_below_drewN | apply below_drew1) | exact HB.out)⟩⟩
                · replace c37 := Bool.eq_false_iff.mpr c37
                  subst c37
                  have H1 : (surveyorlaw01_BigintDivisors.j1 kj11 a0 a1 t147 true) = some r := by rw [if_neg (show ¬ (false = true) by decide)] at H; exact H
                  clear H
                  have H := H1
                  clear H1
                  have H' := Aside0.mk H
                  clear H
                  go_wp2
                  go_meet
                  case rel => exact ⟨_, (true), (by first | rfl | (simp; done) | (simp [*]; done)), H', ⟨by have := HJ11.out; first | omega | exact Nat.le_refl _⟩, ⟨by repeat (first | (with_reducible first | exact HB.out | apply below_alloc | apply pw_below_drewN | apply below_drew1) | exact HB.out)⟩⟩
              · replace c36 := Bool.eq_false_iff.mpr c36
                subst c36
                have H1 : (surveyorlaw01_BigintDivisors.j1 kj11 a0 a1 t147 true) = some r := by rw [if_neg (show ¬ (false = true) by decide)] at H; exact H
                clear H
                have H := H1
                clear H1
                have H' := Aside0.mk H
                clear H
                go_wp2
                go_meet
                case rel => exact ⟨_, (true), (by first | rfl | (simp; done) | (simp [*]; done)), H', ⟨by have := HJ11.out; first | omega | exact Nat.le_refl _⟩, ⟨by repeat (first | (with_reducible first | exact HB.out | apply below_alloc | apply pw_below_drewN | apply below_drew1) | exact HB.out)⟩⟩
            · replace c35 := Bool.eq_false_iff.mpr c35
              subst c35
              have H1 : (surveyorlaw01_BigintDivisors.j1 kj11 a0 a1 t147 true) = some r := by rw [if_neg (show ¬ (false = true) by decide)] at H; exact H
              clear H
              have H := H1
              clear H1
              have H' := Aside0.mk H
              clear H
              go_wp2
              go_meet
              case rel => exact ⟨_, (true), (by first | rfl | (simp; done) | (simp [*]; done)), H', ⟨by have := HJ11.out; first | omega | exact Nat.le_refl _⟩, ⟨by repeat (first | (with_reducible first | exact HB.out | apply below_alloc | apply pw_below_drewN | apply below_drew1) | exact HB.out)⟩⟩
          case rest =>
            clear HC30
            try clear c2
            try clear p2
            try clear c3
            try clear c4
            try clear c5
            try clear p6
            try clear c9
            try clear c22
            try clear c23
            try clear c24
            try clear c24b0
            try clear c24b1
            try clear c25
            try clear c35
            try clear c36
            try clear c37
            try clear c38
            try clear c39
            try clear c39b0
            try clear c39b1
            try clear p2
            try clear p6
            obtain ⟨kq, x153_29, rfl, HA, HJ29, HB⟩ := hcut
            cases kq with
            | zero => exact absurd HA.out (by simp [surveyorlaw01_BigintDivisors.j1])
            | succ kj29 =>
              have H := HA.out
              clear HA
              simp only [surveyorlaw01_BigintDivisors.j1] at H
              by_cases c40 : x153_29 = true
              · subst c40
                have H1 : (some false) = some r := by rw [if_pos rfl] at H; exact H
                clear H
                have H := H1
                clear H1
                obtain rfl := Option.some.inj H
                go_wp2
                go_ret
                exact ⟨by first | rfl | (simp [errW_none, errW_some] <;> rfl) | (simp [*, errW_none, errW_some] <;> rfl), by repeat (first | (with_reducible first | exact HB.out | apply below_alloc | apply pw_below_drewN | apply below_drew1) | exact HB.out)⟩
              · replace c40 := Bool.eq_false_iff.mpr c40
                subst c40
                have H1 : (if t147.toList = ([48] : List UInt8) then (if a0.toList = ([48] : List UInt8) then (if a1.toList = ([48] : List UInt8) then ((surveyorlaw01_awake.f kj29).bind fun t169 => (some t169)) else (some false)) else (some false)) else ((bigint_Rem.f a0 t147).bind fun bt170 => ((bigint_Rem.f a1 t147).bind fun bt172 => (if bt170.2 = 0 then (if bt172.2 = 0 then (if bt170.1.toList = ([48] : List UInt8) then (if bt172.1.toList = ([48] : List UInt8) then ((surveyorlaw01_awake.f kj29).bind fun t174 => (some t174)) else (some false)) else (some false)) else (some false)) else (some false))))) = some r := by rw [if_neg (show ¬ (false = true) by decide)] at H; exact H
                clear H
                have H := H1
                clear H1
                by_cases c41 : t147.toList = ([48] : List UInt8)
                · rw [if_pos c41] at H
                  have c41b0 : (t147.toList == ([48] : List UInt8)) = true := beq_iff_eq.mpr c41
                  have c41b1 : (t147.toList != ([48] : List UInt8)) = false := bne_eq_false_iff_eq.mpr c41
                  clear c41
                  by_cases c42 : a0.toList = ([48] : List UInt8)
                  · rw [if_pos c42] at H
                    have c42b0 : (a0.toList == ([48] : List UInt8)) = true := beq_iff_eq.mpr c42
                    have c42b1 : (a0.toList != ([48] : List UInt8)) = false := bne_eq_false_iff_eq.mpr c42
                    clear c42
                    by_cases c43 : a1.toList = ([48] : List UInt8)
                    · rw [if_pos c43] at H
                      have c43b0 : (a1.toList == ([48] : List UInt8)) = true := beq_iff_eq.mpr c43
                      have c43b1 : (a1.toList != ([48] : List UInt8)) = false := bne_eq_false_iff_eq.mpr c43
                      clear c43
                      replace H := Option.bind_eq_some_iff.mp H
                      obtain ⟨t169, A440, H⟩ := H
                      replace H : (some t169) = some r := H
                      have A44 := Aside0.mk A440
                      clear A440
                      obtain rfl := Option.some.inj H
                      go_wp2_with (first | (go_at_call 20; (with_reducible refine (surveyorlaw01_awake.calls (hG := HG.out.below (by repeat (first | (with_reducible first | exact HB.out | apply below_alloc | apply pw_below_drewN | apply below_drew1) | exact HB.out))) kj29  t169 _ A44.out).mono ?_); rintro e w45 ⟨rfl, hb⟩; have n0_ := Aside0.mk (below_step (by repeat (first | (with_reducible first | exact HB.out | apply below_alloc | apply pw_below_drewN | apply below_drew1) | exact HB.out)) hb); clear HB; have HB := n0_; clear n0_; (try clear hb); (try clear hb2); (try clear hk); (try clear hi)))
                      go_ret
                      exact ⟨by first | rfl | (simp [errW_none, errW_some] <;> rfl) | (simp [*, errW_none, errW_some] <;> rfl), by repeat (first | (with_reducible first | exact HB.out | apply below_alloc | apply pw_below_drewN | apply below_drew1) | exact HB.out)⟩
                    · rw [if_neg c43] at H
                      have c43b0 : (a1.toList == ([48] : List UInt8)) = false := beq_eq_false_iff_ne.mpr c43
                      have c43b1 : (a1.toList != ([48] : List UInt8)) = true := bne_iff_ne.mpr c43
                      obtain rfl := Option.some.inj H
                      go_wp2
                      go_ret
                      exact ⟨by first | rfl | (simp [errW_none, errW_some] <;> rfl) | (simp [*, errW_none, errW_some] <;> rfl), by repeat (first | (with_reducible first | exact HB.out | apply below_alloc | apply pw_below_drewN | apply below_drew1) | exact HB.out)⟩
                  · rw [if_neg c42] at H
                    have c42b0 : (a0.toList == ([48] : List UInt8)) = false := beq_eq_false_iff_ne.mpr c42
                    have c42b1 : (a0.toList != ([48] : List UInt8)) = true := bne_iff_ne.mpr c42
                    obtain rfl := Option.some.inj H
                    go_wp2
                    go_ret
                    exact ⟨by first | rfl | (simp [errW_none, errW_some] <;> rfl) | (simp [*, errW_none, errW_some] <;> rfl), by repeat (first | (with_reducible first | exact HB.out | apply below_alloc | apply pw_below_drewN | apply below_drew1) | exact HB.out)⟩
                · rw [if_neg c41] at H
                  have c41b0 : (t147.toList == ([48] : List UInt8)) = false := beq_eq_false_iff_ne.mpr c41
                  have c41b1 : (t147.toList != ([48] : List UInt8)) = true := bne_iff_ne.mpr c41
                  replace H := Option.bind_eq_some_iff.mp H
                  obtain ⟨⟨t170, t171⟩, A460, H⟩ := H
                  replace H : ((bigint_Rem.f a1 t147).bind fun bt172 => (if t171 = 0 then (if bt172.2 = 0 then (if t170.toList = ([48] : List UInt8) then (if bt172.1.toList = ([48] : List UInt8) then ((surveyorlaw01_awake.f kj29).bind fun t174 => (some t174)) else (some false)) else (some false)) else (some false)) else (some false))) = some r := H
                  have A46 := Aside0.mk A460
                  clear A460
                  replace H := Option.bind_eq_some_iff.mp H
                  obtain ⟨⟨t172, t173⟩, A470, H⟩ := H
                  replace H : (if t171 = 0 then (if t173 = 0 then (if t170.toList = ([48] : List UInt8) then (if t172.toList = ([48] : List UInt8) then ((surveyorlaw01_awake.f kj29).bind fun t174 => (some t174)) else (some false)) else (some false)) else (some false)) else (some false)) = some r := H
                  have A47 := Aside0.mk A470
                  clear A470
                  by_cases c48 : t171 = 0
                  · rw [if_pos c48] at H
                    have c48b0 : (t171 == 0) = true := beq_iff_eq.mpr c48
                    have c48b1 : (t171 != 0) = false := bne_eq_false_iff_eq.mpr c48
                    clear c48
                    by_cases c49 : t173 = 0
                    · rw [if_pos c49] at H
                      have c49b0 : (t173 == 0) = true := beq_iff_eq.mpr c49
                      have c49b1 : (t173 != 0) = false := bne_eq_false_iff_eq.mpr c49
                      clear c49
                      by_cases c50 : t170.toList = ([48] : List UInt8)
                      · rw [if_pos c50] at H
                        have c50b0 : (t170.toList == ([48] : List UInt8)) = true := beq_iff_eq.mpr c50
                        have c50b1 : (t170.toList != ([48] : List UInt8)) = false := bne_eq_false_iff_eq.mpr c50
                        clear c50
                        by_cases c51 : t172.toList = ([48] : List UInt8)
                        · rw [if_pos c51] at H
                          have c51b0 : (t172.toList == ([48] : List UInt8)) = true := beq_iff_eq.mpr c51
                          have c51b1 : (t172.toList != ([48] : List UInt8)) = false := bne_eq_false_iff_eq.mpr c51
                          clear c51
                          replace H := Option.bind_eq_some_iff.mp H
                          obtain ⟨t174, A520, H⟩ := H
                          replace H : (some t174) = some r := H
                          have A52 := Aside0.mk A520
                          clear A520
                          obtain rfl := Option.some.inj H
                          go_wp2_with (first | ((with_reducible refine gate_callee (f := 23) rfl ?_); refine goesL_ (some 168) rfl rfl Tryz.func23 (by kernel_rfl) rfl #[.string a0, .string t147] rfl (by (try simp only [List.map_toArray, List.map_cons, List.map_nil]); first | done | rfl | (simp only [List.length_drop, List.length_take]; rfl)) ?_; (with_reducible refine (bigint_Rem.calls (hG := HG.out.below (by repeat (first | (with_reducible first | exact HB.out | apply below_alloc | apply pw_below_drewN | apply below_drew1) | exact HB.out))) a0 t147 t170 t171 _ A46.out).mono ?_); rintro e w53 ⟨rfl, hb⟩; refine ⟨_, rfl, ?_⟩; have n0_ := Aside0.mk (below_step (by repeat (first | (with_reducible first | exact HB.out | apply below_alloc | apply pw_below_drewN | apply below_drew1) | exact HB.out)) hb); clear HB; have HB := n0_; clear n0_; (try clear hb); (try clear hb2); (try clear hk); (try clear hi)) | ((with_reducible refine gate_callee (f := 23) rfl ?_); refine goesL_ (some 174) rfl rfl Tryz.func23 (by kernel_rfl) rfl #[.string a1, .string t147] rfl (by (try simp only [List.map_toArray, List.map_cons, List.map_nil]); first | done | rfl | (simp only [List.length_drop, List.length_take]; rfl)) ?_; (with_reducible refine (bigint_Rem.calls (hG := HG.out.below (by repeat (first | (with_reducible first | exact HB.out | apply below_alloc | apply pw_below_drewN | apply below_drew1) | exact HB.out))) a1 t147 t172 t173 _ A47.out).mono ?_); rintro e w54 ⟨rfl, hb⟩; refine ⟨_, rfl, ?_⟩; have n0_ := Aside0.mk (below_step (by repeat (first | (with_reducible first | exact HB.out | apply below_alloc | apply pw_below_drewN | apply below_drew1) | exact HB.out)) hb); clear HB; have HB := n0_; clear n0_; (try clear hb); (try clear hb2); (try clear hk); (try clear hi)) | (go_at_call 20; (with_reducible refine (surveyorlaw01_awake.calls (hG := HG.out.below (by repeat (first | (with_reducible first | exact HB.out | apply below_alloc | apply pw_below_drewN | apply below_drew1) | exact HB.out))) kj29  t174 _ A52.out).mono ?_); rintro e w55 ⟨rfl, hb⟩; have n0_ := Aside0.mk (below_step (by repeat (first | (with_reducible first | exact HB.out | apply below_alloc | apply pw_below_drewN | apply below_drew1) | exact HB.out)) hb); clear HB; have HB := n0_; clear n0_; (try clear hb); (try clear hb2); (try clear hk); (try clear hi)))
                          go_ret
                          exact ⟨by first | rfl | (simp [errW_none, errW_some] <;> rfl) | (simp [*, errW_none, errW_some] <;> rfl), by repeat (first | (with_reducible first | exact HB.out | apply below_alloc | apply pw_below_drewN | apply below_drew1) | exact HB.out)⟩
                        · rw [if_neg c51] at H
                          have c51b0 : (t172.toList == ([48] : List UInt8)) = false := beq_eq_false_iff_ne.mpr c51
                          have c51b1 : (t172.toList != ([48] : List UInt8)) = true := bne_iff_ne.mpr c51
                          obtain rfl := Option.some.inj H
                          go_wp2_with (first | ((with_reducible refine gate_callee (f := 23) rfl ?_); refine goesL_ (some 168) rfl rfl Tryz.func23 (by kernel_rfl) rfl #[.string a0, .string t147] rfl (by (try simp only [List.map_toArray, List.map_cons, List.map_nil]); first | done | rfl | (simp only [List.length_drop, List.length_take]; rfl)) ?_; (with_reducible refine (bigint_Rem.calls (hG := HG.out.below (by repeat (first | (with_reducible first | exact HB.out | apply below_alloc | apply pw_below_drewN | apply below_drew1) | exact HB.out))) a0 t147 t170 t171 _ A46.out).mono ?_); rintro e w56 ⟨rfl, hb⟩; refine ⟨_, rfl, ?_⟩; have n0_ := Aside0.mk (below_step (by repeat (first | (with_reducible first | exact HB.out | apply below_alloc | apply pw_below_drewN | apply below_drew1) | exact HB.out)) hb); clear HB; have HB := n0_; clear n0_; (try clear hb); (try clear hb2); (try clear hk); (try clear hi)) | ((with_reducible refine gate_callee (f := 23) rfl ?_); refine goesL_ (some 174) rfl rfl Tryz.func23 (by kernel_rfl) rfl #[.string a1, .string t147] rfl (by (try simp only [List.map_toArray, List.map_cons, List.map_nil]); first | done | rfl | (simp only [List.length_drop, List.length_take]; rfl)) ?_; (with_reducible refine (bigint_Rem.calls (hG := HG.out.below (by repeat (first | (with_reducible first | exact HB.out | apply below_alloc | apply pw_below_drewN | apply below_drew1) | exact HB.out))) a1 t147 t172 t173 _ A47.out).mono ?_); rintro e w57 ⟨rfl, hb⟩; refine ⟨_, rfl, ?_⟩; have n0_ := Aside0.mk (below_step (by repeat (first | (with_reducible first | exact HB.out | apply below_alloc | apply pw_below_drewN | apply below_drew1) | exact HB.out)) hb); clear HB; have HB := n0_; clear n0_; (try clear hb); (try clear hb2); (try clear hk); (try clear hi)))
                          go_ret
                          exact ⟨by first | rfl | (simp [errW_none, errW_some] <;> rfl) | (simp [*, errW_none, errW_some] <;> rfl), by repeat (first | (with_reducible first | exact HB.out | apply below_alloc | apply pw_below_drewN | apply below_drew1) | exact HB.out)⟩
                      · rw [if_neg c50] at H
                        have c50b0 : (t170.toList == ([48] : List UInt8)) = false := beq_eq_false_iff_ne.mpr c50
                        have c50b1 : (t170.toList != ([48] : List UInt8)) = true := bne_iff_ne.mpr c50
                        obtain rfl := Option.some.inj H
                        go_wp2_with (first | ((with_reducible refine gate_callee (f := 23) rfl ?_); refine goesL_ (some 168) rfl rfl Tryz.func23 (by kernel_rfl) rfl #[.string a0, .string t147] rfl (by (try simp only [List.map_toArray, List.map_cons, List.map_nil]); first | done | rfl | (simp only [List.length_drop, List.length_take]; rfl)) ?_; (with_reducible refine (bigint_Rem.calls (hG := HG.out.below (by repeat (first | (with_reducible first | exact HB.out | apply below_alloc | apply pw_below_drewN | apply below_drew1) | exact HB.out))) a0 t147 t170 t171 _ A46.out).mono ?_); rintro e w58 ⟨rfl, hb⟩; refine ⟨_, rfl, ?_⟩; have n0_ := Aside0.mk (below_step (by repeat (first | (with_reducible first | exact HB.out | apply below_alloc | apply pw_below_drewN | apply below_drew1) | exact HB.out)) hb); clear HB; have HB := n0_; clear n0_; (try clear hb); (try clear hb2); (try clear hk); (try clear hi)) | ((with_reducible refine gate_callee (f := 23) rfl ?_); refine goesL_ (some 174) rfl rfl Tryz.func23 (by kernel_rfl) rfl #[.string a1, .string t147] rfl (by (try simp only [List.map_toArray, List.map_cons, List.map_nil]); first | done | rfl | (simp only [List.length_drop, List.length_take]; rfl)) ?_; (with_reducible refine (bigint_Rem.calls (hG := HG.out.below (by repeat (first | (with_reducible first | exact HB.out | apply below_alloc | apply pw_below_drewN | apply below_drew1) | exact HB.out))) a1 t147 t172 t173 _ A47.out).mono ?_); rintro e w59 ⟨rfl, hb⟩; refine ⟨_, rfl, ?_⟩; have n0_ := Aside0.mk (below_step (by repeat (first | (with_reducible first | exact HB.out | apply below_alloc | apply pw_below_drewN | apply below_drew1) | exact HB.out)) hb); clear HB; have HB := n0_; clear n0_; (try clear hb); (try clear hb2); (try clear hk); (try clear hi)))
                        go_ret
                        exact ⟨by first | rfl | (simp [errW_none, errW_some] <;> rfl) | (simp [*, errW_none, errW_some] <;> rfl), by repeat (first | (with_reducible first | exact HB.out | apply below_alloc | apply pw_below_drewN | apply below_drew1) | exact HB.out)⟩
                    · rw [if_neg c49] at H
                      have c49b0 : (t173 == 0) = false := beq_eq_false_iff_ne.mpr c49
                      have c49b1 : (t173 != 0) = true := bne_iff_ne.mpr c49
                      obtain rfl := Option.some.inj H
                      go_wp2_with (first | ((with_reducible refine gate_callee (f := 23) rfl ?_); refine goesL_ (some 168) rfl rfl Tryz.func23 (by kernel_rfl) rfl #[.string a0, .string t147] rfl (by (try simp only [List.map_toArray, List.map_cons, List.map_nil]); first | done | rfl | (simp only [List.length_drop, List.length_take]; rfl)) ?_; (with_reducible refine (bigint_Rem.calls (hG := HG.out.below (by repeat (first | (with_reducible first | exact HB.out | apply below_alloc | apply pw_below_drewN | apply below_drew1) | exact HB.out))) a0 t147 t170 t171 _ A46.out).mono ?_); rintro e w60 ⟨rfl, hb⟩; refine ⟨_, rfl, ?_⟩; have n0_ := Aside0.mk (below_step (by repeat (first | (with_reducible first | exact HB.out | apply below_alloc | apply pw_below_drewN | apply below_drew1) | exact HB.out)) hb); clear HB; have HB := n0_; clear n0_; (try clear hb); (try clear hb2); (try clear hk); (try clear hi)) | ((with_reducible refine gate_callee (f := 23) rfl ?_); refine goesL_ (some 174) rfl rfl Tryz.func23 (by kernel_rfl) rfl #[.string a1, .string t147] rfl (by (try simp only [List.map_toArray, List.map_cons, List.map_nil]); first | done | rfl | (simp only [List.length_drop, List.length_take]; rfl)) ?_; (with_reducible refine (bigint_Rem.calls (hG := HG.out.below (by repeat (first | (with_reducible first | exact HB.out | apply below_alloc | apply pw_below_drewN | apply below_drew1) | exact HB.out))) a1 t147 t172 t173 _ A47.out).mono ?_); rintro e w61 ⟨rfl, hb⟩; refine ⟨_, rfl, ?_⟩; have n0_ := Aside0.mk (below_step (by repeat (first | (with_reducible first | exact HB.out | apply below_alloc | apply pw_below_drewN | apply below_drew1) | exact HB.out)) hb); clear HB; have HB := n0_; clear n0_; (try clear hb); (try clear hb2); (try clear hk); (try clear hi)))
                      go_ret
                      exact ⟨by first | rfl | (simp [errW_none, errW_some] <;> rfl) | (simp [*, errW_none, errW_some] <;> rfl), by repeat (first | (with_reducible first | exact HB.out | apply below_alloc | apply pw_below_drewN | apply below_drew1) | exact HB.out)⟩
                  · rw [if_neg c48] at H
                    have c48b0 : (t171 == 0) = false := beq_eq_false_iff_ne.mpr c48
                    have c48b1 : (t171 != 0) = true := bne_iff_ne.mpr c48
                    obtain rfl := Option.some.inj H
                    go_wp2_with (first | ((with_reducible refine gate_callee (f := 23) rfl ?_); refine goesL_ (some 168) rfl rfl Tryz.func23 (by kernel_rfl) rfl #[.string a0, .string t147] rfl (by (try simp only [List.map_toArray, List.map_cons, List.map_nil]); first | done | rfl | (simp only [List.length_drop, List.length_take]; rfl)) ?_; (with_reducible refine (bigint_Rem.calls (hG := HG.out.below (by repeat (first | (with_reducible first | exact HB.out | apply below_alloc | apply pw_below_drewN | apply below_drew1) | exact HB.out))) a0 t147 t170 t171 _ A46.out).mono ?_); rintro e w62 ⟨rfl, hb⟩; refine ⟨_, rfl, ?_⟩; have n0_ := Aside0.mk (below_step (by repeat (first | (with_reducible first | exact HB.out | apply below_alloc | apply pw_below_drewN | apply below_drew1) | exact HB.out)) hb); clear HB; have HB := n0_; clear n0_; (try clear hb); (try clear hb2); (try clear hk); (try clear hi)) | ((with_reducible refine gate_callee (f := 23) rfl ?_); refine goesL_ (some 174) rfl rfl Tryz.func23 (by kernel_rfl) rfl #[.string a1, .string t147] rfl (by (try simp only [List.map_toArray, List.map_cons, List.map_nil]); first | done | rfl | (simp only [List.length_drop, List.length_take]; rfl)) ?_; (with_reducible refine (bigint_Rem.calls (hG := HG.out.below (by repeat (first | (with_reducible first | exact HB.out | apply below_alloc | apply pw_below_drewN | apply below_drew1) | exact HB.out))) a1 t147 t172 t173 _ A47.out).mono ?_); rintro e w63 ⟨rfl, hb⟩; refine ⟨_, rfl, ?_⟩; have n0_ := Aside0.mk (below_step (by repeat (first | (with_reducible first | exact HB.out | apply below_alloc | apply pw_below_drewN | apply below_drew1) | exact HB.out)) hb); clear HB; have HB := n0_; clear n0_; (try clear hb); (try clear hb2); (try clear hk); (try clear hi)))
                    go_ret
                    exact ⟨by first | rfl | (simp [errW_none, errW_some] <;> rfl) | (simp [*, errW_none, errW_some] <;> rfl), by repeat (first | (with_reducible first | exact HB.out | apply below_alloc | apply pw_below_drewN | apply below_drew1) | exact HB.out)⟩
  · replace c5 := Bool.eq_false_iff.mpr c5
    subst c5
    have H1 : ((surveyorlaw01_awake.f k).bind fun t140 => (some t140)) = some r := by rw [if_neg (show ¬ (false = true) by decide)] at H; exact H
    clear H
    have H := H1
    clear H1
    replace H := Option.bind_eq_some_iff.mp H
    obtain ⟨t140, A640, H⟩ := H
    replace H : (some t140) = some r := H
    have A64 := Aside0.mk A640
    clear A640
    obtain rfl := Option.some.inj H
    go_enter Tryz.func9, Tryz.ntmps9
    go_wp2_with (first | ((with_reducible refine gate_dst (N := 38) rfl ?_); refine Kd.R_lit Kd.string _ 22 ?hg (N := 38) ?hd (xs := ([a0, a1, a2] : List ByteArray)) (inner := [.string a0, .string a1, .string a2]) (ok := fun _ => True) (okp := fun _ => True) ?hr ?hp (fun _ hk => hk) trivial (Below.refl _ _) (Nat.le_refl _) (by simp) ?_; (case hd => rfl); (case hg => rfl); (case hr => first | (go_simp; done) | (go_simp; rfl)); (case hp => exact (Reps.one (show Kd.M Kd.string _ _ _ a0 [.string a0] from rfl) (Reps.one (show Kd.M Kd.string _ _ _ a1 [.string a1] from rfl) (Reps.one (show Kd.M Kd.string _ _ _ a2 [.string a2] from rfl) (Reps.none _ _))))); intro v137 w65 ho66 hb hg_ hnew_; clear hg_ hnew_; (first | rw [← Ny136.out] at ho66 | (simp only [Int.reduceToNat] at ho66; rw [← Ny136.out] at ho66)); have n0_ := Aside0.mk (Kd.R_lower ho66 (below_size (by repeat (first | (with_reducible first | exact HB.out | apply below_alloc | apply pw_below_drewN | apply below_drew1) | exact HB.out)))); have n1_ := Aside0.mk (below_step (by repeat (first | (with_reducible first | exact HB.out | apply below_alloc | apply pw_below_drewN | apply below_drew1) | exact HB.out)) hb); clear HB; have HO138 := n0_; have HB := n1_; clear n0_ n1_; clear hb ho66; obtain ⟨Ao67, co67, eo67⟩ := Kd.R_slice HO138.out; subst eo67) | ((with_reducible refine gate_callee (f := 41) rfl ?_); refine goesL_ (some 39) rfl rfl Tryz.func41 (by kernel_rfl) rfl #[.slice Ao67 y136.length co67] rfl (by (try simp only [List.map_toArray, List.map_cons, List.map_nil]); first | done | rfl | (simp only [List.length_drop, List.length_take]; rfl)) ?_; (with_reducible refine (surveyorlaw01_right.calls k _ _ y136 false _ ?side1 ?side2 A4.out).mono ?_); (case side1 => repeat (first | exact (Kd.R_reads' HO138.out).2.2 | (with_reducible refine Kd.C_alloc ?_ _) | (with_reducible refine Kd.C_drewN ?_ _) | (with_reducible refine Kd.C_drew ?_))); (case side2 => exact (Kd.R_reads' HO138.out).2.1); rintro e w' ⟨rfl, ⟨nd, rfl⟩⟩; refine ⟨_, rfl, ?_⟩) | ((with_reducible refine gate_callee (f := 20) rfl ?_); refine goesL_ (some 41) rfl rfl Tryz.func20 (by kernel_rfl) rfl #[] rfl (by (try simp only [List.map_toArray, List.map_cons, List.map_nil]); first | done | rfl | (simp only [List.length_drop, List.length_take]; rfl)) ?_; (with_reducible refine (surveyorlaw01_awake.calls (hG := HG.out.below (by repeat (first | (with_reducible first | exact HB.out | apply below_alloc | apply pw_below_drewN | apply below_drew1) | exact HB.out))) k  t140 _ A64.out).mono ?_); rintro e w68 ⟨rfl, hb⟩; refine ⟨_, rfl, ?_⟩; have n0_ := Aside0.mk (Kd.R_below (by (with_reducible repeat (first | apply Kd.R_alloc | apply Kd.R_drewN | apply Kd.R_drew)); exact HO138.out) hb); have n1_ := Aside0.mk (below_step (by repeat (first | (with_reducible first | exact HB.out | apply below_alloc | apply pw_below_drewN | apply below_drew1) | exact HB.out)) hb); clear HO138; clear HB; have HO138 := n0_; have HB := n1_; clear n0_ n1_; (try clear hb); (try clear hb2); (try clear hk); (try clear hi)))
    go_ret
    exact ⟨by first | rfl | (simp [errW_none, errW_some] <;> rfl) | (simp [*, errW_none, errW_some] <;> rfl), by repeat (first | (with_reducible first | exact HB.out | apply below_alloc | apply pw_below_drewN | apply below_drew1) | exact HB.out)⟩

/-- THE ONE PURE STATEMENT of surveyorlaw01_BigintDivisors: yours. -/
def surveyorlaw01_BigintDivisors.Pure : Prop := ∀ (a0 : ByteArray) (a1 : ByteArray) (a2 : ByteArray), a0.size ≤ 140737488351232 → a1.size ≤ 140737488351232 → a2.size ≤ 140737488351232 → ∃ k, surveyorlaw01_BigintDivisors.f k a0 a1 a2 = some true
theorem surveyorlaw01_BigintDivisors.walk (P : surveyorlaw01_BigintDivisors.Pure) (a0 : ByteArray) (a1 : ByteArray) (a2 : ByteArray) (w : World) (hG : GW w) (w0 : a0.size ≤ 140737488351232) (w1 : a1.size ≤ 140737488351232) (w2 : a2.size ≤ 140737488351232) :
    Calls Tryz.prog 9 #[.string a0, .string a1, .string a2] w fun e w' => e = .returned (.bool true) ∧ Below w.heap.size w w' := by
  obtain ⟨k, h⟩ := P a0 a1 a2 w0 w1 w2
  refine (surveyorlaw01_BigintDivisors.calls (hG := hG) k a0 a1 a2 true w h).mono ?_
  rintro e w' ⟨rfl, hd⟩
  exact ⟨rfl, hd⟩

end Go.Proofs.YtdldoghcbnkkjaaGreatDoor.PBigintDivisors
