-- printed by a program of this session (wip/gprint.py, a patched run of the print) out of the translation. Lean checks it.
import Derived.Test.YtdldoghcbnkkjaaGreatDoorPBigintChecksx0
import Derived.Test.YtdldoghcbnkkjaaGreatDoorPBigintChecksx1
import Derived.Test.YtdldoghcbnkkjaaGreatDoorPBigintChecksx2
namespace Go.Proofs.YtdldoghcbnkkjaaGreatDoor.PBigintChecks
open Go.RowKit Go.Proofs.YtdldoghcbnkkjaaGreatDoorW.PrintWords Go.Proofs.YtdldoghcbnkkjaaGreatDoorW.PrintLast Go.Proofs.YtdldoghcbnkkjaaGreatDoorW.PrintMore
attribute [local go_sem] max2_int min2_int max_two min_two max_three min_three max_four min_four   -- for this text's walks alone
set_option linter.unusedVariables false
set_option linter.unusedSimpArgs false

/-! ### surveyorlaw01_BigintChecks: function 13 -/
def surveyorlaw01_BigintChecks.j0 : Nat → ByteArray → Int → Int → ByteArray → ByteArray → Bool → Option (Bool)
  | 0, _, _, _, _, _, _ => none
  | k + 1, x0, x5, x6, x8, x10, x83 => if x83 = true then (some false) else (if x5 = 0 then ((law01_awake.f).bind fun t138 => (if t138 = true then ((surveyorref01_Sign.f x0).bind fun t139 => (if x6 = t139 then ((surveyorref01_Negated.f x0).bind fun t140 => (if x8.toList = t140.toList then ((surveyorref01_Magnitude.f x0).bind fun t141 => (some (x10.toList == t141.toList))) else (some false))) else (some false))) else (some false))) else ((law01_awake.f).bind fun t137 => (if t137 = true then (if x6 = 0 then (if x8.toList = ([] : List UInt8) then (some (x10.toList == ([] : List UInt8))) else (some false)) else (some false)) else (some false))))
def surveyorlaw01_BigintChecks.f (k : Nat) (a0 : ByteArray) (a1 : Int) : Option (Bool) := (surveyorlaw01_few.f k (([a0] : List ByteArray))).bind fun t121 => (if t121 = true then ((surveyorref01_Check.f k a0).bind fun t123 => ((bigint_Sign.f a0).bind fun bt124 => ((bigint_Neg.f a0).bind fun bt126 => ((bigint_Abs.f a0).bind fun bt128 => ((bigint_SmallA.f a0).bind fun bt130 => ((surveyorref01_Small.f k a0).bind fun bt132 => ((bigint_Check.f a0).bind fun t134 => (if t134 = t123 then (if bt124.2 = t123 then (if bt126.2 = t123 then (if bt128.2 = t123 then (if bt130.1 = bt132.1 then (if bt130.2 = bt132.2 then ((bigint_Of.f a1).bind fun t135 => ((surveyorref01_Whole.f k a1).bind fun t136 => (surveyorlaw01_BigintChecks.j0 k a0 t123 bt124.1 bt126.1 bt128.1 (t135.toList != t136.toList)))) else (surveyorlaw01_BigintChecks.j0 k a0 t123 bt124.1 bt126.1 bt128.1 true)) else (surveyorlaw01_BigintChecks.j0 k a0 t123 bt124.1 bt126.1 bt128.1 true)) else (surveyorlaw01_BigintChecks.j0 k a0 t123 bt124.1 bt126.1 bt128.1 true)) else (surveyorlaw01_BigintChecks.j0 k a0 t123 bt124.1 bt126.1 bt128.1 true)) else (surveyorlaw01_BigintChecks.j0 k a0 t123 bt124.1 bt126.1 bt128.1 true)) else (surveyorlaw01_BigintChecks.j0 k a0 t123 bt124.1 bt126.1 bt128.1 true))))))))) else ((law01_awake.f).bind fun t122 => (some t122)))
theorem surveyorlaw01_BigintChecks.mono_l : ∀ k, (∀ y0 y1 y2 y3 y4 y5, LeO (surveyorlaw01_BigintChecks.j0 k y0 y1 y2 y3 y4 y5) (surveyorlaw01_BigintChecks.j0 (k + 1) y0 y1 y2 y3 y4 y5))
  | 0 => fun _ _ _ _ _ _ r h => by simp [surveyorlaw01_BigintChecks.j0] at h
  | k + 1 => by
    have ih0 := surveyorlaw01_BigintChecks.mono_l k
    · intro y0 y1 y2 y3 y4 y5
      unfold surveyorlaw01_BigintChecks.j0
      repeat' first
      | (with_reducible exact ih0 _ _ _ _ _ _)
      | (with_reducible exact surveyorlaw01_few.mono _ _)
      | (with_reducible exact surveyorref01_Check.mono _ _)
      | (with_reducible exact surveyorref01_Small.mono _ _)
      | (with_reducible exact surveyorref01_Whole.mono _ _)
      | (with_reducible exact LeO.refl _)
      | (with_reducible exact LeO.none _)
      | (with_reducible refine LeO.ite ?_ ?_)
      | (with_reducible refine LeO.bind ?_ (fun _ => ?_))
      | exact ih0 _ _ _ _ _ _
      | exact surveyorlaw01_few.mono _ _
      | exact surveyorref01_Check.mono _ _
      | exact surveyorref01_Small.mono _ _
      | exact surveyorref01_Whole.mono _ _
      | exact LeO.none _
      | refine LeO.ite ?_ ?_
      | refine LeO.bind ?_ (fun _ => ?_)
theorem surveyorlaw01_BigintChecks.mono : ∀ a0 a1 k, LeO (surveyorlaw01_BigintChecks.f k a0 a1) (surveyorlaw01_BigintChecks.f (k + 1) a0 a1) := by
  intro a0 a1 k
  have ih0 := surveyorlaw01_BigintChecks.mono_l k
  unfold surveyorlaw01_BigintChecks.f
  repeat' first
      | (with_reducible exact ih0 _ _ _ _ _ _)
      | (with_reducible exact surveyorlaw01_few.mono _ _)
      | (with_reducible exact surveyorref01_Check.mono _ _)
      | (with_reducible exact surveyorref01_Small.mono _ _)
      | (with_reducible exact surveyorref01_Whole.mono _ _)
      | (with_reducible exact LeO.refl _)
      | (with_reducible exact LeO.none _)
      | (with_reducible refine LeO.ite ?_ ?_)
      | (with_reducible refine LeO.bind ?_ (fun _ => ?_))
      | exact ih0 _ _ _ _ _ _
      | exact surveyorlaw01_few.mono _ _
      | exact surveyorref01_Check.mono _ _
      | exact surveyorref01_Small.mono _ _
      | exact surveyorref01_Whole.mono _ _
      | exact LeO.none _
      | refine LeO.ite ?_ ?_
      | refine LeO.bind ?_ (fun _ => ?_)
set_option maxHeartbeats 8000000 in
set_option maxRecDepth 100000 in
theorem surveyorlaw01_BigintChecks.calls (k : Nat) (a0 : ByteArray) (a1 : Int) (r : Bool) (w : World) (hS : SM w) (hG : GW w) (h : surveyorlaw01_BigintChecks.f k a0 a1 = some r) :
    Calls Tryz.prog 13 #[.string a0, .int .i64 a1] w fun e w' => e = .returned (.bool r) ∧ Below w.heap.size w w' := by
  have HS := Aside0.mk hS
  clear hS
  have HG := Aside0.mk hG
  clear hG
  have HB := Aside0.mk (Below.refl w.heap.size w)
  have H : ((surveyorlaw01_few.f k (([a0] : List ByteArray))).bind fun t121 => (if t121 = true then ((surveyorref01_Check.f k a0).bind fun t123 => ((bigint_Sign.f a0).bind fun bt124 => ((bigint_Neg.f a0).bind fun bt126 => ((bigint_Abs.f a0).bind fun bt128 => ((bigint_SmallA.f a0).bind fun bt130 => ((surveyorref01_Small.f k a0).bind fun bt132 => ((bigint_Check.f a0).bind fun t134 => (if t134 = t123 then (if bt124.2 = t123 then (if bt126.2 = t123 then (if bt128.2 = t123 then (if bt130.1 = bt132.1 then (if bt130.2 = bt132.2 then ((bigint_Of.f a1).bind fun t135 => ((surveyorref01_Whole.f k a1).bind fun t136 => (surveyorlaw01_BigintChecks.j0 k a0 t123 bt124.1 bt126.1 bt128.1 (t135.toList != t136.toList)))) else (surveyorlaw01_BigintChecks.j0 k a0 t123 bt124.1 bt126.1 bt128.1 true)) else (surveyorlaw01_BigintChecks.j0 k a0 t123 bt124.1 bt126.1 bt128.1 true)) else (surveyorlaw01_BigintChecks.j0 k a0 t123 bt124.1 bt126.1 bt128.1 true)) else (surveyorlaw01_BigintChecks.j0 k a0 t123 bt124.1 bt126.1 bt128.1 true)) else (surveyorlaw01_BigintChecks.j0 k a0 t123 bt124.1 bt126.1 bt128.1 true)) else (surveyorlaw01_BigintChecks.j0 k a0 t123 bt124.1 bt126.1 bt128.1 true))))))))) else ((law01_awake.f).bind fun t122 => (some t122)))) = some r := h
  clear h
  obtain ⟨y118, hy118⟩ : ∃ y_ : List ByteArray, y_ = (([a0] : List ByteArray)) := ⟨_, rfl⟩
  replace H : ((surveyorlaw01_few.f k y118).bind fun t121 => (if t121 = true then ((surveyorref01_Check.f k a0).bind fun t123 => ((bigint_Sign.f a0).bind fun bt124 => ((bigint_Neg.f a0).bind fun bt126 => ((bigint_Abs.f a0).bind fun bt128 => ((bigint_SmallA.f a0).bind fun bt130 => ((surveyorref01_Small.f k a0).bind fun bt132 => ((bigint_Check.f a0).bind fun t134 => (if t134 = t123 then (if bt124.2 = t123 then (if bt126.2 = t123 then (if bt128.2 = t123 then (if bt130.1 = bt132.1 then (if bt130.2 = bt132.2 then ((bigint_Of.f a1).bind fun t135 => ((surveyorref01_Whole.f k a1).bind fun t136 => (surveyorlaw01_BigintChecks.j0 k a0 t123 bt124.1 bt126.1 bt128.1 (t135.toList != t136.toList)))) else (surveyorlaw01_BigintChecks.j0 k a0 t123 bt124.1 bt126.1 bt128.1 true)) else (surveyorlaw01_BigintChecks.j0 k a0 t123 bt124.1 bt126.1 bt128.1 true)) else (surveyorlaw01_BigintChecks.j0 k a0 t123 bt124.1 bt126.1 bt128.1 true)) else (surveyorlaw01_BigintChecks.j0 k a0 t123 bt124.1 bt126.1 bt128.1 true)) else (surveyorlaw01_BigintChecks.j0 k a0 t123 bt124.1 bt126.1 bt128.1 true)) else (surveyorlaw01_BigintChecks.j0 k a0 t123 bt124.1 bt126.1 bt128.1 true))))))))) else ((law01_awake.f).bind fun t122 => (some t122)))) = some r := by first | (rw [hy118]; with_reducible exact H) | (have H2_ := (Option.bind_some _ _).symm.trans H; rw [hy118]; with_reducible exact H2_) | (have H2_ := (Option.bind_some _ _).symm.trans H; with_reducible exact H2_) | with_reducible exact H | (rw [hy118]; exact H) | exact H
  have Ny118 := Aside0.mk hy118
  clear hy118
  replace H := Option.bind_eq_some_iff.mp H
  obtain ⟨t121, A30, H⟩ := H
  replace H : (if t121 = true then ((surveyorref01_Check.f k a0).bind fun t123 => ((bigint_Sign.f a0).bind fun bt124 => ((bigint_Neg.f a0).bind fun bt126 => ((bigint_Abs.f a0).bind fun bt128 => ((bigint_SmallA.f a0).bind fun bt130 => ((surveyorref01_Small.f k a0).bind fun bt132 => ((bigint_Check.f a0).bind fun t134 => (if t134 = t123 then (if bt124.2 = t123 then (if bt126.2 = t123 then (if bt128.2 = t123 then (if bt130.1 = bt132.1 then (if bt130.2 = bt132.2 then ((bigint_Of.f a1).bind fun t135 => ((surveyorref01_Whole.f k a1).bind fun t136 => (surveyorlaw01_BigintChecks.j0 k a0 t123 bt124.1 bt126.1 bt128.1 (t135.toList != t136.toList)))) else (surveyorlaw01_BigintChecks.j0 k a0 t123 bt124.1 bt126.1 bt128.1 true)) else (surveyorlaw01_BigintChecks.j0 k a0 t123 bt124.1 bt126.1 bt128.1 true)) else (surveyorlaw01_BigintChecks.j0 k a0 t123 bt124.1 bt126.1 bt128.1 true)) else (surveyorlaw01_BigintChecks.j0 k a0 t123 bt124.1 bt126.1 bt128.1 true)) else (surveyorlaw01_BigintChecks.j0 k a0 t123 bt124.1 bt126.1 bt128.1 true)) else (surveyorlaw01_BigintChecks.j0 k a0 t123 bt124.1 bt126.1 bt128.1 true))))))))) else ((law01_awake.f).bind fun t122 => (some t122))) = some r := H
  have A3 := Aside0.mk A30
  clear A30
  by_cases c4 : t121 = true
  · subst c4
    have H1 : ((surveyorref01_Check.f k a0).bind fun t123 => ((bigint_Sign.f a0).bind fun bt124 => ((bigint_Neg.f a0).bind fun bt126 => ((bigint_Abs.f a0).bind fun bt128 => ((bigint_SmallA.f a0).bind fun bt130 => ((surveyorref01_Small.f k a0).bind fun bt132 => ((bigint_Check.f a0).bind fun t134 => (if t134 = t123 then (if bt124.2 = t123 then (if bt126.2 = t123 then (if bt128.2 = t123 then (if bt130.1 = bt132.1 then (if bt130.2 = bt132.2 then ((bigint_Of.f a1).bind fun t135 => ((surveyorref01_Whole.f k a1).bind fun t136 => (surveyorlaw01_BigintChecks.j0 k a0 t123 bt124.1 bt126.1 bt128.1 (t135.toList != t136.toList)))) else (surveyorlaw01_BigintChecks.j0 k a0 t123 bt124.1 bt126.1 bt128.1 true)) else (surveyorlaw01_BigintChecks.j0 k a0 t123 bt124.1 bt126.1 bt128.1 true)) else (surveyorlaw01_BigintChecks.j0 k a0 t123 bt124.1 bt126.1 bt128.1 true)) else (surveyorlaw01_BigintChecks.j0 k a0 t123 bt124.1 bt126.1 bt128.1 true)) else (surveyorlaw01_BigintChecks.j0 k a0 t123 bt124.1 bt126.1 bt128.1 true)) else (surveyorlaw01_BigintChecks.j0 k a0 t123 bt124.1 bt126.1 bt128.1 true))))))))) = some r := by rw [if_pos rfl] at H; exact H
    clear H
    have H := H1
    clear H1
    replace H := Option.bind_eq_some_iff.mp H
    obtain ⟨t123, A50, H⟩ := H
    replace H : ((bigint_Sign.f a0).bind fun bt124 => ((bigint_Neg.f a0).bind fun bt126 => ((bigint_Abs.f a0).bind fun bt128 => ((bigint_SmallA.f a0).bind fun bt130 => ((surveyorref01_Small.f k a0).bind fun bt132 => ((bigint_Check.f a0).bind fun t134 => (if t134 = t123 then (if bt124.2 = t123 then (if bt126.2 = t123 then (if bt128.2 = t123 then (if bt130.1 = bt132.1 then (if bt130.2 = bt132.2 then ((bigint_Of.f a1).bind fun t135 => ((surveyorref01_Whole.f k a1).bind fun t136 => (surveyorlaw01_BigintChecks.j0 k a0 t123 bt124.1 bt126.1 bt128.1 (t135.toList != t136.toList)))) else (surveyorlaw01_BigintChecks.j0 k a0 t123 bt124.1 bt126.1 bt128.1 true)) else (surveyorlaw01_BigintChecks.j0 k a0 t123 bt124.1 bt126.1 bt128.1 true)) else (surveyorlaw01_BigintChecks.j0 k a0 t123 bt124.1 bt126.1 bt128.1 true)) else (surveyorlaw01_BigintChecks.j0 k a0 t123 bt124.1 bt126.1 bt128.1 true)) else (surveyorlaw01_BigintChecks.j0 k a0 t123 bt124.1 bt126.1 bt128.1 true)) else (surveyorlaw01_BigintChecks.j0 k a0 t123 bt124.1 bt126.1 bt128.1 true)))))))) = some r := H
    have A5 := Aside0.mk A50
    clear A50
    replace H := Option.bind_eq_some_iff.mp H
    obtain ⟨⟨t124, t125⟩, A60, H⟩ := H
    replace H : ((bigint_Neg.f a0).bind fun bt126 => ((bigint_Abs.f a0).bind fun bt128 => ((bigint_SmallA.f a0).bind fun bt130 => ((surveyorref01_Small.f k a0).bind fun bt132 => ((bigint_Check.f a0).bind fun t134 => (if t134 = t123 then (if t125 = t123 then (if bt126.2 = t123 then (if bt128.2 = t123 then (if bt130.1 = bt132.1 then (if bt130.2 = bt132.2 then ((bigint_Of.f a1).bind fun t135 => ((surveyorref01_Whole.f k a1).bind fun t136 => (surveyorlaw01_BigintChecks.j0 k a0 t123 t124 bt126.1 bt128.1 (t135.toList != t136.toList)))) else (surveyorlaw01_BigintChecks.j0 k a0 t123 t124 bt126.1 bt128.1 true)) else (surveyorlaw01_BigintChecks.j0 k a0 t123 t124 bt126.1 bt128.1 true)) else (surveyorlaw01_BigintChecks.j0 k a0 t123 t124 bt126.1 bt128.1 true)) else (surveyorlaw01_BigintChecks.j0 k a0 t123 t124 bt126.1 bt128.1 true)) else (surveyorlaw01_BigintChecks.j0 k a0 t123 t124 bt126.1 bt128.1 true)) else (surveyorlaw01_BigintChecks.j0 k a0 t123 t124 bt126.1 bt128.1 true))))))) = some r := H
    have A6 := Aside0.mk A60
    clear A60
    replace H := Option.bind_eq_some_iff.mp H
    obtain ⟨⟨t126, t127⟩, A70, H⟩ := H
    replace H : ((bigint_Abs.f a0).bind fun bt128 => ((bigint_SmallA.f a0).bind fun bt130 => ((surveyorref01_Small.f k a0).bind fun bt132 => ((bigint_Check.f a0).bind fun t134 => (if t134 = t123 then (if t125 = t123 then (if t127 = t123 then (if bt128.2 = t123 then (if bt130.1 = bt132.1 then (if bt130.2 = bt132.2 then ((bigint_Of.f a1).bind fun t135 => ((surveyorref01_Whole.f k a1).bind fun t136 => (surveyorlaw01_BigintChecks.j0 k a0 t123 t124 t126 bt128.1 (t135.toList != t136.toList)))) else (surveyorlaw01_BigintChecks.j0 k a0 t123 t124 t126 bt128.1 true)) else (surveyorlaw01_BigintChecks.j0 k a0 t123 t124 t126 bt128.1 true)) else (surveyorlaw01_BigintChecks.j0 k a0 t123 t124 t126 bt128.1 true)) else (surveyorlaw01_BigintChecks.j0 k a0 t123 t124 t126 bt128.1 true)) else (surveyorlaw01_BigintChecks.j0 k a0 t123 t124 t126 bt128.1 true)) else (surveyorlaw01_BigintChecks.j0 k a0 t123 t124 t126 bt128.1 true)))))) = some r := H
    have A7 := Aside0.mk A70
    clear A70
    replace H := Option.bind_eq_some_iff.mp H
    obtain ⟨⟨t128, t129⟩, A80, H⟩ := H
    replace H : ((bigint_SmallA.f a0).bind fun bt130 => ((surveyorref01_Small.f k a0).bind fun bt132 => ((bigint_Check.f a0).bind fun t134 => (if t134 = t123 then (if t125 = t123 then (if t127 = t123 then (if t129 = t123 then (if bt130.1 = bt132.1 then (if bt130.2 = bt132.2 then ((bigint_Of.f a1).bind fun t135 => ((surveyorref01_Whole.f k a1).bind fun t136 => (surveyorlaw01_BigintChecks.j0 k a0 t123 t124 t126 t128 (t135.toList != t136.toList)))) else (surveyorlaw01_BigintChecks.j0 k a0 t123 t124 t126 t128 true)) else (surveyorlaw01_BigintChecks.j0 k a0 t123 t124 t126 t128 true)) else (surveyorlaw01_BigintChecks.j0 k a0 t123 t124 t126 t128 true)) else (surveyorlaw01_BigintChecks.j0 k a0 t123 t124 t126 t128 true)) else (surveyorlaw01_BigintChecks.j0 k a0 t123 t124 t126 t128 true)) else (surveyorlaw01_BigintChecks.j0 k a0 t123 t124 t126 t128 true))))) = some r := H
    have A8 := Aside0.mk A80
    clear A80
    replace H := Option.bind_eq_some_iff.mp H
    obtain ⟨⟨t130, t131⟩, A90, H⟩ := H
    replace H : ((surveyorref01_Small.f k a0).bind fun bt132 => ((bigint_Check.f a0).bind fun t134 => (if t134 = t123 then (if t125 = t123 then (if t127 = t123 then (if t129 = t123 then (if t130 = bt132.1 then (if t131 = bt132.2 then ((bigint_Of.f a1).bind fun t135 => ((surveyorref01_Whole.f k a1).bind fun t136 => (surveyorlaw01_BigintChecks.j0 k a0 t123 t124 t126 t128 (t135.toList != t136.toList)))) else (surveyorlaw01_BigintChecks.j0 k a0 t123 t124 t126 t128 true)) else (surveyorlaw01_BigintChecks.j0 k a0 t123 t124 t126 t128 true)) else (surveyorlaw01_BigintChecks.j0 k a0 t123 t124 t126 t128 true)) else (surveyorlaw01_BigintChecks.j0 k a0 t123 t124 t126 t128 true)) else (surveyorlaw01_BigintChecks.j0 k a0 t123 t124 t126 t128 true)) else (surveyorlaw01_BigintChecks.j0 k a0 t123 t124 t126 t128 true)))) = some r := H
    have A9 := Aside0.mk A90
    clear A90
    replace H := Option.bind_eq_some_iff.mp H
    obtain ⟨⟨t132, t133⟩, A100, H⟩ := H
    replace H : ((bigint_Check.f a0).bind fun t134 => (if t134 = t123 then (if t125 = t123 then (if t127 = t123 then (if t129 = t123 then (if t130 = t132 then (if t131 = t133 then ((bigint_Of.f a1).bind fun t135 => ((surveyorref01_Whole.f k a1).bind fun t136 => (surveyorlaw01_BigintChecks.j0 k a0 t123 t124 t126 t128 (t135.toList != t136.toList)))) else (surveyorlaw01_BigintChecks.j0 k a0 t123 t124 t126 t128 true)) else (surveyorlaw01_BigintChecks.j0 k a0 t123 t124 t126 t128 true)) else (surveyorlaw01_BigintChecks.j0 k a0 t123 t124 t126 t128 true)) else (surveyorlaw01_BigintChecks.j0 k a0 t123 t124 t126 t128 true)) else (surveyorlaw01_BigintChecks.j0 k a0 t123 t124 t126 t128 true)) else (surveyorlaw01_BigintChecks.j0 k a0 t123 t124 t126 t128 true))) = some r := H
    have A10 := Aside0.mk A100
    clear A100
    have HC11 := Aside0.mk H
    clear H
    go_enter Tryz.func13, Tryz.ntmps13
    go_upto_region 9 with (first | ((with_reducible refine gate_dst (N := 17) rfl ?_); refine Kd.R_lit Kd.string _ 22 ?hg (N := 17) ?hd (xs := ([a0] : List ByteArray)) (inner := [.string a0]) (ok := fun _ => True) (okp := fun _ => True) ?hr ?hp (fun _ hk => hk) trivial (Below.refl _ _) (Nat.le_refl _) (by simp) ?_; (case hd => rfl); (case hg => rfl); (case hr => first | (go_simp; done) | (go_simp; rfl)); (case hp => exact (Reps.one (show Kd.M Kd.string _ _ _ a0 [.string a0] from rfl) (Reps.none _ _))); intro v119 w12 ho13 hb hg_ hnew_; clear hg_ hnew_; (first | rw [← Ny118.out] at ho13 | (simp only [Int.reduceToNat] at ho13; rw [← Ny118.out] at ho13)); have n0_ := Aside0.mk (Kd.R_lower ho13 (below_size (by repeat (first | (with_reducible first | exact HB.out | apply below_alloc | apply pw_below_drewN | apply below_drew1) | exact HB.out)))); have n1_ := Aside0.mk (below_step (by repeat (first | (with_reducible first | exact HB.out | apply below_alloc | apply pw_below_drewN | apply below_drew1) | exact HB.out)) hb); clear HB; have HO120 := n0_; have HB := n1_; clear n0_ n1_; clear hb ho13; obtain ⟨Ao14, co14, eo14⟩ := Kd.R_slice HO120.out; subst eo14) | ((with_reducible refine gate_callee (f := 19) rfl ?_); refine goesL_ (some 18) rfl rfl Tryz.func19 (by kernel_rfl) rfl #[.slice Ao14 y118.length co14] rfl (by (try simp only [List.map_toArray, List.map_cons, List.map_nil]); first | done | rfl | (simp only [List.length_drop, List.length_take]; rfl)) ?_; (with_reducible refine (surveyorlaw01_few.calls k _ _ y118 true _ ?side1 ?side2 A3.out).mono ?_); (case side1 => repeat (first | exact (Kd.R_reads' HO120.out).2.2 | (with_reducible refine Kd.C_alloc ?_ _) | (with_reducible refine Kd.C_drewN ?_ _) | (with_reducible refine Kd.C_drew ?_))); (case side2 => exact (Kd.R_reads' HO120.out).2.1); rintro e w' ⟨rfl, ⟨nd, rfl⟩⟩; refine ⟨_, rfl, ?_⟩) | ((with_reducible refine gate_callee (f := 25) rfl ?_); refine goesL_ (some 22) rfl rfl Tryz.func25 (by kernel_rfl) rfl #[.string a0] rfl (by (try simp only [List.map_toArray, List.map_cons, List.map_nil]); first | done | rfl | (simp only [List.length_drop, List.length_take]; rfl)) ?_; (with_reducible refine (surveyorref01_Check.calls k a0 t123 _ A5.out).mono ?_); rintro e w' ⟨rfl, ⟨nd, rfl⟩⟩; refine ⟨_, rfl, ?_⟩) | ((with_reducible refine gate_callee (f := 46) rfl ?_); refine goesL_ (some 25) rfl rfl Tryz.func46 (by kernel_rfl) rfl #[.string a0] rfl (by (try simp only [List.map_toArray, List.map_cons, List.map_nil]); first | done | rfl | (simp only [List.length_drop, List.length_take]; rfl)) ?_; (with_reducible refine (bigint_Sign.calls a0 t124 t125 _ A6.out).mono ?_); rintro e w15 ⟨rfl, hb⟩; refine ⟨_, rfl, ?_⟩; have n0_ := Aside0.mk (Kd.R_below (by (with_reducible repeat (first | apply Kd.R_alloc | apply Kd.R_drewN | apply Kd.R_drew)); exact HO120.out) hb); have n1_ := Aside0.mk (below_step (by repeat (first | (with_reducible first | exact HB.out | apply below_alloc | apply pw_below_drewN | apply below_drew1) | exact HB.out)) hb); clear HO120; clear HB; have HO120 := n0_; have HB := n1_; clear n0_ n1_; (try clear hb); (try clear hb2); (try clear hk); (try clear hi)) | ((with_reducible refine gate_callee (f := 43) rfl ?_); refine goesL_ (some 30) rfl rfl Tryz.func43 (by kernel_rfl) rfl #[.string a0] rfl (by (try simp only [List.map_toArray, List.map_cons, List.map_nil]); first | done | rfl | (simp only [List.length_drop, List.length_take]; rfl)) ?_; (with_reducible refine (bigint_Neg.calls (hG := HG.out.below (by repeat (first | (with_reducible first | exact HB.out | apply below_alloc | apply pw_below_drewN | apply below_drew1) | exact HB.out))) a0 t126 t127 _ A7.out).mono ?_); rintro e w16 ⟨rfl, hb⟩; refine ⟨_, rfl, ?_⟩; have n0_ := Aside0.mk (Kd.R_below (by (with_reducible repeat (first | apply Kd.R_alloc | apply Kd.R_drewN | apply Kd.R_drew)); exact HO120.out) hb); have n1_ := Aside0.mk (below_step (by repeat (first | (with_reducible first | exact HB.out | apply below_alloc | apply pw_below_drewN | apply below_drew1) | exact HB.out)) hb); clear HO120; clear HB; have HO120 := n0_; have HB := n1_; clear n0_ n1_; (try clear hb); (try clear hb2); (try clear hk); (try clear hi)) | ((with_reducible refine gate_callee (f := 44) rfl ?_); refine goesL_ (some 35) rfl rfl Tryz.func44 (by kernel_rfl) rfl #[.string a0] rfl (by (try simp only [List.map_toArray, List.map_cons, List.map_nil]); first | done | rfl | (simp only [List.length_drop, List.length_take]; rfl)) ?_; (with_reducible refine (bigint_Abs.calls a0 t128 t129 _ A8.out).mono ?_); rintro e w17 ⟨rfl, hb⟩; refine ⟨_, rfl, ?_⟩; have n0_ := Aside0.mk (Kd.R_below (by (with_reducible repeat (first | apply Kd.R_alloc | apply Kd.R_drewN | apply Kd.R_drew)); exact HO120.out) hb); have n1_ := Aside0.mk (below_step (by repeat (first | (with_reducible first | exact HB.out | apply below_alloc | apply pw_below_drewN | apply below_drew1) | exact HB.out)) hb); clear HO120; clear HB; have HO120 := n0_; have HB := n1_; clear n0_ n1_; (try clear hb); (try clear hb2); (try clear hk); (try clear hi)) | ((with_reducible refine gate_callee (f := 48) rfl ?_); refine goesL_ (some 40) rfl rfl Tryz.func48 (by kernel_rfl) rfl #[.string a0] rfl (by (try simp only [List.map_toArray, List.map_cons, List.map_nil]); first | done | rfl | (simp only [List.length_drop, List.length_take]; rfl)) ?_; (with_reducible refine (bigint_SmallA.calls (hS := HS.out.below (by repeat (first | (with_reducible first | exact HB.out | apply below_alloc | apply pw_below_drewN | apply below_drew1) | exact HB.out))) a0 t130 t131 _ A9.out).mono ?_); rintro e w18 ⟨rfl, hb⟩; refine ⟨_, rfl, ?_⟩; have n0_ := Aside0.mk (Kd.R_below (by (with_reducible repeat (first | apply Kd.R_alloc | apply Kd.R_drewN | apply Kd.R_drew)); exact HO120.out) hb); have n1_ := Aside0.mk (below_step (by repeat (first | (with_reducible first | exact HB.out | apply below_alloc | apply pw_below_drewN | apply below_drew1) | exact HB.out)) hb); clear HO120; clear HB; have HO120 := n0_; have HB := n1_; clear n0_ n1_; (try clear hb); (try clear hb2); (try clear hk); (try clear hi)) | ((with_reducible refine gate_callee (f := 52) rfl ?_); refine goesL_ (some 45) rfl rfl Tryz.func52 (by kernel_rfl) rfl #[.string a0] rfl (by (try simp only [List.map_toArray, List.map_cons, List.map_nil]); first | done | rfl | (simp only [List.length_drop, List.length_take]; rfl)) ?_; (with_reducible refine (surveyorref01_Small.calls k a0 t132 t133 _ A10.out).mono ?_); rintro e w' ⟨rfl, ⟨nd, rfl⟩⟩; refine ⟨_, rfl, ?_⟩))
    (try simp only [Act.put, List.setIfInBounds_toArray, List.set_cons_zero, List.set_cons_succ])
    go_cut [83] (fun v83 wc => ∃ (kq : Nat) (x83_10 : Bool), v83 = .bool x83_10 ∧ Aside0 (surveyorlaw01_BigintChecks.j0 kq a0 t123 t124 t126 t128 x83_10 = some r) ∧ Aside0 (kq ≤ k) ∧ Aside0 (Below w.heap.size w wc))
    case first =>
      have H := HC11.out
      clear HC11
      replace H := Option.bind_eq_some_iff.mp H
      obtain ⟨t134, A190, H⟩ := H
      replace H : (if t134 = t123 then (if t125 = t123 then (if t127 = t123 then (if t129 = t123 then (if t130 = t132 then (if t131 = t133 then ((bigint_Of.f a1).bind fun t135 => ((surveyorref01_Whole.f k a1).bind fun t136 => (surveyorlaw01_BigintChecks.j0 k a0 t123 t124 t126 t128 (t135.toList != t136.toList)))) else (surveyorlaw01_BigintChecks.j0 k a0 t123 t124 t126 t128 true)) else (surveyorlaw01_BigintChecks.j0 k a0 t123 t124 t126 t128 true)) else (surveyorlaw01_BigintChecks.j0 k a0 t123 t124 t126 t128 true)) else (surveyorlaw01_BigintChecks.j0 k a0 t123 t124 t126 t128 true)) else (surveyorlaw01_BigintChecks.j0 k a0 t123 t124 t126 t128 true)) else (surveyorlaw01_BigintChecks.j0 k a0 t123 t124 t126 t128 true)) = some r := H
      have A19 := Aside0.mk A190
      clear A190
      by_cases c20 : t134 = t123
      · rw [if_pos c20] at H
        have c20b0 : (t134 == t123) = true := beq_iff_eq.mpr c20
        have c20b1 : (t134 != t123) = false := bne_eq_false_iff_eq.mpr c20
        clear c20
        (first | rw [c20b0] | (simp only [i64_w, i32_w]; rw [c20b0]) | skip)
        by_cases c21 : t125 = t123
        · rw [if_pos c21] at H
          have c21b0 : (t125 == t123) = true := beq_iff_eq.mpr c21
          have c21b1 : (t125 != t123) = false := bne_eq_false_iff_eq.mpr c21
          clear c21
          by_cases c22 : t127 = t123
          · rw [if_pos c22] at H
            have c22b0 : (t127 == t123) = true := beq_iff_eq.mpr c22
            have c22b1 : (t127 != t123) = false := bne_eq_false_iff_eq.mpr c22
            clear c22
            by_cases c23 : t129 = t123
            · rw [if_pos c23] at H
              have c23b0 : (t129 == t123) = true := beq_iff_eq.mpr c23
              have c23b1 : (t129 != t123) = false := bne_eq_false_iff_eq.mpr c23
              clear c23
              by_cases c24 : t130 = t132
              · rw [if_pos c24] at H
                have c24b0 : (t130 == t132) = true := beq_iff_eq.mpr c24
                have c24b1 : (t130 != t132) = false := bne_eq_false_iff_eq.mpr c24
                clear c24
                by_cases c25 : t131 = t133
                · rw [if_pos c25] at H
                  have c25b0 : (t131 == t133) = true := beq_iff_eq.mpr c25
                  have c25b1 : (t131 != t133) = false := bne_eq_false_iff_eq.mpr c25
                  clear c25
                  replace H := Option.bind_eq_some_iff.mp H
                  obtain ⟨t135, A260, H⟩ := H
                  replace H : ((surveyorref01_Whole.f k a1).bind fun t136 => (surveyorlaw01_BigintChecks.j0 k a0 t123 t124 t126 t128 (t135.toList != t136.toList))) = some r := H
                  have A26 := Aside0.mk A260
                  clear A260
                  replace H := Option.bind_eq_some_iff.mp H
                  obtain ⟨t136, A270, H⟩ := H
                  replace H : (surveyorlaw01_BigintChecks.j0 k a0 t123 t124 t126 t128 (t135.toList != t136.toList)) = some r := H
                  have A27 := Aside0.mk A270
                  clear A270
                  have H' := Aside0.mk H
                  clear H
                  go_wp2_with (first | ((with_reducible refine gate_callee (f := 53) rfl ?_); refine goesL_ (some 49) rfl rfl Tryz.func53 (by kernel_rfl) rfl #[.string a0] rfl (by (try simp only [List.map_toArray, List.map_cons, List.map_nil]); first | done | rfl | (simp only [List.length_drop, List.length_take]; rfl)) ?_; (with_reducible refine (bigint_Check.calls a0 t134 _ A19.out).mono ?_); rintro e w28 ⟨rfl, hb⟩; refine ⟨_, rfl, ?_⟩; have n0_ := Aside0.mk (Kd.R_below (by (with_reducible repeat (first | apply Kd.R_alloc | apply Kd.R_drewN | apply Kd.R_drew)); exact HO120.out) hb); have n1_ := Aside0.mk (below_step (by repeat (first | (with_reducible first | exact HB.out | apply below_alloc | apply pw_below_drewN | apply below_drew1) | exact HB.out)) hb); clear HO120; clear HB; have HO120 := n0_; have HB := n1_; clear n0_ n1_; (try clear hb); (try clear hb2); (try clear hk); (try clear hi)) | (go_at_call 47; (with_reducible refine (bigint_Of.calls (hG := HG.out.below (by repeat (first | (with_reducible first | exact HB.out | apply below_alloc | apply pw_below_drewN | apply below_drew1) | exact HB.out))) a1 t135 _ A26.out).mono ?_); rintro e w29 ⟨rfl, hb⟩; have n0_ := Aside0.mk (Kd.R_below (by (with_reducible repeat (first | apply Kd.R_alloc | apply Kd.R_drewN | apply Kd.R_drew)); exact HO120.out) hb); have n1_ := Aside0.mk (below_step (by repeat (first | (with_reducible first | exact HB.out | apply below_alloc | apply pw_below_drewN | apply below_drew1) | exact HB.out)) hb); clear HO120; clear HB; have HO120 := n0_; have HB := n1_; clear n0_ n1_; (try clear hb); (try clear hb2); (try clear hk); (try clear hi)) | (go_at_call 54; (with_reducible refine (surveyorref01_Whole.calls k a1 t136 _ A27.out).mono ?_); rintro e w30 ⟨rfl, hb⟩; have n0_ := Aside0.mk (Kd.R_below (by (with_reducible repeat (first | apply Kd.R_alloc | apply Kd.R_drewN | apply Kd.R_drew)); exact HO120.out) hb); have n1_ := Aside0.mk (below_step (by repeat (first | (with_reducible first | exact HB.out | apply below_alloc | apply pw_below_drewN | apply below_drew1) | exact HB.out)) hb); clear HO120; clear HB; have HO120 := n0_; have HB := n1_; clear n0_ n1_; (try clear hb); (try clear hb2); (try clear hk); (try clear hi)))
                  go_meet
                  case rel => exact ⟨_, ((t135.toList != t136.toList)), (by first | rfl | (simp; done) | (simp [*]; done)), H', ⟨by first | omega | exact Nat.le_refl _⟩, ⟨by repeat (first | (with_reducible first | exact HB.out | apply below_alloc | apply pw_below_drewN | apply below_drew1) | exact HB.out)⟩⟩
                · rw [if_neg c25] at H
                  have c25b0 : (t131 == t133) = false := beq_eq_false_iff_ne.mpr c25
                  have c25b1 : (t131 != t133) = true := bne_iff_ne.mpr c25
                  have H' := Aside0.mk H
                  clear H
                  go_wp2_with (first | ((with_reducible refine gate_callee (f := 53) rfl ?_); refine goesL_ (some 49) rfl rfl Tryz.func53 (by kernel_rfl) rfl #[.string a0] rfl (by (try simp only [List.map_toArray, List.map_cons, List.map_nil]); first | done | rfl | (simp only [List.length_drop, List.length_take]; rfl)) ?_; (with_reducible refine (bigint_Check.calls a0 t134 _ A19.out).mono ?_); rintro e w31 ⟨rfl, hb⟩; refine ⟨_, rfl, ?_⟩; have n0_ := Aside0.mk (Kd.R_below (by (with_reducible repeat (first | apply Kd.R_alloc | apply Kd.R_drewN | apply Kd.R_drew)); exact HO120.out) hb); have n1_ := Aside0.mk (below_step (by repeat (first | (with_reducible first | exact HB.out | apply below_alloc | apply pw_below_drewN | apply below_drew1) | exact HB.out)) hb); clear HO120; clear HB; have HO120 := n0_; have HB := n1_; clear n0_ n1_; (try clear hb); (try clear hb2); (try clear hk); (try clear hi)))
                  go_meet
                  case rel => exact ⟨_, (true), (by first | rfl | (simp; done) | (simp [*]; done)), H', ⟨by first | omega | exact Nat.le_refl _⟩, ⟨by repeat (first | (with_reducible first | exact HB.out | apply below_alloc | apply pw_below_drewN | apply below_drew1) | exact HB.out)⟩⟩
              · rw [if_neg c24] at H
                have c24b0 : (t130 == t132) = false := beq_eq_false_iff_ne.mpr c24
                have c24b1 : (t130 != t132) = true := bne_iff_ne.mpr c24
                have H' := Aside0.mk H
                clear H
                go_wp2_with (first | ((with_reducible refine gate_callee (f := 53) rfl ?_); refine goesL_ (some 49) rfl rfl Tryz.func53 (by kernel_rfl) rfl #[.string a0] rfl (by (try simp only [List.map_toArray, List.map_cons, List.map_nil]); first | done | rfl | (simp only [List.length_drop, List.length_take]; rfl)) ?_; (with_reducible refine (bigint_Check.calls a0 t134 _ A19.out).mono ?_); rintro e w32 ⟨rfl, hb⟩; refine ⟨_, rfl, ?_⟩; have n0_ := Aside0.mk (Kd.R_below (by (with_reducible repeat (first | apply Kd.R_alloc | apply Kd.R_drewN | apply Kd.R_drew)); exact HO120.out) hb); have n1_ := Aside0.mk (below_step (by repeat (first | (with_reducible first | exact HB.out | apply below_alloc | apply pw_below_drewN | apply below_drew1) | exact HB.out)) hb); clear HO120; clear HB; have HO120 := n0_; have HB := n1_; clear n0_ n1_; (try clear hb); (try clear hb2); (try clear hk); (try clear hi)))
                go_meet
                case rel => exact ⟨_, (true), (by first | rfl | (simp; done) | (simp [*]; done)), H', ⟨by first | omega | exact Nat.le_refl _⟩, ⟨by repeat (first | (with_reducible first | exact HB.out | apply below_alloc | apply pw_below_drewN | apply below_drew1) | exact HB.out)⟩⟩
            · rw [if_neg c23] at H
              have c23b0 : (t129 == t123) = false := beq_eq_false_iff_ne.mpr c23
              have c23b1 : (t129 != t123) = true := bne_iff_ne.mpr c23
              have H' := Aside0.mk H
              clear H
              go_wp2_with (first | ((with_reducible refine gate_callee (f := 53) rfl ?_); refine goesL_ (some 49) rfl rfl Tryz.func53 (by kernel_rfl) rfl #[.string a0] rfl (by (try simp only [List.map_toArray, List.map_cons, List.map_nil]); first | done | rfl | (simp only [List.length_drop, List.length_take]; rfl)) ?_; (with_reducible refine (bigint_Check.calls a0 t134 _ A19.out).mono ?_); rintro e w33 ⟨rfl, hb⟩; refine ⟨_, rfl, ?_⟩; have n0_ := Aside0.mk (Kd.R_below (by (with_reducible repeat (first | apply Kd.R_alloc | apply Kd.R_drewN | apply Kd.R_drew)); exact HO120.out) hb); have n1_ := Aside0.mk (below_step (by repeat (first | (with_reducible first | exact HB.out | apply below_alloc | apply pw_below_drewN | apply below_drew1) | exact HB.out)) hb); clear HO120; clear HB; have HO120 := n0_; have HB := n1_; clear n0_ n1_; (try clear hb); (try clear hb2); (try clear hk); (try clear hi)))
              go_meet
              case rel => exact ⟨_, (true), (by first | rfl | (simp; done) | (simp [*]; done)), H', ⟨by first | omega | exact Nat.le_refl _⟩, ⟨by repeat (first | (with_reducible first | exact HB.out | apply below_alloc | apply pw_below_drewN | apply below_drew1) | exact HB.out)⟩⟩
          · rw [if_neg c22] at H
            have c22b0 : (t127 == t123) = false := beq_eq_false_iff_ne.mpr c22
            have c22b1 : (t127 != t123) = true := bne_iff_ne.mpr c22
            have H' := Aside0.mk H
            clear H
            go_wp2_with (first | ((with_reducible refine gate_callee (f := 53) rfl ?_); refine goesL_ (some 49) rfl rfl Tryz.func53 (by kernel_rfl) rfl #[.string a0] rfl (by (try simp only [List.map_toArray, List.map_cons, List.map_nil]); first | done | rfl | (simp only [List.length_drop, List.length_take]; rfl)) ?_; (with_reducible refine (bigint_Check.calls a0 t134 _ A19.out).mono ?_); rintro e w34 ⟨rfl, hb⟩; refine ⟨_, rfl, ?_⟩; have n0_ := Aside0.mk (Kd.R_below (by (with_reducible repeat (first | apply Kd.R_alloc | apply Kd.R_drewN | apply Kd.R_drew)); exact HO120.out) hb); have n1_ := Aside0.mk (below_step (by repeat (first | (with_reducible first | exact HB.out | apply below_alloc | apply pw_below_drewN | apply below_drew1) | exact HB.out)) hb); clear HO120; clear HB; have HO120 := n0_; have HB := n1_; clear n0_ n1_; (try clear hb); (try clear hb2); (try clear hk); (try clear hi)))
            go_meet
            case rel => exact ⟨_, (true), (by first | rfl | (simp; done) | (simp [*]; done)), H', ⟨by first | omega | exact Nat.le_refl _⟩, ⟨by repeat (first | (with_reducible first | exact HB.out | apply below_alloc | apply pw_below_drewN | apply below_drew1) | exact HB.out)⟩⟩
        · rw [if_neg c21] at H
          have c21b0 : (t125 == t123) = false := beq_eq_false_iff_ne.mpr c21
          have c21b1 : (t125 != t123) = true := bne_iff_ne.mpr c21
          have H' := Aside0.mk H
          clear H
          go_wp2_with (first | ((with_reducible refine gate_callee (f := 53) rfl ?_); refine goesL_ (some 49) rfl rfl Tryz.func53 (by kernel_rfl) rfl #[.string a0] rfl (by (try simp only [List.map_toArray, List.map_cons, List.map_nil]); first | done | rfl | (simp only [List.length_drop, List.length_take]; rfl)) ?_; (with_reducible refine (bigint_Check.calls a0 t134 _ A19.out).mono ?_); rintro e w35 ⟨rfl, hb⟩; refine ⟨_, rfl, ?_⟩; have n0_ := Aside0.mk (Kd.R_below (by (with_reducible repeat (first | apply Kd.R_alloc | apply Kd.R_drewN | apply Kd.R_drew)); exact HO120.out) hb); have n1_ := Aside0.mk (below_step (by repeat (first | (with_reducible first | exact HB.out | apply below_alloc | apply pw_below_drewN | apply below_drew1) | exact HB.out)) hb); clear HO120; clear HB; have HO120 := n0_; have HB := n1_; clear n0_ n1_; (try clear hb); (try clear hb2); (try clear hk); (try clear hi)))
          go_meet
          case rel => exact ⟨_, (true), (by first | rfl | (simp; done) | (simp [*]; done)), H', ⟨by first | omega | exact Nat.le_refl _⟩, ⟨by repeat (first | (with_reducible first | exact HB.out | apply below_alloc | apply pw_below_drewN | apply below_drew1) | exact HB.out)⟩⟩
      · rw [if_neg c20] at H
        have c20b0 : (t134 == t123) = false := beq_eq_false_iff_ne.mpr c20
        have c20b1 : (t134 != t123) = true := bne_iff_ne.mpr c20
        (first | rw [c20b0] | (simp only [i64_w, i32_w]; rw [c20b0]) | skip)
        have H' := Aside0.mk H
        clear H
        go_wp2_with (first | ((with_reducible refine gate_callee (f := 53) rfl ?_); refine goesL_ (some 49) rfl rfl Tryz.func53 (by kernel_rfl) rfl #[.string a0] rfl (by (try simp only [List.map_toArray, List.map_cons, List.map_nil]); first | done | rfl | (simp only [List.length_drop, List.length_take]; rfl)) ?_; (with_reducible refine (bigint_Check.calls a0 t134 _ A19.out).mono ?_); rintro e w36 ⟨rfl, hb⟩; refine ⟨_, rfl, ?_⟩; have n0_ := Aside0.mk (Kd.R_below (by (with_reducible repeat (first | apply Kd.R_alloc | apply Kd.R_drewN | apply Kd.R_drew)); exact HO120.out) hb); have n1_ := Aside0.mk (below_step (by repeat (first | (with_reducible first | exact HB.out | apply below_alloc | apply pw_below_drewN | apply below_drew1) | exact HB.out)) hb); clear HO120; clear HB; have HO120 := n0_; have HB := n1_; clear n0_ n1_; (try clear hb); (try clear hb2); (try clear hk); (try clear hi)))
        go_meet
        case rel => exact ⟨_, (true), (by first | rfl | (simp; done) | (simp [*]; done)), H', ⟨by first | omega | exact Nat.le_refl _⟩, ⟨by repeat (first | (with_reducible first | exact HB.out | apply below_alloc | apply pw_below_drewN | apply below_drew1) | exact HB.out)⟩⟩
    case rest =>
      clear HC11
      try clear c1
      try clear c2
      try clear p2
      try clear c4
      try clear c5
      try clear c13
      try clear c19
      try clear c20
      try clear c20b0
      try clear c20b1
      try clear c21
      try clear c21b0
      try clear c21b1
      try clear c22
      try clear c22b0
      try clear c22b1
      try clear c23
      try clear c23b0
      try clear c23b1
      try clear c24
      try clear c24b0
      try clear c24b1
      try clear c25
      try clear c25b0
      try clear c25b1
      obtain ⟨kq, x83_10, rfl, HA, HJ10, HB⟩ := hcut
      cases kq with
      | zero => exact absurd HA.out (by simp [surveyorlaw01_BigintChecks.j0])
      | succ kj10 =>
        have H := HA.out
        clear HA
        simp only [surveyorlaw01_BigintChecks.j0] at H
        by_cases c37 : x83_10 = true
        · subst c37
          have H1 : (some false) = some r := by rw [if_pos rfl] at H; exact H
          clear H
          have H := H1
          clear H1
          obtain rfl := Option.some.inj H
          go_wp2
          go_ret
          exact ⟨by first | rfl | (simp [errW_none, errW_some] <;> rfl) | (simp [*, errW_none, errW_some] <;> rfl), by repeat (first | (with_reducible first | exact HB.out | apply below_alloc | apply pw_below_drewN | apply below_drew1) | exact HB.out)⟩
        · replace c37 := Bool.eq_false_iff.mpr c37
          subst c37
          have H1 : (if t123 = 0 then ((law01_awake.f).bind fun t138 => (if t138 = true then ((surveyorref01_Sign.f a0).bind fun t139 => (if t124 = t139 then ((surveyorref01_Negated.f a0).bind fun t140 => (if t126.toList = t140.toList then ((surveyorref01_Magnitude.f a0).bind fun t141 => (some (t128.toList == t141.toList))) else (some false))) else (some false))) else (some false))) else ((law01_awake.f).bind fun t137 => (if t137 = true then (if t124 = 0 then (if t126.toList = ([] : List UInt8) then (some (t128.toList == ([] : List UInt8))) else (some false)) else (some false)) else (some false)))) = some r := by rw [if_neg (show ¬ (false = true) by decide)] at H; exact H
          clear H
          have H := H1
          clear H1
          by_cases c38 : t123 = 0
          · rw [if_pos c38] at H
            have c38b0 : (t123 == 0) = true := beq_iff_eq.mpr c38
            have c38b1 : (t123 != 0) = false := bne_eq_false_iff_eq.mpr c38
            clear c38
            replace H := Option.bind_eq_some_iff.mp H
            obtain ⟨t138, A390, H⟩ := H
            replace H : (if t138 = true then ((surveyorref01_Sign.f a0).bind fun t139 => (if t124 = t139 then ((surveyorref01_Negated.f a0).bind fun t140 => (if t126.toList = t140.toList then ((surveyorref01_Magnitude.f a0).bind fun t141 => (some (t128.toList == t141.toList))) else (some false))) else (some false))) else (some false)) = some r := H
            have A39 := Aside0.mk A390
            clear A390
            by_cases c40 : t138 = true
            · subst c40
              have H1 : ((surveyorref01_Sign.f a0).bind fun t139 => (if t124 = t139 then ((surveyorref01_Negated.f a0).bind fun t140 => (if t126.toList = t140.toList then ((surveyorref01_Magnitude.f a0).bind fun t141 => (some (t128.toList == t141.toList))) else (some false))) else (some false))) = some r := by rw [if_pos rfl] at H; exact H
              clear H
              have H := H1
              clear H1
              replace H := Option.bind_eq_some_iff.mp H
              obtain ⟨t139, A410, H⟩ := H
              replace H : (if t124 = t139 then ((surveyorref01_Negated.f a0).bind fun t140 => (if t126.toList = t140.toList then ((surveyorref01_Magnitude.f a0).bind fun t141 => (some (t128.toList == t141.toList))) else (some false))) else (some false)) = some r := H
              have A41 := Aside0.mk A410
              clear A410
              by_cases c42 : t124 = t139
              · rw [if_pos c42] at H
                have c42b0 : (t124 == t139) = true := beq_iff_eq.mpr c42
                have c42b1 : (t124 != t139) = false := bne_eq_false_iff_eq.mpr c42
                clear c42
                replace H := Option.bind_eq_some_iff.mp H
                obtain ⟨t140, A430, H⟩ := H
                replace H : (if t126.toList = t140.toList then ((surveyorref01_Magnitude.f a0).bind fun t141 => (some (t128.toList == t141.toList))) else (some false)) = some r := H
                have A43 := Aside0.mk A430
                clear A430
                by_cases c44 : t126.toList = t140.toList
                · rw [if_pos c44] at H
                  have c44b0 : (t126.toList == t140.toList) = true := beq_iff_eq.mpr c44
                  have c44b1 : (t126.toList != t140.toList) = false := bne_eq_false_iff_eq.mpr c44
                  clear c44
                  replace H := Option.bind_eq_some_iff.mp H
                  obtain ⟨t141, A450, H⟩ := H
                  replace H : (some (t128.toList == t141.toList)) = some r := H
                  have A45 := Aside0.mk A450
                  clear A450
                  obtain rfl := Option.some.inj H
                  go_wp2_with (first | ((with_reducible refine gate_callee (f := 20) rfl ?_); refine goesL_ (some 99) rfl rfl Tryz.func20 (by kernel_rfl) rfl #[] rfl (by (try simp only [List.map_toArray, List.map_cons, List.map_nil]); first | done | rfl | (simp only [List.length_drop, List.length_take]; rfl)) ?_; (with_reducible refine (law01_awake.calls (hG := HG.out.below (by repeat (first | (with_reducible first | exact HB.out | apply below_alloc | apply pw_below_drewN | apply below_drew1) | exact HB.out)))  true _ A39.out).mono ?_); rintro e w46 ⟨rfl, hb⟩; refine ⟨_, rfl, ?_⟩; have n0_ := Aside0.mk (below_step (by repeat (first | (with_reducible first | exact HB.out | apply below_alloc | apply pw_below_drewN | apply below_drew1) | exact HB.out)) hb); clear HB; have HB := n0_; clear n0_; (try clear hb); (try clear hb2); (try clear hk); (try clear hi)) | (go_at_call 55; (with_reducible refine (surveyorref01_Sign.calls a0 t139 _ A41.out).mono ?_); rintro e w' ⟨rfl, ⟨nd, rfl⟩⟩) | (go_at_call 56; (with_reducible refine (surveyorref01_Negated.calls a0 t140 _ A43.out).mono ?_); rintro e w' ⟨rfl, ⟨nd, rfl⟩⟩) | (go_at_call 57; (with_reducible refine (surveyorref01_Magnitude.calls a0 t141 _ A45.out).mono ?_); rintro e w' ⟨rfl, ⟨nd, rfl⟩⟩))
                  go_ret
                  exact ⟨by first | rfl | (simp [errW_none, errW_some] <;> rfl) | (simp [*, errW_none, errW_some] <;> rfl), by repeat (first | (with_reducible first | exact HB.out | apply below_alloc | apply pw_below_drewN | apply below_drew1) | exact HB.out)⟩
                · rw [if_neg c44] at H
                  have c44b0 : (t126.toList == t140.toList) = false := beq_eq_false_iff_ne.mpr c44
                  have c44b1 : (t126.toList != t140.toList) = true := bne_iff_ne.mpr c44
                  obtain rfl := Option.some.inj H
                  go_wp2_with (first | ((with_reducible refine gate_callee (f := 20) rfl ?_); refine goesL_ (some 99) rfl rfl Tryz.func20 (by kernel_rfl) rfl #[] rfl (by (try simp only [List.map_toArray, List.map_cons, List.map_nil]); first | done | rfl | (simp only [List.length_drop, List.length_take]; rfl)) ?_; (with_reducible refine (law01_awake.calls (hG := HG.out.below (by repeat (first | (with_reducible first | exact HB.out | apply below_alloc | apply pw_below_drewN | apply below_drew1) | exact HB.out)))  true _ A39.out).mono ?_); rintro e w47 ⟨rfl, hb⟩; refine ⟨_, rfl, ?_⟩; have n0_ := Aside0.mk (below_step (by repeat (first | (with_reducible first | exact HB.out | apply below_alloc | apply pw_below_drewN | apply below_drew1) | exact HB.out)) hb); clear HB; have HB := n0_; clear n0_; (try clear hb); (try clear hb2); (try clear hk); (try clear hi)) | (go_at_call 55; (with_reducible refine (surveyorref01_Sign.calls a0 t139 _ A41.out).mono ?_); rintro e w' ⟨rfl, ⟨nd, rfl⟩⟩) | (go_at_call 56; (with_reducible refine (surveyorref01_Negated.calls a0 t140 _ A43.out).mono ?_); rintro e w' ⟨rfl, ⟨nd, rfl⟩⟩))
                  go_ret
                  exact ⟨by first | rfl | (simp [errW_none, errW_some] <;> rfl) | (simp [*, errW_none, errW_some] <;> rfl), by repeat (first | (with_reducible first | exact HB.out | apply below_alloc | apply pw_below_drewN | apply below_drew1) | exact HB.out)⟩
              · rw [if_neg c42] at H
                have c42b0 : (t124 == t139) = false := beq_eq_false_iff_ne.mpr c42
                have c42b1 : (t124 != t139) = true := bne_iff_ne.mpr c42
                obtain rfl := Option.some.inj H
                go_wp2_with (first | ((with_reducible refine gate_callee (f := 20) rfl ?_); refine goesL_ (some 99) rfl rfl Tryz.func20 (by kernel_rfl) rfl #[] rfl (by (try simp only [List.map_toArray, List.map_cons, List.map_nil]); first | done | rfl | (simp only [List.length_drop, List.length_take]; rfl)) ?_; (with_reducible refine (law01_awake.calls (hG := HG.out.below (by repeat (first | (with_reducible first | exact HB.out | apply below_alloc | apply pw_below_drewN | apply below_drew1) | exact HB.out)))  true _ A39.out).mono ?_); rintro e w48 ⟨rfl, hb⟩; refine ⟨_, rfl, ?_⟩; have n0_ := Aside0.mk (below_step (by repeat (first | (with_reducible first | exact HB.out | apply below_alloc | apply pw_below_drewN | apply below_drew1) | exact HB.out)) hb); clear HB; have HB := n0_; clear n0_; (try clear hb); (try clear hb2); (try clear hk); (try clear hi)) | (go_at_call 55; (with_reducible refine (surveyorref01_Sign.calls a0 t139 _ A41.out).mono ?_); rintro e w' ⟨rfl, ⟨nd, rfl⟩⟩))
                go_ret
                exact ⟨by first | rfl | (simp [errW_none, errW_some] <;> rfl) | (simp [*, errW_none, errW_some] <;> rfl), by repeat (first | (with_reducible first | exact HB.out | apply below_alloc | apply pw_below_drewN | apply below_drew1) | exact HB.out)⟩
            · replace c40 := Bool.eq_false_iff.mpr c40
              subst c40
              have H1 : (some false) = some r := by rw [if_neg (show ¬ (false = true) by decide)] at H; exact H
              clear H
              have H := H1
              clear H1
              obtain rfl := Option.some.inj H
              go_wp2_with (first | ((with_reducible refine gate_callee (f := 20) rfl ?_); refine goesL_ (some 99) rfl rfl Tryz.func20 (by kernel_rfl) rfl #[] rfl (by (try simp only [List.map_toArray, List.map_cons, List.map_nil]); first | done | rfl | (simp only [List.length_drop, List.length_take]; rfl)) ?_; (with_reducible refine (law01_awake.calls (hG := HG.out.below (by repeat (first | (with_reducible first | exact HB.out | apply below_alloc | apply pw_below_drewN | apply below_drew1) | exact HB.out)))  false _ A39.out).mono ?_); rintro e w49 ⟨rfl, hb⟩; refine ⟨_, rfl, ?_⟩; have n0_ := Aside0.mk (below_step (by repeat (first | (with_reducible first | exact HB.out | apply below_alloc | apply pw_below_drewN | apply below_drew1) | exact HB.out)) hb); clear HB; have HB := n0_; clear n0_; (try clear hb); (try clear hb2); (try clear hk); (try clear hi)))
              go_ret
              exact ⟨by first | rfl | (simp [errW_none, errW_some] <;> rfl) | (simp [*, errW_none, errW_some] <;> rfl), by repeat (first | (with_reducible first | exact HB.out | apply below_alloc | apply pw_below_drewN | apply below_drew1) | exact HB.out)⟩
          · rw [if_neg c38] at H
            have c38b0 : (t123 == 0) = false := beq_eq_false_iff_ne.mpr c38
            have c38b1 : (t123 != 0) = true := bne_iff_ne.mpr c38
            replace H := Option.bind_eq_some_iff.mp H
            obtain ⟨t137, A500, H⟩ := H
            replace H : (if t137 = true then (if t124 = 0 then (if t126.toList = ([] : List UInt8) then (some (t128.toList == ([] : List UInt8))) else (some false)) else (some false)) else (some false)) = some r := H
            have A50 := Aside0.mk A500
            clear A500
            by_cases c51 : t137 = true
            · subst c51
              have H1 : (if t124 = 0 then (if t126.toList = ([] : List UInt8) then (some (t128.toList == ([] : List UInt8))) else (some false)) else (some false)) = some r := by rw [if_pos rfl] at H; exact H
              clear H
              have H := H1
              clear H1
              by_cases c52 : t124 = 0
              · rw [if_pos c52] at H
                have c52b0 : (t124 == 0) = true := beq_iff_eq.mpr c52
                have c52b1 : (t124 != 0) = false := bne_eq_false_iff_eq.mpr c52
                clear c52
                by_cases c53 : t126.toList = ([] : List UInt8)
                · rw [if_pos c53] at H
                  have c53b0 : (t126.toList == ([] : List UInt8)) = true := beq_iff_eq.mpr c53
                  have c53b1 : (t126.toList != ([] : List UInt8)) = false := bne_eq_false_iff_eq.mpr c53
                  clear c53
                  obtain rfl := Option.some.inj H
                  go_wp2_with (first | ((with_reducible refine gate_callee (f := 20) rfl ?_); refine goesL_ (some 86) rfl rfl Tryz.func20 (by kernel_rfl) rfl #[] rfl (by (try simp only [List.map_toArray, List.map_cons, List.map_nil]); first | done | rfl | (simp only [List.length_drop, List.length_take]; rfl)) ?_; (with_reducible refine (law01_awake.calls (hG := HG.out.below (by repeat (first | (with_reducible first | exact HB.out | apply below_alloc | apply pw_below_drewN | apply below_drew1) | exact HB.out)))  true _ A50.out).mono ?_); rintro e w54 ⟨rfl, hb⟩; refine ⟨_, rfl, ?_⟩; have n0_ := Aside0.mk (below_step (by repeat (first | (with_reducible first | exact HB.out | apply below_alloc | apply pw_below_drewN | apply below_drew1) | exact HB.out)) hb); clear HB; have HB := n0_; clear n0_; (try clear hb); (try clear hb2); (try clear hk); (try clear hi)))
                  go_ret
                  exact ⟨by first | rfl | (simp [errW_none, errW_some] <;> rfl) | (simp [*, errW_none, errW_some] <;> rfl), by repeat (first | (with_reducible first | exact HB.out | apply below_alloc | apply pw_below_drewN | apply below_drew1) | exact HB.out)⟩
                · rw [if_neg c53] at H
                  have c53b0 : (t126.toList == ([] : List UInt8)) = false := beq_eq_false_iff_ne.mpr c53
                  have c53b1 : (t126.toList != ([] : List UInt8)) = true := bne_iff_ne.mpr c53
                  obtain rfl := Option.some.inj H
                  go_wp2_with (first | ((with_reducible refine gate_callee (f := 20) rfl ?_); refine goesL_ (some 86) rfl rfl Tryz.func20 (by kernel_rfl) rfl #[] rfl (by (try simp only [List.map_toArray, List.map_cons, List.map_nil]); first | done | rfl | (simp only [List.length_drop, List.length_take]; rfl)) ?_; (with_reducible refine (law01_awake.calls (hG := HG.out.below (by repeat (first | (with_reducible first | exact HB.out | apply below_alloc | apply pw_below_drewN | apply below_drew1) | exact HB.out)))  true _ A50.out).mono ?_); rintro e w55 ⟨rfl, hb⟩; refine ⟨_, rfl, ?_⟩; have n0_ := Aside0.mk (below_step (by repeat (first | (with_reducible first | exact HB.out | apply below_alloc | apply pw_below_drewN | apply below_drew1) | exact HB.out)) hb); clear HB; have HB := n0_; clear n0_; (try clear hb); (try clear hb2); (try clear hk); (try clear hi)))
                  go_ret
                  exact ⟨by first | rfl | (simp [errW_none, errW_some] <;> rfl) | (simp [*, errW_none, errW_some] <;> rfl), by repeat (first | (with_reducible first | exact HB.out | apply below_alloc | apply pw_below_drewN | apply below_drew1) | exact HB.out)⟩
              · rw [if_neg c52] at H
                have c52b0 : (t124 == 0) = false := beq_eq_false_iff_ne.mpr c52
                have c52b1 : (t124 != 0) = true := bne_iff_ne.mpr c52
                obtain rfl := Option.some.inj H
                go_wp2_with (first | ((with_reducible refine gate_callee (f := 20) rfl ?_); refine goesL_ (some 86) rfl rfl Tryz.func20 (by kernel_rfl) rfl #[] rfl (by (try simp only [List.map_toArray, List.map_cons, List.map_nil]); first | done | rfl | (simp only [List.length_drop, List.length_take]; rfl)) ?_; (with_reducible refine (law01_awake.calls (hG := HG.out.below (by repeat (first | (with_reducible first | exact HB.out | apply below_alloc | apply pw_below_drewN | apply below_drew1) | exact HB.out)))  true _ A50.out).mono ?_); rintro e w56 ⟨rfl, hb⟩; refine ⟨_, rfl, ?_⟩; have n0_ := Aside0.mk (below_step (by repeat (first | (with_reducible first | exact HB.out | apply below_alloc | apply pw_below_drewN | apply below_drew1) | exact HB.out)) hb); clear HB; have HB := n0_; clear n0_; (try clear hb); (try clear hb2); (try clear hk); (try clear hi)))
                go_ret
                exact ⟨by first | rfl | (simp [errW_none, errW_some] <;> rfl) | (simp [*, errW_none, errW_some] <;> rfl), by repeat (first | (with_reducible first | exact HB.out | apply below_alloc | apply pw_below_drewN | apply below_drew1) | exact HB.out)⟩
            · replace c51 := Bool.eq_false_iff.mpr c51
              subst c51
              have H1 : (some false) = some r := by rw [if_neg (show ¬ (false = true) by decide)] at H; exact H
              clear H
              have H := H1
              clear H1
              obtain rfl := Option.some.inj H
              go_wp2_with (first | ((with_reducible refine gate_callee (f := 20) rfl ?_); refine goesL_ (some 86) rfl rfl Tryz.func20 (by kernel_rfl) rfl #[] rfl (by (try simp only [List.map_toArray, List.map_cons, List.map_nil]); first | done | rfl | (simp only [List.length_drop, List.length_take]; rfl)) ?_; (with_reducible refine (law01_awake.calls (hG := HG.out.below (by repeat (first | (with_reducible first | exact HB.out | apply below_alloc | apply pw_below_drewN | apply below_drew1) | exact HB.out)))  false _ A50.out).mono ?_); rintro e w57 ⟨rfl, hb⟩; refine ⟨_, rfl, ?_⟩; have n0_ := Aside0.mk (below_step (by repeat (first | (with_reducible first | exact HB.out | apply below_alloc | apply pw_below_drewN | apply below_drew1) | exact HB.out)) hb); clear HB; have HB := n0_; clear n0_; (try clear hb); (try clear hb2); (try clear hk); (try clear hi)))
              go_ret
              exact ⟨by first | rfl | (simp [errW_none, errW_some] <;> rfl) | (simp [*, errW_none, errW_some] <;> rfl), by repeat (first | (with_reducible first | exact HB.out | apply below_alloc | apply pw_below_drewN | apply below_drew1) | exact HB.out)⟩
  · replace c4 := Bool.eq_false_iff.mpr c4
    subst c4
    have H1 : ((law01_awake.f).bind fun t122 => (some t122)) = some r := by rw [if_neg (show ¬ (false = true) by decide)] at H; exact H
    clear H
    have H := H1
    clear H1
    replace H := Option.bind_eq_some_iff.mp H
    obtain ⟨t122, A580, H⟩ := H
    replace H : (some t122) = some r := H
    have A58 := Aside0.mk A580
    clear A580
    obtain rfl := Option.some.inj H
    go_enter Tryz.func13, Tryz.ntmps13
    go_wp2_with (first | ((with_reducible refine gate_dst (N := 17) rfl ?_); refine Kd.R_lit Kd.string _ 22 ?hg (N := 17) ?hd (xs := ([a0] : List ByteArray)) (inner := [.string a0]) (ok := fun _ => True) (okp := fun _ => True) ?hr ?hp (fun _ hk => hk) trivial (Below.refl _ _) (Nat.le_refl _) (by simp) ?_; (case hd => rfl); (case hg => rfl); (case hr => first | (go_simp; done) | (go_simp; rfl)); (case hp => exact (Reps.one (show Kd.M Kd.string _ _ _ a0 [.string a0] from rfl) (Reps.none _ _))); intro v119 w59 ho60 hb hg_ hnew_; clear hg_ hnew_; (first | rw [← Ny118.out] at ho60 | (simp only [Int.reduceToNat] at ho60; rw [← Ny118.out] at ho60)); have n0_ := Aside0.mk (Kd.R_lower ho60 (below_size (by repeat (first | (with_reducible first | exact HB.out | apply below_alloc | apply pw_below_drewN | apply below_drew1) | exact HB.out)))); have n1_ := Aside0.mk (below_step (by repeat (first | (with_reducible first | exact HB.out | apply below_alloc | apply pw_below_drewN | apply below_drew1) | exact HB.out)) hb); clear HB; have HO120 := n0_; have HB := n1_; clear n0_ n1_; clear hb ho60; obtain ⟨Ao61, co61, eo61⟩ := Kd.R_slice HO120.out; subst eo61) | ((with_reducible refine gate_callee (f := 19) rfl ?_); refine goesL_ (some 18) rfl rfl Tryz.func19 (by kernel_rfl) rfl #[.slice Ao61 y118.length co61] rfl (by (try simp only [List.map_toArray, List.map_cons, List.map_nil]); first | done | rfl | (simp only [List.length_drop, List.length_take]; rfl)) ?_; (with_reducible refine (surveyorlaw01_few.calls k _ _ y118 false _ ?side1 ?side2 A3.out).mono ?_); (case side1 => repeat (first | exact (Kd.R_reads' HO120.out).2.2 | (with_reducible refine Kd.C_alloc ?_ _) | (with_reducible refine Kd.C_drewN ?_ _) | (with_reducible refine Kd.C_drew ?_))); (case side2 => exact (Kd.R_reads' HO120.out).2.1); rintro e w' ⟨rfl, ⟨nd, rfl⟩⟩; refine ⟨_, rfl, ?_⟩) | ((with_reducible refine gate_callee (f := 20) rfl ?_); refine goesL_ (some 20) rfl rfl Tryz.func20 (by kernel_rfl) rfl #[] rfl (by (try simp only [List.map_toArray, List.map_cons, List.map_nil]); first | done | rfl | (simp only [List.length_drop, List.length_take]; rfl)) ?_; (with_reducible refine (law01_awake.calls (hG := HG.out.below (by repeat (first | (with_reducible first | exact HB.out | apply below_alloc | apply pw_below_drewN | apply below_drew1) | exact HB.out)))  t122 _ A58.out).mono ?_); rintro e w62 ⟨rfl, hb⟩; refine ⟨_, rfl, ?_⟩; have n0_ := Aside0.mk (Kd.R_below (by (with_reducible repeat (first | apply Kd.R_alloc | apply Kd.R_drewN | apply Kd.R_drew)); exact HO120.out) hb); have n1_ := Aside0.mk (below_step (by repeat (first | (with_reducible first | exact HB.out | apply below_alloc | apply pw_below_drewN | apply below_drew1) | exact HB.out)) hb); clear HO120; clear HB; have HO120 := n0_; have HB := n1_; clear n0_ n1_; (try clear hb); (try clear hb2); (try clear hk); (try clear hi)))
    go_ret
    exact ⟨by first | rfl | (simp [errW_none, errW_some] <;> rfl) | (simp [*, errW_none, errW_some] <;> rfl), by repeat (first | (with_reducible first | exact HB.out | apply below_alloc | apply pw_below_drewN | apply below_drew1) | exact HB.out)⟩

/-- THE ONE PURE STATEMENT of surveyorlaw01_BigintChecks: yours. -/
def surveyorlaw01_BigintChecks.Pure : Prop := ∀ (a0 : ByteArray) (a1 : Int), a0.size ≤ 140737488351232 → (Lit.int .i64 a1).wf = true → ∃ k, surveyorlaw01_BigintChecks.f k a0 a1 = some true
theorem surveyorlaw01_BigintChecks.walk (P : surveyorlaw01_BigintChecks.Pure) (a0 : ByteArray) (a1 : Int) (w : World) (hS : SM w) (hG : GW w) (w0 : a0.size ≤ 140737488351232) (w1 : (Lit.int .i64 a1).wf = true) :
    Calls Tryz.prog 13 #[.string a0, .int .i64 a1] w fun e w' => e = .returned (.bool true) ∧ Below w.heap.size w w' := by
  obtain ⟨k, h⟩ := P a0 a1 w0 w1
  refine (surveyorlaw01_BigintChecks.calls (hS := hS) (hG := hG) k a0 a1 true w h).mono ?_
  rintro e w' ⟨rfl, hd⟩
  exact ⟨rfl, hd⟩

end Go.Proofs.YtdldoghcbnkkjaaGreatDoor.PBigintChecks
