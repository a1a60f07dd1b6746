-- printed by programs of this session (wip/gprint.py, wip/flat.py: a patched run of the print) out of the translation. Lean checks it.
import Derived.Test.YtdldoghcbnkkjaaGreatDoorProg
import Derived.Test.YtdldoghcbnkkjaaGreatDoorBigGiven
import Derived.Test.YtdldoghcbnkkjaaGreatDoorSignGivenZ
import Derived.Test.YtdldoghcbnkkjaaGreatDoorOpsAll
import Derived.Below
import Derived.Deep.Draws
import Derived.Deep.AppendLies
import Derived.Maps.AppendAt
import Derived.OwnWalk
import Derived.Laws.BytesArg
import Derived.Laws.MakeOwn
import Derived.Laws.OwnMore
import Derived.Deep.OwnRows
import Derived.Tactics
import Derived.Lib.ConvBytes
import Derived.Laws.Slices
import Derived.WalkKit
import Derived.KernelRfl
import Derived.RowKit3
import Derived.Deep.LoopGhost
import Derived.Deep.QuietTactic
import Derived.BigQuiet
import Derived.WideLaws
import Derived.Deep.DeepCutAuto
import Derived.Deep.CutBlock
import Derived.Deep.RegionHeld3
import Derived.Laws.Rows
import Derived.Lib.AppendStr
import Derived.ArgAppend
import Derived.Laws.IdiomCopy
import Derived.OrdersHeld
import Derived.Laws.BitsLemmas
import Derived.RowKit
import Derived.Test.YtdldoghcbnkkjaaGreatDoorWWords
import Derived.Test.YtdldoghcbnkkjaaGreatDoorWLast
import Derived.Test.YtdldoghcbnkkjaaGreatDoorWTab
import Derived.Test.YtdldoghcbnkkjaaGreatDoorWFour
import Derived.Test.YtdldoghcbnkkjaaGreatDoorWQPut
import Derived.Test.YtdldoghcbnkkjaaGreatDoorWApart
import Derived.Test.YtdldoghcbnkkjaaGreatDoorWArr
import Derived.Test.YtdldoghcbnkkjaaGreatDoorWZeros
import Derived.Test.YtdldoghcbnkkjaaGreatDoorWFoot
import Derived.Test.YtdldoghcbnkkjaaGreatDoorWKept
import Derived.Test.YtdldoghcbnkkjaaGreatDoorWShare
import Derived.Test.YtdldoghcbnkkjaaGreatDoorWN
import Derived.Test.YtdldoghcbnkkjaaGreatDoorWFootNe
import Derived.Test.YtdldoghcbnkkjaaGreatDoorWAt
import Derived.Test.YtdldoghcbnkkjaaGreatDoorWEqStruct
import Derived.Test.YtdldoghcbnkkjaaGreatDoorWRepsOne
import Derived.Test.YtdldoghcbnkkjaaGreatDoorWInv
import Derived.Test.YtdldoghcbnkkjaaGreatDoorWInvWords
import Derived.Test.YtdldoghcbnkkjaaGreatDoorWGuard
import Derived.Test.YtdldoghcbnkkjaaGreatDoorWNEv
import Derived.Test.YtdldoghcbnkkjaaGreatDoorWMore
namespace Go.Proofs.YtdldoghcbnkkjaaGreatDoor.Pawake
open Go.RowKit Go.Proofs.YtdldoghcbnkkjaaGreatDoorW.PrintWords Go.Proofs.YtdldoghcbnkkjaaGreatDoorW.PrintLast Go.Proofs.YtdldoghcbnkkjaaGreatDoorW.PrintMore
attribute [local go_sem] max2_int min2_int max_two min_two max_three min_three max_four min_four   -- for this text's walks alone
set_option linter.unusedVariables false
set_option linter.unusedSimpArgs false



def errW : Option Int → Value
  | none => .nilIface
  | some c => .iface 0 (.int .i64 c)
theorem errW_none : errW none = .nilIface := rfl
theorem errW_some (c : Int) : errW (some c) = .iface 0 (.int .i64 c) := rfl

-- the values' own types

end Go.Proofs.YtdldoghcbnkkjaaGreatDoor.Pawake

namespace Go.Proofs.YtdldoghcbnkkjaaGreatDoor.Pawake
open Go.RowKit Go.Proofs.YtdldoghcbnkkjaaGreatDoorW.PrintWords Go.Proofs.YtdldoghcbnkkjaaGreatDoorW.PrintLast Go.Proofs.YtdldoghcbnkkjaaGreatDoorW.PrintMore
attribute [local go_sem] max2_int min2_int max_two min_two max_three min_three max_four min_four   -- for this text's walks alone
set_option linter.unusedVariables false
set_option linter.unusedSimpArgs false

/-! ### surveyorlaw19_awake: function 15 -/
def surveyorlaw19_awake.j0 : Nat → Bool → Option (Bool)
  | 0, _ => none
  | k + 1, x56 => if x56 = true then (some false) else ((sign_Rem.f 7 4).bind fun bt109 => ((sign_Rem.f 7 2).bind fun bt111 => ((sign_Refine.f 4 7 2).bind fun bt113 => ((sign_Refine.f 5 6 3).bind fun bt116 => ((sign_Format.f 6).bind fun bt119 => (if (wrap64 ((wrap64 ((wrap64 ((wrap64 (bt109.2 + bt111.2)) + bt113.2.2)) + bt116.2.2)) + bt119.2)) = 0 then (if bt109.1 = 6 then (if bt111.1 = 0 then (if bt113.1 = 1 then (if bt113.2.1 = 2 then (if bt116.1 = 2 then (if bt116.2.1 = 2 then (some (bt119.1.toList == ([110, 111, 110, 110, 101, 103, 97, 116, 105, 118, 101] : List UInt8))) else (some false)) else (some false)) else (some false)) else (some false)) else (some false)) else (some false)) else (some false)))))))
def surveyorlaw19_awake.f (k : Nat)  : Option (Bool) := (sign_Add.f 4 1).bind fun bt101 => ((sign_Add.f 6 4).bind fun bt103 => ((sign_Quo.f 4 4).bind fun bt105 => ((sign_Quo.f 4 1).bind fun bt107 => (if (wrap64 ((wrap64 ((wrap64 (bt101.2 + bt103.2)) + bt105.2)) + bt107.2)) = 0 then (if bt101.1 = 7 then (if bt103.1 = 4 then (if bt105.1 = 6 then (surveyorlaw19_awake.j0 k (bt107.1 != 1)) else (surveyorlaw19_awake.j0 k true)) else (surveyorlaw19_awake.j0 k true)) else (surveyorlaw19_awake.j0 k true)) else (surveyorlaw19_awake.j0 k true)))))
theorem surveyorlaw19_awake.mono_l : ∀ k, (∀ y0, LeO (surveyorlaw19_awake.j0 k y0) (surveyorlaw19_awake.j0 (k + 1) y0))
  | 0 => fun _ r h => by simp [surveyorlaw19_awake.j0] at h
  | k + 1 => by
    have ih0 := surveyorlaw19_awake.mono_l k
    · intro y0
      unfold surveyorlaw19_awake.j0
      repeat' first
      | (with_reducible exact ih0 _)
      | (with_reducible exact LeO.refl _)
      | (with_reducible exact LeO.none _)
      | (with_reducible refine LeO.ite ?_ ?_)
      | (with_reducible refine LeO.bind ?_ (fun _ => ?_))
      | exact ih0 _
      | exact LeO.none _
      | refine LeO.ite ?_ ?_
      | refine LeO.bind ?_ (fun _ => ?_)
theorem surveyorlaw19_awake.mono : ∀ k, LeO (surveyorlaw19_awake.f k ) (surveyorlaw19_awake.f (k + 1) ) := by
  intro  k
  have ih0 := surveyorlaw19_awake.mono_l k
  unfold surveyorlaw19_awake.f
  repeat' first
      | (with_reducible exact ih0 _)
      | (with_reducible exact LeO.refl _)
      | (with_reducible exact LeO.none _)
      | (with_reducible refine LeO.ite ?_ ?_)
      | (with_reducible refine LeO.bind ?_ (fun _ => ?_))
      | exact ih0 _
      | exact LeO.none _
      | refine LeO.ite ?_ ?_
      | refine LeO.bind ?_ (fun _ => ?_)
set_option maxHeartbeats 8000000 in
set_option maxRecDepth 100000 in
theorem surveyorlaw19_awake.calls (k : Nat)  (r : Bool) (w : World) (h : surveyorlaw19_awake.f k  = some r) :
    Calls Tryz.prog 15 #[] w fun e w' => e = .returned (.bool r) ∧ Below w.heap.size w w' := by
  have HB := Aside0.mk (Below.refl w.heap.size w)
  have H : ((sign_Add.f 4 1).bind fun bt101 => ((sign_Add.f 6 4).bind fun bt103 => ((sign_Quo.f 4 4).bind fun bt105 => ((sign_Quo.f 4 1).bind fun bt107 => (if (wrap64 ((wrap64 ((wrap64 (bt101.2 + bt103.2)) + bt105.2)) + bt107.2)) = 0 then (if bt101.1 = 7 then (if bt103.1 = 4 then (if bt105.1 = 6 then (surveyorlaw19_awake.j0 k (bt107.1 != 1)) else (surveyorlaw19_awake.j0 k true)) else (surveyorlaw19_awake.j0 k true)) else (surveyorlaw19_awake.j0 k true)) else (surveyorlaw19_awake.j0 k true)))))) = some r := h
  clear h
  replace H := Option.bind_eq_some_iff.mp H
  obtain ⟨⟨t101, t102⟩, A10, H⟩ := H
  replace H : ((sign_Add.f 6 4).bind fun bt103 => ((sign_Quo.f 4 4).bind fun bt105 => ((sign_Quo.f 4 1).bind fun bt107 => (if (wrap64 ((wrap64 ((wrap64 (t102 + bt103.2)) + bt105.2)) + bt107.2)) = 0 then (if t101 = 7 then (if bt103.1 = 4 then (if bt105.1 = 6 then (surveyorlaw19_awake.j0 k (bt107.1 != 1)) else (surveyorlaw19_awake.j0 k true)) else (surveyorlaw19_awake.j0 k true)) else (surveyorlaw19_awake.j0 k true)) else (surveyorlaw19_awake.j0 k true))))) = some r := H
  have A1 := Aside0.mk A10
  clear A10
  replace H := Option.bind_eq_some_iff.mp H
  obtain ⟨⟨t103, t104⟩, A20, H⟩ := H
  replace H : ((sign_Quo.f 4 4).bind fun bt105 => ((sign_Quo.f 4 1).bind fun bt107 => (if (wrap64 ((wrap64 ((wrap64 (t102 + t104)) + bt105.2)) + bt107.2)) = 0 then (if t101 = 7 then (if t103 = 4 then (if bt105.1 = 6 then (surveyorlaw19_awake.j0 k (bt107.1 != 1)) else (surveyorlaw19_awake.j0 k true)) else (surveyorlaw19_awake.j0 k true)) else (surveyorlaw19_awake.j0 k true)) else (surveyorlaw19_awake.j0 k true)))) = some r := H
  have A2 := Aside0.mk A20
  clear A20
  replace H := Option.bind_eq_some_iff.mp H
  obtain ⟨⟨t105, t106⟩, A30, H⟩ := H
  replace H : ((sign_Quo.f 4 1).bind fun bt107 => (if (wrap64 ((wrap64 ((wrap64 (t102 + t104)) + t106)) + bt107.2)) = 0 then (if t101 = 7 then (if t103 = 4 then (if t105 = 6 then (surveyorlaw19_awake.j0 k (bt107.1 != 1)) else (surveyorlaw19_awake.j0 k true)) else (surveyorlaw19_awake.j0 k true)) else (surveyorlaw19_awake.j0 k true)) else (surveyorlaw19_awake.j0 k true))) = some r := H
  have A3 := Aside0.mk A30
  clear A30
  replace H := Option.bind_eq_some_iff.mp H
  obtain ⟨⟨t107, t108⟩, A40, H⟩ := H
  replace H : (if (wrap64 ((wrap64 ((wrap64 (t102 + t104)) + t106)) + t108)) = 0 then (if t101 = 7 then (if t103 = 4 then (if t105 = 6 then (surveyorlaw19_awake.j0 k (t107 != 1)) else (surveyorlaw19_awake.j0 k true)) else (surveyorlaw19_awake.j0 k true)) else (surveyorlaw19_awake.j0 k true)) else (surveyorlaw19_awake.j0 k true)) = some r := H
  have A4 := Aside0.mk A40
  clear A40
  have HC5 := Aside0.mk H
  clear H
  go_enter Tryz.func15, Tryz.ntmps15
  go_upto_region 5 with (first | ((with_reducible refine gate_callee (f := 59) rfl ?_); refine goesL_ (some 18) rfl rfl Tryz.func59 (by kernel_rfl) rfl #[.int .i64 4, .int .i64 1] rfl (by (try simp only [List.map_toArray, List.map_cons, List.map_nil]); first | done | rfl | (simp only [List.length_drop, List.length_take]; rfl)) ?_; (with_reducible refine (sign_Add.calls 4 1 t101 t102 _ A1.out).mono ?_); rintro e w6 ⟨rfl, hb⟩; refine ⟨_, rfl, ?_⟩; have n0_ := Aside0.mk (below_step (by repeat (first | (with_reducible first | exact HB.out | apply below_alloc | apply pw_below_drewN | apply below_drew1) | exact HB.out)) hb); clear HB; have HB := n0_; clear n0_; (try clear hb); (try clear hb2); (try clear hk); (try clear hi)) | ((with_reducible refine gate_callee (f := 59) rfl ?_); refine goesL_ (some 22) rfl rfl Tryz.func59 (by kernel_rfl) rfl #[.int .i64 6, .int .i64 4] rfl (by (try simp only [List.map_toArray, List.map_cons, List.map_nil]); first | done | rfl | (simp only [List.length_drop, List.length_take]; rfl)) ?_; (with_reducible refine (sign_Add.calls 6 4 t103 t104 _ A2.out).mono ?_); rintro e w7 ⟨rfl, hb⟩; refine ⟨_, rfl, ?_⟩; have n0_ := Aside0.mk (below_step (by repeat (first | (with_reducible first | exact HB.out | apply below_alloc | apply pw_below_drewN | apply below_drew1) | exact HB.out)) hb); clear HB; have HB := n0_; clear n0_; (try clear hb); (try clear hb2); (try clear hk); (try clear hi)) | ((with_reducible refine gate_callee (f := 60) rfl ?_); refine goesL_ (some 26) rfl rfl Tryz.func60 (by kernel_rfl) rfl #[.int .i64 4, .int .i64 4] rfl (by (try simp only [List.map_toArray, List.map_cons, List.map_nil]); first | done | rfl | (simp only [List.length_drop, List.length_take]; rfl)) ?_; (with_reducible refine (sign_Quo.calls 4 4 t105 t106 _ A3.out).mono ?_); rintro e w8 ⟨rfl, hb⟩; refine ⟨_, rfl, ?_⟩; have n0_ := Aside0.mk (below_step (by repeat (first | (with_reducible first | exact HB.out | apply below_alloc | apply pw_below_drewN | apply below_drew1) | exact HB.out)) hb); clear HB; have HB := n0_; clear n0_; (try clear hb); (try clear hb2); (try clear hk); (try clear hi)) | ((with_reducible refine gate_callee (f := 60) rfl ?_); refine goesL_ (some 30) rfl rfl Tryz.func60 (by kernel_rfl) rfl #[.int .i64 4, .int .i64 1] rfl (by (try simp only [List.map_toArray, List.map_cons, List.map_nil]); first | done | rfl | (simp only [List.length_drop, List.length_take]; rfl)) ?_; (with_reducible refine (sign_Quo.calls 4 1 t107 t108 _ A4.out).mono ?_); rintro e w9 ⟨rfl, hb⟩; refine ⟨_, rfl, ?_⟩; have n0_ := Aside0.mk (below_step (by repeat (first | (with_reducible first | exact HB.out | apply below_alloc | apply pw_below_drewN | apply below_drew1) | exact HB.out)) hb); clear HB; have HB := n0_; clear n0_; (try clear hb); (try clear hb2); (try clear hk); (try clear hi)))
  (try simp only [Act.put, List.setIfInBounds_toArray, List.set_cons_zero, List.set_cons_succ])
  go_cut [56] (fun v56 wc => ∃ (kq : Nat) (x56_4 : Bool), v56 = .bool x56_4 ∧ Aside0 (surveyorlaw19_awake.j0 kq x56_4 = some r) ∧ Aside0 (kq ≤ k) ∧ Aside0 (Below w.heap.size w wc))
  case first =>
    have H := HC5.out
    clear HC5
    by_cases c10 : (wrap64 ((wrap64 ((wrap64 (t102 + t104)) + t106)) + t108)) = 0
    · rw [if_pos c10] at H
      have c10b0 : ((wrap64 ((wrap64 ((wrap64 (t102 + t104)) + t106)) + t108)) == 0) = true := beq_iff_eq.mpr c10
      have c10b1 : ((wrap64 ((wrap64 ((wrap64 (t102 + t104)) + t106)) + t108)) != 0) = false := bne_eq_false_iff_eq.mpr c10
      clear c10
      (first | rw [c10b0] | (simp only [i64_w, i32_w]; rw [c10b0]) | skip)
      by_cases c11 : t101 = 7
      · rw [if_pos c11] at H
        have c11b0 : (t101 == 7) = true := beq_iff_eq.mpr c11
        have c11b1 : (t101 != 7) = false := bne_eq_false_iff_eq.mpr c11
        clear c11
        by_cases c12 : t103 = 4
        · rw [if_pos c12] at H
          have c12b0 : (t103 == 4) = true := beq_iff_eq.mpr c12
          have c12b1 : (t103 != 4) = false := bne_eq_false_iff_eq.mpr c12
          clear c12
          by_cases c13 : t105 = 6
          · rw [if_pos c13] at H
            have c13b0 : (t105 == 6) = true := beq_iff_eq.mpr c13
            have c13b1 : (t105 != 6) = false := bne_eq_false_iff_eq.mpr c13
            clear c13
            have H' := Aside0.mk H
            clear H
            go_wp2
            go_meet
            case rel => exact ⟨_, ((t107 != 1)), (by first | rfl | (simp; done) | (simp [*]; done)), H', ⟨by first | omega | exact Nat.le_refl _⟩, ⟨by repeat (first | (with_reducible first | exact HB.out | apply below_alloc | apply pw_below_drewN | apply below_drew1) | exact HB.out)⟩⟩
          · rw [if_neg c13] at H
            have c13b0 : (t105 == 6) = false := beq_eq_false_iff_ne.mpr c13
            have c13b1 : (t105 != 6) = true := bne_iff_ne.mpr c13
            have H' := Aside0.mk H
            clear H
            go_wp2
            go_meet
            case rel => exact ⟨_, (true), (by first | rfl | (simp; done) | (simp [*]; done)), H', ⟨by first | omega | exact Nat.le_refl _⟩, ⟨by repeat (first | (with_reducible first | exact HB.out | apply below_alloc | apply pw_below_drewN | apply below_drew1) | exact HB.out)⟩⟩
        · rw [if_neg c12] at H
          have c12b0 : (t103 == 4) = false := beq_eq_false_iff_ne.mpr c12
          have c12b1 : (t103 != 4) = true := bne_iff_ne.mpr c12
          have H' := Aside0.mk H
          clear H
          go_wp2
          go_meet
          case rel => exact ⟨_, (true), (by first | rfl | (simp; done) | (simp [*]; done)), H', ⟨by first | omega | exact Nat.le_refl _⟩, ⟨by repeat (first | (with_reducible first | exact HB.out | apply below_alloc | apply pw_below_drewN | apply below_drew1) | exact HB.out)⟩⟩
      · rw [if_neg c11] at H
        have c11b0 : (t101 == 7) = false := beq_eq_false_iff_ne.mpr c11
        have c11b1 : (t101 != 7) = true := bne_iff_ne.mpr c11
        have H' := Aside0.mk H
        clear H
        go_wp2
        go_meet
        case rel => exact ⟨_, (true), (by first | rfl | (simp; done) | (simp [*]; done)), H', ⟨by first | omega | exact Nat.le_refl _⟩, ⟨by repeat (first | (with_reducible first | exact HB.out | apply below_alloc | apply pw_below_drewN | apply below_drew1) | exact HB.out)⟩⟩
    · rw [if_neg c10] at H
      have c10b0 : ((wrap64 ((wrap64 ((wrap64 (t102 + t104)) + t106)) + t108)) == 0) = false := beq_eq_false_iff_ne.mpr c10
      have c10b1 : ((wrap64 ((wrap64 ((wrap64 (t102 + t104)) + t106)) + t108)) != 0) = true := bne_iff_ne.mpr c10
      (first | rw [c10b0] | (simp only [i64_w, i32_w]; rw [c10b0]) | skip)
      have H' := Aside0.mk H
      clear H
      go_wp2
      go_meet
      case rel => exact ⟨_, (true), (by first | rfl | (simp; done) | (simp [*]; done)), H', ⟨by first | omega | exact Nat.le_refl _⟩, ⟨by repeat (first | (with_reducible first | exact HB.out | apply below_alloc | apply pw_below_drewN | apply below_drew1) | exact HB.out)⟩⟩
  case rest =>
    clear HC5
    try clear c1
    try clear p2
    try clear c5
    try clear c6
    try clear p6
    try clear c10
    try clear c10b0
    try clear c10b1
    try clear c11
    try clear c11b0
    try clear c11b1
    try clear c12
    try clear c12b0
    try clear c12b1
    try clear c13
    try clear c13b0
    try clear c13b1
    obtain ⟨kq, x56_4, rfl, HA, HJ4, HB⟩ := hcut
    cases kq with
    | zero => exact absurd HA.out (by simp [surveyorlaw19_awake.j0])
    | succ kj4 =>
      have H := HA.out
      clear HA
      simp only [surveyorlaw19_awake.j0] at H
      by_cases c14 : x56_4 = true
      · subst c14
        have H1 : (some false) = some r := by rw [if_pos rfl] at H; exact H
        clear H
        have H := H1
        clear H1
        obtain rfl := Option.some.inj H
        go_wp2
        go_ret
        exact ⟨by first | rfl | (simp [errW_none, errW_some] <;> rfl) | (simp [*, errW_none, errW_some] <;> rfl), by repeat (first | (with_reducible first | exact HB.out | apply below_alloc | apply pw_below_drewN | apply below_drew1) | exact HB.out)⟩
      · replace c14 := Bool.eq_false_iff.mpr c14
        subst c14
        have H1 : ((sign_Rem.f 7 4).bind fun bt109 => ((sign_Rem.f 7 2).bind fun bt111 => ((sign_Refine.f 4 7 2).bind fun bt113 => ((sign_Refine.f 5 6 3).bind fun bt116 => ((sign_Format.f 6).bind fun bt119 => (if (wrap64 ((wrap64 ((wrap64 ((wrap64 (bt109.2 + bt111.2)) + bt113.2.2)) + bt116.2.2)) + bt119.2)) = 0 then (if bt109.1 = 6 then (if bt111.1 = 0 then (if bt113.1 = 1 then (if bt113.2.1 = 2 then (if bt116.1 = 2 then (if bt116.2.1 = 2 then (some (bt119.1.toList == ([110, 111, 110, 110, 101, 103, 97, 116, 105, 118, 101] : List UInt8))) else (some false)) else (some false)) else (some false)) else (some false)) else (some false)) else (some false)) else (some false))))))) = some r := by rw [if_neg (show ¬ (false = true) by decide)] at H; exact H
        clear H
        have H := H1
        clear H1
        replace H := Option.bind_eq_some_iff.mp H
        obtain ⟨⟨t109, t110⟩, A150, H⟩ := H
        replace H : ((sign_Rem.f 7 2).bind fun bt111 => ((sign_Refine.f 4 7 2).bind fun bt113 => ((sign_Refine.f 5 6 3).bind fun bt116 => ((sign_Format.f 6).bind fun bt119 => (if (wrap64 ((wrap64 ((wrap64 ((wrap64 (t110 + bt111.2)) + bt113.2.2)) + bt116.2.2)) + bt119.2)) = 0 then (if t109 = 6 then (if bt111.1 = 0 then (if bt113.1 = 1 then (if bt113.2.1 = 2 then (if bt116.1 = 2 then (if bt116.2.1 = 2 then (some (bt119.1.toList == ([110, 111, 110, 110, 101, 103, 97, 116, 105, 118, 101] : List UInt8))) else (some false)) else (some false)) else (some false)) else (some false)) else (some false)) else (some false)) else (some false)))))) = some r := H
        have A15 := Aside0.mk A150
        clear A150
        replace H := Option.bind_eq_some_iff.mp H
        obtain ⟨⟨t111, t112⟩, A160, H⟩ := H
        replace H : ((sign_Refine.f 4 7 2).bind fun bt113 => ((sign_Refine.f 5 6 3).bind fun bt116 => ((sign_Format.f 6).bind fun bt119 => (if (wrap64 ((wrap64 ((wrap64 ((wrap64 (t110 + t112)) + bt113.2.2)) + bt116.2.2)) + bt119.2)) = 0 then (if t109 = 6 then (if t111 = 0 then (if bt113.1 = 1 then (if bt113.2.1 = 2 then (if bt116.1 = 2 then (if bt116.2.1 = 2 then (some (bt119.1.toList == ([110, 111, 110, 110, 101, 103, 97, 116, 105, 118, 101] : List UInt8))) else (some false)) else (some false)) else (some false)) else (some false)) else (some false)) else (some false)) else (some false))))) = some r := H
        have A16 := Aside0.mk A160
        clear A160
        replace H := Option.bind_eq_some_iff.mp H
        obtain ⟨⟨t113, t114, t115⟩, A170, H⟩ := H
        replace H : ((sign_Refine.f 5 6 3).bind fun bt116 => ((sign_Format.f 6).bind fun bt119 => (if (wrap64 ((wrap64 ((wrap64 ((wrap64 (t110 + t112)) + t115)) + bt116.2.2)) + bt119.2)) = 0 then (if t109 = 6 then (if t111 = 0 then (if t113 = 1 then (if t114 = 2 then (if bt116.1 = 2 then (if bt116.2.1 = 2 then (some (bt119.1.toList == ([110, 111, 110, 110, 101, 103, 97, 116, 105, 118, 101] : List UInt8))) else (some false)) else (some false)) else (some false)) else (some false)) else (some false)) else (some false)) else (some false)))) = some r := H
        have A17 := Aside0.mk A170
        clear A170
        replace H := Option.bind_eq_some_iff.mp H
        obtain ⟨⟨t116, t117, t118⟩, A180, H⟩ := H
        replace H : ((sign_Format.f 6).bind fun bt119 => (if (wrap64 ((wrap64 ((wrap64 ((wrap64 (t110 + t112)) + t115)) + t118)) + bt119.2)) = 0 then (if t109 = 6 then (if t111 = 0 then (if t113 = 1 then (if t114 = 2 then (if t116 = 2 then (if t117 = 2 then (some (bt119.1.toList == ([110, 111, 110, 110, 101, 103, 97, 116, 105, 118, 101] : List UInt8))) else (some false)) else (some false)) else (some false)) else (some false)) else (some false)) else (some false)) else (some false))) = some r := H
        have A18 := Aside0.mk A180
        clear A180
        replace H := Option.bind_eq_some_iff.mp H
        obtain ⟨⟨t119, t120⟩, A190, H⟩ := H
        replace H : (if (wrap64 ((wrap64 ((wrap64 ((wrap64 (t110 + t112)) + t115)) + t118)) + t120)) = 0 then (if t109 = 6 then (if t111 = 0 then (if t113 = 1 then (if t114 = 2 then (if t116 = 2 then (if t117 = 2 then (some (t119.toList == ([110, 111, 110, 110, 101, 103, 97, 116, 105, 118, 101] : List UInt8))) else (some false)) else (some false)) else (some false)) else (some false)) else (some false)) else (some false)) else (some false)) = some r := H
        have A19 := Aside0.mk A190
        clear A190
        by_cases c20 : (wrap64 ((wrap64 ((wrap64 ((wrap64 (t110 + t112)) + t115)) + t118)) + t120)) = 0
        · rw [if_pos c20] at H
          have c20b0 : ((wrap64 ((wrap64 ((wrap64 ((wrap64 (t110 + t112)) + t115)) + t118)) + t120)) == 0) = true := beq_iff_eq.mpr c20
          have c20b1 : ((wrap64 ((wrap64 ((wrap64 ((wrap64 (t110 + t112)) + t115)) + t118)) + t120)) != 0) = false := bne_eq_false_iff_eq.mpr c20
          clear c20
          by_cases c21 : t109 = 6
          · rw [if_pos c21] at H
            have c21b0 : (t109 == 6) = true := beq_iff_eq.mpr c21
            have c21b1 : (t109 != 6) = false := bne_eq_false_iff_eq.mpr c21
            clear c21
            by_cases c22 : t111 = 0
            · rw [if_pos c22] at H
              have c22b0 : (t111 == 0) = true := beq_iff_eq.mpr c22
              have c22b1 : (t111 != 0) = false := bne_eq_false_iff_eq.mpr c22
              clear c22
              by_cases c23 : t113 = 1
              · rw [if_pos c23] at H
                have c23b0 : (t113 == 1) = true := beq_iff_eq.mpr c23
                have c23b1 : (t113 != 1) = false := bne_eq_false_iff_eq.mpr c23
                clear c23
                by_cases c24 : t114 = 2
                · rw [if_pos c24] at H
                  have c24b0 : (t114 == 2) = true := beq_iff_eq.mpr c24
                  have c24b1 : (t114 != 2) = false := bne_eq_false_iff_eq.mpr c24
                  clear c24
                  by_cases c25 : t116 = 2
                  · rw [if_pos c25] at H
                    have c25b0 : (t116 == 2) = true := beq_iff_eq.mpr c25
                    have c25b1 : (t116 != 2) = false := bne_eq_false_iff_eq.mpr c25
                    clear c25
                    by_cases c26 : t117 = 2
                    · rw [if_pos c26] at H
                      have c26b0 : (t117 == 2) = true := beq_iff_eq.mpr c26
                      have c26b1 : (t117 != 2) = false := bne_eq_false_iff_eq.mpr c26
                      clear c26
                      obtain rfl := Option.some.inj H
                      go_wp2_with (first | ((with_reducible refine gate_callee (f := 61) rfl ?_); refine goesL_ (some 58) rfl rfl Tryz.func61 (by kernel_rfl) rfl #[.int .i64 7, .int .i64 4] rfl (by (try simp only [List.map_toArray, List.map_cons, List.map_nil]); first | done | rfl | (simp only [List.length_drop, List.length_take]; rfl)) ?_; (with_reducible refine (sign_Rem.calls 7 4 t109 t110 _ A15.out).mono ?_); rintro e w27 ⟨rfl, hb⟩; refine ⟨_, rfl, ?_⟩; have n0_ := Aside0.mk (below_step (by repeat (first | (with_reducible first | exact HB.out | apply below_alloc | apply pw_below_drewN | apply below_drew1) | exact HB.out)) hb); clear HB; have HB := n0_; clear n0_; (try clear hb); (try clear hb2); (try clear hk); (try clear hi)) | ((with_reducible refine gate_callee (f := 61) rfl ?_); refine goesL_ (some 62) rfl rfl Tryz.func61 (by kernel_rfl) rfl #[.int .i64 7, .int .i64 2] rfl (by (try simp only [List.map_toArray, List.map_cons, List.map_nil]); first | done | rfl | (simp only [List.length_drop, List.length_take]; rfl)) ?_; (with_reducible refine (sign_Rem.calls 7 2 t111 t112 _ A16.out).mono ?_); rintro e w28 ⟨rfl, hb⟩; refine ⟨_, rfl, ?_⟩; have n0_ := Aside0.mk (below_step (by repeat (first | (with_reducible first | exact HB.out | apply below_alloc | apply pw_below_drewN | apply below_drew1) | exact HB.out)) hb); clear HB; have HB := n0_; clear n0_; (try clear hb); (try clear hb2); (try clear hk); (try clear hi)) | ((with_reducible refine gate_callee (f := 62) rfl ?_); refine goesL_ (some 66) rfl rfl Tryz.func62 (by kernel_rfl) rfl #[.int .i64 4, .int .i64 7, .int .i64 2] rfl (by (try simp only [List.map_toArray, List.map_cons, List.map_nil]); first | done | rfl | (simp only [List.length_drop, List.length_take]; rfl)) ?_; (with_reducible refine (sign_Refine.calls 4 7 2 t113 t114 t115 _ A17.out).mono ?_); rintro e w29 ⟨rfl, hb⟩; refine ⟨_, rfl, ?_⟩; have n0_ := Aside0.mk (below_step (by repeat (first | (with_reducible first | exact HB.out | apply below_alloc | apply pw_below_drewN | apply below_drew1) | exact HB.out)) hb); clear HB; have HB := n0_; clear n0_; (try clear hb); (try clear hb2); (try clear hk); (try clear hi)) | ((with_reducible refine gate_callee (f := 62) rfl ?_); refine goesL_ (some 71) rfl rfl Tryz.func62 (by kernel_rfl) rfl #[.int .i64 5, .int .i64 6, .int .i64 3] rfl (by (try simp only [List.map_toArray, List.map_cons, List.map_nil]); first | done | rfl | (simp only [List.length_drop, List.length_take]; rfl)) ?_; (with_reducible refine (sign_Refine.calls 5 6 3 t116 t117 t118 _ A18.out).mono ?_); rintro e w30 ⟨rfl, hb⟩; refine ⟨_, rfl, ?_⟩; have n0_ := Aside0.mk (below_step (by repeat (first | (with_reducible first | exact HB.out | apply below_alloc | apply pw_below_drewN | apply below_drew1) | exact HB.out)) hb); clear HB; have HB := n0_; clear n0_; (try clear hb); (try clear hb2); (try clear hk); (try clear hi)) | ((with_reducible refine gate_callee (f := 63) rfl ?_); refine goesL_ (some 76) rfl rfl Tryz.func63 (by kernel_rfl) rfl #[.int .i64 6] rfl (by (try simp only [List.map_toArray, List.map_cons, List.map_nil]); first | done | rfl | (simp only [List.length_drop, List.length_take]; rfl)) ?_; (with_reducible refine (sign_Format.calls 6 t119 t120 _ A19.out).mono ?_); rintro e w31 ⟨rfl, hb⟩; refine ⟨_, rfl, ?_⟩; have n0_ := Aside0.mk (below_step (by repeat (first | (with_reducible first | exact HB.out | apply below_alloc | apply pw_below_drewN | apply below_drew1) | exact HB.out)) hb); clear HB; have HB := n0_; clear n0_; (try clear hb); (try clear hb2); (try clear hk); (try clear hi)))
                      go_ret
                      exact ⟨by first | rfl | (simp [errW_none, errW_some] <;> rfl) | (simp [*, errW_none, errW_some] <;> rfl), by repeat (first | (with_reducible first | exact HB.out | apply below_alloc | apply pw_below_drewN | apply below_drew1) | exact HB.out)⟩
                    · rw [if_neg c26] at H
                      have c26b0 : (t117 == 2) = false := beq_eq_false_iff_ne.mpr c26
                      have c26b1 : (t117 != 2) = true := bne_iff_ne.mpr c26
                      obtain rfl := Option.some.inj H
                      go_wp2_with (first | ((with_reducible refine gate_callee (f := 61) rfl ?_); refine goesL_ (some 58) rfl rfl Tryz.func61 (by kernel_rfl) rfl #[.int .i64 7, .int .i64 4] rfl (by (try simp only [List.map_toArray, List.map_cons, List.map_nil]); first | done | rfl | (simp only [List.length_drop, List.length_take]; rfl)) ?_; (with_reducible refine (sign_Rem.calls 7 4 t109 t110 _ A15.out).mono ?_); rintro e w32 ⟨rfl, hb⟩; refine ⟨_, rfl, ?_⟩; have n0_ := Aside0.mk (below_step (by repeat (first | (with_reducible first | exact HB.out | apply below_alloc | apply pw_below_drewN | apply below_drew1) | exact HB.out)) hb); clear HB; have HB := n0_; clear n0_; (try clear hb); (try clear hb2); (try clear hk); (try clear hi)) | ((with_reducible refine gate_callee (f := 61) rfl ?_); refine goesL_ (some 62) rfl rfl Tryz.func61 (by kernel_rfl) rfl #[.int .i64 7, .int .i64 2] rfl (by (try simp only [List.map_toArray, List.map_cons, List.map_nil]); first | done | rfl | (simp only [List.length_drop, List.length_take]; rfl)) ?_; (with_reducible refine (sign_Rem.calls 7 2 t111 t112 _ A16.out).mono ?_); rintro e w33 ⟨rfl, hb⟩; refine ⟨_, rfl, ?_⟩; have n0_ := Aside0.mk (below_step (by repeat (first | (with_reducible first | exact HB.out | apply below_alloc | apply pw_below_drewN | apply below_drew1) | exact HB.out)) hb); clear HB; have HB := n0_; clear n0_; (try clear hb); (try clear hb2); (try clear hk); (try clear hi)) | ((with_reducible refine gate_callee (f := 62) rfl ?_); refine goesL_ (some 66) rfl rfl Tryz.func62 (by kernel_rfl) rfl #[.int .i64 4, .int .i64 7, .int .i64 2] rfl (by (try simp only [List.map_toArray, List.map_cons, List.map_nil]); first | done | rfl | (simp only [List.length_drop, List.length_take]; rfl)) ?_; (with_reducible refine (sign_Refine.calls 4 7 2 t113 t114 t115 _ A17.out).mono ?_); rintro e w34 ⟨rfl, hb⟩; refine ⟨_, rfl, ?_⟩; have n0_ := Aside0.mk (below_step (by repeat (first | (with_reducible first | exact HB.out | apply below_alloc | apply pw_below_drewN | apply below_drew1) | exact HB.out)) hb); clear HB; have HB := n0_; clear n0_; (try clear hb); (try clear hb2); (try clear hk); (try clear hi)) | ((with_reducible refine gate_callee (f := 62) rfl ?_); refine goesL_ (some 71) rfl rfl Tryz.func62 (by kernel_rfl) rfl #[.int .i64 5, .int .i64 6, .int .i64 3] rfl (by (try simp only [List.map_toArray, List.map_cons, List.map_nil]); first | done | rfl | (simp only [List.length_drop, List.length_take]; rfl)) ?_; (with_reducible refine (sign_Refine.calls 5 6 3 t116 t117 t118 _ A18.out).mono ?_); rintro e w35 ⟨rfl, hb⟩; refine ⟨_, rfl, ?_⟩; have n0_ := Aside0.mk (below_step (by repeat (first | (with_reducible first | exact HB.out | apply below_alloc | apply pw_below_drewN | apply below_drew1) | exact HB.out)) hb); clear HB; have HB := n0_; clear n0_; (try clear hb); (try clear hb2); (try clear hk); (try clear hi)) | ((with_reducible refine gate_callee (f := 63) rfl ?_); refine goesL_ (some 76) rfl rfl Tryz.func63 (by kernel_rfl) rfl #[.int .i64 6] rfl (by (try simp only [List.map_toArray, List.map_cons, List.map_nil]); first | done | rfl | (simp only [List.length_drop, List.length_take]; rfl)) ?_; (with_reducible refine (sign_Format.calls 6 t119 t120 _ A19.out).mono ?_); rintro e w36 ⟨rfl, hb⟩; refine ⟨_, rfl, ?_⟩; have n0_ := Aside0.mk (below_step (by repeat (first | (with_reducible first | exact HB.out | apply below_alloc | apply pw_below_drewN | apply below_drew1) | exact HB.out)) hb); clear HB; have HB := n0_; clear n0_; (try clear hb); (try clear hb2); (try clear hk); (try clear hi)))
                      go_ret
                      exact ⟨by first | rfl | (simp [errW_none, errW_some] <;> rfl) | (simp [*, errW_none, errW_some] <;> rfl), by repeat (first | (with_reducible first | exact HB.out | apply below_alloc | apply pw_below_drewN | apply below_drew1) | exact HB.out)⟩
                  · rw [if_neg c25] at H
                    have c25b0 : (t116 == 2) = false := beq_eq_false_iff_ne.mpr c25
                    have c25b1 : (t116 != 2) = true := bne_iff_ne.mpr c25
                    obtain rfl := Option.some.inj H
                    go_wp2_with (first | ((with_reducible refine gate_callee (f := 61) rfl ?_); refine goesL_ (some 58) rfl rfl Tryz.func61 (by kernel_rfl) rfl #[.int .i64 7, .int .i64 4] rfl (by (try simp only [List.map_toArray, List.map_cons, List.map_nil]); first | done | rfl | (simp only [List.length_drop, List.length_take]; rfl)) ?_; (with_reducible refine (sign_Rem.calls 7 4 t109 t110 _ A15.out).mono ?_); rintro e w37 ⟨rfl, hb⟩; refine ⟨_, rfl, ?_⟩; have n0_ := Aside0.mk (below_step (by repeat (first | (with_reducible first | exact HB.out | apply below_alloc | apply pw_below_drewN | apply below_drew1) | exact HB.out)) hb); clear HB; have HB := n0_; clear n0_; (try clear hb); (try clear hb2); (try clear hk); (try clear hi)) | ((with_reducible refine gate_callee (f := 61) rfl ?_); refine goesL_ (some 62) rfl rfl Tryz.func61 (by kernel_rfl) rfl #[.int .i64 7, .int .i64 2] rfl (by (try simp only [List.map_toArray, List.map_cons, List.map_nil]); first | done | rfl | (simp only [List.length_drop, List.length_take]; rfl)) ?_; (with_reducible refine (sign_Rem.calls 7 2 t111 t112 _ A16.out).mono ?_); rintro e w38 ⟨rfl, hb⟩; refine ⟨_, rfl, ?_⟩; have n0_ := Aside0.mk (below_step (by repeat (first | (with_reducible first | exact HB.out | apply below_alloc | apply pw_below_drewN | apply below_drew1) | exact HB.out)) hb); clear HB; have HB := n0_; clear n0_; (try clear hb); (try clear hb2); (try clear hk); (try clear hi)) | ((with_reducible refine gate_callee (f := 62) rfl ?_); refine goesL_ (some 66) rfl rfl Tryz.func62 (by kernel_rfl) rfl #[.int .i64 4, .int .i64 7, .int .i64 2] rfl (by (try simp only [List.map_toArray, List.map_cons, List.map_nil]); first | done | rfl | (simp only [List.length_drop, List.length_take]; rfl)) ?_; (with_reducible refine (sign_Refine.calls 4 7 2 t113 t114 t115 _ A17.out).mono ?_); rintro e w39 ⟨rfl, hb⟩; refine ⟨_, rfl, ?_⟩; have n0_ := Aside0.mk (below_step (by repeat (first | (with_reducible first | exact HB.out | apply below_alloc | apply pw_below_drewN | apply below_drew1) | exact HB.out)) hb); clear HB; have HB := n0_; clear n0_; (try clear hb); (try clear hb2); (try clear hk); (try clear hi)) | ((with_reducible refine gate_callee (f := 62) rfl ?_); refine goesL_ (some 71) rfl rfl Tryz.func62 (by kernel_rfl) rfl #[.int .i64 5, .int .i64 6, .int .i64 3] rfl (by (try simp only [List.map_toArray, List.map_cons, List.map_nil]); first | done | rfl | (simp only [List.length_drop, List.length_take]; rfl)) ?_; (with_reducible refine (sign_Refine.calls 5 6 3 t116 t117 t118 _ A18.out).mono ?_); rintro e w40 ⟨rfl, hb⟩; refine ⟨_, rfl, ?_⟩; have n0_ := Aside0.mk (below_step (by repeat (first | (with_reducible first | exact HB.out | apply below_alloc | apply pw_below_drewN | apply below_drew1) | exact HB.out)) hb); clear HB; have HB := n0_; clear n0_; (try clear hb); (try clear hb2); (try clear hk); (try clear hi)) | ((with_reducible refine gate_callee (f := 63) rfl ?_); refine goesL_ (some 76) rfl rfl Tryz.func63 (by kernel_rfl) rfl #[.int .i64 6] rfl (by (try simp only [List.map_toArray, List.map_cons, List.map_nil]); first | done | rfl | (simp only [List.length_drop, List.length_take]; rfl)) ?_; (with_reducible refine (sign_Format.calls 6 t119 t120 _ A19.out).mono ?_); rintro e w41 ⟨rfl, hb⟩; refine ⟨_, rfl, ?_⟩; have n0_ := Aside0.mk (below_step (by repeat (first | (with_reducible first | exact HB.out | apply below_alloc | apply pw_below_drewN | apply below_drew1) | exact HB.out)) hb); clear HB; have HB := n0_; clear n0_; (try clear hb); (try clear hb2); (try clear hk); (try clear hi)))
                    go_ret
                    exact ⟨by first | rfl | (simp [errW_none, errW_some] <;> rfl) | (simp [*, errW_none, errW_some] <;> rfl), by repeat (first | (with_reducible first | exact HB.out | apply below_alloc | apply pw_below_drewN | apply below_drew1) | exact HB.out)⟩
                · rw [if_neg c24] at H
                  have c24b0 : (t114 == 2) = false := beq_eq_false_iff_ne.mpr c24
                  have c24b1 : (t114 != 2) = true := bne_iff_ne.mpr c24
                  obtain rfl := Option.some.inj H
                  go_wp2_with (first | ((with_reducible refine gate_callee (f := 61) rfl ?_); refine goesL_ (some 58) rfl rfl Tryz.func61 (by kernel_rfl) rfl #[.int .i64 7, .int .i64 4] rfl (by (try simp only [List.map_toArray, List.map_cons, List.map_nil]); first | done | rfl | (simp only [List.length_drop, List.length_take]; rfl)) ?_; (with_reducible refine (sign_Rem.calls 7 4 t109 t110 _ A15.out).mono ?_); rintro e w42 ⟨rfl, hb⟩; refine ⟨_, rfl, ?_⟩; have n0_ := Aside0.mk (below_step (by repeat (first | (with_reducible first | exact HB.out | apply below_alloc | apply pw_below_drewN | apply below_drew1) | exact HB.out)) hb); clear HB; have HB := n0_; clear n0_; (try clear hb); (try clear hb2); (try clear hk); (try clear hi)) | ((with_reducible refine gate_callee (f := 61) rfl ?_); refine goesL_ (some 62) rfl rfl Tryz.func61 (by kernel_rfl) rfl #[.int .i64 7, .int .i64 2] rfl (by (try simp only [List.map_toArray, List.map_cons, List.map_nil]); first | done | rfl | (simp only [List.length_drop, List.length_take]; rfl)) ?_; (with_reducible refine (sign_Rem.calls 7 2 t111 t112 _ A16.out).mono ?_); rintro e w43 ⟨rfl, hb⟩; refine ⟨_, rfl, ?_⟩; have n0_ := Aside0.mk (below_step (by repeat (first | (with_reducible first | exact HB.out | apply below_alloc | apply pw_below_drewN | apply below_drew1) | exact HB.out)) hb); clear HB; have HB := n0_; clear n0_; (try clear hb); (try clear hb2); (try clear hk); (try clear hi)) | ((with_reducible refine gate_callee (f := 62) rfl ?_); refine goesL_ (some 66) rfl rfl Tryz.func62 (by kernel_rfl) rfl #[.int .i64 4, .int .i64 7, .int .i64 2] rfl (by (try simp only [List.map_toArray, List.map_cons, List.map_nil]); first | done | rfl | (simp only [List.length_drop, List.length_take]; rfl)) ?_; (with_reducible refine (sign_Refine.calls 4 7 2 t113 t114 t115 _ A17.out).mono ?_); rintro e w44 ⟨rfl, hb⟩; refine ⟨_, rfl, ?_⟩; have n0_ := Aside0.mk (below_step (by repeat (first | (with_reducible first | exact HB.out | apply below_alloc | apply pw_below_drewN | apply below_drew1) | exact HB.out)) hb); clear HB; have HB := n0_; clear n0_; (try clear hb); (try clear hb2); (try clear hk); (try clear hi)) | ((with_reducible refine gate_callee (f := 62) rfl ?_); refine goesL_ (some 71) rfl rfl Tryz.func62 (by kernel_rfl) rfl #[.int .i64 5, .int .i64 6, .int .i64 3] rfl (by (try simp only [List.map_toArray, List.map_cons, List.map_nil]); first | done | rfl | (simp only [List.length_drop, List.length_take]; rfl)) ?_; (with_reducible refine (sign_Refine.calls 5 6 3 t116 t117 t118 _ A18.out).mono ?_); rintro e w45 ⟨rfl, hb⟩; refine ⟨_, rfl, ?_⟩; have n0_ := Aside0.mk (below_step (by repeat (first | (with_reducible first | exact HB.out | apply below_alloc | apply pw_below_drewN | apply below_drew1) | exact HB.out)) hb); clear HB; have HB := n0_; clear n0_; (try clear hb); (try clear hb2); (try clear hk); (try clear hi)) | ((with_reducible refine gate_callee (f := 63) rfl ?_); refine goesL_ (some 76) rfl rfl Tryz.func63 (by kernel_rfl) rfl #[.int .i64 6] rfl (by (try simp only [List.map_toArray, List.map_cons, List.map_nil]); first | done | rfl | (simp only [List.length_drop, List.length_take]; rfl)) ?_; (with_reducible refine (sign_Format.calls 6 t119 t120 _ A19.out).mono ?_); rintro e w46 ⟨rfl, hb⟩; refine ⟨_, rfl, ?_⟩; have n0_ := Aside0.mk (below_step (by repeat (first | (with_reducible first | exact HB.out | apply below_alloc | apply pw_below_drewN | apply below_drew1) | exact HB.out)) hb); clear HB; have HB := n0_; clear n0_; (try clear hb); (try clear hb2); (try clear hk); (try clear hi)))
                  go_ret
                  exact ⟨by first | rfl | (simp [errW_none, errW_some] <;> rfl) | (simp [*, errW_none, errW_some] <;> rfl), by repeat (first | (with_reducible first | exact HB.out | apply below_alloc | apply pw_below_drewN | apply below_drew1) | exact HB.out)⟩
              · rw [if_neg c23] at H
                have c23b0 : (t113 == 1) = false := beq_eq_false_iff_ne.mpr c23
                have c23b1 : (t113 != 1) = true := bne_iff_ne.mpr c23
                obtain rfl := Option.some.inj H
                go_wp2_with (first | ((with_reducible refine gate_callee (f := 61) rfl ?_); refine goesL_ (some 58) rfl rfl Tryz.func61 (by kernel_rfl) rfl #[.int .i64 7, .int .i64 4] rfl (by (try simp only [List.map_toArray, List.map_cons, List.map_nil]); first | done | rfl | (simp only [List.length_drop, List.length_take]; rfl)) ?_; (with_reducible refine (sign_Rem.calls 7 4 t109 t110 _ A15.out).mono ?_); rintro e w47 ⟨rfl, hb⟩; refine ⟨_, rfl, ?_⟩; have n0_ := Aside0.mk (below_step (by repeat (first | (with_reducible first | exact HB.out | apply below_alloc | apply pw_below_drewN | apply below_drew1) | exact HB.out)) hb); clear HB; have HB := n0_; clear n0_; (try clear hb); (try clear hb2); (try clear hk); (try clear hi)) | ((with_reducible refine gate_callee (f := 61) rfl ?_); refine goesL_ (some 62) rfl rfl Tryz.func61 (by kernel_rfl) rfl #[.int .i64 7, .int .i64 2] rfl (by (try simp only [List.map_toArray, List.map_cons, List.map_nil]); first | done | rfl | (simp only [List.length_drop, List.length_take]; rfl)) ?_; (with_reducible refine (sign_Rem.calls 7 2 t111 t112 _ A16.out).mono ?_); rintro e w48 ⟨rfl, hb⟩; refine ⟨_, rfl, ?_⟩; have n0_ := Aside0.mk (below_step (by repeat (first | (with_reducible first | exact HB.out | apply below_alloc | apply pw_below_drewN | apply below_drew1) | exact HB.out)) hb); clear HB; have HB := n0_; clear n0_; (try clear hb); (try clear hb2); (try clear hk); (try clear hi)) | ((with_reducible refine gate_callee (f := 62) rfl ?_); refine goesL_ (some 66) rfl rfl Tryz.func62 (by kernel_rfl) rfl #[.int .i64 4, .int .i64 7, .int .i64 2] rfl (by (try simp only [List.map_toArray, List.map_cons, List.map_nil]); first | done | rfl | (simp only [List.length_drop, List.length_take]; rfl)) ?_; (with_reducible refine (sign_Refine.calls 4 7 2 t113 t114 t115 _ A17.out).mono ?_); rintro e w49 ⟨rfl, hb⟩; refine ⟨_, rfl, ?_⟩; have n0_ := Aside0.mk (below_step (by repeat (first | (with_reducible first | exact HB.out | apply below_alloc | apply pw_below_drewN | apply below_drew1) | exact HB.out)) hb); clear HB; have HB := n0_; clear n0_; (try clear hb); (try clear hb2); (try clear hk); (try clear hi)) | ((with_reducible refine gate_callee (f := 62) rfl ?_); refine goesL_ (some 71) rfl rfl Tryz.func62 (by kernel_rfl) rfl #[.int .i64 5, .int .i64 6, .int .i64 3] rfl (by (try simp only [List.map_toArray, List.map_cons, List.map_nil]); first | done | rfl | (simp only [List.length_drop, List.length_take]; rfl)) ?_; (with_reducible refine (sign_Refine.calls 5 6 3 t116 t117 t118 _ A18.out).mono ?_); rintro e w50 ⟨rfl, hb⟩; refine ⟨_, rfl, ?_⟩; have n0_ := Aside0.mk (below_step (by repeat (first | (with_reducible first | exact HB.out | apply below_alloc | apply pw_below_drewN | apply below_drew1) | exact HB.out)) hb); clear HB; have HB := n0_; clear n0_; (try clear hb); (try clear hb2); (try clear hk); (try clear hi)) | ((with_reducible refine gate_callee (f := 63) rfl ?_); refine goesL_ (some 76) rfl rfl Tryz.func63 (by kernel_rfl) rfl #[.int .i64 6] rfl (by (try simp only [List.map_toArray, List.map_cons, List.map_nil]); first | done | rfl | (simp only [List.length_drop, List.length_take]; rfl)) ?_; (with_reducible refine (sign_Format.calls 6 t119 t120 _ A19.out).mono ?_); rintro e w51 ⟨rfl, hb⟩; refine ⟨_, rfl, ?_⟩; have n0_ := Aside0.mk (below_step (by repeat (first | (with_reducible first | exact HB.out | apply below_alloc | apply pw_below_drewN | apply below_drew1) | exact HB.out)) hb); clear HB; have HB := n0_; clear n0_; (try clear hb); (try clear hb2); (try clear hk); (try clear hi)))
                go_ret
                exact ⟨by first | rfl | (simp [errW_none, errW_some] <;> rfl) | (simp [*, errW_none, errW_some] <;> rfl), by repeat (first | (with_reducible first | exact HB.out | apply below_alloc | apply pw_below_drewN | apply below_drew1) | exact HB.out)⟩
            · rw [if_neg c22] at H
              have c22b0 : (t111 == 0) = false := beq_eq_false_iff_ne.mpr c22
              have c22b1 : (t111 != 0) = true := bne_iff_ne.mpr c22
              obtain rfl := Option.some.inj H
              go_wp2_with (first | ((with_reducible refine gate_callee (f := 61) rfl ?_); refine goesL_ (some 58) rfl rfl Tryz.func61 (by kernel_rfl) rfl #[.int .i64 7, .int .i64 4] rfl (by (try simp only [List.map_toArray, List.map_cons, List.map_nil]); first | done | rfl | (simp only [List.length_drop, List.length_take]; rfl)) ?_; (with_reducible refine (sign_Rem.calls 7 4 t109 t110 _ A15.out).mono ?_); rintro e w52 ⟨rfl, hb⟩; refine ⟨_, rfl, ?_⟩; have n0_ := Aside0.mk (below_step (by repeat (first | (with_reducible first | exact HB.out | apply below_alloc | apply pw_below_drewN | apply below_drew1) | exact HB.out)) hb); clear HB; have HB := n0_; clear n0_; (try clear hb); (try clear hb2); (try clear hk); (try clear hi)) | ((with_reducible refine gate_callee (f := 61) rfl ?_); refine goesL_ (some 62) rfl rfl Tryz.func61 (by kernel_rfl) rfl #[.int .i64 7, .int .i64 2] rfl (by (try simp only [List.map_toArray, List.map_cons, List.map_nil]); first | done | rfl | (simp only [List.length_drop, List.length_take]; rfl)) ?_; (with_reducible refine (sign_Rem.calls 7 2 t111 t112 _ A16.out).mono ?_); rintro e w53 ⟨rfl, hb⟩; refine ⟨_, rfl, ?_⟩; have n0_ := Aside0.mk (below_step (by repeat (first | (with_reducible first | exact HB.out | apply below_alloc | apply pw_below_drewN | apply below_drew1) | exact HB.out)) hb); clear HB; have HB := n0_; clear n0_; (try clear hb); (try clear hb2); (try clear hk); (try clear hi)) | ((with_reducible refine gate_callee (f := 62) rfl ?_); refine goesL_ (some 66) rfl rfl Tryz.func62 (by kernel_rfl) rfl #[.int .i64 4, .int .i64 7, .int .i64 2] rfl (by (try simp only [List.map_toArray, List.map_cons, List.map_nil]); first | done | rfl | (simp only [List.length_drop, List.length_take]; rfl)) ?_; (with_reducible refine (sign_Refine.calls 4 7 2 t113 t114 t115 _ A17.out).mono ?_); rintro e w54 ⟨rfl, hb⟩; refine ⟨_, rfl, ?_⟩; have n0_ := Aside0.mk (below_step (by repeat (first | (with_reducible first | exact HB.out | apply below_alloc | apply pw_below_drewN | apply below_drew1) | exact HB.out)) hb); clear HB; have HB := n0_; clear n0_; (try clear hb); (try clear hb2); (try clear hk); (try clear hi)) | ((with_reducible refine gate_callee (f := 62) rfl ?_); refine goesL_ (some 71) rfl rfl Tryz.func62 (by kernel_rfl) rfl #[.int .i64 5, .int .i64 6, .int .i64 3] rfl (by (try simp only [List.map_toArray, List.map_cons, List.map_nil]); first | done | rfl | (simp only [List.length_drop, List.length_take]; rfl)) ?_; (with_reducible refine (sign_Refine.calls 5 6 3 t116 t117 t118 _ A18.out).mono ?_); rintro e w55 ⟨rfl, hb⟩; refine ⟨_, rfl, ?_⟩; have n0_ := Aside0.mk (below_step (by repeat (first | (with_reducible first | exact HB.out | apply below_alloc | apply pw_below_drewN | apply below_drew1) | exact HB.out)) hb); clear HB; have HB := n0_; clear n0_; (try clear hb); (try clear hb2); (try clear hk); (try clear hi)) | ((with_reducible refine gate_callee (f := 63) rfl ?_); refine goesL_ (some 76) rfl rfl Tryz.func63 (by kernel_rfl) rfl #[.int .i64 6] rfl (by (try simp only [List.map_toArray, List.map_cons, List.map_nil]); first | done | rfl | (simp only [List.length_drop, List.length_take]; rfl)) ?_; (with_reducible refine (sign_Format.calls 6 t119 t120 _ A19.out).mono ?_); rintro e w56 ⟨rfl, hb⟩; refine ⟨_, rfl, ?_⟩; have n0_ := Aside0.mk (below_step (by repeat (first | (with_reducible first | exact HB.out | apply below_alloc | apply pw_below_drewN | apply below_drew1) | exact HB.out)) hb); clear HB; have HB := n0_; clear n0_; (try clear hb); (try clear hb2); (try clear hk); (try clear hi)))
              go_ret
              exact ⟨by first | rfl | (simp [errW_none, errW_some] <;> rfl) | (simp [*, errW_none, errW_some] <;> rfl), by repeat (first | (with_reducible first | exact HB.out | apply below_alloc | apply pw_below_drewN | apply below_drew1) | exact HB.out)⟩
          · rw [if_neg c21] at H
            have c21b0 : (t109 == 6) = false := beq_eq_false_iff_ne.mpr c21
            have c21b1 : (t109 != 6) = true := bne_iff_ne.mpr c21
            obtain rfl := Option.some.inj H
            go_wp2_with (first | ((with_reducible refine gate_callee (f := 61) rfl ?_); refine goesL_ (some 58) rfl rfl Tryz.func61 (by kernel_rfl) rfl #[.int .i64 7, .int .i64 4] rfl (by (try simp only [List.map_toArray, List.map_cons, List.map_nil]); first | done | rfl | (simp only [List.length_drop, List.length_take]; rfl)) ?_; (with_reducible refine (sign_Rem.calls 7 4 t109 t110 _ A15.out).mono ?_); rintro e w57 ⟨rfl, hb⟩; refine ⟨_, rfl, ?_⟩; have n0_ := Aside0.mk (below_step (by repeat (first | (with_reducible first | exact HB.out | apply below_alloc | apply pw_below_drewN | apply below_drew1) | exact HB.out)) hb); clear HB; have HB := n0_; clear n0_; (try clear hb); (try clear hb2); (try clear hk); (try clear hi)) | ((with_reducible refine gate_callee (f := 61) rfl ?_); refine goesL_ (some 62) rfl rfl Tryz.func61 (by kernel_rfl) rfl #[.int .i64 7, .int .i64 2] rfl (by (try simp only [List.map_toArray, List.map_cons, List.map_nil]); first | done | rfl | (simp only [List.length_drop, List.length_take]; rfl)) ?_; (with_reducible refine (sign_Rem.calls 7 2 t111 t112 _ A16.out).mono ?_); rintro e w58 ⟨rfl, hb⟩; refine ⟨_, rfl, ?_⟩; have n0_ := Aside0.mk (below_step (by repeat (first | (with_reducible first | exact HB.out | apply below_alloc | apply pw_below_drewN | apply below_drew1) | exact HB.out)) hb); clear HB; have HB := n0_; clear n0_; (try clear hb); (try clear hb2); (try clear hk); (try clear hi)) | ((with_reducible refine gate_callee (f := 62) rfl ?_); refine goesL_ (some 66) rfl rfl Tryz.func62 (by kernel_rfl) rfl #[.int .i64 4, .int .i64 7, .int .i64 2] rfl (by (try simp only [List.map_toArray, List.map_cons, List.map_nil]); first | done | rfl | (simp only [List.length_drop, List.length_take]; rfl)) ?_; (with_reducible refine (sign_Refine.calls 4 7 2 t113 t114 t115 _ A17.out).mono ?_); rintro e w59 ⟨rfl, hb⟩; refine ⟨_, rfl, ?_⟩; have n0_ := Aside0.mk (below_step (by repeat (first | (with_reducible first | exact HB.out | apply below_alloc | apply pw_below_drewN | apply below_drew1) | exact HB.out)) hb); clear HB; have HB := n0_; clear n0_; (try clear hb); (try clear hb2); (try clear hk); (try clear hi)) | ((with_reducible refine gate_callee (f := 62) rfl ?_); refine goesL_ (some 71) rfl rfl Tryz.func62 (by kernel_rfl) rfl #[.int .i64 5, .int .i64 6, .int .i64 3] rfl (by (try simp only [List.map_toArray, List.map_cons, List.map_nil]); first | done | rfl | (simp only [List.length_drop, List.length_take]; rfl)) ?_; (with_reducible refine (sign_Refine.calls 5 6 3 t116 t117 t118 _ A18.out).mono ?_); rintro e w60 ⟨rfl, hb⟩; refine ⟨_, rfl, ?_⟩; have n0_ := Aside0.mk (below_step (by repeat (first | (with_reducible first | exact HB.out | apply below_alloc | apply pw_below_drewN | apply below_drew1) | exact HB.out)) hb); clear HB; have HB := n0_; clear n0_; (try clear hb); (try clear hb2); (try clear hk); (try clear hi)) | ((with_reducible refine gate_callee (f := 63) rfl ?_); refine goesL_ (some 76) rfl rfl Tryz.func63 (by kernel_rfl) rfl #[.int .i64 6] rfl (by (try simp only [List.map_toArray, List.map_cons, List.map_nil]); first | done | rfl | (simp only [List.length_drop, List.length_take]; rfl)) ?_; (with_reducible refine (sign_Format.calls 6 t119 t120 _ A19.out).mono ?_); rintro e w61 ⟨rfl, hb⟩; refine ⟨_, rfl, ?_⟩; have n0_ := Aside0.mk (below_step (by repeat (first | (with_reducible first | exact HB.out | apply below_alloc | apply pw_below_drewN | apply below_drew1) | exact HB.out)) hb); clear HB; have HB := n0_; clear n0_; (try clear hb); (try clear hb2); (try clear hk); (try clear hi)))
            go_ret
            exact ⟨by first | rfl | (simp [errW_none, errW_some] <;> rfl) | (simp [*, errW_none, errW_some] <;> rfl), by repeat (first | (with_reducible first | exact HB.out | apply below_alloc | apply pw_below_drewN | apply below_drew1) | exact HB.out)⟩
        · rw [if_neg c20] at H
          have c20b0 : ((wrap64 ((wrap64 ((wrap64 ((wrap64 (t110 + t112)) + t115)) + t118)) + t120)) == 0) = false := beq_eq_false_iff_ne.mpr c20
          have c20b1 : ((wrap64 ((wrap64 ((wrap64 ((wrap64 (t110 + t112)) + t115)) + t118)) + t120)) != 0) = true := bne_iff_ne.mpr c20
          obtain rfl := Option.some.inj H
          go_wp2_with (first | ((with_reducible refine gate_callee (f := 61) rfl ?_); refine goesL_ (some 58) rfl rfl Tryz.func61 (by kernel_rfl) rfl #[.int .i64 7, .int .i64 4] rfl (by (try simp only [List.map_toArray, List.map_cons, List.map_nil]); first | done | rfl | (simp only [List.length_drop, List.length_take]; rfl)) ?_; (with_reducible refine (sign_Rem.calls 7 4 t109 t110 _ A15.out).mono ?_); rintro e w62 ⟨rfl, hb⟩; refine ⟨_, rfl, ?_⟩; have n0_ := Aside0.mk (below_step (by repeat (first | (with_reducible first | exact HB.out | apply below_alloc | apply pw_below_drewN | apply below_drew1) | exact HB.out)) hb); clear HB; have HB := n0_; clear n0_; (try clear hb); (try clear hb2); (try clear hk); (try clear hi)) | ((with_reducible refine gate_callee (f := 61) rfl ?_); refine goesL_ (some 62) rfl rfl Tryz.func61 (by kernel_rfl) rfl #[.int .i64 7, .int .i64 2] rfl (by (try simp only [List.map_toArray, List.map_cons, List.map_nil]); first | done | rfl | (simp only [List.length_drop, List.length_take]; rfl)) ?_; (with_reducible refine (sign_Rem.calls 7 2 t111 t112 _ A16.out).mono ?_); rintro e w63 ⟨rfl, hb⟩; refine ⟨_, rfl, ?_⟩; have n0_ := Aside0.mk (below_step (by repeat (first | (with_reducible first | exact HB.out | apply below_alloc | apply pw_below_drewN | apply below_drew1) | exact HB.out)) hb); clear HB; have HB := n0_; clear n0_; (try clear hb); (try clear hb2); (try clear hk); (try clear hi)) | ((with_reducible refine gate_callee (f := 62) rfl ?_); refine goesL_ (some 66) rfl rfl Tryz.func62 (by kernel_rfl) rfl #[.int .i64 4, .int .i64 7, .int .i64 2] rfl (by (try simp only [List.map_toArray, List.map_cons, List.map_nil]); first | done | rfl | (simp only [List.length_drop, List.length_take]; rfl)) ?_; (with_reducible refine (sign_Refine.calls 4 7 2 t113 t114 t115 _ A17.out).mono ?_); rintro e w64 ⟨rfl, hb⟩; refine ⟨_, rfl, ?_⟩; have n0_ := Aside0.mk (below_step (by repeat (first | (with_reducible first | exact HB.out | apply below_alloc | apply pw_below_drewN | apply below_drew1) | exact HB.out)) hb); clear HB; have HB := n0_; clear n0_; (try clear hb); (try clear hb2); (try clear hk); (try clear hi)) | ((with_reducible refine gate_callee (f := 62) rfl ?_); refine goesL_ (some 71) rfl rfl Tryz.func62 (by kernel_rfl) rfl #[.int .i64 5, .int .i64 6, .int .i64 3] rfl (by (try simp only [List.map_toArray, List.map_cons, List.map_nil]); first | done | rfl | (simp only [List.length_drop, List.length_take]; rfl)) ?_; (with_reducible refine (sign_Refine.calls 5 6 3 t116 t117 t118 _ A18.out).mono ?_); rintro e w65 ⟨rfl, hb⟩; refine ⟨_, rfl, ?_⟩; have n0_ := Aside0.mk (below_step (by repeat (first | (with_reducible first | exact HB.out | apply below_alloc | apply pw_below_drewN | apply below_drew1) | exact HB.out)) hb); clear HB; have HB := n0_; clear n0_; (try clear hb); (try clear hb2); (try clear hk); (try clear hi)) | ((with_reducible refine gate_callee (f := 63) rfl ?_); refine goesL_ (some 76) rfl rfl Tryz.func63 (by kernel_rfl) rfl #[.int .i64 6] rfl (by (try simp only [List.map_toArray, List.map_cons, List.map_nil]); first | done | rfl | (simp only [List.length_drop, List.length_take]; rfl)) ?_; (with_reducible refine (sign_Format.calls 6 t119 t120 _ A19.out).mono ?_); rintro e w66 ⟨rfl, hb⟩; refine ⟨_, rfl, ?_⟩; have n0_ := Aside0.mk (below_step (by repeat (first | (with_reducible first | exact HB.out | apply below_alloc | apply pw_below_drewN | apply below_drew1) | exact HB.out)) hb); clear HB; have HB := n0_; clear n0_; (try clear hb); (try clear hb2); (try clear hk); (try clear hi)))
          go_ret
          exact ⟨by first | rfl | (simp [errW_none, errW_some] <;> rfl) | (simp [*, errW_none, errW_some] <;> rfl), by repeat (first | (with_reducible first | exact HB.out | apply below_alloc | apply pw_below_drewN | apply below_drew1) | exact HB.out)⟩

/-- THE ONE PURE STATEMENT of surveyorlaw19_awake: yours. -/
def surveyorlaw19_awake.Pure : Prop := ∃ k, surveyorlaw19_awake.f k  = some true
theorem surveyorlaw19_awake.walk (P : surveyorlaw19_awake.Pure)  (w : World)  :
    Calls Tryz.prog 15 #[] w fun e w' => e = .returned (.bool true) ∧ Below w.heap.size w w' := by
  obtain ⟨k, h⟩ := P  
  refine (surveyorlaw19_awake.calls k  true w h).mono ?_
  rintro e w' ⟨rfl, hd⟩
  exact ⟨rfl, hd⟩

end Go.Proofs.YtdldoghcbnkkjaaGreatDoor.Pawake
