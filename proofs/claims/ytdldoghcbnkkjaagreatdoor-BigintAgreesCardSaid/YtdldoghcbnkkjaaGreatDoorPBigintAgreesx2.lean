-- printed by a program of this session (wip/gprint.py, a patched run of the print) out of the translation. Lean checks it.
import Derived.Test.YtdldoghcbnkkjaaGreatDoorPBigintAgreesx0
import Derived.Test.YtdldoghcbnkkjaaGreatDoorPBigintAgreesx1
namespace Go.Proofs.YtdldoghcbnkkjaaGreatDoor.PBigintAgrees
open Go.RowKit Go.Proofs.YtdldoghcbnkkjaaGreatDoorW.PrintWords Go.Proofs.YtdldoghcbnkkjaaGreatDoorW.PrintLast Go.Proofs.YtdldoghcbnkkjaaGreatDoorW.PrintMore
attribute [local go_sem] max2_int min2_int max_two min_two max_three min_three max_four min_four   -- for this text's walks alone
set_option linter.unusedVariables false
set_option linter.unusedSimpArgs false

/-! ### surveyorlaw01_BigintAgrees: function 11 -/
mutual
def surveyorlaw01_BigintAgrees.j0 : Nat → Int → Int → ByteArray → Bool → Option (Bool)
  | 0, _, _, _, _ => none
  | k + 1, x0, x2, x7, x88 => if x88 = true then (some false) else ((bigint_Pow.f x7 (wrap64 (Int.tmod x2 8))).bind fun bt134 => ((bigint_Pow.f x7 3).bind fun bt136 => ((bigint_Pow.f x7 (wrap64 ((wrap64 (Int.tmod x2 8)) + 3))).bind fun bt138 => ((bigint_Mul.f bt134.1 bt136.1).bind fun bt140 => (if (wrap64 ((wrap64 ((wrap64 (bt134.2 + bt136.2)) + bt138.2)) + bt140.2)) = 0 then (surveyorlaw01_BigintAgrees.j1 k x0 x7 (bt138.1.toList != bt140.1.toList)) else (surveyorlaw01_BigintAgrees.j1 k x0 x7 true))))))
def surveyorlaw01_BigintAgrees.j1 : Nat → Int → ByteArray → Bool → Option (Bool)
  | 0, _, _, _ => none
  | k + 1, x0, x7, x128 => if x128 = true then (some false) else ((bigint_Small.f x7).bind fun bt142 => (if x0 > 1048576 then (surveyorlaw01_BigintAgrees.j2 k x0 bt142.1 bt142.2 true) else (surveyorlaw01_BigintAgrees.j2 k x0 bt142.1 bt142.2 (decide (x0 < (-1048576))))))
def surveyorlaw01_BigintAgrees.j2 : Nat → Int → Int → Int → Bool → Option (Bool)
  | 0, _, _, _, _ => none
  | k + 1, x0, x21, x22, x139 => if x139 = true then (if x21 = 0 then (if x22 = 2 then ((surveyorlaw01_awake.f k).bind fun t144 => (some t144)) else (some false)) else (some false)) else (if x21 = (wrap64 (x0)) then (if x22 = 0 then ((surveyorlaw01_awake.f k).bind fun t145 => (some t145)) else (some false)) else (some false))
end
def surveyorlaw01_BigintAgrees.f (k : Nat) (a0 : Int) (a1 : Int) (a2 : Int) : Option (Bool) := (bigint_Of.f (wrap64 (a0))).bind fun t124 => ((bigint_Of.f (wrap64 (a1))).bind fun t125 => ((bigint_Add.f t124 t125).bind fun bt126 => ((bigint_Mul.f t124 t125).bind fun bt128 => ((bigint_Compare.f t124 t125).bind fun bt130 => (if (wrap64 ((wrap64 (bt126.2 + bt128.2)) + bt130.2)) = 0 then ((bigint_Of.f (wrap64 ((wrap64 (a0)) + (wrap64 (a1))))).bind fun t132 => (if bt126.1.toList = t132.toList then ((bigint_Of.f (wrap64 ((wrap64 (a0)) * (wrap64 (a1))))).bind fun t133 => (if bt128.1.toList = t133.toList then (if ((decide (bt130.1 < 0)) != (decide (a0 < a1))) = true then (surveyorlaw01_BigintAgrees.j0 k a0 a2 t124 true) else (surveyorlaw01_BigintAgrees.j0 k a0 a2 t124 ((decide (bt130.1 > 0)) != (decide (a0 > a1))))) else (surveyorlaw01_BigintAgrees.j0 k a0 a2 t124 true))) else (surveyorlaw01_BigintAgrees.j0 k a0 a2 t124 true))) else (surveyorlaw01_BigintAgrees.j0 k a0 a2 t124 true))))))
theorem surveyorlaw01_BigintAgrees.mono_l : ∀ k, (∀ y0 y1 y2 y3, LeO (surveyorlaw01_BigintAgrees.j0 k y0 y1 y2 y3) (surveyorlaw01_BigintAgrees.j0 (k + 1) y0 y1 y2 y3)) ∧ (∀ y0 y1 y2, LeO (surveyorlaw01_BigintAgrees.j1 k y0 y1 y2) (surveyorlaw01_BigintAgrees.j1 (k + 1) y0 y1 y2)) ∧ (∀ y0 y1 y2 y3, LeO (surveyorlaw01_BigintAgrees.j2 k y0 y1 y2 y3) (surveyorlaw01_BigintAgrees.j2 (k + 1) y0 y1 y2 y3))
  | 0 => ⟨fun _ _ _ _ r h => by simp [surveyorlaw01_BigintAgrees.j0] at h, fun _ _ _ r h => by simp [surveyorlaw01_BigintAgrees.j1] at h, fun _ _ _ _ r h => by simp [surveyorlaw01_BigintAgrees.j2] at h⟩
  | k + 1 => by
    obtain ⟨ih0, ih1, ih2⟩ := surveyorlaw01_BigintAgrees.mono_l k
    refine ⟨?_, ?_, ?_⟩
    · intro y0 y1 y2 y3
      unfold surveyorlaw01_BigintAgrees.j0
      repeat' first
      | (with_reducible exact ih0 _ _ _ _)
      | (with_reducible exact ih1 _ _ _)
      | (with_reducible exact ih2 _ _ _ _)
      | (with_reducible exact surveyorlaw01_awake.mono _)
      | (with_reducible exact LeO.refl _)
      | (with_reducible exact LeO.none _)
      | (with_reducible refine LeO.ite ?_ ?_)
      | (with_reducible refine LeO.bind ?_ (fun _ => ?_))
      | exact ih0 _ _ _ _
      | exact ih1 _ _ _
      | exact ih2 _ _ _ _
      | exact surveyorlaw01_awake.mono _
      | exact LeO.none _
      | refine LeO.ite ?_ ?_
      | refine LeO.bind ?_ (fun _ => ?_)
    · intro y0 y1 y2
      unfold surveyorlaw01_BigintAgrees.j1
      repeat' first
      | (with_reducible exact ih0 _ _ _ _)
      | (with_reducible exact ih1 _ _ _)
      | (with_reducible exact ih2 _ _ _ _)
      | (with_reducible exact surveyorlaw01_awake.mono _)
      | (with_reducible exact LeO.refl _)
      | (with_reducible exact LeO.none _)
      | (with_reducible refine LeO.ite ?_ ?_)
      | (with_reducible refine LeO.bind ?_ (fun _ => ?_))
      | exact ih0 _ _ _ _
      | exact ih1 _ _ _
      | exact ih2 _ _ _ _
      | exact surveyorlaw01_awake.mono _
      | exact LeO.none _
      | refine LeO.ite ?_ ?_
      | refine LeO.bind ?_ (fun _ => ?_)
    · intro y0 y1 y2 y3
      unfold surveyorlaw01_BigintAgrees.j2
      repeat' first
      | (with_reducible exact ih0 _ _ _ _)
      | (with_reducible exact ih1 _ _ _)
      | (with_reducible exact ih2 _ _ _ _)
      | (with_reducible exact surveyorlaw01_awake.mono _)
      | (with_reducible exact LeO.refl _)
      | (with_reducible exact LeO.none _)
      | (with_reducible refine LeO.ite ?_ ?_)
      | (with_reducible refine LeO.bind ?_ (fun _ => ?_))
      | exact ih0 _ _ _ _
      | exact ih1 _ _ _
      | exact ih2 _ _ _ _
      | exact surveyorlaw01_awake.mono _
      | exact LeO.none _
      | refine LeO.ite ?_ ?_
      | refine LeO.bind ?_ (fun _ => ?_)
theorem surveyorlaw01_BigintAgrees.mono : ∀ a0 a1 a2 k, LeO (surveyorlaw01_BigintAgrees.f k a0 a1 a2) (surveyorlaw01_BigintAgrees.f (k + 1) a0 a1 a2) := by
  intro a0 a1 a2 k
  obtain ⟨ih0, ih1, ih2⟩ := surveyorlaw01_BigintAgrees.mono_l k
  unfold surveyorlaw01_BigintAgrees.f
  repeat' first
      | (with_reducible exact ih0 _ _ _ _)
      | (with_reducible exact ih1 _ _ _)
      | (with_reducible exact ih2 _ _ _ _)
      | (with_reducible exact surveyorlaw01_awake.mono _)
      | (with_reducible exact LeO.refl _)
      | (with_reducible exact LeO.none _)
      | (with_reducible refine LeO.ite ?_ ?_)
      | (with_reducible refine LeO.bind ?_ (fun _ => ?_))
      | exact ih0 _ _ _ _
      | exact ih1 _ _ _
      | exact ih2 _ _ _ _
      | exact surveyorlaw01_awake.mono _
      | exact LeO.none _
      | refine LeO.ite ?_ ?_
      | refine LeO.bind ?_ (fun _ => ?_)
set_option maxHeartbeats 8000000 in
set_option maxRecDepth 100000 in
theorem surveyorlaw01_BigintAgrees.calls (k : Nat) (a0 : Int) (a1 : Int) (a2 : Int) (r : Bool) (w : World) (hG : GW w) (h : surveyorlaw01_BigintAgrees.f k a0 a1 a2 = some r) :
    Calls Tryz.prog 11 #[.int .i32 a0, .int .i32 a1, .int .u8 a2] w fun e w' => e = .returned (.bool r) ∧ Below w.heap.size w w' := by
  have HG := Aside0.mk hG
  clear hG
  have HB := Aside0.mk (Below.refl w.heap.size w)
  have H : ((bigint_Of.f (wrap64 (a0))).bind fun t124 => ((bigint_Of.f (wrap64 (a1))).bind fun t125 => ((bigint_Add.f t124 t125).bind fun bt126 => ((bigint_Mul.f t124 t125).bind fun bt128 => ((bigint_Compare.f t124 t125).bind fun bt130 => (if (wrap64 ((wrap64 (bt126.2 + bt128.2)) + bt130.2)) = 0 then ((bigint_Of.f (wrap64 ((wrap64 (a0)) + (wrap64 (a1))))).bind fun t132 => (if bt126.1.toList = t132.toList then ((bigint_Of.f (wrap64 ((wrap64 (a0)) * (wrap64 (a1))))).bind fun t133 => (if bt128.1.toList = t133.toList then (if ((decide (bt130.1 < 0)) != (decide (a0 < a1))) = true then (surveyorlaw01_BigintAgrees.j0 k a0 a2 t124 true) else (surveyorlaw01_BigintAgrees.j0 k a0 a2 t124 ((decide (bt130.1 > 0)) != (decide (a0 > a1))))) else (surveyorlaw01_BigintAgrees.j0 k a0 a2 t124 true))) else (surveyorlaw01_BigintAgrees.j0 k a0 a2 t124 true))) else (surveyorlaw01_BigintAgrees.j0 k a0 a2 t124 true))))))) = some r := h
  clear h
  replace H := Option.bind_eq_some_iff.mp H
  obtain ⟨t124, A40, H⟩ := H
  replace H : ((bigint_Of.f (wrap64 (a1))).bind fun t125 => ((bigint_Add.f t124 t125).bind fun bt126 => ((bigint_Mul.f t124 t125).bind fun bt128 => ((bigint_Compare.f t124 t125).bind fun bt130 => (if (wrap64 ((wrap64 (bt126.2 + bt128.2)) + bt130.2)) = 0 then ((bigint_Of.f (wrap64 ((wrap64 (a0)) + (wrap64 (a1))))).bind fun t132 => (if bt126.1.toList = t132.toList then ((bigint_Of.f (wrap64 ((wrap64 (a0)) * (wrap64 (a1))))).bind fun t133 => (if bt128.1.toList = t133.toList then (if ((decide (bt130.1 < 0)) != (decide (a0 < a1))) = true then (surveyorlaw01_BigintAgrees.j0 k a0 a2 t124 true) else (surveyorlaw01_BigintAgrees.j0 k a0 a2 t124 ((decide (bt130.1 > 0)) != (decide (a0 > a1))))) else (surveyorlaw01_BigintAgrees.j0 k a0 a2 t124 true))) else (surveyorlaw01_BigintAgrees.j0 k a0 a2 t124 true))) else (surveyorlaw01_BigintAgrees.j0 k a0 a2 t124 true)))))) = some r := H
  have A4 := Aside0.mk A40
  clear A40
  replace H := Option.bind_eq_some_iff.mp H
  obtain ⟨t125, A50, H⟩ := H
  replace H : ((bigint_Add.f t124 t125).bind fun bt126 => ((bigint_Mul.f t124 t125).bind fun bt128 => ((bigint_Compare.f t124 t125).bind fun bt130 => (if (wrap64 ((wrap64 (bt126.2 + bt128.2)) + bt130.2)) = 0 then ((bigint_Of.f (wrap64 ((wrap64 (a0)) + (wrap64 (a1))))).bind fun t132 => (if bt126.1.toList = t132.toList then ((bigint_Of.f (wrap64 ((wrap64 (a0)) * (wrap64 (a1))))).bind fun t133 => (if bt128.1.toList = t133.toList then (if ((decide (bt130.1 < 0)) != (decide (a0 < a1))) = true then (surveyorlaw01_BigintAgrees.j0 k a0 a2 t124 true) else (surveyorlaw01_BigintAgrees.j0 k a0 a2 t124 ((decide (bt130.1 > 0)) != (decide (a0 > a1))))) else (surveyorlaw01_BigintAgrees.j0 k a0 a2 t124 true))) else (surveyorlaw01_BigintAgrees.j0 k a0 a2 t124 true))) else (surveyorlaw01_BigintAgrees.j0 k a0 a2 t124 true))))) = some r := H
  have A5 := Aside0.mk A50
  clear A50
  replace H := Option.bind_eq_some_iff.mp H
  obtain ⟨⟨t126, t127⟩, A60, H⟩ := H
  replace H : ((bigint_Mul.f t124 t125).bind fun bt128 => ((bigint_Compare.f t124 t125).bind fun bt130 => (if (wrap64 ((wrap64 (t127 + bt128.2)) + bt130.2)) = 0 then ((bigint_Of.f (wrap64 ((wrap64 (a0)) + (wrap64 (a1))))).bind fun t132 => (if t126.toList = t132.toList then ((bigint_Of.f (wrap64 ((wrap64 (a0)) * (wrap64 (a1))))).bind fun t133 => (if bt128.1.toList = t133.toList then (if ((decide (bt130.1 < 0)) != (decide (a0 < a1))) = true then (surveyorlaw01_BigintAgrees.j0 k a0 a2 t124 true) else (surveyorlaw01_BigintAgrees.j0 k a0 a2 t124 ((decide (bt130.1 > 0)) != (decide (a0 > a1))))) else (surveyorlaw01_BigintAgrees.j0 k a0 a2 t124 true))) else (surveyorlaw01_BigintAgrees.j0 k a0 a2 t124 true))) else (surveyorlaw01_BigintAgrees.j0 k a0 a2 t124 true)))) = some r := H
  have A6 := Aside0.mk A60
  clear A60
  replace H := Option.bind_eq_some_iff.mp H
  obtain ⟨⟨t128, t129⟩, A70, H⟩ := H
  replace H : ((bigint_Compare.f t124 t125).bind fun bt130 => (if (wrap64 ((wrap64 (t127 + t129)) + bt130.2)) = 0 then ((bigint_Of.f (wrap64 ((wrap64 (a0)) + (wrap64 (a1))))).bind fun t132 => (if t126.toList = t132.toList then ((bigint_Of.f (wrap64 ((wrap64 (a0)) * (wrap64 (a1))))).bind fun t133 => (if t128.toList = t133.toList then (if ((decide (bt130.1 < 0)) != (decide (a0 < a1))) = true then (surveyorlaw01_BigintAgrees.j0 k a0 a2 t124 true) else (surveyorlaw01_BigintAgrees.j0 k a0 a2 t124 ((decide (bt130.1 > 0)) != (decide (a0 > a1))))) else (surveyorlaw01_BigintAgrees.j0 k a0 a2 t124 true))) else (surveyorlaw01_BigintAgrees.j0 k a0 a2 t124 true))) else (surveyorlaw01_BigintAgrees.j0 k a0 a2 t124 true))) = some r := H
  have A7 := Aside0.mk A70
  clear A70
  replace H := Option.bind_eq_some_iff.mp H
  obtain ⟨⟨t130, t131⟩, A80, H⟩ := H
  replace H : (if (wrap64 ((wrap64 (t127 + t129)) + t131)) = 0 then ((bigint_Of.f (wrap64 ((wrap64 (a0)) + (wrap64 (a1))))).bind fun t132 => (if t126.toList = t132.toList then ((bigint_Of.f (wrap64 ((wrap64 (a0)) * (wrap64 (a1))))).bind fun t133 => (if t128.toList = t133.toList then (if ((decide (t130 < 0)) != (decide (a0 < a1))) = true then (surveyorlaw01_BigintAgrees.j0 k a0 a2 t124 true) else (surveyorlaw01_BigintAgrees.j0 k a0 a2 t124 ((decide (t130 > 0)) != (decide (a0 > a1))))) else (surveyorlaw01_BigintAgrees.j0 k a0 a2 t124 true))) else (surveyorlaw01_BigintAgrees.j0 k a0 a2 t124 true))) else (surveyorlaw01_BigintAgrees.j0 k a0 a2 t124 true)) = some r := H
  have A8 := Aside0.mk A80
  clear A80
  have HC9 := Aside0.mk H
  clear H
  go_enter Tryz.func11, Tryz.ntmps11
  go_upto_region 5 with (first | ((with_reducible refine gate_callee (f := 47) rfl ?_); refine goesL_ (some 25) rfl rfl Tryz.func47 (by kernel_rfl) rfl #[.int .i64 (wrap64 (a0))] rfl (by (try simp only [List.map_toArray, List.map_cons, List.map_nil]); first | done | rfl | (simp only [List.length_drop, List.length_take]; rfl)) ?_; (with_reducible refine (bigint_Of.calls (hG := HG.out.below (by repeat (first | (with_reducible first | exact HB.out | apply below_alloc | apply pw_below_drewN | apply below_drew1) | exact HB.out))) (wrap64 (a0)) t124 _ A4.out).mono ?_); rintro e w10 ⟨rfl, hb⟩; refine ⟨_, rfl, ?_⟩; have n0_ := Aside0.mk (below_step (by repeat (first | (with_reducible first | exact HB.out | apply below_alloc | apply pw_below_drewN | apply below_drew1) | exact HB.out)) hb); clear HB; have HB := n0_; clear n0_; (try clear hb); (try clear hb2); (try clear hk); (try clear hi)) | ((with_reducible refine gate_callee (f := 47) rfl ?_); refine goesL_ (some 28) rfl rfl Tryz.func47 (by kernel_rfl) rfl #[.int .i64 (wrap64 (a1))] rfl (by (try simp only [List.map_toArray, List.map_cons, List.map_nil]); first | done | rfl | (simp only [List.length_drop, List.length_take]; rfl)) ?_; (with_reducible refine (bigint_Of.calls (hG := HG.out.below (by repeat (first | (with_reducible first | exact HB.out | apply below_alloc | apply pw_below_drewN | apply below_drew1) | exact HB.out))) (wrap64 (a1)) t125 _ A5.out).mono ?_); rintro e w11 ⟨rfl, hb⟩; refine ⟨_, rfl, ?_⟩; have n0_ := Aside0.mk (below_step (by repeat (first | (with_reducible first | exact HB.out | apply below_alloc | apply pw_below_drewN | apply below_drew1) | exact HB.out)) hb); clear HB; have HB := n0_; clear n0_; (try clear hb); (try clear hb2); (try clear hk); (try clear hi)) | ((with_reducible refine gate_callee (f := 29) rfl ?_); refine goesL_ (some 32) rfl rfl Tryz.func29 (by kernel_rfl) rfl #[.string t124, .string t125] rfl (by (try simp only [List.map_toArray, List.map_cons, List.map_nil]); first | done | rfl | (simp only [List.length_drop, List.length_take]; rfl)) ?_; (with_reducible refine (bigint_Add.calls (hG := HG.out.below (by repeat (first | (with_reducible first | exact HB.out | apply below_alloc | apply pw_below_drewN | apply below_drew1) | exact HB.out))) t124 t125 t126 t127 _ A6.out).mono ?_); rintro e w12 ⟨rfl, hb⟩; refine ⟨_, rfl, ?_⟩; have n0_ := Aside0.mk (below_step (by repeat (first | (with_reducible first | exact HB.out | apply below_alloc | apply pw_below_drewN | apply below_drew1) | exact HB.out)) hb); clear HB; have HB := n0_; clear n0_; (try clear hb); (try clear hb2); (try clear hk); (try clear hi)) | ((with_reducible refine gate_callee (f := 33) rfl ?_); refine goesL_ (some 38) rfl rfl Tryz.func33 (by kernel_rfl) rfl #[.string t124, .string t125] rfl (by (try simp only [List.map_toArray, List.map_cons, List.map_nil]); first | done | rfl | (simp only [List.length_drop, List.length_take]; rfl)) ?_; (with_reducible refine (bigint_Mul.calls (hG := HG.out.below (by repeat (first | (with_reducible first | exact HB.out | apply below_alloc | apply pw_below_drewN | apply below_drew1) | exact HB.out))) t124 t125 t128 t129 _ A7.out).mono ?_); rintro e w13 ⟨rfl, hb⟩; refine ⟨_, rfl, ?_⟩; have n0_ := Aside0.mk (below_step (by repeat (first | (with_reducible first | exact HB.out | apply below_alloc | apply pw_below_drewN | apply below_drew1) | exact HB.out)) hb); clear HB; have HB := n0_; clear n0_; (try clear hb); (try clear hb2); (try clear hk); (try clear hi)) | ((with_reducible refine gate_callee (f := 45) rfl ?_); refine goesL_ (some 44) rfl rfl Tryz.func45 (by kernel_rfl) rfl #[.string t124, .string t125] rfl (by (try simp only [List.map_toArray, List.map_cons, List.map_nil]); first | done | rfl | (simp only [List.length_drop, List.length_take]; rfl)) ?_; (with_reducible refine (bigint_Compare.calls t124 t125 t130 t131 _ A8.out).mono ?_); rintro e w14 ⟨rfl, hb⟩; refine ⟨_, rfl, ?_⟩; have n0_ := Aside0.mk (below_step (by repeat (first | (with_reducible first | exact HB.out | apply below_alloc | apply pw_below_drewN | apply below_drew1) | exact HB.out)) hb); clear HB; have HB := n0_; clear n0_; (try clear hb); (try clear hb2); (try clear hk); (try clear hi)))
  (try simp only [Act.put, List.setIfInBounds_toArray, List.set_cons_zero, List.set_cons_succ])
  go_cut [88] (fun v88 wc => ∃ (kq : Nat) (x88_8 : Bool), v88 = .bool x88_8 ∧ Aside0 (surveyorlaw01_BigintAgrees.j0 kq a0 a2 t124 x88_8 = some r) ∧ Aside0 (kq ≤ k) ∧ Aside0 (Below w.heap.size w wc))
  case first =>
    have H := HC9.out
    clear HC9
    by_cases c15 : (wrap64 ((wrap64 (t127 + t129)) + t131)) = 0
    · rw [if_pos c15] at H
      have c15b0 : ((wrap64 ((wrap64 (t127 + t129)) + t131)) == 0) = true := beq_iff_eq.mpr c15
      have c15b1 : ((wrap64 ((wrap64 (t127 + t129)) + t131)) != 0) = false := bne_eq_false_iff_eq.mpr c15
      clear c15
      (first | rw [c15b0] | (simp only [i64_w, i32_w]; rw [c15b0]) | skip)
      replace H := Option.bind_eq_some_iff.mp H
      obtain ⟨t132, A160, H⟩ := H
      replace H : (if t126.toList = t132.toList then ((bigint_Of.f (wrap64 ((wrap64 (a0)) * (wrap64 (a1))))).bind fun t133 => (if t128.toList = t133.toList then (if ((decide (t130 < 0)) != (decide (a0 < a1))) = true then (surveyorlaw01_BigintAgrees.j0 k a0 a2 t124 true) else (surveyorlaw01_BigintAgrees.j0 k a0 a2 t124 ((decide (t130 > 0)) != (decide (a0 > a1))))) else (surveyorlaw01_BigintAgrees.j0 k a0 a2 t124 true))) else (surveyorlaw01_BigintAgrees.j0 k a0 a2 t124 true)) = some r := H
      have A16 := Aside0.mk A160
      clear A160
      by_cases c17 : t126.toList = t132.toList
      · rw [if_pos c17] at H
        have c17b0 : (t126.toList == t132.toList) = true := beq_iff_eq.mpr c17
        have c17b1 : (t126.toList != t132.toList) = false := bne_eq_false_iff_eq.mpr c17
        clear c17
        replace H := Option.bind_eq_some_iff.mp H
        obtain ⟨t133, A180, H⟩ := H
        replace H : (if t128.toList = t133.toList then (if ((decide (t130 < 0)) != (decide (a0 < a1))) = true then (surveyorlaw01_BigintAgrees.j0 k a0 a2 t124 true) else (surveyorlaw01_BigintAgrees.j0 k a0 a2 t124 ((decide (t130 > 0)) != (decide (a0 > a1))))) else (surveyorlaw01_BigintAgrees.j0 k a0 a2 t124 true)) = some r := H
        have A18 := Aside0.mk A180
        clear A180
        by_cases c19 : t128.toList = t133.toList
        · rw [if_pos c19] at H
          have c19b0 : (t128.toList == t133.toList) = true := beq_iff_eq.mpr c19
          have c19b1 : (t128.toList != t133.toList) = false := bne_eq_false_iff_eq.mpr c19
          clear c19
          by_cases c20 : ((decide (t130 < 0)) != (decide (a0 < a1))) = true
          · rw [if_pos c20] at H
            have c20b0 : ((decide (t130 < 0)) != (decide (a0 < a1))) = true := c20
            (try (have c20b1 : decide ((decide (t130 < 0)) = (decide (a0 < a1))) = false := by simpa using c20))
            (try (have c20b2 : ((decide (t130 < 0)) == (decide (a0 < a1))) = false := by simpa using c20))
            (try (have c20b3 : ¬ ((decide (t130 < 0)) = (decide (a0 < a1))) := by simpa using c20))
            clear c20
            have H' := Aside0.mk H
            clear H
            go_wp2_with (first | (go_at_call 47; (with_reducible refine (bigint_Of.calls (hG := HG.out.below (by repeat (first | (with_reducible first | exact HB.out | apply below_alloc | apply pw_below_drewN | apply below_drew1) | exact HB.out))) (wrap64 ((wrap64 (a0)) + (wrap64 (a1)))) t132 _ A16.out).mono ?_); rintro e w21 ⟨rfl, hb⟩; have n0_ := Aside0.mk (below_step (by repeat (first | (with_reducible first | exact HB.out | apply below_alloc | apply pw_below_drewN | apply below_drew1) | exact HB.out)) hb); clear HB; have HB := n0_; clear n0_; (try clear hb); (try clear hb2); (try clear hk); (try clear hi)) | (go_at_call 47; (with_reducible refine (bigint_Of.calls (hG := HG.out.below (by repeat (first | (with_reducible first | exact HB.out | apply below_alloc | apply pw_below_drewN | apply below_drew1) | exact HB.out))) (wrap64 ((wrap64 (a0)) * (wrap64 (a1)))) t133 _ A18.out).mono ?_); rintro e w22 ⟨rfl, hb⟩; have n0_ := Aside0.mk (below_step (by repeat (first | (with_reducible first | exact HB.out | apply below_alloc | apply pw_below_drewN | apply below_drew1) | exact HB.out)) hb); clear HB; have HB := n0_; clear n0_; (try clear hb); (try clear hb2); (try clear hk); (try clear hi)))
            go_meet
            case rel => exact ⟨_, (true), (by first | rfl | (simp; done) | (simp [*]; done)), H', ⟨by first | omega | exact Nat.le_refl _⟩, ⟨by repeat (first | (with_reducible first | exact HB.out | apply below_alloc | apply pw_below_drewN | apply below_drew1) | exact HB.out)⟩⟩
          · rw [if_neg c20] at H
            have c20b0 : ((decide (t130 < 0)) != (decide (a0 < a1))) = false := by simpa using c20
            (try (have c20b1 : decide ((decide (t130 < 0)) = (decide (a0 < a1))) = true := by simpa using c20))
            (try (have c20b2 : ((decide (t130 < 0)) == (decide (a0 < a1))) = true := by simpa using c20))
            clear c20
            have H' := Aside0.mk H
            clear H
            go_wp2_with (first | (go_at_call 47; (with_reducible refine (bigint_Of.calls (hG := HG.out.below (by repeat (first | (with_reducible first | exact HB.out | apply below_alloc | apply pw_below_drewN | apply below_drew1) | exact HB.out))) (wrap64 ((wrap64 (a0)) + (wrap64 (a1)))) t132 _ A16.out).mono ?_); rintro e w23 ⟨rfl, hb⟩; have n0_ := Aside0.mk (below_step (by repeat (first | (with_reducible first | exact HB.out | apply below_alloc | apply pw_below_drewN | apply below_drew1) | exact HB.out)) hb); clear HB; have HB := n0_; clear n0_; (try clear hb); (try clear hb2); (try clear hk); (try clear hi)) | (go_at_call 47; (with_reducible refine (bigint_Of.calls (hG := HG.out.below (by repeat (first | (with_reducible first | exact HB.out | apply below_alloc | apply pw_below_drewN | apply below_drew1) | exact HB.out))) (wrap64 ((wrap64 (a0)) * (wrap64 (a1)))) t133 _ A18.out).mono ?_); rintro e w24 ⟨rfl, hb⟩; have n0_ := Aside0.mk (below_step (by repeat (first | (with_reducible first | exact HB.out | apply below_alloc | apply pw_below_drewN | apply below_drew1) | exact HB.out)) hb); clear HB; have HB := n0_; clear n0_; (try clear hb); (try clear hb2); (try clear hk); (try clear hi)))
            go_meet
            case rel => exact ⟨_, (((decide (t130 > 0)) != (decide (a0 > a1)))), (by first | rfl | (simp; done) | (simp [*]; done)), H', ⟨by first | omega | exact Nat.le_refl _⟩, ⟨by repeat (first | (with_reducible first | exact HB.out | apply below_alloc | apply pw_below_drewN | apply below_drew1) | exact HB.out)⟩⟩
        · rw [if_neg c19] at H
          have c19b0 : (t128.toList == t133.toList) = false := beq_eq_false_iff_ne.mpr c19
          have c19b1 : (t128.toList != t133.toList) = true := bne_iff_ne.mpr c19
          have H' := Aside0.mk H
          clear H
          go_wp2_with (first | (go_at_call 47; (with_reducible refine (bigint_Of.calls (hG := HG.out.below (by repeat (first | (with_reducible first | exact HB.out | apply below_alloc | apply pw_below_drewN | apply below_drew1) | exact HB.out))) (wrap64 ((wrap64 (a0)) + (wrap64 (a1)))) t132 _ A16.out).mono ?_); rintro e w25 ⟨rfl, hb⟩; have n0_ := Aside0.mk (below_step (by repeat (first | (with_reducible first | exact HB.out | apply below_alloc | apply pw_below_drewN | apply below_drew1) | exact HB.out)) hb); clear HB; have HB := n0_; clear n0_; (try clear hb); (try clear hb2); (try clear hk); (try clear hi)) | (go_at_call 47; (with_reducible refine (bigint_Of.calls (hG := HG.out.below (by repeat (first | (with_reducible first | exact HB.out | apply below_alloc | apply pw_below_drewN | apply below_drew1) | exact HB.out))) (wrap64 ((wrap64 (a0)) * (wrap64 (a1)))) t133 _ A18.out).mono ?_); rintro e w26 ⟨rfl, hb⟩; have n0_ := Aside0.mk (below_step (by repeat (first | (with_reducible first | exact HB.out | apply below_alloc | apply pw_below_drewN | apply below_drew1) | exact HB.out)) hb); clear HB; have HB := n0_; clear n0_; (try clear hb); (try clear hb2); (try clear hk); (try clear hi)))
          go_meet
          case rel => exact ⟨_, (true), (by first | rfl | (simp; done) | (simp [*]; done)), H', ⟨by first | omega | exact Nat.le_refl _⟩, ⟨by repeat (first | (with_reducible first | exact HB.out | apply below_alloc | apply pw_below_drewN | apply below_drew1) | exact HB.out)⟩⟩
      · rw [if_neg c17] at H
        have c17b0 : (t126.toList == t132.toList) = false := beq_eq_false_iff_ne.mpr c17
        have c17b1 : (t126.toList != t132.toList) = true := bne_iff_ne.mpr c17
        have H' := Aside0.mk H
        clear H
        go_wp2_with (first | (go_at_call 47; (with_reducible refine (bigint_Of.calls (hG := HG.out.below (by repeat (first | (with_reducible first | exact HB.out | apply below_alloc | apply pw_below_drewN | apply below_drew1) | exact HB.out))) (wrap64 ((wrap64 (a0)) + (wrap64 (a1)))) t132 _ A16.out).mono ?_); rintro e w27 ⟨rfl, hb⟩; have n0_ := Aside0.mk (below_step (by repeat (first | (with_reducible first | exact HB.out | apply below_alloc | apply pw_below_drewN | apply below_drew1) | exact HB.out)) hb); clear HB; have HB := n0_; clear n0_; (try clear hb); (try clear hb2); (try clear hk); (try clear hi)))
        go_meet
        case rel => exact ⟨_, (true), (by first | rfl | (simp; done) | (simp [*]; done)), H', ⟨by first | omega | exact Nat.le_refl _⟩, ⟨by repeat (first | (with_reducible first | exact HB.out | apply below_alloc | apply pw_below_drewN | apply below_drew1) | exact HB.out)⟩⟩
    · rw [if_neg c15] at H
      have c15b0 : ((wrap64 ((wrap64 (t127 + t129)) + t131)) == 0) = false := beq_eq_false_iff_ne.mpr c15
      have c15b1 : ((wrap64 ((wrap64 (t127 + t129)) + t131)) != 0) = true := bne_iff_ne.mpr c15
      (first | rw [c15b0] | (simp only [i64_w, i32_w]; rw [c15b0]) | skip)
      have H' := Aside0.mk H
      clear H
      go_wp2
      go_meet
      case rel => exact ⟨_, (true), (by first | rfl | (simp; done) | (simp [*]; done)), H', ⟨by first | omega | exact Nat.le_refl _⟩, ⟨by repeat (first | (with_reducible first | exact HB.out | apply below_alloc | apply pw_below_drewN | apply below_drew1) | exact HB.out)⟩⟩
  case rest =>
    clear HC9
    try clear c1
    try clear c2
    try clear p2
    try clear c3
    try clear c4
    try clear p6
    try clear c11
    try clear c15
    try clear c15b0
    try clear c15b1
    try clear c17
    try clear c17b0
    try clear c17b1
    try clear c19
    try clear c19b0
    try clear c19b1
    try clear c20
    try clear c20b0
    try clear c20b1
    try clear c20b2
    obtain ⟨kq, x88_8, rfl, HA, HJ8, HB⟩ := hcut
    cases kq with
    | zero => exact absurd HA.out (by simp [surveyorlaw01_BigintAgrees.j0])
    | succ kj8 =>
      have H := HA.out
      clear HA
      simp only [surveyorlaw01_BigintAgrees.j0] at H
      by_cases c28 : x88_8 = true
      · subst c28
        have H1 : (some false) = some r := by rw [if_pos rfl] at H; exact H
        clear H
        have H := H1
        clear H1
        obtain rfl := Option.some.inj H
        go_wp2
        go_ret
        exact ⟨by first | rfl | (simp [errW_none, errW_some] <;> rfl) | (simp [*, errW_none, errW_some] <;> rfl), by repeat (first | (with_reducible first | exact HB.out | apply below_alloc | apply pw_below_drewN | apply below_drew1) | exact HB.out)⟩
      · replace c28 := Bool.eq_false_iff.mpr c28
        subst c28
        have H1 : ((bigint_Pow.f t124 (wrap64 (Int.tmod a2 8))).bind fun bt134 => ((bigint_Pow.f t124 3).bind fun bt136 => ((bigint_Pow.f t124 (wrap64 ((wrap64 (Int.tmod a2 8)) + 3))).bind fun bt138 => ((bigint_Mul.f bt134.1 bt136.1).bind fun bt140 => (if (wrap64 ((wrap64 ((wrap64 (bt134.2 + bt136.2)) + bt138.2)) + bt140.2)) = 0 then (surveyorlaw01_BigintAgrees.j1 kj8 a0 t124 (bt138.1.toList != bt140.1.toList)) else (surveyorlaw01_BigintAgrees.j1 kj8 a0 t124 true)))))) = some r := by rw [if_neg (show ¬ (false = true) by decide)] at H; exact H
        clear H
        have H := H1
        clear H1
        replace H := Option.bind_eq_some_iff.mp H
        obtain ⟨⟨t134, t135⟩, A290, H⟩ := H
        replace H : ((bigint_Pow.f t124 3).bind fun bt136 => ((bigint_Pow.f t124 (wrap64 ((wrap64 (Int.tmod a2 8)) + 3))).bind fun bt138 => ((bigint_Mul.f t134 bt136.1).bind fun bt140 => (if (wrap64 ((wrap64 ((wrap64 (t135 + bt136.2)) + bt138.2)) + bt140.2)) = 0 then (surveyorlaw01_BigintAgrees.j1 kj8 a0 t124 (bt138.1.toList != bt140.1.toList)) else (surveyorlaw01_BigintAgrees.j1 kj8 a0 t124 true))))) = some r := H
        have A29 := Aside0.mk A290
        clear A290
        replace H := Option.bind_eq_some_iff.mp H
        obtain ⟨⟨t136, t137⟩, A300, H⟩ := H
        replace H : ((bigint_Pow.f t124 (wrap64 ((wrap64 (Int.tmod a2 8)) + 3))).bind fun bt138 => ((bigint_Mul.f t134 t136).bind fun bt140 => (if (wrap64 ((wrap64 ((wrap64 (t135 + t137)) + bt138.2)) + bt140.2)) = 0 then (surveyorlaw01_BigintAgrees.j1 kj8 a0 t124 (bt138.1.toList != bt140.1.toList)) else (surveyorlaw01_BigintAgrees.j1 kj8 a0 t124 true)))) = some r := H
        have A30 := Aside0.mk A300
        clear A300
        replace H := Option.bind_eq_some_iff.mp H
        obtain ⟨⟨t138, t139⟩, A310, H⟩ := H
        replace H : ((bigint_Mul.f t134 t136).bind fun bt140 => (if (wrap64 ((wrap64 ((wrap64 (t135 + t137)) + t139)) + bt140.2)) = 0 then (surveyorlaw01_BigintAgrees.j1 kj8 a0 t124 (t138.toList != bt140.1.toList)) else (surveyorlaw01_BigintAgrees.j1 kj8 a0 t124 true))) = some r := H
        have A31 := Aside0.mk A310
        clear A310
        replace H := Option.bind_eq_some_iff.mp H
        obtain ⟨⟨t140, t141⟩, A320, H⟩ := H
        replace H : (if (wrap64 ((wrap64 ((wrap64 (t135 + t137)) + t139)) + t141)) = 0 then (surveyorlaw01_BigintAgrees.j1 kj8 a0 t124 (t138.toList != t140.toList)) else (surveyorlaw01_BigintAgrees.j1 kj8 a0 t124 true)) = some r := H
        have A32 := Aside0.mk A320
        clear A320
        have HC33 := Aside0.mk H
        clear H
        go_upto_region 12 with (first | ((with_reducible refine gate_callee (f := 27) rfl ?_); refine goesL_ (some 95) rfl rfl Tryz.func27 (by kernel_rfl) rfl #[.string t124, .int .i64 (wrap64 (Int.tmod a2 8))] rfl (by (try simp only [List.map_toArray, List.map_cons, List.map_nil]); first | done | rfl | (simp only [List.length_drop, List.length_take]; rfl)) ?_; (with_reducible refine (bigint_Pow.calls (hG := HG.out.below (by repeat (first | (with_reducible first | exact HB.out | apply below_alloc | apply pw_below_drewN | apply below_drew1) | exact HB.out))) t124 (wrap64 (Int.tmod a2 8)) t134 t135 _ A29.out).mono ?_); rintro e w34 ⟨rfl, hb⟩; refine ⟨_, rfl, ?_⟩; have n0_ := Aside0.mk (below_step (by repeat (first | (with_reducible first | exact HB.out | apply below_alloc | apply pw_below_drewN | apply below_drew1) | exact HB.out)) hb); clear HB; have HB := n0_; clear n0_; (try clear hb); (try clear hb2); (try clear hk); (try clear hi)) | ((with_reducible refine gate_callee (f := 27) rfl ?_); refine goesL_ (some 100) rfl rfl Tryz.func27 (by kernel_rfl) rfl #[.string t124, .int .i64 3] rfl (by (try simp only [List.map_toArray, List.map_cons, List.map_nil]); first | done | rfl | (simp only [List.length_drop, List.length_take]; rfl)) ?_; (with_reducible refine (bigint_Pow.calls (hG := HG.out.below (by repeat (first | (with_reducible first | exact HB.out | apply below_alloc | apply pw_below_drewN | apply below_drew1) | exact HB.out))) t124 3 t136 t137 _ A30.out).mono ?_); rintro e w35 ⟨rfl, hb⟩; refine ⟨_, rfl, ?_⟩; have n0_ := Aside0.mk (below_step (by repeat (first | (with_reducible first | exact HB.out | apply below_alloc | apply pw_below_drewN | apply below_drew1) | exact HB.out)) hb); clear HB; have HB := n0_; clear n0_; (try clear hb); (try clear hb2); (try clear hk); (try clear hi)) | ((with_reducible refine gate_callee (f := 27) rfl ?_); refine goesL_ (some 107) rfl rfl Tryz.func27 (by kernel_rfl) rfl #[.string t124, .int .i64 (wrap64 ((wrap64 (Int.tmod a2 8)) + 3))] rfl (by (try simp only [List.map_toArray, List.map_cons, List.map_nil]); first | done | rfl | (simp only [List.length_drop, List.length_take]; rfl)) ?_; (with_reducible refine (bigint_Pow.calls (hG := HG.out.below (by repeat (first | (with_reducible first | exact HB.out | apply below_alloc | apply pw_below_drewN | apply below_drew1) | exact HB.out))) t124 (wrap64 ((wrap64 (Int.tmod a2 8)) + 3)) t138 t139 _ A31.out).mono ?_); rintro e w36 ⟨rfl, hb⟩; refine ⟨_, rfl, ?_⟩; have n0_ := Aside0.mk (below_step (by repeat (first | (with_reducible first | exact HB.out | apply below_alloc | apply pw_below_drewN | apply below_drew1) | exact HB.out)) hb); clear HB; have HB := n0_; clear n0_; (try clear hb); (try clear hb2); (try clear hk); (try clear hi)) | ((with_reducible refine gate_callee (f := 33) rfl ?_); refine goesL_ (some 113) rfl rfl Tryz.func33 (by kernel_rfl) rfl #[.string t134, .string t136] rfl (by (try simp only [List.map_toArray, List.map_cons, List.map_nil]); first | done | rfl | (simp only [List.length_drop, List.length_take]; rfl)) ?_; (with_reducible refine (bigint_Mul.calls (hG := HG.out.below (by repeat (first | (with_reducible first | exact HB.out | apply below_alloc | apply pw_below_drewN | apply below_drew1) | exact HB.out))) t134 t136 t140 t141 _ A32.out).mono ?_); rintro e w37 ⟨rfl, hb⟩; refine ⟨_, rfl, ?_⟩; have n0_ := Aside0.mk (below_step (by repeat (first | (with_reducible first | exact HB.out | apply below_alloc | apply pw_below_drewN | apply below_drew1) | exact HB.out)) hb); clear HB; have HB := n0_; clear n0_; (try clear hb); (try clear hb2); (try clear hk); (try clear hi)))
        (try simp only [Act.put, List.setIfInBounds_toArray, List.set_cons_zero, List.set_cons_succ])
        go_cut [128] (fun v128 wc => ∃ (kq : Nat) (x128_32 : Bool), v128 = .bool x128_32 ∧ Aside0 (surveyorlaw01_BigintAgrees.j1 kq a0 t124 x128_32 = some r) ∧ Aside0 (kq ≤ kj8) ∧ Aside0 (Below w.heap.size w wc))
        case first =>
          have H := HC33.out
          clear HC33
          by_cases c38 : (wrap64 ((wrap64 ((wrap64 (t135 + t137)) + t139)) + t141)) = 0
          · rw [if_pos c38] at H
            have c38b0 : ((wrap64 ((wrap64 ((wrap64 (t135 + t137)) + t139)) + t141)) == 0) = true := beq_iff_eq.mpr c38
            have c38b1 : ((wrap64 ((wrap64 ((wrap64 (t135 + t137)) + t139)) + t141)) != 0) = false := bne_eq_false_iff_eq.mpr c38
            clear c38
            (first | rw [c38b0] | (simp only [i64_w, i32_w]; rw [c38b0]) | skip)
            have H' := Aside0.mk H
            clear H
            go_wp2
            go_meet
            case rel => exact ⟨_, ((t138.toList != t140.toList)), (by first | rfl | (simp; done) | (simp [*]; done)), H', ⟨by have := HJ8.out; first | omega | exact Nat.le_refl _⟩, ⟨by repeat (first | (with_reducible first | exact HB.out | apply below_alloc | apply pw_below_drewN | apply below_drew1) | exact HB.out)⟩⟩
          · rw [if_neg c38] at H
            have c38b0 : ((wrap64 ((wrap64 ((wrap64 (t135 + t137)) + t139)) + t141)) == 0) = false := beq_eq_false_iff_ne.mpr c38
            have c38b1 : ((wrap64 ((wrap64 ((wrap64 (t135 + t137)) + t139)) + t141)) != 0) = true := bne_iff_ne.mpr c38
            (first | rw [c38b0] | (simp only [i64_w, i32_w]; rw [c38b0]) | skip)
            have H' := Aside0.mk H
            clear H
            go_wp2
            go_meet
            case rel => exact ⟨_, (true), (by first | rfl | (simp; done) | (simp [*]; done)), H', ⟨by have := HJ8.out; first | omega | exact Nat.le_refl _⟩, ⟨by repeat (first | (with_reducible first | exact HB.out | apply below_alloc | apply pw_below_drewN | apply below_drew1) | exact HB.out)⟩⟩
        case rest =>
          clear HC33
          try clear c1
          try clear c2
          try clear p2
          try clear c3
          try clear c4
          try clear p6
          try clear c11
          try clear c15
          try clear c15b0
          try clear c15b1
          try clear c17
          try clear c17b0
          try clear c17b1
          try clear c19
          try clear c19b0
          try clear c19b1
          try clear c20
          try clear c20b0
          try clear c20b1
          try clear c20b2
          try clear c27
          try clear c28
          try clear c29
          try clear c33
          try clear c38
          try clear c38b0
          try clear c38b1
          try clear p2
          try clear p6
          obtain ⟨kq, x128_32, rfl, HA, HJ32, HB⟩ := hcut
          cases kq with
          | zero => exact absurd HA.out (by simp [surveyorlaw01_BigintAgrees.j1])
          | succ kj32 =>
            have H := HA.out
            clear HA
            simp only [surveyorlaw01_BigintAgrees.j1] at H
            by_cases c39 : x128_32 = true
            · subst c39
              have H1 : (some false) = some r := by rw [if_pos rfl] at H; exact H
              clear H
              have H := H1
              clear H1
              obtain rfl := Option.some.inj H
              go_wp2
              go_ret
              exact ⟨by first | rfl | (simp [errW_none, errW_some] <;> rfl) | (simp [*, errW_none, errW_some] <;> rfl), by repeat (first | (with_reducible first | exact HB.out | apply below_alloc | apply pw_below_drewN | apply below_drew1) | exact HB.out)⟩
            · replace c39 := Bool.eq_false_iff.mpr c39
              subst c39
              have H1 : ((bigint_Small.f t124).bind fun bt142 => (if a0 > 1048576 then (surveyorlaw01_BigintAgrees.j2 kj32 a0 bt142.1 bt142.2 true) else (surveyorlaw01_BigintAgrees.j2 kj32 a0 bt142.1 bt142.2 (decide (a0 < (-1048576)))))) = some r := by rw [if_neg (show ¬ (false = true) by decide)] at H; exact H
              clear H
              have H := H1
              clear H1
              replace H := Option.bind_eq_some_iff.mp H
              obtain ⟨⟨t142, t143⟩, A400, H⟩ := H
              replace H : (if a0 > 1048576 then (surveyorlaw01_BigintAgrees.j2 kj32 a0 t142 t143 true) else (surveyorlaw01_BigintAgrees.j2 kj32 a0 t142 t143 (decide (a0 < (-1048576))))) = some r := H
              have A40 := Aside0.mk A400
              clear A400
              have HC41 := Aside0.mk H
              clear H
              go_upto_region 15 with (first | ((with_reducible refine gate_callee (f := 48) rfl ?_); refine goesL_ (some 131) rfl rfl Tryz.func48 (by kernel_rfl) rfl #[.string t124] rfl (by (try simp only [List.map_toArray, List.map_cons, List.map_nil]); first | done | rfl | (simp only [List.length_drop, List.length_take]; rfl)) ?_; (with_reducible refine (bigint_Small.calls t124 t142 t143 _ A40.out).mono ?_); rintro e w42 ⟨rfl, hb⟩; refine ⟨_, rfl, ?_⟩; have n0_ := Aside0.mk (below_step (by repeat (first | (with_reducible first | exact HB.out | apply below_alloc | apply pw_below_drewN | apply below_drew1) | exact HB.out)) hb); clear HB; have HB := n0_; clear n0_; (try clear hb); (try clear hb2); (try clear hk); (try clear hi)))
              (try simp only [Act.put, List.setIfInBounds_toArray, List.set_cons_zero, List.set_cons_succ])
              go_cut [139] (fun v139 wc => ∃ (kq : Nat) (x139_40 : Bool), v139 = .bool x139_40 ∧ Aside0 (surveyorlaw01_BigintAgrees.j2 kq a0 t142 t143 x139_40 = some r) ∧ Aside0 (kq ≤ kj32) ∧ Aside0 (Below w.heap.size w wc))
              case first =>
                have H := HC41.out
                clear HC41
                by_cases c43 : a0 > 1048576
                · rw [if_pos c43] at H
                  have c43b0 : decide (1048576 < a0) = true := decide_eq_true c43
                  clear c43
                  (first | rw [c43b0] | (simp only [i64_w, i32_w]; rw [c43b0]) | skip)
                  have H' := Aside0.mk H
                  clear H
                  go_wp2
                  go_meet
                  case rel => exact ⟨_, (true), (by first | rfl | (simp; done) | (simp [*]; done)), H', ⟨by have := HJ8.out; have := HJ32.out; first | omega | exact Nat.le_refl _⟩, ⟨by repeat (first | (with_reducible first | exact HB.out | apply below_alloc | apply pw_below_drewN | apply below_drew1) | exact HB.out)⟩⟩
                · rw [if_neg c43] at H
                  have c43b0 : decide (1048576 < a0) = false := decide_eq_false c43
                  clear c43
                  (first | rw [c43b0] | (simp only [i64_w, i32_w]; rw [c43b0]) | skip)
                  have H' := Aside0.mk H
                  clear H
                  go_wp2
                  go_meet
                  case rel => exact ⟨_, (decide (a0 < (-1048576))), (by first | rfl | (simp; done) | (simp [*]; done)), H', ⟨by have := HJ8.out; have := HJ32.out; first | omega | exact Nat.le_refl _⟩, ⟨by repeat (first | (with_reducible first | exact HB.out | apply below_alloc | apply pw_below_drewN | apply below_drew1) | exact HB.out)⟩⟩
              case rest =>
                clear HC41
                try clear c1
                try clear c2
                try clear p2
                try clear c3
                try clear c4
                try clear p6
                try clear c11
                try clear c15
                try clear c15b0
                try clear c15b1
                try clear c17
                try clear c17b0
                try clear c17b1
                try clear c19
                try clear c19b0
                try clear c19b1
                try clear c20
                try clear c20b0
                try clear c20b1
                try clear c20b2
                try clear c27
                try clear c28
                try clear c29
                try clear c33
                try clear c38
                try clear c38b0
                try clear c38b1
                try clear c39
                try clear c43
                try clear c43b0
                try clear p2
                try clear p6
                obtain ⟨kq, x139_40, rfl, HA, HJ40, HB⟩ := hcut
                cases kq with
                | zero => exact absurd HA.out (by simp [surveyorlaw01_BigintAgrees.j2])
                | succ kj40 =>
                  have H := HA.out
                  clear HA
                  simp only [surveyorlaw01_BigintAgrees.j2] at H
                  by_cases c44 : x139_40 = true
                  · subst c44
                    have H1 : (if t142 = 0 then (if t143 = 2 then ((surveyorlaw01_awake.f kj40).bind fun t144 => (some t144)) else (some false)) else (some false)) = some r := by rw [if_pos rfl] at H; exact H
                    clear H
                    have H := H1
                    clear H1
                    by_cases c45 : t142 = 0
                    · rw [if_pos c45] at H
                      have c45b0 : (t142 == 0) = true := beq_iff_eq.mpr c45
                      have c45b1 : (t142 != 0) = false := bne_eq_false_iff_eq.mpr c45
                      clear c45
                      by_cases c46 : t143 = 2
                      · rw [if_pos c46] at H
                        have c46b0 : (t143 == 2) = true := beq_iff_eq.mpr c46
                        have c46b1 : (t143 != 2) = false := bne_eq_false_iff_eq.mpr c46
                        clear c46
                        replace H := Option.bind_eq_some_iff.mp H
                        obtain ⟨t144, A470, H⟩ := H
                        replace H : (some t144) = some r := H
                        have A47 := Aside0.mk A470
                        clear A470
                        obtain rfl := Option.some.inj H
                        go_wp2_with (first | (go_at_call 20; (with_reducible refine (surveyorlaw01_awake.calls (hG := HG.out.below (by repeat (first | (with_reducible first | exact HB.out | apply below_alloc | apply pw_below_drewN | apply below_drew1) | exact HB.out))) kj40  t144 _ A47.out).mono ?_); rintro e w48 ⟨rfl, hb⟩; have n0_ := Aside0.mk (below_step (by repeat (first | (with_reducible first | exact HB.out | apply below_alloc | apply pw_below_drewN | apply below_drew1) | exact HB.out)) hb); clear HB; have HB := n0_; clear n0_; (try clear hb); (try clear hb2); (try clear hk); (try clear hi)))
                        go_ret
                        exact ⟨by first | rfl | (simp [errW_none, errW_some] <;> rfl) | (simp [*, errW_none, errW_some] <;> rfl), by repeat (first | (with_reducible first | exact HB.out | apply below_alloc | apply pw_below_drewN | apply below_drew1) | exact HB.out)⟩
                      · rw [if_neg c46] at H
                        have c46b0 : (t143 == 2) = false := beq_eq_false_iff_ne.mpr c46
                        have c46b1 : (t143 != 2) = true := bne_iff_ne.mpr c46
                        obtain rfl := Option.some.inj H
                        go_wp2
                        go_ret
                        exact ⟨by first | rfl | (simp [errW_none, errW_some] <;> rfl) | (simp [*, errW_none, errW_some] <;> rfl), by repeat (first | (with_reducible first | exact HB.out | apply below_alloc | apply pw_below_drewN | apply below_drew1) | exact HB.out)⟩
                    · rw [if_neg c45] at H
                      have c45b0 : (t142 == 0) = false := beq_eq_false_iff_ne.mpr c45
                      have c45b1 : (t142 != 0) = true := bne_iff_ne.mpr c45
                      obtain rfl := Option.some.inj H
                      go_wp2
                      go_ret
                      exact ⟨by first | rfl | (simp [errW_none, errW_some] <;> rfl) | (simp [*, errW_none, errW_some] <;> rfl), by repeat (first | (with_reducible first | exact HB.out | apply below_alloc | apply pw_below_drewN | apply below_drew1) | exact HB.out)⟩
                  · replace c44 := Bool.eq_false_iff.mpr c44
                    subst c44
                    have H1 : (if t142 = (wrap64 (a0)) then (if t143 = 0 then ((surveyorlaw01_awake.f kj40).bind fun t145 => (some t145)) else (some false)) else (some false)) = some r := by rw [if_neg (show ¬ (false = true) by decide)] at H; exact H
                    clear H
                    have H := H1
                    clear H1
                    by_cases c49 : t142 = (wrap64 (a0))
                    · rw [if_pos c49] at H
                      have c49b0 : (t142 == (wrap64 (a0))) = true := beq_iff_eq.mpr c49
                      have c49b1 : (t142 != (wrap64 (a0))) = false := bne_eq_false_iff_eq.mpr c49
                      clear c49
                      by_cases c50 : t143 = 0
                      · rw [if_pos c50] at H
                        have c50b0 : (t143 == 0) = true := beq_iff_eq.mpr c50
                        have c50b1 : (t143 != 0) = false := bne_eq_false_iff_eq.mpr c50
                        clear c50
                        replace H := Option.bind_eq_some_iff.mp H
                        obtain ⟨t145, A510, H⟩ := H
                        replace H : (some t145) = some r := H
                        have A51 := Aside0.mk A510
                        clear A510
                        obtain rfl := Option.some.inj H
                        go_wp2_with (first | (go_at_call 20; (with_reducible refine (surveyorlaw01_awake.calls (hG := HG.out.below (by repeat (first | (with_reducible first | exact HB.out | apply below_alloc | apply pw_below_drewN | apply below_drew1) | exact HB.out))) kj40  t145 _ A51.out).mono ?_); rintro e w52 ⟨rfl, hb⟩; have n0_ := Aside0.mk (below_step (by repeat (first | (with_reducible first | exact HB.out | apply below_alloc | apply pw_below_drewN | apply below_drew1) | exact HB.out)) hb); clear HB; have HB := n0_; clear n0_; (try clear hb); (try clear hb2); (try clear hk); (try clear hi)))
                        go_ret
                        exact ⟨by first | rfl | (simp [errW_none, errW_some] <;> rfl) | (simp [*, errW_none, errW_some] <;> rfl), by repeat (first | (with_reducible first | exact HB.out | apply below_alloc | apply pw_below_drewN | apply below_drew1) | exact HB.out)⟩
                      · rw [if_neg c50] at H
                        have c50b0 : (t143 == 0) = false := beq_eq_false_iff_ne.mpr c50
                        have c50b1 : (t143 != 0) = true := bne_iff_ne.mpr c50
                        obtain rfl := Option.some.inj H
                        go_wp2
                        go_ret
                        exact ⟨by first | rfl | (simp [errW_none, errW_some] <;> rfl) | (simp [*, errW_none, errW_some] <;> rfl), by repeat (first | (with_reducible first | exact HB.out | apply below_alloc | apply pw_below_drewN | apply below_drew1) | exact HB.out)⟩
                    · rw [if_neg c49] at H
                      have c49b0 : (t142 == (wrap64 (a0))) = false := beq_eq_false_iff_ne.mpr c49
                      have c49b1 : (t142 != (wrap64 (a0))) = true := bne_iff_ne.mpr c49
                      obtain rfl := Option.some.inj H
                      go_wp2
                      go_ret
                      exact ⟨by first | rfl | (simp [errW_none, errW_some] <;> rfl) | (simp [*, errW_none, errW_some] <;> rfl), by repeat (first | (with_reducible first | exact HB.out | apply below_alloc | apply pw_below_drewN | apply below_drew1) | exact HB.out)⟩

/-- THE ONE PURE STATEMENT of surveyorlaw01_BigintAgrees: yours. -/
def surveyorlaw01_BigintAgrees.Pure : Prop := ∀ (a0 : Int) (a1 : Int) (a2 : Int), (Lit.int .i32 a0).wf = true → (Lit.int .i32 a1).wf = true → (Lit.int .u8 a2).wf = true → ∃ k, surveyorlaw01_BigintAgrees.f k a0 a1 a2 = some true
theorem surveyorlaw01_BigintAgrees.walk (P : surveyorlaw01_BigintAgrees.Pure) (a0 : Int) (a1 : Int) (a2 : Int) (w : World) (hG : GW w) (w0 : (Lit.int .i32 a0).wf = true) (w1 : (Lit.int .i32 a1).wf = true) (w2 : (Lit.int .u8 a2).wf = true) :
    Calls Tryz.prog 11 #[.int .i32 a0, .int .i32 a1, .int .u8 a2] w fun e w' => e = .returned (.bool true) ∧ Below w.heap.size w w' := by
  obtain ⟨k, h⟩ := P a0 a1 a2 w0 w1 w2
  refine (surveyorlaw01_BigintAgrees.calls (hG := hG) k a0 a1 a2 true w h).mono ?_
  rintro e w' ⟨rfl, hd⟩
  exact ⟨rfl, hd⟩

end Go.Proofs.YtdldoghcbnkkjaaGreatDoor.PBigintAgrees
