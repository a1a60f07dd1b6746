-- printed by a program of this session (wip/gprint.py, a patched run of the print) out of the translation. Lean checks it.
import Derived.Test.YtlefniheafefgaaGreatDoorPSignHoldsx0
namespace Go.Proofs.YtlefniheafefgaaGreatDoor.PSignHolds
open Go.RowKit Go.Proofs.YtlefniheafefgaaGreatDoorW.PrintWords Go.Proofs.YtlefniheafefgaaGreatDoorW.PrintLast Go.Proofs.YtlefniheafefgaaGreatDoorW.PrintMore
attribute [local go_sem] max2_int min2_int max_two min_two max_three min_three max_four min_four   -- for this text's walks alone
set_option linter.unusedVariables false
set_option linter.unusedSimpArgs false

/-! ### surveyorlaw19_awake: function 8 -/
def surveyorlaw19_awake.j0 : Nat → Bool → Option (Bool)
  | 0, _ => none
  | k + 1, x56 => if x56 = true then (some false) else ((sign_Rem.f 7 4).bind fun bt109 => ((sign_Rem.f 7 2).bind fun bt111 => ((sign_Refine.f 4 7 2).bind fun bt113 => ((sign_Refine.f 5 6 3).bind fun bt116 => ((sign_Format.f 6).bind fun bt119 => (if (wrap64 ((wrap64 ((wrap64 ((wrap64 (bt109.2 + bt111.2)) + bt113.2.2)) + bt116.2.2)) + bt119.2)) = 0 then (if bt109.1 = 6 then (if bt111.1 = 0 then (if bt113.1 = 1 then (if bt113.2.1 = 2 then (if bt116.1 = 2 then (if bt116.2.1 = 2 then (some (bt119.1.toList == ([110, 111, 110, 110, 101, 103, 97, 116, 105, 118, 101] : List UInt8))) else (some false)) else (some false)) else (some false)) else (some false)) else (some false)) else (some false)) else (some false)))))))
def surveyorlaw19_awake.f (k : Nat)  : Option (Bool) := (sign_Add.f 4 1).bind fun bt101 => ((sign_Add.f 6 4).bind fun bt103 => ((sign_Quo.f 4 4).bind fun bt105 => ((sign_Quo.f 4 1).bind fun bt107 => (if (wrap64 ((wrap64 ((wrap64 (bt101.2 + bt103.2)) + bt105.2)) + bt107.2)) = 0 then (if bt101.1 = 7 then (if bt103.1 = 4 then (if bt105.1 = 6 then (surveyorlaw19_awake.j0 k (bt107.1 != 1)) else (surveyorlaw19_awake.j0 k true)) else (surveyorlaw19_awake.j0 k true)) else (surveyorlaw19_awake.j0 k true)) else (surveyorlaw19_awake.j0 k true)))))
theorem surveyorlaw19_awake.mono_l : ∀ k, (∀ y0, LeO (surveyorlaw19_awake.j0 k y0) (surveyorlaw19_awake.j0 (k + 1) y0))
  | 0 => fun _ r h => by simp [surveyorlaw19_awake.j0] at h
  | k + 1 => by
    have ih0 := surveyorlaw19_awake.mono_l k
    · intro y0
      unfold surveyorlaw19_awake.j0
      repeat' first
      | (with_reducible exact ih0 _)
      | (with_reducible exact LeO.refl _)
      | (with_reducible exact LeO.none _)
      | (with_reducible refine LeO.ite ?_ ?_)
      | (with_reducible refine LeO.bind ?_ (fun _ => ?_))
      | exact ih0 _
      | exact LeO.none _
      | refine LeO.ite ?_ ?_
      | refine LeO.bind ?_ (fun _ => ?_)
theorem surveyorlaw19_awake.mono : ∀ k, LeO (surveyorlaw19_awake.f k ) (surveyorlaw19_awake.f (k + 1) ) := by
  intro  k
  have ih0 := surveyorlaw19_awake.mono_l k
  unfold surveyorlaw19_awake.f
  repeat' first
      | (with_reducible exact ih0 _)
      | (with_reducible exact LeO.refl _)
      | (with_reducible exact LeO.none _)
      | (with_reducible refine LeO.ite ?_ ?_)
      | (with_reducible refine LeO.bind ?_ (fun _ => ?_))
      | exact ih0 _
      | exact LeO.none _
      | refine LeO.ite ?_ ?_
      | refine LeO.bind ?_ (fun _ => ?_)
set_option maxHeartbeats 8000000 in
set_option maxRecDepth 100000 in
theorem surveyorlaw19_awake.calls (k : Nat)  (r : Bool) (w : World) (h : surveyorlaw19_awake.f k  = some r) :
    Calls Tryz.prog 8 #[] w fun e w' => e = .returned (.bool r) ∧ Below w.heap.size w w' := by
  have HB := Aside0.mk (Below.refl w.heap.size w)
  have H : ((sign_Add.f 4 1).bind fun bt101 => ((sign_Add.f 6 4).bind fun bt103 => ((sign_Quo.f 4 4).bind fun bt105 => ((sign_Quo.f 4 1).bind fun bt107 => (if (wrap64 ((wrap64 ((wrap64 (bt101.2 + bt103.2)) + bt105.2)) + bt107.2)) = 0 then (if bt101.1 = 7 then (if bt103.1 = 4 then (if bt105.1 = 6 then (surveyorlaw19_awake.j0 k (bt107.1 != 1)) else (surveyorlaw19_awake.j0 k true)) else (surveyorlaw19_awake.j0 k true)) else (surveyorlaw19_awake.j0 k true)) else (surveyorlaw19_awake.j0 k true)))))) = some r := h
  clear h
  replace H := Option.bind_eq_some_iff.mp H
  obtain ⟨⟨t101, t102⟩, A10, H⟩ := H
  replace H : ((sign_Add.f 6 4).bind fun bt103 => ((sign_Quo.f 4 4).bind fun bt105 => ((sign_Quo.f 4 1).bind fun bt107 => (if (wrap64 ((wrap64 ((wrap64 (t102 + bt103.2)) + bt105.2)) + bt107.2)) = 0 then (if t101 = 7 then (if bt103.1 = 4 then (if bt105.1 = 6 then (surveyorlaw19_awake.j0 k (bt107.1 != 1)) else (surveyorlaw19_awake.j0 k true)) else (surveyorlaw19_awake.j0 k true)) else (surveyorlaw19_awake.j0 k true)) else (surveyorlaw19_awake.j0 k true))))) = some r := H
  have A1 := Aside0.mk A10
  clear A10
  replace H := Option.bind_eq_some_iff.mp H
  obtain ⟨⟨t103, t104⟩, A20, H⟩ := H
  replace H : ((sign_Quo.f 4 4).bind fun bt105 => ((sign_Quo.f 4 1).bind fun bt107 => (if (wrap64 ((wrap64 ((wrap64 (t102 + t104)) + bt105.2)) + bt107.2)) = 0 then (if t101 = 7 then (if t103 = 4 then (if bt105.1 = 6 then (surveyorlaw19_awake.j0 k (bt107.1 != 1)) else (surveyorlaw19_awake.j0 k true)) else (surveyorlaw19_awake.j0 k true)) else (surveyorlaw19_awake.j0 k true)) else (surveyorlaw19_awake.j0 k true)))) = some r := H
  have A2 := Aside0.mk A20
  clear A20
  replace H := Option.bind_eq_some_iff.mp H
  obtain ⟨⟨t105, t106⟩, A30, H⟩ := H
  replace H : ((sign_Quo.f 4 1).bind fun bt107 => (if (wrap64 ((wrap64 ((wrap64 (t102 + t104)) + t106)) + bt107.2)) = 0 then (if t101 = 7 then (if t103 = 4 then (if t105 = 6 then (surveyorlaw19_awake.j0 k (bt107.1 != 1)) else (surveyorlaw19_awake.j0 k true)) else (surveyorlaw19_awake.j0 k true)) else (surveyorlaw19_awake.j0 k true)) else (surveyorlaw19_awake.j0 k true))) = some r := H
  have A3 := Aside0.mk A30
  clear A30
  replace H := Option.bind_eq_some_iff.mp H
  obtain ⟨⟨t107, t108⟩, A40, H⟩ := H
  replace H : (if (wrap64 ((wrap64 ((wrap64 (t102 + t104)) + t106)) + t108)) = 0 then (if t101 = 7 then (if t103 = 4 then (if t105 = 6 then (surveyorlaw19_awake.j0 k (t107 != 1)) else (surveyorlaw19_awake.j0 k true)) else (surveyorlaw19_awake.j0 k true)) else (surveyorlaw19_awake.j0 k true)) else (surveyorlaw19_awake.j0 k true)) = some r := H
  have A4 := Aside0.mk A40
  clear A40
  have HC5 := Aside0.mk H
  clear H
  go_enter Tryz.func8, Tryz.ntmps8
  go_upto_region 5 with (first | ((with_reducible refine gate_callee (f := 27) rfl ?_); refine goesL_ (some 18) rfl rfl Tryz.func27 (by kernel_rfl) rfl #[.int .i64 4, .int .i64 1] rfl (by (try simp only [List.map_toArray, List.map_cons, List.map_nil]); first | done | rfl | (simp only [List.length_drop, List.length_take]; rfl)) ?_; (with_reducible refine (sign_Add.calls 4 1 t101 t102 _ A1.out).mono ?_); rintro e w6 ⟨rfl, hb⟩; refine ⟨_, rfl, ?_⟩; have n0_ := Aside0.mk (below_step (by repeat (first | (with_reducible first | exact HB.out | apply below_alloc | apply pw_below_drewN | apply below_drew1) | exact HB.out)) hb); clear HB; have HB := n0_; clear n0_; (try clear hb); (try clear hb2); (try clear hk); (try clear hi)) | ((with_reducible refine gate_callee (f := 27) rfl ?_); refine goesL_ (some 22) rfl rfl Tryz.func27 (by kernel_rfl) rfl #[.int .i64 6, .int .i64 4] rfl (by (try simp only [List.map_toArray, List.map_cons, List.map_nil]); first | done | rfl | (simp only [List.length_drop, List.length_take]; rfl)) ?_; (with_reducible refine (sign_Add.calls 6 4 t103 t104 _ A2.out).mono ?_); rintro e w7 ⟨rfl, hb⟩; refine ⟨_, rfl, ?_⟩; have n0_ := Aside0.mk (below_step (by repeat (first | (with_reducible first | exact HB.out | apply below_alloc | apply pw_below_drewN | apply below_drew1) | exact HB.out)) hb); clear HB; have HB := n0_; clear n0_; (try clear hb); (try clear hb2); (try clear hk); (try clear hi)) | ((with_reducible refine gate_callee (f := 28) rfl ?_); refine goesL_ (some 26) rfl rfl Tryz.func28 (by kernel_rfl) rfl #[.int .i64 4, .int .i64 4] rfl (by (try simp only [List.map_toArray, List.map_cons, List.map_nil]); first | done | rfl | (simp only [List.length_drop, List.length_take]; rfl)) ?_; (with_reducible refine (sign_Quo.calls 4 4 t105 t106 _ A3.out).mono ?_); rintro e w8 ⟨rfl, hb⟩; refine ⟨_, rfl, ?_⟩; have n0_ := Aside0.mk (below_step (by repeat (first | (with_reducible first | exact HB.out | apply below_alloc | apply pw_below_drewN | apply below_drew1) | exact HB.out)) hb); clear HB; have HB := n0_; clear n0_; (try clear hb); (try clear hb2); (try clear hk); (try clear hi)) | ((with_reducible refine gate_callee (f := 28) rfl ?_); refine goesL_ (some 30) rfl rfl Tryz.func28 (by kernel_rfl) rfl #[.int .i64 4, .int .i64 1] rfl (by (try simp only [List.map_toArray, List.map_cons, List.map_nil]); first | done | rfl | (simp only [List.length_drop, List.length_take]; rfl)) ?_; (with_reducible refine (sign_Quo.calls 4 1 t107 t108 _ A4.out).mono ?_); rintro e w9 ⟨rfl, hb⟩; refine ⟨_, rfl, ?_⟩; have n0_ := Aside0.mk (below_step (by repeat (first | (with_reducible first | exact HB.out | apply below_alloc | apply pw_below_drewN | apply below_drew1) | exact HB.out)) hb); clear HB; have HB := n0_; clear n0_; (try clear hb); (try clear hb2); (try clear hk); (try clear hi)))
  (try simp only [Act.put, List.setIfInBounds_toArray, List.set_cons_zero, List.set_cons_succ])
  go_cut [56] (fun v56 wc => ∃ (kq : Nat) (x56_4 : Bool), v56 = .bool x56_4 ∧ Aside0 (surveyorlaw19_awake.j0 kq x56_4 = some r) ∧ Aside0 (kq ≤ k) ∧ Aside0 (Below w.heap.size w wc))
  case first =>
    have H := HC5.out
    clear HC5
    by_cases c10 : (wrap64 ((wrap64 ((wrap64 (t102 + t104)) + t106)) + t108)) = 0
    · rw [if_pos c10] at H
      have c10b0 : ((wrap64 ((wrap64 ((wrap64 (t102 + t104)) + t106)) + t108)) == 0) = true := beq_iff_eq.mpr c10
      have c10b1 : ((wrap64 ((wrap64 ((wrap64 (t102 + t104)) + t106)) + t108)) != 0) = false := bne_eq_false_iff_eq.mpr c10
      clear c10
      (first | rw [c10b0] | (simp only [i64_w, i32_w]; rw [c10b0]) | skip)
      by_cases c11 : t101 = 7
      · rw [if_pos c11] at H
        have c11b0 : (t101 == 7) = true := beq_iff_eq.mpr c11
        have c11b1 : (t101 != 7) = false := bne_eq_false_iff_eq.mpr c11
        clear c11
        by_cases c12 : t103 = 4
        · rw [if_pos c12] at H
          have c12b0 : (t103 == 4) = true := beq_iff_eq.mpr c12
          have c12b1 : (t103 != 4) = false := bne_eq_false_iff_eq.mpr c12
          clear c12
          by_cases c13 : t105 = 6
          · rw [if_pos c13] at H
            have c13b0 : (t105 == 6) = true := beq_iff_eq.mpr c13
            have c13b1 : (t105 != 6) = false := bne_eq_false_iff_eq.mpr c13
            clear c13
            have H' := Aside0.mk H
            clear H
            go_wp2
            go_meet
            case rel => exact ⟨_, ((t107 != 1)), (by first | rfl | (simp; done) | (simp [*]; done)), H', ⟨by first | omega | exact Nat.le_refl _⟩, ⟨by repeat (first | (with_reducible first | exact HB.out | apply below_alloc | apply pw_below_drewN | apply below_drew1) | exact HB.out)⟩⟩
          · rw [if_neg c13] at H
            have c13b0 : (t105 == 6) = false := beq_eq_false_iff_ne.mpr c13
            have c13b1 : (t105 != 6) = true := bne_iff_ne.mpr c13
            have H' := Aside0.mk H
            clear H
            go_wp2
            go_meet
            case rel => exact ⟨_, (true), (by first | rfl | (simp; done) | (simp [*]; done)), H', ⟨by first | omega | exact Nat.le_refl _⟩, ⟨by repeat (first | (with_reducible first | exact HB.out | apply below_alloc | apply pw_below_drewN | apply below_drew1) | exact HB.out)⟩⟩
        · rw [if_neg c12] at H
          have c12b0 : (t103 == 4) = false := beq_eq_false_iff_ne.mpr c12
          have c12b1 : (t103 != 4) = true := bne_iff_ne.mpr c12
          have H' := Aside0.mk H
          clear H
          go_wp2
          go_meet
          case rel => exact ⟨_, (true), (by first | rfl | (simp; done) | (simp [*]; done)), H', ⟨by first | omega | exact Nat.le_refl _⟩, ⟨by repeat (first | (with_reducible first | exact HB.out | apply below_alloc | apply pw_below_drewN | apply below_drew1) | exact HB.out)⟩⟩
      · rw [if_neg c11] at H
        have c11b0 : (t101 == 7) = false := beq_eq_false_iff_ne.mpr c11
        have c11b1 : (t101 != 7) = true := bne_iff_ne.mpr c11
        have H' := Aside0.mk H
        clear H
        go_wp2
        go_meet
        case rel => exact ⟨_, (true), (by first | rfl | (simp; done) | (simp [*]; done)), H', ⟨by first | omega | exact Nat.le_refl _⟩, ⟨by repeat (first | (with_reducible first | exact HB.out | apply below_alloc | apply pw_below_drewN | apply below_drew1) | exact HB.out)⟩⟩
    · rw [if_neg c10] at H
      have c10b0 : ((wrap64 ((wrap64 ((wrap64 (t102 + t104)) + t106)) + t108)) == 0) = false := beq_eq_false_iff_ne.mpr c10
      have c10b1 : ((wrap64 ((wrap64 ((wrap64 (t102 + t104)) + t106)) + t108)) != 0) = true := bne_iff_ne.mpr c10
      (first | rw [c10b0] | (simp only [i64_w, i32_w]; rw [c10b0]) | skip)
      have H' := Aside0.mk H
      clear H
      go_wp2
      go_meet
      case rel => exact ⟨_, (true), (by first | rfl | (simp; done) | (simp [*]; done)), H', ⟨by first | omega | exact Nat.le_refl _⟩, ⟨by repeat (first | (with_reducible first | exact HB.out | apply below_alloc | apply pw_below_drewN | apply below_drew1) | exact HB.out)⟩⟩
  case rest =>
    clear HC5
    try clear c1
    try clear c2
    try clear p2
    try clear p6
    try clear c8
    try clear c10
    try clear c10b0
    try clear c10b1
    try clear c11
    try clear c11b0
    try clear c11b1
    try clear c12
    try clear c12b0
    try clear c12b1
    try clear c13
    try clear c13b0
    try clear c13b1
    obtain ⟨kq, x56_4, rfl, HA, HJ4, HB⟩ := hcut
    cases kq with
    | zero => exact absurd HA.out (by simp [surveyorlaw19_awake.j0])
    | succ kj4 =>
      have H := HA.out
      clear HA
      simp only [surveyorlaw19_awake.j0] at H
      by_cases c14 : x56_4 = true
      · subst c14
        have H1 : (some false) = some r := by rw [if_pos rfl] at H; exact H
        clear H
        have H := H1
        clear H1
        obtain rfl := Option.some.inj H
        go_wp2
        go_ret
        exact ⟨by first | rfl | (simp [errW_none, errW_some] <;> rfl) | (simp [*, errW_none, errW_some] <;> rfl), by repeat (first | (with_reducible first | exact HB.out | apply below_alloc | apply pw_below_drewN | apply below_drew1) | exact HB.out)⟩
      · replace c14 := Bool.eq_false_iff.mpr c14
        subst c14
        have H1 : ((sign_Rem.f 7 4).bind fun bt109 => ((sign_Rem.f 7 2).bind fun bt111 => ((sign_Refine.f 4 7 2).bind fun bt113 => ((sign_Refine.f 5 6 3).bind fun bt116 => ((sign_Format.f 6).bind fun bt119 => (if (wrap64 ((wrap64 ((wrap64 ((wrap64 (bt109.2 + bt111.2)) + bt113.2.2)) + bt116.2.2)) + bt119.2)) = 0 then (if bt109.1 = 6 then (if bt111.1 = 0 then (if bt113.1 = 1 then (if bt113.2.1 = 2 then (if bt116.1 = 2 then (if bt116.2.1 = 2 then (some (bt119.1.toList == ([110, 111, 110, 110, 101, 103, 97, 116, 105, 118, 101] : List UInt8))) else (some false)) else (some false)) else (some false)) else (some false)) else (some false)) else (some false)) else (some false))))))) = some r := by rw [if_neg (show ¬ (false = true) by decide)] at H; exact H
        clear H
        have H := H1
        clear H1
        replace H := Option.bind_eq_some_iff.mp H
        obtain ⟨⟨t109, t110⟩, A150, H⟩ := H
        replace H : ((sign_Rem.f 7 2).bind fun bt111 => ((sign_Refine.f 4 7 2).bind fun bt113 => ((sign_Refine.f 5 6 3).bind fun bt116 => ((sign_Format.f 6).bind fun bt119 => (if (wrap64 ((wrap64 ((wrap64 ((wrap64 (t110 + bt111.2)) + bt113.2.2)) + bt116.2.2)) + bt119.2)) = 0 then (if t109 = 6 then (if bt111.1 = 0 then (if bt113.1 = 1 then (if bt113.2.1 = 2 then (if bt116.1 = 2 then (if bt116.2.1 = 2 then (some (bt119.1.toList == ([110, 111, 110, 110, 101, 103, 97, 116, 105, 118, 101] : List UInt8))) else (some false)) else (some false)) else (some false)) else (some false)) else (some false)) else (some false)) else (some false)))))) = some r := H
        have A15 := Aside0.mk A150
        clear A150
        replace H := Option.bind_eq_some_iff.mp H
        obtain ⟨⟨t111, t112⟩, A160, H⟩ := H
        replace H : ((sign_Refine.f 4 7 2).bind fun bt113 => ((sign_Refine.f 5 6 3).bind fun bt116 => ((sign_Format.f 6).bind fun bt119 => (if (wrap64 ((wrap64 ((wrap64 ((wrap64 (t110 + t112)) + bt113.2.2)) + bt116.2.2)) + bt119.2)) = 0 then (if t109 = 6 then (if t111 = 0 then (if bt113.1 = 1 then (if bt113.2.1 = 2 then (if bt116.1 = 2 then (if bt116.2.1 = 2 then (some (bt119.1.toList == ([110, 111, 110, 110, 101, 103, 97, 116, 105, 118, 101] : List UInt8))) else (some false)) else (some false)) else (some false)) else (some false)) else (some false)) else (some false)) else (some false))))) = some r := H
        have A16 := Aside0.mk A160
        clear A160
        replace H := Option.bind_eq_some_iff.mp H
        obtain ⟨⟨t113, t114, t115⟩, A170, H⟩ := H
        replace H : ((sign_Refine.f 5 6 3).bind fun bt116 => ((sign_Format.f 6).bind fun bt119 => (if (wrap64 ((wrap64 ((wrap64 ((wrap64 (t110 + t112)) + t115)) + bt116.2.2)) + bt119.2)) = 0 then (if t109 = 6 then (if t111 = 0 then (if t113 = 1 then (if t114 = 2 then (if bt116.1 = 2 then (if bt116.2.1 = 2 then (some (bt119.1.toList == ([110, 111, 110, 110, 101, 103, 97, 116, 105, 118, 101] : List UInt8))) else (some false)) else (some false)) else (some false)) else (some false)) else (some false)) else (some false)) else (some false)))) = some r := H
        have A17 := Aside0.mk A170
        clear A170
        replace H := Option.bind_eq_some_iff.mp H
        obtain ⟨⟨t116, t117, t118⟩, A180, H⟩ := H
        replace H : ((sign_Format.f 6).bind fun bt119 => (if (wrap64 ((wrap64 ((wrap64 ((wrap64 (t110 + t112)) + t115)) + t118)) + bt119.2)) = 0 then (if t109 = 6 then (if t111 = 0 then (if t113 = 1 then (if t114 = 2 then (if t116 = 2 then (if t117 = 2 then (some (bt119.1.toList == ([110, 111, 110, 110, 101, 103, 97, 116, 105, 118, 101] : List UInt8))) else (some false)) else (some false)) else (some false)) else (some false)) else (some false)) else (some false)) else (some false))) = some r := H
        have A18 := Aside0.mk A180
        clear A180
        replace H := Option.bind_eq_some_iff.mp H
        obtain ⟨⟨t119, t120⟩, A190, H⟩ := H
        replace H : (if (wrap64 ((wrap64 ((wrap64 ((wrap64 (t110 + t112)) + t115)) + t118)) + t120)) = 0 then (if t109 = 6 then (if t111 = 0 then (if t113 = 1 then (if t114 = 2 then (if t116 = 2 then (if t117 = 2 then (some (t119.toList == ([110, 111, 110, 110, 101, 103, 97, 116, 105, 118, 101] : List UInt8))) else (some false)) else (some false)) else (some false)) else (some false)) else (some false)) else (some false)) else (some false)) = some r := H
        have A19 := Aside0.mk A190
        clear A190
        by_cases c20 : (wrap64 ((wrap64 ((wrap64 ((wrap64 (t110 + t112)) + t115)) + t118)) + t120)) = 0
        · rw [if_pos c20] at H
          have c20b0 : ((wrap64 ((wrap64 ((wrap64 ((wrap64 (t110 + t112)) + t115)) + t118)) + t120)) == 0) = true := beq_iff_eq.mpr c20
          have c20b1 : ((wrap64 ((wrap64 ((wrap64 ((wrap64 (t110 + t112)) + t115)) + t118)) + t120)) != 0) = false := bne_eq_false_iff_eq.mpr c20
          clear c20
          by_cases c21 : t109 = 6
          · rw [if_pos c21] at H
            have c21b0 : (t109 == 6) = true := beq_iff_eq.mpr c21
            have c21b1 : (t109 != 6) = false := bne_eq_false_iff_eq.mpr c21
            clear c21
            by_cases c22 : t111 = 0
            · rw [if_pos c22] at H
              have c22b0 : (t111 == 0) = true := beq_iff_eq.mpr c22
              have c22b1 : (t111 != 0) = false := bne_eq_false_iff_eq.mpr c22
              clear c22
              by_cases c23 : t113 = 1
              · rw [if_pos c23] at H
                have c23b0 : (t113 == 1) = true := beq_iff_eq.mpr c23
                have c23b1 : (t113 != 1) = false := bne_eq_false_iff_eq.mpr c23
                clear c23
                by_cases c24 : t114 = 2
                · rw [if_pos c24] at H
                  have c24b0 : (t114 == 2) = true := beq_iff_eq.mpr c24
                  have c24b1 : (t114 != 2) = false := bne_eq_false_iff_eq.mpr c24
                  clear c24
                  by_cases c25 : t116 = 2
                  · rw [if_pos c25] at H
                    have c25b0 : (t116 == 2) = true := beq_iff_eq.mpr c25
                    have c25b1 : (t116 != 2) = false := bne_eq_false_iff_eq.mpr c25
                    clear c25
                    by_cases c26 : t117 = 2
                    · rw [if_pos c26] at H
                      have c26b0 : (t117 == 2) = true := beq_iff_eq.mpr c26
                      have c26b1 : (t117 != 2) = false := bne_eq_false_iff_eq.mpr c26
                      clear c26
                      obtain rfl := Option.some.inj H
                      go_wp2_with (first | ((with_reducible refine gate_callee (f := 29) rfl ?_); refine goesL_ (some 58) rfl rfl Tryz.func29 (by kernel_rfl) rfl #[.int .i64 7, .int .i64 4] rfl (by (try simp only [List.map_toArray, List.map_cons, List.map_nil]); first | done | rfl | (simp only [List.length_drop, List.length_take]; rfl)) ?_; (with_reducible refine (sign_Rem.calls 7 4 t109 t110 _ A15.out).mono ?_); rintro e w27 ⟨rfl, hb⟩; refine ⟨_, rfl, ?_⟩; have n0_ := Aside0.mk (below_step (by repeat (first | (with_reducible first | exact HB.out | apply below_alloc | apply pw_below_drewN | apply below_drew1) | exact HB.out)) hb); clear HB; have HB := n0_; clear n0_; (try clear hb); (try clear hb2); (try clear hk); (try clear hi)) | ((with_reducible refine gate_callee (f := 29) rfl ?_); refine goesL_ (some 62) rfl rfl Tryz.func29 (by kernel_rfl) rfl #[.int .i64 7, .int .i64 2] rfl (by (try simp only [List.map_toArray, List.map_cons, List.map_nil]); first | done | rfl | (simp only [List.length_drop, List.length_take]; rfl)) ?_; (with_reducible refine (sign_Rem.calls 7 2 t111 t112 _ A16.out).mono ?_); rintro e w28 ⟨rfl, hb⟩; refine ⟨_, rfl, ?_⟩; have n0_ := Aside0.mk (below_step (by repeat (first | (with_reducible first | exact HB.out | apply below_alloc | apply pw_below_drewN | apply below_drew1) | exact HB.out)) hb); clear HB; have HB := n0_; clear n0_; (try clear hb); (try clear hb2); (try clear hk); (try clear hi)) | ((with_reducible refine gate_callee (f := 9) rfl ?_); refine goesL_ (some 66) rfl rfl Tryz.func9 (by kernel_rfl) rfl #[.int .i64 4, .int .i64 7, .int .i64 2] rfl (by (try simp only [List.map_toArray, List.map_cons, List.map_nil]); first | done | rfl | (simp only [List.length_drop, List.length_take]; rfl)) ?_; (with_reducible refine (sign_Refine.calls 4 7 2 t113 t114 t115 _ A17.out).mono ?_); rintro e w29 ⟨rfl, hb⟩; refine ⟨_, rfl, ?_⟩; have n0_ := Aside0.mk (below_step (by repeat (first | (with_reducible first | exact HB.out | apply below_alloc | apply pw_below_drewN | apply below_drew1) | exact HB.out)) hb); clear HB; have HB := n0_; clear n0_; (try clear hb); (try clear hb2); (try clear hk); (try clear hi)) | ((with_reducible refine gate_callee (f := 9) rfl ?_); refine goesL_ (some 71) rfl rfl Tryz.func9 (by kernel_rfl) rfl #[.int .i64 5, .int .i64 6, .int .i64 3] rfl (by (try simp only [List.map_toArray, List.map_cons, List.map_nil]); first | done | rfl | (simp only [List.length_drop, List.length_take]; rfl)) ?_; (with_reducible refine (sign_Refine.calls 5 6 3 t116 t117 t118 _ A18.out).mono ?_); rintro e w30 ⟨rfl, hb⟩; refine ⟨_, rfl, ?_⟩; have n0_ := Aside0.mk (below_step (by repeat (first | (with_reducible first | exact HB.out | apply below_alloc | apply pw_below_drewN | apply below_drew1) | exact HB.out)) hb); clear HB; have HB := n0_; clear n0_; (try clear hb); (try clear hb2); (try clear hk); (try clear hi)) | ((with_reducible refine gate_callee (f := 19) rfl ?_); refine goesL_ (some 76) rfl rfl Tryz.func19 (by kernel_rfl) rfl #[.int .i64 6] rfl (by (try simp only [List.map_toArray, List.map_cons, List.map_nil]); first | done | rfl | (simp only [List.length_drop, List.length_take]; rfl)) ?_; (with_reducible refine (sign_Format.calls 6 t119 t120 _ A19.out).mono ?_); rintro e w31 ⟨rfl, hb⟩; refine ⟨_, rfl, ?_⟩; have n0_ := Aside0.mk (below_step (by repeat (first | (with_reducible first | exact HB.out | apply below_alloc | apply pw_below_drewN | apply below_drew1) | exact HB.out)) hb); clear HB; have HB := n0_; clear n0_; (try clear hb); (try clear hb2); (try clear hk); (try clear hi)))
                      go_ret
                      exact ⟨by first | rfl | (simp [errW_none, errW_some] <;> rfl) | (simp [*, errW_none, errW_some] <;> rfl), by repeat (first | (with_reducible first | exact HB.out | apply below_alloc | apply pw_below_drewN | apply below_drew1) | exact HB.out)⟩
                    · rw [if_neg c26] at H
                      have c26b0 : (t117 == 2) = false := beq_eq_false_iff_ne.mpr c26
                      have c26b1 : (t117 != 2) = true := bne_iff_ne.mpr c26
                      obtain rfl := Option.some.inj H
                      go_wp2_with (first | ((with_reducible refine gate_callee (f := 29) rfl ?_); refine goesL_ (some 58) rfl rfl Tryz.func29 (by kernel_rfl) rfl #[.int .i64 7, .int .i64 4] rfl (by (try simp only [List.map_toArray, List.map_cons, List.map_nil]); first | done | rfl | (simp only [List.length_drop, List.length_take]; rfl)) ?_; (with_reducible refine (sign_Rem.calls 7 4 t109 t110 _ A15.out).mono ?_); rintro e w32 ⟨rfl, hb⟩; refine ⟨_, rfl, ?_⟩; have n0_ := Aside0.mk (below_step (by repeat (first | (with_reducible first | exact HB.out | apply below_alloc | apply pw_below_drewN | apply below_drew1) | exact HB.out)) hb); clear HB; have HB := n0_; clear n0_; (try clear hb); (try clear hb2); (try clear hk); (try clear hi)) | ((with_reducible refine gate_callee (f := 29) rfl ?_); refine goesL_ (some 62) rfl rfl Tryz.func29 (by kernel_rfl) rfl #[.int .i64 7, .int .i64 2] rfl (by (try simp only [List.map_toArray, List.map_cons, List.map_nil]); first | done | rfl | (simp only [List.length_drop, List.length_take]; rfl)) ?_; (with_reducible refine (sign_Rem.calls 7 2 t111 t112 _ A16.out).mono ?_); rintro e w33 ⟨rfl, hb⟩; refine ⟨_, rfl, ?_⟩; have n0_ := Aside0.mk (below_step (by repeat (first | (with_reducible first | exact HB.out | apply below_alloc | apply pw_below_drewN | apply below_drew1) | exact HB.out)) hb); clear HB; have HB := n0_; clear n0_; (try clear hb); (try clear hb2); (try clear hk); (try clear hi)) | ((with_reducible refine gate_callee (f := 9) rfl ?_); refine goesL_ (some 66) rfl rfl Tryz.func9 (by kernel_rfl) rfl #[.int .i64 4, .int .i64 7, .int .i64 2] rfl (by (try simp only [List.map_toArray, List.map_cons, List.map_nil]); first | done | rfl | (simp only [List.length_drop, List.length_take]; rfl)) ?_; (with_reducible refine (sign_Refine.calls 4 7 2 t113 t114 t115 _ A17.out).mono ?_); rintro e w34 ⟨rfl, hb⟩; refine ⟨_, rfl, ?_⟩; have n0_ := Aside0.mk (below_step (by repeat (first | (with_reducible first | exact HB.out | apply below_alloc | apply pw_below_drewN | apply below_drew1) | exact HB.out)) hb); clear HB; have HB := n0_; clear n0_; (try clear hb); (try clear hb2); (try clear hk); (try clear hi)) | ((with_reducible refine gate_callee (f := 9) rfl ?_); refine goesL_ (some 71) rfl rfl Tryz.func9 (by kernel_rfl) rfl #[.int .i64 5, .int .i64 6, .int .i64 3] rfl (by (try simp only [List.map_toArray, List.map_cons, List.map_nil]); first | done | rfl | (simp only [List.length_drop, List.length_take]; rfl)) ?_; (with_reducible refine (sign_Refine.calls 5 6 3 t116 t117 t118 _ A18.out).mono ?_); rintro e w35 ⟨rfl, hb⟩; refine ⟨_, rfl, ?_⟩; have n0_ := Aside0.mk (below_step (by repeat (first | (with_reducible first | exact HB.out | apply below_alloc | apply pw_below_drewN | apply below_drew1) | exact HB.out)) hb); clear HB; have HB := n0_; clear n0_; (try clear hb); (try clear hb2); (try clear hk); (try clear hi)) | ((with_reducible refine gate_callee (f := 19) rfl ?_); refine goesL_ (some 76) rfl rfl Tryz.func19 (by kernel_rfl) rfl #[.int .i64 6] rfl (by (try simp only [List.map_toArray, List.map_cons, List.map_nil]); first | done | rfl | (simp only [List.length_drop, List.length_take]; rfl)) ?_; (with_reducible refine (sign_Format.calls 6 t119 t120 _ A19.out).mono ?_); rintro e w36 ⟨rfl, hb⟩; refine ⟨_, rfl, ?_⟩; have n0_ := Aside0.mk (below_step (by repeat (first | (with_reducible first | exact HB.out | apply below_alloc | apply pw_below_drewN | apply below_drew1) | exact HB.out)) hb); clear HB; have HB := n0_; clear n0_; (try clear hb); (try clear hb2); (try clear hk); (try clear hi)))
                      go_ret
                      exact ⟨by first | rfl | (simp [errW_none, errW_some] <;> rfl) | (simp [*, errW_none, errW_some] <;> rfl), by repeat (first | (with_reducible first | exact HB.out | apply below_alloc | apply pw_below_drewN | apply below_drew1) | exact HB.out)⟩
                  · rw [if_neg c25] at H
                    have c25b0 : (t116 == 2) = false := beq_eq_false_iff_ne.mpr c25
                    have c25b1 : (t116 != 2) = true := bne_iff_ne.mpr c25
                    obtain rfl := Option.some.inj H
                    go_wp2_with (first | ((with_reducible refine gate_callee (f := 29) rfl ?_); refine goesL_ (some 58) rfl rfl Tryz.func29 (by kernel_rfl) rfl #[.int .i64 7, .int .i64 4] rfl (by (try simp only [List.map_toArray, List.map_cons, List.map_nil]); first | done | rfl | (simp only [List.length_drop, List.length_take]; rfl)) ?_; (with_reducible refine (sign_Rem.calls 7 4 t109 t110 _ A15.out).mono ?_); rintro e w37 ⟨rfl, hb⟩; refine ⟨_, rfl, ?_⟩; have n0_ := Aside0.mk (below_step (by repeat (first | (with_reducible first | exact HB.out | apply below_alloc | apply pw_below_drewN | apply below_drew1) | exact HB.out)) hb); clear HB; have HB := n0_; clear n0_; (try clear hb); (try clear hb2); (try clear hk); (try clear hi)) | ((with_reducible refine gate_callee (f := 29) rfl ?_); refine goesL_ (some 62) rfl rfl Tryz.func29 (by kernel_rfl) rfl #[.int .i64 7, .int .i64 2] rfl (by (try simp only [List.map_toArray, List.map_cons, List.map_nil]); first | done | rfl | (simp only [List.length_drop, List.length_take]; rfl)) ?_; (with_reducible refine (sign_Rem.calls 7 2 t111 t112 _ A16.out).mono ?_); rintro e w38 ⟨rfl, hb⟩; refine ⟨_, rfl, ?_⟩; have n0_ := Aside0.mk (below_step (by repeat (first | (with_reducible first | exact HB.out | apply below_alloc | apply pw_below_drewN | apply below_drew1) | exact HB.out)) hb); clear HB; have HB := n0_; clear n0_; (try clear hb); (try clear hb2); (try clear hk); (try clear hi)) | ((with_reducible refine gate_callee (f := 9) rfl ?_); refine goesL_ (some 66) rfl rfl Tryz.func9 (by kernel_rfl) rfl #[.int .i64 4, .int .i64 7, .int .i64 2] rfl (by (try simp only [List.map_toArray, List.map_cons, List.map_nil]); first | done | rfl | (simp only [List.length_drop, List.length_take]; rfl)) ?_; (with_reducible refine (sign_Refine.calls 4 7 2 t113 t114 t115 _ A17.out).mono ?_); rintro e w39 ⟨rfl, hb⟩; refine ⟨_, rfl, ?_⟩; have n0_ := Aside0.mk (below_step (by repeat (first | (with_reducible first | exact HB.out | apply below_alloc | apply pw_below_drewN | apply below_drew1) | exact HB.out)) hb); clear HB; have HB := n0_; clear n0_; (try clear hb); (try clear hb2); (try clear hk); (try clear hi)) | ((with_reducible refine gate_callee (f := 9) rfl ?_); refine goesL_ (some 71) rfl rfl Tryz.func9 (by kernel_rfl) rfl #[.int .i64 5, .int .i64 6, .int .i64 3] rfl (by (try simp only [List.map_toArray, List.map_cons, List.map_nil]); first | done | rfl | (simp only [List.length_drop, List.length_take]; rfl)) ?_; (with_reducible refine (sign_Refine.calls 5 6 3 t116 t117 t118 _ A18.out).mono ?_); rintro e w40 ⟨rfl, hb⟩; refine ⟨_, rfl, ?_⟩; have n0_ := Aside0.mk (below_step (by repeat (first | (with_reducible first | exact HB.out | apply below_alloc | apply pw_below_drewN | apply below_drew1) | exact HB.out)) hb); clear HB; have HB := n0_; clear n0_; (try clear hb); (try clear hb2); (try clear hk); (try clear hi)) | ((with_reducible refine gate_callee (f := 19) rfl ?_); refine goesL_ (some 76) rfl rfl Tryz.func19 (by kernel_rfl) rfl #[.int .i64 6] rfl (by (try simp only [List.map_toArray, List.map_cons, List.map_nil]); first | done | rfl | (simp only [List.length_drop, List.length_take]; rfl)) ?_; (with_reducible refine (sign_Format.calls 6 t119 t120 _ A19.out).mono ?_); rintro e w41 ⟨rfl, hb⟩; refine ⟨_, rfl, ?_⟩; have n0_ := Aside0.mk (below_step (by repeat (first | (with_reducible first | exact HB.out | apply below_alloc | apply pw_below_drewN | apply below_drew1) | exact HB.out)) hb); clear HB; have HB := n0_; clear n0_; (try clear hb); (try clear hb2); (try clear hk); (try clear hi)))
                    go_ret
                    exact ⟨by first | rfl | (simp [errW_none, errW_some] <;> rfl) | (simp [*, errW_none, errW_some] <;> rfl), by repeat (first | (with_reducible first | exact HB.out | apply below_alloc | apply pw_below_drewN | apply below_drew1) | exact HB.out)⟩
                · rw [if_neg c24] at H
                  have c24b0 : (t114 == 2) = false := beq_eq_false_iff_ne.mpr c24
                  have c24b1 : (t114 != 2) = true := bne_iff_ne.mpr c24
                  obtain rfl := Option.some.inj H
                  go_wp2_with (first | ((with_reducible refine gate_callee (f := 29) rfl ?_); refine goesL_ (some 58) rfl rfl Tryz.func29 (by kernel_rfl) rfl #[.int .i64 7, .int .i64 4] rfl (by (try simp only [List.map_toArray, List.map_cons, List.map_nil]); first | done | rfl | (simp only [List.length_drop, List.length_take]; rfl)) ?_; (with_reducible refine (sign_Rem.calls 7 4 t109 t110 _ A15.out).mono ?_); rintro e w42 ⟨rfl, hb⟩; refine ⟨_, rfl, ?_⟩; have n0_ := Aside0.mk (below_step (by repeat (first | (with_reducible first | exact HB.out | apply below_alloc | apply pw_below_drewN | apply below_drew1) | exact HB.out)) hb); clear HB; have HB := n0_; clear n0_; (try clear hb); (try clear hb2); (try clear hk); (try clear hi)) | ((with_reducible refine gate_callee (f := 29) rfl ?_); refine goesL_ (some 62) rfl rfl Tryz.func29 (by kernel_rfl) rfl #[.int .i64 7, .int .i64 2] rfl (by (try simp only [List.map_toArray, List.map_cons, List.map_nil]); first | done | rfl | (simp only [List.length_drop, List.length_take]; rfl)) ?_; (with_reducible refine (sign_Rem.calls 7 2 t111 t112 _ A16.out).mono ?_); rintro e w43 ⟨rfl, hb⟩; refine ⟨_, rfl, ?_⟩; have n0_ := Aside0.mk (below_step (by repeat (first | (with_reducible first | exact HB.out | apply below_alloc | apply pw_below_drewN | apply below_drew1) | exact HB.out)) hb); clear HB; have HB := n0_; clear n0_; (try clear hb); (try clear hb2); (try clear hk); (try clear hi)) | ((with_reducible refine gate_callee (f := 9) rfl ?_); refine goesL_ (some 66) rfl rfl Tryz.func9 (by kernel_rfl) rfl #[.int .i64 4, .int .i64 7, .int .i64 2] rfl (by (try simp only [List.map_toArray, List.map_cons, List.map_nil]); first | done | rfl | (simp only [List.length_drop, List.length_take]; rfl)) ?_; (with_reducible refine (sign_Refine.calls 4 7 2 t113 t114 t115 _ A17.out).mono ?_); rintro e w44 ⟨rfl, hb⟩; refine ⟨_, rfl, ?_⟩; have n0_ := Aside0.mk (below_step (by repeat (first | (with_reducible first | exact HB.out | apply below_alloc | apply pw_below_drewN | apply below_drew1) | exact HB.out)) hb); clear HB; have HB := n0_; clear n0_; (try clear hb); (try clear hb2); (try clear hk); (try clear hi)) | ((with_reducible refine gate_callee (f := 9) rfl ?_); refine goesL_ (some 71) rfl rfl Tryz.func9 (by kernel_rfl) rfl #[.int .i64 5, .int .i64 6, .int .i64 3] rfl (by (try simp only [List.map_toArray, List.map_cons, List.map_nil]); first | done | rfl | (simp only [List.length_drop, List.length_take]; rfl)) ?_; (with_reducible refine (sign_Refine.calls 5 6 3 t116 t117 t118 _ A18.out).mono ?_); rintro e w45 ⟨rfl, hb⟩; refine ⟨_, rfl, ?_⟩; have n0_ := Aside0.mk (below_step (by repeat (first | (with_reducible first | exact HB.out | apply below_alloc | apply pw_below_drewN | apply below_drew1) | exact HB.out)) hb); clear HB; have HB := n0_; clear n0_; (try clear hb); (try clear hb2); (try clear hk); (try clear hi)) | ((with_reducible refine gate_callee (f := 19) rfl ?_); refine goesL_ (some 76) rfl rfl Tryz.func19 (by kernel_rfl) rfl #[.int .i64 6] rfl (by (try simp only [List.map_toArray, List.map_cons, List.map_nil]); first | done | rfl | (simp only [List.length_drop, List.length_take]; rfl)) ?_; (with_reducible refine (sign_Format.calls 6 t119 t120 _ A19.out).mono ?_); rintro e w46 ⟨rfl, hb⟩; refine ⟨_, rfl, ?_⟩; have n0_ := Aside0.mk (below_step (by repeat (first | (with_reducible first | exact HB.out | apply below_alloc | apply pw_below_drewN | apply below_drew1) | exact HB.out)) hb); clear HB; have HB := n0_; clear n0_; (try clear hb); (try clear hb2); (try clear hk); (try clear hi)))
                  go_ret
                  exact ⟨by first | rfl | (simp [errW_none, errW_some] <;> rfl) | (simp [*, errW_none, errW_some] <;> rfl), by repeat (first | (with_reducible first | exact HB.out | apply below_alloc | apply pw_below_drewN | apply below_drew1) | exact HB.out)⟩
              · rw [if_neg c23] at H
                have c23b0 : (t113 == 1) = false := beq_eq_false_iff_ne.mpr c23
                have c23b1 : (t113 != 1) = true := bne_iff_ne.mpr c23
                obtain rfl := Option.some.inj H
                go_wp2_with (first | ((with_reducible refine gate_callee (f := 29) rfl ?_); refine goesL_ (some 58) rfl rfl Tryz.func29 (by kernel_rfl) rfl #[.int .i64 7, .int .i64 4] rfl (by (try simp only [List.map_toArray, List.map_cons, List.map_nil]); first | done | rfl | (simp only [List.length_drop, List.length_take]; rfl)) ?_; (with_reducible refine (sign_Rem.calls 7 4 t109 t110 _ A15.out).mono ?_); rintro e w47 ⟨rfl, hb⟩; refine ⟨_, rfl, ?_⟩; have n0_ := Aside0.mk (below_step (by repeat (first | (with_reducible first | exact HB.out | apply below_alloc | apply pw_below_drewN | apply below_drew1) | exact HB.out)) hb); clear HB; have HB := n0_; clear n0_; (try clear hb); (try clear hb2); (try clear hk); (try clear hi)) | ((with_reducible refine gate_callee (f := 29) rfl ?_); refine goesL_ (some 62) rfl rfl Tryz.func29 (by kernel_rfl) rfl #[.int .i64 7, .int .i64 2] rfl (by (try simp only [List.map_toArray, List.map_cons, List.map_nil]); first | done | rfl | (simp only [List.length_drop, List.length_take]; rfl)) ?_; (with_reducible refine (sign_Rem.calls 7 2 t111 t112 _ A16.out).mono ?_); rintro e w48 ⟨rfl, hb⟩; refine ⟨_, rfl, ?_⟩; have n0_ := Aside0.mk (below_step (by repeat (first | (with_reducible first | exact HB.out | apply below_alloc | apply pw_below_drewN | apply below_drew1) | exact HB.out)) hb); clear HB; have HB := n0_; clear n0_; (try clear hb); (try clear hb2); (try clear hk); (try clear hi)) | ((with_reducible refine gate_callee (f := 9) rfl ?_); refine goesL_ (some 66) rfl rfl Tryz.func9 (by kernel_rfl) rfl #[.int .i64 4, .int .i64 7, .int .i64 2] rfl (by (try simp only [List.map_toArray, List.map_cons, List.map_nil]); first | done | rfl | (simp only [List.length_drop, List.length_take]; rfl)) ?_; (with_reducible refine (sign_Refine.calls 4 7 2 t113 t114 t115 _ A17.out).mono ?_); rintro e w49 ⟨rfl, hb⟩; refine ⟨_, rfl, ?_⟩; have n0_ := Aside0.mk (below_step (by repeat (first | (with_reducible first | exact HB.out | apply below_alloc | apply pw_below_drewN | apply below_drew1) | exact HB.out)) hb); clear HB; have HB := n0_; clear n0_; (try clear hb); (try clear hb2); (try clear hk); (try clear hi)) | ((with_reducible refine gate_callee (f := 9) rfl ?_); refine goesL_ (some 71) rfl rfl Tryz.func9 (by kernel_rfl) rfl #[.int .i64 5, .int .i64 6, .int .i64 3] rfl (by (try simp only [List.map_toArray, List.map_cons, List.map_nil]); first | done | rfl | (simp only [List.length_drop, List.length_take]; rfl)) ?_; (with_reducible refine (sign_Refine.calls 5 6 3 t116 t117 t118 _ A18.out).mono ?_); rintro e w50 ⟨rfl, hb⟩; refine ⟨_, rfl, ?_⟩; have n0_ := Aside0.mk (below_step (by repeat (first | (with_reducible first | exact HB.out | apply below_alloc | apply pw_below_drewN | apply below_drew1) | exact HB.out)) hb); clear HB; have HB := n0_; clear n0_; (try clear hb); (try clear hb2); (try clear hk); (try clear hi)) | ((with_reducible refine gate_callee (f := 19) rfl ?_); refine goesL_ (some 76) rfl rfl Tryz.func19 (by kernel_rfl) rfl #[.int .i64 6] rfl (by (try simp only [List.map_toArray, List.map_cons, List.map_nil]); first | done | rfl | (simp only [List.length_drop, List.length_take]; rfl)) ?_; (with_reducible refine (sign_Format.calls 6 t119 t120 _ A19.out).mono ?_); rintro e w51 ⟨rfl, hb⟩; refine ⟨_, rfl, ?_⟩; have n0_ := Aside0.mk (below_step (by repeat (first | (with_reducible first | exact HB.out | apply below_alloc | apply pw_below_drewN | apply below_drew1) | exact HB.out)) hb); clear HB; have HB := n0_; clear n0_; (try clear hb); (try clear hb2); (try clear hk); (try clear hi)))
                go_ret
                exact ⟨by first | rfl | (simp [errW_none, errW_some] <;> rfl) | (simp [*, errW_none, errW_some] <;> rfl), by repeat (first | (with_reducible first | exact HB.out | apply below_alloc | apply pw_below_drewN | apply below_drew1) | exact HB.out)⟩
            · rw [if_neg c22] at H
              have c22b0 : (t111 == 0) = false := beq_eq_false_iff_ne.mpr c22
              have c22b1 : (t111 != 0) = true := bne_iff_ne.mpr c22
              obtain rfl := Option.some.inj H
              go_wp2_with (first | ((with_reducible refine gate_callee (f := 29) rfl ?_); refine goesL_ (some 58) rfl rfl Tryz.func29 (by kernel_rfl) rfl #[.int .i64 7, .int .i64 4] rfl (by (try simp only [List.map_toArray, List.map_cons, List.map_nil]); first | done | rfl | (simp only [List.length_drop, List.length_take]; rfl)) ?_; (with_reducible refine (sign_Rem.calls 7 4 t109 t110 _ A15.out).mono ?_); rintro e w52 ⟨rfl, hb⟩; refine ⟨_, rfl, ?_⟩; have n0_ := Aside0.mk (below_step (by repeat (first | (with_reducible first | exact HB.out | apply below_alloc | apply pw_below_drewN | apply below_drew1) | exact HB.out)) hb); clear HB; have HB := n0_; clear n0_; (try clear hb); (try clear hb2); (try clear hk); (try clear hi)) | ((with_reducible refine gate_callee (f := 29) rfl ?_); refine goesL_ (some 62) rfl rfl Tryz.func29 (by kernel_rfl) rfl #[.int .i64 7, .int .i64 2] rfl (by (try simp only [List.map_toArray, List.map_cons, List.map_nil]); first | done | rfl | (simp only [List.length_drop, List.length_take]; rfl)) ?_; (with_reducible refine (sign_Rem.calls 7 2 t111 t112 _ A16.out).mono ?_); rintro e w53 ⟨rfl, hb⟩; refine ⟨_, rfl, ?_⟩; have n0_ := Aside0.mk (below_step (by repeat (first | (with_reducible first | exact HB.out | apply below_alloc | apply pw_below_drewN | apply below_drew1) | exact HB.out)) hb); clear HB; have HB := n0_; clear n0_; (try clear hb); (try clear hb2); (try clear hk); (try clear hi)) | ((with_reducible refine gate_callee (f := 9) rfl ?_); refine goesL_ (some 66) rfl rfl Tryz.func9 (by kernel_rfl) rfl #[.int .i64 4, .int .i64 7, .int .i64 2] rfl (by (try simp only [List.map_toArray, List.map_cons, List.map_nil]); first | done | rfl | (simp only [List.length_drop, List.length_take]; rfl)) ?_; (with_reducible refine (sign_Refine.calls 4 7 2 t113 t114 t115 _ A17.out).mono ?_); rintro e w54 ⟨rfl, hb⟩; refine ⟨_, rfl, ?_⟩; have n0_ := Aside0.mk (below_step (by repeat (first | (with_reducible first | exact HB.out | apply below_alloc | apply pw_below_drewN | apply below_drew1) | exact HB.out)) hb); clear HB; have HB := n0_; clear n0_; (try clear hb); (try clear hb2); (try clear hk); (try clear hi)) | ((with_reducible refine gate_callee (f := 9) rfl ?_); refine goesL_ (some 71) rfl rfl Tryz.func9 (by kernel_rfl) rfl #[.int .i64 5, .int .i64 6, .int .i64 3] rfl (by (try simp only [List.map_toArray, List.map_cons, List.map_nil]); first | done | rfl | (simp only [List.length_drop, List.length_take]; rfl)) ?_; (with_reducible refine (sign_Refine.calls 5 6 3 t116 t117 t118 _ A18.out).mono ?_); rintro e w55 ⟨rfl, hb⟩; refine ⟨_, rfl, ?_⟩; have n0_ := Aside0.mk (below_step (by repeat (first | (with_reducible first | exact HB.out | apply below_alloc | apply pw_below_drewN | apply below_drew1) | exact HB.out)) hb); clear HB; have HB := n0_; clear n0_; (try clear hb); (try clear hb2); (try clear hk); (try clear hi)) | ((with_reducible refine gate_callee (f := 19) rfl ?_); refine goesL_ (some 76) rfl rfl Tryz.func19 (by kernel_rfl) rfl #[.int .i64 6] rfl (by (try simp only [List.map_toArray, List.map_cons, List.map_nil]); first | done | rfl | (simp only [List.length_drop, List.length_take]; rfl)) ?_; (with_reducible refine (sign_Format.calls 6 t119 t120 _ A19.out).mono ?_); rintro e w56 ⟨rfl, hb⟩; refine ⟨_, rfl, ?_⟩; have n0_ := Aside0.mk (below_step (by repeat (first | (with_reducible first | exact HB.out | apply below_alloc | apply pw_below_drewN | apply below_drew1) | exact HB.out)) hb); clear HB; have HB := n0_; clear n0_; (try clear hb); (try clear hb2); (try clear hk); (try clear hi)))
              go_ret
              exact ⟨by first | rfl | (simp [errW_none, errW_some] <;> rfl) | (simp [*, errW_none, errW_some] <;> rfl), by repeat (first | (with_reducible first | exact HB.out | apply below_alloc | apply pw_below_drewN | apply below_drew1) | exact HB.out)⟩
          · rw [if_neg c21] at H
            have c21b0 : (t109 == 6) = false := beq_eq_false_iff_ne.mpr c21
            have c21b1 : (t109 != 6) = true := bne_iff_ne.mpr c21
            obtain rfl := Option.some.inj H
            go_wp2_with (first | ((with_reducible refine gate_callee (f := 29) rfl ?_); refine goesL_ (some 58) rfl rfl Tryz.func29 (by kernel_rfl) rfl #[.int .i64 7, .int .i64 4] rfl (by (try simp only [List.map_toArray, List.map_cons, List.map_nil]); first | done | rfl | (simp only [List.length_drop, List.length_take]; rfl)) ?_; (with_reducible refine (sign_Rem.calls 7 4 t109 t110 _ A15.out).mono ?_); rintro e w57 ⟨rfl, hb⟩; refine ⟨_, rfl, ?_⟩; have n0_ := Aside0.mk (below_step (by repeat (first | (with_reducible first | exact HB.out | apply below_alloc | apply pw_below_drewN | apply below_drew1) | exact HB.out)) hb); clear HB; have HB := n0_; clear n0_; (try clear hb); (try clear hb2); (try clear hk); (try clear hi)) | ((with_reducible refine gate_callee (f := 29) rfl ?_); refine goesL_ (some 62) rfl rfl Tryz.func29 (by kernel_rfl) rfl #[.int .i64 7, .int .i64 2] rfl (by (try simp only [List.map_toArray, List.map_cons, List.map_nil]); first | done | rfl | (simp only [List.length_drop, List.length_take]; rfl)) ?_; (with_reducible refine (sign_Rem.calls 7 2 t111 t112 _ A16.out).mono ?_); rintro e w58 ⟨rfl, hb⟩; refine ⟨_, rfl, ?_⟩; have n0_ := Aside0.mk (below_step (by repeat (first | (with_reducible first | exact HB.out | apply below_alloc | apply pw_below_drewN | apply below_drew1) | exact HB.out)) hb); clear HB; have HB := n0_; clear n0_; (try clear hb); (try clear hb2); (try clear hk); (try clear hi)) | ((with_reducible refine gate_callee (f := 9) rfl ?_); refine goesL_ (some 66) rfl rfl Tryz.func9 (by kernel_rfl) rfl #[.int .i64 4, .int .i64 7, .int .i64 2] rfl (by (try simp only [List.map_toArray, List.map_cons, List.map_nil]); first | done | rfl | (simp only [List.length_drop, List.length_take]; rfl)) ?_; (with_reducible refine (sign_Refine.calls 4 7 2 t113 t114 t115 _ A17.out).mono ?_); rintro e w59 ⟨rfl, hb⟩; refine ⟨_, rfl, ?_⟩; have n0_ := Aside0.mk (below_step (by repeat (first | (with_reducible first | exact HB.out | apply below_alloc | apply pw_below_drewN | apply below_drew1) | exact HB.out)) hb); clear HB; have HB := n0_; clear n0_; (try clear hb); (try clear hb2); (try clear hk); (try clear hi)) | ((with_reducible refine gate_callee (f := 9) rfl ?_); refine goesL_ (some 71) rfl rfl Tryz.func9 (by kernel_rfl) rfl #[.int .i64 5, .int .i64 6, .int .i64 3] rfl (by (try simp only [List.map_toArray, List.map_cons, List.map_nil]); first | done | rfl | (simp only [List.length_drop, List.length_take]; rfl)) ?_; (with_reducible refine (sign_Refine.calls 5 6 3 t116 t117 t118 _ A18.out).mono ?_); rintro e w60 ⟨rfl, hb⟩; refine ⟨_, rfl, ?_⟩; have n0_ := Aside0.mk (below_step (by repeat (first | (with_reducible first | exact HB.out | apply below_alloc | apply pw_below_drewN | apply below_drew1) | exact HB.out)) hb); clear HB; have HB := n0_; clear n0_; (try clear hb); (try clear hb2); (try clear hk); (try clear hi)) | ((with_reducible refine gate_callee (f := 19) rfl ?_); refine goesL_ (some 76) rfl rfl Tryz.func19 (by kernel_rfl) rfl #[.int .i64 6] rfl (by (try simp only [List.map_toArray, List.map_cons, List.map_nil]); first | done | rfl | (simp only [List.length_drop, List.length_take]; rfl)) ?_; (with_reducible refine (sign_Format.calls 6 t119 t120 _ A19.out).mono ?_); rintro e w61 ⟨rfl, hb⟩; refine ⟨_, rfl, ?_⟩; have n0_ := Aside0.mk (below_step (by repeat (first | (with_reducible first | exact HB.out | apply below_alloc | apply pw_below_drewN | apply below_drew1) | exact HB.out)) hb); clear HB; have HB := n0_; clear n0_; (try clear hb); (try clear hb2); (try clear hk); (try clear hi)))
            go_ret
            exact ⟨by first | rfl | (simp [errW_none, errW_some] <;> rfl) | (simp [*, errW_none, errW_some] <;> rfl), by repeat (first | (with_reducible first | exact HB.out | apply below_alloc | apply pw_below_drewN | apply below_drew1) | exact HB.out)⟩
        · rw [if_neg c20] at H
          have c20b0 : ((wrap64 ((wrap64 ((wrap64 ((wrap64 (t110 + t112)) + t115)) + t118)) + t120)) == 0) = false := beq_eq_false_iff_ne.mpr c20
          have c20b1 : ((wrap64 ((wrap64 ((wrap64 ((wrap64 (t110 + t112)) + t115)) + t118)) + t120)) != 0) = true := bne_iff_ne.mpr c20
          obtain rfl := Option.some.inj H
          go_wp2_with (first | ((with_reducible refine gate_callee (f := 29) rfl ?_); refine goesL_ (some 58) rfl rfl Tryz.func29 (by kernel_rfl) rfl #[.int .i64 7, .int .i64 4] rfl (by (try simp only [List.map_toArray, List.map_cons, List.map_nil]); first | done | rfl | (simp only [List.length_drop, List.length_take]; rfl)) ?_; (with_reducible refine (sign_Rem.calls 7 4 t109 t110 _ A15.out).mono ?_); rintro e w62 ⟨rfl, hb⟩; refine ⟨_, rfl, ?_⟩; have n0_ := Aside0.mk (below_step (by repeat (first | (with_reducible first | exact HB.out | apply below_alloc | apply pw_below_drewN | apply below_drew1) | exact HB.out)) hb); clear HB; have HB := n0_; clear n0_; (try clear hb); (try clear hb2); (try clear hk); (try clear hi)) | ((with_reducible refine gate_callee (f := 29) rfl ?_); refine goesL_ (some 62) rfl rfl Tryz.func29 (by kernel_rfl) rfl #[.int .i64 7, .int .i64 2] rfl (by (try simp only [List.map_toArray, List.map_cons, List.map_nil]); first | done | rfl | (simp only [List.length_drop, List.length_take]; rfl)) ?_; (with_reducible refine (sign_Rem.calls 7 2 t111 t112 _ A16.out).mono ?_); rintro e w63 ⟨rfl, hb⟩; refine ⟨_, rfl, ?_⟩; have n0_ := Aside0.mk (below_step (by repeat (first | (with_reducible first | exact HB.out | apply below_alloc | apply pw_below_drewN | apply below_drew1) | exact HB.out)) hb); clear HB; have HB := n0_; clear n0_; (try clear hb); (try clear hb2); (try clear hk); (try clear hi)) | ((with_reducible refine gate_callee (f := 9) rfl ?_); refine goesL_ (some 66) rfl rfl Tryz.func9 (by kernel_rfl) rfl #[.int .i64 4, .int .i64 7, .int .i64 2] rfl (by (try simp only [List.map_toArray, List.map_cons, List.map_nil]); first | done | rfl | (simp only [List.length_drop, List.length_take]; rfl)) ?_; (with_reducible refine (sign_Refine.calls 4 7 2 t113 t114 t115 _ A17.out).mono ?_); rintro e w64 ⟨rfl, hb⟩; refine ⟨_, rfl, ?_⟩; have n0_ := Aside0.mk (below_step (by repeat (first | (with_reducible first | exact HB.out | apply below_alloc | apply pw_below_drewN | apply below_drew1) | exact HB.out)) hb); clear HB; have HB := n0_; clear n0_; (try clear hb); (try clear hb2); (try clear hk); (try clear hi)) | ((with_reducible refine gate_callee (f := 9) rfl ?_); refine goesL_ (some 71) rfl rfl Tryz.func9 (by kernel_rfl) rfl #[.int .i64 5, .int .i64 6, .int .i64 3] rfl (by (try simp only [List.map_toArray, List.map_cons, List.map_nil]); first | done | rfl | (simp only [List.length_drop, List.length_take]; rfl)) ?_; (with_reducible refine (sign_Refine.calls 5 6 3 t116 t117 t118 _ A18.out).mono ?_); rintro e w65 ⟨rfl, hb⟩; refine ⟨_, rfl, ?_⟩; have n0_ := Aside0.mk (below_step (by repeat (first | (with_reducible first | exact HB.out | apply below_alloc | apply pw_below_drewN | apply below_drew1) | exact HB.out)) hb); clear HB; have HB := n0_; clear n0_; (try clear hb); (try clear hb2); (try clear hk); (try clear hi)) | ((with_reducible refine gate_callee (f := 19) rfl ?_); refine goesL_ (some 76) rfl rfl Tryz.func19 (by kernel_rfl) rfl #[.int .i64 6] rfl (by (try simp only [List.map_toArray, List.map_cons, List.map_nil]); first | done | rfl | (simp only [List.length_drop, List.length_take]; rfl)) ?_; (with_reducible refine (sign_Format.calls 6 t119 t120 _ A19.out).mono ?_); rintro e w66 ⟨rfl, hb⟩; refine ⟨_, rfl, ?_⟩; have n0_ := Aside0.mk (below_step (by repeat (first | (with_reducible first | exact HB.out | apply below_alloc | apply pw_below_drewN | apply below_drew1) | exact HB.out)) hb); clear HB; have HB := n0_; clear n0_; (try clear hb); (try clear hb2); (try clear hk); (try clear hi)))
          go_ret
          exact ⟨by first | rfl | (simp [errW_none, errW_some] <;> rfl) | (simp [*, errW_none, errW_some] <;> rfl), by repeat (first | (with_reducible first | exact HB.out | apply below_alloc | apply pw_below_drewN | apply below_drew1) | exact HB.out)⟩

/-! ### sign_Of: function 11 -/
def sign_Of.f (a0 : ByteArray) : Option (Int × Int) := (bigint_Sign.f a0).bind fun bt121 => (if bt121.2 = 0 then (if 0 ≤ (wrap64 (bt121.1 + 1)) then (some (shl .i64 1 (wrap64 (bt121.1 + 1)), 0)) else (none)) else (some (0, bt121.2)))
set_option maxHeartbeats 8000000 in
set_option maxRecDepth 100000 in
theorem sign_Of.calls (a0 : ByteArray) (r1 : Int) (r2 : Int) (w : World) (h : sign_Of.f a0 = some (r1, r2)) :
    Calls Tryz.prog 11 #[.string a0] w fun e w' => e = .returned (.tuple #[.int .i64 r1, .int .i64 r2]) ∧ Below w.heap.size w w' := by
  have HB := Aside0.mk (Below.refl w.heap.size w)
  have H : ((bigint_Sign.f a0).bind fun bt121 => (if bt121.2 = 0 then (if 0 ≤ (wrap64 (bt121.1 + 1)) then (some (shl .i64 1 (wrap64 (bt121.1 + 1)), 0)) else (none)) else (some (0, bt121.2)))) = some (r1, r2) := h
  clear h
  replace H := Option.bind_eq_some_iff.mp H
  obtain ⟨⟨t121, t122⟩, A20, H⟩ := H
  replace H : (if t122 = 0 then (if 0 ≤ (wrap64 (t121 + 1)) then (some (shl .i64 1 (wrap64 (t121 + 1)), 0)) else (none)) else (some (0, t122))) = some (r1, r2) := H
  have A2 := Aside0.mk A20
  clear A20
  by_cases c3 : t122 = 0
  · rw [if_pos c3] at H
    have c3b0 : (t122 == 0) = true := beq_iff_eq.mpr c3
    have c3b1 : (t122 != 0) = false := bne_eq_false_iff_eq.mpr c3
    clear c3
    obtain ⟨ji4, hji4⟩ : ∃ j_ : Int, (wrap64 (t121 + 1)) = j_ := ⟨_, rfl⟩
    replace H : (if 0 ≤ (ji4) then (some (shl .i64 1 (ji4), 0)) else (none)) = some (r1, r2) := by first | (rw [hji4] at H; exact H) | (simp only [hji4] at H ⊢; exact H)
    (try rw [hji4] at A2)
    have hji4w : (IntKind.i64.wrap (t121 + 1)) = ji4 := (i64_w _).trans hji4
    by_cases c5 : 0 ≤ (ji4)
    · rw [if_pos c5] at H
      have c5b0 := eq_true c5
      have c5b1 : decide (0 ≤ (ji4)) = true := decide_eq_true c5
      clear c5
      obtain ⟨ji6, hji6⟩ : ∃ j_ : Int, (shl .i64 1 (ji4)) = j_ := ⟨_, rfl⟩
      replace H : (some (ji6, 0)) = some (r1, r2) := by first | (rw [hji6] at H; exact H) | (simp only [hji6] at H ⊢; exact H)
      (try rw [hji6] at A2)
      have hji6_ : (IntKind.i64.wrap (1 * 2 ^ min (ji4).toNat 64)) = ji6 := hji6
      have hji6z : (ji4) ≤ 64 → (IntKind.i64.wrap (1 * 2 ^ (ji4).toNat)) = ji6 := shl_small hji6
      have hji6u : (IntKind.i64.wrap (2 ^ min (ji4).toNat 64)) = ji6 := by have h_ := hji6_; rw [Int.one_mul] at h_; exact h_
      have hji6v : (ji4) ≤ 64 → (IntKind.i64.wrap (2 ^ (ji4).toNat)) = ji6 := fun hle_ => by have h_ := hji6z hle_; rw [Int.one_mul] at h_; exact h_
      have hji6y : (wrap64 (1 * 2 ^ min (ji4).toNat 64)) = ji6 := (i64_w _).symm.trans hji6_
      have hji6x : (ji4) ≤ 64 → (wrap64 (1 * 2 ^ (ji4).toNat)) = ji6 := fun h_ => (i64_w _).symm.trans (hji6z h_)
      simp only [Option.some.injEq, Prod.mk.injEq] at H
      obtain ⟨rfl, rfl⟩ := H
      go_enter Tryz.func11, Tryz.ntmps11
      go_wp2_with (first | ((with_reducible refine gate_callee (f := 37) rfl ?_); refine goesL_ (some 8) rfl rfl Tryz.func37 (by kernel_rfl) rfl #[.string a0] rfl (by (try simp only [List.map_toArray, List.map_cons, List.map_nil]); first | done | rfl | (simp only [List.length_drop, List.length_take]; rfl)) ?_; (with_reducible refine (bigint_Sign.calls a0 t121 t122 _ A2.out).mono ?_); rintro e w7 ⟨rfl, hb⟩; refine ⟨_, rfl, ?_⟩; have n0_ := Aside0.mk (below_step (by repeat (first | (with_reducible first | exact HB.out | apply below_alloc | apply pw_below_drewN | apply below_drew1) | exact HB.out)) hb); clear HB; have HB := n0_; clear n0_; (try clear hb); (try clear hb2); (try clear hk); (try clear hi)))
      go_ret2
      exact ⟨by first | rfl | (simp [errW_none, errW_some] <;> rfl) | (simp only [← hji4, ← hji6]; first | rfl | (simp [errW_none, errW_some] <;> rfl)) | (simp [*, errW_none, errW_some] <;> rfl), by repeat (first | (with_reducible first | exact HB.out | apply below_alloc | apply pw_below_drewN | apply below_drew1) | exact HB.out)⟩
    · rw [if_neg c5] at H
      exact absurd H (by simp)
  · rw [if_neg c3] at H
    have c3b0 : (t122 == 0) = false := beq_eq_false_iff_ne.mpr c3
    have c3b1 : (t122 != 0) = true := bne_iff_ne.mpr c3
    simp only [Option.some.injEq, Prod.mk.injEq] at H
    obtain ⟨rfl, rfl⟩ := H
    go_enter Tryz.func11, Tryz.ntmps11
    go_wp2_with (first | ((with_reducible refine gate_callee (f := 37) rfl ?_); refine goesL_ (some 8) rfl rfl Tryz.func37 (by kernel_rfl) rfl #[.string a0] rfl (by (try simp only [List.map_toArray, List.map_cons, List.map_nil]); first | done | rfl | (simp only [List.length_drop, List.length_take]; rfl)) ?_; (with_reducible refine (bigint_Sign.calls a0 t121 t122 _ A2.out).mono ?_); rintro e w8 ⟨rfl, hb⟩; refine ⟨_, rfl, ?_⟩; have n0_ := Aside0.mk (below_step (by repeat (first | (with_reducible first | exact HB.out | apply below_alloc | apply pw_below_drewN | apply below_drew1) | exact HB.out)) hb); clear HB; have HB := n0_; clear n0_; (try clear hb); (try clear hb2); (try clear hk); (try clear hi)))
    go_ret2
    exact ⟨by first | rfl | (simp [errW_none, errW_some] <;> rfl) | (simp [*, errW_none, errW_some] <;> rfl), by repeat (first | (with_reducible first | exact HB.out | apply below_alloc | apply pw_below_drewN | apply below_drew1) | exact HB.out)⟩

/-! ### surveyorref01_Few: function 13 -/
def surveyorref01_Few.f (a0 : ByteArray) : Option (Bool) := some (decide ((a0.size : Int) ≤ 250))
set_option maxHeartbeats 8000000 in
set_option maxRecDepth 100000 in
theorem surveyorref01_Few.calls (a0 : ByteArray) (r : Bool) (w : World) (h : surveyorref01_Few.f a0 = some r) :
    Calls Tryz.prog 13 #[.string a0] w fun e w' => e = .returned (.bool r) ∧ Drawn0 w w' := by
  have H : (some (decide ((a0.size : Int) ≤ 250))) = some r := h
  clear h
  obtain rfl := Option.some.inj H
  go_enter Tryz.func13, Tryz.ntmps13
  go_wp2
  go_ret
  exact ⟨by first | rfl | (simp; done) | (simp [*]; done), by repeat (first | exact Drawn0.refl _ | apply Drawn0.step)⟩

/-! ### surveyorref01_Form: function 52 -/
mutual
def surveyorref01_Form.j0 : Nat → ByteArray → Int → Bool → Option (Bool)
  | 0, _, _, _ => none
  | k + 1, x0, x3, x14 => if x14 = true then (surveyorref01_Form.j1 k x0 1) else (surveyorref01_Form.j1 k x0 x3)
def surveyorref01_Form.j1 : Nat → ByteArray → Int → Option (Bool)
  | 0, _, _ => none
  | k + 1, x0, x3 => if x3 = (x0.size : Int) then (surveyorref01_Form.j2 k x0 x3 true) else (if 0 ≤ x3 then (if x3 < (x0.size : Int) then (surveyorref01_Form.j2 k x0 x3 ((bt x0 x3) == 48)) else (none)) else (none))
def surveyorref01_Form.j2 : Nat → ByteArray → Int → Bool → Option (Bool)
  | 0, _, _, _ => none
  | k + 1, x0, x3, x24 => if x24 = true then (some false) else (surveyorref01_Form.l0 k x0 x3)
def surveyorref01_Form.l0 : Nat → ByteArray → Int → Option (Bool)
  | 0, _, _ => none
  | k + 1, x0, x4 => if x4 < (x0.size : Int) then (if 0 ≤ x4 then (if (bt x0 x4) < 48 then (some false) else (if (bt x0 x4) > 57 then (some false) else (surveyorref01_Form.l0 k x0 (wrap64 (x4 + 1))))) else (none)) else (some true)
end
def surveyorref01_Form.f (k : Nat) (a0 : ByteArray) : Option (Bool) := if a0.toList = ([48] : List UInt8) then (some true) else (if (a0.size : Int) > 0 then (if 0 < (a0.size : Int) then (surveyorref01_Form.j0 k a0 0 ((bt a0 0) == 45)) else (none)) else (surveyorref01_Form.j0 k a0 0 false))
theorem surveyorref01_Form.mono_l : ∀ k, (∀ y0 y1 y2, LeO (surveyorref01_Form.j0 k y0 y1 y2) (surveyorref01_Form.j0 (k + 1) y0 y1 y2)) ∧ (∀ y0 y1, LeO (surveyorref01_Form.j1 k y0 y1) (surveyorref01_Form.j1 (k + 1) y0 y1)) ∧ (∀ y0 y1 y2, LeO (surveyorref01_Form.j2 k y0 y1 y2) (surveyorref01_Form.j2 (k + 1) y0 y1 y2)) ∧ (∀ y0 y1, LeO (surveyorref01_Form.l0 k y0 y1) (surveyorref01_Form.l0 (k + 1) y0 y1))
  | 0 => ⟨fun _ _ _ r h => by simp [surveyorref01_Form.j0] at h, fun _ _ r h => by simp [surveyorref01_Form.j1] at h, fun _ _ _ r h => by simp [surveyorref01_Form.j2] at h, fun _ _ r h => by simp [surveyorref01_Form.l0] at h⟩
  | k + 1 => by
    obtain ⟨ih0, ih1, ih2, ih3⟩ := surveyorref01_Form.mono_l k
    refine ⟨?_, ?_, ?_, ?_⟩
    · intro y0 y1 y2
      unfold surveyorref01_Form.j0
      repeat' first
      | (with_reducible exact ih0 _ _ _)
      | (with_reducible exact ih1 _ _)
      | (with_reducible exact ih2 _ _ _)
      | (with_reducible exact ih3 _ _)
      | (with_reducible exact LeO.refl _)
      | (with_reducible exact LeO.none _)
      | (with_reducible refine LeO.ite ?_ ?_)
      | (with_reducible refine LeO.bind ?_ (fun _ => ?_))
      | exact ih0 _ _ _
      | exact ih1 _ _
      | exact ih2 _ _ _
      | exact ih3 _ _
      | exact LeO.none _
      | refine LeO.ite ?_ ?_
      | refine LeO.bind ?_ (fun _ => ?_)
    · intro y0 y1
      unfold surveyorref01_Form.j1
      repeat' first
      | (with_reducible exact ih0 _ _ _)
      | (with_reducible exact ih1 _ _)
      | (with_reducible exact ih2 _ _ _)
      | (with_reducible exact ih3 _ _)
      | (with_reducible exact LeO.refl _)
      | (with_reducible exact LeO.none _)
      | (with_reducible refine LeO.ite ?_ ?_)
      | (with_reducible refine LeO.bind ?_ (fun _ => ?_))
      | exact ih0 _ _ _
      | exact ih1 _ _
      | exact ih2 _ _ _
      | exact ih3 _ _
      | exact LeO.none _
      | refine LeO.ite ?_ ?_
      | refine LeO.bind ?_ (fun _ => ?_)
    · intro y0 y1 y2
      unfold surveyorref01_Form.j2
      repeat' first
      | (with_reducible exact ih0 _ _ _)
      | (with_reducible exact ih1 _ _)
      | (with_reducible exact ih2 _ _ _)
      | (with_reducible exact ih3 _ _)
      | (with_reducible exact LeO.refl _)
      | (with_reducible exact LeO.none _)
      | (with_reducible refine LeO.ite ?_ ?_)
      | (with_reducible refine LeO.bind ?_ (fun _ => ?_))
      | exact ih0 _ _ _
      | exact ih1 _ _
      | exact ih2 _ _ _
      | exact ih3 _ _
      | exact LeO.none _
      | refine LeO.ite ?_ ?_
      | refine LeO.bind ?_ (fun _ => ?_)
    · intro y0 y1
      unfold surveyorref01_Form.l0
      repeat' first
      | (with_reducible exact ih0 _ _ _)
      | (with_reducible exact ih1 _ _)
      | (with_reducible exact ih2 _ _ _)
      | (with_reducible exact ih3 _ _)
      | (with_reducible exact LeO.refl _)
      | (with_reducible exact LeO.none _)
      | (with_reducible refine LeO.ite ?_ ?_)
      | (with_reducible refine LeO.bind ?_ (fun _ => ?_))
      | exact ih0 _ _ _
      | exact ih1 _ _
      | exact ih2 _ _ _
      | exact ih3 _ _
      | exact LeO.none _
      | refine LeO.ite ?_ ?_
      | refine LeO.bind ?_ (fun _ => ?_)
theorem surveyorref01_Form.mono : ∀ a0 k, LeO (surveyorref01_Form.f k a0) (surveyorref01_Form.f (k + 1) a0) := by
  intro a0 k
  obtain ⟨ih0, ih1, ih2, ih3⟩ := surveyorref01_Form.mono_l k
  unfold surveyorref01_Form.f
  repeat' first
      | (with_reducible exact ih0 _ _ _)
      | (with_reducible exact ih1 _ _)
      | (with_reducible exact ih2 _ _ _)
      | (with_reducible exact ih3 _ _)
      | (with_reducible exact LeO.refl _)
      | (with_reducible exact LeO.none _)
      | (with_reducible refine LeO.ite ?_ ?_)
      | (with_reducible refine LeO.bind ?_ (fun _ => ?_))
      | exact ih0 _ _ _
      | exact ih1 _ _
      | exact ih2 _ _ _
      | exact ih3 _ _
      | exact LeO.none _
      | refine LeO.ite ?_ ?_
      | refine LeO.bind ?_ (fun _ => ?_)
set_option maxHeartbeats 8000000 in
set_option maxRecDepth 100000 in
theorem surveyorref01_Form.calls (k : Nat) (a0 : ByteArray) (r : Bool) (w : World) (h : surveyorref01_Form.f k a0 = some r) :
    Calls Tryz.prog 52 #[.string a0] w fun e w' => e = .returned (.bool r) ∧ Drawn0 w w' := by
  have H : (if a0.toList = ([48] : List UInt8) then (some true) else (if (a0.size : Int) > 0 then (if 0 < (a0.size : Int) then (surveyorref01_Form.j0 k a0 0 ((bt a0 0) == 45)) else (none)) else (surveyorref01_Form.j0 k a0 0 false))) = some r := h
  clear h
  by_cases c2 : a0.toList = ([48] : List UInt8)
  · rw [if_pos c2] at H
    have c2b0 : (a0.toList == ([48] : List UInt8)) = true := beq_iff_eq.mpr c2
    have c2b1 : (a0.toList != ([48] : List UInt8)) = false := bne_eq_false_iff_eq.mpr c2
    clear c2
    obtain rfl := Option.some.inj H
    go_enter Tryz.func52, Tryz.ntmps52
    go_wp2
    go_ret
    exact ⟨by first | rfl | (simp; done) | (simp [*]; done), by repeat (first | exact Drawn0.refl _ | apply Drawn0.step)⟩
  · rw [if_neg c2] at H
    have c2b0 : (a0.toList == ([48] : List UInt8)) = false := beq_eq_false_iff_ne.mpr c2
    have c2b1 : (a0.toList != ([48] : List UInt8)) = true := bne_iff_ne.mpr c2
    have HC3 := Aside0.mk H
    clear H
    go_enter Tryz.func52, Tryz.ntmps52
    go_upto_region 4 with (fail)
    go_cut [14] (fun v14 wc => ∃ (kq : Nat) (x14_2 : Bool), v14 = .bool x14_2 ∧ Aside0 (surveyorref01_Form.j0 kq a0 0 x14_2 = some r) ∧ Aside0 (kq ≤ k) ∧ Drawn0 w wc)
    case first =>
      have H := HC3.out
      clear HC3
      by_cases c4 : (a0.size : Int) > 0
      · rw [if_pos c4] at H
        have c4b0 : decide (0 < (a0.size : Int)) = true := decide_eq_true c4
        have c4b1 : decide (0 < a0.size) = true := decide_eq_true (by omega)
        clear c4
        (first | rw [c4b0] | (simp only [i64_w, i32_w]; rw [c4b0]) | skip)
        by_cases c5 : 0 < (a0.size : Int)
        · rw [if_pos c5] at H
          have c5b0 : decide (0 < (a0.size : Int)) = true := decide_eq_true c5
          have c5b1 : decide (0 < a0.size) = true := decide_eq_true (by omega)
          clear c5
          have H' := Aside0.mk H
          clear H
          have p6 : 0 ≤ (0 : Int) := (by omega)
          have q6 : 0 < a0.size := (by have : (0 : Int) < (a0.size : Int) := of_decide_eq_true (by first | (with_reducible assumption) | assumption); omega)
          have hx6 : ∀ h : 0 < a0.size, ((a0[0]'h).toNat : Int) = bt a0 0 := bt_at a0 0
          clear p6
          have qi6 : (0 < (a0.size : Int)) = True := eq_true (of_decide_eq_true (by first | (with_reducible assumption) | assumption))
          replace q6 := eq_true q6
          go_wp2
          go_meet
          case rel => exact ⟨_, (((bt a0 0) == 45)), (by first | rfl | (simp; done) | (simp [*]; done)), H', ⟨by first | omega | exact Nat.le_refl _⟩, by repeat (first | exact Drawn0.refl _ | apply Drawn0.step)⟩
        · rw [if_neg c5] at H
          exact absurd H (by simp)
      · rw [if_neg c4] at H
        have c4b0 : decide (0 < (a0.size : Int)) = false := decide_eq_false c4
        have c4b1 : decide (0 < a0.size) = false := decide_eq_false (by omega)
        clear c4
        (first | rw [c4b0] | (simp only [i64_w, i32_w]; rw [c4b0]) | skip)
        have H' := Aside0.mk H
        clear H
        go_wp2
        go_meet
        case rel => exact ⟨_, (false), (by first | rfl | (simp; done) | (simp [*]; done)), H', ⟨by first | omega | exact Nat.le_refl _⟩, by repeat (first | exact Drawn0.refl _ | apply Drawn0.step)⟩
    case rest =>
      clear HC3
      try clear c2
      try clear c2b0
      try clear c2b1
      try clear p2
      try clear c4
      try clear c4b0
      try clear c4b1
      try clear c5
      try clear c5b0
      try clear c5b1
      try clear p6
      try clear q6
      try clear hx6
      try clear qi6
      try clear p6
      try clear q6
      obtain ⟨kq, x14_2, rfl, HA, HJ2, ⟨mc2, rfl⟩⟩ := hcut
      cases kq with
      | zero => exact absurd HA.out (by simp [surveyorref01_Form.j0])
      | succ kj2 =>
        have H := HA.out
        clear HA
        simp only [surveyorref01_Form.j0] at H
        have HC7 := Aside0.mk H
        clear H
        go_upto_if 14 with (fail)
        go_cut [3] (fun v3 wc => ∃ (kq : Nat) (x3_6 : Int), v3 = .int .i64 x3_6 ∧ Aside0 (surveyorref01_Form.j1 kq a0 x3_6 = some r) ∧ Aside0 (kq ≤ kj2) ∧ Drawn0 w wc)
        case first =>
          have H := HC7.out
          clear HC7
          by_cases c8 : x14_2 = true
          · subst c8
            have H1 : (surveyorref01_Form.j1 kj2 a0 1) = some r := by rw [if_pos rfl] at H; exact H
            clear H
            have H := H1
            clear H1
            have H' := Aside0.mk H
            clear H
            go_wp2
            go_meet
            case rel => exact ⟨_, (1), (by first | rfl | (simp; done) | (simp [*]; done)), H', ⟨by have := HJ2.out; first | omega | exact Nat.le_refl _⟩, by repeat (first | exact Drawn0.refl _ | apply Drawn0.step)⟩
          · replace c8 := Bool.eq_false_iff.mpr c8
            subst c8
            have H1 : (surveyorref01_Form.j1 kj2 a0 0) = some r := by rw [if_neg (show ¬ (false = true) by decide)] at H; exact H
            clear H
            have H := H1
            clear H1
            have H' := Aside0.mk H
            clear H
            go_wp2
            go_meet
            case rel => exact ⟨_, (0), (by first | rfl | (simp; done) | (simp [*]; done)), H', ⟨by have := HJ2.out; first | omega | exact Nat.le_refl _⟩, by repeat (first | exact Drawn0.refl _ | apply Drawn0.step)⟩
        case rest =>
          clear HC7
          try clear c2
          try clear c2b0
          try clear c2b1
          try clear p2
          try clear c4
          try clear c4b0
          try clear c4b1
          try clear c5
          try clear c5b0
          try clear c5b1
          try clear p6
          try clear q6
          try clear hx6
          try clear qi6
          try clear c8
          try clear p2
          try clear p6
          try clear q6
          obtain ⟨kq, x3_6, rfl, HA, HJ6, ⟨mc6, rfl⟩⟩ := hcut
          cases kq with
          | zero => exact absurd HA.out (by simp [surveyorref01_Form.j1])
          | succ kj6 =>
            have H := HA.out
            clear HA
            simp only [surveyorref01_Form.j1] at H
            have HC9 := Aside0.mk H
            clear H
            go_upto_region 6 with (fail)
            go_cut [24] (fun v24 wc => ∃ (kq : Nat) (x24_8 : Bool), v24 = .bool x24_8 ∧ Aside0 (surveyorref01_Form.j2 kq a0 x3_6 x24_8 = some r) ∧ Aside0 (kq ≤ kj6) ∧ Drawn0 w wc)
            case first =>
              have H := HC9.out
              clear HC9
              by_cases c10 : x3_6 = (a0.size : Int)
              · rw [if_pos c10] at H
                have c10b0 : (x3_6 == (a0.size : Int)) = true := beq_iff_eq.mpr c10
                have c10b1 : (x3_6 != (a0.size : Int)) = false := bne_eq_false_iff_eq.mpr c10
                clear c10
                (first | rw [c10b0] | (simp only [i64_w, i32_w]; rw [c10b0]) | skip)
                have H' := Aside0.mk H
                clear H
                go_wp2
                go_meet
                case rel => exact ⟨_, (true), (by first | rfl | (simp; done) | (simp [*]; done)), H', ⟨by have := HJ2.out; have := HJ6.out; first | omega | exact Nat.le_refl _⟩, by repeat (first | exact Drawn0.refl _ | apply Drawn0.step)⟩
              · rw [if_neg c10] at H
                have c10b0 : (x3_6 == (a0.size : Int)) = false := beq_eq_false_iff_ne.mpr c10
                have c10b1 : (x3_6 != (a0.size : Int)) = true := bne_iff_ne.mpr c10
                (first | rw [c10b0] | (simp only [i64_w, i32_w]; rw [c10b0]) | skip)
                by_cases c11 : 0 ≤ x3_6
                · rw [if_pos c11] at H
                  have c11b0 : decide (0 ≤ x3_6) = true := decide_eq_true c11
                  clear c11
                  by_cases c12 : x3_6 < (a0.size : Int)
                  · rw [if_pos c12] at H
                    have c12b0 : decide (x3_6 < (a0.size : Int)) = true := decide_eq_true c12
                    clear c12
                    have H' := Aside0.mk H
                    clear H
                    have p13 : 0 ≤ (x3_6 : Int) := of_decide_eq_true (by first | (with_reducible assumption) | assumption)
                    have q13 : x3_6 < (a0.size : Int) := of_decide_eq_true (by first | (with_reducible assumption) | assumption)
                    have hx13 := bt_at a0 x3_6
                    replace p13 := eq_true p13
                    replace q13 := eq_true q13
                    go_wp2
                    go_meet
                    case rel => exact ⟨_, (((bt a0 x3_6) == 48)), (by first | rfl | (simp; done) | (simp [*]; done)), H', ⟨by have := HJ2.out; have := HJ6.out; first | omega | exact Nat.le_refl _⟩, by repeat (first | exact Drawn0.refl _ | apply Drawn0.step)⟩
                  · rw [if_neg c12] at H
                    exact absurd H (by simp)
                · rw [if_neg c11] at H
                  exact absurd H (by simp)
            case rest =>
              clear HC9
              try clear c1
              try clear p1
              try clear q1
              try clear hx1
              try clear c2
              try clear c2b0
              try clear c2b1
              try clear p2
              try clear c4
              try clear c4b0
              try clear c4b1
              try clear c5
              try clear c5b0
              try clear c5b1
              try clear c6
              try clear p6
              try clear q6
              try clear hx6
              try clear qi6
              try clear c8
              try clear c10
              try clear c10b0
              try clear c10b1
              try clear c11
              try clear c11b0
              try clear c12
              try clear c12b0
              try clear p13
              try clear q13
              try clear hx13
              try clear p13
              try clear p2
              try clear p6
              try clear q13
              try clear q6
              obtain ⟨kq, x24_8, rfl, HA, HJ8, ⟨mc8, rfl⟩⟩ := hcut
              cases kq with
              | zero => exact absurd HA.out (by simp [surveyorref01_Form.j2])
              | succ kj8 =>
                have H := HA.out
                clear HA
                simp only [surveyorref01_Form.j2] at H
                by_cases c14 : x24_8 = true
                · subst c14
                  have H1 : (some false) = some r := by rw [if_pos rfl] at H; exact H
                  clear H
                  have H := H1
                  clear H1
                  obtain rfl := Option.some.inj H
                  go_wp2
                  go_ret
                  exact ⟨by first | rfl | (simp; done) | (simp [*]; done), by repeat (first | exact Drawn0.refl _ | apply Drawn0.step)⟩
                · replace c14 := Bool.eq_false_iff.mpr c14
                  subst c14
                  have H1 : (surveyorref01_Form.l0 kj8 a0 x3_6) = some r := by rw [if_neg (show ¬ (false = true) by decide)] at H; exact H
                  clear H
                  have H := H1
                  clear H1
                  have H' := Aside0.mk H
                  clear H
                  go_wp2
                  go_loopg [4] kj8 (fun kq v4 w' => ∃ (x4_4 : Int), v4 = .int .i64 x4_4 ∧ Aside0 (surveyorref01_Form.l0 kq a0 x4_4 = some r) ∧ Aside0 (kq ≤ kj8) ∧ Drawn0 w w')
                  case atStart => exact ⟨(x3_6), (by first | rfl | (simp; done) | (simp [*]; done)), H', ⟨Nat.le_refl _⟩, by repeat (first | exact Drawn0.refl _ | apply Drawn0.step)⟩
                  case round =>
                    clear H'
                    try clear c1
                    try clear p1
                    try clear q1
                    try clear hx1
                    try clear c2
                    try clear c2b0
                    try clear c2b1
                    try clear p2
                    try clear c4
                    try clear c4b0
                    try clear c4b1
                    try clear c5
                    try clear c5b0
                    try clear c5b1
                    try clear c6
                    try clear p6
                    try clear q6
                    try clear hx6
                    try clear qi6
                    try clear c8
                    try clear c10
                    try clear c10b0
                    try clear c10b1
                    try clear c11
                    try clear c11b0
                    try clear c12
                    try clear c12b0
                    try clear p13
                    try clear q13
                    try clear hx13
                    try clear c14
                    try clear p1
                    try clear p13
                    try clear p2
                    try clear p6
                    try clear q1
                    try clear q13
                    try clear q6
                    obtain ⟨x4_4, rfl, HA, HK4, ⟨m4, rfl⟩⟩ := hrel
                    cases gk with
                    | zero => exact absurd HA.out (by simp [surveyorref01_Form.l0])
                    | succ k4 =>
                      have H := HA.out
                      clear HA
                      simp only [surveyorref01_Form.l0] at H
                      by_cases c15 : x4_4 < (a0.size : Int)
                      · rw [if_pos c15] at H
                        have c15b0 : decide (x4_4 < (a0.size : Int)) = true := decide_eq_true c15
                        clear c15
                        by_cases c16 : 0 ≤ x4_4
                        · rw [if_pos c16] at H
                          have c16b0 : decide (0 ≤ x4_4) = true := decide_eq_true c16
                          clear c16
                          by_cases c18 : (bt a0 x4_4) < 48
                          · rw [if_pos c18] at H
                            have c18b0 : decide ((bt a0 x4_4) < 48) = true := decide_eq_true c18
                            clear c18
                            obtain rfl := Option.some.inj H
                            have p17 : 0 ≤ (x4_4 : Int) := of_decide_eq_true (by first | (with_reducible assumption) | assumption)
                            have q17 : x4_4 < (a0.size : Int) := of_decide_eq_true (by first | (with_reducible assumption) | assumption)
                            have hx17 := bt_at a0 x4_4
                            replace p17 := eq_true p17
                            replace q17 := eq_true q17
                            go_wp2
                            go_ret
                            exact ⟨by first | rfl | (simp; done) | (simp [*]; done), by repeat (first | exact Drawn0.refl _ | apply Drawn0.step)⟩
                          · rw [if_neg c18] at H
                            have c18b0 : decide ((bt a0 x4_4) < 48) = false := decide_eq_false c18
                            clear c18
                            by_cases c20 : (bt a0 x4_4) > 57
                            · rw [if_pos c20] at H
                              have c20b0 : decide (57 < (bt a0 x4_4)) = true := decide_eq_true c20
                              clear c20
                              obtain rfl := Option.some.inj H
                              have p17 : 0 ≤ (x4_4 : Int) := of_decide_eq_true (by first | (with_reducible assumption) | assumption)
                              have q17 : x4_4 < (a0.size : Int) := of_decide_eq_true (by first | (with_reducible assumption) | assumption)
                              have hx17 := bt_at a0 x4_4
                              replace p17 := eq_true p17
                              replace q17 := eq_true q17
                              have p19 : 0 ≤ (x4_4 : Int) := of_decide_eq_true (by first | (with_reducible assumption) | assumption)
                              have q19 : x4_4 < (a0.size : Int) := of_decide_eq_true (by first | (with_reducible assumption) | assumption)
                              have hx19 := bt_at a0 x4_4
                              replace p19 := eq_true p19
                              replace q19 := eq_true q19
                              go_wp2
                              go_ret
                              exact ⟨by first | rfl | (simp; done) | (simp [*]; done), by repeat (first | exact Drawn0.refl _ | apply Drawn0.step)⟩
                            · rw [if_neg c20] at H
                              have c20b0 : decide (57 < (bt a0 x4_4)) = false := decide_eq_false c20
                              clear c20
                              have H' := Aside0.mk H
                              clear H
                              have p17 : 0 ≤ (x4_4 : Int) := of_decide_eq_true (by first | (with_reducible assumption) | assumption)
                              have q17 : x4_4 < (a0.size : Int) := of_decide_eq_true (by first | (with_reducible assumption) | assumption)
                              have hx17 := bt_at a0 x4_4
                              replace p17 := eq_true p17
                              replace q17 := eq_true q17
                              have p19 : 0 ≤ (x4_4 : Int) := of_decide_eq_true (by first | (with_reducible assumption) | assumption)
                              have q19 : x4_4 < (a0.size : Int) := of_decide_eq_true (by first | (with_reducible assumption) | assumption)
                              have hx19 := bt_at a0 x4_4
                              replace p19 := eq_true p19
                              replace q19 := eq_true q19
                              go_wp2
                              go_roundg k4
                              case measure => have := HJ2.out; have := HJ6.out; have := HJ8.out; have := HK4.out; omega
                              case rel => exact ⟨(wrap64 (x4_4 + 1)), (by first | rfl | (simp; done) | (simp [*]; done)), H', ⟨by have := HJ2.out; have := HJ6.out; have := HJ8.out; have := HK4.out; omega⟩, by repeat (first | exact Drawn0.refl _ | apply Drawn0.step)⟩
                        · rw [if_neg c16] at H
                          exact absurd H (by simp)
                      · rw [if_neg c15] at H
                        have c15b0 : decide (x4_4 < (a0.size : Int)) = false := decide_eq_false c15
                        clear c15
                        obtain rfl := Option.some.inj H
                        go_wp2
                        go_ret
                        exact ⟨by first | rfl | (simp; done) | (simp [*]; done), by repeat (first | exact Drawn0.refl _ | apply Drawn0.step)⟩

/-! ### surveyorref01_Negative: function 60 -/
def surveyorref01_Negative.f (a0 : ByteArray) : Option (Bool) := if 0 < (a0.size : Int) then (some ((bt a0 0) == 45)) else (none)
set_option maxHeartbeats 8000000 in
set_option maxRecDepth 100000 in
theorem surveyorref01_Negative.calls (a0 : ByteArray) (r : Bool) (w : World) (h : surveyorref01_Negative.f a0 = some r) :
    Calls Tryz.prog 60 #[.string a0] w fun e w' => e = .returned (.bool r) ∧ Drawn0 w w' := by
  have H : (if 0 < (a0.size : Int) then (some ((bt a0 0) == 45)) else (none)) = some r := h
  clear h
  by_cases c2 : 0 < (a0.size : Int)
  · rw [if_pos c2] at H
    have c2b0 : decide (0 < (a0.size : Int)) = true := decide_eq_true c2
    have c2b1 : decide (0 < a0.size) = true := decide_eq_true (by omega)
    clear c2
    obtain rfl := Option.some.inj H
    have p3 : 0 ≤ (0 : Int) := (by omega)
    have q3 : 0 < a0.size := (by have : (0 : Int) < (a0.size : Int) := of_decide_eq_true (by first | (with_reducible assumption) | assumption); omega)
    have hx3 : ∀ h : 0 < a0.size, ((a0[0]'h).toNat : Int) = bt a0 0 := bt_at a0 0
    clear p3
    have qi3 : (0 < (a0.size : Int)) = True := eq_true (of_decide_eq_true (by first | (with_reducible assumption) | assumption))
    replace q3 := eq_true q3
    go_enter Tryz.func60, Tryz.ntmps60
    go_wp2
    go_ret
    exact ⟨by first | rfl | (simp; done) | (simp [*]; done), by repeat (first | exact Drawn0.refl _ | apply Drawn0.step)⟩
  · rw [if_neg c2] at H
    exact absurd H (by simp)

/-! ### surveyorref01_Digits: function 53 -/
def surveyorref01_Digits.f (a0 : ByteArray) : Option (Int) := (surveyorref01_Negative.f a0).bind fun t123 => (if t123 = true then (some (wrap64 ((a0.size : Int) - 1))) else (some (a0.size : Int)))
set_option maxHeartbeats 8000000 in
set_option maxRecDepth 100000 in
theorem surveyorref01_Digits.calls (a0 : ByteArray) (r : Int) (w : World) (h : surveyorref01_Digits.f a0 = some r) :
    Calls Tryz.prog 53 #[.string a0] w fun e w' => e = .returned (.int .i64 r) ∧ Drawn0 w w' := by
  have H : ((surveyorref01_Negative.f a0).bind fun t123 => (if t123 = true then (some (wrap64 ((a0.size : Int) - 1))) else (some (a0.size : Int)))) = some r := h
  clear h
  replace H := Option.bind_eq_some_iff.mp H
  obtain ⟨t123, A20, H⟩ := H
  replace H : (if t123 = true then (some (wrap64 ((a0.size : Int) - 1))) else (some (a0.size : Int))) = some r := H
  have A2 := Aside0.mk A20
  clear A20
  by_cases c3 : t123 = true
  · subst c3
    have H1 : (some (wrap64 ((a0.size : Int) - 1))) = some r := by rw [if_pos rfl] at H; exact H
    clear H
    have H := H1
    clear H1
    obtain rfl := Option.some.inj H
    go_enter Tryz.func53, Tryz.ntmps53
    go_wp2_with (first | ((with_reducible refine gate_callee (f := 60) rfl ?_); refine goesL_ (some 4) rfl rfl Tryz.func60 (by kernel_rfl) rfl #[.string a0] rfl (by (try simp only [List.map_toArray, List.map_cons, List.map_nil]); first | done | rfl | (simp only [List.length_drop, List.length_take]; rfl)) ?_; (with_reducible refine (surveyorref01_Negative.calls a0 true _ A2.out).mono ?_); rintro e w' ⟨rfl, ⟨nd, rfl⟩⟩; refine ⟨_, rfl, ?_⟩))
    go_ret
    exact ⟨by first | rfl | (simp; done) | (simp [*]; done), by repeat (first | exact Drawn0.refl _ | apply Drawn0.step)⟩
  · replace c3 := Bool.eq_false_iff.mpr c3
    subst c3
    have H1 : (some (a0.size : Int)) = some r := by rw [if_neg (show ¬ (false = true) by decide)] at H; exact H
    clear H
    have H := H1
    clear H1
    obtain rfl := Option.some.inj H
    go_enter Tryz.func53, Tryz.ntmps53
    go_wp2_with (first | ((with_reducible refine gate_callee (f := 60) rfl ?_); refine goesL_ (some 4) rfl rfl Tryz.func60 (by kernel_rfl) rfl #[.string a0] rfl (by (try simp only [List.map_toArray, List.map_cons, List.map_nil]); first | done | rfl | (simp only [List.length_drop, List.length_take]; rfl)) ?_; (with_reducible refine (surveyorref01_Negative.calls a0 false _ A2.out).mono ?_); rintro e w' ⟨rfl, ⟨nd, rfl⟩⟩; refine ⟨_, rfl, ?_⟩))
    go_ret
    exact ⟨by first | rfl | (simp; done) | (simp [*]; done), by repeat (first | exact Drawn0.refl _ | apply Drawn0.step)⟩

end Go.Proofs.YtlefniheafefgaaGreatDoor.PSignHolds
