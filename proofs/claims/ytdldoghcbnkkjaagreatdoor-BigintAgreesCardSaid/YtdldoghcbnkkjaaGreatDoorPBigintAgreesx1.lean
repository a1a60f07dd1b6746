-- printed by a program of this session (wip/gprint.py, a patched run of the print) out of the translation. Lean checks it.
import Derived.Test.YtdldoghcbnkkjaaGreatDoorPBigintAgreesx0
namespace Go.Proofs.YtdldoghcbnkkjaaGreatDoor.PBigintAgrees
open Go.RowKit Go.Proofs.YtdldoghcbnkkjaaGreatDoorW.PrintWords Go.Proofs.YtdldoghcbnkkjaaGreatDoorW.PrintLast Go.Proofs.YtdldoghcbnkkjaaGreatDoorW.PrintMore
attribute [local go_sem] max2_int min2_int max_two min_two max_three min_three max_four min_four   -- for this text's walks alone
set_option linter.unusedVariables false
set_option linter.unusedSimpArgs false

/-! ### surveyorlaw01_awake: function 20 -/
mutual
def surveyorlaw01_awake.j0 : Nat → Bool → Option (Bool)
  | 0, _ => none
  | k + 1, x56 => if x56 = true then (some false) else ((bigint_Add.f (⟨#[57, 57, 57, 57, 57, 57, 57, 57, 57, 57, 57, 57, 57, 57, 57, 57, 57, 57, 57, 57]⟩ : ByteArray) (⟨#[49]⟩ : ByteArray)).bind fun bt109 => ((bigint_Mul.f (⟨#[49, 49, 49, 49, 49, 49, 49, 49, 49]⟩ : ByteArray) (⟨#[49, 49, 49, 49, 49, 49, 49, 49, 49]⟩ : ByteArray)).bind fun bt111 => ((bigint_Bezout.f (⟨#[49, 50]⟩ : ByteArray) (⟨#[45, 49, 56]⟩ : ByteArray)).bind fun bt113 => ((bigint_Lcm.f (⟨#[49, 50]⟩ : ByteArray) (⟨#[45, 49, 56]⟩ : ByteArray)).bind fun bt117 => ((bigint_Pow.f (⟨#[50]⟩ : ByteArray) 64).bind fun bt119 => (if (wrap64 ((wrap64 ((wrap64 ((wrap64 (bt109.2 + bt111.2)) + bt113.2.2.2)) + bt117.2)) + bt119.2)) = 0 then (if bt109.1.toList = ([49, 48, 48, 48, 48, 48, 48, 48, 48, 48, 48, 48, 48, 48, 48, 48, 48, 48, 48, 48, 48] : List UInt8) then (if bt111.1.toList = ([49, 50, 51, 52, 53, 54, 55, 56, 57, 56, 55, 54, 53, 52, 51, 50, 49] : List UInt8) then (if bt113.1.toList = ([54] : List UInt8) then (if bt113.2.1.toList = ([50] : List UInt8) then (if bt113.2.2.1.toList = ([49] : List UInt8) then (if bt117.1.toList = ([51, 54] : List UInt8) then (surveyorlaw01_awake.j1 k (bt119.1.toList != ([49, 56, 52, 52, 54, 55, 52, 52, 48, 55, 51, 55, 48, 57, 53, 53, 49, 54, 49, 54] : List UInt8))) else (surveyorlaw01_awake.j1 k true)) else (surveyorlaw01_awake.j1 k true)) else (surveyorlaw01_awake.j1 k true)) else (surveyorlaw01_awake.j1 k true)) else (surveyorlaw01_awake.j1 k true)) else (surveyorlaw01_awake.j1 k true)) else (surveyorlaw01_awake.j1 k true)))))))
def surveyorlaw01_awake.j1 : Nat → Bool → Option (Bool)
  | 0, _ => none
  | k + 1, x116 => if x116 = true then (some false) else ((bigint_Check.f (⟨#[45, 48]⟩ : ByteArray)).bind fun t121 => (if t121 = 3 then ((bigint_Check.f (⟨#[48, 48, 55]⟩ : ByteArray)).bind fun t122 => (if t122 = 3 then ((bigint_Check.f (⟨#[45, 49, 50]⟩ : ByteArray)).bind fun t123 => (some (t123 == 0))) else (some false))) else (some false)))
end
def surveyorlaw01_awake.f (k : Nat)  : Option (Bool) := (bigint_Quo.f (⟨#[45, 55]⟩ : ByteArray) (⟨#[50]⟩ : ByteArray)).bind fun bt101 => ((bigint_Rem.f (⟨#[45, 55]⟩ : ByteArray) (⟨#[50]⟩ : ByteArray)).bind fun bt103 => ((bigint_Quo.f (⟨#[55]⟩ : ByteArray) (⟨#[45, 50]⟩ : ByteArray)).bind fun bt105 => ((bigint_Rem.f (⟨#[55]⟩ : ByteArray) (⟨#[45, 50]⟩ : ByteArray)).bind fun bt107 => (if (wrap64 ((wrap64 ((wrap64 (bt101.2 + bt103.2)) + bt105.2)) + bt107.2)) = 0 then (if bt101.1.toList = ([45, 52] : List UInt8) then (if bt103.1.toList = ([49] : List UInt8) then (if bt105.1.toList = ([45, 52] : List UInt8) then (surveyorlaw01_awake.j0 k (bt107.1.toList != ([45, 49] : List UInt8))) else (surveyorlaw01_awake.j0 k true)) else (surveyorlaw01_awake.j0 k true)) else (surveyorlaw01_awake.j0 k true)) else (surveyorlaw01_awake.j0 k true)))))
theorem surveyorlaw01_awake.mono_l : ∀ k, (∀ y0, LeO (surveyorlaw01_awake.j0 k y0) (surveyorlaw01_awake.j0 (k + 1) y0)) ∧ (∀ y0, LeO (surveyorlaw01_awake.j1 k y0) (surveyorlaw01_awake.j1 (k + 1) y0))
  | 0 => ⟨fun _ r h => by simp [surveyorlaw01_awake.j0] at h, fun _ r h => by simp [surveyorlaw01_awake.j1] at h⟩
  | k + 1 => by
    obtain ⟨ih0, ih1⟩ := surveyorlaw01_awake.mono_l k
    refine ⟨?_, ?_⟩
    · intro y0
      unfold surveyorlaw01_awake.j0
      repeat' first
      | (with_reducible exact ih0 _)
      | (with_reducible exact ih1 _)
      | (with_reducible exact LeO.refl _)
      | (with_reducible exact LeO.none _)
      | (with_reducible refine LeO.ite ?_ ?_)
      | (with_reducible refine LeO.bind ?_ (fun _ => ?_))
      | exact ih0 _
      | exact ih1 _
      | exact LeO.none _
      | refine LeO.ite ?_ ?_
      | refine LeO.bind ?_ (fun _ => ?_)
    · intro y0
      unfold surveyorlaw01_awake.j1
      repeat' first
      | (with_reducible exact ih0 _)
      | (with_reducible exact ih1 _)
      | (with_reducible exact LeO.refl _)
      | (with_reducible exact LeO.none _)
      | (with_reducible refine LeO.ite ?_ ?_)
      | (with_reducible refine LeO.bind ?_ (fun _ => ?_))
      | exact ih0 _
      | exact ih1 _
      | exact LeO.none _
      | refine LeO.ite ?_ ?_
      | refine LeO.bind ?_ (fun _ => ?_)
theorem surveyorlaw01_awake.mono : ∀ k, LeO (surveyorlaw01_awake.f k ) (surveyorlaw01_awake.f (k + 1) ) := by
  intro  k
  obtain ⟨ih0, ih1⟩ := surveyorlaw01_awake.mono_l k
  unfold surveyorlaw01_awake.f
  repeat' first
      | (with_reducible exact ih0 _)
      | (with_reducible exact ih1 _)
      | (with_reducible exact LeO.refl _)
      | (with_reducible exact LeO.none _)
      | (with_reducible refine LeO.ite ?_ ?_)
      | (with_reducible refine LeO.bind ?_ (fun _ => ?_))
      | exact ih0 _
      | exact ih1 _
      | exact LeO.none _
      | refine LeO.ite ?_ ?_
      | refine LeO.bind ?_ (fun _ => ?_)
set_option maxHeartbeats 8000000 in
set_option maxRecDepth 100000 in
theorem surveyorlaw01_awake.calls (k : Nat)  (r : Bool) (w : World) (hG : GW w) (h : surveyorlaw01_awake.f k  = some r) :
    Calls Tryz.prog 20 #[] w fun e w' => e = .returned (.bool r) ∧ Below w.heap.size w w' := by
  have HG := Aside0.mk hG
  clear hG
  have HB := Aside0.mk (Below.refl w.heap.size w)
  have H : ((bigint_Quo.f (⟨#[45, 55]⟩ : ByteArray) (⟨#[50]⟩ : ByteArray)).bind fun bt101 => ((bigint_Rem.f (⟨#[45, 55]⟩ : ByteArray) (⟨#[50]⟩ : ByteArray)).bind fun bt103 => ((bigint_Quo.f (⟨#[55]⟩ : ByteArray) (⟨#[45, 50]⟩ : ByteArray)).bind fun bt105 => ((bigint_Rem.f (⟨#[55]⟩ : ByteArray) (⟨#[45, 50]⟩ : ByteArray)).bind fun bt107 => (if (wrap64 ((wrap64 ((wrap64 (bt101.2 + bt103.2)) + bt105.2)) + bt107.2)) = 0 then (if bt101.1.toList = ([45, 52] : List UInt8) then (if bt103.1.toList = ([49] : List UInt8) then (if bt105.1.toList = ([45, 52] : List UInt8) then (surveyorlaw01_awake.j0 k (bt107.1.toList != ([45, 49] : List UInt8))) else (surveyorlaw01_awake.j0 k true)) else (surveyorlaw01_awake.j0 k true)) else (surveyorlaw01_awake.j0 k true)) else (surveyorlaw01_awake.j0 k true)))))) = some r := h
  clear h
  replace H := Option.bind_eq_some_iff.mp H
  obtain ⟨⟨t101, t102⟩, A10, H⟩ := H
  replace H : ((bigint_Rem.f (⟨#[45, 55]⟩ : ByteArray) (⟨#[50]⟩ : ByteArray)).bind fun bt103 => ((bigint_Quo.f (⟨#[55]⟩ : ByteArray) (⟨#[45, 50]⟩ : ByteArray)).bind fun bt105 => ((bigint_Rem.f (⟨#[55]⟩ : ByteArray) (⟨#[45, 50]⟩ : ByteArray)).bind fun bt107 => (if (wrap64 ((wrap64 ((wrap64 (t102 + bt103.2)) + bt105.2)) + bt107.2)) = 0 then (if t101.toList = ([45, 52] : List UInt8) then (if bt103.1.toList = ([49] : List UInt8) then (if bt105.1.toList = ([45, 52] : List UInt8) then (surveyorlaw01_awake.j0 k (bt107.1.toList != ([45, 49] : List UInt8))) else (surveyorlaw01_awake.j0 k true)) else (surveyorlaw01_awake.j0 k true)) else (surveyorlaw01_awake.j0 k true)) else (surveyorlaw01_awake.j0 k true))))) = some r := H
  have A1 := Aside0.mk A10
  clear A10
  replace H := Option.bind_eq_some_iff.mp H
  obtain ⟨⟨t103, t104⟩, A20, H⟩ := H
  replace H : ((bigint_Quo.f (⟨#[55]⟩ : ByteArray) (⟨#[45, 50]⟩ : ByteArray)).bind fun bt105 => ((bigint_Rem.f (⟨#[55]⟩ : ByteArray) (⟨#[45, 50]⟩ : ByteArray)).bind fun bt107 => (if (wrap64 ((wrap64 ((wrap64 (t102 + t104)) + bt105.2)) + bt107.2)) = 0 then (if t101.toList = ([45, 52] : List UInt8) then (if t103.toList = ([49] : List UInt8) then (if bt105.1.toList = ([45, 52] : List UInt8) then (surveyorlaw01_awake.j0 k (bt107.1.toList != ([45, 49] : List UInt8))) else (surveyorlaw01_awake.j0 k true)) else (surveyorlaw01_awake.j0 k true)) else (surveyorlaw01_awake.j0 k true)) else (surveyorlaw01_awake.j0 k true)))) = some r := H
  have A2 := Aside0.mk A20
  clear A20
  replace H := Option.bind_eq_some_iff.mp H
  obtain ⟨⟨t105, t106⟩, A30, H⟩ := H
  replace H : ((bigint_Rem.f (⟨#[55]⟩ : ByteArray) (⟨#[45, 50]⟩ : ByteArray)).bind fun bt107 => (if (wrap64 ((wrap64 ((wrap64 (t102 + t104)) + t106)) + bt107.2)) = 0 then (if t101.toList = ([45, 52] : List UInt8) then (if t103.toList = ([49] : List UInt8) then (if t105.toList = ([45, 52] : List UInt8) then (surveyorlaw01_awake.j0 k (bt107.1.toList != ([45, 49] : List UInt8))) else (surveyorlaw01_awake.j0 k true)) else (surveyorlaw01_awake.j0 k true)) else (surveyorlaw01_awake.j0 k true)) else (surveyorlaw01_awake.j0 k true))) = some r := H
  have A3 := Aside0.mk A30
  clear A30
  replace H := Option.bind_eq_some_iff.mp H
  obtain ⟨⟨t107, t108⟩, A40, H⟩ := H
  replace H : (if (wrap64 ((wrap64 ((wrap64 (t102 + t104)) + t106)) + t108)) = 0 then (if t101.toList = ([45, 52] : List UInt8) then (if t103.toList = ([49] : List UInt8) then (if t105.toList = ([45, 52] : List UInt8) then (surveyorlaw01_awake.j0 k (t107.toList != ([45, 49] : List UInt8))) else (surveyorlaw01_awake.j0 k true)) else (surveyorlaw01_awake.j0 k true)) else (surveyorlaw01_awake.j0 k true)) else (surveyorlaw01_awake.j0 k true)) = some r := H
  have A4 := Aside0.mk A40
  clear A40
  have HC5 := Aside0.mk H
  clear H
  go_enter Tryz.func20, Tryz.ntmps20
  go_upto_region 5 with (first | ((with_reducible refine gate_callee (f := 21) rfl ?_); refine goesL_ (some 18) rfl rfl Tryz.func21 (by kernel_rfl) rfl #[.string (⟨#[45, 55]⟩ : ByteArray), .string (⟨#[50]⟩ : ByteArray)] rfl (by (try simp only [List.map_toArray, List.map_cons, List.map_nil]); first | done | rfl | (simp only [List.length_drop, List.length_take]; rfl)) ?_; (with_reducible refine (bigint_Quo.calls (hG := HG.out.below (by repeat (first | (with_reducible first | exact HB.out | apply below_alloc | apply pw_below_drewN | apply below_drew1) | exact HB.out))) (⟨#[45, 55]⟩ : ByteArray) (⟨#[50]⟩ : ByteArray) t101 t102 _ A1.out).mono ?_); rintro e w6 ⟨rfl, hb⟩; refine ⟨_, rfl, ?_⟩; have n0_ := Aside0.mk (below_step (by repeat (first | (with_reducible first | exact HB.out | apply below_alloc | apply pw_below_drewN | apply below_drew1) | exact HB.out)) hb); clear HB; have HB := n0_; clear n0_; (try clear hb); (try clear hb2); (try clear hk); (try clear hi)) | ((with_reducible refine gate_callee (f := 23) rfl ?_); refine goesL_ (some 22) rfl rfl Tryz.func23 (by kernel_rfl) rfl #[.string (⟨#[45, 55]⟩ : ByteArray), .string (⟨#[50]⟩ : ByteArray)] rfl (by (try simp only [List.map_toArray, List.map_cons, List.map_nil]); first | done | rfl | (simp only [List.length_drop, List.length_take]; rfl)) ?_; (with_reducible refine (bigint_Rem.calls (hG := HG.out.below (by repeat (first | (with_reducible first | exact HB.out | apply below_alloc | apply pw_below_drewN | apply below_drew1) | exact HB.out))) (⟨#[45, 55]⟩ : ByteArray) (⟨#[50]⟩ : ByteArray) t103 t104 _ A2.out).mono ?_); rintro e w7 ⟨rfl, hb⟩; refine ⟨_, rfl, ?_⟩; have n0_ := Aside0.mk (below_step (by repeat (first | (with_reducible first | exact HB.out | apply below_alloc | apply pw_below_drewN | apply below_drew1) | exact HB.out)) hb); clear HB; have HB := n0_; clear n0_; (try clear hb); (try clear hb2); (try clear hk); (try clear hi)) | ((with_reducible refine gate_callee (f := 21) rfl ?_); refine goesL_ (some 26) rfl rfl Tryz.func21 (by kernel_rfl) rfl #[.string (⟨#[55]⟩ : ByteArray), .string (⟨#[45, 50]⟩ : ByteArray)] rfl (by (try simp only [List.map_toArray, List.map_cons, List.map_nil]); first | done | rfl | (simp only [List.length_drop, List.length_take]; rfl)) ?_; (with_reducible refine (bigint_Quo.calls (hG := HG.out.below (by repeat (first | (with_reducible first | exact HB.out | apply below_alloc | apply pw_below_drewN | apply below_drew1) | exact HB.out))) (⟨#[55]⟩ : ByteArray) (⟨#[45, 50]⟩ : ByteArray) t105 t106 _ A3.out).mono ?_); rintro e w8 ⟨rfl, hb⟩; refine ⟨_, rfl, ?_⟩; have n0_ := Aside0.mk (below_step (by repeat (first | (with_reducible first | exact HB.out | apply below_alloc | apply pw_below_drewN | apply below_drew1) | exact HB.out)) hb); clear HB; have HB := n0_; clear n0_; (try clear hb); (try clear hb2); (try clear hk); (try clear hi)) | ((with_reducible refine gate_callee (f := 23) rfl ?_); refine goesL_ (some 30) rfl rfl Tryz.func23 (by kernel_rfl) rfl #[.string (⟨#[55]⟩ : ByteArray), .string (⟨#[45, 50]⟩ : ByteArray)] rfl (by (try simp only [List.map_toArray, List.map_cons, List.map_nil]); first | done | rfl | (simp only [List.length_drop, List.length_take]; rfl)) ?_; (with_reducible refine (bigint_Rem.calls (hG := HG.out.below (by repeat (first | (with_reducible first | exact HB.out | apply below_alloc | apply pw_below_drewN | apply below_drew1) | exact HB.out))) (⟨#[55]⟩ : ByteArray) (⟨#[45, 50]⟩ : ByteArray) t107 t108 _ A4.out).mono ?_); rintro e w9 ⟨rfl, hb⟩; refine ⟨_, rfl, ?_⟩; have n0_ := Aside0.mk (below_step (by repeat (first | (with_reducible first | exact HB.out | apply below_alloc | apply pw_below_drewN | apply below_drew1) | exact HB.out)) hb); clear HB; have HB := n0_; clear n0_; (try clear hb); (try clear hb2); (try clear hk); (try clear hi)))
  (try simp only [Act.put, List.setIfInBounds_toArray, List.set_cons_zero, List.set_cons_succ])
  go_cut [56] (fun v56 wc => ∃ (kq : Nat) (x56_4 : Bool), v56 = .bool x56_4 ∧ Aside0 (surveyorlaw01_awake.j0 kq x56_4 = some r) ∧ Aside0 (kq ≤ k) ∧ Aside0 (Below w.heap.size w wc))
  case first =>
    have H := HC5.out
    clear HC5
    by_cases c10 : (wrap64 ((wrap64 ((wrap64 (t102 + t104)) + t106)) + t108)) = 0
    · rw [if_pos c10] at H
      have c10b0 : ((wrap64 ((wrap64 ((wrap64 (t102 + t104)) + t106)) + t108)) == 0) = true := beq_iff_eq.mpr c10
      have c10b1 : ((wrap64 ((wrap64 ((wrap64 (t102 + t104)) + t106)) + t108)) != 0) = false := bne_eq_false_iff_eq.mpr c10
      clear c10
      (first | rw [c10b0] | (simp only [i64_w, i32_w]; rw [c10b0]) | skip)
      by_cases c11 : t101.toList = ([45, 52] : List UInt8)
      · rw [if_pos c11] at H
        have c11b0 : (t101.toList == ([45, 52] : List UInt8)) = true := beq_iff_eq.mpr c11
        have c11b1 : (t101.toList != ([45, 52] : List UInt8)) = false := bne_eq_false_iff_eq.mpr c11
        clear c11
        by_cases c12 : t103.toList = ([49] : List UInt8)
        · rw [if_pos c12] at H
          have c12b0 : (t103.toList == ([49] : List UInt8)) = true := beq_iff_eq.mpr c12
          have c12b1 : (t103.toList != ([49] : List UInt8)) = false := bne_eq_false_iff_eq.mpr c12
          clear c12
          by_cases c13 : t105.toList = ([45, 52] : List UInt8)
          · rw [if_pos c13] at H
            have c13b0 : (t105.toList == ([45, 52] : List UInt8)) = true := beq_iff_eq.mpr c13
            have c13b1 : (t105.toList != ([45, 52] : List UInt8)) = false := bne_eq_false_iff_eq.mpr c13
            clear c13
            have H' := Aside0.mk H
            clear H
            go_wp2
            go_meet
            case rel => exact ⟨_, ((t107.toList != ([45, 49] : List UInt8))), (by first | rfl | (simp; done) | (simp [*]; done)), H', ⟨by first | omega | exact Nat.le_refl _⟩, ⟨by repeat (first | (with_reducible first | exact HB.out | apply below_alloc | apply pw_below_drewN | apply below_drew1) | exact HB.out)⟩⟩
          · rw [if_neg c13] at H
            have c13b0 : (t105.toList == ([45, 52] : List UInt8)) = false := beq_eq_false_iff_ne.mpr c13
            have c13b1 : (t105.toList != ([45, 52] : List UInt8)) = true := bne_iff_ne.mpr c13
            have H' := Aside0.mk H
            clear H
            go_wp2
            go_meet
            case rel => exact ⟨_, (true), (by first | rfl | (simp; done) | (simp [*]; done)), H', ⟨by first | omega | exact Nat.le_refl _⟩, ⟨by repeat (first | (with_reducible first | exact HB.out | apply below_alloc | apply pw_below_drewN | apply below_drew1) | exact HB.out)⟩⟩
        · rw [if_neg c12] at H
          have c12b0 : (t103.toList == ([49] : List UInt8)) = false := beq_eq_false_iff_ne.mpr c12
          have c12b1 : (t103.toList != ([49] : List UInt8)) = true := bne_iff_ne.mpr c12
          have H' := Aside0.mk H
          clear H
          go_wp2
          go_meet
          case rel => exact ⟨_, (true), (by first | rfl | (simp; done) | (simp [*]; done)), H', ⟨by first | omega | exact Nat.le_refl _⟩, ⟨by repeat (first | (with_reducible first | exact HB.out | apply below_alloc | apply pw_below_drewN | apply below_drew1) | exact HB.out)⟩⟩
      · rw [if_neg c11] at H
        have c11b0 : (t101.toList == ([45, 52] : List UInt8)) = false := beq_eq_false_iff_ne.mpr c11
        have c11b1 : (t101.toList != ([45, 52] : List UInt8)) = true := bne_iff_ne.mpr c11
        have H' := Aside0.mk H
        clear H
        go_wp2
        go_meet
        case rel => exact ⟨_, (true), (by first | rfl | (simp; done) | (simp [*]; done)), H', ⟨by first | omega | exact Nat.le_refl _⟩, ⟨by repeat (first | (with_reducible first | exact HB.out | apply below_alloc | apply pw_below_drewN | apply below_drew1) | exact HB.out)⟩⟩
    · rw [if_neg c10] at H
      have c10b0 : ((wrap64 ((wrap64 ((wrap64 (t102 + t104)) + t106)) + t108)) == 0) = false := beq_eq_false_iff_ne.mpr c10
      have c10b1 : ((wrap64 ((wrap64 ((wrap64 (t102 + t104)) + t106)) + t108)) != 0) = true := bne_iff_ne.mpr c10
      (first | rw [c10b0] | (simp only [i64_w, i32_w]; rw [c10b0]) | skip)
      have H' := Aside0.mk H
      clear H
      go_wp2
      go_meet
      case rel => exact ⟨_, (true), (by first | rfl | (simp; done) | (simp [*]; done)), H', ⟨by first | omega | exact Nat.le_refl _⟩, ⟨by repeat (first | (with_reducible first | exact HB.out | apply below_alloc | apply pw_below_drewN | apply below_drew1) | exact HB.out)⟩⟩
  case rest =>
    clear HC5
    try clear c1
    try clear c2
    try clear p2
    try clear p6
    try clear c10
    try clear c10b0
    try clear c10b1
    try clear c11
    try clear c11b0
    try clear c11b1
    try clear c12
    try clear c12b0
    try clear c12b1
    try clear c13
    try clear c13b0
    try clear c13b1
    obtain ⟨kq, x56_4, rfl, HA, HJ4, HB⟩ := hcut
    cases kq with
    | zero => exact absurd HA.out (by simp [surveyorlaw01_awake.j0])
    | succ kj4 =>
      have H := HA.out
      clear HA
      simp only [surveyorlaw01_awake.j0] at H
      by_cases c14 : x56_4 = true
      · subst c14
        have H1 : (some false) = some r := by rw [if_pos rfl] at H; exact H
        clear H
        have H := H1
        clear H1
        obtain rfl := Option.some.inj H
        go_wp2
        go_ret
        exact ⟨by first | rfl | (simp [errW_none, errW_some] <;> rfl) | (simp [*, errW_none, errW_some] <;> rfl), by repeat (first | (with_reducible first | exact HB.out | apply below_alloc | apply pw_below_drewN | apply below_drew1) | exact HB.out)⟩
      · replace c14 := Bool.eq_false_iff.mpr c14
        subst c14
        have H1 : ((bigint_Add.f (⟨#[57, 57, 57, 57, 57, 57, 57, 57, 57, 57, 57, 57, 57, 57, 57, 57, 57, 57, 57, 57]⟩ : ByteArray) (⟨#[49]⟩ : ByteArray)).bind fun bt109 => ((bigint_Mul.f (⟨#[49, 49, 49, 49, 49, 49, 49, 49, 49]⟩ : ByteArray) (⟨#[49, 49, 49, 49, 49, 49, 49, 49, 49]⟩ : ByteArray)).bind fun bt111 => ((bigint_Bezout.f (⟨#[49, 50]⟩ : ByteArray) (⟨#[45, 49, 56]⟩ : ByteArray)).bind fun bt113 => ((bigint_Lcm.f (⟨#[49, 50]⟩ : ByteArray) (⟨#[45, 49, 56]⟩ : ByteArray)).bind fun bt117 => ((bigint_Pow.f (⟨#[50]⟩ : ByteArray) 64).bind fun bt119 => (if (wrap64 ((wrap64 ((wrap64 ((wrap64 (bt109.2 + bt111.2)) + bt113.2.2.2)) + bt117.2)) + bt119.2)) = 0 then (if bt109.1.toList = ([49, 48, 48, 48, 48, 48, 48, 48, 48, 48, 48, 48, 48, 48, 48, 48, 48, 48, 48, 48, 48] : List UInt8) then (if bt111.1.toList = ([49, 50, 51, 52, 53, 54, 55, 56, 57, 56, 55, 54, 53, 52, 51, 50, 49] : List UInt8) then (if bt113.1.toList = ([54] : List UInt8) then (if bt113.2.1.toList = ([50] : List UInt8) then (if bt113.2.2.1.toList = ([49] : List UInt8) then (if bt117.1.toList = ([51, 54] : List UInt8) then (surveyorlaw01_awake.j1 kj4 (bt119.1.toList != ([49, 56, 52, 52, 54, 55, 52, 52, 48, 55, 51, 55, 48, 57, 53, 53, 49, 54, 49, 54] : List UInt8))) else (surveyorlaw01_awake.j1 kj4 true)) else (surveyorlaw01_awake.j1 kj4 true)) else (surveyorlaw01_awake.j1 kj4 true)) else (surveyorlaw01_awake.j1 kj4 true)) else (surveyorlaw01_awake.j1 kj4 true)) else (surveyorlaw01_awake.j1 kj4 true)) else (surveyorlaw01_awake.j1 kj4 true))))))) = some r := by rw [if_neg (show ¬ (false = true) by decide)] at H; exact H
        clear H
        have H := H1
        clear H1
        replace H := Option.bind_eq_some_iff.mp H
        obtain ⟨⟨t109, t110⟩, A150, H⟩ := H
        replace H : ((bigint_Mul.f (⟨#[49, 49, 49, 49, 49, 49, 49, 49, 49]⟩ : ByteArray) (⟨#[49, 49, 49, 49, 49, 49, 49, 49, 49]⟩ : ByteArray)).bind fun bt111 => ((bigint_Bezout.f (⟨#[49, 50]⟩ : ByteArray) (⟨#[45, 49, 56]⟩ : ByteArray)).bind fun bt113 => ((bigint_Lcm.f (⟨#[49, 50]⟩ : ByteArray) (⟨#[45, 49, 56]⟩ : ByteArray)).bind fun bt117 => ((bigint_Pow.f (⟨#[50]⟩ : ByteArray) 64).bind fun bt119 => (if (wrap64 ((wrap64 ((wrap64 ((wrap64 (t110 + bt111.2)) + bt113.2.2.2)) + bt117.2)) + bt119.2)) = 0 then (if t109.toList = ([49, 48, 48, 48, 48, 48, 48, 48, 48, 48, 48, 48, 48, 48, 48, 48, 48, 48, 48, 48, 48] : List UInt8) then (if bt111.1.toList = ([49, 50, 51, 52, 53, 54, 55, 56, 57, 56, 55, 54, 53, 52, 51, 50, 49] : List UInt8) then (if bt113.1.toList = ([54] : List UInt8) then (if bt113.2.1.toList = ([50] : List UInt8) then (if bt113.2.2.1.toList = ([49] : List UInt8) then (if bt117.1.toList = ([51, 54] : List UInt8) then (surveyorlaw01_awake.j1 kj4 (bt119.1.toList != ([49, 56, 52, 52, 54, 55, 52, 52, 48, 55, 51, 55, 48, 57, 53, 53, 49, 54, 49, 54] : List UInt8))) else (surveyorlaw01_awake.j1 kj4 true)) else (surveyorlaw01_awake.j1 kj4 true)) else (surveyorlaw01_awake.j1 kj4 true)) else (surveyorlaw01_awake.j1 kj4 true)) else (surveyorlaw01_awake.j1 kj4 true)) else (surveyorlaw01_awake.j1 kj4 true)) else (surveyorlaw01_awake.j1 kj4 true)))))) = some r := H
        have A15 := Aside0.mk A150
        clear A150
        replace H := Option.bind_eq_some_iff.mp H
        obtain ⟨⟨t111, t112⟩, A160, H⟩ := H
        replace H : ((bigint_Bezout.f (⟨#[49, 50]⟩ : ByteArray) (⟨#[45, 49, 56]⟩ : ByteArray)).bind fun bt113 => ((bigint_Lcm.f (⟨#[49, 50]⟩ : ByteArray) (⟨#[45, 49, 56]⟩ : ByteArray)).bind fun bt117 => ((bigint_Pow.f (⟨#[50]⟩ : ByteArray) 64).bind fun bt119 => (if (wrap64 ((wrap64 ((wrap64 ((wrap64 (t110 + t112)) + bt113.2.2.2)) + bt117.2)) + bt119.2)) = 0 then (if t109.toList = ([49, 48, 48, 48, 48, 48, 48, 48, 48, 48, 48, 48, 48, 48, 48, 48, 48, 48, 48, 48, 48] : List UInt8) then (if t111.toList = ([49, 50, 51, 52, 53, 54, 55, 56, 57, 56, 55, 54, 53, 52, 51, 50, 49] : List UInt8) then (if bt113.1.toList = ([54] : List UInt8) then (if bt113.2.1.toList = ([50] : List UInt8) then (if bt113.2.2.1.toList = ([49] : List UInt8) then (if bt117.1.toList = ([51, 54] : List UInt8) then (surveyorlaw01_awake.j1 kj4 (bt119.1.toList != ([49, 56, 52, 52, 54, 55, 52, 52, 48, 55, 51, 55, 48, 57, 53, 53, 49, 54, 49, 54] : List UInt8))) else (surveyorlaw01_awake.j1 kj4 true)) else (surveyorlaw01_awake.j1 kj4 true)) else (surveyorlaw01_awake.j1 kj4 true)) else (surveyorlaw01_awake.j1 kj4 true)) else (surveyorlaw01_awake.j1 kj4 true)) else (surveyorlaw01_awake.j1 kj4 true)) else (surveyorlaw01_awake.j1 kj4 true))))) = some r := H
        have A16 := Aside0.mk A160
        clear A160
        replace H := Option.bind_eq_some_iff.mp H
        obtain ⟨⟨t113, t114, t115, t116⟩, A170, H⟩ := H
        replace H : ((bigint_Lcm.f (⟨#[49, 50]⟩ : ByteArray) (⟨#[45, 49, 56]⟩ : ByteArray)).bind fun bt117 => ((bigint_Pow.f (⟨#[50]⟩ : ByteArray) 64).bind fun bt119 => (if (wrap64 ((wrap64 ((wrap64 ((wrap64 (t110 + t112)) + t116)) + bt117.2)) + bt119.2)) = 0 then (if t109.toList = ([49, 48, 48, 48, 48, 48, 48, 48, 48, 48, 48, 48, 48, 48, 48, 48, 48, 48, 48, 48, 48] : List UInt8) then (if t111.toList = ([49, 50, 51, 52, 53, 54, 55, 56, 57, 56, 55, 54, 53, 52, 51, 50, 49] : List UInt8) then (if t113.toList = ([54] : List UInt8) then (if t114.toList = ([50] : List UInt8) then (if t115.toList = ([49] : List UInt8) then (if bt117.1.toList = ([51, 54] : List UInt8) then (surveyorlaw01_awake.j1 kj4 (bt119.1.toList != ([49, 56, 52, 52, 54, 55, 52, 52, 48, 55, 51, 55, 48, 57, 53, 53, 49, 54, 49, 54] : List UInt8))) else (surveyorlaw01_awake.j1 kj4 true)) else (surveyorlaw01_awake.j1 kj4 true)) else (surveyorlaw01_awake.j1 kj4 true)) else (surveyorlaw01_awake.j1 kj4 true)) else (surveyorlaw01_awake.j1 kj4 true)) else (surveyorlaw01_awake.j1 kj4 true)) else (surveyorlaw01_awake.j1 kj4 true)))) = some r := H
        have A17 := Aside0.mk A170
        clear A170
        replace H := Option.bind_eq_some_iff.mp H
        obtain ⟨⟨t117, t118⟩, A180, H⟩ := H
        replace H : ((bigint_Pow.f (⟨#[50]⟩ : ByteArray) 64).bind fun bt119 => (if (wrap64 ((wrap64 ((wrap64 ((wrap64 (t110 + t112)) + t116)) + t118)) + bt119.2)) = 0 then (if t109.toList = ([49, 48, 48, 48, 48, 48, 48, 48, 48, 48, 48, 48, 48, 48, 48, 48, 48, 48, 48, 48, 48] : List UInt8) then (if t111.toList = ([49, 50, 51, 52, 53, 54, 55, 56, 57, 56, 55, 54, 53, 52, 51, 50, 49] : List UInt8) then (if t113.toList = ([54] : List UInt8) then (if t114.toList = ([50] : List UInt8) then (if t115.toList = ([49] : List UInt8) then (if t117.toList = ([51, 54] : List UInt8) then (surveyorlaw01_awake.j1 kj4 (bt119.1.toList != ([49, 56, 52, 52, 54, 55, 52, 52, 48, 55, 51, 55, 48, 57, 53, 53, 49, 54, 49, 54] : List UInt8))) else (surveyorlaw01_awake.j1 kj4 true)) else (surveyorlaw01_awake.j1 kj4 true)) else (surveyorlaw01_awake.j1 kj4 true)) else (surveyorlaw01_awake.j1 kj4 true)) else (surveyorlaw01_awake.j1 kj4 true)) else (surveyorlaw01_awake.j1 kj4 true)) else (surveyorlaw01_awake.j1 kj4 true))) = some r := H
        have A18 := Aside0.mk A180
        clear A180
        replace H := Option.bind_eq_some_iff.mp H
        obtain ⟨⟨t119, t120⟩, A190, H⟩ := H
        replace H : (if (wrap64 ((wrap64 ((wrap64 ((wrap64 (t110 + t112)) + t116)) + t118)) + t120)) = 0 then (if t109.toList = ([49, 48, 48, 48, 48, 48, 48, 48, 48, 48, 48, 48, 48, 48, 48, 48, 48, 48, 48, 48, 48] : List UInt8) then (if t111.toList = ([49, 50, 51, 52, 53, 54, 55, 56, 57, 56, 55, 54, 53, 52, 51, 50, 49] : List UInt8) then (if t113.toList = ([54] : List UInt8) then (if t114.toList = ([50] : List UInt8) then (if t115.toList = ([49] : List UInt8) then (if t117.toList = ([51, 54] : List UInt8) then (surveyorlaw01_awake.j1 kj4 (t119.toList != ([49, 56, 52, 52, 54, 55, 52, 52, 48, 55, 51, 55, 48, 57, 53, 53, 49, 54, 49, 54] : List UInt8))) else (surveyorlaw01_awake.j1 kj4 true)) else (surveyorlaw01_awake.j1 kj4 true)) else (surveyorlaw01_awake.j1 kj4 true)) else (surveyorlaw01_awake.j1 kj4 true)) else (surveyorlaw01_awake.j1 kj4 true)) else (surveyorlaw01_awake.j1 kj4 true)) else (surveyorlaw01_awake.j1 kj4 true)) = some r := H
        have A19 := Aside0.mk A190
        clear A190
        have HC20 := Aside0.mk H
        clear H
        go_upto_region 12 with (first | ((with_reducible refine gate_callee (f := 29) rfl ?_); refine goesL_ (some 58) rfl rfl Tryz.func29 (by kernel_rfl) rfl #[.string (⟨#[57, 57, 57, 57, 57, 57, 57, 57, 57, 57, 57, 57, 57, 57, 57, 57, 57, 57, 57, 57]⟩ : ByteArray), .string (⟨#[49]⟩ : ByteArray)] rfl (by (try simp only [List.map_toArray, List.map_cons, List.map_nil]); first | done | rfl | (simp only [List.length_drop, List.length_take]; rfl)) ?_; (with_reducible refine (bigint_Add.calls (hG := HG.out.below (by repeat (first | (with_reducible first | exact HB.out | apply below_alloc | apply pw_below_drewN | apply below_drew1) | exact HB.out))) (⟨#[57, 57, 57, 57, 57, 57, 57, 57, 57, 57, 57, 57, 57, 57, 57, 57, 57, 57, 57, 57]⟩ : ByteArray) (⟨#[49]⟩ : ByteArray) t109 t110 _ A15.out).mono ?_); rintro e w21 ⟨rfl, hb⟩; refine ⟨_, rfl, ?_⟩; have n0_ := Aside0.mk (below_step (by repeat (first | (with_reducible first | exact HB.out | apply below_alloc | apply pw_below_drewN | apply below_drew1) | exact HB.out)) hb); clear HB; have HB := n0_; clear n0_; (try clear hb); (try clear hb2); (try clear hk); (try clear hi)) | ((with_reducible refine gate_callee (f := 33) rfl ?_); refine goesL_ (some 62) rfl rfl Tryz.func33 (by kernel_rfl) rfl #[.string (⟨#[49, 49, 49, 49, 49, 49, 49, 49, 49]⟩ : ByteArray), .string (⟨#[49, 49, 49, 49, 49, 49, 49, 49, 49]⟩ : ByteArray)] rfl (by (try simp only [List.map_toArray, List.map_cons, List.map_nil]); first | done | rfl | (simp only [List.length_drop, List.length_take]; rfl)) ?_; (with_reducible refine (bigint_Mul.calls (hG := HG.out.below (by repeat (first | (with_reducible first | exact HB.out | apply below_alloc | apply pw_below_drewN | apply below_drew1) | exact HB.out))) (⟨#[49, 49, 49, 49, 49, 49, 49, 49, 49]⟩ : ByteArray) (⟨#[49, 49, 49, 49, 49, 49, 49, 49, 49]⟩ : ByteArray) t111 t112 _ A16.out).mono ?_); rintro e w22 ⟨rfl, hb⟩; refine ⟨_, rfl, ?_⟩; have n0_ := Aside0.mk (below_step (by repeat (first | (with_reducible first | exact HB.out | apply below_alloc | apply pw_below_drewN | apply below_drew1) | exact HB.out)) hb); clear HB; have HB := n0_; clear n0_; (try clear hb); (try clear hb2); (try clear hk); (try clear hi)) | ((with_reducible refine gate_callee (f := 39) rfl ?_); refine goesL_ (some 66) rfl rfl Tryz.func39 (by kernel_rfl) rfl #[.string (⟨#[49, 50]⟩ : ByteArray), .string (⟨#[45, 49, 56]⟩ : ByteArray)] rfl (by (try simp only [List.map_toArray, List.map_cons, List.map_nil]); first | done | rfl | (simp only [List.length_drop, List.length_take]; rfl)) ?_; (with_reducible refine (bigint_Bezout.calls (hG := HG.out.below (by repeat (first | (with_reducible first | exact HB.out | apply below_alloc | apply pw_below_drewN | apply below_drew1) | exact HB.out))) (⟨#[49, 50]⟩ : ByteArray) (⟨#[45, 49, 56]⟩ : ByteArray) t113 t114 t115 t116 _ A17.out).mono ?_); rintro e w23 ⟨rfl, hb⟩; refine ⟨_, rfl, ?_⟩; have n0_ := Aside0.mk (below_step (by repeat (first | (with_reducible first | exact HB.out | apply below_alloc | apply pw_below_drewN | apply below_drew1) | exact HB.out)) hb); clear HB; have HB := n0_; clear n0_; (try clear hb); (try clear hb2); (try clear hk); (try clear hi)) | ((with_reducible refine gate_callee (f := 37) rfl ?_); refine goesL_ (some 72) rfl rfl Tryz.func37 (by kernel_rfl) rfl #[.string (⟨#[49, 50]⟩ : ByteArray), .string (⟨#[45, 49, 56]⟩ : ByteArray)] rfl (by (try simp only [List.map_toArray, List.map_cons, List.map_nil]); first | done | rfl | (simp only [List.length_drop, List.length_take]; rfl)) ?_; (with_reducible refine (bigint_Lcm.calls (hG := HG.out.below (by repeat (first | (with_reducible first | exact HB.out | apply below_alloc | apply pw_below_drewN | apply below_drew1) | exact HB.out))) (⟨#[49, 50]⟩ : ByteArray) (⟨#[45, 49, 56]⟩ : ByteArray) t117 t118 _ A18.out).mono ?_); rintro e w24 ⟨rfl, hb⟩; refine ⟨_, rfl, ?_⟩; have n0_ := Aside0.mk (below_step (by repeat (first | (with_reducible first | exact HB.out | apply below_alloc | apply pw_below_drewN | apply below_drew1) | exact HB.out)) hb); clear HB; have HB := n0_; clear n0_; (try clear hb); (try clear hb2); (try clear hk); (try clear hi)) | ((with_reducible refine gate_callee (f := 27) rfl ?_); refine goesL_ (some 76) rfl rfl Tryz.func27 (by kernel_rfl) rfl #[.string (⟨#[50]⟩ : ByteArray), .int .i64 64] rfl (by (try simp only [List.map_toArray, List.map_cons, List.map_nil]); first | done | rfl | (simp only [List.length_drop, List.length_take]; rfl)) ?_; (with_reducible refine (bigint_Pow.calls (hG := HG.out.below (by repeat (first | (with_reducible first | exact HB.out | apply below_alloc | apply pw_below_drewN | apply below_drew1) | exact HB.out))) (⟨#[50]⟩ : ByteArray) 64 t119 t120 _ A19.out).mono ?_); rintro e w25 ⟨rfl, hb⟩; refine ⟨_, rfl, ?_⟩; have n0_ := Aside0.mk (below_step (by repeat (first | (with_reducible first | exact HB.out | apply below_alloc | apply pw_below_drewN | apply below_drew1) | exact HB.out)) hb); clear HB; have HB := n0_; clear n0_; (try clear hb); (try clear hb2); (try clear hk); (try clear hi)))
        (try simp only [Act.put, List.setIfInBounds_toArray, List.set_cons_zero, List.set_cons_succ])
        go_cut [116] (fun v116 wc => ∃ (kq : Nat) (x116_19 : Bool), v116 = .bool x116_19 ∧ Aside0 (surveyorlaw01_awake.j1 kq x116_19 = some r) ∧ Aside0 (kq ≤ kj4) ∧ Aside0 (Below w.heap.size w wc))
        case first =>
          have H := HC20.out
          clear HC20
          by_cases c26 : (wrap64 ((wrap64 ((wrap64 ((wrap64 (t110 + t112)) + t116)) + t118)) + t120)) = 0
          · rw [if_pos c26] at H
            have c26b0 : ((wrap64 ((wrap64 ((wrap64 ((wrap64 (t110 + t112)) + t116)) + t118)) + t120)) == 0) = true := beq_iff_eq.mpr c26
            have c26b1 : ((wrap64 ((wrap64 ((wrap64 ((wrap64 (t110 + t112)) + t116)) + t118)) + t120)) != 0) = false := bne_eq_false_iff_eq.mpr c26
            clear c26
            (first | rw [c26b0] | (simp only [i64_w, i32_w]; rw [c26b0]) | skip)
            by_cases c27 : t109.toList = ([49, 48, 48, 48, 48, 48, 48, 48, 48, 48, 48, 48, 48, 48, 48, 48, 48, 48, 48, 48, 48] : List UInt8)
            · rw [if_pos c27] at H
              have c27b0 : (t109.toList == ([49, 48, 48, 48, 48, 48, 48, 48, 48, 48, 48, 48, 48, 48, 48, 48, 48, 48, 48, 48, 48] : List UInt8)) = true := beq_iff_eq.mpr c27
              have c27b1 : (t109.toList != ([49, 48, 48, 48, 48, 48, 48, 48, 48, 48, 48, 48, 48, 48, 48, 48, 48, 48, 48, 48, 48] : List UInt8)) = false := bne_eq_false_iff_eq.mpr c27
              clear c27
              by_cases c28 : t111.toList = ([49, 50, 51, 52, 53, 54, 55, 56, 57, 56, 55, 54, 53, 52, 51, 50, 49] : List UInt8)
              · rw [if_pos c28] at H
                have c28b0 : (t111.toList == ([49, 50, 51, 52, 53, 54, 55, 56, 57, 56, 55, 54, 53, 52, 51, 50, 49] : List UInt8)) = true := beq_iff_eq.mpr c28
                have c28b1 : (t111.toList != ([49, 50, 51, 52, 53, 54, 55, 56, 57, 56, 55, 54, 53, 52, 51, 50, 49] : List UInt8)) = false := bne_eq_false_iff_eq.mpr c28
                clear c28
                by_cases c29 : t113.toList = ([54] : List UInt8)
                · rw [if_pos c29] at H
                  have c29b0 : (t113.toList == ([54] : List UInt8)) = true := beq_iff_eq.mpr c29
                  have c29b1 : (t113.toList != ([54] : List UInt8)) = false := bne_eq_false_iff_eq.mpr c29
                  clear c29
                  by_cases c30 : t114.toList = ([50] : List UInt8)
                  · rw [if_pos c30] at H
                    have c30b0 : (t114.toList == ([50] : List UInt8)) = true := beq_iff_eq.mpr c30
                    have c30b1 : (t114.toList != ([50] : List UInt8)) = false := bne_eq_false_iff_eq.mpr c30
                    clear c30
                    by_cases c31 : t115.toList = ([49] : List UInt8)
                    · rw [if_pos c31] at H
                      have c31b0 : (t115.toList == ([49] : List UInt8)) = true := beq_iff_eq.mpr c31
                      have c31b1 : (t115.toList != ([49] : List UInt8)) = false := bne_eq_false_iff_eq.mpr c31
                      clear c31
                      by_cases c32 : t117.toList = ([51, 54] : List UInt8)
                      · rw [if_pos c32] at H
                        have c32b0 : (t117.toList == ([51, 54] : List UInt8)) = true := beq_iff_eq.mpr c32
                        have c32b1 : (t117.toList != ([51, 54] : List UInt8)) = false := bne_eq_false_iff_eq.mpr c32
                        clear c32
                        have H' := Aside0.mk H
                        clear H
                        go_wp2
                        go_meet
                        case rel => exact ⟨_, ((t119.toList != ([49, 56, 52, 52, 54, 55, 52, 52, 48, 55, 51, 55, 48, 57, 53, 53, 49, 54, 49, 54] : List UInt8))), (by first | rfl | (simp; done) | (simp [*]; done)), H', ⟨by have := HJ4.out; first | omega | exact Nat.le_refl _⟩, ⟨by repeat (first | (with_reducible first | exact HB.out | apply below_alloc | apply pw_below_drewN | apply below_drew1) | exact HB.out)⟩⟩
                      · rw [if_neg c32] at H
                        have c32b0 : (t117.toList == ([51, 54] : List UInt8)) = false := beq_eq_false_iff_ne.mpr c32
                        have c32b1 : (t117.toList != ([51, 54] : List UInt8)) = true := bne_iff_ne.mpr c32
                        have H' := Aside0.mk H
                        clear H
                        go_wp2
                        go_meet
                        case rel => exact ⟨_, (true), (by first | rfl | (simp; done) | (simp [*]; done)), H', ⟨by have := HJ4.out; first | omega | exact Nat.le_refl _⟩, ⟨by repeat (first | (with_reducible first | exact HB.out | apply below_alloc | apply pw_below_drewN | apply below_drew1) | exact HB.out)⟩⟩
                    · rw [if_neg c31] at H
                      have c31b0 : (t115.toList == ([49] : List UInt8)) = false := beq_eq_false_iff_ne.mpr c31
                      have c31b1 : (t115.toList != ([49] : List UInt8)) = true := bne_iff_ne.mpr c31
                      have H' := Aside0.mk H
                      clear H
                      go_wp2
                      go_meet
                      case rel => exact ⟨_, (true), (by first | rfl | (simp; done) | (simp [*]; done)), H', ⟨by have := HJ4.out; first | omega | exact Nat.le_refl _⟩, ⟨by repeat (first | (with_reducible first | exact HB.out | apply below_alloc | apply pw_below_drewN | apply below_drew1) | exact HB.out)⟩⟩
                  · rw [if_neg c30] at H
                    have c30b0 : (t114.toList == ([50] : List UInt8)) = false := beq_eq_false_iff_ne.mpr c30
                    have c30b1 : (t114.toList != ([50] : List UInt8)) = true := bne_iff_ne.mpr c30
                    have H' := Aside0.mk H
                    clear H
                    go_wp2
                    go_meet
                    case rel => exact ⟨_, (true), (by first | rfl | (simp; done) | (simp [*]; done)), H', ⟨by have := HJ4.out; first | omega | exact Nat.le_refl _⟩, ⟨by repeat (first | (with_reducible first | exact HB.out | apply below_alloc | apply pw_below_drewN | apply below_drew1) | exact HB.out)⟩⟩
                · rw [if_neg c29] at H
                  have c29b0 : (t113.toList == ([54] : List UInt8)) = false := beq_eq_false_iff_ne.mpr c29
                  have c29b1 : (t113.toList != ([54] : List UInt8)) = true := bne_iff_ne.mpr c29
                  have H' := Aside0.mk H
                  clear H
                  go_wp2
                  go_meet
                  case rel => exact ⟨_, (true), (by first | rfl | (simp; done) | (simp [*]; done)), H', ⟨by have := HJ4.out; first | omega | exact Nat.le_refl _⟩, ⟨by repeat (first | (with_reducible first | exact HB.out | apply below_alloc | apply pw_below_drewN | apply below_drew1) | exact HB.out)⟩⟩
              · rw [if_neg c28] at H
                have c28b0 : (t111.toList == ([49, 50, 51, 52, 53, 54, 55, 56, 57, 56, 55, 54, 53, 52, 51, 50, 49] : List UInt8)) = false := beq_eq_false_iff_ne.mpr c28
                have c28b1 : (t111.toList != ([49, 50, 51, 52, 53, 54, 55, 56, 57, 56, 55, 54, 53, 52, 51, 50, 49] : List UInt8)) = true := bne_iff_ne.mpr c28
                have H' := Aside0.mk H
                clear H
                go_wp2
                go_meet
                case rel => exact ⟨_, (true), (by first | rfl | (simp; done) | (simp [*]; done)), H', ⟨by have := HJ4.out; first | omega | exact Nat.le_refl _⟩, ⟨by repeat (first | (with_reducible first | exact HB.out | apply below_alloc | apply pw_below_drewN | apply below_drew1) | exact HB.out)⟩⟩
            · rw [if_neg c27] at H
              have c27b0 : (t109.toList == ([49, 48, 48, 48, 48, 48, 48, 48, 48, 48, 48, 48, 48, 48, 48, 48, 48, 48, 48, 48, 48] : List UInt8)) = false := beq_eq_false_iff_ne.mpr c27
              have c27b1 : (t109.toList != ([49, 48, 48, 48, 48, 48, 48, 48, 48, 48, 48, 48, 48, 48, 48, 48, 48, 48, 48, 48, 48] : List UInt8)) = true := bne_iff_ne.mpr c27
              have H' := Aside0.mk H
              clear H
              go_wp2
              go_meet
              case rel => exact ⟨_, (true), (by first | rfl | (simp; done) | (simp [*]; done)), H', ⟨by have := HJ4.out; first | omega | exact Nat.le_refl _⟩, ⟨by repeat (first | (with_reducible first | exact HB.out | apply below_alloc | apply pw_below_drewN | apply below_drew1) | exact HB.out)⟩⟩
          · rw [if_neg c26] at H
            have c26b0 : ((wrap64 ((wrap64 ((wrap64 ((wrap64 (t110 + t112)) + t116)) + t118)) + t120)) == 0) = false := beq_eq_false_iff_ne.mpr c26
            have c26b1 : ((wrap64 ((wrap64 ((wrap64 ((wrap64 (t110 + t112)) + t116)) + t118)) + t120)) != 0) = true := bne_iff_ne.mpr c26
            (first | rw [c26b0] | (simp only [i64_w, i32_w]; rw [c26b0]) | skip)
            have H' := Aside0.mk H
            clear H
            go_wp2
            go_meet
            case rel => exact ⟨_, (true), (by first | rfl | (simp; done) | (simp [*]; done)), H', ⟨by have := HJ4.out; first | omega | exact Nat.le_refl _⟩, ⟨by repeat (first | (with_reducible first | exact HB.out | apply below_alloc | apply pw_below_drewN | apply below_drew1) | exact HB.out)⟩⟩
        case rest =>
          clear HC20
          try clear c1
          try clear c2
          try clear p2
          try clear c3
          try clear p6
          try clear c10
          try clear c10b0
          try clear c10b1
          try clear c11
          try clear c11b0
          try clear c11b1
          try clear c12
          try clear c12b0
          try clear c12b1
          try clear c13
          try clear c13b0
          try clear c13b1
          try clear c14
          try clear c20
          try clear c21
          try clear c23
          try clear c26
          try clear c26b0
          try clear c26b1
          try clear c27
          try clear c27b0
          try clear c27b1
          try clear c28
          try clear c28b0
          try clear c28b1
          try clear c29
          try clear c29b0
          try clear c29b1
          try clear c30
          try clear c30b0
          try clear c30b1
          try clear c31
          try clear c31b0
          try clear c31b1
          try clear c32
          try clear c32b0
          try clear c32b1
          try clear p2
          try clear p6
          obtain ⟨kq, x116_19, rfl, HA, HJ19, HB⟩ := hcut
          cases kq with
          | zero => exact absurd HA.out (by simp [surveyorlaw01_awake.j1])
          | succ kj19 =>
            have H := HA.out
            clear HA
            simp only [surveyorlaw01_awake.j1] at H
            by_cases c33 : x116_19 = true
            · subst c33
              have H1 : (some false) = some r := by rw [if_pos rfl] at H; exact H
              clear H
              have H := H1
              clear H1
              obtain rfl := Option.some.inj H
              go_wp2
              go_ret
              exact ⟨by first | rfl | (simp [errW_none, errW_some] <;> rfl) | (simp [*, errW_none, errW_some] <;> rfl), by repeat (first | (with_reducible first | exact HB.out | apply below_alloc | apply pw_below_drewN | apply below_drew1) | exact HB.out)⟩
            · replace c33 := Bool.eq_false_iff.mpr c33
              subst c33
              have H1 : ((bigint_Check.f (⟨#[45, 48]⟩ : ByteArray)).bind fun t121 => (if t121 = 3 then ((bigint_Check.f (⟨#[48, 48, 55]⟩ : ByteArray)).bind fun t122 => (if t122 = 3 then ((bigint_Check.f (⟨#[45, 49, 50]⟩ : ByteArray)).bind fun t123 => (some (t123 == 0))) else (some false))) else (some false))) = some r := by rw [if_neg (show ¬ (false = true) by decide)] at H; exact H
              clear H
              have H := H1
              clear H1
              replace H := Option.bind_eq_some_iff.mp H
              obtain ⟨t121, A340, H⟩ := H
              replace H : (if t121 = 3 then ((bigint_Check.f (⟨#[48, 48, 55]⟩ : ByteArray)).bind fun t122 => (if t122 = 3 then ((bigint_Check.f (⟨#[45, 49, 50]⟩ : ByteArray)).bind fun t123 => (some (t123 == 0))) else (some false))) else (some false)) = some r := H
              have A34 := Aside0.mk A340
              clear A340
              by_cases c35 : t121 = 3
              · rw [if_pos c35] at H
                have c35b0 : (t121 == 3) = true := beq_iff_eq.mpr c35
                have c35b1 : (t121 != 3) = false := bne_eq_false_iff_eq.mpr c35
                clear c35
                replace H := Option.bind_eq_some_iff.mp H
                obtain ⟨t122, A360, H⟩ := H
                replace H : (if t122 = 3 then ((bigint_Check.f (⟨#[45, 49, 50]⟩ : ByteArray)).bind fun t123 => (some (t123 == 0))) else (some false)) = some r := H
                have A36 := Aside0.mk A360
                clear A360
                by_cases c37 : t122 = 3
                · rw [if_pos c37] at H
                  have c37b0 : (t122 == 3) = true := beq_iff_eq.mpr c37
                  have c37b1 : (t122 != 3) = false := bne_eq_false_iff_eq.mpr c37
                  clear c37
                  replace H := Option.bind_eq_some_iff.mp H
                  obtain ⟨t123, A380, H⟩ := H
                  replace H : (some (t123 == 0)) = some r := H
                  have A38 := Aside0.mk A380
                  clear A380
                  obtain rfl := Option.some.inj H
                  go_wp2_with (first | ((with_reducible refine gate_callee (f := 53) rfl ?_); refine goesL_ (some 117) rfl rfl Tryz.func53 (by kernel_rfl) rfl #[.string (⟨#[45, 48]⟩ : ByteArray)] rfl (by (try simp only [List.map_toArray, List.map_cons, List.map_nil]); first | done | rfl | (simp only [List.length_drop, List.length_take]; rfl)) ?_; (with_reducible refine (bigint_Check.calls (⟨#[45, 48]⟩ : ByteArray) t121 _ A34.out).mono ?_); rintro e w39 ⟨rfl, hb⟩; refine ⟨_, rfl, ?_⟩; have n0_ := Aside0.mk (below_step (by repeat (first | (with_reducible first | exact HB.out | apply below_alloc | apply pw_below_drewN | apply below_drew1) | exact HB.out)) hb); clear HB; have HB := n0_; clear n0_; (try clear hb); (try clear hb2); (try clear hk); (try clear hi)) | (go_at_call 53; (with_reducible refine (bigint_Check.calls (⟨#[48, 48, 55]⟩ : ByteArray) t122 _ A36.out).mono ?_); rintro e w40 ⟨rfl, hb⟩; have n0_ := Aside0.mk (below_step (by repeat (first | (with_reducible first | exact HB.out | apply below_alloc | apply pw_below_drewN | apply below_drew1) | exact HB.out)) hb); clear HB; have HB := n0_; clear n0_; (try clear hb); (try clear hb2); (try clear hk); (try clear hi)) | (go_at_call 53; (with_reducible refine (bigint_Check.calls (⟨#[45, 49, 50]⟩ : ByteArray) t123 _ A38.out).mono ?_); rintro e w41 ⟨rfl, hb⟩; have n0_ := Aside0.mk (below_step (by repeat (first | (with_reducible first | exact HB.out | apply below_alloc | apply pw_below_drewN | apply below_drew1) | exact HB.out)) hb); clear HB; have HB := n0_; clear n0_; (try clear hb); (try clear hb2); (try clear hk); (try clear hi)))
                  go_ret
                  exact ⟨by first | rfl | (simp [errW_none, errW_some] <;> rfl) | (simp [*, errW_none, errW_some] <;> rfl), by repeat (first | (with_reducible first | exact HB.out | apply below_alloc | apply pw_below_drewN | apply below_drew1) | exact HB.out)⟩
                · rw [if_neg c37] at H
                  have c37b0 : (t122 == 3) = false := beq_eq_false_iff_ne.mpr c37
                  have c37b1 : (t122 != 3) = true := bne_iff_ne.mpr c37
                  obtain rfl := Option.some.inj H
                  go_wp2_with (first | ((with_reducible refine gate_callee (f := 53) rfl ?_); refine goesL_ (some 117) rfl rfl Tryz.func53 (by kernel_rfl) rfl #[.string (⟨#[45, 48]⟩ : ByteArray)] rfl (by (try simp only [List.map_toArray, List.map_cons, List.map_nil]); first | done | rfl | (simp only [List.length_drop, List.length_take]; rfl)) ?_; (with_reducible refine (bigint_Check.calls (⟨#[45, 48]⟩ : ByteArray) t121 _ A34.out).mono ?_); rintro e w42 ⟨rfl, hb⟩; refine ⟨_, rfl, ?_⟩; have n0_ := Aside0.mk (below_step (by repeat (first | (with_reducible first | exact HB.out | apply below_alloc | apply pw_below_drewN | apply below_drew1) | exact HB.out)) hb); clear HB; have HB := n0_; clear n0_; (try clear hb); (try clear hb2); (try clear hk); (try clear hi)) | (go_at_call 53; (with_reducible refine (bigint_Check.calls (⟨#[48, 48, 55]⟩ : ByteArray) t122 _ A36.out).mono ?_); rintro e w43 ⟨rfl, hb⟩; have n0_ := Aside0.mk (below_step (by repeat (first | (with_reducible first | exact HB.out | apply below_alloc | apply pw_below_drewN | apply below_drew1) | exact HB.out)) hb); clear HB; have HB := n0_; clear n0_; (try clear hb); (try clear hb2); (try clear hk); (try clear hi)))
                  go_ret
                  exact ⟨by first | rfl | (simp [errW_none, errW_some] <;> rfl) | (simp [*, errW_none, errW_some] <;> rfl), by repeat (first | (with_reducible first | exact HB.out | apply below_alloc | apply pw_below_drewN | apply below_drew1) | exact HB.out)⟩
              · rw [if_neg c35] at H
                have c35b0 : (t121 == 3) = false := beq_eq_false_iff_ne.mpr c35
                have c35b1 : (t121 != 3) = true := bne_iff_ne.mpr c35
                obtain rfl := Option.some.inj H
                go_wp2_with (first | ((with_reducible refine gate_callee (f := 53) rfl ?_); refine goesL_ (some 117) rfl rfl Tryz.func53 (by kernel_rfl) rfl #[.string (⟨#[45, 48]⟩ : ByteArray)] rfl (by (try simp only [List.map_toArray, List.map_cons, List.map_nil]); first | done | rfl | (simp only [List.length_drop, List.length_take]; rfl)) ?_; (with_reducible refine (bigint_Check.calls (⟨#[45, 48]⟩ : ByteArray) t121 _ A34.out).mono ?_); rintro e w44 ⟨rfl, hb⟩; refine ⟨_, rfl, ?_⟩; have n0_ := Aside0.mk (below_step (by repeat (first | (with_reducible first | exact HB.out | apply below_alloc | apply pw_below_drewN | apply below_drew1) | exact HB.out)) hb); clear HB; have HB := n0_; clear n0_; (try clear hb); (try clear hb2); (try clear hk); (try clear hi)))
                go_ret
                exact ⟨by first | rfl | (simp [errW_none, errW_some] <;> rfl) | (simp [*, errW_none, errW_some] <;> rfl), by repeat (first | (with_reducible first | exact HB.out | apply below_alloc | apply pw_below_drewN | apply below_drew1) | exact HB.out)⟩

end Go.Proofs.YtdldoghcbnkkjaaGreatDoor.PBigintAgrees
