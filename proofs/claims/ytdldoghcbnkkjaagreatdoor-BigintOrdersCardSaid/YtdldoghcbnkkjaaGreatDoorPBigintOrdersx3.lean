-- printed by a program of this session (wip/gprint.py, a patched run of the print) out of the translation. Lean checks it.
import Derived.Test.YtdldoghcbnkkjaaGreatDoorPBigintOrdersx0
import Derived.Test.YtdldoghcbnkkjaaGreatDoorPBigintOrdersx1
import Derived.Test.YtdldoghcbnkkjaaGreatDoorPBigintOrdersx2
namespace Go.Proofs.YtdldoghcbnkkjaaGreatDoor.PBigintOrders
open Go.RowKit Go.Proofs.YtdldoghcbnkkjaaGreatDoorW.PrintWords Go.Proofs.YtdldoghcbnkkjaaGreatDoorW.PrintLast Go.Proofs.YtdldoghcbnkkjaaGreatDoorW.PrintMore
attribute [local go_sem] max2_int min2_int max_two min_two max_three min_three max_four min_four   -- for this text's walks alone
set_option linter.unusedVariables false
set_option linter.unusedSimpArgs false

/-! ### surveyorlaw01_BigintOrders: function 12 -/
def surveyorlaw01_BigintOrders.j0 : Nat → ByteArray → ByteArray → Int → Int → ByteArray → ByteArray → Bool → Option (Bool)
  | 0, _, _, _, _, _, _, _ => none
  | k + 1, x0, x1, x7, x8, x9, x11, x60 => if x60 = true then (some false) else (if x8 = 0 then (if x7 > 0 then ((law01_awake.f).bind fun t157 => (if t157 = true then (if x9.toList = x1.toList then (some (x11.toList == x0.toList)) else (some false)) else (some false))) else ((law01_awake.f).bind fun t158 => (if t158 = true then (if x9.toList = x0.toList then (some (x11.toList == x1.toList)) else (some false)) else (some false)))) else ((law01_awake.f).bind fun t159 => (if t159 = true then (if x9.toList = ([] : List UInt8) then (some (x11.toList == ([] : List UInt8))) else (some false)) else (some false))))
def surveyorlaw01_BigintOrders.f (k : Nat) (a0 : ByteArray) (a1 : ByteArray) : Option (Bool) := (surveyorlaw01_few.f k (([a0, a1] : List ByteArray))).bind fun t147 => (if t147 = true then ((bigint_Compare.f a0 a1).bind fun bt149 => ((surveyorref01_Compare.f k a0 a1).bind fun bt151 => ((bigint_Min.f a0 a1).bind fun bt153 => ((bigint_Max.f a0 a1).bind fun bt155 => (if bt149.1 = bt151.1 then (if bt149.2 = bt151.2 then (if bt153.2 = bt151.2 then (surveyorlaw01_BigintOrders.j0 k a0 a1 bt151.1 bt151.2 bt153.1 bt155.1 (bt155.2 != bt151.2)) else (surveyorlaw01_BigintOrders.j0 k a0 a1 bt151.1 bt151.2 bt153.1 bt155.1 true)) else (surveyorlaw01_BigintOrders.j0 k a0 a1 bt151.1 bt151.2 bt153.1 bt155.1 true)) else (surveyorlaw01_BigintOrders.j0 k a0 a1 bt151.1 bt151.2 bt153.1 bt155.1 true)))))) else ((law01_awake.f).bind fun t148 => (some t148)))
theorem surveyorlaw01_BigintOrders.mono_l : ∀ k, (∀ y0 y1 y2 y3 y4 y5 y6, LeO (surveyorlaw01_BigintOrders.j0 k y0 y1 y2 y3 y4 y5 y6) (surveyorlaw01_BigintOrders.j0 (k + 1) y0 y1 y2 y3 y4 y5 y6))
  | 0 => fun _ _ _ _ _ _ _ r h => by simp [surveyorlaw01_BigintOrders.j0] at h
  | k + 1 => by
    have ih0 := surveyorlaw01_BigintOrders.mono_l k
    · intro y0 y1 y2 y3 y4 y5 y6
      unfold surveyorlaw01_BigintOrders.j0
      repeat' first
      | (with_reducible exact ih0 _ _ _ _ _ _ _)
      | (with_reducible exact surveyorlaw01_few.mono _ _)
      | (with_reducible exact surveyorref01_Compare.mono _ _ _)
      | (with_reducible exact LeO.refl _)
      | (with_reducible exact LeO.none _)
      | (with_reducible refine LeO.ite ?_ ?_)
      | (with_reducible refine LeO.bind ?_ (fun _ => ?_))
      | exact ih0 _ _ _ _ _ _ _
      | exact surveyorlaw01_few.mono _ _
      | exact surveyorref01_Compare.mono _ _ _
      | exact LeO.none _
      | refine LeO.ite ?_ ?_
      | refine LeO.bind ?_ (fun _ => ?_)
theorem surveyorlaw01_BigintOrders.mono : ∀ a0 a1 k, LeO (surveyorlaw01_BigintOrders.f k a0 a1) (surveyorlaw01_BigintOrders.f (k + 1) a0 a1) := by
  intro a0 a1 k
  have ih0 := surveyorlaw01_BigintOrders.mono_l k
  unfold surveyorlaw01_BigintOrders.f
  repeat' first
      | (with_reducible exact ih0 _ _ _ _ _ _ _)
      | (with_reducible exact surveyorlaw01_few.mono _ _)
      | (with_reducible exact surveyorref01_Compare.mono _ _ _)
      | (with_reducible exact LeO.refl _)
      | (with_reducible exact LeO.none _)
      | (with_reducible refine LeO.ite ?_ ?_)
      | (with_reducible refine LeO.bind ?_ (fun _ => ?_))
      | exact ih0 _ _ _ _ _ _ _
      | exact surveyorlaw01_few.mono _ _
      | exact surveyorref01_Compare.mono _ _ _
      | exact LeO.none _
      | refine LeO.ite ?_ ?_
      | refine LeO.bind ?_ (fun _ => ?_)
set_option maxHeartbeats 8000000 in
set_option maxRecDepth 100000 in
theorem surveyorlaw01_BigintOrders.calls (k : Nat) (a0 : ByteArray) (a1 : ByteArray) (r : Bool) (w : World) (hG : GW w) (h : surveyorlaw01_BigintOrders.f k a0 a1 = some r) :
    Calls Tryz.prog 12 #[.string a0, .string a1] w fun e w' => e = .returned (.bool r) ∧ Below w.heap.size w w' := by
  have HG := Aside0.mk hG
  clear hG
  have HB := Aside0.mk (Below.refl w.heap.size w)
  have H : ((surveyorlaw01_few.f k (([a0, a1] : List ByteArray))).bind fun t147 => (if t147 = true then ((bigint_Compare.f a0 a1).bind fun bt149 => ((surveyorref01_Compare.f k a0 a1).bind fun bt151 => ((bigint_Min.f a0 a1).bind fun bt153 => ((bigint_Max.f a0 a1).bind fun bt155 => (if bt149.1 = bt151.1 then (if bt149.2 = bt151.2 then (if bt153.2 = bt151.2 then (surveyorlaw01_BigintOrders.j0 k a0 a1 bt151.1 bt151.2 bt153.1 bt155.1 (bt155.2 != bt151.2)) else (surveyorlaw01_BigintOrders.j0 k a0 a1 bt151.1 bt151.2 bt153.1 bt155.1 true)) else (surveyorlaw01_BigintOrders.j0 k a0 a1 bt151.1 bt151.2 bt153.1 bt155.1 true)) else (surveyorlaw01_BigintOrders.j0 k a0 a1 bt151.1 bt151.2 bt153.1 bt155.1 true)))))) else ((law01_awake.f).bind fun t148 => (some t148)))) = some r := h
  clear h
  obtain ⟨y144, hy144⟩ : ∃ y_ : List ByteArray, y_ = (([a0, a1] : List ByteArray)) := ⟨_, rfl⟩
  replace H : ((surveyorlaw01_few.f k y144).bind fun t147 => (if t147 = true then ((bigint_Compare.f a0 a1).bind fun bt149 => ((surveyorref01_Compare.f k a0 a1).bind fun bt151 => ((bigint_Min.f a0 a1).bind fun bt153 => ((bigint_Max.f a0 a1).bind fun bt155 => (if bt149.1 = bt151.1 then (if bt149.2 = bt151.2 then (if bt153.2 = bt151.2 then (surveyorlaw01_BigintOrders.j0 k a0 a1 bt151.1 bt151.2 bt153.1 bt155.1 (bt155.2 != bt151.2)) else (surveyorlaw01_BigintOrders.j0 k a0 a1 bt151.1 bt151.2 bt153.1 bt155.1 true)) else (surveyorlaw01_BigintOrders.j0 k a0 a1 bt151.1 bt151.2 bt153.1 bt155.1 true)) else (surveyorlaw01_BigintOrders.j0 k a0 a1 bt151.1 bt151.2 bt153.1 bt155.1 true)))))) else ((law01_awake.f).bind fun t148 => (some t148)))) = some r := by first | (rw [hy144]; with_reducible exact H) | (have H2_ := (Option.bind_some _ _).symm.trans H; rw [hy144]; with_reducible exact H2_) | (have H2_ := (Option.bind_some _ _).symm.trans H; with_reducible exact H2_) | with_reducible exact H | (rw [hy144]; exact H) | exact H
  have Ny144 := Aside0.mk hy144
  clear hy144
  replace H := Option.bind_eq_some_iff.mp H
  obtain ⟨t147, A30, H⟩ := H
  replace H : (if t147 = true then ((bigint_Compare.f a0 a1).bind fun bt149 => ((surveyorref01_Compare.f k a0 a1).bind fun bt151 => ((bigint_Min.f a0 a1).bind fun bt153 => ((bigint_Max.f a0 a1).bind fun bt155 => (if bt149.1 = bt151.1 then (if bt149.2 = bt151.2 then (if bt153.2 = bt151.2 then (surveyorlaw01_BigintOrders.j0 k a0 a1 bt151.1 bt151.2 bt153.1 bt155.1 (bt155.2 != bt151.2)) else (surveyorlaw01_BigintOrders.j0 k a0 a1 bt151.1 bt151.2 bt153.1 bt155.1 true)) else (surveyorlaw01_BigintOrders.j0 k a0 a1 bt151.1 bt151.2 bt153.1 bt155.1 true)) else (surveyorlaw01_BigintOrders.j0 k a0 a1 bt151.1 bt151.2 bt153.1 bt155.1 true)))))) else ((law01_awake.f).bind fun t148 => (some t148))) = some r := H
  have A3 := Aside0.mk A30
  clear A30
  by_cases c4 : t147 = true
  · subst c4
    have H1 : ((bigint_Compare.f a0 a1).bind fun bt149 => ((surveyorref01_Compare.f k a0 a1).bind fun bt151 => ((bigint_Min.f a0 a1).bind fun bt153 => ((bigint_Max.f a0 a1).bind fun bt155 => (if bt149.1 = bt151.1 then (if bt149.2 = bt151.2 then (if bt153.2 = bt151.2 then (surveyorlaw01_BigintOrders.j0 k a0 a1 bt151.1 bt151.2 bt153.1 bt155.1 (bt155.2 != bt151.2)) else (surveyorlaw01_BigintOrders.j0 k a0 a1 bt151.1 bt151.2 bt153.1 bt155.1 true)) else (surveyorlaw01_BigintOrders.j0 k a0 a1 bt151.1 bt151.2 bt153.1 bt155.1 true)) else (surveyorlaw01_BigintOrders.j0 k a0 a1 bt151.1 bt151.2 bt153.1 bt155.1 true)))))) = some r := by rw [if_pos rfl] at H; exact H
    clear H
    have H := H1
    clear H1
    replace H := Option.bind_eq_some_iff.mp H
    obtain ⟨⟨t149, t150⟩, A50, H⟩ := H
    replace H : ((surveyorref01_Compare.f k a0 a1).bind fun bt151 => ((bigint_Min.f a0 a1).bind fun bt153 => ((bigint_Max.f a0 a1).bind fun bt155 => (if t149 = bt151.1 then (if t150 = bt151.2 then (if bt153.2 = bt151.2 then (surveyorlaw01_BigintOrders.j0 k a0 a1 bt151.1 bt151.2 bt153.1 bt155.1 (bt155.2 != bt151.2)) else (surveyorlaw01_BigintOrders.j0 k a0 a1 bt151.1 bt151.2 bt153.1 bt155.1 true)) else (surveyorlaw01_BigintOrders.j0 k a0 a1 bt151.1 bt151.2 bt153.1 bt155.1 true)) else (surveyorlaw01_BigintOrders.j0 k a0 a1 bt151.1 bt151.2 bt153.1 bt155.1 true))))) = some r := H
    have A5 := Aside0.mk A50
    clear A50
    replace H := Option.bind_eq_some_iff.mp H
    obtain ⟨⟨t151, t152⟩, A60, H⟩ := H
    replace H : ((bigint_Min.f a0 a1).bind fun bt153 => ((bigint_Max.f a0 a1).bind fun bt155 => (if t149 = t151 then (if t150 = t152 then (if bt153.2 = t152 then (surveyorlaw01_BigintOrders.j0 k a0 a1 t151 t152 bt153.1 bt155.1 (bt155.2 != t152)) else (surveyorlaw01_BigintOrders.j0 k a0 a1 t151 t152 bt153.1 bt155.1 true)) else (surveyorlaw01_BigintOrders.j0 k a0 a1 t151 t152 bt153.1 bt155.1 true)) else (surveyorlaw01_BigintOrders.j0 k a0 a1 t151 t152 bt153.1 bt155.1 true)))) = some r := H
    have A6 := Aside0.mk A60
    clear A60
    replace H := Option.bind_eq_some_iff.mp H
    obtain ⟨⟨t153, t154⟩, A70, H⟩ := H
    replace H : ((bigint_Max.f a0 a1).bind fun bt155 => (if t149 = t151 then (if t150 = t152 then (if t154 = t152 then (surveyorlaw01_BigintOrders.j0 k a0 a1 t151 t152 t153 bt155.1 (bt155.2 != t152)) else (surveyorlaw01_BigintOrders.j0 k a0 a1 t151 t152 t153 bt155.1 true)) else (surveyorlaw01_BigintOrders.j0 k a0 a1 t151 t152 t153 bt155.1 true)) else (surveyorlaw01_BigintOrders.j0 k a0 a1 t151 t152 t153 bt155.1 true))) = some r := H
    have A7 := Aside0.mk A70
    clear A70
    replace H := Option.bind_eq_some_iff.mp H
    obtain ⟨⟨t155, t156⟩, A80, H⟩ := H
    replace H : (if t149 = t151 then (if t150 = t152 then (if t154 = t152 then (surveyorlaw01_BigintOrders.j0 k a0 a1 t151 t152 t153 t155 (t156 != t152)) else (surveyorlaw01_BigintOrders.j0 k a0 a1 t151 t152 t153 t155 true)) else (surveyorlaw01_BigintOrders.j0 k a0 a1 t151 t152 t153 t155 true)) else (surveyorlaw01_BigintOrders.j0 k a0 a1 t151 t152 t153 t155 true)) = some r := H
    have A8 := Aside0.mk A80
    clear A80
    have HC9 := Aside0.mk H
    clear H
    go_enter Tryz.func12, Tryz.ntmps12
    go_upto_region 7 with (first | ((with_reducible refine gate_dst (N := 15) rfl ?_); refine Kd.R_lit Kd.string _ 22 ?hg (N := 15) ?hd (xs := ([a0, a1] : List ByteArray)) (inner := [.string a0, .string a1]) (ok := fun _ => True) (okp := fun _ => True) ?hr ?hp (fun _ hk => hk) trivial (Below.refl _ _) (Nat.le_refl _) (by simp) ?_; (case hd => rfl); (case hg => rfl); (case hr => first | (go_simp; done) | (go_simp; rfl)); (case hp => exact (Reps.one (show Kd.M Kd.string _ _ _ a0 [.string a0] from rfl) (Reps.one (show Kd.M Kd.string _ _ _ a1 [.string a1] from rfl) (Reps.none _ _)))); intro v145 w10 ho11 hb hg_ hnew_; clear hg_ hnew_; (first | rw [← Ny144.out] at ho11 | (simp only [Int.reduceToNat] at ho11; rw [← Ny144.out] at ho11)); have n0_ := Aside0.mk (Kd.R_lower ho11 (below_size (by repeat (first | (with_reducible first | exact HB.out | apply below_alloc | apply pw_below_drewN | apply below_drew1) | exact HB.out)))); have n1_ := Aside0.mk (below_step (by repeat (first | (with_reducible first | exact HB.out | apply below_alloc | apply pw_below_drewN | apply below_drew1) | exact HB.out)) hb); clear HB; have HO146 := n0_; have HB := n1_; clear n0_ n1_; clear hb ho11; obtain ⟨Ao12, co12, eo12⟩ := Kd.R_slice HO146.out; subst eo12) | ((with_reducible refine gate_callee (f := 19) rfl ?_); refine goesL_ (some 16) rfl rfl Tryz.func19 (by kernel_rfl) rfl #[.slice Ao12 y144.length co12] rfl (by (try simp only [List.map_toArray, List.map_cons, List.map_nil]); first | done | rfl | (simp only [List.length_drop, List.length_take]; rfl)) ?_; (with_reducible refine (surveyorlaw01_few.calls k _ _ y144 true _ ?side1 ?side2 A3.out).mono ?_); (case side1 => repeat (first | exact (Kd.R_reads' HO146.out).2.2 | (with_reducible refine Kd.C_alloc ?_ _) | (with_reducible refine Kd.C_drewN ?_ _) | (with_reducible refine Kd.C_drew ?_))); (case side2 => exact (Kd.R_reads' HO146.out).2.1); rintro e w' ⟨rfl, ⟨nd, rfl⟩⟩; refine ⟨_, rfl, ?_⟩) | ((with_reducible refine gate_callee (f := 45) rfl ?_); refine goesL_ (some 22) rfl rfl Tryz.func45 (by kernel_rfl) rfl #[.string a0, .string a1] rfl (by (try simp only [List.map_toArray, List.map_cons, List.map_nil]); first | done | rfl | (simp only [List.length_drop, List.length_take]; rfl)) ?_; (with_reducible refine (bigint_Compare.calls a0 a1 t149 t150 _ A5.out).mono ?_); rintro e w13 ⟨rfl, hb⟩; refine ⟨_, rfl, ?_⟩; have n0_ := Aside0.mk (Kd.R_below (by (with_reducible repeat (first | apply Kd.R_alloc | apply Kd.R_drewN | apply Kd.R_drew)); exact HO146.out) hb); have n1_ := Aside0.mk (below_step (by repeat (first | (with_reducible first | exact HB.out | apply below_alloc | apply pw_below_drewN | apply below_drew1) | exact HB.out)) hb); clear HO146; clear HB; have HO146 := n0_; have HB := n1_; clear n0_ n1_; (try clear hb); (try clear hb2); (try clear hk); (try clear hi)) | ((with_reducible refine gate_callee (f := 49) rfl ?_); refine goesL_ (some 28) rfl rfl Tryz.func49 (by kernel_rfl) rfl #[.string a0, .string a1] rfl (by (try simp only [List.map_toArray, List.map_cons, List.map_nil]); first | done | rfl | (simp only [List.length_drop, List.length_take]; rfl)) ?_; (with_reducible refine (surveyorref01_Compare.calls k a0 a1 t151 t152 _ A6.out).mono ?_); rintro e w14 ⟨rfl, hb⟩; refine ⟨_, rfl, ?_⟩; have n0_ := Aside0.mk (Kd.R_below (by (with_reducible repeat (first | apply Kd.R_alloc | apply Kd.R_drewN | apply Kd.R_drew)); exact HO146.out) hb); have n1_ := Aside0.mk (below_step (by repeat (first | (with_reducible first | exact HB.out | apply below_alloc | apply pw_below_drewN | apply below_drew1) | exact HB.out)) hb); clear HO146; clear HB; have HO146 := n0_; have HB := n1_; clear n0_ n1_; (try clear hb); (try clear hb2); (try clear hk); (try clear hi)) | ((with_reducible refine gate_callee (f := 50) rfl ?_); refine goesL_ (some 34) rfl rfl Tryz.func50 (by kernel_rfl) rfl #[.string a0, .string a1] rfl (by (try simp only [List.map_toArray, List.map_cons, List.map_nil]); first | done | rfl | (simp only [List.length_drop, List.length_take]; rfl)) ?_; (with_reducible refine (bigint_Min.calls a0 a1 t153 t154 _ A7.out).mono ?_); rintro e w15 ⟨rfl, hb⟩; refine ⟨_, rfl, ?_⟩; have n0_ := Aside0.mk (Kd.R_below (by (with_reducible repeat (first | apply Kd.R_alloc | apply Kd.R_drewN | apply Kd.R_drew)); exact HO146.out) hb); have n1_ := Aside0.mk (below_step (by repeat (first | (with_reducible first | exact HB.out | apply below_alloc | apply pw_below_drewN | apply below_drew1) | exact HB.out)) hb); clear HO146; clear HB; have HO146 := n0_; have HB := n1_; clear n0_ n1_; (try clear hb); (try clear hb2); (try clear hk); (try clear hi)) | ((with_reducible refine gate_callee (f := 51) rfl ?_); refine goesL_ (some 40) rfl rfl Tryz.func51 (by kernel_rfl) rfl #[.string a0, .string a1] rfl (by (try simp only [List.map_toArray, List.map_cons, List.map_nil]); first | done | rfl | (simp only [List.length_drop, List.length_take]; rfl)) ?_; (with_reducible refine (bigint_Max.calls a0 a1 t155 t156 _ A8.out).mono ?_); rintro e w16 ⟨rfl, hb⟩; refine ⟨_, rfl, ?_⟩; have n0_ := Aside0.mk (Kd.R_below (by (with_reducible repeat (first | apply Kd.R_alloc | apply Kd.R_drewN | apply Kd.R_drew)); exact HO146.out) hb); have n1_ := Aside0.mk (below_step (by repeat (first | (with_reducible first | exact HB.out | apply below_alloc | apply pw_below_drewN | apply below_drew1) | exact HB.out)) hb); clear HO146; clear HB; have HO146 := n0_; have HB := n1_; clear n0_ n1_; (try clear hb); (try clear hb2); (try clear hk); (try clear hi)))
    (try simp only [Act.put, List.setIfInBounds_toArray, List.set_cons_zero, List.set_cons_succ])
    go_cut [60] (fun v60 wc => ∃ (kq : Nat) (x60_8 : Bool), v60 = .bool x60_8 ∧ Aside0 (surveyorlaw01_BigintOrders.j0 kq a0 a1 t151 t152 t153 t155 x60_8 = some r) ∧ Aside0 (kq ≤ k) ∧ Aside0 (Below w.heap.size w wc))
    case first =>
      have H := HC9.out
      clear HC9
      by_cases c17 : t149 = t151
      · rw [if_pos c17] at H
        have c17b0 : (t149 == t151) = true := beq_iff_eq.mpr c17
        have c17b1 : (t149 != t151) = false := bne_eq_false_iff_eq.mpr c17
        clear c17
        (first | rw [c17b0] | (simp only [i64_w, i32_w]; rw [c17b0]) | skip)
        by_cases c18 : t150 = t152
        · rw [if_pos c18] at H
          have c18b0 : (t150 == t152) = true := beq_iff_eq.mpr c18
          have c18b1 : (t150 != t152) = false := bne_eq_false_iff_eq.mpr c18
          clear c18
          by_cases c19 : t154 = t152
          · rw [if_pos c19] at H
            have c19b0 : (t154 == t152) = true := beq_iff_eq.mpr c19
            have c19b1 : (t154 != t152) = false := bne_eq_false_iff_eq.mpr c19
            clear c19
            have H' := Aside0.mk H
            clear H
            go_wp2
            go_meet
            case rel => exact ⟨_, ((t156 != t152)), (by first | rfl | (simp; done) | (simp [*]; done)), H', ⟨by first | omega | exact Nat.le_refl _⟩, ⟨by repeat (first | (with_reducible first | exact HB.out | apply below_alloc | apply pw_below_drewN | apply below_drew1) | exact HB.out)⟩⟩
          · rw [if_neg c19] at H
            have c19b0 : (t154 == t152) = false := beq_eq_false_iff_ne.mpr c19
            have c19b1 : (t154 != t152) = true := bne_iff_ne.mpr c19
            have H' := Aside0.mk H
            clear H
            go_wp2
            go_meet
            case rel => exact ⟨_, (true), (by first | rfl | (simp; done) | (simp [*]; done)), H', ⟨by first | omega | exact Nat.le_refl _⟩, ⟨by repeat (first | (with_reducible first | exact HB.out | apply below_alloc | apply pw_below_drewN | apply below_drew1) | exact HB.out)⟩⟩
        · rw [if_neg c18] at H
          have c18b0 : (t150 == t152) = false := beq_eq_false_iff_ne.mpr c18
          have c18b1 : (t150 != t152) = true := bne_iff_ne.mpr c18
          have H' := Aside0.mk H
          clear H
          go_wp2
          go_meet
          case rel => exact ⟨_, (true), (by first | rfl | (simp; done) | (simp [*]; done)), H', ⟨by first | omega | exact Nat.le_refl _⟩, ⟨by repeat (first | (with_reducible first | exact HB.out | apply below_alloc | apply pw_below_drewN | apply below_drew1) | exact HB.out)⟩⟩
      · rw [if_neg c17] at H
        have c17b0 : (t149 == t151) = false := beq_eq_false_iff_ne.mpr c17
        have c17b1 : (t149 != t151) = true := bne_iff_ne.mpr c17
        (first | rw [c17b0] | (simp only [i64_w, i32_w]; rw [c17b0]) | skip)
        have H' := Aside0.mk H
        clear H
        go_wp2
        go_meet
        case rel => exact ⟨_, (true), (by first | rfl | (simp; done) | (simp [*]; done)), H', ⟨by first | omega | exact Nat.le_refl _⟩, ⟨by repeat (first | (with_reducible first | exact HB.out | apply below_alloc | apply pw_below_drewN | apply below_drew1) | exact HB.out)⟩⟩
    case rest =>
      clear HC9
      try clear c1
      try clear p2
      try clear c4
      try clear c5
      try clear c12
      try clear c17
      try clear c17b0
      try clear c17b1
      try clear c18
      try clear c18b0
      try clear c18b1
      try clear c19
      try clear c19b0
      try clear c19b1
      obtain ⟨kq, x60_8, rfl, HA, HJ8, HB⟩ := hcut
      cases kq with
      | zero => exact absurd HA.out (by simp [surveyorlaw01_BigintOrders.j0])
      | succ kj8 =>
        have H := HA.out
        clear HA
        simp only [surveyorlaw01_BigintOrders.j0] at H
        by_cases c20 : x60_8 = true
        · subst c20
          have H1 : (some false) = some r := by rw [if_pos rfl] at H; exact H
          clear H
          have H := H1
          clear H1
          obtain rfl := Option.some.inj H
          go_wp2
          go_ret
          exact ⟨by first | rfl | (simp [errW_none, errW_some] <;> rfl) | (simp [*, errW_none, errW_some] <;> rfl), by repeat (first | (with_reducible first | exact HB.out | apply below_alloc | apply pw_below_drewN | apply below_drew1) | exact HB.out)⟩
        · replace c20 := Bool.eq_false_iff.mpr c20
          subst c20
          have H1 : (if t152 = 0 then (if t151 > 0 then ((law01_awake.f).bind fun t157 => (if t157 = true then (if t153.toList = a1.toList then (some (t155.toList == a0.toList)) else (some false)) else (some false))) else ((law01_awake.f).bind fun t158 => (if t158 = true then (if t153.toList = a0.toList then (some (t155.toList == a1.toList)) else (some false)) else (some false)))) else ((law01_awake.f).bind fun t159 => (if t159 = true then (if t153.toList = ([] : List UInt8) then (some (t155.toList == ([] : List UInt8))) else (some false)) else (some false)))) = some r := by rw [if_neg (show ¬ (false = true) by decide)] at H; exact H
          clear H
          have H := H1
          clear H1
          by_cases c21 : t152 = 0
          · rw [if_pos c21] at H
            have c21b0 : (t152 == 0) = true := beq_iff_eq.mpr c21
            have c21b1 : (t152 != 0) = false := bne_eq_false_iff_eq.mpr c21
            clear c21
            by_cases c22 : t151 > 0
            · rw [if_pos c22] at H
              have c22b0 : decide (0 < t151) = true := decide_eq_true c22
              clear c22
              replace H := Option.bind_eq_some_iff.mp H
              obtain ⟨t157, A230, H⟩ := H
              replace H : (if t157 = true then (if t153.toList = a1.toList then (some (t155.toList == a0.toList)) else (some false)) else (some false)) = some r := H
              have A23 := Aside0.mk A230
              clear A230
              by_cases c24 : t157 = true
              · subst c24
                have H1 : (if t153.toList = a1.toList then (some (t155.toList == a0.toList)) else (some false)) = some r := by rw [if_pos rfl] at H; exact H
                clear H
                have H := H1
                clear H1
                by_cases c25 : t153.toList = a1.toList
                · rw [if_pos c25] at H
                  have c25b0 : (t153.toList == a1.toList) = true := beq_iff_eq.mpr c25
                  have c25b1 : (t153.toList != a1.toList) = false := bne_eq_false_iff_eq.mpr c25
                  clear c25
                  obtain rfl := Option.some.inj H
                  go_wp2_with (first | ((with_reducible refine gate_callee (f := 20) rfl ?_); refine goesL_ (some 76) rfl rfl Tryz.func20 (by kernel_rfl) rfl #[] rfl (by (try simp only [List.map_toArray, List.map_cons, List.map_nil]); first | done | rfl | (simp only [List.length_drop, List.length_take]; rfl)) ?_; (with_reducible refine (law01_awake.calls (hG := HG.out.below (by repeat (first | (with_reducible first | exact HB.out | apply below_alloc | apply pw_below_drewN | apply below_drew1) | exact HB.out)))  true _ A23.out).mono ?_); rintro e w26 ⟨rfl, hb⟩; refine ⟨_, rfl, ?_⟩; have n0_ := Aside0.mk (below_step (by repeat (first | (with_reducible first | exact HB.out | apply below_alloc | apply pw_below_drewN | apply below_drew1) | exact HB.out)) hb); clear HB; have HB := n0_; clear n0_; (try clear hb); (try clear hb2); (try clear hk); (try clear hi)))
                  go_ret
                  exact ⟨by first | rfl | (simp [errW_none, errW_some] <;> rfl) | (simp [*, errW_none, errW_some] <;> rfl), by repeat (first | (with_reducible first | exact HB.out | apply below_alloc | apply pw_below_drewN | apply below_drew1) | exact HB.out)⟩
                · rw [if_neg c25] at H
                  have c25b0 : (t153.toList == a1.toList) = false := beq_eq_false_iff_ne.mpr c25
                  have c25b1 : (t153.toList != a1.toList) = true := bne_iff_ne.mpr c25
                  obtain rfl := Option.some.inj H
                  go_wp2_with (first | ((with_reducible refine gate_callee (f := 20) rfl ?_); refine goesL_ (some 76) rfl rfl Tryz.func20 (by kernel_rfl) rfl #[] rfl (by (try simp only [List.map_toArray, List.map_cons, List.map_nil]); first | done | rfl | (simp only [List.length_drop, List.length_take]; rfl)) ?_; (with_reducible refine (law01_awake.calls (hG := HG.out.below (by repeat (first | (with_reducible first | exact HB.out | apply below_alloc | apply pw_below_drewN | apply below_drew1) | exact HB.out)))  true _ A23.out).mono ?_); rintro e w27 ⟨rfl, hb⟩; refine ⟨_, rfl, ?_⟩; have n0_ := Aside0.mk (below_step (by repeat (first | (with_reducible first | exact HB.out | apply below_alloc | apply pw_below_drewN | apply below_drew1) | exact HB.out)) hb); clear HB; have HB := n0_; clear n0_; (try clear hb); (try clear hb2); (try clear hk); (try clear hi)))
                  go_ret
                  exact ⟨by first | rfl | (simp [errW_none, errW_some] <;> rfl) | (simp [*, errW_none, errW_some] <;> rfl), by repeat (first | (with_reducible first | exact HB.out | apply below_alloc | apply pw_below_drewN | apply below_drew1) | exact HB.out)⟩
              · replace c24 := Bool.eq_false_iff.mpr c24
                subst c24
                have H1 : (some false) = some r := by rw [if_neg (show ¬ (false = true) by decide)] at H; exact H
                clear H
                have H := H1
                clear H1
                obtain rfl := Option.some.inj H
                go_wp2_with (first | ((with_reducible refine gate_callee (f := 20) rfl ?_); refine goesL_ (some 76) rfl rfl Tryz.func20 (by kernel_rfl) rfl #[] rfl (by (try simp only [List.map_toArray, List.map_cons, List.map_nil]); first | done | rfl | (simp only [List.length_drop, List.length_take]; rfl)) ?_; (with_reducible refine (law01_awake.calls (hG := HG.out.below (by repeat (first | (with_reducible first | exact HB.out | apply below_alloc | apply pw_below_drewN | apply below_drew1) | exact HB.out)))  false _ A23.out).mono ?_); rintro e w28 ⟨rfl, hb⟩; refine ⟨_, rfl, ?_⟩; have n0_ := Aside0.mk (below_step (by repeat (first | (with_reducible first | exact HB.out | apply below_alloc | apply pw_below_drewN | apply below_drew1) | exact HB.out)) hb); clear HB; have HB := n0_; clear n0_; (try clear hb); (try clear hb2); (try clear hk); (try clear hi)))
                go_ret
                exact ⟨by first | rfl | (simp [errW_none, errW_some] <;> rfl) | (simp [*, errW_none, errW_some] <;> rfl), by repeat (first | (with_reducible first | exact HB.out | apply below_alloc | apply pw_below_drewN | apply below_drew1) | exact HB.out)⟩
            · rw [if_neg c22] at H
              have c22b0 : decide (0 < t151) = false := decide_eq_false c22
              clear c22
              replace H := Option.bind_eq_some_iff.mp H
              obtain ⟨t158, A290, H⟩ := H
              replace H : (if t158 = true then (if t153.toList = a0.toList then (some (t155.toList == a1.toList)) else (some false)) else (some false)) = some r := H
              have A29 := Aside0.mk A290
              clear A290
              by_cases c30 : t158 = true
              · subst c30
                have H1 : (if t153.toList = a0.toList then (some (t155.toList == a1.toList)) else (some false)) = some r := by rw [if_pos rfl] at H; exact H
                clear H
                have H := H1
                clear H1
                by_cases c31 : t153.toList = a0.toList
                · rw [if_pos c31] at H
                  have c31b0 : (t153.toList == a0.toList) = true := beq_iff_eq.mpr c31
                  have c31b1 : (t153.toList != a0.toList) = false := bne_eq_false_iff_eq.mpr c31
                  clear c31
                  obtain rfl := Option.some.inj H
                  go_wp2_with (first | ((with_reducible refine gate_callee (f := 20) rfl ?_); refine goesL_ (some 76) rfl rfl Tryz.func20 (by kernel_rfl) rfl #[] rfl (by (try simp only [List.map_toArray, List.map_cons, List.map_nil]); first | done | rfl | (simp only [List.length_drop, List.length_take]; rfl)) ?_; (with_reducible refine (law01_awake.calls (hG := HG.out.below (by repeat (first | (with_reducible first | exact HB.out | apply below_alloc | apply pw_below_drewN | apply below_drew1) | exact HB.out)))  true _ A29.out).mono ?_); rintro e w32 ⟨rfl, hb⟩; refine ⟨_, rfl, ?_⟩; have n0_ := Aside0.mk (below_step (by repeat (first | (with_reducible first | exact HB.out | apply below_alloc | apply pw_below_drewN | apply below_drew1) | exact HB.out)) hb); clear HB; have HB := n0_; clear n0_; (try clear hb); (try clear hb2); (try clear hk); (try clear hi)))
                  go_ret
                  exact ⟨by first | rfl | (simp [errW_none, errW_some] <;> rfl) | (simp [*, errW_none, errW_some] <;> rfl), by repeat (first | (with_reducible first | exact HB.out | apply below_alloc | apply pw_below_drewN | apply below_drew1) | exact HB.out)⟩
                · rw [if_neg c31] at H
                  have c31b0 : (t153.toList == a0.toList) = false := beq_eq_false_iff_ne.mpr c31
                  have c31b1 : (t153.toList != a0.toList) = true := bne_iff_ne.mpr c31
                  obtain rfl := Option.some.inj H
                  go_wp2_with (first | ((with_reducible refine gate_callee (f := 20) rfl ?_); refine goesL_ (some 76) rfl rfl Tryz.func20 (by kernel_rfl) rfl #[] rfl (by (try simp only [List.map_toArray, List.map_cons, List.map_nil]); first | done | rfl | (simp only [List.length_drop, List.length_take]; rfl)) ?_; (with_reducible refine (law01_awake.calls (hG := HG.out.below (by repeat (first | (with_reducible first | exact HB.out | apply below_alloc | apply pw_below_drewN | apply below_drew1) | exact HB.out)))  true _ A29.out).mono ?_); rintro e w33 ⟨rfl, hb⟩; refine ⟨_, rfl, ?_⟩; have n0_ := Aside0.mk (below_step (by repeat (first | (with_reducible first | exact HB.out | apply below_alloc | apply pw_below_drewN | apply below_drew1) | exact HB.out)) hb); clear HB; have HB := n0_; clear n0_; (try clear hb); (try clear hb2); (try clear hk); (try clear hi)))
                  go_ret
                  exact ⟨by first | rfl | (simp [errW_none, errW_some] <;> rfl) | (simp [*, errW_none, errW_some] <;> rfl), by repeat (first | (with_reducible first | exact HB.out | apply below_alloc | apply pw_below_drewN | apply below_drew1) | exact HB.out)⟩
              · replace c30 := Bool.eq_false_iff.mpr c30
                subst c30
                have H1 : (some false) = some r := by rw [if_neg (show ¬ (false = true) by decide)] at H; exact H
                clear H
                have H := H1
                clear H1
                obtain rfl := Option.some.inj H
                go_wp2_with (first | ((with_reducible refine gate_callee (f := 20) rfl ?_); refine goesL_ (some 76) rfl rfl Tryz.func20 (by kernel_rfl) rfl #[] rfl (by (try simp only [List.map_toArray, List.map_cons, List.map_nil]); first | done | rfl | (simp only [List.length_drop, List.length_take]; rfl)) ?_; (with_reducible refine (law01_awake.calls (hG := HG.out.below (by repeat (first | (with_reducible first | exact HB.out | apply below_alloc | apply pw_below_drewN | apply below_drew1) | exact HB.out)))  false _ A29.out).mono ?_); rintro e w34 ⟨rfl, hb⟩; refine ⟨_, rfl, ?_⟩; have n0_ := Aside0.mk (below_step (by repeat (first | (with_reducible first | exact HB.out | apply below_alloc | apply pw_below_drewN | apply below_drew1) | exact HB.out)) hb); clear HB; have HB := n0_; clear n0_; (try clear hb); (try clear hb2); (try clear hk); (try clear hi)))
                go_ret
                exact ⟨by first | rfl | (simp [errW_none, errW_some] <;> rfl) | (simp [*, errW_none, errW_some] <;> rfl), by repeat (first | (with_reducible first | exact HB.out | apply below_alloc | apply pw_below_drewN | apply below_drew1) | exact HB.out)⟩
          · rw [if_neg c21] at H
            have c21b0 : (t152 == 0) = false := beq_eq_false_iff_ne.mpr c21
            have c21b1 : (t152 != 0) = true := bne_iff_ne.mpr c21
            replace H := Option.bind_eq_some_iff.mp H
            obtain ⟨t159, A350, H⟩ := H
            replace H : (if t159 = true then (if t153.toList = ([] : List UInt8) then (some (t155.toList == ([] : List UInt8))) else (some false)) else (some false)) = some r := H
            have A35 := Aside0.mk A350
            clear A350
            by_cases c36 : t159 = true
            · subst c36
              have H1 : (if t153.toList = ([] : List UInt8) then (some (t155.toList == ([] : List UInt8))) else (some false)) = some r := by rw [if_pos rfl] at H; exact H
              clear H
              have H := H1
              clear H1
              by_cases c37 : t153.toList = ([] : List UInt8)
              · rw [if_pos c37] at H
                have c37b0 : (t153.toList == ([] : List UInt8)) = true := beq_iff_eq.mpr c37
                have c37b1 : (t153.toList != ([] : List UInt8)) = false := bne_eq_false_iff_eq.mpr c37
                clear c37
                obtain rfl := Option.some.inj H
                go_wp2_with (first | ((with_reducible refine gate_callee (f := 20) rfl ?_); refine goesL_ (some 63) rfl rfl Tryz.func20 (by kernel_rfl) rfl #[] rfl (by (try simp only [List.map_toArray, List.map_cons, List.map_nil]); first | done | rfl | (simp only [List.length_drop, List.length_take]; rfl)) ?_; (with_reducible refine (law01_awake.calls (hG := HG.out.below (by repeat (first | (with_reducible first | exact HB.out | apply below_alloc | apply pw_below_drewN | apply below_drew1) | exact HB.out)))  true _ A35.out).mono ?_); rintro e w38 ⟨rfl, hb⟩; refine ⟨_, rfl, ?_⟩; have n0_ := Aside0.mk (below_step (by repeat (first | (with_reducible first | exact HB.out | apply below_alloc | apply pw_below_drewN | apply below_drew1) | exact HB.out)) hb); clear HB; have HB := n0_; clear n0_; (try clear hb); (try clear hb2); (try clear hk); (try clear hi)))
                go_ret
                exact ⟨by first | rfl | (simp [errW_none, errW_some] <;> rfl) | (simp [*, errW_none, errW_some] <;> rfl), by repeat (first | (with_reducible first | exact HB.out | apply below_alloc | apply pw_below_drewN | apply below_drew1) | exact HB.out)⟩
              · rw [if_neg c37] at H
                have c37b0 : (t153.toList == ([] : List UInt8)) = false := beq_eq_false_iff_ne.mpr c37
                have c37b1 : (t153.toList != ([] : List UInt8)) = true := bne_iff_ne.mpr c37
                obtain rfl := Option.some.inj H
                go_wp2_with (first | ((with_reducible refine gate_callee (f := 20) rfl ?_); refine goesL_ (some 63) rfl rfl Tryz.func20 (by kernel_rfl) rfl #[] rfl (by (try simp only [List.map_toArray, List.map_cons, List.map_nil]); first | done | rfl | (simp only [List.length_drop, List.length_take]; rfl)) ?_; (with_reducible refine (law01_awake.calls (hG := HG.out.below (by repeat (first | (with_reducible first | exact HB.out | apply below_alloc | apply pw_below_drewN | apply below_drew1) | exact HB.out)))  true _ A35.out).mono ?_); rintro e w39 ⟨rfl, hb⟩; refine ⟨_, rfl, ?_⟩; have n0_ := Aside0.mk (below_step (by repeat (first | (with_reducible first | exact HB.out | apply below_alloc | apply pw_below_drewN | apply below_drew1) | exact HB.out)) hb); clear HB; have HB := n0_; clear n0_; (try clear hb); (try clear hb2); (try clear hk); (try clear hi)))
                go_ret
                exact ⟨by first | rfl | (simp [errW_none, errW_some] <;> rfl) | (simp [*, errW_none, errW_some] <;> rfl), by repeat (first | (with_reducible first | exact HB.out | apply below_alloc | apply pw_below_drewN | apply below_drew1) | exact HB.out)⟩
            · replace c36 := Bool.eq_false_iff.mpr c36
              subst c36
              have H1 : (some false) = some r := by rw [if_neg (show ¬ (false = true) by decide)] at H; exact H
              clear H
              have H := H1
              clear H1
              obtain rfl := Option.some.inj H
              go_wp2_with (first | ((with_reducible refine gate_callee (f := 20) rfl ?_); refine goesL_ (some 63) rfl rfl Tryz.func20 (by kernel_rfl) rfl #[] rfl (by (try simp only [List.map_toArray, List.map_cons, List.map_nil]); first | done | rfl | (simp only [List.length_drop, List.length_take]; rfl)) ?_; (with_reducible refine (law01_awake.calls (hG := HG.out.below (by repeat (first | (with_reducible first | exact HB.out | apply below_alloc | apply pw_below_drewN | apply below_drew1) | exact HB.out)))  false _ A35.out).mono ?_); rintro e w40 ⟨rfl, hb⟩; refine ⟨_, rfl, ?_⟩; have n0_ := Aside0.mk (below_step (by repeat (first | (with_reducible first | exact HB.out | apply below_alloc | apply pw_below_drewN | apply below_drew1) | exact HB.out)) hb); clear HB; have HB := n0_; clear n0_; (try clear hb); (try clear hb2); (try clear hk); (try clear hi)))
              go_ret
              exact ⟨by first | rfl | (simp [errW_none, errW_some] <;> rfl) | (simp [*, errW_none, errW_some] <;> rfl), by repeat (first | (with_reducible first | exact HB.out | apply below_alloc | apply pw_below_drewN | apply below_drew1) | exact HB.out)⟩
  · replace c4 := Bool.eq_false_iff.mpr c4
    subst c4
    have H1 : ((law01_awake.f).bind fun t148 => (some t148)) = some r := by rw [if_neg (show ¬ (false = true) by decide)] at H; exact H
    clear H
    have H := H1
    clear H1
    replace H := Option.bind_eq_some_iff.mp H
    obtain ⟨t148, A410, H⟩ := H
    replace H : (some t148) = some r := H
    have A41 := Aside0.mk A410
    clear A410
    obtain rfl := Option.some.inj H
    go_enter Tryz.func12, Tryz.ntmps12
    go_wp2_with (first | ((with_reducible refine gate_dst (N := 15) rfl ?_); refine Kd.R_lit Kd.string _ 22 ?hg (N := 15) ?hd (xs := ([a0, a1] : List ByteArray)) (inner := [.string a0, .string a1]) (ok := fun _ => True) (okp := fun _ => True) ?hr ?hp (fun _ hk => hk) trivial (Below.refl _ _) (Nat.le_refl _) (by simp) ?_; (case hd => rfl); (case hg => rfl); (case hr => first | (go_simp; done) | (go_simp; rfl)); (case hp => exact (Reps.one (show Kd.M Kd.string _ _ _ a0 [.string a0] from rfl) (Reps.one (show Kd.M Kd.string _ _ _ a1 [.string a1] from rfl) (Reps.none _ _)))); intro v145 w42 ho43 hb hg_ hnew_; clear hg_ hnew_; (first | rw [← Ny144.out] at ho43 | (simp only [Int.reduceToNat] at ho43; rw [← Ny144.out] at ho43)); have n0_ := Aside0.mk (Kd.R_lower ho43 (below_size (by repeat (first | (with_reducible first | exact HB.out | apply below_alloc | apply pw_below_drewN | apply below_drew1) | exact HB.out)))); have n1_ := Aside0.mk (below_step (by repeat (first | (with_reducible first | exact HB.out | apply below_alloc | apply pw_below_drewN | apply below_drew1) | exact HB.out)) hb); clear HB; have HO146 := n0_; have HB := n1_; clear n0_ n1_; clear hb ho43; obtain ⟨Ao44, co44, eo44⟩ := Kd.R_slice HO146.out; subst eo44) | ((with_reducible refine gate_callee (f := 19) rfl ?_); refine goesL_ (some 16) rfl rfl Tryz.func19 (by kernel_rfl) rfl #[.slice Ao44 y144.length co44] rfl (by (try simp only [List.map_toArray, List.map_cons, List.map_nil]); first | done | rfl | (simp only [List.length_drop, List.length_take]; rfl)) ?_; (with_reducible refine (surveyorlaw01_few.calls k _ _ y144 false _ ?side1 ?side2 A3.out).mono ?_); (case side1 => repeat (first | exact (Kd.R_reads' HO146.out).2.2 | (with_reducible refine Kd.C_alloc ?_ _) | (with_reducible refine Kd.C_drewN ?_ _) | (with_reducible refine Kd.C_drew ?_))); (case side2 => exact (Kd.R_reads' HO146.out).2.1); rintro e w' ⟨rfl, ⟨nd, rfl⟩⟩; refine ⟨_, rfl, ?_⟩) | ((with_reducible refine gate_callee (f := 20) rfl ?_); refine goesL_ (some 18) rfl rfl Tryz.func20 (by kernel_rfl) rfl #[] rfl (by (try simp only [List.map_toArray, List.map_cons, List.map_nil]); first | done | rfl | (simp only [List.length_drop, List.length_take]; rfl)) ?_; (with_reducible refine (law01_awake.calls (hG := HG.out.below (by repeat (first | (with_reducible first | exact HB.out | apply below_alloc | apply pw_below_drewN | apply below_drew1) | exact HB.out)))  t148 _ A41.out).mono ?_); rintro e w45 ⟨rfl, hb⟩; refine ⟨_, rfl, ?_⟩; have n0_ := Aside0.mk (Kd.R_below (by (with_reducible repeat (first | apply Kd.R_alloc | apply Kd.R_drewN | apply Kd.R_drew)); exact HO146.out) hb); have n1_ := Aside0.mk (below_step (by repeat (first | (with_reducible first | exact HB.out | apply below_alloc | apply pw_below_drewN | apply below_drew1) | exact HB.out)) hb); clear HO146; clear HB; have HO146 := n0_; have HB := n1_; clear n0_ n1_; (try clear hb); (try clear hb2); (try clear hk); (try clear hi)))
    go_ret
    exact ⟨by first | rfl | (simp [errW_none, errW_some] <;> rfl) | (simp [*, errW_none, errW_some] <;> rfl), by repeat (first | (with_reducible first | exact HB.out | apply below_alloc | apply pw_below_drewN | apply below_drew1) | exact HB.out)⟩

/-- THE ONE PURE STATEMENT of surveyorlaw01_BigintOrders: yours. -/
def surveyorlaw01_BigintOrders.Pure : Prop := ∀ (a0 : ByteArray) (a1 : ByteArray), a0.size ≤ 140737488351232 → a1.size ≤ 140737488351232 → ∃ k, surveyorlaw01_BigintOrders.f k a0 a1 = some true
theorem surveyorlaw01_BigintOrders.walk (P : surveyorlaw01_BigintOrders.Pure) (a0 : ByteArray) (a1 : ByteArray) (w : World) (hG : GW w) (w0 : a0.size ≤ 140737488351232) (w1 : a1.size ≤ 140737488351232) :
    Calls Tryz.prog 12 #[.string a0, .string a1] w fun e w' => e = .returned (.bool true) ∧ Below w.heap.size w w' := by
  obtain ⟨k, h⟩ := P a0 a1 w0 w1
  refine (surveyorlaw01_BigintOrders.calls (hG := hG) k a0 a1 true w h).mono ?_
  rintro e w' ⟨rfl, hd⟩
  exact ⟨rfl, hd⟩

end Go.Proofs.YtdldoghcbnkkjaaGreatDoor.PBigintOrders
