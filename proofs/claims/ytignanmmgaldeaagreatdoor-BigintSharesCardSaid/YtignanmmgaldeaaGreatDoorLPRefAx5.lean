/- Lemmas. -/
import Derived.Test.YtignanmmgaldeaaGreatDoorLPRefAx0
import Derived.Test.YtignanmmgaldeaaGreatDoorLPRefAx1
import Derived.Test.YtignanmmgaldeaaGreatDoorLPRefAx2
import Derived.Test.YtignanmmgaldeaaGreatDoorLPRefAx3
namespace Go.Proofs.YtignanmmgaldeaaGreatDoor.PRefA
open Go.RowKit Go.Proofs.YtignanmmgaldeaaGreatDoorW.PrintWords Go.Proofs.YtignanmmgaldeaaGreatDoorW.PrintLast Go.Proofs.YtignanmmgaldeaaGreatDoorW.PrintMore
attribute [local go_sem] max2_int min2_int max_two min_two -- for this text's walks alone
set_option linter.unusedVariables false
set_option linter.unusedSimpArgs false
def surveyorref01_Product.f (k : Nat) (a0 : ByteArray) (a1 : ByteArray) : Option (ByteArray) := (surveyorref01_Digits.f a0).bind fun t211 => ((surveyorref01_Digits.f a1).bind fun t212 => (if (wrap64 (t211 + t212)) ≤ 18 then ((surveyorref01_number.f k a0).bind fun t213 => ((surveyorref01_number.f k a1).bind fun t214 => ((surveyorref01_Whole.f k (wrap64 (t213 * t214))).bind fun t215 => (some t215)))) else ((surveyorref01_digits.f k a0).bind fun t216 => ((surveyorref01_digits.f k a1).bind fun t219 => ((surveyorref01_times.f k t216 t219).bind fun t222 => ((surveyorref01_Negative.f a0).bind fun t225 => ((surveyorref01_Negative.f a1).bind fun t226 => ((surveyorref01_made.f k t222 (t225 != t226)).bind fun t227 => (some t227)))))))))
set_option maxHeartbeats 8000000 in
set_option maxRecDepth 100000 in
theorem surveyorref01_Product.calls (k : Nat) (a0 : ByteArray) (a1 : ByteArray) (r : ByteArray) (w : World) (h : surveyorref01_Product.f k a0 a1 = some r) :
    Calls Tryz.prog 86 #[.string a0, .string a1] w fun e w' => e = .returned (.string r) ∧ Below w.heap.size w w' := by
  have HB := Aside0.mk (Below.refl w.heap.size w)
  have H : ((surveyorref01_Digits.f a0).bind fun t211 => ((surveyorref01_Digits.f a1).bind fun t212 => (if (wrap64 (t211 + t212)) ≤ 18 then ((surveyorref01_number.f k a0).bind fun t213 => ((surveyorref01_number.f k a1).bind fun t214 => ((surveyorref01_Whole.f k (wrap64 (t213 * t214))).bind fun t215 => (some t215)))) else ((surveyorref01_digits.f k a0).bind fun t216 => ((surveyorref01_digits.f k a1).bind fun t219 => ((surveyorref01_times.f k t216 t219).bind fun t222 => ((surveyorref01_Negative.f a0).bind fun t225 => ((surveyorref01_Negative.f a1).bind fun t226 => ((surveyorref01_made.f k t222 (t225 != t226)).bind fun t227 => (some t227)))))))))) = some r := h
  clear h
  replace H := Option.bind_eq_some_iff.mp H
  obtain ⟨t211, A30, H⟩ := H
  replace H : ((surveyorref01_Digits.f a1).bind fun t212 => (if (wrap64 (t211 + t212)) ≤ 18 then ((surveyorref01_number.f k a0).bind fun t213 => ((surveyorref01_number.f k a1).bind fun t214 => ((surveyorref01_Whole.f k (wrap64 (t213 * t214))).bind fun t215 => (some t215)))) else ((surveyorref01_digits.f k a0).bind fun t216 => ((surveyorref01_digits.f k a1).bind fun t219 => ((surveyorref01_times.f k t216 t219).bind fun t222 => ((surveyorref01_Negative.f a0).bind fun t225 => ((surveyorref01_Negative.f a1).bind fun t226 => ((surveyorref01_made.f k t222 (t225 != t226)).bind fun t227 => (some t227))))))))) = some r := H
  have A3 := Aside0.mk A30
  clear A30
  replace H := Option.bind_eq_some_iff.mp H
  obtain ⟨t212, A40, H⟩ := H
  replace H : (if (wrap64 (t211 + t212)) ≤ 18 then ((surveyorref01_number.f k a0).bind fun t213 => ((surveyorref01_number.f k a1).bind fun t214 => ((surveyorref01_Whole.f k (wrap64 (t213 * t214))).bind fun t215 => (some t215)))) else ((surveyorref01_digits.f k a0).bind fun t216 => ((surveyorref01_digits.f k a1).bind fun t219 => ((surveyorref01_times.f k t216 t219).bind fun t222 => ((surveyorref01_Negative.f a0).bind fun t225 => ((surveyorref01_Negative.f a1).bind fun t226 => ((surveyorref01_made.f k t222 (t225 != t226)).bind fun t227 => (some t227)))))))) = some r := H
  have A4 := Aside0.mk A40
  clear A40
  by_cases c5 : (wrap64 (t211 + t212)) ≤ 18
  · rw [if_pos c5] at H
    have c5b0 : decide ((wrap64 (t211 + t212)) ≤ 18) = true := decide_eq_true c5
    clear c5
    replace H := Option.bind_eq_some_iff.mp H
    obtain ⟨t213, A60, H⟩ := H
    replace H : ((surveyorref01_number.f k a1).bind fun t214 => ((surveyorref01_Whole.f k (wrap64 (t213 * t214))).bind fun t215 => (some t215))) = some r := H
    have A6 := Aside0.mk A60
    clear A60
    replace H := Option.bind_eq_some_iff.mp H
    obtain ⟨t214, A70, H⟩ := H
    replace H : ((surveyorref01_Whole.f k (wrap64 (t213 * t214))).bind fun t215 => (some t215)) = some r := H
    have A7 := Aside0.mk A70
    clear A70
    replace H := Option.bind_eq_some_iff.mp H
    obtain ⟨t215, A80, H⟩ := H
    replace H : (some t215) = some r := H
    have A8 := Aside0.mk A80
    clear A80
    obtain rfl := Option.some.inj H
    go_enter Tryz.func86, Tryz.ntmps86
    go_wp2_with (first | ((with_reducible refine gate_callee (f := 149) rfl ?_); refine goesL_ (some 6) rfl rfl Tryz.func149 (by kernel_rfl) rfl #[.string a0] rfl (by (try simp only [List.map_toArray, List.map_cons, List.map_nil]); first | done | rfl | (simp only [List.length_drop, List.length_take]; rfl)) ?_; (with_reducible refine (surveyorref01_Digits.calls a0 t211 _ A3.out).mono ?_); rintro e w' ⟨rfl, ⟨nd, rfl⟩⟩; refine ⟨_, rfl, ?_⟩) | ((with_reducible refine gate_callee (f := 149) rfl ?_); refine goesL_ (some 8) rfl rfl Tryz.func149 (by kernel_rfl) rfl #[.string a1] rfl (by (try simp only [List.map_toArray, List.map_cons, List.map_nil]); first | done | rfl | (simp only [List.length_drop, List.length_take]; rfl)) ?_; (with_reducible refine (surveyorref01_Digits.calls a1 t212 _ A4.out).mono ?_); rintro e w' ⟨rfl, ⟨nd, rfl⟩⟩; refine ⟨_, rfl, ?_⟩) | ((with_reducible refine gate_callee (f := 153) rfl ?_); refine goesL_ (some 12) rfl rfl Tryz.func153 (by kernel_rfl) rfl #[.string a0] rfl (by (try simp only [List.map_toArray, List.map_cons, List.map_nil]); first | done | rfl | (simp only [List.length_drop, List.length_take]; rfl)) ?_; (with_reducible refine (surveyorref01_number.calls k a0 t213 _ A6.out).mono ?_); rintro e w' ⟨rfl, ⟨nd, rfl⟩⟩; refine ⟨_, rfl, ?_⟩) | ((with_reducible refine gate_callee (f := 153) rfl ?_); refine goesL_ (some 14) rfl rfl Tryz.func153 (by kernel_rfl) rfl #[.string a1] rfl (by (try simp only [List.map_toArray, List.map_cons, List.map_nil]); first | done | rfl | (simp only [List.length_drop, List.length_take]; rfl)) ?_; (with_reducible refine (surveyorref01_number.calls k a1 t214 _ A7.out).mono ?_); rintro e w' ⟨rfl, ⟨nd, rfl⟩⟩; refine ⟨_, rfl, ?_⟩) | ((with_reducible refine gate_callee (f := 151) rfl ?_); refine goesL_ (some 16) rfl rfl Tryz.func151 (by kernel_rfl) rfl #[.int .i64 (wrap64 (t213 * t214))] rfl (by (try simp only [List.map_toArray, List.map_cons, List.map_nil]); first | done | rfl | (simp only [List.length_drop, List.length_take]; rfl)) ?_; (with_reducible refine (surveyorref01_Whole.calls k (wrap64 (t213 * t214)) t215 _ A8.out).mono ?_); rintro e w9 ⟨rfl, hb⟩; refine ⟨_, rfl, ?_⟩; have n0_ := Aside0.mk (below_step (by repeat (first | (with_reducible first | exact HB.out | apply below_alloc | apply pw_below_drewN | apply below_drew1) | exact HB.out)) hb); clear HB; have HB := n0_; clear n0_; (try clear hb); (try clear hb2); (try clear hk); (try clear hi)))
    go_ret
    exact ⟨by first | rfl | (simp [errW_none, errW_some] <;> rfl) | (simp [*, errW_none, errW_some] <;> rfl), by repeat (first | (with_reducible first | exact HB.out | apply below_alloc | apply pw_below_drewN | apply below_drew1) | exact HB.out)⟩
  · rw [if_neg c5] at H
    have c5b0 : decide ((wrap64 (t211 + t212)) ≤ 18) = false := decide_eq_false c5
    clear c5
    replace H := Option.bind_eq_some_iff.mp H
    obtain ⟨t216, A100, H⟩ := H
    replace H : ((surveyorref01_digits.f k a1).bind fun t219 => ((surveyorref01_times.f k t216 t219).bind fun t222 => ((surveyorref01_Negative.f a0).bind fun t225 => ((surveyorref01_Negative.f a1).bind fun t226 => ((surveyorref01_made.f k t222 (t225 != t226)).bind fun t227 => (some t227)))))) = some r := H
    have A10 := Aside0.mk A100
    clear A100
    replace H := Option.bind_eq_some_iff.mp H
    obtain ⟨t219, A110, H⟩ := H
    replace H : ((surveyorref01_times.f k t216 t219).bind fun t222 => ((surveyorref01_Negative.f a0).bind fun t225 => ((surveyorref01_Negative.f a1).bind fun t226 => ((surveyorref01_made.f k t222 (t225 != t226)).bind fun t227 => (some t227))))) = some r := H
    have A11 := Aside0.mk A110
    clear A110
    replace H := Option.bind_eq_some_iff.mp H
    obtain ⟨t222, A120, H⟩ := H
    replace H : ((surveyorref01_Negative.f a0).bind fun t225 => ((surveyorref01_Negative.f a1).bind fun t226 => ((surveyorref01_made.f k t222 (t225 != t226)).bind fun t227 => (some t227)))) = some r := H
    have A12 := Aside0.mk A120
    clear A120
    replace H := Option.bind_eq_some_iff.mp H
    obtain ⟨t225, A130, H⟩ := H
    replace H : ((surveyorref01_Negative.f a1).bind fun t226 => ((surveyorref01_made.f k t222 (t225 != t226)).bind fun t227 => (some t227))) = some r := H
    have A13 := Aside0.mk A130
    clear A130
    replace H := Option.bind_eq_some_iff.mp H
    obtain ⟨t226, A140, H⟩ := H
    replace H : ((surveyorref01_made.f k t222 (t225 != t226)).bind fun t227 => (some t227)) = some r := H
    have A14 := Aside0.mk A140
    clear A140
    replace H := Option.bind_eq_some_iff.mp H
    obtain ⟨t227, A150, H⟩ := H
    replace H : (some t227) = some r := H
    have A15 := Aside0.mk A150
    clear A150
    obtain rfl := Option.some.inj H
    go_enter Tryz.func86, Tryz.ntmps86
    go_wp2_with (first | ((with_reducible refine gate_callee (f := 149) rfl ?_); refine goesL_ (some 6) rfl rfl Tryz.func149 (by kernel_rfl) rfl #[.string a0] rfl (by (try simp only [List.map_toArray, List.map_cons, List.map_nil]); first | done | rfl | (simp only [List.length_drop, List.length_take]; rfl)) ?_; (with_reducible refine (surveyorref01_Digits.calls a0 t211 _ A3.out).mono ?_); rintro e w' ⟨rfl, ⟨nd, rfl⟩⟩; refine ⟨_, rfl, ?_⟩) | ((with_reducible refine gate_callee (f := 149) rfl ?_); refine goesL_ (some 8) rfl rfl Tryz.func149 (by kernel_rfl) rfl #[.string a1] rfl (by (try simp only [List.map_toArray, List.map_cons, List.map_nil]); first | done | rfl | (simp only [List.length_drop, List.length_take]; rfl)) ?_; (with_reducible refine (surveyorref01_Digits.calls a1 t212 _ A4.out).mono ?_); rintro e w' ⟨rfl, ⟨nd, rfl⟩⟩; refine ⟨_, rfl, ?_⟩) | ((with_reducible refine gate_callee (f := 156) rfl ?_); refine goesL_ (some 18) rfl rfl Tryz.func156 (by kernel_rfl) rfl #[.string a0] rfl (by (try simp only [List.map_toArray, List.map_cons, List.map_nil]); first | done | rfl | (simp only [List.length_drop, List.length_take]; rfl)) ?_; (with_reducible refine (surveyorref01_digits.calls k a0 t216 _ A10.out).mono ?_); rintro e w16 ⟨v217, rfl, ho0, hb⟩; refine ⟨_, rfl, ?_⟩; have n0_ := Aside0.mk (Kd.R_lower ho0 (below_size (by repeat (first | (with_reducible first | exact HB.out | apply below_alloc | apply pw_below_drewN | apply below_drew1) | exact HB.out)))); have n1_ := Aside0.mk (below_step (by repeat (first | (with_reducible first | exact HB.out | apply below_alloc | apply pw_below_drewN | apply below_drew1) | exact HB.out)) hb); clear HB; have HO218 := n0_; have HB := n1_; clear n0_ n1_; (try clear hb); (try clear hb2); (try clear hk); (try clear hi); (try clear ho0)) | ((with_reducible refine gate_callee (f := 156) rfl ?_); refine goesL_ (some 20) rfl rfl Tryz.func156 (by kernel_rfl) rfl #[.string a1] rfl (by (try simp only [List.map_toArray, List.map_cons, List.map_nil]); first | done | rfl | (simp only [List.length_drop, List.length_take]; rfl)) ?_; (with_reducible refine (surveyorref01_digits.calls k a1 t219 _ A11.out).mono ?_); rintro e w17 ⟨v220, rfl, ho0, hb⟩; refine ⟨_, rfl, ?_⟩; have n0_ := Aside0.mk (Kd.R_elder' (by (with_reducible repeat (first | apply Kd.R_alloc | apply Kd.R_drewN | apply Kd.R_drew)); exact HO218.out) (Kd.R_base ho0) hb); have n1_ := Aside0.mk (Kd.R_lower (Kd.R_new' ho0 (Kd.R_lt (by (with_reducible repeat (first | apply Kd.R_alloc | apply Kd.R_drewN | apply Kd.R_drew)); exact HO218.out))) (below_size (by repeat (first | (with_reducible first | exact HB.out | apply below_alloc | apply pw_below_drewN | apply below_drew1) | exact HB.out)))); have n2_ := Aside0.mk (below_step (by repeat (first | (with_reducible first | exact HB.out | apply below_alloc | apply pw_below_drewN | apply below_drew1) | exact HB.out)) hb); clear HO218; clear HB; have HO218 := n0_; have HO221 := n1_; have HB := n2_; clear n0_ n1_ n2_; (try clear hb); (try clear hb2); (try clear hk); (try clear hi); (try clear ho0); obtain ⟨Ao18, co18, eo18⟩ := Kd.R_slice HO218.out; subst eo18; obtain ⟨Ao19, co19, eo19⟩ := Kd.R_slice HO221.out; subst eo19) | ((with_reducible refine gate_callee (f := 164) rfl ?_); refine goesL_ (some 21) rfl rfl Tryz.func164 (by kernel_rfl) rfl #[.slice Ao18 t216.length co18, .slice Ao19 t219.length co19] rfl (by (try simp only [List.map_toArray, List.map_cons, List.map_nil]); first | done | rfl | (simp only [List.length_drop, List.length_take]; rfl)) ?_; (with_reducible refine (surveyorref01_times.calls k _ _ t216 _ _ t219 t222 _ ?side1 ?side2 ?side3 ?side4 A12.out).mono ?_); (case side1 => repeat (first | exact (Kd.R_reads' HO218.out).2.2 | (with_reducible refine Kd.C_alloc ?_ _) | (with_reducible refine Kd.C_drewN ?_ _) | (with_reducible refine Kd.C_drew ?_))); (case side2 => exact (Kd.R_reads' HO218.out).2.1); (case side3 => repeat (first | exact (Kd.R_reads' HO221.out).2.2 | (with_reducible refine Kd.C_alloc ?_ _) | (with_reducible refine Kd.C_drewN ?_ _) | (with_reducible refine Kd.C_drew ?_))); (case side4 => exact (Kd.R_reads' HO221.out).2.1); rintro e w20 ⟨v223, rfl, ho0, hb⟩; refine ⟨_, rfl, ?_⟩; have n0_ := Aside0.mk (Kd.R_elder' (by (with_reducible repeat (first | apply Kd.R_alloc | apply Kd.R_drewN | apply Kd.R_drew)); exact HO218.out) (Kd.R_base ho0) hb); have n1_ := Aside0.mk (Kd.R_elder' (by (with_reducible repeat (first | apply Kd.R_alloc | apply Kd.R_drewN | apply Kd.R_drew)); exact HO221.out) (Kd.R_base ho0) hb); have n2_ := Aside0.mk (Kd.R_lower (Kd.R_new' (Kd.R_new' ho0 (Kd.R_lt (by (with_reducible repeat (first | apply Kd.R_alloc | apply Kd.R_drewN | apply Kd.R_drew)); exact HO218.out))) (Kd.R_lt (by (with_reducible repeat (first | apply Kd.R_alloc | apply Kd.R_drewN | apply Kd.R_drew)); exact HO221.out))) (below_size (by repeat (first | (with_reducible first | exact HB.out | apply below_alloc | apply pw_below_drewN | apply below_drew1) | exact HB.out)))); have n3_ := Aside0.mk (below_step (by repeat (first | (with_reducible first | exact HB.out | apply below_alloc | apply pw_below_drewN | apply below_drew1) | exact HB.out)) hb); clear HO218; clear HO221; clear HB; have HO218 := n0_; have HO221 := n1_; have HO224 := n2_; have HB := n3_; clear n0_ n1_ n2_ n3_; (try clear hb); (try clear hb2); (try clear hk); (try clear hi); (try clear ho0)) | ((with_reducible refine gate_callee (f := 158) rfl ?_); refine goesL_ (some 23) rfl rfl Tryz.func158 (by kernel_rfl) rfl #[.string a0] rfl (by (try simp only [List.map_toArray, List.map_cons, List.map_nil]); first | done | rfl | (simp only [List.length_drop, List.length_take]; rfl)) ?_; (with_reducible refine (surveyorref01_Negative.calls a0 t225 _ A13.out).mono ?_); rintro e w' ⟨rfl, ⟨nd, rfl⟩⟩; refine ⟨_, rfl, ?_⟩) | ((with_reducible refine gate_callee (f := 158) rfl ?_); refine goesL_ (some 25) rfl rfl Tryz.func158 (by kernel_rfl) rfl #[.string a1] rfl (by (try simp only [List.map_toArray, List.map_cons, List.map_nil]); first | done | rfl | (simp only [List.length_drop, List.length_take]; rfl)) ?_; (with_reducible refine (surveyorref01_Negative.calls a1 t226 _ A14.out).mono ?_); rintro e w' ⟨rfl, ⟨nd, rfl⟩⟩; refine ⟨_, rfl, ?_⟩; obtain ⟨Ao21, co21, eo21⟩ := Kd.R_slice HO224.out; subst eo21) | ((with_reducible refine gate_callee (f := 157) rfl ?_); refine goesL_ (some 27) rfl rfl Tryz.func157 (by kernel_rfl) rfl #[.slice Ao21 t222.length co21, .bool (t225 != t226)] rfl (by (try simp only [List.map_toArray, List.map_cons, List.map_nil]); first | done | rfl | (simp only [List.length_drop, List.length_take]; rfl)) ?_; (with_reducible refine (surveyorref01_made.calls k (fun k_ => some k_ = (.slice Ao21 t222.length co21 : Value).ownBlock) (.slice Ao21 t222.length co21) t222 (t225 != t226) t227 w _ ?side1 ?side2 A15.out).mono ?_); (case side1 => repeat (first | (with_reducible first | exact HB.out | apply below_alloc | apply pw_below_drewN | apply below_drew1) | exact HB.out)); (case side2 => exact Kd.R_tight rfl HO224.out); rintro e w22 ⟨rfl, hb, hkp⟩; refine ⟨_, rfl, ?_⟩; have n0_ := Aside0.mk (Kd.R_mono (ok' := fun k_ => some k_ ≠ (.slice Ao19 t219.length co19 : Value).ownBlock) (Kd.R_keptB (HO218.out) hkp (fun k_ hk_ hs_ => (hk_.2) hs_)) (fun k_ hk_ => hk_.1.1.2)); have n1_ := Aside0.mk (Kd.R_mono (ok' := fun k_ => some k_ ≠ (.slice Ao18 t216.length co18 : Value).ownBlock) (Kd.R_keptB (HO221.out) hkp (fun k_ hk_ hs_ => (hk_.2) hs_)) (fun k_ hk_ => hk_.1.1.2)); have n2_ := Aside0.mk (hb); clear HO218; clear HO221; clear HB; clear HO224; have HO218 := n0_; have HO221 := n1_; have HB := n2_; clear n0_ n1_ n2_; (try clear hb); (try clear hkp)))
    go_ret
    exact ⟨by first | rfl | (simp [errW_none, errW_some] <;> rfl) | (simp [*, errW_none, errW_some] <;> rfl), by repeat (first | (with_reducible first | exact HB.out | apply below_alloc | apply pw_below_drewN | apply below_drew1) | exact HB.out)⟩
def surveyorref01_limited.f (a0 : ByteArray) : Option (ByteArray × Int) := (surveyorref01_Digits.f a0).bind fun t228 => (if t228 > 4096 then (some ((⟨#[]⟩ : ByteArray), 10)) else (some (a0, 0)))
set_option maxHeartbeats 8000000 in
set_option maxRecDepth 100000 in
theorem surveyorref01_limited.calls (a0 : ByteArray) (r1 : ByteArray) (r2 : Int) (w : World) (h : surveyorref01_limited.f a0 = some (r1, r2)) :
    Calls Tryz.prog 76 #[.string a0] w fun e w' => e = .returned (.tuple #[.string r1, .int .i64 r2]) ∧ Drawn0 w w' := by
  have H : ((surveyorref01_Digits.f a0).bind fun t228 => (if t228 > 4096 then (some ((⟨#[]⟩ : ByteArray), 10)) else (some (a0, 0)))) = some (r1, r2) := h
  clear h
  replace H := Option.bind_eq_some_iff.mp H
  obtain ⟨t228, A20, H⟩ := H
  replace H : (if t228 > 4096 then (some ((⟨#[]⟩ : ByteArray), 10)) else (some (a0, 0))) = some (r1, r2) := H
  have A2 := Aside0.mk A20
  clear A20
  by_cases c3 : t228 > 4096
  · rw [if_pos c3] at H
    have c3b0 : decide (4096 < t228) = true := decide_eq_true c3
    clear c3
    simp only [Option.some.injEq, Prod.mk.injEq] at H
    obtain ⟨rfl, rfl⟩ := H
    go_enter Tryz.func76, Tryz.ntmps76
    go_wp2_with (first | ((with_reducible refine gate_callee (f := 149) rfl ?_); refine goesL_ (some 5) rfl rfl Tryz.func149 (by kernel_rfl) rfl #[.string a0] rfl (by (try simp only [List.map_toArray, List.map_cons, List.map_nil]); first | done | rfl | (simp only [List.length_drop, List.length_take]; rfl)) ?_; (with_reducible refine (surveyorref01_Digits.calls a0 t228 _ A2.out).mono ?_); rintro e w' ⟨rfl, ⟨nd, rfl⟩⟩; refine ⟨_, rfl, ?_⟩))
    go_ret2
    exact ⟨by first | rfl | (simp; done) | (simp [*]; done), by repeat (first | exact Drawn0.refl _ | apply Drawn0.step)⟩
  · rw [if_neg c3] at H
    have c3b0 : decide (4096 < t228) = false := decide_eq_false c3
    clear c3
    simp only [Option.some.injEq, Prod.mk.injEq] at H
    obtain ⟨rfl, rfl⟩ := H
    go_enter Tryz.func76, Tryz.ntmps76
    go_wp2_with (first | ((with_reducible refine gate_callee (f := 149) rfl ?_); refine goesL_ (some 5) rfl rfl Tryz.func149 (by kernel_rfl) rfl #[.string a0] rfl (by (try simp only [List.map_toArray, List.map_cons, List.map_nil]); first | done | rfl | (simp only [List.length_drop, List.length_take]; rfl)) ?_; (with_reducible refine (surveyorref01_Digits.calls a0 t228 _ A2.out).mono ?_); rintro e w' ⟨rfl, ⟨nd, rfl⟩⟩; refine ⟨_, rfl, ?_⟩))
    go_ret2
    exact ⟨by first | rfl | (simp; done) | (simp [*]; done), by repeat (first | exact Drawn0.refl _ | apply Drawn0.step)⟩
end Go.Proofs.YtignanmmgaldeaaGreatDoor.PRefA
