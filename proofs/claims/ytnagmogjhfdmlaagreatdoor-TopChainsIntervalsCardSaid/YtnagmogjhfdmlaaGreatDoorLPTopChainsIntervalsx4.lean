/- Lemmas. -/
import Derived.Test.YtnagmogjhfdmlaaGreatDoorLPTopChainsIntervalsx0
import Derived.Test.YtnagmogjhfdmlaaGreatDoorLPTopChainsIntervalsx2
import Derived.Test.YtnagmogjhfdmlaaGreatDoorLPTopChainsIntervalsx3
import Derived.Test.YtnagmogjhfdmlaaGreatDoorLShort
import Derived.Test.YtnagmogjhfdmlaaGreatDoorLShort3
import Derived.Test.YtnagmogjhfdmlaaGreatDoorLShort4
namespace Go.Proofs.YtnagmogjhfdmlaaGreatDoor.PTopChainsIntervals
open Go.RowKit Go.Proofs.YtnagmogjhfdmlaaGreatDoorW.PrintWords Go.Proofs.YtnagmogjhfdmlaaGreatDoorW.PrintLast Go.Proofs.YtnagmogjhfdmlaaGreatDoorW.PrintMore
attribute [local go_sem] max2_int -- for this text's walks alone
set_option linter.unusedVariables false
set_option linter.unusedSimpArgs false
def surveyorref21_Thresholds.l0 : Nat → List ByteArray → Int → Option (Int)
  | 0, _, _ => none
  | k + 1, x0, x3 => if x3 < (x0.length : Int) then (if 0 ≤ x3 then ((surveyorref06_Number.f k (rdOf ByteArray.empty x0 x3)).bind fun t138 => (if t138 = 0 then (if x3 > 0 then (if 0 ≤ (wrap64 (x3 - 1)) then (if (wrap64 (x3 - 1)) < (x0.length : Int) then ((surveyorref01_Less.f k (rdOf ByteArray.empty x0 (wrap64 (x3 - 1))) (rdOf ByteArray.empty x0 x3)).bind fun t141 => (if t141 = true then (surveyorref21_Thresholds.l0 k x0 (wrap64 (x3 + 1))) else (some 14))) else (none)) else (none)) else (surveyorref21_Thresholds.l0 k x0 (wrap64 (x3 + 1)))) else (some t138))) else (none)) else (some 0)
def surveyorref21_Thresholds.f (k : Nat) (l0 : List ByteArray) : Option (Int) := if (l0.length : Int) > 1024 then (some 5) else (surveyorref21_Thresholds.l0 k l0 0)
theorem surveyorref21_Thresholds.mono_l : ∀ k, (∀ y0 y1, LeO (surveyorref21_Thresholds.l0 k y0 y1) (surveyorref21_Thresholds.l0 (k + 1) y0 y1))
  | 0 => fun _ _ r h => by simp [surveyorref21_Thresholds.l0] at h
  | k + 1 => by
    have ih0 := surveyorref21_Thresholds.mono_l k
    · intro y0 y1
      unfold surveyorref21_Thresholds.l0
      repeat' first
      | (with_reducible exact ih0 _ _)
      | (with_reducible exact surveyorref01_Less.mono _ _ _)
      | (with_reducible exact surveyorref06_Number.mono _ _)
      | (with_reducible exact LeO.refl _)
      | (with_reducible exact LeO.none _)
      | (with_reducible refine LeO.ite ?_ ?_)
      | (with_reducible refine LeO.bind ?_ (fun _ => ?_))
      | exact ih0 _ _
      | exact surveyorref01_Less.mono _ _ _
      | exact surveyorref06_Number.mono _ _
      | exact LeO.none _
      | refine LeO.ite ?_ ?_
      | refine LeO.bind ?_ (fun _ => ?_)
def surveyorref21_Thresholds.T9 : Bool × List (List Nat × List Nat) := (true, [([], []), ([0], [0]), ([1], [1]), ([2], [2]), ([2], [2]), ([4, 2], [2, 4]), ([3, 5, 2], [2, 3, 5]), ([6, 2], [2, 6]), ([2], [2]), ([2], [2]), ([8, 9, 2], [2, 8, 9]), ([10, 2], [2, 10]), ([7, 11, 2, 2], [2, 7, 11]), ([12, 2], [2, 12]), ([2, 13], [2, 13])])
def surveyorref21_Thresholds.B9 : List Nat := [0, 1, 3, 7, 7, 23, 63, 127, 7, 7, 775, 1799, 4095, 8191, 16383]
theorem surveyorref21_Thresholds.tab9 : rtab .any (opsOf Tryz.f4 9) = surveyorref21_Thresholds.T9 := by kernel_rfl
theorem surveyorref21_Thresholds.bits9 : waitsOk surveyorref21_Thresholds.T9.2 surveyorref21_Thresholds.B9 = true := by kernel_rfl
set_option maxHeartbeats 8000000 in
set_option maxRecDepth 100000 in
theorem surveyorref21_Thresholds.calls (k : Nat) (A0 : Option Addr) (c0 : Nat) (l0 : List ByteArray) (r : Int) (w : World) (hr0 : Kd.C Kd.string w A0 l0.length l0) (hc0 : l0.length ≤ c0) (h : surveyorref21_Thresholds.f k l0 = some r) :
    Calls Tryz.prog 4 #[.slice A0 l0.length c0] w fun e w' => e = .returned (.int .i64 r) ∧ Below w.heap.size w w' := by
  have HR0 := Aside0.mk hr0
  have HC0 := Aside0.mk hc0
  clear hr0 hc0
  have HB := Aside0.mk (Below.refl w.heap.size w)
  have H : (if (l0.length : Int) > 1024 then (some 5) else (surveyorref21_Thresholds.l0 k l0 0)) = some r := h
  clear h
  by_cases c2 : (l0.length : Int) > 1024
  · rw [if_pos c2] at H
    have c2b0 : decide (1024 < (l0.length : Int)) = true := decide_eq_true c2
    have c2b1 : decide (1024 < l0.length) = true := decide_eq_true (by omega)
    clear c2
    obtain rfl := Option.some.inj H
    go_enter Tryz.func4, Tryz.ntmps4
    go_wp2
    go_ret
    exact pkE HB
  · rw [if_neg c2] at H
    have c2b0 : decide (1024 < (l0.length : Int)) = false := decide_eq_false c2
    have c2b1 : decide (1024 < l0.length) = false := decide_eq_false (by omega)
    clear c2
    have H' := Aside0.mk H
    clear H
    go_enter Tryz.func4, Tryz.ntmps4
    go_wp2
    go_loopg [3] k (fun kq v3 w' => ∃ (x3_1 : Int), v3 = .int .i64 x3_1 ∧ Aside0 (surveyorref21_Thresholds.l0 kq l0 x3_1 = some r) ∧ Aside0 (kq ≤ k) ∧ Aside0 (Below w.heap.size w w'))
    case atStart => exact ⟨(0), (by first | rfl | (simp; done) | (simp [*]; done)), H', ⟨Nat.le_refl _⟩, ⟨pkL HB⟩⟩
    case round =>
      clear H'
      try clear c2
      try clear c2b0
      try clear c2b1
      obtain ⟨x3_1, rfl, HA, HK1, HB⟩ := hrel
      cases gk with
      | zero => exact absurd HA.out (by simp [surveyorref21_Thresholds.l0])
      | succ k1 =>
        have H := HA.out
        clear HA
        simp only [surveyorref21_Thresholds.l0] at H
        by_cases c3 : x3_1 < (l0.length : Int)
        · rw [if_pos c3] at H
          have c3b0 : decide (x3_1 < (l0.length : Int)) = true := decide_eq_true c3
          clear c3
          by_cases c4 : 0 ≤ x3_1
          · rw [if_pos c4] at H
            have c4b0 : decide (0 ≤ x3_1) = true := decide_eq_true c4
            clear c4
            obtain ⟨t138, A5, H⟩ := bi H
            try dsimp only at H
            by_cases c6 : t138 = 0
            · rw [if_pos c6] at H
              have c6b0 : (t138 == 0) = true := beq_iff_eq.mpr c6
              have c6b1 : (t138 != 0) = false := bne_eq_false_iff_eq.mpr c6
              clear c6
              by_cases c7 : x3_1 > 0
              · rw [if_pos c7] at H
                have c7b0 : decide (0 < x3_1) = true := decide_eq_true c7
                clear c7
                obtain ⟨ji8, hji8⟩ : ∃ j_ : Int, (wrap64 (x3_1 - 1)) = j_ := ⟨_, rfl⟩
                replace H : (if 0 ≤ (ji8) then (if (ji8) < (l0.length : Int) then ((surveyorref01_Less.f k1 (rdOf ByteArray.empty l0 (ji8)) (rdOf ByteArray.empty l0 x3_1)).bind fun t141 => (if t141 = true then (surveyorref21_Thresholds.l0 k1 l0 (wrap64 (x3_1 + 1))) else (some 14))) else (none)) else (none)) = some r := by first | (rw [hji8] at H; exact H) | (simp only [hji8] at H ⊢; exact H)
                (try rw [hji8] at A5)
                have hji8w : (IntKind.i64.wrap (x3_1 - 1)) = ji8 := (i64_w _).trans hji8
                by_cases c9 : 0 ≤ (ji8)
                · rw [if_pos c9] at H
                  have c9b0 : decide (0 ≤ (ji8)) = true := decide_eq_true c9
                  clear c9
                  by_cases c10 : (ji8) < (l0.length : Int)
                  · rw [if_pos c10] at H
                    have c10b0 : decide ((ji8) < (l0.length : Int)) = true := decide_eq_true c10
                    clear c10
                    obtain ⟨t141, A11, H⟩ := bi H
                    try dsimp only at H
                    by_cases c12 : t141 = true
                    · subst c12
                      rw [if_pos rfl] at H
                      have H' := Aside0.mk H
                      clear H
                      have p137 : 0 ≤ (x3_1 : Int) := of_decide_eq_true (by first | (with_reducible assumption) | assumption)
                      have q137 : x3_1 < (l0.length : Int) := of_decide_eq_true (by first | (with_reducible assumption) | assumption)
                      obtain ⟨ad137, e137, hx137_0⟩ := Kd.at_string HR0.out x3_1 p137 q137
                      cases e137
                      replace hx137_0 := (HB.out.cell (World.block_lt_of_cell? w _ hx137_0)).trans hx137_0
                      replace p137 := eq_true p137
                      replace q137 := eq_true q137
                      try go_wp2_with (first | ((with_reducible refine gate_callee (f := 9) rfl ?_); refine gl_ 18 Tryz.func9 #[.string (rdOf ByteArray.empty l0 x3_1)] (h := ?_); (with_reducible refine (surveyorref06_Number.calls k1 (rdOf ByteArray.empty l0 x3_1) t138 _ A5.out).mono ?_); rintro e w' ⟨rfl, ⟨nd, rfl⟩⟩; refine ⟨_, rfl, ?_⟩))
                      (try (rw [drewN_self wr]; generalize hq_ : World.drewN wr _ = wr; have n0_ : Aside0 (Below w.heap.size w wr) := ⟨by rw [← hq_]; exact (pkL HB)⟩; clear HB hq_; have HB := n0_; clear n0_))
                      replace HB := Aside0.mk (below_drew1 HB.out)
                      have p139 : 0 ≤ ((ji8) : Int) := of_decide_eq_true (by first | (with_reducible assumption) | assumption)
                      have q139 : (ji8) < (l0.length : Int) := of_decide_eq_true (by first | (with_reducible assumption) | assumption)
                      obtain ⟨ad139, e139, hx139_0⟩ := Kd.at_string HR0.out (ji8) p139 q139
                      have hw139_0 := hx139_0
                      obtain rfl : ad137 = ad139 := (by injection e139)
                      replace hx139_0 := (HB.out.cell (World.block_lt_of_cell? w _ hx139_0)).trans hx139_0
                      replace p139 := eq_true p139
                      replace q139 := eq_true q139
                      have p140 : 0 ≤ (x3_1 : Int) := of_decide_eq_true (by first | (with_reducible assumption) | assumption)
                      have q140 : x3_1 < (l0.length : Int) := of_decide_eq_true (by first | (with_reducible assumption) | assumption)
                      obtain ⟨ad140, e140, hx140_0⟩ := Kd.at_string HR0.out x3_1 p140 q140
                      have hw140_0 := hx140_0
                      obtain rfl : ad137 = ad140 := (by injection e140)
                      replace hx140_0 := (HB.out.cell (World.block_lt_of_cell? w _ hx140_0)).trans hx140_0
                      replace p140 := eq_true p140
                      replace q140 := eq_true q140
                      refine start_ (n := 15) (S := fun w' => w'.cell? (ad137.add ((ji8)).toNat) = some (.string (rdOf ByteArray.empty l0 (ji8))) ∧ w'.cell? (ad137.add (x3_1).toNat) = some (.string (rdOf ByteArray.empty l0 x3_1))) (ds := []) #[false, false, false, false, false, false, false, false, false, false, false, false, false, false, false] (by kernel_rfl) rfl rfl ⟨((HB.out.cell (World.block_lt_of_cell? w _ hw139_0)).trans hw139_0), ((HB.out.cell (World.block_lt_of_cell? w _ hw140_0)).trans hw140_0)⟩ (fun hHeld => ?_); refine with_tabW surveyorref21_Thresholds.tab9 surveyorref21_Thresholds.bits9 (fun HT_ HW_ => ?_)
                      generalize wr.drew = w13 at HB hx139_0 hx140_0 hHeld ⊢
                      refine pr_ 0 22 (h := ?_)
                      refine pr_ 1 23 (h := ?_)
                      refine pr_ 2 24 (h := ?_)
                      refine pr_ 3 25 (h := ?_)
                      refine pr_ 4 26 (h := ?_)
                      refine pr_ 5 27 (h := ?_)
                      refine pr_ 6 28 (h := ?_)
                      refine pr_ 8 30 (h := ?_)
                      refine pr_ 9 31 (h := ?_)
                      refine pr_ 10 32 (h := ?_)
                      refine tk_ 7 29 hHeld (hy := by rintro w' ⟨s0, s1⟩; go_simp; with_reducible rfl) (h := ?_)
                      refine tk_ 11 33 hHeld (hy := by rintro w' ⟨s0, s1⟩; go_simp; with_reducible rfl) (h := ?_)
                      refine on_ 12 34 (h := fun K hK => ?_)
                      refine goes_ Tryz.func10 (by kernel_rfl) rfl #[.string (rdOf ByteArray.empty l0 (ji8)), .string (rdOf ByteArray.empty l0 x3_1)] (by rfl) rfl rfl (by (try simp only [List.map_toArray, List.map_cons, List.map_nil]); first | done | (simp only [hji8]; rfl) | rfl | (simp only [List.length_drop, List.length_take]; rfl)) ?_
                      with_reducible refine (surveyorref01_Less.calls k1 (rdOf ByteArray.empty l0 (ji8)) (rdOf ByteArray.empty l0 x3_1) true _ A11.out).mono ?_
                      rintro e w14 ⟨rfl, hb⟩
                      refine ⟨_, rfl, ?_⟩
                      replace HB := pkB HB hb
                      (try clear hb)
                      (try clear hb2)
                      (try clear hk)
                      (try clear hi)
                      refine hK.out _ _ ⟨((HB.out.cell (World.block_lt_of_cell? w _ hw139_0)).trans hw139_0), ((HB.out.cell (World.block_lt_of_cell? w _ hw140_0)).trans hw140_0)⟩ (fun hHeld => ?_)
                      clear hK K
                      refine norm_ (a' := ?_) ?_ ?_
                      rotate_left
                      · show Act.put _ (some 34) _ = _
                        simp only [Act.put, List.setIfInBounds_toArray, List.set_cons_zero, List.set_cons_succ, i64_w, i32_w]
                        rfl
                      refine pr_ 13 35 (h := ?_)
                      refine pr_ 14 36 (h := ?_)
                      refine done_ (done_of HT_.out (by kernel_rfl)) ?_
                      try go_wp2
                      go_roundg k1
                      case measure => have := HK1.out; omega
                      case rel => exact ⟨(wrap64 (x3_1 + 1)), (by first | rfl | (simp; done) | (simp [*]; done)), H', ⟨by have := HK1.out; omega⟩, ⟨pkL HB⟩⟩
                    · replace c12 := Bool.eq_false_iff.mpr c12
                      subst c12
                      rw [if_neg (show ¬ (false = true) by decide)] at H
                      obtain rfl := Option.some.inj H
                      have p137 : 0 ≤ (x3_1 : Int) := of_decide_eq_true (by first | (with_reducible assumption) | assumption)
                      have q137 : x3_1 < (l0.length : Int) := of_decide_eq_true (by first | (with_reducible assumption) | assumption)
                      obtain ⟨ad137, e137, hx137_0⟩ := Kd.at_string HR0.out x3_1 p137 q137
                      cases e137
                      replace hx137_0 := (HB.out.cell (World.block_lt_of_cell? w _ hx137_0)).trans hx137_0
                      replace p137 := eq_true p137
                      replace q137 := eq_true q137
                      try go_wp2_with (first | ((with_reducible refine gate_callee (f := 9) rfl ?_); refine gl_ 18 Tryz.func9 #[.string (rdOf ByteArray.empty l0 x3_1)] (h := ?_); (with_reducible refine (surveyorref06_Number.calls k1 (rdOf ByteArray.empty l0 x3_1) t138 _ A5.out).mono ?_); rintro e w' ⟨rfl, ⟨nd, rfl⟩⟩; refine ⟨_, rfl, ?_⟩))
                      (try (rw [drewN_self wr]; generalize hq_ : World.drewN wr _ = wr; have n0_ : Aside0 (Below w.heap.size w wr) := ⟨by rw [← hq_]; exact (pkL HB)⟩; clear HB hq_; have HB := n0_; clear n0_))
                      replace HB := Aside0.mk (below_drew1 HB.out)
                      have p139 : 0 ≤ ((ji8) : Int) := of_decide_eq_true (by first | (with_reducible assumption) | assumption)
                      have q139 : (ji8) < (l0.length : Int) := of_decide_eq_true (by first | (with_reducible assumption) | assumption)
                      obtain ⟨ad139, e139, hx139_0⟩ := Kd.at_string HR0.out (ji8) p139 q139
                      have hw139_0 := hx139_0
                      obtain rfl : ad137 = ad139 := (by injection e139)
                      replace hx139_0 := (HB.out.cell (World.block_lt_of_cell? w _ hx139_0)).trans hx139_0
                      replace p139 := eq_true p139
                      replace q139 := eq_true q139
                      have p140 : 0 ≤ (x3_1 : Int) := of_decide_eq_true (by first | (with_reducible assumption) | assumption)
                      have q140 : x3_1 < (l0.length : Int) := of_decide_eq_true (by first | (with_reducible assumption) | assumption)
                      obtain ⟨ad140, e140, hx140_0⟩ := Kd.at_string HR0.out x3_1 p140 q140
                      have hw140_0 := hx140_0
                      obtain rfl : ad137 = ad140 := (by injection e140)
                      replace hx140_0 := (HB.out.cell (World.block_lt_of_cell? w _ hx140_0)).trans hx140_0
                      replace p140 := eq_true p140
                      replace q140 := eq_true q140
                      refine start_ (n := 15) (S := fun w' => w'.cell? (ad137.add ((ji8)).toNat) = some (.string (rdOf ByteArray.empty l0 (ji8))) ∧ w'.cell? (ad137.add (x3_1).toNat) = some (.string (rdOf ByteArray.empty l0 x3_1))) (ds := []) #[false, false, false, false, false, false, false, false, false, false, false, false, false, false, false] (by kernel_rfl) rfl rfl ⟨((HB.out.cell (World.block_lt_of_cell? w _ hw139_0)).trans hw139_0), ((HB.out.cell (World.block_lt_of_cell? w _ hw140_0)).trans hw140_0)⟩ (fun hHeld => ?_); refine with_tabW surveyorref21_Thresholds.tab9 surveyorref21_Thresholds.bits9 (fun HT_ HW_ => ?_)
                      generalize wr.drew = w15 at HB hx139_0 hx140_0 hHeld ⊢
                      refine pr_ 0 22 (h := ?_)
                      refine pr_ 1 23 (h := ?_)
                      refine pr_ 2 24 (h := ?_)
                      refine pr_ 3 25 (h := ?_)
                      refine pr_ 4 26 (h := ?_)
                      refine pr_ 5 27 (h := ?_)
                      refine pr_ 6 28 (h := ?_)
                      refine pr_ 8 30 (h := ?_)
                      refine pr_ 9 31 (h := ?_)
                      refine pr_ 10 32 (h := ?_)
                      refine tk_ 7 29 hHeld (hy := by rintro w' ⟨s0, s1⟩; go_simp; with_reducible rfl) (h := ?_)
                      refine tk_ 11 33 hHeld (hy := by rintro w' ⟨s0, s1⟩; go_simp; with_reducible rfl) (h := ?_)
                      refine on_ 12 34 (h := fun K hK => ?_)
                      refine goes_ Tryz.func10 (by kernel_rfl) rfl #[.string (rdOf ByteArray.empty l0 (ji8)), .string (rdOf ByteArray.empty l0 x3_1)] (by rfl) rfl rfl (by (try simp only [List.map_toArray, List.map_cons, List.map_nil]); first | done | (simp only [hji8]; rfl) | rfl | (simp only [List.length_drop, List.length_take]; rfl)) ?_
                      with_reducible refine (surveyorref01_Less.calls k1 (rdOf ByteArray.empty l0 (ji8)) (rdOf ByteArray.empty l0 x3_1) false _ A11.out).mono ?_
                      rintro e w16 ⟨rfl, hb⟩
                      refine ⟨_, rfl, ?_⟩
                      replace HB := pkB HB hb
                      (try clear hb)
                      (try clear hb2)
                      (try clear hk)
                      (try clear hi)
                      refine hK.out _ _ ⟨((HB.out.cell (World.block_lt_of_cell? w _ hw139_0)).trans hw139_0), ((HB.out.cell (World.block_lt_of_cell? w _ hw140_0)).trans hw140_0)⟩ (fun hHeld => ?_)
                      clear hK K
                      refine norm_ (a' := ?_) ?_ ?_
                      rotate_left
                      · show Act.put _ (some 34) _ = _
                        simp only [Act.put, List.setIfInBounds_toArray, List.set_cons_zero, List.set_cons_succ, i64_w, i32_w]
                        rfl
                      refine pr_ 13 35 (h := ?_)
                      refine pr_ 14 36 (h := ?_)
                      refine done_ (done_of HT_.out (by kernel_rfl)) ?_
                      try go_wp2
                      go_ret
                      exact ⟨by first | rfl | (simp [errW_none, errW_some] <;> rfl) | (simp only [← hji8]; first | rfl | (simp [errW_none, errW_some] <;> rfl)) | (simp [*, errW_none, errW_some] <;> rfl), by repeat (first | (with_reducible first | exact HB.out | apply below_alloc | apply pw_below_drewN | apply below_drew1) | exact HB.out)⟩
                  · rw [if_neg c10] at H
                    exact absurd H (by simp)
                · rw [if_neg c9] at H
                  exact absurd H (by simp)
              · rw [if_neg c7] at H
                have c7b0 : decide (0 < x3_1) = false := decide_eq_false c7
                clear c7
                have H' := Aside0.mk H
                clear H
                have p137 : 0 ≤ (x3_1 : Int) := of_decide_eq_true (by first | (with_reducible assumption) | assumption)
                have q137 : x3_1 < (l0.length : Int) := of_decide_eq_true (by first | (with_reducible assumption) | assumption)
                obtain ⟨ad137, e137, hx137_0⟩ := Kd.at_string HR0.out x3_1 p137 q137
                cases e137
                replace hx137_0 := (HB.out.cell (World.block_lt_of_cell? w _ hx137_0)).trans hx137_0
                replace p137 := eq_true p137
                replace q137 := eq_true q137
                try go_wp2_with (first | ((with_reducible refine gate_callee (f := 9) rfl ?_); refine gl_ 18 Tryz.func9 #[.string (rdOf ByteArray.empty l0 x3_1)] (h := ?_); (with_reducible refine (surveyorref06_Number.calls k1 (rdOf ByteArray.empty l0 x3_1) t138 _ A5.out).mono ?_); rintro e w' ⟨rfl, ⟨nd, rfl⟩⟩; refine ⟨_, rfl, ?_⟩))
                (try (rw [drewN_self wr]; generalize hq_ : World.drewN wr _ = wr; have n0_ : Aside0 (Below w.heap.size w wr) := ⟨by rw [← hq_]; exact (pkL HB)⟩; clear HB hq_; have HB := n0_; clear n0_))
                replace HB := Aside0.mk (below_drew1 HB.out)
                refine start_ (n := 15) (S := fun w' => True) (ds := []) #[false, false, false, false, false, false, false, false, false, false, false, false, false, false, false] (by kernel_rfl) rfl rfl trivial (fun hHeld => ?_); refine with_tabW surveyorref21_Thresholds.tab9 surveyorref21_Thresholds.bits9 (fun HT_ HW_ => ?_)
                generalize wr.drew = w17 at HB hHeld ⊢
                refine pr_ 0 22 (h := ?_)
                refine pr_ 1 23 (h := ?_)
                refine pr_ 2 24 (h := ?_)
                refine pure_ (i := 3) (N := some 25) (v := undef) (a' := ?_) #[true, true, true, true, false, false, false, false, false, false, false, false, false, false, false] rfl rfl (any_of HT_.out (by kernel_rfl)) (fun _ _ _ h => h) (Or.inr ⟨by rfl, rfl⟩) ?_ ?_
                rotate_left
                · simp only [Act.put, List.setIfInBounds_toArray, List.set_cons_zero, List.set_cons_succ, i64_w, i32_w]
                  rfl
                refine pure_ (i := 4) (N := some 26) (v := undef) (a' := ?_) #[true, true, true, true, true, false, false, false, false, false, false, false, false, false, false] rfl rfl (any_of HT_.out (by kernel_rfl)) (fun _ _ _ h => h) (Or.inr ⟨by rfl, rfl⟩) ?_ ?_
                rotate_left
                · simp only [Act.put, List.setIfInBounds_toArray, List.set_cons_zero, List.set_cons_succ, i64_w, i32_w]
                  rfl
                refine pure_ (i := 5) (N := some 27) (v := undef) (a' := ?_) #[true, true, true, true, true, true, false, false, false, false, false, false, false, false, false] rfl rfl (any_of HT_.out (by kernel_rfl)) (fun _ _ _ h => h) (Or.inr ⟨by rfl, rfl⟩) ?_ ?_
                rotate_left
                · simp only [Act.put, List.setIfInBounds_toArray, List.set_cons_zero, List.set_cons_succ, i64_w, i32_w]
                  rfl
                refine pure_ (i := 6) (N := some 28) (v := undef) (a' := ?_) #[true, true, true, true, true, true, true, false, false, false, false, false, false, false, false] rfl rfl (any_of HT_.out (by kernel_rfl)) (fun _ _ _ h => h) (Or.inr ⟨by rfl, rfl⟩) ?_ ?_
                rotate_left
                · simp only [Act.put, List.setIfInBounds_toArray, List.set_cons_zero, List.set_cons_succ, i64_w, i32_w]
                  rfl
                refine pure_ (i := 7) (N := some 29) (v := undef) (a' := ?_) #[true, true, true, true, true, true, true, true, false, false, false, false, false, false, false] rfl rfl (any_of HT_.out (by kernel_rfl)) (fun _ _ _ h => h) (Or.inr ⟨by rfl, rfl⟩) ?_ ?_
                rotate_left
                · simp only [Act.put, List.setIfInBounds_toArray, List.set_cons_zero, List.set_cons_succ, i64_w, i32_w]
                  rfl
                refine pure_ (i := 8) (N := some 30) (v := undef) (a' := ?_) #[true, true, true, true, true, true, true, true, true, false, false, false, false, false, false] rfl rfl (any_of HT_.out (by kernel_rfl)) (fun _ _ _ h => h) (Or.inr ⟨by rfl, rfl⟩) ?_ ?_
                rotate_left
                · simp only [Act.put, List.setIfInBounds_toArray, List.set_cons_zero, List.set_cons_succ, i64_w, i32_w]
                  rfl
                refine pure_ (i := 9) (N := some 31) (v := undef) (a' := ?_) #[true, true, true, true, true, true, true, true, true, true, false, false, false, false, false] rfl rfl (any_of HT_.out (by kernel_rfl)) (fun _ _ _ h => h) (Or.inr ⟨by rfl, rfl⟩) ?_ ?_
                rotate_left
                · simp only [Act.put, List.setIfInBounds_toArray, List.set_cons_zero, List.set_cons_succ, i64_w, i32_w]
                  rfl
                refine pure_ (i := 10) (N := some 32) (v := undef) (a' := ?_) #[true, true, true, true, true, true, true, true, true, true, true, false, false, false, false] rfl rfl (any_of HT_.out (by kernel_rfl)) (fun _ _ _ h => h) (Or.inr ⟨by rfl, rfl⟩) ?_ ?_
                rotate_left
                · simp only [Act.put, List.setIfInBounds_toArray, List.set_cons_zero, List.set_cons_succ, i64_w, i32_w]
                  rfl
                refine pure_ (i := 11) (N := some 33) (v := undef) (a' := ?_) #[true, true, true, true, true, true, true, true, true, true, true, true, false, false, false] rfl rfl (any_of HT_.out (by kernel_rfl)) (fun _ _ _ h => h) (Or.inr ⟨by rfl, rfl⟩) ?_ ?_
                rotate_left
                · simp only [Act.put, List.setIfInBounds_toArray, List.set_cons_zero, List.set_cons_succ, i64_w, i32_w]
                  rfl
                refine pure_ (i := 12) (N := some 34) (v := undef) (a' := ?_) #[true, true, true, true, true, true, true, true, true, true, true, true, true, false, false] rfl rfl (any_of HT_.out (by kernel_rfl)) (fun _ _ _ h => h) (Or.inr ⟨by rfl, rfl⟩) ?_ ?_
                rotate_left
                · simp only [Act.put, List.setIfInBounds_toArray, List.set_cons_zero, List.set_cons_succ, i64_w, i32_w]
                  rfl
                refine pure_ (i := 13) (N := some 35) (v := undef) (a' := ?_) #[true, true, true, true, true, true, true, true, true, true, true, true, true, true, false] rfl rfl (any_of HT_.out (by kernel_rfl)) (fun _ _ _ h => h) (Or.inr ⟨by rfl, rfl⟩) ?_ ?_
                rotate_left
                · simp only [Act.put, List.setIfInBounds_toArray, List.set_cons_zero, List.set_cons_succ, i64_w, i32_w]
                  rfl
                refine pr_ 14 36 (h := ?_)
                refine done_ (done_of HT_.out (by kernel_rfl)) ?_
                try go_wp2
                go_roundg k1
                case measure => have := HK1.out; omega
                case rel => exact ⟨(wrap64 (x3_1 + 1)), (by first | rfl | (simp; done) | (simp [*]; done)), H', ⟨by have := HK1.out; omega⟩, ⟨pkL HB⟩⟩
            · rw [if_neg c6] at H
              have c6b0 : (t138 == 0) = false := beq_eq_false_iff_ne.mpr c6
              have c6b1 : (t138 != 0) = true := bne_iff_ne.mpr c6
              obtain rfl := Option.some.inj H
              have p137 : 0 ≤ (x3_1 : Int) := of_decide_eq_true (by first | (with_reducible assumption) | assumption)
              have q137 : x3_1 < (l0.length : Int) := of_decide_eq_true (by first | (with_reducible assumption) | assumption)
              obtain ⟨ad137, e137, hx137_0⟩ := Kd.at_string HR0.out x3_1 p137 q137
              cases e137
              replace hx137_0 := (HB.out.cell (World.block_lt_of_cell? w _ hx137_0)).trans hx137_0
              replace p137 := eq_true p137
              replace q137 := eq_true q137
              go_wp2_with (first | ((with_reducible refine gate_callee (f := 9) rfl ?_); refine gl_ 18 Tryz.func9 #[.string (rdOf ByteArray.empty l0 x3_1)] (h := ?_); (with_reducible refine (surveyorref06_Number.calls k1 (rdOf ByteArray.empty l0 x3_1) t138 _ A5.out).mono ?_); rintro e w' ⟨rfl, ⟨nd, rfl⟩⟩; refine ⟨_, rfl, ?_⟩))
              go_ret
              exact pkE HB
          · rw [if_neg c4] at H
            exact absurd H (by simp)
        · rw [if_neg c3] at H
          have c3b0 : decide (x3_1 < (l0.length : Int)) = false := decide_eq_false c3
          clear c3
          obtain rfl := Option.some.inj H
          go_wp2
          go_ret
          exact pkE HB
def interval_checks.l0 : Nat → List (S28) → Int → Int → Option (Int)
  | 0, _, _, _ => none
  | k + 1, x6, x7, x8 => if x8 < x7 then (if 0 ≤ x8 then (if x8 < (x6.length : Int) then ((interval_Check.f ((rd_T28 x6 x8).f0) ((rd_T28 x6 x8).f1) ((rd_T28 x6 x8).f2)).bind fun t144 => (if t144 = 0 then (interval_checks.l0 k x6 x7 (wrap64 (x8 + 1))) else (some t144))) else (none)) else (none)) else (some 0)
def interval_checks.f (k : Nat) (l0 : List (S28)) : Option (Int) := interval_checks.l0 k l0 (l0.length : Int) 0
theorem interval_checks.mono_l : ∀ k, (∀ y0 y1 y2, LeO (interval_checks.l0 k y0 y1 y2) (interval_checks.l0 (k + 1) y0 y1 y2))
  | 0 => fun _ _ _ r h => by simp [interval_checks.l0] at h
  | k + 1 => by
    have ih0 := interval_checks.mono_l k
    · intro y0 y1 y2
      unfold interval_checks.l0
      repeat' first
      | (with_reducible exact ih0 _ _ _)
      | (with_reducible exact LeO.refl _)
      | (with_reducible exact LeO.none _)
      | (with_reducible refine LeO.ite ?_ ?_)
      | (with_reducible refine LeO.bind ?_ (fun _ => ?_))
      | exact ih0 _ _ _
      | exact LeO.none _
      | refine LeO.ite ?_ ?_
      | refine LeO.bind ?_ (fun _ => ?_)
theorem interval_checks.mono : ∀ a0 k, LeO (interval_checks.f k a0) (interval_checks.f (k + 1) a0) := by
  intro a0 k
  have ih0 := interval_checks.mono_l k
  unfold interval_checks.f
  repeat' first
      | (with_reducible exact ih0 _ _ _)
      | (with_reducible exact LeO.refl _)
      | (with_reducible exact LeO.none _)
      | (with_reducible refine LeO.ite ?_ ?_)
      | (with_reducible refine LeO.bind ?_ (fun _ => ?_))
      | exact ih0 _ _ _
      | exact LeO.none _
      | refine LeO.ite ?_ ?_
      | refine LeO.bind ?_ (fun _ => ?_)
set_option maxHeartbeats 8000000 in
set_option maxRecDepth 100000 in
theorem interval_checks.calls (k : Nat) (A0 : Option Addr) (c0 : Nat) (l0 : List (S28)) (r : Int) (w : World) (hr0 : Kd.C k28 w A0 l0.length l0) (hc0 : l0.length ≤ c0) (h : interval_checks.f k l0 = some r) :
    Calls Tryz.prog 12 #[.slice A0 l0.length c0] w fun e w' => e = .returned (.int .i64 r) ∧ Below w.heap.size w w' := by
  have hu28 := Tryz.underlying28
  have HR0 := Aside0.mk hr0
  have HC0 := Aside0.mk hc0
  clear hr0 hc0
  have HB := Aside0.mk (Below.refl w.heap.size w)
  have H : (interval_checks.l0 k l0 (l0.length : Int) 0) = some r := h
  clear h
  have H' := Aside0.mk H
  clear H
  go_enter Tryz.func12, Tryz.ntmps12
  go_wp2
  go_loopg [8] k (fun kq v8 w' => ∃ (x8_1 : Int), v8 = .int .i64 x8_1 ∧ Aside0 (interval_checks.l0 kq l0 (l0.length : Int) x8_1 = some r) ∧ Aside0 (kq ≤ k) ∧ Aside0 (Below w.heap.size w w'))
  case atStart => exact ⟨(0), (by first | rfl | (simp; done) | (simp [*]; done)), H', ⟨Nat.le_refl _⟩, ⟨pkL HB⟩⟩
  case round =>
    clear H'
    obtain ⟨x8_1, rfl, HA, HK1, HB⟩ := hrel
    cases gk with
    | zero => exact absurd HA.out (by simp [interval_checks.l0])
    | succ k1 =>
      have H := HA.out
      clear HA
      simp only [interval_checks.l0] at H
      by_cases c2 : x8_1 < (l0.length : Int)
      · rw [if_pos c2] at H
        have c2b0 : decide (x8_1 < (l0.length : Int)) = true := decide_eq_true c2
        clear c2
        by_cases c3 : 0 ≤ x8_1
        · rw [if_pos c3] at H
          have c3b0 : decide (0 ≤ x8_1) = true := decide_eq_true c3
          clear c3
          by_cases c4 : x8_1 < (l0.length : Int)
          · rw [if_pos c4] at H
            have c4b0 : decide (x8_1 < (l0.length : Int)) = true := decide_eq_true c4
            clear c4
            obtain ⟨t144, A5, H⟩ := bi H
            try dsimp only at H
            by_cases c6 : t144 = 0
            · rw [if_pos c6] at H
              have c6b0 : (t144 == 0) = true := beq_iff_eq.mpr c6
              have c6b1 : (t144 != 0) = false := bne_eq_false_iff_eq.mpr c6
              clear c6
              have H' := Aside0.mk H
              clear H
              have p142 : 0 ≤ (x8_1 : Int) := of_decide_eq_true (by first | (with_reducible assumption) | assumption)
              have q142 : x8_1 < (l0.length : Int) := of_decide_eq_true (by first | (with_reducible assumption) | assumption)
              obtain ⟨ad142, e142, hx142_0, hx142_1, hx142_2⟩ := at_T28 HR0.out x8_1 p142 q142
              cases e142
              replace hx142_0 := (HB.out.cell (World.block_lt_of_cell? w _ hx142_0)).trans hx142_0
              replace hx142_1 := (HB.out.cell (World.block_lt_of_cell? w _ hx142_1)).trans hx142_1
              replace hx142_2 := (HB.out.cell (World.block_lt_of_cell? w _ hx142_2)).trans hx142_2
              replace p142 := eq_true p142
              replace q142 := eq_true q142
              go_wp2_with (first | ((with_reducible refine gate_dst (N := 4) rfl ?_); refine bx_ 4 28 #[.bool false, .string (⟨#[]⟩ : ByteArray), .string (⟨#[]⟩ : ByteArray)] (h := ?_); intro gb143 hg w7 hbox hb; have BK143 := Aside0.mk (hbox); have GW143 := pkG HB hg; have GE143 := GW143; replace HB := pkB HB hb; clear hb hbox hg; obtain ⟨⟨hcz8_0, hcz8_1, hcz8_2⟩, hfz8_0, hfz8_1, hfz8_2⟩ := pk3 BK143) | ((with_reducible refine gate_callee (f := 24) rfl ?_); refine gl_ 13 Tryz.func24 #[.agg #[.bool ((rd_T28 l0 x8_1).f0), .string ((rd_T28 l0 x8_1).f1), .string ((rd_T28 l0 x8_1).f2)]] (h := ?_); (with_reducible refine (interval_Check.calls ((rd_T28 l0 x8_1).f0) ((rd_T28 l0 x8_1).f1) ((rd_T28 l0 x8_1).f2) t144 _ A5.out).mono ?_); rintro e w9 ⟨rfl, hb⟩; refine ⟨_, rfl, ?_⟩; replace BK143 := Aside0.mk (blk_below (g := gb143) (o := .cells #[.bool ((rd_T28 l0 x8_1).f0), .string ((rd_T28 l0 x8_1).f1), .string ((rd_T28 l0 x8_1).f2)] 28 (0, 0)) (pkS3 BK143) hb); replace HB := pkB HB hb; try clear hb))
              go_roundg k1
              case measure => have := HK1.out; omega
              case rel => exact ⟨(wrap64 (x8_1 + 1)), (by first | rfl | (simp; done) | (simp [*]; done)), H', ⟨by have := HK1.out; omega⟩, ⟨pkL HB⟩⟩
            · rw [if_neg c6] at H
              have c6b0 : (t144 == 0) = false := beq_eq_false_iff_ne.mpr c6
              have c6b1 : (t144 != 0) = true := bne_iff_ne.mpr c6
              obtain rfl := Option.some.inj H
              have p142 : 0 ≤ (x8_1 : Int) := of_decide_eq_true (by first | (with_reducible assumption) | assumption)
              have q142 : x8_1 < (l0.length : Int) := of_decide_eq_true (by first | (with_reducible assumption) | assumption)
              obtain ⟨ad142, e142, hx142_0, hx142_1, hx142_2⟩ := at_T28 HR0.out x8_1 p142 q142
              cases e142
              replace hx142_0 := (HB.out.cell (World.block_lt_of_cell? w _ hx142_0)).trans hx142_0
              replace hx142_1 := (HB.out.cell (World.block_lt_of_cell? w _ hx142_1)).trans hx142_1
              replace hx142_2 := (HB.out.cell (World.block_lt_of_cell? w _ hx142_2)).trans hx142_2
              replace p142 := eq_true p142
              replace q142 := eq_true q142
              go_wp2_with (first | ((with_reducible refine gate_dst (N := 4) rfl ?_); refine bx_ 4 28 #[.bool false, .string (⟨#[]⟩ : ByteArray), .string (⟨#[]⟩ : ByteArray)] (h := ?_); intro gb143 hg w10 hbox hb; have BK143 := Aside0.mk (hbox); have GW143 := pkG HB hg; have GE143 := GW143; replace HB := pkB HB hb; clear hb hbox hg; obtain ⟨⟨hcz11_0, hcz11_1, hcz11_2⟩, hfz11_0, hfz11_1, hfz11_2⟩ := pk3 BK143) | ((with_reducible refine gate_callee (f := 24) rfl ?_); refine gl_ 13 Tryz.func24 #[.agg #[.bool ((rd_T28 l0 x8_1).f0), .string ((rd_T28 l0 x8_1).f1), .string ((rd_T28 l0 x8_1).f2)]] (h := ?_); (with_reducible refine (interval_Check.calls ((rd_T28 l0 x8_1).f0) ((rd_T28 l0 x8_1).f1) ((rd_T28 l0 x8_1).f2) t144 _ A5.out).mono ?_); rintro e w12 ⟨rfl, hb⟩; refine ⟨_, rfl, ?_⟩; replace BK143 := Aside0.mk (blk_below (g := gb143) (o := .cells #[.bool ((rd_T28 l0 x8_1).f0), .string ((rd_T28 l0 x8_1).f1), .string ((rd_T28 l0 x8_1).f2)] 28 (0, 0)) (pkS3 BK143) hb); replace HB := pkB HB hb; try clear hb))
              go_ret
              exact pkE HB
          · rw [if_neg c4] at H
            exact absurd H (by simp)
        · rw [if_neg c3] at H
          exact absurd H (by simp)
      · rw [if_neg c2] at H
        have c2b0 : decide (x8_1 < (l0.length : Int)) = false := decide_eq_false c2
        clear c2
        obtain rfl := Option.some.inj H
        go_wp2
        go_ret
        exact pkE HB
def interval_digits.f (a0 : ByteArray) : Option (Int) := if (a0.size : Int) > 0 then (if 0 < (a0.size : Int) then (if (bt a0 0) = 45 then (some (wrap64 ((a0.size : Int) - 1))) else (some (a0.size : Int))) else (none)) else (some (a0.size : Int))
set_option maxHeartbeats 8000000 in
set_option maxRecDepth 100000 in
theorem interval_digits.calls (a0 : ByteArray) (r : Int) (w : World) (h : interval_digits.f a0 = some r) :
    Calls Tryz.prog 38 #[.string a0] w fun e w' => e = .returned (.int .i64 r) ∧ Drawn0 w w' := by
  have H : (if (a0.size : Int) > 0 then (if 0 < (a0.size : Int) then (if (bt a0 0) = 45 then (some (wrap64 ((a0.size : Int) - 1))) else (some (a0.size : Int))) else (none)) else (some (a0.size : Int))) = some r := h
  clear h
  by_cases c2 : (a0.size : Int) > 0
  · rw [if_pos c2] at H
    have c2b0 : decide (0 < (a0.size : Int)) = true := decide_eq_true c2
    have c2b1 : decide (0 < a0.size) = true := decide_eq_true (by omega)
    clear c2
    by_cases c3 : 0 < (a0.size : Int)
    · rw [if_pos c3] at H
      have c3b0 : decide (0 < (a0.size : Int)) = true := decide_eq_true c3
      have c3b1 : decide (0 < a0.size) = true := decide_eq_true (by omega)
      clear c3
      have p4 : 0 ≤ (0 : Int) := (by omega)
      have q4 : 0 < a0.size := (by have : (0 : Int) < (a0.size : Int) := of_decide_eq_true (by first | (with_reducible assumption) | assumption); omega)
      have hx4 : ∀ h : 0 < a0.size, ((a0[0]'h).toNat : Int) = bt a0 0 := bt_at a0 0
      clear p4
      have qi4 : (0 < (a0.size : Int)) = True := eq_true (of_decide_eq_true (by first | (with_reducible assumption) | assumption))
      replace q4 := eq_true q4
      go_enter Tryz.func38, Tryz.ntmps38
      refine byC (P := (bt a0 0) = 45) (fun c5 => ?a1) (fun c5 => ?b1)
      case' a1 =>
        rw [if_pos c5] at H
        have c5b0 : ((bt a0 0) == 45) = true := beq_iff_eq.mpr c5
        have c5b1 : ((bt a0 0) != 45) = false := bne_eq_false_iff_eq.mpr c5
        clear c5
        obtain rfl := Option.some.inj H
      case' b1 =>
        rw [if_neg c5] at H
        have c5b0 : ((bt a0 0) == 45) = false := beq_eq_false_iff_ne.mpr c5
        have c5b1 : ((bt a0 0) != 45) = true := bne_iff_ne.mpr c5
        obtain rfl := Option.some.inj H
      all_goals
        go_wp2
        go_ret
        exact ⟨by first | rfl | (simp; done) | (simp [*]; done), by repeat (first | exact Drawn0.refl _ | apply Drawn0.step)⟩
    · rw [if_neg c3] at H
      exact absurd H (by simp)
  · rw [if_neg c2] at H
    have c2b0 : decide (0 < (a0.size : Int)) = false := decide_eq_false c2
    have c2b1 : decide (0 < a0.size) = false := decide_eq_false (by omega)
    clear c2
    obtain rfl := Option.some.inj H
    go_enter Tryz.func38, Tryz.ntmps38
    go_wp2
    go_ret
    exact ⟨by first | rfl | (simp; done) | (simp [*]; done), by repeat (first | exact Drawn0.refl _ | apply Drawn0.step)⟩
def interval_number.f (a0 : ByteArray) : Option (Int) := (bigint_Check.f a0).bind fun t145 => (if t145 = 0 then ((interval_digits.f a0).bind fun t146 => (if t146 > 100 then (some 10) else (some 0))) else (some t145))
set_option maxHeartbeats 8000000 in
set_option maxRecDepth 100000 in
theorem interval_number.calls (a0 : ByteArray) (r : Int) (w : World) (h : interval_number.f a0 = some r) :
    Calls Tryz.prog 25 #[.string a0] w fun e w' => e = .returned (.int .i64 r) ∧ Below w.heap.size w w' := by
  have HB := Aside0.mk (Below.refl w.heap.size w)
  have H : ((bigint_Check.f a0).bind fun t145 => (if t145 = 0 then ((interval_digits.f a0).bind fun t146 => (if t146 > 100 then (some 10) else (some 0))) else (some t145))) = some r := h
  clear h
  obtain ⟨t145, A2, H⟩ := bi H
  try dsimp only at H
  go_enter Tryz.func25, Tryz.ntmps25
  refine byC (P := t145 = 0) (fun c3 => ?a2) (fun c3 => ?b2)
  case' a2 =>
    rw [if_pos c3] at H
    have c3b0 : (t145 == 0) = true := beq_iff_eq.mpr c3
    have c3b1 : (t145 != 0) = false := bne_eq_false_iff_eq.mpr c3
    clear c3
    obtain ⟨t146, A4, H⟩ := bi H
    try dsimp only at H
    refine byC (P := t146 > 100) (fun c5 => ?a3) (fun c5 => ?b3)
    case' a3 =>
      rw [if_pos c5] at H
      have c5b0 : decide (100 < t146) = true := decide_eq_true c5
      clear c5
      obtain rfl := Option.some.inj H
    case' b3 =>
      rw [if_neg c5] at H
      have c5b0 : decide (100 < t146) = false := decide_eq_false c5
      clear c5
      obtain rfl := Option.some.inj H
  case' b2 =>
    rw [if_neg c3] at H
    have c3b0 : (t145 == 0) = false := beq_eq_false_iff_ne.mpr c3
    have c3b1 : (t145 != 0) = true := bne_iff_ne.mpr c3
    obtain rfl := Option.some.inj H
  all_goals
    go_wp2_with (first | ((with_reducible refine gate_callee (f := 37) rfl ?_); refine gl_ 5 Tryz.func37 #[.string a0] (h := ?_); (with_reducible refine (bigint_Check.calls a0 t145 _ A2.out).mono ?_); rintro e w6 ⟨rfl, hb⟩; refine ⟨_, rfl, ?_⟩; replace HB := pkB HB hb; try clear hb) | ((with_reducible refine gate_callee (f := 38) rfl ?_); refine gl_ 10 Tryz.func38 #[.string a0] (h := ?_); (with_reducible refine (interval_digits.calls a0 t146 _ A4.out).mono ?_); rintro e w' ⟨rfl, ⟨nd, rfl⟩⟩; refine ⟨_, rfl, ?_⟩))
    go_ret
    exact pkE HB
def interval_order.f (a0 : ByteArray) (a1 : ByteArray) : Option (Int) := (bigint_Compare.f a0 a1).bind fun bt147 => (some bt147.1)
set_option maxHeartbeats 8000000 in
set_option maxRecDepth 100000 in
theorem interval_order.calls (a0 : ByteArray) (a1 : ByteArray) (r : Int) (w : World) (h : interval_order.f a0 a1 = some r) :
    Calls Tryz.prog 26 #[.string a0, .string a1] w fun e w' => e = .returned (.int .i64 r) ∧ Below w.heap.size w w' := by
  have HB := Aside0.mk (Below.refl w.heap.size w)
  have H : ((bigint_Compare.f a0 a1).bind fun bt147 => (some bt147.1)) = some r := h
  clear h
  obtain ⟨⟨t147, t148⟩, A3, H⟩ := bi H
  try dsimp only at H
  obtain rfl := Option.some.inj H
  go_enter Tryz.func26, Tryz.ntmps26
  go_wp2_with (first | ((with_reducible refine gate_callee (f := 39) rfl ?_); refine gl_ 10 Tryz.func39 #[.string a0, .string a1] (h := ?_); (with_reducible refine (bigint_Compare.calls a0 a1 t147 t148 _ A3.out).mono ?_); rintro e w4 ⟨rfl, hb⟩; refine ⟨_, rfl, ?_⟩; replace HB := pkB HB hb; try clear hb))
  go_ret
  exact pkE HB
end Go.Proofs.YtnagmogjhfdmlaaGreatDoor.PTopChainsIntervals
