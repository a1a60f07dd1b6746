/- Lemmas. -/
import Derived.Test.YtnagmogjhfdmlaaGreatDoorLPTopChainsIntervalsx0
import Derived.Test.YtnagmogjhfdmlaaGreatDoorLShort
import Derived.Test.YtnagmogjhfdmlaaGreatDoorLShort3
import Derived.Test.YtnagmogjhfdmlaaGreatDoorLShort4
namespace Go.Proofs.YtnagmogjhfdmlaaGreatDoor.PTopChainsIntervals
open Go.RowKit Go.Proofs.YtnagmogjhfdmlaaGreatDoorW.PrintWords Go.Proofs.YtnagmogjhfdmlaaGreatDoorW.PrintLast Go.Proofs.YtnagmogjhfdmlaaGreatDoorW.PrintMore
attribute [local go_sem] max2_int -- for this text's walks alone
set_option linter.unusedVariables false
set_option linter.unusedSimpArgs false
def surveyorref01_Negative.f (a0 : ByteArray) : Option (Bool) := if 0 < (a0.size : Int) then (some ((bt a0 0) == 45)) else (none)
set_option maxHeartbeats 8000000 in
set_option maxRecDepth 100000 in
theorem surveyorref01_Negative.calls (a0 : ByteArray) (r : Bool) (w : World) (h : surveyorref01_Negative.f a0 = some r) :
    Calls Tryz.prog 32 #[.string a0] w fun e w' => e = .returned (.bool r) ∧ Drawn0 w w' := by
  have H : (if 0 < (a0.size : Int) then (some ((bt a0 0) == 45)) else (none)) = some r := h
  clear h
  by_cases c2 : 0 < (a0.size : Int)
  · rw [if_pos c2] at H
    have c2b0 : decide (0 < (a0.size : Int)) = true := decide_eq_true c2
    have c2b1 : decide (0 < a0.size) = true := decide_eq_true (by omega)
    clear c2
    obtain rfl := Option.some.inj H
    have p3 : 0 ≤ (0 : Int) := (by omega)
    have q3 : 0 < a0.size := (by have : (0 : Int) < (a0.size : Int) := of_decide_eq_true (by first | (with_reducible assumption) | assumption); omega)
    have hx3 : ∀ h : 0 < a0.size, ((a0[0]'h).toNat : Int) = bt a0 0 := bt_at a0 0
    clear p3
    have qi3 : (0 < (a0.size : Int)) = True := eq_true (of_decide_eq_true (by first | (with_reducible assumption) | assumption))
    replace q3 := eq_true q3
    go_enter Tryz.func32, Tryz.ntmps32
    go_wp2
    go_ret
    exact ⟨by first | rfl | (simp; done) | (simp [*]; done), by repeat (first | exact Drawn0.refl _ | apply Drawn0.step)⟩
  · rw [if_neg c2] at H
    exact absurd H (by simp)
def surveyorref01_Digits.f (a0 : ByteArray) : Option (Int) := (surveyorref01_Negative.f a0).bind fun t101 => (if t101 = true then (some (wrap64 ((a0.size : Int) - 1))) else (some (a0.size : Int)))
set_option maxHeartbeats 8000000 in
set_option maxRecDepth 100000 in
theorem surveyorref01_Digits.calls (a0 : ByteArray) (r : Int) (w : World) (h : surveyorref01_Digits.f a0 = some r) :
    Calls Tryz.prog 22 #[.string a0] w fun e w' => e = .returned (.int .i64 r) ∧ Drawn0 w w' := by
  have H : ((surveyorref01_Negative.f a0).bind fun t101 => (if t101 = true then (some (wrap64 ((a0.size : Int) - 1))) else (some (a0.size : Int)))) = some r := h
  clear h
  obtain ⟨t101, A2, H⟩ := bi H
  try dsimp only at H
  go_enter Tryz.func22, Tryz.ntmps22
  refine byC (P := t101 = true) (fun c3 => ?a1) (fun c3 => ?b1)
  case' a1 =>
    subst c3
    rw [if_pos rfl] at H
    obtain rfl := Option.some.inj H
  case' b1 =>
    replace c3 := Bool.eq_false_iff.mpr c3
    subst c3
    rw [if_neg (show ¬ (false = true) by decide)] at H
    obtain rfl := Option.some.inj H
  all_goals
    go_wp2_with (first | ((with_reducible refine gate_callee (f := 32) rfl ?_); refine gl_ 4 Tryz.func32 #[.string a0] (h := ?_); (with_reducible refine (surveyorref01_Negative.calls a0 _ _ A2.out).mono ?_); rintro e w' ⟨rfl, ⟨nd, rfl⟩⟩; refine ⟨_, rfl, ?_⟩))
    go_ret
    exact ⟨by first | rfl | (simp; done) | (simp [*]; done), by repeat (first | exact Drawn0.refl _ | apply Drawn0.step)⟩
mutual
def surveyorref01_Form.j0 : Nat → ByteArray → Int → Bool → Option (Bool)
  | 0, _, _, _ => none
  | k + 1, x0, x3, x14 => if x14 = true then (surveyorref01_Form.j1 k x0 1) else (surveyorref01_Form.j1 k x0 x3)
def surveyorref01_Form.j1 : Nat → ByteArray → Int → Option (Bool)
  | 0, _, _ => none
  | k + 1, x0, x3 => if x3 = (x0.size : Int) then (surveyorref01_Form.j2 k x0 x3 true) else (if 0 ≤ x3 then (if x3 < (x0.size : Int) then (surveyorref01_Form.j2 k x0 x3 ((bt x0 x3) == 48)) else (none)) else (none))
def surveyorref01_Form.j2 : Nat → ByteArray → Int → Bool → Option (Bool)
  | 0, _, _, _ => none
  | k + 1, x0, x3, x24 => if x24 = true then (some false) else (surveyorref01_Form.l0 k x0 x3)
def surveyorref01_Form.l0 : Nat → ByteArray → Int → Option (Bool)
  | 0, _, _ => none
  | k + 1, x0, x4 => if x4 < (x0.size : Int) then (if 0 ≤ x4 then (if (bt x0 x4) < 48 then (some false) else (if (bt x0 x4) > 57 then (some false) else (surveyorref01_Form.l0 k x0 (wrap64 (x4 + 1))))) else (none)) else (some true)
end
def surveyorref01_Form.f (k : Nat) (a0 : ByteArray) : Option (Bool) := if a0.toList = ([48] : List UInt8) then (some true) else (if (a0.size : Int) > 0 then (if 0 < (a0.size : Int) then (surveyorref01_Form.j0 k a0 0 ((bt a0 0) == 45)) else (none)) else (surveyorref01_Form.j0 k a0 0 false))
theorem surveyorref01_Form.mono_l : ∀ k, (∀ y0 y1 y2, LeO (surveyorref01_Form.j0 k y0 y1 y2) (surveyorref01_Form.j0 (k + 1) y0 y1 y2)) ∧ (∀ y0 y1, LeO (surveyorref01_Form.j1 k y0 y1) (surveyorref01_Form.j1 (k + 1) y0 y1)) ∧ (∀ y0 y1 y2, LeO (surveyorref01_Form.j2 k y0 y1 y2) (surveyorref01_Form.j2 (k + 1) y0 y1 y2)) ∧ (∀ y0 y1, LeO (surveyorref01_Form.l0 k y0 y1) (surveyorref01_Form.l0 (k + 1) y0 y1))
  | 0 => ⟨fun _ _ _ r h => by simp [surveyorref01_Form.j0] at h, fun _ _ r h => by simp [surveyorref01_Form.j1] at h, fun _ _ _ r h => by simp [surveyorref01_Form.j2] at h, fun _ _ r h => by simp [surveyorref01_Form.l0] at h⟩
  | k + 1 => by
    obtain ⟨ih0, ih1, ih2, ih3⟩ := surveyorref01_Form.mono_l k
    refine ⟨?_, ?_, ?_, ?_⟩
    · intro y0 y1 y2
      unfold surveyorref01_Form.j0
      repeat' first
      | (with_reducible exact ih0 _ _ _)
      | (with_reducible exact ih1 _ _)
      | (with_reducible exact ih2 _ _ _)
      | (with_reducible exact ih3 _ _)
      | (with_reducible exact LeO.refl _)
      | (with_reducible exact LeO.none _)
      | (with_reducible refine LeO.ite ?_ ?_)
      | (with_reducible refine LeO.bind ?_ (fun _ => ?_))
      | exact ih0 _ _ _
      | exact ih1 _ _
      | exact ih2 _ _ _
      | exact ih3 _ _
      | exact LeO.none _
      | refine LeO.ite ?_ ?_
      | refine LeO.bind ?_ (fun _ => ?_)
    · intro y0 y1
      unfold surveyorref01_Form.j1
      repeat' first
      | (with_reducible exact ih0 _ _ _)
      | (with_reducible exact ih1 _ _)
      | (with_reducible exact ih2 _ _ _)
      | (with_reducible exact ih3 _ _)
      | (with_reducible exact LeO.refl _)
      | (with_reducible exact LeO.none _)
      | (with_reducible refine LeO.ite ?_ ?_)
      | (with_reducible refine LeO.bind ?_ (fun _ => ?_))
      | exact ih0 _ _ _
      | exact ih1 _ _
      | exact ih2 _ _ _
      | exact ih3 _ _
      | exact LeO.none _
      | refine LeO.ite ?_ ?_
      | refine LeO.bind ?_ (fun _ => ?_)
    · intro y0 y1 y2
      unfold surveyorref01_Form.j2
      repeat' first
      | (with_reducible exact ih0 _ _ _)
      | (with_reducible exact ih1 _ _)
      | (with_reducible exact ih2 _ _ _)
      | (with_reducible exact ih3 _ _)
      | (with_reducible exact LeO.refl _)
      | (with_reducible exact LeO.none _)
      | (with_reducible refine LeO.ite ?_ ?_)
      | (with_reducible refine LeO.bind ?_ (fun _ => ?_))
      | exact ih0 _ _ _
      | exact ih1 _ _
      | exact ih2 _ _ _
      | exact ih3 _ _
      | exact LeO.none _
      | refine LeO.ite ?_ ?_
      | refine LeO.bind ?_ (fun _ => ?_)
    · intro y0 y1
      unfold surveyorref01_Form.l0
      repeat' first
      | (with_reducible exact ih0 _ _ _)
      | (with_reducible exact ih1 _ _)
      | (with_reducible exact ih2 _ _ _)
      | (with_reducible exact ih3 _ _)
      | (with_reducible exact LeO.refl _)
      | (with_reducible exact LeO.none _)
      | (with_reducible refine LeO.ite ?_ ?_)
      | (with_reducible refine LeO.bind ?_ (fun _ => ?_))
      | exact ih0 _ _ _
      | exact ih1 _ _
      | exact ih2 _ _ _
      | exact ih3 _ _
      | exact LeO.none _
      | refine LeO.ite ?_ ?_
      | refine LeO.bind ?_ (fun _ => ?_)
theorem surveyorref01_Form.mono : ∀ a0 k, LeO (surveyorref01_Form.f k a0) (surveyorref01_Form.f (k + 1) a0) := by
  intro a0 k
  obtain ⟨ih0, ih1, ih2, ih3⟩ := surveyorref01_Form.mono_l k
  unfold surveyorref01_Form.f
  repeat' first
      | (with_reducible exact ih0 _ _ _)
      | (with_reducible exact ih1 _ _)
      | (with_reducible exact ih2 _ _ _)
      | (with_reducible exact ih3 _ _)
      | (with_reducible exact LeO.refl _)
      | (with_reducible exact LeO.none _)
      | (with_reducible refine LeO.ite ?_ ?_)
      | (with_reducible refine LeO.bind ?_ (fun _ => ?_))
      | exact ih0 _ _ _
      | exact ih1 _ _
      | exact ih2 _ _ _
      | exact ih3 _ _
      | exact LeO.none _
      | refine LeO.ite ?_ ?_
      | refine LeO.bind ?_ (fun _ => ?_)
set_option maxHeartbeats 8000000 in
set_option maxRecDepth 100000 in
theorem surveyorref01_Form.calls (k : Nat) (a0 : ByteArray) (r : Bool) (w : World) (h : surveyorref01_Form.f k a0 = some r) :
    Calls Tryz.prog 31 #[.string a0] w fun e w' => e = .returned (.bool r) ∧ Drawn0 w w' := by
  have H : (if a0.toList = ([48] : List UInt8) then (some true) else (if (a0.size : Int) > 0 then (if 0 < (a0.size : Int) then (surveyorref01_Form.j0 k a0 0 ((bt a0 0) == 45)) else (none)) else (surveyorref01_Form.j0 k a0 0 false))) = some r := h
  clear h
  by_cases c2 : a0.toList = ([48] : List UInt8)
  · rw [if_pos c2] at H
    have c2b0 : (a0.toList == ([48] : List UInt8)) = true := beq_iff_eq.mpr c2
    have c2b1 : (a0.toList != ([48] : List UInt8)) = false := bne_eq_false_iff_eq.mpr c2
    clear c2
    obtain rfl := Option.some.inj H
    go_enter Tryz.func31, Tryz.ntmps31
    go_wp2
    go_ret
    exact ⟨by first | rfl | (simp; done) | (simp [*]; done), by repeat (first | exact Drawn0.refl _ | apply Drawn0.step)⟩
  · rw [if_neg c2] at H
    have c2b0 : (a0.toList == ([48] : List UInt8)) = false := beq_eq_false_iff_ne.mpr c2
    have c2b1 : (a0.toList != ([48] : List UInt8)) = true := bne_iff_ne.mpr c2
    have HC3 := Aside0.mk H
    clear H
    go_enter Tryz.func31, Tryz.ntmps31
    go_upto_region 4 with (fail)
    go_cut [14] (fun v14 wc => ∃ (kq : Nat) (x14_2 : Bool), v14 = .bool x14_2 ∧ Aside0 (surveyorref01_Form.j0 kq a0 0 x14_2 = some r) ∧ Aside0 (kq ≤ k) ∧ Drawn0 w wc)
    case first =>
      have H := HC3.out
      clear HC3
      by_cases c4 : (a0.size : Int) > 0
      · rw [if_pos c4] at H
        have c4b0 : decide (0 < (a0.size : Int)) = true := decide_eq_true c4
        have c4b1 : decide (0 < a0.size) = true := decide_eq_true (by omega)
        clear c4
        (first | rw [c4b0] | (simp only [i64_w, i32_w]; rw [c4b0]) | skip)
        by_cases c5 : 0 < (a0.size : Int)
        · rw [if_pos c5] at H
          have c5b0 : decide (0 < (a0.size : Int)) = true := decide_eq_true c5
          have c5b1 : decide (0 < a0.size) = true := decide_eq_true (by omega)
          clear c5
          have H' := Aside0.mk H
          clear H
          have p6 : 0 ≤ (0 : Int) := (by omega)
          have q6 : 0 < a0.size := (by have : (0 : Int) < (a0.size : Int) := of_decide_eq_true (by first | (with_reducible assumption) | assumption); omega)
          have hx6 : ∀ h : 0 < a0.size, ((a0[0]'h).toNat : Int) = bt a0 0 := bt_at a0 0
          clear p6
          have qi6 : (0 < (a0.size : Int)) = True := eq_true (of_decide_eq_true (by first | (with_reducible assumption) | assumption))
          replace q6 := eq_true q6
          go_wp2
          go_meet
          case rel => exact ⟨_, (((bt a0 0) == 45)), (by first | rfl | (simp; done) | (simp [*]; done)), H', ⟨by first | omega | exact Nat.le_refl _⟩, by repeat (first | exact Drawn0.refl _ | apply Drawn0.step)⟩
        · rw [if_neg c5] at H
          exact absurd H (by simp)
      · rw [if_neg c4] at H
        have c4b0 : decide (0 < (a0.size : Int)) = false := decide_eq_false c4
        have c4b1 : decide (0 < a0.size) = false := decide_eq_false (by omega)
        clear c4
        (first | rw [c4b0] | (simp only [i64_w, i32_w]; rw [c4b0]) | skip)
        have H' := Aside0.mk H
        clear H
        go_wp2
        go_meet
        case rel => exact ⟨_, (false), (by first | rfl | (simp; done) | (simp [*]; done)), H', ⟨by first | omega | exact Nat.le_refl _⟩, by repeat (first | exact Drawn0.refl _ | apply Drawn0.step)⟩
    case rest =>
      clear HC3
      try clear c2
      try clear c2b0
      try clear c2b1
      try clear c4
      try clear c4b0
      try clear c4b1
      try clear c5
      try clear c5b0
      try clear c5b1
      try clear p6
      try clear q6
      try clear hx6
      try clear qi6
      try clear p6
      try clear q6
      obtain ⟨kq, x14_2, rfl, HA, HJ2, ⟨mc2, rfl⟩⟩ := hcut
      cases kq with
      | zero => exact absurd HA.out (by simp [surveyorref01_Form.j0])
      | succ kj2 =>
        have H := HA.out
        clear HA
        simp only [surveyorref01_Form.j0] at H
        have HC7 := Aside0.mk H
        clear H
        go_upto_if 14 with (fail)
        go_cut [3] (fun v3 wc => ∃ (kq : Nat) (x3_6 : Int), v3 = .int .i64 x3_6 ∧ Aside0 (surveyorref01_Form.j1 kq a0 x3_6 = some r) ∧ Aside0 (kq ≤ kj2) ∧ Drawn0 w wc)
        case first =>
          have H := HC7.out
          clear HC7
          by_cases c8 : x14_2 = true
          · subst c8
            rw [if_pos rfl] at H
            have H' := Aside0.mk H
            clear H
            go_wp2
            go_meet
            case rel => exact ⟨_, (1), (by first | rfl | (simp; done) | (simp [*]; done)), H', ⟨by have := HJ2.out; first | omega | exact Nat.le_refl _⟩, by repeat (first | exact Drawn0.refl _ | apply Drawn0.step)⟩
          · replace c8 := Bool.eq_false_iff.mpr c8
            subst c8
            rw [if_neg (show ¬ (false = true) by decide)] at H
            have H' := Aside0.mk H
            clear H
            go_wp2
            go_meet
            case rel => exact ⟨_, (0), (by first | rfl | (simp; done) | (simp [*]; done)), H', ⟨by have := HJ2.out; first | omega | exact Nat.le_refl _⟩, by repeat (first | exact Drawn0.refl _ | apply Drawn0.step)⟩
        case rest =>
          clear HC7
          try clear c2
          try clear c2b0
          try clear c2b1
          try clear c4
          try clear c4b0
          try clear c4b1
          try clear c5
          try clear c5b0
          try clear c5b1
          try clear p6
          try clear q6
          try clear hx6
          try clear qi6
          try clear c8
          try clear p6
          try clear q6
          obtain ⟨kq, x3_6, rfl, HA, HJ6, ⟨mc6, rfl⟩⟩ := hcut
          cases kq with
          | zero => exact absurd HA.out (by simp [surveyorref01_Form.j1])
          | succ kj6 =>
            have H := HA.out
            clear HA
            simp only [surveyorref01_Form.j1] at H
            have HC9 := Aside0.mk H
            clear H
            go_upto_region 6 with (fail)
            go_cut [24] (fun v24 wc => ∃ (kq : Nat) (x24_8 : Bool), v24 = .bool x24_8 ∧ Aside0 (surveyorref01_Form.j2 kq a0 x3_6 x24_8 = some r) ∧ Aside0 (kq ≤ kj6) ∧ Drawn0 w wc)
            case first =>
              have H := HC9.out
              clear HC9
              by_cases c10 : x3_6 = (a0.size : Int)
              · rw [if_pos c10] at H
                have c10b0 : (x3_6 == (a0.size : Int)) = true := beq_iff_eq.mpr c10
                have c10b1 : (x3_6 != (a0.size : Int)) = false := bne_eq_false_iff_eq.mpr c10
                clear c10
                (first | rw [c10b0] | (simp only [i64_w, i32_w]; rw [c10b0]) | skip)
                have H' := Aside0.mk H
                clear H
                go_wp2
                go_meet
                case rel => exact ⟨_, (true), (by first | rfl | (simp; done) | (simp [*]; done)), H', ⟨by have := HJ2.out; have := HJ6.out; first | omega | exact Nat.le_refl _⟩, by repeat (first | exact Drawn0.refl _ | apply Drawn0.step)⟩
              · rw [if_neg c10] at H
                have c10b0 : (x3_6 == (a0.size : Int)) = false := beq_eq_false_iff_ne.mpr c10
                have c10b1 : (x3_6 != (a0.size : Int)) = true := bne_iff_ne.mpr c10
                (first | rw [c10b0] | (simp only [i64_w, i32_w]; rw [c10b0]) | skip)
                by_cases c11 : 0 ≤ x3_6
                · rw [if_pos c11] at H
                  have c11b0 : decide (0 ≤ x3_6) = true := decide_eq_true c11
                  clear c11
                  by_cases c12 : x3_6 < (a0.size : Int)
                  · rw [if_pos c12] at H
                    have c12b0 : decide (x3_6 < (a0.size : Int)) = true := decide_eq_true c12
                    clear c12
                    have H' := Aside0.mk H
                    clear H
                    have p13 : 0 ≤ (x3_6 : Int) := of_decide_eq_true (by first | (with_reducible assumption) | assumption)
                    have q13 : x3_6 < (a0.size : Int) := of_decide_eq_true (by first | (with_reducible assumption) | assumption)
                    have hx13 := bt_at a0 x3_6
                    replace p13 := eq_true p13
                    replace q13 := eq_true q13
                    go_wp2
                    go_meet
                    case rel => exact ⟨_, (((bt a0 x3_6) == 48)), (by first | rfl | (simp; done) | (simp [*]; done)), H', ⟨by have := HJ2.out; have := HJ6.out; first | omega | exact Nat.le_refl _⟩, by repeat (first | exact Drawn0.refl _ | apply Drawn0.step)⟩
                  · rw [if_neg c12] at H
                    exact absurd H (by simp)
                · rw [if_neg c11] at H
                  exact absurd H (by simp)
            case rest =>
              clear HC9
              try clear c2
              try clear c2b0
              try clear c2b1
              try clear c4
              try clear c4b0
              try clear c4b1
              try clear c5
              try clear c5b0
              try clear c5b1
              try clear p6
              try clear q6
              try clear hx6
              try clear qi6
              try clear c8
              try clear c10
              try clear c10b0
              try clear c10b1
              try clear c11
              try clear c11b0
              try clear c12
              try clear c12b0
              try clear p13
              try clear q13
              try clear hx13
              try clear p13
              try clear p6
              try clear q13
              try clear q6
              obtain ⟨kq, x24_8, rfl, HA, HJ8, ⟨mc8, rfl⟩⟩ := hcut
              cases kq with
              | zero => exact absurd HA.out (by simp [surveyorref01_Form.j2])
              | succ kj8 =>
                have H := HA.out
                clear HA
                simp only [surveyorref01_Form.j2] at H
                by_cases c14 : x24_8 = true
                · subst c14
                  rw [if_pos rfl] at H
                  obtain rfl := Option.some.inj H
                  go_wp2
                  go_ret
                  exact ⟨by first | rfl | (simp; done) | (simp [*]; done), by repeat (first | exact Drawn0.refl _ | apply Drawn0.step)⟩
                · replace c14 := Bool.eq_false_iff.mpr c14
                  subst c14
                  rw [if_neg (show ¬ (false = true) by decide)] at H
                  have H' := Aside0.mk H
                  clear H
                  go_wp2
                  go_loopg [4] kj8 (fun kq v4 w' => ∃ (x4_4 : Int), v4 = .int .i64 x4_4 ∧ Aside0 (surveyorref01_Form.l0 kq a0 x4_4 = some r) ∧ Aside0 (kq ≤ kj8) ∧ Drawn0 w w')
                  case atStart => exact ⟨(x3_6), (by first | rfl | (simp; done) | (simp [*]; done)), H', ⟨Nat.le_refl _⟩, by repeat (first | exact Drawn0.refl _ | apply Drawn0.step)⟩
                  case round =>
                    clear H'
                    try clear c2
                    try clear c2b0
                    try clear c2b1
                    try clear c4
                    try clear c4b0
                    try clear c4b1
                    try clear c5
                    try clear c5b0
                    try clear c5b1
                    try clear p6
                    try clear q6
                    try clear hx6
                    try clear qi6
                    try clear c8
                    try clear c10
                    try clear c10b0
                    try clear c10b1
                    try clear c11
                    try clear c11b0
                    try clear c12
                    try clear c12b0
                    try clear p13
                    try clear q13
                    try clear hx13
                    try clear c14
                    try clear p13
                    try clear p6
                    try clear q13
                    try clear q6
                    obtain ⟨x4_4, rfl, HA, HK4, ⟨m4, rfl⟩⟩ := hrel
                    cases gk with
                    | zero => exact absurd HA.out (by simp [surveyorref01_Form.l0])
                    | succ k4 =>
                      have H := HA.out
                      clear HA
                      simp only [surveyorref01_Form.l0] at H
                      by_cases c15 : x4_4 < (a0.size : Int)
                      · rw [if_pos c15] at H
                        have c15b0 : decide (x4_4 < (a0.size : Int)) = true := decide_eq_true c15
                        clear c15
                        by_cases c16 : 0 ≤ x4_4
                        · rw [if_pos c16] at H
                          have c16b0 : decide (0 ≤ x4_4) = true := decide_eq_true c16
                          clear c16
                          by_cases c18 : (bt a0 x4_4) < 48
                          · rw [if_pos c18] at H
                            have c18b0 : decide ((bt a0 x4_4) < 48) = true := decide_eq_true c18
                            clear c18
                            obtain rfl := Option.some.inj H
                            have p17 : 0 ≤ (x4_4 : Int) := of_decide_eq_true (by first | (with_reducible assumption) | assumption)
                            have q17 : x4_4 < (a0.size : Int) := of_decide_eq_true (by first | (with_reducible assumption) | assumption)
                            have hx17 := bt_at a0 x4_4
                            replace p17 := eq_true p17
                            replace q17 := eq_true q17
                            go_wp2
                            go_ret
                            exact ⟨by first | rfl | (simp; done) | (simp [*]; done), by repeat (first | exact Drawn0.refl _ | apply Drawn0.step)⟩
                          · rw [if_neg c18] at H
                            have c18b0 : decide ((bt a0 x4_4) < 48) = false := decide_eq_false c18
                            clear c18
                            by_cases c20 : (bt a0 x4_4) > 57
                            · rw [if_pos c20] at H
                              have c20b0 : decide (57 < (bt a0 x4_4)) = true := decide_eq_true c20
                              clear c20
                              obtain rfl := Option.some.inj H
                              have p17 : 0 ≤ (x4_4 : Int) := of_decide_eq_true (by first | (with_reducible assumption) | assumption)
                              have q17 : x4_4 < (a0.size : Int) := of_decide_eq_true (by first | (with_reducible assumption) | assumption)
                              have hx17 := bt_at a0 x4_4
                              replace p17 := eq_true p17
                              replace q17 := eq_true q17
                              have p19 : 0 ≤ (x4_4 : Int) := of_decide_eq_true (by first | (with_reducible assumption) | assumption)
                              have q19 : x4_4 < (a0.size : Int) := of_decide_eq_true (by first | (with_reducible assumption) | assumption)
                              have hx19 := bt_at a0 x4_4
                              replace p19 := eq_true p19
                              replace q19 := eq_true q19
                              go_wp2
                              go_ret
                              exact ⟨by first | rfl | (simp; done) | (simp [*]; done), by repeat (first | exact Drawn0.refl _ | apply Drawn0.step)⟩
                            · rw [if_neg c20] at H
                              have c20b0 : decide (57 < (bt a0 x4_4)) = false := decide_eq_false c20
                              clear c20
                              have H' := Aside0.mk H
                              clear H
                              have p17 : 0 ≤ (x4_4 : Int) := of_decide_eq_true (by first | (with_reducible assumption) | assumption)
                              have q17 : x4_4 < (a0.size : Int) := of_decide_eq_true (by first | (with_reducible assumption) | assumption)
                              have hx17 := bt_at a0 x4_4
                              replace p17 := eq_true p17
                              replace q17 := eq_true q17
                              have p19 : 0 ≤ (x4_4 : Int) := of_decide_eq_true (by first | (with_reducible assumption) | assumption)
                              have q19 : x4_4 < (a0.size : Int) := of_decide_eq_true (by first | (with_reducible assumption) | assumption)
                              have hx19 := bt_at a0 x4_4
                              replace p19 := eq_true p19
                              replace q19 := eq_true q19
                              go_wp2
                              go_roundg k4
                              case measure => have := HJ2.out; have := HJ6.out; have := HJ8.out; have := HK4.out; omega
                              case rel => exact ⟨(wrap64 (x4_4 + 1)), (by first | rfl | (simp; done) | (simp [*]; done)), H', ⟨by have := HJ2.out; have := HJ6.out; have := HJ8.out; have := HK4.out; omega⟩, by repeat (first | exact Drawn0.refl _ | apply Drawn0.step)⟩
                        · rw [if_neg c16] at H
                          exact absurd H (by simp)
                      · rw [if_neg c15] at H
                        have c15b0 : decide (x4_4 < (a0.size : Int)) = false := decide_eq_false c15
                        clear c15
                        obtain rfl := Option.some.inj H
                        go_wp2
                        go_ret
                        exact ⟨by first | rfl | (simp; done) | (simp [*]; done), by repeat (first | exact Drawn0.refl _ | apply Drawn0.step)⟩
def surveyorref01_Check.f (k : Nat) (a0 : ByteArray) : Option (Int) := (surveyorref01_Form.f k a0).bind fun t102 => (if t102 = true then ((surveyorref01_Digits.f a0).bind fun t103 => (if t103 > 4096 then (some 10) else (some 0))) else (some 3))
theorem surveyorref01_Check.mono : ∀ a0 k, LeO (surveyorref01_Check.f k a0) (surveyorref01_Check.f (k + 1) a0) := by
  intro a0 k
  unfold surveyorref01_Check.f
  repeat' first
      | (with_reducible exact surveyorref01_Form.mono _ _)
      | (with_reducible exact LeO.refl _)
      | (with_reducible exact LeO.none _)
      | (with_reducible refine LeO.ite ?_ ?_)
      | (with_reducible refine LeO.bind ?_ (fun _ => ?_))
      | exact surveyorref01_Form.mono _ _
      | exact LeO.none _
      | refine LeO.ite ?_ ?_
      | refine LeO.bind ?_ (fun _ => ?_)
set_option maxHeartbeats 8000000 in
set_option maxRecDepth 100000 in
theorem surveyorref01_Check.calls (k : Nat) (a0 : ByteArray) (r : Int) (w : World) (h : surveyorref01_Check.f k a0 = some r) :
    Calls Tryz.prog 21 #[.string a0] w fun e w' => e = .returned (.int .i64 r) ∧ Drawn0 w w' := by
  have H : ((surveyorref01_Form.f k a0).bind fun t102 => (if t102 = true then ((surveyorref01_Digits.f a0).bind fun t103 => (if t103 > 4096 then (some 10) else (some 0))) else (some 3))) = some r := h
  clear h
  obtain ⟨t102, A2, H⟩ := bi H
  try dsimp only at H
  go_enter Tryz.func21, Tryz.ntmps21
  refine byC (P := t102 = true) (fun c3 => ?a2) (fun c3 => ?b2)
  case' a2 =>
    subst c3
    rw [if_pos rfl] at H
    obtain ⟨t103, A4, H⟩ := bi H
    try dsimp only at H
    refine byC (P := t103 > 4096) (fun c5 => ?a3) (fun c5 => ?b3)
    case' a3 =>
      rw [if_pos c5] at H
      have c5b0 : decide (4096 < t103) = true := decide_eq_true c5
      clear c5
      obtain rfl := Option.some.inj H
    case' b3 =>
      rw [if_neg c5] at H
      have c5b0 : decide (4096 < t103) = false := decide_eq_false c5
      clear c5
      obtain rfl := Option.some.inj H
  case' b2 =>
    replace c3 := Bool.eq_false_iff.mpr c3
    subst c3
    rw [if_neg (show ¬ (false = true) by decide)] at H
    obtain rfl := Option.some.inj H
  all_goals
    go_wp2_with (first | ((with_reducible refine gate_callee (f := 31) rfl ?_); refine gl_ 4 Tryz.func31 #[.string a0] (h := ?_); (with_reducible refine (surveyorref01_Form.calls k a0 _ _ A2.out).mono ?_); rintro e w' ⟨rfl, ⟨nd, rfl⟩⟩; refine ⟨_, rfl, ?_⟩) | ((with_reducible refine gate_callee (f := 22) rfl ?_); refine gl_ 7 Tryz.func22 #[.string a0] (h := ?_); (with_reducible refine (surveyorref01_Digits.calls a0 t103 _ A4.out).mono ?_); rintro e w' ⟨rfl, ⟨nd, rfl⟩⟩; refine ⟨_, rfl, ?_⟩))
    go_ret
    exact ⟨by first | rfl | (simp; done) | (simp [*]; done), by repeat (first | exact Drawn0.refl _ | apply Drawn0.step)⟩
def surveyorref06_Number.f (k : Nat) (a0 : ByteArray) : Option (Int) := (surveyorref01_Check.f k a0).bind fun t104 => (if t104 = 0 then ((surveyorref01_Digits.f a0).bind fun t105 => (if t105 > 100 then (some 10) else (some 0))) else (some t104))
theorem surveyorref06_Number.mono : ∀ a0 k, LeO (surveyorref06_Number.f k a0) (surveyorref06_Number.f (k + 1) a0) := by
  intro a0 k
  unfold surveyorref06_Number.f
  repeat' first
      | (with_reducible exact surveyorref01_Check.mono _ _)
      | (with_reducible exact LeO.refl _)
      | (with_reducible exact LeO.none _)
      | (with_reducible refine LeO.ite ?_ ?_)
      | (with_reducible refine LeO.bind ?_ (fun _ => ?_))
      | exact surveyorref01_Check.mono _ _
      | exact LeO.none _
      | refine LeO.ite ?_ ?_
      | refine LeO.bind ?_ (fun _ => ?_)
set_option maxHeartbeats 8000000 in
set_option maxRecDepth 100000 in
theorem surveyorref06_Number.calls (k : Nat) (a0 : ByteArray) (r : Int) (w : World) (h : surveyorref06_Number.f k a0 = some r) :
    Calls Tryz.prog 9 #[.string a0] w fun e w' => e = .returned (.int .i64 r) ∧ Drawn0 w w' := by
  have H : ((surveyorref01_Check.f k a0).bind fun t104 => (if t104 = 0 then ((surveyorref01_Digits.f a0).bind fun t105 => (if t105 > 100 then (some 10) else (some 0))) else (some t104))) = some r := h
  clear h
  obtain ⟨t104, A2, H⟩ := bi H
  try dsimp only at H
  go_enter Tryz.func9, Tryz.ntmps9
  refine byC (P := t104 = 0) (fun c3 => ?a4) (fun c3 => ?b4)
  case' a4 =>
    rw [if_pos c3] at H
    have c3b0 : (t104 == 0) = true := beq_iff_eq.mpr c3
    have c3b1 : (t104 != 0) = false := bne_eq_false_iff_eq.mpr c3
    clear c3
    obtain ⟨t105, A4, H⟩ := bi H
    try dsimp only at H
    refine byC (P := t105 > 100) (fun c5 => ?a5) (fun c5 => ?b5)
    case' a5 =>
      rw [if_pos c5] at H
      have c5b0 : decide (100 < t105) = true := decide_eq_true c5
      clear c5
      obtain rfl := Option.some.inj H
    case' b5 =>
      rw [if_neg c5] at H
      have c5b0 : decide (100 < t105) = false := decide_eq_false c5
      clear c5
      obtain rfl := Option.some.inj H
  case' b4 =>
    rw [if_neg c3] at H
    have c3b0 : (t104 == 0) = false := beq_eq_false_iff_ne.mpr c3
    have c3b1 : (t104 != 0) = true := bne_iff_ne.mpr c3
    obtain rfl := Option.some.inj H
  all_goals
    go_wp2_with (first | ((with_reducible refine gate_callee (f := 21) rfl ?_); refine gl_ 5 Tryz.func21 #[.string a0] (h := ?_); (with_reducible refine (surveyorref01_Check.calls k a0 t104 _ A2.out).mono ?_); rintro e w' ⟨rfl, ⟨nd, rfl⟩⟩; refine ⟨_, rfl, ?_⟩) | ((with_reducible refine gate_callee (f := 22) rfl ?_); refine gl_ 10 Tryz.func22 #[.string a0] (h := ?_); (with_reducible refine (surveyorref01_Digits.calls a0 t105 _ A4.out).mono ?_); rintro e w' ⟨rfl, ⟨nd, rfl⟩⟩; refine ⟨_, rfl, ?_⟩))
    go_ret
    exact ⟨by first | rfl | (simp; done) | (simp [*]; done), by repeat (first | exact Drawn0.refl _ | apply Drawn0.step)⟩
def surveyorref01_Sign.f (a0 : ByteArray) : Option (Int) := if a0.toList = ([48] : List UInt8) then (some 0) else ((surveyorref01_Negative.f a0).bind fun t106 => (if t106 = true then (some (-1)) else (some 1)))
set_option maxHeartbeats 8000000 in
set_option maxRecDepth 100000 in
theorem surveyorref01_Sign.calls (a0 : ByteArray) (r : Int) (w : World) (h : surveyorref01_Sign.f a0 = some r) :
    Calls Tryz.prog 33 #[.string a0] w fun e w' => e = .returned (.int .i64 r) ∧ Drawn0 w w' := by
  have H : (if a0.toList = ([48] : List UInt8) then (some 0) else ((surveyorref01_Negative.f a0).bind fun t106 => (if t106 = true then (some (-1)) else (some 1)))) = some r := h
  clear h
  go_enter Tryz.func33, Tryz.ntmps33
  refine byC (P := a0.toList = ([48] : List UInt8)) (fun c2 => ?a6) (fun c2 => ?b6)
  case' a6 =>
    rw [if_pos c2] at H
    have c2b0 : (a0.toList == ([48] : List UInt8)) = true := beq_iff_eq.mpr c2
    have c2b1 : (a0.toList != ([48] : List UInt8)) = false := bne_eq_false_iff_eq.mpr c2
    clear c2
    obtain rfl := Option.some.inj H
  case' b6 =>
    rw [if_neg c2] at H
    have c2b0 : (a0.toList == ([48] : List UInt8)) = false := beq_eq_false_iff_ne.mpr c2
    have c2b1 : (a0.toList != ([48] : List UInt8)) = true := bne_iff_ne.mpr c2
    obtain ⟨t106, A3, H⟩ := bi H
    try dsimp only at H
    refine byC (P := t106 = true) (fun c4 => ?a7) (fun c4 => ?b7)
    case' a7 =>
      subst c4
      rw [if_pos rfl] at H
      obtain rfl := Option.some.inj H
    case' b7 =>
      replace c4 := Bool.eq_false_iff.mpr c4
      subst c4
      rw [if_neg (show ¬ (false = true) by decide)] at H
      obtain rfl := Option.some.inj H
  all_goals
    go_wp2_with (first | ((with_reducible refine gate_callee (f := 32) rfl ?_); refine gl_ 6 Tryz.func32 #[.string a0] (h := ?_); (with_reducible refine (surveyorref01_Negative.calls a0 _ _ A3.out).mono ?_); rintro e w' ⟨rfl, ⟨nd, rfl⟩⟩; refine ⟨_, rfl, ?_⟩))
    go_ret
    exact ⟨by first | rfl | (simp; done) | (simp [*]; done), by repeat (first | exact Drawn0.refl _ | apply Drawn0.step)⟩
end Go.Proofs.YtnagmogjhfdmlaaGreatDoor.PTopChainsIntervals
