-- printed by a program of this session (wip/gprint.py, a patched run of the print) out of the translation. Lean checks it.
import Derived.Test.YtlefniheafefgaaPSignComputesx0
import Derived.Test.YtlefniheafefgaaPSignComputesx1
namespace Go.Proofs.Ytlefniheafefgaa.PSignComputes
open Go.RowKit Go.Proofs.YtlefniheafefgaaW.PrintWords Go.Proofs.YtlefniheafefgaaW.PrintLast Go.Proofs.YtlefniheafefgaaW.PrintMore
attribute [local go_sem] max2_int min2_int max_two min_two max_three min_three max_four min_four   -- for this text's walks alone
set_option linter.unusedVariables false
set_option linter.unusedSimpArgs false

/-! ### surveyorref19_signs: function 35 -/
mutual
def surveyorref19_signs.l0 : Nat → Int → Int → Int → Int → Int → Option (Int × Int)
  | 0, _, _, _, _, _ => none
  | k + 1, x0, x1, x2, x9, x10 => if x10 ≤ 3 then (surveyorref19_signs.l1 k x0 x1 x2 x9 x10 (-3)) else (some (x9, 0))
def surveyorref19_signs.l1 : Nat → Int → Int → Int → Int → Int → Int → Option (Int × Int)
  | 0, _, _, _, _, _, _ => none
  | k + 1, x0, x1, x2, x9, x10, x11 => if x11 ≤ 3 then ((surveyorref19_value.f k x0 x10 x11).bind fun bt137 => (if bt137.2 = true then ((surveyorref19_has.f x1 x10).bind fun t139 => (if t139 = true then ((surveyorref19_has.f x2 x11).bind fun t140 => (if t140 = true then ((surveyorref19_Sign.f bt137.1).bind fun t141 => (surveyorref19_signs.l1 k x0 x1 x2 (Go.bits .or .i64 x9 t141) x10 (wrap64 (x11 + 1)))) else (surveyorref19_signs.l1 k x0 x1 x2 x9 x10 (wrap64 (x11 + 1))))) else (surveyorref19_signs.l1 k x0 x1 x2 x9 x10 (wrap64 (x11 + 1))))) else (surveyorref19_signs.l1 k x0 x1 x2 x9 x10 (wrap64 (x11 + 1))))) else (surveyorref19_signs.l0 k x0 x1 x2 x9 (wrap64 (x10 + 1)))
end
def surveyorref19_signs.f (k : Nat) (a0 : Int) (a1 : Int) (a2 : Int) : Option (Int × Int) := (surveyorref19_both.f a1 a2).bind fun t136 => (if t136 = 0 then (surveyorref19_signs.l0 k a0 a1 a2 0 (-3)) else (some (0, t136)))
theorem surveyorref19_signs.mono_l : ∀ k, (∀ y0 y1 y2 y3 y4, LeO (surveyorref19_signs.l0 k y0 y1 y2 y3 y4) (surveyorref19_signs.l0 (k + 1) y0 y1 y2 y3 y4)) ∧ (∀ y0 y1 y2 y3 y4 y5, LeO (surveyorref19_signs.l1 k y0 y1 y2 y3 y4 y5) (surveyorref19_signs.l1 (k + 1) y0 y1 y2 y3 y4 y5))
  | 0 => ⟨fun _ _ _ _ _ r h => by simp [surveyorref19_signs.l0] at h, fun _ _ _ _ _ _ r h => by simp [surveyorref19_signs.l1] at h⟩
  | k + 1 => by
    obtain ⟨ih0, ih1⟩ := surveyorref19_signs.mono_l k
    refine ⟨?_, ?_⟩
    · intro y0 y1 y2 y3 y4
      unfold surveyorref19_signs.l0
      repeat' first
      | (with_reducible exact ih0 _ _ _ _ _)
      | (with_reducible exact ih1 _ _ _ _ _ _)
      | (with_reducible exact surveyorref19_value.mono _ _ _ _)
      | (with_reducible exact LeO.refl _)
      | (with_reducible exact LeO.none _)
      | (with_reducible refine LeO.ite ?_ ?_)
      | (with_reducible refine LeO.bind ?_ (fun _ => ?_))
      | exact ih0 _ _ _ _ _
      | exact ih1 _ _ _ _ _ _
      | exact surveyorref19_value.mono _ _ _ _
      | exact LeO.none _
      | refine LeO.ite ?_ ?_
      | refine LeO.bind ?_ (fun _ => ?_)
    · intro y0 y1 y2 y3 y4 y5
      unfold surveyorref19_signs.l1
      repeat' first
      | (with_reducible exact ih0 _ _ _ _ _)
      | (with_reducible exact ih1 _ _ _ _ _ _)
      | (with_reducible exact surveyorref19_value.mono _ _ _ _)
      | (with_reducible exact LeO.refl _)
      | (with_reducible exact LeO.none _)
      | (with_reducible refine LeO.ite ?_ ?_)
      | (with_reducible refine LeO.bind ?_ (fun _ => ?_))
      | exact ih0 _ _ _ _ _
      | exact ih1 _ _ _ _ _ _
      | exact surveyorref19_value.mono _ _ _ _
      | exact LeO.none _
      | refine LeO.ite ?_ ?_
      | refine LeO.bind ?_ (fun _ => ?_)
theorem surveyorref19_signs.mono : ∀ a0 a1 a2 k, LeO (surveyorref19_signs.f k a0 a1 a2) (surveyorref19_signs.f (k + 1) a0 a1 a2) := by
  intro a0 a1 a2 k
  obtain ⟨ih0, ih1⟩ := surveyorref19_signs.mono_l k
  unfold surveyorref19_signs.f
  repeat' first
      | (with_reducible exact ih0 _ _ _ _ _)
      | (with_reducible exact ih1 _ _ _ _ _ _)
      | (with_reducible exact surveyorref19_value.mono _ _ _ _)
      | (with_reducible exact LeO.refl _)
      | (with_reducible exact LeO.none _)
      | (with_reducible refine LeO.ite ?_ ?_)
      | (with_reducible refine LeO.bind ?_ (fun _ => ?_))
      | exact ih0 _ _ _ _ _
      | exact ih1 _ _ _ _ _ _
      | exact surveyorref19_value.mono _ _ _ _
      | exact LeO.none _
      | refine LeO.ite ?_ ?_
      | refine LeO.bind ?_ (fun _ => ?_)
set_option maxHeartbeats 8000000 in
set_option maxRecDepth 100000 in
theorem surveyorref19_signs.calls (k : Nat) (a0 : Int) (a1 : Int) (a2 : Int) (r1 : Int) (r2 : Int) (w : World) (h : surveyorref19_signs.f k a0 a1 a2 = some (r1, r2)) :
    Calls Try.prog 35 #[.int .i64 a0, .int .i64 a1, .int .i64 a2] w fun e w' => e = .returned (.tuple #[.int .i64 r1, .int .i64 r2]) ∧ Drawn0 w w' := by
  have H : ((surveyorref19_both.f a1 a2).bind fun t136 => (if t136 = 0 then (surveyorref19_signs.l0 k a0 a1 a2 0 (-3)) else (some (0, t136)))) = some (r1, r2) := h
  clear h
  replace H := Option.bind_eq_some_iff.mp H
  obtain ⟨t136, A40, H⟩ := H
  replace H : (if t136 = 0 then (surveyorref19_signs.l0 k a0 a1 a2 0 (-3)) else (some (0, t136))) = some (r1, r2) := H
  have A4 := Aside0.mk A40
  clear A40
  by_cases c5 : t136 = 0
  · rw [if_pos c5] at H
    have c5b0 : (t136 == 0) = true := beq_iff_eq.mpr c5
    have c5b1 : (t136 != 0) = false := bne_eq_false_iff_eq.mpr c5
    clear c5
    have H' := Aside0.mk H
    clear H
    go_enter Try.func35, Try.ntmps35
    go_wp2_with (first | ((with_reducible refine gate_callee (f := 25) rfl ?_); refine goesL_ (some 16) rfl rfl Try.func25 (by kernel_rfl) rfl #[.int .i64 a1, .int .i64 a2] rfl (by (try simp only [List.map_toArray, List.map_cons, List.map_nil]); first | done | rfl | (simp only [List.length_drop, List.length_take]; rfl)) ?_; (with_reducible refine (surveyorref19_both.calls a1 a2 t136 _ A4.out).mono ?_); rintro e w' ⟨rfl, ⟨nd, rfl⟩⟩; refine ⟨_, rfl, ?_⟩))
    go_loopg [9, 10] k (fun kq v9 v10 w' => ∃ (x9_1 : Int) (x10_1 : Int), v9 = .int .i64 x9_1 ∧ v10 = .int .i64 x10_1 ∧ Aside0 (surveyorref19_signs.l0 kq a0 a1 a2 x9_1 x10_1 = some (r1, r2)) ∧ Aside0 (kq ≤ k) ∧ Drawn0 w w')
    case atStart => exact ⟨(0), ((-3)), (by first | rfl | (simp; done) | (simp [*]; done)), (by first | rfl | (simp; done) | (simp [*]; done)), H', ⟨Nat.le_refl _⟩, by repeat (first | exact Drawn0.refl _ | apply Drawn0.step)⟩
    case round =>
      clear H'
      try clear c2
      try clear p2
      try clear c3
      try clear c5
      try clear c5b0
      try clear c5b1
      obtain ⟨x9_1, x10_1, rfl, rfl, HA, HK1, ⟨m1, rfl⟩⟩ := hrel
      cases gk with
      | zero => exact absurd HA.out (by simp [surveyorref19_signs.l0])
      | succ k1 =>
        have H := HA.out
        clear HA
        simp only [surveyorref19_signs.l0] at H
        by_cases c6 : x10_1 ≤ 3
        · rw [if_pos c6] at H
          have c6b0 : decide (x10_1 ≤ 3) = true := decide_eq_true c6
          clear c6
          have H' := Aside0.mk H
          clear H
          go_wp2
          go_loopg [9, 11] k1 (fun kq v9 v11 w' => ∃ (x9_2 : Int) (x11_2 : Int), v9 = .int .i64 x9_2 ∧ v11 = .int .i64 x11_2 ∧ Aside0 (surveyorref19_signs.l1 kq a0 a1 a2 x9_2 x10_1 x11_2 = some (r1, r2)) ∧ Aside0 (kq ≤ k1) ∧ Drawn0 w w')
          case atStart => exact ⟨(x9_1), ((-3)), (by first | rfl | (simp; done) | (simp [*]; done)), (by first | rfl | (simp; done) | (simp [*]; done)), H', ⟨Nat.le_refl _⟩, by repeat (first | exact Drawn0.refl _ | apply Drawn0.step)⟩
          case round =>
            clear H'
            try clear c2
            try clear p2
            try clear c3
            try clear c5
            try clear c5b0
            try clear c5b1
            try clear c6
            try clear c6b0
            try clear p2
            obtain ⟨x9_2, x11_2, rfl, rfl, HA, HK2, ⟨m2, rfl⟩⟩ := hrel
            cases gk with
            | zero => exact absurd HA.out (by simp [surveyorref19_signs.l1])
            | succ k2 =>
              have H := HA.out
              clear HA
              simp only [surveyorref19_signs.l1] at H
              by_cases c7 : x11_2 ≤ 3
              · rw [if_pos c7] at H
                have c7b0 : decide (x11_2 ≤ 3) = true := decide_eq_true c7
                clear c7
                replace H := Option.bind_eq_some_iff.mp H
                obtain ⟨⟨t137, t138⟩, A80, H⟩ := H
                replace H : (if t138 = true then ((surveyorref19_has.f a1 x10_1).bind fun t139 => (if t139 = true then ((surveyorref19_has.f a2 x11_2).bind fun t140 => (if t140 = true then ((surveyorref19_Sign.f t137).bind fun t141 => (surveyorref19_signs.l1 k2 a0 a1 a2 (Go.bits .or .i64 x9_2 t141) x10_1 (wrap64 (x11_2 + 1)))) else (surveyorref19_signs.l1 k2 a0 a1 a2 x9_2 x10_1 (wrap64 (x11_2 + 1))))) else (surveyorref19_signs.l1 k2 a0 a1 a2 x9_2 x10_1 (wrap64 (x11_2 + 1))))) else (surveyorref19_signs.l1 k2 a0 a1 a2 x9_2 x10_1 (wrap64 (x11_2 + 1)))) = some (r1, r2) := H
                have A8 := Aside0.mk A80
                clear A80
                by_cases c9 : t138 = true
                · subst c9
                  have H1 : ((surveyorref19_has.f a1 x10_1).bind fun t139 => (if t139 = true then ((surveyorref19_has.f a2 x11_2).bind fun t140 => (if t140 = true then ((surveyorref19_Sign.f t137).bind fun t141 => (surveyorref19_signs.l1 k2 a0 a1 a2 (Go.bits .or .i64 x9_2 t141) x10_1 (wrap64 (x11_2 + 1)))) else (surveyorref19_signs.l1 k2 a0 a1 a2 x9_2 x10_1 (wrap64 (x11_2 + 1))))) else (surveyorref19_signs.l1 k2 a0 a1 a2 x9_2 x10_1 (wrap64 (x11_2 + 1))))) = some (r1, r2) := by rw [if_pos rfl] at H; exact H
                  clear H
                  have H := H1
                  clear H1
                  replace H := Option.bind_eq_some_iff.mp H
                  obtain ⟨t139, A100, H⟩ := H
                  replace H : (if t139 = true then ((surveyorref19_has.f a2 x11_2).bind fun t140 => (if t140 = true then ((surveyorref19_Sign.f t137).bind fun t141 => (surveyorref19_signs.l1 k2 a0 a1 a2 (Go.bits .or .i64 x9_2 t141) x10_1 (wrap64 (x11_2 + 1)))) else (surveyorref19_signs.l1 k2 a0 a1 a2 x9_2 x10_1 (wrap64 (x11_2 + 1))))) else (surveyorref19_signs.l1 k2 a0 a1 a2 x9_2 x10_1 (wrap64 (x11_2 + 1)))) = some (r1, r2) := H
                  have A10 := Aside0.mk A100
                  clear A100
                  by_cases c11 : t139 = true
                  · subst c11
                    have H1 : ((surveyorref19_has.f a2 x11_2).bind fun t140 => (if t140 = true then ((surveyorref19_Sign.f t137).bind fun t141 => (surveyorref19_signs.l1 k2 a0 a1 a2 (Go.bits .or .i64 x9_2 t141) x10_1 (wrap64 (x11_2 + 1)))) else (surveyorref19_signs.l1 k2 a0 a1 a2 x9_2 x10_1 (wrap64 (x11_2 + 1))))) = some (r1, r2) := by rw [if_pos rfl] at H; exact H
                    clear H
                    have H := H1
                    clear H1
                    replace H := Option.bind_eq_some_iff.mp H
                    obtain ⟨t140, A120, H⟩ := H
                    replace H : (if t140 = true then ((surveyorref19_Sign.f t137).bind fun t141 => (surveyorref19_signs.l1 k2 a0 a1 a2 (Go.bits .or .i64 x9_2 t141) x10_1 (wrap64 (x11_2 + 1)))) else (surveyorref19_signs.l1 k2 a0 a1 a2 x9_2 x10_1 (wrap64 (x11_2 + 1)))) = some (r1, r2) := H
                    have A12 := Aside0.mk A120
                    clear A120
                    by_cases c13 : t140 = true
                    · subst c13
                      have H1 : ((surveyorref19_Sign.f t137).bind fun t141 => (surveyorref19_signs.l1 k2 a0 a1 a2 (Go.bits .or .i64 x9_2 t141) x10_1 (wrap64 (x11_2 + 1)))) = some (r1, r2) := by rw [if_pos rfl] at H; exact H
                      clear H
                      have H := H1
                      clear H1
                      replace H := Option.bind_eq_some_iff.mp H
                      obtain ⟨t141, A140, H⟩ := H
                      replace H : (surveyorref19_signs.l1 k2 a0 a1 a2 (Go.bits .or .i64 x9_2 t141) x10_1 (wrap64 (x11_2 + 1))) = some (r1, r2) := H
                      have A14 := Aside0.mk A140
                      clear A140
                      have H' := Aside0.mk H
                      clear H
                      go_wp2_with (first | ((with_reducible refine gate_callee (f := 46) rfl ?_); refine goesL_ (some 32) rfl rfl Try.func46 (by kernel_rfl) rfl #[.int .i64 a0, .int .i64 x10_1, .int .i64 x11_2] rfl (by (try simp only [List.map_toArray, List.map_cons, List.map_nil]); first | done | rfl | (simp only [List.length_drop, List.length_take]; rfl)) ?_; (with_reducible refine (surveyorref19_value.calls k2 a0 x10_1 x11_2 t137 true _ A8.out).mono ?_); rintro e w' ⟨rfl, ⟨nd, rfl⟩⟩; refine ⟨_, rfl, ?_⟩) | (go_at_call 26; (with_reducible refine (surveyorref19_has.calls a1 x10_1 true _ A10.out).mono ?_); rintro e w' ⟨rfl, ⟨nd, rfl⟩⟩) | (go_at_call 26; (with_reducible refine (surveyorref19_has.calls a2 x11_2 true _ A12.out).mono ?_); rintro e w' ⟨rfl, ⟨nd, rfl⟩⟩) | ((with_reducible refine gate_callee (f := 28) rfl ?_); refine goesL_ (some 48) rfl rfl Try.func28 (by kernel_rfl) rfl #[.int .i64 t137] rfl (by (try simp only [List.map_toArray, List.map_cons, List.map_nil]); first | done | rfl | (simp only [List.length_drop, List.length_take]; rfl)) ?_; (with_reducible refine (surveyorref19_Sign.calls t137 t141 _ A14.out).mono ?_); rintro e w' ⟨rfl, ⟨nd, rfl⟩⟩; refine ⟨_, rfl, ?_⟩))
                      go_roundg k2
                      case measure => have := HK1.out; have := HK2.out; omega
                      case rel => exact ⟨(Go.bits .or .i64 x9_2 t141), (wrap64 (x11_2 + 1)), (by first | rfl | (simp; done) | (simp [*]; done)), (by first | rfl | (simp; done) | (simp [*]; done)), H', ⟨by have := HK1.out; have := HK2.out; omega⟩, by repeat (first | exact Drawn0.refl _ | apply Drawn0.step)⟩
                    · replace c13 := Bool.eq_false_iff.mpr c13
                      subst c13
                      have H1 : (surveyorref19_signs.l1 k2 a0 a1 a2 x9_2 x10_1 (wrap64 (x11_2 + 1))) = some (r1, r2) := by rw [if_neg (show ¬ (false = true) by decide)] at H; exact H
                      clear H
                      have H := H1
                      clear H1
                      have H' := Aside0.mk H
                      clear H
                      go_wp2_with (first | ((with_reducible refine gate_callee (f := 46) rfl ?_); refine goesL_ (some 32) rfl rfl Try.func46 (by kernel_rfl) rfl #[.int .i64 a0, .int .i64 x10_1, .int .i64 x11_2] rfl (by (try simp only [List.map_toArray, List.map_cons, List.map_nil]); first | done | rfl | (simp only [List.length_drop, List.length_take]; rfl)) ?_; (with_reducible refine (surveyorref19_value.calls k2 a0 x10_1 x11_2 t137 true _ A8.out).mono ?_); rintro e w' ⟨rfl, ⟨nd, rfl⟩⟩; refine ⟨_, rfl, ?_⟩) | (go_at_call 26; (with_reducible refine (surveyorref19_has.calls a1 x10_1 true _ A10.out).mono ?_); rintro e w' ⟨rfl, ⟨nd, rfl⟩⟩) | (go_at_call 26; (with_reducible refine (surveyorref19_has.calls a2 x11_2 false _ A12.out).mono ?_); rintro e w' ⟨rfl, ⟨nd, rfl⟩⟩))
                      go_roundg k2
                      case measure => have := HK1.out; have := HK2.out; omega
                      case rel => exact ⟨(x9_2), (wrap64 (x11_2 + 1)), (by first | rfl | (simp; done) | (simp [*]; done)), (by first | rfl | (simp; done) | (simp [*]; done)), H', ⟨by have := HK1.out; have := HK2.out; omega⟩, by repeat (first | exact Drawn0.refl _ | apply Drawn0.step)⟩
                  · replace c11 := Bool.eq_false_iff.mpr c11
                    subst c11
                    have H1 : (surveyorref19_signs.l1 k2 a0 a1 a2 x9_2 x10_1 (wrap64 (x11_2 + 1))) = some (r1, r2) := by rw [if_neg (show ¬ (false = true) by decide)] at H; exact H
                    clear H
                    have H := H1
                    clear H1
                    have H' := Aside0.mk H
                    clear H
                    go_wp2_with (first | ((with_reducible refine gate_callee (f := 46) rfl ?_); refine goesL_ (some 32) rfl rfl Try.func46 (by kernel_rfl) rfl #[.int .i64 a0, .int .i64 x10_1, .int .i64 x11_2] rfl (by (try simp only [List.map_toArray, List.map_cons, List.map_nil]); first | done | rfl | (simp only [List.length_drop, List.length_take]; rfl)) ?_; (with_reducible refine (surveyorref19_value.calls k2 a0 x10_1 x11_2 t137 true _ A8.out).mono ?_); rintro e w' ⟨rfl, ⟨nd, rfl⟩⟩; refine ⟨_, rfl, ?_⟩) | (go_at_call 26; (with_reducible refine (surveyorref19_has.calls a1 x10_1 false _ A10.out).mono ?_); rintro e w' ⟨rfl, ⟨nd, rfl⟩⟩))
                    go_roundg k2
                    case measure => have := HK1.out; have := HK2.out; omega
                    case rel => exact ⟨(x9_2), (wrap64 (x11_2 + 1)), (by first | rfl | (simp; done) | (simp [*]; done)), (by first | rfl | (simp; done) | (simp [*]; done)), H', ⟨by have := HK1.out; have := HK2.out; omega⟩, by repeat (first | exact Drawn0.refl _ | apply Drawn0.step)⟩
                · replace c9 := Bool.eq_false_iff.mpr c9
                  subst c9
                  have H1 : (surveyorref19_signs.l1 k2 a0 a1 a2 x9_2 x10_1 (wrap64 (x11_2 + 1))) = some (r1, r2) := by rw [if_neg (show ¬ (false = true) by decide)] at H; exact H
                  clear H
                  have H := H1
                  clear H1
                  have H' := Aside0.mk H
                  clear H
                  go_wp2_with (first | ((with_reducible refine gate_callee (f := 46) rfl ?_); refine goesL_ (some 32) rfl rfl Try.func46 (by kernel_rfl) rfl #[.int .i64 a0, .int .i64 x10_1, .int .i64 x11_2] rfl (by (try simp only [List.map_toArray, List.map_cons, List.map_nil]); first | done | rfl | (simp only [List.length_drop, List.length_take]; rfl)) ?_; (with_reducible refine (surveyorref19_value.calls k2 a0 x10_1 x11_2 t137 false _ A8.out).mono ?_); rintro e w' ⟨rfl, ⟨nd, rfl⟩⟩; refine ⟨_, rfl, ?_⟩))
                  go_roundg k2
                  case measure => have := HK1.out; have := HK2.out; omega
                  case rel => exact ⟨(x9_2), (wrap64 (x11_2 + 1)), (by first | rfl | (simp; done) | (simp [*]; done)), (by first | rfl | (simp; done) | (simp [*]; done)), H', ⟨by have := HK1.out; have := HK2.out; omega⟩, by repeat (first | exact Drawn0.refl _ | apply Drawn0.step)⟩
              · rw [if_neg c7] at H
                have c7b0 : decide (x11_2 ≤ 3) = false := decide_eq_false c7
                clear c7
                have H' := Aside0.mk H
                clear H
                go_wp2
                go_roundg k2
                case measure => have := HK1.out; have := HK2.out; omega
                case rel => exact ⟨(x9_2), (wrap64 (x10_1 + 1)), (by first | rfl | (simp; done) | (simp [*]; done)), (by first | rfl | (simp; done) | (simp [*]; done)), H', ⟨by have := HK1.out; have := HK2.out; omega⟩, by repeat (first | exact Drawn0.refl _ | apply Drawn0.step)⟩
        · rw [if_neg c6] at H
          have c6b0 : decide (x10_1 ≤ 3) = false := decide_eq_false c6
          clear c6
          simp only [Option.some.injEq, Prod.mk.injEq] at H
          obtain ⟨rfl, rfl⟩ := H
          go_wp2
          go_ret2
          exact ⟨by first | rfl | (simp; done) | (simp [*]; done), by repeat (first | exact Drawn0.refl _ | apply Drawn0.step)⟩
  · rw [if_neg c5] at H
    have c5b0 : (t136 == 0) = false := beq_eq_false_iff_ne.mpr c5
    have c5b1 : (t136 != 0) = true := bne_iff_ne.mpr c5
    simp only [Option.some.injEq, Prod.mk.injEq] at H
    obtain ⟨rfl, rfl⟩ := H
    go_enter Try.func35, Try.ntmps35
    go_wp2_with (first | ((with_reducible refine gate_callee (f := 25) rfl ?_); refine goesL_ (some 16) rfl rfl Try.func25 (by kernel_rfl) rfl #[.int .i64 a1, .int .i64 a2] rfl (by (try simp only [List.map_toArray, List.map_cons, List.map_nil]); first | done | rfl | (simp only [List.length_drop, List.length_take]; rfl)) ?_; (with_reducible refine (surveyorref19_both.calls a1 a2 t136 _ A4.out).mono ?_); rintro e w' ⟨rfl, ⟨nd, rfl⟩⟩; refine ⟨_, rfl, ?_⟩))
    go_ret2
    exact ⟨by first | rfl | (simp; done) | (simp [*]; done), by repeat (first | exact Drawn0.refl _ | apply Drawn0.step)⟩

/-! ### surveyorref19_Add: function 11 -/
def surveyorref19_Add.f (k : Nat) (a0 : Int) (a1 : Int) : Option (Int × Int) := (surveyorref19_signs.f k 0 a0 a1).bind fun bt142 => (some (bt142.1, bt142.2))
theorem surveyorref19_Add.mono : ∀ a0 a1 k, LeO (surveyorref19_Add.f k a0 a1) (surveyorref19_Add.f (k + 1) a0 a1) := by
  intro a0 a1 k
  unfold surveyorref19_Add.f
  repeat' first
      | (with_reducible exact surveyorref19_signs.mono _ _ _ _)
      | (with_reducible exact LeO.refl _)
      | (with_reducible exact LeO.none _)
      | (with_reducible refine LeO.ite ?_ ?_)
      | (with_reducible refine LeO.bind ?_ (fun _ => ?_))
      | exact surveyorref19_signs.mono _ _ _ _
      | exact LeO.none _
      | refine LeO.ite ?_ ?_
      | refine LeO.bind ?_ (fun _ => ?_)
set_option maxHeartbeats 8000000 in
set_option maxRecDepth 100000 in
theorem surveyorref19_Add.calls (k : Nat) (a0 : Int) (a1 : Int) (r1 : Int) (r2 : Int) (w : World) (h : surveyorref19_Add.f k a0 a1 = some (r1, r2)) :
    Calls Try.prog 11 #[.int .i64 a0, .int .i64 a1] w fun e w' => e = .returned (.tuple #[.int .i64 r1, .int .i64 r2]) ∧ Drawn0 w w' := by
  have H : ((surveyorref19_signs.f k 0 a0 a1).bind fun bt142 => (some (bt142.1, bt142.2))) = some (r1, r2) := h
  clear h
  replace H := Option.bind_eq_some_iff.mp H
  obtain ⟨⟨t142, t143⟩, A30, H⟩ := H
  replace H : (some (t142, t143)) = some (r1, r2) := H
  have A3 := Aside0.mk A30
  clear A30
  simp only [Option.some.injEq, Prod.mk.injEq] at H
  obtain ⟨rfl, rfl⟩ := H
  go_enter Try.func11, Try.ntmps11
  go_wp2_with (first | ((with_reducible refine gate_callee (f := 35) rfl ?_); refine goesL_ (some 8) rfl rfl Try.func35 (by kernel_rfl) rfl #[.int .i64 0, .int .i64 a0, .int .i64 a1] rfl (by (try simp only [List.map_toArray, List.map_cons, List.map_nil]); first | done | rfl | (simp only [List.length_drop, List.length_take]; rfl)) ?_; (with_reducible refine (surveyorref19_signs.calls k 0 a0 a1 t142 t143 _ A3.out).mono ?_); rintro e w' ⟨rfl, ⟨nd, rfl⟩⟩; refine ⟨_, rfl, ?_⟩))
  go_ret2
  exact ⟨by first | rfl | (simp; done) | (simp [*]; done), by repeat (first | exact Drawn0.refl _ | apply Drawn0.step)⟩

/-! ### surveyorref19_Sub: function 12 -/
def surveyorref19_Sub.f (k : Nat) (a0 : Int) (a1 : Int) : Option (Int × Int) := (surveyorref19_signs.f k 1 a0 a1).bind fun bt144 => (some (bt144.1, bt144.2))
theorem surveyorref19_Sub.mono : ∀ a0 a1 k, LeO (surveyorref19_Sub.f k a0 a1) (surveyorref19_Sub.f (k + 1) a0 a1) := by
  intro a0 a1 k
  unfold surveyorref19_Sub.f
  repeat' first
      | (with_reducible exact surveyorref19_signs.mono _ _ _ _)
      | (with_reducible exact LeO.refl _)
      | (with_reducible exact LeO.none _)
      | (with_reducible refine LeO.ite ?_ ?_)
      | (with_reducible refine LeO.bind ?_ (fun _ => ?_))
      | exact surveyorref19_signs.mono _ _ _ _
      | exact LeO.none _
      | refine LeO.ite ?_ ?_
      | refine LeO.bind ?_ (fun _ => ?_)
set_option maxHeartbeats 8000000 in
set_option maxRecDepth 100000 in
theorem surveyorref19_Sub.calls (k : Nat) (a0 : Int) (a1 : Int) (r1 : Int) (r2 : Int) (w : World) (h : surveyorref19_Sub.f k a0 a1 = some (r1, r2)) :
    Calls Try.prog 12 #[.int .i64 a0, .int .i64 a1] w fun e w' => e = .returned (.tuple #[.int .i64 r1, .int .i64 r2]) ∧ Drawn0 w w' := by
  have H : ((surveyorref19_signs.f k 1 a0 a1).bind fun bt144 => (some (bt144.1, bt144.2))) = some (r1, r2) := h
  clear h
  replace H := Option.bind_eq_some_iff.mp H
  obtain ⟨⟨t144, t145⟩, A30, H⟩ := H
  replace H : (some (t144, t145)) = some (r1, r2) := H
  have A3 := Aside0.mk A30
  clear A30
  simp only [Option.some.injEq, Prod.mk.injEq] at H
  obtain ⟨rfl, rfl⟩ := H
  go_enter Try.func12, Try.ntmps12
  go_wp2_with (first | ((with_reducible refine gate_callee (f := 35) rfl ?_); refine goesL_ (some 8) rfl rfl Try.func35 (by kernel_rfl) rfl #[.int .i64 1, .int .i64 a0, .int .i64 a1] rfl (by (try simp only [List.map_toArray, List.map_cons, List.map_nil]); first | done | rfl | (simp only [List.length_drop, List.length_take]; rfl)) ?_; (with_reducible refine (surveyorref19_signs.calls k 1 a0 a1 t144 t145 _ A3.out).mono ?_); rintro e w' ⟨rfl, ⟨nd, rfl⟩⟩; refine ⟨_, rfl, ?_⟩))
  go_ret2
  exact ⟨by first | rfl | (simp; done) | (simp [*]; done), by repeat (first | exact Drawn0.refl _ | apply Drawn0.step)⟩

/-! ### surveyorref19_Mul: function 13 -/
def surveyorref19_Mul.f (k : Nat) (a0 : Int) (a1 : Int) : Option (Int × Int) := (surveyorref19_signs.f k 2 a0 a1).bind fun bt146 => (some (bt146.1, bt146.2))
theorem surveyorref19_Mul.mono : ∀ a0 a1 k, LeO (surveyorref19_Mul.f k a0 a1) (surveyorref19_Mul.f (k + 1) a0 a1) := by
  intro a0 a1 k
  unfold surveyorref19_Mul.f
  repeat' first
      | (with_reducible exact surveyorref19_signs.mono _ _ _ _)
      | (with_reducible exact LeO.refl _)
      | (with_reducible exact LeO.none _)
      | (with_reducible refine LeO.ite ?_ ?_)
      | (with_reducible refine LeO.bind ?_ (fun _ => ?_))
      | exact surveyorref19_signs.mono _ _ _ _
      | exact LeO.none _
      | refine LeO.ite ?_ ?_
      | refine LeO.bind ?_ (fun _ => ?_)
set_option maxHeartbeats 8000000 in
set_option maxRecDepth 100000 in
theorem surveyorref19_Mul.calls (k : Nat) (a0 : Int) (a1 : Int) (r1 : Int) (r2 : Int) (w : World) (h : surveyorref19_Mul.f k a0 a1 = some (r1, r2)) :
    Calls Try.prog 13 #[.int .i64 a0, .int .i64 a1] w fun e w' => e = .returned (.tuple #[.int .i64 r1, .int .i64 r2]) ∧ Drawn0 w w' := by
  have H : ((surveyorref19_signs.f k 2 a0 a1).bind fun bt146 => (some (bt146.1, bt146.2))) = some (r1, r2) := h
  clear h
  replace H := Option.bind_eq_some_iff.mp H
  obtain ⟨⟨t146, t147⟩, A30, H⟩ := H
  replace H : (some (t146, t147)) = some (r1, r2) := H
  have A3 := Aside0.mk A30
  clear A30
  simp only [Option.some.injEq, Prod.mk.injEq] at H
  obtain ⟨rfl, rfl⟩ := H
  go_enter Try.func13, Try.ntmps13
  go_wp2_with (first | ((with_reducible refine gate_callee (f := 35) rfl ?_); refine goesL_ (some 8) rfl rfl Try.func35 (by kernel_rfl) rfl #[.int .i64 2, .int .i64 a0, .int .i64 a1] rfl (by (try simp only [List.map_toArray, List.map_cons, List.map_nil]); first | done | rfl | (simp only [List.length_drop, List.length_take]; rfl)) ?_; (with_reducible refine (surveyorref19_signs.calls k 2 a0 a1 t146 t147 _ A3.out).mono ?_); rintro e w' ⟨rfl, ⟨nd, rfl⟩⟩; refine ⟨_, rfl, ?_⟩))
  go_ret2
  exact ⟨by first | rfl | (simp; done) | (simp [*]; done), by repeat (first | exact Drawn0.refl _ | apply Drawn0.step)⟩

/-! ### surveyorref19_Quo: function 14 -/
def surveyorref19_Quo.f (k : Nat) (a0 : Int) (a1 : Int) : Option (Int × Int) := (surveyorref19_signs.f k 3 a0 a1).bind fun bt148 => (some (bt148.1, bt148.2))
theorem surveyorref19_Quo.mono : ∀ a0 a1 k, LeO (surveyorref19_Quo.f k a0 a1) (surveyorref19_Quo.f (k + 1) a0 a1) := by
  intro a0 a1 k
  unfold surveyorref19_Quo.f
  repeat' first
      | (with_reducible exact surveyorref19_signs.mono _ _ _ _)
      | (with_reducible exact LeO.refl _)
      | (with_reducible exact LeO.none _)
      | (with_reducible refine LeO.ite ?_ ?_)
      | (with_reducible refine LeO.bind ?_ (fun _ => ?_))
      | exact surveyorref19_signs.mono _ _ _ _
      | exact LeO.none _
      | refine LeO.ite ?_ ?_
      | refine LeO.bind ?_ (fun _ => ?_)
set_option maxHeartbeats 8000000 in
set_option maxRecDepth 100000 in
theorem surveyorref19_Quo.calls (k : Nat) (a0 : Int) (a1 : Int) (r1 : Int) (r2 : Int) (w : World) (h : surveyorref19_Quo.f k a0 a1 = some (r1, r2)) :
    Calls Try.prog 14 #[.int .i64 a0, .int .i64 a1] w fun e w' => e = .returned (.tuple #[.int .i64 r1, .int .i64 r2]) ∧ Drawn0 w w' := by
  have H : ((surveyorref19_signs.f k 3 a0 a1).bind fun bt148 => (some (bt148.1, bt148.2))) = some (r1, r2) := h
  clear h
  replace H := Option.bind_eq_some_iff.mp H
  obtain ⟨⟨t148, t149⟩, A30, H⟩ := H
  replace H : (some (t148, t149)) = some (r1, r2) := H
  have A3 := Aside0.mk A30
  clear A30
  simp only [Option.some.injEq, Prod.mk.injEq] at H
  obtain ⟨rfl, rfl⟩ := H
  go_enter Try.func14, Try.ntmps14
  go_wp2_with (first | ((with_reducible refine gate_callee (f := 35) rfl ?_); refine goesL_ (some 8) rfl rfl Try.func35 (by kernel_rfl) rfl #[.int .i64 3, .int .i64 a0, .int .i64 a1] rfl (by (try simp only [List.map_toArray, List.map_cons, List.map_nil]); first | done | rfl | (simp only [List.length_drop, List.length_take]; rfl)) ?_; (with_reducible refine (surveyorref19_signs.calls k 3 a0 a1 t148 t149 _ A3.out).mono ?_); rintro e w' ⟨rfl, ⟨nd, rfl⟩⟩; refine ⟨_, rfl, ?_⟩))
  go_ret2
  exact ⟨by first | rfl | (simp; done) | (simp [*]; done), by repeat (first | exact Drawn0.refl _ | apply Drawn0.step)⟩

/-! ### surveyorref19_Rem: function 15 -/
def surveyorref19_Rem.f (k : Nat) (a0 : Int) (a1 : Int) : Option (Int × Int) := (surveyorref19_signs.f k 4 a0 a1).bind fun bt150 => (some (bt150.1, bt150.2))
theorem surveyorref19_Rem.mono : ∀ a0 a1 k, LeO (surveyorref19_Rem.f k a0 a1) (surveyorref19_Rem.f (k + 1) a0 a1) := by
  intro a0 a1 k
  unfold surveyorref19_Rem.f
  repeat' first
      | (with_reducible exact surveyorref19_signs.mono _ _ _ _)
      | (with_reducible exact LeO.refl _)
      | (with_reducible exact LeO.none _)
      | (with_reducible refine LeO.ite ?_ ?_)
      | (with_reducible refine LeO.bind ?_ (fun _ => ?_))
      | exact surveyorref19_signs.mono _ _ _ _
      | exact LeO.none _
      | refine LeO.ite ?_ ?_
      | refine LeO.bind ?_ (fun _ => ?_)
set_option maxHeartbeats 8000000 in
set_option maxRecDepth 100000 in
theorem surveyorref19_Rem.calls (k : Nat) (a0 : Int) (a1 : Int) (r1 : Int) (r2 : Int) (w : World) (h : surveyorref19_Rem.f k a0 a1 = some (r1, r2)) :
    Calls Try.prog 15 #[.int .i64 a0, .int .i64 a1] w fun e w' => e = .returned (.tuple #[.int .i64 r1, .int .i64 r2]) ∧ Drawn0 w w' := by
  have H : ((surveyorref19_signs.f k 4 a0 a1).bind fun bt150 => (some (bt150.1, bt150.2))) = some (r1, r2) := h
  clear h
  replace H := Option.bind_eq_some_iff.mp H
  obtain ⟨⟨t150, t151⟩, A30, H⟩ := H
  replace H : (some (t150, t151)) = some (r1, r2) := H
  have A3 := Aside0.mk A30
  clear A30
  simp only [Option.some.injEq, Prod.mk.injEq] at H
  obtain ⟨rfl, rfl⟩ := H
  go_enter Try.func15, Try.ntmps15
  go_wp2_with (first | ((with_reducible refine gate_callee (f := 35) rfl ?_); refine goesL_ (some 8) rfl rfl Try.func35 (by kernel_rfl) rfl #[.int .i64 4, .int .i64 a0, .int .i64 a1] rfl (by (try simp only [List.map_toArray, List.map_cons, List.map_nil]); first | done | rfl | (simp only [List.length_drop, List.length_take]; rfl)) ?_; (with_reducible refine (surveyorref19_signs.calls k 4 a0 a1 t150 t151 _ A3.out).mono ?_); rintro e w' ⟨rfl, ⟨nd, rfl⟩⟩; refine ⟨_, rfl, ?_⟩))
  go_ret2
  exact ⟨by first | rfl | (simp; done) | (simp [*]; done), by repeat (first | exact Drawn0.refl _ | apply Drawn0.step)⟩

/-! ### surveyorlaw19_SignComputes: function 4 -/
def surveyorlaw19_SignComputes.l0 : Nat → Int → Int → Int → Option (Bool)
  | 0, _, _, _ => none
  | k + 1, x0, x1, x10 => if x10 < 5 then ((surveyorlaw19_apply.f x10 x0 x1).bind fun bt153 => (if x10 = 0 then ((surveyorref19_Add.f k x0 x1).bind fun bt155 => (if bt153.1 = bt155.1 then (if bt153.2 = bt155.2 then (surveyorlaw19_SignComputes.l0 k x0 x1 ((x10 + 1) % 256)) else (some false)) else (some false))) else (if x10 = 1 then ((surveyorref19_Sub.f k x0 x1).bind fun bt157 => (if bt153.1 = bt157.1 then (if bt153.2 = bt157.2 then (surveyorlaw19_SignComputes.l0 k x0 x1 ((x10 + 1) % 256)) else (some false)) else (some false))) else (if x10 = 2 then ((surveyorref19_Mul.f k x0 x1).bind fun bt159 => (if bt153.1 = bt159.1 then (if bt153.2 = bt159.2 then (surveyorlaw19_SignComputes.l0 k x0 x1 ((x10 + 1) % 256)) else (some false)) else (some false))) else (if x10 = 3 then ((surveyorref19_Quo.f k x0 x1).bind fun bt161 => (if bt153.1 = bt161.1 then (if bt153.2 = bt161.2 then (surveyorlaw19_SignComputes.l0 k x0 x1 ((x10 + 1) % 256)) else (some false)) else (some false))) else ((surveyorref19_Rem.f k x0 x1).bind fun bt163 => (if bt153.1 = bt163.1 then (if bt153.2 = bt163.2 then (surveyorlaw19_SignComputes.l0 k x0 x1 ((x10 + 1) % 256)) else (some false)) else (some false)))))))) else ((surveyorlaw19_awake.f k).bind fun t152 => (some t152))
def surveyorlaw19_SignComputes.f (k : Nat) (a0 : Int) (a1 : Int) : Option (Bool) := surveyorlaw19_SignComputes.l0 k a0 a1 0
theorem surveyorlaw19_SignComputes.mono_l : ∀ k, (∀ y0 y1 y2, LeO (surveyorlaw19_SignComputes.l0 k y0 y1 y2) (surveyorlaw19_SignComputes.l0 (k + 1) y0 y1 y2))
  | 0 => fun _ _ _ r h => by simp [surveyorlaw19_SignComputes.l0] at h
  | k + 1 => by
    have ih0 := surveyorlaw19_SignComputes.mono_l k
    · intro y0 y1 y2
      unfold surveyorlaw19_SignComputes.l0
      repeat' first
      | (with_reducible exact ih0 _ _ _)
      | (with_reducible exact surveyorlaw19_awake.mono _)
      | (with_reducible exact surveyorref19_Add.mono _ _ _)
      | (with_reducible exact surveyorref19_Mul.mono _ _ _)
      | (with_reducible exact surveyorref19_Quo.mono _ _ _)
      | (with_reducible exact surveyorref19_Rem.mono _ _ _)
      | (with_reducible exact surveyorref19_Sub.mono _ _ _)
      | (with_reducible exact LeO.refl _)
      | (with_reducible exact LeO.none _)
      | (with_reducible refine LeO.ite ?_ ?_)
      | (with_reducible refine LeO.bind ?_ (fun _ => ?_))
      | exact ih0 _ _ _
      | exact surveyorlaw19_awake.mono _
      | exact surveyorref19_Add.mono _ _ _
      | exact surveyorref19_Mul.mono _ _ _
      | exact surveyorref19_Quo.mono _ _ _
      | exact surveyorref19_Rem.mono _ _ _
      | exact surveyorref19_Sub.mono _ _ _
      | exact LeO.none _
      | refine LeO.ite ?_ ?_
      | refine LeO.bind ?_ (fun _ => ?_)
theorem surveyorlaw19_SignComputes.mono : ∀ a0 a1 k, LeO (surveyorlaw19_SignComputes.f k a0 a1) (surveyorlaw19_SignComputes.f (k + 1) a0 a1) := by
  intro a0 a1 k
  have ih0 := surveyorlaw19_SignComputes.mono_l k
  unfold surveyorlaw19_SignComputes.f
  repeat' first
      | (with_reducible exact ih0 _ _ _)
      | (with_reducible exact surveyorlaw19_awake.mono _)
      | (with_reducible exact surveyorref19_Add.mono _ _ _)
      | (with_reducible exact surveyorref19_Mul.mono _ _ _)
      | (with_reducible exact surveyorref19_Quo.mono _ _ _)
      | (with_reducible exact surveyorref19_Rem.mono _ _ _)
      | (with_reducible exact surveyorref19_Sub.mono _ _ _)
      | (with_reducible exact LeO.refl _)
      | (with_reducible exact LeO.none _)
      | (with_reducible refine LeO.ite ?_ ?_)
      | (with_reducible refine LeO.bind ?_ (fun _ => ?_))
      | exact ih0 _ _ _
      | exact surveyorlaw19_awake.mono _
      | exact surveyorref19_Add.mono _ _ _
      | exact surveyorref19_Mul.mono _ _ _
      | exact surveyorref19_Quo.mono _ _ _
      | exact surveyorref19_Rem.mono _ _ _
      | exact surveyorref19_Sub.mono _ _ _
      | exact LeO.none _
      | refine LeO.ite ?_ ?_
      | refine LeO.bind ?_ (fun _ => ?_)
set_option maxHeartbeats 8000000 in
set_option maxRecDepth 100000 in
theorem surveyorlaw19_SignComputes.calls (k : Nat) (a0 : Int) (a1 : Int) (r : Bool) (w : World) (h : surveyorlaw19_SignComputes.f k a0 a1 = some r) :
    Calls Try.prog 4 #[.int .i64 a0, .int .i64 a1] w fun e w' => e = .returned (.bool r) ∧ Below w.heap.size w w' := by
  have HB := Aside0.mk (Below.refl w.heap.size w)
  have H : (surveyorlaw19_SignComputes.l0 k a0 a1 0) = some r := h
  clear h
  have H' := Aside0.mk H
  clear H
  go_enter Try.func4, Try.ntmps4
  go_wp2
  go_loopg [10] k (fun kq v10 w' => ∃ (x10_1 : Int), v10 = .int .u8 x10_1 ∧ Aside0 (surveyorlaw19_SignComputes.l0 kq a0 a1 x10_1 = some r) ∧ Aside0 (kq ≤ k) ∧ Aside0 (Below w.heap.size w w'))
  case atStart => exact ⟨(0), (by first | rfl | (simp; done) | (simp [*]; done)), H', ⟨Nat.le_refl _⟩, ⟨by repeat (first | (with_reducible first | exact HB.out | apply below_alloc | apply pw_below_drewN | apply below_drew1) | exact HB.out)⟩⟩
  case round =>
    clear H'
    try clear p2
    obtain ⟨x10_1, rfl, HA, HK1, HB⟩ := hrel
    cases gk with
    | zero => exact absurd HA.out (by simp [surveyorlaw19_SignComputes.l0])
    | succ k1 =>
      have H := HA.out
      clear HA
      simp only [surveyorlaw19_SignComputes.l0] at H
      by_cases c3 : x10_1 < 5
      · rw [if_pos c3] at H
        have c3b0 : decide (x10_1 < 5) = true := decide_eq_true c3
        clear c3
        replace H := Option.bind_eq_some_iff.mp H
        obtain ⟨⟨t153, t154⟩, A40, H⟩ := H
        replace H : (if x10_1 = 0 then ((surveyorref19_Add.f k1 a0 a1).bind fun bt155 => (if t153 = bt155.1 then (if t154 = bt155.2 then (surveyorlaw19_SignComputes.l0 k1 a0 a1 ((x10_1 + 1) % 256)) else (some false)) else (some false))) else (if x10_1 = 1 then ((surveyorref19_Sub.f k1 a0 a1).bind fun bt157 => (if t153 = bt157.1 then (if t154 = bt157.2 then (surveyorlaw19_SignComputes.l0 k1 a0 a1 ((x10_1 + 1) % 256)) else (some false)) else (some false))) else (if x10_1 = 2 then ((surveyorref19_Mul.f k1 a0 a1).bind fun bt159 => (if t153 = bt159.1 then (if t154 = bt159.2 then (surveyorlaw19_SignComputes.l0 k1 a0 a1 ((x10_1 + 1) % 256)) else (some false)) else (some false))) else (if x10_1 = 3 then ((surveyorref19_Quo.f k1 a0 a1).bind fun bt161 => (if t153 = bt161.1 then (if t154 = bt161.2 then (surveyorlaw19_SignComputes.l0 k1 a0 a1 ((x10_1 + 1) % 256)) else (some false)) else (some false))) else ((surveyorref19_Rem.f k1 a0 a1).bind fun bt163 => (if t153 = bt163.1 then (if t154 = bt163.2 then (surveyorlaw19_SignComputes.l0 k1 a0 a1 ((x10_1 + 1) % 256)) else (some false)) else (some false))))))) = some r := H
        have A4 := Aside0.mk A40
        clear A40
        by_cases c5 : x10_1 = 0
        · rw [if_pos c5] at H
          have c5b0 : (x10_1 == 0) = true := beq_iff_eq.mpr c5
          have c5b1 : (x10_1 != 0) = false := bne_eq_false_iff_eq.mpr c5
          clear c5
          replace H := Option.bind_eq_some_iff.mp H
          obtain ⟨⟨t155, t156⟩, A60, H⟩ := H
          replace H : (if t153 = t155 then (if t154 = t156 then (surveyorlaw19_SignComputes.l0 k1 a0 a1 ((x10_1 + 1) % 256)) else (some false)) else (some false)) = some r := H
          have A6 := Aside0.mk A60
          clear A60
          by_cases c7 : t153 = t155
          · rw [if_pos c7] at H
            have c7b0 : (t153 == t155) = true := beq_iff_eq.mpr c7
            have c7b1 : (t153 != t155) = false := bne_eq_false_iff_eq.mpr c7
            clear c7
            by_cases c8 : t154 = t156
            · rw [if_pos c8] at H
              have c8b0 : (t154 == t156) = true := beq_iff_eq.mpr c8
              have c8b1 : (t154 != t156) = false := bne_eq_false_iff_eq.mpr c8
              clear c8
              have H' := Aside0.mk H
              clear H
              go_wp2_with (first | ((with_reducible refine gate_callee (f := 10) rfl ?_); refine goesL_ (some 17) rfl rfl Try.func10 (by kernel_rfl) rfl #[.int .u8 x10_1, .int .i64 a0, .int .i64 a1] rfl (by (try simp only [List.map_toArray, List.map_cons, List.map_nil]); first | done | rfl | (simp only [List.length_drop, List.length_take]; rfl)) ?_; (with_reducible refine (surveyorlaw19_apply.calls x10_1 a0 a1 t153 t154 _ A4.out).mono ?_); rintro e w9 ⟨rfl, hb⟩; refine ⟨_, rfl, ?_⟩; have n0_ := Aside0.mk (below_step (by repeat (first | (with_reducible first | exact HB.out | apply below_alloc | apply pw_below_drewN | apply below_drew1) | exact HB.out)) hb); clear HB; have HB := n0_; clear n0_; (try clear hb); (try clear hb2); (try clear hk); (try clear hi)) | ((with_reducible refine gate_callee (f := 11) rfl ?_); refine goesL_ (some 32) rfl rfl Try.func11 (by kernel_rfl) rfl #[.int .i64 a0, .int .i64 a1] rfl (by (try simp only [List.map_toArray, List.map_cons, List.map_nil]); first | done | rfl | (simp only [List.length_drop, List.length_take]; rfl)) ?_; (with_reducible refine (surveyorref19_Add.calls k1 a0 a1 t155 t156 _ A6.out).mono ?_); rintro e w' ⟨rfl, ⟨nd, rfl⟩⟩; refine ⟨_, rfl, ?_⟩))
              go_roundg k1
              case measure => have := HK1.out; omega
              case rel => exact ⟨((x10_1 + 1) % 256), (by first | rfl | (simp; done) | (simp [*]; done)), H', ⟨by have := HK1.out; omega⟩, ⟨by repeat (first | (with_reducible first | exact HB.out | apply below_alloc | apply pw_below_drewN | apply below_drew1) | exact HB.out)⟩⟩
            · rw [if_neg c8] at H
              have c8b0 : (t154 == t156) = false := beq_eq_false_iff_ne.mpr c8
              have c8b1 : (t154 != t156) = true := bne_iff_ne.mpr c8
              obtain rfl := Option.some.inj H
              go_wp2_with (first | ((with_reducible refine gate_callee (f := 10) rfl ?_); refine goesL_ (some 17) rfl rfl Try.func10 (by kernel_rfl) rfl #[.int .u8 x10_1, .int .i64 a0, .int .i64 a1] rfl (by (try simp only [List.map_toArray, List.map_cons, List.map_nil]); first | done | rfl | (simp only [List.length_drop, List.length_take]; rfl)) ?_; (with_reducible refine (surveyorlaw19_apply.calls x10_1 a0 a1 t153 t154 _ A4.out).mono ?_); rintro e w10 ⟨rfl, hb⟩; refine ⟨_, rfl, ?_⟩; have n0_ := Aside0.mk (below_step (by repeat (first | (with_reducible first | exact HB.out | apply below_alloc | apply pw_below_drewN | apply below_drew1) | exact HB.out)) hb); clear HB; have HB := n0_; clear n0_; (try clear hb); (try clear hb2); (try clear hk); (try clear hi)) | ((with_reducible refine gate_callee (f := 11) rfl ?_); refine goesL_ (some 32) rfl rfl Try.func11 (by kernel_rfl) rfl #[.int .i64 a0, .int .i64 a1] rfl (by (try simp only [List.map_toArray, List.map_cons, List.map_nil]); first | done | rfl | (simp only [List.length_drop, List.length_take]; rfl)) ?_; (with_reducible refine (surveyorref19_Add.calls k1 a0 a1 t155 t156 _ A6.out).mono ?_); rintro e w' ⟨rfl, ⟨nd, rfl⟩⟩; refine ⟨_, rfl, ?_⟩))
              go_ret
              exact ⟨by first | rfl | (simp [errW_none, errW_some] <;> rfl) | (simp [*, errW_none, errW_some] <;> rfl), by repeat (first | (with_reducible first | exact HB.out | apply below_alloc | apply pw_below_drewN | apply below_drew1) | exact HB.out)⟩
          · rw [if_neg c7] at H
            have c7b0 : (t153 == t155) = false := beq_eq_false_iff_ne.mpr c7
            have c7b1 : (t153 != t155) = true := bne_iff_ne.mpr c7
            obtain rfl := Option.some.inj H
            go_wp2_with (first | ((with_reducible refine gate_callee (f := 10) rfl ?_); refine goesL_ (some 17) rfl rfl Try.func10 (by kernel_rfl) rfl #[.int .u8 x10_1, .int .i64 a0, .int .i64 a1] rfl (by (try simp only [List.map_toArray, List.map_cons, List.map_nil]); first | done | rfl | (simp only [List.length_drop, List.length_take]; rfl)) ?_; (with_reducible refine (surveyorlaw19_apply.calls x10_1 a0 a1 t153 t154 _ A4.out).mono ?_); rintro e w11 ⟨rfl, hb⟩; refine ⟨_, rfl, ?_⟩; have n0_ := Aside0.mk (below_step (by repeat (first | (with_reducible first | exact HB.out | apply below_alloc | apply pw_below_drewN | apply below_drew1) | exact HB.out)) hb); clear HB; have HB := n0_; clear n0_; (try clear hb); (try clear hb2); (try clear hk); (try clear hi)) | ((with_reducible refine gate_callee (f := 11) rfl ?_); refine goesL_ (some 32) rfl rfl Try.func11 (by kernel_rfl) rfl #[.int .i64 a0, .int .i64 a1] rfl (by (try simp only [List.map_toArray, List.map_cons, List.map_nil]); first | done | rfl | (simp only [List.length_drop, List.length_take]; rfl)) ?_; (with_reducible refine (surveyorref19_Add.calls k1 a0 a1 t155 t156 _ A6.out).mono ?_); rintro e w' ⟨rfl, ⟨nd, rfl⟩⟩; refine ⟨_, rfl, ?_⟩))
            go_ret
            exact ⟨by first | rfl | (simp [errW_none, errW_some] <;> rfl) | (simp [*, errW_none, errW_some] <;> rfl), by repeat (first | (with_reducible first | exact HB.out | apply below_alloc | apply pw_below_drewN | apply below_drew1) | exact HB.out)⟩
        · rw [if_neg c5] at H
          have c5b0 : (x10_1 == 0) = false := beq_eq_false_iff_ne.mpr c5
          have c5b1 : (x10_1 != 0) = true := bne_iff_ne.mpr c5
          by_cases c12 : x10_1 = 1
          · rw [if_pos c12] at H
            have c12b0 : (x10_1 == 1) = true := beq_iff_eq.mpr c12
            have c12b1 : (x10_1 != 1) = false := bne_eq_false_iff_eq.mpr c12
            clear c12
            replace H := Option.bind_eq_some_iff.mp H
            obtain ⟨⟨t157, t158⟩, A130, H⟩ := H
            replace H : (if t153 = t157 then (if t154 = t158 then (surveyorlaw19_SignComputes.l0 k1 a0 a1 ((x10_1 + 1) % 256)) else (some false)) else (some false)) = some r := H
            have A13 := Aside0.mk A130
            clear A130
            by_cases c14 : t153 = t157
            · rw [if_pos c14] at H
              have c14b0 : (t153 == t157) = true := beq_iff_eq.mpr c14
              have c14b1 : (t153 != t157) = false := bne_eq_false_iff_eq.mpr c14
              clear c14
              by_cases c15 : t154 = t158
              · rw [if_pos c15] at H
                have c15b0 : (t154 == t158) = true := beq_iff_eq.mpr c15
                have c15b1 : (t154 != t158) = false := bne_eq_false_iff_eq.mpr c15
                clear c15
                have H' := Aside0.mk H
                clear H
                go_wp2_with (first | ((with_reducible refine gate_callee (f := 10) rfl ?_); refine goesL_ (some 17) rfl rfl Try.func10 (by kernel_rfl) rfl #[.int .u8 x10_1, .int .i64 a0, .int .i64 a1] rfl (by (try simp only [List.map_toArray, List.map_cons, List.map_nil]); first | done | rfl | (simp only [List.length_drop, List.length_take]; rfl)) ?_; (with_reducible refine (surveyorlaw19_apply.calls x10_1 a0 a1 t153 t154 _ A4.out).mono ?_); rintro e w16 ⟨rfl, hb⟩; refine ⟨_, rfl, ?_⟩; have n0_ := Aside0.mk (below_step (by repeat (first | (with_reducible first | exact HB.out | apply below_alloc | apply pw_below_drewN | apply below_drew1) | exact HB.out)) hb); clear HB; have HB := n0_; clear n0_; (try clear hb); (try clear hb2); (try clear hk); (try clear hi)) | ((with_reducible refine gate_callee (f := 12) rfl ?_); refine goesL_ (some 40) rfl rfl Try.func12 (by kernel_rfl) rfl #[.int .i64 a0, .int .i64 a1] rfl (by (try simp only [List.map_toArray, List.map_cons, List.map_nil]); first | done | rfl | (simp only [List.length_drop, List.length_take]; rfl)) ?_; (with_reducible refine (surveyorref19_Sub.calls k1 a0 a1 t157 t158 _ A13.out).mono ?_); rintro e w' ⟨rfl, ⟨nd, rfl⟩⟩; refine ⟨_, rfl, ?_⟩))
                go_roundg k1
                case measure => have := HK1.out; omega
                case rel => exact ⟨((x10_1 + 1) % 256), (by first | rfl | (simp; done) | (simp [*]; done)), H', ⟨by have := HK1.out; omega⟩, ⟨by repeat (first | (with_reducible first | exact HB.out | apply below_alloc | apply pw_below_drewN | apply below_drew1) | exact HB.out)⟩⟩
              · rw [if_neg c15] at H
                have c15b0 : (t154 == t158) = false := beq_eq_false_iff_ne.mpr c15
                have c15b1 : (t154 != t158) = true := bne_iff_ne.mpr c15
                obtain rfl := Option.some.inj H
                go_wp2_with (first | ((with_reducible refine gate_callee (f := 10) rfl ?_); refine goesL_ (some 17) rfl rfl Try.func10 (by kernel_rfl) rfl #[.int .u8 x10_1, .int .i64 a0, .int .i64 a1] rfl (by (try simp only [List.map_toArray, List.map_cons, List.map_nil]); first | done | rfl | (simp only [List.length_drop, List.length_take]; rfl)) ?_; (with_reducible refine (surveyorlaw19_apply.calls x10_1 a0 a1 t153 t154 _ A4.out).mono ?_); rintro e w17 ⟨rfl, hb⟩; refine ⟨_, rfl, ?_⟩; have n0_ := Aside0.mk (below_step (by repeat (first | (with_reducible first | exact HB.out | apply below_alloc | apply pw_below_drewN | apply below_drew1) | exact HB.out)) hb); clear HB; have HB := n0_; clear n0_; (try clear hb); (try clear hb2); (try clear hk); (try clear hi)) | ((with_reducible refine gate_callee (f := 12) rfl ?_); refine goesL_ (some 40) rfl rfl Try.func12 (by kernel_rfl) rfl #[.int .i64 a0, .int .i64 a1] rfl (by (try simp only [List.map_toArray, List.map_cons, List.map_nil]); first | done | rfl | (simp only [List.length_drop, List.length_take]; rfl)) ?_; (with_reducible refine (surveyorref19_Sub.calls k1 a0 a1 t157 t158 _ A13.out).mono ?_); rintro e w' ⟨rfl, ⟨nd, rfl⟩⟩; refine ⟨_, rfl, ?_⟩))
                go_ret
                exact ⟨by first | rfl | (simp [errW_none, errW_some] <;> rfl) | (simp [*, errW_none, errW_some] <;> rfl), by repeat (first | (with_reducible first | exact HB.out | apply below_alloc | apply pw_below_drewN | apply below_drew1) | exact HB.out)⟩
            · rw [if_neg c14] at H
              have c14b0 : (t153 == t157) = false := beq_eq_false_iff_ne.mpr c14
              have c14b1 : (t153 != t157) = true := bne_iff_ne.mpr c14
              obtain rfl := Option.some.inj H
              go_wp2_with (first | ((with_reducible refine gate_callee (f := 10) rfl ?_); refine goesL_ (some 17) rfl rfl Try.func10 (by kernel_rfl) rfl #[.int .u8 x10_1, .int .i64 a0, .int .i64 a1] rfl (by (try simp only [List.map_toArray, List.map_cons, List.map_nil]); first | done | rfl | (simp only [List.length_drop, List.length_take]; rfl)) ?_; (with_reducible refine (surveyorlaw19_apply.calls x10_1 a0 a1 t153 t154 _ A4.out).mono ?_); rintro e w18 ⟨rfl, hb⟩; refine ⟨_, rfl, ?_⟩; have n0_ := Aside0.mk (below_step (by repeat (first | (with_reducible first | exact HB.out | apply below_alloc | apply pw_below_drewN | apply below_drew1) | exact HB.out)) hb); clear HB; have HB := n0_; clear n0_; (try clear hb); (try clear hb2); (try clear hk); (try clear hi)) | ((with_reducible refine gate_callee (f := 12) rfl ?_); refine goesL_ (some 40) rfl rfl Try.func12 (by kernel_rfl) rfl #[.int .i64 a0, .int .i64 a1] rfl (by (try simp only [List.map_toArray, List.map_cons, List.map_nil]); first | done | rfl | (simp only [List.length_drop, List.length_take]; rfl)) ?_; (with_reducible refine (surveyorref19_Sub.calls k1 a0 a1 t157 t158 _ A13.out).mono ?_); rintro e w' ⟨rfl, ⟨nd, rfl⟩⟩; refine ⟨_, rfl, ?_⟩))
              go_ret
              exact ⟨by first | rfl | (simp [errW_none, errW_some] <;> rfl) | (simp [*, errW_none, errW_some] <;> rfl), by repeat (first | (with_reducible first | exact HB.out | apply below_alloc | apply pw_below_drewN | apply below_drew1) | exact HB.out)⟩
          · rw [if_neg c12] at H
            have c12b0 : (x10_1 == 1) = false := beq_eq_false_iff_ne.mpr c12
            have c12b1 : (x10_1 != 1) = true := bne_iff_ne.mpr c12
            by_cases c19 : x10_1 = 2
            · rw [if_pos c19] at H
              have c19b0 : (x10_1 == 2) = true := beq_iff_eq.mpr c19
              have c19b1 : (x10_1 != 2) = false := bne_eq_false_iff_eq.mpr c19
              clear c19
              replace H := Option.bind_eq_some_iff.mp H
              obtain ⟨⟨t159, t160⟩, A200, H⟩ := H
              replace H : (if t153 = t159 then (if t154 = t160 then (surveyorlaw19_SignComputes.l0 k1 a0 a1 ((x10_1 + 1) % 256)) else (some false)) else (some false)) = some r := H
              have A20 := Aside0.mk A200
              clear A200
              by_cases c21 : t153 = t159
              · rw [if_pos c21] at H
                have c21b0 : (t153 == t159) = true := beq_iff_eq.mpr c21
                have c21b1 : (t153 != t159) = false := bne_eq_false_iff_eq.mpr c21
                clear c21
                by_cases c22 : t154 = t160
                · rw [if_pos c22] at H
                  have c22b0 : (t154 == t160) = true := beq_iff_eq.mpr c22
                  have c22b1 : (t154 != t160) = false := bne_eq_false_iff_eq.mpr c22
                  clear c22
                  have H' := Aside0.mk H
                  clear H
                  go_wp2_with (first | ((with_reducible refine gate_callee (f := 10) rfl ?_); refine goesL_ (some 17) rfl rfl Try.func10 (by kernel_rfl) rfl #[.int .u8 x10_1, .int .i64 a0, .int .i64 a1] rfl (by (try simp only [List.map_toArray, List.map_cons, List.map_nil]); first | done | rfl | (simp only [List.length_drop, List.length_take]; rfl)) ?_; (with_reducible refine (surveyorlaw19_apply.calls x10_1 a0 a1 t153 t154 _ A4.out).mono ?_); rintro e w23 ⟨rfl, hb⟩; refine ⟨_, rfl, ?_⟩; have n0_ := Aside0.mk (below_step (by repeat (first | (with_reducible first | exact HB.out | apply below_alloc | apply pw_below_drewN | apply below_drew1) | exact HB.out)) hb); clear HB; have HB := n0_; clear n0_; (try clear hb); (try clear hb2); (try clear hk); (try clear hi)) | ((with_reducible refine gate_callee (f := 13) rfl ?_); refine goesL_ (some 48) rfl rfl Try.func13 (by kernel_rfl) rfl #[.int .i64 a0, .int .i64 a1] rfl (by (try simp only [List.map_toArray, List.map_cons, List.map_nil]); first | done | rfl | (simp only [List.length_drop, List.length_take]; rfl)) ?_; (with_reducible refine (surveyorref19_Mul.calls k1 a0 a1 t159 t160 _ A20.out).mono ?_); rintro e w' ⟨rfl, ⟨nd, rfl⟩⟩; refine ⟨_, rfl, ?_⟩))
                  go_roundg k1
                  case measure => have := HK1.out; omega
                  case rel => exact ⟨((x10_1 + 1) % 256), (by first | rfl | (simp; done) | (simp [*]; done)), H', ⟨by have := HK1.out; omega⟩, ⟨by repeat (first | (with_reducible first | exact HB.out | apply below_alloc | apply pw_below_drewN | apply below_drew1) | exact HB.out)⟩⟩
                · rw [if_neg c22] at H
                  have c22b0 : (t154 == t160) = false := beq_eq_false_iff_ne.mpr c22
                  have c22b1 : (t154 != t160) = true := bne_iff_ne.mpr c22
                  obtain rfl := Option.some.inj H
                  go_wp2_with (first | ((with_reducible refine gate_callee (f := 10) rfl ?_); refine goesL_ (some 17) rfl rfl Try.func10 (by kernel_rfl) rfl #[.int .u8 x10_1, .int .i64 a0, .int .i64 a1] rfl (by (try simp only [List.map_toArray, List.map_cons, List.map_nil]); first | done | rfl | (simp only [List.length_drop, List.length_take]; rfl)) ?_; (with_reducible refine (surveyorlaw19_apply.calls x10_1 a0 a1 t153 t154 _ A4.out).mono ?_); rintro e w24 ⟨rfl, hb⟩; refine ⟨_, rfl, ?_⟩; have n0_ := Aside0.mk (below_step (by repeat (first | (with_reducible first | exact HB.out | apply below_alloc | apply pw_below_drewN | apply below_drew1) | exact HB.out)) hb); clear HB; have HB := n0_; clear n0_; (try clear hb); (try clear hb2); (try clear hk); (try clear hi)) | ((with_reducible refine gate_callee (f := 13) rfl ?_); refine goesL_ (some 48) rfl rfl Try.func13 (by kernel_rfl) rfl #[.int .i64 a0, .int .i64 a1] rfl (by (try simp only [List.map_toArray, List.map_cons, List.map_nil]); first | done | rfl | (simp only [List.length_drop, List.length_take]; rfl)) ?_; (with_reducible refine (surveyorref19_Mul.calls k1 a0 a1 t159 t160 _ A20.out).mono ?_); rintro e w' ⟨rfl, ⟨nd, rfl⟩⟩; refine ⟨_, rfl, ?_⟩))
                  go_ret
                  exact ⟨by first | rfl | (simp [errW_none, errW_some] <;> rfl) | (simp [*, errW_none, errW_some] <;> rfl), by repeat (first | (with_reducible first | exact HB.out | apply below_alloc | apply pw_below_drewN | apply below_drew1) | exact HB.out)⟩
              · rw [if_neg c21] at H
                have c21b0 : (t153 == t159) = false := beq_eq_false_iff_ne.mpr c21
                have c21b1 : (t153 != t159) = true := bne_iff_ne.mpr c21
                obtain rfl := Option.some.inj H
                go_wp2_with (first | ((with_reducible refine gate_callee (f := 10) rfl ?_); refine goesL_ (some 17) rfl rfl Try.func10 (by kernel_rfl) rfl #[.int .u8 x10_1, .int .i64 a0, .int .i64 a1] rfl (by (try simp only [List.map_toArray, List.map_cons, List.map_nil]); first | done | rfl | (simp only [List.length_drop, List.length_take]; rfl)) ?_; (with_reducible refine (surveyorlaw19_apply.calls x10_1 a0 a1 t153 t154 _ A4.out).mono ?_); rintro e w25 ⟨rfl, hb⟩; refine ⟨_, rfl, ?_⟩; have n0_ := Aside0.mk (below_step (by repeat (first | (with_reducible first | exact HB.out | apply below_alloc | apply pw_below_drewN | apply below_drew1) | exact HB.out)) hb); clear HB; have HB := n0_; clear n0_; (try clear hb); (try clear hb2); (try clear hk); (try clear hi)) | ((with_reducible refine gate_callee (f := 13) rfl ?_); refine goesL_ (some 48) rfl rfl Try.func13 (by kernel_rfl) rfl #[.int .i64 a0, .int .i64 a1] rfl (by (try simp only [List.map_toArray, List.map_cons, List.map_nil]); first | done | rfl | (simp only [List.length_drop, List.length_take]; rfl)) ?_; (with_reducible refine (surveyorref19_Mul.calls k1 a0 a1 t159 t160 _ A20.out).mono ?_); rintro e w' ⟨rfl, ⟨nd, rfl⟩⟩; refine ⟨_, rfl, ?_⟩))
                go_ret
                exact ⟨by first | rfl | (simp [errW_none, errW_some] <;> rfl) | (simp [*, errW_none, errW_some] <;> rfl), by repeat (first | (with_reducible first | exact HB.out | apply below_alloc | apply pw_below_drewN | apply below_drew1) | exact HB.out)⟩
            · rw [if_neg c19] at H
              have c19b0 : (x10_1 == 2) = false := beq_eq_false_iff_ne.mpr c19
              have c19b1 : (x10_1 != 2) = true := bne_iff_ne.mpr c19
              by_cases c26 : x10_1 = 3
              · rw [if_pos c26] at H
                have c26b0 : (x10_1 == 3) = true := beq_iff_eq.mpr c26
                have c26b1 : (x10_1 != 3) = false := bne_eq_false_iff_eq.mpr c26
                clear c26
                replace H := Option.bind_eq_some_iff.mp H
                obtain ⟨⟨t161, t162⟩, A270, H⟩ := H
                replace H : (if t153 = t161 then (if t154 = t162 then (surveyorlaw19_SignComputes.l0 k1 a0 a1 ((x10_1 + 1) % 256)) else (some false)) else (some false)) = some r := H
                have A27 := Aside0.mk A270
                clear A270
                by_cases c28 : t153 = t161
                · rw [if_pos c28] at H
                  have c28b0 : (t153 == t161) = true := beq_iff_eq.mpr c28
                  have c28b1 : (t153 != t161) = false := bne_eq_false_iff_eq.mpr c28
                  clear c28
                  by_cases c29 : t154 = t162
                  · rw [if_pos c29] at H
                    have c29b0 : (t154 == t162) = true := beq_iff_eq.mpr c29
                    have c29b1 : (t154 != t162) = false := bne_eq_false_iff_eq.mpr c29
                    clear c29
                    have H' := Aside0.mk H
                    clear H
                    go_wp2_with (first | ((with_reducible refine gate_callee (f := 10) rfl ?_); refine goesL_ (some 17) rfl rfl Try.func10 (by kernel_rfl) rfl #[.int .u8 x10_1, .int .i64 a0, .int .i64 a1] rfl (by (try simp only [List.map_toArray, List.map_cons, List.map_nil]); first | done | rfl | (simp only [List.length_drop, List.length_take]; rfl)) ?_; (with_reducible refine (surveyorlaw19_apply.calls x10_1 a0 a1 t153 t154 _ A4.out).mono ?_); rintro e w30 ⟨rfl, hb⟩; refine ⟨_, rfl, ?_⟩; have n0_ := Aside0.mk (below_step (by repeat (first | (with_reducible first | exact HB.out | apply below_alloc | apply pw_below_drewN | apply below_drew1) | exact HB.out)) hb); clear HB; have HB := n0_; clear n0_; (try clear hb); (try clear hb2); (try clear hk); (try clear hi)) | ((with_reducible refine gate_callee (f := 14) rfl ?_); refine goesL_ (some 56) rfl rfl Try.func14 (by kernel_rfl) rfl #[.int .i64 a0, .int .i64 a1] rfl (by (try simp only [List.map_toArray, List.map_cons, List.map_nil]); first | done | rfl | (simp only [List.length_drop, List.length_take]; rfl)) ?_; (with_reducible refine (surveyorref19_Quo.calls k1 a0 a1 t161 t162 _ A27.out).mono ?_); rintro e w' ⟨rfl, ⟨nd, rfl⟩⟩; refine ⟨_, rfl, ?_⟩))
                    go_roundg k1
                    case measure => have := HK1.out; omega
                    case rel => exact ⟨((x10_1 + 1) % 256), (by first | rfl | (simp; done) | (simp [*]; done)), H', ⟨by have := HK1.out; omega⟩, ⟨by repeat (first | (with_reducible first | exact HB.out | apply below_alloc | apply pw_below_drewN | apply below_drew1) | exact HB.out)⟩⟩
                  · rw [if_neg c29] at H
                    have c29b0 : (t154 == t162) = false := beq_eq_false_iff_ne.mpr c29
                    have c29b1 : (t154 != t162) = true := bne_iff_ne.mpr c29
                    obtain rfl := Option.some.inj H
                    go_wp2_with (first | ((with_reducible refine gate_callee (f := 10) rfl ?_); refine goesL_ (some 17) rfl rfl Try.func10 (by kernel_rfl) rfl #[.int .u8 x10_1, .int .i64 a0, .int .i64 a1] rfl (by (try simp only [List.map_toArray, List.map_cons, List.map_nil]); first | done | rfl | (simp only [List.length_drop, List.length_take]; rfl)) ?_; (with_reducible refine (surveyorlaw19_apply.calls x10_1 a0 a1 t153 t154 _ A4.out).mono ?_); rintro e w31 ⟨rfl, hb⟩; refine ⟨_, rfl, ?_⟩; have n0_ := Aside0.mk (below_step (by repeat (first | (with_reducible first | exact HB.out | apply below_alloc | apply pw_below_drewN | apply below_drew1) | exact HB.out)) hb); clear HB; have HB := n0_; clear n0_; (try clear hb); (try clear hb2); (try clear hk); (try clear hi)) | ((with_reducible refine gate_callee (f := 14) rfl ?_); refine goesL_ (some 56) rfl rfl Try.func14 (by kernel_rfl) rfl #[.int .i64 a0, .int .i64 a1] rfl (by (try simp only [List.map_toArray, List.map_cons, List.map_nil]); first | done | rfl | (simp only [List.length_drop, List.length_take]; rfl)) ?_; (with_reducible refine (surveyorref19_Quo.calls k1 a0 a1 t161 t162 _ A27.out).mono ?_); rintro e w' ⟨rfl, ⟨nd, rfl⟩⟩; refine ⟨_, rfl, ?_⟩))
                    go_ret
                    exact ⟨by first | rfl | (simp [errW_none, errW_some] <;> rfl) | (simp [*, errW_none, errW_some] <;> rfl), by repeat (first | (with_reducible first | exact HB.out | apply below_alloc | apply pw_below_drewN | apply below_drew1) | exact HB.out)⟩
                · rw [if_neg c28] at H
                  have c28b0 : (t153 == t161) = false := beq_eq_false_iff_ne.mpr c28
                  have c28b1 : (t153 != t161) = true := bne_iff_ne.mpr c28
                  obtain rfl := Option.some.inj H
                  go_wp2_with (first | ((with_reducible refine gate_callee (f := 10) rfl ?_); refine goesL_ (some 17) rfl rfl Try.func10 (by kernel_rfl) rfl #[.int .u8 x10_1, .int .i64 a0, .int .i64 a1] rfl (by (try simp only [List.map_toArray, List.map_cons, List.map_nil]); first | done | rfl | (simp only [List.length_drop, List.length_take]; rfl)) ?_; (with_reducible refine (surveyorlaw19_apply.calls x10_1 a0 a1 t153 t154 _ A4.out).mono ?_); rintro e w32 ⟨rfl, hb⟩; refine ⟨_, rfl, ?_⟩; have n0_ := Aside0.mk (below_step (by repeat (first | (with_reducible first | exact HB.out | apply below_alloc | apply pw_below_drewN | apply below_drew1) | exact HB.out)) hb); clear HB; have HB := n0_; clear n0_; (try clear hb); (try clear hb2); (try clear hk); (try clear hi)) | ((with_reducible refine gate_callee (f := 14) rfl ?_); refine goesL_ (some 56) rfl rfl Try.func14 (by kernel_rfl) rfl #[.int .i64 a0, .int .i64 a1] rfl (by (try simp only [List.map_toArray, List.map_cons, List.map_nil]); first | done | rfl | (simp only [List.length_drop, List.length_take]; rfl)) ?_; (with_reducible refine (surveyorref19_Quo.calls k1 a0 a1 t161 t162 _ A27.out).mono ?_); rintro e w' ⟨rfl, ⟨nd, rfl⟩⟩; refine ⟨_, rfl, ?_⟩))
                  go_ret
                  exact ⟨by first | rfl | (simp [errW_none, errW_some] <;> rfl) | (simp [*, errW_none, errW_some] <;> rfl), by repeat (first | (with_reducible first | exact HB.out | apply below_alloc | apply pw_below_drewN | apply below_drew1) | exact HB.out)⟩
              · rw [if_neg c26] at H
                have c26b0 : (x10_1 == 3) = false := beq_eq_false_iff_ne.mpr c26
                have c26b1 : (x10_1 != 3) = true := bne_iff_ne.mpr c26
                replace H := Option.bind_eq_some_iff.mp H
                obtain ⟨⟨t163, t164⟩, A330, H⟩ := H
                replace H : (if t153 = t163 then (if t154 = t164 then (surveyorlaw19_SignComputes.l0 k1 a0 a1 ((x10_1 + 1) % 256)) else (some false)) else (some false)) = some r := H
                have A33 := Aside0.mk A330
                clear A330
                by_cases c34 : t153 = t163
                · rw [if_pos c34] at H
                  have c34b0 : (t153 == t163) = true := beq_iff_eq.mpr c34
                  have c34b1 : (t153 != t163) = false := bne_eq_false_iff_eq.mpr c34
                  clear c34
                  by_cases c35 : t154 = t164
                  · rw [if_pos c35] at H
                    have c35b0 : (t154 == t164) = true := beq_iff_eq.mpr c35
                    have c35b1 : (t154 != t164) = false := bne_eq_false_iff_eq.mpr c35
                    clear c35
                    have H' := Aside0.mk H
                    clear H
                    go_wp2_with (first | ((with_reducible refine gate_callee (f := 10) rfl ?_); refine goesL_ (some 17) rfl rfl Try.func10 (by kernel_rfl) rfl #[.int .u8 x10_1, .int .i64 a0, .int .i64 a1] rfl (by (try simp only [List.map_toArray, List.map_cons, List.map_nil]); first | done | rfl | (simp only [List.length_drop, List.length_take]; rfl)) ?_; (with_reducible refine (surveyorlaw19_apply.calls x10_1 a0 a1 t153 t154 _ A4.out).mono ?_); rintro e w36 ⟨rfl, hb⟩; refine ⟨_, rfl, ?_⟩; have n0_ := Aside0.mk (below_step (by repeat (first | (with_reducible first | exact HB.out | apply below_alloc | apply pw_below_drewN | apply below_drew1) | exact HB.out)) hb); clear HB; have HB := n0_; clear n0_; (try clear hb); (try clear hb2); (try clear hk); (try clear hi)) | ((with_reducible refine gate_callee (f := 15) rfl ?_); refine goesL_ (some 24) rfl rfl Try.func15 (by kernel_rfl) rfl #[.int .i64 a0, .int .i64 a1] rfl (by (try simp only [List.map_toArray, List.map_cons, List.map_nil]); first | done | rfl | (simp only [List.length_drop, List.length_take]; rfl)) ?_; (with_reducible refine (surveyorref19_Rem.calls k1 a0 a1 t163 t164 _ A33.out).mono ?_); rintro e w' ⟨rfl, ⟨nd, rfl⟩⟩; refine ⟨_, rfl, ?_⟩))
                    go_roundg k1
                    case measure => have := HK1.out; omega
                    case rel => exact ⟨((x10_1 + 1) % 256), (by first | rfl | (simp; done) | (simp [*]; done)), H', ⟨by have := HK1.out; omega⟩, ⟨by repeat (first | (with_reducible first | exact HB.out | apply below_alloc | apply pw_below_drewN | apply below_drew1) | exact HB.out)⟩⟩
                  · rw [if_neg c35] at H
                    have c35b0 : (t154 == t164) = false := beq_eq_false_iff_ne.mpr c35
                    have c35b1 : (t154 != t164) = true := bne_iff_ne.mpr c35
                    obtain rfl := Option.some.inj H
                    go_wp2_with (first | ((with_reducible refine gate_callee (f := 10) rfl ?_); refine goesL_ (some 17) rfl rfl Try.func10 (by kernel_rfl) rfl #[.int .u8 x10_1, .int .i64 a0, .int .i64 a1] rfl (by (try simp only [List.map_toArray, List.map_cons, List.map_nil]); first | done | rfl | (simp only [List.length_drop, List.length_take]; rfl)) ?_; (with_reducible refine (surveyorlaw19_apply.calls x10_1 a0 a1 t153 t154 _ A4.out).mono ?_); rintro e w37 ⟨rfl, hb⟩; refine ⟨_, rfl, ?_⟩; have n0_ := Aside0.mk (below_step (by repeat (first | (with_reducible first | exact HB.out | apply below_alloc | apply pw_below_drewN | apply below_drew1) | exact HB.out)) hb); clear HB; have HB := n0_; clear n0_; (try clear hb); (try clear hb2); (try clear hk); (try clear hi)) | ((with_reducible refine gate_callee (f := 15) rfl ?_); refine goesL_ (some 24) rfl rfl Try.func15 (by kernel_rfl) rfl #[.int .i64 a0, .int .i64 a1] rfl (by (try simp only [List.map_toArray, List.map_cons, List.map_nil]); first | done | rfl | (simp only [List.length_drop, List.length_take]; rfl)) ?_; (with_reducible refine (surveyorref19_Rem.calls k1 a0 a1 t163 t164 _ A33.out).mono ?_); rintro e w' ⟨rfl, ⟨nd, rfl⟩⟩; refine ⟨_, rfl, ?_⟩))
                    go_ret
                    exact ⟨by first | rfl | (simp [errW_none, errW_some] <;> rfl) | (simp [*, errW_none, errW_some] <;> rfl), by repeat (first | (with_reducible first | exact HB.out | apply below_alloc | apply pw_below_drewN | apply below_drew1) | exact HB.out)⟩
                · rw [if_neg c34] at H
                  have c34b0 : (t153 == t163) = false := beq_eq_false_iff_ne.mpr c34
                  have c34b1 : (t153 != t163) = true := bne_iff_ne.mpr c34
                  obtain rfl := Option.some.inj H
                  go_wp2_with (first | ((with_reducible refine gate_callee (f := 10) rfl ?_); refine goesL_ (some 17) rfl rfl Try.func10 (by kernel_rfl) rfl #[.int .u8 x10_1, .int .i64 a0, .int .i64 a1] rfl (by (try simp only [List.map_toArray, List.map_cons, List.map_nil]); first | done | rfl | (simp only [List.length_drop, List.length_take]; rfl)) ?_; (with_reducible refine (surveyorlaw19_apply.calls x10_1 a0 a1 t153 t154 _ A4.out).mono ?_); rintro e w38 ⟨rfl, hb⟩; refine ⟨_, rfl, ?_⟩; have n0_ := Aside0.mk (below_step (by repeat (first | (with_reducible first | exact HB.out | apply below_alloc | apply pw_below_drewN | apply below_drew1) | exact HB.out)) hb); clear HB; have HB := n0_; clear n0_; (try clear hb); (try clear hb2); (try clear hk); (try clear hi)) | ((with_reducible refine gate_callee (f := 15) rfl ?_); refine goesL_ (some 24) rfl rfl Try.func15 (by kernel_rfl) rfl #[.int .i64 a0, .int .i64 a1] rfl (by (try simp only [List.map_toArray, List.map_cons, List.map_nil]); first | done | rfl | (simp only [List.length_drop, List.length_take]; rfl)) ?_; (with_reducible refine (surveyorref19_Rem.calls k1 a0 a1 t163 t164 _ A33.out).mono ?_); rintro e w' ⟨rfl, ⟨nd, rfl⟩⟩; refine ⟨_, rfl, ?_⟩))
                  go_ret
                  exact ⟨by first | rfl | (simp [errW_none, errW_some] <;> rfl) | (simp [*, errW_none, errW_some] <;> rfl), by repeat (first | (with_reducible first | exact HB.out | apply below_alloc | apply pw_below_drewN | apply below_drew1) | exact HB.out)⟩
      · rw [if_neg c3] at H
        have c3b0 : decide (x10_1 < 5) = false := decide_eq_false c3
        clear c3
        replace H := Option.bind_eq_some_iff.mp H
        obtain ⟨t152, A390, H⟩ := H
        replace H : (some t152) = some r := H
        have A39 := Aside0.mk A390
        clear A390
        obtain rfl := Option.some.inj H
        go_wp2_with (first | ((with_reducible refine gate_callee (f := 9) rfl ?_); refine goesL_ (some 68) rfl rfl Try.func9 (by kernel_rfl) rfl #[] rfl (by (try simp only [List.map_toArray, List.map_cons, List.map_nil]); first | done | rfl | (simp only [List.length_drop, List.length_take]; rfl)) ?_; (with_reducible refine (surveyorlaw19_awake.calls k1  t152 _ A39.out).mono ?_); rintro e w40 ⟨rfl, hb⟩; refine ⟨_, rfl, ?_⟩; have n0_ := Aside0.mk (below_step (by repeat (first | (with_reducible first | exact HB.out | apply below_alloc | apply pw_below_drewN | apply below_drew1) | exact HB.out)) hb); clear HB; have HB := n0_; clear n0_; (try clear hb); (try clear hb2); (try clear hk); (try clear hi)))
        go_ret
        exact ⟨by first | rfl | (simp [errW_none, errW_some] <;> rfl) | (simp [*, errW_none, errW_some] <;> rfl), by repeat (first | (with_reducible first | exact HB.out | apply below_alloc | apply pw_below_drewN | apply below_drew1) | exact HB.out)⟩

/-- THE ONE PURE STATEMENT of surveyorlaw19_SignComputes: yours. -/
def surveyorlaw19_SignComputes.Pure : Prop := ∀ (a0 : Int) (a1 : Int), (Lit.int .i64 a0).wf = true → (Lit.int .i64 a1).wf = true → ∃ k, surveyorlaw19_SignComputes.f k a0 a1 = some true
theorem surveyorlaw19_SignComputes.walk (P : surveyorlaw19_SignComputes.Pure) (a0 : Int) (a1 : Int) (w : World) (w0 : (Lit.int .i64 a0).wf = true) (w1 : (Lit.int .i64 a1).wf = true) :
    Calls Try.prog 4 #[.int .i64 a0, .int .i64 a1] w fun e w' => e = .returned (.bool true) ∧ Below w.heap.size w w' := by
  obtain ⟨k, h⟩ := P a0 a1 w0 w1
  refine (surveyorlaw19_SignComputes.calls k a0 a1 true w h).mono ?_
  rintro e w' ⟨rfl, hd⟩
  exact ⟨rfl, hd⟩

end Go.Proofs.Ytlefniheafefgaa.PSignComputes
