/- Lemmas. -/
import Derived.Test.YtnagmogjhfdmlaaGreatDoorLPTopChainsIntervalsx0
import Derived.Test.YtnagmogjhfdmlaaGreatDoorLPTopChainsIntervalsx4
import Derived.Test.YtnagmogjhfdmlaaGreatDoorLShort
import Derived.Test.YtnagmogjhfdmlaaGreatDoorLShort3
import Derived.Test.YtnagmogjhfdmlaaGreatDoorLShort4
namespace Go.Proofs.YtnagmogjhfdmlaaGreatDoor.PTopChainsIntervals
open Go.RowKit Go.Proofs.YtnagmogjhfdmlaaGreatDoorW.PrintWords Go.Proofs.YtnagmogjhfdmlaaGreatDoorW.PrintLast Go.Proofs.YtnagmogjhfdmlaaGreatDoorW.PrintMore
attribute [local go_sem] max2_int -- for this text's walks alone
set_option linter.unusedVariables false
set_option linter.unusedSimpArgs false
def interval_ascending.l0 : Nat → List ByteArray → List ByteArray → Int → Int → Option (Int)
  | 0, _, _, _, _ => none
  | k + 1, x0, x9, x10, x11 => if x11 < x10 then (if 0 ≤ x11 then (if x11 < (x9.length : Int) then ((interval_number.f (rdOf ByteArray.empty x9 x11)).bind fun t150 => (if t150 = 0 then (if x11 > 0 then (if 0 ≤ (wrap64 (x11 - 1)) then (if (wrap64 (x11 - 1)) < (x0.length : Int) then ((interval_order.f (rdOf ByteArray.empty x0 (wrap64 (x11 - 1))) (rdOf ByteArray.empty x9 x11)).bind fun t152 => (if t152 ≥ 0 then (some 14) else (interval_ascending.l0 k x0 x9 x10 (wrap64 (x11 + 1))))) else (none)) else (none)) else (interval_ascending.l0 k x0 x9 x10 (wrap64 (x11 + 1)))) else (some t150))) else (none)) else (none)) else (some 0)
def interval_ascending.f (k : Nat) (l0 : List ByteArray) : Option (Int) := if (l0.length : Int) > 1024 then (some 5) else (interval_ascending.l0 k l0 l0 (l0.length : Int) 0)
theorem interval_ascending.mono_l : ∀ k, (∀ y0 y1 y2 y3, LeO (interval_ascending.l0 k y0 y1 y2 y3) (interval_ascending.l0 (k + 1) y0 y1 y2 y3))
  | 0 => fun _ _ _ _ r h => by simp [interval_ascending.l0] at h
  | k + 1 => by
    have ih0 := interval_ascending.mono_l k
    · intro y0 y1 y2 y3
      unfold interval_ascending.l0
      repeat' first
      | (with_reducible exact ih0 _ _ _ _)
      | (with_reducible exact LeO.refl _)
      | (with_reducible exact LeO.none _)
      | (with_reducible refine LeO.ite ?_ ?_)
      | (with_reducible refine LeO.bind ?_ (fun _ => ?_))
      | exact ih0 _ _ _ _
      | exact LeO.none _
      | refine LeO.ite ?_ ?_
      | refine LeO.bind ?_ (fun _ => ?_)
theorem interval_ascending.mono : ∀ a0 k, LeO (interval_ascending.f k a0) (interval_ascending.f (k + 1) a0) := by
  intro a0 k
  have ih0 := interval_ascending.mono_l k
  unfold interval_ascending.f
  repeat' first
      | (with_reducible exact ih0 _ _ _ _)
      | (with_reducible exact LeO.refl _)
      | (with_reducible exact LeO.none _)
      | (with_reducible refine LeO.ite ?_ ?_)
      | (with_reducible refine LeO.bind ?_ (fun _ => ?_))
      | exact ih0 _ _ _ _
      | exact LeO.none _
      | refine LeO.ite ?_ ?_
      | refine LeO.bind ?_ (fun _ => ?_)
set_option maxHeartbeats 8000000 in
set_option maxRecDepth 100000 in
theorem interval_ascending.calls (k : Nat) (A0 : Option Addr) (c0 : Nat) (l0 : List ByteArray) (r : Int) (w : World) (hr0 : Kd.C Kd.string w A0 l0.length l0) (hc0 : l0.length ≤ c0) (h : interval_ascending.f k l0 = some r) :
    Calls Tryz.prog 13 #[.slice A0 l0.length c0] w fun e w' => e = .returned (.int .i64 r) ∧ Below w.heap.size w w' := by
  have HR0 := Aside0.mk hr0
  have HC0 := Aside0.mk hc0
  clear hr0 hc0
  have HB := Aside0.mk (Below.refl w.heap.size w)
  have H : (if (l0.length : Int) > 1024 then (some 5) else (interval_ascending.l0 k l0 l0 (l0.length : Int) 0)) = some r := h
  clear h
  by_cases c2 : (l0.length : Int) > 1024
  · rw [if_pos c2] at H
    have c2b0 : decide (1024 < (l0.length : Int)) = true := decide_eq_true c2
    have c2b1 : decide (1024 < l0.length) = true := decide_eq_true (by omega)
    clear c2
    obtain rfl := Option.some.inj H
    go_enter Tryz.func13, Tryz.ntmps13
    go_wp2
    go_ret
    exact pkE HB
  · rw [if_neg c2] at H
    have c2b0 : decide (1024 < (l0.length : Int)) = false := decide_eq_false c2
    have c2b1 : decide (1024 < l0.length) = false := decide_eq_false (by omega)
    clear c2
    have H' := Aside0.mk H
    clear H
    go_enter Tryz.func13, Tryz.ntmps13
    go_wp2
    go_loopg [11] k (fun kq v11 w' => ∃ (x11_1 : Int), v11 = .int .i64 x11_1 ∧ Aside0 (interval_ascending.l0 kq l0 l0 (l0.length : Int) x11_1 = some r) ∧ Aside0 (kq ≤ k) ∧ Aside0 (Below w.heap.size w w'))
    case atStart => exact ⟨(0), (by first | rfl | (simp; done) | (simp [*]; done)), H', ⟨Nat.le_refl _⟩, ⟨pkL HB⟩⟩
    case round =>
      clear H'
      try clear c2
      try clear c2b0
      try clear c2b1
      obtain ⟨x11_1, rfl, HA, HK1, HB⟩ := hrel
      cases gk with
      | zero => exact absurd HA.out (by simp [interval_ascending.l0])
      | succ k1 =>
        have H := HA.out
        clear HA
        simp only [interval_ascending.l0] at H
        by_cases c3 : x11_1 < (l0.length : Int)
        · rw [if_pos c3] at H
          have c3b0 : decide (x11_1 < (l0.length : Int)) = true := decide_eq_true c3
          clear c3
          by_cases c4 : 0 ≤ x11_1
          · rw [if_pos c4] at H
            have c4b0 : decide (0 ≤ x11_1) = true := decide_eq_true c4
            clear c4
            by_cases c5 : x11_1 < (l0.length : Int)
            · rw [if_pos c5] at H
              have c5b0 : decide (x11_1 < (l0.length : Int)) = true := decide_eq_true c5
              clear c5
              obtain ⟨t150, A6, H⟩ := bi H
              try dsimp only at H
              by_cases c7 : t150 = 0
              · rw [if_pos c7] at H
                have c7b0 : (t150 == 0) = true := beq_iff_eq.mpr c7
                have c7b1 : (t150 != 0) = false := bne_eq_false_iff_eq.mpr c7
                clear c7
                by_cases c8 : x11_1 > 0
                · rw [if_pos c8] at H
                  have c8b0 : decide (0 < x11_1) = true := decide_eq_true c8
                  clear c8
                  obtain ⟨ji9, hji9⟩ : ∃ j_ : Int, (wrap64 (x11_1 - 1)) = j_ := ⟨_, rfl⟩
                  replace H : (if 0 ≤ (ji9) then (if (ji9) < (l0.length : Int) then ((interval_order.f (rdOf ByteArray.empty l0 (ji9)) (rdOf ByteArray.empty l0 x11_1)).bind fun t152 => (if t152 ≥ 0 then (some 14) else (interval_ascending.l0 k1 l0 l0 (l0.length : Int) (wrap64 (x11_1 + 1))))) else (none)) else (none)) = some r := by first | (rw [hji9] at H; exact H) | (simp only [hji9] at H ⊢; exact H)
                  (try rw [hji9] at A6)
                  have hji9w : (IntKind.i64.wrap (x11_1 - 1)) = ji9 := (i64_w _).trans hji9
                  by_cases c10 : 0 ≤ (ji9)
                  · rw [if_pos c10] at H
                    have c10b0 : decide (0 ≤ (ji9)) = true := decide_eq_true c10
                    clear c10
                    by_cases c11 : (ji9) < (l0.length : Int)
                    · rw [if_pos c11] at H
                      have c11b0 : decide ((ji9) < (l0.length : Int)) = true := decide_eq_true c11
                      clear c11
                      obtain ⟨t152, A12, H⟩ := bi H
                      try dsimp only at H
                      by_cases c13 : t152 ≥ 0
                      · rw [if_pos c13] at H
                        have c13b0 : decide (0 ≤ t152) = true := decide_eq_true c13
                        clear c13
                        obtain rfl := Option.some.inj H
                        have p149 : 0 ≤ (x11_1 : Int) := of_decide_eq_true (by first | (with_reducible assumption) | assumption)
                        have q149 : x11_1 < (l0.length : Int) := of_decide_eq_true (by first | (with_reducible assumption) | assumption)
                        obtain ⟨ad149, e149, hx149_0⟩ := Kd.at_string HR0.out x11_1 p149 q149
                        cases e149
                        replace hx149_0 := (HB.out.cell (World.block_lt_of_cell? w _ hx149_0)).trans hx149_0
                        replace p149 := eq_true p149
                        replace q149 := eq_true q149
                        go_wp2_with (first | ((with_reducible refine gate_callee (f := 25) rfl ?_); refine gl_ 17 Tryz.func25 #[.string (rdOf ByteArray.empty l0 x11_1)] (h := ?_); (with_reducible refine (interval_number.calls (rdOf ByteArray.empty l0 x11_1) t150 _ A6.out).mono ?_); rintro e w14 ⟨rfl, hb⟩; refine ⟨_, rfl, ?_⟩; replace HB := pkB HB hb; try clear hb; have p151 : 0 ≤ ((ji9) : Int) := of_decide_eq_true (by first | (with_reducible assumption) | assumption); have q151 : (ji9) < (l0.length : Int) := of_decide_eq_true (by first | (with_reducible assumption) | assumption); obtain ⟨ad151, e151, hx151_0⟩ := Kd.at_string HR0.out (ji9) p151 q151; obtain rfl : ad149 = ad151 := (by injection e151); replace hx151_0 := (HB.out.cell (World.block_lt_of_cell? w _ hx151_0)).trans hx151_0; replace p151 := eq_true p151; replace q151 := eq_true q151) | (go_at_call 26; (with_reducible refine (interval_order.calls (rdOf ByteArray.empty l0 (ji9)) (rdOf ByteArray.empty l0 x11_1) t152 _ A12.out).mono ?_); rintro e w15 ⟨rfl, hb⟩; replace HB := pkB HB hb; try clear hb))
                        go_ret
                        exact ⟨by first | rfl | (simp [errW_none, errW_some] <;> rfl) | (simp only [← hji9]; first | rfl | (simp [errW_none, errW_some] <;> rfl)) | (simp [*, errW_none, errW_some] <;> rfl), by repeat (first | (with_reducible first | exact HB.out | apply below_alloc | apply pw_below_drewN | apply below_drew1) | exact HB.out)⟩
                      · rw [if_neg c13] at H
                        have c13b0 : decide (0 ≤ t152) = false := decide_eq_false c13
                        clear c13
                        have H' := Aside0.mk H
                        clear H
                        have p149 : 0 ≤ (x11_1 : Int) := of_decide_eq_true (by first | (with_reducible assumption) | assumption)
                        have q149 : x11_1 < (l0.length : Int) := of_decide_eq_true (by first | (with_reducible assumption) | assumption)
                        obtain ⟨ad149, e149, hx149_0⟩ := Kd.at_string HR0.out x11_1 p149 q149
                        cases e149
                        replace hx149_0 := (HB.out.cell (World.block_lt_of_cell? w _ hx149_0)).trans hx149_0
                        replace p149 := eq_true p149
                        replace q149 := eq_true q149
                        go_wp2_with (first | ((with_reducible refine gate_callee (f := 25) rfl ?_); refine gl_ 17 Tryz.func25 #[.string (rdOf ByteArray.empty l0 x11_1)] (h := ?_); (with_reducible refine (interval_number.calls (rdOf ByteArray.empty l0 x11_1) t150 _ A6.out).mono ?_); rintro e w16 ⟨rfl, hb⟩; refine ⟨_, rfl, ?_⟩; replace HB := pkB HB hb; try clear hb; have p151 : 0 ≤ ((ji9) : Int) := of_decide_eq_true (by first | (with_reducible assumption) | assumption); have q151 : (ji9) < (l0.length : Int) := of_decide_eq_true (by first | (with_reducible assumption) | assumption); obtain ⟨ad151, e151, hx151_0⟩ := Kd.at_string HR0.out (ji9) p151 q151; obtain rfl : ad149 = ad151 := (by injection e151); replace hx151_0 := (HB.out.cell (World.block_lt_of_cell? w _ hx151_0)).trans hx151_0; replace p151 := eq_true p151; replace q151 := eq_true q151) | (go_at_call 26; (with_reducible refine (interval_order.calls (rdOf ByteArray.empty l0 (ji9)) (rdOf ByteArray.empty l0 x11_1) t152 _ A12.out).mono ?_); rintro e w17 ⟨rfl, hb⟩; replace HB := pkB HB hb; try clear hb))
                        go_roundg k1
                        case measure => have := HK1.out; omega
                        case rel => exact ⟨(wrap64 (x11_1 + 1)), (by first | rfl | (simp; done) | (simp [*]; done)), H', ⟨by have := HK1.out; omega⟩, ⟨pkL HB⟩⟩
                    · rw [if_neg c11] at H
                      exact absurd H (by simp)
                  · rw [if_neg c10] at H
                    exact absurd H (by simp)
                · rw [if_neg c8] at H
                  have c8b0 : decide (0 < x11_1) = false := decide_eq_false c8
                  clear c8
                  have H' := Aside0.mk H
                  clear H
                  have p149 : 0 ≤ (x11_1 : Int) := of_decide_eq_true (by first | (with_reducible assumption) | assumption)
                  have q149 : x11_1 < (l0.length : Int) := of_decide_eq_true (by first | (with_reducible assumption) | assumption)
                  obtain ⟨ad149, e149, hx149_0⟩ := Kd.at_string HR0.out x11_1 p149 q149
                  cases e149
                  replace hx149_0 := (HB.out.cell (World.block_lt_of_cell? w _ hx149_0)).trans hx149_0
                  replace p149 := eq_true p149
                  replace q149 := eq_true q149
                  go_wp2_with (first | ((with_reducible refine gate_callee (f := 25) rfl ?_); refine gl_ 17 Tryz.func25 #[.string (rdOf ByteArray.empty l0 x11_1)] (h := ?_); (with_reducible refine (interval_number.calls (rdOf ByteArray.empty l0 x11_1) t150 _ A6.out).mono ?_); rintro e w18 ⟨rfl, hb⟩; refine ⟨_, rfl, ?_⟩; replace HB := pkB HB hb; try clear hb))
                  go_roundg k1
                  case measure => have := HK1.out; omega
                  case rel => exact ⟨(wrap64 (x11_1 + 1)), (by first | rfl | (simp; done) | (simp [*]; done)), H', ⟨by have := HK1.out; omega⟩, ⟨pkL HB⟩⟩
              · rw [if_neg c7] at H
                have c7b0 : (t150 == 0) = false := beq_eq_false_iff_ne.mpr c7
                have c7b1 : (t150 != 0) = true := bne_iff_ne.mpr c7
                obtain rfl := Option.some.inj H
                have p149 : 0 ≤ (x11_1 : Int) := of_decide_eq_true (by first | (with_reducible assumption) | assumption)
                have q149 : x11_1 < (l0.length : Int) := of_decide_eq_true (by first | (with_reducible assumption) | assumption)
                obtain ⟨ad149, e149, hx149_0⟩ := Kd.at_string HR0.out x11_1 p149 q149
                cases e149
                replace hx149_0 := (HB.out.cell (World.block_lt_of_cell? w _ hx149_0)).trans hx149_0
                replace p149 := eq_true p149
                replace q149 := eq_true q149
                go_wp2_with (first | ((with_reducible refine gate_callee (f := 25) rfl ?_); refine gl_ 17 Tryz.func25 #[.string (rdOf ByteArray.empty l0 x11_1)] (h := ?_); (with_reducible refine (interval_number.calls (rdOf ByteArray.empty l0 x11_1) t150 _ A6.out).mono ?_); rintro e w19 ⟨rfl, hb⟩; refine ⟨_, rfl, ?_⟩; replace HB := pkB HB hb; try clear hb))
                go_ret
                exact pkE HB
            · rw [if_neg c5] at H
              exact absurd H (by simp)
          · rw [if_neg c4] at H
            exact absurd H (by simp)
        · rw [if_neg c3] at H
          have c3b0 : decide (x11_1 < (l0.length : Int)) = false := decide_eq_false c3
          clear c3
          obtain rfl := Option.some.inj H
          go_wp2
          go_ret
          exact pkE HB
def interval_infinite.f (a0 : Int) : Option (Int × ByteArray) := some (a0, (⟨#[]⟩ : ByteArray))
set_option maxHeartbeats 8000000 in
set_option maxRecDepth 100000 in
theorem interval_infinite.calls (a0 : Int) (r1 : Int) (r2 : ByteArray) (w : World) (h : interval_infinite.f a0 = some (r1, r2)) :
    Calls Tryz.prog 19 #[.int .i64 a0] w fun e w' => e = .returned (.agg #[.int .i64 r1, .string r2]) ∧ Below w.heap.size w w' := by
  have hu41 := Tryz.underlying41
  have HB := Aside0.mk (Below.refl w.heap.size w)
  have H : (some (a0, (⟨#[]⟩ : ByteArray))) = some (r1, r2) := h
  clear h
  simp only [Option.some.injEq, Prod.mk.injEq] at H
  obtain ⟨rfl, rfl⟩ := H
  go_enter Tryz.func19, Tryz.ntmps19
  go_wp2_with (first | ((with_reducible refine gate_dst (N := 2) rfl ?_); refine bx_ 2 41 #[.int .i64 0, .string (⟨#[]⟩ : ByteArray)] (h := ?_); intro gb153 hg w2 hbox hb; have BK153 := Aside0.mk (hbox); have GW153 := pkG HB hg; have GE153 := GW153; replace HB := pkB HB hb; clear hb hbox hg; have hcz3_0 : w2.cell? ⟨gb153, 0, none⟩ = some (.int .i64 0) := (blk_cell BK153.out 0).trans rfl; have hcz3_1 : w2.cell? ⟨gb153, 1, none⟩ = some (.string (⟨#[]⟩ : ByteArray)) := (blk_cell BK153.out 1).trans rfl; have hfz3_0 := blk_frozen BK153.out 0; have hfz3_1 := blk_frozen BK153.out 1))
  refine bodyPost_ret (results_cell_row rfl _ _ gb153 41 #[.int .i64 a0, .string (⟨#[]⟩ : ByteArray)] (0, 0) _ rfl (pkS2 BK153) Tryz.underlying41 rfl (by kernel_rfl)) rfl ?_
  exact pkE HB
def interval_finite.f (a0 : ByteArray) : Option (Int × ByteArray) := some (0, a0)
set_option maxHeartbeats 8000000 in
set_option maxRecDepth 100000 in
theorem interval_finite.calls (a0 : ByteArray) (r1 : Int) (r2 : ByteArray) (w : World) (h : interval_finite.f a0 = some (r1, r2)) :
    Calls Tryz.prog 20 #[.string a0] w fun e w' => e = .returned (.agg #[.int .i64 r1, .string r2]) ∧ Below w.heap.size w w' := by
  have hu41 := Tryz.underlying41
  have HB := Aside0.mk (Below.refl w.heap.size w)
  have H : (some (0, a0)) = some (r1, r2) := h
  clear h
  simp only [Option.some.injEq, Prod.mk.injEq] at H
  obtain ⟨rfl, rfl⟩ := H
  go_enter Tryz.func20, Tryz.ntmps20
  go_wp2_with (first | ((with_reducible refine gate_dst (N := 2) rfl ?_); refine bx_ 2 41 #[.int .i64 0, .string (⟨#[]⟩ : ByteArray)] (h := ?_); intro gb154 hg w2 hbox hb; have BK154 := Aside0.mk (hbox); have GW154 := pkG HB hg; have GE154 := GW154; replace HB := pkB HB hb; clear hb hbox hg; have hcz3_0 : w2.cell? ⟨gb154, 0, none⟩ = some (.int .i64 0) := (blk_cell BK154.out 0).trans rfl; have hcz3_1 : w2.cell? ⟨gb154, 1, none⟩ = some (.string (⟨#[]⟩ : ByteArray)) := (blk_cell BK154.out 1).trans rfl; have hfz3_0 := blk_frozen BK154.out 0; have hfz3_1 := blk_frozen BK154.out 1))
  refine bodyPost_ret (results_cell_row rfl _ _ gb154 41 #[.int .i64 0, .string a0] (0, 0) _ rfl (pkS2 BK154) Tryz.underlying41 rfl (by kernel_rfl)) rfl ?_
  exact pkE HB
def interval_none.f  : Option (Int × ByteArray × Int × ByteArray) := (interval_infinite.f 1).bind fun bt156 => ((interval_infinite.f (-1)).bind fun bt158 => (some (bt156.1, bt156.2, bt158.1, bt158.2)))
set_option maxHeartbeats 8000000 in
set_option maxRecDepth 100000 in
theorem interval_none.calls  (r1 : Int) (r2 : ByteArray) (r3 : Int) (r4 : ByteArray) (w : World) (h : interval_none.f  = some (r1, r2, r3, r4)) :
    Calls Tryz.prog 27 #[] w fun e w' => e = .returned (.agg #[.int .i64 r1, .string r2, .int .i64 r3, .string r4]) ∧ Below w.heap.size w w' := by
  have hu43 := Tryz.underlying43
  have HB := Aside0.mk (Below.refl w.heap.size w)
  have H : ((interval_infinite.f 1).bind fun bt156 => ((interval_infinite.f (-1)).bind fun bt158 => (some (bt156.1, bt156.2, bt158.1, bt158.2)))) = some (r1, r2, r3, r4) := h
  clear h
  obtain ⟨⟨t156, t157⟩, A1, H⟩ := bi H
  try dsimp only at H
  obtain ⟨⟨t158, t159⟩, A2, H⟩ := bi H
  try dsimp only at H
  simp only [Option.some.injEq, Prod.mk.injEq] at H
  obtain ⟨rfl, rfl, rfl, rfl⟩ := H
  go_enter Tryz.func27, Tryz.ntmps27
  go_wp2_with (first | ((with_reducible refine gate_dst (N := 0) rfl ?_); refine bx_ 0 43 #[.int .i64 0, .string (⟨#[]⟩ : ByteArray), .int .i64 0, .string (⟨#[]⟩ : ByteArray)] (h := ?_); intro gb155 hg w3 hbox hb; have BK155 := Aside0.mk (hbox); have GW155 := pkG HB hg; have GE155 := GW155; replace HB := pkB HB hb; clear hb hbox hg) | ((with_reducible refine gate_callee (f := 19) rfl ?_); refine gl_ 1 Tryz.func19 #[.int .i64 1] (h := ?_); (with_reducible refine (interval_infinite.calls 1 t156 t157 _ A1.out).mono ?_); rintro e w4 ⟨rfl, hb⟩; refine ⟨_, rfl, ?_⟩; replace BK155 := pkK BK155 hb; replace HB := pkB HB hb; try clear hb) | ((with_reducible refine gate_callee (f := 19) rfl ?_); refine gl_ 2 Tryz.func19 #[.int .i64 (-1)] (h := ?_); (with_reducible refine (interval_infinite.calls (-1) t158 t159 _ A2.out).mono ?_); rintro e w5 ⟨rfl, hb⟩; refine ⟨_, rfl, ?_⟩; replace BK155 := pkK BK155 hb; replace HB := pkB HB hb; try clear hb; have hcz6_0 : w5.cell? ⟨gb155, 0, none⟩ = some (.int .i64 0) := (blk_cell BK155.out 0).trans rfl; have hcz6_1 : w5.cell? ⟨gb155, 1, none⟩ = some (.string (⟨#[]⟩ : ByteArray)) := (blk_cell BK155.out 1).trans rfl; have hcz6_2 : w5.cell? ⟨gb155, 2, none⟩ = some (.int .i64 0) := (blk_cell BK155.out 2).trans rfl; have hcz6_3 : w5.cell? ⟨gb155, 3, none⟩ = some (.string (⟨#[]⟩ : ByteArray)) := (blk_cell BK155.out 3).trans rfl; have hfz6_0 := blk_frozen BK155.out 0; have hfz6_1 := blk_frozen BK155.out 1; have hfz6_2 := blk_frozen BK155.out 2; have hfz6_3 := blk_frozen BK155.out 3))
  refine bodyPost_ret (results_cell_row rfl _ _ gb155 43 #[.int .i64 t156, .string t157, .int .i64 t158, .string t159] (0, 0) _ rfl (pkS4 BK155) Tryz.underlying43 rfl (by kernel_rfl)) rfl ?_
  exact pkE HB
def interval_of.f (a0_0 : Bool) (a0_1 : ByteArray) (a0_2 : ByteArray) : Option (Int × ByteArray × Int × ByteArray) := if a0_0 = true then ((interval_none.f).bind fun bt162 => (some (bt162.1, bt162.2.1, bt162.2.2.1, bt162.2.2.2))) else ((interval_infinite.f (-1)).bind fun bt166 => ((interval_infinite.f 1).bind fun bt168 => (if a0_1.toList = ([] : List UInt8) then (if a0_2.toList = ([] : List UInt8) then (some (bt166.1, bt166.2, bt168.1, bt168.2)) else ((interval_finite.f a0_2).bind fun bt171 => (some (bt166.1, bt166.2, bt171.1, bt171.2)))) else ((interval_finite.f a0_1).bind fun bt173 => (if a0_2.toList = ([] : List UInt8) then (some (bt173.1, bt173.2, bt168.1, bt168.2)) else ((interval_finite.f a0_2).bind fun bt175 => (some (bt173.1, bt173.2, bt175.1, bt175.2))))))))
set_option maxHeartbeats 8000000 in
set_option maxRecDepth 100000 in
theorem interval_of.calls (a0_0 : Bool) (a0_1 : ByteArray) (a0_2 : ByteArray) (r1 : Int) (r2 : ByteArray) (r3 : Int) (r4 : ByteArray) (w : World) (h : interval_of.f a0_0 a0_1 a0_2 = some (r1, r2, r3, r4)) :
    Calls Tryz.prog 14 #[.agg #[.bool a0_0, .string a0_1, .string a0_2]] w fun e w' => e = .returned (.agg #[.int .i64 r1, .string r2, .int .i64 r3, .string r4]) ∧ Below w.heap.size w w' := by
  have hu28 := Tryz.underlying28
  have hu43 := Tryz.underlying43
  have hu41 := Tryz.underlying41
  have HB := Aside0.mk (Below.refl w.heap.size w)
  have H : (if a0_0 = true then ((interval_none.f).bind fun bt162 => (some (bt162.1, bt162.2.1, bt162.2.2.1, bt162.2.2.2))) else ((interval_infinite.f (-1)).bind fun bt166 => ((interval_infinite.f 1).bind fun bt168 => (if a0_1.toList = ([] : List UInt8) then (if a0_2.toList = ([] : List UInt8) then (some (bt166.1, bt166.2, bt168.1, bt168.2)) else ((interval_finite.f a0_2).bind fun bt171 => (some (bt166.1, bt166.2, bt171.1, bt171.2)))) else ((interval_finite.f a0_1).bind fun bt173 => (if a0_2.toList = ([] : List UInt8) then (some (bt173.1, bt173.2, bt168.1, bt168.2)) else ((interval_finite.f a0_2).bind fun bt175 => (some (bt173.1, bt173.2, bt175.1, bt175.2))))))))) = some (r1, r2, r3, r4) := h
  clear h
  go_enter Tryz.func14, Tryz.ntmps14
  by_cases c2 : a0_0 = true
  · subst c2
    rw [if_pos rfl] at H
    obtain ⟨⟨t162, t163, t164, t165⟩, A3, H⟩ := bi H
    try dsimp only at H
    simp only [Option.some.injEq, Prod.mk.injEq] at H
    obtain ⟨rfl, rfl, rfl, rfl⟩ := H
    go_wp2_with (first | ((with_reducible refine gate_dst (N := 1) rfl ?_); refine bx_ 1 28 #[.bool true, .string a0_1, .string a0_2] (h := ?_); intro gb160 hg w4 hbox hb; have BK160 := Aside0.mk (hbox); have GW160 := pkG HB hg; have GE160 := GW160; replace HB := pkB HB hb; clear hb hbox hg) | ((with_reducible refine gate_dst (N := 2) rfl ?_); refine bx_ 2 43 #[.int .i64 0, .string (⟨#[]⟩ : ByteArray), .int .i64 0, .string (⟨#[]⟩ : ByteArray)] (h := ?_); intro gb161 hg w5 hbox hb; have BK161 := Aside0.mk (hbox); have GW161 := pkG HB hg; have GE161 := GW161; obtain ⟨NB160_161, NB161_160, _, _⟩ := pkQ BK160 hg; replace BK160 := pkK BK160 hb; replace HB := pkB HB hb; clear hb hbox hg; have hnb6 := NB160_161.out; have hnc6 := NB161_160.out; obtain ⟨⟨hcz7_0, hcz7_1, hcz7_2⟩, hfz7_0, hfz7_1, hfz7_2⟩ := pk3 BK160) | ((with_reducible refine gate_callee (f := 27) rfl ?_); refine gl_ 6 Tryz.func27 #[] (h := ?_); (with_reducible refine (interval_none.calls  t162 t163 t164 t165 _ A3.out).mono ?_); rintro e w8 ⟨rfl, hb⟩; refine ⟨_, rfl, ?_⟩; replace BK160 := pkK BK160 hb; replace BK161 := pkK BK161 hb; replace HB := pkB HB hb; try clear hb; have hcz9_0 : w8.cell? ⟨gb161, 0, none⟩ = some (.int .i64 0) := (blk_cell BK161.out 0).trans rfl; have hcz9_1 : w8.cell? ⟨gb161, 1, none⟩ = some (.string (⟨#[]⟩ : ByteArray)) := (blk_cell BK161.out 1).trans rfl; have hcz9_2 : w8.cell? ⟨gb161, 2, none⟩ = some (.int .i64 0) := (blk_cell BK161.out 2).trans rfl; have hcz9_3 : w8.cell? ⟨gb161, 3, none⟩ = some (.string (⟨#[]⟩ : ByteArray)) := (blk_cell BK161.out 3).trans rfl; have hfz9_0 := blk_frozen BK161.out 0; have hfz9_1 := blk_frozen BK161.out 1; have hfz9_2 := blk_frozen BK161.out 2; have hfz9_3 := blk_frozen BK161.out 3))
    refine bodyPost_ret (results_cell_row rfl _ _ gb161 43 #[.int .i64 t162, .string t163, .int .i64 t164, .string t165] (0, 0) _ rfl (pkS4 BK161) Tryz.underlying43 rfl (by kernel_rfl)) rfl ?_
    exact pkE HB
  · replace c2 := Bool.eq_false_iff.mpr c2
    subst c2
    rw [if_neg (show ¬ (false = true) by decide)] at H
    obtain ⟨⟨t166, t167⟩, A10, H⟩ := bi H
    try dsimp only at H
    obtain ⟨⟨t168, t169⟩, A11, H⟩ := bi H
    try dsimp only at H
    by_cases c12 : a0_1.toList = ([] : List UInt8)
    · rw [if_pos c12] at H
      have c12b0 : (a0_1.toList == ([] : List UInt8)) = true := beq_iff_eq.mpr c12
      have c12b1 : (a0_1.toList != ([] : List UInt8)) = false := bne_eq_false_iff_eq.mpr c12
      clear c12
      by_cases c13 : a0_2.toList = ([] : List UInt8)
      · rw [if_pos c13] at H
        have c13b0 : (a0_2.toList == ([] : List UInt8)) = true := beq_iff_eq.mpr c13
        have c13b1 : (a0_2.toList != ([] : List UInt8)) = false := bne_eq_false_iff_eq.mpr c13
        clear c13
        simp only [Option.some.injEq, Prod.mk.injEq] at H
        obtain ⟨rfl, rfl, rfl, rfl⟩ := H
        go_wp2_with (first | ((with_reducible refine gate_dst (N := 1) rfl ?_); refine bx_ 1 28 #[.bool false, .string a0_1, .string a0_2] (h := ?_); intro gb160 hg w14 hbox hb; have BK160 := Aside0.mk (hbox); have GW160 := pkG HB hg; have GE160 := GW160; replace HB := pkB HB hb; clear hb hbox hg) | ((with_reducible refine gate_dst (N := 2) rfl ?_); refine bx_ 2 43 #[.int .i64 0, .string (⟨#[]⟩ : ByteArray), .int .i64 0, .string (⟨#[]⟩ : ByteArray)] (h := ?_); intro gb161 hg w15 hbox hb; have BK161 := Aside0.mk (hbox); have GW161 := pkG HB hg; have GE161 := GW161; obtain ⟨NB160_161, NB161_160, _, _⟩ := pkQ BK160 hg; replace BK160 := pkK BK160 hb; replace HB := pkB HB hb; clear hb hbox hg; have hnb16 := NB160_161.out; have hnc16 := NB161_160.out; obtain ⟨⟨hcz17_0, hcz17_1, hcz17_2⟩, hfz17_0, hfz17_1, hfz17_2⟩ := pk3 BK160) | ((with_reducible refine gate_callee (f := 19) rfl ?_); refine gl_ 7 Tryz.func19 #[.int .i64 (-1)] (h := ?_); (with_reducible refine (interval_infinite.calls (-1) t166 t167 _ A10.out).mono ?_); rintro e w18 ⟨rfl, hb⟩; refine ⟨_, rfl, ?_⟩; replace BK160 := pkK BK160 hb; replace BK161 := pkK BK161 hb; replace HB := pkB HB hb; try clear hb) | ((with_reducible refine gate_callee (f := 19) rfl ?_); refine gl_ 8 Tryz.func19 #[.int .i64 1] (h := ?_); (with_reducible refine (interval_infinite.calls 1 t168 t169 _ A11.out).mono ?_); rintro e w19 ⟨rfl, hb⟩; refine ⟨_, rfl, ?_⟩; replace BK160 := pkK BK160 hb; replace BK161 := pkK BK161 hb; replace HB := pkB HB hb; try clear hb) | ((with_reducible refine gate_dst (N := 3) rfl ?_); refine bx_ 3 43 #[.int .i64 0, .string (⟨#[]⟩ : ByteArray), .int .i64 0, .string (⟨#[]⟩ : ByteArray)] (h := ?_); intro gb170 hg w20 hbox hb; have BK170 := Aside0.mk (hbox); have GW170 := pkG HB hg; have GE170 := GW170; obtain ⟨NB160_170, NB170_160, hnb21, hnc21⟩ := pkQ BK160 hg; obtain ⟨NB161_170, NB170_161, hnb22, hnc22⟩ := pkQ BK161 hg; replace BK160 := pkK BK160 hb; replace BK161 := pkK BK161 hb; replace HB := pkB HB hb; clear hb hbox hg; have hcz23_0 : w20.cell? ⟨gb170, 0, none⟩ = some (.int .i64 0) := (blk_cell BK170.out 0).trans rfl; have hcz23_1 : w20.cell? ⟨gb170, 1, none⟩ = some (.string (⟨#[]⟩ : ByteArray)) := (blk_cell BK170.out 1).trans rfl; have hcz23_2 : w20.cell? ⟨gb170, 2, none⟩ = some (.int .i64 0) := (blk_cell BK170.out 2).trans rfl; have hcz23_3 : w20.cell? ⟨gb170, 3, none⟩ = some (.string (⟨#[]⟩ : ByteArray)) := (blk_cell BK170.out 3).trans rfl; have hfz23_0 := blk_frozen BK170.out 0; have hfz23_1 := blk_frozen BK170.out 1; have hfz23_2 := blk_frozen BK170.out 2; have hfz23_3 := blk_frozen BK170.out 3; obtain ⟨⟨hcz24_0, hcz24_1, hcz24_2⟩, hfz24_0, hfz24_1, hfz24_2⟩ := pk3 BK160; have hcz25_0 : w20.cell? ⟨gb161, 0, none⟩ = some (.int .i64 0) := (blk_cell BK161.out 0).trans rfl; have hcz25_1 : w20.cell? ⟨gb161, 1, none⟩ = some (.string (⟨#[]⟩ : ByteArray)) := (blk_cell BK161.out 1).trans rfl; have hcz25_2 : w20.cell? ⟨gb161, 2, none⟩ = some (.int .i64 0) := (blk_cell BK161.out 2).trans rfl; have hcz25_3 : w20.cell? ⟨gb161, 3, none⟩ = some (.string (⟨#[]⟩ : ByteArray)) := (blk_cell BK161.out 3).trans rfl; have hfz25_0 := blk_frozen BK161.out 0; have hfz25_1 := blk_frozen BK161.out 1; have hfz25_2 := blk_frozen BK161.out 2; have hfz25_3 := blk_frozen BK161.out 3))
        refine bodyPost_ret (results_cell_row rfl _ _ gb161 43 #[.int .i64 t166, .string t167, .int .i64 t168, .string t169] (0, 0) _ rfl (pkS4 BK161) Tryz.underlying43 rfl (by kernel_rfl)) rfl ?_
        exact pkE HB
      · rw [if_neg c13] at H
        have c13b0 : (a0_2.toList == ([] : List UInt8)) = false := beq_eq_false_iff_ne.mpr c13
        have c13b1 : (a0_2.toList != ([] : List UInt8)) = true := bne_iff_ne.mpr c13
        obtain ⟨⟨t171, t172⟩, A26, H⟩ := bi H
        try dsimp only at H
        simp only [Option.some.injEq, Prod.mk.injEq] at H
        obtain ⟨rfl, rfl, rfl, rfl⟩ := H
        go_wp2_with (first | ((with_reducible refine gate_dst (N := 1) rfl ?_); refine bx_ 1 28 #[.bool false, .string a0_1, .string a0_2] (h := ?_); intro gb160 hg w27 hbox hb; have BK160 := Aside0.mk (hbox); have GW160 := pkG HB hg; have GE160 := GW160; replace HB := pkB HB hb; clear hb hbox hg) | ((with_reducible refine gate_dst (N := 2) rfl ?_); refine bx_ 2 43 #[.int .i64 0, .string (⟨#[]⟩ : ByteArray), .int .i64 0, .string (⟨#[]⟩ : ByteArray)] (h := ?_); intro gb161 hg w28 hbox hb; have BK161 := Aside0.mk (hbox); have GW161 := pkG HB hg; have GE161 := GW161; obtain ⟨NB160_161, NB161_160, _, _⟩ := pkQ BK160 hg; replace BK160 := pkK BK160 hb; replace HB := pkB HB hb; clear hb hbox hg; have hnb29 := NB160_161.out; have hnc29 := NB161_160.out; obtain ⟨⟨hcz30_0, hcz30_1, hcz30_2⟩, hfz30_0, hfz30_1, hfz30_2⟩ := pk3 BK160) | ((with_reducible refine gate_callee (f := 19) rfl ?_); refine gl_ 7 Tryz.func19 #[.int .i64 (-1)] (h := ?_); (with_reducible refine (interval_infinite.calls (-1) t166 t167 _ A10.out).mono ?_); rintro e w31 ⟨rfl, hb⟩; refine ⟨_, rfl, ?_⟩; replace BK160 := pkK BK160 hb; replace BK161 := pkK BK161 hb; replace HB := pkB HB hb; try clear hb) | ((with_reducible refine gate_callee (f := 19) rfl ?_); refine gl_ 8 Tryz.func19 #[.int .i64 1] (h := ?_); (with_reducible refine (interval_infinite.calls 1 t168 t169 _ A11.out).mono ?_); rintro e w32 ⟨rfl, hb⟩; refine ⟨_, rfl, ?_⟩; replace BK160 := pkK BK160 hb; replace BK161 := pkK BK161 hb; replace HB := pkB HB hb; try clear hb) | ((with_reducible refine gate_dst (N := 3) rfl ?_); refine bx_ 3 43 #[.int .i64 0, .string (⟨#[]⟩ : ByteArray), .int .i64 0, .string (⟨#[]⟩ : ByteArray)] (h := ?_); intro gb170 hg w33 hbox hb; have BK170 := Aside0.mk (hbox); have GW170 := pkG HB hg; have GE170 := GW170; obtain ⟨NB160_170, NB170_160, hnb34, hnc34⟩ := pkQ BK160 hg; obtain ⟨NB161_170, NB170_161, hnb35, hnc35⟩ := pkQ BK161 hg; replace BK160 := pkK BK160 hb; replace BK161 := pkK BK161 hb; replace HB := pkB HB hb; clear hb hbox hg; have hcz36_0 : w33.cell? ⟨gb170, 0, none⟩ = some (.int .i64 0) := (blk_cell BK170.out 0).trans rfl; have hcz36_1 : w33.cell? ⟨gb170, 1, none⟩ = some (.string (⟨#[]⟩ : ByteArray)) := (blk_cell BK170.out 1).trans rfl; have hcz36_2 : w33.cell? ⟨gb170, 2, none⟩ = some (.int .i64 0) := (blk_cell BK170.out 2).trans rfl; have hcz36_3 : w33.cell? ⟨gb170, 3, none⟩ = some (.string (⟨#[]⟩ : ByteArray)) := (blk_cell BK170.out 3).trans rfl; have hfz36_0 := blk_frozen BK170.out 0; have hfz36_1 := blk_frozen BK170.out 1; have hfz36_2 := blk_frozen BK170.out 2; have hfz36_3 := blk_frozen BK170.out 3; obtain ⟨⟨hcz37_0, hcz37_1, hcz37_2⟩, hfz37_0, hfz37_1, hfz37_2⟩ := pk3 BK160) | ((with_reducible refine gate_callee (f := 20) rfl ?_); refine gl_ 22 Tryz.func20 #[.string a0_2] (h := ?_); (with_reducible refine (interval_finite.calls a0_2 t171 t172 _ A26.out).mono ?_); rintro e w38 ⟨rfl, hb⟩; refine ⟨_, rfl, ?_⟩; replace BK160 := pkF BK160 hb; replace BK161 := pkF BK161 hb; replace BK170 := Aside0.mk (blk_below (g := gb170) (o := .cells #[.int .i64 t166, .string t167, .int .i64 t168, .string t169] 43 (0, 0)) (pkS4 BK170) hb); replace HB := pkB HB hb; try clear hb; have hcz39_0 : w38.cell? ⟨gb170, 0, none⟩ = some (.int .i64 t166) := (blk_cell BK170.out 0).trans rfl; have hcz39_1 : w38.cell? ⟨gb170, 1, none⟩ = some (.string t167) := (blk_cell BK170.out 1).trans rfl; have hcz39_2 : w38.cell? ⟨gb170, 2, none⟩ = some (.int .i64 t168) := (blk_cell BK170.out 2).trans rfl; have hcz39_3 : w38.cell? ⟨gb170, 3, none⟩ = some (.string t169) := (blk_cell BK170.out 3).trans rfl; have hfz39_0 := blk_frozen BK170.out 0; have hfz39_1 := blk_frozen BK170.out 1; have hfz39_2 := blk_frozen BK170.out 2; have hfz39_3 := blk_frozen BK170.out 3; have hcz40_0 : w38.cell? ⟨gb161, 0, none⟩ = some (.int .i64 0) := (blk_cell BK161.out 0).trans rfl; have hcz40_1 : w38.cell? ⟨gb161, 1, none⟩ = some (.string (⟨#[]⟩ : ByteArray)) := (blk_cell BK161.out 1).trans rfl; have hcz40_2 : w38.cell? ⟨gb161, 2, none⟩ = some (.int .i64 0) := (blk_cell BK161.out 2).trans rfl; have hcz40_3 : w38.cell? ⟨gb161, 3, none⟩ = some (.string (⟨#[]⟩ : ByteArray)) := (blk_cell BK161.out 3).trans rfl; have hfz40_0 := blk_frozen BK161.out 0; have hfz40_1 := blk_frozen BK161.out 1; have hfz40_2 := blk_frozen BK161.out 2; have hfz40_3 := blk_frozen BK161.out 3))
        refine bodyPost_ret (results_cell_row rfl _ _ gb161 43 #[.int .i64 t166, .string t167, .int .i64 t171, .string t172] (0, 0) _ rfl (pkS4 BK161) Tryz.underlying43 rfl (by kernel_rfl)) rfl ?_
        exact pkE HB
    · rw [if_neg c12] at H
      have c12b0 : (a0_1.toList == ([] : List UInt8)) = false := beq_eq_false_iff_ne.mpr c12
      have c12b1 : (a0_1.toList != ([] : List UInt8)) = true := bne_iff_ne.mpr c12
      obtain ⟨⟨t173, t174⟩, A41, H⟩ := bi H
      try dsimp only at H
      by_cases c42 : a0_2.toList = ([] : List UInt8)
      · rw [if_pos c42] at H
        have c42b0 : (a0_2.toList == ([] : List UInt8)) = true := beq_iff_eq.mpr c42
        have c42b1 : (a0_2.toList != ([] : List UInt8)) = false := bne_eq_false_iff_eq.mpr c42
        clear c42
        simp only [Option.some.injEq, Prod.mk.injEq] at H
        obtain ⟨rfl, rfl, rfl, rfl⟩ := H
        go_wp2_with (first | ((with_reducible refine gate_dst (N := 1) rfl ?_); refine bx_ 1 28 #[.bool false, .string a0_1, .string a0_2] (h := ?_); intro gb160 hg w43 hbox hb; have BK160 := Aside0.mk (hbox); have GW160 := pkG HB hg; have GE160 := GW160; replace HB := pkB HB hb; clear hb hbox hg) | ((with_reducible refine gate_dst (N := 2) rfl ?_); refine bx_ 2 43 #[.int .i64 0, .string (⟨#[]⟩ : ByteArray), .int .i64 0, .string (⟨#[]⟩ : ByteArray)] (h := ?_); intro gb161 hg w44 hbox hb; have BK161 := Aside0.mk (hbox); have GW161 := pkG HB hg; have GE161 := GW161; obtain ⟨NB160_161, NB161_160, _, _⟩ := pkQ BK160 hg; replace BK160 := pkK BK160 hb; replace HB := pkB HB hb; clear hb hbox hg; have hnb45 := NB160_161.out; have hnc45 := NB161_160.out; obtain ⟨⟨hcz46_0, hcz46_1, hcz46_2⟩, hfz46_0, hfz46_1, hfz46_2⟩ := pk3 BK160) | ((with_reducible refine gate_callee (f := 19) rfl ?_); refine gl_ 7 Tryz.func19 #[.int .i64 (-1)] (h := ?_); (with_reducible refine (interval_infinite.calls (-1) t166 t167 _ A10.out).mono ?_); rintro e w47 ⟨rfl, hb⟩; refine ⟨_, rfl, ?_⟩; replace BK160 := pkK BK160 hb; replace BK161 := pkK BK161 hb; replace HB := pkB HB hb; try clear hb) | ((with_reducible refine gate_callee (f := 19) rfl ?_); refine gl_ 8 Tryz.func19 #[.int .i64 1] (h := ?_); (with_reducible refine (interval_infinite.calls 1 t168 t169 _ A11.out).mono ?_); rintro e w48 ⟨rfl, hb⟩; refine ⟨_, rfl, ?_⟩; replace BK160 := pkK BK160 hb; replace BK161 := pkK BK161 hb; replace HB := pkB HB hb; try clear hb) | ((with_reducible refine gate_dst (N := 3) rfl ?_); refine bx_ 3 43 #[.int .i64 0, .string (⟨#[]⟩ : ByteArray), .int .i64 0, .string (⟨#[]⟩ : ByteArray)] (h := ?_); intro gb170 hg w49 hbox hb; have BK170 := Aside0.mk (hbox); have GW170 := pkG HB hg; have GE170 := GW170; obtain ⟨NB160_170, NB170_160, hnb50, hnc50⟩ := pkQ BK160 hg; obtain ⟨NB161_170, NB170_161, hnb51, hnc51⟩ := pkQ BK161 hg; replace BK160 := pkK BK160 hb; replace BK161 := pkK BK161 hb; replace HB := pkB HB hb; clear hb hbox hg; have hcz52_0 : w49.cell? ⟨gb170, 0, none⟩ = some (.int .i64 0) := (blk_cell BK170.out 0).trans rfl; have hcz52_1 : w49.cell? ⟨gb170, 1, none⟩ = some (.string (⟨#[]⟩ : ByteArray)) := (blk_cell BK170.out 1).trans rfl; have hcz52_2 : w49.cell? ⟨gb170, 2, none⟩ = some (.int .i64 0) := (blk_cell BK170.out 2).trans rfl; have hcz52_3 : w49.cell? ⟨gb170, 3, none⟩ = some (.string (⟨#[]⟩ : ByteArray)) := (blk_cell BK170.out 3).trans rfl; have hfz52_0 := blk_frozen BK170.out 0; have hfz52_1 := blk_frozen BK170.out 1; have hfz52_2 := blk_frozen BK170.out 2; have hfz52_3 := blk_frozen BK170.out 3; obtain ⟨⟨hcz53_0, hcz53_1, hcz53_2⟩, hfz53_0, hfz53_1, hfz53_2⟩ := pk3 BK160) | ((with_reducible refine gate_callee (f := 20) rfl ?_); refine gl_ 15 Tryz.func20 #[.string a0_1] (h := ?_); (with_reducible refine (interval_finite.calls a0_1 t173 t174 _ A41.out).mono ?_); rintro e w54 ⟨rfl, hb⟩; refine ⟨_, rfl, ?_⟩; replace BK160 := pkF BK160 hb; replace BK161 := pkF BK161 hb; replace BK170 := Aside0.mk (blk_below (g := gb170) (o := .cells #[.int .i64 t166, .string t167, .int .i64 t168, .string t169] 43 (0, 0)) (pkS4 BK170) hb); replace HB := pkB HB hb; try clear hb; have hcz55_0 : w54.cell? ⟨gb170, 0, none⟩ = some (.int .i64 t166) := (blk_cell BK170.out 0).trans rfl; have hcz55_1 : w54.cell? ⟨gb170, 1, none⟩ = some (.string t167) := (blk_cell BK170.out 1).trans rfl; have hcz55_2 : w54.cell? ⟨gb170, 2, none⟩ = some (.int .i64 t168) := (blk_cell BK170.out 2).trans rfl; have hcz55_3 : w54.cell? ⟨gb170, 3, none⟩ = some (.string t169) := (blk_cell BK170.out 3).trans rfl; have hfz55_0 := blk_frozen BK170.out 0; have hfz55_1 := blk_frozen BK170.out 1; have hfz55_2 := blk_frozen BK170.out 2; have hfz55_3 := blk_frozen BK170.out 3; obtain ⟨⟨hcz56_0, hcz56_1, hcz56_2⟩, hfz56_0, hfz56_1, hfz56_2⟩ := pk3 BK160; have hcz57_0 : w54.cell? ⟨gb161, 0, none⟩ = some (.int .i64 0) := (blk_cell BK161.out 0).trans rfl; have hcz57_1 : w54.cell? ⟨gb161, 1, none⟩ = some (.string (⟨#[]⟩ : ByteArray)) := (blk_cell BK161.out 1).trans rfl; have hcz57_2 : w54.cell? ⟨gb161, 2, none⟩ = some (.int .i64 0) := (blk_cell BK161.out 2).trans rfl; have hcz57_3 : w54.cell? ⟨gb161, 3, none⟩ = some (.string (⟨#[]⟩ : ByteArray)) := (blk_cell BK161.out 3).trans rfl; have hfz57_0 := blk_frozen BK161.out 0; have hfz57_1 := blk_frozen BK161.out 1; have hfz57_2 := blk_frozen BK161.out 2; have hfz57_3 := blk_frozen BK161.out 3))
        refine bodyPost_ret (results_cell_row rfl _ _ gb161 43 #[.int .i64 t173, .string t174, .int .i64 t168, .string t169] (0, 0) _ rfl (pkS4 BK161) Tryz.underlying43 rfl (by kernel_rfl)) rfl ?_
        exact pkE HB
      · rw [if_neg c42] at H
        have c42b0 : (a0_2.toList == ([] : List UInt8)) = false := beq_eq_false_iff_ne.mpr c42
        have c42b1 : (a0_2.toList != ([] : List UInt8)) = true := bne_iff_ne.mpr c42
        obtain ⟨⟨t175, t176⟩, A58, H⟩ := bi H
        try dsimp only at H
        simp only [Option.some.injEq, Prod.mk.injEq] at H
        obtain ⟨rfl, rfl, rfl, rfl⟩ := H
        go_wp2_with (first | ((with_reducible refine gate_dst (N := 1) rfl ?_); refine bx_ 1 28 #[.bool false, .string a0_1, .string a0_2] (h := ?_); intro gb160 hg w59 hbox hb; have BK160 := Aside0.mk (hbox); have GW160 := pkG HB hg; have GE160 := GW160; replace HB := pkB HB hb; clear hb hbox hg) | ((with_reducible refine gate_dst (N := 2) rfl ?_); refine bx_ 2 43 #[.int .i64 0, .string (⟨#[]⟩ : ByteArray), .int .i64 0, .string (⟨#[]⟩ : ByteArray)] (h := ?_); intro gb161 hg w60 hbox hb; have BK161 := Aside0.mk (hbox); have GW161 := pkG HB hg; have GE161 := GW161; obtain ⟨NB160_161, NB161_160, _, _⟩ := pkQ BK160 hg; replace BK160 := pkK BK160 hb; replace HB := pkB HB hb; clear hb hbox hg; have hnb61 := NB160_161.out; have hnc61 := NB161_160.out; obtain ⟨⟨hcz62_0, hcz62_1, hcz62_2⟩, hfz62_0, hfz62_1, hfz62_2⟩ := pk3 BK160) | ((with_reducible refine gate_callee (f := 19) rfl ?_); refine gl_ 7 Tryz.func19 #[.int .i64 (-1)] (h := ?_); (with_reducible refine (interval_infinite.calls (-1) t166 t167 _ A10.out).mono ?_); rintro e w63 ⟨rfl, hb⟩; refine ⟨_, rfl, ?_⟩; replace BK160 := pkK BK160 hb; replace BK161 := pkK BK161 hb; replace HB := pkB HB hb; try clear hb) | ((with_reducible refine gate_callee (f := 19) rfl ?_); refine gl_ 8 Tryz.func19 #[.int .i64 1] (h := ?_); (with_reducible refine (interval_infinite.calls 1 t168 t169 _ A11.out).mono ?_); rintro e w64 ⟨rfl, hb⟩; refine ⟨_, rfl, ?_⟩; replace BK160 := pkK BK160 hb; replace BK161 := pkK BK161 hb; replace HB := pkB HB hb; try clear hb) | ((with_reducible refine gate_dst (N := 3) rfl ?_); refine bx_ 3 43 #[.int .i64 0, .string (⟨#[]⟩ : ByteArray), .int .i64 0, .string (⟨#[]⟩ : ByteArray)] (h := ?_); intro gb170 hg w65 hbox hb; have BK170 := Aside0.mk (hbox); have GW170 := pkG HB hg; have GE170 := GW170; obtain ⟨NB160_170, NB170_160, hnb66, hnc66⟩ := pkQ BK160 hg; obtain ⟨NB161_170, NB170_161, hnb67, hnc67⟩ := pkQ BK161 hg; replace BK160 := pkK BK160 hb; replace BK161 := pkK BK161 hb; replace HB := pkB HB hb; clear hb hbox hg; have hcz68_0 : w65.cell? ⟨gb170, 0, none⟩ = some (.int .i64 0) := (blk_cell BK170.out 0).trans rfl; have hcz68_1 : w65.cell? ⟨gb170, 1, none⟩ = some (.string (⟨#[]⟩ : ByteArray)) := (blk_cell BK170.out 1).trans rfl; have hcz68_2 : w65.cell? ⟨gb170, 2, none⟩ = some (.int .i64 0) := (blk_cell BK170.out 2).trans rfl; have hcz68_3 : w65.cell? ⟨gb170, 3, none⟩ = some (.string (⟨#[]⟩ : ByteArray)) := (blk_cell BK170.out 3).trans rfl; have hfz68_0 := blk_frozen BK170.out 0; have hfz68_1 := blk_frozen BK170.out 1; have hfz68_2 := blk_frozen BK170.out 2; have hfz68_3 := blk_frozen BK170.out 3; obtain ⟨⟨hcz69_0, hcz69_1, hcz69_2⟩, hfz69_0, hfz69_1, hfz69_2⟩ := pk3 BK160) | ((with_reducible refine gate_callee (f := 20) rfl ?_); refine gl_ 15 Tryz.func20 #[.string a0_1] (h := ?_); (with_reducible refine (interval_finite.calls a0_1 t173 t174 _ A41.out).mono ?_); rintro e w70 ⟨rfl, hb⟩; refine ⟨_, rfl, ?_⟩; replace BK160 := pkF BK160 hb; replace BK161 := pkF BK161 hb; replace BK170 := Aside0.mk (blk_below (g := gb170) (o := .cells #[.int .i64 t166, .string t167, .int .i64 t168, .string t169] 43 (0, 0)) (pkS4 BK170) hb); replace HB := pkB HB hb; try clear hb; have hcz71_0 : w70.cell? ⟨gb170, 0, none⟩ = some (.int .i64 t166) := (blk_cell BK170.out 0).trans rfl; have hcz71_1 : w70.cell? ⟨gb170, 1, none⟩ = some (.string t167) := (blk_cell BK170.out 1).trans rfl; have hcz71_2 : w70.cell? ⟨gb170, 2, none⟩ = some (.int .i64 t168) := (blk_cell BK170.out 2).trans rfl; have hcz71_3 : w70.cell? ⟨gb170, 3, none⟩ = some (.string t169) := (blk_cell BK170.out 3).trans rfl; have hfz71_0 := blk_frozen BK170.out 0; have hfz71_1 := blk_frozen BK170.out 1; have hfz71_2 := blk_frozen BK170.out 2; have hfz71_3 := blk_frozen BK170.out 3; obtain ⟨⟨hcz72_0, hcz72_1, hcz72_2⟩, hfz72_0, hfz72_1, hfz72_2⟩ := pk3 BK160) | ((with_reducible refine gate_callee (f := 20) rfl ?_); refine gl_ 22 Tryz.func20 #[.string a0_2] (h := ?_); (with_reducible refine (interval_finite.calls a0_2 t175 t176 _ A58.out).mono ?_); rintro e w73 ⟨rfl, hb⟩; refine ⟨_, rfl, ?_⟩; replace BK160 := pkF BK160 hb; replace BK161 := pkF BK161 hb; replace BK170 := Aside0.mk (blk_below (g := gb170) (o := .cells #[.int .i64 t173, .string t174, .int .i64 t168, .string t169] 43 (0, 0)) (by (with_reducible repeat (first | refine blk_drewN ?_ _ | refine blk_drew ?_ | refine blk_alloc ?_ _)); refine blk_put (cs := #[.int .i64 t173, .string t167, .int .i64 t168, .string t169]) ?_ 1 _ rfl; (with_reducible repeat (first | refine blk_drewN ?_ _ | refine blk_drew ?_ | refine blk_alloc ?_ _)); refine blk_put (cs := #[.int .i64 t166, .string t167, .int .i64 t168, .string t169]) ?_ 0 _ rfl; (with_reducible repeat (first | refine blk_drewN ?_ _ | refine blk_drew ?_ | refine blk_alloc ?_ _)); exact BK170.out) hb); replace HB := pkB HB hb; try clear hb; have hcz74_0 : w73.cell? ⟨gb170, 0, none⟩ = some (.int .i64 t173) := (blk_cell BK170.out 0).trans rfl; have hcz74_1 : w73.cell? ⟨gb170, 1, none⟩ = some (.string t174) := (blk_cell BK170.out 1).trans rfl; have hcz74_2 : w73.cell? ⟨gb170, 2, none⟩ = some (.int .i64 t168) := (blk_cell BK170.out 2).trans rfl; have hcz74_3 : w73.cell? ⟨gb170, 3, none⟩ = some (.string t169) := (blk_cell BK170.out 3).trans rfl; have hfz74_0 := blk_frozen BK170.out 0; have hfz74_1 := blk_frozen BK170.out 1; have hfz74_2 := blk_frozen BK170.out 2; have hfz74_3 := blk_frozen BK170.out 3; have hcz75_0 : w73.cell? ⟨gb161, 0, none⟩ = some (.int .i64 0) := (blk_cell BK161.out 0).trans rfl; have hcz75_1 : w73.cell? ⟨gb161, 1, none⟩ = some (.string (⟨#[]⟩ : ByteArray)) := (blk_cell BK161.out 1).trans rfl; have hcz75_2 : w73.cell? ⟨gb161, 2, none⟩ = some (.int .i64 0) := (blk_cell BK161.out 2).trans rfl; have hcz75_3 : w73.cell? ⟨gb161, 3, none⟩ = some (.string (⟨#[]⟩ : ByteArray)) := (blk_cell BK161.out 3).trans rfl; have hfz75_0 := blk_frozen BK161.out 0; have hfz75_1 := blk_frozen BK161.out 1; have hfz75_2 := blk_frozen BK161.out 2; have hfz75_3 := blk_frozen BK161.out 3))
        refine bodyPost_ret (results_cell_row rfl _ _ gb161 43 #[.int .i64 t173, .string t174, .int .i64 t175, .string t176] (0, 0) _ rfl (pkS4 BK161) Tryz.underlying43 rfl (by kernel_rfl)) rfl ?_
        exact pkE HB
def interval_compare.f (a0_0 : Int) (a0_1 : ByteArray) (a1_0 : Int) (a1_1 : ByteArray) : Option (Int) := if a0_0 = 0 then (if a1_0 = 0 then ((interval_order.f a0_1 a1_1).bind fun t179 => (some t179)) else (some (wrap64 (a0_0 - a1_0)))) else (some (wrap64 (a0_0 - a1_0)))
set_option maxHeartbeats 8000000 in
set_option maxRecDepth 100000 in
theorem interval_compare.calls (a0_0 : Int) (a0_1 : ByteArray) (a1_0 : Int) (a1_1 : ByteArray) (r : Int) (w : World) (h : interval_compare.f a0_0 a0_1 a1_0 a1_1 = some r) :
    Calls Tryz.prog 18 #[.agg #[.int .i64 a0_0, .string a0_1], .agg #[.int .i64 a1_0, .string a1_1]] w fun e w' => e = .returned (.int .i64 r) ∧ Below w.heap.size w w' := by
  have hu41 := Tryz.underlying41
  have HB := Aside0.mk (Below.refl w.heap.size w)
  have H : (if a0_0 = 0 then (if a1_0 = 0 then ((interval_order.f a0_1 a1_1).bind fun t179 => (some t179)) else (some (wrap64 (a0_0 - a1_0)))) else (some (wrap64 (a0_0 - a1_0)))) = some r := h
  clear h
  go_enter Tryz.func18, Tryz.ntmps18
  refine byC (P := a0_0 = 0) (fun c3 => ?a1) (fun c3 => ?b1)
  case' a1 =>
    rw [if_pos c3] at H
    have c3b0 : (a0_0 == 0) = true := beq_iff_eq.mpr c3
    have c3b1 : (a0_0 != 0) = false := bne_eq_false_iff_eq.mpr c3
    clear c3
    refine byC (P := a1_0 = 0) (fun c4 => ?a2) (fun c4 => ?b2)
    case' a2 =>
      rw [if_pos c4] at H
      have c4b0 : (a1_0 == 0) = true := beq_iff_eq.mpr c4
      have c4b1 : (a1_0 != 0) = false := bne_eq_false_iff_eq.mpr c4
      clear c4
      obtain ⟨t179, A5, H⟩ := bi H
      try dsimp only at H
      obtain rfl := Option.some.inj H
    case' b2 =>
      rw [if_neg c4] at H
      have c4b0 : (a1_0 == 0) = false := beq_eq_false_iff_ne.mpr c4
      have c4b1 : (a1_0 != 0) = true := bne_iff_ne.mpr c4
      obtain rfl := Option.some.inj H
  case' b1 =>
    rw [if_neg c3] at H
    have c3b0 : (a0_0 == 0) = false := beq_eq_false_iff_ne.mpr c3
    have c3b1 : (a0_0 != 0) = true := bne_iff_ne.mpr c3
    obtain rfl := Option.some.inj H
  all_goals
    go_wp2_with (first | ((with_reducible refine gate_dst (N := 2) rfl ?_); refine bx_ 2 41 #[.int .i64 a0_0, .string a0_1] (h := ?_); intro gb177 hg w6 hbox hb; have BK177 := Aside0.mk (hbox); have GW177 := pkG HB hg; have GE177 := GW177; replace HB := pkB HB hb; clear hb hbox hg) | ((with_reducible refine gate_dst (N := 3) rfl ?_); refine bx_ 3 41 #[.int .i64 a1_0, .string a1_1] (h := ?_); intro gb178 hg w7 hbox hb; have BK178 := Aside0.mk (hbox); have GW178 := pkG HB hg; have GE178 := GW178; obtain ⟨NB177_178, NB178_177, _, _⟩ := pkQ BK177 hg; replace BK177 := pkK BK177 hb; replace HB := pkB HB hb; clear hb hbox hg; have hcz9_0 : w7.cell? ⟨gb177, 0, none⟩ = some (.int .i64 a0_0) := (blk_cell BK177.out 0).trans rfl; have hcz9_1 : w7.cell? ⟨gb177, 1, none⟩ = some (.string a0_1) := (blk_cell BK177.out 1).trans rfl; have hfz9_0 := blk_frozen BK177.out 0; have hfz9_1 := blk_frozen BK177.out 1; have hcz10_0 : w7.cell? ⟨gb178, 0, none⟩ = some (.int .i64 a1_0) := (blk_cell BK178.out 0).trans rfl; have hcz10_1 : w7.cell? ⟨gb178, 1, none⟩ = some (.string a1_1) := (blk_cell BK178.out 1).trans rfl; have hfz10_0 := blk_frozen BK178.out 0; have hfz10_1 := blk_frozen BK178.out 1; have hnb8 := NB177_178.out; have hnc8 := NB178_177.out) | ((with_reducible refine gate_callee (f := 26) rfl ?_); refine gl_ 22 Tryz.func26 #[.string a0_1, .string a1_1] (h := ?_); (with_reducible refine (interval_order.calls a0_1 a1_1 t179 _ A5.out).mono ?_); rintro e w11 ⟨rfl, hb⟩; refine ⟨_, rfl, ?_⟩; replace BK177 := pkK BK177 hb; replace BK178 := pkK BK178 hb; replace HB := pkB HB hb; try clear hb))
    go_ret
    exact pkE HB
def interval_span_empty.f (a0_0 : Int) (a0_1 : ByteArray) (a0_2 : Int) (a0_3 : ByteArray) : Option (Bool) := (interval_compare.f a0_0 a0_1 a0_2 a0_3).bind fun t181 => (some (decide (t181 > 0)))
set_option maxHeartbeats 8000000 in
set_option maxRecDepth 100000 in
theorem interval_span_empty.calls (a0_0 : Int) (a0_1 : ByteArray) (a0_2 : Int) (a0_3 : ByteArray) (r : Bool) (w : World) (h : interval_span_empty.f a0_0 a0_1 a0_2 a0_3 = some r) :
    Calls Tryz.prog 15 #[.agg #[.int .i64 a0_0, .string a0_1, .int .i64 a0_2, .string a0_3]] w fun e w' => e = .returned (.bool r) ∧ Below w.heap.size w w' := by
  have hu43 := Tryz.underlying43
  have hu41 := Tryz.underlying41
  have HB := Aside0.mk (Below.refl w.heap.size w)
  have H : ((interval_compare.f a0_0 a0_1 a0_2 a0_3).bind fun t181 => (some (decide (t181 > 0)))) = some r := h
  clear h
  obtain ⟨t181, A2, H⟩ := bi H
  try dsimp only at H
  obtain rfl := Option.some.inj H
  go_enter Tryz.func15, Tryz.ntmps15
  go_wp2_with (first | ((with_reducible refine gate_dst (N := 1) rfl ?_); refine bx_ 1 43 #[.int .i64 a0_0, .string a0_1, .int .i64 a0_2, .string a0_3] (h := ?_); intro gb180 hg w3 hbox hb; have BK180 := Aside0.mk (hbox); have GW180 := pkG HB hg; have GE180 := GW180; replace HB := pkB HB hb; clear hb hbox hg; have hcz4_0 : w3.cell? ⟨gb180, 0, none⟩ = some (.int .i64 a0_0) := (blk_cell BK180.out 0).trans rfl; have hcz4_1 : w3.cell? ⟨gb180, 1, none⟩ = some (.string a0_1) := (blk_cell BK180.out 1).trans rfl; have hcz4_2 : w3.cell? ⟨gb180, 2, none⟩ = some (.int .i64 a0_2) := (blk_cell BK180.out 2).trans rfl; have hcz4_3 : w3.cell? ⟨gb180, 3, none⟩ = some (.string a0_3) := (blk_cell BK180.out 3).trans rfl; have hfz4_0 := blk_frozen BK180.out 0; have hfz4_1 := blk_frozen BK180.out 1; have hfz4_2 := blk_frozen BK180.out 2; have hfz4_3 := blk_frozen BK180.out 3) | ((with_reducible refine gate_callee (f := 18) rfl ?_); refine gl_ 7 Tryz.func18 #[.agg #[.int .i64 a0_0, .string a0_1], .agg #[.int .i64 a0_2, .string a0_3]] (h := ?_); (with_reducible refine (interval_compare.calls a0_0 a0_1 a0_2 a0_3 t181 _ A2.out).mono ?_); rintro e w5 ⟨rfl, hb⟩; refine ⟨_, rfl, ?_⟩; replace BK180 := pkK BK180 hb; replace HB := pkB HB hb; try clear hb))
  go_ret
  exact pkE HB
def interval_least.f (a0_0 : Int) (a0_1 : ByteArray) (a1_0 : Int) (a1_1 : ByteArray) : Option (Int × ByteArray) := (interval_compare.f a1_0 a1_1 a0_0 a0_1).bind fun t185 => (if t185 < 0 then (some (a1_0, a1_1)) else (some (a0_0, a0_1)))
set_option maxHeartbeats 8000000 in
set_option maxRecDepth 100000 in
theorem interval_least.calls (a0_0 : Int) (a0_1 : ByteArray) (a1_0 : Int) (a1_1 : ByteArray) (r1 : Int) (r2 : ByteArray) (w : World) (h : interval_least.f a0_0 a0_1 a1_0 a1_1 = some (r1, r2)) :
    Calls Tryz.prog 28 #[.agg #[.int .i64 a0_0, .string a0_1], .agg #[.int .i64 a1_0, .string a1_1]] w fun e w' => e = .returned (.agg #[.int .i64 r1, .string r2]) ∧ Below w.heap.size w w' := by
  have hu41 := Tryz.underlying41
  have HB := Aside0.mk (Below.refl w.heap.size w)
  have H : ((interval_compare.f a1_0 a1_1 a0_0 a0_1).bind fun t185 => (if t185 < 0 then (some (a1_0, a1_1)) else (some (a0_0, a0_1)))) = some (r1, r2) := h
  clear h
  obtain ⟨t185, A3, H⟩ := bi H
  try dsimp only at H
  go_enter Tryz.func28, Tryz.ntmps28
  by_cases c4 : t185 < 0
  · rw [if_pos c4] at H
    have c4b0 : decide (t185 < 0) = true := decide_eq_true c4
    clear c4
    simp only [Option.some.injEq, Prod.mk.injEq] at H
    obtain ⟨rfl, rfl⟩ := H
    go_wp2_with (first | ((with_reducible refine gate_dst (N := 2) rfl ?_); refine bx_ 2 41 #[.int .i64 a0_0, .string a0_1] (h := ?_); intro gb182 hg w5 hbox hb; have BK182 := Aside0.mk (hbox); have GW182 := pkG HB hg; have GE182 := GW182; replace HB := pkB HB hb; clear hb hbox hg) | ((with_reducible refine gate_dst (N := 3) rfl ?_); refine bx_ 3 41 #[.int .i64 a1_0, .string a1_1] (h := ?_); intro gb183 hg w6 hbox hb; have BK183 := Aside0.mk (hbox); have GW183 := pkG HB hg; have GE183 := GW183; obtain ⟨NB182_183, NB183_182, _, _⟩ := pkQ BK182 hg; replace BK182 := pkK BK182 hb; replace HB := pkB HB hb; clear hb hbox hg) | ((with_reducible refine gate_dst (N := 4) rfl ?_); refine bx_ 4 41 #[.int .i64 0, .string (⟨#[]⟩ : ByteArray)] (h := ?_); intro gb184 hg w7 hbox hb; have BK184 := Aside0.mk (hbox); have GW184 := pkG HB hg; have GE184 := GW184; obtain ⟨NB182_184, NB184_182, _, _⟩ := pkQ BK182 hg; obtain ⟨NB183_184, NB184_183, _, _⟩ := pkQ BK183 hg; replace BK182 := pkK BK182 hb; replace BK183 := pkK BK183 hb; replace HB := pkB HB hb; clear hb hbox hg; have hnb8 := NB183_182.out; have hnc8 := NB182_183.out; have hnb9 := NB183_184.out; have hnc9 := NB184_183.out; have hcz10_0 : w7.cell? ⟨gb183, 0, none⟩ = some (.int .i64 a1_0) := (blk_cell BK183.out 0).trans rfl; have hcz10_1 : w7.cell? ⟨gb183, 1, none⟩ = some (.string a1_1) := (blk_cell BK183.out 1).trans rfl; have hfz10_0 := blk_frozen BK183.out 0; have hfz10_1 := blk_frozen BK183.out 1; have hnb11 := NB182_184.out; have hnc11 := NB184_182.out; have hcz12_0 : w7.cell? ⟨gb182, 0, none⟩ = some (.int .i64 a0_0) := (blk_cell BK182.out 0).trans rfl; have hcz12_1 : w7.cell? ⟨gb182, 1, none⟩ = some (.string a0_1) := (blk_cell BK182.out 1).trans rfl; have hfz12_0 := blk_frozen BK182.out 0; have hfz12_1 := blk_frozen BK182.out 1) | ((with_reducible refine gate_callee (f := 18) rfl ?_); refine gl_ 7 Tryz.func18 #[.agg #[.int .i64 a1_0, .string a1_1], .agg #[.int .i64 a0_0, .string a0_1]] (h := ?_); (with_reducible refine (interval_compare.calls a1_0 a1_1 a0_0 a0_1 t185 _ A3.out).mono ?_); rintro e w13 ⟨rfl, hb⟩; refine ⟨_, rfl, ?_⟩; replace BK182 := pkK BK182 hb; replace BK183 := pkK BK183 hb; replace BK184 := pkK BK184 hb; replace HB := pkB HB hb; try clear hb; have hcz14_0 : w13.cell? ⟨gb183, 0, none⟩ = some (.int .i64 a1_0) := (blk_cell BK183.out 0).trans rfl; have hcz14_1 : w13.cell? ⟨gb183, 1, none⟩ = some (.string a1_1) := (blk_cell BK183.out 1).trans rfl; have hfz14_0 := blk_frozen BK183.out 0; have hfz14_1 := blk_frozen BK183.out 1; have hcz15_0 : w13.cell? ⟨gb184, 0, none⟩ = some (.int .i64 0) := (blk_cell BK184.out 0).trans rfl; have hcz15_1 : w13.cell? ⟨gb184, 1, none⟩ = some (.string (⟨#[]⟩ : ByteArray)) := (blk_cell BK184.out 1).trans rfl; have hfz15_0 := blk_frozen BK184.out 0; have hfz15_1 := blk_frozen BK184.out 1))
    refine bodyPost_ret (results_cell_row rfl _ _ gb184 41 #[.int .i64 a1_0, .string a1_1] (0, 0) _ rfl (pkS2 BK184) Tryz.underlying41 rfl (by kernel_rfl)) rfl ?_
    exact pkE HB
  · rw [if_neg c4] at H
    have c4b0 : decide (t185 < 0) = false := decide_eq_false c4
    clear c4
    simp only [Option.some.injEq, Prod.mk.injEq] at H
    obtain ⟨rfl, rfl⟩ := H
    go_wp2_with (first | ((with_reducible refine gate_dst (N := 2) rfl ?_); refine bx_ 2 41 #[.int .i64 a0_0, .string a0_1] (h := ?_); intro gb182 hg w16 hbox hb; have BK182 := Aside0.mk (hbox); have GW182 := pkG HB hg; have GE182 := GW182; replace HB := pkB HB hb; clear hb hbox hg) | ((with_reducible refine gate_dst (N := 3) rfl ?_); refine bx_ 3 41 #[.int .i64 a1_0, .string a1_1] (h := ?_); intro gb183 hg w17 hbox hb; have BK183 := Aside0.mk (hbox); have GW183 := pkG HB hg; have GE183 := GW183; obtain ⟨NB182_183, NB183_182, _, _⟩ := pkQ BK182 hg; replace BK182 := pkK BK182 hb; replace HB := pkB HB hb; clear hb hbox hg) | ((with_reducible refine gate_dst (N := 4) rfl ?_); refine bx_ 4 41 #[.int .i64 0, .string (⟨#[]⟩ : ByteArray)] (h := ?_); intro gb184 hg w18 hbox hb; have BK184 := Aside0.mk (hbox); have GW184 := pkG HB hg; have GE184 := GW184; obtain ⟨NB182_184, NB184_182, _, _⟩ := pkQ BK182 hg; obtain ⟨NB183_184, NB184_183, _, _⟩ := pkQ BK183 hg; replace BK182 := pkK BK182 hb; replace BK183 := pkK BK183 hb; replace HB := pkB HB hb; clear hb hbox hg; have hnb19 := NB183_182.out; have hnc19 := NB182_183.out; have hnb20 := NB183_184.out; have hnc20 := NB184_183.out; have hcz21_0 : w18.cell? ⟨gb183, 0, none⟩ = some (.int .i64 a1_0) := (blk_cell BK183.out 0).trans rfl; have hcz21_1 : w18.cell? ⟨gb183, 1, none⟩ = some (.string a1_1) := (blk_cell BK183.out 1).trans rfl; have hfz21_0 := blk_frozen BK183.out 0; have hfz21_1 := blk_frozen BK183.out 1; have hnb22 := NB182_184.out; have hnc22 := NB184_182.out; have hcz23_0 : w18.cell? ⟨gb182, 0, none⟩ = some (.int .i64 a0_0) := (blk_cell BK182.out 0).trans rfl; have hcz23_1 : w18.cell? ⟨gb182, 1, none⟩ = some (.string a0_1) := (blk_cell BK182.out 1).trans rfl; have hfz23_0 := blk_frozen BK182.out 0; have hfz23_1 := blk_frozen BK182.out 1) | ((with_reducible refine gate_callee (f := 18) rfl ?_); refine gl_ 7 Tryz.func18 #[.agg #[.int .i64 a1_0, .string a1_1], .agg #[.int .i64 a0_0, .string a0_1]] (h := ?_); (with_reducible refine (interval_compare.calls a1_0 a1_1 a0_0 a0_1 t185 _ A3.out).mono ?_); rintro e w24 ⟨rfl, hb⟩; refine ⟨_, rfl, ?_⟩; replace BK182 := pkK BK182 hb; replace BK183 := pkK BK183 hb; replace BK184 := pkK BK184 hb; replace HB := pkB HB hb; try clear hb; have hcz25_0 : w24.cell? ⟨gb182, 0, none⟩ = some (.int .i64 a0_0) := (blk_cell BK182.out 0).trans rfl; have hcz25_1 : w24.cell? ⟨gb182, 1, none⟩ = some (.string a0_1) := (blk_cell BK182.out 1).trans rfl; have hfz25_0 := blk_frozen BK182.out 0; have hfz25_1 := blk_frozen BK182.out 1; have hcz26_0 : w24.cell? ⟨gb184, 0, none⟩ = some (.int .i64 0) := (blk_cell BK184.out 0).trans rfl; have hcz26_1 : w24.cell? ⟨gb184, 1, none⟩ = some (.string (⟨#[]⟩ : ByteArray)) := (blk_cell BK184.out 1).trans rfl; have hfz26_0 := blk_frozen BK184.out 0; have hfz26_1 := blk_frozen BK184.out 1))
    refine bodyPost_ret (results_cell_row rfl _ _ gb184 41 #[.int .i64 a0_0, .string a0_1] (0, 0) _ rfl (pkS2 BK184) Tryz.underlying41 rfl (by kernel_rfl)) rfl ?_
    exact pkE HB
def interval_most.f (a0_0 : Int) (a0_1 : ByteArray) (a1_0 : Int) (a1_1 : ByteArray) : Option (Int × ByteArray) := (interval_compare.f a1_0 a1_1 a0_0 a0_1).bind fun t189 => (if t189 > 0 then (some (a1_0, a1_1)) else (some (a0_0, a0_1)))
set_option maxHeartbeats 8000000 in
set_option maxRecDepth 100000 in
theorem interval_most.calls (a0_0 : Int) (a0_1 : ByteArray) (a1_0 : Int) (a1_1 : ByteArray) (r1 : Int) (r2 : ByteArray) (w : World) (h : interval_most.f a0_0 a0_1 a1_0 a1_1 = some (r1, r2)) :
    Calls Tryz.prog 29 #[.agg #[.int .i64 a0_0, .string a0_1], .agg #[.int .i64 a1_0, .string a1_1]] w fun e w' => e = .returned (.agg #[.int .i64 r1, .string r2]) ∧ Below w.heap.size w w' := by
  have hu41 := Tryz.underlying41
  have HB := Aside0.mk (Below.refl w.heap.size w)
  have H : ((interval_compare.f a1_0 a1_1 a0_0 a0_1).bind fun t189 => (if t189 > 0 then (some (a1_0, a1_1)) else (some (a0_0, a0_1)))) = some (r1, r2) := h
  clear h
  obtain ⟨t189, A3, H⟩ := bi H
  try dsimp only at H
  go_enter Tryz.func29, Tryz.ntmps29
  by_cases c4 : t189 > 0
  · rw [if_pos c4] at H
    have c4b0 : decide (0 < t189) = true := decide_eq_true c4
    clear c4
    simp only [Option.some.injEq, Prod.mk.injEq] at H
    obtain ⟨rfl, rfl⟩ := H
    go_wp2_with (first | ((with_reducible refine gate_dst (N := 2) rfl ?_); refine bx_ 2 41 #[.int .i64 a0_0, .string a0_1] (h := ?_); intro gb186 hg w5 hbox hb; have BK186 := Aside0.mk (hbox); have GW186 := pkG HB hg; have GE186 := GW186; replace HB := pkB HB hb; clear hb hbox hg) | ((with_reducible refine gate_dst (N := 3) rfl ?_); refine bx_ 3 41 #[.int .i64 a1_0, .string a1_1] (h := ?_); intro gb187 hg w6 hbox hb; have BK187 := Aside0.mk (hbox); have GW187 := pkG HB hg; have GE187 := GW187; obtain ⟨NB186_187, NB187_186, _, _⟩ := pkQ BK186 hg; replace BK186 := pkK BK186 hb; replace HB := pkB HB hb; clear hb hbox hg) | ((with_reducible refine gate_dst (N := 4) rfl ?_); refine bx_ 4 41 #[.int .i64 0, .string (⟨#[]⟩ : ByteArray)] (h := ?_); intro gb188 hg w7 hbox hb; have BK188 := Aside0.mk (hbox); have GW188 := pkG HB hg; have GE188 := GW188; obtain ⟨NB186_188, NB188_186, _, _⟩ := pkQ BK186 hg; obtain ⟨NB187_188, NB188_187, _, _⟩ := pkQ BK187 hg; replace BK186 := pkK BK186 hb; replace BK187 := pkK BK187 hb; replace HB := pkB HB hb; clear hb hbox hg; have hnb8 := NB187_186.out; have hnc8 := NB186_187.out; have hnb9 := NB187_188.out; have hnc9 := NB188_187.out; have hcz10_0 : w7.cell? ⟨gb187, 0, none⟩ = some (.int .i64 a1_0) := (blk_cell BK187.out 0).trans rfl; have hcz10_1 : w7.cell? ⟨gb187, 1, none⟩ = some (.string a1_1) := (blk_cell BK187.out 1).trans rfl; have hfz10_0 := blk_frozen BK187.out 0; have hfz10_1 := blk_frozen BK187.out 1; have hnb11 := NB186_188.out; have hnc11 := NB188_186.out; have hcz12_0 : w7.cell? ⟨gb186, 0, none⟩ = some (.int .i64 a0_0) := (blk_cell BK186.out 0).trans rfl; have hcz12_1 : w7.cell? ⟨gb186, 1, none⟩ = some (.string a0_1) := (blk_cell BK186.out 1).trans rfl; have hfz12_0 := blk_frozen BK186.out 0; have hfz12_1 := blk_frozen BK186.out 1) | ((with_reducible refine gate_callee (f := 18) rfl ?_); refine gl_ 7 Tryz.func18 #[.agg #[.int .i64 a1_0, .string a1_1], .agg #[.int .i64 a0_0, .string a0_1]] (h := ?_); (with_reducible refine (interval_compare.calls a1_0 a1_1 a0_0 a0_1 t189 _ A3.out).mono ?_); rintro e w13 ⟨rfl, hb⟩; refine ⟨_, rfl, ?_⟩; replace BK186 := pkK BK186 hb; replace BK187 := pkK BK187 hb; replace BK188 := pkK BK188 hb; replace HB := pkB HB hb; try clear hb; have hcz14_0 : w13.cell? ⟨gb187, 0, none⟩ = some (.int .i64 a1_0) := (blk_cell BK187.out 0).trans rfl; have hcz14_1 : w13.cell? ⟨gb187, 1, none⟩ = some (.string a1_1) := (blk_cell BK187.out 1).trans rfl; have hfz14_0 := blk_frozen BK187.out 0; have hfz14_1 := blk_frozen BK187.out 1; have hcz15_0 : w13.cell? ⟨gb188, 0, none⟩ = some (.int .i64 0) := (blk_cell BK188.out 0).trans rfl; have hcz15_1 : w13.cell? ⟨gb188, 1, none⟩ = some (.string (⟨#[]⟩ : ByteArray)) := (blk_cell BK188.out 1).trans rfl; have hfz15_0 := blk_frozen BK188.out 0; have hfz15_1 := blk_frozen BK188.out 1))
    refine bodyPost_ret (results_cell_row rfl _ _ gb188 41 #[.int .i64 a1_0, .string a1_1] (0, 0) _ rfl (pkS2 BK188) Tryz.underlying41 rfl (by kernel_rfl)) rfl ?_
    exact pkE HB
  · rw [if_neg c4] at H
    have c4b0 : decide (0 < t189) = false := decide_eq_false c4
    clear c4
    simp only [Option.some.injEq, Prod.mk.injEq] at H
    obtain ⟨rfl, rfl⟩ := H
    go_wp2_with (first | ((with_reducible refine gate_dst (N := 2) rfl ?_); refine bx_ 2 41 #[.int .i64 a0_0, .string a0_1] (h := ?_); intro gb186 hg w16 hbox hb; have BK186 := Aside0.mk (hbox); have GW186 := pkG HB hg; have GE186 := GW186; replace HB := pkB HB hb; clear hb hbox hg) | ((with_reducible refine gate_dst (N := 3) rfl ?_); refine bx_ 3 41 #[.int .i64 a1_0, .string a1_1] (h := ?_); intro gb187 hg w17 hbox hb; have BK187 := Aside0.mk (hbox); have GW187 := pkG HB hg; have GE187 := GW187; obtain ⟨NB186_187, NB187_186, _, _⟩ := pkQ BK186 hg; replace BK186 := pkK BK186 hb; replace HB := pkB HB hb; clear hb hbox hg) | ((with_reducible refine gate_dst (N := 4) rfl ?_); refine bx_ 4 41 #[.int .i64 0, .string (⟨#[]⟩ : ByteArray)] (h := ?_); intro gb188 hg w18 hbox hb; have BK188 := Aside0.mk (hbox); have GW188 := pkG HB hg; have GE188 := GW188; obtain ⟨NB186_188, NB188_186, _, _⟩ := pkQ BK186 hg; obtain ⟨NB187_188, NB188_187, _, _⟩ := pkQ BK187 hg; replace BK186 := pkK BK186 hb; replace BK187 := pkK BK187 hb; replace HB := pkB HB hb; clear hb hbox hg; have hnb19 := NB187_186.out; have hnc19 := NB186_187.out; have hnb20 := NB187_188.out; have hnc20 := NB188_187.out; have hcz21_0 : w18.cell? ⟨gb187, 0, none⟩ = some (.int .i64 a1_0) := (blk_cell BK187.out 0).trans rfl; have hcz21_1 : w18.cell? ⟨gb187, 1, none⟩ = some (.string a1_1) := (blk_cell BK187.out 1).trans rfl; have hfz21_0 := blk_frozen BK187.out 0; have hfz21_1 := blk_frozen BK187.out 1; have hnb22 := NB186_188.out; have hnc22 := NB188_186.out; have hcz23_0 : w18.cell? ⟨gb186, 0, none⟩ = some (.int .i64 a0_0) := (blk_cell BK186.out 0).trans rfl; have hcz23_1 : w18.cell? ⟨gb186, 1, none⟩ = some (.string a0_1) := (blk_cell BK186.out 1).trans rfl; have hfz23_0 := blk_frozen BK186.out 0; have hfz23_1 := blk_frozen BK186.out 1) | ((with_reducible refine gate_callee (f := 18) rfl ?_); refine gl_ 7 Tryz.func18 #[.agg #[.int .i64 a1_0, .string a1_1], .agg #[.int .i64 a0_0, .string a0_1]] (h := ?_); (with_reducible refine (interval_compare.calls a1_0 a1_1 a0_0 a0_1 t189 _ A3.out).mono ?_); rintro e w24 ⟨rfl, hb⟩; refine ⟨_, rfl, ?_⟩; replace BK186 := pkK BK186 hb; replace BK187 := pkK BK187 hb; replace BK188 := pkK BK188 hb; replace HB := pkB HB hb; try clear hb; have hcz25_0 : w24.cell? ⟨gb186, 0, none⟩ = some (.int .i64 a0_0) := (blk_cell BK186.out 0).trans rfl; have hcz25_1 : w24.cell? ⟨gb186, 1, none⟩ = some (.string a0_1) := (blk_cell BK186.out 1).trans rfl; have hfz25_0 := blk_frozen BK186.out 0; have hfz25_1 := blk_frozen BK186.out 1; have hcz26_0 : w24.cell? ⟨gb188, 0, none⟩ = some (.int .i64 0) := (blk_cell BK188.out 0).trans rfl; have hcz26_1 : w24.cell? ⟨gb188, 1, none⟩ = some (.string (⟨#[]⟩ : ByteArray)) := (blk_cell BK188.out 1).trans rfl; have hfz26_0 := blk_frozen BK188.out 0; have hfz26_1 := blk_frozen BK188.out 1))
    refine bodyPost_ret (results_cell_row rfl _ _ gb188 41 #[.int .i64 a0_0, .string a0_1] (0, 0) _ rfl (pkS2 BK188) Tryz.underlying41 rfl (by kernel_rfl)) rfl ?_
    exact pkE HB
def interval_span_hull.f (a0_0 : Int) (a0_1 : ByteArray) (a0_2 : Int) (a0_3 : ByteArray) (a1_0 : Int) (a1_1 : ByteArray) (a1_2 : Int) (a1_3 : ByteArray) : Option (Int × ByteArray × Int × ByteArray) := (interval_span_empty.f a0_0 a0_1 a0_2 a0_3).bind fun t193 => (if t193 = true then (some (a1_0, a1_1, a1_2, a1_3)) else ((interval_span_empty.f a1_0 a1_1 a1_2 a1_3).bind fun t194 => (if t194 = true then (some (a0_0, a0_1, a0_2, a0_3)) else ((interval_least.f a0_0 a0_1 a1_0 a1_1).bind fun bt195 => ((interval_most.f a0_2 a0_3 a1_2 a1_3).bind fun bt197 => (some (bt195.1, bt195.2, bt197.1, bt197.2)))))))
def interval_span_hull.T5 : Bool × List (List Nat × List Nat) := (true, [([], []), ([0], [0]), ([], []), ([2], [2]), ([1, 3], [1, 3]), ([], []), ([5], [5]), ([], []), ([7], [7]), ([6, 8, 4], [6, 8]), ([4, 9], [4, 9]), ([10, 9, 0, 1, 2, 3, 4, 5, 6, 7, 8, 9, 10], [10])])
def interval_span_hull.B5 : List Nat := [0, 1, 0, 4, 15, 0, 32, 0, 128, 511, 1023, 2047]
theorem interval_span_hull.tab5 : rtab .any (opsOf Tryz.f16 5) = interval_span_hull.T5 := by kernel_rfl
theorem interval_span_hull.bits5 : waitsOk interval_span_hull.T5.2 interval_span_hull.B5 = true := by kernel_rfl
set_option maxHeartbeats 8000000 in
set_option maxRecDepth 100000 in
theorem interval_span_hull.calls (a0_0 : Int) (a0_1 : ByteArray) (a0_2 : Int) (a0_3 : ByteArray) (a1_0 : Int) (a1_1 : ByteArray) (a1_2 : Int) (a1_3 : ByteArray) (r1 : Int) (r2 : ByteArray) (r3 : Int) (r4 : ByteArray) (w : World) (h : interval_span_hull.f a0_0 a0_1 a0_2 a0_3 a1_0 a1_1 a1_2 a1_3 = some (r1, r2, r3, r4)) :
    Calls Tryz.prog 16 #[.agg #[.int .i64 a0_0, .string a0_1, .int .i64 a0_2, .string a0_3], .agg #[.int .i64 a1_0, .string a1_1, .int .i64 a1_2, .string a1_3]] w fun e w' => e = .returned (.agg #[.int .i64 r1, .string r2, .int .i64 r3, .string r4]) ∧ Below w.heap.size w w' := by
  have hu43 := Tryz.underlying43
  have hu41 := Tryz.underlying41
  have HB := Aside0.mk (Below.refl w.heap.size w)
  have H : ((interval_span_empty.f a0_0 a0_1 a0_2 a0_3).bind fun t193 => (if t193 = true then (some (a1_0, a1_1, a1_2, a1_3)) else ((interval_span_empty.f a1_0 a1_1 a1_2 a1_3).bind fun t194 => (if t194 = true then (some (a0_0, a0_1, a0_2, a0_3)) else ((interval_least.f a0_0 a0_1 a1_0 a1_1).bind fun bt195 => ((interval_most.f a0_2 a0_3 a1_2 a1_3).bind fun bt197 => (some (bt195.1, bt195.2, bt197.1, bt197.2)))))))) = some (r1, r2, r3, r4) := h
  clear h
  obtain ⟨t193, A3, H⟩ := bi H
  try dsimp only at H
  go_enter Tryz.func16, Tryz.ntmps16
  by_cases c4 : t193 = true
  · subst c4
    rw [if_pos rfl] at H
    simp only [Option.some.injEq, Prod.mk.injEq] at H
    obtain ⟨rfl, rfl, rfl, rfl⟩ := H
    go_wp2_with (first | ((with_reducible refine gate_dst (N := 2) rfl ?_); refine bx_ 2 43 #[.int .i64 a0_0, .string a0_1, .int .i64 a0_2, .string a0_3] (h := ?_); intro gb190 hg w5 hbox hb; have BK190 := Aside0.mk (hbox); have GW190 := pkG HB hg; have GE190 := GW190; replace HB := pkB HB hb; clear hb hbox hg) | ((with_reducible refine gate_dst (N := 3) rfl ?_); refine bx_ 3 43 #[.int .i64 a1_0, .string a1_1, .int .i64 a1_2, .string a1_3] (h := ?_); intro gb191 hg w6 hbox hb; have BK191 := Aside0.mk (hbox); have GW191 := pkG HB hg; have GE191 := GW191; obtain ⟨NB190_191, NB191_190, _, _⟩ := pkQ BK190 hg; replace BK190 := pkK BK190 hb; replace HB := pkB HB hb; clear hb hbox hg) | ((with_reducible refine gate_dst (N := 4) rfl ?_); refine bx_ 4 43 #[.int .i64 0, .string (⟨#[]⟩ : ByteArray), .int .i64 0, .string (⟨#[]⟩ : ByteArray)] (h := ?_); intro gb192 hg w7 hbox hb; have BK192 := Aside0.mk (hbox); have GW192 := pkG HB hg; have GE192 := GW192; obtain ⟨NB190_192, NB192_190, _, _⟩ := pkQ BK190 hg; obtain ⟨NB191_192, NB192_191, _, _⟩ := pkQ BK191 hg; replace BK190 := pkK BK190 hb; replace BK191 := pkK BK191 hb; replace HB := pkB HB hb; clear hb hbox hg; have hnb8 := NB190_191.out; have hnc8 := NB191_190.out; have hnb9 := NB190_192.out; have hnc9 := NB192_190.out; have hcz10_0 : w7.cell? ⟨gb190, 0, none⟩ = some (.int .i64 a0_0) := (blk_cell BK190.out 0).trans rfl; have hcz10_1 : w7.cell? ⟨gb190, 1, none⟩ = some (.string a0_1) := (blk_cell BK190.out 1).trans rfl; have hcz10_2 : w7.cell? ⟨gb190, 2, none⟩ = some (.int .i64 a0_2) := (blk_cell BK190.out 2).trans rfl; have hcz10_3 : w7.cell? ⟨gb190, 3, none⟩ = some (.string a0_3) := (blk_cell BK190.out 3).trans rfl; have hfz10_0 := blk_frozen BK190.out 0; have hfz10_1 := blk_frozen BK190.out 1; have hfz10_2 := blk_frozen BK190.out 2; have hfz10_3 := blk_frozen BK190.out 3) | ((with_reducible refine gate_callee (f := 15) rfl ?_); refine gl_ 7 Tryz.func15 #[.agg #[.int .i64 a0_0, .string a0_1, .int .i64 a0_2, .string a0_3]] (h := ?_); (with_reducible refine (interval_span_empty.calls a0_0 a0_1 a0_2 a0_3 true _ A3.out).mono ?_); rintro e w11 ⟨rfl, hb⟩; refine ⟨_, rfl, ?_⟩; replace BK190 := pkK BK190 hb; replace BK191 := pkK BK191 hb; replace BK192 := pkK BK192 hb; replace HB := pkB HB hb; try clear hb; have hnb12 := NB191_192.out; have hnc12 := NB192_191.out; have hcz13_0 : w11.cell? ⟨gb191, 0, none⟩ = some (.int .i64 a1_0) := (blk_cell BK191.out 0).trans rfl; have hcz13_1 : w11.cell? ⟨gb191, 1, none⟩ = some (.string a1_1) := (blk_cell BK191.out 1).trans rfl; have hcz13_2 : w11.cell? ⟨gb191, 2, none⟩ = some (.int .i64 a1_2) := (blk_cell BK191.out 2).trans rfl; have hcz13_3 : w11.cell? ⟨gb191, 3, none⟩ = some (.string a1_3) := (blk_cell BK191.out 3).trans rfl; have hfz13_0 := blk_frozen BK191.out 0; have hfz13_1 := blk_frozen BK191.out 1; have hfz13_2 := blk_frozen BK191.out 2; have hfz13_3 := blk_frozen BK191.out 3; have hcz14_0 : w11.cell? ⟨gb192, 0, none⟩ = some (.int .i64 0) := (blk_cell BK192.out 0).trans rfl; have hcz14_1 : w11.cell? ⟨gb192, 1, none⟩ = some (.string (⟨#[]⟩ : ByteArray)) := (blk_cell BK192.out 1).trans rfl; have hcz14_2 : w11.cell? ⟨gb192, 2, none⟩ = some (.int .i64 0) := (blk_cell BK192.out 2).trans rfl; have hcz14_3 : w11.cell? ⟨gb192, 3, none⟩ = some (.string (⟨#[]⟩ : ByteArray)) := (blk_cell BK192.out 3).trans rfl; have hfz14_0 := blk_frozen BK192.out 0; have hfz14_1 := blk_frozen BK192.out 1; have hfz14_2 := blk_frozen BK192.out 2; have hfz14_3 := blk_frozen BK192.out 3))
    refine bodyPost_ret (results_cell_row rfl _ _ gb192 43 #[.int .i64 a1_0, .string a1_1, .int .i64 a1_2, .string a1_3] (0, 0) _ rfl (pkS4 BK192) Tryz.underlying43 rfl (by kernel_rfl)) rfl ?_
    exact pkE HB
  · replace c4 := Bool.eq_false_iff.mpr c4
    subst c4
    rw [if_neg (show ¬ (false = true) by decide)] at H
    obtain ⟨t194, A15, H⟩ := bi H
    try dsimp only at H
    by_cases c16 : t194 = true
    · subst c16
      rw [if_pos rfl] at H
      simp only [Option.some.injEq, Prod.mk.injEq] at H
      obtain ⟨rfl, rfl, rfl, rfl⟩ := H
      go_wp2_with (first | ((with_reducible refine gate_dst (N := 2) rfl ?_); refine bx_ 2 43 #[.int .i64 a0_0, .string a0_1, .int .i64 a0_2, .string a0_3] (h := ?_); intro gb190 hg w17 hbox hb; have BK190 := Aside0.mk (hbox); have GW190 := pkG HB hg; have GE190 := GW190; replace HB := pkB HB hb; clear hb hbox hg) | ((with_reducible refine gate_dst (N := 3) rfl ?_); refine bx_ 3 43 #[.int .i64 a1_0, .string a1_1, .int .i64 a1_2, .string a1_3] (h := ?_); intro gb191 hg w18 hbox hb; have BK191 := Aside0.mk (hbox); have GW191 := pkG HB hg; have GE191 := GW191; obtain ⟨NB190_191, NB191_190, _, _⟩ := pkQ BK190 hg; replace BK190 := pkK BK190 hb; replace HB := pkB HB hb; clear hb hbox hg) | ((with_reducible refine gate_dst (N := 4) rfl ?_); refine bx_ 4 43 #[.int .i64 0, .string (⟨#[]⟩ : ByteArray), .int .i64 0, .string (⟨#[]⟩ : ByteArray)] (h := ?_); intro gb192 hg w19 hbox hb; have BK192 := Aside0.mk (hbox); have GW192 := pkG HB hg; have GE192 := GW192; obtain ⟨NB190_192, NB192_190, _, _⟩ := pkQ BK190 hg; obtain ⟨NB191_192, NB192_191, _, _⟩ := pkQ BK191 hg; replace BK190 := pkK BK190 hb; replace BK191 := pkK BK191 hb; replace HB := pkB HB hb; clear hb hbox hg; have hnb20 := NB190_191.out; have hnc20 := NB191_190.out; have hnb21 := NB190_192.out; have hnc21 := NB192_190.out; have hcz22_0 : w19.cell? ⟨gb190, 0, none⟩ = some (.int .i64 a0_0) := (blk_cell BK190.out 0).trans rfl; have hcz22_1 : w19.cell? ⟨gb190, 1, none⟩ = some (.string a0_1) := (blk_cell BK190.out 1).trans rfl; have hcz22_2 : w19.cell? ⟨gb190, 2, none⟩ = some (.int .i64 a0_2) := (blk_cell BK190.out 2).trans rfl; have hcz22_3 : w19.cell? ⟨gb190, 3, none⟩ = some (.string a0_3) := (blk_cell BK190.out 3).trans rfl; have hfz22_0 := blk_frozen BK190.out 0; have hfz22_1 := blk_frozen BK190.out 1; have hfz22_2 := blk_frozen BK190.out 2; have hfz22_3 := blk_frozen BK190.out 3) | ((with_reducible refine gate_callee (f := 15) rfl ?_); refine gl_ 7 Tryz.func15 #[.agg #[.int .i64 a0_0, .string a0_1, .int .i64 a0_2, .string a0_3]] (h := ?_); (with_reducible refine (interval_span_empty.calls a0_0 a0_1 a0_2 a0_3 false _ A3.out).mono ?_); rintro e w23 ⟨rfl, hb⟩; refine ⟨_, rfl, ?_⟩; replace BK190 := pkK BK190 hb; replace BK191 := pkK BK191 hb; replace BK192 := pkK BK192 hb; replace HB := pkB HB hb; try clear hb; have hnb24 := NB191_192.out; have hnc24 := NB192_191.out; have hcz25_0 : w23.cell? ⟨gb191, 0, none⟩ = some (.int .i64 a1_0) := (blk_cell BK191.out 0).trans rfl; have hcz25_1 : w23.cell? ⟨gb191, 1, none⟩ = some (.string a1_1) := (blk_cell BK191.out 1).trans rfl; have hcz25_2 : w23.cell? ⟨gb191, 2, none⟩ = some (.int .i64 a1_2) := (blk_cell BK191.out 2).trans rfl; have hcz25_3 : w23.cell? ⟨gb191, 3, none⟩ = some (.string a1_3) := (blk_cell BK191.out 3).trans rfl; have hfz25_0 := blk_frozen BK191.out 0; have hfz25_1 := blk_frozen BK191.out 1; have hfz25_2 := blk_frozen BK191.out 2; have hfz25_3 := blk_frozen BK191.out 3) | ((with_reducible refine gate_callee (f := 15) rfl ?_); refine gl_ 11 Tryz.func15 #[.agg #[.int .i64 a1_0, .string a1_1, .int .i64 a1_2, .string a1_3]] (h := ?_); (with_reducible refine (interval_span_empty.calls a1_0 a1_1 a1_2 a1_3 true _ A15.out).mono ?_); rintro e w26 ⟨rfl, hb⟩; refine ⟨_, rfl, ?_⟩; replace BK190 := pkK BK190 hb; replace BK191 := pkK BK191 hb; replace BK192 := pkK BK192 hb; replace HB := pkB HB hb; try clear hb; have hcz27_0 : w26.cell? ⟨gb190, 0, none⟩ = some (.int .i64 a0_0) := (blk_cell BK190.out 0).trans rfl; have hcz27_1 : w26.cell? ⟨gb190, 1, none⟩ = some (.string a0_1) := (blk_cell BK190.out 1).trans rfl; have hcz27_2 : w26.cell? ⟨gb190, 2, none⟩ = some (.int .i64 a0_2) := (blk_cell BK190.out 2).trans rfl; have hcz27_3 : w26.cell? ⟨gb190, 3, none⟩ = some (.string a0_3) := (blk_cell BK190.out 3).trans rfl; have hfz27_0 := blk_frozen BK190.out 0; have hfz27_1 := blk_frozen BK190.out 1; have hfz27_2 := blk_frozen BK190.out 2; have hfz27_3 := blk_frozen BK190.out 3; have hcz28_0 : w26.cell? ⟨gb192, 0, none⟩ = some (.int .i64 0) := (blk_cell BK192.out 0).trans rfl; have hcz28_1 : w26.cell? ⟨gb192, 1, none⟩ = some (.string (⟨#[]⟩ : ByteArray)) := (blk_cell BK192.out 1).trans rfl; have hcz28_2 : w26.cell? ⟨gb192, 2, none⟩ = some (.int .i64 0) := (blk_cell BK192.out 2).trans rfl; have hcz28_3 : w26.cell? ⟨gb192, 3, none⟩ = some (.string (⟨#[]⟩ : ByteArray)) := (blk_cell BK192.out 3).trans rfl; have hfz28_0 := blk_frozen BK192.out 0; have hfz28_1 := blk_frozen BK192.out 1; have hfz28_2 := blk_frozen BK192.out 2; have hfz28_3 := blk_frozen BK192.out 3))
      refine bodyPost_ret (results_cell_row rfl _ _ gb192 43 #[.int .i64 a0_0, .string a0_1, .int .i64 a0_2, .string a0_3] (0, 0) _ rfl (pkS4 BK192) Tryz.underlying43 rfl (by kernel_rfl)) rfl ?_
      exact pkE HB
    · replace c16 := Bool.eq_false_iff.mpr c16
      subst c16
      rw [if_neg (show ¬ (false = true) by decide)] at H
      obtain ⟨⟨t195, t196⟩, A29, H⟩ := bi H
      try dsimp only at H
      obtain ⟨⟨t197, t198⟩, A30, H⟩ := bi H
      try dsimp only at H
      simp only [Option.some.injEq, Prod.mk.injEq] at H
      obtain ⟨rfl, rfl, rfl, rfl⟩ := H
      try go_wp2_with (first | ((with_reducible refine gate_dst (N := 2) rfl ?_); refine bx_ 2 43 #[.int .i64 a0_0, .string a0_1, .int .i64 a0_2, .string a0_3] (h := ?_); intro gb190 hg w31 hbox hb; have BK190 := Aside0.mk (hbox); have GW190 := pkG HB hg; have GE190 := GW190; replace HB := pkB HB hb; clear hb hbox hg) | ((with_reducible refine gate_dst (N := 3) rfl ?_); refine bx_ 3 43 #[.int .i64 a1_0, .string a1_1, .int .i64 a1_2, .string a1_3] (h := ?_); intro gb191 hg w32 hbox hb; have BK191 := Aside0.mk (hbox); have GW191 := pkG HB hg; have GE191 := GW191; obtain ⟨NB190_191, NB191_190, _, _⟩ := pkQ BK190 hg; replace BK190 := pkK BK190 hb; replace HB := pkB HB hb; clear hb hbox hg) | ((with_reducible refine gate_dst (N := 4) rfl ?_); refine bx_ 4 43 #[.int .i64 0, .string (⟨#[]⟩ : ByteArray), .int .i64 0, .string (⟨#[]⟩ : ByteArray)] (h := ?_); intro gb192 hg w33 hbox hb; have BK192 := Aside0.mk (hbox); have GW192 := pkG HB hg; have GE192 := GW192; obtain ⟨NB190_192, NB192_190, _, _⟩ := pkQ BK190 hg; obtain ⟨NB191_192, NB192_191, _, _⟩ := pkQ BK191 hg; replace BK190 := pkK BK190 hb; replace BK191 := pkK BK191 hb; replace HB := pkB HB hb; clear hb hbox hg; have hnb34 := NB190_191.out; have hnc34 := NB191_190.out; have hnb35 := NB190_192.out; have hnc35 := NB192_190.out; have hcz36_0 : w33.cell? ⟨gb190, 0, none⟩ = some (.int .i64 a0_0) := (blk_cell BK190.out 0).trans rfl; have hcz36_1 : w33.cell? ⟨gb190, 1, none⟩ = some (.string a0_1) := (blk_cell BK190.out 1).trans rfl; have hcz36_2 : w33.cell? ⟨gb190, 2, none⟩ = some (.int .i64 a0_2) := (blk_cell BK190.out 2).trans rfl; have hcz36_3 : w33.cell? ⟨gb190, 3, none⟩ = some (.string a0_3) := (blk_cell BK190.out 3).trans rfl; have hfz36_0 := blk_frozen BK190.out 0; have hfz36_1 := blk_frozen BK190.out 1; have hfz36_2 := blk_frozen BK190.out 2; have hfz36_3 := blk_frozen BK190.out 3) | ((with_reducible refine gate_callee (f := 15) rfl ?_); refine gl_ 7 Tryz.func15 #[.agg #[.int .i64 a0_0, .string a0_1, .int .i64 a0_2, .string a0_3]] (h := ?_); (with_reducible refine (interval_span_empty.calls a0_0 a0_1 a0_2 a0_3 false _ A3.out).mono ?_); rintro e w37 ⟨rfl, hb⟩; refine ⟨_, rfl, ?_⟩; replace BK190 := pkK BK190 hb; replace BK191 := pkK BK191 hb; replace BK192 := pkK BK192 hb; replace HB := pkB HB hb; try clear hb; have hnb38 := NB191_192.out; have hnc38 := NB192_191.out; have hcz39_0 : w37.cell? ⟨gb191, 0, none⟩ = some (.int .i64 a1_0) := (blk_cell BK191.out 0).trans rfl; have hcz39_1 : w37.cell? ⟨gb191, 1, none⟩ = some (.string a1_1) := (blk_cell BK191.out 1).trans rfl; have hcz39_2 : w37.cell? ⟨gb191, 2, none⟩ = some (.int .i64 a1_2) := (blk_cell BK191.out 2).trans rfl; have hcz39_3 : w37.cell? ⟨gb191, 3, none⟩ = some (.string a1_3) := (blk_cell BK191.out 3).trans rfl; have hfz39_0 := blk_frozen BK191.out 0; have hfz39_1 := blk_frozen BK191.out 1; have hfz39_2 := blk_frozen BK191.out 2; have hfz39_3 := blk_frozen BK191.out 3) | ((with_reducible refine gate_callee (f := 15) rfl ?_); refine gl_ 11 Tryz.func15 #[.agg #[.int .i64 a1_0, .string a1_1, .int .i64 a1_2, .string a1_3]] (h := ?_); (with_reducible refine (interval_span_empty.calls a1_0 a1_1 a1_2 a1_3 false _ A15.out).mono ?_); rintro e w40 ⟨rfl, hb⟩; refine ⟨_, rfl, ?_⟩; replace BK190 := pkK BK190 hb; replace BK191 := pkK BK191 hb; replace BK192 := pkK BK192 hb; replace HB := pkB HB hb; try clear hb))
      replace BK190 := Aside0.mk (blk_drew BK190.out); replace BK191 := Aside0.mk (blk_drew BK191.out); replace BK192 := Aside0.mk (blk_drew BK192.out); replace HB := Aside0.mk (below_drew1 HB.out)
      refine start_ (n := 12) (S := fun w' => w'.cell? ⟨gb190, 0, none⟩ = some (.int .i64 a0_0) ∧ w'.cell? ⟨gb190, 1, none⟩ = some (.string a0_1) ∧ w'.cell? ⟨gb190, 2, none⟩ = some (.int .i64 a0_2) ∧ w'.cell? ⟨gb190, 3, none⟩ = some (.string a0_3) ∧ w'.cell? ⟨gb191, 0, none⟩ = some (.int .i64 a1_0) ∧ w'.cell? ⟨gb191, 1, none⟩ = some (.string a1_1) ∧ w'.cell? ⟨gb191, 2, none⟩ = some (.int .i64 a1_2) ∧ w'.cell? ⟨gb191, 3, none⟩ = some (.string a1_3)) (ds := []) #[false, false, false, false, false, false, false, false, false, false, false, false] (by kernel_rfl) rfl rfl ⟨(blk_cell BK190.out 0).trans rfl, (blk_cell BK190.out 1).trans rfl, (blk_cell BK190.out 2).trans rfl, (blk_cell BK190.out 3).trans rfl, (blk_cell BK191.out 0).trans rfl, (blk_cell BK191.out 1).trans rfl, (blk_cell BK191.out 2).trans rfl, (blk_cell BK191.out 3).trans rfl⟩ (fun hHeld => ?_); refine with_tabW interval_span_hull.tab5 interval_span_hull.bits5 (fun HT_ HW_ => ?_)
      generalize w40.drew = w41 at BK190 BK191 BK192 HB hHeld ⊢
      refine pr_ 0 13 (h := ?_)
      refine pr_ 2 15 (h := ?_)
      refine pr_ 5 18 (h := ?_)
      refine pr_ 7 20 (h := ?_)
      refine tk_ 1 14 hHeld (hy := by rintro w' ⟨s0, s1, s2, s3, s4, s5, s6, s7⟩; go_simp; with_reducible rfl) (h := ?_)
      refine tk_ 3 16 hHeld (hy := by rintro w' ⟨s0, s1, s2, s3, s4, s5, s6, s7⟩; go_simp; with_reducible rfl) (h := ?_)
      refine tk_ 6 19 hHeld (hy := by rintro w' ⟨s0, s1, s2, s3, s4, s5, s6, s7⟩; go_simp; with_reducible rfl) (h := ?_)
      refine tk_ 8 21 hHeld (hy := by rintro w' ⟨s0, s1, s2, s3, s4, s5, s6, s7⟩; go_simp; with_reducible rfl) (h := ?_)
      refine on_ 4 17 (h := fun K hK => ?_)
      refine g1_ Tryz.func28 #[.agg #[.int .i64 a0_0, .string a0_1], .agg #[.int .i64 a1_0, .string a1_1]] (h := ?_)
      with_reducible refine (interval_least.calls a0_0 a0_1 a1_0 a1_1 t195 t196 _ A29.out).mono ?_
      rintro e w42 ⟨rfl, hb⟩
      refine ⟨_, rfl, ?_⟩
      replace BK190 := pkK BK190 hb; replace BK191 := pkK BK191 hb; replace BK192 := pkK BK192 hb; replace HB := pkB HB hb
      (try clear hb)
      (try clear hb2)
      (try clear hk)
      (try clear hi)
      refine hK.out _ _ ⟨(blk_cell BK190.out 0).trans rfl, (blk_cell BK190.out 1).trans rfl, (blk_cell BK190.out 2).trans rfl, (blk_cell BK190.out 3).trans rfl, (blk_cell BK191.out 0).trans rfl, (blk_cell BK191.out 1).trans rfl, (blk_cell BK191.out 2).trans rfl, (blk_cell BK191.out 3).trans rfl⟩ (fun hHeld => ?_)
      clear hK K
      refine norm_ (a' := ?_) ?_ ?_
      rotate_left
      · show Act.put _ (some 17) _ = _
        simp only [Act.put, List.setIfInBounds_toArray, List.set_cons_zero, List.set_cons_succ, i64_w, i32_w]
        rfl
      refine on_ 9 22 (h := fun K hK => ?_)
      refine g1_ Tryz.func29 #[.agg #[.int .i64 a0_2, .string a0_3], .agg #[.int .i64 a1_2, .string a1_3]] (h := ?_)
      with_reducible refine (interval_most.calls a0_2 a0_3 a1_2 a1_3 t197 t198 _ A30.out).mono ?_
      rintro e w43 ⟨rfl, hb⟩
      refine ⟨_, rfl, ?_⟩
      replace BK190 := pkK BK190 hb; replace BK191 := pkK BK191 hb; replace BK192 := pkK BK192 hb; replace HB := pkB HB hb
      (try clear hb)
      (try clear hb2)
      (try clear hk)
      (try clear hi)
      refine hK.out _ _ ⟨(blk_cell BK190.out 0).trans rfl, (blk_cell BK190.out 1).trans rfl, (blk_cell BK190.out 2).trans rfl, (blk_cell BK190.out 3).trans rfl, (blk_cell BK191.out 0).trans rfl, (blk_cell BK191.out 1).trans rfl, (blk_cell BK191.out 2).trans rfl, (blk_cell BK191.out 3).trans rfl⟩ (fun hHeld => ?_)
      clear hK K
      refine norm_ (a' := ?_) ?_ ?_
      rotate_left
      · show Act.put _ (some 22) _ = _
        simp only [Act.put, List.setIfInBounds_toArray, List.set_cons_zero, List.set_cons_succ, i64_w, i32_w]
        rfl
      refine pr_ 10 23 (h := ?_)
      refine one_ (i := 11) (N := none) #[true, true, true, true, true, true, true, true, true, true, true, true] rfl rfl (one_of HT_.out (by kernel_rfl)) (by decide) (fun K hK => ?_)
      have hs44 : w43.cell? ⟨gb192, 0, none⟩ = some (.int .i64 0) := (blk_cell BK192.out 0).trans rfl
      have hfs44 := blk_frozen BK192.out 0
      have hns44_0 := NB190_192.out
      have hns44_1 := NB191_192.out
      have hms44_0 := NB192_190.out
      have hms44_1 := NB192_191.out
      have hs45 : w43.cell? ⟨gb192, 1, none⟩ = some (.string (⟨#[]⟩ : ByteArray)) := (blk_cell BK192.out 1).trans rfl
      have hfs45 := blk_frozen BK192.out 1
      have hns45_0 := NB190_192.out
      have hns45_1 := NB191_192.out
      have hms45_0 := NB192_190.out
      have hms45_1 := NB192_191.out
      have hs46 : w43.cell? ⟨gb192, 2, none⟩ = some (.int .i64 0) := (blk_cell BK192.out 2).trans rfl
      have hfs46 := blk_frozen BK192.out 2
      have hns46_0 := NB190_192.out
      have hns46_1 := NB191_192.out
      have hms46_0 := NB192_190.out
      have hms46_1 := NB192_191.out
      have hs47 : w43.cell? ⟨gb192, 3, none⟩ = some (.string (⟨#[]⟩ : ByteArray)) := (blk_cell BK192.out 3).trans rfl
      have hfs47 := blk_frozen BK192.out 3
      have hns47_0 := NB190_192.out
      have hns47_1 := NB191_192.out
      have hms47_0 := NB192_190.out
      have hms47_1 := NB192_191.out
      refine skip_ (w1 := ?_) (by rfl) rfl ?_ ?_
      rotate_left
      · go_simp
        rfl
      refine hK.out _ _ ⟨((Go.Proofs.YtnagmogjhfdmlaaGreatDoorW.PrintWords.cell_far (p := ⟨gb192, _, none⟩) NB190_192.out _).trans (((Go.Proofs.YtnagmogjhfdmlaaGreatDoorW.PrintWords.cell_far (p := ⟨gb192, _, none⟩) NB190_192.out _).trans (((Go.Proofs.YtnagmogjhfdmlaaGreatDoorW.PrintWords.cell_far (p := ⟨gb192, _, none⟩) NB190_192.out _).trans (((Go.Proofs.YtnagmogjhfdmlaaGreatDoorW.PrintWords.cell_far (p := ⟨gb192, _, none⟩) NB190_192.out _).trans (hHeld.1)))))))), ((Go.Proofs.YtnagmogjhfdmlaaGreatDoorW.PrintWords.cell_far (p := ⟨gb192, _, none⟩) NB190_192.out _).trans (((Go.Proofs.YtnagmogjhfdmlaaGreatDoorW.PrintWords.cell_far (p := ⟨gb192, _, none⟩) NB190_192.out _).trans (((Go.Proofs.YtnagmogjhfdmlaaGreatDoorW.PrintWords.cell_far (p := ⟨gb192, _, none⟩) NB190_192.out _).trans (((Go.Proofs.YtnagmogjhfdmlaaGreatDoorW.PrintWords.cell_far (p := ⟨gb192, _, none⟩) NB190_192.out _).trans (hHeld.2.1)))))))), ((Go.Proofs.YtnagmogjhfdmlaaGreatDoorW.PrintWords.cell_far (p := ⟨gb192, _, none⟩) NB190_192.out _).trans (((Go.Proofs.YtnagmogjhfdmlaaGreatDoorW.PrintWords.cell_far (p := ⟨gb192, _, none⟩) NB190_192.out _).trans (((Go.Proofs.YtnagmogjhfdmlaaGreatDoorW.PrintWords.cell_far (p := ⟨gb192, _, none⟩) NB190_192.out _).trans (((Go.Proofs.YtnagmogjhfdmlaaGreatDoorW.PrintWords.cell_far (p := ⟨gb192, _, none⟩) NB190_192.out _).trans (hHeld.2.2.1)))))))), ((Go.Proofs.YtnagmogjhfdmlaaGreatDoorW.PrintWords.cell_far (p := ⟨gb192, _, none⟩) NB190_192.out _).trans (((Go.Proofs.YtnagmogjhfdmlaaGreatDoorW.PrintWords.cell_far (p := ⟨gb192, _, none⟩) NB190_192.out _).trans (((Go.Proofs.YtnagmogjhfdmlaaGreatDoorW.PrintWords.cell_far (p := ⟨gb192, _, none⟩) NB190_192.out _).trans (((Go.Proofs.YtnagmogjhfdmlaaGreatDoorW.PrintWords.cell_far (p := ⟨gb192, _, none⟩) NB190_192.out _).trans (hHeld.2.2.2.1)))))))), ((Go.Proofs.YtnagmogjhfdmlaaGreatDoorW.PrintWords.cell_far (p := ⟨gb192, _, none⟩) NB191_192.out _).trans (((Go.Proofs.YtnagmogjhfdmlaaGreatDoorW.PrintWords.cell_far (p := ⟨gb192, _, none⟩) NB191_192.out _).trans (((Go.Proofs.YtnagmogjhfdmlaaGreatDoorW.PrintWords.cell_far (p := ⟨gb192, _, none⟩) NB191_192.out _).trans (((Go.Proofs.YtnagmogjhfdmlaaGreatDoorW.PrintWords.cell_far (p := ⟨gb192, _, none⟩) NB191_192.out _).trans (hHeld.2.2.2.2.1)))))))), ((Go.Proofs.YtnagmogjhfdmlaaGreatDoorW.PrintWords.cell_far (p := ⟨gb192, _, none⟩) NB191_192.out _).trans (((Go.Proofs.YtnagmogjhfdmlaaGreatDoorW.PrintWords.cell_far (p := ⟨gb192, _, none⟩) NB191_192.out _).trans (((Go.Proofs.YtnagmogjhfdmlaaGreatDoorW.PrintWords.cell_far (p := ⟨gb192, _, none⟩) NB191_192.out _).trans (((Go.Proofs.YtnagmogjhfdmlaaGreatDoorW.PrintWords.cell_far (p := ⟨gb192, _, none⟩) NB191_192.out _).trans (hHeld.2.2.2.2.2.1)))))))), ((Go.Proofs.YtnagmogjhfdmlaaGreatDoorW.PrintWords.cell_far (p := ⟨gb192, _, none⟩) NB191_192.out _).trans (((Go.Proofs.YtnagmogjhfdmlaaGreatDoorW.PrintWords.cell_far (p := ⟨gb192, _, none⟩) NB191_192.out _).trans (((Go.Proofs.YtnagmogjhfdmlaaGreatDoorW.PrintWords.cell_far (p := ⟨gb192, _, none⟩) NB191_192.out _).trans (((Go.Proofs.YtnagmogjhfdmlaaGreatDoorW.PrintWords.cell_far (p := ⟨gb192, _, none⟩) NB191_192.out _).trans (hHeld.2.2.2.2.2.2.1)))))))), ((Go.Proofs.YtnagmogjhfdmlaaGreatDoorW.PrintWords.cell_far (p := ⟨gb192, _, none⟩) NB191_192.out _).trans (((Go.Proofs.YtnagmogjhfdmlaaGreatDoorW.PrintWords.cell_far (p := ⟨gb192, _, none⟩) NB191_192.out _).trans (((Go.Proofs.YtnagmogjhfdmlaaGreatDoorW.PrintWords.cell_far (p := ⟨gb192, _, none⟩) NB191_192.out _).trans (((Go.Proofs.YtnagmogjhfdmlaaGreatDoorW.PrintWords.cell_far (p := ⟨gb192, _, none⟩) NB191_192.out _).trans (hHeld.2.2.2.2.2.2.2))))))))⟩ (fun hHeld => ?_)
      clear hK K
      refine done_ (done_of HT_.out (by kernel_rfl)) ?_
      try go_wp2
      refine bodyPost_ret (results_cell_row rfl _ _ gb192 43 #[.int .i64 t195, .string t196, .int .i64 t197, .string t198] (0, 0) _ rfl (pkS4 BK192) Tryz.underlying43 rfl (by kernel_rfl)) rfl ?_
      exact pkE HB
def interval_text.f (a0_0 : Int) (a0_1 : ByteArray) : Option (ByteArray) := if a0_0 = 0 then ((interval_digits.f a0_1).bind fun t200 => (if t200 > 100 then (some (⟨#[]⟩ : ByteArray)) else (some a0_1))) else (some (⟨#[]⟩ : ByteArray))
set_option maxHeartbeats 8000000 in
set_option maxRecDepth 100000 in
theorem interval_text.calls (a0_0 : Int) (a0_1 : ByteArray) (r : ByteArray) (w : World) (h : interval_text.f a0_0 a0_1 = some r) :
    Calls Tryz.prog 30 #[.agg #[.int .i64 a0_0, .string a0_1]] w fun e w' => e = .returned (.string r) ∧ Below w.heap.size w w' := by
  have hu41 := Tryz.underlying41
  have HB := Aside0.mk (Below.refl w.heap.size w)
  have H : (if a0_0 = 0 then ((interval_digits.f a0_1).bind fun t200 => (if t200 > 100 then (some (⟨#[]⟩ : ByteArray)) else (some a0_1))) else (some (⟨#[]⟩ : ByteArray))) = some r := h
  clear h
  go_enter Tryz.func30, Tryz.ntmps30
  refine byC (P := a0_0 = 0) (fun c2 => ?a3) (fun c2 => ?b3)
  case' a3 =>
    rw [if_pos c2] at H
    have c2b0 : (a0_0 == 0) = true := beq_iff_eq.mpr c2
    have c2b1 : (a0_0 != 0) = false := bne_eq_false_iff_eq.mpr c2
    clear c2
    obtain ⟨t200, A3, H⟩ := bi H
    try dsimp only at H
    refine byC (P := t200 > 100) (fun c4 => ?a4) (fun c4 => ?b4)
    case' a4 =>
      rw [if_pos c4] at H
      have c4b0 : decide (100 < t200) = true := decide_eq_true c4
      clear c4
      obtain rfl := Option.some.inj H
    case' b4 =>
      rw [if_neg c4] at H
      have c4b0 : decide (100 < t200) = false := decide_eq_false c4
      clear c4
      obtain rfl := Option.some.inj H
  case' b3 =>
    rw [if_neg c2] at H
    have c2b0 : (a0_0 == 0) = false := beq_eq_false_iff_ne.mpr c2
    have c2b1 : (a0_0 != 0) = true := bne_iff_ne.mpr c2
    obtain rfl := Option.some.inj H
  all_goals
    go_wp2_with (first | ((with_reducible refine gate_dst (N := 1) rfl ?_); refine bx_ 1 41 #[.int .i64 a0_0, .string a0_1] (h := ?_); intro gb199 hg w5 hbox hb; have BK199 := Aside0.mk (hbox); have GW199 := pkG HB hg; have GE199 := GW199; replace HB := pkB HB hb; clear hb hbox hg; have hcz6_0 : w5.cell? ⟨gb199, 0, none⟩ = some (.int .i64 a0_0) := (blk_cell BK199.out 0).trans rfl; have hcz6_1 : w5.cell? ⟨gb199, 1, none⟩ = some (.string a0_1) := (blk_cell BK199.out 1).trans rfl; have hfz6_0 := blk_frozen BK199.out 0; have hfz6_1 := blk_frozen BK199.out 1) | (go_at_call 38; (with_reducible refine (interval_digits.calls a0_1 t200 _ A3.out).mono ?_); rintro e w' ⟨rfl, ⟨nd, rfl⟩⟩))
    go_ret
    exact pkE HB
end Go.Proofs.YtnagmogjhfdmlaaGreatDoor.PTopChainsIntervals
