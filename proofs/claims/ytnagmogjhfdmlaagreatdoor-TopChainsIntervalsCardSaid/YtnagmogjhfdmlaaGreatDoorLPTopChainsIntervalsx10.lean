/- Lemmas. -/
import Derived.Test.YtnagmogjhfdmlaaGreatDoorLPTopChainsIntervalsx0
import Derived.Test.YtnagmogjhfdmlaaGreatDoorLPTopChainsIntervalsx1
import Derived.Test.YtnagmogjhfdmlaaGreatDoorLPTopChainsIntervalsx4
import Derived.Test.YtnagmogjhfdmlaaGreatDoorLPTopChainsIntervalsx7
import Derived.Test.YtnagmogjhfdmlaaGreatDoorLPTopChainsIntervalsx8
import Derived.Test.YtnagmogjhfdmlaaGreatDoorLPTopChainsIntervalsx9
import Derived.Test.YtnagmogjhfdmlaaGreatDoorLShort
import Derived.Test.YtnagmogjhfdmlaaGreatDoorLShort3
import Derived.Test.YtnagmogjhfdmlaaGreatDoorLShort4
namespace Go.Proofs.YtnagmogjhfdmlaaGreatDoor.PTopChainsIntervals
open Go.RowKit Go.Proofs.YtnagmogjhfdmlaaGreatDoorW.PrintWords Go.Proofs.YtnagmogjhfdmlaaGreatDoorW.PrintLast Go.Proofs.YtnagmogjhfdmlaaGreatDoorW.PrintMore
attribute [local go_sem] max2_int -- for this text's walks alone
set_option linter.unusedVariables false
set_option linter.unusedSimpArgs false
attribute [local go_sem high] eqA28
mutual
def surveyortop_TopChainsIntervals.j0 : Nat → List (S28) → List ByteArray → Bool → Option (Bool)
  | 0, _, _, _ => none
  | k + 1, x0, x1, x27 => if x27 = true then ((surveyortop_tryChains.f k).bind fun t301 => (some t301)) else (surveyortop_TopChainsIntervals.l0 k x1 0 x0 (x0.length : Int) 0 true (⟨#[]⟩ : ByteArray) (⟨#[]⟩ : ByteArray))
def surveyortop_TopChainsIntervals.l0 : Nat → List ByteArray → Int → List (S28) → Int → Int → Bool → ByteArray → ByteArray → Option (Bool)
  | 0, _, _, _, _, _, _, _, _ => none
  | k + 1, x1, x6, x30, x31, x32, x303000, x303001, x303002 => if x32 < x31 then (if 0 ≤ x32 then (if x32 < (x30.length : Int) then ((surveyorref21_Check.f k ((rd_T28 x30 x32).f0) ((rd_T28 x30 x32).f1) ((rd_T28 x30 x32).f2)).bind fun t306 => (if t306 = 0 then ((interval_Widen.f k x303000 x303001 x303002 ((rd_T28 x30 x32).f0) ((rd_T28 x30 x32).f1) ((rd_T28 x30 x32).f2) x1).bind fun bt308 => ((interval_Leq.f k ((rd_T28 x30 x32).f0) ((rd_T28 x30 x32).f1) ((rd_T28 x30 x32).f2) bt308.1 bt308.2.1 bt308.2.2.1).bind fun bt313 => ((interval_Leq.f k x303000 x303001 x303002 bt308.1 bt308.2.1 bt308.2.2.1).bind fun bt315 => (if (wrap64 ((wrap64 (bt308.2.2.2 + bt313.2)) + bt315.2)) = 0 then (if bt313.1 = true then (surveyortop_TopChainsIntervals.j2 k x1 x6 x30 x31 x32 (!bt315.1) x303000 x303001 x303002 bt308.1 bt308.2.1 bt308.2.2.1) else (surveyortop_TopChainsIntervals.j2 k x1 x6 x30 x31 x32 true x303000 x303001 x303002 bt308.1 bt308.2.1 bt308.2.2.1)) else (surveyortop_TopChainsIntervals.j2 k x1 x6 x30 x31 x32 true x303000 x303001 x303002 bt308.1 bt308.2.1 bt308.2.2.1))))) else ((surveyortop_tryChains.f k).bind fun t307 => (some t307)))) else (none)) else (none)) else (if x6 ≤ (wrap64 (3 + (wrap64 (2 * (x1.length : Int))))) then ((surveyortop_tryChains.f k).bind fun t303 => (some t303)) else (some false))
def surveyortop_TopChainsIntervals.j2 : Nat → List ByteArray → Int → List (S28) → Int → Int → Bool → Bool → ByteArray → ByteArray → Bool → ByteArray → ByteArray → Option (Bool)
  | 0, _, _, _, _, _, _, _, _, _, _, _, _ => none
  | k + 1, x1, x6, x30, x31, x32, x72, x303000, x303001, x303002, x313000, x313001, x313002 => if x72 = true then (some false) else (if (!(x313000 == x303000) || (!(x313001.toList == x303001.toList) || (!(x313002.toList == x303002.toList)))) = true then (surveyortop_TopChainsIntervals.l0 k x1 (wrap64 (x6 + 1)) x30 x31 (wrap64 (x32 + 1)) x313000 x313001 x313002) else (surveyortop_TopChainsIntervals.l0 k x1 x6 x30 x31 (wrap64 (x32 + 1)) x313000 x313001 x313002))
end
def surveyortop_TopChainsIntervals.f (k : Nat) (l0 : List (S28)) (l1 : List ByteArray) : Option (Bool) := if (l0.length : Int) > 100 then (surveyortop_TopChainsIntervals.j0 k l0 l1 true) else (if (l1.length : Int) > 20 then (surveyortop_TopChainsIntervals.j0 k l0 l1 true) else ((surveyorref21_Thresholds.f k l1).bind fun t300 => (surveyortop_TopChainsIntervals.j0 k l0 l1 (t300 != 0))))
set_option maxHeartbeats 8000000 in
set_option maxRecDepth 100000 in
theorem surveyortop_TopChainsIntervals.calls (k : Nat) (A0 : Option Addr) (c0 : Nat) (l0 : List (S28)) (A1 : Option Addr) (c1 : Nat) (l1 : List ByteArray) (r : Bool) (w : World) (hr0 : Kd.C k28 w A0 l0.length l0) (hc0 : l0.length ≤ c0) (hr1 : Kd.C Kd.string w A1 l1.length l1) (hc1 : l1.length ≤ c1) (h : surveyortop_TopChainsIntervals.f k l0 l1 = some r) :
    Calls Tryz.prog 3 #[.slice A0 l0.length c0, .slice A1 l1.length c1] w fun e w' => e = .returned (.bool r) ∧ Below w.heap.size w w' := by
  have hu28 := Tryz.underlying28
  have HR0 := Aside0.mk hr0
  have HC0 := Aside0.mk hc0
  clear hr0 hc0
  have HR1 := Aside0.mk hr1
  have HC1 := Aside0.mk hc1
  clear hr1 hc1
  have HB := Aside0.mk (Below.refl w.heap.size w)
  have H : (if (l0.length : Int) > 100 then (surveyortop_TopChainsIntervals.j0 k l0 l1 true) else (if (l1.length : Int) > 20 then (surveyortop_TopChainsIntervals.j0 k l0 l1 true) else ((surveyorref21_Thresholds.f k l1).bind fun t300 => (surveyortop_TopChainsIntervals.j0 k l0 l1 (t300 != 0))))) = some r := h
  clear h
  have HC3 := Aside0.mk H
  clear H
  go_enter Tryz.func3, Tryz.ntmps3
  go_upto_region 1 with (fail)
  go_cut [27] (fun v27 wc => ∃ (kq : Nat) (x27_2 : Bool), v27 = .bool x27_2 ∧ Aside0 (surveyortop_TopChainsIntervals.j0 kq l0 l1 x27_2 = some r) ∧ Aside0 (kq ≤ k) ∧ Aside0 (Below w.heap.size w wc))
  case first =>
    have H := HC3.out
    clear HC3
    by_cases c4 : (l0.length : Int) > 100
    · rw [if_pos c4] at H
      have c4b0 : decide (100 < (l0.length : Int)) = true := decide_eq_true c4
      have c4b1 : decide (100 < l0.length) = true := decide_eq_true (by omega)
      clear c4
      (first | rw [c4b0] | (simp only [i64_w, i32_w]; rw [c4b0]) | skip)
      have H' := Aside0.mk H
      clear H
      go_wp2
      go_meet
      case rel => exact ⟨_, (true), (by first | rfl | (simp; done) | (simp [*]; done)), H', ⟨by first | omega | exact Nat.le_refl _⟩, ⟨pkL HB⟩⟩
    · rw [if_neg c4] at H
      have c4b0 : decide (100 < (l0.length : Int)) = false := decide_eq_false c4
      have c4b1 : decide (100 < l0.length) = false := decide_eq_false (by omega)
      clear c4
      (first | rw [c4b0] | (simp only [i64_w, i32_w]; rw [c4b0]) | skip)
      by_cases c5 : (l1.length : Int) > 20
      · rw [if_pos c5] at H
        have c5b0 : decide (20 < (l1.length : Int)) = true := decide_eq_true c5
        have c5b1 : decide (20 < l1.length) = true := decide_eq_true (by omega)
        clear c5
        have H' := Aside0.mk H
        clear H
        go_wp2
        go_meet
        case rel => exact ⟨_, (true), (by first | rfl | (simp; done) | (simp [*]; done)), H', ⟨by first | omega | exact Nat.le_refl _⟩, ⟨pkL HB⟩⟩
      · rw [if_neg c5] at H
        have c5b0 : decide (20 < (l1.length : Int)) = false := decide_eq_false c5
        have c5b1 : decide (20 < l1.length) = false := decide_eq_false (by omega)
        clear c5
        obtain ⟨t300, A6, H⟩ := bi H
        try dsimp only at H
        have H' := Aside0.mk H
        clear H
        go_wp2_with (first | (go_at_call 4; (with_reducible refine (surveyorref21_Thresholds.calls k _ _ l1 t300 _ ?side1 ?side2 A6.out).mono ?_); (case side1 => repeat (first | exact (Kd.C_below HR1.out HB.out) | (with_reducible refine Kd.C_alloc ?_ _) | (with_reducible refine Kd.C_drewN ?_ _) | (with_reducible refine Kd.C_drew ?_))); (case side2 => exact HC1.out); rintro e w7 ⟨rfl, hb⟩; replace HB := pkB HB hb; try clear hb))
        go_meet
        case rel => exact ⟨_, ((t300 != 0)), (by first | rfl | (simp; done) | (simp [*]; done)), H', ⟨by first | omega | exact Nat.le_refl _⟩, ⟨pkL HB⟩⟩
  case rest =>
    clear HC3
    try clear c1
    try clear c4
    try clear c4b0
    try clear c4b1
    try clear c5
    try clear c5b0
    try clear c5b1
    obtain ⟨kq, x27_2, rfl, HA, HJ2, HB⟩ := hcut
    cases kq with
    | zero => exact absurd HA.out (by simp [surveyortop_TopChainsIntervals.j0])
    | succ kj2 =>
      have H := HA.out
      clear HA
      simp only [surveyortop_TopChainsIntervals.j0] at H
      by_cases c8 : x27_2 = true
      · subst c8
        rw [if_pos rfl] at H
        obtain ⟨t301, A9, H⟩ := bi H
        try dsimp only at H
        obtain rfl := Option.some.inj H
        go_wp2_with (first | ((with_reducible refine gate_callee (f := 5) rfl ?_); refine gl_ 28 Tryz.func5 #[] (h := ?_); (with_reducible refine (surveyortop_tryChains.calls kj2  t301 _ A9.out).mono ?_); rintro e w10 ⟨rfl, hb⟩; refine ⟨_, rfl, ?_⟩; replace HB := pkB HB hb; try clear hb))
        go_ret
        exact pkE HB
      · replace c8 := Bool.eq_false_iff.mpr c8
        subst c8
        rw [if_neg (show ¬ (false = true) by decide)] at H
        have H' := Aside0.mk H
        clear H
        go_wp2_with (first | ((with_reducible refine gate_dst (N := 5) rfl ?_); (try (refine gate_guard (by rfl) ?_; dsimp only)); refine bx_ 5 28 #[.bool false, .string (⟨#[]⟩ : ByteArray), .string (⟨#[]⟩ : ByteArray)] (h := ?_); intro gb302 hg w11 hbox hb; have BK302 := Aside0.mk (hbox); have GW302 := pkG HB hg; have GE302 := GW302; replace HB := pkB HB hb; clear hb hbox hg; obtain ⟨⟨hcz12_0, hcz12_1, hcz12_2⟩, hfz12_0, hfz12_1, hfz12_2⟩ := pk3 BK302))
        go_loopg [6, 32] kj2 (fun kq v6 v32 w' => ∃ (x6_2 : Int) (x32_2 : Int) (x303000_2 : Bool) (x303001_2 : ByteArray) (x303002_2 : ByteArray), v6 = .int .i64 x6_2 ∧ v32 = .int .i64 x32_2 ∧ Aside0 (surveyortop_TopChainsIntervals.l0 kq l1 x6_2 l0 (l0.length : Int) x32_2 x303000_2 x303001_2 x303002_2 = some r) ∧ Aside0 (kq ≤ kj2) ∧ Aside0 (w'.heap[gb302]? = some (.cells #[.bool x303000_2, .string x303001_2, .string x303002_2] 28 (0, 0))) ∧ Aside0 (Below w.heap.size w w'))
        case atStart => exact ⟨(0), (0), (true), ((⟨#[]⟩ : ByteArray)), ((⟨#[]⟩ : ByteArray)), (by first | rfl | (simp; done) | (simp [*]; done)), (by first | rfl | (simp; done) | (simp [*]; done)), H', ⟨Nat.le_refl _⟩, ⟨by (with_reducible repeat (first | refine blk_drewN ?_ _ | refine blk_drew ?_ | refine blk_alloc ?_ _)); refine blk_put (cs := #[.bool true, .string (⟨#[]⟩ : ByteArray), .string (⟨#[]⟩ : ByteArray)]) ?_ 2 _ rfl; (with_reducible repeat (first | refine blk_drewN ?_ _ | refine blk_drew ?_ | refine blk_alloc ?_ _)); refine blk_put (cs := #[.bool true, .string (⟨#[]⟩ : ByteArray), .string (⟨#[]⟩ : ByteArray)]) ?_ 1 _ rfl; (with_reducible repeat (first | refine blk_drewN ?_ _ | refine blk_drew ?_ | refine blk_alloc ?_ _)); refine blk_put (cs := #[.bool false, .string (⟨#[]⟩ : ByteArray), .string (⟨#[]⟩ : ByteArray)]) ?_ 0 _ rfl; (with_reducible repeat (first | refine blk_drewN ?_ _ | refine blk_drew ?_ | refine blk_alloc ?_ _)); exact BK302.out⟩, ⟨pkL HB⟩⟩
        case round =>
          clear H'
          try clear c1
          try clear c4
          try clear c4b0
          try clear c4b1
          try clear c5
          try clear c5b0
          try clear c5b1
          try clear c8
          try clear hcz12_0
          try clear hcz12_1
          try clear hcz12_2
          try clear hfz12_0
          try clear hfz12_1
          try clear hfz12_2
          obtain ⟨x6_2, x32_2, x303000_2, x303001_2, x303002_2, rfl, rfl, HA, HK2, BK302, HB⟩ := hrel
          cases gk with
          | zero => exact absurd HA.out (by simp [surveyortop_TopChainsIntervals.l0])
          | succ k2 =>
            have H := HA.out
            clear HA
            simp only [surveyortop_TopChainsIntervals.l0] at H
            by_cases c13 : x32_2 < (l0.length : Int)
            · rw [if_pos c13] at H
              have c13b0 : decide (x32_2 < (l0.length : Int)) = true := decide_eq_true c13
              clear c13
              by_cases c14 : 0 ≤ x32_2
              · rw [if_pos c14] at H
                have c14b0 : decide (0 ≤ x32_2) = true := decide_eq_true c14
                clear c14
                by_cases c15 : x32_2 < (l0.length : Int)
                · rw [if_pos c15] at H
                  have c15b0 : decide (x32_2 < (l0.length : Int)) = true := decide_eq_true c15
                  clear c15
                  obtain ⟨t306, A16, H⟩ := bi H
                  try dsimp only at H
                  by_cases c17 : t306 = 0
                  · rw [if_pos c17] at H
                    have c17b0 : (t306 == 0) = true := beq_iff_eq.mpr c17
                    have c17b1 : (t306 != 0) = false := bne_eq_false_iff_eq.mpr c17
                    clear c17
                    obtain ⟨⟨t308, t309, t310, t311⟩, A18, H⟩ := bi H
                    try dsimp only at H
                    obtain ⟨⟨t313, t314⟩, A19, H⟩ := bi H
                    try dsimp only at H
                    obtain ⟨⟨t315, t316⟩, A20, H⟩ := bi H
                    try dsimp only at H
                    have HC21 := Aside0.mk H
                    clear H
                    have p304 : 0 ≤ (x32_2 : Int) := of_decide_eq_true (by first | (with_reducible assumption) | assumption)
                    have q304 : x32_2 < (l0.length : Int) := of_decide_eq_true (by first | (with_reducible assumption) | assumption)
                    obtain ⟨ad304, e304, hx304_0, hx304_1, hx304_2⟩ := at_T28 HR0.out x32_2 p304 q304
                    cases e304
                    replace hx304_0 := (HB.out.cell (World.block_lt_of_cell? w _ hx304_0)).trans hx304_0
                    replace hx304_1 := (HB.out.cell (World.block_lt_of_cell? w _ hx304_1)).trans hx304_1
                    replace hx304_2 := (HB.out.cell (World.block_lt_of_cell? w _ hx304_2)).trans hx304_2
                    replace p304 := eq_true p304
                    replace q304 := eq_true q304
                    go_upto_region 12 with (first | ((with_reducible refine gate_dst (N := 8) rfl ?_); (try (refine gate_guard (by rfl) ?_; dsimp only)); refine bx_ 8 28 #[.bool false, .string (⟨#[]⟩ : ByteArray), .string (⟨#[]⟩ : ByteArray)] (h := ?_); intro gb305 hg w22 hbox hb; have BK305 := Aside0.mk (hbox); have GW305 := pkG HB hg; have GE305 := GW305; obtain ⟨NB302_305, NB305_302, hnb23, hnc23⟩ := pkQ BK302 hg; replace BK302 := pkK BK302 hb; replace HB := pkB HB hb; clear hb hbox hg; obtain ⟨⟨hcz24_0, hcz24_1, hcz24_2⟩, hfz24_0, hfz24_1, hfz24_2⟩ := pk3 BK305) | ((with_reducible refine gate_callee (f := 6) rfl ?_); refine gl_ 37 Tryz.func6 #[.agg #[.bool ((rd_T28 l0 x32_2).f0), .string ((rd_T28 l0 x32_2).f1), .string ((rd_T28 l0 x32_2).f2)]] (h := ?_); (with_reducible refine (surveyorref21_Check.calls k2 ((rd_T28 l0 x32_2).f0) ((rd_T28 l0 x32_2).f1) ((rd_T28 l0 x32_2).f2) t306 _ A16.out).mono ?_); rintro e w25 ⟨rfl, hb⟩; refine ⟨_, rfl, ?_⟩; replace BK302 := pkF BK302 hb; replace BK305 := Aside0.mk (blk_below (g := gb305) (o := .cells #[.bool ((rd_T28 l0 x32_2).f0), .string ((rd_T28 l0 x32_2).f1), .string ((rd_T28 l0 x32_2).f2)] 28 (0, 0)) (pkS3 BK305) hb); replace HB := pkB HB hb; try clear hb; obtain ⟨⟨hcz26_0, hcz26_1, hcz26_2⟩, hfz26_0, hfz26_1, hfz26_2⟩ := pk3 BK302; obtain ⟨⟨hcz27_0, hcz27_1, hcz27_2⟩, hfz27_0, hfz27_1, hfz27_2⟩ := pk3 BK305) | ((with_reducible refine gate_callee (f := 7) rfl ?_); refine gl_ 44 Tryz.func7 #[.agg #[.bool x303000_2, .string x303001_2, .string x303002_2], .agg #[.bool ((rd_T28 l0 x32_2).f0), .string ((rd_T28 l0 x32_2).f1), .string ((rd_T28 l0 x32_2).f2)], .slice A1 l1.length c1] (h := ?_); (with_reducible refine (interval_Widen.calls k2 x303000_2 x303001_2 x303002_2 ((rd_T28 l0 x32_2).f0) ((rd_T28 l0 x32_2).f1) ((rd_T28 l0 x32_2).f2) _ _ l1 t308 t309 t310 t311 _ ?side1 ?side2 A18.out).mono ?_); (case side1 => repeat (first | exact (Kd.C_below HR1.out HB.out) | (with_reducible refine Kd.C_alloc ?_ _) | (with_reducible refine Kd.C_drewN ?_ _) | (with_reducible refine Kd.C_drew ?_))); (case side2 => exact HC1.out); rintro e w28 ⟨rfl, hb⟩; refine ⟨_, rfl, ?_⟩; replace BK302 := pkK BK302 hb; replace BK305 := pkK BK305 hb; replace HB := pkB HB hb; try clear hb) | ((with_reducible refine gate_dst (N := 9) rfl ?_); (try (refine gate_guard (by rfl) ?_; dsimp only)); refine bx_ 9 28 #[.bool false, .string (⟨#[]⟩ : ByteArray), .string (⟨#[]⟩ : ByteArray)] (h := ?_); intro gb312 hg w29 hbox hb; have BK312 := Aside0.mk (hbox); have GW312 := pkG HB hg; have GE312 := GW312; obtain ⟨NB302_312, NB312_302, hnb30, hnc30⟩ := pkQ BK302 hg; obtain ⟨NB305_312, NB312_305, hnb31, hnc31⟩ := pkQ BK305 hg; replace BK302 := pkK BK302 hb; replace BK305 := pkK BK305 hb; replace HB := pkB HB hb; clear hb hbox hg; obtain ⟨⟨hcz32_0, hcz32_1, hcz32_2⟩, hfz32_0, hfz32_1, hfz32_2⟩ := pk3 BK312; obtain ⟨⟨hcz33_0, hcz33_1, hcz33_2⟩, hfz33_0, hfz33_1, hfz33_2⟩ := pk3 BK305) | ((with_reducible refine gate_callee (f := 8) rfl ?_); refine gl_ 50 Tryz.func8 #[.agg #[.bool ((rd_T28 l0 x32_2).f0), .string ((rd_T28 l0 x32_2).f1), .string ((rd_T28 l0 x32_2).f2)], .agg #[.bool t308, .string t309, .string t310]] (h := ?_); (with_reducible refine (interval_Leq.calls k2 ((rd_T28 l0 x32_2).f0) ((rd_T28 l0 x32_2).f1) ((rd_T28 l0 x32_2).f2) t308 t309 t310 t313 t314 _ A19.out).mono ?_); rintro e w34 ⟨rfl, hb⟩; refine ⟨_, rfl, ?_⟩; replace BK302 := pkF BK302 hb; replace BK305 := pkF BK305 hb; replace BK312 := Aside0.mk (blk_below (g := gb312) (o := .cells #[.bool t308, .string t309, .string t310] 28 (0, 0)) (pkS3 BK312) hb); replace HB := pkB HB hb; try clear hb; obtain ⟨⟨hcz35_0, hcz35_1, hcz35_2⟩, hfz35_0, hfz35_1, hfz35_2⟩ := pk3 BK302; obtain ⟨⟨hcz36_0, hcz36_1, hcz36_2⟩, hfz36_0, hfz36_1, hfz36_2⟩ := pk3 BK312) | ((with_reducible refine gate_callee (f := 8) rfl ?_); refine gl_ 56 Tryz.func8 #[.agg #[.bool x303000_2, .string x303001_2, .string x303002_2], .agg #[.bool t308, .string t309, .string t310]] (h := ?_); (with_reducible refine (interval_Leq.calls k2 x303000_2 x303001_2 x303002_2 t308 t309 t310 t315 t316 _ A20.out).mono ?_); rintro e w37 ⟨rfl, hb⟩; refine ⟨_, rfl, ?_⟩; replace BK302 := pkK BK302 hb; replace BK305 := pkK BK305 hb; replace BK312 := pkK BK312 hb; replace HB := pkB HB hb; try clear hb))
                    (try simp only [Act.put, List.setIfInBounds_toArray, List.set_cons_zero, List.set_cons_succ])
                    go_cut [72] (fun v72 wc => ∃ (kq : Nat) (x72_20 : Bool), v72 = .bool x72_20 ∧ Aside0 (surveyortop_TopChainsIntervals.j2 kq l1 x6_2 l0 (l0.length : Int) x32_2 x72_20 x303000_2 x303001_2 x303002_2 t308 t309 t310 = some r) ∧ Aside0 (kq ≤ k2) ∧ Aside0 (wc.heap[gb302]? = some (.cells #[.bool x303000_2, .string x303001_2, .string x303002_2] 28 (0, 0))) ∧ Aside0 (wc.heap[gb305]? = some (.cells #[.bool ((rd_T28 l0 x32_2).f0), .string ((rd_T28 l0 x32_2).f1), .string ((rd_T28 l0 x32_2).f2)] 28 (0, 0))) ∧ Aside0 (wc.heap[gb312]? = some (.cells #[.bool t308, .string t309, .string t310] 28 (0, 0))) ∧ Aside0 (Below w.heap.size w wc))
                    case first =>
                      have H := HC21.out
                      clear HC21
                      by_cases c38 : (wrap64 ((wrap64 (t311 + t314)) + t316)) = 0
                      · rw [if_pos c38] at H
                        have c38b0 : ((wrap64 ((wrap64 (t311 + t314)) + t316)) == 0) = true := beq_iff_eq.mpr c38
                        have c38b1 : ((wrap64 ((wrap64 (t311 + t314)) + t316)) != 0) = false := bne_eq_false_iff_eq.mpr c38
                        clear c38
                        (first | rw [c38b0] | (simp only [i64_w, i32_w]; rw [c38b0]) | skip)
                        by_cases c39 : t313 = true
                        · subst c39
                          rw [if_pos rfl] at H
                          have H' := Aside0.mk H
                          clear H
                          go_wp2
                          go_meet
                          case rel => exact ⟨_, (!t315), (by first | rfl | (simp; done) | (simp [*]; done)), H', ⟨by have := HJ2.out; have := HK2.out; first | omega | exact Nat.le_refl _⟩, ⟨pkW BK302⟩, ⟨pkW BK305⟩, ⟨pkW BK312⟩, ⟨pkL HB⟩⟩
                        · replace c39 := Bool.eq_false_iff.mpr c39
                          subst c39
                          rw [if_neg (show ¬ (false = true) by decide)] at H
                          have H' := Aside0.mk H
                          clear H
                          go_wp2
                          go_meet
                          case rel => exact ⟨_, (true), (by first | rfl | (simp; done) | (simp [*]; done)), H', ⟨by have := HJ2.out; have := HK2.out; first | omega | exact Nat.le_refl _⟩, ⟨pkW BK302⟩, ⟨pkW BK305⟩, ⟨pkW BK312⟩, ⟨pkL HB⟩⟩
                      · rw [if_neg c38] at H
                        have c38b0 : ((wrap64 ((wrap64 (t311 + t314)) + t316)) == 0) = false := beq_eq_false_iff_ne.mpr c38
                        have c38b1 : ((wrap64 ((wrap64 (t311 + t314)) + t316)) != 0) = true := bne_iff_ne.mpr c38
                        (first | rw [c38b0] | (simp only [i64_w, i32_w]; rw [c38b0]) | skip)
                        have H' := Aside0.mk H
                        clear H
                        go_wp2
                        go_meet
                        case rel => exact ⟨_, (true), (by first | rfl | (simp; done) | (simp [*]; done)), H', ⟨by have := HJ2.out; have := HK2.out; first | omega | exact Nat.le_refl _⟩, ⟨pkW BK302⟩, ⟨pkW BK305⟩, ⟨pkW BK312⟩, ⟨pkL HB⟩⟩
                    case rest =>
                      clear HC21
                      try clear c1
                      try clear c4
                      try clear c4b0
                      try clear c4b1
                      try clear c5
                      try clear c5b0
                      try clear c5b1
                      try clear c8
                      try clear c13
                      try clear c13b0
                      try clear c14
                      try clear c14b0
                      try clear c15
                      try clear c15b0
                      try clear c17
                      try clear c17b0
                      try clear c17b1
                      try clear c38
                      try clear c38b0
                      try clear c38b1
                      try clear c39
                      try clear hcz12_0
                      try clear hcz12_1
                      try clear hcz12_2
                      try clear hcz24_0
                      try clear hcz24_1
                      try clear hcz24_2
                      try clear hcz26_0
                      try clear hcz26_1
                      try clear hcz26_2
                      try clear hcz27_0
                      try clear hcz27_1
                      try clear hcz27_2
                      try clear hcz32_0
                      try clear hcz32_1
                      try clear hcz32_2
                      try clear hcz33_0
                      try clear hcz33_1
                      try clear hcz33_2
                      try clear hcz35_0
                      try clear hcz35_1
                      try clear hcz35_2
                      try clear hcz36_0
                      try clear hcz36_1
                      try clear hcz36_2
                      try clear hfz12_0
                      try clear hfz12_1
                      try clear hfz12_2
                      try clear hfz24_0
                      try clear hfz24_1
                      try clear hfz24_2
                      try clear hfz26_0
                      try clear hfz26_1
                      try clear hfz26_2
                      try clear hfz27_0
                      try clear hfz27_1
                      try clear hfz27_2
                      try clear hfz32_0
                      try clear hfz32_1
                      try clear hfz32_2
                      try clear hfz33_0
                      try clear hfz33_1
                      try clear hfz33_2
                      try clear hfz35_0
                      try clear hfz35_1
                      try clear hfz35_2
                      try clear hfz36_0
                      try clear hfz36_1
                      try clear hfz36_2
                      try clear hx304_0
                      try clear hx304_1
                      try clear hx304_2
                      try clear p304
                      try clear q304
                      obtain ⟨kq, x72_20, rfl, HA, HJ20, BK302, BK305, BK312, HB⟩ := hcut
                      cases kq with
                      | zero => exact absurd HA.out (by simp [surveyortop_TopChainsIntervals.j2])
                      | succ kj20 =>
                        have H := HA.out
                        clear HA
                        simp only [surveyortop_TopChainsIntervals.j2] at H
                        by_cases c40 : x72_20 = true
                        · subst c40
                          rw [if_pos rfl] at H
                          obtain rfl := Option.some.inj H
                          go_wp2
                          go_ret
                          exact pkE HB
                        · replace c40 := Bool.eq_false_iff.mpr c40
                          subst c40
                          rw [if_neg (show ¬ (false = true) by decide)] at H
                          by_cases c41 : (!(t308 == x303000_2) || (!(t309.toList == x303001_2.toList) || (!(t310.toList == x303002_2.toList)))) = true
                          · rw [if_pos c41] at H
                            have c41b0 : (!(t308 == x303000_2) || (!(t309.toList == x303001_2.toList) || (!(t310.toList == x303002_2.toList)))) = true := c41
                            clear c41
                            have H' := Aside0.mk H
                            clear H
                            have hnb42 := NB312_302.out
                            have hnc42 := NB302_312.out
                            have hnb43 := NB312_305.out
                            have hnc43 := NB305_312.out
                            obtain ⟨⟨hcz44_0, hcz44_1, hcz44_2⟩, hfz44_0, hfz44_1, hfz44_2⟩ := pk3 BK312
                            have hnb45 := NB302_305.out
                            have hnc45 := NB305_302.out
                            obtain ⟨⟨hcz46_0, hcz46_1, hcz46_2⟩, hfz46_0, hfz46_1, hfz46_2⟩ := pk3 BK302
                            go_wp2
                            go_roundg kj20
                            case measure => have := HJ2.out; have := HK2.out; have := HJ20.out; omega
                            case rel => exact ⟨(wrap64 (x6_2 + 1)), (wrap64 (x32_2 + 1)), (t308), (t309), (t310), (by first | rfl | (simp; done) | (simp [*]; done)), (by first | rfl | (simp; done) | (simp [*]; done)), H', ⟨by have := HJ2.out; have := HK2.out; have := HJ20.out; omega⟩, ⟨by (with_reducible repeat (first | refine blk_drewN ?_ _ | refine blk_drew ?_ | refine blk_alloc ?_ _)); refine blk_put (cs := #[.bool t308, .string t309, .string x303002_2]) ?_ 2 _ rfl; (with_reducible repeat (first | refine blk_drewN ?_ _ | refine blk_drew ?_ | refine blk_alloc ?_ _)); refine blk_put (cs := #[.bool t308, .string x303001_2, .string x303002_2]) ?_ 1 _ rfl; (with_reducible repeat (first | refine blk_drewN ?_ _ | refine blk_drew ?_ | refine blk_alloc ?_ _)); refine blk_put (cs := #[.bool x303000_2, .string x303001_2, .string x303002_2]) ?_ 0 _ rfl; (with_reducible repeat (first | refine blk_drewN ?_ _ | refine blk_drew ?_ | refine blk_alloc ?_ _)); exact BK302.out⟩, ⟨pkL HB⟩⟩
                          · rw [if_neg c41] at H
                            have c41b0 : (!(t308 == x303000_2) || (!(t309.toList == x303001_2.toList) || (!(t310.toList == x303002_2.toList)))) = false := by simpa using c41
                            clear c41
                            have H' := Aside0.mk H
                            clear H
                            have hnb47 := NB312_302.out
                            have hnc47 := NB302_312.out
                            have hnb48 := NB312_305.out
                            have hnc48 := NB305_312.out
                            obtain ⟨⟨hcz49_0, hcz49_1, hcz49_2⟩, hfz49_0, hfz49_1, hfz49_2⟩ := pk3 BK312
                            have hnb50 := NB302_305.out
                            have hnc50 := NB305_302.out
                            obtain ⟨⟨hcz51_0, hcz51_1, hcz51_2⟩, hfz51_0, hfz51_1, hfz51_2⟩ := pk3 BK302
                            go_wp2
                            go_roundg kj20
                            case measure => have := HJ2.out; have := HK2.out; have := HJ20.out; omega
                            case rel => exact ⟨(x6_2), (wrap64 (x32_2 + 1)), (t308), (t309), (t310), (by first | rfl | (simp; done) | (simp [*]; done)), (by first | rfl | (simp; done) | (simp [*]; done)), H', ⟨by have := HJ2.out; have := HK2.out; have := HJ20.out; omega⟩, ⟨by (with_reducible repeat (first | refine blk_drewN ?_ _ | refine blk_drew ?_ | refine blk_alloc ?_ _)); refine blk_put (cs := #[.bool t308, .string t309, .string x303002_2]) ?_ 2 _ rfl; (with_reducible repeat (first | refine blk_drewN ?_ _ | refine blk_drew ?_ | refine blk_alloc ?_ _)); refine blk_put (cs := #[.bool t308, .string x303001_2, .string x303002_2]) ?_ 1 _ rfl; (with_reducible repeat (first | refine blk_drewN ?_ _ | refine blk_drew ?_ | refine blk_alloc ?_ _)); refine blk_put (cs := #[.bool x303000_2, .string x303001_2, .string x303002_2]) ?_ 0 _ rfl; (with_reducible repeat (first | refine blk_drewN ?_ _ | refine blk_drew ?_ | refine blk_alloc ?_ _)); exact BK302.out⟩, ⟨pkL HB⟩⟩
                  · rw [if_neg c17] at H
                    have c17b0 : (t306 == 0) = false := beq_eq_false_iff_ne.mpr c17
                    have c17b1 : (t306 != 0) = true := bne_iff_ne.mpr c17
                    obtain ⟨t307, A52, H⟩ := bi H
                    try dsimp only at H
                    obtain rfl := Option.some.inj H
                    have p304 : 0 ≤ (x32_2 : Int) := of_decide_eq_true (by first | (with_reducible assumption) | assumption)
                    have q304 : x32_2 < (l0.length : Int) := of_decide_eq_true (by first | (with_reducible assumption) | assumption)
                    obtain ⟨ad304, e304, hx304_0, hx304_1, hx304_2⟩ := at_T28 HR0.out x32_2 p304 q304
                    cases e304
                    replace hx304_0 := (HB.out.cell (World.block_lt_of_cell? w _ hx304_0)).trans hx304_0
                    replace hx304_1 := (HB.out.cell (World.block_lt_of_cell? w _ hx304_1)).trans hx304_1
                    replace hx304_2 := (HB.out.cell (World.block_lt_of_cell? w _ hx304_2)).trans hx304_2
                    replace p304 := eq_true p304
                    replace q304 := eq_true q304
                    go_wp2_with (first | ((with_reducible refine gate_dst (N := 8) rfl ?_); (try (refine gate_guard (by rfl) ?_; dsimp only)); refine bx_ 8 28 #[.bool false, .string (⟨#[]⟩ : ByteArray), .string (⟨#[]⟩ : ByteArray)] (h := ?_); intro gb305 hg w53 hbox hb; have BK305 := Aside0.mk (hbox); have GW305 := pkG HB hg; have GE305 := GW305; obtain ⟨NB302_305, NB305_302, hnb54, hnc54⟩ := pkQ BK302 hg; replace BK302 := pkK BK302 hb; replace HB := pkB HB hb; clear hb hbox hg; obtain ⟨⟨hcz55_0, hcz55_1, hcz55_2⟩, hfz55_0, hfz55_1, hfz55_2⟩ := pk3 BK305) | ((with_reducible refine gate_callee (f := 6) rfl ?_); refine gl_ 37 Tryz.func6 #[.agg #[.bool ((rd_T28 l0 x32_2).f0), .string ((rd_T28 l0 x32_2).f1), .string ((rd_T28 l0 x32_2).f2)]] (h := ?_); (with_reducible refine (surveyorref21_Check.calls k2 ((rd_T28 l0 x32_2).f0) ((rd_T28 l0 x32_2).f1) ((rd_T28 l0 x32_2).f2) t306 _ A16.out).mono ?_); rintro e w56 ⟨rfl, hb⟩; refine ⟨_, rfl, ?_⟩; replace BK302 := pkF BK302 hb; replace BK305 := Aside0.mk (blk_below (g := gb305) (o := .cells #[.bool ((rd_T28 l0 x32_2).f0), .string ((rd_T28 l0 x32_2).f1), .string ((rd_T28 l0 x32_2).f2)] 28 (0, 0)) (pkS3 BK305) hb); replace HB := pkB HB hb; try clear hb) | ((with_reducible refine gate_callee (f := 5) rfl ?_); refine gl_ 39 Tryz.func5 #[] (h := ?_); (with_reducible refine (surveyortop_tryChains.calls k2  t307 _ A52.out).mono ?_); rintro e w57 ⟨rfl, hb⟩; refine ⟨_, rfl, ?_⟩; replace BK302 := pkK BK302 hb; replace BK305 := pkK BK305 hb; replace HB := pkB HB hb; try clear hb))
                    go_ret
                    exact pkE HB
                · rw [if_neg c15] at H
                  exact absurd H (by simp)
              · rw [if_neg c14] at H
                exact absurd H (by simp)
            · rw [if_neg c13] at H
              have c13b0 : decide (x32_2 < (l0.length : Int)) = false := decide_eq_false c13
              clear c13
              refine byC (P := x6_2 ≤ (wrap64 (3 + (wrap64 (2 * (l1.length : Int)))))) (fun c58 => ?a1) (fun c58 => ?b1)
              case' a1 =>
                rw [if_pos c58] at H
                have c58b0 : decide (x6_2 ≤ (wrap64 (3 + (wrap64 (2 * (l1.length : Int)))))) = true := decide_eq_true c58
                clear c58
                obtain ⟨t303, A59, H⟩ := bi H
                try dsimp only at H
                obtain rfl := Option.some.inj H
              case' b1 =>
                rw [if_neg c58] at H
                have c58b0 : decide (x6_2 ≤ (wrap64 (3 + (wrap64 (2 * (l1.length : Int)))))) = false := decide_eq_false c58
                clear c58
                obtain rfl := Option.some.inj H
              all_goals
                go_wp2_with (first | (go_at_call 5; (with_reducible refine (surveyortop_tryChains.calls k2  t303 _ A59.out).mono ?_); rintro e w60 ⟨rfl, hb⟩; replace BK302 := pkK BK302 hb; replace HB := pkB HB hb; try clear hb))
                go_ret
                exact pkE HB
end Go.Proofs.YtnagmogjhfdmlaaGreatDoor.PTopChainsIntervals
