/- Lemmas. -/
import Derived.Test.YtnagmogjhfdmlaaGreatDoorLPTopChainsIntervalsx0
import Derived.Test.YtnagmogjhfdmlaaGreatDoorLPTopChainsIntervalsx4
import Derived.Test.YtnagmogjhfdmlaaGreatDoorLPTopChainsIntervalsx5
import Derived.Test.YtnagmogjhfdmlaaGreatDoorLPTopChainsIntervalsx6
import Derived.Test.YtnagmogjhfdmlaaGreatDoorLShort
import Derived.Test.YtnagmogjhfdmlaaGreatDoorLShort3
import Derived.Test.YtnagmogjhfdmlaaGreatDoorLShort4
namespace Go.Proofs.YtnagmogjhfdmlaaGreatDoor.PTopChainsIntervals
open Go.RowKit Go.Proofs.YtnagmogjhfdmlaaGreatDoorW.PrintWords Go.Proofs.YtnagmogjhfdmlaaGreatDoorW.PrintLast Go.Proofs.YtnagmogjhfdmlaaGreatDoorW.PrintMore
attribute [local go_sem] max2_int -- for this text's walks alone
set_option linter.unusedVariables false
set_option linter.unusedSimpArgs false
mutual
def interval_Widen.j0 : Nat → List ByteArray → Bool → Int → ByteArray → Int → ByteArray → Int → ByteArray → Int → ByteArray → Option (Bool × ByteArray × ByteArray × Int)
  | 0, _, _, _, _, _, _, _, _, _, _ => none
  | k + 1, x2, x42, x223000, x223001, x223002, x223003, x224000, x224001, x224002, x224003 => if x42 = true then ((interval_span_hull.f x223000 x223001 x223002 x223003 x224000 x224001 x224002 x224003).bind fun bt226 => ((interval_span_interval.f bt226.1 bt226.2.1 bt226.2.2.1 bt226.2.2.2).bind fun bt230 => (some (bt230.1, bt230.2.1, bt230.2.2, 0)))) else ((interval_span_hull.f x223000 x223001 x223002 x223003 x224000 x224001 x224002 x224003).bind fun bt233 => ((interval_compare.f bt233.1 bt233.2.1 x223000 x223001).bind fun t238 => (if t238 = 0 then (interval_Widen.j2 k x2 x223000 x223001 x223002 x223003 bt233.1 bt233.2.1 bt233.2.2.1 bt233.2.2.2) else ((interval_infinite.f (-1)).bind fun bt239 => (interval_Widen.l0 k x2 x2 (x2.length : Int) 0 x223000 x223001 x223002 x223003 bt233.1 bt233.2.1 bt233.2.2.1 bt233.2.2.2 bt239.1 bt239.2)))))
def interval_Widen.j2 : Nat → List ByteArray → Int → ByteArray → Int → ByteArray → Int → ByteArray → Int → ByteArray → Option (Bool × ByteArray × ByteArray × Int)
  | 0, _, _, _, _, _, _, _, _, _ => none
  | k + 1, x2, x223000, x223001, x223002, x223003, x238000, x238001, x238002, x238003 => (interval_compare.f x238002 x238003 x223002 x223003).bind fun t248 => (if t248 = 0 then ((interval_span_interval.f x238000 x238001 x238002 x238003).bind fun bt249 => (some (bt249.1, bt249.2.1, bt249.2.2, 0))) else ((interval_infinite.f 1).bind fun bt252 => (interval_Widen.l1 k x2 (wrap64 ((x2.length : Int) - 1)) x238000 x238001 x238002 x238003 bt252.1 bt252.2)))
def interval_Widen.l1 : Nat → List ByteArray → Int → Int → ByteArray → Int → ByteArray → Int → ByteArray → Option (Bool × ByteArray × ByteArray × Int)
  | 0, _, _, _, _, _, _, _, _ => none
  | k + 1, x2, x17, x238000, x238001, x238002, x238003, x255000, x255001 => if x17 ≥ 0 then (if 0 ≤ x17 then (if x17 < (x2.length : Int) then ((interval_finite.f (rdOf ByteArray.empty x2 x17)).bind fun bt259 => ((interval_compare.f bt259.1 bt259.2 x238002 x238003).bind fun t262 => (if t262 ≥ 0 then (interval_Widen.l1 k x2 (wrap64 (x17 - 1)) x238000 x238001 x238002 x238003 bt259.1 bt259.2) else (interval_Widen.l1 k x2 (wrap64 (x17 - 1)) x238000 x238001 x238002 x238003 x255000 x255001)))) else (none)) else (none)) else ((interval_span_interval.f x238000 x238001 x255000 x255001).bind fun bt255 => (some (bt255.1, bt255.2.1, bt255.2.2, 0)))
def interval_Widen.l0 : Nat → List ByteArray → List ByteArray → Int → Int → Int → ByteArray → Int → ByteArray → Int → ByteArray → Int → ByteArray → Int → ByteArray → Option (Bool × ByteArray × ByteArray × Int)
  | 0, _, _, _, _, _, _, _, _, _, _, _, _, _, _ => none
  | k + 1, x2, x57, x58, x59, x223000, x223001, x223002, x223003, x238000, x238001, x238002, x238003, x242000, x242001 => if x59 < x58 then (if 0 ≤ x59 then (if x59 < (x57.length : Int) then ((interval_finite.f (rdOf ByteArray.empty x57 x59)).bind fun bt243 => ((interval_compare.f bt243.1 bt243.2 x238000 x238001).bind fun t245 => (if t245 ≤ 0 then ((interval_finite.f (rdOf ByteArray.empty x57 x59)).bind fun bt246 => (interval_Widen.l0 k x2 x57 x58 (wrap64 (x59 + 1)) x223000 x223001 x223002 x223003 x238000 x238001 x238002 x238003 bt246.1 bt246.2)) else (interval_Widen.l0 k x2 x57 x58 (wrap64 (x59 + 1)) x223000 x223001 x223002 x223003 x238000 x238001 x238002 x238003 x242000 x242001)))) else (none)) else (none)) else (interval_Widen.j2 k x2 x223000 x223001 x223002 x223003 x242000 x242001 x238002 x238003)
end
def interval_Widen.f (k : Nat) (a0_0 : Bool) (a0_1 : ByteArray) (a0_2 : ByteArray) (a1_0 : Bool) (a1_1 : ByteArray) (a1_2 : ByteArray) (l2 : List ByteArray) : Option (Bool × ByteArray × ByteArray × Int) := (interval_checks.f k (([(⟨a0_0, a0_1, a0_2⟩ : S28), (⟨a1_0, a1_1, a1_2⟩ : S28)] : List (S28)))).bind fun t212 => (if t212 = 0 then ((interval_ascending.f k l2).bind fun t213 => (if t213 = 0 then ((interval_of.f a0_0 a0_1 a0_2).bind fun bt214 => ((interval_of.f a1_0 a1_1 a1_2).bind fun bt218 => ((interval_span_empty.f bt214.1 bt214.2.1 bt214.2.2.1 bt214.2.2.2).bind fun t224 => (if t224 = true then (interval_Widen.j0 k l2 true bt214.1 bt214.2.1 bt214.2.2.1 bt214.2.2.2 bt218.1 bt218.2.1 bt218.2.2.1 bt218.2.2.2) else ((interval_span_empty.f bt218.1 bt218.2.1 bt218.2.2.1 bt218.2.2.2).bind fun t225 => (interval_Widen.j0 k l2 t225 bt214.1 bt214.2.1 bt214.2.2.1 bt214.2.2.2 bt218.1 bt218.2.1 bt218.2.2.1 bt218.2.2.2)))))) else (some (false, (⟨#[]⟩ : ByteArray), (⟨#[]⟩ : ByteArray), t213)))) else (some (false, (⟨#[]⟩ : ByteArray), (⟨#[]⟩ : ByteArray), t212)))
theorem interval_Widen.mono_l : ∀ k, (∀ y0 y1 y2 y3 y4 y5 y6 y7 y8 y9, LeO (interval_Widen.j0 k y0 y1 y2 y3 y4 y5 y6 y7 y8 y9) (interval_Widen.j0 (k + 1) y0 y1 y2 y3 y4 y5 y6 y7 y8 y9)) ∧ (∀ y0 y1 y2 y3 y4 y5 y6 y7 y8, LeO (interval_Widen.j2 k y0 y1 y2 y3 y4 y5 y6 y7 y8) (interval_Widen.j2 (k + 1) y0 y1 y2 y3 y4 y5 y6 y7 y8)) ∧ (∀ y0 y1 y2 y3 y4 y5 y6 y7, LeO (interval_Widen.l1 k y0 y1 y2 y3 y4 y5 y6 y7) (interval_Widen.l1 (k + 1) y0 y1 y2 y3 y4 y5 y6 y7)) ∧ (∀ y0 y1 y2 y3 y4 y5 y6 y7 y8 y9 y10 y11 y12 y13, LeO (interval_Widen.l0 k y0 y1 y2 y3 y4 y5 y6 y7 y8 y9 y10 y11 y12 y13) (interval_Widen.l0 (k + 1) y0 y1 y2 y3 y4 y5 y6 y7 y8 y9 y10 y11 y12 y13))
  | 0 => ⟨fun _ _ _ _ _ _ _ _ _ _ r h => by simp [interval_Widen.j0] at h, fun _ _ _ _ _ _ _ _ _ r h => by simp [interval_Widen.j2] at h, fun _ _ _ _ _ _ _ _ r h => by simp [interval_Widen.l1] at h, fun _ _ _ _ _ _ _ _ _ _ _ _ _ _ r h => by simp [interval_Widen.l0] at h⟩
  | k + 1 => by
    obtain ⟨ih0, ih1, ih2, ih3⟩ := interval_Widen.mono_l k
    refine ⟨?_, ?_, ?_, ?_⟩
    · intro y0 y1 y2 y3 y4 y5 y6 y7 y8 y9
      unfold interval_Widen.j0
      repeat' first
      | (with_reducible exact ih0 _ _ _ _ _ _ _ _ _ _)
      | (with_reducible exact ih1 _ _ _ _ _ _ _ _ _)
      | (with_reducible exact ih2 _ _ _ _ _ _ _ _)
      | (with_reducible exact ih3 _ _ _ _ _ _ _ _ _ _ _ _ _ _)
      | (with_reducible exact interval_ascending.mono _ _)
      | (with_reducible exact interval_checks.mono _ _)
      | (with_reducible exact LeO.refl _)
      | (with_reducible exact LeO.none _)
      | (with_reducible refine LeO.ite ?_ ?_)
      | (with_reducible refine LeO.bind ?_ (fun _ => ?_))
      | exact ih0 _ _ _ _ _ _ _ _ _ _
      | exact ih1 _ _ _ _ _ _ _ _ _
      | exact ih2 _ _ _ _ _ _ _ _
      | exact ih3 _ _ _ _ _ _ _ _ _ _ _ _ _ _
      | exact interval_ascending.mono _ _
      | exact interval_checks.mono _ _
      | exact LeO.none _
      | refine LeO.ite ?_ ?_
      | refine LeO.bind ?_ (fun _ => ?_)
    · intro y0 y1 y2 y3 y4 y5 y6 y7 y8
      unfold interval_Widen.j2
      repeat' first
      | (with_reducible exact ih0 _ _ _ _ _ _ _ _ _ _)
      | (with_reducible exact ih1 _ _ _ _ _ _ _ _ _)
      | (with_reducible exact ih2 _ _ _ _ _ _ _ _)
      | (with_reducible exact ih3 _ _ _ _ _ _ _ _ _ _ _ _ _ _)
      | (with_reducible exact interval_ascending.mono _ _)
      | (with_reducible exact interval_checks.mono _ _)
      | (with_reducible exact LeO.refl _)
      | (with_reducible exact LeO.none _)
      | (with_reducible refine LeO.ite ?_ ?_)
      | (with_reducible refine LeO.bind ?_ (fun _ => ?_))
      | exact ih0 _ _ _ _ _ _ _ _ _ _
      | exact ih1 _ _ _ _ _ _ _ _ _
      | exact ih2 _ _ _ _ _ _ _ _
      | exact ih3 _ _ _ _ _ _ _ _ _ _ _ _ _ _
      | exact interval_ascending.mono _ _
      | exact interval_checks.mono _ _
      | exact LeO.none _
      | refine LeO.ite ?_ ?_
      | refine LeO.bind ?_ (fun _ => ?_)
    · intro y0 y1 y2 y3 y4 y5 y6 y7
      unfold interval_Widen.l1
      repeat' first
      | (with_reducible exact ih0 _ _ _ _ _ _ _ _ _ _)
      | (with_reducible exact ih1 _ _ _ _ _ _ _ _ _)
      | (with_reducible exact ih2 _ _ _ _ _ _ _ _)
      | (with_reducible exact ih3 _ _ _ _ _ _ _ _ _ _ _ _ _ _)
      | (with_reducible exact interval_ascending.mono _ _)
      | (with_reducible exact interval_checks.mono _ _)
      | (with_reducible exact LeO.refl _)
      | (with_reducible exact LeO.none _)
      | (with_reducible refine LeO.ite ?_ ?_)
      | (with_reducible refine LeO.bind ?_ (fun _ => ?_))
      | exact ih0 _ _ _ _ _ _ _ _ _ _
      | exact ih1 _ _ _ _ _ _ _ _ _
      | exact ih2 _ _ _ _ _ _ _ _
      | exact ih3 _ _ _ _ _ _ _ _ _ _ _ _ _ _
      | exact interval_ascending.mono _ _
      | exact interval_checks.mono _ _
      | exact LeO.none _
      | refine LeO.ite ?_ ?_
      | refine LeO.bind ?_ (fun _ => ?_)
    · intro y0 y1 y2 y3 y4 y5 y6 y7 y8 y9 y10 y11 y12 y13
      unfold interval_Widen.l0
      repeat' first
      | (with_reducible exact ih0 _ _ _ _ _ _ _ _ _ _)
      | (with_reducible exact ih1 _ _ _ _ _ _ _ _ _)
      | (with_reducible exact ih2 _ _ _ _ _ _ _ _)
      | (with_reducible exact ih3 _ _ _ _ _ _ _ _ _ _ _ _ _ _)
      | (with_reducible exact interval_ascending.mono _ _)
      | (with_reducible exact interval_checks.mono _ _)
      | (with_reducible exact LeO.refl _)
      | (with_reducible exact LeO.none _)
      | (with_reducible refine LeO.ite ?_ ?_)
      | (with_reducible refine LeO.bind ?_ (fun _ => ?_))
      | exact ih0 _ _ _ _ _ _ _ _ _ _
      | exact ih1 _ _ _ _ _ _ _ _ _
      | exact ih2 _ _ _ _ _ _ _ _
      | exact ih3 _ _ _ _ _ _ _ _ _ _ _ _ _ _
      | exact interval_ascending.mono _ _
      | exact interval_checks.mono _ _
      | exact LeO.none _
      | refine LeO.ite ?_ ?_
      | refine LeO.bind ?_ (fun _ => ?_)
theorem interval_Widen.mono : ∀ a0 a1 a2 a3 a4 a5 a6 k, LeO (interval_Widen.f k a0 a1 a2 a3 a4 a5 a6) (interval_Widen.f (k + 1) a0 a1 a2 a3 a4 a5 a6) := by
  intro a0 a1 a2 a3 a4 a5 a6 k
  obtain ⟨ih0, ih1, ih2, ih3⟩ := interval_Widen.mono_l k
  unfold interval_Widen.f
  repeat' first
      | (with_reducible exact ih0 _ _ _ _ _ _ _ _ _ _)
      | (with_reducible exact ih1 _ _ _ _ _ _ _ _ _)
      | (with_reducible exact ih2 _ _ _ _ _ _ _ _)
      | (with_reducible exact ih3 _ _ _ _ _ _ _ _ _ _ _ _ _ _)
      | (with_reducible exact interval_ascending.mono _ _)
      | (with_reducible exact interval_checks.mono _ _)
      | (with_reducible exact LeO.refl _)
      | (with_reducible exact LeO.none _)
      | (with_reducible refine LeO.ite ?_ ?_)
      | (with_reducible refine LeO.bind ?_ (fun _ => ?_))
      | exact ih0 _ _ _ _ _ _ _ _ _ _
      | exact ih1 _ _ _ _ _ _ _ _ _
      | exact ih2 _ _ _ _ _ _ _ _
      | exact ih3 _ _ _ _ _ _ _ _ _ _ _ _ _ _
      | exact interval_ascending.mono _ _
      | exact interval_checks.mono _ _
      | exact LeO.none _
      | refine LeO.ite ?_ ?_
      | refine LeO.bind ?_ (fun _ => ?_)
def interval_Widen.T7 : Bool × List (List Nat × List Nat) := (true, [([], []), ([0], [0]), ([], []), ([2, 1], [2]), ([], []), ([], []), ([4, 1, 3, 0, 1, 4, 5], [1, 4]), ([5, 3, 6, 0, 1, 2, 3, 4, 5, 6], [3, 5])])
def interval_Widen.B7 : List Nat := [0, 1, 0, 7, 0, 0, 63, 127]
theorem interval_Widen.tab7 : rtab .any (opsOf Tryz.f7 7) = interval_Widen.T7 := by kernel_rfl
theorem interval_Widen.bits7 : waitsOk interval_Widen.T7.2 interval_Widen.B7 = true := by kernel_rfl
set_option maxHeartbeats 8000000 in
set_option maxRecDepth 100000 in
theorem interval_Widen.calls (k : Nat) (a0_0 : Bool) (a0_1 : ByteArray) (a0_2 : ByteArray) (a1_0 : Bool) (a1_1 : ByteArray) (a1_2 : ByteArray) (A2 : Option Addr) (c2 : Nat) (l2 : List ByteArray) (r1 : Bool) (r2 : ByteArray) (r3 : ByteArray) (r4 : Int) (w : World) (hr2 : Kd.C Kd.string w A2 l2.length l2) (hc2 : l2.length ≤ c2) (h : interval_Widen.f k a0_0 a0_1 a0_2 a1_0 a1_1 a1_2 l2 = some (r1, r2, r3, r4)) :
    Calls Tryz.prog 7 #[.agg #[.bool a0_0, .string a0_1, .string a0_2], .agg #[.bool a1_0, .string a1_1, .string a1_2], .slice A2 l2.length c2] w fun e w' => e = .returned (.tuple #[.agg #[.bool r1, .string r2, .string r3], .int .i64 r4]) ∧ Below w.heap.size w w' := by
  have hu28 := Tryz.underlying28
  have hu43 := Tryz.underlying43
  have hu41 := Tryz.underlying41
  have HR2 := Aside0.mk hr2
  have HC2 := Aside0.mk hc2
  clear hr2 hc2
  have HB := Aside0.mk (Below.refl w.heap.size w)
  have H : ((interval_checks.f k (([(⟨a0_0, a0_1, a0_2⟩ : S28), (⟨a1_0, a1_1, a1_2⟩ : S28)] : List (S28)))).bind fun t212 => (if t212 = 0 then ((interval_ascending.f k l2).bind fun t213 => (if t213 = 0 then ((interval_of.f a0_0 a0_1 a0_2).bind fun bt214 => ((interval_of.f a1_0 a1_1 a1_2).bind fun bt218 => ((interval_span_empty.f bt214.1 bt214.2.1 bt214.2.2.1 bt214.2.2.2).bind fun t224 => (if t224 = true then (interval_Widen.j0 k l2 true bt214.1 bt214.2.1 bt214.2.2.1 bt214.2.2.2 bt218.1 bt218.2.1 bt218.2.2.1 bt218.2.2.2) else ((interval_span_empty.f bt218.1 bt218.2.1 bt218.2.2.1 bt218.2.2.2).bind fun t225 => (interval_Widen.j0 k l2 t225 bt214.1 bt214.2.1 bt214.2.2.1 bt214.2.2.2 bt218.1 bt218.2.1 bt218.2.2.1 bt218.2.2.2)))))) else (some (false, (⟨#[]⟩ : ByteArray), (⟨#[]⟩ : ByteArray), t213)))) else (some (false, (⟨#[]⟩ : ByteArray), (⟨#[]⟩ : ByteArray), t212)))) = some (r1, r2, r3, r4) := h
  clear h
  obtain ⟨y209, hy209⟩ : ∃ y_ : List (S28), y_ = (([(⟨a0_0, a0_1, a0_2⟩ : S28), (⟨a1_0, a1_1, a1_2⟩ : S28)] : List (S28))) := ⟨_, rfl⟩
  replace H : ((interval_checks.f k y209).bind fun t212 => (if t212 = 0 then ((interval_ascending.f k l2).bind fun t213 => (if t213 = 0 then ((interval_of.f a0_0 a0_1 a0_2).bind fun bt214 => ((interval_of.f a1_0 a1_1 a1_2).bind fun bt218 => ((interval_span_empty.f bt214.1 bt214.2.1 bt214.2.2.1 bt214.2.2.2).bind fun t224 => (if t224 = true then (interval_Widen.j0 k l2 true bt214.1 bt214.2.1 bt214.2.2.1 bt214.2.2.2 bt218.1 bt218.2.1 bt218.2.2.1 bt218.2.2.2) else ((interval_span_empty.f bt218.1 bt218.2.1 bt218.2.2.1 bt218.2.2.2).bind fun t225 => (interval_Widen.j0 k l2 t225 bt214.1 bt214.2.1 bt214.2.2.1 bt214.2.2.2 bt218.1 bt218.2.1 bt218.2.2.1 bt218.2.2.2)))))) else (some (false, (⟨#[]⟩ : ByteArray), (⟨#[]⟩ : ByteArray), t213)))) else (some (false, (⟨#[]⟩ : ByteArray), (⟨#[]⟩ : ByteArray), t212)))) = some (r1, r2, r3, r4) := by first | (rw [hy209]; with_reducible exact H) | (have H2_ := (Option.bind_some _ _).symm.trans H; rw [hy209]; with_reducible exact H2_) | (have H2_ := (Option.bind_some _ _).symm.trans H; with_reducible exact H2_) | with_reducible exact H | (rw [hy209]; exact H) | exact H
  have Ny209 := Aside0.mk hy209
  clear hy209
  obtain ⟨t212, A4, H⟩ := bi H
  try dsimp only at H
  by_cases c5 : t212 = 0
  · rw [if_pos c5] at H
    have c5b0 : (t212 == 0) = true := beq_iff_eq.mpr c5
    have c5b1 : (t212 != 0) = false := bne_eq_false_iff_eq.mpr c5
    clear c5
    obtain ⟨t213, A6, H⟩ := bi H
    try dsimp only at H
    by_cases c7 : t213 = 0
    · rw [if_pos c7] at H
      have c7b0 : (t213 == 0) = true := beq_iff_eq.mpr c7
      have c7b1 : (t213 != 0) = false := bne_eq_false_iff_eq.mpr c7
      clear c7
      obtain ⟨⟨t214, t215, t216, t217⟩, A8, H⟩ := bi H
      try dsimp only at H
      obtain ⟨⟨t218, t219, t220, t221⟩, A9, H⟩ := bi H
      try dsimp only at H
      have HC10 := Aside0.mk H
      clear H
      go_enter Tryz.func7, Tryz.ntmps7
      try go_wp2_with (first | ((with_reducible refine gate_dst (N := 3) rfl ?_); refine bx_ 3 28 #[.bool a0_0, .string a0_1, .string a0_2] (h := ?_); intro gb206 hg w11 hbox hb; have BK206 := Aside0.mk (hbox); have GW206 := pkG HB hg; have GE206 := GW206; replace HB := pkB HB hb; clear hb hbox hg) | ((with_reducible refine gate_dst (N := 4) rfl ?_); refine bx_ 4 28 #[.bool a1_0, .string a1_1, .string a1_2] (h := ?_); intro gb207 hg w12 hbox hb; have BK207 := Aside0.mk (hbox); have GW207 := pkG HB hg; have GE207 := GW207; obtain ⟨NB206_207, NB207_206, _, _⟩ := pkQ BK206 hg; replace BK206 := pkK BK206 hb; replace HB := pkB HB hb; clear hb hbox hg) | ((with_reducible refine gate_dst (N := 6) rfl ?_); refine bx_ 6 28 #[.bool false, .string (⟨#[]⟩ : ByteArray), .string (⟨#[]⟩ : ByteArray)] (h := ?_); intro gb208 hg w13 hbox hb; have BK208 := Aside0.mk (hbox); have GW208 := pkG HB hg; have GE208 := GW208; obtain ⟨NB206_208, NB208_206, _, _⟩ := pkQ BK206 hg; obtain ⟨NB207_208, NB208_207, _, _⟩ := pkQ BK207 hg; replace BK206 := pkK BK206 hb; replace BK207 := pkK BK207 hb; replace HB := pkB HB hb; clear hb hbox hg; have hnb14 := NB206_207.out; have hnc14 := NB207_206.out; have hnb15 := NB206_208.out; have hnc15 := NB208_206.out; obtain ⟨⟨hcz16_0, hcz16_1, hcz16_2⟩, hfz16_0, hfz16_1, hfz16_2⟩ := pk3 BK206; have hnb17 := NB207_208.out; have hnc17 := NB208_207.out; obtain ⟨⟨hcz18_0, hcz18_1, hcz18_2⟩, hfz18_0, hfz18_1, hfz18_2⟩ := pk3 BK207) | ((with_reducible refine gate_dst (N := 21) rfl ?_); refine Kd.R_lit k28 _ 28 ?hg (N := 21) ?hd (xs := ([(⟨a0_0, a0_1, a0_2⟩ : S28), (⟨a1_0, a1_1, a1_2⟩ : S28)] : List (S28))) (inner := [.bool a0_0, .string a0_1, .string a0_2, .bool a1_0, .string a1_1, .string a1_2]) (ok := fun _ => True) (okp := fun _ => True) ?hr ?hp (fun _ hk => hk) trivial (Below.refl _ _) (Nat.le_refl _) (by simp) ?_; (case hd => rfl); (case hg => rfl); (case hr => first | (go_simp; done) | (go_simp; rfl)); (case hp => exact (Reps.c3 (show Kd.M k28 _ _ _ (⟨a0_0, a0_1, a0_2⟩ : S28) [.bool a0_0, .string a0_1, .string a0_2] from (k28_mkM _ _ _ (⟨a0_0, a0_1, a0_2⟩ : S28) )) (Reps.c3 (show Kd.M k28 _ _ _ (⟨a1_0, a1_1, a1_2⟩ : S28) [.bool a1_0, .string a1_1, .string a1_2] from (k28_mkM _ _ _ (⟨a1_0, a1_1, a1_2⟩ : S28) )) (Reps.none _ _)))); intro v210 w19 ho20 hb hg_ hnew_; clear hg_ hnew_; (first | rw [← Ny209.out] at ho20 | (simp only [Int.reduceToNat] at ho20; rw [← Ny209.out] at ho20)); have HO211 := Aside0.mk (Kd.R_lower (Kd.R_newB (Kd.R_newB (Kd.R_newB ho20 (g := gb206) (o := .cells #[.bool a0_0, .string a0_1, .string a0_2] 28 (0, 0)) (pkW BK206)) (g := gb207) (o := .cells #[.bool a1_0, .string a1_1, .string a1_2] 28 (0, 0)) (pkW BK207)) (g := gb208) (o := .cells #[.bool false, .string (⟨#[]⟩ : ByteArray), .string (⟨#[]⟩ : ByteArray)] 28 (0, 0)) (pkW BK208)) (below_size (pkL HB))); replace BK206 := pkK BK206 hb; replace BK207 := pkK BK207 hb; replace BK208 := pkK BK208 hb; replace HB := pkB HB hb; clear hb ho20; obtain ⟨Ao21, co21, eo21⟩ := Kd.R_slice HO211.out; subst eo21) | ((with_reducible refine gate_callee (f := 12) rfl ?_); refine gl_ 22 Tryz.func12 #[.slice Ao21 y209.length co21] (h := ?_); (with_reducible refine (interval_checks.calls k _ _ y209 t212 _ ?side1 ?side2 A4.out).mono ?_); (case side1 => repeat (first | exact (Kd.R_reads' HO211.out).2.2 | (with_reducible refine Kd.C_alloc ?_ _) | (with_reducible refine Kd.C_drewN ?_ _) | (with_reducible refine Kd.C_drew ?_))); (case side2 => exact (Kd.R_reads' HO211.out).2.1); rintro e w22 ⟨rfl, hb⟩; refine ⟨_, rfl, ?_⟩; replace HO211 := Aside0.mk (Kd.R_below (by (with_reducible repeat (first | apply Kd.R_alloc | apply Kd.R_drewN | apply Kd.R_drew)); exact HO211.out) hb); replace BK206 := pkK BK206 hb; replace BK207 := pkK BK207 hb; replace BK208 := pkK BK208 hb; replace HB := pkB HB hb; try clear hb) | ((with_reducible refine gate_callee (f := 13) rfl ?_); refine gl_ 28 Tryz.func13 #[.slice A2 l2.length c2] (h := ?_); (with_reducible refine (interval_ascending.calls k _ _ l2 t213 _ ?side1 ?side2 A6.out).mono ?_); (case side1 => repeat (first | exact (Kd.C_below HR2.out HB.out) | (with_reducible refine Kd.C_alloc ?_ _) | (with_reducible refine Kd.C_drewN ?_ _) | (with_reducible refine Kd.C_drew ?_))); (case side2 => exact HC2.out); rintro e w23 ⟨rfl, hb⟩; refine ⟨_, rfl, ?_⟩; replace HO211 := Aside0.mk (Kd.R_below (by (with_reducible repeat (first | apply Kd.R_alloc | apply Kd.R_drewN | apply Kd.R_drew)); exact HO211.out) hb); replace BK206 := pkK BK206 hb; replace BK207 := pkK BK207 hb; replace BK208 := pkK BK208 hb; replace HB := pkB HB hb; try clear hb))
      replace HO211 := Aside0.mk (Kd.R_drew HO211.out); replace BK206 := Aside0.mk (blk_drew BK206.out); replace BK207 := Aside0.mk (blk_drew BK207.out); replace BK208 := Aside0.mk (blk_drew BK208.out); replace HB := Aside0.mk (below_drew1 HB.out)
      refine start_ (n := 8) (S := fun w' => w'.cell? ⟨gb206, 0, none⟩ = some (.bool a0_0) ∧ w'.cell? ⟨gb206, 1, none⟩ = some (.string a0_1) ∧ w'.cell? ⟨gb206, 2, none⟩ = some (.string a0_2) ∧ w'.cell? ⟨gb207, 0, none⟩ = some (.bool a1_0) ∧ w'.cell? ⟨gb207, 1, none⟩ = some (.string a1_1) ∧ w'.cell? ⟨gb207, 2, none⟩ = some (.string a1_2)) (ds := []) #[false, false, false, false, false, false, false, false] (by kernel_rfl) rfl rfl ⟨(blk_cell BK206.out 0).trans rfl, (blk_cell BK206.out 1).trans rfl, (blk_cell BK206.out 2).trans rfl, (blk_cell BK207.out 0).trans rfl, (blk_cell BK207.out 1).trans rfl, (blk_cell BK207.out 2).trans rfl⟩ (fun hHeld => ?_); refine with_tabW interval_Widen.tab7 interval_Widen.bits7 (fun HT_ HW_ => ?_)
      generalize w23.drew = w24 at HO211 BK206 BK207 BK208 HB hHeld ⊢
      refine tk_ 0 33 hHeld (hy := by rintro w' ⟨s0, s1, s2, s3, s4, s5⟩; go_simp; with_reducible rfl) (h := ?_)
      refine tk_ 2 35 hHeld (hy := by rintro w' ⟨s0, s1, s2, s3, s4, s5⟩; go_simp; with_reducible rfl) (h := ?_)
      refine join_ (σ := Nat × Nat) 2 #[true, true, true, true, true, true, false, false] (fun s_ => [(34, .agg #[.int .i64 t214, .string t215, .int .i64 t216, .string t217]), (36, .agg #[.int .i64 t218, .string t219, .int .i64 t220, .string t221]), (10, .pointer (some ⟨s_.1, 0, none⟩)), (11, .pointer (some ⟨s_.2, 0, none⟩))]) (fun s_ w' => (w'.cell? ⟨gb206, 0, none⟩ = some (.bool a0_0) ∧ w'.cell? ⟨gb206, 1, none⟩ = some (.string a0_1) ∧ w'.cell? ⟨gb206, 2, none⟩ = some (.string a0_2) ∧ w'.cell? ⟨gb207, 0, none⟩ = some (.bool a1_0) ∧ w'.cell? ⟨gb207, 1, none⟩ = some (.string a1_1) ∧ w'.cell? ⟨gb207, 2, none⟩ = some (.string a1_2)) ∧ (Kd.R k28 28 w' w.heap.size (fun k_ => k_ ≠ gb206 ∧ k_ ≠ gb207 ∧ k_ ≠ gb208) (.slice Ao21 y209.length co21) y209) ∧ (w'.heap[gb206]? = some (.cells #[.bool a0_0, .string a0_1, .string a0_2] 28 (0, 0))) ∧ (w'.heap[gb207]? = some (.cells #[.bool a1_0, .string a1_1, .string a1_2] 28 (0, 0))) ∧ (w'.heap[gb208]? = some (.cells #[.bool false, .string (⟨#[]⟩ : ByteArray), .string (⟨#[]⟩ : ByteArray)] 28 (0, 0))) ∧ (w'.heap[s_.1]? = some (.cells #[.int .i64 0, .string (⟨#[]⟩ : ByteArray), .int .i64 0, .string (⟨#[]⟩ : ByteArray)] 43 (0, 0))) ∧ (w'.heap[s_.2]? = some (.cells #[.int .i64 0, .string (⟨#[]⟩ : ByteArray), .int .i64 0, .string (⟨#[]⟩ : ByteArray)] 43 (0, 0))) ∧ (w.heap.size ≤ s_.1) ∧ (w.heap.size ≤ s_.1) ∧ (gb206 ≠ s_.1) ∧ (s_.1 ≠ gb206) ∧ (gb207 ≠ s_.1) ∧ (s_.1 ≠ gb207) ∧ (gb208 ≠ s_.1) ∧ (s_.1 ≠ gb208) ∧ (s_.2 ≠ s_.1) ∧ (s_.1 ≠ s_.2) ∧ (w.heap.size ≤ s_.2) ∧ (w.heap.size ≤ s_.2) ∧ (gb206 ≠ s_.2) ∧ (s_.2 ≠ gb206) ∧ (gb207 ≠ s_.2) ∧ (s_.2 ≠ gb207) ∧ (gb208 ≠ s_.2) ∧ (s_.2 ≠ gb208) ∧ (Below w.heap.size w w')) ?_ ?_
      rotate_left
      · intro hJ1_3_4_5
        refine join_ (σ := Nat) 3 #[true, true, true, true, true, false, false, false] (fun s_ => [(34, .agg #[.int .i64 t214, .string t215, .int .i64 t216, .string t217]), (36, .agg #[.int .i64 t218, .string t219, .int .i64 t220, .string t221]), (10, .pointer (some ⟨s_, 0, none⟩))]) (fun s_ w' => (w'.cell? ⟨gb206, 0, none⟩ = some (.bool a0_0) ∧ w'.cell? ⟨gb206, 1, none⟩ = some (.string a0_1) ∧ w'.cell? ⟨gb206, 2, none⟩ = some (.string a0_2) ∧ w'.cell? ⟨gb207, 0, none⟩ = some (.bool a1_0) ∧ w'.cell? ⟨gb207, 1, none⟩ = some (.string a1_1) ∧ w'.cell? ⟨gb207, 2, none⟩ = some (.string a1_2)) ∧ (Kd.R k28 28 w' w.heap.size (fun k_ => k_ ≠ gb206 ∧ k_ ≠ gb207 ∧ k_ ≠ gb208) (.slice Ao21 y209.length co21) y209) ∧ (w'.heap[gb206]? = some (.cells #[.bool a0_0, .string a0_1, .string a0_2] 28 (0, 0))) ∧ (w'.heap[gb207]? = some (.cells #[.bool a1_0, .string a1_1, .string a1_2] 28 (0, 0))) ∧ (w'.heap[gb208]? = some (.cells #[.bool false, .string (⟨#[]⟩ : ByteArray), .string (⟨#[]⟩ : ByteArray)] 28 (0, 0))) ∧ (w'.heap[s_]? = some (.cells #[.int .i64 0, .string (⟨#[]⟩ : ByteArray), .int .i64 0, .string (⟨#[]⟩ : ByteArray)] 43 (0, 0))) ∧ (w.heap.size ≤ s_) ∧ (w.heap.size ≤ s_) ∧ (gb206 ≠ s_) ∧ (s_ ≠ gb206) ∧ (gb207 ≠ s_) ∧ (s_ ≠ gb207) ∧ (gb208 ≠ s_) ∧ (s_ ≠ gb208) ∧ (Below w.heap.size w w')) ?_ ?_
        rotate_left
        · intro hJ1_3_4
          refine join_ (σ := Nat) 3 #[true, true, true, true, false, true, false, false] (fun s_ => [(34, .agg #[.int .i64 t214, .string t215, .int .i64 t216, .string t217]), (36, .agg #[.int .i64 t218, .string t219, .int .i64 t220, .string t221]), (11, .pointer (some ⟨s_, 0, none⟩))]) (fun s_ w' => (w'.cell? ⟨gb206, 0, none⟩ = some (.bool a0_0) ∧ w'.cell? ⟨gb206, 1, none⟩ = some (.string a0_1) ∧ w'.cell? ⟨gb206, 2, none⟩ = some (.string a0_2) ∧ w'.cell? ⟨gb207, 0, none⟩ = some (.bool a1_0) ∧ w'.cell? ⟨gb207, 1, none⟩ = some (.string a1_1) ∧ w'.cell? ⟨gb207, 2, none⟩ = some (.string a1_2)) ∧ (Kd.R k28 28 w' w.heap.size (fun k_ => k_ ≠ gb206 ∧ k_ ≠ gb207 ∧ k_ ≠ gb208) (.slice Ao21 y209.length co21) y209) ∧ (w'.heap[gb206]? = some (.cells #[.bool a0_0, .string a0_1, .string a0_2] 28 (0, 0))) ∧ (w'.heap[gb207]? = some (.cells #[.bool a1_0, .string a1_1, .string a1_2] 28 (0, 0))) ∧ (w'.heap[gb208]? = some (.cells #[.bool false, .string (⟨#[]⟩ : ByteArray), .string (⟨#[]⟩ : ByteArray)] 28 (0, 0))) ∧ (w'.heap[s_]? = some (.cells #[.int .i64 0, .string (⟨#[]⟩ : ByteArray), .int .i64 0, .string (⟨#[]⟩ : ByteArray)] 43 (0, 0))) ∧ (w.heap.size ≤ s_) ∧ (w.heap.size ≤ s_) ∧ (gb206 ≠ s_) ∧ (s_ ≠ gb206) ∧ (gb207 ≠ s_) ∧ (s_ ≠ gb207) ∧ (gb208 ≠ s_) ∧ (s_ ≠ gb208) ∧ (Below w.heap.size w w')) ?_ ?_
          rotate_left
          · intro hJ1_3_5
            refine join_ (σ := Nat × Nat) 3 #[true, true, true, false, true, true, false, false] (fun s_ => [(34, .agg #[.int .i64 t214, .string t215, .int .i64 t216, .string t217]), (10, .pointer (some ⟨s_.1, 0, none⟩)), (11, .pointer (some ⟨s_.2, 0, none⟩))]) (fun s_ w' => (w'.cell? ⟨gb206, 0, none⟩ = some (.bool a0_0) ∧ w'.cell? ⟨gb206, 1, none⟩ = some (.string a0_1) ∧ w'.cell? ⟨gb206, 2, none⟩ = some (.string a0_2) ∧ w'.cell? ⟨gb207, 0, none⟩ = some (.bool a1_0) ∧ w'.cell? ⟨gb207, 1, none⟩ = some (.string a1_1) ∧ w'.cell? ⟨gb207, 2, none⟩ = some (.string a1_2)) ∧ (Kd.R k28 28 w' w.heap.size (fun k_ => k_ ≠ gb206 ∧ k_ ≠ gb207 ∧ k_ ≠ gb208) (.slice Ao21 y209.length co21) y209) ∧ (w'.heap[gb206]? = some (.cells #[.bool a0_0, .string a0_1, .string a0_2] 28 (0, 0))) ∧ (w'.heap[gb207]? = some (.cells #[.bool a1_0, .string a1_1, .string a1_2] 28 (0, 0))) ∧ (w'.heap[gb208]? = some (.cells #[.bool false, .string (⟨#[]⟩ : ByteArray), .string (⟨#[]⟩ : ByteArray)] 28 (0, 0))) ∧ (w'.heap[s_.1]? = some (.cells #[.int .i64 0, .string (⟨#[]⟩ : ByteArray), .int .i64 0, .string (⟨#[]⟩ : ByteArray)] 43 (0, 0))) ∧ (w'.heap[s_.2]? = some (.cells #[.int .i64 0, .string (⟨#[]⟩ : ByteArray), .int .i64 0, .string (⟨#[]⟩ : ByteArray)] 43 (0, 0))) ∧ (w.heap.size ≤ s_.1) ∧ (w.heap.size ≤ s_.1) ∧ (gb206 ≠ s_.1) ∧ (s_.1 ≠ gb206) ∧ (gb207 ≠ s_.1) ∧ (s_.1 ≠ gb207) ∧ (gb208 ≠ s_.1) ∧ (s_.1 ≠ gb208) ∧ (s_.2 ≠ s_.1) ∧ (s_.1 ≠ s_.2) ∧ (w.heap.size ≤ s_.2) ∧ (w.heap.size ≤ s_.2) ∧ (gb206 ≠ s_.2) ∧ (s_.2 ≠ gb206) ∧ (gb207 ≠ s_.2) ∧ (s_.2 ≠ gb207) ∧ (gb208 ≠ s_.2) ∧ (s_.2 ≠ gb208) ∧ (Below w.heap.size w w')) ?_ ?_
            rotate_left
            · intro hJ1_4_5
              refine join_ (σ := Unit) 4 #[true, true, true, true, false, false, false, false] (fun s_ => [(34, .agg #[.int .i64 t214, .string t215, .int .i64 t216, .string t217]), (36, .agg #[.int .i64 t218, .string t219, .int .i64 t220, .string t221])]) (fun s_ w' => (w'.cell? ⟨gb206, 0, none⟩ = some (.bool a0_0) ∧ w'.cell? ⟨gb206, 1, none⟩ = some (.string a0_1) ∧ w'.cell? ⟨gb206, 2, none⟩ = some (.string a0_2) ∧ w'.cell? ⟨gb207, 0, none⟩ = some (.bool a1_0) ∧ w'.cell? ⟨gb207, 1, none⟩ = some (.string a1_1) ∧ w'.cell? ⟨gb207, 2, none⟩ = some (.string a1_2)) ∧ (Kd.R k28 28 w' w.heap.size (fun k_ => k_ ≠ gb206 ∧ k_ ≠ gb207 ∧ k_ ≠ gb208) (.slice Ao21 y209.length co21) y209) ∧ (w'.heap[gb206]? = some (.cells #[.bool a0_0, .string a0_1, .string a0_2] 28 (0, 0))) ∧ (w'.heap[gb207]? = some (.cells #[.bool a1_0, .string a1_1, .string a1_2] 28 (0, 0))) ∧ (w'.heap[gb208]? = some (.cells #[.bool false, .string (⟨#[]⟩ : ByteArray), .string (⟨#[]⟩ : ByteArray)] 28 (0, 0))) ∧ (Below w.heap.size w w')) ?_ ?_
              rotate_left
              · intro hJ1_3
                refine join_ (σ := Nat) 4 #[true, true, true, false, true, false, false, false] (fun s_ => [(34, .agg #[.int .i64 t214, .string t215, .int .i64 t216, .string t217]), (10, .pointer (some ⟨s_, 0, none⟩))]) (fun s_ w' => (w'.cell? ⟨gb206, 0, none⟩ = some (.bool a0_0) ∧ w'.cell? ⟨gb206, 1, none⟩ = some (.string a0_1) ∧ w'.cell? ⟨gb206, 2, none⟩ = some (.string a0_2) ∧ w'.cell? ⟨gb207, 0, none⟩ = some (.bool a1_0) ∧ w'.cell? ⟨gb207, 1, none⟩ = some (.string a1_1) ∧ w'.cell? ⟨gb207, 2, none⟩ = some (.string a1_2)) ∧ (Kd.R k28 28 w' w.heap.size (fun k_ => k_ ≠ gb206 ∧ k_ ≠ gb207 ∧ k_ ≠ gb208) (.slice Ao21 y209.length co21) y209) ∧ (w'.heap[gb206]? = some (.cells #[.bool a0_0, .string a0_1, .string a0_2] 28 (0, 0))) ∧ (w'.heap[gb207]? = some (.cells #[.bool a1_0, .string a1_1, .string a1_2] 28 (0, 0))) ∧ (w'.heap[gb208]? = some (.cells #[.bool false, .string (⟨#[]⟩ : ByteArray), .string (⟨#[]⟩ : ByteArray)] 28 (0, 0))) ∧ (w'.heap[s_]? = some (.cells #[.int .i64 0, .string (⟨#[]⟩ : ByteArray), .int .i64 0, .string (⟨#[]⟩ : ByteArray)] 43 (0, 0))) ∧ (w.heap.size ≤ s_) ∧ (w.heap.size ≤ s_) ∧ (gb206 ≠ s_) ∧ (s_ ≠ gb206) ∧ (gb207 ≠ s_) ∧ (s_ ≠ gb207) ∧ (gb208 ≠ s_) ∧ (s_ ≠ gb208) ∧ (Below w.heap.size w w')) ?_ ?_
                rotate_left
                · intro hJ1_4
                  refine join_ (σ := Nat) 4 #[true, true, true, false, false, true, false, false] (fun s_ => [(34, .agg #[.int .i64 t214, .string t215, .int .i64 t216, .string t217]), (11, .pointer (some ⟨s_, 0, none⟩))]) (fun s_ w' => (w'.cell? ⟨gb206, 0, none⟩ = some (.bool a0_0) ∧ w'.cell? ⟨gb206, 1, none⟩ = some (.string a0_1) ∧ w'.cell? ⟨gb206, 2, none⟩ = some (.string a0_2) ∧ w'.cell? ⟨gb207, 0, none⟩ = some (.bool a1_0) ∧ w'.cell? ⟨gb207, 1, none⟩ = some (.string a1_1) ∧ w'.cell? ⟨gb207, 2, none⟩ = some (.string a1_2)) ∧ (Kd.R k28 28 w' w.heap.size (fun k_ => k_ ≠ gb206 ∧ k_ ≠ gb207 ∧ k_ ≠ gb208) (.slice Ao21 y209.length co21) y209) ∧ (w'.heap[gb206]? = some (.cells #[.bool a0_0, .string a0_1, .string a0_2] 28 (0, 0))) ∧ (w'.heap[gb207]? = some (.cells #[.bool a1_0, .string a1_1, .string a1_2] 28 (0, 0))) ∧ (w'.heap[gb208]? = some (.cells #[.bool false, .string (⟨#[]⟩ : ByteArray), .string (⟨#[]⟩ : ByteArray)] 28 (0, 0))) ∧ (w'.heap[s_]? = some (.cells #[.int .i64 0, .string (⟨#[]⟩ : ByteArray), .int .i64 0, .string (⟨#[]⟩ : ByteArray)] 43 (0, 0))) ∧ (w.heap.size ≤ s_) ∧ (w.heap.size ≤ s_) ∧ (gb206 ≠ s_) ∧ (s_ ≠ gb206) ∧ (gb207 ≠ s_) ∧ (s_ ≠ gb207) ∧ (gb208 ≠ s_) ∧ (s_ ≠ gb208) ∧ (Below w.heap.size w w')) ?_ ?_
                  rotate_left
                  · intro hJ1_5
                    refine join_ (σ := Nat × Nat) 4 #[true, false, true, false, true, true, false, false] (fun s_ => [(10, .pointer (some ⟨s_.1, 0, none⟩)), (11, .pointer (some ⟨s_.2, 0, none⟩))]) (fun s_ w' => (w'.cell? ⟨gb206, 0, none⟩ = some (.bool a0_0) ∧ w'.cell? ⟨gb206, 1, none⟩ = some (.string a0_1) ∧ w'.cell? ⟨gb206, 2, none⟩ = some (.string a0_2) ∧ w'.cell? ⟨gb207, 0, none⟩ = some (.bool a1_0) ∧ w'.cell? ⟨gb207, 1, none⟩ = some (.string a1_1) ∧ w'.cell? ⟨gb207, 2, none⟩ = some (.string a1_2)) ∧ (Kd.R k28 28 w' w.heap.size (fun k_ => k_ ≠ gb206 ∧ k_ ≠ gb207 ∧ k_ ≠ gb208) (.slice Ao21 y209.length co21) y209) ∧ (w'.heap[gb206]? = some (.cells #[.bool a0_0, .string a0_1, .string a0_2] 28 (0, 0))) ∧ (w'.heap[gb207]? = some (.cells #[.bool a1_0, .string a1_1, .string a1_2] 28 (0, 0))) ∧ (w'.heap[gb208]? = some (.cells #[.bool false, .string (⟨#[]⟩ : ByteArray), .string (⟨#[]⟩ : ByteArray)] 28 (0, 0))) ∧ (w'.heap[s_.1]? = some (.cells #[.int .i64 0, .string (⟨#[]⟩ : ByteArray), .int .i64 0, .string (⟨#[]⟩ : ByteArray)] 43 (0, 0))) ∧ (w'.heap[s_.2]? = some (.cells #[.int .i64 0, .string (⟨#[]⟩ : ByteArray), .int .i64 0, .string (⟨#[]⟩ : ByteArray)] 43 (0, 0))) ∧ (w.heap.size ≤ s_.1) ∧ (w.heap.size ≤ s_.1) ∧ (gb206 ≠ s_.1) ∧ (s_.1 ≠ gb206) ∧ (gb207 ≠ s_.1) ∧ (s_.1 ≠ gb207) ∧ (gb208 ≠ s_.1) ∧ (s_.1 ≠ gb208) ∧ (s_.2 ≠ s_.1) ∧ (s_.1 ≠ s_.2) ∧ (w.heap.size ≤ s_.2) ∧ (w.heap.size ≤ s_.2) ∧ (gb206 ≠ s_.2) ∧ (s_.2 ≠ gb206) ∧ (gb207 ≠ s_.2) ∧ (s_.2 ≠ gb207) ∧ (gb208 ≠ s_.2) ∧ (s_.2 ≠ gb208) ∧ (Below w.heap.size w w')) ?_ ?_
                    rotate_left
                    · intro hJ4_5
                      refine join_ (σ := Unit) 5 #[true, true, true, false, false, false, false, false] (fun s_ => [(34, .agg #[.int .i64 t214, .string t215, .int .i64 t216, .string t217])]) (fun s_ w' => (w'.cell? ⟨gb206, 0, none⟩ = some (.bool a0_0) ∧ w'.cell? ⟨gb206, 1, none⟩ = some (.string a0_1) ∧ w'.cell? ⟨gb206, 2, none⟩ = some (.string a0_2) ∧ w'.cell? ⟨gb207, 0, none⟩ = some (.bool a1_0) ∧ w'.cell? ⟨gb207, 1, none⟩ = some (.string a1_1) ∧ w'.cell? ⟨gb207, 2, none⟩ = some (.string a1_2)) ∧ (Kd.R k28 28 w' w.heap.size (fun k_ => k_ ≠ gb206 ∧ k_ ≠ gb207 ∧ k_ ≠ gb208) (.slice Ao21 y209.length co21) y209) ∧ (w'.heap[gb206]? = some (.cells #[.bool a0_0, .string a0_1, .string a0_2] 28 (0, 0))) ∧ (w'.heap[gb207]? = some (.cells #[.bool a1_0, .string a1_1, .string a1_2] 28 (0, 0))) ∧ (w'.heap[gb208]? = some (.cells #[.bool false, .string (⟨#[]⟩ : ByteArray), .string (⟨#[]⟩ : ByteArray)] 28 (0, 0))) ∧ (Below w.heap.size w w')) ?_ ?_
                      rotate_left
                      · intro hJ1
                        refine join_ (σ := Nat) 5 #[true, false, true, false, true, false, false, false] (fun s_ => [(10, .pointer (some ⟨s_, 0, none⟩))]) (fun s_ w' => (w'.cell? ⟨gb206, 0, none⟩ = some (.bool a0_0) ∧ w'.cell? ⟨gb206, 1, none⟩ = some (.string a0_1) ∧ w'.cell? ⟨gb206, 2, none⟩ = some (.string a0_2) ∧ w'.cell? ⟨gb207, 0, none⟩ = some (.bool a1_0) ∧ w'.cell? ⟨gb207, 1, none⟩ = some (.string a1_1) ∧ w'.cell? ⟨gb207, 2, none⟩ = some (.string a1_2)) ∧ (Kd.R k28 28 w' w.heap.size (fun k_ => k_ ≠ gb206 ∧ k_ ≠ gb207 ∧ k_ ≠ gb208) (.slice Ao21 y209.length co21) y209) ∧ (w'.heap[gb206]? = some (.cells #[.bool a0_0, .string a0_1, .string a0_2] 28 (0, 0))) ∧ (w'.heap[gb207]? = some (.cells #[.bool a1_0, .string a1_1, .string a1_2] 28 (0, 0))) ∧ (w'.heap[gb208]? = some (.cells #[.bool false, .string (⟨#[]⟩ : ByteArray), .string (⟨#[]⟩ : ByteArray)] 28 (0, 0))) ∧ (w'.heap[s_]? = some (.cells #[.int .i64 0, .string (⟨#[]⟩ : ByteArray), .int .i64 0, .string (⟨#[]⟩ : ByteArray)] 43 (0, 0))) ∧ (w.heap.size ≤ s_) ∧ (w.heap.size ≤ s_) ∧ (gb206 ≠ s_) ∧ (s_ ≠ gb206) ∧ (gb207 ≠ s_) ∧ (s_ ≠ gb207) ∧ (gb208 ≠ s_) ∧ (s_ ≠ gb208) ∧ (Below w.heap.size w w')) ?_ ?_
                        rotate_left
                        · intro hJ4
                          refine join_ (σ := Nat) 5 #[true, false, true, false, false, true, false, false] (fun s_ => [(11, .pointer (some ⟨s_, 0, none⟩))]) (fun s_ w' => (w'.cell? ⟨gb206, 0, none⟩ = some (.bool a0_0) ∧ w'.cell? ⟨gb206, 1, none⟩ = some (.string a0_1) ∧ w'.cell? ⟨gb206, 2, none⟩ = some (.string a0_2) ∧ w'.cell? ⟨gb207, 0, none⟩ = some (.bool a1_0) ∧ w'.cell? ⟨gb207, 1, none⟩ = some (.string a1_1) ∧ w'.cell? ⟨gb207, 2, none⟩ = some (.string a1_2)) ∧ (Kd.R k28 28 w' w.heap.size (fun k_ => k_ ≠ gb206 ∧ k_ ≠ gb207 ∧ k_ ≠ gb208) (.slice Ao21 y209.length co21) y209) ∧ (w'.heap[gb206]? = some (.cells #[.bool a0_0, .string a0_1, .string a0_2] 28 (0, 0))) ∧ (w'.heap[gb207]? = some (.cells #[.bool a1_0, .string a1_1, .string a1_2] 28 (0, 0))) ∧ (w'.heap[gb208]? = some (.cells #[.bool false, .string (⟨#[]⟩ : ByteArray), .string (⟨#[]⟩ : ByteArray)] 28 (0, 0))) ∧ (w'.heap[s_]? = some (.cells #[.int .i64 0, .string (⟨#[]⟩ : ByteArray), .int .i64 0, .string (⟨#[]⟩ : ByteArray)] 43 (0, 0))) ∧ (w.heap.size ≤ s_) ∧ (w.heap.size ≤ s_) ∧ (gb206 ≠ s_) ∧ (s_ ≠ gb206) ∧ (gb207 ≠ s_) ∧ (s_ ≠ gb207) ∧ (gb208 ≠ s_) ∧ (s_ ≠ gb208) ∧ (Below w.heap.size w w')) ?_ ?_
                          rotate_left
                          · intro hJ5
                            refine three_ (i := 1) (j := 4) (k := 5) (Ni := some 34) (Nj := some 10) (Nk := some 11) #[true, true, true, false, false, false, false, false] #[true, false, true, false, true, false, false, false] #[true, false, true, false, false, true, false, false] rfl rfl rfl rfl rfl rfl (three_of HT_.out (by kernel_rfl)) (by decide) (by decide) (by decide) (fun K hK => ?_) (fun K hK => ?_) (fun K hK => ?_)
                            · skip
                              refine g1_ Tryz.func14 #[.agg #[.bool a0_0, .string a0_1, .string a0_2]] (h := ?_)
                              with_reducible refine (interval_of.calls a0_0 a0_1 a0_2 t214 t215 t216 t217 _ A8.out).mono ?_
                              rintro e w25 ⟨rfl, hb⟩
                              refine ⟨_, rfl, ?_⟩
                              replace HO211 := Aside0.mk (Kd.R_below (by (with_reducible repeat (first | apply Kd.R_alloc | apply Kd.R_drewN | apply Kd.R_drew)); exact HO211.out) hb); replace BK206 := pkK BK206 hb; replace BK207 := pkK BK207 hb; replace BK208 := pkK BK208 hb; replace HB := pkB HB hb
                              (try clear hb)
                              (try clear hb2)
                              (try clear hk)
                              (try clear hi)
                              refine hK.out _ _ ⟨(blk_cell BK206.out 0).trans rfl, (blk_cell BK206.out 1).trans rfl, (blk_cell BK206.out 2).trans rfl, (blk_cell BK207.out 0).trans rfl, (blk_cell BK207.out 1).trans rfl, (blk_cell BK207.out 2).trans rfl⟩ (fun hHeld => ?_)
                              clear hK K
                              refine norm_ (a' := ?_) ?_ ?_
                              rotate_left
                              · show Act.put _ (some 34) _ = _
                                simp only [Act.put, List.setIfInBounds_toArray, List.set_cons_zero, List.set_cons_succ, i64_w, i32_w]
                                rfl
                              exact norm_ (by first | (simp only [putAll, Act.put, List.setIfInBounds_toArray, List.set_cons_zero, List.set_cons_succ]; done) | (simp only [putAll, Act.put, List.setIfInBounds_toArray, List.set_cons_zero, List.set_cons_succ]; rfl)) (hJ1 () _ ⟨hHeld, (by (with_reducible repeat (first | apply Kd.R_alloc | apply Kd.R_drewN | apply Kd.R_drew)); exact Kd.R_mono HO211.out (fun _ hk => ⟨hk.1.1.2, ⟨hk.1.2, hk.2⟩⟩)), (pkW BK206), (pkW BK207), (pkW BK208), (pkL HB)⟩)
                            · skip
                              refine box_step ?hg (N := 10) ?hd (cs := #[.int .i64 0, .string (⟨#[]⟩ : ByteArray), .int .i64 0, .string (⟨#[]⟩ : ByteArray)]) (t := 43) ?hr ?_; (case hd => rfl); (case hg => rfl); (case hr => first | (go_simp; done) | (go_simp; rfl))
                              intro gb222 hg w25 hbox hb
                              have n0_ := Aside0.mk (Kd.R_below (by (with_reducible repeat (first | apply Kd.R_alloc | apply Kd.R_drewN | apply Kd.R_drew)); exact HO211.out) hb)
                              have n1_ := pkK BK206 hb
                              have n2_ := pkK BK207 hb
                              have n3_ := pkK BK208 hb
                              have n4_ := pkB HB hb
                              have n5_ := Aside0.mk (hbox)
                              have n6_ := pkG HB hg
                              have n7_ := pkG HB hg
                              have n8_ := pkN BK206 hg
                              have n9_ := pkM BK206 hg
                              have n10_ := pkN BK207 hg
                              have n11_ := pkM BK207 hg
                              have n12_ := pkN BK208 hg
                              have n13_ := pkM BK208 hg
                              clear HO211
                              clear BK206
                              clear BK207
                              clear BK208
                              clear HB
                              have HO211 := n0_
                              have BK206 := n1_
                              have BK207 := n2_
                              have BK208 := n3_
                              have HB := n4_
                              have BK222 := n5_
                              have GW222 := n6_
                              have GE222 := n7_
                              have NB206_222 := n8_
                              have NB222_206 := n9_
                              have NB207_222 := n10_
                              have NB222_207 := n11_
                              have NB208_222 := n12_
                              have NB222_208 := n13_
                              clear n0_ n1_ n2_ n3_ n4_ n5_ n6_ n7_ n8_ n9_ n10_ n11_ n12_ n13_
                              clear hb hbox hg
                              refine hK.out _ _ ⟨(blk_cell BK206.out 0).trans rfl, (blk_cell BK206.out 1).trans rfl, (blk_cell BK206.out 2).trans rfl, (blk_cell BK207.out 0).trans rfl, (blk_cell BK207.out 1).trans rfl, (blk_cell BK207.out 2).trans rfl⟩ (fun hHeld => ?_)
                              clear hK K
                              refine norm_ (a' := ?_) ?_ ?_
                              rotate_left
                              · show Act.put _ (some 10) _ = _
                                simp only [Act.put, List.setIfInBounds_toArray, List.set_cons_zero, List.set_cons_succ, i64_w, i32_w]
                                rfl
                              exact norm_ (by first | (simp only [putAll, Act.put, List.setIfInBounds_toArray, List.set_cons_zero, List.set_cons_succ]; done) | (simp only [putAll, Act.put, List.setIfInBounds_toArray, List.set_cons_zero, List.set_cons_succ]; rfl)) (hJ4 (gb222) _ ⟨hHeld, (by (with_reducible repeat (first | apply Kd.R_alloc | apply Kd.R_drewN | apply Kd.R_drew)); exact Kd.R_mono HO211.out (fun _ hk => ⟨hk.1.1.2, ⟨hk.1.2, hk.2⟩⟩)), (pkW BK206), (pkW BK207), (pkW BK208), (pkW BK222), GW222.out, GE222.out, NB206_222.out, NB222_206.out, NB207_222.out, NB222_207.out, NB208_222.out, NB222_208.out, (pkL HB)⟩)
                            · skip
                              refine box_step ?hg (N := 11) ?hd (cs := #[.int .i64 0, .string (⟨#[]⟩ : ByteArray), .int .i64 0, .string (⟨#[]⟩ : ByteArray)]) (t := 43) ?hr ?_; (case hd => rfl); (case hg => rfl); (case hr => first | (go_simp; done) | (go_simp; rfl))
                              intro gb223 hg w25 hbox hb
                              have n0_ := Aside0.mk (Kd.R_below (by (with_reducible repeat (first | apply Kd.R_alloc | apply Kd.R_drewN | apply Kd.R_drew)); exact HO211.out) hb)
                              have n1_ := pkK BK206 hb
                              have n2_ := pkK BK207 hb
                              have n3_ := pkK BK208 hb
                              have n4_ := pkB HB hb
                              have n5_ := Aside0.mk (hbox)
                              have n6_ := pkG HB hg
                              have n7_ := pkG HB hg
                              have n8_ := pkN BK206 hg
                              have n9_ := pkM BK206 hg
                              have n10_ := pkN BK207 hg
                              have n11_ := pkM BK207 hg
                              have n12_ := pkN BK208 hg
                              have n13_ := pkM BK208 hg
                              clear HO211
                              clear BK206
                              clear BK207
                              clear BK208
                              clear HB
                              have HO211 := n0_
                              have BK206 := n1_
                              have BK207 := n2_
                              have BK208 := n3_
                              have HB := n4_
                              have BK223 := n5_
                              have GW223 := n6_
                              have GE223 := n7_
                              have NB206_223 := n8_
                              have NB223_206 := n9_
                              have NB207_223 := n10_
                              have NB223_207 := n11_
                              have NB208_223 := n12_
                              have NB223_208 := n13_
                              clear n0_ n1_ n2_ n3_ n4_ n5_ n6_ n7_ n8_ n9_ n10_ n11_ n12_ n13_
                              clear hb hbox hg
                              refine hK.out _ _ ⟨(blk_cell BK206.out 0).trans rfl, (blk_cell BK206.out 1).trans rfl, (blk_cell BK206.out 2).trans rfl, (blk_cell BK207.out 0).trans rfl, (blk_cell BK207.out 1).trans rfl, (blk_cell BK207.out 2).trans rfl⟩ (fun hHeld => ?_)
                              clear hK K
                              refine norm_ (a' := ?_) ?_ ?_
                              rotate_left
                              · show Act.put _ (some 11) _ = _
                                simp only [Act.put, List.setIfInBounds_toArray, List.set_cons_zero, List.set_cons_succ, i64_w, i32_w]
                                rfl
                              exact norm_ (by first | (simp only [putAll, Act.put, List.setIfInBounds_toArray, List.set_cons_zero, List.set_cons_succ]; done) | (simp only [putAll, Act.put, List.setIfInBounds_toArray, List.set_cons_zero, List.set_cons_succ]; rfl)) (hJ5 (gb223) _ ⟨hHeld, (by (with_reducible repeat (first | apply Kd.R_alloc | apply Kd.R_drewN | apply Kd.R_drew)); exact Kd.R_mono HO211.out (fun _ hk => ⟨hk.1.1.2, ⟨hk.1.2, hk.2⟩⟩)), (pkW BK206), (pkW BK207), (pkW BK208), (pkW BK223), GW223.out, GE223.out, NB206_223.out, NB223_206.out, NB207_223.out, NB223_207.out, NB208_223.out, NB223_208.out, (pkL HB)⟩)
                          · skip
                            rintro gb223 w26 ⟨hS_, h0_, h1_, h2_, h3_, h4_, h5_, h6_, h7_, h8_, h9_, h10_, h11_, h12_, h13_⟩
                            have n0_ : Aside0 (Kd.R k28 28 w26 w.heap.size (fun k_ => k_ ≠ gb206 ∧ k_ ≠ gb207 ∧ k_ ≠ gb208) (.slice Ao21 y209.length co21) y209) := ⟨h0_⟩
                            have n1_ : Aside0 (w26.heap[gb206]? = some (.cells #[.bool a0_0, .string a0_1, .string a0_2] 28 (0, 0))) := ⟨h1_⟩
                            have n2_ : Aside0 (w26.heap[gb207]? = some (.cells #[.bool a1_0, .string a1_1, .string a1_2] 28 (0, 0))) := ⟨h2_⟩
                            have n3_ : Aside0 (w26.heap[gb208]? = some (.cells #[.bool false, .string (⟨#[]⟩ : ByteArray), .string (⟨#[]⟩ : ByteArray)] 28 (0, 0))) := ⟨h3_⟩
                            have n4_ : Aside0 (w26.heap[gb223]? = some (.cells #[.int .i64 0, .string (⟨#[]⟩ : ByteArray), .int .i64 0, .string (⟨#[]⟩ : ByteArray)] 43 (0, 0))) := ⟨h4_⟩
                            have n5_ : Aside0 (w.heap.size ≤ gb223) := ⟨h5_⟩
                            have n6_ : Aside0 (w.heap.size ≤ gb223) := ⟨h6_⟩
                            have n7_ : Aside0 (gb206 ≠ gb223) := ⟨h7_⟩
                            have n8_ : Aside0 (gb223 ≠ gb206) := ⟨h8_⟩
                            have n9_ : Aside0 (gb207 ≠ gb223) := ⟨h9_⟩
                            have n10_ : Aside0 (gb223 ≠ gb207) := ⟨h10_⟩
                            have n11_ : Aside0 (gb208 ≠ gb223) := ⟨h11_⟩
                            have n12_ : Aside0 (gb223 ≠ gb208) := ⟨h12_⟩
                            have n13_ : Aside0 (Below w.heap.size w w26) := ⟨h13_⟩
                            clear HO211
                            clear BK206
                            clear BK207
                            clear BK208
                            clear HB
                            clear h0_ h1_ h2_ h3_ h4_ h5_ h6_ h7_ h8_ h9_ h10_ h11_ h12_ h13_
                            have HO211 := n0_
                            have BK206 := n1_
                            have BK207 := n2_
                            have BK208 := n3_
                            have BK223 := n4_
                            have GW223 := n5_
                            have GE223 := n6_
                            have NB206_223 := n7_
                            have NB223_206 := n8_
                            have NB207_223 := n9_
                            have NB223_207 := n10_
                            have NB208_223 := n11_
                            have NB223_208 := n12_
                            have HB := n13_
                            clear n0_ n1_ n2_ n3_ n4_ n5_ n6_ n7_ n8_ n9_ n10_ n11_ n12_ n13_
                            have hHeld : w26.cell? ⟨gb206, 0, none⟩ = some (.bool a0_0) ∧ w26.cell? ⟨gb206, 1, none⟩ = some (.string a0_1) ∧ w26.cell? ⟨gb206, 2, none⟩ = some (.string a0_2) ∧ w26.cell? ⟨gb207, 0, none⟩ = some (.bool a1_0) ∧ w26.cell? ⟨gb207, 1, none⟩ = some (.string a1_1) ∧ w26.cell? ⟨gb207, 2, none⟩ = some (.string a1_2) := hS_
                            refine norm_ (a' := ?_) ?_ ?_
                            rotate_left
                            · simp only [putAll, Act.put, List.setIfInBounds_toArray, List.set_cons_zero, List.set_cons_succ]
                              rfl
                            refine two_ (i := 1) (j := 4) (Ni := some 34) (Nj := some 10) #[true, true, true, false, false, true, false, false] #[true, false, true, false, true, true, false, false] rfl rfl rfl rfl (two_of HT_.out (by kernel_rfl)) (by decide) (by decide) (fun K hK => ?_) (fun K hK => ?_)
                            · skip
                              refine g1_ Tryz.func14 #[.agg #[.bool a0_0, .string a0_1, .string a0_2]] (h := ?_)
                              with_reducible refine (interval_of.calls a0_0 a0_1 a0_2 t214 t215 t216 t217 _ A8.out).mono ?_
                              rintro e w27 ⟨rfl, hb⟩
                              refine ⟨_, rfl, ?_⟩
                              replace HO211 := Aside0.mk (Kd.R_below (by (with_reducible repeat (first | apply Kd.R_alloc | apply Kd.R_drewN | apply Kd.R_drew)); exact HO211.out) hb); replace BK206 := pkK BK206 hb; replace BK207 := pkK BK207 hb; replace BK208 := pkK BK208 hb; replace BK223 := pkK BK223 hb; replace HB := pkB HB hb
                              (try clear hb)
                              (try clear hb2)
                              (try clear hk)
                              (try clear hi)
                              refine hK.out _ _ ⟨(blk_cell BK206.out 0).trans rfl, (blk_cell BK206.out 1).trans rfl, (blk_cell BK206.out 2).trans rfl, (blk_cell BK207.out 0).trans rfl, (blk_cell BK207.out 1).trans rfl, (blk_cell BK207.out 2).trans rfl⟩ (fun hHeld => ?_)
                              clear hK K
                              refine norm_ (a' := ?_) ?_ ?_
                              rotate_left
                              · show Act.put _ (some 34) _ = _
                                simp only [Act.put, List.setIfInBounds_toArray, List.set_cons_zero, List.set_cons_succ, i64_w, i32_w]
                                rfl
                              exact norm_ (by first | (simp only [putAll, Act.put, List.setIfInBounds_toArray, List.set_cons_zero, List.set_cons_succ]; done) | (simp only [putAll, Act.put, List.setIfInBounds_toArray, List.set_cons_zero, List.set_cons_succ]; rfl)) (hJ1_5 (gb223) _ ⟨hHeld, (by (with_reducible repeat (first | apply Kd.R_alloc | apply Kd.R_drewN | apply Kd.R_drew)); exact HO211.out), (pkW BK206), (pkW BK207), (pkW BK208), (pkW BK223), GW223.out, GE223.out, NB206_223.out, NB223_206.out, NB207_223.out, NB223_207.out, NB208_223.out, NB223_208.out, (pkL HB)⟩)
                            · skip
                              refine box_step ?hg (N := 10) ?hd (cs := #[.int .i64 0, .string (⟨#[]⟩ : ByteArray), .int .i64 0, .string (⟨#[]⟩ : ByteArray)]) (t := 43) ?hr ?_; (case hd => rfl); (case hg => rfl); (case hr => first | (go_simp; done) | (go_simp; rfl))
                              intro gb222 hg w27 hbox hb
                              have n0_ := Aside0.mk (Kd.R_below (by (with_reducible repeat (first | apply Kd.R_alloc | apply Kd.R_drewN | apply Kd.R_drew)); exact HO211.out) hb)
                              have n1_ := pkK BK206 hb
                              have n2_ := pkK BK207 hb
                              have n3_ := pkK BK208 hb
                              have n4_ := pkK BK223 hb
                              have n5_ := pkB HB hb
                              have n6_ := Aside0.mk (hbox)
                              have n7_ := pkG HB hg
                              have n8_ := pkG HB hg
                              have n9_ := pkN BK206 hg
                              have n10_ := pkM BK206 hg
                              have n11_ := pkN BK207 hg
                              have n12_ := pkM BK207 hg
                              have n13_ := pkN BK208 hg
                              have n14_ := pkM BK208 hg
                              have n15_ := pkN BK223 hg
                              have n16_ := pkM BK223 hg
                              clear HO211
                              clear BK206
                              clear BK207
                              clear BK208
                              clear BK223
                              clear HB
                              have HO211 := n0_
                              have BK206 := n1_
                              have BK207 := n2_
                              have BK208 := n3_
                              have BK223 := n4_
                              have HB := n5_
                              have BK222 := n6_
                              have GW222 := n7_
                              have GE222 := n8_
                              have NB206_222 := n9_
                              have NB222_206 := n10_
                              have NB207_222 := n11_
                              have NB222_207 := n12_
                              have NB208_222 := n13_
                              have NB222_208 := n14_
                              have NB223_222 := n15_
                              have NB222_223 := n16_
                              clear n0_ n1_ n2_ n3_ n4_ n5_ n6_ n7_ n8_ n9_ n10_ n11_ n12_ n13_ n14_ n15_ n16_
                              clear hb hbox hg
                              refine hK.out _ _ ⟨(blk_cell BK206.out 0).trans rfl, (blk_cell BK206.out 1).trans rfl, (blk_cell BK206.out 2).trans rfl, (blk_cell BK207.out 0).trans rfl, (blk_cell BK207.out 1).trans rfl, (blk_cell BK207.out 2).trans rfl⟩ (fun hHeld => ?_)
                              clear hK K
                              refine norm_ (a' := ?_) ?_ ?_
                              rotate_left
                              · show Act.put _ (some 10) _ = _
                                simp only [Act.put, List.setIfInBounds_toArray, List.set_cons_zero, List.set_cons_succ, i64_w, i32_w]
                                rfl
                              exact norm_ (by first | (simp only [putAll, Act.put, List.setIfInBounds_toArray, List.set_cons_zero, List.set_cons_succ]; done) | (simp only [putAll, Act.put, List.setIfInBounds_toArray, List.set_cons_zero, List.set_cons_succ]; rfl)) (hJ4_5 (gb222, gb223) _ ⟨hHeld, (by (with_reducible repeat (first | apply Kd.R_alloc | apply Kd.R_drewN | apply Kd.R_drew)); exact HO211.out), (pkW BK206), (pkW BK207), (pkW BK208), (pkW BK222), (pkW BK223), GW222.out, GE222.out, NB206_222.out, NB222_206.out, NB207_222.out, NB222_207.out, NB208_222.out, NB222_208.out, NB223_222.out, NB222_223.out, GW223.out, GE223.out, NB206_223.out, NB223_206.out, NB207_223.out, NB223_207.out, NB208_223.out, NB223_208.out, (pkL HB)⟩)
                        · skip
                          rintro gb222 w26 ⟨hS_, h0_, h1_, h2_, h3_, h4_, h5_, h6_, h7_, h8_, h9_, h10_, h11_, h12_, h13_⟩
                          have n0_ : Aside0 (Kd.R k28 28 w26 w.heap.size (fun k_ => k_ ≠ gb206 ∧ k_ ≠ gb207 ∧ k_ ≠ gb208) (.slice Ao21 y209.length co21) y209) := ⟨h0_⟩
                          have n1_ : Aside0 (w26.heap[gb206]? = some (.cells #[.bool a0_0, .string a0_1, .string a0_2] 28 (0, 0))) := ⟨h1_⟩
                          have n2_ : Aside0 (w26.heap[gb207]? = some (.cells #[.bool a1_0, .string a1_1, .string a1_2] 28 (0, 0))) := ⟨h2_⟩
                          have n3_ : Aside0 (w26.heap[gb208]? = some (.cells #[.bool false, .string (⟨#[]⟩ : ByteArray), .string (⟨#[]⟩ : ByteArray)] 28 (0, 0))) := ⟨h3_⟩
                          have n4_ : Aside0 (w26.heap[gb222]? = some (.cells #[.int .i64 0, .string (⟨#[]⟩ : ByteArray), .int .i64 0, .string (⟨#[]⟩ : ByteArray)] 43 (0, 0))) := ⟨h4_⟩
                          have n5_ : Aside0 (w.heap.size ≤ gb222) := ⟨h5_⟩
                          have n6_ : Aside0 (w.heap.size ≤ gb222) := ⟨h6_⟩
                          have n7_ : Aside0 (gb206 ≠ gb222) := ⟨h7_⟩
                          have n8_ : Aside0 (gb222 ≠ gb206) := ⟨h8_⟩
                          have n9_ : Aside0 (gb207 ≠ gb222) := ⟨h9_⟩
                          have n10_ : Aside0 (gb222 ≠ gb207) := ⟨h10_⟩
                          have n11_ : Aside0 (gb208 ≠ gb222) := ⟨h11_⟩
                          have n12_ : Aside0 (gb222 ≠ gb208) := ⟨h12_⟩
                          have n13_ : Aside0 (Below w.heap.size w w26) := ⟨h13_⟩
                          clear HO211
                          clear BK206
                          clear BK207
                          clear BK208
                          clear HB
                          clear h0_ h1_ h2_ h3_ h4_ h5_ h6_ h7_ h8_ h9_ h10_ h11_ h12_ h13_
                          have HO211 := n0_
                          have BK206 := n1_
                          have BK207 := n2_
                          have BK208 := n3_
                          have BK222 := n4_
                          have GW222 := n5_
                          have GE222 := n6_
                          have NB206_222 := n7_
                          have NB222_206 := n8_
                          have NB207_222 := n9_
                          have NB222_207 := n10_
                          have NB208_222 := n11_
                          have NB222_208 := n12_
                          have HB := n13_
                          clear n0_ n1_ n2_ n3_ n4_ n5_ n6_ n7_ n8_ n9_ n10_ n11_ n12_ n13_
                          have hHeld : w26.cell? ⟨gb206, 0, none⟩ = some (.bool a0_0) ∧ w26.cell? ⟨gb206, 1, none⟩ = some (.string a0_1) ∧ w26.cell? ⟨gb206, 2, none⟩ = some (.string a0_2) ∧ w26.cell? ⟨gb207, 0, none⟩ = some (.bool a1_0) ∧ w26.cell? ⟨gb207, 1, none⟩ = some (.string a1_1) ∧ w26.cell? ⟨gb207, 2, none⟩ = some (.string a1_2) := hS_
                          refine norm_ (a' := ?_) ?_ ?_
                          rotate_left
                          · simp only [putAll, Act.put, List.setIfInBounds_toArray, List.set_cons_zero, List.set_cons_succ]
                            rfl
                          refine two_ (i := 1) (j := 5) (Ni := some 34) (Nj := some 11) #[true, true, true, false, true, false, false, false] #[true, false, true, false, true, true, false, false] rfl rfl rfl rfl (two_of HT_.out (by kernel_rfl)) (by decide) (by decide) (fun K hK => ?_) (fun K hK => ?_)
                          · skip
                            refine g1_ Tryz.func14 #[.agg #[.bool a0_0, .string a0_1, .string a0_2]] (h := ?_)
                            with_reducible refine (interval_of.calls a0_0 a0_1 a0_2 t214 t215 t216 t217 _ A8.out).mono ?_
                            rintro e w27 ⟨rfl, hb⟩
                            refine ⟨_, rfl, ?_⟩
                            replace HO211 := Aside0.mk (Kd.R_below (by (with_reducible repeat (first | apply Kd.R_alloc | apply Kd.R_drewN | apply Kd.R_drew)); exact HO211.out) hb); replace BK206 := pkK BK206 hb; replace BK207 := pkK BK207 hb; replace BK208 := pkK BK208 hb; replace BK222 := pkK BK222 hb; replace HB := pkB HB hb
                            (try clear hb)
                            (try clear hb2)
                            (try clear hk)
                            (try clear hi)
                            refine hK.out _ _ ⟨(blk_cell BK206.out 0).trans rfl, (blk_cell BK206.out 1).trans rfl, (blk_cell BK206.out 2).trans rfl, (blk_cell BK207.out 0).trans rfl, (blk_cell BK207.out 1).trans rfl, (blk_cell BK207.out 2).trans rfl⟩ (fun hHeld => ?_)
                            clear hK K
                            refine norm_ (a' := ?_) ?_ ?_
                            rotate_left
                            · show Act.put _ (some 34) _ = _
                              simp only [Act.put, List.setIfInBounds_toArray, List.set_cons_zero, List.set_cons_succ, i64_w, i32_w]
                              rfl
                            exact norm_ (by first | (simp only [putAll, Act.put, List.setIfInBounds_toArray, List.set_cons_zero, List.set_cons_succ]; done) | (simp only [putAll, Act.put, List.setIfInBounds_toArray, List.set_cons_zero, List.set_cons_succ]; rfl)) (hJ1_4 (gb222) _ ⟨hHeld, (by (with_reducible repeat (first | apply Kd.R_alloc | apply Kd.R_drewN | apply Kd.R_drew)); exact HO211.out), (pkW BK206), (pkW BK207), (pkW BK208), (pkW BK222), GW222.out, GE222.out, NB206_222.out, NB222_206.out, NB207_222.out, NB222_207.out, NB208_222.out, NB222_208.out, (pkL HB)⟩)
                          · skip
                            refine box_step ?hg (N := 11) ?hd (cs := #[.int .i64 0, .string (⟨#[]⟩ : ByteArray), .int .i64 0, .string (⟨#[]⟩ : ByteArray)]) (t := 43) ?hr ?_; (case hd => rfl); (case hg => rfl); (case hr => first | (go_simp; done) | (go_simp; rfl))
                            intro gb223 hg w27 hbox hb
                            have n0_ := Aside0.mk (Kd.R_below (by (with_reducible repeat (first | apply Kd.R_alloc | apply Kd.R_drewN | apply Kd.R_drew)); exact HO211.out) hb)
                            have n1_ := pkK BK206 hb
                            have n2_ := pkK BK207 hb
                            have n3_ := pkK BK208 hb
                            have n4_ := pkK BK222 hb
                            have n5_ := pkB HB hb
                            have n6_ := Aside0.mk (hbox)
                            have n7_ := pkG HB hg
                            have n8_ := pkG HB hg
                            have n9_ := pkN BK206 hg
                            have n10_ := pkM BK206 hg
                            have n11_ := pkN BK207 hg
                            have n12_ := pkM BK207 hg
                            have n13_ := pkN BK208 hg
                            have n14_ := pkM BK208 hg
                            have n15_ := pkN BK222 hg
                            have n16_ := pkM BK222 hg
                            clear HO211
                            clear BK206
                            clear BK207
                            clear BK208
                            clear BK222
                            clear HB
                            have HO211 := n0_
                            have BK206 := n1_
                            have BK207 := n2_
                            have BK208 := n3_
                            have BK222 := n4_
                            have HB := n5_
                            have BK223 := n6_
                            have GW223 := n7_
                            have GE223 := n8_
                            have NB206_223 := n9_
                            have NB223_206 := n10_
                            have NB207_223 := n11_
                            have NB223_207 := n12_
                            have NB208_223 := n13_
                            have NB223_208 := n14_
                            have NB222_223 := n15_
                            have NB223_222 := n16_
                            clear n0_ n1_ n2_ n3_ n4_ n5_ n6_ n7_ n8_ n9_ n10_ n11_ n12_ n13_ n14_ n15_ n16_
                            clear hb hbox hg
                            refine hK.out _ _ ⟨(blk_cell BK206.out 0).trans rfl, (blk_cell BK206.out 1).trans rfl, (blk_cell BK206.out 2).trans rfl, (blk_cell BK207.out 0).trans rfl, (blk_cell BK207.out 1).trans rfl, (blk_cell BK207.out 2).trans rfl⟩ (fun hHeld => ?_)
                            clear hK K
                            refine norm_ (a' := ?_) ?_ ?_
                            rotate_left
                            · show Act.put _ (some 11) _ = _
                              simp only [Act.put, List.setIfInBounds_toArray, List.set_cons_zero, List.set_cons_succ, i64_w, i32_w]
                              rfl
                            exact norm_ (by first | (simp only [putAll, Act.put, List.setIfInBounds_toArray, List.set_cons_zero, List.set_cons_succ]; done) | (simp only [putAll, Act.put, List.setIfInBounds_toArray, List.set_cons_zero, List.set_cons_succ]; rfl)) (hJ4_5 (gb222, gb223) _ ⟨hHeld, (by (with_reducible repeat (first | apply Kd.R_alloc | apply Kd.R_drewN | apply Kd.R_drew)); exact HO211.out), (pkW BK206), (pkW BK207), (pkW BK208), (pkW BK222), (pkW BK223), GW222.out, GE222.out, NB206_222.out, NB222_206.out, NB207_222.out, NB222_207.out, NB208_222.out, NB222_208.out, NB223_222.out, NB222_223.out, GW223.out, GE223.out, NB206_223.out, NB223_206.out, NB207_223.out, NB223_207.out, NB208_223.out, NB223_208.out, (pkL HB)⟩)
                      · skip
                        rintro _ w26 ⟨hS_, h0_, h1_, h2_, h3_, h4_⟩
                        have n0_ : Aside0 (Kd.R k28 28 w26 w.heap.size (fun k_ => k_ ≠ gb206 ∧ k_ ≠ gb207 ∧ k_ ≠ gb208) (.slice Ao21 y209.length co21) y209) := ⟨h0_⟩
                        have n1_ : Aside0 (w26.heap[gb206]? = some (.cells #[.bool a0_0, .string a0_1, .string a0_2] 28 (0, 0))) := ⟨h1_⟩
                        have n2_ : Aside0 (w26.heap[gb207]? = some (.cells #[.bool a1_0, .string a1_1, .string a1_2] 28 (0, 0))) := ⟨h2_⟩
                        have n3_ : Aside0 (w26.heap[gb208]? = some (.cells #[.bool false, .string (⟨#[]⟩ : ByteArray), .string (⟨#[]⟩ : ByteArray)] 28 (0, 0))) := ⟨h3_⟩
                        have n4_ : Aside0 (Below w.heap.size w w26) := ⟨h4_⟩
                        clear HO211
                        clear BK206
                        clear BK207
                        clear BK208
                        clear HB
                        clear h0_ h1_ h2_ h3_ h4_
                        have HO211 := n0_
                        have BK206 := n1_
                        have BK207 := n2_
                        have BK208 := n3_
                        have HB := n4_
                        clear n0_ n1_ n2_ n3_ n4_
                        have hHeld : w26.cell? ⟨gb206, 0, none⟩ = some (.bool a0_0) ∧ w26.cell? ⟨gb206, 1, none⟩ = some (.string a0_1) ∧ w26.cell? ⟨gb206, 2, none⟩ = some (.string a0_2) ∧ w26.cell? ⟨gb207, 0, none⟩ = some (.bool a1_0) ∧ w26.cell? ⟨gb207, 1, none⟩ = some (.string a1_1) ∧ w26.cell? ⟨gb207, 2, none⟩ = some (.string a1_2) := hS_
                        refine norm_ (a' := ?_) ?_ ?_
                        rotate_left
                        · simp only [putAll, Act.put, List.setIfInBounds_toArray, List.set_cons_zero, List.set_cons_succ]
                          rfl
                        refine three_ (i := 3) (j := 4) (k := 5) (Ni := some 36) (Nj := some 10) (Nk := some 11) #[true, true, true, true, false, false, false, false] #[true, true, true, false, true, false, false, false] #[true, true, true, false, false, true, false, false] rfl rfl rfl rfl rfl rfl (three_of HT_.out (by kernel_rfl)) (by decide) (by decide) (by decide) (fun K hK => ?_) (fun K hK => ?_) (fun K hK => ?_)
                        · skip
                          refine g1_ Tryz.func14 #[.agg #[.bool a1_0, .string a1_1, .string a1_2]] (h := ?_)
                          with_reducible refine (interval_of.calls a1_0 a1_1 a1_2 t218 t219 t220 t221 _ A9.out).mono ?_
                          rintro e w27 ⟨rfl, hb⟩
                          refine ⟨_, rfl, ?_⟩
                          replace HO211 := Aside0.mk (Kd.R_below (by (with_reducible repeat (first | apply Kd.R_alloc | apply Kd.R_drewN | apply Kd.R_drew)); exact HO211.out) hb); replace BK206 := pkK BK206 hb; replace BK207 := pkK BK207 hb; replace BK208 := pkK BK208 hb; replace HB := pkB HB hb
                          (try clear hb)
                          (try clear hb2)
                          (try clear hk)
                          (try clear hi)
                          refine hK.out _ _ ⟨(blk_cell BK206.out 0).trans rfl, (blk_cell BK206.out 1).trans rfl, (blk_cell BK206.out 2).trans rfl, (blk_cell BK207.out 0).trans rfl, (blk_cell BK207.out 1).trans rfl, (blk_cell BK207.out 2).trans rfl⟩ (fun hHeld => ?_)
                          clear hK K
                          refine norm_ (a' := ?_) ?_ ?_
                          rotate_left
                          · show Act.put _ (some 36) _ = _
                            simp only [Act.put, List.setIfInBounds_toArray, List.set_cons_zero, List.set_cons_succ, i64_w, i32_w]
                            rfl
                          exact norm_ (by first | (simp only [putAll, Act.put, List.setIfInBounds_toArray, List.set_cons_zero, List.set_cons_succ]; done) | (simp only [putAll, Act.put, List.setIfInBounds_toArray, List.set_cons_zero, List.set_cons_succ]; rfl)) (hJ1_3 () _ ⟨hHeld, (by (with_reducible repeat (first | apply Kd.R_alloc | apply Kd.R_drewN | apply Kd.R_drew)); exact HO211.out), (pkW BK206), (pkW BK207), (pkW BK208), (pkL HB)⟩)
                        · skip
                          refine box_step ?hg (N := 10) ?hd (cs := #[.int .i64 0, .string (⟨#[]⟩ : ByteArray), .int .i64 0, .string (⟨#[]⟩ : ByteArray)]) (t := 43) ?hr ?_; (case hd => rfl); (case hg => rfl); (case hr => first | (go_simp; done) | (go_simp; rfl))
                          intro gb222 hg w27 hbox hb
                          have n0_ := Aside0.mk (Kd.R_below (by (with_reducible repeat (first | apply Kd.R_alloc | apply Kd.R_drewN | apply Kd.R_drew)); exact HO211.out) hb)
                          have n1_ := pkK BK206 hb
                          have n2_ := pkK BK207 hb
                          have n3_ := pkK BK208 hb
                          have n4_ := pkB HB hb
                          have n5_ := Aside0.mk (hbox)
                          have n6_ := pkG HB hg
                          have n7_ := pkG HB hg
                          have n8_ := pkN BK206 hg
                          have n9_ := pkM BK206 hg
                          have n10_ := pkN BK207 hg
                          have n11_ := pkM BK207 hg
                          have n12_ := pkN BK208 hg
                          have n13_ := pkM BK208 hg
                          clear HO211
                          clear BK206
                          clear BK207
                          clear BK208
                          clear HB
                          have HO211 := n0_
                          have BK206 := n1_
                          have BK207 := n2_
                          have BK208 := n3_
                          have HB := n4_
                          have BK222 := n5_
                          have GW222 := n6_
                          have GE222 := n7_
                          have NB206_222 := n8_
                          have NB222_206 := n9_
                          have NB207_222 := n10_
                          have NB222_207 := n11_
                          have NB208_222 := n12_
                          have NB222_208 := n13_
                          clear n0_ n1_ n2_ n3_ n4_ n5_ n6_ n7_ n8_ n9_ n10_ n11_ n12_ n13_
                          clear hb hbox hg
                          refine hK.out _ _ ⟨(blk_cell BK206.out 0).trans rfl, (blk_cell BK206.out 1).trans rfl, (blk_cell BK206.out 2).trans rfl, (blk_cell BK207.out 0).trans rfl, (blk_cell BK207.out 1).trans rfl, (blk_cell BK207.out 2).trans rfl⟩ (fun hHeld => ?_)
                          clear hK K
                          refine norm_ (a' := ?_) ?_ ?_
                          rotate_left
                          · show Act.put _ (some 10) _ = _
                            simp only [Act.put, List.setIfInBounds_toArray, List.set_cons_zero, List.set_cons_succ, i64_w, i32_w]
                            rfl
                          exact norm_ (by first | (simp only [putAll, Act.put, List.setIfInBounds_toArray, List.set_cons_zero, List.set_cons_succ]; done) | (simp only [putAll, Act.put, List.setIfInBounds_toArray, List.set_cons_zero, List.set_cons_succ]; rfl)) (hJ1_4 (gb222) _ ⟨hHeld, (by (with_reducible repeat (first | apply Kd.R_alloc | apply Kd.R_drewN | apply Kd.R_drew)); exact HO211.out), (pkW BK206), (pkW BK207), (pkW BK208), (pkW BK222), GW222.out, GE222.out, NB206_222.out, NB222_206.out, NB207_222.out, NB222_207.out, NB208_222.out, NB222_208.out, (pkL HB)⟩)
                        · skip
                          refine box_step ?hg (N := 11) ?hd (cs := #[.int .i64 0, .string (⟨#[]⟩ : ByteArray), .int .i64 0, .string (⟨#[]⟩ : ByteArray)]) (t := 43) ?hr ?_; (case hd => rfl); (case hg => rfl); (case hr => first | (go_simp; done) | (go_simp; rfl))
                          intro gb223 hg w27 hbox hb
                          have n0_ := Aside0.mk (Kd.R_below (by (with_reducible repeat (first | apply Kd.R_alloc | apply Kd.R_drewN | apply Kd.R_drew)); exact HO211.out) hb)
                          have n1_ := pkK BK206 hb
                          have n2_ := pkK BK207 hb
                          have n3_ := pkK BK208 hb
                          have n4_ := pkB HB hb
                          have n5_ := Aside0.mk (hbox)
                          have n6_ := pkG HB hg
                          have n7_ := pkG HB hg
                          have n8_ := pkN BK206 hg
                          have n9_ := pkM BK206 hg
                          have n10_ := pkN BK207 hg
                          have n11_ := pkM BK207 hg
                          have n12_ := pkN BK208 hg
                          have n13_ := pkM BK208 hg
                          clear HO211
                          clear BK206
                          clear BK207
                          clear BK208
                          clear HB
                          have HO211 := n0_
                          have BK206 := n1_
                          have BK207 := n2_
                          have BK208 := n3_
                          have HB := n4_
                          have BK223 := n5_
                          have GW223 := n6_
                          have GE223 := n7_
                          have NB206_223 := n8_
                          have NB223_206 := n9_
                          have NB207_223 := n10_
                          have NB223_207 := n11_
                          have NB208_223 := n12_
                          have NB223_208 := n13_
                          clear n0_ n1_ n2_ n3_ n4_ n5_ n6_ n7_ n8_ n9_ n10_ n11_ n12_ n13_
                          clear hb hbox hg
                          refine hK.out _ _ ⟨(blk_cell BK206.out 0).trans rfl, (blk_cell BK206.out 1).trans rfl, (blk_cell BK206.out 2).trans rfl, (blk_cell BK207.out 0).trans rfl, (blk_cell BK207.out 1).trans rfl, (blk_cell BK207.out 2).trans rfl⟩ (fun hHeld => ?_)
                          clear hK K
                          refine norm_ (a' := ?_) ?_ ?_
                          rotate_left
                          · show Act.put _ (some 11) _ = _
                            simp only [Act.put, List.setIfInBounds_toArray, List.set_cons_zero, List.set_cons_succ, i64_w, i32_w]
                            rfl
                          exact norm_ (by first | (simp only [putAll, Act.put, List.setIfInBounds_toArray, List.set_cons_zero, List.set_cons_succ]; done) | (simp only [putAll, Act.put, List.setIfInBounds_toArray, List.set_cons_zero, List.set_cons_succ]; rfl)) (hJ1_5 (gb223) _ ⟨hHeld, (by (with_reducible repeat (first | apply Kd.R_alloc | apply Kd.R_drewN | apply Kd.R_drew)); exact HO211.out), (pkW BK206), (pkW BK207), (pkW BK208), (pkW BK223), GW223.out, GE223.out, NB206_223.out, NB223_206.out, NB207_223.out, NB223_207.out, NB208_223.out, NB223_208.out, (pkL HB)⟩)
                    · skip
                      rintro ⟨gb222, gb223⟩ w27 ⟨hS_, h0_, h1_, h2_, h3_, h4_, h5_, h6_, h7_, h8_, h9_, h10_, h11_, h12_, h13_, h14_, h15_, h16_, h17_, h18_, h19_, h20_, h21_, h22_, h23_, h24_⟩
                      have n0_ : Aside0 (Kd.R k28 28 w27 w.heap.size (fun k_ => k_ ≠ gb206 ∧ k_ ≠ gb207 ∧ k_ ≠ gb208) (.slice Ao21 y209.length co21) y209) := ⟨h0_⟩
                      have n1_ : Aside0 (w27.heap[gb206]? = some (.cells #[.bool a0_0, .string a0_1, .string a0_2] 28 (0, 0))) := ⟨h1_⟩
                      have n2_ : Aside0 (w27.heap[gb207]? = some (.cells #[.bool a1_0, .string a1_1, .string a1_2] 28 (0, 0))) := ⟨h2_⟩
                      have n3_ : Aside0 (w27.heap[gb208]? = some (.cells #[.bool false, .string (⟨#[]⟩ : ByteArray), .string (⟨#[]⟩ : ByteArray)] 28 (0, 0))) := ⟨h3_⟩
                      have n4_ : Aside0 (w27.heap[gb222]? = some (.cells #[.int .i64 0, .string (⟨#[]⟩ : ByteArray), .int .i64 0, .string (⟨#[]⟩ : ByteArray)] 43 (0, 0))) := ⟨h4_⟩
                      have n5_ : Aside0 (w27.heap[gb223]? = some (.cells #[.int .i64 0, .string (⟨#[]⟩ : ByteArray), .int .i64 0, .string (⟨#[]⟩ : ByteArray)] 43 (0, 0))) := ⟨h5_⟩
                      have n6_ : Aside0 (w.heap.size ≤ gb222) := ⟨h6_⟩
                      have n7_ : Aside0 (w.heap.size ≤ gb222) := ⟨h7_⟩
                      have n8_ : Aside0 (gb206 ≠ gb222) := ⟨h8_⟩
                      have n9_ : Aside0 (gb222 ≠ gb206) := ⟨h9_⟩
                      have n10_ : Aside0 (gb207 ≠ gb222) := ⟨h10_⟩
                      have n11_ : Aside0 (gb222 ≠ gb207) := ⟨h11_⟩
                      have n12_ : Aside0 (gb208 ≠ gb222) := ⟨h12_⟩
                      have n13_ : Aside0 (gb222 ≠ gb208) := ⟨h13_⟩
                      have n14_ : Aside0 (gb223 ≠ gb222) := ⟨h14_⟩
                      have n15_ : Aside0 (gb222 ≠ gb223) := ⟨h15_⟩
                      have n16_ : Aside0 (w.heap.size ≤ gb223) := ⟨h16_⟩
                      have n17_ : Aside0 (w.heap.size ≤ gb223) := ⟨h17_⟩
                      have n18_ : Aside0 (gb206 ≠ gb223) := ⟨h18_⟩
                      have n19_ : Aside0 (gb223 ≠ gb206) := ⟨h19_⟩
                      have n20_ : Aside0 (gb207 ≠ gb223) := ⟨h20_⟩
                      have n21_ : Aside0 (gb223 ≠ gb207) := ⟨h21_⟩
                      have n22_ : Aside0 (gb208 ≠ gb223) := ⟨h22_⟩
                      have n23_ : Aside0 (gb223 ≠ gb208) := ⟨h23_⟩
                      have n24_ : Aside0 (Below w.heap.size w w27) := ⟨h24_⟩
                      clear HO211
                      clear BK206
                      clear BK207
                      clear BK208
                      clear HB
                      clear h0_ h1_ h2_ h3_ h4_ h5_ h6_ h7_ h8_ h9_ h10_ h11_ h12_ h13_ h14_ h15_ h16_ h17_ h18_ h19_ h20_ h21_ h22_ h23_ h24_
                      have HO211 := n0_
                      have BK206 := n1_
                      have BK207 := n2_
                      have BK208 := n3_
                      have BK222 := n4_
                      have BK223 := n5_
                      have GW222 := n6_
                      have GE222 := n7_
                      have NB206_222 := n8_
                      have NB222_206 := n9_
                      have NB207_222 := n10_
                      have NB222_207 := n11_
                      have NB208_222 := n12_
                      have NB222_208 := n13_
                      have NB223_222 := n14_
                      have NB222_223 := n15_
                      have GW223 := n16_
                      have GE223 := n17_
                      have NB206_223 := n18_
                      have NB223_206 := n19_
                      have NB207_223 := n20_
                      have NB223_207 := n21_
                      have NB208_223 := n22_
                      have NB223_208 := n23_
                      have HB := n24_
                      clear n0_ n1_ n2_ n3_ n4_ n5_ n6_ n7_ n8_ n9_ n10_ n11_ n12_ n13_ n14_ n15_ n16_ n17_ n18_ n19_ n20_ n21_ n22_ n23_ n24_
                      have hHeld : w27.cell? ⟨gb206, 0, none⟩ = some (.bool a0_0) ∧ w27.cell? ⟨gb206, 1, none⟩ = some (.string a0_1) ∧ w27.cell? ⟨gb206, 2, none⟩ = some (.string a0_2) ∧ w27.cell? ⟨gb207, 0, none⟩ = some (.bool a1_0) ∧ w27.cell? ⟨gb207, 1, none⟩ = some (.string a1_1) ∧ w27.cell? ⟨gb207, 2, none⟩ = some (.string a1_2) := hS_
                      refine norm_ (a' := ?_) ?_ ?_
                      rotate_left
                      · simp only [putAll, Act.put, List.setIfInBounds_toArray, List.set_cons_zero, List.set_cons_succ]
                        rfl
                      refine on_ 1 34 (h := fun K hK => ?_)
                      refine g1_ Tryz.func14 #[.agg #[.bool a0_0, .string a0_1, .string a0_2]] (h := ?_)
                      with_reducible refine (interval_of.calls a0_0 a0_1 a0_2 t214 t215 t216 t217 _ A8.out).mono ?_
                      rintro e w28 ⟨rfl, hb⟩
                      refine ⟨_, rfl, ?_⟩
                      replace HO211 := Aside0.mk (Kd.R_below (by (with_reducible repeat (first | apply Kd.R_alloc | apply Kd.R_drewN | apply Kd.R_drew)); exact HO211.out) hb); replace BK206 := pkK BK206 hb; replace BK207 := pkK BK207 hb; replace BK208 := pkK BK208 hb; replace BK222 := pkK BK222 hb; replace BK223 := pkK BK223 hb; replace HB := pkB HB hb
                      (try clear hb)
                      (try clear hb2)
                      (try clear hk)
                      (try clear hi)
                      refine hK.out _ _ ⟨(blk_cell BK206.out 0).trans rfl, (blk_cell BK206.out 1).trans rfl, (blk_cell BK206.out 2).trans rfl, (blk_cell BK207.out 0).trans rfl, (blk_cell BK207.out 1).trans rfl, (blk_cell BK207.out 2).trans rfl⟩ (fun hHeld => ?_)
                      clear hK K
                      refine norm_ (a' := ?_) ?_ ?_
                      rotate_left
                      · show Act.put _ (some 34) _ = _
                        simp only [Act.put, List.setIfInBounds_toArray, List.set_cons_zero, List.set_cons_succ, i64_w, i32_w]
                        rfl
                      exact norm_ (by first | (simp only [putAll, Act.put, List.setIfInBounds_toArray, List.set_cons_zero, List.set_cons_succ]; done) | (simp only [putAll, Act.put, List.setIfInBounds_toArray, List.set_cons_zero, List.set_cons_succ]; rfl)) (hJ1_4_5 (gb222, gb223) _ ⟨hHeld, (by (with_reducible repeat (first | apply Kd.R_alloc | apply Kd.R_drewN | apply Kd.R_drew)); exact HO211.out), (pkW BK206), (pkW BK207), (pkW BK208), (pkW BK222), (pkW BK223), GW222.out, GE222.out, NB206_222.out, NB222_206.out, NB207_222.out, NB222_207.out, NB208_222.out, NB222_208.out, NB223_222.out, NB222_223.out, GW223.out, GE223.out, NB206_223.out, NB223_206.out, NB207_223.out, NB223_207.out, NB208_223.out, NB223_208.out, (pkL HB)⟩)
                  · skip
                    rintro gb223 w27 ⟨hS_, h0_, h1_, h2_, h3_, h4_, h5_, h6_, h7_, h8_, h9_, h10_, h11_, h12_, h13_⟩
                    have n0_ : Aside0 (Kd.R k28 28 w27 w.heap.size (fun k_ => k_ ≠ gb206 ∧ k_ ≠ gb207 ∧ k_ ≠ gb208) (.slice Ao21 y209.length co21) y209) := ⟨h0_⟩
                    have n1_ : Aside0 (w27.heap[gb206]? = some (.cells #[.bool a0_0, .string a0_1, .string a0_2] 28 (0, 0))) := ⟨h1_⟩
                    have n2_ : Aside0 (w27.heap[gb207]? = some (.cells #[.bool a1_0, .string a1_1, .string a1_2] 28 (0, 0))) := ⟨h2_⟩
                    have n3_ : Aside0 (w27.heap[gb208]? = some (.cells #[.bool false, .string (⟨#[]⟩ : ByteArray), .string (⟨#[]⟩ : ByteArray)] 28 (0, 0))) := ⟨h3_⟩
                    have n4_ : Aside0 (w27.heap[gb223]? = some (.cells #[.int .i64 0, .string (⟨#[]⟩ : ByteArray), .int .i64 0, .string (⟨#[]⟩ : ByteArray)] 43 (0, 0))) := ⟨h4_⟩
                    have n5_ : Aside0 (w.heap.size ≤ gb223) := ⟨h5_⟩
                    have n6_ : Aside0 (w.heap.size ≤ gb223) := ⟨h6_⟩
                    have n7_ : Aside0 (gb206 ≠ gb223) := ⟨h7_⟩
                    have n8_ : Aside0 (gb223 ≠ gb206) := ⟨h8_⟩
                    have n9_ : Aside0 (gb207 ≠ gb223) := ⟨h9_⟩
                    have n10_ : Aside0 (gb223 ≠ gb207) := ⟨h10_⟩
                    have n11_ : Aside0 (gb208 ≠ gb223) := ⟨h11_⟩
                    have n12_ : Aside0 (gb223 ≠ gb208) := ⟨h12_⟩
                    have n13_ : Aside0 (Below w.heap.size w w27) := ⟨h13_⟩
                    clear HO211
                    clear BK206
                    clear BK207
                    clear BK208
                    clear HB
                    clear h0_ h1_ h2_ h3_ h4_ h5_ h6_ h7_ h8_ h9_ h10_ h11_ h12_ h13_
                    have HO211 := n0_
                    have BK206 := n1_
                    have BK207 := n2_
                    have BK208 := n3_
                    have BK223 := n4_
                    have GW223 := n5_
                    have GE223 := n6_
                    have NB206_223 := n7_
                    have NB223_206 := n8_
                    have NB207_223 := n9_
                    have NB223_207 := n10_
                    have NB208_223 := n11_
                    have NB223_208 := n12_
                    have HB := n13_
                    clear n0_ n1_ n2_ n3_ n4_ n5_ n6_ n7_ n8_ n9_ n10_ n11_ n12_ n13_
                    have hHeld : w27.cell? ⟨gb206, 0, none⟩ = some (.bool a0_0) ∧ w27.cell? ⟨gb206, 1, none⟩ = some (.string a0_1) ∧ w27.cell? ⟨gb206, 2, none⟩ = some (.string a0_2) ∧ w27.cell? ⟨gb207, 0, none⟩ = some (.bool a1_0) ∧ w27.cell? ⟨gb207, 1, none⟩ = some (.string a1_1) ∧ w27.cell? ⟨gb207, 2, none⟩ = some (.string a1_2) := hS_
                    refine norm_ (a' := ?_) ?_ ?_
                    rotate_left
                    · simp only [putAll, Act.put, List.setIfInBounds_toArray, List.set_cons_zero, List.set_cons_succ]
                      rfl
                    refine two_ (i := 3) (j := 4) (Ni := some 36) (Nj := some 10) #[true, true, true, true, false, true, false, false] #[true, true, true, false, true, true, false, false] rfl rfl rfl rfl (two_of HT_.out (by kernel_rfl)) (by decide) (by decide) (fun K hK => ?_) (fun K hK => ?_)
                    · skip
                      refine g1_ Tryz.func14 #[.agg #[.bool a1_0, .string a1_1, .string a1_2]] (h := ?_)
                      with_reducible refine (interval_of.calls a1_0 a1_1 a1_2 t218 t219 t220 t221 _ A9.out).mono ?_
                      rintro e w28 ⟨rfl, hb⟩
                      refine ⟨_, rfl, ?_⟩
                      replace HO211 := Aside0.mk (Kd.R_below (by (with_reducible repeat (first | apply Kd.R_alloc | apply Kd.R_drewN | apply Kd.R_drew)); exact HO211.out) hb); replace BK206 := pkK BK206 hb; replace BK207 := pkK BK207 hb; replace BK208 := pkK BK208 hb; replace BK223 := pkK BK223 hb; replace HB := pkB HB hb
                      (try clear hb)
                      (try clear hb2)
                      (try clear hk)
                      (try clear hi)
                      refine hK.out _ _ ⟨(blk_cell BK206.out 0).trans rfl, (blk_cell BK206.out 1).trans rfl, (blk_cell BK206.out 2).trans rfl, (blk_cell BK207.out 0).trans rfl, (blk_cell BK207.out 1).trans rfl, (blk_cell BK207.out 2).trans rfl⟩ (fun hHeld => ?_)
                      clear hK K
                      refine norm_ (a' := ?_) ?_ ?_
                      rotate_left
                      · show Act.put _ (some 36) _ = _
                        simp only [Act.put, List.setIfInBounds_toArray, List.set_cons_zero, List.set_cons_succ, i64_w, i32_w]
                        rfl
                      exact norm_ (by first | (simp only [putAll, Act.put, List.setIfInBounds_toArray, List.set_cons_zero, List.set_cons_succ]; done) | (simp only [putAll, Act.put, List.setIfInBounds_toArray, List.set_cons_zero, List.set_cons_succ]; rfl)) (hJ1_3_5 (gb223) _ ⟨hHeld, (by (with_reducible repeat (first | apply Kd.R_alloc | apply Kd.R_drewN | apply Kd.R_drew)); exact HO211.out), (pkW BK206), (pkW BK207), (pkW BK208), (pkW BK223), GW223.out, GE223.out, NB206_223.out, NB223_206.out, NB207_223.out, NB223_207.out, NB208_223.out, NB223_208.out, (pkL HB)⟩)
                    · skip
                      refine box_step ?hg (N := 10) ?hd (cs := #[.int .i64 0, .string (⟨#[]⟩ : ByteArray), .int .i64 0, .string (⟨#[]⟩ : ByteArray)]) (t := 43) ?hr ?_; (case hd => rfl); (case hg => rfl); (case hr => first | (go_simp; done) | (go_simp; rfl))
                      intro gb222 hg w28 hbox hb
                      have n0_ := Aside0.mk (Kd.R_below (by (with_reducible repeat (first | apply Kd.R_alloc | apply Kd.R_drewN | apply Kd.R_drew)); exact HO211.out) hb)
                      have n1_ := pkK BK206 hb
                      have n2_ := pkK BK207 hb
                      have n3_ := pkK BK208 hb
                      have n4_ := pkK BK223 hb
                      have n5_ := pkB HB hb
                      have n6_ := Aside0.mk (hbox)
                      have n7_ := pkG HB hg
                      have n8_ := pkG HB hg
                      have n9_ := pkN BK206 hg
                      have n10_ := pkM BK206 hg
                      have n11_ := pkN BK207 hg
                      have n12_ := pkM BK207 hg
                      have n13_ := pkN BK208 hg
                      have n14_ := pkM BK208 hg
                      have n15_ := pkN BK223 hg
                      have n16_ := pkM BK223 hg
                      clear HO211
                      clear BK206
                      clear BK207
                      clear BK208
                      clear BK223
                      clear HB
                      have HO211 := n0_
                      have BK206 := n1_
                      have BK207 := n2_
                      have BK208 := n3_
                      have BK223 := n4_
                      have HB := n5_
                      have BK222 := n6_
                      have GW222 := n7_
                      have GE222 := n8_
                      have NB206_222 := n9_
                      have NB222_206 := n10_
                      have NB207_222 := n11_
                      have NB222_207 := n12_
                      have NB208_222 := n13_
                      have NB222_208 := n14_
                      have NB223_222 := n15_
                      have NB222_223 := n16_
                      clear n0_ n1_ n2_ n3_ n4_ n5_ n6_ n7_ n8_ n9_ n10_ n11_ n12_ n13_ n14_ n15_ n16_
                      clear hb hbox hg
                      refine hK.out _ _ ⟨(blk_cell BK206.out 0).trans rfl, (blk_cell BK206.out 1).trans rfl, (blk_cell BK206.out 2).trans rfl, (blk_cell BK207.out 0).trans rfl, (blk_cell BK207.out 1).trans rfl, (blk_cell BK207.out 2).trans rfl⟩ (fun hHeld => ?_)
                      clear hK K
                      refine norm_ (a' := ?_) ?_ ?_
                      rotate_left
                      · show Act.put _ (some 10) _ = _
                        simp only [Act.put, List.setIfInBounds_toArray, List.set_cons_zero, List.set_cons_succ, i64_w, i32_w]
                        rfl
                      exact norm_ (by first | (simp only [putAll, Act.put, List.setIfInBounds_toArray, List.set_cons_zero, List.set_cons_succ]; done) | (simp only [putAll, Act.put, List.setIfInBounds_toArray, List.set_cons_zero, List.set_cons_succ]; rfl)) (hJ1_4_5 (gb222, gb223) _ ⟨hHeld, (by (with_reducible repeat (first | apply Kd.R_alloc | apply Kd.R_drewN | apply Kd.R_drew)); exact HO211.out), (pkW BK206), (pkW BK207), (pkW BK208), (pkW BK222), (pkW BK223), GW222.out, GE222.out, NB206_222.out, NB222_206.out, NB207_222.out, NB222_207.out, NB208_222.out, NB222_208.out, NB223_222.out, NB222_223.out, GW223.out, GE223.out, NB206_223.out, NB223_206.out, NB207_223.out, NB223_207.out, NB208_223.out, NB223_208.out, (pkL HB)⟩)
                · skip
                  rintro gb222 w27 ⟨hS_, h0_, h1_, h2_, h3_, h4_, h5_, h6_, h7_, h8_, h9_, h10_, h11_, h12_, h13_⟩
                  have n0_ : Aside0 (Kd.R k28 28 w27 w.heap.size (fun k_ => k_ ≠ gb206 ∧ k_ ≠ gb207 ∧ k_ ≠ gb208) (.slice Ao21 y209.length co21) y209) := ⟨h0_⟩
                  have n1_ : Aside0 (w27.heap[gb206]? = some (.cells #[.bool a0_0, .string a0_1, .string a0_2] 28 (0, 0))) := ⟨h1_⟩
                  have n2_ : Aside0 (w27.heap[gb207]? = some (.cells #[.bool a1_0, .string a1_1, .string a1_2] 28 (0, 0))) := ⟨h2_⟩
                  have n3_ : Aside0 (w27.heap[gb208]? = some (.cells #[.bool false, .string (⟨#[]⟩ : ByteArray), .string (⟨#[]⟩ : ByteArray)] 28 (0, 0))) := ⟨h3_⟩
                  have n4_ : Aside0 (w27.heap[gb222]? = some (.cells #[.int .i64 0, .string (⟨#[]⟩ : ByteArray), .int .i64 0, .string (⟨#[]⟩ : ByteArray)] 43 (0, 0))) := ⟨h4_⟩
                  have n5_ : Aside0 (w.heap.size ≤ gb222) := ⟨h5_⟩
                  have n6_ : Aside0 (w.heap.size ≤ gb222) := ⟨h6_⟩
                  have n7_ : Aside0 (gb206 ≠ gb222) := ⟨h7_⟩
                  have n8_ : Aside0 (gb222 ≠ gb206) := ⟨h8_⟩
                  have n9_ : Aside0 (gb207 ≠ gb222) := ⟨h9_⟩
                  have n10_ : Aside0 (gb222 ≠ gb207) := ⟨h10_⟩
                  have n11_ : Aside0 (gb208 ≠ gb222) := ⟨h11_⟩
                  have n12_ : Aside0 (gb222 ≠ gb208) := ⟨h12_⟩
                  have n13_ : Aside0 (Below w.heap.size w w27) := ⟨h13_⟩
                  clear HO211
                  clear BK206
                  clear BK207
                  clear BK208
                  clear HB
                  clear h0_ h1_ h2_ h3_ h4_ h5_ h6_ h7_ h8_ h9_ h10_ h11_ h12_ h13_
                  have HO211 := n0_
                  have BK206 := n1_
                  have BK207 := n2_
                  have BK208 := n3_
                  have BK222 := n4_
                  have GW222 := n5_
                  have GE222 := n6_
                  have NB206_222 := n7_
                  have NB222_206 := n8_
                  have NB207_222 := n9_
                  have NB222_207 := n10_
                  have NB208_222 := n11_
                  have NB222_208 := n12_
                  have HB := n13_
                  clear n0_ n1_ n2_ n3_ n4_ n5_ n6_ n7_ n8_ n9_ n10_ n11_ n12_ n13_
                  have hHeld : w27.cell? ⟨gb206, 0, none⟩ = some (.bool a0_0) ∧ w27.cell? ⟨gb206, 1, none⟩ = some (.string a0_1) ∧ w27.cell? ⟨gb206, 2, none⟩ = some (.string a0_2) ∧ w27.cell? ⟨gb207, 0, none⟩ = some (.bool a1_0) ∧ w27.cell? ⟨gb207, 1, none⟩ = some (.string a1_1) ∧ w27.cell? ⟨gb207, 2, none⟩ = some (.string a1_2) := hS_
                  refine norm_ (a' := ?_) ?_ ?_
                  rotate_left
                  · simp only [putAll, Act.put, List.setIfInBounds_toArray, List.set_cons_zero, List.set_cons_succ]
                    rfl
                  refine two_ (i := 3) (j := 5) (Ni := some 36) (Nj := some 11) #[true, true, true, true, true, false, false, false] #[true, true, true, false, true, true, false, false] rfl rfl rfl rfl (two_of HT_.out (by kernel_rfl)) (by decide) (by decide) (fun K hK => ?_) (fun K hK => ?_)
                  · skip
                    refine g1_ Tryz.func14 #[.agg #[.bool a1_0, .string a1_1, .string a1_2]] (h := ?_)
                    with_reducible refine (interval_of.calls a1_0 a1_1 a1_2 t218 t219 t220 t221 _ A9.out).mono ?_
                    rintro e w28 ⟨rfl, hb⟩
                    refine ⟨_, rfl, ?_⟩
                    replace HO211 := Aside0.mk (Kd.R_below (by (with_reducible repeat (first | apply Kd.R_alloc | apply Kd.R_drewN | apply Kd.R_drew)); exact HO211.out) hb); replace BK206 := pkK BK206 hb; replace BK207 := pkK BK207 hb; replace BK208 := pkK BK208 hb; replace BK222 := pkK BK222 hb; replace HB := pkB HB hb
                    (try clear hb)
                    (try clear hb2)
                    (try clear hk)
                    (try clear hi)
                    refine hK.out _ _ ⟨(blk_cell BK206.out 0).trans rfl, (blk_cell BK206.out 1).trans rfl, (blk_cell BK206.out 2).trans rfl, (blk_cell BK207.out 0).trans rfl, (blk_cell BK207.out 1).trans rfl, (blk_cell BK207.out 2).trans rfl⟩ (fun hHeld => ?_)
                    clear hK K
                    refine norm_ (a' := ?_) ?_ ?_
                    rotate_left
                    · show Act.put _ (some 36) _ = _
                      simp only [Act.put, List.setIfInBounds_toArray, List.set_cons_zero, List.set_cons_succ, i64_w, i32_w]
                      rfl
                    exact norm_ (by first | (simp only [putAll, Act.put, List.setIfInBounds_toArray, List.set_cons_zero, List.set_cons_succ]; done) | (simp only [putAll, Act.put, List.setIfInBounds_toArray, List.set_cons_zero, List.set_cons_succ]; rfl)) (hJ1_3_4 (gb222) _ ⟨hHeld, (by (with_reducible repeat (first | apply Kd.R_alloc | apply Kd.R_drewN | apply Kd.R_drew)); exact HO211.out), (pkW BK206), (pkW BK207), (pkW BK208), (pkW BK222), GW222.out, GE222.out, NB206_222.out, NB222_206.out, NB207_222.out, NB222_207.out, NB208_222.out, NB222_208.out, (pkL HB)⟩)
                  · skip
                    refine box_step ?hg (N := 11) ?hd (cs := #[.int .i64 0, .string (⟨#[]⟩ : ByteArray), .int .i64 0, .string (⟨#[]⟩ : ByteArray)]) (t := 43) ?hr ?_; (case hd => rfl); (case hg => rfl); (case hr => first | (go_simp; done) | (go_simp; rfl))
                    intro gb223 hg w28 hbox hb
                    have n0_ := Aside0.mk (Kd.R_below (by (with_reducible repeat (first | apply Kd.R_alloc | apply Kd.R_drewN | apply Kd.R_drew)); exact HO211.out) hb)
                    have n1_ := pkK BK206 hb
                    have n2_ := pkK BK207 hb
                    have n3_ := pkK BK208 hb
                    have n4_ := pkK BK222 hb
                    have n5_ := pkB HB hb
                    have n6_ := Aside0.mk (hbox)
                    have n7_ := pkG HB hg
                    have n8_ := pkG HB hg
                    have n9_ := pkN BK206 hg
                    have n10_ := pkM BK206 hg
                    have n11_ := pkN BK207 hg
                    have n12_ := pkM BK207 hg
                    have n13_ := pkN BK208 hg
                    have n14_ := pkM BK208 hg
                    have n15_ := pkN BK222 hg
                    have n16_ := pkM BK222 hg
                    clear HO211
                    clear BK206
                    clear BK207
                    clear BK208
                    clear BK222
                    clear HB
                    have HO211 := n0_
                    have BK206 := n1_
                    have BK207 := n2_
                    have BK208 := n3_
                    have BK222 := n4_
                    have HB := n5_
                    have BK223 := n6_
                    have GW223 := n7_
                    have GE223 := n8_
                    have NB206_223 := n9_
                    have NB223_206 := n10_
                    have NB207_223 := n11_
                    have NB223_207 := n12_
                    have NB208_223 := n13_
                    have NB223_208 := n14_
                    have NB222_223 := n15_
                    have NB223_222 := n16_
                    clear n0_ n1_ n2_ n3_ n4_ n5_ n6_ n7_ n8_ n9_ n10_ n11_ n12_ n13_ n14_ n15_ n16_
                    clear hb hbox hg
                    refine hK.out _ _ ⟨(blk_cell BK206.out 0).trans rfl, (blk_cell BK206.out 1).trans rfl, (blk_cell BK206.out 2).trans rfl, (blk_cell BK207.out 0).trans rfl, (blk_cell BK207.out 1).trans rfl, (blk_cell BK207.out 2).trans rfl⟩ (fun hHeld => ?_)
                    clear hK K
                    refine norm_ (a' := ?_) ?_ ?_
                    rotate_left
                    · show Act.put _ (some 11) _ = _
                      simp only [Act.put, List.setIfInBounds_toArray, List.set_cons_zero, List.set_cons_succ, i64_w, i32_w]
                      rfl
                    exact norm_ (by first | (simp only [putAll, Act.put, List.setIfInBounds_toArray, List.set_cons_zero, List.set_cons_succ]; done) | (simp only [putAll, Act.put, List.setIfInBounds_toArray, List.set_cons_zero, List.set_cons_succ]; rfl)) (hJ1_4_5 (gb222, gb223) _ ⟨hHeld, (by (with_reducible repeat (first | apply Kd.R_alloc | apply Kd.R_drewN | apply Kd.R_drew)); exact HO211.out), (pkW BK206), (pkW BK207), (pkW BK208), (pkW BK222), (pkW BK223), GW222.out, GE222.out, NB206_222.out, NB222_206.out, NB207_222.out, NB222_207.out, NB208_222.out, NB222_208.out, NB223_222.out, NB222_223.out, GW223.out, GE223.out, NB206_223.out, NB223_206.out, NB207_223.out, NB223_207.out, NB208_223.out, NB223_208.out, (pkL HB)⟩)
              · skip
                rintro _ w27 ⟨hS_, h0_, h1_, h2_, h3_, h4_⟩
                have n0_ : Aside0 (Kd.R k28 28 w27 w.heap.size (fun k_ => k_ ≠ gb206 ∧ k_ ≠ gb207 ∧ k_ ≠ gb208) (.slice Ao21 y209.length co21) y209) := ⟨h0_⟩
                have n1_ : Aside0 (w27.heap[gb206]? = some (.cells #[.bool a0_0, .string a0_1, .string a0_2] 28 (0, 0))) := ⟨h1_⟩
                have n2_ : Aside0 (w27.heap[gb207]? = some (.cells #[.bool a1_0, .string a1_1, .string a1_2] 28 (0, 0))) := ⟨h2_⟩
                have n3_ : Aside0 (w27.heap[gb208]? = some (.cells #[.bool false, .string (⟨#[]⟩ : ByteArray), .string (⟨#[]⟩ : ByteArray)] 28 (0, 0))) := ⟨h3_⟩
                have n4_ : Aside0 (Below w.heap.size w w27) := ⟨h4_⟩
                clear HO211
                clear BK206
                clear BK207
                clear BK208
                clear HB
                clear h0_ h1_ h2_ h3_ h4_
                have HO211 := n0_
                have BK206 := n1_
                have BK207 := n2_
                have BK208 := n3_
                have HB := n4_
                clear n0_ n1_ n2_ n3_ n4_
                have hHeld : w27.cell? ⟨gb206, 0, none⟩ = some (.bool a0_0) ∧ w27.cell? ⟨gb206, 1, none⟩ = some (.string a0_1) ∧ w27.cell? ⟨gb206, 2, none⟩ = some (.string a0_2) ∧ w27.cell? ⟨gb207, 0, none⟩ = some (.bool a1_0) ∧ w27.cell? ⟨gb207, 1, none⟩ = some (.string a1_1) ∧ w27.cell? ⟨gb207, 2, none⟩ = some (.string a1_2) := hS_
                refine norm_ (a' := ?_) ?_ ?_
                rotate_left
                · simp only [putAll, Act.put, List.setIfInBounds_toArray, List.set_cons_zero, List.set_cons_succ]
                  rfl
                refine two_ (i := 4) (j := 5) (Ni := some 10) (Nj := some 11) #[true, true, true, true, true, false, false, false] #[true, true, true, true, false, true, false, false] rfl rfl rfl rfl (two_of HT_.out (by kernel_rfl)) (by decide) (by decide) (fun K hK => ?_) (fun K hK => ?_)
                · skip
                  refine box_step ?hg (N := 10) ?hd (cs := #[.int .i64 0, .string (⟨#[]⟩ : ByteArray), .int .i64 0, .string (⟨#[]⟩ : ByteArray)]) (t := 43) ?hr ?_; (case hd => rfl); (case hg => rfl); (case hr => first | (go_simp; done) | (go_simp; rfl))
                  intro gb222 hg w28 hbox hb
                  have n0_ := Aside0.mk (Kd.R_below (by (with_reducible repeat (first | apply Kd.R_alloc | apply Kd.R_drewN | apply Kd.R_drew)); exact HO211.out) hb)
                  have n1_ := pkK BK206 hb
                  have n2_ := pkK BK207 hb
                  have n3_ := pkK BK208 hb
                  have n4_ := pkB HB hb
                  have n5_ := Aside0.mk (hbox)
                  have n6_ := pkG HB hg
                  have n7_ := pkG HB hg
                  have n8_ := pkN BK206 hg
                  have n9_ := pkM BK206 hg
                  have n10_ := pkN BK207 hg
                  have n11_ := pkM BK207 hg
                  have n12_ := pkN BK208 hg
                  have n13_ := pkM BK208 hg
                  clear HO211
                  clear BK206
                  clear BK207
                  clear BK208
                  clear HB
                  have HO211 := n0_
                  have BK206 := n1_
                  have BK207 := n2_
                  have BK208 := n3_
                  have HB := n4_
                  have BK222 := n5_
                  have GW222 := n6_
                  have GE222 := n7_
                  have NB206_222 := n8_
                  have NB222_206 := n9_
                  have NB207_222 := n10_
                  have NB222_207 := n11_
                  have NB208_222 := n12_
                  have NB222_208 := n13_
                  clear n0_ n1_ n2_ n3_ n4_ n5_ n6_ n7_ n8_ n9_ n10_ n11_ n12_ n13_
                  clear hb hbox hg
                  refine hK.out _ _ ⟨(blk_cell BK206.out 0).trans rfl, (blk_cell BK206.out 1).trans rfl, (blk_cell BK206.out 2).trans rfl, (blk_cell BK207.out 0).trans rfl, (blk_cell BK207.out 1).trans rfl, (blk_cell BK207.out 2).trans rfl⟩ (fun hHeld => ?_)
                  clear hK K
                  refine norm_ (a' := ?_) ?_ ?_
                  rotate_left
                  · show Act.put _ (some 10) _ = _
                    simp only [Act.put, List.setIfInBounds_toArray, List.set_cons_zero, List.set_cons_succ, i64_w, i32_w]
                    rfl
                  exact norm_ (by first | (simp only [putAll, Act.put, List.setIfInBounds_toArray, List.set_cons_zero, List.set_cons_succ]; done) | (simp only [putAll, Act.put, List.setIfInBounds_toArray, List.set_cons_zero, List.set_cons_succ]; rfl)) (hJ1_3_4 (gb222) _ ⟨hHeld, (by (with_reducible repeat (first | apply Kd.R_alloc | apply Kd.R_drewN | apply Kd.R_drew)); exact HO211.out), (pkW BK206), (pkW BK207), (pkW BK208), (pkW BK222), GW222.out, GE222.out, NB206_222.out, NB222_206.out, NB207_222.out, NB222_207.out, NB208_222.out, NB222_208.out, (pkL HB)⟩)
                · skip
                  refine box_step ?hg (N := 11) ?hd (cs := #[.int .i64 0, .string (⟨#[]⟩ : ByteArray), .int .i64 0, .string (⟨#[]⟩ : ByteArray)]) (t := 43) ?hr ?_; (case hd => rfl); (case hg => rfl); (case hr => first | (go_simp; done) | (go_simp; rfl))
                  intro gb223 hg w28 hbox hb
                  have n0_ := Aside0.mk (Kd.R_below (by (with_reducible repeat (first | apply Kd.R_alloc | apply Kd.R_drewN | apply Kd.R_drew)); exact HO211.out) hb)
                  have n1_ := pkK BK206 hb
                  have n2_ := pkK BK207 hb
                  have n3_ := pkK BK208 hb
                  have n4_ := pkB HB hb
                  have n5_ := Aside0.mk (hbox)
                  have n6_ := pkG HB hg
                  have n7_ := pkG HB hg
                  have n8_ := pkN BK206 hg
                  have n9_ := pkM BK206 hg
                  have n10_ := pkN BK207 hg
                  have n11_ := pkM BK207 hg
                  have n12_ := pkN BK208 hg
                  have n13_ := pkM BK208 hg
                  clear HO211
                  clear BK206
                  clear BK207
                  clear BK208
                  clear HB
                  have HO211 := n0_
                  have BK206 := n1_
                  have BK207 := n2_
                  have BK208 := n3_
                  have HB := n4_
                  have BK223 := n5_
                  have GW223 := n6_
                  have GE223 := n7_
                  have NB206_223 := n8_
                  have NB223_206 := n9_
                  have NB207_223 := n10_
                  have NB223_207 := n11_
                  have NB208_223 := n12_
                  have NB223_208 := n13_
                  clear n0_ n1_ n2_ n3_ n4_ n5_ n6_ n7_ n8_ n9_ n10_ n11_ n12_ n13_
                  clear hb hbox hg
                  refine hK.out _ _ ⟨(blk_cell BK206.out 0).trans rfl, (blk_cell BK206.out 1).trans rfl, (blk_cell BK206.out 2).trans rfl, (blk_cell BK207.out 0).trans rfl, (blk_cell BK207.out 1).trans rfl, (blk_cell BK207.out 2).trans rfl⟩ (fun hHeld => ?_)
                  clear hK K
                  refine norm_ (a' := ?_) ?_ ?_
                  rotate_left
                  · show Act.put _ (some 11) _ = _
                    simp only [Act.put, List.setIfInBounds_toArray, List.set_cons_zero, List.set_cons_succ, i64_w, i32_w]
                    rfl
                  exact norm_ (by first | (simp only [putAll, Act.put, List.setIfInBounds_toArray, List.set_cons_zero, List.set_cons_succ]; done) | (simp only [putAll, Act.put, List.setIfInBounds_toArray, List.set_cons_zero, List.set_cons_succ]; rfl)) (hJ1_3_5 (gb223) _ ⟨hHeld, (by (with_reducible repeat (first | apply Kd.R_alloc | apply Kd.R_drewN | apply Kd.R_drew)); exact HO211.out), (pkW BK206), (pkW BK207), (pkW BK208), (pkW BK223), GW223.out, GE223.out, NB206_223.out, NB223_206.out, NB207_223.out, NB223_207.out, NB208_223.out, NB223_208.out, (pkL HB)⟩)
            · skip
              rintro ⟨gb222, gb223⟩ w28 ⟨hS_, h0_, h1_, h2_, h3_, h4_, h5_, h6_, h7_, h8_, h9_, h10_, h11_, h12_, h13_, h14_, h15_, h16_, h17_, h18_, h19_, h20_, h21_, h22_, h23_, h24_⟩
              have n0_ : Aside0 (Kd.R k28 28 w28 w.heap.size (fun k_ => k_ ≠ gb206 ∧ k_ ≠ gb207 ∧ k_ ≠ gb208) (.slice Ao21 y209.length co21) y209) := ⟨h0_⟩
              have n1_ : Aside0 (w28.heap[gb206]? = some (.cells #[.bool a0_0, .string a0_1, .string a0_2] 28 (0, 0))) := ⟨h1_⟩
              have n2_ : Aside0 (w28.heap[gb207]? = some (.cells #[.bool a1_0, .string a1_1, .string a1_2] 28 (0, 0))) := ⟨h2_⟩
              have n3_ : Aside0 (w28.heap[gb208]? = some (.cells #[.bool false, .string (⟨#[]⟩ : ByteArray), .string (⟨#[]⟩ : ByteArray)] 28 (0, 0))) := ⟨h3_⟩
              have n4_ : Aside0 (w28.heap[gb222]? = some (.cells #[.int .i64 0, .string (⟨#[]⟩ : ByteArray), .int .i64 0, .string (⟨#[]⟩ : ByteArray)] 43 (0, 0))) := ⟨h4_⟩
              have n5_ : Aside0 (w28.heap[gb223]? = some (.cells #[.int .i64 0, .string (⟨#[]⟩ : ByteArray), .int .i64 0, .string (⟨#[]⟩ : ByteArray)] 43 (0, 0))) := ⟨h5_⟩
              have n6_ : Aside0 (w.heap.size ≤ gb222) := ⟨h6_⟩
              have n7_ : Aside0 (w.heap.size ≤ gb222) := ⟨h7_⟩
              have n8_ : Aside0 (gb206 ≠ gb222) := ⟨h8_⟩
              have n9_ : Aside0 (gb222 ≠ gb206) := ⟨h9_⟩
              have n10_ : Aside0 (gb207 ≠ gb222) := ⟨h10_⟩
              have n11_ : Aside0 (gb222 ≠ gb207) := ⟨h11_⟩
              have n12_ : Aside0 (gb208 ≠ gb222) := ⟨h12_⟩
              have n13_ : Aside0 (gb222 ≠ gb208) := ⟨h13_⟩
              have n14_ : Aside0 (gb223 ≠ gb222) := ⟨h14_⟩
              have n15_ : Aside0 (gb222 ≠ gb223) := ⟨h15_⟩
              have n16_ : Aside0 (w.heap.size ≤ gb223) := ⟨h16_⟩
              have n17_ : Aside0 (w.heap.size ≤ gb223) := ⟨h17_⟩
              have n18_ : Aside0 (gb206 ≠ gb223) := ⟨h18_⟩
              have n19_ : Aside0 (gb223 ≠ gb206) := ⟨h19_⟩
              have n20_ : Aside0 (gb207 ≠ gb223) := ⟨h20_⟩
              have n21_ : Aside0 (gb223 ≠ gb207) := ⟨h21_⟩
              have n22_ : Aside0 (gb208 ≠ gb223) := ⟨h22_⟩
              have n23_ : Aside0 (gb223 ≠ gb208) := ⟨h23_⟩
              have n24_ : Aside0 (Below w.heap.size w w28) := ⟨h24_⟩
              clear HO211
              clear BK206
              clear BK207
              clear BK208
              clear HB
              clear h0_ h1_ h2_ h3_ h4_ h5_ h6_ h7_ h8_ h9_ h10_ h11_ h12_ h13_ h14_ h15_ h16_ h17_ h18_ h19_ h20_ h21_ h22_ h23_ h24_
              have HO211 := n0_
              have BK206 := n1_
              have BK207 := n2_
              have BK208 := n3_
              have BK222 := n4_
              have BK223 := n5_
              have GW222 := n6_
              have GE222 := n7_
              have NB206_222 := n8_
              have NB222_206 := n9_
              have NB207_222 := n10_
              have NB222_207 := n11_
              have NB208_222 := n12_
              have NB222_208 := n13_
              have NB223_222 := n14_
              have NB222_223 := n15_
              have GW223 := n16_
              have GE223 := n17_
              have NB206_223 := n18_
              have NB223_206 := n19_
              have NB207_223 := n20_
              have NB223_207 := n21_
              have NB208_223 := n22_
              have NB223_208 := n23_
              have HB := n24_
              clear n0_ n1_ n2_ n3_ n4_ n5_ n6_ n7_ n8_ n9_ n10_ n11_ n12_ n13_ n14_ n15_ n16_ n17_ n18_ n19_ n20_ n21_ n22_ n23_ n24_
              have hHeld : w28.cell? ⟨gb206, 0, none⟩ = some (.bool a0_0) ∧ w28.cell? ⟨gb206, 1, none⟩ = some (.string a0_1) ∧ w28.cell? ⟨gb206, 2, none⟩ = some (.string a0_2) ∧ w28.cell? ⟨gb207, 0, none⟩ = some (.bool a1_0) ∧ w28.cell? ⟨gb207, 1, none⟩ = some (.string a1_1) ∧ w28.cell? ⟨gb207, 2, none⟩ = some (.string a1_2) := hS_
              refine norm_ (a' := ?_) ?_ ?_
              rotate_left
              · simp only [putAll, Act.put, List.setIfInBounds_toArray, List.set_cons_zero, List.set_cons_succ]
                rfl
              refine on_ 3 36 (h := fun K hK => ?_)
              refine g1_ Tryz.func14 #[.agg #[.bool a1_0, .string a1_1, .string a1_2]] (h := ?_)
              with_reducible refine (interval_of.calls a1_0 a1_1 a1_2 t218 t219 t220 t221 _ A9.out).mono ?_
              rintro e w29 ⟨rfl, hb⟩
              refine ⟨_, rfl, ?_⟩
              replace HO211 := Aside0.mk (Kd.R_below (by (with_reducible repeat (first | apply Kd.R_alloc | apply Kd.R_drewN | apply Kd.R_drew)); exact HO211.out) hb); replace BK206 := pkK BK206 hb; replace BK207 := pkK BK207 hb; replace BK208 := pkK BK208 hb; replace BK222 := pkK BK222 hb; replace BK223 := pkK BK223 hb; replace HB := pkB HB hb
              (try clear hb)
              (try clear hb2)
              (try clear hk)
              (try clear hi)
              refine hK.out _ _ ⟨(blk_cell BK206.out 0).trans rfl, (blk_cell BK206.out 1).trans rfl, (blk_cell BK206.out 2).trans rfl, (blk_cell BK207.out 0).trans rfl, (blk_cell BK207.out 1).trans rfl, (blk_cell BK207.out 2).trans rfl⟩ (fun hHeld => ?_)
              clear hK K
              refine norm_ (a' := ?_) ?_ ?_
              rotate_left
              · show Act.put _ (some 36) _ = _
                simp only [Act.put, List.setIfInBounds_toArray, List.set_cons_zero, List.set_cons_succ, i64_w, i32_w]
                rfl
              exact norm_ (by first | (simp only [putAll, Act.put, List.setIfInBounds_toArray, List.set_cons_zero, List.set_cons_succ]; done) | (simp only [putAll, Act.put, List.setIfInBounds_toArray, List.set_cons_zero, List.set_cons_succ]; rfl)) (hJ1_3_4_5 (gb222, gb223) _ ⟨hHeld, (by (with_reducible repeat (first | apply Kd.R_alloc | apply Kd.R_drewN | apply Kd.R_drew)); exact HO211.out), (pkW BK206), (pkW BK207), (pkW BK208), (pkW BK222), (pkW BK223), GW222.out, GE222.out, NB206_222.out, NB222_206.out, NB207_222.out, NB222_207.out, NB208_222.out, NB222_208.out, NB223_222.out, NB222_223.out, GW223.out, GE223.out, NB206_223.out, NB223_206.out, NB207_223.out, NB223_207.out, NB208_223.out, NB223_208.out, (pkL HB)⟩)
          · skip
            rintro gb223 w28 ⟨hS_, h0_, h1_, h2_, h3_, h4_, h5_, h6_, h7_, h8_, h9_, h10_, h11_, h12_, h13_⟩
            have n0_ : Aside0 (Kd.R k28 28 w28 w.heap.size (fun k_ => k_ ≠ gb206 ∧ k_ ≠ gb207 ∧ k_ ≠ gb208) (.slice Ao21 y209.length co21) y209) := ⟨h0_⟩
            have n1_ : Aside0 (w28.heap[gb206]? = some (.cells #[.bool a0_0, .string a0_1, .string a0_2] 28 (0, 0))) := ⟨h1_⟩
            have n2_ : Aside0 (w28.heap[gb207]? = some (.cells #[.bool a1_0, .string a1_1, .string a1_2] 28 (0, 0))) := ⟨h2_⟩
            have n3_ : Aside0 (w28.heap[gb208]? = some (.cells #[.bool false, .string (⟨#[]⟩ : ByteArray), .string (⟨#[]⟩ : ByteArray)] 28 (0, 0))) := ⟨h3_⟩
            have n4_ : Aside0 (w28.heap[gb223]? = some (.cells #[.int .i64 0, .string (⟨#[]⟩ : ByteArray), .int .i64 0, .string (⟨#[]⟩ : ByteArray)] 43 (0, 0))) := ⟨h4_⟩
            have n5_ : Aside0 (w.heap.size ≤ gb223) := ⟨h5_⟩
            have n6_ : Aside0 (w.heap.size ≤ gb223) := ⟨h6_⟩
            have n7_ : Aside0 (gb206 ≠ gb223) := ⟨h7_⟩
            have n8_ : Aside0 (gb223 ≠ gb206) := ⟨h8_⟩
            have n9_ : Aside0 (gb207 ≠ gb223) := ⟨h9_⟩
            have n10_ : Aside0 (gb223 ≠ gb207) := ⟨h10_⟩
            have n11_ : Aside0 (gb208 ≠ gb223) := ⟨h11_⟩
            have n12_ : Aside0 (gb223 ≠ gb208) := ⟨h12_⟩
            have n13_ : Aside0 (Below w.heap.size w w28) := ⟨h13_⟩
            clear HO211
            clear BK206
            clear BK207
            clear BK208
            clear HB
            clear h0_ h1_ h2_ h3_ h4_ h5_ h6_ h7_ h8_ h9_ h10_ h11_ h12_ h13_
            have HO211 := n0_
            have BK206 := n1_
            have BK207 := n2_
            have BK208 := n3_
            have BK223 := n4_
            have GW223 := n5_
            have GE223 := n6_
            have NB206_223 := n7_
            have NB223_206 := n8_
            have NB207_223 := n9_
            have NB223_207 := n10_
            have NB208_223 := n11_
            have NB223_208 := n12_
            have HB := n13_
            clear n0_ n1_ n2_ n3_ n4_ n5_ n6_ n7_ n8_ n9_ n10_ n11_ n12_ n13_
            have hHeld : w28.cell? ⟨gb206, 0, none⟩ = some (.bool a0_0) ∧ w28.cell? ⟨gb206, 1, none⟩ = some (.string a0_1) ∧ w28.cell? ⟨gb206, 2, none⟩ = some (.string a0_2) ∧ w28.cell? ⟨gb207, 0, none⟩ = some (.bool a1_0) ∧ w28.cell? ⟨gb207, 1, none⟩ = some (.string a1_1) ∧ w28.cell? ⟨gb207, 2, none⟩ = some (.string a1_2) := hS_
            refine norm_ (a' := ?_) ?_ ?_
            rotate_left
            · simp only [putAll, Act.put, List.setIfInBounds_toArray, List.set_cons_zero, List.set_cons_succ]
              rfl
            refine on_ 4 10 (h := fun K hK => ?_)
            refine box_step ?hg (N := 10) ?hd (cs := #[.int .i64 0, .string (⟨#[]⟩ : ByteArray), .int .i64 0, .string (⟨#[]⟩ : ByteArray)]) (t := 43) ?hr ?_; (case hd => rfl); (case hg => rfl); (case hr => first | (go_simp; done) | (go_simp; rfl))
            intro gb222 hg w29 hbox hb
            have n0_ := Aside0.mk (Kd.R_below (by (with_reducible repeat (first | apply Kd.R_alloc | apply Kd.R_drewN | apply Kd.R_drew)); exact HO211.out) hb)
            have n1_ := pkK BK206 hb
            have n2_ := pkK BK207 hb
            have n3_ := pkK BK208 hb
            have n4_ := pkK BK223 hb
            have n5_ := pkB HB hb
            have n6_ := Aside0.mk (hbox)
            have n7_ := pkG HB hg
            have n8_ := pkG HB hg
            have n9_ := pkN BK206 hg
            have n10_ := pkM BK206 hg
            have n11_ := pkN BK207 hg
            have n12_ := pkM BK207 hg
            have n13_ := pkN BK208 hg
            have n14_ := pkM BK208 hg
            have n15_ := pkN BK223 hg
            have n16_ := pkM BK223 hg
            clear HO211
            clear BK206
            clear BK207
            clear BK208
            clear BK223
            clear HB
            have HO211 := n0_
            have BK206 := n1_
            have BK207 := n2_
            have BK208 := n3_
            have BK223 := n4_
            have HB := n5_
            have BK222 := n6_
            have GW222 := n7_
            have GE222 := n8_
            have NB206_222 := n9_
            have NB222_206 := n10_
            have NB207_222 := n11_
            have NB222_207 := n12_
            have NB208_222 := n13_
            have NB222_208 := n14_
            have NB223_222 := n15_
            have NB222_223 := n16_
            clear n0_ n1_ n2_ n3_ n4_ n5_ n6_ n7_ n8_ n9_ n10_ n11_ n12_ n13_ n14_ n15_ n16_
            clear hb hbox hg
            refine hK.out _ _ ⟨(blk_cell BK206.out 0).trans rfl, (blk_cell BK206.out 1).trans rfl, (blk_cell BK206.out 2).trans rfl, (blk_cell BK207.out 0).trans rfl, (blk_cell BK207.out 1).trans rfl, (blk_cell BK207.out 2).trans rfl⟩ (fun hHeld => ?_)
            clear hK K
            refine norm_ (a' := ?_) ?_ ?_
            rotate_left
            · show Act.put _ (some 10) _ = _
              simp only [Act.put, List.setIfInBounds_toArray, List.set_cons_zero, List.set_cons_succ, i64_w, i32_w]
              rfl
            exact norm_ (by first | (simp only [putAll, Act.put, List.setIfInBounds_toArray, List.set_cons_zero, List.set_cons_succ]; done) | (simp only [putAll, Act.put, List.setIfInBounds_toArray, List.set_cons_zero, List.set_cons_succ]; rfl)) (hJ1_3_4_5 (gb222, gb223) _ ⟨hHeld, (by (with_reducible repeat (first | apply Kd.R_alloc | apply Kd.R_drewN | apply Kd.R_drew)); exact HO211.out), (pkW BK206), (pkW BK207), (pkW BK208), (pkW BK222), (pkW BK223), GW222.out, GE222.out, NB206_222.out, NB222_206.out, NB207_222.out, NB222_207.out, NB208_222.out, NB222_208.out, NB223_222.out, NB222_223.out, GW223.out, GE223.out, NB206_223.out, NB223_206.out, NB207_223.out, NB223_207.out, NB208_223.out, NB223_208.out, (pkL HB)⟩)
        · skip
          rintro gb222 w28 ⟨hS_, h0_, h1_, h2_, h3_, h4_, h5_, h6_, h7_, h8_, h9_, h10_, h11_, h12_, h13_⟩
          have n0_ : Aside0 (Kd.R k28 28 w28 w.heap.size (fun k_ => k_ ≠ gb206 ∧ k_ ≠ gb207 ∧ k_ ≠ gb208) (.slice Ao21 y209.length co21) y209) := ⟨h0_⟩
          have n1_ : Aside0 (w28.heap[gb206]? = some (.cells #[.bool a0_0, .string a0_1, .string a0_2] 28 (0, 0))) := ⟨h1_⟩
          have n2_ : Aside0 (w28.heap[gb207]? = some (.cells #[.bool a1_0, .string a1_1, .string a1_2] 28 (0, 0))) := ⟨h2_⟩
          have n3_ : Aside0 (w28.heap[gb208]? = some (.cells #[.bool false, .string (⟨#[]⟩ : ByteArray), .string (⟨#[]⟩ : ByteArray)] 28 (0, 0))) := ⟨h3_⟩
          have n4_ : Aside0 (w28.heap[gb222]? = some (.cells #[.int .i64 0, .string (⟨#[]⟩ : ByteArray), .int .i64 0, .string (⟨#[]⟩ : ByteArray)] 43 (0, 0))) := ⟨h4_⟩
          have n5_ : Aside0 (w.heap.size ≤ gb222) := ⟨h5_⟩
          have n6_ : Aside0 (w.heap.size ≤ gb222) := ⟨h6_⟩
          have n7_ : Aside0 (gb206 ≠ gb222) := ⟨h7_⟩
          have n8_ : Aside0 (gb222 ≠ gb206) := ⟨h8_⟩
          have n9_ : Aside0 (gb207 ≠ gb222) := ⟨h9_⟩
          have n10_ : Aside0 (gb222 ≠ gb207) := ⟨h10_⟩
          have n11_ : Aside0 (gb208 ≠ gb222) := ⟨h11_⟩
          have n12_ : Aside0 (gb222 ≠ gb208) := ⟨h12_⟩
          have n13_ : Aside0 (Below w.heap.size w w28) := ⟨h13_⟩
          clear HO211
          clear BK206
          clear BK207
          clear BK208
          clear HB
          clear h0_ h1_ h2_ h3_ h4_ h5_ h6_ h7_ h8_ h9_ h10_ h11_ h12_ h13_
          have HO211 := n0_
          have BK206 := n1_
          have BK207 := n2_
          have BK208 := n3_
          have BK222 := n4_
          have GW222 := n5_
          have GE222 := n6_
          have NB206_222 := n7_
          have NB222_206 := n8_
          have NB207_222 := n9_
          have NB222_207 := n10_
          have NB208_222 := n11_
          have NB222_208 := n12_
          have HB := n13_
          clear n0_ n1_ n2_ n3_ n4_ n5_ n6_ n7_ n8_ n9_ n10_ n11_ n12_ n13_
          have hHeld : w28.cell? ⟨gb206, 0, none⟩ = some (.bool a0_0) ∧ w28.cell? ⟨gb206, 1, none⟩ = some (.string a0_1) ∧ w28.cell? ⟨gb206, 2, none⟩ = some (.string a0_2) ∧ w28.cell? ⟨gb207, 0, none⟩ = some (.bool a1_0) ∧ w28.cell? ⟨gb207, 1, none⟩ = some (.string a1_1) ∧ w28.cell? ⟨gb207, 2, none⟩ = some (.string a1_2) := hS_
          refine norm_ (a' := ?_) ?_ ?_
          rotate_left
          · simp only [putAll, Act.put, List.setIfInBounds_toArray, List.set_cons_zero, List.set_cons_succ]
            rfl
          refine on_ 5 11 (h := fun K hK => ?_)
          refine box_step ?hg (N := 11) ?hd (cs := #[.int .i64 0, .string (⟨#[]⟩ : ByteArray), .int .i64 0, .string (⟨#[]⟩ : ByteArray)]) (t := 43) ?hr ?_; (case hd => rfl); (case hg => rfl); (case hr => first | (go_simp; done) | (go_simp; rfl))
          intro gb223 hg w29 hbox hb
          have n0_ := Aside0.mk (Kd.R_below (by (with_reducible repeat (first | apply Kd.R_alloc | apply Kd.R_drewN | apply Kd.R_drew)); exact HO211.out) hb)
          have n1_ := pkK BK206 hb
          have n2_ := pkK BK207 hb
          have n3_ := pkK BK208 hb
          have n4_ := pkK BK222 hb
          have n5_ := pkB HB hb
          have n6_ := Aside0.mk (hbox)
          have n7_ := pkG HB hg
          have n8_ := pkG HB hg
          have n9_ := pkN BK206 hg
          have n10_ := pkM BK206 hg
          have n11_ := pkN BK207 hg
          have n12_ := pkM BK207 hg
          have n13_ := pkN BK208 hg
          have n14_ := pkM BK208 hg
          have n15_ := pkN BK222 hg
          have n16_ := pkM BK222 hg
          clear HO211
          clear BK206
          clear BK207
          clear BK208
          clear BK222
          clear HB
          have HO211 := n0_
          have BK206 := n1_
          have BK207 := n2_
          have BK208 := n3_
          have BK222 := n4_
          have HB := n5_
          have BK223 := n6_
          have GW223 := n7_
          have GE223 := n8_
          have NB206_223 := n9_
          have NB223_206 := n10_
          have NB207_223 := n11_
          have NB223_207 := n12_
          have NB208_223 := n13_
          have NB223_208 := n14_
          have NB222_223 := n15_
          have NB223_222 := n16_
          clear n0_ n1_ n2_ n3_ n4_ n5_ n6_ n7_ n8_ n9_ n10_ n11_ n12_ n13_ n14_ n15_ n16_
          clear hb hbox hg
          refine hK.out _ _ ⟨(blk_cell BK206.out 0).trans rfl, (blk_cell BK206.out 1).trans rfl, (blk_cell BK206.out 2).trans rfl, (blk_cell BK207.out 0).trans rfl, (blk_cell BK207.out 1).trans rfl, (blk_cell BK207.out 2).trans rfl⟩ (fun hHeld => ?_)
          clear hK K
          refine norm_ (a' := ?_) ?_ ?_
          rotate_left
          · show Act.put _ (some 11) _ = _
            simp only [Act.put, List.setIfInBounds_toArray, List.set_cons_zero, List.set_cons_succ, i64_w, i32_w]
            rfl
          exact norm_ (by first | (simp only [putAll, Act.put, List.setIfInBounds_toArray, List.set_cons_zero, List.set_cons_succ]; done) | (simp only [putAll, Act.put, List.setIfInBounds_toArray, List.set_cons_zero, List.set_cons_succ]; rfl)) (hJ1_3_4_5 (gb222, gb223) _ ⟨hHeld, (by (with_reducible repeat (first | apply Kd.R_alloc | apply Kd.R_drewN | apply Kd.R_drew)); exact HO211.out), (pkW BK206), (pkW BK207), (pkW BK208), (pkW BK222), (pkW BK223), GW222.out, GE222.out, NB206_222.out, NB222_206.out, NB207_222.out, NB222_207.out, NB208_222.out, NB222_208.out, NB223_222.out, NB222_223.out, GW223.out, GE223.out, NB206_223.out, NB223_206.out, NB207_223.out, NB223_207.out, NB208_223.out, NB223_208.out, (pkL HB)⟩)
      rintro ⟨gb222, gb223⟩ w29 ⟨hS_, h0_, h1_, h2_, h3_, h4_, h5_, h6_, h7_, h8_, h9_, h10_, h11_, h12_, h13_, h14_, h15_, h16_, h17_, h18_, h19_, h20_, h21_, h22_, h23_, h24_⟩
      have n0_ : Aside0 (Kd.R k28 28 w29 w.heap.size (fun k_ => k_ ≠ gb206 ∧ k_ ≠ gb207 ∧ k_ ≠ gb208) (.slice Ao21 y209.length co21) y209) := ⟨h0_⟩
      have n1_ : Aside0 (w29.heap[gb206]? = some (.cells #[.bool a0_0, .string a0_1, .string a0_2] 28 (0, 0))) := ⟨h1_⟩
      have n2_ : Aside0 (w29.heap[gb207]? = some (.cells #[.bool a1_0, .string a1_1, .string a1_2] 28 (0, 0))) := ⟨h2_⟩
      have n3_ : Aside0 (w29.heap[gb208]? = some (.cells #[.bool false, .string (⟨#[]⟩ : ByteArray), .string (⟨#[]⟩ : ByteArray)] 28 (0, 0))) := ⟨h3_⟩
      have n4_ : Aside0 (w29.heap[gb222]? = some (.cells #[.int .i64 0, .string (⟨#[]⟩ : ByteArray), .int .i64 0, .string (⟨#[]⟩ : ByteArray)] 43 (0, 0))) := ⟨h4_⟩
      have n5_ : Aside0 (w29.heap[gb223]? = some (.cells #[.int .i64 0, .string (⟨#[]⟩ : ByteArray), .int .i64 0, .string (⟨#[]⟩ : ByteArray)] 43 (0, 0))) := ⟨h5_⟩
      have n6_ : Aside0 (w.heap.size ≤ gb222) := ⟨h6_⟩
      have n7_ : Aside0 (w.heap.size ≤ gb222) := ⟨h7_⟩
      have n8_ : Aside0 (gb206 ≠ gb222) := ⟨h8_⟩
      have n9_ : Aside0 (gb222 ≠ gb206) := ⟨h9_⟩
      have n10_ : Aside0 (gb207 ≠ gb222) := ⟨h10_⟩
      have n11_ : Aside0 (gb222 ≠ gb207) := ⟨h11_⟩
      have n12_ : Aside0 (gb208 ≠ gb222) := ⟨h12_⟩
      have n13_ : Aside0 (gb222 ≠ gb208) := ⟨h13_⟩
      have n14_ : Aside0 (gb223 ≠ gb222) := ⟨h14_⟩
      have n15_ : Aside0 (gb222 ≠ gb223) := ⟨h15_⟩
      have n16_ : Aside0 (w.heap.size ≤ gb223) := ⟨h16_⟩
      have n17_ : Aside0 (w.heap.size ≤ gb223) := ⟨h17_⟩
      have n18_ : Aside0 (gb206 ≠ gb223) := ⟨h18_⟩
      have n19_ : Aside0 (gb223 ≠ gb206) := ⟨h19_⟩
      have n20_ : Aside0 (gb207 ≠ gb223) := ⟨h20_⟩
      have n21_ : Aside0 (gb223 ≠ gb207) := ⟨h21_⟩
      have n22_ : Aside0 (gb208 ≠ gb223) := ⟨h22_⟩
      have n23_ : Aside0 (gb223 ≠ gb208) := ⟨h23_⟩
      have n24_ : Aside0 (Below w.heap.size w w29) := ⟨h24_⟩
      clear HO211
      clear BK206
      clear BK207
      clear BK208
      clear HB
      clear h0_ h1_ h2_ h3_ h4_ h5_ h6_ h7_ h8_ h9_ h10_ h11_ h12_ h13_ h14_ h15_ h16_ h17_ h18_ h19_ h20_ h21_ h22_ h23_ h24_
      have HO211 := n0_
      have BK206 := n1_
      have BK207 := n2_
      have BK208 := n3_
      have BK222 := n4_
      have BK223 := n5_
      have GW222 := n6_
      have GE222 := n7_
      have NB206_222 := n8_
      have NB222_206 := n9_
      have NB207_222 := n10_
      have NB222_207 := n11_
      have NB208_222 := n12_
      have NB222_208 := n13_
      have NB223_222 := n14_
      have NB222_223 := n15_
      have GW223 := n16_
      have GE223 := n17_
      have NB206_223 := n18_
      have NB223_206 := n19_
      have NB207_223 := n20_
      have NB223_207 := n21_
      have NB208_223 := n22_
      have NB223_208 := n23_
      have HB := n24_
      clear n0_ n1_ n2_ n3_ n4_ n5_ n6_ n7_ n8_ n9_ n10_ n11_ n12_ n13_ n14_ n15_ n16_ n17_ n18_ n19_ n20_ n21_ n22_ n23_ n24_
      have hHeld : w29.cell? ⟨gb206, 0, none⟩ = some (.bool a0_0) ∧ w29.cell? ⟨gb206, 1, none⟩ = some (.string a0_1) ∧ w29.cell? ⟨gb206, 2, none⟩ = some (.string a0_2) ∧ w29.cell? ⟨gb207, 0, none⟩ = some (.bool a1_0) ∧ w29.cell? ⟨gb207, 1, none⟩ = some (.string a1_1) ∧ w29.cell? ⟨gb207, 2, none⟩ = some (.string a1_2) := hS_
      refine norm_ (a' := ?_) ?_ ?_
      rotate_left
      · simp only [putAll, Act.put, List.setIfInBounds_toArray, List.set_cons_zero, List.set_cons_succ]
        rfl
      refine one_ (i := 6) (N := none) #[true, true, true, true, true, true, true, false] rfl rfl (one_of HT_.out (by kernel_rfl)) (by decide) (fun K hK => ?_)
      have hs30 : w29.cell? ⟨gb222, 0, none⟩ = some (.int .i64 0) := (blk_cell BK222.out 0).trans rfl
      have hfs30 := blk_frozen BK222.out 0
      have hns30_0 := NB206_222.out
      have hns30_1 := NB207_222.out
      have hns30_2 := NB208_222.out
      have hns30_4 := NB223_222.out
      have hms30_0 := NB222_206.out
      have hms30_1 := NB222_207.out
      have hms30_2 := NB222_208.out
      have hms30_4 := NB222_223.out
      have hs31 : w29.cell? ⟨gb222, 1, none⟩ = some (.string (⟨#[]⟩ : ByteArray)) := (blk_cell BK222.out 1).trans rfl
      have hfs31 := blk_frozen BK222.out 1
      have hns31_0 := NB206_222.out
      have hns31_1 := NB207_222.out
      have hns31_2 := NB208_222.out
      have hns31_4 := NB223_222.out
      have hms31_0 := NB222_206.out
      have hms31_1 := NB222_207.out
      have hms31_2 := NB222_208.out
      have hms31_4 := NB222_223.out
      have hs32 : w29.cell? ⟨gb222, 2, none⟩ = some (.int .i64 0) := (blk_cell BK222.out 2).trans rfl
      have hfs32 := blk_frozen BK222.out 2
      have hns32_0 := NB206_222.out
      have hns32_1 := NB207_222.out
      have hns32_2 := NB208_222.out
      have hns32_4 := NB223_222.out
      have hms32_0 := NB222_206.out
      have hms32_1 := NB222_207.out
      have hms32_2 := NB222_208.out
      have hms32_4 := NB222_223.out
      have hs33 : w29.cell? ⟨gb222, 3, none⟩ = some (.string (⟨#[]⟩ : ByteArray)) := (blk_cell BK222.out 3).trans rfl
      have hfs33 := blk_frozen BK222.out 3
      have hns33_0 := NB206_222.out
      have hns33_1 := NB207_222.out
      have hns33_2 := NB208_222.out
      have hns33_4 := NB223_222.out
      have hms33_0 := NB222_206.out
      have hms33_1 := NB222_207.out
      have hms33_2 := NB222_208.out
      have hms33_4 := NB222_223.out
      refine skip_ (w1 := ?_) (by rfl) rfl ?_ ?_
      rotate_left
      · go_simp
        rfl
      refine hK.out _ _ ⟨((Go.Proofs.YtnagmogjhfdmlaaGreatDoorW.PrintWords.cell_far (p := ⟨gb222, _, none⟩) NB206_222.out _).trans (((Go.Proofs.YtnagmogjhfdmlaaGreatDoorW.PrintWords.cell_far (p := ⟨gb222, _, none⟩) NB206_222.out _).trans (((Go.Proofs.YtnagmogjhfdmlaaGreatDoorW.PrintWords.cell_far (p := ⟨gb222, _, none⟩) NB206_222.out _).trans (((Go.Proofs.YtnagmogjhfdmlaaGreatDoorW.PrintWords.cell_far (p := ⟨gb222, _, none⟩) NB206_222.out _).trans (hHeld.1)))))))), ((Go.Proofs.YtnagmogjhfdmlaaGreatDoorW.PrintWords.cell_far (p := ⟨gb222, _, none⟩) NB206_222.out _).trans (((Go.Proofs.YtnagmogjhfdmlaaGreatDoorW.PrintWords.cell_far (p := ⟨gb222, _, none⟩) NB206_222.out _).trans (((Go.Proofs.YtnagmogjhfdmlaaGreatDoorW.PrintWords.cell_far (p := ⟨gb222, _, none⟩) NB206_222.out _).trans (((Go.Proofs.YtnagmogjhfdmlaaGreatDoorW.PrintWords.cell_far (p := ⟨gb222, _, none⟩) NB206_222.out _).trans (hHeld.2.1)))))))), ((Go.Proofs.YtnagmogjhfdmlaaGreatDoorW.PrintWords.cell_far (p := ⟨gb222, _, none⟩) NB206_222.out _).trans (((Go.Proofs.YtnagmogjhfdmlaaGreatDoorW.PrintWords.cell_far (p := ⟨gb222, _, none⟩) NB206_222.out _).trans (((Go.Proofs.YtnagmogjhfdmlaaGreatDoorW.PrintWords.cell_far (p := ⟨gb222, _, none⟩) NB206_222.out _).trans (((Go.Proofs.YtnagmogjhfdmlaaGreatDoorW.PrintWords.cell_far (p := ⟨gb222, _, none⟩) NB206_222.out _).trans (hHeld.2.2.1)))))))), ((Go.Proofs.YtnagmogjhfdmlaaGreatDoorW.PrintWords.cell_far (p := ⟨gb222, _, none⟩) NB207_222.out _).trans (((Go.Proofs.YtnagmogjhfdmlaaGreatDoorW.PrintWords.cell_far (p := ⟨gb222, _, none⟩) NB207_222.out _).trans (((Go.Proofs.YtnagmogjhfdmlaaGreatDoorW.PrintWords.cell_far (p := ⟨gb222, _, none⟩) NB207_222.out _).trans (((Go.Proofs.YtnagmogjhfdmlaaGreatDoorW.PrintWords.cell_far (p := ⟨gb222, _, none⟩) NB207_222.out _).trans (hHeld.2.2.2.1)))))))), ((Go.Proofs.YtnagmogjhfdmlaaGreatDoorW.PrintWords.cell_far (p := ⟨gb222, _, none⟩) NB207_222.out _).trans (((Go.Proofs.YtnagmogjhfdmlaaGreatDoorW.PrintWords.cell_far (p := ⟨gb222, _, none⟩) NB207_222.out _).trans (((Go.Proofs.YtnagmogjhfdmlaaGreatDoorW.PrintWords.cell_far (p := ⟨gb222, _, none⟩) NB207_222.out _).trans (((Go.Proofs.YtnagmogjhfdmlaaGreatDoorW.PrintWords.cell_far (p := ⟨gb222, _, none⟩) NB207_222.out _).trans (hHeld.2.2.2.2.1)))))))), ((Go.Proofs.YtnagmogjhfdmlaaGreatDoorW.PrintWords.cell_far (p := ⟨gb222, _, none⟩) NB207_222.out _).trans (((Go.Proofs.YtnagmogjhfdmlaaGreatDoorW.PrintWords.cell_far (p := ⟨gb222, _, none⟩) NB207_222.out _).trans (((Go.Proofs.YtnagmogjhfdmlaaGreatDoorW.PrintWords.cell_far (p := ⟨gb222, _, none⟩) NB207_222.out _).trans (((Go.Proofs.YtnagmogjhfdmlaaGreatDoorW.PrintWords.cell_far (p := ⟨gb222, _, none⟩) NB207_222.out _).trans (hHeld.2.2.2.2.2))))))))⟩ (fun hHeld => ?_)
      clear hK K
      refine one_ (i := 7) (N := none) #[true, true, true, true, true, true, true, true] rfl rfl (one_of HT_.out (by kernel_rfl)) (by decide) (fun K hK => ?_)
      have hs34 : w29.cell? ⟨gb223, 0, none⟩ = some (.int .i64 0) := (blk_cell BK223.out 0).trans rfl
      have hfs34 := blk_frozen BK223.out 0
      have hns34_0 := NB206_223.out
      have hns34_1 := NB207_223.out
      have hns34_2 := NB208_223.out
      have hns34_3 := NB222_223.out
      have hms34_0 := NB223_206.out
      have hms34_1 := NB223_207.out
      have hms34_2 := NB223_208.out
      have hms34_3 := NB223_222.out
      have hs35 : w29.cell? ⟨gb223, 1, none⟩ = some (.string (⟨#[]⟩ : ByteArray)) := (blk_cell BK223.out 1).trans rfl
      have hfs35 := blk_frozen BK223.out 1
      have hns35_0 := NB206_223.out
      have hns35_1 := NB207_223.out
      have hns35_2 := NB208_223.out
      have hns35_3 := NB222_223.out
      have hms35_0 := NB223_206.out
      have hms35_1 := NB223_207.out
      have hms35_2 := NB223_208.out
      have hms35_3 := NB223_222.out
      have hs36 : w29.cell? ⟨gb223, 2, none⟩ = some (.int .i64 0) := (blk_cell BK223.out 2).trans rfl
      have hfs36 := blk_frozen BK223.out 2
      have hns36_0 := NB206_223.out
      have hns36_1 := NB207_223.out
      have hns36_2 := NB208_223.out
      have hns36_3 := NB222_223.out
      have hms36_0 := NB223_206.out
      have hms36_1 := NB223_207.out
      have hms36_2 := NB223_208.out
      have hms36_3 := NB223_222.out
      have hs37 : w29.cell? ⟨gb223, 3, none⟩ = some (.string (⟨#[]⟩ : ByteArray)) := (blk_cell BK223.out 3).trans rfl
      have hfs37 := blk_frozen BK223.out 3
      have hns37_0 := NB206_223.out
      have hns37_1 := NB207_223.out
      have hns37_2 := NB208_223.out
      have hns37_3 := NB222_223.out
      have hms37_0 := NB223_206.out
      have hms37_1 := NB223_207.out
      have hms37_2 := NB223_208.out
      have hms37_3 := NB223_222.out
      refine skip_ (w1 := ?_) (by rfl) rfl ?_ ?_
      rotate_left
      · go_simp
        rfl
      refine hK.out _ _ ⟨((Go.Proofs.YtnagmogjhfdmlaaGreatDoorW.PrintWords.cell_far (p := ⟨gb223, _, none⟩) NB206_223.out _).trans (((Go.Proofs.YtnagmogjhfdmlaaGreatDoorW.PrintWords.cell_far (p := ⟨gb223, _, none⟩) NB206_223.out _).trans (((Go.Proofs.YtnagmogjhfdmlaaGreatDoorW.PrintWords.cell_far (p := ⟨gb223, _, none⟩) NB206_223.out _).trans (((Go.Proofs.YtnagmogjhfdmlaaGreatDoorW.PrintWords.cell_far (p := ⟨gb223, _, none⟩) NB206_223.out _).trans (hHeld.1)))))))), ((Go.Proofs.YtnagmogjhfdmlaaGreatDoorW.PrintWords.cell_far (p := ⟨gb223, _, none⟩) NB206_223.out _).trans (((Go.Proofs.YtnagmogjhfdmlaaGreatDoorW.PrintWords.cell_far (p := ⟨gb223, _, none⟩) NB206_223.out _).trans (((Go.Proofs.YtnagmogjhfdmlaaGreatDoorW.PrintWords.cell_far (p := ⟨gb223, _, none⟩) NB206_223.out _).trans (((Go.Proofs.YtnagmogjhfdmlaaGreatDoorW.PrintWords.cell_far (p := ⟨gb223, _, none⟩) NB206_223.out _).trans (hHeld.2.1)))))))), ((Go.Proofs.YtnagmogjhfdmlaaGreatDoorW.PrintWords.cell_far (p := ⟨gb223, _, none⟩) NB206_223.out _).trans (((Go.Proofs.YtnagmogjhfdmlaaGreatDoorW.PrintWords.cell_far (p := ⟨gb223, _, none⟩) NB206_223.out _).trans (((Go.Proofs.YtnagmogjhfdmlaaGreatDoorW.PrintWords.cell_far (p := ⟨gb223, _, none⟩) NB206_223.out _).trans (((Go.Proofs.YtnagmogjhfdmlaaGreatDoorW.PrintWords.cell_far (p := ⟨gb223, _, none⟩) NB206_223.out _).trans (hHeld.2.2.1)))))))), ((Go.Proofs.YtnagmogjhfdmlaaGreatDoorW.PrintWords.cell_far (p := ⟨gb223, _, none⟩) NB207_223.out _).trans (((Go.Proofs.YtnagmogjhfdmlaaGreatDoorW.PrintWords.cell_far (p := ⟨gb223, _, none⟩) NB207_223.out _).trans (((Go.Proofs.YtnagmogjhfdmlaaGreatDoorW.PrintWords.cell_far (p := ⟨gb223, _, none⟩) NB207_223.out _).trans (((Go.Proofs.YtnagmogjhfdmlaaGreatDoorW.PrintWords.cell_far (p := ⟨gb223, _, none⟩) NB207_223.out _).trans (hHeld.2.2.2.1)))))))), ((Go.Proofs.YtnagmogjhfdmlaaGreatDoorW.PrintWords.cell_far (p := ⟨gb223, _, none⟩) NB207_223.out _).trans (((Go.Proofs.YtnagmogjhfdmlaaGreatDoorW.PrintWords.cell_far (p := ⟨gb223, _, none⟩) NB207_223.out _).trans (((Go.Proofs.YtnagmogjhfdmlaaGreatDoorW.PrintWords.cell_far (p := ⟨gb223, _, none⟩) NB207_223.out _).trans (((Go.Proofs.YtnagmogjhfdmlaaGreatDoorW.PrintWords.cell_far (p := ⟨gb223, _, none⟩) NB207_223.out _).trans (hHeld.2.2.2.2.1)))))))), ((Go.Proofs.YtnagmogjhfdmlaaGreatDoorW.PrintWords.cell_far (p := ⟨gb223, _, none⟩) NB207_223.out _).trans (((Go.Proofs.YtnagmogjhfdmlaaGreatDoorW.PrintWords.cell_far (p := ⟨gb223, _, none⟩) NB207_223.out _).trans (((Go.Proofs.YtnagmogjhfdmlaaGreatDoorW.PrintWords.cell_far (p := ⟨gb223, _, none⟩) NB207_223.out _).trans (((Go.Proofs.YtnagmogjhfdmlaaGreatDoorW.PrintWords.cell_far (p := ⟨gb223, _, none⟩) NB207_223.out _).trans (hHeld.2.2.2.2.2))))))))⟩ (fun hHeld => ?_)
      clear hK K
      refine done_ (done_of HT_.out (by kernel_rfl)) ?_
      go_upto_region 8 with (fail)
      go_cut [42] (fun v42 wc => ∃ (kq : Nat) (x42_9 : Bool), v42 = .bool x42_9 ∧ Aside0 (interval_Widen.j0 kq l2 x42_9 t214 t215 t216 t217 t218 t219 t220 t221 = some (r1, r2, r3, r4)) ∧ Aside0 (kq ≤ k) ∧ Aside0 (wc.heap[gb206]? = some (.cells #[.bool a0_0, .string a0_1, .string a0_2] 28 (0, 0))) ∧ Aside0 (wc.heap[gb207]? = some (.cells #[.bool a1_0, .string a1_1, .string a1_2] 28 (0, 0))) ∧ Aside0 (wc.heap[gb208]? = some (.cells #[.bool false, .string (⟨#[]⟩ : ByteArray), .string (⟨#[]⟩ : ByteArray)] 28 (0, 0))) ∧ Aside0 (wc.heap[gb222]? = some (.cells #[.int .i64 t214, .string t215, .int .i64 t216, .string t217] 43 (0, 0))) ∧ Aside0 (wc.heap[gb223]? = some (.cells #[.int .i64 t218, .string t219, .int .i64 t220, .string t221] 43 (0, 0))) ∧ Aside0 (Below w.heap.size w wc))
      case first =>
        have H := HC10.out
        clear HC10
        obtain ⟨t224, A38, H⟩ := bi H
        try dsimp only at H
        by_cases c39 : t224 = true
        · subst c39
          rw [if_pos rfl] at H
          have H' := Aside0.mk H
          clear H
          have hnb40 := NB222_206.out
          have hnc40 := NB206_222.out
          have hnb41 := NB222_207.out
          have hnc41 := NB207_222.out
          have hnb42 := NB222_208.out
          have hnc42 := NB208_222.out
          have hnb43 := NB222_223.out
          have hnc43 := NB223_222.out
          have hcz44_0 : w29.cell? ⟨gb222, 0, none⟩ = some (.int .i64 0) := (blk_cell BK222.out 0).trans rfl
          have hcz44_1 : w29.cell? ⟨gb222, 1, none⟩ = some (.string (⟨#[]⟩ : ByteArray)) := (blk_cell BK222.out 1).trans rfl
          have hcz44_2 : w29.cell? ⟨gb222, 2, none⟩ = some (.int .i64 0) := (blk_cell BK222.out 2).trans rfl
          have hcz44_3 : w29.cell? ⟨gb222, 3, none⟩ = some (.string (⟨#[]⟩ : ByteArray)) := (blk_cell BK222.out 3).trans rfl
          have hfz44_0 := blk_frozen BK222.out 0
          have hfz44_1 := blk_frozen BK222.out 1
          have hfz44_2 := blk_frozen BK222.out 2
          have hfz44_3 := blk_frozen BK222.out 3
          go_wp2_with (first | ((with_reducible refine gate_callee (f := 15) rfl ?_); refine gl_ 38 Tryz.func15 #[.agg #[.int .i64 t214, .string t215, .int .i64 t216, .string t217]] (h := ?_); (with_reducible refine (interval_span_empty.calls t214 t215 t216 t217 true _ A38.out).mono ?_); rintro e w45 ⟨rfl, hb⟩; refine ⟨_, rfl, ?_⟩; have n0_ := Aside0.mk (Kd.R_below (by (with_reducible repeat (first | apply Kd.R_alloc | apply Kd.R_drewN | apply Kd.R_drew)); exact (Kd.R_mono (Kd.R_mono (Kd.R_far (p := ⟨gb223, 3, none⟩) (Kd.R_far (p := ⟨gb223, 2, none⟩) (Kd.R_far (p := ⟨gb223, 1, none⟩) (Kd.R_far (p := ⟨gb223, 0, none⟩) (Kd.R_far (p := ⟨gb222, 3, none⟩) (Kd.R_far (p := ⟨gb222, 2, none⟩) (Kd.R_far (p := ⟨gb222, 1, none⟩) (Kd.R_far (p := ⟨gb222, 0, none⟩) (Kd.R_types (Kd.R_types HO211.out BK222.out (by decide)) BK223.out (by decide)) (fun _ hk => hk.1.2) (.int .i64 t214)) (fun _ hk => hk.1.2) (.string t215)) (fun _ hk => hk.1.2) (.int .i64 t216)) (fun _ hk => hk.1.2) (.string t217)) (fun _ hk => hk.2) (.int .i64 t218)) (fun _ hk => hk.2) (.string t219)) (fun _ hk => hk.2) (.int .i64 t220)) (fun _ hk => hk.2) (.string t221)) (fun _ h_ => h_.1)) (fun _ h_ => h_.1))) hb); have n1_ := pkF BK206 hb; have n2_ := pkF BK207 hb; have n3_ := pkF BK208 hb; have n4_ := Aside0.mk (blk_below (g := gb222) (o := .cells #[.int .i64 t214, .string t215, .int .i64 t216, .string t217] 43 (0, 0)) (by (with_reducible repeat (first | refine blk_drewN ?_ _ | refine blk_drew ?_ | refine blk_alloc ?_ _)); refine blk_far ?_ NB222_223.out _; (with_reducible repeat (first | refine blk_drewN ?_ _ | refine blk_drew ?_ | refine blk_alloc ?_ _)); refine blk_far ?_ NB222_223.out _; (with_reducible repeat (first | refine blk_drewN ?_ _ | refine blk_drew ?_ | refine blk_alloc ?_ _)); refine blk_far ?_ NB222_223.out _; (with_reducible repeat (first | refine blk_drewN ?_ _ | refine blk_drew ?_ | refine blk_alloc ?_ _)); refine blk_far ?_ NB222_223.out _; (with_reducible repeat (first | refine blk_drewN ?_ _ | refine blk_drew ?_ | refine blk_alloc ?_ _)); refine blk_put (cs := #[.int .i64 t214, .string t215, .int .i64 t216, .string (⟨#[]⟩ : ByteArray)]) ?_ 3 _ rfl; (with_reducible repeat (first | refine blk_drewN ?_ _ | refine blk_drew ?_ | refine blk_alloc ?_ _)); refine blk_put (cs := #[.int .i64 t214, .string t215, .int .i64 0, .string (⟨#[]⟩ : ByteArray)]) ?_ 2 _ rfl; (with_reducible repeat (first | refine blk_drewN ?_ _ | refine blk_drew ?_ | refine blk_alloc ?_ _)); refine blk_put (cs := #[.int .i64 t214, .string (⟨#[]⟩ : ByteArray), .int .i64 0, .string (⟨#[]⟩ : ByteArray)]) ?_ 1 _ rfl; (with_reducible repeat (first | refine blk_drewN ?_ _ | refine blk_drew ?_ | refine blk_alloc ?_ _)); refine blk_put (cs := #[.int .i64 0, .string (⟨#[]⟩ : ByteArray), .int .i64 0, .string (⟨#[]⟩ : ByteArray)]) ?_ 0 _ rfl; (with_reducible repeat (first | refine blk_drewN ?_ _ | refine blk_drew ?_ | refine blk_alloc ?_ _)); exact BK222.out) hb); have n5_ := Aside0.mk (blk_below (g := gb223) (o := .cells #[.int .i64 t218, .string t219, .int .i64 t220, .string t221] 43 (0, 0)) (pkS4 BK223) hb); have n6_ := pkB HB hb; clear HO211; clear BK206; clear BK207; clear BK208; clear BK222; clear BK223; clear HB; have HO211 := n0_; have BK206 := n1_; have BK207 := n2_; have BK208 := n3_; have BK222 := n4_; have BK223 := n5_; have HB := n6_; clear n0_ n1_ n2_ n3_ n4_ n5_ n6_; try clear hb))
          go_meet
          case rel => exact ⟨_, (true), (by first | rfl | (simp; done) | (simp [*]; done)), H', ⟨by first | omega | exact Nat.le_refl _⟩, ⟨pkW BK206⟩, ⟨pkW BK207⟩, ⟨pkW BK208⟩, ⟨pkW BK222⟩, ⟨pkW BK223⟩, ⟨pkL HB⟩⟩
        · replace c39 := Bool.eq_false_iff.mpr c39
          subst c39
          rw [if_neg (show ¬ (false = true) by decide)] at H
          obtain ⟨t225, A46, H⟩ := bi H
          try dsimp only at H
          have H' := Aside0.mk H
          clear H
          have hnb47 := NB222_206.out
          have hnc47 := NB206_222.out
          have hnb48 := NB222_207.out
          have hnc48 := NB207_222.out
          have hnb49 := NB222_208.out
          have hnc49 := NB208_222.out
          have hnb50 := NB222_223.out
          have hnc50 := NB223_222.out
          have hcz51_0 : w29.cell? ⟨gb222, 0, none⟩ = some (.int .i64 0) := (blk_cell BK222.out 0).trans rfl
          have hcz51_1 : w29.cell? ⟨gb222, 1, none⟩ = some (.string (⟨#[]⟩ : ByteArray)) := (blk_cell BK222.out 1).trans rfl
          have hcz51_2 : w29.cell? ⟨gb222, 2, none⟩ = some (.int .i64 0) := (blk_cell BK222.out 2).trans rfl
          have hcz51_3 : w29.cell? ⟨gb222, 3, none⟩ = some (.string (⟨#[]⟩ : ByteArray)) := (blk_cell BK222.out 3).trans rfl
          have hfz51_0 := blk_frozen BK222.out 0
          have hfz51_1 := blk_frozen BK222.out 1
          have hfz51_2 := blk_frozen BK222.out 2
          have hfz51_3 := blk_frozen BK222.out 3
          go_wp2_with (first | ((with_reducible refine gate_callee (f := 15) rfl ?_); refine gl_ 38 Tryz.func15 #[.agg #[.int .i64 t214, .string t215, .int .i64 t216, .string t217]] (h := ?_); (with_reducible refine (interval_span_empty.calls t214 t215 t216 t217 false _ A38.out).mono ?_); rintro e w52 ⟨rfl, hb⟩; refine ⟨_, rfl, ?_⟩; have n0_ := Aside0.mk (Kd.R_below (by (with_reducible repeat (first | apply Kd.R_alloc | apply Kd.R_drewN | apply Kd.R_drew)); exact (Kd.R_mono (Kd.R_mono (Kd.R_far (p := ⟨gb223, 3, none⟩) (Kd.R_far (p := ⟨gb223, 2, none⟩) (Kd.R_far (p := ⟨gb223, 1, none⟩) (Kd.R_far (p := ⟨gb223, 0, none⟩) (Kd.R_far (p := ⟨gb222, 3, none⟩) (Kd.R_far (p := ⟨gb222, 2, none⟩) (Kd.R_far (p := ⟨gb222, 1, none⟩) (Kd.R_far (p := ⟨gb222, 0, none⟩) (Kd.R_types (Kd.R_types HO211.out BK222.out (by decide)) BK223.out (by decide)) (fun _ hk => hk.1.2) (.int .i64 t214)) (fun _ hk => hk.1.2) (.string t215)) (fun _ hk => hk.1.2) (.int .i64 t216)) (fun _ hk => hk.1.2) (.string t217)) (fun _ hk => hk.2) (.int .i64 t218)) (fun _ hk => hk.2) (.string t219)) (fun _ hk => hk.2) (.int .i64 t220)) (fun _ hk => hk.2) (.string t221)) (fun _ h_ => h_.1)) (fun _ h_ => h_.1))) hb); have n1_ := pkF BK206 hb; have n2_ := pkF BK207 hb; have n3_ := pkF BK208 hb; have n4_ := Aside0.mk (blk_below (g := gb222) (o := .cells #[.int .i64 t214, .string t215, .int .i64 t216, .string t217] 43 (0, 0)) (by (with_reducible repeat (first | refine blk_drewN ?_ _ | refine blk_drew ?_ | refine blk_alloc ?_ _)); refine blk_far ?_ NB222_223.out _; (with_reducible repeat (first | refine blk_drewN ?_ _ | refine blk_drew ?_ | refine blk_alloc ?_ _)); refine blk_far ?_ NB222_223.out _; (with_reducible repeat (first | refine blk_drewN ?_ _ | refine blk_drew ?_ | refine blk_alloc ?_ _)); refine blk_far ?_ NB222_223.out _; (with_reducible repeat (first | refine blk_drewN ?_ _ | refine blk_drew ?_ | refine blk_alloc ?_ _)); refine blk_far ?_ NB222_223.out _; (with_reducible repeat (first | refine blk_drewN ?_ _ | refine blk_drew ?_ | refine blk_alloc ?_ _)); refine blk_put (cs := #[.int .i64 t214, .string t215, .int .i64 t216, .string (⟨#[]⟩ : ByteArray)]) ?_ 3 _ rfl; (with_reducible repeat (first | refine blk_drewN ?_ _ | refine blk_drew ?_ | refine blk_alloc ?_ _)); refine blk_put (cs := #[.int .i64 t214, .string t215, .int .i64 0, .string (⟨#[]⟩ : ByteArray)]) ?_ 2 _ rfl; (with_reducible repeat (first | refine blk_drewN ?_ _ | refine blk_drew ?_ | refine blk_alloc ?_ _)); refine blk_put (cs := #[.int .i64 t214, .string (⟨#[]⟩ : ByteArray), .int .i64 0, .string (⟨#[]⟩ : ByteArray)]) ?_ 1 _ rfl; (with_reducible repeat (first | refine blk_drewN ?_ _ | refine blk_drew ?_ | refine blk_alloc ?_ _)); refine blk_put (cs := #[.int .i64 0, .string (⟨#[]⟩ : ByteArray), .int .i64 0, .string (⟨#[]⟩ : ByteArray)]) ?_ 0 _ rfl; (with_reducible repeat (first | refine blk_drewN ?_ _ | refine blk_drew ?_ | refine blk_alloc ?_ _)); exact BK222.out) hb); have n5_ := Aside0.mk (blk_below (g := gb223) (o := .cells #[.int .i64 t218, .string t219, .int .i64 t220, .string t221] 43 (0, 0)) (pkS4 BK223) hb); have n6_ := pkB HB hb; clear HO211; clear BK206; clear BK207; clear BK208; clear BK222; clear BK223; clear HB; have HO211 := n0_; have BK206 := n1_; have BK207 := n2_; have BK208 := n3_; have BK222 := n4_; have BK223 := n5_; have HB := n6_; clear n0_ n1_ n2_ n3_ n4_ n5_ n6_; try clear hb; have hnb53 := NB223_206.out; have hnc53 := NB206_223.out; have hnb54 := NB223_207.out; have hnc54 := NB207_223.out; have hnb55 := NB223_208.out; have hnc55 := NB208_223.out; have hcz56_0 : w52.cell? ⟨gb223, 0, none⟩ = some (.int .i64 t218) := (blk_cell BK223.out 0).trans rfl; have hcz56_1 : w52.cell? ⟨gb223, 1, none⟩ = some (.string t219) := (blk_cell BK223.out 1).trans rfl; have hcz56_2 : w52.cell? ⟨gb223, 2, none⟩ = some (.int .i64 t220) := (blk_cell BK223.out 2).trans rfl; have hcz56_3 : w52.cell? ⟨gb223, 3, none⟩ = some (.string t221) := (blk_cell BK223.out 3).trans rfl; have hfz56_0 := blk_frozen BK223.out 0; have hfz56_1 := blk_frozen BK223.out 1; have hfz56_2 := blk_frozen BK223.out 2; have hfz56_3 := blk_frozen BK223.out 3) | (go_at_call 15; (with_reducible refine (interval_span_empty.calls t218 t219 t220 t221 t225 _ A46.out).mono ?_); rintro e w57 ⟨rfl, hb⟩; replace HO211 := Aside0.mk (Kd.R_below (by (with_reducible repeat (first | apply Kd.R_alloc | apply Kd.R_drewN | apply Kd.R_drew)); exact HO211.out) hb); replace BK206 := pkK BK206 hb; replace BK207 := pkK BK207 hb; replace BK208 := pkK BK208 hb; replace BK222 := pkK BK222 hb; replace BK223 := pkK BK223 hb; replace HB := pkB HB hb; try clear hb))
          go_meet
          case rel => exact ⟨_, (t225), (by first | rfl | (simp; done) | (simp [*]; done)), H', ⟨by first | omega | exact Nat.le_refl _⟩, ⟨pkW BK206⟩, ⟨pkW BK207⟩, ⟨pkW BK208⟩, ⟨pkW BK222⟩, ⟨pkW BK223⟩, ⟨pkL HB⟩⟩
      case rest =>
        clear HC10
        try clear c5
        try clear c39
        try clear hcz44_0
        try clear hcz44_1
        try clear hcz44_2
        try clear hcz44_3
        try clear hcz51_0
        try clear hcz51_1
        try clear hcz51_2
        try clear hcz51_3
        try clear hcz56_0
        try clear hcz56_1
        try clear hcz56_2
        try clear hcz56_3
        try clear hfz44_0
        try clear hfz44_1
        try clear hfz44_2
        try clear hfz44_3
        try clear hfz51_0
        try clear hfz51_1
        try clear hfz51_2
        try clear hfz51_3
        try clear hfz56_0
        try clear hfz56_1
        try clear hfz56_2
        try clear hfz56_3
        obtain ⟨kq, x42_9, rfl, HA, HJ9, BK206, BK207, BK208, BK222, BK223, HB⟩ := hcut
        cases kq with
        | zero => exact absurd HA.out (by simp [interval_Widen.j0])
        | succ kj9 =>
          have H := HA.out
          clear HA
          simp only [interval_Widen.j0] at H
          by_cases c58 : x42_9 = true
          · subst c58
            rw [if_pos rfl] at H
            obtain ⟨⟨t226, t227, t228, t229⟩, A59, H⟩ := bi H
            try dsimp only at H
            obtain ⟨⟨t230, t231, t232⟩, A60, H⟩ := bi H
            try dsimp only at H
            simp only [Option.some.injEq, Prod.mk.injEq] at H
            obtain ⟨rfl, rfl, rfl, rfl⟩ := H
            have hnb61 := NB222_206.out
            have hnc61 := NB206_222.out
            have hnb62 := NB222_207.out
            have hnc62 := NB207_222.out
            have hnb63 := NB222_208.out
            have hnc63 := NB208_222.out
            have hnb64 := NB222_223.out
            have hnc64 := NB223_222.out
            have hcz65_0 : wc.cell? ⟨gb222, 0, none⟩ = some (.int .i64 t214) := (blk_cell BK222.out 0).trans rfl
            have hcz65_1 : wc.cell? ⟨gb222, 1, none⟩ = some (.string t215) := (blk_cell BK222.out 1).trans rfl
            have hcz65_2 : wc.cell? ⟨gb222, 2, none⟩ = some (.int .i64 t216) := (blk_cell BK222.out 2).trans rfl
            have hcz65_3 : wc.cell? ⟨gb222, 3, none⟩ = some (.string t217) := (blk_cell BK222.out 3).trans rfl
            have hfz65_0 := blk_frozen BK222.out 0
            have hfz65_1 := blk_frozen BK222.out 1
            have hfz65_2 := blk_frozen BK222.out 2
            have hfz65_3 := blk_frozen BK222.out 3
            have hnb66 := NB223_206.out
            have hnc66 := NB206_223.out
            have hnb67 := NB223_207.out
            have hnc67 := NB207_223.out
            have hnb68 := NB223_208.out
            have hnc68 := NB208_223.out
            have hcz69_0 : wc.cell? ⟨gb223, 0, none⟩ = some (.int .i64 t218) := (blk_cell BK223.out 0).trans rfl
            have hcz69_1 : wc.cell? ⟨gb223, 1, none⟩ = some (.string t219) := (blk_cell BK223.out 1).trans rfl
            have hcz69_2 : wc.cell? ⟨gb223, 2, none⟩ = some (.int .i64 t220) := (blk_cell BK223.out 2).trans rfl
            have hcz69_3 : wc.cell? ⟨gb223, 3, none⟩ = some (.string t221) := (blk_cell BK223.out 3).trans rfl
            have hfz69_0 := blk_frozen BK223.out 0
            have hfz69_1 := blk_frozen BK223.out 1
            have hfz69_2 := blk_frozen BK223.out 2
            have hfz69_3 := blk_frozen BK223.out 3
            go_wp2_with (first | ((with_reducible refine gate_callee (f := 16) rfl ?_); refine gl_ 45 Tryz.func16 #[.agg #[.int .i64 t214, .string t215, .int .i64 t216, .string t217], .agg #[.int .i64 t218, .string t219, .int .i64 t220, .string t221]] (h := ?_); (with_reducible refine (interval_span_hull.calls t214 t215 t216 t217 t218 t219 t220 t221 t226 t227 t228 t229 _ A59.out).mono ?_); rintro e w70 ⟨rfl, hb⟩; refine ⟨_, rfl, ?_⟩; replace BK206 := pkK BK206 hb; replace BK207 := pkK BK207 hb; replace BK208 := pkK BK208 hb; replace BK222 := pkK BK222 hb; replace BK223 := pkK BK223 hb; replace HB := pkB HB hb; try clear hb) | ((with_reducible refine gate_callee (f := 17) rfl ?_); refine gl_ 46 Tryz.func17 #[.agg #[.int .i64 t226, .string t227, .int .i64 t228, .string t229]] (h := ?_); (with_reducible refine (interval_span_interval.calls t226 t227 t228 t229 t230 t231 t232 _ A60.out).mono ?_); rintro e w71 ⟨rfl, hb⟩; refine ⟨_, rfl, ?_⟩; replace BK206 := pkK BK206 hb; replace BK207 := pkK BK207 hb; replace BK208 := pkK BK208 hb; replace BK222 := pkK BK222 hb; replace BK223 := pkK BK223 hb; replace HB := pkB HB hb; try clear hb; have hnb72 := NB208_206.out; have hnc72 := NB206_208.out; have hnb73 := NB208_207.out; have hnc73 := NB207_208.out; obtain ⟨⟨hcz74_0, hcz74_1, hcz74_2⟩, hfz74_0, hfz74_1, hfz74_2⟩ := pk3 BK208))
            refine bodyPost_ret (results_ct rfl _ _ gb208 28 #[.bool t230, .string t231, .string t232] (0, 0) _ rfl (pkS3 BK208) Tryz.underlying28 rfl (by kernel_rfl)) rfl ?_
            exact pkE HB
          · replace c58 := Bool.eq_false_iff.mpr c58
            subst c58
            rw [if_neg (show ¬ (false = true) by decide)] at H
            obtain ⟨⟨t233, t234, t235, t236⟩, A75, H⟩ := bi H
            try dsimp only at H
            obtain ⟨t238, A76, H⟩ := bi H
            try dsimp only at H
            have HC77 := Aside0.mk H
            clear H
            have hnb78 := NB222_206.out
            have hnc78 := NB206_222.out
            have hnb79 := NB222_207.out
            have hnc79 := NB207_222.out
            have hnb80 := NB222_208.out
            have hnc80 := NB208_222.out
            have hnb81 := NB222_223.out
            have hnc81 := NB223_222.out
            have hcz82_0 : wc.cell? ⟨gb222, 0, none⟩ = some (.int .i64 t214) := (blk_cell BK222.out 0).trans rfl
            have hcz82_1 : wc.cell? ⟨gb222, 1, none⟩ = some (.string t215) := (blk_cell BK222.out 1).trans rfl
            have hcz82_2 : wc.cell? ⟨gb222, 2, none⟩ = some (.int .i64 t216) := (blk_cell BK222.out 2).trans rfl
            have hcz82_3 : wc.cell? ⟨gb222, 3, none⟩ = some (.string t217) := (blk_cell BK222.out 3).trans rfl
            have hfz82_0 := blk_frozen BK222.out 0
            have hfz82_1 := blk_frozen BK222.out 1
            have hfz82_2 := blk_frozen BK222.out 2
            have hfz82_3 := blk_frozen BK222.out 3
            have hnb83 := NB223_206.out
            have hnc83 := NB206_223.out
            have hnb84 := NB223_207.out
            have hnc84 := NB207_223.out
            have hnb85 := NB223_208.out
            have hnc85 := NB208_223.out
            have hcz86_0 : wc.cell? ⟨gb223, 0, none⟩ = some (.int .i64 t218) := (blk_cell BK223.out 0).trans rfl
            have hcz86_1 : wc.cell? ⟨gb223, 1, none⟩ = some (.string t219) := (blk_cell BK223.out 1).trans rfl
            have hcz86_2 : wc.cell? ⟨gb223, 2, none⟩ = some (.int .i64 t220) := (blk_cell BK223.out 2).trans rfl
            have hcz86_3 : wc.cell? ⟨gb223, 3, none⟩ = some (.string t221) := (blk_cell BK223.out 3).trans rfl
            have hfz86_0 := blk_frozen BK223.out 0
            have hfz86_1 := blk_frozen BK223.out 1
            have hfz86_2 := blk_frozen BK223.out 2
            have hfz86_3 := blk_frozen BK223.out 3
            go_upto_if 55 with (first | ((with_reducible refine gate_callee (f := 16) rfl ?_); refine gl_ 49 Tryz.func16 #[.agg #[.int .i64 t214, .string t215, .int .i64 t216, .string t217], .agg #[.int .i64 t218, .string t219, .int .i64 t220, .string t221]] (h := ?_); (with_reducible refine (interval_span_hull.calls t214 t215 t216 t217 t218 t219 t220 t221 t233 t234 t235 t236 _ A75.out).mono ?_); rintro e w87 ⟨rfl, hb⟩; refine ⟨_, rfl, ?_⟩; replace BK206 := pkK BK206 hb; replace BK207 := pkK BK207 hb; replace BK208 := pkK BK208 hb; replace BK222 := pkK BK222 hb; replace BK223 := pkK BK223 hb; replace HB := pkB HB hb; try clear hb) | ((with_reducible refine gate_dst (N := 12) rfl ?_); refine bx_ 12 43 #[.int .i64 0, .string (⟨#[]⟩ : ByteArray), .int .i64 0, .string (⟨#[]⟩ : ByteArray)] (h := ?_); intro gb237 hg w88 hbox hb; have BK237 := Aside0.mk (hbox); have GW237 := pkG HB hg; have GE237 := GW237; obtain ⟨NB206_237, NB237_206, hnb89, hnc89⟩ := pkQ BK206 hg; obtain ⟨NB207_237, NB237_207, hnb90, hnc90⟩ := pkQ BK207 hg; obtain ⟨NB208_237, NB237_208, hnb91, hnc91⟩ := pkQ BK208 hg; obtain ⟨NB222_237, NB237_222, hnb92, hnc92⟩ := pkQ BK222 hg; obtain ⟨NB223_237, NB237_223, hnb93, hnc93⟩ := pkQ BK223 hg; replace BK206 := pkK BK206 hb; replace BK207 := pkK BK207 hb; replace BK208 := pkK BK208 hb; replace BK222 := pkK BK222 hb; replace BK223 := pkK BK223 hb; replace HB := pkB HB hb; clear hb hbox hg; have hcz94_0 : w88.cell? ⟨gb237, 0, none⟩ = some (.int .i64 0) := (blk_cell BK237.out 0).trans rfl; have hcz94_1 : w88.cell? ⟨gb237, 1, none⟩ = some (.string (⟨#[]⟩ : ByteArray)) := (blk_cell BK237.out 1).trans rfl; have hcz94_2 : w88.cell? ⟨gb237, 2, none⟩ = some (.int .i64 0) := (blk_cell BK237.out 2).trans rfl; have hcz94_3 : w88.cell? ⟨gb237, 3, none⟩ = some (.string (⟨#[]⟩ : ByteArray)) := (blk_cell BK237.out 3).trans rfl; have hfz94_0 := blk_frozen BK237.out 0; have hfz94_1 := blk_frozen BK237.out 1; have hfz94_2 := blk_frozen BK237.out 2; have hfz94_3 := blk_frozen BK237.out 3; have hcz95_0 : w88.cell? ⟨gb222, 0, none⟩ = some (.int .i64 t214) := (blk_cell BK222.out 0).trans rfl; have hcz95_1 : w88.cell? ⟨gb222, 1, none⟩ = some (.string t215) := (blk_cell BK222.out 1).trans rfl; have hcz95_2 : w88.cell? ⟨gb222, 2, none⟩ = some (.int .i64 t216) := (blk_cell BK222.out 2).trans rfl; have hcz95_3 : w88.cell? ⟨gb222, 3, none⟩ = some (.string t217) := (blk_cell BK222.out 3).trans rfl; have hfz95_0 := blk_frozen BK222.out 0; have hfz95_1 := blk_frozen BK222.out 1; have hfz95_2 := blk_frozen BK222.out 2; have hfz95_3 := blk_frozen BK222.out 3) | ((with_reducible refine gate_callee (f := 18) rfl ?_); refine gl_ 54 Tryz.func18 #[.agg #[.int .i64 t233, .string t234], .agg #[.int .i64 t214, .string t215]] (h := ?_); (with_reducible refine (interval_compare.calls t233 t234 t214 t215 t238 _ A76.out).mono ?_); rintro e w96 ⟨rfl, hb⟩; refine ⟨_, rfl, ?_⟩; replace BK206 := pkF BK206 hb; replace BK207 := pkF BK207 hb; replace BK208 := pkF BK208 hb; replace BK222 := pkF BK222 hb; replace BK223 := pkF BK223 hb; replace BK237 := Aside0.mk (blk_below (g := gb237) (o := .cells #[.int .i64 t233, .string t234, .int .i64 t235, .string t236] 43 (0, 0)) (pkS4 BK237) hb); replace HB := pkB HB hb; try clear hb))
            (try simp only [Act.put, List.setIfInBounds_toArray, List.set_cons_zero, List.set_cons_succ])
            go_cut [] (fun wc => ∃ (kq : Nat) (x238000_76 : Int) (x238001_76 : ByteArray), Aside0 (interval_Widen.j2 kq l2 t214 t215 t216 t217 x238000_76 x238001_76 t235 t236 = some (r1, r2, r3, r4)) ∧ Aside0 (kq ≤ kj9) ∧ Aside0 (wc.heap[gb206]? = some (.cells #[.bool a0_0, .string a0_1, .string a0_2] 28 (0, 0))) ∧ Aside0 (wc.heap[gb207]? = some (.cells #[.bool a1_0, .string a1_1, .string a1_2] 28 (0, 0))) ∧ Aside0 (wc.heap[gb208]? = some (.cells #[.bool false, .string (⟨#[]⟩ : ByteArray), .string (⟨#[]⟩ : ByteArray)] 28 (0, 0))) ∧ Aside0 (wc.heap[gb222]? = some (.cells #[.int .i64 t214, .string t215, .int .i64 t216, .string t217] 43 (0, 0))) ∧ Aside0 (wc.heap[gb223]? = some (.cells #[.int .i64 t218, .string t219, .int .i64 t220, .string t221] 43 (0, 0))) ∧ Aside0 (wc.heap[gb237]? = some (.cells #[.int .i64 x238000_76, .string x238001_76, .int .i64 t235, .string t236] 43 (0, 0))) ∧ Aside0 (Below w.heap.size w wc))
            case first =>
              have H := HC77.out
              clear HC77
              by_cases c97 : t238 = 0
              · rw [if_pos c97] at H
                have c97b0 : (t238 == 0) = true := beq_iff_eq.mpr c97
                have c97b1 : (t238 != 0) = false := bne_eq_false_iff_eq.mpr c97
                clear c97
                (first | rw [c97b0] | (simp only [i64_w, i32_w]; rw [c97b0]) | skip)
                have H' := Aside0.mk H
                clear H
                go_wp2
                go_meet
                case rel => exact ⟨_, (t233), (t234), H', ⟨by have := HJ9.out; first | omega | exact Nat.le_refl _⟩, ⟨pkW BK206⟩, ⟨pkW BK207⟩, ⟨pkW BK208⟩, ⟨pkW BK222⟩, ⟨pkW BK223⟩, ⟨pkW BK237⟩, ⟨pkL HB⟩⟩
              · rw [if_neg c97] at H
                have c97b0 : (t238 == 0) = false := beq_eq_false_iff_ne.mpr c97
                have c97b1 : (t238 != 0) = true := bne_iff_ne.mpr c97
                (first | rw [c97b0] | (simp only [i64_w, i32_w]; rw [c97b0]) | skip)
                obtain ⟨⟨t239, t240⟩, A98, H⟩ := bi H
                try dsimp only at H
                have H' := Aside0.mk H
                clear H
                go_wp2_with (first | ((with_reducible refine gate_callee (f := 19) rfl ?_); refine gl_ 56 Tryz.func19 #[.int .i64 (-1)] (h := ?_); (with_reducible refine (interval_infinite.calls (-1) t239 t240 _ A98.out).mono ?_); rintro e w99 ⟨rfl, hb⟩; refine ⟨_, rfl, ?_⟩; replace BK206 := pkK BK206 hb; replace BK207 := pkK BK207 hb; replace BK208 := pkK BK208 hb; replace BK222 := pkK BK222 hb; replace BK223 := pkK BK223 hb; replace BK237 := pkK BK237 hb; replace HB := pkB HB hb; try clear hb) | ((with_reducible refine gate_dst (N := 13) rfl ?_); refine bx_ 13 41 #[.int .i64 0, .string (⟨#[]⟩ : ByteArray)] (h := ?_); intro gb241 hg w100 hbox hb; have BK241 := Aside0.mk (hbox); have GW241 := pkG HB hg; have GE241 := GW241; obtain ⟨NB206_241, NB241_206, hnb101, hnc101⟩ := pkQ BK206 hg; obtain ⟨NB207_241, NB241_207, hnb102, hnc102⟩ := pkQ BK207 hg; obtain ⟨NB208_241, NB241_208, hnb103, hnc103⟩ := pkQ BK208 hg; obtain ⟨NB222_241, NB241_222, hnb104, hnc104⟩ := pkQ BK222 hg; obtain ⟨NB223_241, NB241_223, hnb105, hnc105⟩ := pkQ BK223 hg; obtain ⟨NB237_241, NB241_237, hnb106, hnc106⟩ := pkQ BK237 hg; replace BK206 := pkK BK206 hb; replace BK207 := pkK BK207 hb; replace BK208 := pkK BK208 hb; replace BK222 := pkK BK222 hb; replace BK223 := pkK BK223 hb; replace BK237 := pkK BK237 hb; replace HB := pkB HB hb; clear hb hbox hg; have hcz107_0 : w100.cell? ⟨gb241, 0, none⟩ = some (.int .i64 0) := (blk_cell BK241.out 0).trans rfl; have hcz107_1 : w100.cell? ⟨gb241, 1, none⟩ = some (.string (⟨#[]⟩ : ByteArray)) := (blk_cell BK241.out 1).trans rfl; have hfz107_0 := blk_frozen BK241.out 0; have hfz107_1 := blk_frozen BK241.out 1))
                go_loopg [59] kj9 (fun kq v59 w' => ∃ (x59_2 : Int) (x242000_2 : Int) (x242001_2 : ByteArray), v59 = .int .i64 x59_2 ∧ Aside0 (interval_Widen.l0 kq l2 l2 (l2.length : Int) x59_2 t214 t215 t216 t217 t233 t234 t235 t236 x242000_2 x242001_2 = some (r1, r2, r3, r4)) ∧ Aside0 (kq ≤ kj9) ∧ Aside0 (w'.heap[gb206]? = some (.cells #[.bool a0_0, .string a0_1, .string a0_2] 28 (0, 0))) ∧ Aside0 (w'.heap[gb207]? = some (.cells #[.bool a1_0, .string a1_1, .string a1_2] 28 (0, 0))) ∧ Aside0 (w'.heap[gb208]? = some (.cells #[.bool false, .string (⟨#[]⟩ : ByteArray), .string (⟨#[]⟩ : ByteArray)] 28 (0, 0))) ∧ Aside0 (w'.heap[gb222]? = some (.cells #[.int .i64 t214, .string t215, .int .i64 t216, .string t217] 43 (0, 0))) ∧ Aside0 (w'.heap[gb223]? = some (.cells #[.int .i64 t218, .string t219, .int .i64 t220, .string t221] 43 (0, 0))) ∧ Aside0 (w'.heap[gb237]? = some (.cells #[.int .i64 t233, .string t234, .int .i64 t235, .string t236] 43 (0, 0))) ∧ Aside0 (w'.heap[gb241]? = some (.cells #[.int .i64 x242000_2, .string x242001_2] 41 (0, 0))) ∧ Aside0 (Below w.heap.size w w'))
                case atStart => exact ⟨(0), (t239), (t240), (by first | rfl | (simp; done) | (simp [*]; done)), H', ⟨Nat.le_refl _⟩, ⟨by (with_reducible repeat (first | refine blk_drewN ?_ _ | refine blk_drew ?_ | refine blk_alloc ?_ _)); refine blk_far ?_ NB206_241.out _; (with_reducible repeat (first | refine blk_drewN ?_ _ | refine blk_drew ?_ | refine blk_alloc ?_ _)); refine blk_far ?_ NB206_241.out _; (with_reducible repeat (first | refine blk_drewN ?_ _ | refine blk_drew ?_ | refine blk_alloc ?_ _)); exact BK206.out⟩, ⟨by (with_reducible repeat (first | refine blk_drewN ?_ _ | refine blk_drew ?_ | refine blk_alloc ?_ _)); refine blk_far ?_ NB207_241.out _; (with_reducible repeat (first | refine blk_drewN ?_ _ | refine blk_drew ?_ | refine blk_alloc ?_ _)); refine blk_far ?_ NB207_241.out _; (with_reducible repeat (first | refine blk_drewN ?_ _ | refine blk_drew ?_ | refine blk_alloc ?_ _)); exact BK207.out⟩, ⟨by (with_reducible repeat (first | refine blk_drewN ?_ _ | refine blk_drew ?_ | refine blk_alloc ?_ _)); refine blk_far ?_ NB208_241.out _; (with_reducible repeat (first | refine blk_drewN ?_ _ | refine blk_drew ?_ | refine blk_alloc ?_ _)); refine blk_far ?_ NB208_241.out _; (with_reducible repeat (first | refine blk_drewN ?_ _ | refine blk_drew ?_ | refine blk_alloc ?_ _)); exact BK208.out⟩, ⟨by (with_reducible repeat (first | refine blk_drewN ?_ _ | refine blk_drew ?_ | refine blk_alloc ?_ _)); refine blk_far ?_ NB222_241.out _; (with_reducible repeat (first | refine blk_drewN ?_ _ | refine blk_drew ?_ | refine blk_alloc ?_ _)); refine blk_far ?_ NB222_241.out _; (with_reducible repeat (first | refine blk_drewN ?_ _ | refine blk_drew ?_ | refine blk_alloc ?_ _)); exact BK222.out⟩, ⟨by (with_reducible repeat (first | refine blk_drewN ?_ _ | refine blk_drew ?_ | refine blk_alloc ?_ _)); refine blk_far ?_ NB223_241.out _; (with_reducible repeat (first | refine blk_drewN ?_ _ | refine blk_drew ?_ | refine blk_alloc ?_ _)); refine blk_far ?_ NB223_241.out _; (with_reducible repeat (first | refine blk_drewN ?_ _ | refine blk_drew ?_ | refine blk_alloc ?_ _)); exact BK223.out⟩, ⟨by (with_reducible repeat (first | refine blk_drewN ?_ _ | refine blk_drew ?_ | refine blk_alloc ?_ _)); refine blk_far ?_ NB237_241.out _; (with_reducible repeat (first | refine blk_drewN ?_ _ | refine blk_drew ?_ | refine blk_alloc ?_ _)); refine blk_far ?_ NB237_241.out _; (with_reducible repeat (first | refine blk_drewN ?_ _ | refine blk_drew ?_ | refine blk_alloc ?_ _)); exact BK237.out⟩, ⟨by (with_reducible repeat (first | refine blk_drewN ?_ _ | refine blk_drew ?_ | refine blk_alloc ?_ _)); refine blk_put (cs := #[.int .i64 t239, .string (⟨#[]⟩ : ByteArray)]) ?_ 1 _ rfl; (with_reducible repeat (first | refine blk_drewN ?_ _ | refine blk_drew ?_ | refine blk_alloc ?_ _)); refine blk_put (cs := #[.int .i64 0, .string (⟨#[]⟩ : ByteArray)]) ?_ 0 _ rfl; (with_reducible repeat (first | refine blk_drewN ?_ _ | refine blk_drew ?_ | refine blk_alloc ?_ _)); exact BK241.out⟩, ⟨pkL HB⟩⟩
                case round =>
                  clear H'
                  try clear c5
                  try clear c7
                  try clear c39
                  try clear c58
                  try clear c97
                  try clear c97b0
                  try clear c97b1
                  try clear hcz107_0
                  try clear hcz107_1
                  try clear hcz44_0
                  try clear hcz44_1
                  try clear hcz44_2
                  try clear hcz44_3
                  try clear hcz51_0
                  try clear hcz51_1
                  try clear hcz51_2
                  try clear hcz51_3
                  try clear hcz56_0
                  try clear hcz56_1
                  try clear hcz56_2
                  try clear hcz56_3
                  try clear hcz65_0
                  try clear hcz65_1
                  try clear hcz65_2
                  try clear hcz65_3
                  try clear hcz69_0
                  try clear hcz69_1
                  try clear hcz69_2
                  try clear hcz69_3
                  try clear hcz74_0
                  try clear hcz74_1
                  try clear hcz74_2
                  try clear hcz82_0
                  try clear hcz82_1
                  try clear hcz82_2
                  try clear hcz82_3
                  try clear hcz86_0
                  try clear hcz86_1
                  try clear hcz86_2
                  try clear hcz86_3
                  try clear hcz94_0
                  try clear hcz94_1
                  try clear hcz94_2
                  try clear hcz94_3
                  try clear hcz95_0
                  try clear hcz95_1
                  try clear hcz95_2
                  try clear hcz95_3
                  try clear hfz107_0
                  try clear hfz107_1
                  try clear hfz44_0
                  try clear hfz44_1
                  try clear hfz44_2
                  try clear hfz44_3
                  try clear hfz51_0
                  try clear hfz51_1
                  try clear hfz51_2
                  try clear hfz51_3
                  try clear hfz56_0
                  try clear hfz56_1
                  try clear hfz56_2
                  try clear hfz56_3
                  try clear hfz65_0
                  try clear hfz65_1
                  try clear hfz65_2
                  try clear hfz65_3
                  try clear hfz69_0
                  try clear hfz69_1
                  try clear hfz69_2
                  try clear hfz69_3
                  try clear hfz74_0
                  try clear hfz74_1
                  try clear hfz74_2
                  try clear hfz82_0
                  try clear hfz82_1
                  try clear hfz82_2
                  try clear hfz82_3
                  try clear hfz86_0
                  try clear hfz86_1
                  try clear hfz86_2
                  try clear hfz86_3
                  try clear hfz94_0
                  try clear hfz94_1
                  try clear hfz94_2
                  try clear hfz94_3
                  try clear hfz95_0
                  try clear hfz95_1
                  try clear hfz95_2
                  try clear hfz95_3
                  obtain ⟨x59_2, x242000_2, x242001_2, rfl, HA, HK2, BK206, BK207, BK208, BK222, BK223, BK237, BK241, HB⟩ := hrel
                  cases gk with
                  | zero => exact absurd HA.out (by simp [interval_Widen.l0])
                  | succ k2 =>
                    have H := HA.out
                    clear HA
                    simp only [interval_Widen.l0] at H
                    by_cases c108 : x59_2 < (l2.length : Int)
                    · rw [if_pos c108] at H
                      have c108b0 : decide (x59_2 < (l2.length : Int)) = true := decide_eq_true c108
                      clear c108
                      by_cases c109 : 0 ≤ x59_2
                      · rw [if_pos c109] at H
                        have c109b0 : decide (0 ≤ x59_2) = true := decide_eq_true c109
                        clear c109
                        by_cases c110 : x59_2 < (l2.length : Int)
                        · rw [if_pos c110] at H
                          have c110b0 : decide (x59_2 < (l2.length : Int)) = true := decide_eq_true c110
                          clear c110
                          obtain ⟨⟨t243, t244⟩, A111, H⟩ := bi H
                          try dsimp only at H
                          obtain ⟨t245, A112, H⟩ := bi H
                          try dsimp only at H
                          by_cases c113 : t245 ≤ 0
                          · rw [if_pos c113] at H
                            have c113b0 : decide (t245 ≤ 0) = true := decide_eq_true c113
                            clear c113
                            obtain ⟨⟨t246, t247⟩, A114, H⟩ := bi H
                            try dsimp only at H
                            have H' := Aside0.mk H
                            clear H
                            have p242 : 0 ≤ (x59_2 : Int) := of_decide_eq_true (by first | (with_reducible assumption) | assumption)
                            have q242 : x59_2 < (l2.length : Int) := of_decide_eq_true (by first | (with_reducible assumption) | assumption)
                            obtain ⟨ad242, e242, hx242_0⟩ := Kd.at_string HR2.out x59_2 p242 q242
                            cases e242
                            replace hx242_0 := (HB.out.cell (World.block_lt_of_cell? w _ hx242_0)).trans hx242_0
                            replace p242 := eq_true p242
                            replace q242 := eq_true q242
                            try go_wp2
                            replace BK206 := Aside0.mk (blk_drew BK206.out); replace BK207 := Aside0.mk (blk_drew BK207.out); replace BK208 := Aside0.mk (blk_drew BK208.out); replace BK222 := Aside0.mk (blk_drew BK222.out); replace BK223 := Aside0.mk (blk_drew BK223.out); replace BK237 := Aside0.mk (blk_drew BK237.out); replace BK241 := Aside0.mk (blk_drew BK241.out); replace HB := Aside0.mk (below_drew1 HB.out)
                            refine start_ (n := 6) (S := fun w' => w'.cell? ⟨gb237, 0, none⟩ = some (.int .i64 t233) ∧ w'.cell? ⟨gb237, 1, none⟩ = some (.string t234) ∧ w'.cell? ⟨gb237, 2, none⟩ = some (.int .i64 t235) ∧ w'.cell? ⟨gb237, 3, none⟩ = some (.string t236)) (ds := []) #[false, false, false, false, false, false] (by kernel_rfl) rfl rfl ⟨(blk_cell BK237.out 0).trans rfl, (blk_cell BK237.out 1).trans rfl, (blk_cell BK237.out 2).trans rfl, (blk_cell BK237.out 3).trans rfl⟩ (fun hHeld => ?_)
                            generalize wr.drew = w115 at BK206 BK207 BK208 BK222 BK223 BK237 BK241 HB hHeld ⊢
                            refine pr_ 0 63 (h := ?_)
                            refine pr_ 2 65 (h := ?_)
                            refine tk_ 3 66 hHeld (hy := by rintro w' ⟨s0, s1, s2, s3⟩; go_simp; with_reducible rfl) (h := ?_)
                            refine on_ 1 64 (h := fun K hK => ?_)
                            refine g1_ Tryz.func20 #[.string (rdOf ByteArray.empty l2 x59_2)] (h := ?_)
                            with_reducible refine (interval_finite.calls (rdOf ByteArray.empty l2 x59_2) t243 t244 _ A111.out).mono ?_
                            rintro e w116 ⟨rfl, hb⟩
                            refine ⟨_, rfl, ?_⟩
                            replace BK206 := pkK BK206 hb; replace BK207 := pkK BK207 hb; replace BK208 := pkK BK208 hb; replace BK222 := pkK BK222 hb; replace BK223 := pkK BK223 hb; replace BK237 := pkK BK237 hb; replace BK241 := pkK BK241 hb; replace HB := pkB HB hb
                            (try clear hb)
                            (try clear hb2)
                            (try clear hk)
                            (try clear hi)
                            refine hK.out _ _ ⟨(blk_cell BK237.out 0).trans rfl, (blk_cell BK237.out 1).trans rfl, (blk_cell BK237.out 2).trans rfl, (blk_cell BK237.out 3).trans rfl⟩ (fun hHeld => ?_)
                            clear hK K
                            refine norm_ (a' := ?_) ?_ ?_
                            rotate_left
                            · show Act.put _ (some 64) _ = _
                              simp only [Act.put, List.setIfInBounds_toArray, List.set_cons_zero, List.set_cons_succ, i64_w, i32_w]
                              rfl
                            refine on_ 4 67 (h := fun K hK => ?_)
                            refine g1_ Tryz.func18 #[.agg #[.int .i64 t243, .string t244], .agg #[.int .i64 t233, .string t234]] (h := ?_)
                            with_reducible refine (interval_compare.calls t243 t244 t233 t234 t245 _ A112.out).mono ?_
                            rintro e w117 ⟨rfl, hb⟩
                            refine ⟨_, rfl, ?_⟩
                            replace BK206 := pkK BK206 hb; replace BK207 := pkK BK207 hb; replace BK208 := pkK BK208 hb; replace BK222 := pkK BK222 hb; replace BK223 := pkK BK223 hb; replace BK237 := pkK BK237 hb; replace BK241 := pkK BK241 hb; replace HB := pkB HB hb
                            (try clear hb)
                            (try clear hb2)
                            (try clear hk)
                            (try clear hi)
                            refine hK.out _ _ ⟨(blk_cell BK237.out 0).trans rfl, (blk_cell BK237.out 1).trans rfl, (blk_cell BK237.out 2).trans rfl, (blk_cell BK237.out 3).trans rfl⟩ (fun hHeld => ?_)
                            clear hK K
                            refine norm_ (a' := ?_) ?_ ?_
                            rotate_left
                            · show Act.put _ (some 67) _ = _
                              simp only [Act.put, List.setIfInBounds_toArray, List.set_cons_zero, List.set_cons_succ, i64_w, i32_w]
                              rfl
                            refine pr_ 5 68 (h := ?_)
                            refine done_ (by kernel_rfl) ?_
                            try go_wp2_with (first | ((with_reducible refine gate_callee (f := 20) rfl ?_); refine gl_ 70 Tryz.func20 #[.string (rdOf ByteArray.empty l2 x59_2)] (h := ?_); (with_reducible refine (interval_finite.calls (rdOf ByteArray.empty l2 x59_2) t246 t247 _ A114.out).mono ?_); rintro e w118 ⟨rfl, hb⟩; refine ⟨_, rfl, ?_⟩; replace BK206 := pkK BK206 hb; replace BK207 := pkK BK207 hb; replace BK208 := pkK BK208 hb; replace BK222 := pkK BK222 hb; replace BK223 := pkK BK223 hb; replace BK237 := pkK BK237 hb; replace BK241 := pkK BK241 hb; replace HB := pkB HB hb; try clear hb; have hnb119 := NB241_206.out; have hnc119 := NB206_241.out; have hnb120 := NB241_207.out; have hnc120 := NB207_241.out; have hnb121 := NB241_208.out; have hnc121 := NB208_241.out; have hnb122 := NB241_222.out; have hnc122 := NB222_241.out; have hnb123 := NB241_223.out; have hnc123 := NB223_241.out; have hnb124 := NB241_237.out; have hnc124 := NB237_241.out; have hcz125_0 : w118.cell? ⟨gb241, 0, none⟩ = some (.int .i64 x242000_2) := (blk_cell BK241.out 0).trans rfl; have hcz125_1 : w118.cell? ⟨gb241, 1, none⟩ = some (.string x242001_2) := (blk_cell BK241.out 1).trans rfl; have hfz125_0 := blk_frozen BK241.out 0; have hfz125_1 := blk_frozen BK241.out 1))
                            go_roundg k2
                            case measure => have := HJ9.out; have := HK2.out; omega
                            case rel => exact ⟨(wrap64 (x59_2 + 1)), (t246), (t247), (by first | rfl | (simp; done) | (simp [*]; done)), H', ⟨by have := HJ9.out; have := HK2.out; omega⟩, ⟨by (with_reducible repeat (first | refine blk_drewN ?_ _ | refine blk_drew ?_ | refine blk_alloc ?_ _)); refine blk_far ?_ NB206_241.out _; (with_reducible repeat (first | refine blk_drewN ?_ _ | refine blk_drew ?_ | refine blk_alloc ?_ _)); refine blk_far ?_ NB206_241.out _; (with_reducible repeat (first | refine blk_drewN ?_ _ | refine blk_drew ?_ | refine blk_alloc ?_ _)); exact BK206.out⟩, ⟨by (with_reducible repeat (first | refine blk_drewN ?_ _ | refine blk_drew ?_ | refine blk_alloc ?_ _)); refine blk_far ?_ NB207_241.out _; (with_reducible repeat (first | refine blk_drewN ?_ _ | refine blk_drew ?_ | refine blk_alloc ?_ _)); refine blk_far ?_ NB207_241.out _; (with_reducible repeat (first | refine blk_drewN ?_ _ | refine blk_drew ?_ | refine blk_alloc ?_ _)); exact BK207.out⟩, ⟨by (with_reducible repeat (first | refine blk_drewN ?_ _ | refine blk_drew ?_ | refine blk_alloc ?_ _)); refine blk_far ?_ NB208_241.out _; (with_reducible repeat (first | refine blk_drewN ?_ _ | refine blk_drew ?_ | refine blk_alloc ?_ _)); refine blk_far ?_ NB208_241.out _; (with_reducible repeat (first | refine blk_drewN ?_ _ | refine blk_drew ?_ | refine blk_alloc ?_ _)); exact BK208.out⟩, ⟨by (with_reducible repeat (first | refine blk_drewN ?_ _ | refine blk_drew ?_ | refine blk_alloc ?_ _)); refine blk_far ?_ NB222_241.out _; (with_reducible repeat (first | refine blk_drewN ?_ _ | refine blk_drew ?_ | refine blk_alloc ?_ _)); refine blk_far ?_ NB222_241.out _; (with_reducible repeat (first | refine blk_drewN ?_ _ | refine blk_drew ?_ | refine blk_alloc ?_ _)); exact BK222.out⟩, ⟨by (with_reducible repeat (first | refine blk_drewN ?_ _ | refine blk_drew ?_ | refine blk_alloc ?_ _)); refine blk_far ?_ NB223_241.out _; (with_reducible repeat (first | refine blk_drewN ?_ _ | refine blk_drew ?_ | refine blk_alloc ?_ _)); refine blk_far ?_ NB223_241.out _; (with_reducible repeat (first | refine blk_drewN ?_ _ | refine blk_drew ?_ | refine blk_alloc ?_ _)); exact BK223.out⟩, ⟨by (with_reducible repeat (first | refine blk_drewN ?_ _ | refine blk_drew ?_ | refine blk_alloc ?_ _)); refine blk_far ?_ NB237_241.out _; (with_reducible repeat (first | refine blk_drewN ?_ _ | refine blk_drew ?_ | refine blk_alloc ?_ _)); refine blk_far ?_ NB237_241.out _; (with_reducible repeat (first | refine blk_drewN ?_ _ | refine blk_drew ?_ | refine blk_alloc ?_ _)); exact BK237.out⟩, ⟨by (with_reducible repeat (first | refine blk_drewN ?_ _ | refine blk_drew ?_ | refine blk_alloc ?_ _)); refine blk_put (cs := #[.int .i64 t246, .string x242001_2]) ?_ 1 _ rfl; (with_reducible repeat (first | refine blk_drewN ?_ _ | refine blk_drew ?_ | refine blk_alloc ?_ _)); refine blk_put (cs := #[.int .i64 x242000_2, .string x242001_2]) ?_ 0 _ rfl; (with_reducible repeat (first | refine blk_drewN ?_ _ | refine blk_drew ?_ | refine blk_alloc ?_ _)); exact BK241.out⟩, ⟨pkL HB⟩⟩
                          · rw [if_neg c113] at H
                            have c113b0 : decide (t245 ≤ 0) = false := decide_eq_false c113
                            clear c113
                            have H' := Aside0.mk H
                            clear H
                            have p242 : 0 ≤ (x59_2 : Int) := of_decide_eq_true (by first | (with_reducible assumption) | assumption)
                            have q242 : x59_2 < (l2.length : Int) := of_decide_eq_true (by first | (with_reducible assumption) | assumption)
                            obtain ⟨ad242, e242, hx242_0⟩ := Kd.at_string HR2.out x59_2 p242 q242
                            cases e242
                            replace hx242_0 := (HB.out.cell (World.block_lt_of_cell? w _ hx242_0)).trans hx242_0
                            replace p242 := eq_true p242
                            replace q242 := eq_true q242
                            try go_wp2
                            replace BK206 := Aside0.mk (blk_drew BK206.out); replace BK207 := Aside0.mk (blk_drew BK207.out); replace BK208 := Aside0.mk (blk_drew BK208.out); replace BK222 := Aside0.mk (blk_drew BK222.out); replace BK223 := Aside0.mk (blk_drew BK223.out); replace BK237 := Aside0.mk (blk_drew BK237.out); replace BK241 := Aside0.mk (blk_drew BK241.out); replace HB := Aside0.mk (below_drew1 HB.out)
                            refine start_ (n := 6) (S := fun w' => w'.cell? ⟨gb237, 0, none⟩ = some (.int .i64 t233) ∧ w'.cell? ⟨gb237, 1, none⟩ = some (.string t234) ∧ w'.cell? ⟨gb237, 2, none⟩ = some (.int .i64 t235) ∧ w'.cell? ⟨gb237, 3, none⟩ = some (.string t236)) (ds := []) #[false, false, false, false, false, false] (by kernel_rfl) rfl rfl ⟨(blk_cell BK237.out 0).trans rfl, (blk_cell BK237.out 1).trans rfl, (blk_cell BK237.out 2).trans rfl, (blk_cell BK237.out 3).trans rfl⟩ (fun hHeld => ?_)
                            generalize wr.drew = w126 at BK206 BK207 BK208 BK222 BK223 BK237 BK241 HB hHeld ⊢
                            refine pr_ 0 63 (h := ?_)
                            refine pr_ 2 65 (h := ?_)
                            refine tk_ 3 66 hHeld (hy := by rintro w' ⟨s0, s1, s2, s3⟩; go_simp; with_reducible rfl) (h := ?_)
                            refine on_ 1 64 (h := fun K hK => ?_)
                            refine g1_ Tryz.func20 #[.string (rdOf ByteArray.empty l2 x59_2)] (h := ?_)
                            with_reducible refine (interval_finite.calls (rdOf ByteArray.empty l2 x59_2) t243 t244 _ A111.out).mono ?_
                            rintro e w127 ⟨rfl, hb⟩
                            refine ⟨_, rfl, ?_⟩
                            replace BK206 := pkK BK206 hb; replace BK207 := pkK BK207 hb; replace BK208 := pkK BK208 hb; replace BK222 := pkK BK222 hb; replace BK223 := pkK BK223 hb; replace BK237 := pkK BK237 hb; replace BK241 := pkK BK241 hb; replace HB := pkB HB hb
                            (try clear hb)
                            (try clear hb2)
                            (try clear hk)
                            (try clear hi)
                            refine hK.out _ _ ⟨(blk_cell BK237.out 0).trans rfl, (blk_cell BK237.out 1).trans rfl, (blk_cell BK237.out 2).trans rfl, (blk_cell BK237.out 3).trans rfl⟩ (fun hHeld => ?_)
                            clear hK K
                            refine norm_ (a' := ?_) ?_ ?_
                            rotate_left
                            · show Act.put _ (some 64) _ = _
                              simp only [Act.put, List.setIfInBounds_toArray, List.set_cons_zero, List.set_cons_succ, i64_w, i32_w]
                              rfl
                            refine on_ 4 67 (h := fun K hK => ?_)
                            refine g1_ Tryz.func18 #[.agg #[.int .i64 t243, .string t244], .agg #[.int .i64 t233, .string t234]] (h := ?_)
                            with_reducible refine (interval_compare.calls t243 t244 t233 t234 t245 _ A112.out).mono ?_
                            rintro e w128 ⟨rfl, hb⟩
                            refine ⟨_, rfl, ?_⟩
                            replace BK206 := pkK BK206 hb; replace BK207 := pkK BK207 hb; replace BK208 := pkK BK208 hb; replace BK222 := pkK BK222 hb; replace BK223 := pkK BK223 hb; replace BK237 := pkK BK237 hb; replace BK241 := pkK BK241 hb; replace HB := pkB HB hb
                            (try clear hb)
                            (try clear hb2)
                            (try clear hk)
                            (try clear hi)
                            refine hK.out _ _ ⟨(blk_cell BK237.out 0).trans rfl, (blk_cell BK237.out 1).trans rfl, (blk_cell BK237.out 2).trans rfl, (blk_cell BK237.out 3).trans rfl⟩ (fun hHeld => ?_)
                            clear hK K
                            refine norm_ (a' := ?_) ?_ ?_
                            rotate_left
                            · show Act.put _ (some 67) _ = _
                              simp only [Act.put, List.setIfInBounds_toArray, List.set_cons_zero, List.set_cons_succ, i64_w, i32_w]
                              rfl
                            refine pr_ 5 68 (h := ?_)
                            refine done_ (by kernel_rfl) ?_
                            try go_wp2
                            go_roundg k2
                            case measure => have := HJ9.out; have := HK2.out; omega
                            case rel => exact ⟨(wrap64 (x59_2 + 1)), (x242000_2), (x242001_2), (by first | rfl | (simp; done) | (simp [*]; done)), H', ⟨by have := HJ9.out; have := HK2.out; omega⟩, ⟨pkW BK206⟩, ⟨pkW BK207⟩, ⟨pkW BK208⟩, ⟨pkW BK222⟩, ⟨pkW BK223⟩, ⟨pkW BK237⟩, ⟨pkW BK241⟩, ⟨pkL HB⟩⟩
                        · rw [if_neg c110] at H
                          exact absurd H (by simp)
                      · rw [if_neg c109] at H
                        exact absurd H (by simp)
                    · rw [if_neg c108] at H
                      have c108b0 : decide (x59_2 < (l2.length : Int)) = false := decide_eq_false c108
                      clear c108
                      have H' := Aside0.mk H
                      clear H
                      have hnb129 := NB241_206.out
                      have hnc129 := NB206_241.out
                      have hnb130 := NB241_207.out
                      have hnc130 := NB207_241.out
                      have hnb131 := NB241_208.out
                      have hnc131 := NB208_241.out
                      have hnb132 := NB241_222.out
                      have hnc132 := NB222_241.out
                      have hnb133 := NB241_223.out
                      have hnc133 := NB223_241.out
                      have hnb134 := NB241_237.out
                      have hnc134 := NB237_241.out
                      have hcz135_0 : wr.cell? ⟨gb241, 0, none⟩ = some (.int .i64 x242000_2) := (blk_cell BK241.out 0).trans rfl
                      have hcz135_1 : wr.cell? ⟨gb241, 1, none⟩ = some (.string x242001_2) := (blk_cell BK241.out 1).trans rfl
                      have hfz135_0 := blk_frozen BK241.out 0
                      have hfz135_1 := blk_frozen BK241.out 1
                      have hnb136 := NB237_206.out
                      have hnc136 := NB206_237.out
                      have hnb137 := NB237_207.out
                      have hnc137 := NB207_237.out
                      have hnb138 := NB237_208.out
                      have hnc138 := NB208_237.out
                      have hnb139 := NB237_222.out
                      have hnc139 := NB222_237.out
                      have hnb140 := NB237_223.out
                      have hnc140 := NB223_237.out
                      have hcz141_0 : wr.cell? ⟨gb237, 0, none⟩ = some (.int .i64 t233) := (blk_cell BK237.out 0).trans rfl
                      have hcz141_1 : wr.cell? ⟨gb237, 1, none⟩ = some (.string t234) := (blk_cell BK237.out 1).trans rfl
                      have hcz141_2 : wr.cell? ⟨gb237, 2, none⟩ = some (.int .i64 t235) := (blk_cell BK237.out 2).trans rfl
                      have hcz141_3 : wr.cell? ⟨gb237, 3, none⟩ = some (.string t236) := (blk_cell BK237.out 3).trans rfl
                      have hfz141_0 := blk_frozen BK237.out 0
                      have hfz141_1 := blk_frozen BK237.out 1
                      have hfz141_2 := blk_frozen BK237.out 2
                      have hfz141_3 := blk_frozen BK237.out 3
                      go_wp2
                      go_meet
                      case rel => exact ⟨_, (x242000_2), (x242001_2), H', ⟨by have := HJ9.out; have := HK2.out; first | omega | exact Nat.le_refl _⟩, ⟨by (with_reducible repeat (first | refine blk_drewN ?_ _ | refine blk_drew ?_ | refine blk_alloc ?_ _)); refine blk_far ?_ NB206_237.out _; (with_reducible repeat (first | refine blk_drewN ?_ _ | refine blk_drew ?_ | refine blk_alloc ?_ _)); refine blk_far ?_ NB206_237.out _; (with_reducible repeat (first | refine blk_drewN ?_ _ | refine blk_drew ?_ | refine blk_alloc ?_ _)); exact BK206.out⟩, ⟨by (with_reducible repeat (first | refine blk_drewN ?_ _ | refine blk_drew ?_ | refine blk_alloc ?_ _)); refine blk_far ?_ NB207_237.out _; (with_reducible repeat (first | refine blk_drewN ?_ _ | refine blk_drew ?_ | refine blk_alloc ?_ _)); refine blk_far ?_ NB207_237.out _; (with_reducible repeat (first | refine blk_drewN ?_ _ | refine blk_drew ?_ | refine blk_alloc ?_ _)); exact BK207.out⟩, ⟨by (with_reducible repeat (first | refine blk_drewN ?_ _ | refine blk_drew ?_ | refine blk_alloc ?_ _)); refine blk_far ?_ NB208_237.out _; (with_reducible repeat (first | refine blk_drewN ?_ _ | refine blk_drew ?_ | refine blk_alloc ?_ _)); refine blk_far ?_ NB208_237.out _; (with_reducible repeat (first | refine blk_drewN ?_ _ | refine blk_drew ?_ | refine blk_alloc ?_ _)); exact BK208.out⟩, ⟨by (with_reducible repeat (first | refine blk_drewN ?_ _ | refine blk_drew ?_ | refine blk_alloc ?_ _)); refine blk_far ?_ NB222_237.out _; (with_reducible repeat (first | refine blk_drewN ?_ _ | refine blk_drew ?_ | refine blk_alloc ?_ _)); refine blk_far ?_ NB222_237.out _; (with_reducible repeat (first | refine blk_drewN ?_ _ | refine blk_drew ?_ | refine blk_alloc ?_ _)); exact BK222.out⟩, ⟨by (with_reducible repeat (first | refine blk_drewN ?_ _ | refine blk_drew ?_ | refine blk_alloc ?_ _)); refine blk_far ?_ NB223_237.out _; (with_reducible repeat (first | refine blk_drewN ?_ _ | refine blk_drew ?_ | refine blk_alloc ?_ _)); refine blk_far ?_ NB223_237.out _; (with_reducible repeat (first | refine blk_drewN ?_ _ | refine blk_drew ?_ | refine blk_alloc ?_ _)); exact BK223.out⟩, ⟨by (with_reducible repeat (first | refine blk_drewN ?_ _ | refine blk_drew ?_ | refine blk_alloc ?_ _)); refine blk_put (cs := #[.int .i64 x242000_2, .string t234, .int .i64 t235, .string t236]) ?_ 1 _ rfl; (with_reducible repeat (first | refine blk_drewN ?_ _ | refine blk_drew ?_ | refine blk_alloc ?_ _)); refine blk_put (cs := #[.int .i64 t233, .string t234, .int .i64 t235, .string t236]) ?_ 0 _ rfl; (with_reducible repeat (first | refine blk_drewN ?_ _ | refine blk_drew ?_ | refine blk_alloc ?_ _)); exact BK237.out⟩, ⟨pkL HB⟩⟩
            case rest =>
              clear HC77
              try clear c2
              try clear c5
              try clear c7
              try clear c39
              try clear c58
              try clear c97
              try clear c97b0
              try clear c97b1
              try clear c108
              try clear c108b0
              try clear c109
              try clear c109b0
              try clear c110
              try clear c110b0
              try clear c113
              try clear c113b0
              try clear hcz107_0
              try clear hcz107_1
              try clear hcz125_0
              try clear hcz125_1
              try clear hcz135_0
              try clear hcz135_1
              try clear hcz141_0
              try clear hcz141_1
              try clear hcz141_2
              try clear hcz141_3
              try clear hcz44_0
              try clear hcz44_1
              try clear hcz44_2
              try clear hcz44_3
              try clear hcz51_0
              try clear hcz51_1
              try clear hcz51_2
              try clear hcz51_3
              try clear hcz56_0
              try clear hcz56_1
              try clear hcz56_2
              try clear hcz56_3
              try clear hcz65_0
              try clear hcz65_1
              try clear hcz65_2
              try clear hcz65_3
              try clear hcz69_0
              try clear hcz69_1
              try clear hcz69_2
              try clear hcz69_3
              try clear hcz74_0
              try clear hcz74_1
              try clear hcz74_2
              try clear hcz82_0
              try clear hcz82_1
              try clear hcz82_2
              try clear hcz82_3
              try clear hcz86_0
              try clear hcz86_1
              try clear hcz86_2
              try clear hcz86_3
              try clear hcz94_0
              try clear hcz94_1
              try clear hcz94_2
              try clear hcz94_3
              try clear hcz95_0
              try clear hcz95_1
              try clear hcz95_2
              try clear hcz95_3
              try clear hfz107_0
              try clear hfz107_1
              try clear hfz125_0
              try clear hfz125_1
              try clear hfz135_0
              try clear hfz135_1
              try clear hfz141_0
              try clear hfz141_1
              try clear hfz141_2
              try clear hfz141_3
              try clear hfz44_0
              try clear hfz44_1
              try clear hfz44_2
              try clear hfz44_3
              try clear hfz51_0
              try clear hfz51_1
              try clear hfz51_2
              try clear hfz51_3
              try clear hfz56_0
              try clear hfz56_1
              try clear hfz56_2
              try clear hfz56_3
              try clear hfz65_0
              try clear hfz65_1
              try clear hfz65_2
              try clear hfz65_3
              try clear hfz69_0
              try clear hfz69_1
              try clear hfz69_2
              try clear hfz69_3
              try clear hfz74_0
              try clear hfz74_1
              try clear hfz74_2
              try clear hfz82_0
              try clear hfz82_1
              try clear hfz82_2
              try clear hfz82_3
              try clear hfz86_0
              try clear hfz86_1
              try clear hfz86_2
              try clear hfz86_3
              try clear hfz94_0
              try clear hfz94_1
              try clear hfz94_2
              try clear hfz94_3
              try clear hfz95_0
              try clear hfz95_1
              try clear hfz95_2
              try clear hfz95_3
              try clear hx242_0
              try clear p242
              try clear q242
              obtain ⟨kq, x238000_76, x238001_76, HA, HJ76, BK206, BK207, BK208, BK222, BK223, BK237, HB⟩ := hcut
              cases kq with
              | zero => exact absurd HA.out (by simp [interval_Widen.j2])
              | succ kj76 =>
                have H := HA.out
                clear HA
                simp only [interval_Widen.j2] at H
                obtain ⟨t248, A142, H⟩ := bi H
                try dsimp only at H
                by_cases c143 : t248 = 0
                · rw [if_pos c143] at H
                  have c143b0 : (t248 == 0) = true := beq_iff_eq.mpr c143
                  have c143b1 : (t248 != 0) = false := bne_eq_false_iff_eq.mpr c143
                  clear c143
                  obtain ⟨⟨t249, t250, t251⟩, A144, H⟩ := bi H
                  try dsimp only at H
                  simp only [Option.some.injEq, Prod.mk.injEq] at H
                  obtain ⟨rfl, rfl, rfl, rfl⟩ := H
                  have hnb145 := NB237_206.out
                  have hnc145 := NB206_237.out
                  have hnb146 := NB237_207.out
                  have hnc146 := NB207_237.out
                  have hnb147 := NB237_208.out
                  have hnc147 := NB208_237.out
                  have hnb148 := NB237_222.out
                  have hnc148 := NB222_237.out
                  have hnb149 := NB237_223.out
                  have hnc149 := NB223_237.out
                  have hcz150_0 : wc.cell? ⟨gb237, 0, none⟩ = some (.int .i64 x238000_76) := (blk_cell BK237.out 0).trans rfl
                  have hcz150_1 : wc.cell? ⟨gb237, 1, none⟩ = some (.string x238001_76) := (blk_cell BK237.out 1).trans rfl
                  have hcz150_2 : wc.cell? ⟨gb237, 2, none⟩ = some (.int .i64 t235) := (blk_cell BK237.out 2).trans rfl
                  have hcz150_3 : wc.cell? ⟨gb237, 3, none⟩ = some (.string t236) := (blk_cell BK237.out 3).trans rfl
                  have hfz150_0 := blk_frozen BK237.out 0
                  have hfz150_1 := blk_frozen BK237.out 1
                  have hfz150_2 := blk_frozen BK237.out 2
                  have hfz150_3 := blk_frozen BK237.out 3
                  have hnb151 := NB222_206.out
                  have hnc151 := NB206_222.out
                  have hnb152 := NB222_207.out
                  have hnc152 := NB207_222.out
                  have hnb153 := NB222_208.out
                  have hnc153 := NB208_222.out
                  have hnb154 := NB222_223.out
                  have hnc154 := NB223_222.out
                  have hcz155_0 : wc.cell? ⟨gb222, 0, none⟩ = some (.int .i64 t214) := (blk_cell BK222.out 0).trans rfl
                  have hcz155_1 : wc.cell? ⟨gb222, 1, none⟩ = some (.string t215) := (blk_cell BK222.out 1).trans rfl
                  have hcz155_2 : wc.cell? ⟨gb222, 2, none⟩ = some (.int .i64 t216) := (blk_cell BK222.out 2).trans rfl
                  have hcz155_3 : wc.cell? ⟨gb222, 3, none⟩ = some (.string t217) := (blk_cell BK222.out 3).trans rfl
                  have hfz155_0 := blk_frozen BK222.out 0
                  have hfz155_1 := blk_frozen BK222.out 1
                  have hfz155_2 := blk_frozen BK222.out 2
                  have hfz155_3 := blk_frozen BK222.out 3
                  go_wp2_with (first | ((with_reducible refine gate_callee (f := 18) rfl ?_); refine gl_ 78 Tryz.func18 #[.agg #[.int .i64 t235, .string t236], .agg #[.int .i64 t216, .string t217]] (h := ?_); (with_reducible refine (interval_compare.calls t235 t236 t216 t217 t248 _ A142.out).mono ?_); rintro e w156 ⟨rfl, hb⟩; refine ⟨_, rfl, ?_⟩; replace BK206 := pkK BK206 hb; replace BK207 := pkK BK207 hb; replace BK208 := pkK BK208 hb; replace BK222 := pkK BK222 hb; replace BK223 := pkK BK223 hb; replace BK237 := pkK BK237 hb; replace HB := pkB HB hb; try clear hb; have hcz157_0 : w156.cell? ⟨gb237, 0, none⟩ = some (.int .i64 x238000_76) := (blk_cell BK237.out 0).trans rfl; have hcz157_1 : w156.cell? ⟨gb237, 1, none⟩ = some (.string x238001_76) := (blk_cell BK237.out 1).trans rfl; have hcz157_2 : w156.cell? ⟨gb237, 2, none⟩ = some (.int .i64 t235) := (blk_cell BK237.out 2).trans rfl; have hcz157_3 : w156.cell? ⟨gb237, 3, none⟩ = some (.string t236) := (blk_cell BK237.out 3).trans rfl; have hfz157_0 := blk_frozen BK237.out 0; have hfz157_1 := blk_frozen BK237.out 1; have hfz157_2 := blk_frozen BK237.out 2; have hfz157_3 := blk_frozen BK237.out 3) | ((with_reducible refine gate_callee (f := 17) rfl ?_); refine gl_ 102 Tryz.func17 #[.agg #[.int .i64 x238000_76, .string x238001_76, .int .i64 t235, .string t236]] (h := ?_); (with_reducible refine (interval_span_interval.calls x238000_76 x238001_76 t235 t236 t249 t250 t251 _ A144.out).mono ?_); rintro e w158 ⟨rfl, hb⟩; refine ⟨_, rfl, ?_⟩; replace BK206 := pkK BK206 hb; replace BK207 := pkK BK207 hb; replace BK208 := pkK BK208 hb; replace BK222 := pkK BK222 hb; replace BK223 := pkK BK223 hb; replace BK237 := pkK BK237 hb; replace HB := pkB HB hb; try clear hb; have hnb159 := NB208_206.out; have hnc159 := NB206_208.out; have hnb160 := NB208_207.out; have hnc160 := NB207_208.out; have hnb161 := NB208_223.out; have hnc161 := NB223_208.out; obtain ⟨⟨hcz162_0, hcz162_1, hcz162_2⟩, hfz162_0, hfz162_1, hfz162_2⟩ := pk3 BK208))
                  refine bodyPost_ret (results_ct rfl _ _ gb208 28 #[.bool t249, .string t250, .string t251] (0, 0) _ rfl (pkS3 BK208) Tryz.underlying28 rfl (by kernel_rfl)) rfl ?_
                  exact pkE HB
                · rw [if_neg c143] at H
                  have c143b0 : (t248 == 0) = false := beq_eq_false_iff_ne.mpr c143
                  have c143b1 : (t248 != 0) = true := bne_iff_ne.mpr c143
                  obtain ⟨⟨t252, t253⟩, A163, H⟩ := bi H
                  try dsimp only at H
                  have H' := Aside0.mk H
                  clear H
                  have hnb164 := NB237_206.out
                  have hnc164 := NB206_237.out
                  have hnb165 := NB237_207.out
                  have hnc165 := NB207_237.out
                  have hnb166 := NB237_208.out
                  have hnc166 := NB208_237.out
                  have hnb167 := NB237_222.out
                  have hnc167 := NB222_237.out
                  have hnb168 := NB237_223.out
                  have hnc168 := NB223_237.out
                  have hcz169_0 : wc.cell? ⟨gb237, 0, none⟩ = some (.int .i64 x238000_76) := (blk_cell BK237.out 0).trans rfl
                  have hcz169_1 : wc.cell? ⟨gb237, 1, none⟩ = some (.string x238001_76) := (blk_cell BK237.out 1).trans rfl
                  have hcz169_2 : wc.cell? ⟨gb237, 2, none⟩ = some (.int .i64 t235) := (blk_cell BK237.out 2).trans rfl
                  have hcz169_3 : wc.cell? ⟨gb237, 3, none⟩ = some (.string t236) := (blk_cell BK237.out 3).trans rfl
                  have hfz169_0 := blk_frozen BK237.out 0
                  have hfz169_1 := blk_frozen BK237.out 1
                  have hfz169_2 := blk_frozen BK237.out 2
                  have hfz169_3 := blk_frozen BK237.out 3
                  have hnb170 := NB222_206.out
                  have hnc170 := NB206_222.out
                  have hnb171 := NB222_207.out
                  have hnc171 := NB207_222.out
                  have hnb172 := NB222_208.out
                  have hnc172 := NB208_222.out
                  have hnb173 := NB222_223.out
                  have hnc173 := NB223_222.out
                  have hcz174_0 : wc.cell? ⟨gb222, 0, none⟩ = some (.int .i64 t214) := (blk_cell BK222.out 0).trans rfl
                  have hcz174_1 : wc.cell? ⟨gb222, 1, none⟩ = some (.string t215) := (blk_cell BK222.out 1).trans rfl
                  have hcz174_2 : wc.cell? ⟨gb222, 2, none⟩ = some (.int .i64 t216) := (blk_cell BK222.out 2).trans rfl
                  have hcz174_3 : wc.cell? ⟨gb222, 3, none⟩ = some (.string t217) := (blk_cell BK222.out 3).trans rfl
                  have hfz174_0 := blk_frozen BK222.out 0
                  have hfz174_1 := blk_frozen BK222.out 1
                  have hfz174_2 := blk_frozen BK222.out 2
                  have hfz174_3 := blk_frozen BK222.out 3
                  go_wp2_with (first | ((with_reducible refine gate_callee (f := 18) rfl ?_); refine gl_ 78 Tryz.func18 #[.agg #[.int .i64 t235, .string t236], .agg #[.int .i64 t216, .string t217]] (h := ?_); (with_reducible refine (interval_compare.calls t235 t236 t216 t217 t248 _ A142.out).mono ?_); rintro e w175 ⟨rfl, hb⟩; refine ⟨_, rfl, ?_⟩; replace BK206 := pkK BK206 hb; replace BK207 := pkK BK207 hb; replace BK208 := pkK BK208 hb; replace BK222 := pkK BK222 hb; replace BK223 := pkK BK223 hb; replace BK237 := pkK BK237 hb; replace HB := pkB HB hb; try clear hb) | ((with_reducible refine gate_callee (f := 19) rfl ?_); refine gl_ 80 Tryz.func19 #[.int .i64 1] (h := ?_); (with_reducible refine (interval_infinite.calls 1 t252 t253 _ A163.out).mono ?_); rintro e w176 ⟨rfl, hb⟩; refine ⟨_, rfl, ?_⟩; replace BK206 := pkK BK206 hb; replace BK207 := pkK BK207 hb; replace BK208 := pkK BK208 hb; replace BK222 := pkK BK222 hb; replace BK223 := pkK BK223 hb; replace BK237 := pkK BK237 hb; replace HB := pkB HB hb; try clear hb) | ((with_reducible refine gate_dst (N := 16) rfl ?_); refine bx_ 16 41 #[.int .i64 0, .string (⟨#[]⟩ : ByteArray)] (h := ?_); intro gb254 hg w177 hbox hb; have BK254 := Aside0.mk (hbox); have GW254 := pkG HB hg; have GE254 := GW254; obtain ⟨NB206_254, NB254_206, hnb178, hnc178⟩ := pkQ BK206 hg; obtain ⟨NB207_254, NB254_207, hnb179, hnc179⟩ := pkQ BK207 hg; obtain ⟨NB208_254, NB254_208, hnb180, hnc180⟩ := pkQ BK208 hg; obtain ⟨NB222_254, NB254_222, hnb181, hnc181⟩ := pkQ BK222 hg; obtain ⟨NB223_254, NB254_223, hnb182, hnc182⟩ := pkQ BK223 hg; obtain ⟨NB237_254, NB254_237, hnb183, hnc183⟩ := pkQ BK237 hg; replace BK206 := pkK BK206 hb; replace BK207 := pkK BK207 hb; replace BK208 := pkK BK208 hb; replace BK222 := pkK BK222 hb; replace BK223 := pkK BK223 hb; replace BK237 := pkK BK237 hb; replace HB := pkB HB hb; clear hb hbox hg; have hcz184_0 : w177.cell? ⟨gb254, 0, none⟩ = some (.int .i64 0) := (blk_cell BK254.out 0).trans rfl; have hcz184_1 : w177.cell? ⟨gb254, 1, none⟩ = some (.string (⟨#[]⟩ : ByteArray)) := (blk_cell BK254.out 1).trans rfl; have hfz184_0 := blk_frozen BK254.out 0; have hfz184_1 := blk_frozen BK254.out 1))
                  go_loopg [17] kj76 (fun kq v17 w' => ∃ (x17_3 : Int) (x255000_3 : Int) (x255001_3 : ByteArray), v17 = .int .i64 x17_3 ∧ Aside0 (interval_Widen.l1 kq l2 x17_3 x238000_76 x238001_76 t235 t236 x255000_3 x255001_3 = some (r1, r2, r3, r4)) ∧ Aside0 (kq ≤ kj76) ∧ Aside0 (w'.heap[gb206]? = some (.cells #[.bool a0_0, .string a0_1, .string a0_2] 28 (0, 0))) ∧ Aside0 (w'.heap[gb207]? = some (.cells #[.bool a1_0, .string a1_1, .string a1_2] 28 (0, 0))) ∧ Aside0 (w'.heap[gb208]? = some (.cells #[.bool false, .string (⟨#[]⟩ : ByteArray), .string (⟨#[]⟩ : ByteArray)] 28 (0, 0))) ∧ Aside0 (w'.heap[gb222]? = some (.cells #[.int .i64 t214, .string t215, .int .i64 t216, .string t217] 43 (0, 0))) ∧ Aside0 (w'.heap[gb223]? = some (.cells #[.int .i64 t218, .string t219, .int .i64 t220, .string t221] 43 (0, 0))) ∧ Aside0 (w'.heap[gb237]? = some (.cells #[.int .i64 x238000_76, .string x238001_76, .int .i64 t235, .string t236] 43 (0, 0))) ∧ Aside0 (w'.heap[gb254]? = some (.cells #[.int .i64 x255000_3, .string x255001_3] 41 (0, 0))) ∧ Aside0 (Below w.heap.size w w'))
                  case atStart => exact ⟨(wrap64 ((l2.length : Int) - 1)), (t252), (t253), (by first | rfl | (simp; done) | (simp [*]; done)), H', ⟨Nat.le_refl _⟩, ⟨by (with_reducible repeat (first | refine blk_drewN ?_ _ | refine blk_drew ?_ | refine blk_alloc ?_ _)); refine blk_far ?_ NB206_254.out _; (with_reducible repeat (first | refine blk_drewN ?_ _ | refine blk_drew ?_ | refine blk_alloc ?_ _)); refine blk_far ?_ NB206_254.out _; (with_reducible repeat (first | refine blk_drewN ?_ _ | refine blk_drew ?_ | refine blk_alloc ?_ _)); exact BK206.out⟩, ⟨by (with_reducible repeat (first | refine blk_drewN ?_ _ | refine blk_drew ?_ | refine blk_alloc ?_ _)); refine blk_far ?_ NB207_254.out _; (with_reducible repeat (first | refine blk_drewN ?_ _ | refine blk_drew ?_ | refine blk_alloc ?_ _)); refine blk_far ?_ NB207_254.out _; (with_reducible repeat (first | refine blk_drewN ?_ _ | refine blk_drew ?_ | refine blk_alloc ?_ _)); exact BK207.out⟩, ⟨by (with_reducible repeat (first | refine blk_drewN ?_ _ | refine blk_drew ?_ | refine blk_alloc ?_ _)); refine blk_far ?_ NB208_254.out _; (with_reducible repeat (first | refine blk_drewN ?_ _ | refine blk_drew ?_ | refine blk_alloc ?_ _)); refine blk_far ?_ NB208_254.out _; (with_reducible repeat (first | refine blk_drewN ?_ _ | refine blk_drew ?_ | refine blk_alloc ?_ _)); exact BK208.out⟩, ⟨by (with_reducible repeat (first | refine blk_drewN ?_ _ | refine blk_drew ?_ | refine blk_alloc ?_ _)); refine blk_far ?_ NB222_254.out _; (with_reducible repeat (first | refine blk_drewN ?_ _ | refine blk_drew ?_ | refine blk_alloc ?_ _)); refine blk_far ?_ NB222_254.out _; (with_reducible repeat (first | refine blk_drewN ?_ _ | refine blk_drew ?_ | refine blk_alloc ?_ _)); exact BK222.out⟩, ⟨by (with_reducible repeat (first | refine blk_drewN ?_ _ | refine blk_drew ?_ | refine blk_alloc ?_ _)); refine blk_far ?_ NB223_254.out _; (with_reducible repeat (first | refine blk_drewN ?_ _ | refine blk_drew ?_ | refine blk_alloc ?_ _)); refine blk_far ?_ NB223_254.out _; (with_reducible repeat (first | refine blk_drewN ?_ _ | refine blk_drew ?_ | refine blk_alloc ?_ _)); exact BK223.out⟩, ⟨by (with_reducible repeat (first | refine blk_drewN ?_ _ | refine blk_drew ?_ | refine blk_alloc ?_ _)); refine blk_far ?_ NB237_254.out _; (with_reducible repeat (first | refine blk_drewN ?_ _ | refine blk_drew ?_ | refine blk_alloc ?_ _)); refine blk_far ?_ NB237_254.out _; (with_reducible repeat (first | refine blk_drewN ?_ _ | refine blk_drew ?_ | refine blk_alloc ?_ _)); exact BK237.out⟩, ⟨by (with_reducible repeat (first | refine blk_drewN ?_ _ | refine blk_drew ?_ | refine blk_alloc ?_ _)); refine blk_put (cs := #[.int .i64 t252, .string (⟨#[]⟩ : ByteArray)]) ?_ 1 _ rfl; (with_reducible repeat (first | refine blk_drewN ?_ _ | refine blk_drew ?_ | refine blk_alloc ?_ _)); refine blk_put (cs := #[.int .i64 0, .string (⟨#[]⟩ : ByteArray)]) ?_ 0 _ rfl; (with_reducible repeat (first | refine blk_drewN ?_ _ | refine blk_drew ?_ | refine blk_alloc ?_ _)); exact BK254.out⟩, ⟨pkL HB⟩⟩
                  case round =>
                    clear H'
                    try clear c2
                    try clear c5
                    try clear c7
                    try clear c39
                    try clear c58
                    try clear c97
                    try clear c97b0
                    try clear c97b1
                    try clear c108
                    try clear c108b0
                    try clear c109
                    try clear c109b0
                    try clear c110
                    try clear c110b0
                    try clear c113
                    try clear c113b0
                    try clear c143
                    try clear c143b0
                    try clear c143b1
                    try clear hcz107_0
                    try clear hcz107_1
                    try clear hcz125_0
                    try clear hcz125_1
                    try clear hcz135_0
                    try clear hcz135_1
                    try clear hcz141_0
                    try clear hcz141_1
                    try clear hcz141_2
                    try clear hcz141_3
                    try clear hcz150_0
                    try clear hcz150_1
                    try clear hcz150_2
                    try clear hcz150_3
                    try clear hcz155_0
                    try clear hcz155_1
                    try clear hcz155_2
                    try clear hcz155_3
                    try clear hcz157_0
                    try clear hcz157_1
                    try clear hcz157_2
                    try clear hcz157_3
                    try clear hcz162_0
                    try clear hcz162_1
                    try clear hcz162_2
                    try clear hcz169_0
                    try clear hcz169_1
                    try clear hcz169_2
                    try clear hcz169_3
                    try clear hcz174_0
                    try clear hcz174_1
                    try clear hcz174_2
                    try clear hcz174_3
                    try clear hcz184_0
                    try clear hcz184_1
                    try clear hcz44_0
                    try clear hcz44_1
                    try clear hcz44_2
                    try clear hcz44_3
                    try clear hcz51_0
                    try clear hcz51_1
                    try clear hcz51_2
                    try clear hcz51_3
                    try clear hcz56_0
                    try clear hcz56_1
                    try clear hcz56_2
                    try clear hcz56_3
                    try clear hcz65_0
                    try clear hcz65_1
                    try clear hcz65_2
                    try clear hcz65_3
                    try clear hcz69_0
                    try clear hcz69_1
                    try clear hcz69_2
                    try clear hcz69_3
                    try clear hcz74_0
                    try clear hcz74_1
                    try clear hcz74_2
                    try clear hcz82_0
                    try clear hcz82_1
                    try clear hcz82_2
                    try clear hcz82_3
                    try clear hcz86_0
                    try clear hcz86_1
                    try clear hcz86_2
                    try clear hcz86_3
                    try clear hcz94_0
                    try clear hcz94_1
                    try clear hcz94_2
                    try clear hcz94_3
                    try clear hcz95_0
                    try clear hcz95_1
                    try clear hcz95_2
                    try clear hcz95_3
                    try clear hfz107_0
                    try clear hfz107_1
                    try clear hfz125_0
                    try clear hfz125_1
                    try clear hfz135_0
                    try clear hfz135_1
                    try clear hfz141_0
                    try clear hfz141_1
                    try clear hfz141_2
                    try clear hfz141_3
                    try clear hfz150_0
                    try clear hfz150_1
                    try clear hfz150_2
                    try clear hfz150_3
                    try clear hfz155_0
                    try clear hfz155_1
                    try clear hfz155_2
                    try clear hfz155_3
                    try clear hfz157_0
                    try clear hfz157_1
                    try clear hfz157_2
                    try clear hfz157_3
                    try clear hfz162_0
                    try clear hfz162_1
                    try clear hfz162_2
                    try clear hfz169_0
                    try clear hfz169_1
                    try clear hfz169_2
                    try clear hfz169_3
                    try clear hfz174_0
                    try clear hfz174_1
                    try clear hfz174_2
                    try clear hfz174_3
                    try clear hfz184_0
                    try clear hfz184_1
                    try clear hfz44_0
                    try clear hfz44_1
                    try clear hfz44_2
                    try clear hfz44_3
                    try clear hfz51_0
                    try clear hfz51_1
                    try clear hfz51_2
                    try clear hfz51_3
                    try clear hfz56_0
                    try clear hfz56_1
                    try clear hfz56_2
                    try clear hfz56_3
                    try clear hfz65_0
                    try clear hfz65_1
                    try clear hfz65_2
                    try clear hfz65_3
                    try clear hfz69_0
                    try clear hfz69_1
                    try clear hfz69_2
                    try clear hfz69_3
                    try clear hfz74_0
                    try clear hfz74_1
                    try clear hfz74_2
                    try clear hfz82_0
                    try clear hfz82_1
                    try clear hfz82_2
                    try clear hfz82_3
                    try clear hfz86_0
                    try clear hfz86_1
                    try clear hfz86_2
                    try clear hfz86_3
                    try clear hfz94_0
                    try clear hfz94_1
                    try clear hfz94_2
                    try clear hfz94_3
                    try clear hfz95_0
                    try clear hfz95_1
                    try clear hfz95_2
                    try clear hfz95_3
                    try clear hx242_0
                    try clear p242
                    try clear q242
                    obtain ⟨x17_3, x255000_3, x255001_3, rfl, HA, HK3, BK206, BK207, BK208, BK222, BK223, BK237, BK254, HB⟩ := hrel
                    cases gk with
                    | zero => exact absurd HA.out (by simp [interval_Widen.l1])
                    | succ k3 =>
                      have H := HA.out
                      clear HA
                      simp only [interval_Widen.l1] at H
                      by_cases c185 : x17_3 ≥ 0
                      · rw [if_pos c185] at H
                        have c185b0 : decide (0 ≤ x17_3) = true := decide_eq_true c185
                        clear c185
                        by_cases c186 : 0 ≤ x17_3
                        · rw [if_pos c186] at H
                          have c186b0 : decide (0 ≤ x17_3) = true := decide_eq_true c186
                          clear c186
                          by_cases c187 : x17_3 < (l2.length : Int)
                          · rw [if_pos c187] at H
                            have c187b0 : decide (x17_3 < (l2.length : Int)) = true := decide_eq_true c187
                            clear c187
                            obtain ⟨⟨t259, t260⟩, A188, H⟩ := bi H
                            try dsimp only at H
                            obtain ⟨t262, A189, H⟩ := bi H
                            try dsimp only at H
                            by_cases c190 : t262 ≥ 0
                            · rw [if_pos c190] at H
                              have c190b0 : decide (0 ≤ t262) = true := decide_eq_true c190
                              clear c190
                              have H' := Aside0.mk H
                              clear H
                              have p258 : 0 ≤ (x17_3 : Int) := of_decide_eq_true (by first | (with_reducible assumption) | assumption)
                              have q258 : x17_3 < (l2.length : Int) := of_decide_eq_true (by first | (with_reducible assumption) | assumption)
                              obtain ⟨ad258, e258, hx258_0⟩ := Kd.at_string HR2.out x17_3 p258 q258
                              cases e258
                              replace hx258_0 := (HB.out.cell (World.block_lt_of_cell? w _ hx258_0)).trans hx258_0
                              replace p258 := eq_true p258
                              replace q258 := eq_true q258
                              go_wp2_with (first | ((with_reducible refine gate_callee (f := 20) rfl ?_); refine gl_ 92 Tryz.func20 #[.string (rdOf ByteArray.empty l2 x17_3)] (h := ?_); (with_reducible refine (interval_finite.calls (rdOf ByteArray.empty l2 x17_3) t259 t260 _ A188.out).mono ?_); rintro e w191 ⟨rfl, hb⟩; refine ⟨_, rfl, ?_⟩; replace BK206 := pkK BK206 hb; replace BK207 := pkK BK207 hb; replace BK208 := pkK BK208 hb; replace BK222 := pkK BK222 hb; replace BK223 := pkK BK223 hb; replace BK237 := pkK BK237 hb; replace BK254 := pkK BK254 hb; replace HB := pkB HB hb; try clear hb) | ((with_reducible refine gate_dst (N := 18) rfl ?_); refine bx_ 18 41 #[.int .i64 0, .string (⟨#[]⟩ : ByteArray)] (h := ?_); intro gb261 hg w192 hbox hb; have BK261 := Aside0.mk (hbox); have GW261 := pkG HB hg; have GE261 := GW261; obtain ⟨NB206_261, NB261_206, hnb193, hnc193⟩ := pkQ BK206 hg; obtain ⟨NB207_261, NB261_207, hnb194, hnc194⟩ := pkQ BK207 hg; obtain ⟨NB208_261, NB261_208, hnb195, hnc195⟩ := pkQ BK208 hg; obtain ⟨NB222_261, NB261_222, hnb196, hnc196⟩ := pkQ BK222 hg; obtain ⟨NB223_261, NB261_223, hnb197, hnc197⟩ := pkQ BK223 hg; obtain ⟨NB237_261, NB261_237, hnb198, hnc198⟩ := pkQ BK237 hg; obtain ⟨NB254_261, NB261_254, hnb199, hnc199⟩ := pkQ BK254 hg; replace BK206 := pkK BK206 hb; replace BK207 := pkK BK207 hb; replace BK208 := pkK BK208 hb; replace BK222 := pkK BK222 hb; replace BK223 := pkK BK223 hb; replace BK237 := pkK BK237 hb; replace BK254 := pkK BK254 hb; replace HB := pkB HB hb; clear hb hbox hg; have hcz200_0 : w192.cell? ⟨gb261, 0, none⟩ = some (.int .i64 0) := (blk_cell BK261.out 0).trans rfl; have hcz200_1 : w192.cell? ⟨gb261, 1, none⟩ = some (.string (⟨#[]⟩ : ByteArray)) := (blk_cell BK261.out 1).trans rfl; have hfz200_0 := blk_frozen BK261.out 0; have hfz200_1 := blk_frozen BK261.out 1; have hnb201 := NB237_206.out; have hnc201 := NB206_237.out; have hnb202 := NB237_207.out; have hnc202 := NB207_237.out; have hnb203 := NB237_208.out; have hnc203 := NB208_237.out; have hnb204 := NB237_222.out; have hnc204 := NB222_237.out; have hnb205 := NB237_223.out; have hnc205 := NB223_237.out; have hnb206 := NB237_254.out; have hnc206 := NB254_237.out; have hcz207_0 : w192.cell? ⟨gb237, 0, none⟩ = some (.int .i64 x238000_76) := (blk_cell BK237.out 0).trans rfl; have hcz207_1 : w192.cell? ⟨gb237, 1, none⟩ = some (.string x238001_76) := (blk_cell BK237.out 1).trans rfl; have hcz207_2 : w192.cell? ⟨gb237, 2, none⟩ = some (.int .i64 t235) := (blk_cell BK237.out 2).trans rfl; have hcz207_3 : w192.cell? ⟨gb237, 3, none⟩ = some (.string t236) := (blk_cell BK237.out 3).trans rfl; have hfz207_0 := blk_frozen BK237.out 0; have hfz207_1 := blk_frozen BK237.out 1; have hfz207_2 := blk_frozen BK237.out 2; have hfz207_3 := blk_frozen BK237.out 3) | ((with_reducible refine gate_callee (f := 18) rfl ?_); refine gl_ 96 Tryz.func18 #[.agg #[.int .i64 t259, .string t260], .agg #[.int .i64 t235, .string t236]] (h := ?_); (with_reducible refine (interval_compare.calls t259 t260 t235 t236 t262 _ A189.out).mono ?_); rintro e w208 ⟨rfl, hb⟩; refine ⟨_, rfl, ?_⟩; replace BK206 := pkF BK206 hb; replace BK207 := pkF BK207 hb; replace BK208 := pkF BK208 hb; replace BK222 := pkF BK222 hb; replace BK223 := pkF BK223 hb; replace BK237 := pkF BK237 hb; replace BK254 := pkF BK254 hb; replace BK261 := Aside0.mk (blk_below (g := gb261) (o := .cells #[.int .i64 t259, .string t260] 41 (0, 0)) (pkS2 BK261) hb); replace HB := pkB HB hb; try clear hb; have hcz209_0 : w208.cell? ⟨gb261, 0, none⟩ = some (.int .i64 t259) := (blk_cell BK261.out 0).trans rfl; have hcz209_1 : w208.cell? ⟨gb261, 1, none⟩ = some (.string t260) := (blk_cell BK261.out 1).trans rfl; have hfz209_0 := blk_frozen BK261.out 0; have hfz209_1 := blk_frozen BK261.out 1; have hnb210 := NB254_206.out; have hnc210 := NB206_254.out; have hnb211 := NB254_207.out; have hnc211 := NB207_254.out; have hnb212 := NB254_208.out; have hnc212 := NB208_254.out; have hnb213 := NB254_222.out; have hnc213 := NB222_254.out; have hnb214 := NB254_223.out; have hnc214 := NB223_254.out; have hcz215_0 : w208.cell? ⟨gb254, 0, none⟩ = some (.int .i64 x255000_3) := (blk_cell BK254.out 0).trans rfl; have hcz215_1 : w208.cell? ⟨gb254, 1, none⟩ = some (.string x255001_3) := (blk_cell BK254.out 1).trans rfl; have hfz215_0 := blk_frozen BK254.out 0; have hfz215_1 := blk_frozen BK254.out 1))
                              go_roundg k3
                              case measure => have := HJ9.out; have := HJ76.out; have := HK3.out; omega
                              case rel => exact ⟨(wrap64 (x17_3 - 1)), (t259), (t260), (by first | rfl | (simp; done) | (simp [*]; done)), H', ⟨by have := HJ9.out; have := HJ76.out; have := HK3.out; omega⟩, ⟨by (with_reducible repeat (first | refine blk_drewN ?_ _ | refine blk_drew ?_ | refine blk_alloc ?_ _)); refine blk_far ?_ NB206_254.out _; (with_reducible repeat (first | refine blk_drewN ?_ _ | refine blk_drew ?_ | refine blk_alloc ?_ _)); refine blk_far ?_ NB206_254.out _; (with_reducible repeat (first | refine blk_drewN ?_ _ | refine blk_drew ?_ | refine blk_alloc ?_ _)); exact BK206.out⟩, ⟨by (with_reducible repeat (first | refine blk_drewN ?_ _ | refine blk_drew ?_ | refine blk_alloc ?_ _)); refine blk_far ?_ NB207_254.out _; (with_reducible repeat (first | refine blk_drewN ?_ _ | refine blk_drew ?_ | refine blk_alloc ?_ _)); refine blk_far ?_ NB207_254.out _; (with_reducible repeat (first | refine blk_drewN ?_ _ | refine blk_drew ?_ | refine blk_alloc ?_ _)); exact BK207.out⟩, ⟨by (with_reducible repeat (first | refine blk_drewN ?_ _ | refine blk_drew ?_ | refine blk_alloc ?_ _)); refine blk_far ?_ NB208_254.out _; (with_reducible repeat (first | refine blk_drewN ?_ _ | refine blk_drew ?_ | refine blk_alloc ?_ _)); refine blk_far ?_ NB208_254.out _; (with_reducible repeat (first | refine blk_drewN ?_ _ | refine blk_drew ?_ | refine blk_alloc ?_ _)); exact BK208.out⟩, ⟨by (with_reducible repeat (first | refine blk_drewN ?_ _ | refine blk_drew ?_ | refine blk_alloc ?_ _)); refine blk_far ?_ NB222_254.out _; (with_reducible repeat (first | refine blk_drewN ?_ _ | refine blk_drew ?_ | refine blk_alloc ?_ _)); refine blk_far ?_ NB222_254.out _; (with_reducible repeat (first | refine blk_drewN ?_ _ | refine blk_drew ?_ | refine blk_alloc ?_ _)); exact BK222.out⟩, ⟨by (with_reducible repeat (first | refine blk_drewN ?_ _ | refine blk_drew ?_ | refine blk_alloc ?_ _)); refine blk_far ?_ NB223_254.out _; (with_reducible repeat (first | refine blk_drewN ?_ _ | refine blk_drew ?_ | refine blk_alloc ?_ _)); refine blk_far ?_ NB223_254.out _; (with_reducible repeat (first | refine blk_drewN ?_ _ | refine blk_drew ?_ | refine blk_alloc ?_ _)); exact BK223.out⟩, ⟨by (with_reducible repeat (first | refine blk_drewN ?_ _ | refine blk_drew ?_ | refine blk_alloc ?_ _)); refine blk_far ?_ NB237_254.out _; (with_reducible repeat (first | refine blk_drewN ?_ _ | refine blk_drew ?_ | refine blk_alloc ?_ _)); refine blk_far ?_ NB237_254.out _; (with_reducible repeat (first | refine blk_drewN ?_ _ | refine blk_drew ?_ | refine blk_alloc ?_ _)); exact BK237.out⟩, ⟨by (with_reducible repeat (first | refine blk_drewN ?_ _ | refine blk_drew ?_ | refine blk_alloc ?_ _)); refine blk_put (cs := #[.int .i64 t259, .string x255001_3]) ?_ 1 _ rfl; (with_reducible repeat (first | refine blk_drewN ?_ _ | refine blk_drew ?_ | refine blk_alloc ?_ _)); refine blk_put (cs := #[.int .i64 x255000_3, .string x255001_3]) ?_ 0 _ rfl; (with_reducible repeat (first | refine blk_drewN ?_ _ | refine blk_drew ?_ | refine blk_alloc ?_ _)); exact BK254.out⟩, ⟨pkL HB⟩⟩
                            · rw [if_neg c190] at H
                              have c190b0 : decide (0 ≤ t262) = false := decide_eq_false c190
                              clear c190
                              have H' := Aside0.mk H
                              clear H
                              have p258 : 0 ≤ (x17_3 : Int) := of_decide_eq_true (by first | (with_reducible assumption) | assumption)
                              have q258 : x17_3 < (l2.length : Int) := of_decide_eq_true (by first | (with_reducible assumption) | assumption)
                              obtain ⟨ad258, e258, hx258_0⟩ := Kd.at_string HR2.out x17_3 p258 q258
                              cases e258
                              replace hx258_0 := (HB.out.cell (World.block_lt_of_cell? w _ hx258_0)).trans hx258_0
                              replace p258 := eq_true p258
                              replace q258 := eq_true q258
                              go_wp2_with (first | ((with_reducible refine gate_callee (f := 20) rfl ?_); refine gl_ 92 Tryz.func20 #[.string (rdOf ByteArray.empty l2 x17_3)] (h := ?_); (with_reducible refine (interval_finite.calls (rdOf ByteArray.empty l2 x17_3) t259 t260 _ A188.out).mono ?_); rintro e w216 ⟨rfl, hb⟩; refine ⟨_, rfl, ?_⟩; replace BK206 := pkK BK206 hb; replace BK207 := pkK BK207 hb; replace BK208 := pkK BK208 hb; replace BK222 := pkK BK222 hb; replace BK223 := pkK BK223 hb; replace BK237 := pkK BK237 hb; replace BK254 := pkK BK254 hb; replace HB := pkB HB hb; try clear hb) | ((with_reducible refine gate_dst (N := 18) rfl ?_); refine bx_ 18 41 #[.int .i64 0, .string (⟨#[]⟩ : ByteArray)] (h := ?_); intro gb261 hg w217 hbox hb; have BK261 := Aside0.mk (hbox); have GW261 := pkG HB hg; have GE261 := GW261; obtain ⟨NB206_261, NB261_206, hnb218, hnc218⟩ := pkQ BK206 hg; obtain ⟨NB207_261, NB261_207, hnb219, hnc219⟩ := pkQ BK207 hg; obtain ⟨NB208_261, NB261_208, hnb220, hnc220⟩ := pkQ BK208 hg; obtain ⟨NB222_261, NB261_222, hnb221, hnc221⟩ := pkQ BK222 hg; obtain ⟨NB223_261, NB261_223, hnb222, hnc222⟩ := pkQ BK223 hg; obtain ⟨NB237_261, NB261_237, hnb223, hnc223⟩ := pkQ BK237 hg; obtain ⟨NB254_261, NB261_254, hnb224, hnc224⟩ := pkQ BK254 hg; replace BK206 := pkK BK206 hb; replace BK207 := pkK BK207 hb; replace BK208 := pkK BK208 hb; replace BK222 := pkK BK222 hb; replace BK223 := pkK BK223 hb; replace BK237 := pkK BK237 hb; replace BK254 := pkK BK254 hb; replace HB := pkB HB hb; clear hb hbox hg; have hcz225_0 : w217.cell? ⟨gb261, 0, none⟩ = some (.int .i64 0) := (blk_cell BK261.out 0).trans rfl; have hcz225_1 : w217.cell? ⟨gb261, 1, none⟩ = some (.string (⟨#[]⟩ : ByteArray)) := (blk_cell BK261.out 1).trans rfl; have hfz225_0 := blk_frozen BK261.out 0; have hfz225_1 := blk_frozen BK261.out 1; have hnb226 := NB237_206.out; have hnc226 := NB206_237.out; have hnb227 := NB237_207.out; have hnc227 := NB207_237.out; have hnb228 := NB237_208.out; have hnc228 := NB208_237.out; have hnb229 := NB237_222.out; have hnc229 := NB222_237.out; have hnb230 := NB237_223.out; have hnc230 := NB223_237.out; have hnb231 := NB237_254.out; have hnc231 := NB254_237.out; have hcz232_0 : w217.cell? ⟨gb237, 0, none⟩ = some (.int .i64 x238000_76) := (blk_cell BK237.out 0).trans rfl; have hcz232_1 : w217.cell? ⟨gb237, 1, none⟩ = some (.string x238001_76) := (blk_cell BK237.out 1).trans rfl; have hcz232_2 : w217.cell? ⟨gb237, 2, none⟩ = some (.int .i64 t235) := (blk_cell BK237.out 2).trans rfl; have hcz232_3 : w217.cell? ⟨gb237, 3, none⟩ = some (.string t236) := (blk_cell BK237.out 3).trans rfl; have hfz232_0 := blk_frozen BK237.out 0; have hfz232_1 := blk_frozen BK237.out 1; have hfz232_2 := blk_frozen BK237.out 2; have hfz232_3 := blk_frozen BK237.out 3) | ((with_reducible refine gate_callee (f := 18) rfl ?_); refine gl_ 96 Tryz.func18 #[.agg #[.int .i64 t259, .string t260], .agg #[.int .i64 t235, .string t236]] (h := ?_); (with_reducible refine (interval_compare.calls t259 t260 t235 t236 t262 _ A189.out).mono ?_); rintro e w233 ⟨rfl, hb⟩; refine ⟨_, rfl, ?_⟩; replace BK206 := pkF BK206 hb; replace BK207 := pkF BK207 hb; replace BK208 := pkF BK208 hb; replace BK222 := pkF BK222 hb; replace BK223 := pkF BK223 hb; replace BK237 := pkF BK237 hb; replace BK254 := pkF BK254 hb; replace BK261 := Aside0.mk (blk_below (g := gb261) (o := .cells #[.int .i64 t259, .string t260] 41 (0, 0)) (pkS2 BK261) hb); replace HB := pkB HB hb; try clear hb))
                              go_roundg k3
                              case measure => have := HJ9.out; have := HJ76.out; have := HK3.out; omega
                              case rel => exact ⟨(wrap64 (x17_3 - 1)), (x255000_3), (x255001_3), (by first | rfl | (simp; done) | (simp [*]; done)), H', ⟨by have := HJ9.out; have := HJ76.out; have := HK3.out; omega⟩, ⟨pkW BK206⟩, ⟨pkW BK207⟩, ⟨pkW BK208⟩, ⟨pkW BK222⟩, ⟨pkW BK223⟩, ⟨pkW BK237⟩, ⟨pkW BK254⟩, ⟨pkL HB⟩⟩
                          · rw [if_neg c187] at H
                            exact absurd H (by simp)
                        · rw [if_neg c186] at H
                          exact absurd H (by simp)
                      · rw [if_neg c185] at H
                        have c185b0 : decide (0 ≤ x17_3) = false := decide_eq_false c185
                        clear c185
                        obtain ⟨⟨t255, t256, t257⟩, A234, H⟩ := bi H
                        try dsimp only at H
                        simp only [Option.some.injEq, Prod.mk.injEq] at H
                        obtain ⟨rfl, rfl, rfl, rfl⟩ := H
                        have hnb235 := NB254_206.out
                        have hnc235 := NB206_254.out
                        have hnb236 := NB254_207.out
                        have hnc236 := NB207_254.out
                        have hnb237 := NB254_208.out
                        have hnc237 := NB208_254.out
                        have hnb238 := NB254_222.out
                        have hnc238 := NB222_254.out
                        have hnb239 := NB254_223.out
                        have hnc239 := NB223_254.out
                        have hnb240 := NB254_237.out
                        have hnc240 := NB237_254.out
                        have hcz241_0 : wr.cell? ⟨gb254, 0, none⟩ = some (.int .i64 x255000_3) := (blk_cell BK254.out 0).trans rfl
                        have hcz241_1 : wr.cell? ⟨gb254, 1, none⟩ = some (.string x255001_3) := (blk_cell BK254.out 1).trans rfl
                        have hfz241_0 := blk_frozen BK254.out 0
                        have hfz241_1 := blk_frozen BK254.out 1
                        have hnb242 := NB237_206.out
                        have hnc242 := NB206_237.out
                        have hnb243 := NB237_207.out
                        have hnc243 := NB207_237.out
                        have hnb244 := NB237_208.out
                        have hnc244 := NB208_237.out
                        have hnb245 := NB237_222.out
                        have hnc245 := NB222_237.out
                        have hnb246 := NB237_223.out
                        have hnc246 := NB223_237.out
                        have hcz247_0 : wr.cell? ⟨gb237, 0, none⟩ = some (.int .i64 x238000_76) := (blk_cell BK237.out 0).trans rfl
                        have hcz247_1 : wr.cell? ⟨gb237, 1, none⟩ = some (.string x238001_76) := (blk_cell BK237.out 1).trans rfl
                        have hcz247_2 : wr.cell? ⟨gb237, 2, none⟩ = some (.int .i64 t235) := (blk_cell BK237.out 2).trans rfl
                        have hcz247_3 : wr.cell? ⟨gb237, 3, none⟩ = some (.string t236) := (blk_cell BK237.out 3).trans rfl
                        have hfz247_0 := blk_frozen BK237.out 0
                        have hfz247_1 := blk_frozen BK237.out 1
                        have hfz247_2 := blk_frozen BK237.out 2
                        have hfz247_3 := blk_frozen BK237.out 3
                        go_wp2_with (first | ((with_reducible refine gate_callee (f := 17) rfl ?_); refine gl_ 102 Tryz.func17 #[.agg #[.int .i64 x238000_76, .string x238001_76, .int .i64 x255000_3, .string x255001_3]] (h := ?_); (with_reducible refine (interval_span_interval.calls x238000_76 x238001_76 x255000_3 x255001_3 t255 t256 t257 _ A234.out).mono ?_); rintro e w248 ⟨rfl, hb⟩; refine ⟨_, rfl, ?_⟩; replace BK206 := pkF BK206 hb; replace BK207 := pkF BK207 hb; replace BK208 := pkF BK208 hb; replace BK222 := pkF BK222 hb; replace BK223 := pkF BK223 hb; replace BK237 := Aside0.mk (blk_below (g := gb237) (o := .cells #[.int .i64 x238000_76, .string x238001_76, .int .i64 x255000_3, .string x255001_3] 43 (0, 0)) (by (with_reducible repeat (first | refine blk_drewN ?_ _ | refine blk_drew ?_ | refine blk_alloc ?_ _)); refine blk_put (cs := #[.int .i64 x238000_76, .string x238001_76, .int .i64 x255000_3, .string t236]) ?_ 3 _ rfl; (with_reducible repeat (first | refine blk_drewN ?_ _ | refine blk_drew ?_ | refine blk_alloc ?_ _)); refine blk_put (cs := #[.int .i64 x238000_76, .string x238001_76, .int .i64 t235, .string t236]) ?_ 2 _ rfl; (with_reducible repeat (first | refine blk_drewN ?_ _ | refine blk_drew ?_ | refine blk_alloc ?_ _)); exact BK237.out) hb); replace BK254 := pkF BK254 hb; replace HB := pkB HB hb; try clear hb; have hnb249 := NB208_206.out; have hnc249 := NB206_208.out; have hnb250 := NB208_207.out; have hnc250 := NB207_208.out; have hnb251 := NB208_222.out; have hnc251 := NB222_208.out; have hnb252 := NB208_223.out; have hnc252 := NB223_208.out; obtain ⟨⟨hcz253_0, hcz253_1, hcz253_2⟩, hfz253_0, hfz253_1, hfz253_2⟩ := pk3 BK208))
                        refine bodyPost_ret (results_ct rfl _ _ gb208 28 #[.bool t255, .string t256, .string t257] (0, 0) _ rfl (pkS3 BK208) Tryz.underlying28 rfl (by kernel_rfl)) rfl ?_
                        exact pkE HB
    · rw [if_neg c7] at H
      have c7b0 : (t213 == 0) = false := beq_eq_false_iff_ne.mpr c7
      have c7b1 : (t213 != 0) = true := bne_iff_ne.mpr c7
      simp only [Option.some.injEq, Prod.mk.injEq] at H
      obtain ⟨rfl, rfl, rfl, rfl⟩ := H
      go_enter Tryz.func7, Tryz.ntmps7
      go_wp2_with (first | ((with_reducible refine gate_dst (N := 3) rfl ?_); refine bx_ 3 28 #[.bool a0_0, .string a0_1, .string a0_2] (h := ?_); intro gb206 hg w254 hbox hb; have BK206 := Aside0.mk (hbox); have GW206 := pkG HB hg; have GE206 := GW206; replace HB := pkB HB hb; clear hb hbox hg) | ((with_reducible refine gate_dst (N := 4) rfl ?_); refine bx_ 4 28 #[.bool a1_0, .string a1_1, .string a1_2] (h := ?_); intro gb207 hg w255 hbox hb; have BK207 := Aside0.mk (hbox); have GW207 := pkG HB hg; have GE207 := GW207; obtain ⟨NB206_207, NB207_206, _, _⟩ := pkQ BK206 hg; replace BK206 := pkK BK206 hb; replace HB := pkB HB hb; clear hb hbox hg) | ((with_reducible refine gate_dst (N := 6) rfl ?_); refine bx_ 6 28 #[.bool false, .string (⟨#[]⟩ : ByteArray), .string (⟨#[]⟩ : ByteArray)] (h := ?_); intro gb208 hg w256 hbox hb; have BK208 := Aside0.mk (hbox); have GW208 := pkG HB hg; have GE208 := GW208; obtain ⟨NB206_208, NB208_206, _, _⟩ := pkQ BK206 hg; obtain ⟨NB207_208, NB208_207, _, _⟩ := pkQ BK207 hg; replace BK206 := pkK BK206 hb; replace BK207 := pkK BK207 hb; replace HB := pkB HB hb; clear hb hbox hg; have hnb257 := NB206_207.out; have hnc257 := NB207_206.out; have hnb258 := NB206_208.out; have hnc258 := NB208_206.out; obtain ⟨⟨hcz259_0, hcz259_1, hcz259_2⟩, hfz259_0, hfz259_1, hfz259_2⟩ := pk3 BK206; have hnb260 := NB207_208.out; have hnc260 := NB208_207.out; obtain ⟨⟨hcz261_0, hcz261_1, hcz261_2⟩, hfz261_0, hfz261_1, hfz261_2⟩ := pk3 BK207) | ((with_reducible refine gate_dst (N := 21) rfl ?_); refine Kd.R_lit k28 _ 28 ?hg (N := 21) ?hd (xs := ([(⟨a0_0, a0_1, a0_2⟩ : S28), (⟨a1_0, a1_1, a1_2⟩ : S28)] : List (S28))) (inner := [.bool a0_0, .string a0_1, .string a0_2, .bool a1_0, .string a1_1, .string a1_2]) (ok := fun _ => True) (okp := fun _ => True) ?hr ?hp (fun _ hk => hk) trivial (Below.refl _ _) (Nat.le_refl _) (by simp) ?_; (case hd => rfl); (case hg => rfl); (case hr => first | (go_simp; done) | (go_simp; rfl)); (case hp => exact (Reps.c3 (show Kd.M k28 _ _ _ (⟨a0_0, a0_1, a0_2⟩ : S28) [.bool a0_0, .string a0_1, .string a0_2] from (k28_mkM _ _ _ (⟨a0_0, a0_1, a0_2⟩ : S28) )) (Reps.c3 (show Kd.M k28 _ _ _ (⟨a1_0, a1_1, a1_2⟩ : S28) [.bool a1_0, .string a1_1, .string a1_2] from (k28_mkM _ _ _ (⟨a1_0, a1_1, a1_2⟩ : S28) )) (Reps.none _ _)))); intro v210 w262 ho263 hb hg_ hnew_; clear hg_ hnew_; (first | rw [← Ny209.out] at ho263 | (simp only [Int.reduceToNat] at ho263; rw [← Ny209.out] at ho263)); have HO211 := Aside0.mk (Kd.R_lower (Kd.R_newB (Kd.R_newB (Kd.R_newB ho263 (g := gb206) (o := .cells #[.bool a0_0, .string a0_1, .string a0_2] 28 (0, 0)) (pkW BK206)) (g := gb207) (o := .cells #[.bool a1_0, .string a1_1, .string a1_2] 28 (0, 0)) (pkW BK207)) (g := gb208) (o := .cells #[.bool false, .string (⟨#[]⟩ : ByteArray), .string (⟨#[]⟩ : ByteArray)] 28 (0, 0)) (pkW BK208)) (below_size (pkL HB))); replace BK206 := pkK BK206 hb; replace BK207 := pkK BK207 hb; replace BK208 := pkK BK208 hb; replace HB := pkB HB hb; clear hb ho263; obtain ⟨Ao264, co264, eo264⟩ := Kd.R_slice HO211.out; subst eo264) | ((with_reducible refine gate_callee (f := 12) rfl ?_); refine gl_ 22 Tryz.func12 #[.slice Ao264 y209.length co264] (h := ?_); (with_reducible refine (interval_checks.calls k _ _ y209 t212 _ ?side1 ?side2 A4.out).mono ?_); (case side1 => repeat (first | exact (Kd.R_reads' HO211.out).2.2 | (with_reducible refine Kd.C_alloc ?_ _) | (with_reducible refine Kd.C_drewN ?_ _) | (with_reducible refine Kd.C_drew ?_))); (case side2 => exact (Kd.R_reads' HO211.out).2.1); rintro e w265 ⟨rfl, hb⟩; refine ⟨_, rfl, ?_⟩; replace HO211 := Aside0.mk (Kd.R_below (by (with_reducible repeat (first | apply Kd.R_alloc | apply Kd.R_drewN | apply Kd.R_drew)); exact HO211.out) hb); replace BK206 := pkK BK206 hb; replace BK207 := pkK BK207 hb; replace BK208 := pkK BK208 hb; replace HB := pkB HB hb; try clear hb) | ((with_reducible refine gate_callee (f := 13) rfl ?_); refine gl_ 28 Tryz.func13 #[.slice A2 l2.length c2] (h := ?_); (with_reducible refine (interval_ascending.calls k _ _ l2 t213 _ ?side1 ?side2 A6.out).mono ?_); (case side1 => repeat (first | exact (Kd.C_below HR2.out HB.out) | (with_reducible refine Kd.C_alloc ?_ _) | (with_reducible refine Kd.C_drewN ?_ _) | (with_reducible refine Kd.C_drew ?_))); (case side2 => exact HC2.out); rintro e w266 ⟨rfl, hb⟩; refine ⟨_, rfl, ?_⟩; replace HO211 := Aside0.mk (Kd.R_below (by (with_reducible repeat (first | apply Kd.R_alloc | apply Kd.R_drewN | apply Kd.R_drew)); exact HO211.out) hb); replace BK206 := pkK BK206 hb; replace BK207 := pkK BK207 hb; replace BK208 := pkK BK208 hb; replace HB := pkB HB hb; try clear hb; obtain ⟨⟨hcz267_0, hcz267_1, hcz267_2⟩, hfz267_0, hfz267_1, hfz267_2⟩ := pk3 BK208))
      refine bodyPost_ret (results_ct rfl _ _ gb208 28 #[.bool false, .string (⟨#[]⟩ : ByteArray), .string (⟨#[]⟩ : ByteArray)] (0, 0) _ rfl (pkS3 BK208) Tryz.underlying28 rfl (by kernel_rfl)) rfl ?_
      exact pkE HB
  · rw [if_neg c5] at H
    have c5b0 : (t212 == 0) = false := beq_eq_false_iff_ne.mpr c5
    have c5b1 : (t212 != 0) = true := bne_iff_ne.mpr c5
    simp only [Option.some.injEq, Prod.mk.injEq] at H
    obtain ⟨rfl, rfl, rfl, rfl⟩ := H
    go_enter Tryz.func7, Tryz.ntmps7
    go_wp2_with (first | ((with_reducible refine gate_dst (N := 3) rfl ?_); refine bx_ 3 28 #[.bool a0_0, .string a0_1, .string a0_2] (h := ?_); intro gb206 hg w268 hbox hb; have BK206 := Aside0.mk (hbox); have GW206 := pkG HB hg; have GE206 := GW206; replace HB := pkB HB hb; clear hb hbox hg) | ((with_reducible refine gate_dst (N := 4) rfl ?_); refine bx_ 4 28 #[.bool a1_0, .string a1_1, .string a1_2] (h := ?_); intro gb207 hg w269 hbox hb; have BK207 := Aside0.mk (hbox); have GW207 := pkG HB hg; have GE207 := GW207; obtain ⟨NB206_207, NB207_206, _, _⟩ := pkQ BK206 hg; replace BK206 := pkK BK206 hb; replace HB := pkB HB hb; clear hb hbox hg) | ((with_reducible refine gate_dst (N := 6) rfl ?_); refine bx_ 6 28 #[.bool false, .string (⟨#[]⟩ : ByteArray), .string (⟨#[]⟩ : ByteArray)] (h := ?_); intro gb208 hg w270 hbox hb; have BK208 := Aside0.mk (hbox); have GW208 := pkG HB hg; have GE208 := GW208; obtain ⟨NB206_208, NB208_206, _, _⟩ := pkQ BK206 hg; obtain ⟨NB207_208, NB208_207, _, _⟩ := pkQ BK207 hg; replace BK206 := pkK BK206 hb; replace BK207 := pkK BK207 hb; replace HB := pkB HB hb; clear hb hbox hg; have hnb271 := NB206_207.out; have hnc271 := NB207_206.out; have hnb272 := NB206_208.out; have hnc272 := NB208_206.out; obtain ⟨⟨hcz273_0, hcz273_1, hcz273_2⟩, hfz273_0, hfz273_1, hfz273_2⟩ := pk3 BK206; have hnb274 := NB207_208.out; have hnc274 := NB208_207.out; obtain ⟨⟨hcz275_0, hcz275_1, hcz275_2⟩, hfz275_0, hfz275_1, hfz275_2⟩ := pk3 BK207) | ((with_reducible refine gate_dst (N := 21) rfl ?_); refine Kd.R_lit k28 _ 28 ?hg (N := 21) ?hd (xs := ([(⟨a0_0, a0_1, a0_2⟩ : S28), (⟨a1_0, a1_1, a1_2⟩ : S28)] : List (S28))) (inner := [.bool a0_0, .string a0_1, .string a0_2, .bool a1_0, .string a1_1, .string a1_2]) (ok := fun _ => True) (okp := fun _ => True) ?hr ?hp (fun _ hk => hk) trivial (Below.refl _ _) (Nat.le_refl _) (by simp) ?_; (case hd => rfl); (case hg => rfl); (case hr => first | (go_simp; done) | (go_simp; rfl)); (case hp => exact (Reps.c3 (show Kd.M k28 _ _ _ (⟨a0_0, a0_1, a0_2⟩ : S28) [.bool a0_0, .string a0_1, .string a0_2] from (k28_mkM _ _ _ (⟨a0_0, a0_1, a0_2⟩ : S28) )) (Reps.c3 (show Kd.M k28 _ _ _ (⟨a1_0, a1_1, a1_2⟩ : S28) [.bool a1_0, .string a1_1, .string a1_2] from (k28_mkM _ _ _ (⟨a1_0, a1_1, a1_2⟩ : S28) )) (Reps.none _ _)))); intro v210 w276 ho277 hb hg_ hnew_; clear hg_ hnew_; (first | rw [← Ny209.out] at ho277 | (simp only [Int.reduceToNat] at ho277; rw [← Ny209.out] at ho277)); have HO211 := Aside0.mk (Kd.R_lower (Kd.R_newB (Kd.R_newB (Kd.R_newB ho277 (g := gb206) (o := .cells #[.bool a0_0, .string a0_1, .string a0_2] 28 (0, 0)) (pkW BK206)) (g := gb207) (o := .cells #[.bool a1_0, .string a1_1, .string a1_2] 28 (0, 0)) (pkW BK207)) (g := gb208) (o := .cells #[.bool false, .string (⟨#[]⟩ : ByteArray), .string (⟨#[]⟩ : ByteArray)] 28 (0, 0)) (pkW BK208)) (below_size (pkL HB))); replace BK206 := pkK BK206 hb; replace BK207 := pkK BK207 hb; replace BK208 := pkK BK208 hb; replace HB := pkB HB hb; clear hb ho277; obtain ⟨Ao278, co278, eo278⟩ := Kd.R_slice HO211.out; subst eo278) | ((with_reducible refine gate_callee (f := 12) rfl ?_); refine gl_ 22 Tryz.func12 #[.slice Ao278 y209.length co278] (h := ?_); (with_reducible refine (interval_checks.calls k _ _ y209 t212 _ ?side1 ?side2 A4.out).mono ?_); (case side1 => repeat (first | exact (Kd.R_reads' HO211.out).2.2 | (with_reducible refine Kd.C_alloc ?_ _) | (with_reducible refine Kd.C_drewN ?_ _) | (with_reducible refine Kd.C_drew ?_))); (case side2 => exact (Kd.R_reads' HO211.out).2.1); rintro e w279 ⟨rfl, hb⟩; refine ⟨_, rfl, ?_⟩; replace HO211 := Aside0.mk (Kd.R_below (by (with_reducible repeat (first | apply Kd.R_alloc | apply Kd.R_drewN | apply Kd.R_drew)); exact HO211.out) hb); replace BK206 := pkK BK206 hb; replace BK207 := pkK BK207 hb; replace BK208 := pkK BK208 hb; replace HB := pkB HB hb; try clear hb; obtain ⟨⟨hcz280_0, hcz280_1, hcz280_2⟩, hfz280_0, hfz280_1, hfz280_2⟩ := pk3 BK208))
    refine bodyPost_ret (results_ct rfl _ _ gb208 28 #[.bool false, .string (⟨#[]⟩ : ByteArray), .string (⟨#[]⟩ : ByteArray)] (0, 0) _ rfl (pkS3 BK208) Tryz.underlying28 rfl (by kernel_rfl)) rfl ?_
    exact pkE HB
end Go.Proofs.YtnagmogjhfdmlaaGreatDoor.PTopChainsIntervals
