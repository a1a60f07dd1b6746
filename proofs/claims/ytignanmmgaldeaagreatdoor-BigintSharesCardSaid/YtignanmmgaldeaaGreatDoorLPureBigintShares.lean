/- BigintShares: the plain law. -/
import Derived.Test.YtignanmmgaldeaaGreatDoorLPBigintSharesx1
import Derived.Test.YtignanmmgaldeaaGreatDoorLOpsAll
import Derived.Test.YtignanmmgaldeaaGreatDoorLPowAll
import Derived.Test.YtignanmmgaldeaaGreatDoorLRefG
import Derived.Test.YtignanmmgaldeaaGreatDoorLAwake01
set_option linter.unusedVariables false
set_option linter.unusedSimpArgs false
namespace Go.Proofs.YtignanmmgaldeaaGreatDoor.Pure
open Go.RowKit Go.Proofs.YtignanmmgaldeaaGreatDoor.RefP Go.Proofs.YtignanmmgaldeaaGreatDoor.PBigintShares Go.Proofs.YtignanmmgaldeaaGreatDoorW.PrintWords Go.Proofs.YtignanmmgaldeaaGreatDoorW.PrintLast
theorem few_step (k : Nat) (l : List ByteArray) (n i : Int) (x : ByteArray) (hi : i < n) (h0 : 0 ≤ i) (hl : i < (l.length : Int)) (hx : rdOf ByteArray.empty l i = x) : surveyorlaw01_few.l0 (k + 1) l n i = if x.size ≤ 250 then surveyorlaw01_few.l0 k l n (wrap64 (i + 1)) else some false := by
  conv => lhs; unfold surveyorlaw01_few.l0
  rw [if_pos hi, if_pos h0, if_pos hl, hx]
  unfold surveyorref01_Few.f
  rw [Option.bind_some]
  by_cases h : x.size ≤ 250
  · rw [if_pos (by simpa using (show (x.size : Int) ≤ 250 by omega)), if_pos h]
  · rw [if_neg (by simp; omega), if_neg h]
theorem few_end (k : Nat) (l : List ByteArray) (n i : Int) (hi : ¬ i < n) : surveyorlaw01_few.l0 (k + 1) l n i = some true := by
  conv => lhs; unfold surveyorlaw01_few.l0
  rw [if_neg hi]
theorem few1 (a : ByteArray) (k : Nat) : surveyorlaw01_few.f (k + 2) [a] = some (decide (a.size ≤ 250)) := by
  unfold surveyorlaw01_few.f
  rw [few_step (k + 1) [a] _ 0 a (by simp) (by omega) (by simp) rfl, show wrap64 ((0 : Int) + 1) = 1 from by decide +kernel]
  by_cases ha : a.size ≤ 250
  · rw [if_pos ha, few_end k _ _ _ (by simp), decide_eq_true ha]
  · rw [if_neg ha, decide_eq_false ha]
theorem few2 (a b : ByteArray) (k : Nat) : surveyorlaw01_few.f (k + 3) [a, b] = some (decide (a.size ≤ 250 ∧ b.size ≤ 250)) := by
  unfold surveyorlaw01_few.f
  rw [few_step (k + 2) [a, b] _ 0 a (by simp) (by omega) (by simp) rfl, show wrap64 ((0 : Int) + 1) = 1 from by decide +kernel, few_step (k + 1) [a, b] _ 1 b (by simp) (by omega) (by simp) rfl, show wrap64 ((1 : Int) + 1) = 2 from by decide +kernel, few_end k _ _ _ (by simp)]
  by_cases ha : a.size ≤ 250
  · by_cases hb : b.size ≤ 250
    · simp [ha, hb]
    · simp [ha, hb]
  · simp [ha]
theorem limited_text {x : Int} {m : Nat} (hx : Bd m x) (hm : 1 ≤ m) (h4 : m ≤ 4096) : surveyorref01_limited.f (text x) = some (text x, 0) := by
  have := digits_le hx hm
  unfold surveyorref01_limited.f
  rw [digits_val hx hm (by omega), Option.bind_some, if_neg (by omega)]
theorem checks_val {a b : ByteArray} (ha : a.size ≤ 250) (hb : b.size ≤ 250) : ref_Checks.f a b = some (chk2I a b) := by
  unfold ref_Checks.f
  rw [if_pos ⟨by omega, by omega⟩]
theorem two_few {a b : ByteArray} (ha : a.size ≤ 250) (hb : b.size ≤ 250) : two63 a b := ⟨by omega, by omega⟩
/-- Two words: right ones are texts of integers. -/
theorem words2 {a b : ByteArray} (ha : a.size ≤ 250) (hb : b.size ≤ 250) (h : chk2I a b = 0) : ∃ x y, a = text x ∧ b = text y ∧ Bd 250 x ∧ Bd 250 y := by
  obtain ⟨h1, h2⟩ := chk2_both h
  obtain ⟨x, rfl, bx⟩ := word_text ha h1
  obtain ⟨y, rfl, by'⟩ := word_text hb h2
  exact ⟨x, y, rfl, rfl, bx, by'⟩
theorem agree_gcd {a b : ByteArray} (ha : a.size ≤ 250) (hb : b.size ≤ 250) : ∃ r, bigint_Gcd.f a b = some r ∧ surveyorref01_Gcd.f a b = some r := by
  unfold bigint_Gcd.f surveyorref01_Gcd.f
  rw [if_pos (two_few ha hb), checks_val ha hb, Option.bind_some]
  by_cases h : chk2I a b = 0
  · obtain ⟨x, y, rfl, rfl, bx, by'⟩ := words2 ha hb h
    rw [if_pos h, if_pos h, ival_text, ival_text, common_val bx by' (by omega) (by omega), Option.bind_some]
    exact ⟨_, rfl, rfl⟩
  · rw [if_neg h, if_neg h]
    exact ⟨_, rfl, rfl⟩
theorem agree_bezout {a b : ByteArray} (ha : a.size ≤ 250) (hb : b.size ≤ 250) : ∃ r, bigint_Bezout.f a b = some r ∧ surveyorref01_Bezout.f a b = some r := by
  unfold bigint_Bezout.f surveyorref01_Bezout.f
  rw [if_pos (two_few ha hb), checks_val ha hb, Option.bind_some]
  by_cases h : chk2I a b = 0
  · obtain ⟨x, y, rfl, rfl, bx, by'⟩ := words2 ha hb h
    rw [if_pos h, if_pos h, ival_text, ival_text, coef_val bx by' (by omega) (by omega), Option.bind_some, common_val bx by' (by omega) (by omega), Option.bind_some]
    exact ⟨_, rfl, rfl⟩
  · rw [if_neg h, if_neg h]
    exact ⟨_, rfl, rfl⟩
theorem bd_abs {m : Nat} {z : Int} (h : Bd m z) : Bd m (z.natAbs : Int) := by unfold Bd at *; rw [Int.natAbs_natCast]; exact h
theorem gcd_bd {x y : Int} {m : Nat} (hx : Bd m x) (h : x ≠ 0) : Bd m (gcdI x y) := hx.of_le (by
  unfold gcdI
  rw [Int.natAbs_natCast]
  exact Nat.le_of_dvd (by omega) (Nat.gcd_dvd_left _ _))
theorem lcm_ref {c d : Int} (hd : d ≠ 0) (hc : c ≠ 0) : ((c * Int.fdiv d (gcdI c d)).natAbs : Int) = lcmI c d := by
  have hg := gcdI_pos (a := c) hd
  obtain ⟨n, hn⟩ := gcdI_right c d
  obtain ⟨t, ht⟩ := gcdI_left c d
  unfold lcmI
  rw [if_neg (by rintro (q | q) <;> contradiction)]
  generalize gcdI c d = g at *
  have e1 : Int.fdiv d g = n := by rw [hn]; exact Int.mul_fdiv_cancel_left _ (by omega)
  have e2 : (c.natAbs : Int) / g = (t.natAbs : Int) := by
    rw [ht, Int.natAbs_mul, Int.natCast_mul, show (g.natAbs : Int) = g by omega, Int.mul_ediv_cancel_left _ (by omega)]
  rw [e1, e2, Int.natAbs_mul, hn, ht, Int.natAbs_mul, Int.natAbs_mul]
  push_cast
  ac_rfl
theorem agree_lcm {a b : ByteArray} (ha : a.size ≤ 250) (hb : b.size ≤ 250) (k : Nat) : ∃ r, bigint_Lcm.f a b = some r ∧ surveyorref01_Lcm.f (k + 1) a b = some r := by
  unfold bigint_Lcm.f surveyorref01_Lcm.f
  rw [if_pos (two_few ha hb), checks_val ha hb, Option.bind_some]
  by_cases h : chk2I a b = 0
  · obtain ⟨x, y, rfl, rfl, bx, by'⟩ := words2 ha hb h
    rw [if_pos h, if_pos h, ival_text, ival_text]
    by_cases hx : x = 0
    · have l0 : lcmI x y = 0 := if_pos (.inl hx)
      rw [if_pos ((text_zero_iff x).2 hx), surveyorref01_Lcm.j0, if_pos rfl, l0, wr_zero.1, wr_zero.2]
      exact ⟨_, rfl, rfl⟩
    · rw [if_neg (fun q => hx ((text_zero_iff x).1 q))]
      by_cases hy : y = 0
      · have l0 : lcmI x y = 0 := if_pos (.inr hy)
        have t0 := (text_zero_iff y).2 hy
        rw [t0, surveyorref01_Lcm.j0, if_pos (by decide), l0, wr_zero.1, wr_zero.2]
        exact ⟨_, rfl, rfl⟩
      · have t0 : ((text y).toList == ([48] : List UInt8)) = false := by
          simp only [beq_eq_false_iff_ne, ne_eq]
          exact fun q => hy ((text_zero_iff y).1 q)
        have bg := gcd_bd (y := y) bx hx
        have g0 := gcdI_pos (a := x) hy
        have bf := by'.fdiv (show gcdI x y ≠ 0 by omega)
        have bp : Bd 500 (x * Int.fdiv y (gcdI x y)) := (bx.mul bf).mono (by omega)
        have el := lcm_ref hy hx
        have bl : Bd 500 (lcmI x y) := by rw [← el]; exact bd_abs bp
        have wo := wr_ok (m := 500) bl (by omega)
        rw [t0, surveyorref01_Lcm.j0, if_neg (by simp), common_val bx by' (by omega) (by omega), Option.bind_some, floor_val by' bg (by omega) (by omega) (by omega), Option.bind_some, product_val bx bf (by omega) (by omega), Option.bind_some, magnitude_val (m := 500) bp (by omega) (by omega), Option.bind_some, el, limited_text (m := 500) bl (by omega) (by omega), Option.bind_some, wo.1, wo.2]
        exact ⟨_, rfl, rfl⟩
  · rw [if_neg h, if_neg h]
    exact ⟨_, rfl, rfl⟩
theorem BigintShares : surveyorlaw01_BigintShares.Pure := by
  intro a b h0 h1
  refine ⟨3, ?_⟩
  unfold surveyorlaw01_BigintShares.f
  rw [few2 a b 0, Option.bind_some]
  by_cases hg : a.size ≤ 250 ∧ b.size ≤ 250
  · obtain ⟨r1, e1, f1⟩ := agree_gcd hg.1 hg.2
    obtain ⟨r2, e2, f2⟩ := agree_lcm hg.1 hg.2 2
    obtain ⟨r3, e3, f3⟩ := agree_bezout hg.1 hg.2
    rw [if_pos (decide_eq_true hg), e1, f1, e2, f2, e3, f3, awake_val]
    simp only [Option.bind_some, if_true, beq_self_eq_true]
  · rw [if_neg (by simpa using hg), awake_val]
    rfl
end Go.Proofs.YtignanmmgaldeaaGreatDoor.Pure
