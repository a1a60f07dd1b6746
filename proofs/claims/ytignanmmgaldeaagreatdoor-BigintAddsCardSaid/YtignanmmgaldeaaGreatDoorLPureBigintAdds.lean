/- BigintAdds: the plain law. -/
import Derived.Test.YtignanmmgaldeaaGreatDoorLPBigintAddsx1
import Derived.Test.YtignanmmgaldeaaGreatDoorLOpsAll
import Derived.Test.YtignanmmgaldeaaGreatDoorLPowAll
import Derived.Test.YtignanmmgaldeaaGreatDoorLRefG
import Derived.Test.YtignanmmgaldeaaGreatDoorLAwake01
set_option linter.unusedVariables false
set_option linter.unusedSimpArgs false
namespace Go.Proofs.YtignanmmgaldeaaGreatDoor.Pure
open Go.RowKit Go.Proofs.YtignanmmgaldeaaGreatDoor.RefP Go.Proofs.YtignanmmgaldeaaGreatDoor.PBigintAdds Go.Proofs.YtignanmmgaldeaaGreatDoorW.PrintWords Go.Proofs.YtignanmmgaldeaaGreatDoorW.PrintLast
theorem few_step (k : Nat) (l : List ByteArray) (n i : Int) (x : ByteArray) (hi : i < n) (h0 : 0 ≤ i) (hl : i < (l.length : Int)) (hx : rdOf ByteArray.empty l i = x) : surveyorlaw01_few.l0 (k + 1) l n i = if x.size ≤ 250 then surveyorlaw01_few.l0 k l n (wrap64 (i + 1)) else some false := by
  conv => lhs; unfold surveyorlaw01_few.l0
  rw [if_pos hi, if_pos h0, if_pos hl, hx]
  unfold surveyorref01_Few.f
  rw [Option.bind_some]
  by_cases h : x.size ≤ 250
  · rw [if_pos (by simpa using (show (x.size : Int) ≤ 250 by omega)), if_pos h]
  · rw [if_neg (by simp; omega), if_neg h]
theorem few_end (k : Nat) (l : List ByteArray) (n i : Int) (hi : ¬ i < n) : surveyorlaw01_few.l0 (k + 1) l n i = some true := by
  conv => lhs; unfold surveyorlaw01_few.l0
  rw [if_neg hi]
theorem few1 (a : ByteArray) (k : Nat) : surveyorlaw01_few.f (k + 2) [a] = some (decide (a.size ≤ 250)) := by
  unfold surveyorlaw01_few.f
  rw [few_step (k + 1) [a] _ 0 a (by simp) (by omega) (by simp) rfl, show wrap64 ((0 : Int) + 1) = 1 from by decide +kernel]
  by_cases ha : a.size ≤ 250
  · rw [if_pos ha, few_end k _ _ _ (by simp), decide_eq_true ha]
  · rw [if_neg ha, decide_eq_false ha]
theorem few2 (a b : ByteArray) (k : Nat) : surveyorlaw01_few.f (k + 3) [a, b] = some (decide (a.size ≤ 250 ∧ b.size ≤ 250)) := by
  unfold surveyorlaw01_few.f
  rw [few_step (k + 2) [a, b] _ 0 a (by simp) (by omega) (by simp) rfl, show wrap64 ((0 : Int) + 1) = 1 from by decide +kernel, few_step (k + 1) [a, b] _ 1 b (by simp) (by omega) (by simp) rfl, show wrap64 ((1 : Int) + 1) = 2 from by decide +kernel, few_end k _ _ _ (by simp)]
  by_cases ha : a.size ≤ 250
  · by_cases hb : b.size ≤ 250
    · simp [ha, hb]
    · simp [ha, hb]
  · simp [ha]
theorem limited_text {x : Int} {m : Nat} (hx : Bd m x) (hm : 1 ≤ m) (h4 : m ≤ 4096) : surveyorref01_limited.f (text x) = some (text x, 0) := by
  have := digits_le hx hm
  unfold surveyorref01_limited.f
  rw [digits_val hx hm (by omega), Option.bind_some, if_neg (by omega)]
theorem checks_val {a b : ByteArray} (ha : a.size ≤ 250) (hb : b.size ≤ 250) : ref_Checks.f a b = some (chk2I a b) := by
  unfold ref_Checks.f
  rw [if_pos ⟨by omega, by omega⟩]
theorem two_few {a b : ByteArray} (ha : a.size ≤ 250) (hb : b.size ≤ 250) : two63 a b := ⟨by omega, by omega⟩
/-- Two words: right ones are texts of integers. -/
theorem words2 {a b : ByteArray} (ha : a.size ≤ 250) (hb : b.size ≤ 250) (h : chk2I a b = 0) : ∃ x y, a = text x ∧ b = text y ∧ Bd 250 x ∧ Bd 250 y := by
  obtain ⟨h1, h2⟩ := chk2_both h
  obtain ⟨x, rfl, bx⟩ := word_text ha h1
  obtain ⟨y, rfl, by'⟩ := word_text hb h2
  exact ⟨x, y, rfl, rfl, bx, by'⟩
theorem agree_add {a b : ByteArray} (ha : a.size ≤ 250) (hb : b.size ≤ 250) : ∃ r, bigint_Add.f a b = some r ∧ surveyorref01_Add.f a b = some r := by
  unfold bigint_Add.f surveyorref01_Add.f
  rw [if_pos (two_few ha hb), checks_val ha hb, Option.bind_some]
  by_cases h : chk2I a b = 0
  · obtain ⟨x, y, rfl, rfl, bx, by'⟩ := words2 ha hb h
    have wo := wr_ok (m := 251) (bx.add by') (by omega)
    rw [if_pos h, if_pos h, ival_text, ival_text, sum_val bx by' (by omega) (by omega), Option.bind_some, limited_text (m := 251) (bx.add by') (by omega) (by omega), wo.1, wo.2, Option.bind_some]
    exact ⟨_, rfl, rfl⟩
  · rw [if_neg h, if_neg h]
    exact ⟨_, rfl, rfl⟩
theorem agree_sub {a b : ByteArray} (ha : a.size ≤ 250) (hb : b.size ≤ 250) : ∃ r, bigint_Sub.f a b = some r ∧ surveyorref01_Sub.f a b = some r := by
  unfold bigint_Sub.f surveyorref01_Sub.f
  rw [if_pos (two_few ha hb), checks_val ha hb, Option.bind_some]
  by_cases h : chk2I a b = 0
  · obtain ⟨x, y, rfl, rfl, bx, by'⟩ := words2 ha hb h
    have bd := bx.add by'.neg
    have wo := wr_ok (m := 251) bd (by omega)
    rw [if_pos h, if_pos h, ival_text, ival_text, diff_val bx by' (by omega) (by omega), Option.bind_some, Int.sub_eq_add_neg, limited_text (m := 251) bd (by omega) (by omega), wo.1, wo.2, Option.bind_some]
    exact ⟨_, rfl, rfl⟩
  · rw [if_neg h, if_neg h]
    exact ⟨_, rfl, rfl⟩
theorem agree_mul {a b : ByteArray} (ha : a.size ≤ 250) (hb : b.size ≤ 250) : ∃ r, bigint_Mul.f a b = some r ∧ surveyorref01_Mul.f a b = some r := by
  unfold bigint_Mul.f surveyorref01_Mul.f
  rw [if_pos (two_few ha hb), checks_val ha hb, Option.bind_some]
  by_cases h : chk2I a b = 0
  · obtain ⟨x, y, rfl, rfl, bx, by'⟩ := words2 ha hb h
    have bd : Bd 500 (x * y) := (bx.mul by').mono (by omega)
    have wo := wr_ok (m := 500) bd (by omega)
    rw [if_pos h, if_pos h, ival_text, ival_text, product_val bx by' (by omega) (by omega), Option.bind_some, limited_text (m := 500) bd (by omega) (by omega), wo.1, wo.2, Option.bind_some]
    exact ⟨_, rfl, rfl⟩
  · rw [if_neg h, if_neg h]
    exact ⟨_, rfl, rfl⟩
theorem BigintAdds : surveyorlaw01_BigintAdds.Pure := by
  intro a b h0 h1
  refine ⟨3, ?_⟩
  unfold surveyorlaw01_BigintAdds.f
  rw [few2 a b 0, Option.bind_some]
  by_cases hg : a.size ≤ 250 ∧ b.size ≤ 250
  · obtain ⟨r1, e1, f1⟩ := agree_add hg.1 hg.2
    obtain ⟨r2, e2, f2⟩ := agree_sub hg.1 hg.2
    obtain ⟨r3, e3, f3⟩ := agree_mul hg.1 hg.2
    rw [if_pos (decide_eq_true hg), e1, f1, e2, f2, e3, f3, awake_val]
    simp only [Option.bind_some, if_true, beq_self_eq_true]
  · rw [if_neg (by simpa using hg), awake_val]
    rfl
end Go.Proofs.YtignanmmgaldeaaGreatDoor.Pure
