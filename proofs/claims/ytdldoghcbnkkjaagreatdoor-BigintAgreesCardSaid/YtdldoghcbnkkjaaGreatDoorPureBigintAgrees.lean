/- BigintAgrees: the plain law. -/
import Derived.Test.YtdldoghcbnkkjaaGreatDoorPBigintAgreesx2
import Derived.Test.YtdldoghcbnkkjaaGreatDoorOpsAll
import Derived.Test.YtdldoghcbnkkjaaGreatDoorPowAll
import Derived.Test.YtdldoghcbnkkjaaGreatDoorSmall
import Derived.OpenShut
set_option linter.unusedVariables false
set_option linter.unusedSimpArgs false
namespace Go.Proofs.YtdldoghcbnkkjaaGreatDoor.Pure
open Go.RowKit Go.Proofs.YtdldoghcbnkkjaaGreatDoor.PBigintAgrees Go.Proofs.YtdldoghcbnkkjaaGreatDoorW.PrintWords Go.Proofs.YtdldoghcbnkkjaaGreatDoorW.PrintLast

set_option maxRecDepth 100000 in
theorem awake_2 : surveyorlaw01_awake.f 2 = some true := by decide +kernel
theorem awake_at : ∀ k, surveyorlaw01_awake.f (k + 2) = some true
  | 0 => awake_2
  | k + 1 => surveyorlaw01_awake.mono (k + 2) _ (awake_at k)
theorem awake_ge {k : Nat} (h : 2 ≤ k) : surveyorlaw01_awake.f k = some true := by
  obtain ⟨j, rfl⟩ : ∃ j, k = j + 2 := ⟨k - 2, by omega⟩
  exact awake_at j
theorem wrap_id {n : Int} (h1 : -9223372036854775808 ≤ n) (h2 : n ≤ 9223372036854775807) : wrap64 n = n := by unfold wrap64; omega
theorem of_at {n : Int} (h1 : -9223372036854775808 ≤ n) (h2 : n ≤ 9223372036854775807) : bigint_Of.f n = some (text n) := if_pos ⟨h1, h2⟩
theorem Bd.pow {m : Nat} {x : Int} (hx : Bd m x) (hm : 1 ≤ m) : ∀ k : Nat, Bd (m * k + 1) (x ^ k)
  | 0 => by rw [Int.pow_zero]; show (1 : Nat) < 10 ^ (m * 0 + 1); simp
  | k + 1 => by
    have h := (Bd.pow hx hm k).mul hx
    rw [← Int.pow_succ] at h
    refine h.mono ?_
    rw [Nat.mul_succ]
    omega
theorem powL_at {x : Int} {m : Nat} (hx : Bd m x) (hm : 1 ≤ m) (K : Nat) (hK : m * K + 1 ≤ 4096) : ∀ (k j : Nat), j + k ≤ K → powL x k (x ^ j) = some (x ^ (j + k))
  | 0, j, _ => rfl
  | k + 1, j, h => by
    have e : x ^ j * x = x ^ (j + 1) := (Int.pow_succ x j).symm
    have hb : Bd (m * K + 1) (x ^ (j + 1)) := (Bd.pow hx hm (j + 1)).mono (by have := Nat.mul_le_mul_left m (show j + 1 ≤ K by omega); omega)
    have hs := hb.size
    rw [powL, e, if_neg (by omega), powL_at hx hm K hK k (j + 1) (by omega), show j + 1 + k = j + (k + 1) by omega]
/-- A power of a small number is that of the exponent which the code takes. -/
theorem pow_small (x : Int) (n : Nat) : x ^ (powN x n) = x ^ n := by
  unfold powN
  by_cases h : x.natAbs ≤ 1
  · rw [if_pos h]
    by_cases hn : n ≤ 2 + n % 2
    · rw [show (min (n : Int) (2 + (n : Int) % 2)).toNat = n from by omega]
    · obtain ⟨q, hq⟩ : ∃ q, n = (2 + n % 2) + 2 * q := ⟨(n - (2 + n % 2)) / 2, by omega⟩
      rw [show (min (n : Int) (2 + (n : Int) % 2)).toNat = 2 + n % 2 from by omega]
      conv => rhs; rw [hq, Int.pow_add, Int.pow_mul]
      have hx : x = 0 ∨ x = 1 ∨ x = -1 := by omega
      rcases hx with rfl | rfl | rfl
      · rw [Int.zero_pow (by omega)]; simp
      · simp [Int.one_pow]
      · rw [show ((-1 : Int) ^ 2) = 1 from by decide, Int.one_pow, Int.mul_one]
  · rw [if_neg h, Int.toNat_natCast]
theorem pow_at {x : Int} {m : Nat} (hx : Bd m x) (hm : 1 ≤ m) (n : Nat) (hn : n ≤ 1048576) (hK : m * (n + 3) + 1 ≤ 4096) : bigint_Pow.f (text x) (n : Int) = some (text (x ^ n), 0) := by
  have hm4 : m ≤ 4096 := by have := Nat.mul_le_mul_left m (show 1 ≤ n + 3 by omega); omega
  have hs := size_text hx hm
  have hp : powN x n ≤ n + 3 := by unfold powN; split <;> omega
  have hl := powL_at hx hm (n + 3) hK (powN x n) 0 (by omega)
  rw [Int.pow_zero, Nat.zero_add, pow_small] at hl
  unfold bigint_Pow.f
  rw [if_pos (by omega), chk_text hx hm hm4, if_pos rfl, if_neg (by omega), ival_text]
  unfold pwS pwE
  rw [hl]
theorem small_at {x : Int} (h1 : -2147483648 ≤ x) (h2 : x ≤ 2147483647) (hx : Bd 10 x) : bigint_Small.f (text x) = some (if x > 1048576 ∨ x < -1048576 then (0, 2) else (x, 0)) := by
  have hs := size_text hx (by omega)
  unfold bigint_Small.f smV smE
  rw [if_pos (by omega), chk_text hx (by omega) (by omega), if_pos rfl, if_pos rfl, ival_text]
  split <;> rfl
set_option maxHeartbeats 1000000 in
theorem BigintAgrees : surveyorlaw01_BigintAgrees.Pure := by
  intro x y n hx hy hn
  have bx := bounds_i32 hx
  have by' := bounds_i32 hy
  have bn := bounds_u8 hn
  refine ⟨10, ?_⟩
  have dx : Bd 10 x := by unfold Bd; omega
  have dy : Bd 10 y := by unfold Bd; omega
  have hxy : -4611686018427387904 ≤ x * y ∧ x * y ≤ 4611686018427387904 := by
    have h1 : (x * y).natAbs ≤ 2147483648 * 2147483648 := by
      rw [Int.natAbs_mul]
      exact Nat.mul_le_mul (by omega) (by omega)
    omega
  unfold surveyorlaw01_BigintAgrees.f
  rw [wrap_id (n := x) (by omega) (by omega), wrap_id (n := y) (by omega) (by omega), of_at (n := x) (by omega) (by omega), Option.bind_some, of_at (n := y) (by omega) (by omega), Option.bind_some]
  rw [add_at 10 dx dy (by omega) (by omega), Option.bind_some, mul_at 10 dx dy (by omega) (by omega), Option.bind_some, compare_at 10 dx dy (by omega) (by omega), Option.bind_some]
  rw [wrap_id (n := x + y) (by omega) (by omega), wrap_id (n := x * y) (by omega) (by omega), of_at (n := x + y) (by omega) (by omega), Option.bind_some, of_at (n := x * y) (by omega) (by omega), Option.bind_some]
  dsimp only
  have c1 : (decide (sgnI (x - y) < 0) != decide (x < y)) = false := by
    unfold sgnI
    by_cases h : x < y
    · rw [if_pos (by omega), decide_eq_true h]; rfl
    · rw [if_neg (by omega), decide_eq_false h]
      split <;> rfl
  have c2 : (decide (sgnI (x - y) > 0) != decide (x > y)) = false := by
    unfold sgnI
    by_cases h : x < y
    · rw [if_pos (by omega), decide_eq_false (show ¬ x > y by omega)]; rfl
    · rw [if_neg (by omega)]
      by_cases h2 : x = y
      · rw [if_pos (by omega), decide_eq_false (show ¬ x > y by omega)]; rfl
      · rw [if_neg (by omega), decide_eq_true (show x > y by omega)]; rfl
  rw [if_pos (by decide +kernel), if_pos rfl, if_pos rfl, c1, if_neg (by simp), c2]
  obtain ⟨m, hm, hm7⟩ : ∃ m : Nat, wrap64 (Int.tmod n 8) = (m : Int) ∧ m ≤ 7 := by
    have e : Int.tmod n 8 = n % 8 := Int.tmod_eq_emod_of_nonneg (by omega)
    refine ⟨(n % 8).toNat, ?_, by omega⟩
    rw [e, wrap_id (by omega) (by omega)]
    omega
  rw [surveyorlaw01_BigintAgrees.j0, if_neg (by simp), hm, wrap_id (n := (m : Int) + 3) (by omega) (by omega)]
  rw [pow_at dx (by omega) m (by omega) (by omega), Option.bind_some, show (3 : Int) = ((3 : Nat) : Int) from rfl, pow_at dx (by omega) 3 (by omega) (by omega), Option.bind_some, show ((m : Int) + ((3 : Nat) : Int)) = ((m + 3 : Nat) : Int) from by omega, pow_at dx (by omega) (m + 3) (by omega) (by omega), Option.bind_some]
  have p1 : Bd 200 (x ^ m) := (Bd.pow dx (by omega) m).mono (by omega)
  have p2 : Bd 200 (x ^ 3) := (Bd.pow dx (by omega) 3).mono (by omega)
  rw [mul_at 200 p1 p2 (by omega) (by omega), Option.bind_some, ← Int.pow_add]
  dsimp only
  rw [if_pos (by decide +kernel), surveyorlaw01_BigintAgrees.j1, if_neg (by simp), small_at (by omega) (by omega) dx, Option.bind_some]
  by_cases g1 : x > 1048576
  · rw [if_pos g1, if_pos (.inl g1), surveyorlaw01_BigintAgrees.j2, if_pos rfl, if_pos rfl, if_pos rfl, awake_ge (by omega)]
    rfl
  · rw [if_neg g1]
    by_cases g2 : x < -1048576
    · rw [if_pos (.inr g2), decide_eq_true g2, surveyorlaw01_BigintAgrees.j2, if_pos rfl, if_pos rfl, if_pos rfl, awake_ge (by omega)]
      rfl
    · rw [if_neg (by omega), decide_eq_false g2, surveyorlaw01_BigintAgrees.j2, if_neg (by simp), wrap_id (by omega) (by omega), if_pos rfl, if_pos rfl, awake_ge (by omega)]
      rfl
end Go.Proofs.YtdldoghcbnkkjaaGreatDoor.Pure
