/- bigint.Abs as a contract; the sizes and signs of quotients and remainders. -/
import Derived.Test.YtignanmmgaldeaaGreatDoorLOpsAll
set_option linter.unusedVariables false
set_option linter.unusedSimpArgs false
namespace Go.Proofs.YtignanmmgaldeaaGreatDoor
open Go.RowKit Go.Shelf Go.Proofs.YtignanmmgaldeaaGreatDoorW.PrintWords
theorem fmod_facts (x y : Int) (hy : y ≠ 0) : (Int.fmod x y).natAbs < y.natAbs ∧ (0 < y → 0 ≤ Int.fmod x y) ∧ (y < 0 → Int.fmod x y ≤ 0) ∧ Int.fmod x y + y * Int.fdiv x y = x := by
  have main : ∀ x y : Int, 0 < y → 0 ≤ Int.fmod x y ∧ Int.fmod x y < y := by
    intro x y hy
    rw [Int.fmod_eq_emod_of_nonneg _ (by omega)]
    exact ⟨Int.emod_nonneg _ (by omega), Int.emod_lt_of_pos _ hy⟩
  have hd := Int.fmod_add_mul_fdiv x y
  rcases Int.lt_or_gt_of_ne hy with h | h
  · have := main (-x) (-y) (by omega)
    rw [Int.neg_fmod_neg] at this
    exact ⟨by omega, fun e => by omega, fun _ => by omega, hd⟩
  · have := main x y h
    exact ⟨by omega, fun _ => this.1, fun e => by omega, hd⟩
theorem Bd.fmod {m : Nat} {x y : Int} (h : Bd m y) (hy : y ≠ 0) : Bd m (Int.fmod x y) := h.of_le (Nat.le_of_lt (fmod_facts x y hy).1)
theorem Bd.fdiv {m : Nat} {x y : Int} (h : Bd m x) (hy : y ≠ 0) : Bd m (Int.fdiv x y) := by
  refine h.of_le ?_
  obtain ⟨h1, _, _, h2⟩ := fmod_facts x y hy
  generalize Int.fdiv x y = q at *
  generalize Int.fmod x y = r at *
  by_cases hle : q.natAbs ≤ x.natAbs
  · exact hle
  · exfalso
    have h3 : (y * q).natAbs ≤ x.natAbs + r.natAbs := by omega
    rw [Int.natAbs_mul] at h3
    have h4 : y.natAbs * (x.natAbs + 1) ≤ y.natAbs * q.natAbs := Nat.mul_le_mul_left _ (by omega)
    rw [Nat.mul_add, Nat.mul_one] at h4
    have h5 : 1 * x.natAbs ≤ y.natAbs * x.natAbs := Nat.mul_le_mul_right _ (by omega)
    omega
end Go.Proofs.YtignanmmgaldeaaGreatDoor
