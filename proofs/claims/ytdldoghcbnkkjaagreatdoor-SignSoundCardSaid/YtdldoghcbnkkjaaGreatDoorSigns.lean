/- The signs of sums, differences, products, quotients and remainders: plain arithmetic. -/
import Derived.Test.YtdldoghcbnkkjaaGreatDoorOpsAll
set_option linter.unusedVariables false
set_option linter.unusedSimpArgs false
namespace Go.Proofs.YtdldoghcbnkkjaaGreatDoor.Sound
open Go.RowKit Go.Shelf

/-- An operation of two integers. -/
def valO (m x y : Int) : Option Int := if m = 0 then some (x + y) else if m = 1 then some (x + -y) else if m = 2 then some (x * y) else if y = 0 then none else if m = 3 then some (Int.fdiv x y) else some (Int.fmod x y)
/-- The signs that an operation of two signs may have. -/
def okS (m a b c : Int) : Bool :=
  if m = 0 then (if a = 0 then c == b else if b = 0 then c == a else a != b || c == a)
  else if m = 1 then (if a = 0 then c == -b else if b = 0 then c == a else a == b || c == a)
  else if m = 2 then c == a * b
  else if b = 0 then true
  else if m = 3 then (if a = 0 then c == 0 else if a = b then c != -1 else c == -1)
  else (c == 0 || (c == b && a != 0))
theorem sgnI_cases (z : Int) : (z < 0 ∧ sgnI z = -1) ∨ (z = 0 ∧ sgnI z = 0) ∨ (0 < z ∧ sgnI z = 1) := by
  unfold sgnI
  split
  · rename_i h; exact .inl ⟨h, rfl⟩
  · split
    · rename_i h; exact .inr (.inl ⟨h, rfl⟩)
    · exact .inr (.inr ⟨by omega, rfl⟩)
theorem fdiv_sign (x y : Int) (hy : y ≠ 0) : (x = 0 → Int.fdiv x y = 0 ∧ Int.fmod x y = 0) ∧ ((x < 0 ∧ y < 0 ∨ 0 < x ∧ 0 < y) → 0 ≤ Int.fdiv x y) ∧ ((x < 0 ∧ 0 < y ∨ 0 < x ∧ y < 0) → Int.fdiv x y < 0) ∧ (0 < y → 0 ≤ Int.fmod x y) ∧ (y < 0 → Int.fmod x y ≤ 0) := by
  have main : ∀ x y : Int, 0 < y → (x = 0 → Int.fdiv x y = 0 ∧ Int.fmod x y = 0) ∧ (0 ≤ x → 0 ≤ Int.fdiv x y) ∧ (x < 0 → Int.fdiv x y < 0) ∧ 0 ≤ Int.fmod x y := by
    intro x y hy
    rw [Int.fdiv_eq_ediv_of_nonneg _ (by omega), Int.fmod_eq_emod_of_nonneg _ (by omega)]
    refine ⟨fun h => by subst h; simp, fun h => Int.ediv_nonneg h (by omega), fun h => Int.ediv_neg_of_neg_of_pos h hy, Int.emod_nonneg _ (by omega)⟩
  rcases Int.lt_or_gt_of_ne hy with h | h
  · have := main (-x) (-y) (by omega)
    rw [Int.neg_fdiv_neg, Int.neg_fmod_neg] at this
    obtain ⟨a, b, c, d⟩ := this
    refine ⟨fun e => ?_, fun e => b (by omega), fun e => c (by omega), fun e => by omega, fun e => by omega⟩
    have := a (by omega)
    omega
  · obtain ⟨a, b, c, d⟩ := main x y h
    exact ⟨a, fun e => b (by omega), fun e => c (by omega), fun _ => d, fun e => by omega⟩
theorem okS_val (m x y z : Int) (hz : valO m x y = some z) : okS m (sgnI x) (sgnI y) (sgnI z) = true := by
  unfold valO at hz
  unfold okS
  have cx := sgnI_cases x
  have cy := sgnI_cases y
  have cz := sgnI_cases z
  split at hz
  · obtain rfl := Option.some.inj hz
    rw [if_pos (by assumption)]
    rcases cx with ⟨a, e⟩ | ⟨a, e⟩ | ⟨a, e⟩ <;> rcases cy with ⟨b, f⟩ | ⟨b, f⟩ | ⟨b, f⟩ <;> rcases cz with ⟨c, g⟩ | ⟨c, g⟩ | ⟨c, g⟩ <;> first | omega | (rw [e, f, g]; decide)
  · rw [if_neg (by assumption)]
    split at hz
    · obtain rfl := Option.some.inj hz
      rw [if_pos (by assumption)]
      rcases cx with ⟨a, e⟩ | ⟨a, e⟩ | ⟨a, e⟩ <;> rcases cy with ⟨b, f⟩ | ⟨b, f⟩ | ⟨b, f⟩ <;> rcases cz with ⟨c, g⟩ | ⟨c, g⟩ | ⟨c, g⟩ <;> first | omega | (rw [e, f, g]; decide)
    · rw [if_neg (by assumption)]
      split at hz
      · obtain rfl := Option.some.inj hz
        rw [if_pos (by assumption)]
        have p1 : x < 0 → y < 0 → 0 < x * y := fun h k => Int.mul_pos_of_neg_of_neg h k
        have p2 : 0 < x → 0 < y → 0 < x * y := fun h k => Int.mul_pos h k
        have p3 : x < 0 → 0 < y → x * y < 0 := fun h k => Int.mul_neg_of_neg_of_pos h k
        have p4 : 0 < x → y < 0 → x * y < 0 := fun h k => Int.mul_neg_of_pos_of_neg h k
        have p5 : x = 0 → x * y = 0 := fun h => by rw [h, Int.zero_mul]
        have p6 : y = 0 → x * y = 0 := fun h => by rw [h, Int.mul_zero]
        generalize x * y = z at *
        rcases cx with ⟨a, e⟩ | ⟨a, e⟩ | ⟨a, e⟩ <;> rcases cy with ⟨b, f⟩ | ⟨b, f⟩ | ⟨b, f⟩ <;> rcases cz with ⟨c, g⟩ | ⟨c, g⟩ | ⟨c, g⟩ <;> first | (exfalso; first | (have := p1 a b; omega) | (have := p2 a b; omega) | (have := p3 a b; omega) | (have := p4 a b; omega) | (have := p5 a; omega) | (have := p6 b; omega)) | (rw [e, f, g]; decide)
      · rw [if_neg (by assumption)]
        split at hz
        · cases hz
        · rename_i hy0
          obtain ⟨d1, d2, d3, d4, d5⟩ := fdiv_sign x y hy0
          split at hz
          · obtain rfl := Option.some.inj hz
            rename_i hm3
            subst hm3
            rcases cx with ⟨a, e⟩ | ⟨a, e⟩ | ⟨a, e⟩ <;> rcases cy with ⟨b, f⟩ | ⟨b, f⟩ | ⟨b, f⟩ <;> rcases cz with ⟨c, g⟩ | ⟨c, g⟩ | ⟨c, g⟩ <;> first | (exfalso; first | omega | (have := (d1 a).1; omega) | (have := d2 (.inl ⟨a, b⟩); omega) | (have := d2 (.inr ⟨a, b⟩); omega) | (have := d3 (.inl ⟨a, b⟩); omega) | (have := d3 (.inr ⟨a, b⟩); omega)) | (rw [e, f, g]; decide)
          · obtain rfl := Option.some.inj hz
            rename_i hm3
            rw [if_neg (show ¬ sgnI y = 0 by omega), if_neg hm3]
            rcases cx with ⟨a, e⟩ | ⟨a, e⟩ | ⟨a, e⟩ <;> rcases cy with ⟨b, f⟩ | ⟨b, f⟩ | ⟨b, f⟩ <;> rcases cz with ⟨c, g⟩ | ⟨c, g⟩ | ⟨c, g⟩ <;> first | (exfalso; first | omega | (have := (d1 a).2; omega) | (have := d4 b; omega) | (have := d5 b; omega)) | (rw [e, f, g]; decide)
end Go.Proofs.YtdldoghcbnkkjaaGreatDoor.Sound
