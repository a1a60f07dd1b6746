/- bigint.Abs as a contract; the sizes and signs of quotients and remainders. -/
import Derived.Test.YtdldoghcbnkkjaaGreatDoorOpsAll
set_option linter.unusedVariables false
set_option linter.unusedSimpArgs false
namespace Go.Proofs.YtdldoghcbnkkjaaGreatDoor
open Go.RowKit Go.Shelf Go.Proofs.YtdldoghcbnkkjaaGreatDoorW.PrintWords

/-- A word without its sign. -/
def absS (a : ByteArray) : ByteArray := ⟨(Lib.trimPrefix a.data.toList [45]).toArray⟩
set_option maxRecDepth 100000 in
set_option maxHeartbeats 2000000 in
theorem abs_walk (a : ByteArray) (w : World) (ha : a.size ≤ 9223372036854775807) :
    Calls Tryz.prog 44 #[.string a] w fun e w' => e = .returned (.tuple #[.string (if chkI a = 0 then absS a else ⟨#[]⟩), .int .i64 (chkI a)]) ∧ Below w.heap.size w w' := by
  have HA := Lib.hid (fun w => check_walk a w ha)
  have ht := fun w => trimPrefix_ok a ⟨#[45]⟩ w
  rw [show (ByteArray.mk #[45]).data.toList = [45] from rfl] at ht
  have HT : Hid (∀ w : World, Calls Tryz.prog 95 #[.string a, .string ⟨#[45]⟩] w fun e w' => e = .returned (.string (absS a)) ∧ w' = w) := Lib.hid ht
  clear ht ha
  by_cases h : chkI a = 0
  · rw [if_pos h, h]
    rw [h] at HA
    go_enter Tryz.func44, Tryz.ntmps44
    go_wp2_with (first
      | (go_at_call 53; refine (HA.out _).mono ?_; rintro e w1 ⟨rfl, hB1⟩; have HB1 := Lib.hid hB1; clear hB1 HA)
      | (go_at_call 95; refine (HT.out _).mono ?_; rintro e w2 ⟨rfl, rfl⟩))
    go_ret2
    exact ⟨rfl, HB1.out⟩
  · rw [if_neg h]
    generalize chkI a = c at h HA ⊢
    have e1 : (c != 0) = true := by simpa using h
    go_enter Tryz.func44, Tryz.ntmps44
    go_wp2_with (go_at_call 53; refine (HA.out _).mono ?_; rintro e w1 ⟨rfl, hB1⟩; have HB1 := Lib.hid hB1; clear hB1 HA)
    go_ret2
    exact ⟨rfl, HB1.out⟩
def bigint_Abs.f (a0 : ByteArray) : Option (ByteArray × Int) := if a0.size ≤ 9223372036854775807 then some (if chkI a0 = 0 then absS a0 else ⟨#[]⟩, chkI a0) else none
theorem bigint_Abs.calls (a0 : ByteArray) (r0 : ByteArray) (r1 : Int) (w : World) (h : bigint_Abs.f a0 = some (r0, r1)) :
    Calls Tryz.prog 44 #[.string a0] w fun e w' => e = .returned (.tuple #[.string r0, .int .i64 r1]) ∧ Below w.heap.size w w' := by
  unfold bigint_Abs.f at h
  split at h
  · rename_i h1
    obtain ⟨rfl, rfl⟩ := Prod.mk.inj (Option.some.inj h)
    exact abs_walk a0 w h1
  · cases h
theorem abs_text (x : Int) : absS (text x) = text (x.natAbs : Int) := by
  unfold absS
  rw [text_list]
  have e2 : text (x.natAbs : Int) = ⟨(Lib.decDigits x.natAbs).toArray⟩ := by
    unfold text Lib.itoa
    rw [if_neg (by omega), show ((x.natAbs : Nat) : Int).toNat = x.natAbs from by omega]
  rw [e2]
  unfold Lib.itoa
  split
  · rename_i h
    have e1 : Lib.hasPrefix (45 :: Lib.decDigits x.natAbs) [45] = true := by simp [Lib.hasPrefix]
    simp [Lib.trimPrefix, e1]
  · rename_i h
    have hm := decDigits_no_minus x.toNat
    rw [show x.natAbs = x.toNat by omega]
    generalize Lib.decDigits x.toNat = l at hm
    have e1 : Lib.hasPrefix l [45] = false := by
      cases l with
      | nil => rfl
      | cons c r =>
        by_cases hc : c = 45
        · subst hc; exact absurd rfl (hm r)
        · simp [Lib.hasPrefix, List.isPrefixOf, Ne.symm hc]
    simp [Lib.trimPrefix, e1]
theorem abs_at {x : Int} (m : Nat) (hx : Bd m x) (hm : 1 ≤ m) (h4 : m ≤ 4096) : bigint_Abs.f (text x) = some (text (x.natAbs : Int), 0) := by
  unfold bigint_Abs.f
  have hs := size_text hx hm
  rw [if_pos (by omega), chk_text hx hm h4, if_pos rfl, abs_text]
theorem fmod_facts (x y : Int) (hy : y ≠ 0) : (Int.fmod x y).natAbs < y.natAbs ∧ (0 < y → 0 ≤ Int.fmod x y) ∧ (y < 0 → Int.fmod x y ≤ 0) ∧ Int.fmod x y + y * Int.fdiv x y = x := by
  have main : ∀ x y : Int, 0 < y → 0 ≤ Int.fmod x y ∧ Int.fmod x y < y := by
    intro x y hy
    rw [Int.fmod_eq_emod_of_nonneg _ (by omega)]
    exact ⟨Int.emod_nonneg _ (by omega), Int.emod_lt_of_pos _ hy⟩
  have hd := Int.fmod_add_mul_fdiv x y
  rcases Int.lt_or_gt_of_ne hy with h | h
  · have := main (-x) (-y) (by omega)
    rw [Int.neg_fmod_neg] at this
    exact ⟨by omega, fun e => by omega, fun _ => by omega, hd⟩
  · have := main x y h
    exact ⟨by omega, fun _ => this.1, fun e => by omega, hd⟩
theorem Bd.fmod {m : Nat} {x y : Int} (h : Bd m y) (hy : y ≠ 0) : Bd m (Int.fmod x y) := h.of_le (Nat.le_of_lt (fmod_facts x y hy).1)
theorem Bd.fdiv {m : Nat} {x y : Int} (h : Bd m x) (hy : y ≠ 0) : Bd m (Int.fdiv x y) := by
  refine h.of_le ?_
  obtain ⟨h1, _, _, h2⟩ := fmod_facts x y hy
  generalize Int.fdiv x y = q at *
  generalize Int.fmod x y = r at *
  by_cases hle : q.natAbs ≤ x.natAbs
  · exact hle
  · exfalso
    have h3 : (y * q).natAbs ≤ x.natAbs + r.natAbs := by omega
    rw [Int.natAbs_mul] at h3
    have h4 : y.natAbs * (x.natAbs + 1) ≤ y.natAbs * q.natAbs := Nat.mul_le_mul_left _ (by omega)
    rw [Nat.mul_add, Nat.mul_one] at h4
    have h5 : 1 * x.natAbs ≤ y.natAbs * x.natAbs := Nat.mul_le_mul_right _ (by omega)
    omega
end Go.Proofs.YtdldoghcbnkkjaaGreatDoor
