/- Proved: SignComputes answers true at every two sets. No condition. -/
import Derived.Test.YtlefniheafefgaaPSignComputesx2
set_option linter.unusedVariables false
set_option linter.unusedSimpArgs false
namespace Go.Proofs.Ytlefniheafefgaa.Pure
open Go.RowKit Go.Proofs.Ytlefniheafefgaa.PSignComputes Go.Proofs.YtlefniheafefgaaW.PrintWords Go.Proofs.YtlefniheafefgaaW.PrintLast

set_option maxRecDepth 100000 in
theorem inside : ∀ (s t : Fin 8), surveyorlaw19_SignComputes.f 200 (s.val : Int) t.val = some true := by decide +kernel
set_option maxRecDepth 100000 in
theorem awake_true : surveyorlaw19_awake.f 200 = some true := by decide +kernel

theorem ref_check (s : Int) : surveyorref19_Check.f s = some (chk s) := by
  unfold surveyorref19_Check.f chk
  by_cases h : s < 0
  · rw [if_pos h, if_neg (by omega)]
  · rw [if_neg h]
    by_cases h7 : s > 7
    · rw [if_pos h7, if_neg (by omega)]
    · rw [if_neg h7, if_pos (by omega)]
theorem ref_both (s t : Int) : surveyorref19_both.f s t = some (chk2 s t) := by
  unfold surveyorref19_both.f chk2
  rw [ref_check, Option.bind_some]
  by_cases h : chk s = 0
  · rw [if_pos h, if_pos h, ref_check, Option.bind_some]
  · rw [if_neg h, if_neg h]
theorem chk_zero {s : Int} (h : chk s = 0) : 0 ≤ s ∧ s ≤ 7 := by
  unfold chk at h
  split at h
  · assumption
  · omega
theorem chk2_zero {s t : Int} (h : chk2 s t = 0) : (0 ≤ s ∧ s ≤ 7) ∧ (0 ≤ t ∧ t ≤ 7) := by
  unfold chk2 at h
  split at h
  · rename_i h0
    exact ⟨chk_zero h0, chk_zero h⟩
  · omega

theorem ref_signs (k : Nat) (op s t : Int) (h : chk2 s t ≠ 0) : surveyorref19_signs.f k op s t = some (0, chk2 s t) := by
  unfold surveyorref19_signs.f
  rw [ref_both, Option.bind_some, if_neg h]

theorem step (a0 a1 : Int) (h : chk2 a0 a1 ≠ 0) (k : Nat) (x : Int) (hx : x = 0 ∨ x = 1 ∨ x = 2 ∨ x = 3 ∨ x = 4) : surveyorlaw19_SignComputes.l0 (k + 1) a0 a1 x = surveyorlaw19_SignComputes.l0 k a0 a1 ((x + 1) % 256) := by
  conv => lhs; unfold surveyorlaw19_SignComputes.l0
  rcases hx with rfl | rfl | rfl | rfl | rfl
  all_goals simp [surveyorlaw19_apply.f, surveyorref19_Add.f, surveyorref19_Sub.f, surveyorref19_Mul.f, surveyorref19_Quo.f, surveyorref19_Rem.f, sign_Add.f, sign_Sub.f, sign_Mul.f, sign_Quo.f, sign_Rem.f, ref_signs _ _ _ _ h, h]
theorem last (a0 a1 : Int) (k : Nat) : surveyorlaw19_SignComputes.l0 (k + 1) a0 a1 5 = (surveyorlaw19_awake.f k).bind fun t => some t := by
  conv => lhs; unfold surveyorlaw19_SignComputes.l0
  simp

theorem SignComputes : surveyorlaw19_SignComputes.Pure := by
  intro a0 a1 _ _
  refine ⟨200, ?_⟩
  by_cases h : chk2 a0 a1 = 0
  · have hz := chk2_zero h
    have := inside ⟨a0.toNat, by omega⟩ ⟨a1.toNat, by omega⟩
    dsimp only at this
    rwa [show ((a0.toNat : Nat) : Int) = a0 from by omega, show ((a1.toNat : Nat) : Int) = a1 from by omega] at this
  · unfold surveyorlaw19_SignComputes.f
    rw [step a0 a1 h 199 0 (by omega), step a0 a1 h 198 _ (by omega), step a0 a1 h 197 _ (by omega), step a0 a1 h 196 _ (by omega), step a0 a1 h 195 _ (by omega)]
    rw [show ((((((0 : Int) + 1) % 256 + 1) % 256 + 1) % 256 + 1) % 256 + 1) % 256 = 5 from by omega, last a0 a1 194]
    rw [show surveyorlaw19_awake.f 194 = some true from by decide +kernel]
    rfl

end Go.Proofs.Ytlefniheafefgaa.Pure
