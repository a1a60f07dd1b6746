/- Proved: SignRefines answers true at every operation and every two sets. No condition. -/
import Derived.Test.YtlefniheafefgaaPSignRefinesx2
set_option linter.unusedVariables false
set_option linter.unusedSimpArgs false
namespace Go.Proofs.Ytlefniheafefgaa.Pure
open Go.RowKit Go.Proofs.Ytlefniheafefgaa.PSignRefines Go.Proofs.YtlefniheafefgaaW.PrintWords Go.Proofs.YtlefniheafefgaaW.PrintLast

set_option maxRecDepth 100000 in
theorem awake_true : surveyorlaw19_awake.f 130 = some true := by decide +kernel

theorem ref_check (s : Int) : surveyorref19_Check.f s = some (chk s) := by
  unfold surveyorref19_Check.f chk
  by_cases h : s < 0
  · rw [if_pos h, if_neg (by omega)]
  · rw [if_neg h]
    by_cases h7 : s > 7
    · rw [if_pos h7, if_neg (by omega)]
    · rw [if_neg h7, if_pos (by omega)]
theorem ref_both (s t : Int) : surveyorref19_both.f s t = some (chk2 s t) := by
  unfold surveyorref19_both.f chk2
  rw [ref_check, Option.bind_some]
  by_cases h : chk s = 0
  · rw [if_pos h, if_pos h, ref_check, Option.bind_some]
  · rw [if_neg h, if_neg h]

set_option maxRecDepth 100000 in
theorem inside : ∀ (o : Fin 4) (s t : Fin 8), (sign_Refine.f ((o.val : Int) + 2) s.val t.val).bind (fun x => (surveyorref19_Refine.f 130 ((o.val : Int) + 2) s.val t.val).bind fun y => some (decide (x = y))) = some true := by decide +kernel

theorem chk_zero {s : Int} (h : chk s = 0) : 0 ≤ s ∧ s ≤ 7 := by
  unfold chk at h
  split at h
  · assumption
  · omega

theorem same (a0 a1 a2 : Int) : ∃ x, sign_Refine.f a0 a1 a2 = some x ∧ surveyorref19_Refine.f 130 a0 a1 a2 = some x := by
  by_cases ho : 2 ≤ a0 ∧ a0 ≤ 5
  · by_cases hc : chk2 a1 a2 = 0
    · have h1 : 0 ≤ a1 ∧ a1 ≤ 7 := by
        unfold chk2 at hc
        split at hc
        · exact chk_zero (by assumption)
        · omega
      have h2 : 0 ≤ a2 ∧ a2 ≤ 7 := by
        unfold chk2 at hc
        split at hc
        · exact chk_zero hc
        · omega
      have := inside ⟨(a0 - 2).toNat, by omega⟩ ⟨a1.toNat, by omega⟩ ⟨a2.toNat, by omega⟩
      dsimp only at this
      rw [show (((a0 - 2).toNat : Nat) : Int) + 2 = a0 from by omega, show ((a1.toNat : Nat) : Int) = a1 from by omega, show ((a2.toNat : Nat) : Int) = a2 from by omega] at this
      obtain ⟨x, hx, h⟩ := Option.bind_eq_some_iff.1 this
      obtain ⟨y, hy, h⟩ := Option.bind_eq_some_iff.1 h
      have : x = y := by simpa using h
      subst this
      exact ⟨x, hx, hy⟩
    · refine ⟨_, by unfold sign_Refine.f; rw [if_pos ho, if_neg hc], ?_⟩
      unfold surveyorref19_Refine.f
      rw [if_neg (by omega), decide_eq_false (by omega)]
      simp only [surveyorref19_Refine.j0]
      rw [ref_both, Option.bind_some]
      simp [hc]
  · refine ⟨_, by unfold sign_Refine.f; rw [if_neg ho], ?_⟩
    unfold surveyorref19_Refine.f
    by_cases h : a0 < 2
    · rw [if_pos h]; simp [surveyorref19_Refine.j0]
    · rw [if_neg h, decide_eq_true (by omega)]; simp [surveyorref19_Refine.j0]

theorem SignRefines : surveyorlaw19_SignRefines.Pure := by
  intro a0 a1 a2 _ _ _
  refine ⟨130, ?_⟩
  obtain ⟨x, h1, h2⟩ := same a0 a1 a2
  unfold surveyorlaw19_SignRefines.f
  rw [h1, Option.bind_some, h2, Option.bind_some, awake_true, Option.bind_some]
  simp

end Go.Proofs.Ytlefniheafefgaa.Pure
