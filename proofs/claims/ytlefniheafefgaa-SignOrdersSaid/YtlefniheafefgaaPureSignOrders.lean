/- Proved: SignOrders answers true at every two sets. No condition. -/
import Derived.Test.YtlefniheafefgaaPSignOrdersx1
set_option linter.unusedVariables false
set_option linter.unusedSimpArgs false
namespace Go.Proofs.Ytlefniheafefgaa.Pure
open Go.RowKit Go.Proofs.Ytlefniheafefgaa.PSignOrders Go.Proofs.YtlefniheafefgaaW.PrintWords Go.Proofs.YtlefniheafefgaaW.PrintLast

set_option maxRecDepth 100000 in
theorem awake_true : surveyorlaw19_awake.f 130 = some true := by decide +kernel

theorem ref_check (s : Int) : surveyorref19_Check.f s = some (chk s) := by
  unfold surveyorref19_Check.f chk
  by_cases h : s < 0
  · rw [if_pos h, if_neg (by omega)]
  · rw [if_neg h]
    by_cases h7 : s > 7
    · rw [if_pos h7, if_neg (by omega)]
    · rw [if_neg h7, if_pos (by omega)]
theorem ref_both (s t : Int) : surveyorref19_both.f s t = some (chk2 s t) := by
  unfold surveyorref19_both.f chk2
  rw [ref_check, Option.bind_some]
  by_cases h : chk s = 0
  · rw [if_pos h, if_pos h, ref_check, Option.bind_some]
  · rw [if_neg h, if_neg h]
theorem chk_zero {s : Int} (h : chk s = 0) : 0 ≤ s ∧ s ≤ 7 := by
  unfold chk at h
  split at h
  · assumption
  · omega
theorem chk2_zero {s t : Int} (h : chk2 s t = 0) : (0 ≤ s ∧ s ≤ 7) ∧ (0 ≤ t ∧ t ≤ 7) := by
  unfold chk2 at h
  split at h
  · rename_i h0
    exact ⟨chk_zero h0, chk_zero h⟩
  · omega

set_option maxRecDepth 100000 in
theorem leq_in : ∀ (s t : Fin 8), (Go.bits .andNot .i64 (s.val : Int) t.val == 0) = (Go.bits .and .i64 (s.val : Int) t.val == (s.val : Int)) := by decide +kernel
theorem leq_in' {s t : Int} (h : chk2 s t = 0) : (Go.bits .andNot .i64 s t == 0) = (Go.bits .and .i64 s t == s) := by
  have hz := chk2_zero h
  have := leq_in ⟨s.toNat, by omega⟩ ⟨t.toNat, by omega⟩
  dsimp only at this
  rwa [show ((s.toNat : Nat) : Int) = s from by omega, show ((t.toNat : Nat) : Int) = t from by omega] at this

theorem same_leq (s t : Int) : surveyorref19_Leq.f s t = sign_Leq.f s t := by
  unfold surveyorref19_Leq.f sign_Leq.f
  rw [ref_both, Option.bind_some]
  by_cases h : chk2 s t = 0
  · rw [if_pos h, if_pos h, leq_in' h]
  · rw [if_neg h, if_neg h]
theorem same_join (s t : Int) : surveyorref19_Join.f s t = sign_Join.f s t := by
  unfold surveyorref19_Join.f sign_Join.f
  rw [ref_both, Option.bind_some]
theorem same_meet (s t : Int) : surveyorref19_Meet.f s t = sign_Meet.f s t := by
  unfold surveyorref19_Meet.f sign_Meet.f
  rw [ref_both, Option.bind_some]
theorem leq_some (s t : Int) : ∃ x, sign_Leq.f s t = some x := by unfold sign_Leq.f; split <;> exact ⟨_, rfl⟩
theorem join_some (s t : Int) : ∃ x, sign_Join.f s t = some x := by unfold sign_Join.f; split <;> exact ⟨_, rfl⟩
theorem meet_some (s t : Int) : ∃ x, sign_Meet.f s t = some x := by unfold sign_Meet.f; split <;> exact ⟨_, rfl⟩

theorem SignOrders : surveyorlaw19_SignOrders.Pure := by
  intro a0 a1 _ _
  refine ⟨130, ?_⟩
  obtain ⟨x, hx⟩ := leq_some a0 a1
  obtain ⟨y, hy⟩ := join_some a0 a1
  obtain ⟨z, hz⟩ := meet_some a0 a1
  unfold surveyorlaw19_SignOrders.f
  rw [same_leq, same_join, same_meet, hx, hy, hz, awake_true]
  simp

end Go.Proofs.Ytlefniheafefgaa.Pure
