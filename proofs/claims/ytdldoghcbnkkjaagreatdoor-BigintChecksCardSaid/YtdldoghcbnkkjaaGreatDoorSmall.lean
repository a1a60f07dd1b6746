/- bigint.Small at short words, as a contract. -/
import Derived.Test.YtdldoghcbnkkjaaGreatDoorOpsAll
set_option linter.unusedVariables false
set_option linter.unusedSimpArgs false
namespace Go.Proofs.YtdldoghcbnkkjaaGreatDoor
open Go.RowKit Go.Shelf Go.Proofs.YtdldoghcbnkkjaaGreatDoorW.PrintWords

theorem atoi_canon (a : ByteArray) (h : canon a.data.toList = true) : Lib.atoi a.data.toList = some (ivalB a) := by
  unfold ivalB
  generalize a.data.toList = l at h
  unfold canon at h
  split at h
  · rename_i r
    simp only [Bool.and_eq_true] at h
    have hr := h.1
    unfold canonN at hr
    simp only [Bool.or_eq_true, Bool.and_eq_true, beq_iff_eq] at hr
    have hd : allDig r = true ∧ r ≠ [] := by
      rcases hr with rfl | ⟨⟨h1, h2⟩, h3⟩
      · exact ⟨rfl, by simp⟩
      · exact ⟨h1, by intro e; subst e; simp at h3⟩
    have := decFrom_dval r 0 hd.1
    have hne : r.isEmpty = false := by cases r with | nil => exact absurd rfl hd.2 | cons _ _ => rfl
    simp [Lib.atoi, Lib.decNat, hne, this, ival]
  · rename_i hne
    unfold canonN at h
    simp only [Bool.or_eq_true, Bool.and_eq_true, beq_iff_eq] at h
    have hd : allDig l = true ∧ l ≠ [] := by
      rcases h with rfl | ⟨⟨h1, h2⟩, h3⟩
      · exact ⟨rfl, by simp⟩
      · exact ⟨h1, by intro e; subst e; simp at h3⟩
    rw [atoi_dig l hd.1 hd.2]
    unfold ival
    split
    · rename_i r; exact absurd rfl (hne r)
    · rfl
/-- What Small returns. -/
def smV (a : ByteArray) : Int := if chkI a = 0 then (if ivalB a > 1048576 ∨ ivalB a < -1048576 then 0 else ivalB a) else 0
def smE (a : ByteArray) : Int := if chkI a = 0 then (if ivalB a > 1048576 ∨ ivalB a < -1048576 then 2 else 0) else chkI a
set_option maxRecDepth 100000 in
set_option maxHeartbeats 2000000 in
theorem small_walk (a : ByteArray) (w : World) (ha : a.size ≤ 18) :
    Calls Tryz.prog 48 #[.string a] w fun e w' => e = .returned (.tuple #[.int .i64 (smV a), .int .i64 (smE a)]) ∧ Below w.heap.size w w' := by
  have HA := Lib.hid (fun w => check_walk a w (by omega))
  unfold smV smE
  by_cases h : chkI a = 0
  · rw [if_pos h, if_pos h]
    rw [h] at HA
    have HT := Lib.hid (fun w => atoi_ok a (ivalB a) ha (atoi_canon a (chk_ok h).1) w)
    clear h ha
    generalize ivalB a = n at HT ⊢
    by_cases h1 : n > 1048576
    · have e1 : decide ((1048576 : Int) < n) = true := decide_eq_true h1
      rw [if_pos (.inl h1), if_pos (.inl h1)]
      go_enter Tryz.func48, Tryz.ntmps48
      go_wp2_with (first
        | (go_at_call 53; refine (HA.out _).mono ?_; rintro e w1 ⟨rfl, hB1⟩; have HB1 := Lib.hid hB1; clear hB1 HA)
        | (go_at_call 97; refine (HT.out _).mono ?_; rintro e w2 ⟨rfl, t, hw2⟩; have HB2 := Lib.hid (show Below w1.heap.size w1 w2 from hw2 ▸ below_bytesWorld' w1 5 t _ (Nat.le_refl _)); clear hw2))
      go_ret2
      exact ⟨rfl, HB1.out.trans (HB2.out.mono HB1.out.size)⟩
    · have e1 : decide ((1048576 : Int) < n) = false := decide_eq_false h1
      by_cases h2 : n < -1048576
      · have e2 : decide (n < -1048576) = true := decide_eq_true h2
        rw [if_pos (.inr h2), if_pos (.inr h2)]
        go_enter Tryz.func48, Tryz.ntmps48
        go_wp2_with (first
          | (go_at_call 53; refine (HA.out _).mono ?_; rintro e w1 ⟨rfl, hB1⟩; have HB1 := Lib.hid hB1; clear hB1 HA)
          | (go_at_call 97; refine (HT.out _).mono ?_; rintro e w2 ⟨rfl, t, hw2⟩; have HB2 := Lib.hid (show Below w1.heap.size w1 w2 from hw2 ▸ below_bytesWorld' w1 5 t _ (Nat.le_refl _)); clear hw2))
        go_ret2
        exact ⟨rfl, HB1.out.trans (HB2.out.mono HB1.out.size)⟩
      · have e2 : decide (n < -1048576) = false := decide_eq_false h2
        rw [if_neg (by omega), if_neg (by omega)]
        go_enter Tryz.func48, Tryz.ntmps48
        go_wp2_with (first
          | (go_at_call 53; refine (HA.out _).mono ?_; rintro e w1 ⟨rfl, hB1⟩; have HB1 := Lib.hid hB1; clear hB1 HA)
          | (go_at_call 97; refine (HT.out _).mono ?_; rintro e w2 ⟨rfl, t, hw2⟩; have HB2 := Lib.hid (show Below w1.heap.size w1 w2 from hw2 ▸ below_bytesWorld' w1 5 t _ (Nat.le_refl _)); clear hw2))
        go_ret2
        exact ⟨rfl, HB1.out.trans (HB2.out.mono HB1.out.size)⟩
  · rw [if_neg h, if_neg h]
    generalize chkI a = c at h HA ⊢
    have e1 : (c != 0) = true := by simpa using h
    clear ha
    go_enter Tryz.func48, Tryz.ntmps48
    go_wp2_with (go_at_call 53; refine (HA.out _).mono ?_; rintro e w1 ⟨rfl, hB1⟩; have HB1 := Lib.hid hB1; clear hB1 HA)
    go_ret2
    exact ⟨rfl, HB1.out⟩
def bigint_Small.f (a0 : ByteArray) : Option (Int × Int) := if a0.size ≤ 18 then some (smV a0, smE a0) else none
theorem bigint_Small.calls (a0 : ByteArray) (r0 : Int) (r1 : Int) (w : World) (h : bigint_Small.f a0 = some (r0, r1)) :
    Calls Tryz.prog 48 #[.string a0] w fun e w' => e = .returned (.tuple #[.int .i64 r0, .int .i64 r1]) ∧ Below w.heap.size w w' := by
  unfold bigint_Small.f at h
  split at h
  · rename_i h1
    obtain ⟨rfl, rfl⟩ := Prod.mk.inj (Option.some.inj h)
    exact small_walk a0 w h1
  · cases h
end Go.Proofs.YtdldoghcbnkkjaaGreatDoor
