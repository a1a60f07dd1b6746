/- Proved: SignHolds answers true at every set and every string. No condition. -/
import Derived.Test.YtlefniheafefgaaGreatDoorPSignHoldsx2
set_option linter.unusedVariables false
set_option linter.unusedSimpArgs false
namespace Go.Proofs.YtlefniheafefgaaGreatDoor.Pure
open Go.RowKit Go.Proofs.YtlefniheafefgaaGreatDoor.PSignHolds Go.Proofs.YtlefniheafefgaaGreatDoorW.PrintWords Go.Proofs.YtlefniheafefgaaGreatDoorW.PrintLast

theorem bt_get (a : ByteArray) (i : Nat) (c : UInt8) (h : a.data.toList[i]? = some c) : bt a i = (c.toNat : Int) := by
  have hl := (List.getElem?_eq_some_iff.1 h).1
  have hs : i < a.size := by rw [Lib.size_eq]; exact hl
  unfold bt
  rw [Int.toNat_natCast, dif_pos hs]
  have e : a[i] = c := by
    have := (List.getElem?_eq_some_iff.1 h).2
    rw [← this, ByteArray.getElem_eq_getElem_data]
    simp
  rw [e]
theorem size_le {a : ByteArray} (h : a.size ≤ 250) : a.data.toList.length ≤ 250 := by rw [← Lib.size_eq]; exact h
theorem form_loop (a : ByteArray) (h : a.size ≤ 250) : ∀ (k i : Nat), i ≤ a.size → a.size - i < k → surveyorref01_Form.l0 k a i = some (allDig (a.data.toList.drop i))
  | 0, i, _, hk => by omega
  | k + 1, i, hi, hk => by
    unfold surveyorref01_Form.l0
    have hz := Lib.size_eq a
    by_cases hlt : i < a.size
    · rw [if_pos (by omega), if_pos (by omega)]
      have hl : i < a.data.toList.length := by rw [← hz]; exact hlt
      have hd := List.drop_eq_getElem_cons hl
      have hb := bt_get a i _ (List.getElem?_eq_getElem hl)
      generalize a.data.toList[i] = c at hd hb
      have ih := form_loop a h k (i + 1) (by omega) (by omega)
      have hw : wrap64 ((i : Int) + 1) = ((i + 1 : Nat) : Int) := by unfold wrap64; omega
      rw [hb, hd, hw, ih]
      show _ = some (List.all (c :: _) isDig)
      rw [List.all_cons]
      by_cases h1 : (c.toNat : Int) < 48
      · have : isDig c = false := by simp [isDig]; omega
        rw [if_pos h1, this]; rfl
      · by_cases h2 : (c.toNat : Int) > 57
        · have : isDig c = false := by simp [isDig]; omega
          rw [if_neg h1, if_pos h2, this]; rfl
        · have : isDig c = true := by simp [isDig]; omega
          rw [if_neg h1, if_neg h2, this]; rfl
    · rw [if_neg (by omega), List.drop_of_length_le (by rw [← hz]; omega)]; rfl
theorem form_j1 (a : ByteArray) (h : a.size ≤ 250) (st : Nat) (hst : st ≤ a.size) (k : Nat) (hk : 252 ≤ k) : surveyorref01_Form.j1 (k + 1) a st = some (!(a.data.toList.drop st).isEmpty && !((a.data.toList.drop st).head? == some 48) && allDig (a.data.toList.drop st)) := by
  have hz := Lib.size_eq a
  obtain ⟨k, rfl⟩ : ∃ j, k = j + 1 := ⟨k - 1, by omega⟩
  simp only [surveyorref01_Form.j1]
  by_cases he : st = a.size
  · rw [if_pos (by omega), List.drop_of_length_le (by rw [← hz]; omega)]
    simp only [surveyorref01_Form.j2]
    rfl
  · have hl : st < a.data.toList.length := by rw [← hz]; omega
    have hd := List.drop_eq_getElem_cons hl
    have hb := bt_get a st _ (List.getElem?_eq_getElem hl)
    have hloop := form_loop a h k st hst (by omega)
    rw [if_neg (by omega), if_pos (by omega), if_pos (by omega), hb]
    simp only [surveyorref01_Form.j2]
    rw [hloop]
    generalize a.data.toList[st] = c at hd hb
    rw [hd]
    by_cases hc : c = 48
    · subst hc; rfl
    · have hc2 : c.toNat ≠ 48 := fun e => hc (u8_ext e)
      have h1 : ((c.toNat : Int) == 48) = false := by simp; omega
      rw [h1]
      simp [hc]
theorem toList_data (a : ByteArray) : a.toList = a.data.toList := by simp [ByteArray.toList_eq]
theorem ref_form (a : ByteArray) (h : a.size ≤ 250) (k : Nat) (hk : 252 ≤ k) : surveyorref01_Form.f (k + 2) a = some (canon a.data.toList) := by
  unfold surveyorref01_Form.f
  have hz := Lib.size_eq a
  rw [toList_data]
  by_cases h48 : a.data.toList = [48]
  · rw [if_pos h48, h48]; rfl
  · rw [if_neg h48, canon_eq]
    by_cases h0 : a.size = 0
    · have hn : a.data.toList = [] := List.eq_nil_of_length_eq_zero (by rw [← hz]; exact h0)
      rw [if_neg (by omega), hn]
      simp only [surveyorref01_Form.j0]
      rw [if_neg (by simp)]
      have := form_j1 a h 0 (by omega) k hk
      rw [hn] at this
      exact this
    · rw [if_pos (by omega)]
      try rw [if_pos (by omega)]
      obtain ⟨c, r, hl⟩ : ∃ c r, a.data.toList = c :: r := by
        cases hq : a.data.toList with
        | nil => rw [hq] at hz; exact absurd hz h0
        | cons c r => exact ⟨c, r, rfl⟩
      have hb := bt_get a 0 c (by rw [hl]; rfl)
      rw [show ((0 : Nat) : Int) = 0 from rfl] at hb
      simp only [surveyorref01_Form.j0]
      rw [hb]
      by_cases hc : c = 45
      · subst hc
        have e1 : Lib.hasPrefix a.data.toList [45] = true := by rw [hl]; simp [Lib.hasPrefix]
        have e2 : Lib.trimPrefix a.data.toList [45] = r := by rw [Lib.trimPrefix, if_pos e1, hl]; rfl
        have := form_j1 a h 1 (by omega) k hk
        rw [if_pos (by decide), e1, e2]
        rw [hl] at this
        rw [show ((1 : Int)) = ((1 : Nat) : Int) from rfl, this]
        show some (!r.isEmpty && !(r.head? == some 48) && allDig r) = _
        by_cases hr : r = [48]
        · rw [if_pos hr, hr]; rfl
        · rw [if_neg hr]
      · have hc2 : c.toNat ≠ 45 := fun e => hc (u8_ext e)
        have e1 : Lib.hasPrefix a.data.toList [45] = false := by rw [hl]; simp [Lib.hasPrefix, List.isPrefixOf, Ne.symm hc]
        have e2 : Lib.trimPrefix a.data.toList [45] = a.data.toList := by rw [Lib.trimPrefix, if_neg (by rw [e1]; simp)]
        have := form_j1 a h 0 (by omega) k hk
        have h1 : ((c.toNat : Int) == 45) = false := by simp; omega
        rw [h1, if_neg (by decide), e2, if_neg h48]
        exact this
theorem ref_negative (a : ByteArray) (h0 : 0 < a.size) : surveyorref01_Negative.f a = some (Lib.hasPrefix a.data.toList [45]) := by
  unfold surveyorref01_Negative.f
  have hz := Lib.size_eq a
  obtain ⟨c, r, hl⟩ : ∃ c r, a.data.toList = c :: r := by
    cases hq : a.data.toList with
    | nil => rw [hq] at hz; exact absurd hz (by simp only [List.length_nil]; omega)
    | cons c r => exact ⟨c, r, rfl⟩
  have hb := bt_get a 0 c (by rw [hl]; rfl)
  rw [show ((0 : Nat) : Int) = 0 from rfl] at hb
  rw [if_pos (by omega), hb, hl]
  by_cases hc : c = 45
  · subst hc; rfl
  · have hc2 : c.toNat ≠ 45 := fun e => hc (u8_ext e)
    have h1 : ((c.toNat : Int) == 45) = false := by simp; omega
    rw [h1]; simp [Lib.hasPrefix, List.isPrefixOf, Ne.symm hc]
theorem canon_size {a : ByteArray} (h : canon a.data.toList = true) : 0 < a.size := by
  rw [Lib.size_eq]
  cases hl : a.data.toList with
  | nil => rw [hl] at h; exact absurd h (by decide)
  | cons c r => simp
theorem ref_check01 (a : ByteArray) (h : a.size ≤ 250) : surveyorref01_Check.f 300 a = some (chkI a) := by
  unfold surveyorref01_Check.f chkI
  rw [show (300 : Nat) = 298 + 2 from rfl, ref_form a h 298 (by omega), Option.bind_some]
  by_cases hc : canon a.data.toList = true
  · have h0 := canon_size hc
    have hd := digN_le a
    rw [if_pos hc, if_pos hc]
    unfold surveyorref01_Digits.f
    rw [ref_negative a h0, Option.bind_some]
    by_cases hp : Lib.hasPrefix a.data.toList [45] = true
    · rw [if_pos hp, Option.bind_some, if_neg (by unfold wrap64; omega), if_neg (by omega)]
    · rw [if_neg hp, Option.bind_some, if_neg (by omega), if_neg (by omega)]
  · rw [if_neg hc, if_neg hc]
theorem sgn_ival (a : ByteArray) (hc : canon a.data.toList = true) : surveyorref01_Sign.f a = some (sgnI (ivalB a)) := by
  unfold surveyorref01_Sign.f
  rw [toList_data]
  by_cases h48 : a.data.toList = [48]
  · rw [if_pos h48, ivalB, h48]; rfl
  · rw [if_neg h48, ref_negative a (canon_size hc), Option.bind_some]
    have hi := itoa_ival _ hc
    have hne : ivalB a ≠ 0 := by
      intro e
      have e' : ival a.data.toList = 0 := e
      rw [e'] at hi
      exact h48 (hi.symm.trans (by unfold Lib.itoa; simp [decDigits_small]))
    obtain ⟨hd, hv⟩ := canon_parts _ hc
    have hv' : ivalB a = _ := hv
    unfold sgnI
    by_cases hp : Lib.hasPrefix a.data.toList [45] = true
    · rw [if_pos hp] at hv' ⊢
      rw [if_pos (by omega)]
    · rw [if_neg hp] at hv' ⊢
      rw [if_neg (by omega), if_neg hne]
theorem sgnI_range (z : Int) : sgnI z = -1 ∨ sgnI z = 0 ∨ sgnI z = 1 := by
  unfold sgnI; split
  · exact Or.inl rfl
  · split
    · exact Or.inr (Or.inl rfl)
    · exact Or.inr (Or.inr rfl)
/-- The set of a sign. -/
def setI (z : Int) : Int := if z < 0 then 1 else if z = 0 then 2 else 4
theorem sign_of (a : ByteArray) (h : a.size ≤ 9223372036854775807) : sign_Of.f a = some (if chkI a = 0 then setI (sgnI (ivalB a)) else 0, chkI a) := by
  unfold sign_Of.f bigint_Sign.f
  rw [if_pos h, Option.bind_some]
  dsimp only
  by_cases hc : chkI a = 0
  · rw [if_pos hc, if_pos hc, if_pos hc, hc]
    rcases sgnI_range (ivalB a) with e | e | e <;> rw [e] <;> decide +kernel
  · rw [if_neg hc, if_neg hc]
theorem ref_of (a : ByteArray) (h : a.size ≤ 250) : surveyorref19_Of.f 300 a = some (if chkI a = 0 then setI (sgnI (ivalB a)) else 0, chkI a) := by
  unfold surveyorref19_Of.f
  rw [ref_check01 a h, Option.bind_some]
  by_cases hc : chkI a = 0
  · rw [if_pos hc, if_pos hc, sgn_ival a (chk_ok hc).1, Option.bind_some, hc]
    rcases sgnI_range (ivalB a) with e | e | e <;> rw [e] <;> decide +kernel
  · rw [if_neg hc, if_neg hc]
theorem ref_check (s : Int) : surveyorref19_Check.f s = some (chk s) := by
  unfold surveyorref19_Check.f chk
  by_cases h : s < 0
  · rw [if_pos h, if_neg (by omega)]
  · rw [if_neg h]
    by_cases h7 : s > 7
    · rw [if_pos h7, if_neg (by omega)]
    · rw [if_neg h7, if_pos (by omega)]
theorem own_check (s : Int) : sign_Check.f s = some (chk s) := by
  unfold sign_Check.f chk
  by_cases h : s < 0
  · rw [if_pos h, if_neg (by omega)]
  · rw [if_neg h]
    by_cases h7 : s > 7
    · rw [if_pos h7, if_neg (by omega)]
    · rw [if_neg h7, if_pos (by omega)]
theorem chk_zero {s : Int} (h : chk s = 0) : 0 ≤ s ∧ s ≤ 7 := by
  unfold chk at h
  split at h
  · assumption
  · omega
theorem ref_has (s z : Int) : surveyorref19_has.f s z = some (Go.bits .and .i64 s (setI z) != 0) := by
  unfold surveyorref19_has.f surveyorref19_Sign.f setI
  by_cases h : z < 0
  · rw [if_pos h, if_pos h]; rfl
  · rw [if_neg h, if_neg h]
    by_cases h0 : z = 0
    · rw [if_pos h0, if_pos h0]; rfl
    · rw [if_neg h0, if_neg h0]; rfl
theorem bits_zero (s : Int) (h : 0 ≤ s ∧ s ≤ 7) : (Go.bits .and .i64 s 0 != 0) = false := by
  have : ∀ x : Fin 8, (Go.bits .and .i64 (x.val : Int) 0 != 0) = false := by decide
  have := this ⟨s.toNat, by omega⟩
  dsimp only at this
  rwa [show ((s.toNat : Nat) : Int) = s from by omega] at this
theorem holds_eq (s : Int) (a : ByteArray) (h : a.size ≤ 250) : ∃ b c, sign_Holds.f s a = some (b, c) ∧ surveyorref19_Holds.f 300 s a = some (b, c) := by
  unfold sign_Holds.f surveyorref19_Holds.f
  rw [own_check, ref_check, Option.bind_some, Option.bind_some]
  by_cases hs : chk s = 0
  · rw [if_pos hs, if_pos hs, sign_of a (by omega), ref_check01 a h, Option.bind_some, Option.bind_some]
    by_cases hc : chkI a = 0
    · rw [if_pos hc, if_pos hc, sgn_ival a (chk_ok hc).1, Option.bind_some, ref_has, Option.bind_some, hc]
      exact ⟨_, _, rfl, rfl⟩
    · rw [if_neg hc, if_neg hc]
      dsimp only
      rw [bits_zero s (chk_zero hs)]
      exact ⟨_, _, rfl, rfl⟩
  · rw [if_neg hs, if_neg hs]
    exact ⟨_, _, rfl, rfl⟩
set_option maxRecDepth 100000 in
theorem neg_in : ∀ s : Fin 8, sign_Neg.f (s.val : Int) = surveyorref19_Neg.f 300 (s.val : Int) ∧ (surveyorref19_Neg.f 300 (s.val : Int)).isSome = true := by decide +kernel
theorem neg_eq (s : Int) : ∃ b c, sign_Neg.f s = some (b, c) ∧ surveyorref19_Neg.f 300 s = some (b, c) := by
  by_cases hs : chk s = 0
  · have hz := chk_zero hs
    have := neg_in ⟨s.toNat, by omega⟩
    dsimp only at this
    rw [show ((s.toNat : Nat) : Int) = s from by omega] at this
    obtain ⟨h1, h2⟩ := this
    obtain ⟨p, hp⟩ := Option.isSome_iff_exists.1 h2
    exact ⟨p.1, p.2, by rw [h1, hp], hp⟩
  · have h2 : chk2 s s = chk s := by unfold chk2; rw [if_neg hs]
    refine ⟨0, chk s, ?_, ?_⟩
    · unfold sign_Neg.f; rw [h2, if_neg hs]
    · unfold surveyorref19_Neg.f; rw [ref_check, Option.bind_some, if_neg hs]
set_option maxRecDepth 100000 in
theorem format_in : ∀ s : Fin 8, ∃ b c, sign_Format.f (s.val : Int) = some (b, c) ∧ surveyorref19_Format.f (s.val : Int) = some (b, c) := by
  intro s
  match s with
  | 0 => exact ⟨_, _, rfl, rfl⟩
  | 1 => exact ⟨_, _, rfl, rfl⟩
  | 2 => exact ⟨_, _, rfl, rfl⟩
  | 3 => exact ⟨_, _, rfl, rfl⟩
  | 4 => exact ⟨_, _, rfl, rfl⟩
  | 5 => exact ⟨_, _, rfl, rfl⟩
  | 6 => exact ⟨_, _, rfl, rfl⟩
  | 7 => exact ⟨_, _, rfl, rfl⟩
theorem format_eq (s : Int) : ∃ b c, sign_Format.f s = some (b, c) ∧ surveyorref19_Format.f s = some (b, c) := by
  by_cases hs : chk s = 0
  · have hz := chk_zero hs
    have := format_in ⟨s.toNat, by omega⟩
    dsimp only at this
    rwa [show ((s.toNat : Nat) : Int) = s from by omega] at this
  · refine ⟨ByteArray.empty, chk s, ?_, ?_⟩
    · unfold sign_Format.f; rw [if_neg hs]
    · unfold surveyorref19_Format.f; rw [ref_check, Option.bind_some, if_neg hs]; rfl
set_option maxRecDepth 100000 in
theorem awake_true : surveyorlaw19_awake.f 300 = some true := by decide +kernel

theorem SignHolds : surveyorlaw19_SignHolds.Pure := by
  intro a0 a1 _ _
  refine ⟨300, ?_⟩
  unfold surveyorlaw19_SignHolds.f surveyorref01_Few.f
  rw [Option.bind_some]
  by_cases h : a1.size ≤ 250
  · obtain ⟨b, c, h1, h2⟩ := holds_eq a0 a1 h
    obtain ⟨d, e, h3, h4⟩ := neg_eq a0
    obtain ⟨x, y, h5, h6⟩ := format_eq a0
    rw [if_pos (by simpa using (show (a1.size : Int) ≤ 250 by omega)), sign_of a1 (by omega), ref_of a1 h, h1, h2, h3, h4, h5, h6, awake_true, own_check, ref_check]
    simp
  · rw [if_neg (by simp; omega), awake_true]; rfl

end Go.Proofs.YtlefniheafefgaaGreatDoor.Pure
