/- BigintRests: the plain law. -/
import Derived.Test.YtdldoghcbnkkjaaGreatDoorPBigintRestsx3
import Derived.Test.YtdldoghcbnkkjaaGreatDoorOpsAll
import Derived.Test.YtdldoghcbnkkjaaGreatDoorPowAll
set_option linter.unusedVariables false
set_option linter.unusedSimpArgs false
namespace Go.Proofs.YtdldoghcbnkkjaaGreatDoor.Pure
open Go.RowKit Go.Proofs.YtdldoghcbnkkjaaGreatDoor.PBigintRests Go.Proofs.YtdldoghcbnkkjaaGreatDoorW.PrintWords Go.Proofs.YtdldoghcbnkkjaaGreatDoorW.PrintLast

theorem bt_get (a : ByteArray) (i : Nat) (c : UInt8) (h : a.data.toList[i]? = some c) : bt a i = (c.toNat : Int) := by
  have hl := (List.getElem?_eq_some_iff.1 h).1
  have hs : i < a.size := by rw [Lib.size_eq]; exact hl
  unfold bt
  rw [Int.toNat_natCast, dif_pos hs]
  have e : a[i] = c := by
    have := (List.getElem?_eq_some_iff.1 h).2
    rw [← this, ByteArray.getElem_eq_getElem_data]
    simp
  rw [e]
theorem toList_data (a : ByteArray) : a.toList = a.data.toList := by simp [ByteArray.toList_eq]
theorem form_loop (a : ByteArray) (h : a.size ≤ 140737488351232) : ∀ (k i : Nat), i ≤ a.size → a.size - i < k → surveyorref01_Form.l0 k a i = some (allDig (a.data.toList.drop i))
  | 0, i, _, hk => by omega
  | k + 1, i, hi, hk => by
    unfold surveyorref01_Form.l0
    have hz := Lib.size_eq a
    by_cases hlt : i < a.size
    · rw [if_pos (by omega), if_pos (by omega)]
      have hl : i < a.data.toList.length := by rw [← hz]; exact hlt
      have hd := List.drop_eq_getElem_cons hl
      have hb := bt_get a i _ (List.getElem?_eq_getElem hl)
      generalize a.data.toList[i] = c at hd hb
      have ih := form_loop a h k (i + 1) (by omega) (by omega)
      have hw : wrap64 ((i : Int) + 1) = ((i + 1 : Nat) : Int) := by unfold wrap64; omega
      rw [hb, hd, hw, ih]
      show _ = some (List.all (c :: _) isDig)
      rw [List.all_cons]
      by_cases h1 : (c.toNat : Int) < 48
      · have : isDig c = false := by simp [isDig]; omega
        rw [if_pos h1, this]; rfl
      · by_cases h2 : (c.toNat : Int) > 57
        · have : isDig c = false := by simp [isDig]; omega
          rw [if_neg h1, if_pos h2, this]; rfl
        · have : isDig c = true := by simp [isDig]; omega
          rw [if_neg h1, if_neg h2, this]; rfl
    · rw [if_neg (by omega), List.drop_of_length_le (by rw [← hz]; omega)]; rfl
theorem form_j1 (a : ByteArray) (h : a.size ≤ 140737488351232) (st : Nat) (hst : st ≤ a.size) (k : Nat) (hk : a.size + 2 ≤ k) : surveyorref01_Form.j1 (k + 1) a st = some (!(a.data.toList.drop st).isEmpty && !((a.data.toList.drop st).head? == some 48) && allDig (a.data.toList.drop st)) := by
  have hz := Lib.size_eq a
  obtain ⟨k, rfl⟩ : ∃ j, k = j + 1 := ⟨k - 1, by omega⟩
  simp only [surveyorref01_Form.j1]
  by_cases he : st = a.size
  · rw [if_pos (by omega), List.drop_of_length_le (by rw [← hz]; omega)]
    simp only [surveyorref01_Form.j2]
    rfl
  · have hl : st < a.data.toList.length := by rw [← hz]; omega
    have hd := List.drop_eq_getElem_cons hl
    have hb := bt_get a st _ (List.getElem?_eq_getElem hl)
    have hloop := form_loop a h k st hst (by omega)
    rw [if_neg (by omega), if_pos (by omega), if_pos (by omega), hb]
    simp only [surveyorref01_Form.j2]
    rw [hloop]
    generalize a.data.toList[st] = c at hd hb
    rw [hd]
    by_cases hc : c = 48
    · subst hc; rfl
    · have hc2 : c.toNat ≠ 48 := fun e => hc (u8_ext e)
      have h1 : ((c.toNat : Int) == 48) = false := by simp; omega
      rw [h1]
      simp [hc]
theorem ref_form (a : ByteArray) (h : a.size ≤ 140737488351232) (k : Nat) (hk : a.size + 2 ≤ k) : surveyorref01_Form.f (k + 2) a = some (canon a.data.toList) := by
  unfold surveyorref01_Form.f
  have hz := Lib.size_eq a
  rw [toList_data]
  by_cases h48 : a.data.toList = [48]
  · rw [if_pos h48, h48]; rfl
  · rw [if_neg h48, canon_eq]
    by_cases h0 : a.size = 0
    · have hn : a.data.toList = [] := List.eq_nil_of_length_eq_zero (by rw [← hz]; exact h0)
      rw [if_neg (by omega), hn]
      simp only [surveyorref01_Form.j0]
      rw [if_neg (by simp)]
      have := form_j1 a h 0 (by omega) k hk
      rw [hn] at this
      exact this
    · rw [if_pos (by omega)]
      try rw [if_pos (by omega)]
      obtain ⟨c, r, hl⟩ : ∃ c r, a.data.toList = c :: r := by
        cases hq : a.data.toList with
        | nil => rw [hq] at hz; exact absurd hz h0
        | cons c r => exact ⟨c, r, rfl⟩
      have hb := bt_get a 0 c (by rw [hl]; rfl)
      rw [show ((0 : Nat) : Int) = 0 from rfl] at hb
      simp only [surveyorref01_Form.j0]
      rw [hb]
      by_cases hc : c = 45
      · subst hc
        have e1 : Lib.hasPrefix a.data.toList [45] = true := by rw [hl]; simp [Lib.hasPrefix]
        have e2 : Lib.trimPrefix a.data.toList [45] = r := by rw [Lib.trimPrefix, if_pos e1, hl]; rfl
        have := form_j1 a h 1 (by omega) k hk
        rw [if_pos (by decide), e1, e2]
        rw [hl] at this
        rw [show ((1 : Int)) = ((1 : Nat) : Int) from rfl, this]
        show some (!r.isEmpty && !(r.head? == some 48) && allDig r) = _
        by_cases hr : r = [48]
        · rw [if_pos hr, hr]; rfl
        · rw [if_neg hr]
      · have hc2 : c.toNat ≠ 45 := fun e => hc (u8_ext e)
        have e1 : Lib.hasPrefix a.data.toList [45] = false := by rw [hl]; simp [Lib.hasPrefix, List.isPrefixOf, Ne.symm hc]
        have e2 : Lib.trimPrefix a.data.toList [45] = a.data.toList := by rw [Lib.trimPrefix, if_neg (by rw [e1]; simp)]
        have := form_j1 a h 0 (by omega) k hk
        have h1 : ((c.toNat : Int) == 45) = false := by simp; omega
        rw [h1, if_neg (by decide), e2, if_neg h48]
        exact this
theorem ref_negative (a : ByteArray) (h0 : 0 < a.size) : surveyorref01_Negative.f a = some (Lib.hasPrefix a.data.toList [45]) := by
  unfold surveyorref01_Negative.f
  have hz := Lib.size_eq a
  obtain ⟨c, r, hl⟩ : ∃ c r, a.data.toList = c :: r := by
    cases hq : a.data.toList with
    | nil => rw [hq] at hz; exact absurd hz (by simp only [List.length_nil]; omega)
    | cons c r => exact ⟨c, r, rfl⟩
  have hb := bt_get a 0 c (by rw [hl]; rfl)
  rw [show ((0 : Nat) : Int) = 0 from rfl] at hb
  rw [if_pos (by omega), hb, hl]
  by_cases hc : c = 45
  · subst hc; rfl
  · have hc2 : c.toNat ≠ 45 := fun e => hc (u8_ext e)
    have h1 : ((c.toNat : Int) == 45) = false := by simp; omega
    rw [h1]; simp [Lib.hasPrefix, List.isPrefixOf, Ne.symm hc]
theorem canon_size {a : ByteArray} (h : canon a.data.toList = true) : 0 < a.size := by
  rw [Lib.size_eq]
  cases hl : a.data.toList with
  | nil => rw [hl] at h; exact absurd h (by decide)
  | cons c r => simp
theorem ref_digits (a : ByteArray) (h : a.size ≤ 140737488351232) (h0 : 0 < a.size) : surveyorref01_Digits.f a = some (digN a : Int) := by
  unfold surveyorref01_Digits.f digN
  have hz := Lib.size_eq a
  rw [ref_negative a h0, Option.bind_some]
  by_cases hp : Lib.hasPrefix a.data.toList [45] = true
  · rw [if_pos hp, Lib.trimPrefix, if_pos hp, List.length_drop, ← hz]
    show some (wrap64 ((a.size : Int) - 1)) = some ((a.size - 1 : Nat) : Int)
    congr 1
    unfold wrap64; omega
  · rw [if_neg hp, Lib.trimPrefix, if_neg hp, ← hz]
theorem ref_check (a : ByteArray) (h : a.size ≤ 140737488351232) (k : Nat) (hk : a.size + 4 ≤ k) : surveyorref01_Check.f k a = some (chkI a) := by
  obtain ⟨k, rfl⟩ : ∃ j, k = j + 2 := ⟨k - 2, by omega⟩
  unfold surveyorref01_Check.f chkI
  rw [ref_form a h k (by omega), Option.bind_some]
  by_cases hc : canon a.data.toList = true
  · have h0 := canon_size hc
    rw [if_pos hc, if_pos hc, ref_digits a h h0, Option.bind_some]
    by_cases hd : 4096 < digN a
    · rw [if_pos (by omega), if_pos hd]
    · rw [if_neg (by omega), if_neg hd]
  · rw [if_neg hc, if_neg hc]
theorem few_step (k : Nat) (l : List ByteArray) (n i : Int) (x : ByteArray) (hi : i < n) (h0 : 0 ≤ i) (hl : i < (l.length : Int)) (hx : rdOf ByteArray.empty l i = x) : surveyorlaw01_few.l0 (k + 1) l n i = if x.size ≤ 250 then surveyorlaw01_few.l0 k l n (wrap64 (i + 1)) else some false := by
  conv => lhs; unfold surveyorlaw01_few.l0
  rw [if_pos hi, if_pos h0, if_pos hl, hx]
  unfold surveyorref01_Few.f
  rw [Option.bind_some]
  by_cases h : x.size ≤ 250
  · rw [if_pos (by simpa using (show (x.size : Int) ≤ 250 by omega)), if_pos h]
  · rw [if_neg (by simp; omega), if_neg h]
theorem few_end (k : Nat) (l : List ByteArray) (n i : Int) (hi : ¬ i < n) : surveyorlaw01_few.l0 (k + 1) l n i = some true := by
  conv => lhs; unfold surveyorlaw01_few.l0
  rw [if_neg hi]
theorem few1 (a : ByteArray) (k : Nat) : surveyorlaw01_few.f (k + 2) [a] = some (decide (a.size ≤ 250)) := by
  unfold surveyorlaw01_few.f
  rw [few_step (k + 1) [a] _ 0 a (by simp) (by omega) (by simp) rfl, show wrap64 ((0 : Int) + 1) = 1 from by decide +kernel]
  by_cases ha : a.size ≤ 250
  · rw [if_pos ha, few_end k _ _ _ (by simp), decide_eq_true ha]
  · rw [if_neg ha, decide_eq_false ha]
theorem few2 (a b : ByteArray) (k : Nat) : surveyorlaw01_few.f (k + 3) [a, b] = some (decide (a.size ≤ 250 ∧ b.size ≤ 250)) := by
  unfold surveyorlaw01_few.f
  rw [few_step (k + 2) [a, b] _ 0 a (by simp) (by omega) (by simp) rfl, show wrap64 ((0 : Int) + 1) = 1 from by decide +kernel, few_step (k + 1) [a, b] _ 1 b (by simp) (by omega) (by simp) rfl, show wrap64 ((1 : Int) + 1) = 2 from by decide +kernel, few_end k _ _ _ (by simp)]
  by_cases ha : a.size ≤ 250
  · by_cases hb : b.size ≤ 250
    · simp [ha, hb]
    · simp [ha, hb]
  · simp [ha]
theorem few3 (a b c : ByteArray) (k : Nat) : surveyorlaw01_few.f (k + 4) [a, b, c] = some (decide (a.size ≤ 250 ∧ b.size ≤ 250 ∧ c.size ≤ 250)) := by
  unfold surveyorlaw01_few.f
  rw [few_step (k + 3) [a, b, c] _ 0 a (by simp) (by omega) (by simp) rfl, show wrap64 ((0 : Int) + 1) = 1 from by decide +kernel, few_step (k + 2) [a, b, c] _ 1 b (by simp) (by omega) (by simp) rfl, show wrap64 ((1 : Int) + 1) = 2 from by decide +kernel, few_step (k + 1) [a, b, c] _ 2 c (by simp) (by omega) (by simp) rfl, show wrap64 ((2 : Int) + 1) = 3 from by decide +kernel, few_end k _ _ _ (by simp)]
  by_cases ha : a.size ≤ 250
  · by_cases hb : b.size ≤ 250
    · by_cases hc : c.size ≤ 250
      · simp [ha, hb, hc]
      · simp [ha, hb, hc]
    · simp [ha, hb]
  · simp [ha]
theorem right_step (k : Nat) (l0 l : List ByteArray) (n i : Int) (x : ByteArray) (hi : i < n) (h0 : 0 ≤ i) (hl : i < (l.length : Int)) (hx : rdOf ByteArray.empty l i = x) (hs : x.size ≤ 140737488351232) (hk : x.size + 4 ≤ k) : surveyorlaw01_right.l0 (k + 1) l0 l n i = if chkI x = 0 then surveyorlaw01_right.l0 k l0 l n (wrap64 (i + 1)) else some false := by
  conv => lhs; unfold surveyorlaw01_right.l0
  rw [if_pos hi, if_pos h0, if_pos hl, hx, ref_check x hs k hk, Option.bind_some]
theorem right_end (k : Nat) (l0 l : List ByteArray) (n i : Int) (hi : ¬ i < n) : surveyorlaw01_right.l0 (k + 1) l0 l n i = surveyorlaw01_few.f k l0 := by
  conv => lhs; unfold surveyorlaw01_right.l0
  rw [if_neg hi]
  cases surveyorlaw01_few.f k l0 <;> rfl
/-- A word that the law takes. -/
def good (x : ByteArray) : Prop := x.size ≤ 250 ∧ chkI x = 0
instance (x : ByteArray) : Decidable (good x) := by unfold good; infer_instance
theorem right3 (a b c : ByteArray) (k : Nat) (ha : a.size ≤ 140737488351232) (hb : b.size ≤ 140737488351232) (hc : c.size ≤ 140737488351232) (hk : a.size + b.size + c.size + 4 ≤ k) : surveyorlaw01_right.f (k + 8) [a, b, c] = some (decide (good a ∧ good b ∧ good c)) := by
  unfold surveyorlaw01_right.f
  rw [right_step (k + 7) _ [a, b, c] _ 0 a (by simp) (by omega) (by simp) rfl ha (by omega), show wrap64 ((0 : Int) + 1) = 1 from by decide +kernel, right_step (k + 6) _ [a, b, c] _ 1 b (by simp) (by omega) (by simp) rfl hb (by omega), show wrap64 ((1 : Int) + 1) = 2 from by decide +kernel, right_step (k + 5) _ [a, b, c] _ 2 c (by simp) (by omega) (by simp) rfl hc (by omega), show wrap64 ((2 : Int) + 1) = 3 from by decide +kernel, right_end (k + 4) _ _ _ _ (by simp), few3 a b c k]
  unfold good
  by_cases h1 : chkI a = 0
  · by_cases h2 : chkI b = 0
    · by_cases h3 : chkI c = 0
      · simp [h1, h2, h3]
      · simp [h1, h2, h3]
    · simp [h1, h2]
  · simp [h1]
theorem right2 (a b : ByteArray) (k : Nat) (ha : a.size ≤ 140737488351232) (hb : b.size ≤ 140737488351232) (hk : a.size + b.size + 4 ≤ k) : surveyorlaw01_right.f (k + 6) [a, b] = some (decide (good a ∧ good b)) := by
  unfold surveyorlaw01_right.f
  rw [right_step (k + 5) _ [a, b] _ 0 a (by simp) (by omega) (by simp) rfl ha (by omega), show wrap64 ((0 : Int) + 1) = 1 from by decide +kernel, right_step (k + 4) _ [a, b] _ 1 b (by simp) (by omega) (by simp) rfl hb (by omega), show wrap64 ((1 : Int) + 1) = 2 from by decide +kernel, right_end (k + 3) _ _ _ _ (by simp), few2 a b k]
  unfold good
  by_cases h1 : chkI a = 0
  · by_cases h2 : chkI b = 0
    · simp [h1, h2]
    · simp [h1, h2]
  · simp [h1]
set_option maxRecDepth 100000 in
theorem awake_2 : surveyorlaw01_awake.f 2 = some true := by decide +kernel
theorem awake_at : ∀ k, surveyorlaw01_awake.f (k + 2) = some true
  | 0 => awake_2
  | k + 1 => surveyorlaw01_awake.mono (k + 2) _ (awake_at k)
theorem awake_ge {k : Nat} (h : 2 ≤ k) : surveyorlaw01_awake.f k = some true := by
  obtain ⟨j, rfl⟩ : ∃ j, k = j + 2 := ⟨k - 2, by omega⟩
  exact awake_at j
theorem text_zero_iff (y : Int) : ((text y).toList = ([48] : List UInt8)) ↔ y = 0 := by
  constructor
  · intro h
    refine text_inj ?_
    rw [text_0]
    refine bytes_ext ?_
    rw [← toList_data, h]
  · intro h
    rw [h, text_0, toList_data]
set_option maxHeartbeats 1000000 in
theorem BigintRests : surveyorlaw01_BigintRests.Pure := by
  intro a0 a1 h0 h1
  refine ⟨a0.size + a1.size + 22, ?_⟩
  obtain ⟨K, hK⟩ : ∃ K, K = a0.size + a1.size + 21 := ⟨_, rfl⟩
  rw [show a0.size + a1.size + 22 = K + 1 from by omega]
  unfold surveyorlaw01_BigintRests.f
  have hr := right2 a0 a1 (K - 5) h0 h1 (by omega)
  rw [show K - 5 + 6 = K + 1 from by omega] at hr
  rw [hr, Option.bind_some]
  by_cases hg : good a0 ∧ good a1
  · rw [decide_eq_true hg, if_pos rfl]
    obtain ⟨x, rfl, bx⟩ := word_text hg.1.1 hg.1.2
    obtain ⟨y, rfl, bY⟩ := word_text hg.2.1 hg.2.2
    rw [surveyorlaw01_BigintRests.j0]
    by_cases hy : y = 0
    · rw [if_pos (by simpa using (text_zero_iff y).2 hy), awake_ge (by omega)]
      rfl
    · rw [if_neg (by simpa using fun h => hy ((text_zero_iff y).1 h))]
      obtain ⟨f1, f2, f3, f4⟩ := fmod_facts x y hy
      have br : Bd 250 (Int.fmod x y) := bY.fmod hy
      have bq : Bd 250 (Int.fdiv x y) := bx.fdiv hy
      have byq := bY.mul bq
      rw [quo_at 250 bx bY (by omega) (by omega), if_neg hy, Option.bind_some, rem_at 250 bx bY (by omega) (by omega), if_neg hy, Option.bind_some]
      dsimp only
      rw [mul_at 250 bY bq (by omega) (by omega), Option.bind_some]
      dsimp only
      rw [add_at 500 (byq.mono (by omega)) (br.mono (by omega)) (by omega) (by omega), Option.bind_some, abs_at 250 br (by omega) (by omega), Option.bind_some, abs_at 250 bY (by omega) (by omega), Option.bind_some]
      dsimp only
      rw [compare_at 250 (br.of_le (by omega)) (bY.of_le (by omega)) (by omega) (by omega), Option.bind_some, sign_at 250 br (by omega) (by omega), Option.bind_some, sign_at 250 bY (by omega) (by omega), Option.bind_some]
      have hc : sgnI (((Int.fmod x y).natAbs : Int) - (y.natAbs : Int)) = -1 := if_pos (by omega)
      have he : y * Int.fdiv x y + Int.fmod x y = x := by omega
      rw [he]
      dsimp only
      rw [if_pos (by decide +kernel), if_pos rfl, hc, if_pos (by decide)]
      by_cases hs : sgnI (Int.fmod x y) = 0
      · rw [if_pos hs, awake_ge (by omega)]; rfl
      · have hst : sgnI (Int.fmod x y) = sgnI y := by
          unfold sgnI at hs ⊢
          rcases Int.lt_or_gt_of_ne hy with h | h
          · have := f3 h
            by_cases h0 : Int.fmod x y = 0
            · rw [h0] at hs; exact absurd rfl hs
            · rw [if_pos (by omega), if_pos h]
          · have := f2 h
            by_cases h0 : Int.fmod x y = 0
            · rw [h0] at hs; exact absurd rfl hs
            · rw [if_neg (by omega), if_neg h0, if_neg (by omega), if_neg hy]
        rw [if_neg hs, if_pos hst, awake_ge (by omega)]; rfl
  · rw [decide_eq_false hg, if_neg (by simp), surveyorlaw01_BigintRests.j0, if_pos rfl, awake_ge (by omega)]
    rfl
end Go.Proofs.YtdldoghcbnkkjaaGreatDoor.Pure
