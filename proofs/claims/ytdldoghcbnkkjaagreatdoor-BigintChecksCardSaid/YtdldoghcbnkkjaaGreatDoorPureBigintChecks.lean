/- BigintChecks: the plain law. -/
import Derived.Test.YtdldoghcbnkkjaaGreatDoorPBigintChecksx3
import Derived.Test.YtdldoghcbnkkjaaGreatDoorOpsAll
import Derived.Test.YtdldoghcbnkkjaaGreatDoorPowAll
import Derived.Test.YtdldoghcbnkkjaaGreatDoorAbs
import Derived.Test.YtdldoghcbnkkjaaGreatDoorSmallAll
import Derived.Test.YtdldoghcbnkkjaaGreatDoorAwake01
import Derived.OpenShut
set_option linter.unusedVariables false
set_option linter.unusedSimpArgs false
namespace Go.Proofs.YtdldoghcbnkkjaaGreatDoor.Pure
open Go.RowKit Go.Proofs.YtdldoghcbnkkjaaGreatDoor.PBigintChecks Go.Proofs.YtdldoghcbnkkjaaGreatDoorW.PrintWords Go.Proofs.YtdldoghcbnkkjaaGreatDoorW.PrintLast

theorem bt_get (a : ByteArray) (i : Nat) (c : UInt8) (h : a.data.toList[i]? = some c) : bt a i = (c.toNat : Int) := by
  have hl := (List.getElem?_eq_some_iff.1 h).1
  have hs : i < a.size := by rw [Lib.size_eq]; exact hl
  unfold bt
  rw [Int.toNat_natCast, dif_pos hs]
  have e : a[i] = c := by
    have := (List.getElem?_eq_some_iff.1 h).2
    rw [← this, ByteArray.getElem_eq_getElem_data]
    simp
  rw [e]
theorem toList_data (a : ByteArray) : a.toList = a.data.toList := by simp [ByteArray.toList_eq]
theorem form_loop (a : ByteArray) (h : a.size ≤ 140737488351232) : ∀ (k i : Nat), i ≤ a.size → a.size - i < k → surveyorref01_Form.l0 k a i = some (allDig (a.data.toList.drop i))
  | 0, i, _, hk => by omega
  | k + 1, i, hi, hk => by
    unfold surveyorref01_Form.l0
    have hz := Lib.size_eq a
    by_cases hlt : i < a.size
    · rw [if_pos (by omega), if_pos (by omega)]
      have hl : i < a.data.toList.length := by rw [← hz]; exact hlt
      have hd := List.drop_eq_getElem_cons hl
      have hb := bt_get a i _ (List.getElem?_eq_getElem hl)
      generalize a.data.toList[i] = c at hd hb
      have ih := form_loop a h k (i + 1) (by omega) (by omega)
      have hw : wrap64 ((i : Int) + 1) = ((i + 1 : Nat) : Int) := by unfold wrap64; omega
      rw [hb, hd, hw, ih]
      show _ = some (List.all (c :: _) isDig)
      rw [List.all_cons]
      by_cases h1 : (c.toNat : Int) < 48
      · have : isDig c = false := by simp [isDig]; omega
        rw [if_pos h1, this]; rfl
      · by_cases h2 : (c.toNat : Int) > 57
        · have : isDig c = false := by simp [isDig]; omega
          rw [if_neg h1, if_pos h2, this]; rfl
        · have : isDig c = true := by simp [isDig]; omega
          rw [if_neg h1, if_neg h2, this]; rfl
    · rw [if_neg (by omega), List.drop_of_length_le (by rw [← hz]; omega)]; rfl
theorem form_j1 (a : ByteArray) (h : a.size ≤ 140737488351232) (st : Nat) (hst : st ≤ a.size) (k : Nat) (hk : a.size + 2 ≤ k) : surveyorref01_Form.j1 (k + 1) a st = some (!(a.data.toList.drop st).isEmpty && !((a.data.toList.drop st).head? == some 48) && allDig (a.data.toList.drop st)) := by
  have hz := Lib.size_eq a
  obtain ⟨k, rfl⟩ : ∃ j, k = j + 1 := ⟨k - 1, by omega⟩
  simp only [surveyorref01_Form.j1]
  by_cases he : st = a.size
  · rw [if_pos (by omega), List.drop_of_length_le (by rw [← hz]; omega)]
    simp only [surveyorref01_Form.j2]
    rfl
  · have hl : st < a.data.toList.length := by rw [← hz]; omega
    have hd := List.drop_eq_getElem_cons hl
    have hb := bt_get a st _ (List.getElem?_eq_getElem hl)
    have hloop := form_loop a h k st hst (by omega)
    rw [if_neg (by omega), if_pos (by omega), if_pos (by omega), hb]
    simp only [surveyorref01_Form.j2]
    rw [hloop]
    generalize a.data.toList[st] = c at hd hb
    rw [hd]
    by_cases hc : c = 48
    · subst hc; rfl
    · have hc2 : c.toNat ≠ 48 := fun e => hc (u8_ext e)
      have h1 : ((c.toNat : Int) == 48) = false := by simp; omega
      rw [h1]
      simp [hc]
theorem ref_form (a : ByteArray) (h : a.size ≤ 140737488351232) (k : Nat) (hk : a.size + 2 ≤ k) : surveyorref01_Form.f (k + 2) a = some (canon a.data.toList) := by
  unfold surveyorref01_Form.f
  have hz := Lib.size_eq a
  rw [toList_data]
  by_cases h48 : a.data.toList = [48]
  · rw [if_pos h48, h48]; rfl
  · rw [if_neg h48, canon_eq]
    by_cases h0 : a.size = 0
    · have hn : a.data.toList = [] := List.eq_nil_of_length_eq_zero (by rw [← hz]; exact h0)
      rw [if_neg (by omega), hn]
      simp only [surveyorref01_Form.j0]
      rw [if_neg (by simp)]
      have := form_j1 a h 0 (by omega) k hk
      rw [hn] at this
      exact this
    · rw [if_pos (by omega)]
      try rw [if_pos (by omega)]
      obtain ⟨c, r, hl⟩ : ∃ c r, a.data.toList = c :: r := by
        cases hq : a.data.toList with
        | nil => rw [hq] at hz; exact absurd hz h0
        | cons c r => exact ⟨c, r, rfl⟩
      have hb := bt_get a 0 c (by rw [hl]; rfl)
      rw [show ((0 : Nat) : Int) = 0 from rfl] at hb
      simp only [surveyorref01_Form.j0]
      rw [hb]
      by_cases hc : c = 45
      · subst hc
        have e1 : Lib.hasPrefix a.data.toList [45] = true := by rw [hl]; simp [Lib.hasPrefix]
        have e2 : Lib.trimPrefix a.data.toList [45] = r := by rw [Lib.trimPrefix, if_pos e1, hl]; rfl
        have := form_j1 a h 1 (by omega) k hk
        rw [if_pos (by decide), e1, e2]
        rw [hl] at this
        rw [show ((1 : Int)) = ((1 : Nat) : Int) from rfl, this]
        show some (!r.isEmpty && !(r.head? == some 48) && allDig r) = _
        by_cases hr : r = [48]
        · rw [if_pos hr, hr]; rfl
        · rw [if_neg hr]
      · have hc2 : c.toNat ≠ 45 := fun e => hc (u8_ext e)
        have e1 : Lib.hasPrefix a.data.toList [45] = false := by rw [hl]; simp [Lib.hasPrefix, List.isPrefixOf, Ne.symm hc]
        have e2 : Lib.trimPrefix a.data.toList [45] = a.data.toList := by rw [Lib.trimPrefix, if_neg (by rw [e1]; simp)]
        have := form_j1 a h 0 (by omega) k hk
        have h1 : ((c.toNat : Int) == 45) = false := by simp; omega
        rw [h1, if_neg (by decide), e2, if_neg h48]
        exact this
theorem ref_negative (a : ByteArray) (h0 : 0 < a.size) : surveyorref01_Negative.f a = some (Lib.hasPrefix a.data.toList [45]) := by
  unfold surveyorref01_Negative.f
  have hz := Lib.size_eq a
  obtain ⟨c, r, hl⟩ : ∃ c r, a.data.toList = c :: r := by
    cases hq : a.data.toList with
    | nil => rw [hq] at hz; exact absurd hz (by simp only [List.length_nil]; omega)
    | cons c r => exact ⟨c, r, rfl⟩
  have hb := bt_get a 0 c (by rw [hl]; rfl)
  rw [show ((0 : Nat) : Int) = 0 from rfl] at hb
  rw [if_pos (by omega), hb, hl]
  by_cases hc : c = 45
  · subst hc; rfl
  · have hc2 : c.toNat ≠ 45 := fun e => hc (u8_ext e)
    have h1 : ((c.toNat : Int) == 45) = false := by simp; omega
    rw [h1]; simp [Lib.hasPrefix, List.isPrefixOf, Ne.symm hc]
theorem canon_size {a : ByteArray} (h : canon a.data.toList = true) : 0 < a.size := by
  rw [Lib.size_eq]
  cases hl : a.data.toList with
  | nil => rw [hl] at h; exact absurd h (by decide)
  | cons c r => simp
theorem ref_digits (a : ByteArray) (h : a.size ≤ 140737488351232) (h0 : 0 < a.size) : surveyorref01_Digits.f a = some (digN a : Int) := by
  unfold surveyorref01_Digits.f digN
  have hz := Lib.size_eq a
  rw [ref_negative a h0, Option.bind_some]
  by_cases hp : Lib.hasPrefix a.data.toList [45] = true
  · rw [if_pos hp, Lib.trimPrefix, if_pos hp, List.length_drop, ← hz]
    show some (wrap64 ((a.size : Int) - 1)) = some ((a.size - 1 : Nat) : Int)
    congr 1
    unfold wrap64; omega
  · rw [if_neg hp, Lib.trimPrefix, if_neg hp, ← hz]
theorem ref_check (a : ByteArray) (h : a.size ≤ 140737488351232) (k : Nat) (hk : a.size + 4 ≤ k) : surveyorref01_Check.f k a = some (chkI a) := by
  obtain ⟨k, rfl⟩ : ∃ j, k = j + 2 := ⟨k - 2, by omega⟩
  unfold surveyorref01_Check.f chkI
  rw [ref_form a h k (by omega), Option.bind_some]
  by_cases hc : canon a.data.toList = true
  · have h0 := canon_size hc
    rw [if_pos hc, if_pos hc, ref_digits a h h0, Option.bind_some]
    by_cases hd : 4096 < digN a
    · rw [if_pos (by omega), if_pos hd]
    · rw [if_neg (by omega), if_neg hd]
  · rw [if_neg hc, if_neg hc]
theorem few_step (k : Nat) (l : List ByteArray) (n i : Int) (x : ByteArray) (hi : i < n) (h0 : 0 ≤ i) (hl : i < (l.length : Int)) (hx : rdOf ByteArray.empty l i = x) : surveyorlaw01_few.l0 (k + 1) l n i = if x.size ≤ 250 then surveyorlaw01_few.l0 k l n (wrap64 (i + 1)) else some false := by
  conv => lhs; unfold surveyorlaw01_few.l0
  rw [if_pos hi, if_pos h0, if_pos hl, hx]
  unfold surveyorref01_Few.f
  rw [Option.bind_some]
  by_cases h : x.size ≤ 250
  · rw [if_pos (by simpa using (show (x.size : Int) ≤ 250 by omega)), if_pos h]
  · rw [if_neg (by simp; omega), if_neg h]
theorem few_end (k : Nat) (l : List ByteArray) (n i : Int) (hi : ¬ i < n) : surveyorlaw01_few.l0 (k + 1) l n i = some true := by
  conv => lhs; unfold surveyorlaw01_few.l0
  rw [if_neg hi]
theorem few1 (a : ByteArray) (k : Nat) : surveyorlaw01_few.f (k + 2) [a] = some (decide (a.size ≤ 250)) := by
  unfold surveyorlaw01_few.f
  rw [few_step (k + 1) [a] _ 0 a (by simp) (by omega) (by simp) rfl, show wrap64 ((0 : Int) + 1) = 1 from by decide +kernel]
  by_cases ha : a.size ≤ 250
  · rw [if_pos ha, few_end k _ _ _ (by simp), decide_eq_true ha]
  · rw [if_neg ha, decide_eq_false ha]
theorem few2 (a b : ByteArray) (k : Nat) : surveyorlaw01_few.f (k + 3) [a, b] = some (decide (a.size ≤ 250 ∧ b.size ≤ 250)) := by
  unfold surveyorlaw01_few.f
  rw [few_step (k + 2) [a, b] _ 0 a (by simp) (by omega) (by simp) rfl, show wrap64 ((0 : Int) + 1) = 1 from by decide +kernel, few_step (k + 1) [a, b] _ 1 b (by simp) (by omega) (by simp) rfl, show wrap64 ((1 : Int) + 1) = 2 from by decide +kernel, few_end k _ _ _ (by simp)]
  by_cases ha : a.size ≤ 250
  · by_cases hb : b.size ≤ 250
    · simp [ha, hb]
    · simp [ha, hb]
  · simp [ha]
theorem few3 (a b c : ByteArray) (k : Nat) : surveyorlaw01_few.f (k + 4) [a, b, c] = some (decide (a.size ≤ 250 ∧ b.size ≤ 250 ∧ c.size ≤ 250)) := by
  unfold surveyorlaw01_few.f
  rw [few_step (k + 3) [a, b, c] _ 0 a (by simp) (by omega) (by simp) rfl, show wrap64 ((0 : Int) + 1) = 1 from by decide +kernel, few_step (k + 2) [a, b, c] _ 1 b (by simp) (by omega) (by simp) rfl, show wrap64 ((1 : Int) + 1) = 2 from by decide +kernel, few_step (k + 1) [a, b, c] _ 2 c (by simp) (by omega) (by simp) rfl, show wrap64 ((2 : Int) + 1) = 3 from by decide +kernel, few_end k _ _ _ (by simp)]
  by_cases ha : a.size ≤ 250
  · by_cases hb : b.size ≤ 250
    · by_cases hc : c.size ≤ 250
      · simp [ha, hb, hc]
      · simp [ha, hb, hc]
    · simp [ha, hb]
  · simp [ha]
theorem text_zero_iff (y : Int) : ((text y).toList = ([48] : List UInt8)) ↔ y = 0 := by
  constructor
  · intro h
    refine text_inj ?_
    rw [text_0]
    refine bytes_ext ?_
    rw [← toList_data, h]
  · intro h
    rw [h, text_0, toList_data]
theorem text_split (x : Int) : ∃ s, (text x).data.toList = s ++ Lib.decDigits x.natAbs ∧ (s = [] ∨ s = [45]) ∧ (s = [45] ↔ x < 0) := by
  rw [text_list]
  unfold Lib.itoa
  split
  · rename_i h; exact ⟨[45], rfl, .inr rfl, by simp [h]⟩
  · rename_i h; exact ⟨[], by rw [show x.toNat = x.natAbs by omega]; rfl, .inl rfl, by simp [h]⟩
theorem ref_sign (x : Int) {m : Nat} (hx : Bd m x) (hm : 1 ≤ m) : surveyorref01_Sign.f (text x) = some (sgnI x) := by
  unfold surveyorref01_Sign.f
  by_cases h : x = 0
  · rw [if_pos ((text_zero_iff x).2 h), h]; rfl
  · rw [if_neg (fun q => h ((text_zero_iff x).1 q))]
    obtain ⟨s, h1, h2, h3⟩ := text_split x
    have hne := decDigits_ne_nil x.natAbs
    have hsz : 0 < (text x).size := by
      rw [Lib.size_eq, h1, List.length_append]
      have := List.length_pos_iff.2 hne
      omega
    rw [ref_negative _ hsz, Option.bind_some, h1]
    unfold sgnI
    rcases h2 with rfl | rfl
    · have hx0 : ¬ x < 0 := fun q => by have := h3.2 q; cases this
      have hp : Lib.hasPrefix ([] ++ Lib.decDigits x.natAbs) [45] = false := by
        have hm := decDigits_no_minus x.natAbs
        rw [List.nil_append]
        generalize Lib.decDigits x.natAbs = l at hm hne
        cases l with
        | nil => exact absurd rfl hne
        | cons c r =>
          by_cases hc : c = 45
          · subst hc; exact absurd rfl (hm r)
          · simp [Lib.hasPrefix, List.isPrefixOf, Ne.symm hc]
      rw [hp, if_neg (by simp), if_neg hx0, if_neg h]
    · have hx0 : x < 0 := h3.1 rfl
      have hp : Lib.hasPrefix ([45] ++ Lib.decDigits x.natAbs) [45] = true := by simp [Lib.hasPrefix]
      rw [hp, if_pos rfl, if_pos hx0]
/-! The reference's Whole. -/
/-- The digits of a magnitude, none for 0. -/
def wD (u : Nat) : List UInt8 := if u = 0 then [] else Lib.decDigits u
theorem wD_step (u : Nat) (h : u ≠ 0) : wD u = wD (u / 10) ++ [UInt8.ofNat (48 + u % 10)] := by
  unfold wD
  rw [if_neg h]
  by_cases h1 : u < 10
  · rw [if_pos (by omega), decDigits_small h1, show u % 10 = u by omega]; rfl
  · rw [if_neg (by omega), decDigits_big h1]
theorem ten_extract : ∀ d : Fin 10, (⟨#[48, 49, 50, 51, 52, 53, 54, 55, 56, 57]⟩ : ByteArray).extract d.val (d.val + 1) = ⟨#[UInt8.ofNat (48 + d.val)]⟩ := by decide
theorem tmod_ten (m : Int) : mx (Int.tmod m 10) (wrap64 (-(Int.tmod m 10))) = ((m.natAbs % 10 : Nat) : Int) := by
  have h : (0 ≤ m ∧ Int.tmod m 10 = m % 10) ∨ (m < 0 ∧ Int.tmod m 10 = -((-m) % 10)) := by
    by_cases h0 : 0 ≤ m
    · exact .inl ⟨h0, Int.tmod_eq_emod_of_nonneg h0⟩
    · refine .inr ⟨by omega, ?_⟩
      have := Int.neg_tmod (a := -m) (b := 10)
      rw [Int.neg_neg] at this
      rw [this, Int.tmod_eq_emod_of_nonneg (by omega)]
  unfold mx wrap64
  rcases h with ⟨h1, h2⟩ | ⟨h1, h2⟩ <;> rw [h2] <;> split <;> omega
theorem tdiv_ten (m : Int) : (Int.tdiv m 10).natAbs = m.natAbs / 10 := by
  rw [Int.natAbs_tdiv]; rfl
theorem whole_loop (n : Int) : ∀ (k u F : Nat) (m : Int) (acc : ByteArray), m.natAbs = u → u ≤ 9223372036854775808 → u < 10 ^ k → acc.size + k ≤ 1000 → k + 1 ≤ F → ∃ r, surveyorref01_Whole.l0 F n acc m = some r ∧ r.data.toList = (if n < 0 then [45] else []) ++ (wD u ++ acc.data.toList)
  | k, 0, F, m, acc, hm, _, _, ha, hF => by
    obtain ⟨F, rfl⟩ : ∃ i, F = i + 1 := ⟨F - 1, by omega⟩
    obtain rfl : m = 0 := by omega
    rw [surveyorref01_Whole.l0, if_pos rfl]
    by_cases hn : n < 0
    · rw [if_pos hn, if_pos hn, if_pos (by omega)]
      exact ⟨_, rfl, by simp [wD]⟩
    · rw [if_neg hn, if_neg hn]
      exact ⟨_, rfl, by simp [wD]⟩
  | 0, u + 1, F, m, acc, hm, _, hk, _, _ => by simp at hk
  | k + 1, u + 1, F, m, acc, hm, hu, hk, ha, hF => by
    obtain ⟨F, rfl⟩ : ∃ i, F = i + 1 := ⟨F - 1, by omega⟩
    have hlt : (u + 1) / 10 < 10 ^ k := by
      rw [Nat.pow_succ] at hk
      exact Nat.div_lt_of_lt_mul (by rw [Nat.mul_comm]; exact hk)
    have hul : (u + 1) / 10 ≤ 9223372036854775808 := by clear hk hlt; omega
    clear hk
    have hm0 : m ≠ 0 := by intro q; rw [q] at hm; cases hm
    have hd : (m.natAbs % 10 : Nat) < 10 := Nat.mod_lt _ (Nat.zero_lt_succ 9)
    have hx := ten_extract ⟨m.natAbs % 10, hd⟩
    have hw1 : wrap64 (((m.natAbs % 10 : Nat) : Int) + 1) = ((m.natAbs % 10 + 1 : Nat) : Int) := by clear hlt; unfold wrap64; omega
    have hb : -9223372036854775808 ≤ Int.tdiv m 10 ∧ Int.tdiv m 10 ≤ 9223372036854775807 := by have := tdiv_ten m; clear hlt hx; omega
    have hw2 : wrap64 (Int.tdiv m 10) = Int.tdiv m 10 := by clear hlt hx; unfold wrap64; omega
    rw [surveyorref01_Whole.l0, if_neg hm0, tmod_ten, hw1, hw2]
    have hp1 : (0 : Int) ≤ ((m.natAbs % 10 : Nat) : Int) := Int.natCast_nonneg _
    have hs1 : (⟨#[UInt8.ofNat (48 + m.natAbs % 10)]⟩ : ByteArray).size = 1 := rfl
    have hrest : ∃ r, surveyorref01_Whole.l0 F n (⟨#[UInt8.ofNat (48 + m.natAbs % 10)]⟩ ++ acc) (Int.tdiv m 10) = some r ∧ r.data.toList = (if n < 0 then [45] else []) ++ (wD (u + 1) ++ acc.data.toList) := by
      obtain ⟨r, h1, h2⟩ := whole_loop n k ((u + 1) / 10) F (Int.tdiv m 10) (⟨#[UInt8.ofNat (48 + m.natAbs % 10)]⟩ ++ acc) (by rw [tdiv_ten, hm]) hul hlt (by rw [ByteArray.size_append, hs1]; clear hlt; omega) (by clear hlt; omega)
      refine ⟨r, h1, ?_⟩
      rw [h2, wD_step (u + 1) (Nat.succ_ne_zero u), hm]
      simp
    clear hlt
    rw [show (((m.natAbs % 10 : Nat) : Int)).toNat = m.natAbs % 10 from Int.toNat_natCast _, show (((m.natAbs % 10 + 1 : Nat) : Int)).toNat = m.natAbs % 10 + 1 from Int.toNat_natCast _]
    rw [show (⟨#[48, 49, 50, 51, 52, 53, 54, 55, 56, 57]⟩ : ByteArray).extract (m.natAbs % 10) (m.natAbs % 10 + 1) = ⟨#[UInt8.ofNat (48 + m.natAbs % 10)]⟩ from hx]
    clear hx
    rw [if_pos (by omega), if_pos (by omega)]
    first
      | exact hrest
      | (rw [if_pos (by omega), if_pos (by rw [hs1]; omega)]; exact hrest)
theorem whole_text (n : Int) (h1 : -9223372036854775808 ≤ n) (h2 : n ≤ 9223372036854775807) (k : Nat) (hk : 30 ≤ k) : surveyorref01_Whole.f k n = some (text n) := by
  unfold surveyorref01_Whole.f
  by_cases h0 : n = 0
  · rw [if_pos h0, h0, text_0]
  · rw [if_neg h0]
    have hb : n.natAbs < 10 ^ 20 := Nat.lt_of_lt_of_le (show n.natAbs < 100000000000000000000 by omega) (by decide +kernel)
    obtain ⟨r, e1, e2⟩ := whole_loop n 20 n.natAbs k n ⟨#[]⟩ rfl (by clear hb; omega) hb (by decide) (by omega)
    clear hb
    rw [e1]
    congr 1
    refine bytes_ext ?_
    rw [e2, text_list]
    unfold wD Lib.itoa
    rw [if_neg (show ¬ n.natAbs = 0 by omega)]
    by_cases hn : n < 0
    · simp [hn]
    · simp [hn, show n.toNat = n.natAbs by omega]
/-! The reference's number. -/
theorem num_step (V c : Nat) (hV : V < 100000000000000000) (h1 : 48 ≤ c) (h2 : c ≤ 57) : wrap64 (wrap64 ((V : Int) * 10) + ((c : Int) - 48) % 256) = ((V * 10 + (c - 48) : Nat) : Int) := by unfold wrap64; omega
theorem small17 (V : Nat) {l : Nat} (h : V < 10 ^ l) (hl : l ≤ 17) : V < 100000000000000000 :=
  Nat.lt_of_lt_of_le h (Nat.le_trans (Nat.pow_le_pow_right (Nat.zero_lt_succ 9) hl) (by decide +kernel))
theorem number_loop (a : ByteArray) (s D : List UInt8) (hs : s.length ≤ 1) (h : a.data.toList = s ++ D) (hD : allDig D = true) (hl : D.length ≤ 17) (q : Nat) : ∀ (j k : Nat), j + q = D.length → q + 1 ≤ k → surveyorref01_number.l0 k a (dval (D.take j) : Int) ((s.length + j : Nat) : Int) = (surveyorref01_Negative.f a).bind fun t => if t = true then some (wrap64 (-(dval D : Int))) else some (dval D : Int) := by
  have hsz := Lib.size_eq a
  rw [h, List.length_append] at hsz
  induction q with
  | zero =>
    intro j k hj hk
    obtain ⟨k, rfl⟩ : ∃ i, k = i + 1 := ⟨k - 1, by omega⟩
    rw [surveyorref01_number.l0, if_neg (by omega), show D.take j = D from List.take_of_length_le (by omega)]
  | succ q IH =>
    intro j k hj hk
    obtain ⟨k, rfl⟩ : ∃ i, k = i + 1 := ⟨k - 1, by omega⟩
    have hlt : j < D.length := by omega
    have hc : a.data.toList[s.length + j]? = some D[j] := by
      rw [h, List.getElem?_append_right (by omega), show s.length + j - s.length = j by omega, List.getElem?_eq_getElem hlt]
    have hb := bt_get a (s.length + j) _ hc
    have c1 : ((s.length + j : Nat) : Int) < (a.size : Int) := by clear IH hb hc; omega
    have c2 : (0 : Int) ≤ ((s.length + j : Nat) : Int) := Int.natCast_nonneg _
    have hdig := (isDig_iff _).1 (List.all_eq_true.1 hD _ (List.getElem_mem hlt))
    have c3 : ¬ (D[j].toNat : Int) = 45 := by clear IH hb hc; omega
    have hdt : allDig (D.take j) = true := allDig_sub hD (fun c hc => List.mem_of_mem_take hc)
    have hnx : dval (D.take (j + 1)) = dval (D.take j) * 10 + (D[j].toNat - 48) := by
      rw [List.take_succ_eq_append_getElem hlt, dval_snoc]
    have e1 := num_step (dval (D.take j)) D[j].toNat (small17 _ (dval_lt _ hdt) (by rw [List.length_take]; omega)) hdig.1 hdig.2
    rw [← hnx] at e1
    have e2 : wrap64 (((s.length + j : Nat) : Int) + 1) = ((s.length + (j + 1) : Nat) : Int) := by clear e1 hdig hb hc IH; unfold wrap64; omega
    have ih := IH (j + 1) k (by omega) (by omega)
    rw [surveyorref01_number.l0, if_pos c1, if_pos c2, hb, if_neg c3, e1, e2, ih]
theorem number_text {x : Int} (hx : Bd 17 x) (k : Nat) (hk : 25 ≤ k) : surveyorref01_number.f k (text x) = some x := by
  obtain ⟨s, h1, h2, h3⟩ := text_split x
  have hd := digits_le hx (by omega)
  have hne := decDigits_ne_nil x.natAbs
  have hsz : 0 < (text x).size := by
    rw [Lib.size_eq, h1, List.length_append]
    have := List.length_pos_iff.2 hne
    omega
  have hsl : s.length ≤ 1 := by rcases h2 with rfl | rfl <;> simp
  have hxx : x.natAbs < 100000000000000000 := Nat.lt_of_lt_of_le hx (by decide +kernel)
  clear hx
  unfold surveyorref01_number.f
  have fin : ∀ k, (Lib.decDigits x.natAbs).length + 1 ≤ k → surveyorref01_number.l0 k (text x) 0 ((s.length : Nat) : Int) = some x := fun k hk => by
    have := number_loop (text x) s _ hsl h1 (allDig_decDigits _) hd (Lib.decDigits x.natAbs).length 0 k (by omega) hk
    rw [dval_decDigits] at this
    have e0 : (dval ((Lib.decDigits x.natAbs).take 0) : Int) = 0 := rfl
    rw [e0, Nat.add_zero] at this
    rw [this, ref_negative _ hsz, Option.bind_some, h1]
    rcases h2 with rfl | rfl
    · have hx0 : ¬ x < 0 := fun q => by have := h3.2 q; cases this
      have hp : Lib.hasPrefix ([] ++ Lib.decDigits x.natAbs) [45] = false := by
        have hm := decDigits_no_minus x.natAbs
        rw [List.nil_append]
        generalize Lib.decDigits x.natAbs = l at hm hne
        cases l with
        | nil => exact absurd rfl hne
        | cons c r =>
          by_cases hc : c = 45
          · subst hc; exact absurd rfl (hm r)
          · simp [Lib.hasPrefix, List.isPrefixOf, Ne.symm hc]
      rw [hp, if_neg (by simp)]
      congr 1
      omega
    · have hx0 : x < 0 := h3.1 rfl
      have hp : Lib.hasPrefix ([45] ++ Lib.decDigits x.natAbs) [45] = true := by simp [Lib.hasPrefix]
      rw [hp, if_pos rfl]
      congr 1
      unfold wrap64
      omega
  rcases h2 with rfl | rfl
  · exact fin k (by omega)
  · obtain ⟨k, rfl⟩ : ∃ i, k = i + 1 := ⟨k - 1, by omega⟩
    have hb := bt_get (text x) 0 45 (by rw [h1]; rfl)
    rw [show ((0 : Nat) : Int) = 0 from rfl] at hb
    rw [surveyorref01_number.l0, if_pos (by omega), if_pos (by omega), hb, if_pos (show ((UInt8.toNat 45 : Nat) : Int) = 45 from rfl), show wrap64 (0 + 1) = 1 from by decide +kernel]
    exact fin k (by omega)
theorem ref_small (a : ByteArray) (ha : a.size ≤ 250) (k : Nat) (hk : 300 ≤ k) : surveyorref01_Small.f k a = some (smV a, smE a) := by
  unfold surveyorref01_Small.f
  rw [ref_check a (by omega) k (by omega), Option.bind_some]
  by_cases hc : chkI a = 0
  · obtain ⟨x, rfl, bx⟩ := word_text ha hc
    have hne := decDigits_ne_nil x.natAbs
    have hsz : 0 < (text x).size := canon_size (canon_text x).1
    unfold smV smE
    rw [if_pos hc, if_pos hc, if_pos hc, ival_text]
    unfold surveyorref01_Int.f surveyorref01_short.f
    rw [ref_digits _ (by omega) hsz, Option.bind_some, Option.bind_some, digN_text]
    by_cases hl : (Lib.decDigits x.natAbs).length ≤ 17
    · have b17 : Bd 17 x := lt_of_digits _ _ hl
      rw [decide_eq_true (by omega), if_pos rfl, number_text b17 k (by omega), Option.bind_some]
      by_cases h1 : x > 1048576
      · rw [if_pos h1, if_pos (.inl h1), if_pos (.inl h1)]; rfl
      · rw [if_neg h1]
        by_cases h2 : x < -1048576
        · rw [if_pos h2, if_pos (.inr h2), if_pos (.inr h2)]; rfl
        · rw [if_neg h2, if_neg (by omega), if_neg (by omega)]; rfl
    · rw [decide_eq_false (by omega), if_neg (by simp)]
      have hbig : 1048576 < x.natAbs := by
        by_cases h : 1048576 < x.natAbs
        · exact h
        · exact absurd (digits_le (u := x.natAbs) (m := 17) (by omega) (by omega)) hl
      rw [if_pos (by omega), if_pos (by omega)]; rfl
  · unfold smV smE
    rw [if_neg hc, if_neg hc, if_neg hc]
theorem ref_negated {x : Int} (hx : Bd 250 x) : surveyorref01_Negated.f (text x) = some (text (-x)) := by
  have hs := size_text hx (by omega)
  unfold surveyorref01_Negated.f
  by_cases h0 : x = 0
  · rw [if_pos ((text_zero_iff x).2 h0), h0]; rfl
  · rw [if_neg (fun q => h0 ((text_zero_iff x).1 q))]
    obtain ⟨s, h1, h2, h3⟩ := text_split x
    obtain ⟨s', g1, g2, g3⟩ := text_split (-x)
    have hsz : 0 < (text x).size := canon_size (canon_text x).1
    have hsg := ref_sign x hx (by omega)
    unfold surveyorref01_Sign.f at hsg
    rw [if_neg (fun q => h0 ((text_zero_iff x).1 q)), ref_negative _ hsz, Option.bind_some] at hsg
    rw [ref_negative _ hsz, Option.bind_some]
    rw [Int.natAbs_neg] at g1
    by_cases hp : Lib.hasPrefix (text x).data.toList [45] = true
    · rw [if_pos hp] at hsg ⊢
      have hx0 : x < 0 := by
        have := Option.some.inj hsg
        unfold sgnI at this
        by_cases h : x < 0
        · exact h
        · rw [if_neg h, if_neg h0] at this; omega
      have es : s = [45] := h3.2 hx0
      have es' : s' = [] := by
        rcases g2 with h | h
        · exact h
        · have := g3.1 h; omega
      rw [if_pos (by omega)]
      congr 1
      refine bytes_ext ?_
      have hz := Lib.size_eq (text x)
      rw [h1, es] at hz
      rw [g1, es', List.nil_append, Lib.extract_data, h1, es]
      simp [hz]
    · rw [if_neg hp] at hsg ⊢
      have hx0 : 0 < x := by
        have := Option.some.inj hsg
        unfold sgnI at this
        by_cases h : x < 0
        · rw [if_pos h] at this; omega
        · omega
      have es : s = [] := by
        rcases h2 with h | h
        · exact h
        · have := h3.1 h; omega
      have es' : s' = [45] := g3.2 (by omega)
      rw [if_pos (by omega)]
      congr 1
      refine bytes_ext ?_
      rw [g1, es']
      simp [h1, es]
theorem ref_magnitude {x : Int} (hx : Bd 250 x) : surveyorref01_Magnitude.f (text x) = some (text (x.natAbs : Int)) := by
  have hs := size_text hx (by omega)
  unfold surveyorref01_Magnitude.f
  have hsz : 0 < (text x).size := canon_size (canon_text x).1
  rw [ref_negative _ hsz, Option.bind_some, ← abs_text]
  by_cases hp : Lib.hasPrefix (text x).data.toList [45] = true
  · rw [if_pos hp, if_pos (by omega)]
    congr 1
    refine bytes_ext ?_
    have hz := Lib.size_eq (text x)
    unfold absS Lib.trimPrefix
    rw [if_pos hp, Lib.extract_data, hz, List.take_of_length_le (by rw [List.length_drop]; omega)]
    first
      | rfl
      | simp
  · rw [if_neg hp]
    congr 1
    refine bytes_ext ?_
    unfold absS Lib.trimPrefix
    rw [if_neg hp]
set_option maxHeartbeats 1000000 in
theorem BigintChecks : surveyorlaw01_BigintChecks.Pure := by
  intro a n h0 hn
  have bn := bounds_i64 hn
  refine ⟨a.size + 601, ?_⟩
  obtain ⟨K, hK⟩ : ∃ K, K = a.size + 600 := ⟨_, rfl⟩
  rw [show a.size + 601 = K + 1 from by omega]
  unfold surveyorlaw01_BigintChecks.f
  have hf := few1 a (K - 1)
  rw [show K - 1 + 2 = K + 1 from by omega] at hf
  rw [hf, Option.bind_some]
  by_cases hg : a.size ≤ 250
  · rw [decide_eq_true hg, if_pos rfl]
    have h48 : chkI ⟨#[48]⟩ = 0 := by decide
    have i48 : ivalB ⟨#[48]⟩ = 0 := by decide
    have hc2 : chk2I ⟨#[48]⟩ a = chkI a := by unfold chk2I; rw [if_pos h48]
    have htwo : two63 ⟨#[48]⟩ a := ⟨by decide, by omega⟩
    rw [ref_check a h0 (K + 1) (by omega), Option.bind_some]
    unfold bigint_Sign.f bigint_Neg.f bigint_Abs.f bigint_SmallA.f bigint_Check.f bigint_Sub.f
    have hs63 : a.size ≤ 9223372036854775807 := by omega
    have hs48 : a.size ≤ 281474976710656 := by omega
    rw [if_pos hs63, if_pos htwo, if_pos hs63, if_pos hs48, if_pos hs63, hc2, i48, ref_small a hg (K + 1) (by omega)]
    have hof : bigint_Of.f n = some (text n) := if_pos ⟨bn.1, bn.2⟩
    rw [hof, whole_text n bn.1 bn.2 (K + 1) (by omega)]
    by_cases hc : chkI a = 0
    · obtain ⟨x, rfl, bx⟩ := word_text hg hc
      have hz : (0 : Int) + -x = -x := by omega
      have hwr := wr_ok (m := 250) bx.neg (by omega)
      rw [hc, ival_text, abs_text, hz, hwr.1, hwr.2]
      simp only [if_true, Option.bind_some, bne_self_eq_false]
      rw [surveyorlaw01_BigintChecks.j0, if_neg (by simp), if_pos rfl, awake_val, Option.bind_some, if_pos rfl, ref_sign x bx (by omega), Option.bind_some, if_pos rfl, ref_negated bx, Option.bind_some, if_pos rfl, ref_magnitude bx, Option.bind_some]
      simp
    · rw [if_neg hc, if_neg hc, if_neg hc]
      simp only [if_true, Option.bind_some, bne_self_eq_false]
      rw [surveyorlaw01_BigintChecks.j0, if_neg (by simp), if_neg hc, awake_val, Option.bind_some, if_pos rfl, if_pos rfl, if_pos (by rw [toList_data]), toList_data]
      rfl
  · rw [decide_eq_false hg, if_neg (by simp), awake_val]
    rfl
end Go.Proofs.YtdldoghcbnkkjaaGreatDoor.Pure
