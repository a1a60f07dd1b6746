/- The reference's arithmetic of digits: plain laws. -/
import Derived.Test.YtignanmmgaldeaaGreatDoorLPRefAx0
import Derived.Test.YtignanmmgaldeaaGreatDoorLPRefAx1
import Derived.Test.YtignanmmgaldeaaGreatDoorLPRefAx2
import Derived.Test.YtignanmmgaldeaaGreatDoorLPRefAx3
import Derived.Test.YtignanmmgaldeaaGreatDoorLPRefAx4
import Derived.Test.YtignanmmgaldeaaGreatDoorLPRefAx5
import Derived.Test.YtignanmmgaldeaaGreatDoorLOpsAll
import Derived.Test.YtignanmmgaldeaaGreatDoorLGcdAll
import Derived.OpenShut
set_option linter.unusedVariables false
set_option linter.unusedSimpArgs false
namespace Go.Proofs.YtignanmmgaldeaaGreatDoor.RefP
open Go.RowKit Go.Proofs.YtignanmmgaldeaaGreatDoor.PRefA Go.Proofs.YtignanmmgaldeaaGreatDoorW.PrintWords Go.Proofs.YtignanmmgaldeaaGreatDoorW.PrintLast
theorem bt_get (a : ByteArray) (i : Nat) (c : UInt8) (h : a.data.toList[i]? = some c) : bt a i = (c.toNat : Int) := by
  have hl := (List.getElem?_eq_some_iff.1 h).1
  have hs : i < a.size := by rw [Lib.size_eq]; exact hl
  unfold bt
  rw [Int.toNat_natCast, dif_pos hs]
  have e : a[i] = c := by
    have := (List.getElem?_eq_some_iff.1 h).2
    rw [← this, ByteArray.getElem_eq_getElem_data]
    simp
  rw [e]
theorem toList_data (a : ByteArray) : a.toList = a.data.toList := by simp [ByteArray.toList_eq]
theorem form_loop (a : ByteArray) (h : a.size ≤ 140737488351232) : ∀ (k i : Nat), i ≤ a.size → a.size - i < k → surveyorref01_Form.l0 k a i = some (allDig (a.data.toList.drop i))
  | 0, i, _, hk => by omega
  | k + 1, i, hi, hk => by
    unfold surveyorref01_Form.l0
    have hz := Lib.size_eq a
    by_cases hlt : i < a.size
    · rw [if_pos (by omega), if_pos (by omega)]
      have hl : i < a.data.toList.length := by rw [← hz]; exact hlt
      have hd := List.drop_eq_getElem_cons hl
      have hb := bt_get a i _ (List.getElem?_eq_getElem hl)
      generalize a.data.toList[i] = c at hd hb
      have ih := form_loop a h k (i + 1) (by omega) (by omega)
      have hw : wrap64 ((i : Int) + 1) = ((i + 1 : Nat) : Int) := by unfold wrap64; omega
      rw [hb, hd, hw, ih]
      show _ = some (List.all (c :: _) isDig)
      rw [List.all_cons]
      by_cases h1 : (c.toNat : Int) < 48
      · have : isDig c = false := by simp [isDig]; omega
        rw [if_pos h1, this]; rfl
      · by_cases h2 : (c.toNat : Int) > 57
        · have : isDig c = false := by simp [isDig]; omega
          rw [if_neg h1, if_pos h2, this]; rfl
        · have : isDig c = true := by simp [isDig]; omega
          rw [if_neg h1, if_neg h2, this]; rfl
    · rw [if_neg (by omega), List.drop_of_length_le (by rw [← hz]; omega)]; rfl
theorem form_j1 (a : ByteArray) (h : a.size ≤ 140737488351232) (st : Nat) (hst : st ≤ a.size) (k : Nat) (hk : a.size + 2 ≤ k) : surveyorref01_Form.j1 (k + 1) a st = some (!(a.data.toList.drop st).isEmpty && !((a.data.toList.drop st).head? == some 48) && allDig (a.data.toList.drop st)) := by
  have hz := Lib.size_eq a
  obtain ⟨k, rfl⟩ : ∃ j, k = j + 1 := ⟨k - 1, by omega⟩
  simp only [surveyorref01_Form.j1]
  by_cases he : st = a.size
  · rw [if_pos (by omega), List.drop_of_length_le (by rw [← hz]; omega)]
    simp only [surveyorref01_Form.j2]
    rfl
  · have hl : st < a.data.toList.length := by rw [← hz]; omega
    have hd := List.drop_eq_getElem_cons hl
    have hb := bt_get a st _ (List.getElem?_eq_getElem hl)
    have hloop := form_loop a h k st hst (by omega)
    rw [if_neg (by omega), if_pos (by omega), if_pos (by omega), hb]
    simp only [surveyorref01_Form.j2]
    rw [hloop]
    generalize a.data.toList[st] = c at hd hb
    rw [hd]
    by_cases hc : c = 48
    · subst hc; rfl
    · have hc2 : c.toNat ≠ 48 := fun e => hc (u8_ext e)
      have h1 : ((c.toNat : Int) == 48) = false := by simp; omega
      rw [h1]
      simp [hc]
theorem ref_form (a : ByteArray) (h : a.size ≤ 140737488351232) (k : Nat) (hk : a.size + 2 ≤ k) : surveyorref01_Form.f (k + 2) a = some (canon a.data.toList) := by
  unfold surveyorref01_Form.f
  have hz := Lib.size_eq a
  rw [toList_data]
  by_cases h48 : a.data.toList = [48]
  · rw [if_pos h48, h48]; rfl
  · rw [if_neg h48, canon_eq]
    by_cases h0 : a.size = 0
    · have hn : a.data.toList = [] := List.eq_nil_of_length_eq_zero (by rw [← hz]; exact h0)
      rw [if_neg (by omega), hn]
      simp only [surveyorref01_Form.j0]
      rw [if_neg (by simp)]
      have := form_j1 a h 0 (by omega) k hk
      rw [hn] at this
      exact this
    · rw [if_pos (by omega)]
      try rw [if_pos (by omega)]
      obtain ⟨c, r, hl⟩ : ∃ c r, a.data.toList = c :: r := by
        cases hq : a.data.toList with
        | nil => rw [hq] at hz; exact absurd hz h0
        | cons c r => exact ⟨c, r, rfl⟩
      have hb := bt_get a 0 c (by rw [hl]; rfl)
      rw [show ((0 : Nat) : Int) = 0 from rfl] at hb
      simp only [surveyorref01_Form.j0]
      rw [hb]
      by_cases hc : c = 45
      · subst hc
        have e1 : Lib.hasPrefix a.data.toList [45] = true := by rw [hl]; simp [Lib.hasPrefix]
        have e2 : Lib.trimPrefix a.data.toList [45] = r := by rw [Lib.trimPrefix, if_pos e1, hl]; rfl
        have := form_j1 a h 1 (by omega) k hk
        rw [if_pos (by decide), e1, e2]
        rw [hl] at this
        rw [show ((1 : Int)) = ((1 : Nat) : Int) from rfl, this]
        show some (!r.isEmpty && !(r.head? == some 48) && allDig r) = _
        by_cases hr : r = [48]
        · rw [if_pos hr, hr]; rfl
        · rw [if_neg hr]
      · have hc2 : c.toNat ≠ 45 := fun e => hc (u8_ext e)
        have e1 : Lib.hasPrefix a.data.toList [45] = false := by rw [hl]; simp [Lib.hasPrefix, List.isPrefixOf, Ne.symm hc]
        have e2 : Lib.trimPrefix a.data.toList [45] = a.data.toList := by rw [Lib.trimPrefix, if_neg (by rw [e1]; simp)]
        have := form_j1 a h 0 (by omega) k hk
        have h1 : ((c.toNat : Int) == 45) = false := by simp; omega
        rw [h1, if_neg (by decide), e2, if_neg h48]
        exact this
theorem ref_negative (a : ByteArray) (h0 : 0 < a.size) : surveyorref01_Negative.f a = some (Lib.hasPrefix a.data.toList [45]) := by
  unfold surveyorref01_Negative.f
  have hz := Lib.size_eq a
  obtain ⟨c, r, hl⟩ : ∃ c r, a.data.toList = c :: r := by
    cases hq : a.data.toList with
    | nil => rw [hq] at hz; exact absurd hz (by simp only [List.length_nil]; omega)
    | cons c r => exact ⟨c, r, rfl⟩
  have hb := bt_get a 0 c (by rw [hl]; rfl)
  rw [show ((0 : Nat) : Int) = 0 from rfl] at hb
  rw [if_pos (by omega), hb, hl]
  by_cases hc : c = 45
  · subst hc; rfl
  · have hc2 : c.toNat ≠ 45 := fun e => hc (u8_ext e)
    have h1 : ((c.toNat : Int) == 45) = false := by simp; omega
    rw [h1]; simp [Lib.hasPrefix, List.isPrefixOf, Ne.symm hc]
theorem canon_size {a : ByteArray} (h : canon a.data.toList = true) : 0 < a.size := by
  rw [Lib.size_eq]
  cases hl : a.data.toList with
  | nil => rw [hl] at h; exact absurd h (by decide)
  | cons c r => simp
theorem ref_digits (a : ByteArray) (h : a.size ≤ 140737488351232) (h0 : 0 < a.size) : surveyorref01_Digits.f a = some (digN a : Int) := by
  unfold surveyorref01_Digits.f digN
  have hz := Lib.size_eq a
  rw [ref_negative a h0, Option.bind_some]
  by_cases hp : Lib.hasPrefix a.data.toList [45] = true
  · rw [if_pos hp, Lib.trimPrefix, if_pos hp, List.length_drop, ← hz]
    show some (wrap64 ((a.size : Int) - 1)) = some ((a.size - 1 : Nat) : Int)
    congr 1
    unfold wrap64; omega
  · rw [if_neg hp, Lib.trimPrefix, if_neg hp, ← hz]
theorem ref_check (a : ByteArray) (h : a.size ≤ 140737488351232) (k : Nat) (hk : a.size + 4 ≤ k) : surveyorref01_Check.f k a = some (chkI a) := by
  obtain ⟨k, rfl⟩ : ∃ j, k = j + 2 := ⟨k - 2, by omega⟩
  unfold surveyorref01_Check.f chkI
  rw [ref_form a h k (by omega), Option.bind_some]
  by_cases hc : canon a.data.toList = true
  · have h0 := canon_size hc
    rw [if_pos hc, if_pos hc, ref_digits a h h0, Option.bind_some]
    by_cases hd : 4096 < digN a
    · rw [if_pos (by omega), if_pos hd]
    · rw [if_neg (by omega), if_neg hd]
  · rw [if_neg hc, if_neg hc]
theorem text_split (x : Int) : ∃ s, (text x).data.toList = s ++ Lib.decDigits x.natAbs ∧ (s = [] ∨ s = [45]) ∧ (s = [45] ↔ x < 0) := by
  rw [text_list]
  unfold Lib.itoa
  split
  · rename_i h; exact ⟨[45], rfl, .inr rfl, by simp [h]⟩
  · rename_i h; exact ⟨[], by rw [show x.toNat = x.natAbs by omega]; rfl, .inl rfl, by simp [h]⟩
theorem rd_nat (L : List Int) (q : Nat) : rd L (q : Int) = L[q]?.getD 0 := by
  unfold rd
  rw [Int.toNat_natCast, List.getD_eq_getElem?_getD]
/-- The value of a digit. -/
def dg (c : UInt8) : Int := (c.toNat : Int) - 48
/-- The digits of a magnitude, the lowest one first. -/
def dL (n : Nat) : List Int := ((Lib.decDigits n).reverse).map dg
theorem dL_len (n : Nat) : (dL n).length = (Lib.decDigits n).length := by simp [dL]
/-- The value of the lowest q digits. -/
def vD (L : List Int) : Nat → Int
  | 0 => 0
  | q + 1 => vD L q + L[q]?.getD 0 * 10 ^ q
theorem vD_congr {L M : List Int} : ∀ q, (∀ i, i < q → L[i]?.getD 0 = M[i]?.getD 0) → vD L q = vD M q
  | 0, _ => rfl
  | q + 1, h => by rw [vD, vD, vD_congr q (fun i hi => h i (by omega)), h q (by omega)]
theorem vD_dig : ∀ (D : List UInt8), allDig D = true → vD (D.reverse.map dg) D.length = (dval D : Int)
  | [], _ => rfl
  | c :: D, h => by
    simp only [allDig, List.all_cons, Bool.and_eq_true] at h
    have h1 := (isDig_iff c).1 h.1
    have ih := vD_dig D h.2
    have e : ((c :: D).reverse.map dg) = D.reverse.map dg ++ [dg c] := by simp
    rw [e, List.length_cons, vD]
    have e1 : vD (D.reverse.map dg ++ [dg c]) D.length = vD (D.reverse.map dg) D.length := vD_congr _ (fun i hi => by rw [List.getElem?_append_left (by simpa using hi)])
    have e2 : (D.reverse.map dg ++ [dg c])[D.length]?.getD 0 = dg c := by
      rw [List.getElem?_append_right (by simp)]
      simp
    rw [e1, e2, ih, dval_cons]
    unfold dg
    have : ((10 : Int) ^ D.length) = ((10 ^ D.length : Nat) : Int) := by rw [Int.natCast_pow]; rfl
    rw [this]
    push_cast
    rw [show ((c.toNat : Int) - 48) = ((c.toNat - 48 : Nat) : Int) from by omega]
    omega
theorem vD_dL (n : Nat) : vD (dL n) (dL n).length = (n : Int) := by
  have := vD_dig (Lib.decDigits n) (allDig_decDigits n)
  rw [dval_decDigits] at this
  rw [dL_len]
  exact this
/-- Digits. -/
def digs10 (L : List Int) : Prop := ∀ i : Nat, 0 ≤ L[i]?.getD 0 ∧ L[i]?.getD 0 < 10
theorem digs_dL (n : Nat) : digs10 (dL n) := fun i => by
  unfold dL
  by_cases h : i < (Lib.decDigits n).length
  · have hi : i < (Lib.decDigits n).reverse.length := by simpa using h
    rw [List.getElem?_map, List.getElem?_eq_getElem hi]
    have hm : (Lib.decDigits n).reverse[i] ∈ Lib.decDigits n := List.mem_reverse.1 (List.getElem_mem hi)
    have := (isDig_iff _).1 (List.all_eq_true.1 (allDig_decDigits n) _ hm)
    simp only [Option.map_some, Option.getD_some]
    unfold dg
    omega
  · rw [List.getElem?_eq_none (by simpa using h)]
    simp
theorem vD_bound {L : List Int} (h : digs10 L) : ∀ q, 0 ≤ vD L q ∧ vD L q < 10 ^ q
  | 0 => by simp [vD]
  | q + 1 => by
    have ih := vD_bound h q
    have hq := h q
    rw [vD, Int.pow_succ]
    have hp : (0 : Int) < 10 ^ q := Int.pow_pos (by omega)
    have h1 : L[q]?.getD 0 * 10 ^ q ≤ 9 * 10 ^ q := Int.mul_le_mul_of_nonneg_right (by omega) (Int.le_of_lt hp)
    have h2 := Int.mul_nonneg hq.1 (Int.le_of_lt hp)
    omega
theorem digits_loop (a : ByteArray) (s D : List UInt8) (hs : s = [] ∨ s = [45]) (h : a.data.toList = s ++ D) (hD : allDig D = true) (hz : a.size ≤ 100000) : ∀ (q : Nat) (acc : List Int) (k : Nat), q ≤ D.length → q + 2 ≤ k → acc.length + q ≤ 100000 → surveyorref01_digits.l0 k a acc (((s.length + q : Nat) : Int) - 1) = some (acc ++ ((D.take q).reverse.map dg))
  | 0, acc, k, _, hk, _ => by
    obtain ⟨k, rfl⟩ : ∃ j, k = j + 1 := ⟨k - 1, by omega⟩
    rw [surveyorref01_digits.l0]
    rcases hs with rfl | rfl
    · rw [if_neg (by simp)]; simp
    · have hsz := Lib.size_eq a
      rw [h] at hsz
      simp only [List.length_append, List.length_cons, List.length_nil] at hsz
      have hb := bt_get a 0 45 (by rw [h]; rfl)
      rw [if_pos (by simp), if_pos (by simp), if_pos (by simp; omega)]
      rw [show ((([45] : List UInt8).length + 0 : Nat) : Int) - 1 = ((0 : Nat) : Int) from by simp, hb, if_pos (show ((UInt8.toNat 45 : Nat) : Int) = 45 from rfl)]
      simp
  | q + 1, acc, k, hq, hk, ha => by
    obtain ⟨k, rfl⟩ : ∃ j, k = j + 1 := ⟨k - 1, by omega⟩
    have hsz := Lib.size_eq a
    rw [h, List.length_append] at hsz
    have hl : q < D.length := by omega
    have hsl : s.length ≤ 1 := by rcases hs with rfl | rfl <;> simp
    have hc : a.data.toList[s.length + q]? = some D[q] := by
      rw [h, List.getElem?_append_right (by omega), show s.length + q - s.length = q by omega, List.getElem?_eq_getElem hl]
    have hb := bt_get a (s.length + q) _ hc
    have hdig := (isDig_iff _).1 (List.all_eq_true.1 hD _ (List.getElem_mem hl))
    have ih := digits_loop a s D hs h hD hz q (acc ++ [dg D[q]]) k (by omega) (by omega) (by simp; omega)
    rw [surveyorref01_digits.l0, show ((s.length + (q + 1) : Nat) : Int) - 1 = ((s.length + q : Nat) : Int) from by omega]
    rw [if_pos (by omega), if_pos (by omega), if_pos (by omega), hb, if_neg (by omega), if_pos (by omega)]
    rw [show ((D[q].toNat : Int) - 48) % 256 = dg D[q] from by unfold dg; omega, show wrap64 (((s.length + q : Nat) : Int) - 1) = ((s.length + q : Nat) : Int) - 1 from by unfold wrap64; omega, ih]
    rw [List.take_succ_eq_append_getElem hl, List.reverse_append, List.map_append, List.append_assoc]
    rfl
theorem digits_text {x : Int} {m : Nat} (hx : Bd m x) (hm : 1 ≤ m) (h4 : m ≤ 90000) (k : Nat) (hk : m + 3 ≤ k) : surveyorref01_digits.f k (text x) = some (dL x.natAbs) := by
  obtain ⟨s, h1, h2, _⟩ := text_split x
  have hz := size_text hx hm
  have hd := digits_le hx hm
  have hsz := Lib.size_eq (text x)
  rw [h1, List.length_append] at hsz
  have := digits_loop (text x) s (Lib.decDigits x.natAbs) h2 h1 (allDig_decDigits _) (by omega) (Lib.decDigits x.natAbs).length [] k (Nat.le_refl _) (by omega) (by simp; omega)
  unfold surveyorref01_digits.f
  rw [show wrap64 (((text x).size : Int) - 1) = ((s.length + (Lib.decDigits x.natAbs).length : Nat) : Int) - 1 from by unfold wrap64; omega, this, List.take_length, List.nil_append]
  rfl
/-- The digits without zeros at the end. -/
def cL (n : Nat) : List Int := if n = 0 then [] else dL n
theorem dL_top (n : Nat) (h : n ≠ 0) : ∃ q, (dL n).length = q + 1 ∧ (dL n)[q]?.getD 0 ≠ 0 := by
  obtain ⟨c, l, e, h1, h2⟩ := decDigits_head n h
  refine ⟨l.length, by rw [dL_len, e]; rfl, ?_⟩
  unfold dL
  rw [e, List.reverse_cons, List.map_append, List.getElem?_append_right (by simp)]
  simp
  unfold dg
  omega
/-- The digits of a magnitude, none for 0. -/
def wD (u : Nat) : List UInt8 := if u = 0 then [] else Lib.decDigits u
theorem wD_step (u : Nat) (h : u ≠ 0) : wD u = wD (u / 10) ++ [UInt8.ofNat (48 + u % 10)] := by
  unfold wD
  rw [if_neg h]
  by_cases h1 : u < 10
  · rw [if_pos (by omega), decDigits_small h1, show u % 10 = u by omega]; rfl
  · rw [if_neg (by omega), decDigits_big h1]
theorem ten_extract : ∀ d : Fin 10, (⟨#[48, 49, 50, 51, 52, 53, 54, 55, 56, 57]⟩ : ByteArray).extract d.val (d.val + 1) = ⟨#[UInt8.ofNat (48 + d.val)]⟩ := by decide
theorem tmod_ten (m : Int) : mx (Int.tmod m 10) (wrap64 (-(Int.tmod m 10))) = ((m.natAbs % 10 : Nat) : Int) := by
  have h : (0 ≤ m ∧ Int.tmod m 10 = m % 10) ∨ (m < 0 ∧ Int.tmod m 10 = -((-m) % 10)) := by
    by_cases h0 : 0 ≤ m
    · exact .inl ⟨h0, Int.tmod_eq_emod_of_nonneg h0⟩
    · refine .inr ⟨by omega, ?_⟩
      have := Int.neg_tmod (a := -m) (b := 10)
      rw [Int.neg_neg] at this
      rw [this, Int.tmod_eq_emod_of_nonneg (by omega)]
  unfold mx wrap64
  rcases h with ⟨h1, h2⟩ | ⟨h1, h2⟩ <;> rw [h2] <;> split <;> omega
theorem tdiv_ten (m : Int) : (Int.tdiv m 10).natAbs = m.natAbs / 10 := by
  rw [Int.natAbs_tdiv]; rfl
theorem whole_loop (n : Int) : ∀ (k u F : Nat) (m : Int) (acc : ByteArray), m.natAbs = u → u ≤ 9223372036854775808 → u < 10 ^ k → acc.size + k ≤ 1000 → k + 1 ≤ F → ∃ r, surveyorref01_Whole.l0 F n acc m = some r ∧ r.data.toList = (if n < 0 then [45] else []) ++ (wD u ++ acc.data.toList)
  | k, 0, F, m, acc, hm, _, _, ha, hF => by
    obtain ⟨F, rfl⟩ : ∃ i, F = i + 1 := ⟨F - 1, by omega⟩
    obtain rfl : m = 0 := by omega
    rw [surveyorref01_Whole.l0, if_pos rfl]
    by_cases hn : n < 0
    · rw [if_pos hn, if_pos hn, if_pos (by omega)]
      exact ⟨_, rfl, by simp [wD]⟩
    · rw [if_neg hn, if_neg hn]
      exact ⟨_, rfl, by simp [wD]⟩
  | 0, u + 1, F, m, acc, hm, _, hk, _, _ => by simp at hk
  | k + 1, u + 1, F, m, acc, hm, hu, hk, ha, hF => by
    obtain ⟨F, rfl⟩ : ∃ i, F = i + 1 := ⟨F - 1, by omega⟩
    have hlt : (u + 1) / 10 < 10 ^ k := by
      rw [Nat.pow_succ] at hk
      exact Nat.div_lt_of_lt_mul (by rw [Nat.mul_comm]; exact hk)
    have hul : (u + 1) / 10 ≤ 9223372036854775808 := by clear hk hlt; omega
    clear hk
    have hm0 : m ≠ 0 := by intro q; rw [q] at hm; cases hm
    have hd : (m.natAbs % 10 : Nat) < 10 := Nat.mod_lt _ (Nat.zero_lt_succ 9)
    have hx := ten_extract ⟨m.natAbs % 10, hd⟩
    have hw1 : wrap64 (((m.natAbs % 10 : Nat) : Int) + 1) = ((m.natAbs % 10 + 1 : Nat) : Int) := by clear hlt; unfold wrap64; omega
    have hb : -9223372036854775808 ≤ Int.tdiv m 10 ∧ Int.tdiv m 10 ≤ 9223372036854775807 := by have := tdiv_ten m; clear hlt hx; omega
    have hw2 : wrap64 (Int.tdiv m 10) = Int.tdiv m 10 := by clear hlt hx; unfold wrap64; omega
    rw [surveyorref01_Whole.l0, if_neg hm0, tmod_ten, hw1, hw2]
    have hp1 : (0 : Int) ≤ ((m.natAbs % 10 : Nat) : Int) := Int.natCast_nonneg _
    have hs1 : (⟨#[UInt8.ofNat (48 + m.natAbs % 10)]⟩ : ByteArray).size = 1 := rfl
    have hrest : ∃ r, surveyorref01_Whole.l0 F n (⟨#[UInt8.ofNat (48 + m.natAbs % 10)]⟩ ++ acc) (Int.tdiv m 10) = some r ∧ r.data.toList = (if n < 0 then [45] else []) ++ (wD (u + 1) ++ acc.data.toList) := by
      obtain ⟨r, h1, h2⟩ := whole_loop n k ((u + 1) / 10) F (Int.tdiv m 10) (⟨#[UInt8.ofNat (48 + m.natAbs % 10)]⟩ ++ acc) (by rw [tdiv_ten, hm]) hul hlt (by rw [ByteArray.size_append, hs1]; clear hlt; omega) (by clear hlt; omega)
      refine ⟨r, h1, ?_⟩
      rw [h2, wD_step (u + 1) (Nat.succ_ne_zero u), hm]
      simp
    clear hlt
    rw [show (((m.natAbs % 10 : Nat) : Int)).toNat = m.natAbs % 10 from Int.toNat_natCast _, show (((m.natAbs % 10 + 1 : Nat) : Int)).toNat = m.natAbs % 10 + 1 from Int.toNat_natCast _]
    rw [show (⟨#[48, 49, 50, 51, 52, 53, 54, 55, 56, 57]⟩ : ByteArray).extract (m.natAbs % 10) (m.natAbs % 10 + 1) = ⟨#[UInt8.ofNat (48 + m.natAbs % 10)]⟩ from hx]
    clear hx
    rw [if_pos (by omega), if_pos (by omega)]
    first
      | exact hrest
      | (rw [if_pos (by omega), if_pos (by rw [hs1]; omega)]; exact hrest)
theorem whole_text (n : Int) (h1 : -9223372036854775808 ≤ n) (h2 : n ≤ 9223372036854775807) (k : Nat) (hk : 30 ≤ k) : surveyorref01_Whole.f k n = some (text n) := by
  unfold surveyorref01_Whole.f
  by_cases h0 : n = 0
  · rw [if_pos h0, h0, text_0]
  · rw [if_neg h0]
    have hb : n.natAbs < 10 ^ 20 := Nat.lt_of_lt_of_le (show n.natAbs < 100000000000000000000 by omega) (by decide +kernel)
    obtain ⟨r, e1, e2⟩ := whole_loop n 20 n.natAbs k n ⟨#[]⟩ rfl (by clear hb; omega) hb (by decide) (by omega)
    clear hb
    rw [e1]
    congr 1
    refine bytes_ext ?_
    rw [e2, text_list]
    unfold wD Lib.itoa
    rw [if_neg (show ¬ n.natAbs = 0 by omega)]
    by_cases hn : n < 0
    · simp [hn]
    · simp [hn, show n.toNat = n.natAbs by omega]
theorem num_step (V c : Nat) (hV : V < 100000000000000000) (h1 : 48 ≤ c) (h2 : c ≤ 57) : wrap64 (wrap64 ((V : Int) * 10) + ((c : Int) - 48) % 256) = ((V * 10 + (c - 48) : Nat) : Int) := by unfold wrap64; omega
theorem small17 (V : Nat) {l : Nat} (h : V < 10 ^ l) (hl : l ≤ 17) : V < 100000000000000000 :=
  Nat.lt_of_lt_of_le h (Nat.le_trans (Nat.pow_le_pow_right (Nat.zero_lt_succ 9) hl) (by decide +kernel))
theorem number_loop (a : ByteArray) (s D : List UInt8) (hs : s.length ≤ 1) (h : a.data.toList = s ++ D) (hD : allDig D = true) (hl : D.length ≤ 17) (q : Nat) : ∀ (j k : Nat), j + q = D.length → q + 1 ≤ k → surveyorref01_number.l0 k a (dval (D.take j) : Int) ((s.length + j : Nat) : Int) = (surveyorref01_Negative.f a).bind fun t => if t = true then some (wrap64 (-(dval D : Int))) else some (dval D : Int) := by
  have hsz := Lib.size_eq a
  rw [h, List.length_append] at hsz
  induction q with
  | zero =>
    intro j k hj hk
    obtain ⟨k, rfl⟩ : ∃ i, k = i + 1 := ⟨k - 1, by omega⟩
    rw [surveyorref01_number.l0, if_neg (by omega), show D.take j = D from List.take_of_length_le (by omega)]
  | succ q IH =>
    intro j k hj hk
    obtain ⟨k, rfl⟩ : ∃ i, k = i + 1 := ⟨k - 1, by omega⟩
    have hlt : j < D.length := by omega
    have hc : a.data.toList[s.length + j]? = some D[j] := by
      rw [h, List.getElem?_append_right (by omega), show s.length + j - s.length = j by omega, List.getElem?_eq_getElem hlt]
    have hb := bt_get a (s.length + j) _ hc
    have c1 : ((s.length + j : Nat) : Int) < (a.size : Int) := by clear IH hb hc; omega
    have c2 : (0 : Int) ≤ ((s.length + j : Nat) : Int) := Int.natCast_nonneg _
    have hdig := (isDig_iff _).1 (List.all_eq_true.1 hD _ (List.getElem_mem hlt))
    have c3 : ¬ (D[j].toNat : Int) = 45 := by clear IH hb hc; omega
    have hdt : allDig (D.take j) = true := allDig_sub hD (fun c hc => List.mem_of_mem_take hc)
    have hnx : dval (D.take (j + 1)) = dval (D.take j) * 10 + (D[j].toNat - 48) := by
      rw [List.take_succ_eq_append_getElem hlt, dval_snoc]
    have e1 := num_step (dval (D.take j)) D[j].toNat (small17 _ (dval_lt _ hdt) (by rw [List.length_take]; omega)) hdig.1 hdig.2
    rw [← hnx] at e1
    have e2 : wrap64 (((s.length + j : Nat) : Int) + 1) = ((s.length + (j + 1) : Nat) : Int) := by clear e1 hdig hb hc IH; unfold wrap64; omega
    have ih := IH (j + 1) k (by omega) (by omega)
    rw [surveyorref01_number.l0, if_pos c1, if_pos c2, hb, if_neg c3, e1, e2, ih]
theorem number_text {x : Int} (hx : Bd 17 x) (k : Nat) (hk : 25 ≤ k) : surveyorref01_number.f k (text x) = some x := by
  obtain ⟨s, h1, h2, h3⟩ := text_split x
  have hd := digits_le hx (by omega)
  have hne := decDigits_ne_nil x.natAbs
  have hsz : 0 < (text x).size := by
    rw [Lib.size_eq, h1, List.length_append]
    have := List.length_pos_iff.2 hne
    omega
  have hsl : s.length ≤ 1 := by rcases h2 with rfl | rfl <;> simp
  have hxx : x.natAbs < 100000000000000000 := Nat.lt_of_lt_of_le hx (by decide +kernel)
  clear hx
  unfold surveyorref01_number.f
  have fin : ∀ k, (Lib.decDigits x.natAbs).length + 1 ≤ k → surveyorref01_number.l0 k (text x) 0 ((s.length : Nat) : Int) = some x := fun k hk => by
    have := number_loop (text x) s _ hsl h1 (allDig_decDigits _) hd (Lib.decDigits x.natAbs).length 0 k (by omega) hk
    rw [dval_decDigits] at this
    have e0 : (dval ((Lib.decDigits x.natAbs).take 0) : Int) = 0 := rfl
    rw [e0, Nat.add_zero] at this
    rw [this, ref_negative _ hsz, Option.bind_some, h1]
    rcases h2 with rfl | rfl
    · have hx0 : ¬ x < 0 := fun q => by have := h3.2 q; cases this
      have hp : Lib.hasPrefix ([] ++ Lib.decDigits x.natAbs) [45] = false := by
        have hm := decDigits_no_minus x.natAbs
        rw [List.nil_append]
        generalize Lib.decDigits x.natAbs = l at hm hne
        cases l with
        | nil => exact absurd rfl hne
        | cons c r =>
          by_cases hc : c = 45
          · subst hc; exact absurd rfl (hm r)
          · simp [Lib.hasPrefix, List.isPrefixOf, Ne.symm hc]
      rw [hp, if_neg (by simp)]
      congr 1
      omega
    · have hx0 : x < 0 := h3.1 rfl
      have hp : Lib.hasPrefix ([45] ++ Lib.decDigits x.natAbs) [45] = true := by simp [Lib.hasPrefix]
      rw [hp, if_pos rfl]
      congr 1
      unfold wrap64
      omega
  rcases h2 with rfl | rfl
  · exact fin k (by omega)
  · obtain ⟨k, rfl⟩ : ∃ i, k = i + 1 := ⟨k - 1, by omega⟩
    have hb := bt_get (text x) 0 45 (by rw [h1]; rfl)
    rw [show ((0 : Nat) : Int) = 0 from rfl] at hb
    rw [surveyorref01_number.l0, if_pos (by omega), if_pos (by omega), hb, if_pos (show ((UInt8.toNat 45 : Nat) : Int) = 45 from rfl), show wrap64 (0 + 1) = 1 from by decide +kernel]
    exact fin k (by omega)
/-- The value of a list of digits, from its head. -/
def hv : List Int → Int
  | [] => 0
  | d :: T => d + 10 * hv T
theorem vD_cons (d : Int) (T : List Int) : ∀ q, vD (d :: T) (q + 1) = d + 10 * vD T q
  | 0 => by simp [vD]
  | q + 1 => by
    have ih := vD_cons d T q
    have e1 : vD (d :: T) (q + 1 + 1) = vD (d :: T) (q + 1) + T[q]?.getD 0 * 10 ^ (q + 1) := rfl
    have e2 : vD T (q + 1) = vD T q + T[q]?.getD 0 * 10 ^ q := rfl
    rw [e1, e2, ih, Int.pow_succ, Int.mul_add]
    have : T[q]?.getD 0 * (10 ^ q * 10) = 10 * (T[q]?.getD 0 * 10 ^ q) := by ac_rfl
    omega
theorem vD_hv : ∀ L, vD L L.length = hv L
  | [] => rfl
  | d :: T => by rw [List.length_cons, vD_cons, vD_hv T]; rfl
theorem cL_wD (n : Nat) : cL n = ((wD n).reverse).map dg := by
  unfold cL wD dL
  by_cases h : n = 0
  · rw [if_pos h, if_pos h]; rfl
  · rw [if_neg h, if_neg h]
theorem dg_of (d : Nat) (h : d < 10) : dg (UInt8.ofNat (48 + d)) = (d : Int) := by
  have : ∀ d : Fin 10, dg (UInt8.ofNat (48 + d.val)) = (d.val : Int) := by decide
  exact this ⟨d, h⟩
theorem cL_step (n : Nat) (h : n ≠ 0) : cL n = ((n % 10 : Nat) : Int) :: cL (n / 10) := by
  rw [cL_wD, cL_wD, wD_step n h, List.reverse_append, List.map_append]
  show [dg (UInt8.ofNat (48 + n % 10))] ++ _ = _
  rw [dg_of _ (Nat.mod_lt _ (by omega))]
  rfl
/-- No zero on top. -/
def topd (L : List Int) : Prop := L = [] ∨ L[L.length - 1]?.getD 0 ≠ 0
theorem cL_uniq : ∀ (L : List Int) (n : Nat), digs10 L → topd L → hv L = (n : Int) → L = cL n
  | [], n, _, _, h => by
    have h' : (0 : Int) = (n : Int) := h
    obtain rfl : n = 0 := by omega
    rfl
  | d :: T, n, hd, ht, h => by
    have h0 := hd 0
    simp only [List.getElem?_cons_zero, Option.getD_some] at h0
    have hT : digs10 T := fun i => by have := hd (i + 1); rwa [List.getElem?_cons_succ] at this
    have htT : topd T := by
      cases T with
      | nil => exact .inl rfl
      | cons e R =>
        refine .inr ?_
        rcases ht with ht | ht
        · cases ht
        · simpa using ht
    have hv0 : d + 10 * hv T = (n : Int) := h
    have hn : 0 ≤ hv T := by have := (vD_bound hT T.length).1; rwa [vD_hv] at this
    have hne : n ≠ 0 := by
      intro q
      have e := cL_uniq T 0 hT htT (by omega)
      rcases ht with ht | ht
      · cases ht
      · apply ht
        rw [e]
        show ((d :: ([] : List Int))[(d :: ([] : List Int)).length - 1]?).getD 0 = 0
        show d = 0
        omega
    have ih := cL_uniq T (n / 10) hT htT (by omega)
    rw [cL_step n hne, ← ih, show ((n % 10 : Nat) : Int) = d from by omega]
theorem cut_loop (L : List Int) (hL : L.length ≤ 100000) : ∀ (q k : Nat), q ≤ L.length → q + 1 ≤ k → ∃ n, n ≤ q ∧ surveyorref01_cut.l0 k L (q : Int) = some (L.take n) ∧ (n = 0 ∨ L[n - 1]?.getD 0 ≠ 0) ∧ vD L n = vD L q
  | 0, k, _, hk => by
    obtain ⟨k, rfl⟩ : ∃ j, k = j + 1 := ⟨k - 1, by omega⟩
    refine ⟨0, Nat.le_refl _, ?_, .inl rfl, rfl⟩
    rw [surveyorref01_cut.l0, if_neg (by simp), if_pos (by simp), if_pos (by simp)]
    rfl
  | q + 1, k, hq, hk => by
    obtain ⟨k, rfl⟩ : ∃ j, k = j + 1 := ⟨k - 1, by omega⟩
    have hw : wrap64 (((q + 1 : Nat) : Int) - 1) = (q : Int) := by unfold wrap64; omega
    rw [surveyorref01_cut.l0, if_pos (by omega), hw, if_pos (by omega), if_pos (by omega), rd_nat]
    by_cases h0 : L[q]?.getD 0 = 0
    · obtain ⟨n, h1, h2, h3, h4⟩ := cut_loop L hL q k (by omega) (by omega)
      rw [if_pos h0]
      exact ⟨n, by omega, h2, h3, by rw [h4, vD, h0, Int.zero_mul, Int.add_zero]⟩
    · rw [if_neg h0, if_pos (by omega), if_pos (by omega)]
      exact ⟨q + 1, Nat.le_refl _, by rw [Int.toNat_natCast], .inr h0, rfl⟩
theorem cut_val {L : List Int} (hd : digs10 L) (hL : L.length ≤ 100000) (n : Nat) (hn : hv L = (n : Int)) (k : Nat) (hk : L.length + 1 ≤ k) : surveyorref01_cut.f k L = some (cL n) ∧ (cL n).length ≤ L.length := by
  obtain ⟨m, h1, h2, h3, h4⟩ := cut_loop L hL L.length k (Nat.le_refl _) hk
  have hlen : (L.take m).length = m := by rw [List.length_take]; omega
  have hget : ∀ i, i < m → (L.take m)[i]?.getD 0 = L[i]?.getD 0 := fun i hi => by rw [List.getElem?_take, if_pos hi]
  have e : L.take m = cL n := by
    refine cL_uniq _ n ?_ ?_ ?_
    · intro i
      by_cases hi : i < m
      · rw [hget i hi]; exact hd i
      · rw [List.getElem?_eq_none (by rw [hlen]; omega)]; simp
    · by_cases hm : m = 0
      · exact .inl (by rw [hm]; rfl)
      · refine .inr ?_
        rw [hlen, hget (m - 1) (by omega)]
        rcases h3 with h3 | h3
        · exact absurd h3 hm
        · exact h3
    · rw [← vD_hv, hlen, vD_congr m hget, h4, vD_hv, hn]
  unfold surveyorref01_cut.f
  rw [h2, e]
  exact ⟨rfl, by rw [← e, hlen]; exact h1⟩
theorem made_loop (D : List UInt8) (hD : allDig D = true) (hl : D.length ≤ 100000) : ∀ (q : Nat) (acc : List Int) (k : Nat), q ≤ D.length → acc.length + q ≤ 200000 → q + 1 ≤ k → surveyorref01_made.l0 k (D.reverse.map dg) acc ((q : Int) - 1) = some (strOfNums (acc ++ (D.drop (D.length - q)).map fun c => (c.toNat : Int)))
  | 0, acc, k, _, _, hk => by
    obtain ⟨k, rfl⟩ : ∃ j, k = j + 1 := ⟨k - 1, by omega⟩
    rw [surveyorref01_made.l0, if_neg (by simp)]
    simp
  | q + 1, acc, k, hq, ha, hk => by
    obtain ⟨k, rfl⟩ : ∃ j, k = j + 1 := ⟨k - 1, by omega⟩
    have hi : D.length - (q + 1) < D.length := by omega
    have hdr := List.drop_eq_getElem_cons hi
    rw [show D.length - (q + 1) + 1 = D.length - q by omega] at hdr
    have hdig := (isDig_iff _).1 (List.all_eq_true.1 hD _ (List.getElem_mem hi))
    have hg : (D.reverse.map dg)[q]?.getD 0 = dg D[D.length - (q + 1)] := by
      rw [List.getElem?_map, List.getElem?_reverse (by omega), show D.length - 1 - q = D.length - (q + 1) by omega, List.getElem?_eq_getElem hi]
      rfl
    have ih := made_loop D hD hl q (acc ++ [(D[D.length - (q + 1)].toNat : Int)]) k (by omega) (by simp; omega) (by omega)
    have e1 : wrap64 (48 + dg D[D.length - (q + 1)]) % 256 = (D[D.length - (q + 1)].toNat : Int) := by clear ih hg hdr; unfold dg wrap64; omega
    rw [surveyorref01_made.l0, show ((q + 1 : Nat) : Int) - 1 = (q : Int) from by omega]
    rw [if_pos (by omega), if_pos (by omega), if_pos (by rw [List.length_map, List.length_reverse]; omega), if_pos (by omega), rd_nat, hg, e1, show wrap64 ((q : Int) - 1) = (q : Int) - 1 from by clear ih hg hdr e1; unfold wrap64; omega, ih, hdr]
    simp
theorem made_val {L : List Int} (hd : digs10 L) (hL : L.length ≤ 100000) (n : Nat) (hn : hv L = (n : Int)) (s : Bool) (k : Nat) (hk : L.length + 5 ≤ k) : surveyorref01_made.f k L s = some (text (if s = true then -(n : Int) else (n : Int))) := by
  obtain ⟨h1, h2⟩ := cut_val hd hL n hn k (by omega)
  unfold surveyorref01_made.f
  rw [h1, Option.bind_some]
  by_cases h0 : n = 0
  · subst h0
    rw [show cL 0 = [] from rfl, if_pos (show ((([] : List Int).length : Nat) : Int) = 0 from rfl)]
    rw [show (if s = true then -((0 : Nat) : Int) else ((0 : Nat) : Int)) = 0 from by cases s <;> rfl, text_0]
  · have e : cL n = (Lib.decDigits n).reverse.map dg := by rw [cL_wD, wD, if_neg h0]
    have hl : (Lib.decDigits n).length = (cL n).length := by rw [e]; simp
    have hp : 0 < (Lib.decDigits n).length := List.length_pos_iff.2 (decDigits_ne_nil n)
    obtain ⟨k, rfl⟩ : ∃ j, k = j + 1 := ⟨k - 1, by omega⟩
    have hw : wrap64 (((cL n).length : Int) - 1) = ((Lib.decDigits n).length : Int) - 1 := by rw [hl]; unfold wrap64; omega
    rw [if_neg (by omega)]
    cases s with
    | true =>
      have ml := made_loop (Lib.decDigits n) (allDig_decDigits n) (by omega) (Lib.decDigits n).length [45] k (Nat.le_refl _) (by simp; omega) (by omega)
      rw [if_pos rfl, if_pos (by decide), surveyorref01_made.j0, hw, e, List.nil_append, ml]
      congr 1
      refine bytes_ext ?_
      rw [strOfNums_data, text_list, if_pos rfl]
      unfold Lib.itoa
      rw [if_pos (by omega), Int.natAbs_neg, Int.natAbs_natCast]
      simp [Function.comp_def]
    | false =>
      have ml := made_loop (Lib.decDigits n) (allDig_decDigits n) (by omega) (Lib.decDigits n).length [] k (Nat.le_refl _) (by simp; omega) (by omega)
      rw [if_neg (by simp), surveyorref01_made.j0, hw, e, ml]
      congr 1
      refine bytes_ext ?_
      rw [strOfNums_data, text_list, if_neg (by simp)]
      unfold Lib.itoa
      rw [if_neg (by omega), Int.toNat_natCast]
      simp [Function.comp_def]
theorem vD_set {L : List Int} {i : Nat} (hi : i < L.length) (x : Int) : ∀ q, vD (L.set i x) q = vD L q + (if i < q then (x - L[i]?.getD 0) * 10 ^ i else 0)
  | 0 => by simp [vD]
  | q + 1 => by
    rw [vD, vD, vD_set hi x q]
    by_cases h : i = q
    · subst h
      rw [if_neg (by omega), if_pos (by omega), List.getElem?_set_self hi]
      simp only [Option.getD_some]
      rw [Int.sub_mul]
      omega
    · rw [List.getElem?_set_ne h]
      by_cases h2 : i < q
      · rw [if_pos h2, if_pos (by omega)]; omega
      · rw [if_neg h2, if_neg (by omega)]; omega
theorem hv_set {L : List Int} {i : Nat} (hi : i < L.length) (x : Int) : hv (L.set i x) = hv L + (x - L[i]?.getD 0) * 10 ^ i := by
  rw [← vD_hv, ← vD_hv, List.length_set, vD_set hi, if_pos hi]
theorem digs_set {L : List Int} (h : digs10 L) (i : Nat) {x : Int} (h0 : 0 ≤ x) (h1 : x < 10) : digs10 (L.set i x) := fun j => by
  rw [List.getElem?_set]
  by_cases e : i = j
  · rw [if_pos e]
    by_cases hl : i < L.length
    · rw [if_pos hl]; exact ⟨h0, h1⟩
    · rw [if_neg hl]; simp
  · rw [if_neg e]; exact h j
theorem times_alg (o m c a B V b Q R c1 : Int) (h : m + 10 * c1 = c + (o + a * b)) : (m - o) * (Q * R) + c1 * ((Q * R) * 10) + a * (B - (V + b * R)) * Q = c * (Q * R) + a * (B - V) * Q := by
  obtain rfl : m = c + (o + a * b) - 10 * c1 := by omega
  simp only [Int.sub_mul, Int.mul_sub, Int.add_mul, Int.mul_add]
  have e1 : a * (b * R) * Q = a * b * (Q * R) := by ac_rfl
  have e2 : c1 * (Q * R * 10) = 10 * c1 * (Q * R) := by ac_rfl
  omega
theorem times_in {a b : List Int} (ha : digs10 a) (hb : digs10 b) (hla : a.length ≤ 10000) (hlb : b.length ≤ 10000) (i : Nat) (hi : i < a.length) : ∀ (r j : Nat) (out : List Int) (c : Int) (k : Nat), j + r = b.length → digs10 out → out.length = a.length + b.length → 0 ≤ c → c < 10 → r + 1 ≤ k → (∀ p, i + b.length ≤ p → out[p]?.getD 0 = 0) →
    ∃ out', digs10 out' ∧ out'.length = a.length + b.length ∧ (∀ p, i + 1 + b.length ≤ p → out'[p]?.getD 0 = 0) ∧ hv out' = hv out + (c * (10 ^ i * 10 ^ j) + a[i]?.getD 0 * (vD b b.length - vD b j) * 10 ^ i) ∧ surveyorref01_times.l1 k a b out (i : Int) c (j : Int) = surveyorref01_times.l0 (k - (r + 1)) a b out' ((i + 1 : Nat) : Int)
  | 0, j, out, c, k, hj, ho, hl, hc0, hc1, hk, hz => by
    obtain ⟨k, rfl⟩ : ∃ q, k = q + 1 := ⟨k - 1, by omega⟩
    have hw : wrap64 ((i : Int) + (b.length : Int)) = ((i + b.length : Nat) : Int) := by unfold wrap64; omega
    have hw1 : wrap64 ((i : Int) + 1) = ((i + 1 : Nat) : Int) := by unfold wrap64; omega
    refine ⟨out.set (i + b.length) c, digs_set ho _ hc0 hc1, by rw [List.length_set]; exact hl, fun p hp => ?_, ?_, ?_⟩
    · rw [List.getElem?_set_ne (by omega)]; exact hz p (by omega)
    · rw [hv_set (by omega), hz _ (Nat.le_refl _), show j = b.length by omega, Int.sub_self, Int.mul_zero, Int.zero_mul, Int.add_zero, Int.sub_zero, Int.pow_add]
    · rw [surveyorref01_times.l1, if_neg (by omega), hw, if_pos (by omega), if_pos (by omega), hw1, Int.toNat_natCast]
      rfl
  | r + 1, j, out, c, k, hj, ho, hl, hc0, hc1, hk, hz => by
    obtain ⟨k, rfl⟩ : ∃ q, k = q + 1 := ⟨k - 1, by omega⟩
    have hw : wrap64 ((i : Int) + (j : Int)) = ((i + j : Nat) : Int) := by unfold wrap64; omega
    have hw1 : wrap64 ((j : Int) + 1) = ((j + 1 : Nat) : Int) := by unfold wrap64; omega
    have bo := ho (i + j)
    have ba := ha i
    have bb := hb j
    generalize ea : a[i]?.getD 0 = A at ba
    generalize eb : b[j]?.getD 0 = B at bb
    generalize eo : out[i + j]?.getD 0 = o at bo
    have hp1 : 0 ≤ A * B := Int.mul_nonneg ba.1 bb.1
    have hp2 : A * B ≤ 9 * 9 := Int.mul_le_mul (by omega) (by omega) bb.1 (by omega)
    have e1 : wrap64 (A * B) = A * B := by generalize A * B = P at hp1 hp2; unfold wrap64; omega
    have e2 : wrap64 (o + A * B) = o + A * B := by generalize A * B = P at hp1 hp2; unfold wrap64; omega
    have e3 : wrap64 (c + (o + A * B)) = c + (o + A * B) := by generalize A * B = P at hp1 hp2; unfold wrap64; omega
    have t0 : 0 ≤ c + (o + A * B) := by omega
    have t1 : c + (o + A * B) < 100 := by omega
    have e4 : Int.tmod (c + (o + A * B)) 10 = (c + (o + A * B)) % 10 := Int.tmod_eq_emod_of_nonneg t0
    have e5 : Int.tdiv (c + (o + A * B)) 10 = (c + (o + A * B)) / 10 := Int.tdiv_eq_ediv_of_nonneg t0
    have e6 : wrap64 ((c + (o + A * B)) / 10) = (c + (o + A * B)) / 10 := by generalize c + (o + A * B) = T at t0 t1; unfold wrap64; omega
    have hm : (c + (o + A * B)) % 10 + 10 * ((c + (o + A * B)) / 10) = c + (o + A * B) := by omega
    have m0 : 0 ≤ (c + (o + A * B)) % 10 := by omega
    have m1 : (c + (o + A * B)) % 10 < 10 := by omega
    have d0 : 0 ≤ (c + (o + A * B)) / 10 := by omega
    have d1 : (c + (o + A * B)) / 10 < 10 := by omega
    obtain ⟨out', q1, q2, q3, q4, q5⟩ := times_in ha hb hla hlb i hi r (j + 1) (out.set (i + j) ((c + (o + A * B)) % 10)) ((c + (o + A * B)) / 10) k (by omega) (digs_set ho _ m0 m1) (by rw [List.length_set]; exact hl) d0 d1 (by omega)
      (fun p hp => by rw [List.getElem?_set_ne (by omega)]; exact hz p (by omega))
    refine ⟨out', q1, q2, q3, ?_, ?_⟩
    · have hs : vD b (j + 1) = vD b j + B * 10 ^ j := by rw [vD, eb]
      have al := times_alg o ((c + (o + A * B)) % 10) c A (vD b b.length) (vD b j) B (10 ^ i) (10 ^ j) ((c + (o + A * B)) / 10) hm
      rw [q4, hv_set (by omega), eo, ea, hs, Int.pow_add, Int.pow_succ, ← Int.mul_assoc (10 ^ i) (10 ^ j) 10]
      omega
    · rw [surveyorref01_times.l1, if_pos (by omega), hw, if_pos (by omega), if_pos (by omega), if_pos (by omega), if_pos (by omega), if_pos (by omega), hw1, Int.toNat_natCast, rd_nat, rd_nat, rd_nat, ea, eb, eo, e1, e2, e3, e4, e5, e6, q5]
      rw [show k + 1 - (r + 1 + 1) = k - (r + 1) by omega]
theorem times_out {a b : List Int} (ha : digs10 a) (hb : digs10 b) (hla : a.length ≤ 10000) (hlb : b.length ≤ 10000) (N : Nat) : ∀ (r i : Nat) (out : List Int) (k : Nat), i + r = a.length → digs10 out → out.length = a.length + b.length → (∀ p, i + b.length ≤ p → out[p]?.getD 0 = 0) → r * (b.length + 2) + (a.length + b.length) + 2 ≤ k → hv out + (vD a a.length - vD a i) * vD b b.length = (N : Int) → surveyorref01_times.l0 k a b out (i : Int) = some (cL N) ∧ (cL N).length ≤ a.length + b.length
  | 0, i, out, k, hi, ho, hl, hz, hk, hN => by
    obtain ⟨k, rfl⟩ : ∃ q, k = q + 1 := ⟨k - 1, by omega⟩
    obtain rfl : i = a.length := by omega
    rw [Int.sub_self, Int.zero_mul, Int.add_zero] at hN
    obtain ⟨h1, h2⟩ := cut_val ho (by omega) N hN k (by omega)
    rw [surveyorref01_times.l0, if_neg (by omega), h1, Option.bind_some]
    exact ⟨rfl, by omega⟩
  | r + 1, i, out, k, hi, ho, hl, hz, hk, hN => by
    rw [Nat.succ_mul] at hk
    obtain ⟨k, rfl⟩ : ∃ q, k = q + 1 := ⟨k - 1, by omega⟩
    obtain ⟨out', q1, q2, q3, q4, q5⟩ := times_in ha hb hla hlb i (by omega) b.length 0 out 0 k (by omega) ho hl (by omega) (by omega) (by omega) hz
    have e0 : vD b 0 = 0 := rfl
    rw [e0, Int.sub_zero, Int.zero_mul, Int.zero_add] at q4
    have hs : vD a (i + 1) = vD a i + a[i]?.getD 0 * 10 ^ i := rfl
    have ih := times_out ha hb hla hlb N r (i + 1) out' (k - (b.length + 1)) (by omega) q1 q2 q3 (by omega) (by
      rw [q4, hs, ← hN]
      rw [Int.sub_mul, Int.sub_mul, Int.add_mul]
      have : a[i]?.getD 0 * vD b b.length * 10 ^ i = a[i]?.getD 0 * 10 ^ i * vD b b.length := by ac_rfl
      omega)
    rw [surveyorref01_times.l0, if_pos (by omega)]
    rw [show ((0 : Nat) : Int) = 0 from rfl] at q5
    rw [q5]
    exact ih
theorem times_val {a b : List Int} (ha : digs10 a) (hb : digs10 b) (hla : a.length ≤ 10000) (hlb : b.length ≤ 10000) (N : Nat) (hN : hv a * hv b = (N : Int)) (k : Nat) (hk : a.length * (b.length + 2) + (a.length + b.length) + 2 ≤ k) : surveyorref01_times.f k a b = some (cL N) ∧ (cL N).length ≤ a.length + b.length := by
  have hw : wrap64 ((a.length : Int) + (b.length : Int)) = ((a.length + b.length : Nat) : Int) := by clear hk; unfold wrap64; omega
  unfold surveyorref01_times.f
  rw [hw, if_pos (by omega), Int.toNat_natCast, if_pos (by omega)]
  have hr : ∀ p : Nat, (List.replicate (a.length + b.length) (0 : Int))[p]?.getD 0 = 0 := fun p => by
    rw [List.getElem?_replicate]; split <;> rfl
  have h0 : ∀ q, vD (List.replicate (a.length + b.length) (0 : Int)) q = 0 := fun q => by
    induction q with
    | zero => rfl
    | succ q ih => rw [vD, ih, hr, Int.zero_mul]; rfl
  have hh : hv (List.replicate (a.length + b.length) (0 : Int)) = 0 := by rw [← vD_hv, h0]
  exact times_out ha hb hla hlb N a.length 0 (List.replicate (a.length + b.length) 0) k (by omega) (fun p => by rw [hr]; omega) (List.length_replicate) (fun p _ => hr p) hk (by
    rw [hh, vD_hv, vD_hv, ← hN]
    show 0 + (hv a - 0) * hv b = _
    rw [Int.sub_zero, Int.zero_add])
theorem pre_text (x : Int) : Lib.hasPrefix (text x).data.toList [45] = decide (x < 0) := by
  obtain ⟨s, h1, h2, h3⟩ := text_split x
  have hne := decDigits_ne_nil x.natAbs
  rw [h1]
  rcases h2 with rfl | rfl
  · have hx0 : ¬ x < 0 := fun q => by have := h3.2 q; cases this
    have hm := decDigits_no_minus x.natAbs
    rw [decide_eq_false hx0, List.nil_append]
    generalize Lib.decDigits x.natAbs = l at hm hne
    cases l with
    | nil => exact absurd rfl hne
    | cons c r =>
      by_cases hc : c = 45
      · subst hc; exact absurd rfl (hm r)
      · simp [Lib.hasPrefix, List.isPrefixOf, Ne.symm hc]
  · rw [decide_eq_true (h3.1 rfl)]
    simp [Lib.hasPrefix]
theorem sign_mul (x y : Int) : (if (decide (x < 0) != decide (y < 0)) = true then -((x.natAbs * y.natAbs : Nat) : Int) else ((x.natAbs * y.natAbs : Nat) : Int)) = x * y := by
  rw [Int.natCast_mul]
  by_cases hx : x < 0
  · have ex : (x.natAbs : Int) = -x := by omega
    by_cases hy : y < 0
    · have ey : (y.natAbs : Int) = -y := by omega
      rw [ex, ey, decide_eq_true hx, decide_eq_true hy, if_neg (by simp), Int.neg_mul_neg]
    · have ey : (y.natAbs : Int) = y := by omega
      rw [ex, ey, decide_eq_true hx, decide_eq_false hy, if_pos (by decide), Int.neg_mul, Int.neg_neg]
  · have ex : (x.natAbs : Int) = x := by omega
    by_cases hy : y < 0
    · have ey : (y.natAbs : Int) = -y := by omega
      rw [ex, ey, decide_eq_false hx, decide_eq_true hy, if_pos (by decide), Int.mul_neg, Int.neg_neg]
    · have ey : (y.natAbs : Int) = y := by omega
      rw [ex, ey, decide_eq_false hx, decide_eq_false hy, if_neg (by simp)]
theorem digs_cL (n : Nat) : digs10 (cL n) := by
  unfold cL
  split
  · intro i; simp
  · exact digs_dL n
theorem hv_dL (n : Nat) : hv (dL n) = (n : Int) := by rw [← vD_hv, vD_dL]
theorem hv_cL (n : Nat) : hv (cL n) = (n : Int) := by
  unfold cL
  split
  · rename_i h; rw [h]; rfl
  · exact hv_dL n
theorem product_text {x y : Int} {m : Nat} (hm : 1 ≤ m) (h4 : m ≤ 9000) (hx : Bd m x) (hy : Bd m y) (k : Nat) (hk : 100000000 ≤ k) : surveyorref01_Product.f k (text x) (text y) = some (text (x * y)) := by
  have sx := size_text hx hm
  have sy := size_text hy hm
  have lx := digits_le hx hm
  have ly := digits_le hy hm
  have px := canon_size (canon_text x).1
  have py := canon_size (canon_text y).1
  have nx := List.length_pos_iff.2 (decDigits_ne_nil x.natAbs)
  have ny := List.length_pos_iff.2 (decDigits_ne_nil y.natAbs)
  have hw : wrap64 (((Lib.decDigits x.natAbs).length : Int) + ((Lib.decDigits y.natAbs).length : Int)) = (((Lib.decDigits x.natAbs).length + (Lib.decDigits y.natAbs).length : Nat) : Int) := by unfold wrap64; omega
  unfold surveyorref01_Product.f
  rw [ref_digits _ (by omega) px, Option.bind_some, ref_digits _ (by omega) py, Option.bind_some, digN_text, digN_text, hw]
  by_cases h : (Lib.decDigits x.natAbs).length + (Lib.decDigits y.natAbs).length ≤ 18
  · have bx : Bd 17 x := lt_of_digits _ _ (by omega)
    have by' : Bd 17 y := lt_of_digits _ _ (by omega)
    have dx : Bd (Lib.decDigits x.natAbs).length x := lt_of_digits _ _ (Nat.le_refl _)
    have dy : Bd (Lib.decDigits y.natAbs).length y := lt_of_digits _ _ (Nat.le_refl _)
    have dm : Bd 18 (x * y) := (dx.mul dy).mono h
    have hb : (x * y).natAbs < 1000000000000000000 := Nat.lt_of_lt_of_le dm (by decide +kernel)
    clear dm
    have hww : wrap64 (x * y) = x * y := by generalize x * y = z at hb; unfold wrap64; omega
    rw [if_pos (by omega), number_text bx k (by omega), Option.bind_some, number_text by' k (by omega), Option.bind_some, hww, whole_text _ (by omega) (by omega) k (by omega), Option.bind_some]
  · have hdx := dL_len x.natAbs
    have hdy := dL_len y.natAbs
    have hf : (dL x.natAbs).length * ((dL y.natAbs).length + 2) ≤ 9000 * 9002 := Nat.mul_le_mul (by omega) (by omega)
    obtain ⟨t1, t2⟩ := times_val (digs_dL x.natAbs) (digs_dL y.natAbs) (by omega) (by omega) (x.natAbs * y.natAbs) (by rw [hv_dL, hv_dL, Int.natCast_mul]) k (by omega)
    rw [if_neg (by omega), digits_text hx (by omega) (by omega) k (by omega), Option.bind_some, digits_text hy (by omega) (by omega) k (by omega), Option.bind_some, t1, Option.bind_some, ref_negative _ px, Option.bind_some, ref_negative _ py, Option.bind_some, pre_text, pre_text,
      made_val (digs_cL _) (by omega) _ (hv_cL _) _ k (by omega), Option.bind_some, sign_mul]
theorem text_zero_iff (y : Int) : ((text y).toList = ([48] : List UInt8)) ↔ y = 0 := by
  constructor
  · intro h
    refine text_inj ?_
    rw [text_0]
    refine bytes_ext ?_
    rw [← toList_data, h]
  · intro h
    rw [h, text_0, toList_data]
theorem ref_sign (x : Int) {m : Nat} (hx : Bd m x) (hm : 1 ≤ m) : surveyorref01_Sign.f (text x) = some (sgnI x) := by
  unfold surveyorref01_Sign.f
  by_cases h : x = 0
  · rw [if_pos ((text_zero_iff x).2 h), h]; rfl
  · rw [if_neg (fun q => h ((text_zero_iff x).1 q))]
    obtain ⟨s, h1, h2, h3⟩ := text_split x
    have hne := decDigits_ne_nil x.natAbs
    have hsz : 0 < (text x).size := by
      rw [Lib.size_eq, h1, List.length_append]
      have := List.length_pos_iff.2 hne
      omega
    rw [ref_negative _ hsz, Option.bind_some, h1]
    unfold sgnI
    rcases h2 with rfl | rfl
    · have hx0 : ¬ x < 0 := fun q => by have := h3.2 q; cases this
      have hp : Lib.hasPrefix ([] ++ Lib.decDigits x.natAbs) [45] = false := by
        have hm := decDigits_no_minus x.natAbs
        rw [List.nil_append]
        generalize Lib.decDigits x.natAbs = l at hm hne
        cases l with
        | nil => exact absurd rfl hne
        | cons c r =>
          by_cases hc : c = 45
          · subst hc; exact absurd rfl (hm r)
          · simp [Lib.hasPrefix, List.isPrefixOf, Ne.symm hc]
      rw [hp, if_neg (by simp), if_neg hx0, if_neg h]
    · have hx0 : x < 0 := h3.1 rfl
      have hp : Lib.hasPrefix ([45] ++ Lib.decDigits x.natAbs) [45] = true := by simp [Lib.hasPrefix]
      rw [hp, if_pos rfl, if_pos hx0]
/-- What comparing the lowest q digits says. -/
def cmpL (L M : List Int) : Nat → Int
  | 0 => 0
  | q + 1 => if L[q]?.getD 0 = M[q]?.getD 0 then cmpL L M q else if L[q]?.getD 0 < M[q]?.getD 0 then -1 else 1
theorem cmpL_val {L M : List Int} (hL : digs10 L) (hM : digs10 M) : ∀ q, cmpL L M q = sgnI (vD L q - vD M q)
  | 0 => rfl
  | q + 1 => by
    have ih := cmpL_val hL hM q
    have b1 := vD_bound hL q
    have b2 := vD_bound hM q
    have hp : (0 : Int) < 10 ^ q := Int.pow_pos (by omega)
    rw [cmpL, vD, vD]
    split
    · rename_i h
      rw [ih, h]
      congr 1
      omega
    · rename_i h
      split
      · rename_i h2
        have := Int.mul_le_mul_of_nonneg_right (show L[q]?.getD 0 + 1 ≤ M[q]?.getD 0 by omega) (Int.le_of_lt hp)
        rw [Int.add_mul] at this
        unfold sgnI
        rw [if_pos (by omega)]
      · rename_i h2
        have := Int.mul_le_mul_of_nonneg_right (show M[q]?.getD 0 + 1 ≤ L[q]?.getD 0 by omega) (Int.le_of_lt hp)
        rw [Int.add_mul] at this
        unfold sgnI
        rw [if_neg (by omega), if_neg (by omega)]
theorem cut_dL (n : Nat) (k : Nat) (hk : 2 ≤ k) (hl : (dL n).length ≤ 100000) : surveyorref01_cut.f k (dL n) = some (cL n) := by
  obtain ⟨k, rfl⟩ : ∃ j, k = j + 2 := ⟨k - 2, by omega⟩
  unfold surveyorref01_cut.f cL
  by_cases h : n = 0
  · subst h
    rw [if_pos rfl]
    have e : dL 0 = [0] := by unfold dL; rw [decDigits_small (by omega)]; rfl
    have hw : wrap64 ((([0] : List Int).length : Int) - 1) = 0 := by decide +kernel
    rw [e, surveyorref01_cut.l0, if_pos (by decide), hw, if_pos (by decide), if_pos (by decide), if_pos (show rd [0] 0 = 0 from rfl), surveyorref01_cut.l0, if_neg (by decide), if_pos (by decide), if_pos (by decide)]
    rfl
  · rw [if_neg h]
    obtain ⟨q, hq, ht⟩ := dL_top n h
    rw [surveyorref01_cut.l0, hq]
    have hw : wrap64 (((q + 1 : Nat) : Int) - 1) = (q : Int) := by unfold wrap64; omega
    rw [if_pos (by omega), hw, if_pos (by omega), if_pos (by omega), if_neg (by rw [rd_nat]; exact ht), if_pos (by omega), if_pos (by omega)]
    rw [show ((q + 1 : Nat) : Int).toNat = (dL n).length from by omega, List.take_length]
theorem order_loop {L M : List Int} (hl : L.length = M.length) (hL : L.length ≤ 100000) : ∀ (q k : Nat), q ≤ L.length → q + 1 ≤ k → surveyorref01_order.l0 k L M ((q : Int) - 1) = some (cmpL L M q)
  | 0, k, _, hk => by
    obtain ⟨k, rfl⟩ : ∃ j, k = j + 1 := ⟨k - 1, by omega⟩
    rw [surveyorref01_order.l0, if_neg (by simp)]
    rfl
  | q + 1, k, hq, hk => by
    obtain ⟨k, rfl⟩ : ∃ j, k = j + 1 := ⟨k - 1, by omega⟩
    have ih := order_loop hl hL q k (by omega) (by omega)
    rw [surveyorref01_order.l0, show ((q + 1 : Nat) : Int) - 1 = (q : Int) from by omega]
    rw [if_pos (by omega), if_pos (by omega), if_pos (by omega), if_pos (by omega), rd_nat, rd_nat, show wrap64 ((q : Int) - 1) = (q : Int) - 1 from by unfold wrap64; omega, ih, cmpL]
    split
    · rfl
    · split <;> rfl
theorem order_cL (m n : Nat) (k : Nat) (h1 : (dL m).length ≤ 100000) (h2 : (dL n).length ≤ 100000) (hk : (dL m).length + 2 ≤ k) : surveyorref01_order.f k (cL m) (cL n) = some (sgnI ((m : Int) - (n : Int))) := by
  have v : ∀ n, vD (cL n) (cL n).length = (n : Int) := fun n => by
    unfold cL
    split
    · rename_i h; rw [h]; rfl
    · exact vD_dL n
  have dgs : ∀ n, digs10 (cL n) := fun n => by
    unfold cL
    split
    · intro i; simp
    · exact digs_dL n
  have lens : ∀ n, (cL n).length ≤ (dL n).length := fun n => by
    unfold cL
    split
    · simp
    · exact Nat.le_refl _
  have low : ∀ n : Nat, (cL n).length ≠ 0 → (10 : Int) ^ ((cL n).length - 1) ≤ (n : Int) := fun n hn => by
    have hv := v n
    unfold cL at *
    split at hn
    · simp at hn
    · rename_i h0
      rw [if_neg h0] at hv ⊢
      obtain ⟨q, hq, ht⟩ := dL_top n h0
      rw [hq, vD] at hv
      have hb := vD_bound (digs_dL n) q
      have hd := digs_dL n q
      have hp : (0 : Int) < 10 ^ q := Int.pow_pos (by omega)
      have := Int.mul_le_mul_of_nonneg_right (show 1 ≤ (dL n)[q]?.getD 0 by omega) (Int.le_of_lt hp)
      rw [hq, Nat.add_sub_cancel]
      omega
  have up : ∀ n : Nat, (n : Int) < 10 ^ (cL n).length := fun n => by
    have := (vD_bound (dgs n) (cL n).length).2
    rw [v n] at this
    exact this
  have mono : ∀ {p q : Nat}, p ≤ q → (10 : Int) ^ p ≤ 10 ^ q := fun {p q} hpq => by
    have := Nat.pow_le_pow_right (n := 10) (by omega) hpq
    have h3 : ((10 ^ p : Nat) : Int) ≤ ((10 ^ q : Nat) : Int) := by omega
    rw [Int.natCast_pow, Int.natCast_pow] at h3
    exact h3
  have lm := lens m
  have ln := lens n
  unfold surveyorref01_order.f
  by_cases hlen : (cL m).length = (cL n).length
  · rw [if_pos (by omega)]
    have h := order_loop hlen (by omega) (cL m).length k (Nat.le_refl _) (by omega)
    rw [show wrap64 (((cL m).length : Int) - 1) = ((cL m).length : Int) - 1 from by unfold wrap64; omega, h, cmpL_val (dgs m) (dgs n), v m]
    rw [hlen, v n]
  · rw [if_neg (by omega)]
    by_cases hlt : (cL m).length < (cL n).length
    · rw [if_pos (by omega)]
      have a := up m
      have b := low n (by omega)
      have c := mono (show (cL m).length ≤ (cL n).length - 1 by omega)
      unfold sgnI
      rw [if_pos (by omega)]
    · rw [if_neg (by omega)]
      have a := up n
      have b := low m (by omega)
      have c := mono (show (cL n).length ≤ (cL m).length - 1 by omega)
      unfold sgnI
      rw [if_neg (by omega), if_neg (by omega)]
theorem hv_snoc (L : List Int) (d : Int) : hv (L ++ [d]) = hv L + d * 10 ^ L.length := by
  have e : vD (L ++ [d]) (L.length + 1) = vD (L ++ [d]) L.length + (L ++ [d])[L.length]?.getD 0 * 10 ^ L.length := rfl
  rw [← vD_hv (L ++ [d]), List.length_append, ← vD_hv L]
  show vD (L ++ [d]) (L.length + 1) = _
  have e3 : vD (L ++ [d]) L.length = vD L L.length := vD_congr _ (fun i hi => by rw [List.getElem?_append_left hi])
  rw [e, e3, List.getElem?_append_right (Nat.le_refl _), Nat.sub_self]
  rfl
theorem digs_snoc {L : List Int} (h : digs10 L) {d : Int} (h0 : 0 ≤ d) (h1 : d < 10) : digs10 (L ++ [d]) := fun j => by
  by_cases e : j < L.length
  · rw [List.getElem?_append_left e]; exact h j
  · rw [List.getElem?_append_right (by omega)]
    by_cases e2 : j - L.length = 0
    · rw [e2]; exact ⟨h0, h1⟩
    · rw [List.getElem?_eq_none (by simp; omega)]; simp
theorem vD_over (L : List Int) : ∀ j, vD L (L.length + j) = hv L
  | 0 => vD_hv L
  | j + 1 => by
    show vD L (L.length + j) + L[L.length + j]?.getD 0 * 10 ^ (L.length + j) = _
    rw [vD_over L j, List.getElem?_eq_none (by omega)]
    simp
theorem hv_bound {L : List Int} (h : digs10 L) : 0 ≤ hv L ∧ hv L < 10 ^ L.length := by rw [← vD_hv]; exact vD_bound h _
theorem pow_mono {p q : Nat} (hpq : p ≤ q) : (10 : Int) ^ p ≤ 10 ^ q := by
  have h3 : ((10 ^ p : Nat) : Int) ≤ ((10 ^ q : Nat) : Int) := Int.ofNat_le.2 (Nat.pow_le_pow_right (by omega) hpq)
  rw [Int.natCast_pow, Int.natCast_pow] at h3
  exact h3
/-- The place above a number: its digits there are 0. -/
theorem vD_full {L : List Int} (h : digs10 L) (n : Nat) (hn : hv L < 10 ^ n) : ∀ j, vD L (n + j) = vD L n
  | 0 => rfl
  | j + 1 => by
    have ih := vD_full h n hn j
    show vD L (n + j) + L[n + j]?.getD 0 * 10 ^ (n + j) = vD L n
    rw [ih]
    have hd := h (n + j)
    have up : ∀ p q, vD L p ≤ vD L (p + q) := fun p q => by
      induction q with
      | zero => exact Int.le_refl _
      | succ q IH =>
        have := Int.mul_nonneg (h (p + q)).1 (Int.le_of_lt (Int.pow_pos (n := 10) (m := p + q) (by omega)))
        show vD L p ≤ vD L (p + q) + L[p + q]?.getD 0 * 10 ^ (p + q)
        omega
    by_cases e : L[n + j]?.getD 0 = 0
    · rw [e, Int.zero_mul, Int.add_zero]
    · exfalso
      have hp : (0 : Int) < 10 ^ (n + j) := Int.pow_pos (by omega)
      have h1 := Int.mul_le_mul_of_nonneg_right (show 1 ≤ L[n + j]?.getD 0 by omega) (Int.le_of_lt hp)
      have h2 := pow_mono (show n ≤ n + j by omega)
      have h3 := (vD_bound h n).1
      have h4 : vD L (n + j + 1) = vD L n + L[n + j]?.getD 0 * 10 ^ (n + j) := by rw [← ih]; rfl
      have hl : n + j < L.length := by
        by_cases q : n + j < L.length
        · exact q
        · exact absurd (by rw [List.getElem?_eq_none (by omega)]; rfl) e
      have h5 := up (n + j + 1) (L.length - (n + j + 1))
      rw [show n + j + 1 + (L.length - (n + j + 1)) = L.length by omega, vD_hv] at h5
      omega
theorem vD_all {L : List Int} (h : digs10 L) (n : Nat) (hn : hv L < 10 ^ n) : vD L n = hv L := by
  have h1 := vD_full h n hn L.length
  rw [Nat.add_comm, vD_over] at h1
  exact h1.symm
theorem carry_alg (O V W m c A B P c1 : Int) (h : m + 10 * c1 = c + (A + B)) (hO : O + c * P = V + W) : O + m * P + c1 * (P * 10) = V + A * P + (W + B * P) := by
  obtain rfl : m = c + (A + B) - 10 * c1 := by omega
  rw [Int.sub_mul, Int.add_mul, Int.add_mul]
  have e : c1 * (P * 10) = 10 * c1 * P := by ac_rfl
  omega
theorem borrow_alg (O V W m c A B P c1 : Int) (h : m - 10 * c1 = A - B - c) (hO : O - c * P = V - W) : O + m * P - c1 * (P * 10) = V + A * P - (W + B * P) := by
  obtain rfl : m = A - B - c + 10 * c1 := by omega
  rw [Int.add_mul, Int.sub_mul, Int.sub_mul]
  have e : c1 * (P * 10) = 10 * c1 * P := by ac_rfl
  omega
/-- A carry of a digit's sum. -/
theorem carry_small {c A B : Int} (c0 : 0 ≤ c) (c1 : c ≤ 1) (a0 : 0 ≤ A) (a1 : A < 10) (b0 : 0 ≤ B) (b1 : B < 10) : (c + (A + B)) % 10 + 10 * ((c + (A + B)) / 10) = c + (A + B) ∧ 0 ≤ (c + (A + B)) % 10 ∧ (c + (A + B)) % 10 < 10 ∧ 0 ≤ (c + (A + B)) / 10 ∧ (c + (A + B)) / 10 ≤ 1 := by omega
/-- At the end no carry is left. -/
theorem carry_end {O c S P : Int} (hS : S < P) (hO : 0 ≤ O) (c0 : 0 ≤ c) (c1 : c ≤ 1) (h : O + c * P = S) : c = 0 := by
  by_cases e : c = 1
  · subst e; omega
  · omega
theorem borrow_end {O c S P : Int} (hS : 0 ≤ S) (hO : O < P) (c0 : 0 ≤ c) (c1 : c ≤ 1) (h : O - c * P = S) : c = 0 := by
  by_cases e : c = 1
  · subst e; omega
  · omega
/-- The sum of two lists is below the power of ten above the longer one. -/
theorem plus_lt {a b : List Int} (ha : digs10 a) (hb : digs10 b) (M : Nat) (h1 : a.length ≤ M) (h2 : b.length ≤ M) : hv a + hv b < 10 ^ (M + 1) := by
  have x := (hv_bound ha).2
  have y := (hv_bound hb).2
  have u := pow_mono h1
  have v := pow_mono h2
  have hp : (0 : Int) < 10 ^ M := Int.pow_pos (by omega)
  rw [Int.pow_succ]
  omega
theorem at_val (L : List Int) (i : Nat) : surveyorref01_at.f L (i : Int) = some (L[i]?.getD 0) := by
  unfold surveyorref01_at.f
  by_cases h : i < L.length
  · rw [if_pos (by omega), if_pos (by omega), rd_nat]
  · rw [if_neg (by omega), List.getElem?_eq_none (by omega)]; rfl
theorem wrap_small {z : Int} (h0 : -1000000000 ≤ z) (h1 : z ≤ 1000000000) : wrap64 z = z := by unfold wrap64; omega
theorem wrap_succ (n : Nat) (h : n ≤ 100000000) : wrap64 ((n : Int) + 1) = ((n + 1 : Nat) : Int) := by unfold wrap64; omega
theorem plus_round {a b out : List Int} {c : Int} {i M : Nat} (k : Nat) (hM : mx (a.length : Int) (b.length : Int) = (M : Int)) (hi : i < M + 1) (hm : M ≤ 100000) (ho : out.length ≤ 200000) (ha : digs10 a) (hb : digs10 b) (c0 : 0 ≤ c) (c1 : c ≤ 1) :
    surveyorref01_plus.l0 (k + 1) a b out c (i : Int) = surveyorref01_plus.l0 k a b (out ++ [(c + (a[i]?.getD 0 + b[i]?.getD 0)) % 10]) ((c + (a[i]?.getD 0 + b[i]?.getD 0)) / 10) ((i + 1 : Nat) : Int) := by
  have ba := ha i
  have bb := hb i
  rw [surveyorref01_plus.l0, hM, wrap_succ M (by omega), if_pos (by omega), at_val, Option.bind_some, at_val, Option.bind_some, if_pos (by omega), wrap_succ i (by omega)]
  generalize a[i]?.getD 0 = A at ba
  generalize b[i]?.getD 0 = B at bb
  rw [wrap_small (z := A + B) (by omega) (by omega), wrap_small (z := c + (A + B)) (by omega) (by omega)]
  have t0 : 0 ≤ c + (A + B) := by omega
  rw [Int.tmod_eq_emod_of_nonneg t0, Int.tdiv_eq_ediv_of_nonneg t0, wrap_small (z := (c + (A + B)) / 10) (by omega) (by omega)]
theorem plus_loop {a b : List Int} (ha : digs10 a) (hb : digs10 b) (M : Nat) (hM : mx (a.length : Int) (b.length : Int) = (M : Int)) (hla : a.length ≤ M) (hlb : b.length ≤ M) (hm : M ≤ 50000) (N : Nat) (hN : hv a + hv b = (N : Int)) : ∀ (q i : Nat) (out : List Int) (c : Int) (k : Nat), i + q = M + 1 → out.length = i → digs10 out → 0 ≤ c → c ≤ 1 → hv out + c * 10 ^ i = vD a i + vD b i → q + M + 4 ≤ k → surveyorref01_plus.l0 k a b out c (i : Int) = some (cL N) ∧ (cL N).length ≤ M + 1
  | 0, i, out, c, k, hi, hl, ho, c0, c1, hv0, hk => by
    obtain ⟨k, rfl⟩ : ∃ j, k = j + 1 := ⟨k - 1, by omega⟩
    have ea : vD a i = hv a := by obtain ⟨j, hj⟩ : ∃ j, i = a.length + j := ⟨i - a.length, by omega⟩; rw [hj, vD_over]
    have eb : vD b i = hv b := by obtain ⟨j, hj⟩ : ∃ j, i = b.length + j := ⟨i - b.length, by omega⟩; rw [hj, vD_over]
    have lt := plus_lt ha hb M hla hlb
    rw [show M + 1 = i by omega] at lt
    rw [ea, eb] at hv0
    have c00 := carry_end lt (hv_bound ho).1 c0 c1 hv0
    rw [c00, Int.zero_mul, Int.add_zero, hN] at hv0
    clear lt ea eb
    obtain ⟨h1, h2⟩ := cut_val ho (by omega) N hv0 k (by omega)
    have hn : ¬ (i : Int) < ((M + 1 : Nat) : Int) := by omega
    rw [surveyorref01_plus.l0, hM, wrap_succ M (by omega), if_neg hn, h1, Option.bind_some]
    exact ⟨rfl, Nat.le_trans h2 (Nat.le_of_eq (hl.trans hi))⟩
  | q + 1, i, out, c, k, hi, hl, ho, c0, c1, hv0, hk => by
    obtain ⟨k, rfl⟩ : ∃ j, k = j + 1 := ⟨k - 1, by omega⟩
    have cs := carry_small c0 c1 (ha i).1 (ha i).2 (hb i).1 (hb i).2
    rw [plus_round k hM (by omega) (by omega) (by omega) ha hb c0 c1]
    refine plus_loop ha hb M hM hla hlb hm N hN q (i + 1) _ _ k (by omega) (by simp; omega) (digs_snoc ho cs.2.1 cs.2.2.1) cs.2.2.2.1 cs.2.2.2.2 ?_ (by omega)
    rw [hv_snoc, hl, Int.pow_succ]
    exact carry_alg _ _ _ _ _ _ _ _ _ cs.1 hv0
theorem plus_val {a b : List Int} (ha : digs10 a) (hb : digs10 b) (la : a.length ≤ 50000) (lb : b.length ≤ 50000) (N : Nat) (hN : hv a + hv b = (N : Int)) (k : Nat) (hk : 2 * (a.length + b.length) + 10 ≤ k) : surveyorref01_plus.f k a b = some (cL N) ∧ (cL N).length ≤ a.length + b.length + 1 := by
  unfold surveyorref01_plus.f
  obtain ⟨M, hM, h1, h2, h3, h4⟩ : ∃ M : Nat, mx (a.length : Int) (b.length : Int) = (M : Int) ∧ a.length ≤ M ∧ b.length ≤ M ∧ M ≤ 50000 ∧ M ≤ a.length + b.length := by
    refine ⟨max a.length b.length, ?_, by omega, by omega, by omega, by omega⟩
    unfold mx
    split <;> omega
  have := plus_loop ha hb M hM h1 h2 h3 N hN (M + 1) 0 [] 0 k (by omega) rfl (fun j => by simp) (by omega) (by omega) (by simp [hv, vD]) (by omega)
  exact ⟨this.1, by omega⟩
theorem borrow_small {c A B : Int} (c0 : 0 ≤ c) (c1 : c ≤ 1) (a0 : 0 ≤ A) (a1 : A < 10) (b0 : 0 ≤ B) (b1 : B < 10) : (A - B - c < 0 → 0 ≤ A - B - c + 10 ∧ A - B - c + 10 < 10 ∧ A - B - c + 10 - 10 * 1 = A - B - c) ∧ (¬ A - B - c < 0 → 0 ≤ A - B - c ∧ A - B - c < 10 ∧ A - B - c - 10 * 0 = A - B - c) := by omega
theorem minus_round {a b out : List Int} {c : Int} {i : Nat} (k : Nat) (hi : i < a.length) (hm : a.length ≤ 100000) (ho : out.length ≤ 200000) (ha : digs10 a) (hb : digs10 b) (c0 : 0 ≤ c) (c1 : c ≤ 1) :
    surveyorref01_minus.l0 (k + 1) a b out c (i : Int) = if a[i]?.getD 0 - b[i]?.getD 0 - c < 0 then surveyorref01_minus.l0 k a b (out ++ [a[i]?.getD 0 - b[i]?.getD 0 - c + 10]) 1 ((i + 1 : Nat) : Int) else surveyorref01_minus.l0 k a b (out ++ [a[i]?.getD 0 - b[i]?.getD 0 - c]) 0 ((i + 1 : Nat) : Int) := by
  have ba := ha i
  have bb := hb i
  rw [surveyorref01_minus.l0, if_pos (by omega), if_pos (by omega), at_val, Option.bind_some, rd_nat, wrap_succ i (by omega), if_pos (show out.length < 17592186044416 by omega), if_pos (show out.length < 17592186044416 by omega)]
  generalize a[i]?.getD 0 = A at ba
  generalize b[i]?.getD 0 = B at bb
  rw [wrap_small (z := A - B) (by omega) (by omega), wrap_small (z := A - B - c) (by omega) (by omega), wrap_small (z := A - B - c + 10) (by omega) (by omega)]
theorem minus_loop {a b : List Int} (ha : digs10 a) (hb : digs10 b) (hm : a.length ≤ 100000) (hle : hv b ≤ hv a) (N : Nat) (hN : hv a - hv b = (N : Int)) : ∀ (q i : Nat) (out : List Int) (c : Int) (k : Nat), i + q = a.length → out.length = i → digs10 out → 0 ≤ c → c ≤ 1 → hv out - c * 10 ^ i = vD a i - vD b i → q + a.length + 4 ≤ k → surveyorref01_minus.l0 k a b out c (i : Int) = some (cL N) ∧ (cL N).length ≤ a.length
  | 0, i, out, c, k, hi, hl, ho, c0, c1, hv0, hk => by
    obtain ⟨k, rfl⟩ : ∃ j, k = j + 1 := ⟨k - 1, by omega⟩
    obtain rfl : i = a.length := by omega
    have lt := (hv_bound ha).2
    have eb := vD_all hb a.length (Int.lt_of_le_of_lt hle lt)
    rw [vD_hv, eb] at hv0
    have lo := (hv_bound ho).2
    rw [hl] at lo
    have c00 := borrow_end (show 0 ≤ hv a - hv b by omega) lo c0 c1 hv0
    rw [c00, Int.zero_mul, Int.sub_zero, hN] at hv0
    clear lt lo eb
    obtain ⟨h1, h2⟩ := cut_val ho (by omega) N hv0 k (by omega)
    rw [surveyorref01_minus.l0, if_neg (by omega), h1, Option.bind_some]
    exact ⟨rfl, Nat.le_trans h2 (Nat.le_of_eq hl)⟩
  | q + 1, i, out, c, k, hi, hl, ho, c0, c1, hv0, hk => by
    obtain ⟨k, rfl⟩ : ∃ j, k = j + 1 := ⟨k - 1, by omega⟩
    have cs := borrow_small c0 c1 (ha i).1 (ha i).2 (hb i).1 (hb i).2
    rw [minus_round k (by omega) (by omega) (by omega) ha hb c0 c1]
    by_cases hd : a[i]?.getD 0 - b[i]?.getD 0 - c < 0
    · obtain ⟨e1, e2, e3⟩ := cs.1 hd
      rw [if_pos hd]
      refine minus_loop ha hb hm hle N hN q (i + 1) _ _ k (by omega) (by simp; omega) (digs_snoc ho e1 e2) (by omega) (by omega) ?_ (by omega)
      rw [hv_snoc, hl, Int.pow_succ]
      exact borrow_alg _ _ _ _ _ _ _ _ _ e3 hv0
    · obtain ⟨e1, e2, e3⟩ := cs.2 hd
      rw [if_neg hd]
      refine minus_loop ha hb hm hle N hN q (i + 1) _ _ k (by omega) (by simp; omega) (digs_snoc ho e1 e2) (by omega) (by omega) ?_ (by omega)
      rw [hv_snoc, hl, Int.pow_succ]
      exact borrow_alg _ _ _ _ _ _ _ _ _ e3 hv0
theorem minus_val {a b : List Int} (ha : digs10 a) (hb : digs10 b) (la : a.length ≤ 100000) (hle : hv b ≤ hv a) (N : Nat) (hN : hv a - hv b = (N : Int)) (k : Nat) (hk : 2 * a.length + 10 ≤ k) : surveyorref01_minus.f k a b = some (cL N) ∧ (cL N).length ≤ a.length := by
  unfold surveyorref01_minus.f
  exact minus_loop ha hb la hle N hN a.length 0 [] 0 k (by omega) rfl (fun j => by simp) (by omega) (by omega) (by simp [hv, vD]) (by omega)
theorem cL_low (n : Nat) (hn : (cL n).length ≠ 0) : (10 : Int) ^ ((cL n).length - 1) ≤ (n : Int) := by
  have hv0 := vD_hv (cL n)
  rw [hv_cL] at hv0
  unfold cL at *
  split at hn
  · simp at hn
  · rename_i h0
    rw [if_neg h0] at hv0 ⊢
    obtain ⟨q, hq, ht⟩ := dL_top n h0
    rw [hq, vD] at hv0
    have hb := vD_bound (digs_dL n) q
    have hd := digs_dL n q
    have hp : (0 : Int) < 10 ^ q := Int.pow_pos (by omega)
    have := Int.mul_le_mul_of_nonneg_right (show 1 ≤ (dL n)[q]?.getD 0 by omega) (Int.le_of_lt hp)
    rw [hq, Nat.add_sub_cancel]
    omega
theorem cL_le {n m : Nat} (h : n ≤ m) : (cL n).length ≤ (cL m).length := by
  by_cases e : (cL n).length = 0
  · omega
  · have a := cL_low n e
    have b := (hv_bound (digs_cL m)).2
    rw [hv_cL] at b
    by_cases q : (cL n).length ≤ (cL m).length
    · exact q
    · have := pow_mono (show (cL m).length ≤ (cL n).length - 1 by omega)
      omega
theorem order_pos (R m k : Nat) (h1 : (dL R).length ≤ 100000) (h2 : (dL m).length ≤ 100000) (hk : (dL R).length + 2 ≤ k) : ∃ o, surveyorref01_order.f k (cL R) (cL m) = some o ∧ (o ≥ 0 ↔ m ≤ R) := by
  refine ⟨_, order_cL R m k h1 h2 hk, ?_⟩
  unfold sgnI
  split
  · omega
  · split <;> omega
theorem cL_len_dL (n : Nat) : (cL n).length ≤ (dL n).length := by
  unfold cL
  split
  · simp
  · exact Nat.le_refl _
theorem dL_len_cL (n : Nat) : (dL n).length ≤ (cL n).length + 1 := by
  unfold cL
  split
  · rename_i h; subst h; decide +kernel
  · omega
theorem set_same (Q : List Int) (i : Nat) (h : i < Q.length) : Q.set i (Q[i]?.getD 0) = Q := by
  rw [List.getElem?_eq_getElem h]
  exact List.set_getElem_self h
theorem split_in {a : List Int} {m i : Nat} (Lm : Nat) (hLm : (cL m).length ≤ Lm) (hL : Lm ≤ 40000) (hi : i ≤ 100000) (r : Nat) (hr : r < m) : ∀ (t : Nat) (Q : List Int) (k : Nat), i < Q.length → t ≤ 9 → 0 ≤ Q[i]?.getD 0 → Q[i]?.getD 0 + (t : Int) ≤ 1000 → (cL (r + t * m)).length ≤ Lm + 1 → 3 * Lm + 30 + t ≤ k →
    surveyorref01_split.l1 k a (cL m) Q (cL (r + t * m)) (i : Int) = surveyorref01_split.l0 (k - (t + 1)) a (cL m) (Q.set i (Q[i]?.getD 0 + (t : Int))) (cL r) ((i : Int) - 1)
  | 0, Q, k, hQ, ht, q0, q1, hl, hk => by
    obtain ⟨k, rfl⟩ : ∃ j, k = j + 1 := ⟨k - 1, by omega⟩
    have e0 : r + 0 * m = r := by omega
    rw [e0] at hl ⊢
    have d1 := dL_len_cL r
    have d2 := dL_len_cL m
    obtain ⟨o, ho, hoi⟩ := order_pos r m k (by omega) (by omega) (by omega)
    rw [surveyorref01_split.l1, ho, Option.bind_some, if_neg (by omega), show wrap64 ((i : Int) - 1) = (i : Int) - 1 from wrap_small (by omega) (by omega), show ((0 : Nat) : Int) = 0 from rfl, Int.add_zero, set_same Q i hQ]
    rfl
  | t + 1, Q, k, hQ, ht, q0, q1, hl, hk => by
    obtain ⟨k, rfl⟩ : ∃ j, k = j + 1 := ⟨k - 1, by omega⟩
    have d1 := dL_len_cL (r + (t + 1) * m)
    have d2 := dL_len_cL m
    have es : r + (t + 1) * m = r + t * m + m := by rw [Nat.succ_mul]; omega
    obtain ⟨o, ho, hoi⟩ := order_pos (r + (t + 1) * m) m k (by omega) (by omega) (by omega)
    have hge : m ≤ r + (t + 1) * m := by omega
    obtain ⟨mv, ml⟩ := minus_val (digs_cL (r + (t + 1) * m)) (digs_cL m) (by omega) (by rw [hv_cL, hv_cL]; omega) (r + t * m) (by rw [hv_cL, hv_cL]; omega) k (by omega)
    have es2 : (Q.set i (Q[i]?.getD 0 + 1))[i]?.getD 0 = Q[i]?.getD 0 + 1 := by rw [List.getElem?_set_self hQ]; rfl
    have hl2 : (cL (r + t * m)).length ≤ Lm + 1 := Nat.le_trans (cL_le (show r + t * m ≤ r + (t + 1) * m by omega)) hl
    have ih := split_in (a := a) Lm hLm hL hi r hr t (Q.set i (Q[i]?.getD 0 + 1)) k (by rw [List.length_set]; exact hQ) (by omega) (by rw [es2]; omega) (by rw [es2]; omega) hl2 (by omega)
    rw [surveyorref01_split.l1, ho, Option.bind_some, if_pos (hoi.2 hge), mv, Option.bind_some, if_pos (by omega), if_pos (by omega), rd_nat, Int.toNat_natCast, show wrap64 (Q[i]?.getD 0 + 1) = Q[i]?.getD 0 + 1 from wrap_small (by omega) (by omega), ih]
    rw [es2, List.set_set, show k + 1 - (t + 1 + 1) = k - (t + 1) by omega]
    rw [show Q[i]?.getD 0 + 1 + (t : Int) = Q[i]?.getD 0 + ((t + 1 : Nat) : Int) by omega]
theorem drop_step (a : List Int) (q : Nat) (h : q < a.length) : hv (a.drop q) = a[q]?.getD 0 + 10 * hv (a.drop (q + 1)) := by
  rw [List.drop_eq_getElem_cons h, List.getElem?_eq_getElem h]
  rfl
theorem drop_set (Q : List Int) (q : Nat) (x : Int) : (Q.set q x).drop (q + 1) = Q.drop (q + 1) := by
  rw [List.drop_set]
  exact if_pos (by omega)
theorem digs_drop {L : List Int} (h : digs10 L) (q : Nat) : digs10 (L.drop q) := fun j => by
  rw [List.getElem?_drop]; exact h (q + j)
/-- Below, the value of a list whose lower digits are 0. -/
theorem split_out {a : List Int} {m : Nat} (ha : digs10 a) (hm : m ≠ 0) (hla : a.length ≤ 30000) (Lm : Nat) (hLm : (cL m).length ≤ Lm) (hL : Lm ≤ 40000) : ∀ (q : Nat) (Q X : List Int) (R : Nat) (k : Nat), q ≤ Q.length → Q.length ≤ a.length → q ≤ a.length → digs10 Q → (∀ p, p < q → Q[p]?.getD 0 = 0) → digs10 X → X.length ≤ 50000 → hv X = (R : Int) → R < m → (q = 0 → X = cL R) → 12 * q + 3 * Lm + 200000 ≤ k →
    hv (a.drop q) = hv (Q.drop q) * (m : Int) + (R : Int) →
    ∃ n d : Nat, surveyorref01_split.l0 k a (cL m) Q X ((q : Int) - 1) = some (cL n, cL d) ∧ d < m ∧ hv a = (n : Int) * (m : Int) + (d : Int) ∧ (cL n).length ≤ Q.length
  | 0, Q, X, R, k, hq, hQa, hqa, hQ, hz, hX, hXl, hXv, hR, hX0, hk, hv0 => by
    obtain ⟨k, rfl⟩ : ∃ j, k = j + 1 := ⟨k - 1, by omega⟩
    have hn : 0 ≤ hv Q := (hv_bound hQ).1
    obtain ⟨n, hn2⟩ : ∃ n : Nat, hv Q = (n : Int) := ⟨(hv Q).toNat, by omega⟩
    obtain ⟨c1, c2⟩ := cut_val hQ (by omega) n hn2 k (by omega)
    refine ⟨n, R, ?_, hR, ?_, c2⟩
    · rw [surveyorref01_split.l0, if_neg (by simp), c1, Option.bind_some, hX0 rfl]
    · rw [List.drop_zero, List.drop_zero, hn2] at hv0
      exact hv0
  | q + 1, Q, X, R, k, hq, hQa, hqa, hQ, hz, hX, hXl, hXv, hR, hX0, hk, hv0 => by
    obtain ⟨k, rfl⟩ : ∃ j, k = j + 1 := ⟨k - 1, by omega⟩
    have da := ha q
    obtain ⟨A, hA, hA9⟩ : ∃ A : Nat, a[q]?.getD 0 = (A : Int) ∧ A ≤ 9 := ⟨(a[q]?.getD 0).toNat, by omega, by omega⟩
    have hcons : hv (a[q]?.getD 0 :: X) = ((A + 10 * R : Nat) : Int) := by
      show a[q]?.getD 0 + 10 * hv X = _
      rw [hXv, hA]; omega
    have hdc : digs10 (a[q]?.getD 0 :: X) := fun j => by
      cases j with
      | zero => exact da
      | succ j => exact hX j
    obtain ⟨c1, c2⟩ := cut_val hdc (by simp; omega) _ hcons k (by simp; omega)
    have hmp : 0 < m := by omega
    have hdiv : (A + 10 * R) % m + (A + 10 * R) / m * m = A + 10 * R := by
      have := Nat.mod_add_div (A + 10 * R) m
      rw [Nat.mul_comm ((A + 10 * R) / m) m]
      exact this
    have hmod : (A + 10 * R) % m < m := Nat.mod_lt _ hmp
    have ht9 : (A + 10 * R) / m ≤ 9 := by
      have : (A + 10 * R) / m < 10 := Nat.div_lt_of_lt_mul (by omega)
      omega
    have hlen : (cL (A + 10 * R)).length ≤ Lm + 1 := by
      have e1 : A + 10 * R ≤ 10 * m := by omega
      have e2 := cL_le e1
      have e3 := cL_step (10 * m) (by omega)
      rw [show 10 * m / 10 = m by omega] at e3
      rw [e3] at e2
      simp only [List.length_cons] at e2
      omega
    generalize hd : (A + 10 * R) % m = d at hdiv hmod
    generalize htt : (A + 10 * R) / m = t at hdiv ht9
    have hQq := hz q (by omega)
    have si := split_in (a := a) (m := m) (i := q) Lm hLm hL (by omega) d hmod t Q k (by omega) ht9 (by omega) (by omega) (by rw [hdiv]; exact hlen) (by omega)
    rw [hdiv, hQq, Int.zero_add] at si
    have hdig : digs10 (Q.set q (t : Int)) := digs_set hQ q (by omega) (by omega)
    have hzz : ∀ p, p < q → (Q.set q (t : Int))[p]?.getD 0 = 0 := fun p hp => by
      rw [List.getElem?_set_ne (by omega)]; exact hz p (by omega)
    have hval : hv (a.drop q) = hv ((Q.set q (t : Int)).drop q) * (m : Int) + (d : Int) := by
      rw [drop_step a q (by omega), drop_step (Q.set q (t : Int)) q (by rw [List.length_set]; omega), drop_set, hv0, List.getElem?_set_self (by omega)]
      simp only [Option.getD_some]
      rw [hA]
      have hdi : (d : Int) + (t : Int) * (m : Int) = (A : Int) + 10 * (R : Int) := by
        have : ((d + t * m : Nat) : Int) = ((A + 10 * R : Nat) : Int) := by rw [hdiv]
        rw [Int.natCast_add, Int.natCast_mul, Int.natCast_add, Int.natCast_mul] at this
        exact this
      rw [Int.add_mul, Int.mul_assoc]
      generalize hv (Q.drop (q + 1)) * (m : Int) = Z
      omega
    obtain ⟨n, e, r1, r2, r3, r4⟩ := split_out ha hm hla Lm hLm hL q (Q.set q (t : Int)) (cL d) d (k - (t + 1)) (by rw [List.length_set]; omega) (by rw [List.length_set]; omega) (by omega) hdig hzz (digs_cL d) (by have := cL_le (show d ≤ m by omega); omega) (hv_cL d) hmod (fun _ => rfl) (by omega) hval
    refine ⟨n, e, ?_, r2, r3, by rw [List.length_set] at r4; exact r4⟩
    rw [surveyorref01_split.l0, show (((q + 1 : Nat) : Int) - 1) = (q : Int) from by omega, if_pos (by omega), if_pos (by omega), if_pos (by omega), Option.bind_some, if_pos (by simp; omega), rd_nat]
    show ((surveyorref01_cut.f k (a[q]?.getD 0 :: X)).bind _) = _
    rw [c1, Option.bind_some, si]
    exact r1
theorem div_unique {N m n d : Nat} (hd : d < m) (h : (N : Int) = (n : Int) * (m : Int) + (d : Int)) : n = N / m ∧ d = N % m := by
  have h2 : N = n * m + d := by
    have : ((n * m + d : Nat) : Int) = (n : Int) * (m : Int) + (d : Int) := by rw [Int.natCast_add, Int.natCast_mul]
    omega
  subst h2
  constructor
  · rw [Nat.mul_comm, Nat.mul_add_div (by omega), Nat.div_eq_of_lt hd]; rfl
  · rw [Nat.mul_comm, Nat.mul_add_mod, Nat.mod_eq_of_lt hd]
theorem split_val {N m : Nat} (hm : m ≠ 0) (l1 : (cL N).length ≤ 20000) (l2 : (cL m).length ≤ 20000) (k : Nat) (hk : 1000000 ≤ k) : surveyorref01_split.f k (cL N) (cL m) = some (cL (N / m), cL (N % m)) ∧ (cL (N / m)).length ≤ (cL N).length := by
  have hmn : (cL m).length ≠ 0 := by
    rw [cL_step m hm]; simp
  have low := cL_low m hmn
  obtain ⟨q, hq, hq2, hq3⟩ : ∃ q : Nat, mx 0 (wrap64 ((wrap64 (((cL N).length : Int) - ((cL m).length : Int))) + 1)) = (q : Int) ∧ q ≤ (cL N).length ∧ (cL N).length - q ≤ (cL m).length - 1 := by
    rw [wrap_small (z := ((cL N).length : Int) - ((cL m).length : Int)) (by omega) (by omega), wrap_small (z := ((cL N).length : Int) - ((cL m).length : Int) + 1) (by omega) (by omega)]
    refine ⟨(cL N).length + 1 - (cL m).length, ?_, by omega, by omega⟩
    unfold mx
    split <;> omega
  have hdn := digs_cL N
  have hX := digs_drop hdn q
  have hXb := hv_bound hX
  rw [List.length_drop] at hXb
  obtain ⟨R, hR⟩ : ∃ R : Nat, hv ((cL N).drop q) = (R : Int) := ⟨(hv ((cL N).drop q)).toNat, by omega⟩
  have hRm : R < m := by
    have := pow_mono hq3
    omega
  have hr : ∀ p : Nat, (List.replicate q (0 : Int))[p]?.getD 0 = 0 := fun p => by
    rw [List.getElem?_replicate]; split <;> rfl
  have hz : hv ((List.replicate q (0 : Int)).drop q) = 0 := by
    rw [List.drop_of_length_le (by rw [List.length_replicate]; exact Nat.le_refl _)]; rfl
  obtain ⟨n, d, r1, r2, r3, r4⟩ := split_out (a := cL N) (m := m) hdn hm (by omega) (cL m).length (Nat.le_refl _) (by omega) q (List.replicate q 0) ((cL N).drop q) R k (by rw [List.length_replicate]; exact Nat.le_refl _) (by rw [List.length_replicate]; exact hq2) hq2 (fun p => by rw [hr]; omega) (fun p _ => hr p) hX (by rw [List.length_drop]; omega) hR hRm
    (fun q0 => by
      rw [q0, List.drop_zero] at hR ⊢
      rw [hv_cL] at hR
      rw [show R = N by omega]) (by omega) (by rw [hz, Int.zero_mul, Int.zero_add]; exact hR)
  rw [hv_cL] at r3
  obtain ⟨u1, u2⟩ := div_unique r2 r3
  rw [List.length_replicate] at r4
  unfold surveyorref01_split.f
  rw [hq, if_pos (by omega), Int.toNat_natCast, if_pos (by omega), Option.bind_some, if_pos (by omega), if_pos (by simp only [List.length_nil, List.length_drop]; omega), List.nil_append, show wrap64 ((q : Int) - 1) = (q : Int) - 1 from wrap_small (by omega) (by omega), r1, u1, u2]
  exact ⟨rfl, by rw [← u1]; omega⟩
theorem fmod_congr {x y n : Int} (hn : 0 ≤ n) (h : n ∣ x - y) : Int.fmod x n = Int.fmod y n := by
  rw [Int.fmod_eq_emod_of_nonneg _ hn, Int.fmod_eq_emod_of_nonneg _ hn, Int.emod_eq_emod_iff_emod_sub_eq_zero, ← Int.dvd_iff_emod_eq_zero]
  exact h
theorem bez_unique {a b X : Int} (hb : b ≠ 0) (h : ∃ t, X * a + t * b = gcdI a b) : Int.fmod X ((b.natAbs : Int) / gcdI a b) = bezU a b := by
  obtain ⟨t, ht⟩ := h
  obtain ⟨u, hu⟩ := bezP_val a b hb
  have hg := gcdI_pos (a := a) hb
  obtain ⟨n, hn⟩ := gcdI_right a b
  unfold bezU
  rw [if_neg hb]
  generalize bezP a b = P at hu ⊢
  generalize gcdI a b = g at *
  have e : (b.natAbs : Int) / g = (n.natAbs : Int) := by
    rw [hn, Int.natAbs_mul, Int.natCast_mul, show (g.natAbs : Int) = g by omega, Int.mul_ediv_cancel_left _ (by omega)]
  rw [e]
  refine fmod_congr (Int.natCast_nonneg _) (Int.natAbs_dvd.2 ?_)
  have h1 : g * (X - P) = g * (n * ((u - t) * P + (X - P) * u)) := by
    have k1 : (X - P) * a = (u - t) * b := by rw [Int.sub_mul, Int.sub_mul]; omega
    have k2 : g * (X - P) = (X - P) * (P * a + u * b) := by rw [hu]; exact Int.mul_comm _ _
    rw [k2, Int.mul_add, show (X - P) * (P * a) = P * ((X - P) * a) by ac_rfl, k1, hn]
    rw [Int.mul_add, Int.mul_add]
    have k3 : P * ((u - t) * (g * n)) = g * (n * ((u - t) * P)) := by ac_rfl
    have k4 : (X - P) * (u * (g * n)) = g * (n * ((X - P) * u)) := by ac_rfl
    rw [k3, k4]
  have h2 := Int.eq_of_mul_eq_mul_left (by omega) h1
  exact ⟨_, h2⟩
/-- The coefficients stay below the divisor. -/
theorem coef_step {x z r s q B : Int} (hq : 0 ≤ q) (hs : 0 ≤ s) (hr : 0 ≤ r - q * s) (h : x.natAbs * s.natAbs + z.natAbs * r.natAbs ≤ B.natAbs) : z.natAbs * (r - q * s).natAbs + (x - q * z).natAbs * s.natAbs ≤ B.natAbs := by
  have h1 : (x - q * z).natAbs ≤ x.natAbs + q.natAbs * z.natAbs := by
    have := Int.natAbs_sub_le x (q * z)
    rw [Int.natAbs_mul] at this
    exact this
  have h2 := Nat.mul_le_mul_right s.natAbs h1
  have h3 : (r - q * s).natAbs + q.natAbs * s.natAbs = r.natAbs := by
    have : (q * s).natAbs = q.natAbs * s.natAbs := Int.natAbs_mul _ _
    have := Int.mul_nonneg hq hs
    omega
  rw [← h3, Nat.mul_add] at h
  rw [Nat.add_mul] at h2
  have e : z.natAbs * (q.natAbs * s.natAbs) = q.natAbs * z.natAbs * s.natAbs := by ac_rfl
  omega
theorem coef_bound {x z r s B : Int} (hr : r ≠ 0) (h : x.natAbs * s.natAbs + z.natAbs * r.natAbs ≤ B.natAbs) : z.natAbs ≤ B.natAbs := by
  have := Nat.le_mul_of_pos_right z.natAbs (show 0 < r.natAbs by omega)
  omega
end Go.Proofs.YtignanmmgaldeaaGreatDoor.RefP
