/- TopChainsIntervals: plain laws. -/
import Derived.Test.YtnagmogjhfdmlaaGreatDoorLPTopChainsIntervalsx10
import Derived.Test.YtnagmogjhfdmlaaGreatDoorLTextP
set_option linter.unusedVariables false
set_option linter.unusedSimpArgs false
namespace Go.Proofs.YtnagmogjhfdmlaaGreatDoor.Pure
open Go.RowKit Go.Proofs.YtnagmogjhfdmlaaGreatDoor.PTopChainsIntervals Go.Proofs.YtnagmogjhfdmlaaGreatDoorW.PrintWords Go.Proofs.YtnagmogjhfdmlaaGreatDoorW.PrintLast
theorem bt_get (a : ByteArray) (i : Nat) (c : UInt8) (h : a.data.toList[i]? = some c) : bt a i = (c.toNat : Int) := by
  have hl := (List.getElem?_eq_some_iff.1 h).1
  have hs : i < a.size := by rw [Lib.size_eq]; exact hl
  unfold bt
  rw [Int.toNat_natCast, dif_pos hs]
  have e : a[i] = c := by
    have := (List.getElem?_eq_some_iff.1 h).2
    rw [← this, ByteArray.getElem_eq_getElem_data]
    simp
  rw [e]
theorem toList_data (a : ByteArray) : a.toList = a.data.toList := by simp [ByteArray.toList_eq]
theorem form_loop (a : ByteArray) (h : a.size ≤ 140737488351232) : ∀ (k i : Nat), i ≤ a.size → a.size - i < k → surveyorref01_Form.l0 k a i = some (allDig (a.data.toList.drop i))
  | 0, i, _, hk => by omega
  | k + 1, i, hi, hk => by
    unfold surveyorref01_Form.l0
    have hz := Lib.size_eq a
    by_cases hlt : i < a.size
    · rw [if_pos (by omega), if_pos (by omega)]
      have hl : i < a.data.toList.length := by rw [← hz]; exact hlt
      have hd := List.drop_eq_getElem_cons hl
      have hb := bt_get a i _ (List.getElem?_eq_getElem hl)
      generalize a.data.toList[i] = c at hd hb
      have ih := form_loop a h k (i + 1) (by omega) (by omega)
      have hw : wrap64 ((i : Int) + 1) = ((i + 1 : Nat) : Int) := by unfold wrap64; omega
      rw [hb, hd, hw, ih]
      show _ = some (List.all (c :: _) isDig)
      rw [List.all_cons]
      by_cases h1 : (c.toNat : Int) < 48
      · have : isDig c = false := by simp [isDig]; omega
        rw [if_pos h1, this]; rfl
      · by_cases h2 : (c.toNat : Int) > 57
        · have : isDig c = false := by simp [isDig]; omega
          rw [if_neg h1, if_pos h2, this]; rfl
        · have : isDig c = true := by simp [isDig]; omega
          rw [if_neg h1, if_neg h2, this]; rfl
    · rw [if_neg (by omega), List.drop_of_length_le (by rw [← hz]; omega)]; rfl
theorem form_j1 (a : ByteArray) (h : a.size ≤ 140737488351232) (st : Nat) (hst : st ≤ a.size) (k : Nat) (hk : a.size + 2 ≤ k) : surveyorref01_Form.j1 (k + 1) a st = some (!(a.data.toList.drop st).isEmpty && !((a.data.toList.drop st).head? == some 48) && allDig (a.data.toList.drop st)) := by
  have hz := Lib.size_eq a
  obtain ⟨k, rfl⟩ : ∃ j, k = j + 1 := ⟨k - 1, by omega⟩
  simp only [surveyorref01_Form.j1]
  by_cases he : st = a.size
  · rw [if_pos (by omega), List.drop_of_length_le (by rw [← hz]; omega)]
    simp only [surveyorref01_Form.j2]
    rfl
  · have hl : st < a.data.toList.length := by rw [← hz]; omega
    have hd := List.drop_eq_getElem_cons hl
    have hb := bt_get a st _ (List.getElem?_eq_getElem hl)
    have hloop := form_loop a h k st hst (by omega)
    rw [if_neg (by omega), if_pos (by omega), if_pos (by omega), hb]
    simp only [surveyorref01_Form.j2]
    rw [hloop]
    generalize a.data.toList[st] = c at hd hb
    rw [hd]
    by_cases hc : c = 48
    · subst hc; rfl
    · have hc2 : c.toNat ≠ 48 := fun e => hc (u8_ext e)
      have h1 : ((c.toNat : Int) == 48) = false := by simp; omega
      rw [h1]
      simp [hc]
theorem ref_form (a : ByteArray) (h : a.size ≤ 140737488351232) (k : Nat) (hk : a.size + 2 ≤ k) : surveyorref01_Form.f (k + 2) a = some (canon a.data.toList) := by
  unfold surveyorref01_Form.f
  have hz := Lib.size_eq a
  rw [toList_data]
  by_cases h48 : a.data.toList = [48]
  · rw [if_pos h48, h48]; rfl
  · rw [if_neg h48, canon_eq]
    by_cases h0 : a.size = 0
    · have hn : a.data.toList = [] := List.eq_nil_of_length_eq_zero (by rw [← hz]; exact h0)
      rw [if_neg (by omega), hn]
      simp only [surveyorref01_Form.j0]
      rw [if_neg (by simp)]
      have := form_j1 a h 0 (by omega) k hk
      rw [hn] at this
      exact this
    · rw [if_pos (by omega)]
      try rw [if_pos (by omega)]
      obtain ⟨c, r, hl⟩ : ∃ c r, a.data.toList = c :: r := by
        cases hq : a.data.toList with
        | nil => rw [hq] at hz; exact absurd hz h0
        | cons c r => exact ⟨c, r, rfl⟩
      have hb := bt_get a 0 c (by rw [hl]; rfl)
      rw [show ((0 : Nat) : Int) = 0 from rfl] at hb
      simp only [surveyorref01_Form.j0]
      rw [hb]
      by_cases hc : c = 45
      · subst hc
        have e1 : Lib.hasPrefix a.data.toList [45] = true := by rw [hl]; simp [Lib.hasPrefix]
        have e2 : Lib.trimPrefix a.data.toList [45] = r := by rw [Lib.trimPrefix, if_pos e1, hl]; rfl
        have := form_j1 a h 1 (by omega) k hk
        rw [if_pos (by decide), e1, e2]
        rw [hl] at this
        rw [show ((1 : Int)) = ((1 : Nat) : Int) from rfl, this]
        show some (!r.isEmpty && !(r.head? == some 48) && allDig r) = _
        by_cases hr : r = [48]
        · rw [if_pos hr, hr]; rfl
        · rw [if_neg hr]
      · have hc2 : c.toNat ≠ 45 := fun e => hc (u8_ext e)
        have e1 : Lib.hasPrefix a.data.toList [45] = false := by rw [hl]; simp [Lib.hasPrefix, List.isPrefixOf, Ne.symm hc]
        have e2 : Lib.trimPrefix a.data.toList [45] = a.data.toList := by rw [Lib.trimPrefix, if_neg (by rw [e1]; simp)]
        have := form_j1 a h 0 (by omega) k hk
        have h1 : ((c.toNat : Int) == 45) = false := by simp; omega
        rw [h1, if_neg (by decide), e2, if_neg h48]
        exact this
theorem ref_negative (a : ByteArray) (h0 : 0 < a.size) : surveyorref01_Negative.f a = some (Lib.hasPrefix a.data.toList [45]) := by
  unfold surveyorref01_Negative.f
  have hz := Lib.size_eq a
  obtain ⟨c, r, hl⟩ : ∃ c r, a.data.toList = c :: r := by
    cases hq : a.data.toList with
    | nil => rw [hq] at hz; exact absurd hz (by simp only [List.length_nil]; omega)
    | cons c r => exact ⟨c, r, rfl⟩
  have hb := bt_get a 0 c (by rw [hl]; rfl)
  rw [show ((0 : Nat) : Int) = 0 from rfl] at hb
  rw [if_pos (by omega), hb, hl]
  by_cases hc : c = 45
  · subst hc; rfl
  · have hc2 : c.toNat ≠ 45 := fun e => hc (u8_ext e)
    have h1 : ((c.toNat : Int) == 45) = false := by simp; omega
    rw [h1]; simp [Lib.hasPrefix, List.isPrefixOf, Ne.symm hc]
theorem canon_size {a : ByteArray} (h : canon a.data.toList = true) : 0 < a.size := by
  rw [Lib.size_eq]
  cases hl : a.data.toList with
  | nil => rw [hl] at h; exact absurd h (by decide)
  | cons c r => simp
theorem ref_digits (a : ByteArray) (h : a.size ≤ 140737488351232) (h0 : 0 < a.size) : surveyorref01_Digits.f a = some (digN a : Int) := by
  unfold surveyorref01_Digits.f digN
  have hz := Lib.size_eq a
  rw [ref_negative a h0, Option.bind_some]
  by_cases hp : Lib.hasPrefix a.data.toList [45] = true
  · rw [if_pos hp, Lib.trimPrefix, if_pos hp, List.length_drop, ← hz]
    show some (wrap64 ((a.size : Int) - 1)) = some ((a.size - 1 : Nat) : Int)
    congr 1
    unfold wrap64; omega
  · rw [if_neg hp, Lib.trimPrefix, if_neg hp, ← hz]
theorem ref_check (a : ByteArray) (h : a.size ≤ 140737488351232) (k : Nat) (hk : a.size + 4 ≤ k) : surveyorref01_Check.f k a = some (chkI a) := by
  obtain ⟨k, rfl⟩ : ∃ j, k = j + 2 := ⟨k - 2, by omega⟩
  unfold surveyorref01_Check.f chkI
  rw [ref_form a h k (by omega), Option.bind_some]
  by_cases hc : canon a.data.toList = true
  · have h0 := canon_size hc
    rw [if_pos hc, if_pos hc, ref_digits a h h0, Option.bind_some]
    by_cases hd : 4096 < digN a
    · rw [if_pos (by omega), if_pos hd]
    · rw [if_neg (by omega), if_neg hd]
  · rw [if_neg hc, if_neg hc]
theorem text_zero_iff (y : Int) : ((text y).toList = ([48] : List UInt8)) ↔ y = 0 := by
  constructor
  · intro h
    refine text_inj ?_
    rw [text_0]
    refine bytes_ext ?_
    rw [← toList_data, h]
  · intro h
    rw [h, text_0, toList_data]
theorem text_split (x : Int) : ∃ s, (text x).data.toList = s ++ Lib.decDigits x.natAbs ∧ (s = [] ∨ s = [45]) ∧ (s = [45] ↔ x < 0) := by
  rw [text_list]
  unfold Lib.itoa
  split
  · rename_i h; exact ⟨[45], rfl, .inr rfl, by simp [h]⟩
  · rename_i h; exact ⟨[], by rw [show x.toNat = x.natAbs by omega]; rfl, .inl rfl, by simp [h]⟩
theorem ref_sign (x : Int) {m : Nat} (hx : Bd m x) (hm : 1 ≤ m) : surveyorref01_Sign.f (text x) = some (sgnI x) := by
  unfold surveyorref01_Sign.f
  by_cases h : x = 0
  · rw [if_pos ((text_zero_iff x).2 h), h]; rfl
  · rw [if_neg (fun q => h ((text_zero_iff x).1 q))]
    obtain ⟨s, h1, h2, h3⟩ := text_split x
    have hne := decDigits_ne_nil x.natAbs
    have hsz : 0 < (text x).size := by
      rw [Lib.size_eq, h1, List.length_append]
      have := List.length_pos_iff.2 hne
      omega
    rw [ref_negative _ hsz, Option.bind_some, h1]
    unfold sgnI
    rcases h2 with rfl | rfl
    · have hx0 : ¬ x < 0 := fun q => by have := h3.2 q; cases this
      have hp : Lib.hasPrefix ([] ++ Lib.decDigits x.natAbs) [45] = false := by
        have hm := decDigits_no_minus x.natAbs
        rw [List.nil_append]
        generalize Lib.decDigits x.natAbs = l at hm hne
        cases l with
        | nil => exact absurd rfl hne
        | cons c r =>
          by_cases hc : c = 45
          · subst hc; exact absurd rfl (hm r)
          · simp [Lib.hasPrefix, List.isPrefixOf, Ne.symm hc]
      rw [hp, if_neg (by simp), if_neg hx0, if_neg h]
    · have hx0 : x < 0 := h3.1 rfl
      have hp : Lib.hasPrefix ([45] ++ Lib.decDigits x.natAbs) [45] = true := by simp [Lib.hasPrefix]
      rw [hp, if_pos rfl, if_pos hx0]
theorem rd_nat (L : List Int) (q : Nat) : rd L (q : Int) = L[q]?.getD 0 := by
  unfold rd
  rw [Int.toNat_natCast, List.getD_eq_getElem?_getD]
/-- The value of a digit. -/
def dg (c : UInt8) : Int := (c.toNat : Int) - 48
/-- The digits of a magnitude, the lowest one first. -/
def dL (n : Nat) : List Int := ((Lib.decDigits n).reverse).map dg
theorem dL_len (n : Nat) : (dL n).length = (Lib.decDigits n).length := by simp [dL]
/-- The value of the lowest q digits. -/
def vD (L : List Int) : Nat → Int
  | 0 => 0
  | q + 1 => vD L q + L[q]?.getD 0 * 10 ^ q
theorem vD_congr {L M : List Int} : ∀ q, (∀ i, i < q → L[i]?.getD 0 = M[i]?.getD 0) → vD L q = vD M q
  | 0, _ => rfl
  | q + 1, h => by rw [vD, vD, vD_congr q (fun i hi => h i (by omega)), h q (by omega)]
theorem vD_dig : ∀ (D : List UInt8), allDig D = true → vD (D.reverse.map dg) D.length = (dval D : Int)
  | [], _ => rfl
  | c :: D, h => by
    simp only [allDig, List.all_cons, Bool.and_eq_true] at h
    have h1 := (isDig_iff c).1 h.1
    have ih := vD_dig D h.2
    have e : ((c :: D).reverse.map dg) = D.reverse.map dg ++ [dg c] := by simp
    rw [e, List.length_cons, vD]
    have e1 : vD (D.reverse.map dg ++ [dg c]) D.length = vD (D.reverse.map dg) D.length := vD_congr _ (fun i hi => by rw [List.getElem?_append_left (by simpa using hi)])
    have e2 : (D.reverse.map dg ++ [dg c])[D.length]?.getD 0 = dg c := by
      rw [List.getElem?_append_right (by simp)]
      simp
    rw [e1, e2, ih, dval_cons]
    unfold dg
    have : ((10 : Int) ^ D.length) = ((10 ^ D.length : Nat) : Int) := by rw [Int.natCast_pow]; rfl
    rw [this]
    push_cast
    rw [show ((c.toNat : Int) - 48) = ((c.toNat - 48 : Nat) : Int) from by omega]
    omega
theorem vD_dL (n : Nat) : vD (dL n) (dL n).length = (n : Int) := by
  have := vD_dig (Lib.decDigits n) (allDig_decDigits n)
  rw [dval_decDigits] at this
  rw [dL_len]
  exact this
/-- Digits. -/
def digs10 (L : List Int) : Prop := ∀ i : Nat, 0 ≤ L[i]?.getD 0 ∧ L[i]?.getD 0 < 10
theorem digs_dL (n : Nat) : digs10 (dL n) := fun i => by
  unfold dL
  by_cases h : i < (Lib.decDigits n).length
  · have hi : i < (Lib.decDigits n).reverse.length := by simpa using h
    rw [List.getElem?_map, List.getElem?_eq_getElem hi]
    have hm : (Lib.decDigits n).reverse[i] ∈ Lib.decDigits n := List.mem_reverse.1 (List.getElem_mem hi)
    have := (isDig_iff _).1 (List.all_eq_true.1 (allDig_decDigits n) _ hm)
    simp only [Option.map_some, Option.getD_some]
    unfold dg
    omega
  · rw [List.getElem?_eq_none (by simpa using h)]
    simp
theorem vD_bound {L : List Int} (h : digs10 L) : ∀ q, 0 ≤ vD L q ∧ vD L q < 10 ^ q
  | 0 => by simp [vD]
  | q + 1 => by
    have ih := vD_bound h q
    have hq := h q
    rw [vD, Int.pow_succ]
    have hp : (0 : Int) < 10 ^ q := Int.pow_pos (by omega)
    have h1 : L[q]?.getD 0 * 10 ^ q ≤ 9 * 10 ^ q := Int.mul_le_mul_of_nonneg_right (by omega) (Int.le_of_lt hp)
    have h2 := Int.mul_nonneg hq.1 (Int.le_of_lt hp)
    omega
theorem digits_loop (a : ByteArray) (s D : List UInt8) (hs : s = [] ∨ s = [45]) (h : a.data.toList = s ++ D) (hD : allDig D = true) (hz : a.size ≤ 100000) : ∀ (q : Nat) (acc : List Int) (k : Nat), q ≤ D.length → q + 2 ≤ k → acc.length + q ≤ 100000 → surveyorref01_digits.l0 k a acc (((s.length + q : Nat) : Int) - 1) = some (acc ++ ((D.take q).reverse.map dg))
  | 0, acc, k, _, hk, _ => by
    obtain ⟨k, rfl⟩ : ∃ j, k = j + 1 := ⟨k - 1, by omega⟩
    rw [surveyorref01_digits.l0]
    rcases hs with rfl | rfl
    · rw [if_neg (by simp)]; simp
    · have hsz := Lib.size_eq a
      rw [h] at hsz
      simp only [List.length_append, List.length_cons, List.length_nil] at hsz
      have hb := bt_get a 0 45 (by rw [h]; rfl)
      rw [if_pos (by simp), if_pos (by simp), if_pos (by simp; omega)]
      rw [show ((([45] : List UInt8).length + 0 : Nat) : Int) - 1 = ((0 : Nat) : Int) from by simp, hb, if_pos (show ((UInt8.toNat 45 : Nat) : Int) = 45 from rfl)]
      simp
  | q + 1, acc, k, hq, hk, ha => by
    obtain ⟨k, rfl⟩ : ∃ j, k = j + 1 := ⟨k - 1, by omega⟩
    have hsz := Lib.size_eq a
    rw [h, List.length_append] at hsz
    have hl : q < D.length := by omega
    have hsl : s.length ≤ 1 := by rcases hs with rfl | rfl <;> simp
    have hc : a.data.toList[s.length + q]? = some D[q] := by
      rw [h, List.getElem?_append_right (by omega), show s.length + q - s.length = q by omega, List.getElem?_eq_getElem hl]
    have hb := bt_get a (s.length + q) _ hc
    have hdig := (isDig_iff _).1 (List.all_eq_true.1 hD _ (List.getElem_mem hl))
    have ih := digits_loop a s D hs h hD hz q (acc ++ [dg D[q]]) k (by omega) (by omega) (by simp; omega)
    rw [surveyorref01_digits.l0, show ((s.length + (q + 1) : Nat) : Int) - 1 = ((s.length + q : Nat) : Int) from by omega]
    rw [if_pos (by omega), if_pos (by omega), if_pos (by omega), hb, if_neg (by omega), if_pos (by omega)]
    rw [show ((D[q].toNat : Int) - 48) % 256 = dg D[q] from by unfold dg; omega, show wrap64 (((s.length + q : Nat) : Int) - 1) = ((s.length + q : Nat) : Int) - 1 from by unfold wrap64; omega, ih]
    rw [List.take_succ_eq_append_getElem hl, List.reverse_append, List.map_append, List.append_assoc]
    rfl
theorem digits_text {x : Int} {m : Nat} (hx : Bd m x) (hm : 1 ≤ m) (h4 : m ≤ 90000) (k : Nat) (hk : m + 3 ≤ k) : surveyorref01_digits.f k (text x) = some (dL x.natAbs) := by
  obtain ⟨s, h1, h2, _⟩ := text_split x
  have hz := size_text hx hm
  have hd := digits_le hx hm
  have hsz := Lib.size_eq (text x)
  rw [h1, List.length_append] at hsz
  have := digits_loop (text x) s (Lib.decDigits x.natAbs) h2 h1 (allDig_decDigits _) (by omega) (Lib.decDigits x.natAbs).length [] k (Nat.le_refl _) (by omega) (by simp; omega)
  unfold surveyorref01_digits.f
  rw [show wrap64 (((text x).size : Int) - 1) = ((s.length + (Lib.decDigits x.natAbs).length : Nat) : Int) - 1 from by unfold wrap64; omega, this, List.take_length, List.nil_append]
  rfl
/-- The digits without zeros at the end. -/
def cL (n : Nat) : List Int := if n = 0 then [] else dL n
theorem dL_top (n : Nat) (h : n ≠ 0) : ∃ q, (dL n).length = q + 1 ∧ (dL n)[q]?.getD 0 ≠ 0 := by
  obtain ⟨c, l, e, h1, h2⟩ := decDigits_head n h
  refine ⟨l.length, by rw [dL_len, e]; rfl, ?_⟩
  unfold dL
  rw [e, List.reverse_cons, List.map_append, List.getElem?_append_right (by simp)]
  simp
  unfold dg
  omega
/-- What comparing the lowest q digits says. -/
def cmpL (L M : List Int) : Nat → Int
  | 0 => 0
  | q + 1 => if L[q]?.getD 0 = M[q]?.getD 0 then cmpL L M q else if L[q]?.getD 0 < M[q]?.getD 0 then -1 else 1
theorem cmpL_val {L M : List Int} (hL : digs10 L) (hM : digs10 M) : ∀ q, cmpL L M q = sgnI (vD L q - vD M q)
  | 0 => rfl
  | q + 1 => by
    have ih := cmpL_val hL hM q
    have b1 := vD_bound hL q
    have b2 := vD_bound hM q
    have hp : (0 : Int) < 10 ^ q := Int.pow_pos (by omega)
    rw [cmpL, vD, vD]
    split
    · rename_i h
      rw [ih, h]
      congr 1
      omega
    · rename_i h
      split
      · rename_i h2
        have := Int.mul_le_mul_of_nonneg_right (show L[q]?.getD 0 + 1 ≤ M[q]?.getD 0 by omega) (Int.le_of_lt hp)
        rw [Int.add_mul] at this
        unfold sgnI
        rw [if_pos (by omega)]
      · rename_i h2
        have := Int.mul_le_mul_of_nonneg_right (show M[q]?.getD 0 + 1 ≤ L[q]?.getD 0 by omega) (Int.le_of_lt hp)
        rw [Int.add_mul] at this
        unfold sgnI
        rw [if_neg (by omega), if_neg (by omega)]
theorem cut_dL (n : Nat) (k : Nat) (hk : 2 ≤ k) (hl : (dL n).length ≤ 100000) : surveyorref01_cut.f k (dL n) = some (cL n) := by
  obtain ⟨k, rfl⟩ : ∃ j, k = j + 2 := ⟨k - 2, by omega⟩
  unfold surveyorref01_cut.f cL
  by_cases h : n = 0
  · subst h
    rw [if_pos rfl]
    have e : dL 0 = [0] := by unfold dL; rw [decDigits_small (by omega)]; rfl
    have hw : wrap64 ((([0] : List Int).length : Int) - 1) = 0 := by decide +kernel
    rw [e, surveyorref01_cut.l0, if_pos (by decide), hw, if_pos (by decide), if_pos (by decide), if_pos (show rd [0] 0 = 0 from rfl), surveyorref01_cut.l0, if_neg (by decide), if_pos (by decide), if_pos (by decide)]
    rfl
  · rw [if_neg h]
    obtain ⟨q, hq, ht⟩ := dL_top n h
    rw [surveyorref01_cut.l0, hq]
    have hw : wrap64 (((q + 1 : Nat) : Int) - 1) = (q : Int) := by unfold wrap64; omega
    rw [if_pos (by omega), hw, if_pos (by omega), if_pos (by omega), if_neg (by rw [rd_nat]; exact ht), if_pos (by omega), if_pos (by omega)]
    rw [show ((q + 1 : Nat) : Int).toNat = (dL n).length from by omega, List.take_length]
theorem order_loop {L M : List Int} (hl : L.length = M.length) (hL : L.length ≤ 100000) : ∀ (q k : Nat), q ≤ L.length → q + 1 ≤ k → surveyorref01_order.l0 k L M ((q : Int) - 1) = some (cmpL L M q)
  | 0, k, _, hk => by
    obtain ⟨k, rfl⟩ : ∃ j, k = j + 1 := ⟨k - 1, by omega⟩
    rw [surveyorref01_order.l0, if_neg (by simp)]
    rfl
  | q + 1, k, hq, hk => by
    obtain ⟨k, rfl⟩ : ∃ j, k = j + 1 := ⟨k - 1, by omega⟩
    have ih := order_loop hl hL q k (by omega) (by omega)
    rw [surveyorref01_order.l0, show ((q + 1 : Nat) : Int) - 1 = (q : Int) from by omega]
    rw [if_pos (by omega), if_pos (by omega), if_pos (by omega), if_pos (by omega), rd_nat, rd_nat, show wrap64 ((q : Int) - 1) = (q : Int) - 1 from by unfold wrap64; omega, ih, cmpL]
    split
    · rfl
    · split <;> rfl
theorem order_cL (m n : Nat) (k : Nat) (h1 : (dL m).length ≤ 100000) (h2 : (dL n).length ≤ 100000) (hk : (dL m).length + 2 ≤ k) : surveyorref01_order.f k (cL m) (cL n) = some (sgnI ((m : Int) - (n : Int))) := by
  have v : ∀ n, vD (cL n) (cL n).length = (n : Int) := fun n => by
    unfold cL
    split
    · rename_i h; rw [h]; rfl
    · exact vD_dL n
  have dgs : ∀ n, digs10 (cL n) := fun n => by
    unfold cL
    split
    · intro i; simp
    · exact digs_dL n
  have lens : ∀ n, (cL n).length ≤ (dL n).length := fun n => by
    unfold cL
    split
    · simp
    · exact Nat.le_refl _
  have low : ∀ n : Nat, (cL n).length ≠ 0 → (10 : Int) ^ ((cL n).length - 1) ≤ (n : Int) := fun n hn => by
    have hv := v n
    unfold cL at *
    split at hn
    · simp at hn
    · rename_i h0
      rw [if_neg h0] at hv ⊢
      obtain ⟨q, hq, ht⟩ := dL_top n h0
      rw [hq, vD] at hv
      have hb := vD_bound (digs_dL n) q
      have hd := digs_dL n q
      have hp : (0 : Int) < 10 ^ q := Int.pow_pos (by omega)
      have := Int.mul_le_mul_of_nonneg_right (show 1 ≤ (dL n)[q]?.getD 0 by omega) (Int.le_of_lt hp)
      rw [hq, Nat.add_sub_cancel]
      omega
  have up : ∀ n : Nat, (n : Int) < 10 ^ (cL n).length := fun n => by
    have := (vD_bound (dgs n) (cL n).length).2
    rw [v n] at this
    exact this
  have mono : ∀ {p q : Nat}, p ≤ q → (10 : Int) ^ p ≤ 10 ^ q := fun {p q} hpq => by
    have := Nat.pow_le_pow_right (n := 10) (by omega) hpq
    have h3 : ((10 ^ p : Nat) : Int) ≤ ((10 ^ q : Nat) : Int) := by omega
    rw [Int.natCast_pow, Int.natCast_pow] at h3
    exact h3
  have lm := lens m
  have ln := lens n
  unfold surveyorref01_order.f
  by_cases hlen : (cL m).length = (cL n).length
  · rw [if_pos (by omega)]
    have h := order_loop hlen (by omega) (cL m).length k (Nat.le_refl _) (by omega)
    rw [show wrap64 (((cL m).length : Int) - 1) = ((cL m).length : Int) - 1 from by unfold wrap64; omega, h, cmpL_val (dgs m) (dgs n), v m]
    rw [hlen, v n]
  · rw [if_neg (by omega)]
    by_cases hlt : (cL m).length < (cL n).length
    · rw [if_pos (by omega)]
      have a := up m
      have b := low n (by omega)
      have c := mono (show (cL m).length ≤ (cL n).length - 1 by omega)
      unfold sgnI
      rw [if_pos (by omega)]
    · rw [if_neg (by omega)]
      have a := up n
      have b := low m (by omega)
      have c := mono (show (cL n).length ≤ (cL m).length - 1 by omega)
      unfold sgnI
      rw [if_neg (by omega), if_neg (by omega)]
theorem order_text {x y : Int} (hx : Bd 250 x) (hy : Bd 250 y) (k : Nat) (hk : 300 ≤ k) : surveyorref01_Order.f k (text x) (text y) = some (sgnI (x - y)) := by
  have lx : (dL x.natAbs).length ≤ 250 := by rw [dL_len]; exact digits_le hx (by omega)
  have ly : (dL y.natAbs).length ≤ 250 := by rw [dL_len]; exact digits_le hy (by omega)
  unfold surveyorref01_Order.f
  rw [ref_sign x hx (by omega), Option.bind_some, ref_sign y hy (by omega), Option.bind_some]
  rw [digits_text hx (by omega) (by omega) k (by omega), Option.bind_some, cut_dL _ k (by omega) (by omega), Option.bind_some, digits_text hy (by omega) (by omega) k (by omega), Option.bind_some, cut_dL _ k (by omega) (by omega), Option.bind_some, order_cL _ _ k (by omega) (by omega) (by omega), Option.bind_some]
  unfold sgnI
  by_cases x0 : x < 0
  · rw [if_pos x0]
    by_cases y0 : y < 0
    · rw [if_pos y0, if_pos rfl]
      by_cases h : x < y
      · rw [if_neg (show ¬ ((x.natAbs : Int) - (y.natAbs : Int) < 0) by omega), if_neg (show ¬ ((x.natAbs : Int) - (y.natAbs : Int) = 0) by omega), if_pos (show x - y < 0 by omega)]; (first | rfl | decide +kernel)
      · by_cases h2 : x = y
        · rw [if_neg (show ¬ ((x.natAbs : Int) - (y.natAbs : Int) < 0) by omega), if_pos (show ((x.natAbs : Int) - (y.natAbs : Int) = 0) by omega), if_neg (show ¬ x - y < 0 by omega), if_pos (show x - y = 0 by omega)]; (first | rfl | decide +kernel)
        · rw [if_pos (show ((x.natAbs : Int) - (y.natAbs : Int) < 0) by omega), if_neg (show ¬ x - y < 0 by omega), if_neg (show ¬ x - y = 0 by omega)]; (first | rfl | decide +kernel)
    · rw [if_neg y0]
      rw [if_pos (show x - y < 0 by omega)]
      by_cases y1 : y = 0
      · rw [if_pos y1]; (first | rfl | decide +kernel)
      · rw [if_neg y1]; (first | rfl | decide +kernel)
  · rw [if_neg x0]
    by_cases x1 : x = 0
    · rw [if_pos x1]
      by_cases y0 : y < 0
      · rw [if_pos y0, if_neg (show ¬ x - y < 0 by omega), if_neg (show ¬ x - y = 0 by omega)]; (first | rfl | decide +kernel)
      · rw [if_neg y0]
        by_cases y1 : y = 0
        · rw [if_pos y1, if_pos rfl, if_neg (show ¬ x - y < 0 by omega), if_pos (show x - y = 0 by omega), if_neg (show ¬ ((x.natAbs : Int) - (y.natAbs : Int) < 0) by omega), if_pos (show ((x.natAbs : Int) - (y.natAbs : Int) = 0) by omega)]; (first | rfl | decide +kernel)
        · rw [if_neg y1, if_pos (show x - y < 0 by omega)]; (first | rfl | decide +kernel)
    · rw [if_neg x1]
      by_cases y0 : y < 0
      · rw [if_pos y0, if_neg (show ¬ x - y < 0 by omega), if_neg (show ¬ x - y = 0 by omega)]; (first | rfl | decide +kernel)
      · rw [if_neg y0]
        by_cases y1 : y = 0
        · rw [if_pos y1, if_neg (show ¬ x - y < 0 by omega), if_neg (show ¬ x - y = 0 by omega)]; (first | rfl | decide +kernel)
        · rw [if_neg y1, if_pos rfl]
          by_cases h : x < y
          · rw [if_pos (show ((x.natAbs : Int) - (y.natAbs : Int) < 0) by omega), if_pos (show x - y < 0 by omega)]; (first | rfl | decide +kernel)
          · by_cases h2 : x = y
            · rw [if_neg (show ¬ ((x.natAbs : Int) - (y.natAbs : Int) < 0) by omega), if_pos (show ((x.natAbs : Int) - (y.natAbs : Int) = 0) by omega), if_neg (show ¬ x - y < 0 by omega), if_pos (show x - y = 0 by omega)]; (first | rfl | decide +kernel)
            · rw [if_neg (show ¬ ((x.natAbs : Int) - (y.natAbs : Int) < 0) by omega), if_neg (show ¬ ((x.natAbs : Int) - (y.natAbs : Int) = 0) by omega), if_neg (show ¬ x - y < 0 by omega), if_neg (show ¬ x - y = 0 by omega)]; (first | rfl | decide +kernel)
theorem pdigits_val {x : Int} (h : Bd 100 x) : ∃ d, PIvA.interval_digits.f (text x) = some d ∧ ¬ d > 100 := by
  have hs := size_text h (by omega)
  obtain ⟨s, h1, h2, h3⟩ := text_split x
  have hd := digits_le h (by omega)
  have hz := Lib.size_eq (text x)
  rw [h1, List.length_append] at hz
  have hp : 0 < (text x).size := by
    have := List.length_pos_iff.2 (decDigits_ne_nil x.natAbs)
    omega
  unfold PIvA.interval_digits.f
  rw [if_pos (by omega), if_pos (by omega)]
  rcases h2 with rfl | rfl
  · split
    · exact ⟨_, rfl, by unfold wrap64; omega⟩
    · exact ⟨_, rfl, by simp only [List.length_nil] at hz; omega⟩
  · have hb := bt_get (text x) 0 45 (by rw [h1]; rfl)
    rw [show ((0 : Nat) : Int) = 0 from rfl] at hb
    rw [hb, if_pos (by decide)]
    exact ⟨_, rfl, by simp only [List.length_cons, List.length_nil] at hz; unfold wrap64; omega⟩
theorem pnumber_val {x : Int} (h : Bd 100 x) : PIvA.interval_number.f (text x) = some 0 := by
  obtain ⟨d, h1, h2⟩ := pdigits_val h
  have hs := size_text h (by omega)
  unfold PIvA.interval_number.f bigint_Check.f
  rw [if_pos (by omega), chk_text h (by omega) (by omega), Option.bind_some, if_pos rfl, h1, Option.bind_some, if_neg h2]
theorem porder_val {x y : Int} (hx : Bd 100 x) (hy : Bd 100 y) : PIvA.interval_order.f (text x) (text y) = some (sgnI (x - y)) := by
  unfold PIvA.interval_order.f
  rw [compare_at 100 hx hy (by omega) (by omega)]
  rfl
end Go.Proofs.YtnagmogjhfdmlaaGreatDoor.Pure
