/- SignKeeps: the plain law. -/
import Derived.Test.YtlefniheafefgaaGreatDoorPSignKeepsx1
import Derived.Test.YtlefniheafefgaaGreatDoorPSignKeepsx2
set_option linter.unusedVariables false
set_option linter.unusedSimpArgs false
namespace Go.Proofs.YtlefniheafefgaaGreatDoor.Keeps
open Go.RowKit Go.Proofs.YtlefniheafefgaaGreatDoor.PSignKeeps Go.Proofs.YtlefniheafefgaaGreatDoorW.PrintWords Go.Proofs.YtlefniheafefgaaGreatDoorW.PrintLast

theorem bt_get (a : ByteArray) (i : Nat) (c : UInt8) (h : a.data.toList[i]? = some c) : bt a i = (c.toNat : Int) := by
  have hl := (List.getElem?_eq_some_iff.1 h).1
  have hs : i < a.size := by rw [Lib.size_eq]; exact hl
  unfold bt
  rw [Int.toNat_natCast, dif_pos hs]
  have e : a[i] = c := by
    have := (List.getElem?_eq_some_iff.1 h).2
    rw [← this, ByteArray.getElem_eq_getElem_data]
    simp
  rw [e]
theorem size_le {a : ByteArray} (h : a.size ≤ 250) : a.data.toList.length ≤ 250 := by rw [← Lib.size_eq]; exact h
theorem form_loop (a : ByteArray) (h : a.size ≤ 250) : ∀ (k i : Nat), i ≤ a.size → a.size - i < k → surveyorref01_Form.l0 k a i = some (allDig (a.data.toList.drop i))
  | 0, i, _, hk => by omega
  | k + 1, i, hi, hk => by
    unfold surveyorref01_Form.l0
    have hz := Lib.size_eq a
    by_cases hlt : i < a.size
    · rw [if_pos (by omega), if_pos (by omega)]
      have hl : i < a.data.toList.length := by rw [← hz]; exact hlt
      have hd := List.drop_eq_getElem_cons hl
      have hb := bt_get a i _ (List.getElem?_eq_getElem hl)
      generalize a.data.toList[i] = c at hd hb
      have ih := form_loop a h k (i + 1) (by omega) (by omega)
      have hw : wrap64 ((i : Int) + 1) = ((i + 1 : Nat) : Int) := by unfold wrap64; omega
      rw [hb, hd, hw, ih]
      show _ = some (List.all (c :: _) isDig)
      rw [List.all_cons]
      by_cases h1 : (c.toNat : Int) < 48
      · have : isDig c = false := by simp [isDig]; omega
        rw [if_pos h1, this]; rfl
      · by_cases h2 : (c.toNat : Int) > 57
        · have : isDig c = false := by simp [isDig]; omega
          rw [if_neg h1, if_pos h2, this]; rfl
        · have : isDig c = true := by simp [isDig]; omega
          rw [if_neg h1, if_neg h2, this]; rfl
    · rw [if_neg (by omega), List.drop_of_length_le (by rw [← hz]; omega)]; rfl
theorem form_j1 (a : ByteArray) (h : a.size ≤ 250) (st : Nat) (hst : st ≤ a.size) (k : Nat) (hk : 252 ≤ k) : surveyorref01_Form.j1 (k + 1) a st = some (!(a.data.toList.drop st).isEmpty && !((a.data.toList.drop st).head? == some 48) && allDig (a.data.toList.drop st)) := by
  have hz := Lib.size_eq a
  obtain ⟨k, rfl⟩ : ∃ j, k = j + 1 := ⟨k - 1, by omega⟩
  simp only [surveyorref01_Form.j1]
  by_cases he : st = a.size
  · rw [if_pos (by omega), List.drop_of_length_le (by rw [← hz]; omega)]
    simp only [surveyorref01_Form.j2]
    rfl
  · have hl : st < a.data.toList.length := by rw [← hz]; omega
    have hd := List.drop_eq_getElem_cons hl
    have hb := bt_get a st _ (List.getElem?_eq_getElem hl)
    have hloop := form_loop a h k st hst (by omega)
    rw [if_neg (by omega), if_pos (by omega), if_pos (by omega), hb]
    simp only [surveyorref01_Form.j2]
    rw [hloop]
    generalize a.data.toList[st] = c at hd hb
    rw [hd]
    by_cases hc : c = 48
    · subst hc; rfl
    · have hc2 : c.toNat ≠ 48 := fun e => hc (u8_ext e)
      have h1 : ((c.toNat : Int) == 48) = false := by simp; omega
      rw [h1]
      simp [hc]
theorem toList_data (a : ByteArray) : a.toList = a.data.toList := by simp [ByteArray.toList_eq]
theorem ref_form (a : ByteArray) (h : a.size ≤ 250) (k : Nat) (hk : 252 ≤ k) : surveyorref01_Form.f (k + 2) a = some (canon a.data.toList) := by
  unfold surveyorref01_Form.f
  have hz := Lib.size_eq a
  rw [toList_data]
  by_cases h48 : a.data.toList = [48]
  · rw [if_pos h48, h48]; rfl
  · rw [if_neg h48, canon_eq]
    by_cases h0 : a.size = 0
    · have hn : a.data.toList = [] := List.eq_nil_of_length_eq_zero (by rw [← hz]; exact h0)
      rw [if_neg (by omega), hn]
      simp only [surveyorref01_Form.j0]
      rw [if_neg (by simp)]
      have := form_j1 a h 0 (by omega) k hk
      rw [hn] at this
      exact this
    · rw [if_pos (by omega)]
      try rw [if_pos (by omega)]
      obtain ⟨c, r, hl⟩ : ∃ c r, a.data.toList = c :: r := by
        cases hq : a.data.toList with
        | nil => rw [hq] at hz; exact absurd hz h0
        | cons c r => exact ⟨c, r, rfl⟩
      have hb := bt_get a 0 c (by rw [hl]; rfl)
      rw [show ((0 : Nat) : Int) = 0 from rfl] at hb
      simp only [surveyorref01_Form.j0]
      rw [hb]
      by_cases hc : c = 45
      · subst hc
        have e1 : Lib.hasPrefix a.data.toList [45] = true := by rw [hl]; simp [Lib.hasPrefix]
        have e2 : Lib.trimPrefix a.data.toList [45] = r := by rw [Lib.trimPrefix, if_pos e1, hl]; rfl
        have := form_j1 a h 1 (by omega) k hk
        rw [if_pos (by decide), e1, e2]
        rw [hl] at this
        rw [show ((1 : Int)) = ((1 : Nat) : Int) from rfl, this]
        show some (!r.isEmpty && !(r.head? == some 48) && allDig r) = _
        by_cases hr : r = [48]
        · rw [if_pos hr, hr]; rfl
        · rw [if_neg hr]
      · have hc2 : c.toNat ≠ 45 := fun e => hc (u8_ext e)
        have e1 : Lib.hasPrefix a.data.toList [45] = false := by rw [hl]; simp [Lib.hasPrefix, List.isPrefixOf, Ne.symm hc]
        have e2 : Lib.trimPrefix a.data.toList [45] = a.data.toList := by rw [Lib.trimPrefix, if_neg (by rw [e1]; simp)]
        have := form_j1 a h 0 (by omega) k hk
        have h1 : ((c.toNat : Int) == 45) = false := by simp; omega
        rw [h1, if_neg (by decide), e2, if_neg h48]
        exact this
theorem ref_negative (a : ByteArray) (h0 : 0 < a.size) : surveyorref01_Negative.f a = some (Lib.hasPrefix a.data.toList [45]) := by
  unfold surveyorref01_Negative.f
  have hz := Lib.size_eq a
  obtain ⟨c, r, hl⟩ : ∃ c r, a.data.toList = c :: r := by
    cases hq : a.data.toList with
    | nil => rw [hq] at hz; exact absurd hz (by simp only [List.length_nil]; omega)
    | cons c r => exact ⟨c, r, rfl⟩
  have hb := bt_get a 0 c (by rw [hl]; rfl)
  rw [show ((0 : Nat) : Int) = 0 from rfl] at hb
  rw [if_pos (by omega), hb, hl]
  by_cases hc : c = 45
  · subst hc; rfl
  · have hc2 : c.toNat ≠ 45 := fun e => hc (u8_ext e)
    have h1 : ((c.toNat : Int) == 45) = false := by simp; omega
    rw [h1]; simp [Lib.hasPrefix, List.isPrefixOf, Ne.symm hc]
theorem canon_size {a : ByteArray} (h : canon a.data.toList = true) : 0 < a.size := by
  rw [Lib.size_eq]
  cases hl : a.data.toList with
  | nil => rw [hl] at h; exact absurd h (by decide)
  | cons c r => simp
theorem ref_check01 (a : ByteArray) (h : a.size ≤ 250) (k : Nat) (hk : 252 ≤ k) : surveyorref01_Check.f (k + 2) a = some (chkI a) := by
  unfold surveyorref01_Check.f chkI
  rw [ref_form a h k hk, Option.bind_some]
  by_cases hc : canon a.data.toList = true
  · have h0 := canon_size hc
    have hd := digN_le a
    rw [if_pos hc, if_pos hc]
    unfold surveyorref01_Digits.f
    rw [ref_negative a h0, Option.bind_some]
    by_cases hp : Lib.hasPrefix a.data.toList [45] = true
    · rw [if_pos hp, Option.bind_some, if_neg (by unfold wrap64; omega), if_neg (by omega)]
    · rw [if_neg hp, Option.bind_some, if_neg (by omega), if_neg (by omega)]
  · rw [if_neg hc, if_neg hc]
theorem sgnI_range (z : Int) : sgnI z = -1 ∨ sgnI z = 0 ∨ sgnI z = 1 := by
  unfold sgnI; split
  · exact Or.inl rfl
  · split
    · exact Or.inr (Or.inl rfl)
    · exact Or.inr (Or.inr rfl)
/-- The set of a sign. -/
def setI (z : Int) : Int := if z < 0 then 1 else if z = 0 then 2 else 4
theorem sign_of (a : ByteArray) (h : a.size ≤ 9223372036854775807) : sign_Of.f a = some (if chkI a = 0 then setI (sgnI (ivalB a)) else 0, chkI a) := by
  unfold sign_Of.f bigint_Sign.f
  rw [if_pos h, Option.bind_some]
  dsimp only
  by_cases hc : chkI a = 0
  · rw [if_pos hc, if_pos hc, if_pos hc, hc]
    rcases sgnI_range (ivalB a) with e | e | e <;> rw [e] <;> decide +kernel
  · rw [if_neg hc, if_neg hc]

theorem right_step (k : Nat) (l : List ByteArray) (n i : Int) (x : ByteArray) (hi : i < n) (h0 : 0 ≤ i) (hl : i < (l.length : Int)) (hx : rdOf ByteArray.empty l i = x) (hf : x.size ≤ 250) (hc : chkI x = 0) (hk : 252 ≤ k) : surveyorlaw19_right.l0 (k + 2 + 1) l n i = surveyorlaw19_right.l0 (k + 2) l n (wrap64 (i + 1)) := by
  conv => lhs; unfold surveyorlaw19_right.l0
  rw [if_pos hi, if_pos h0, if_pos hl, hx]
  unfold surveyorref01_Few.f
  rw [Option.bind_some, if_pos (by simpa using (show (x.size : Int) ≤ 250 by omega)), ref_check01 x hf k hk, Option.bind_some, if_pos hc]
theorem right_stop (k : Nat) (l : List ByteArray) (n i : Int) (x : ByteArray) (hi : i < n) (h0 : 0 ≤ i) (hl : i < (l.length : Int)) (hx : rdOf ByteArray.empty l i = x) (hf : ¬ (x.size ≤ 250 ∧ chkI x = 0)) (hk : 252 ≤ k) : surveyorlaw19_right.l0 (k + 2 + 1) l n i = some false := by
  conv => lhs; unfold surveyorlaw19_right.l0
  rw [if_pos hi, if_pos h0, if_pos hl, hx]
  unfold surveyorref01_Few.f
  rw [Option.bind_some]
  by_cases h : x.size ≤ 250
  · rw [if_pos (by simpa using (show (x.size : Int) ≤ 250 by omega)), ref_check01 x h k hk, Option.bind_some, if_neg (fun e => hf ⟨h, e⟩)]
  · rw [if_neg (by simp; omega)]
theorem right_two (a b : ByteArray) : surveyorlaw19_right.f 310 [a, b] = some (decide ((a.size ≤ 250 ∧ chkI a = 0) ∧ (b.size ≤ 250 ∧ chkI b = 0))) := by
  unfold surveyorlaw19_right.f
  rw [show (310 : Nat) = 307 + 2 + 1 from rfl]
  by_cases ha : a.size ≤ 250 ∧ chkI a = 0
  · rw [right_step 307 [a, b] _ 0 a (by simp) (by omega) (by simp) rfl ha.1 ha.2 (by omega)]
    rw [show wrap64 ((0 : Int) + 1) = 1 from by decide +kernel, show 307 + 2 = 306 + 2 + 1 from rfl]
    by_cases hb : b.size ≤ 250 ∧ chkI b = 0
    · rw [right_step 306 [a, b] _ 1 b (by simp) (by omega) (by simp) rfl hb.1 hb.2 (by omega)]
      rw [show wrap64 ((1 : Int) + 1) = 2 from by decide +kernel]
      unfold surveyorlaw19_right.l0
      rw [if_neg (by simp)]
      simp [ha, hb]
    · rw [right_stop 306 [a, b] _ 1 b (by simp) (by omega) (by simp) rfl hb (by omega)]
      simp [ha, hb]
  · rw [right_stop 307 [a, b] _ 0 a (by simp) (by omega) (by simp) rfl ha (by omega)]
    simp [ha]

/-- What SignKeeps asks, for sets of signs. -/
def keepOK (o s t A B c : Int) : Bool :=
  match sign_Refine.f o s t with
  | some (x, y, e) => e == 0 && (bits .and .i64 x s == x) && (bits .and .i64 y t == y) && (sign_Refine.f o x y == some (x, y, 0)) &&
      ((bits .and .i64 A s == 0) || (bits .and .i64 B t == 0) || (surveyorref19_True.f o c 0 == some false) || ((bits .and .i64 A x != 0) && (bits .and .i64 B y != 0)))
  | none => false
/-- The signs of two integers and of their difference. -/
def agrees (a b c : Int) : Bool := (!decide (a < b) || c == -1) && (!decide (b < a) || c == 1) && (!(a == 0 && b == 0) || c == 0)
set_option maxRecDepth 100000 in
theorem keep_in : ∀ (o : Fin 4) (s t : Fin 8) (a b c : Fin 3), agrees (a.val - 1) (b.val - 1) (c.val - 1) = true → keepOK (2 + o.val) s.val t.val (setI (a.val - 1)) (setI (b.val - 1)) (c.val - 1) = true := by decide +kernel
theorem agrees_sgn (x y : Int) : agrees (sgnI x) (sgnI y) (sgnI (x - y)) = true := by
  unfold agrees sgnI
  by_cases h1 : x < 0
  · rw [if_pos h1]
    by_cases h2 : y < 0
    · rw [if_pos h2]; simp
    · rw [if_neg h2, if_pos (show x - y < 0 by omega)]
      by_cases h3 : y = 0
      · rw [if_pos h3]; decide
      · rw [if_neg h3]; decide
  · rw [if_neg h1]
    by_cases h3 : x = 0
    · rw [if_pos h3]
      by_cases h2 : y < 0
      · rw [if_pos h2, if_neg (show ¬ x - y < 0 by omega), if_neg (show ¬ x - y = 0 by omega)]; decide
      · rw [if_neg h2]
        by_cases h4 : y = 0
        · rw [if_pos h4, if_neg (show ¬ x - y < 0 by omega), if_pos (show x - y = 0 by omega)]; decide
        · rw [if_neg h4, if_pos (show x - y < 0 by omega)]; decide
    · rw [if_neg h3]
      by_cases h2 : y < 0
      · rw [if_pos h2, if_neg (show ¬ x - y < 0 by omega), if_neg (show ¬ x - y = 0 by omega)]; decide
      · rw [if_neg h2]
        by_cases h4 : y = 0
        · rw [if_pos h4, if_neg (show ¬ x - y < 0 by omega), if_neg (show ¬ x - y = 0 by omega)]; decide
        · rw [if_neg h4]; simp
theorem keeps (o s t p q : Int) (ho : 2 ≤ o ∧ o ≤ 5) (hs : 0 ≤ s ∧ s < 8) (ht : 0 ≤ t ∧ t < 8) :
    ∃ x y, sign_Refine.f o s t = some (x, y, 0) ∧ bits .and .i64 x s = x ∧ bits .and .i64 y t = y ∧ sign_Refine.f o x y = some (x, y, 0) ∧
      (bits .and .i64 (setI (sgnI p)) s = 0 ∨ bits .and .i64 (setI (sgnI q)) t = 0 ∨ surveyorref19_True.f o (sgnI (p - q)) 0 = some false ∨ (bits .and .i64 (setI (sgnI p)) x ≠ 0 ∧ bits .and .i64 (setI (sgnI q)) y ≠ 0)) := by
  have r1 := sgnI_range p
  have r2 := sgnI_range q
  have r3 := sgnI_range (p - q)
  have ha := agrees_sgn p q
  generalize sgnI p = a at r1 ha ⊢
  generalize sgnI q = b at r2 ha ⊢
  generalize sgnI (p - q) = c at r3 ha ⊢
  have := keep_in ⟨(o - 2).toNat, by omega⟩ ⟨s.toNat, by omega⟩ ⟨t.toNat, by omega⟩ ⟨(a + 1).toNat, by omega⟩ ⟨(b + 1).toNat, by omega⟩ ⟨(c + 1).toNat, by omega⟩
  dsimp only at this
  rw [show (((a + 1).toNat : Nat) : Int) - 1 = a from by omega, show (((b + 1).toNat : Nat) : Int) - 1 = b from by omega, show (((c + 1).toNat : Nat) : Int) - 1 = c from by omega, show (2 : Int) + (((o - 2).toNat : Nat) : Int) = o from by omega, show ((s.toNat : Nat) : Int) = s from by omega, show ((t.toNat : Nat) : Int) = t from by omega] at this
  have := this ha
  unfold keepOK at this
  split at this
  · rename_i x y e h
    simp only [Bool.and_eq_true, Bool.or_eq_true, beq_iff_eq, bne_iff_ne, ne_eq] at this
    obtain ⟨⟨⟨⟨rfl, h1⟩, h2⟩, h3⟩, h4⟩ := this
    exact ⟨x, y, h, h1, h2, h3, by rcases h4 with ((h4 | h4) | h4) | h4; exact Or.inl h4; exact Or.inr (Or.inl h4); exact Or.inr (Or.inr (Or.inl h4)); exact Or.inr (Or.inr (Or.inr h4))⟩
  · cases this
set_option maxRecDepth 100000 in
theorem awake_true : surveyorlaw19_awake.f 300 = some true := by decide +kernel
end Go.Proofs.YtlefniheafefgaaGreatDoor.Keeps
