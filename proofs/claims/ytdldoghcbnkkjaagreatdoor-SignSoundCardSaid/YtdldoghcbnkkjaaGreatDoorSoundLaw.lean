/- SignSound: the plain law. -/
import Derived.Test.YtdldoghcbnkkjaaGreatDoorSigns
import Derived.Test.YtdldoghcbnkkjaaGreatDoorOpsAll
import Derived.Test.YtdldoghcbnkkjaaGreatDoorAbs
import Derived.Test.YtdldoghcbnkkjaaGreatDoorSignGivenZ
import Derived.Test.YtdldoghcbnkkjaaGreatDoorPcomputex1
import Derived.Test.YtdldoghcbnkkjaaGreatDoorPapplyx1
import Derived.Test.YtdldoghcbnkkjaaGreatDoorPawakex1
import Derived.Test.YtdldoghcbnkkjaaGreatDoorPHoldsx1
import Derived.Test.YtdldoghcbnkkjaaGreatDoorPrightx1
set_option linter.unusedVariables false
set_option linter.unusedSimpArgs false
namespace Go.Proofs.YtdldoghcbnkkjaaGreatDoor.Sound
open Go.RowKit Go.Shelf Go.Proofs.YtdldoghcbnkkjaaGreatDoorW.PrintWords Go.Proofs.YtdldoghcbnkkjaaGreatDoorW.PrintLast
open Go.Proofs.YtdldoghcbnkkjaaGreatDoor.Pcompute (surveyorlaw19_compute.f surveyorlaw19_compute.calls)
open Go.Proofs.YtdldoghcbnkkjaaGreatDoor.Papply (surveyorlaw19_apply.f surveyorlaw19_apply.calls)
open Go.Proofs.YtdldoghcbnkkjaaGreatDoor.Pawake (surveyorlaw19_awake.f surveyorlaw19_awake.calls)
open Go.Proofs.YtdldoghcbnkkjaaGreatDoor.PHolds (sign_Holds.f sign_Holds.calls sign_Of.f sign_Of.calls sign_Check.f)
open Go.Proofs.YtdldoghcbnkkjaaGreatDoor.Pright

theorem bt_get (a : ByteArray) (i : Nat) (c : UInt8) (h : a.data.toList[i]? = some c) : bt a i = (c.toNat : Int) := by
  have hl := (List.getElem?_eq_some_iff.1 h).1
  have hs : i < a.size := by rw [Lib.size_eq]; exact hl
  unfold bt
  rw [Int.toNat_natCast, dif_pos hs]
  have e : a[i] = c := by
    have := (List.getElem?_eq_some_iff.1 h).2
    rw [← this, ByteArray.getElem_eq_getElem_data]
    simp
  rw [e]
theorem size_le {a : ByteArray} (h : a.size ≤ 250) : a.data.toList.length ≤ 250 := by rw [← Lib.size_eq]; exact h
theorem form_loop (a : ByteArray) (h : a.size ≤ 250) : ∀ (k i : Nat), i ≤ a.size → a.size - i < k → surveyorref01_Form.l0 k a i = some (allDig (a.data.toList.drop i))
  | 0, i, _, hk => by omega
  | k + 1, i, hi, hk => by
    unfold surveyorref01_Form.l0
    have hz := Lib.size_eq a
    by_cases hlt : i < a.size
    · rw [if_pos (by omega), if_pos (by omega)]
      have hl : i < a.data.toList.length := by rw [← hz]; exact hlt
      have hd := List.drop_eq_getElem_cons hl
      have hb := bt_get a i _ (List.getElem?_eq_getElem hl)
      generalize a.data.toList[i] = c at hd hb
      have ih := form_loop a h k (i + 1) (by omega) (by omega)
      have hw : wrap64 ((i : Int) + 1) = ((i + 1 : Nat) : Int) := by unfold wrap64; omega
      rw [hb, hd, hw, ih]
      show _ = some (List.all (c :: _) isDig)
      rw [List.all_cons]
      by_cases h1 : (c.toNat : Int) < 48
      · have : isDig c = false := by simp [isDig]; omega
        rw [if_pos h1, this]; rfl
      · by_cases h2 : (c.toNat : Int) > 57
        · have : isDig c = false := by simp [isDig]; omega
          rw [if_neg h1, if_pos h2, this]; rfl
        · have : isDig c = true := by simp [isDig]; omega
          rw [if_neg h1, if_neg h2, this]; rfl
    · rw [if_neg (by omega), List.drop_of_length_le (by rw [← hz]; omega)]; rfl
theorem form_j1 (a : ByteArray) (h : a.size ≤ 250) (st : Nat) (hst : st ≤ a.size) (k : Nat) (hk : 252 ≤ k) : surveyorref01_Form.j1 (k + 1) a st = some (!(a.data.toList.drop st).isEmpty && !((a.data.toList.drop st).head? == some 48) && allDig (a.data.toList.drop st)) := by
  have hz := Lib.size_eq a
  obtain ⟨k, rfl⟩ : ∃ j, k = j + 1 := ⟨k - 1, by omega⟩
  simp only [surveyorref01_Form.j1]
  by_cases he : st = a.size
  · rw [if_pos (by omega), List.drop_of_length_le (by rw [← hz]; omega)]
    simp only [surveyorref01_Form.j2]
    rfl
  · have hl : st < a.data.toList.length := by rw [← hz]; omega
    have hd := List.drop_eq_getElem_cons hl
    have hb := bt_get a st _ (List.getElem?_eq_getElem hl)
    have hloop := form_loop a h k st hst (by omega)
    rw [if_neg (by omega), if_pos (by omega), if_pos (by omega), hb]
    simp only [surveyorref01_Form.j2]
    rw [hloop]
    generalize a.data.toList[st] = c at hd hb
    rw [hd]
    by_cases hc : c = 48
    · subst hc; rfl
    · have hc2 : c.toNat ≠ 48 := fun e => hc (u8_ext e)
      have h1 : ((c.toNat : Int) == 48) = false := by simp; omega
      rw [h1]
      simp [hc]
theorem toList_data (a : ByteArray) : a.toList = a.data.toList := by simp [ByteArray.toList_eq]
theorem ref_form (a : ByteArray) (h : a.size ≤ 250) (k : Nat) (hk : 252 ≤ k) : surveyorref01_Form.f (k + 2) a = some (canon a.data.toList) := by
  unfold surveyorref01_Form.f
  have hz := Lib.size_eq a
  rw [toList_data]
  by_cases h48 : a.data.toList = [48]
  · rw [if_pos h48, h48]; rfl
  · rw [if_neg h48, canon_eq]
    by_cases h0 : a.size = 0
    · have hn : a.data.toList = [] := List.eq_nil_of_length_eq_zero (by rw [← hz]; exact h0)
      rw [if_neg (by omega), hn]
      simp only [surveyorref01_Form.j0]
      rw [if_neg (by simp)]
      have := form_j1 a h 0 (by omega) k hk
      rw [hn] at this
      exact this
    · rw [if_pos (by omega)]
      try rw [if_pos (by omega)]
      obtain ⟨c, r, hl⟩ : ∃ c r, a.data.toList = c :: r := by
        cases hq : a.data.toList with
        | nil => rw [hq] at hz; exact absurd hz h0
        | cons c r => exact ⟨c, r, rfl⟩
      have hb := bt_get a 0 c (by rw [hl]; rfl)
      rw [show ((0 : Nat) : Int) = 0 from rfl] at hb
      simp only [surveyorref01_Form.j0]
      rw [hb]
      by_cases hc : c = 45
      · subst hc
        have e1 : Lib.hasPrefix a.data.toList [45] = true := by rw [hl]; simp [Lib.hasPrefix]
        have e2 : Lib.trimPrefix a.data.toList [45] = r := by rw [Lib.trimPrefix, if_pos e1, hl]; rfl
        have := form_j1 a h 1 (by omega) k hk
        rw [if_pos (by decide), e1, e2]
        rw [hl] at this
        rw [show ((1 : Int)) = ((1 : Nat) : Int) from rfl, this]
        show some (!r.isEmpty && !(r.head? == some 48) && allDig r) = _
        by_cases hr : r = [48]
        · rw [if_pos hr, hr]; rfl
        · rw [if_neg hr]
      · have hc2 : c.toNat ≠ 45 := fun e => hc (u8_ext e)
        have e1 : Lib.hasPrefix a.data.toList [45] = false := by rw [hl]; simp [Lib.hasPrefix, List.isPrefixOf, Ne.symm hc]
        have e2 : Lib.trimPrefix a.data.toList [45] = a.data.toList := by rw [Lib.trimPrefix, if_neg (by rw [e1]; simp)]
        have := form_j1 a h 0 (by omega) k hk
        have h1 : ((c.toNat : Int) == 45) = false := by simp; omega
        rw [h1, if_neg (by decide), e2, if_neg h48]
        exact this
theorem ref_negative (a : ByteArray) (h0 : 0 < a.size) : surveyorref01_Negative.f a = some (Lib.hasPrefix a.data.toList [45]) := by
  unfold surveyorref01_Negative.f
  have hz := Lib.size_eq a
  obtain ⟨c, r, hl⟩ : ∃ c r, a.data.toList = c :: r := by
    cases hq : a.data.toList with
    | nil => rw [hq] at hz; exact absurd hz (by simp only [List.length_nil]; omega)
    | cons c r => exact ⟨c, r, rfl⟩
  have hb := bt_get a 0 c (by rw [hl]; rfl)
  rw [show ((0 : Nat) : Int) = 0 from rfl] at hb
  rw [if_pos (by omega), hb, hl]
  by_cases hc : c = 45
  · subst hc; rfl
  · have hc2 : c.toNat ≠ 45 := fun e => hc (u8_ext e)
    have h1 : ((c.toNat : Int) == 45) = false := by simp; omega
    rw [h1]; simp [Lib.hasPrefix, List.isPrefixOf, Ne.symm hc]
theorem canon_size {a : ByteArray} (h : canon a.data.toList = true) : 0 < a.size := by
  rw [Lib.size_eq]
  cases hl : a.data.toList with
  | nil => rw [hl] at h; exact absurd h (by decide)
  | cons c r => simp
theorem ref_check01 (a : ByteArray) (h : a.size ≤ 250) (k : Nat) (hk : 252 ≤ k) : surveyorref01_Check.f (k + 2) a = some (chkI a) := by
  unfold surveyorref01_Check.f chkI
  rw [ref_form a h k hk, Option.bind_some]
  by_cases hc : canon a.data.toList = true
  · have h0 := canon_size hc
    have hd := digN_le a
    rw [if_pos hc, if_pos hc]
    unfold surveyorref01_Digits.f
    rw [ref_negative a h0, Option.bind_some]
    by_cases hp : Lib.hasPrefix a.data.toList [45] = true
    · rw [if_pos hp, Option.bind_some, if_neg (by unfold wrap64; omega), if_neg (by omega)]
    · rw [if_neg hp, Option.bind_some, if_neg (by omega), if_neg (by omega)]
  · rw [if_neg hc, if_neg hc]
theorem right_step (k : Nat) (l : List ByteArray) (n i : Int) (x : ByteArray) (hi : i < n) (h0 : 0 ≤ i) (hl : i < (l.length : Int)) (hx : rdOf ByteArray.empty l i = x) (hf : x.size ≤ 250) (hc : chkI x = 0) (hk : 252 ≤ k) : surveyorlaw19_right.l0 (k + 2 + 1) l n i = surveyorlaw19_right.l0 (k + 2) l n (wrap64 (i + 1)) := by
  conv => lhs; unfold surveyorlaw19_right.l0
  rw [if_pos hi, if_pos h0, if_pos hl, hx]
  unfold surveyorref01_Few.f
  rw [Option.bind_some, if_pos (by simpa using (show (x.size : Int) ≤ 250 by omega)), ref_check01 x hf k hk, Option.bind_some, if_pos hc]
theorem right_stop (k : Nat) (l : List ByteArray) (n i : Int) (x : ByteArray) (hi : i < n) (h0 : 0 ≤ i) (hl : i < (l.length : Int)) (hx : rdOf ByteArray.empty l i = x) (hf : ¬ (x.size ≤ 250 ∧ chkI x = 0)) (hk : 252 ≤ k) : surveyorlaw19_right.l0 (k + 2 + 1) l n i = some false := by
  conv => lhs; unfold surveyorlaw19_right.l0
  rw [if_pos hi, if_pos h0, if_pos hl, hx]
  unfold surveyorref01_Few.f
  rw [Option.bind_some]
  by_cases h : x.size ≤ 250
  · rw [if_pos (by simpa using (show (x.size : Int) ≤ 250 by omega)), ref_check01 x h k hk, Option.bind_some, if_neg (fun e => hf ⟨h, e⟩)]
  · rw [if_neg (by simp; omega)]
theorem right_two (a b : ByteArray) : surveyorlaw19_right.f 310 [a, b] = some (decide ((a.size ≤ 250 ∧ chkI a = 0) ∧ (b.size ≤ 250 ∧ chkI b = 0))) := by
  unfold surveyorlaw19_right.f
  rw [show (310 : Nat) = 307 + 2 + 1 from rfl]
  by_cases ha : a.size ≤ 250 ∧ chkI a = 0
  · rw [right_step 307 [a, b] _ 0 a (by simp) (by omega) (by simp) rfl ha.1 ha.2 (by omega)]
    rw [show wrap64 ((0 : Int) + 1) = 1 from by decide +kernel, show 307 + 2 = 306 + 2 + 1 from rfl]
    by_cases hb : b.size ≤ 250 ∧ chkI b = 0
    · rw [right_step 306 [a, b] _ 1 b (by simp) (by omega) (by simp) rfl hb.1 hb.2 (by omega)]
      rw [show wrap64 ((1 : Int) + 1) = 2 from by decide +kernel]
      unfold surveyorlaw19_right.l0
      rw [if_neg (by simp)]
      simp [ha, hb]
    · rw [right_stop 306 [a, b] _ 1 b (by simp) (by omega) (by simp) rfl hb (by omega)]
      simp [ha, hb]
  · rw [right_stop 307 [a, b] _ 0 a (by simp) (by omega) (by simp) rfl ha (by omega)]
    simp [ha]


set_option maxRecDepth 100000 in
theorem awake_true : surveyorlaw19_awake.f 300 = some true := by decide +kernel
theorem sgnI_range (z : Int) : ∃ c : Fin 3, sgnI z = (c.val : Int) - 1 := by
  unfold sgnI; split
  · exact ⟨0, rfl⟩
  · split
    · exact ⟨1, rfl⟩
    · exact ⟨2, rfl⟩
/-- Whether a set holds for an integer of a sign. -/
def hbS (s c : Int) : Bool := bits .and .i64 s (if c < 0 then 1 else if c = 0 then 2 else 4) != 0
def holdsS (s c : Int) : Option (Bool × Int) := (sign_Check.f s).bind fun t103 => (if t103 = 0 then ((if 0 ≤ (wrap64 (c + 1)) then (some (shl .i64 1 (wrap64 (c + 1)), (0 : Int))) else (none)).bind fun bt104 => (some (((Go.bits .and .i64 s bt104.1) != 0), bt104.2))) else (some (false, t103)))
theorem holdsS_val : ∀ (s : Fin 8) (c : Fin 3), holdsS s.val ((c.val : Int) - 1) = some (hbS s.val ((c.val : Int) - 1), 0) := by decide +kernel
theorem holds_at {z : Int} (m : Nat) (hz : Bd m z) (hm : 1 ≤ m) (h4 : m ≤ 4096) (s : Int) (s0 : 0 ≤ s) (s8 : s < 8) : sign_Holds.f s (text z) = some (hbS s (sgnI z), 0) := by
  have e : sign_Holds.f s (text z) = holdsS s (sgnI z) := by
    unfold sign_Holds.f sign_Of.f holdsS
    rw [sign_at m hz hm h4, Option.bind_some]
    rfl
  rw [e]
  obtain ⟨c, hc⟩ := sgnI_range z
  rw [hc]
  have := holdsS_val ⟨s.toNat, by omega⟩ c
  rw [show (((⟨s.toNat, by omega⟩ : Fin 8).val : Nat) : Int) = s from by show ((s.toNat : Nat) : Int) = s; omega] at this
  exact this
set_option maxRecDepth 100000 in
theorem apply_ok : ∀ (m : Fin 5) (s t : Fin 8), ((surveyorlaw19_apply.f m.val s.val t.val).any fun r => r.2 == 0 && decide (0 ≤ r.1) && decide (r.1 < 8) && (List.range 3).all fun a => (List.range 3).all fun b => (List.range 3).all fun c => !(hbS s.val ((a : Int) - 1)) || !(hbS t.val ((b : Int) - 1)) || !(okS m.val ((a : Int) - 1) ((b : Int) - 1) ((c : Int) - 1)) || (decide (3 ≤ m.val) && b == 1) || hbS r.1 ((c : Int) - 1)) = true := by decide +kernel
theorem apply_sound (m : Fin 5) (s t : Fin 8) : ∃ R, surveyorlaw19_apply.f m.val s.val t.val = some (R, 0) ∧ 0 ≤ R ∧ R < 8 ∧ ∀ a b c : Fin 3, hbS s.val ((a.val : Int) - 1) = true → hbS t.val ((b.val : Int) - 1) = true → okS m.val ((a.val : Int) - 1) ((b.val : Int) - 1) ((c.val : Int) - 1) = true → (m.val < 3 ∨ b.val ≠ 1) → hbS R ((c.val : Int) - 1) = true := by
  have h := apply_ok m s t
  cases ha : surveyorlaw19_apply.f m.val s.val t.val with
  | none => rw [ha] at h; cases h
  | some r =>
    rw [ha] at h
    simp only [Option.any_some, Bool.and_eq_true, beq_iff_eq, decide_eq_true_eq] at h
    obtain ⟨⟨⟨h1, h2⟩, h3⟩, h4⟩ := h
    refine ⟨r.1, by rw [← h1], h2, h3, fun a b c ea eb ec eb2 => ?_⟩
    have k := List.all_eq_true.1 (List.all_eq_true.1 (List.all_eq_true.1 h4 a.val (List.mem_range.2 a.isLt)) b.val (List.mem_range.2 b.isLt)) c.val (List.mem_range.2 c.isLt)
    rw [ea, eb, ec] at k
    simp only [Bool.not_true, Bool.false_or, Bool.or_eq_true, Bool.and_eq_true, decide_eq_true_eq, beq_iff_eq] at k
    rcases k with k | k
    · omega
    · exact k
theorem tmod5 : ∀ m : Fin 5, Int.tmod (m.val : Int) 5 = (m.val : Int) := by decide
theorem sound_law (o s t xa xb : Int) (ho : 0 ≤ o) (s0 : 0 ≤ s) (s8 : s < 8) (t0 : 0 ≤ t) (t8 : t < 8) (ba : Bd 250 xa) (bb : Bd 250 xb) :
    ∃ (X Y : Bool) (R : Int) (rs : ByteArray) (c : Int), sign_Holds.f s (text xa) = some (X, 0) ∧ sign_Holds.f t (text xb) = some (Y, 0) ∧ surveyorlaw19_apply.f o s t = some (R, 0) ∧ surveyorlaw19_compute.f o (text xa) (text xb) = some (rs, c) ∧ ((c = 0 ∧ (X = true → Y = true → sign_Holds.f R rs = some (true, 0))) ∨ c = 19) := by
  obtain ⟨m, h1⟩ : ∃ m : Fin 5, Int.tmod o 5 = (m.val : Int) := by
    have e : Int.tmod o 5 = o % 5 := Int.tmod_eq_emod_of_nonneg ho
    exact ⟨⟨(o % 5).toNat, by omega⟩, by rw [e]; show o % 5 = (((o % 5).toNat : Nat) : Int); omega⟩
  obtain ⟨s, rfl⟩ : ∃ k : Fin 8, s = (k.val : Int) := ⟨⟨s.toNat, by omega⟩, by show s = ((s.toNat : Nat) : Int); omega⟩
  obtain ⟨t, rfl⟩ : ∃ k : Fin 8, t = (k.val : Int) := ⟨⟨t.toNat, by omega⟩, by show t = ((t.toNat : Nat) : Int); omega⟩
  obtain ⟨R, ha, R0, R8, hR⟩ := apply_sound m s t
  have ha2 : surveyorlaw19_apply.f o s.val t.val = some (R, 0) := by
    rw [← ha]
    unfold surveyorlaw19_apply.f
    rw [h1, tmod5]
  obtain ⟨a, hsa⟩ := sgnI_range xa
  obtain ⟨b, hsb⟩ := sgnI_range xb
  have key : ∀ z, Bd 1000 z → valO m.val xa xb = some z → (m.val < 3 ∨ xb ≠ 0) → hbS s.val (sgnI xa) = true → hbS t.val (sgnI xb) = true → sign_Holds.f R (text z) = some (true, 0) := by
    intro z bz hz hm3 h2 h3
    rw [holds_at 1000 bz (by omega) (by omega) R R0 R8]
    obtain ⟨c, hsc⟩ := sgnI_range z
    have hk := okS_val m.val xa xb z hz
    rw [hsa] at h2 hk
    rw [hsb] at h3 hk
    rw [hsc] at hk ⊢
    rw [hR a b c h2 h3 hk (by
      rcases hm3 with h | h
      · exact .inl h
      · refine .inr (fun q => h ?_)
        rw [q] at hsb
        have := sgnI_cases xb
        omega)]
  have hv : valO m.val xa xb = if (m.val : Int) = 0 then some (xa + xb) else if (m.val : Int) = 1 then some (xa + -xb) else if (m.val : Int) = 2 then some (xa * xb) else if xb = 0 then none else if (m.val : Int) = 3 then some (Int.fdiv xa xb) else some (Int.fmod xa xb) := rfl
  have hc : surveyorlaw19_compute.f o (text xa) (text xb) = if (m.val : Int) = 0 then some (text (xa + xb), 0) else if (m.val : Int) = 1 then some (text (xa + -xb), 0) else if (m.val : Int) = 2 then some (text (xa * xb), 0) else if (m.val : Int) = 3 then some (if xb = 0 then (⟨#[]⟩, 19) else (text (Int.fdiv xa xb), 0)) else some (if xb = 0 then (⟨#[]⟩, 19) else (text (Int.fmod xa xb), 0)) := by
    unfold surveyorlaw19_compute.f
    rw [h1, add_at 250 ba bb (by omega) (by omega), sub_at 250 ba bb (by omega) (by omega), mul_at 250 ba bb (by omega) (by omega), quo_at 250 ba bb (by omega) (by omega), rem_at 250 ba bb (by omega) (by omega)]
    simp only [Option.bind_some]
  rw [holds_at 250 ba (by omega) (by omega) _ s0 s8, holds_at 250 bb (by omega) (by omega) _ t0 t8, ha2, hc]
  by_cases m0 : (m.val : Int) = 0
  · rw [if_pos m0]
    exact ⟨_, _, _, _, _, rfl, rfl, rfl, rfl, .inl ⟨rfl, key _ ((ba.add bb).mono (by omega)) (by rw [hv, if_pos m0]) (.inl (by omega))⟩⟩
  · rw [if_neg m0]
    by_cases m1 : (m.val : Int) = 1
    · rw [if_pos m1]
      exact ⟨_, _, _, _, _, rfl, rfl, rfl, rfl, .inl ⟨rfl, key _ ((ba.add bb.neg).mono (by omega)) (by rw [hv, if_neg m0, if_pos m1]) (.inl (by omega))⟩⟩
    · rw [if_neg m1]
      by_cases m2 : (m.val : Int) = 2
      · rw [if_pos m2]
        exact ⟨_, _, _, _, _, rfl, rfl, rfl, rfl, .inl ⟨rfl, key _ ((ba.mul bb).mono (by omega)) (by rw [hv, if_neg m0, if_neg m1, if_pos m2]) (.inl (by omega))⟩⟩
      · rw [if_neg m2]
        by_cases z0 : xb = 0
        · by_cases m3 : (m.val : Int) = 3
          · rw [if_pos m3, if_pos z0]
            exact ⟨_, _, _, _, _, rfl, rfl, rfl, rfl, .inr rfl⟩
          · rw [if_neg m3, if_pos z0]
            exact ⟨_, _, _, _, _, rfl, rfl, rfl, rfl, .inr rfl⟩
        · by_cases m3 : (m.val : Int) = 3
          · rw [if_pos m3, if_neg z0]
            exact ⟨_, _, _, _, _, rfl, rfl, rfl, rfl, .inl ⟨rfl, key _ ((Bd.fdiv ba z0).mono (by omega)) (by rw [hv, if_neg m0, if_neg m1, if_neg m2, if_neg z0, if_pos m3]) (.inr z0)⟩⟩
          · rw [if_neg m3, if_neg z0]
            exact ⟨_, _, _, _, _, rfl, rfl, rfl, rfl, .inl ⟨rfl, key _ ((Bd.fmod bb z0).mono (by omega)) (by rw [hv, if_neg m0, if_neg m1, if_neg m2, if_neg z0, if_neg m3]) (.inr z0)⟩⟩
end Go.Proofs.YtdldoghcbnkkjaaGreatDoor.Sound
