/- BigintRing: the plain law. -/
import Derived.Test.YtdldoghcbnkkjaaGreatDoorPBigintRingx2
import Derived.Test.YtdldoghcbnkkjaaGreatDoorOpsAll
import Derived.Test.YtdldoghcbnkkjaaGreatDoorPowAll
set_option linter.unusedVariables false
set_option linter.unusedSimpArgs false
namespace Go.Proofs.YtdldoghcbnkkjaaGreatDoor.Pure
open Go.RowKit Go.Proofs.YtdldoghcbnkkjaaGreatDoor.PBigintRing Go.Proofs.YtdldoghcbnkkjaaGreatDoorW.PrintWords Go.Proofs.YtdldoghcbnkkjaaGreatDoorW.PrintLast

theorem bt_get (a : ByteArray) (i : Nat) (c : UInt8) (h : a.data.toList[i]? = some c) : bt a i = (c.toNat : Int) := by
  have hl := (List.getElem?_eq_some_iff.1 h).1
  have hs : i < a.size := by rw [Lib.size_eq]; exact hl
  unfold bt
  rw [Int.toNat_natCast, dif_pos hs]
  have e : a[i] = c := by
    have := (List.getElem?_eq_some_iff.1 h).2
    rw [← this, ByteArray.getElem_eq_getElem_data]
    simp
  rw [e]
theorem toList_data (a : ByteArray) : a.toList = a.data.toList := by simp [ByteArray.toList_eq]
theorem form_loop (a : ByteArray) (h : a.size ≤ 140737488351232) : ∀ (k i : Nat), i ≤ a.size → a.size - i < k → surveyorref01_Form.l0 k a i = some (allDig (a.data.toList.drop i))
  | 0, i, _, hk => by omega
  | k + 1, i, hi, hk => by
    unfold surveyorref01_Form.l0
    have hz := Lib.size_eq a
    by_cases hlt : i < a.size
    · rw [if_pos (by omega), if_pos (by omega)]
      have hl : i < a.data.toList.length := by rw [← hz]; exact hlt
      have hd := List.drop_eq_getElem_cons hl
      have hb := bt_get a i _ (List.getElem?_eq_getElem hl)
      generalize a.data.toList[i] = c at hd hb
      have ih := form_loop a h k (i + 1) (by omega) (by omega)
      have hw : wrap64 ((i : Int) + 1) = ((i + 1 : Nat) : Int) := by unfold wrap64; omega
      rw [hb, hd, hw, ih]
      show _ = some (List.all (c :: _) isDig)
      rw [List.all_cons]
      by_cases h1 : (c.toNat : Int) < 48
      · have : isDig c = false := by simp [isDig]; omega
        rw [if_pos h1, this]; rfl
      · by_cases h2 : (c.toNat : Int) > 57
        · have : isDig c = false := by simp [isDig]; omega
          rw [if_neg h1, if_pos h2, this]; rfl
        · have : isDig c = true := by simp [isDig]; omega
          rw [if_neg h1, if_neg h2, this]; rfl
    · rw [if_neg (by omega), List.drop_of_length_le (by rw [← hz]; omega)]; rfl
theorem form_j1 (a : ByteArray) (h : a.size ≤ 140737488351232) (st : Nat) (hst : st ≤ a.size) (k : Nat) (hk : a.size + 2 ≤ k) : surveyorref01_Form.j1 (k + 1) a st = some (!(a.data.toList.drop st).isEmpty && !((a.data.toList.drop st).head? == some 48) && allDig (a.data.toList.drop st)) := by
  have hz := Lib.size_eq a
  obtain ⟨k, rfl⟩ : ∃ j, k = j + 1 := ⟨k - 1, by omega⟩
  simp only [surveyorref01_Form.j1]
  by_cases he : st = a.size
  · rw [if_pos (by omega), List.drop_of_length_le (by rw [← hz]; omega)]
    simp only [surveyorref01_Form.j2]
    rfl
  · have hl : st < a.data.toList.length := by rw [← hz]; omega
    have hd := List.drop_eq_getElem_cons hl
    have hb := bt_get a st _ (List.getElem?_eq_getElem hl)
    have hloop := form_loop a h k st hst (by omega)
    rw [if_neg (by omega), if_pos (by omega), if_pos (by omega), hb]
    simp only [surveyorref01_Form.j2]
    rw [hloop]
    generalize a.data.toList[st] = c at hd hb
    rw [hd]
    by_cases hc : c = 48
    · subst hc; rfl
    · have hc2 : c.toNat ≠ 48 := fun e => hc (u8_ext e)
      have h1 : ((c.toNat : Int) == 48) = false := by simp; omega
      rw [h1]
      simp [hc]
theorem ref_form (a : ByteArray) (h : a.size ≤ 140737488351232) (k : Nat) (hk : a.size + 2 ≤ k) : surveyorref01_Form.f (k + 2) a = some (canon a.data.toList) := by
  unfold surveyorref01_Form.f
  have hz := Lib.size_eq a
  rw [toList_data]
  by_cases h48 : a.data.toList = [48]
  · rw [if_pos h48, h48]; rfl
  · rw [if_neg h48, canon_eq]
    by_cases h0 : a.size = 0
    · have hn : a.data.toList = [] := List.eq_nil_of_length_eq_zero (by rw [← hz]; exact h0)
      rw [if_neg (by omega), hn]
      simp only [surveyorref01_Form.j0]
      rw [if_neg (by simp)]
      have := form_j1 a h 0 (by omega) k hk
      rw [hn] at this
      exact this
    · rw [if_pos (by omega)]
      try rw [if_pos (by omega)]
      obtain ⟨c, r, hl⟩ : ∃ c r, a.data.toList = c :: r := by
        cases hq : a.data.toList with
        | nil => rw [hq] at hz; exact absurd hz h0
        | cons c r => exact ⟨c, r, rfl⟩
      have hb := bt_get a 0 c (by rw [hl]; rfl)
      rw [show ((0 : Nat) : Int) = 0 from rfl] at hb
      simp only [surveyorref01_Form.j0]
      rw [hb]
      by_cases hc : c = 45
      · subst hc
        have e1 : Lib.hasPrefix a.data.toList [45] = true := by rw [hl]; simp [Lib.hasPrefix]
        have e2 : Lib.trimPrefix a.data.toList [45] = r := by rw [Lib.trimPrefix, if_pos e1, hl]; rfl
        have := form_j1 a h 1 (by omega) k hk
        rw [if_pos (by decide), e1, e2]
        rw [hl] at this
        rw [show ((1 : Int)) = ((1 : Nat) : Int) from rfl, this]
        show some (!r.isEmpty && !(r.head? == some 48) && allDig r) = _
        by_cases hr : r = [48]
        · rw [if_pos hr, hr]; rfl
        · rw [if_neg hr]
      · have hc2 : c.toNat ≠ 45 := fun e => hc (u8_ext e)
        have e1 : Lib.hasPrefix a.data.toList [45] = false := by rw [hl]; simp [Lib.hasPrefix, List.isPrefixOf, Ne.symm hc]
        have e2 : Lib.trimPrefix a.data.toList [45] = a.data.toList := by rw [Lib.trimPrefix, if_neg (by rw [e1]; simp)]
        have := form_j1 a h 0 (by omega) k hk
        have h1 : ((c.toNat : Int) == 45) = false := by simp; omega
        rw [h1, if_neg (by decide), e2, if_neg h48]
        exact this
theorem ref_negative (a : ByteArray) (h0 : 0 < a.size) : surveyorref01_Negative.f a = some (Lib.hasPrefix a.data.toList [45]) := by
  unfold surveyorref01_Negative.f
  have hz := Lib.size_eq a
  obtain ⟨c, r, hl⟩ : ∃ c r, a.data.toList = c :: r := by
    cases hq : a.data.toList with
    | nil => rw [hq] at hz; exact absurd hz (by simp only [List.length_nil]; omega)
    | cons c r => exact ⟨c, r, rfl⟩
  have hb := bt_get a 0 c (by rw [hl]; rfl)
  rw [show ((0 : Nat) : Int) = 0 from rfl] at hb
  rw [if_pos (by omega), hb, hl]
  by_cases hc : c = 45
  · subst hc; rfl
  · have hc2 : c.toNat ≠ 45 := fun e => hc (u8_ext e)
    have h1 : ((c.toNat : Int) == 45) = false := by simp; omega
    rw [h1]; simp [Lib.hasPrefix, List.isPrefixOf, Ne.symm hc]
theorem canon_size {a : ByteArray} (h : canon a.data.toList = true) : 0 < a.size := by
  rw [Lib.size_eq]
  cases hl : a.data.toList with
  | nil => rw [hl] at h; exact absurd h (by decide)
  | cons c r => simp
theorem ref_digits (a : ByteArray) (h : a.size ≤ 140737488351232) (h0 : 0 < a.size) : surveyorref01_Digits.f a = some (digN a : Int) := by
  unfold surveyorref01_Digits.f digN
  have hz := Lib.size_eq a
  rw [ref_negative a h0, Option.bind_some]
  by_cases hp : Lib.hasPrefix a.data.toList [45] = true
  · rw [if_pos hp, Lib.trimPrefix, if_pos hp, List.length_drop, ← hz]
    show some (wrap64 ((a.size : Int) - 1)) = some ((a.size - 1 : Nat) : Int)
    congr 1
    unfold wrap64; omega
  · rw [if_neg hp, Lib.trimPrefix, if_neg hp, ← hz]
theorem ref_check (a : ByteArray) (h : a.size ≤ 140737488351232) (k : Nat) (hk : a.size + 4 ≤ k) : surveyorref01_Check.f k a = some (chkI a) := by
  obtain ⟨k, rfl⟩ : ∃ j, k = j + 2 := ⟨k - 2, by omega⟩
  unfold surveyorref01_Check.f chkI
  rw [ref_form a h k (by omega), Option.bind_some]
  by_cases hc : canon a.data.toList = true
  · have h0 := canon_size hc
    rw [if_pos hc, if_pos hc, ref_digits a h h0, Option.bind_some]
    by_cases hd : 4096 < digN a
    · rw [if_pos (by omega), if_pos hd]
    · rw [if_neg (by omega), if_neg hd]
  · rw [if_neg hc, if_neg hc]
theorem few_step (k : Nat) (l : List ByteArray) (n i : Int) (x : ByteArray) (hi : i < n) (h0 : 0 ≤ i) (hl : i < (l.length : Int)) (hx : rdOf ByteArray.empty l i = x) : surveyorlaw01_few.l0 (k + 1) l n i = if x.size ≤ 250 then surveyorlaw01_few.l0 k l n (wrap64 (i + 1)) else some false := by
  conv => lhs; unfold surveyorlaw01_few.l0
  rw [if_pos hi, if_pos h0, if_pos hl, hx]
  unfold surveyorref01_Few.f
  rw [Option.bind_some]
  by_cases h : x.size ≤ 250
  · rw [if_pos (by simpa using (show (x.size : Int) ≤ 250 by omega)), if_pos h]
  · rw [if_neg (by simp; omega), if_neg h]
theorem few_end (k : Nat) (l : List ByteArray) (n i : Int) (hi : ¬ i < n) : surveyorlaw01_few.l0 (k + 1) l n i = some true := by
  conv => lhs; unfold surveyorlaw01_few.l0
  rw [if_neg hi]
theorem few1 (a : ByteArray) (k : Nat) : surveyorlaw01_few.f (k + 2) [a] = some (decide (a.size ≤ 250)) := by
  unfold surveyorlaw01_few.f
  rw [few_step (k + 1) [a] _ 0 a (by simp) (by omega) (by simp) rfl, show wrap64 ((0 : Int) + 1) = 1 from by decide +kernel]
  by_cases ha : a.size ≤ 250
  · rw [if_pos ha, few_end k _ _ _ (by simp), decide_eq_true ha]
  · rw [if_neg ha, decide_eq_false ha]
theorem few2 (a b : ByteArray) (k : Nat) : surveyorlaw01_few.f (k + 3) [a, b] = some (decide (a.size ≤ 250 ∧ b.size ≤ 250)) := by
  unfold surveyorlaw01_few.f
  rw [few_step (k + 2) [a, b] _ 0 a (by simp) (by omega) (by simp) rfl, show wrap64 ((0 : Int) + 1) = 1 from by decide +kernel, few_step (k + 1) [a, b] _ 1 b (by simp) (by omega) (by simp) rfl, show wrap64 ((1 : Int) + 1) = 2 from by decide +kernel, few_end k _ _ _ (by simp)]
  by_cases ha : a.size ≤ 250
  · by_cases hb : b.size ≤ 250
    · simp [ha, hb]
    · simp [ha, hb]
  · simp [ha]
theorem few3 (a b c : ByteArray) (k : Nat) : surveyorlaw01_few.f (k + 4) [a, b, c] = some (decide (a.size ≤ 250 ∧ b.size ≤ 250 ∧ c.size ≤ 250)) := by
  unfold surveyorlaw01_few.f
  rw [few_step (k + 3) [a, b, c] _ 0 a (by simp) (by omega) (by simp) rfl, show wrap64 ((0 : Int) + 1) = 1 from by decide +kernel, few_step (k + 2) [a, b, c] _ 1 b (by simp) (by omega) (by simp) rfl, show wrap64 ((1 : Int) + 1) = 2 from by decide +kernel, few_step (k + 1) [a, b, c] _ 2 c (by simp) (by omega) (by simp) rfl, show wrap64 ((2 : Int) + 1) = 3 from by decide +kernel, few_end k _ _ _ (by simp)]
  by_cases ha : a.size ≤ 250
  · by_cases hb : b.size ≤ 250
    · by_cases hc : c.size ≤ 250
      · simp [ha, hb, hc]
      · simp [ha, hb, hc]
    · simp [ha, hb]
  · simp [ha]
theorem right_step (k : Nat) (l0 l : List ByteArray) (n i : Int) (x : ByteArray) (hi : i < n) (h0 : 0 ≤ i) (hl : i < (l.length : Int)) (hx : rdOf ByteArray.empty l i = x) (hs : x.size ≤ 140737488351232) (hk : x.size + 4 ≤ k) : surveyorlaw01_right.l0 (k + 1) l0 l n i = if chkI x = 0 then surveyorlaw01_right.l0 k l0 l n (wrap64 (i + 1)) else some false := by
  conv => lhs; unfold surveyorlaw01_right.l0
  rw [if_pos hi, if_pos h0, if_pos hl, hx, ref_check x hs k hk, Option.bind_some]
theorem right_end (k : Nat) (l0 l : List ByteArray) (n i : Int) (hi : ¬ i < n) : surveyorlaw01_right.l0 (k + 1) l0 l n i = surveyorlaw01_few.f k l0 := by
  conv => lhs; unfold surveyorlaw01_right.l0
  rw [if_neg hi]
  cases surveyorlaw01_few.f k l0 <;> rfl
/-- A word that the law takes. -/
def good (x : ByteArray) : Prop := x.size ≤ 250 ∧ chkI x = 0
instance (x : ByteArray) : Decidable (good x) := by unfold good; infer_instance
theorem right3 (a b c : ByteArray) (k : Nat) (ha : a.size ≤ 140737488351232) (hb : b.size ≤ 140737488351232) (hc : c.size ≤ 140737488351232) (hk : a.size + b.size + c.size + 4 ≤ k) : surveyorlaw01_right.f (k + 8) [a, b, c] = some (decide (good a ∧ good b ∧ good c)) := by
  unfold surveyorlaw01_right.f
  rw [right_step (k + 7) _ [a, b, c] _ 0 a (by simp) (by omega) (by simp) rfl ha (by omega), show wrap64 ((0 : Int) + 1) = 1 from by decide +kernel, right_step (k + 6) _ [a, b, c] _ 1 b (by simp) (by omega) (by simp) rfl hb (by omega), show wrap64 ((1 : Int) + 1) = 2 from by decide +kernel, right_step (k + 5) _ [a, b, c] _ 2 c (by simp) (by omega) (by simp) rfl hc (by omega), show wrap64 ((2 : Int) + 1) = 3 from by decide +kernel, right_end (k + 4) _ _ _ _ (by simp), few3 a b c k]
  unfold good
  by_cases h1 : chkI a = 0
  · by_cases h2 : chkI b = 0
    · by_cases h3 : chkI c = 0
      · simp [h1, h2, h3]
      · simp [h1, h2, h3]
    · simp [h1, h2]
  · simp [h1]
theorem right2 (a b : ByteArray) (k : Nat) (ha : a.size ≤ 140737488351232) (hb : b.size ≤ 140737488351232) (hk : a.size + b.size + 4 ≤ k) : surveyorlaw01_right.f (k + 6) [a, b] = some (decide (good a ∧ good b)) := by
  unfold surveyorlaw01_right.f
  rw [right_step (k + 5) _ [a, b] _ 0 a (by simp) (by omega) (by simp) rfl ha (by omega), show wrap64 ((0 : Int) + 1) = 1 from by decide +kernel, right_step (k + 4) _ [a, b] _ 1 b (by simp) (by omega) (by simp) rfl hb (by omega), show wrap64 ((1 : Int) + 1) = 2 from by decide +kernel, right_end (k + 3) _ _ _ _ (by simp), few2 a b k]
  unfold good
  by_cases h1 : chkI a = 0
  · by_cases h2 : chkI b = 0
    · simp [h1, h2]
    · simp [h1, h2]
  · simp [h1]
set_option maxRecDepth 100000 in
theorem awake_2 : surveyorlaw01_awake.f 2 = some true := by decide +kernel
theorem awake_at : ∀ k, surveyorlaw01_awake.f (k + 2) = some true
  | 0 => awake_2
  | k + 1 => surveyorlaw01_awake.mono (k + 2) _ (awake_at k)
theorem awake_ge {k : Nat} (h : 2 ≤ k) : surveyorlaw01_awake.f k = some true := by
  obtain ⟨j, rfl⟩ : ∃ j, k = j + 2 := ⟨k - 2, by omega⟩
  exact awake_at j
theorem sums_at {x y : Int} (m : Nat) (hx : Bd m x) (hy : Bd m y) (hm : 1 ≤ m) (h4 : m ≤ 2048) : surveyorlaw01_sums.f (text x) (text y) = some (text (x + y), text (x * y), true) := by
  unfold surveyorlaw01_sums.f
  rw [add_at m hx hy hm (by omega), Option.bind_some, mul_at m hx hy hm h4, Option.bind_some]
  rfl
theorem neg_at {x : Int} (m : Nat) (hx : Bd m x) (hm : 1 ≤ m) (h4 : m ≤ 4095) : bigint_Neg.f (text x) = some (text (-x), 0) := by
  unfold bigint_Neg.f
  rw [← text_0, sub_at m (show Bd m 0 from Nat.pow_pos (by omega)) hx hm h4, Option.bind_some, Int.zero_add]
theorem three_strings {W : World} {g : Nat} {a b c : ByteArray} {t : TypeId} (h : W.heap[g]? = some (.cells #[.string a, .string b, .string c] t (0, 0))) : Kd.string.C W (some ⟨g, 0, none⟩) 3 [a, b, c] :=
  ⟨rfl, by omega, fun _ => ⟨⟨g, 0, none⟩, rfl, fun j p hp => by
    have hj : j < 3 := by have := (List.getElem?_eq_some_iff.1 hp).1; simpa using this
    refine ⟨[.string p], rfl, rfl, fun i u hu => ?_⟩
    have hi : i = 0 := by have := (List.getElem?_eq_some_iff.1 hu).1; simp at this; exact this
    subst hi
    have e : (Addr.add ⟨g, 0, none⟩ (j * 1 + 0)) = ⟨g, j, none⟩ := by simp only [Addr.add]; split <;> simp_all
    rw [show Kd.string.sz = 1 from rfl, e]
    cases hu
    match j, hj with
    | 0, _ => cases hp; exact cellA h 0 _ rfl
    | 1, _ => cases hp; exact cellA h 1 _ rfl
    | 2, _ => cases hp; exact cellA h 2 _ rfl⟩⟩
set_option maxRecDepth 100000 in
set_option maxHeartbeats 4000000 in
theorem ring_walk (a b c : ByteArray) (w : World) (ha : a.size ≤ 140737488351232) (hb : b.size ≤ 140737488351232) (hc : c.size ≤ 140737488351232) (hG : GW w) :
    Calls Tryz.prog 8 #[.string a, .string b, .string c] w fun e w' => e = .returned (.bool true) ∧ Below w.heap.size w w' := by
  have hr := right3 a b c (a.size + b.size + c.size + 4) ha hb hc (by omega)
  have HG := Lib.hid hG
  clear hG ha hb hc
  go_enter Tryz.func8, Tryz.ntmps8
  go_wp2_with fail
  have hbs : (w.alloc (.cells #[.string a, .string b, .string c] 22)).heap[w.heap.size]? = some (.cells #[.string a, .string b, .string c] 22) := World.alloc_heap_new w _
  have hBa : Below w.heap.size w (w.alloc (.cells #[.string a, .string b, .string c] 22)) := (Below.refl _ w).alloc (Nat.le_refl _) _
  obtain ⟨W0, hW0⟩ : ∃ W0, w.alloc (.cells #[.string a, .string b, .string c] 22) = W0 := ⟨_, rfl⟩
  rw [hW0] at hbs hBa ⊢
  clear hW0
  have HGB : Hid (∀ W : World, Below W0.heap.size W0 W → GW W) := Lib.hid fun W hB => HG.out.below (hBa.trans (hB.mono hBa.size))
  refine (surveyorlaw01_right.calls _ (some ⟨w.heap.size, 0, none⟩) 3 [a, b, c] _ W0 (three_strings hbs) (Nat.le_refl 3) hr).mono ?_
  rintro e w1 ⟨rfl, hd1⟩
  have HB0 := Lib.hid hd1.below
  clear hbs hr hd1
  by_cases hg : good a ∧ good b ∧ good c
  · rw [decide_eq_true hg]
    obtain ⟨x, rfl, bx⟩ := word_text hg.1.1 hg.1.2
    obtain ⟨y, rfl, bY⟩ := word_text hg.2.1.1 hg.2.1.2
    obtain ⟨z, rfl, bz⟩ := word_text hg.2.2.1 hg.2.2.2
    clear hg
    have bsxy := bx.add bY
    have bsyz := bY.add bz
    have bsxz := bx.add bz
    have bxy := bx.mul bY
    have byz := bY.mul bz
    have bxz := bx.mul bz
    have H0 := sums_at 250 (x := x) (y := y) (bx.mono (by omega)) (bY.mono (by omega)) (by omega) (by omega)
    have H1 := sums_at 250 (x := y) (y := x) (bY.mono (by omega)) (bx.mono (by omega)) (by omega) (by omega)
    rw [Int.add_comm y x, Int.mul_comm y x] at H1
    have H2 := sums_at 250 (x := y) (y := z) (bY.mono (by omega)) (bz.mono (by omega)) (by omega) (by omega)
    have H3 := sums_at 251 (x := x + y) (y := z) (bsxy.mono (by omega)) (bz.mono (by omega)) (by omega) (by omega)
    rw [Int.add_mul x y z] at H3
    have H4 := sums_at 251 (x := x) (y := y + z) (bx.mono (by omega)) (bsyz.mono (by omega)) (by omega) (by omega)
    rw [← Int.add_assoc x y z, Int.mul_add x y z] at H4
    have H5 := sums_at 500 (x := x * y) (y := z) (bxy.mono (by omega)) (bz.mono (by omega)) (by omega) (by omega)
    have H6 := sums_at 500 (x := x) (y := y * z) (bx.mono (by omega)) (byz.mono (by omega)) (by omega) (by omega)
    rw [← Int.mul_assoc x y z] at H6
    have H7 := sums_at 250 (x := x) (y := z) (bx.mono (by omega)) (bz.mono (by omega)) (by omega) (by omega)
    have H8 := sums_at 500 (x := x * z) (y := y * z) (bxz.mono (by omega)) (byz.mono (by omega)) (by omega) (by omega)
    have H9 := sums_at 500 (x := x * y) (y := x * z) (bxy.mono (by omega)) (bxz.mono (by omega)) (by omega) (by omega)
    have H10 := sub_at 251 (x := x + z) (y := z) (bsxz.mono (by omega)) (bz.mono (by omega)) (by omega) (by omega)
    rw [show x + z + -z = x from by omega] at H10
    have H11 := neg_at 250 (x := y) (bY.mono (by omega)) (by omega) (by omega)
    have H12 := sums_at 251 (x := x + y) (y := -y) (bsxy.mono (by omega)) (bY.neg.mono (by omega)) (by omega) (by omega)
    rw [show x + y + -y = x from by omega] at H12
    replace H0 := Aside0.mk H0
    replace H1 := Aside0.mk H1
    replace H2 := Aside0.mk H2
    replace H3 := Aside0.mk H3
    replace H4 := Aside0.mk H4
    replace H5 := Aside0.mk H5
    replace H6 := Aside0.mk H6
    replace H7 := Aside0.mk H7
    replace H8 := Aside0.mk H8
    replace H9 := Aside0.mk H9
    replace H10 := Aside0.mk H10
    replace H11 := Aside0.mk H11
    replace H12 := Aside0.mk H12
    clear bx bY bz bsxy bsyz bsxz bxy byz bxz
    go_wp2_with fail
    refine (surveyorlaw01_sums.calls _ _ _ _ _ _ (HGB.out _ HB0.out) H0.out).mono ?_
    rintro e v0 ⟨rfl, k0⟩
    have HB1 := Lib.hid (HB0.out.trans (k0.mono HB0.out.size))
    clear k0 HB0
    go_wp2_with fail
    refine (surveyorlaw01_sums.calls _ _ _ _ _ _ (HGB.out _ HB1.out) H1.out).mono ?_
    rintro e v1 ⟨rfl, k1⟩
    have HB2 := Lib.hid (HB1.out.trans (k1.mono HB1.out.size))
    clear k1 HB1
    go_wp2_with fail
    refine (surveyorlaw01_sums.calls _ _ _ _ _ _ (HGB.out _ HB2.out) H2.out).mono ?_
    rintro e v2 ⟨rfl, k2⟩
    have HB3 := Lib.hid (HB2.out.trans (k2.mono HB2.out.size))
    clear k2 HB2
    go_wp2_with fail
    refine (surveyorlaw01_sums.calls _ _ _ _ _ _ (HGB.out _ HB3.out) H3.out).mono ?_
    rintro e v3 ⟨rfl, k3⟩
    have HB4 := Lib.hid (HB3.out.trans (k3.mono HB3.out.size))
    clear k3 HB3
    go_wp2_with fail
    refine (surveyorlaw01_sums.calls _ _ _ _ _ _ (HGB.out _ HB4.out) H4.out).mono ?_
    rintro e v4 ⟨rfl, k4⟩
    have HB5 := Lib.hid (HB4.out.trans (k4.mono HB4.out.size))
    clear k4 HB4
    go_wp2_with fail
    refine (surveyorlaw01_sums.calls _ _ _ _ _ _ (HGB.out _ HB5.out) H5.out).mono ?_
    rintro e v5 ⟨rfl, k5⟩
    have HB6 := Lib.hid (HB5.out.trans (k5.mono HB5.out.size))
    clear k5 HB5
    go_wp2_with fail
    refine (surveyorlaw01_sums.calls _ _ _ _ _ _ (HGB.out _ HB6.out) H6.out).mono ?_
    rintro e v6 ⟨rfl, k6⟩
    have HB7 := Lib.hid (HB6.out.trans (k6.mono HB6.out.size))
    clear k6 HB6
    go_wp2_with fail
    refine (surveyorlaw01_sums.calls _ _ _ _ _ _ (HGB.out _ HB7.out) H7.out).mono ?_
    rintro e v7 ⟨rfl, k7⟩
    have HB8 := Lib.hid (HB7.out.trans (k7.mono HB7.out.size))
    clear k7 HB7
    go_wp2_with fail
    refine (surveyorlaw01_sums.calls _ _ _ _ _ _ (HGB.out _ HB8.out) H8.out).mono ?_
    rintro e v8 ⟨rfl, k8⟩
    have HB9 := Lib.hid (HB8.out.trans (k8.mono HB8.out.size))
    clear k8 HB8
    go_wp2_with fail
    refine (surveyorlaw01_sums.calls _ _ _ _ _ _ (HGB.out _ HB9.out) H9.out).mono ?_
    rintro e v9 ⟨rfl, k9⟩
    have HB10 := Lib.hid (HB9.out.trans (k9.mono HB9.out.size))
    clear k9 HB9
    go_wp2_with fail
    refine (bigint_Sub.calls _ _ _ _ _ (HGB.out _ HB10.out) H10.out).mono ?_
    rintro e v10 ⟨rfl, k10⟩
    have HB11 := Lib.hid (HB10.out.trans (k10.mono HB10.out.size))
    clear k10 HB10
    go_wp2_with fail
    refine (bigint_Neg.calls _ _ _ _ (HGB.out _ HB11.out) H11.out).mono ?_
    rintro e v11 ⟨rfl, k11⟩
    have HB12 := Lib.hid (HB11.out.trans (k11.mono HB11.out.size))
    clear k11 HB11
    go_wp2_with fail
    refine (surveyorlaw01_sums.calls _ _ _ _ _ _ (HGB.out _ HB12.out) H12.out).mono ?_
    rintro e v12 ⟨rfl, k12⟩
    have HB13 := Lib.hid (HB12.out.trans (k12.mono HB12.out.size))
    clear k12 HB12
    go_wp2_with fail
    refine (surveyorlaw01_awake.calls 2 true _ (HGB.out _ HB13.out) awake_2).mono ?_
    rintro e v20 ⟨rfl, k20⟩
    go_wp2_with fail
    go_ret
    exact ⟨rfl, hBa.trans ((HB13.out.trans (k20.mono HB13.out.size)).mono hBa.size)⟩
  · rw [decide_eq_false hg]
    clear hg
    go_wp2_with fail
    refine (surveyorlaw01_awake.calls 2 true _ (HGB.out _ HB0.out) awake_2).mono ?_
    rintro e v20 ⟨rfl, k20⟩
    go_wp2_with fail
    go_ret
    exact ⟨rfl, hBa.trans ((HB0.out.trans (k20.mono HB0.out.size)).mono hBa.size)⟩
end Go.Proofs.YtdldoghcbnkkjaaGreatDoor.Pure
