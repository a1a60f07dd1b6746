/- The reference's differences, products and quotients, as contracts. -/
import Derived.Test.YtignanmmgaldeaaGreatDoorLRefC
import Derived.Test.YtignanmmgaldeaaGreatDoorLRefD
set_option linter.unusedVariables false
set_option linter.unusedSimpArgs false
namespace Go.Proofs.YtignanmmgaldeaaGreatDoor.RefP
open Go.RowKit Go.Proofs.YtignanmmgaldeaaGreatDoor.PRefA Go.Proofs.YtignanmmgaldeaaGreatDoorW.PrintWords Go.Proofs.YtignanmmgaldeaaGreatDoorW.PrintLast
theorem negated_text {x : Int} {m : Nat} (hx : Bd m x) (hm : 1 ≤ m) (h4 : m ≤ 90000) : surveyorref01_Negated.f (text x) = some (text (-x)) := by
  have hs := size_text hx hm
  unfold surveyorref01_Negated.f
  by_cases h0 : x = 0
  · rw [if_pos ((text_zero_iff x).2 h0), h0]; rfl
  · rw [if_neg (fun q => h0 ((text_zero_iff x).1 q)), neg_text, Option.bind_some]
    obtain ⟨s, h1, h2, h3⟩ := text_split x
    obtain ⟨s', g1, g2, g3⟩ := text_split (-x)
    have hsz : 0 < (text x).size := canon_size (canon_text x).1
    rw [Int.natAbs_neg] at g1
    by_cases hx0 : x < 0
    · rw [if_pos (decide_eq_true hx0)]
      have es : s = [45] := h3.2 hx0
      have es' : s' = [] := by
        rcases g2 with h | h
        · exact h
        · have := g3.1 h; omega
      rw [if_pos (by omega)]
      congr 1
      refine bytes_ext ?_
      have hz := Lib.size_eq (text x)
      rw [h1, es] at hz
      rw [g1, es', List.nil_append, Lib.extract_data, h1, es]
      simp [hz]
    · rw [if_neg (by simp [hx0])]
      have es : s = [] := by
        rcases h2 with h | h
        · exact h
        · have := h3.1 h; omega
      have es' : s' = [45] := g3.2 (by omega)
      rw [if_pos (by omega)]
      congr 1
      refine bytes_ext ?_
      rw [g1, es']
      simp [h1, es]
theorem diff_text {x y : Int} {m : Nat} (hx : Bd m x) (hy : Bd m y) (hm : 1 ≤ m) (h4 : m ≤ 9000) : surveyorref01_Diff.f (text x) (text y) = some (text (x - y)) := by
  unfold surveyorref01_Diff.f
  rw [negated_text hy hm (by omega), Option.bind_some, sum_val hx hy.neg hm h4, Option.bind_some]
  rfl
theorem floor_int {x y : Int} (hy : y ≠ 0) (hx : x.natAbs < 100000000000000000) (hy2 : y.natAbs < 100000000000000000) : surveyorref01_floor.f x y = some (Int.fdiv x y) ∧ -100000000000000001 ≤ Int.fdiv x y ∧ Int.fdiv x y ≤ 100000000000000001 := by
  have hq := Int.natAbs_tdiv x y
  have hql : x.natAbs / y.natAbs ≤ x.natAbs := Nat.div_le_self _ _
  have hb : (Int.tdiv x y).natAbs < 100000000000000000 := by
    rw [hq]
    exact Nat.lt_of_le_of_lt hql hx
  have hw : wrap64 (Int.tdiv x y) = Int.tdiv x y := by clear hq hql; unfold wrap64; omega
  have hw2 : wrap64 (Int.tdiv x y - 1) = Int.tdiv x y - 1 := by clear hq hql; unfold wrap64; omega
  have hf := Int.fdiv_eq_tdiv (a := x) (b := y)
  unfold surveyorref01_floor.f
  rw [if_neg hy, hw, hw2]
  by_cases hd : Int.tmod x y = 0
  · have hdv : y ∣ x := Int.dvd_of_tmod_eq_zero hd
    rw [if_pos hd]
    have e : Int.fdiv x y = Int.tdiv x y := by rw [hf, if_pos hdv, Int.sub_zero]
    rw [e]
    exact ⟨rfl, by omega, by omega⟩
  · have hdv : ¬ y ∣ x := fun q => hd (Int.tmod_eq_zero_of_dvd q)
    rw [if_neg hd]
    have e : Int.fdiv x y = Int.tdiv x y - (if (decide (x < 0) != decide (y < 0)) = true then 1 else 0) := by
      rw [hf, if_neg hdv]
      have hx0 : x ≠ 0 := fun q => hdv (by rw [q]; exact Int.dvd_zero _)
      by_cases a : 0 ≤ x
      · by_cases b : 0 ≤ y
        · rw [if_pos a, if_pos b, if_neg (by simp; omega)]
        · rw [if_pos a, if_neg b, if_pos (by simp; omega)]
      · by_cases b : 0 ≤ y
        · rw [if_neg a, if_pos b, if_pos (by simp; omega), Int.sign_eq_one_of_pos (by omega)]
        · rw [if_neg a, if_neg b, if_neg (by simp; omega), Int.sign_eq_neg_one_of_neg (by omega)]; rfl
    rw [e]
    split
    · exact ⟨rfl, by omega, by omega⟩
    · rw [Int.sub_zero]; exact ⟨rfl, by omega, by omega⟩
theorem nat_dvd_iff (X Y : Nat) : ((Y : Int) ∣ (X : Int)) ↔ X % Y = 0 := by
  rw [Int.natCast_dvd_natCast]
  exact Nat.dvd_iff_mod_eq_zero
theorem fdiv_nat (X Y : Nat) : Int.fdiv (X : Int) (Y : Int) = ((X / Y : Nat) : Int) := by
  rw [Int.fdiv_eq_ediv_of_nonneg _ (Int.natCast_nonneg _)]; rfl
theorem fdiv_mag {x y : Int} (hy : y ≠ 0) : Int.fdiv x y = if (decide (x < 0) != decide (y < 0)) = true then (if x.natAbs % y.natAbs = 0 then -((x.natAbs / y.natAbs : Nat) : Int) else -((x.natAbs / y.natAbs : Nat) : Int) - 1) else ((x.natAbs / y.natAbs : Nat) : Int) := by
  have hY : (y.natAbs : Int) ≠ 0 := by omega
  by_cases a : x < 0
  · have ex : x = -(x.natAbs : Int) := by omega
    by_cases b : y < 0
    · have ey : y = -(y.natAbs : Int) := by omega
      rw [if_neg (by simp [a, b])]
      conv => lhs; rw [ex, ey]
      rw [Int.neg_fdiv_neg, fdiv_nat]
    · have ey : y = (y.natAbs : Int) := by omega
      rw [if_pos (by simp [a, b])]
      conv => lhs; rw [ex, ey]
      rw [Int.neg_fdiv, fdiv_nat]
      by_cases d : x.natAbs % y.natAbs = 0
      · rw [if_pos d, if_pos (.inr ((nat_dvd_iff _ _).2 d)), Int.sub_zero]
      · rw [if_neg d, if_neg (by rintro (q | q); exact hY q; exact d ((nat_dvd_iff _ _).1 q))]
  · have ex : x = (x.natAbs : Int) := by omega
    by_cases b : y < 0
    · have ey : y = -(y.natAbs : Int) := by omega
      rw [if_pos (by simp [a, b])]
      conv => lhs; rw [ex, ey]
      rw [Int.fdiv_neg hY, fdiv_nat]
      by_cases d : x.natAbs % y.natAbs = 0
      · rw [if_pos d, if_pos ((nat_dvd_iff _ _).2 d)]
      · rw [if_neg d, if_neg (fun q => d ((nat_dvd_iff _ _).1 q))]
    · have ey : y = (y.natAbs : Int) := by omega
      rw [if_neg (by simp [a, b])]
      conv => lhs; rw [ex, ey]
      rw [fdiv_nat]
theorem cL_pos (n : Nat) : ((cL n).length : Int) > 0 ↔ n ≠ 0 := by
  by_cases h : n = 0
  · subst h; exact ⟨fun q => absurd q (by decide), fun q => absurd rfl q⟩
  · have : (cL n).length ≠ 0 := by rw [cL_step n h]; simp
    exact ⟨fun _ => h, fun _ => by omega⟩
theorem floor_long {x y : Int} (hy0 : y ≠ 0) {m : Nat} (hx : Bd m x) (hy : Bd m y) (hm : 1 ≤ m) (h4 : m ≤ 9000) (k : Nat) (hk : 2000000 ≤ k) : surveyorref01_Floor.j0 (k + 1) (text x) (text y) false = some (text (Int.fdiv x y)) := by
  have lx := digits_le hx hm
  have ly := digits_le hy hm
  have dx := dL_len x.natAbs
  have dy := dL_len y.natAbs
  have cx := cL_len_dL x.natAbs
  have cy := cL_len_dL y.natAbs
  have hy1 : y.natAbs ≠ 0 := by omega
  obtain ⟨sv, sl⟩ := split_val (N := x.natAbs) (m := y.natAbs) hy1 (by omega) (by omega) k (by omega)
  have mv := made_val (digs_cL _) (by omega) _ (hv_cL (x.natAbs / y.natAbs)) (decide (x < 0) != decide (y < 0)) k (by omega)
  rw [surveyorref01_Floor.j0, if_neg (by simp), digits_text hx hm (by omega) k (by omega), Option.bind_some, cut_dL _ k (by omega) (by omega), Option.bind_some, digits_text hy hm (by omega) k (by omega), Option.bind_some, cut_dL _ k (by omega) (by omega), Option.bind_some, sv, Option.bind_some,
    neg_text, neg_text, Option.bind_some, Option.bind_some, mv, Option.bind_some, Option.bind_some, Option.bind_some, fdiv_mag hy0]
  by_cases hs : (decide (x < 0) != decide (y < 0)) = true
  · rw [if_pos hs, if_pos hs, if_pos hs]
    by_cases hr : x.natAbs % y.natAbs = 0
    · rw [if_neg (fun q => (cL_pos _).1 q hr), if_pos hr]
    · have bq : Bd m (-((x.natAbs / y.natAbs : Nat) : Int)) := by
        unfold Bd at *
        rw [Int.natAbs_neg, Int.natAbs_natCast]
        exact Nat.lt_of_le_of_lt (Nat.div_le_self _ _) hx
      have b1 : Bd m 1 := by
        show (1 : Nat) < 10 ^ m
        exact Nat.one_lt_pow (by omega) (by omega)
      have e1 : (⟨#[49]⟩ : ByteArray) = text 1 := by decide +kernel
      rw [if_pos ((cL_pos _).2 hr), if_neg hr, e1, diff_text bq b1 hm h4, Option.bind_some]
  · rw [if_neg hs, if_neg hs, if_neg hs]
theorem floor_text {x y : Int} (hy0 : y ≠ 0) {m : Nat} (hx : Bd m x) (hy : Bd m y) (hm : 1 ≤ m) (h4 : m ≤ 9000) (k : Nat) (hk : 3000000 ≤ k) : surveyorref01_Floor.f k (text x) (text y) = some (text (Int.fdiv x y)) := by
  obtain ⟨k, rfl⟩ : ∃ j, k = j + 1 := ⟨k - 1, by omega⟩
  have fl := floor_long hy0 hx hy hm h4 k (by omega)
  unfold surveyorref01_Floor.f
  rw [short_text hx hm (by omega), Option.bind_some]
  by_cases h1 : (Lib.decDigits x.natAbs).length ≤ 17
  · rw [if_pos (decide_eq_true h1), short_text hy hm (by omega), Option.bind_some]
    by_cases h2 : (Lib.decDigits y.natAbs).length ≤ 17
    · have bx : Bd 17 x := lt_of_digits _ _ h1
      have by' : Bd 17 y := lt_of_digits _ _ h2
      have c1 : x.natAbs < 100000000000000000 := Nat.lt_of_lt_of_le bx (by decide +kernel)
      have c2 : y.natAbs < 100000000000000000 := Nat.lt_of_lt_of_le by' (by decide +kernel)
      obtain ⟨f1, f2, f3⟩ := floor_int hy0 c1 c2
      rw [decide_eq_true h2, surveyorref01_Floor.j0, if_pos rfl, number_text bx k (by omega), Option.bind_some, number_text by' k (by omega), Option.bind_some, f1, Option.bind_some, whole_text _ (by omega) (by omega) k (by omega), Option.bind_some]
    · rw [decide_eq_false h2]; exact fl
  · rw [if_neg (by simp [h1])]; exact fl
end Go.Proofs.YtignanmmgaldeaaGreatDoor.RefP
namespace Go.Proofs.YtignanmmgaldeaaGreatDoor
open Go.RowKit Go.Proofs.YtignanmmgaldeaaGreatDoor.PRefA Go.Proofs.YtignanmmgaldeaaGreatDoor.RefP Go.Proofs.YtignanmmgaldeaaGreatDoorW.PrintWords Go.Proofs.YtignanmmgaldeaaGreatDoorW.PrintLast
def ref_Diff.f (a0 a1 : ByteArray) : Option ByteArray := if okR a0 ∧ okR a1 then some (text (ivalB a0 - ivalB a1)) else none
theorem ref_Diff.calls (a0 a1 r0 : ByteArray) (w : World) (h : ref_Diff.f a0 a1 = some r0) :
    Calls Tryz.prog 84 #[.string a0, .string a1] w fun e w' => e = .returned (.string r0) ∧ Below w.heap.size w w' := by
  unfold ref_Diff.f at h
  split at h
  · rename_i hs
    obtain ⟨x, rfl, bx⟩ := okR_text hs.1
    obtain ⟨y, rfl, by'⟩ := okR_text hs.2
    obtain rfl := Option.some.inj h
    rw [ival_text, ival_text]
    refine surveyorref01_Diff.calls _ _ _ w ?_
    unfold surveyorref01_Diff.f
    have e : ref_Sum.f (text x) (text (-y)) = some (text (x - y)) := sum_val bx by'.neg (by omega) (by omega)
    rw [negated_text by' (by omega) (by omega), Option.bind_some, e, Option.bind_some]
  · cases h
theorem diff_val {x y : Int} {m : Nat} (hx : Bd m x) (hy : Bd m y) (hm : 1 ≤ m) (h4 : m ≤ 9000) : ref_Diff.f (text x) (text y) = some (text (x - y)) := by
  unfold ref_Diff.f
  rw [if_pos ⟨text_okR hx hm (by omega), text_okR hy hm (by omega)⟩, ival_text, ival_text]
def ref_Product.f (a0 a1 : ByteArray) : Option ByteArray := if okR a0 ∧ okR a1 then some (text (ivalB a0 * ivalB a1)) else none
theorem ref_Product.calls (a0 a1 r0 : ByteArray) (w : World) (h : ref_Product.f a0 a1 = some r0) :
    Calls Tryz.prog 86 #[.string a0, .string a1] w fun e w' => e = .returned (.string r0) ∧ Below w.heap.size w w' := by
  unfold ref_Product.f at h
  split at h
  · rename_i hs
    obtain ⟨x, rfl, bx⟩ := okR_text hs.1
    obtain ⟨y, rfl, by'⟩ := okR_text hs.2
    obtain rfl := Option.some.inj h
    rw [ival_text, ival_text]
    obtain ⟨k, hk⟩ : ∃ k : Nat, k = 100000000 := ⟨_, rfl⟩
    exact surveyorref01_Product.calls k _ _ _ w (product_text (by omega) (by omega) bx by' k (by omega))
  · cases h
theorem product_val {x y : Int} {m : Nat} (hx : Bd m x) (hy : Bd m y) (hm : 1 ≤ m) (h4 : m ≤ 9000) : ref_Product.f (text x) (text y) = some (text (x * y)) := by
  unfold ref_Product.f
  rw [if_pos ⟨text_okR hx hm h4, text_okR hy hm h4⟩, ival_text, ival_text]
def ref_Floor.f (a0 a1 : ByteArray) : Option ByteArray := if okR a0 ∧ okR a1 ∧ ivalB a1 ≠ 0 then some (text (Int.fdiv (ivalB a0) (ivalB a1))) else none
theorem ref_Floor.calls (a0 a1 r0 : ByteArray) (w : World) (h : ref_Floor.f a0 a1 = some r0) :
    Calls Tryz.prog 77 #[.string a0, .string a1] w fun e w' => e = .returned (.string r0) ∧ Below w.heap.size w w' := by
  unfold ref_Floor.f at h
  split at h
  · rename_i hs
    obtain ⟨x, rfl, bx⟩ := okR_text hs.1
    obtain ⟨y, rfl, by'⟩ := okR_text hs.2.1
    obtain rfl := Option.some.inj h
    have h0 := hs.2.2
    rw [ival_text] at h0
    rw [ival_text, ival_text]
    obtain ⟨k, hk⟩ : ∃ k : Nat, k = 100000000 := ⟨_, rfl⟩
    exact surveyorref01_Floor.calls k _ _ _ w (floor_text h0 bx by' (by omega) (by omega) k (by omega))
  · cases h
theorem floor_val {x y : Int} {m : Nat} (hx : Bd m x) (hy : Bd m y) (hm : 1 ≤ m) (h4 : m ≤ 9000) (h0 : y ≠ 0) : ref_Floor.f (text x) (text y) = some (text (Int.fdiv x y)) := by
  unfold ref_Floor.f
  rw [if_pos ⟨text_okR hx hm h4, text_okR hy hm h4, by rw [ival_text]; exact h0⟩, ival_text, ival_text]
end Go.Proofs.YtignanmmgaldeaaGreatDoor
