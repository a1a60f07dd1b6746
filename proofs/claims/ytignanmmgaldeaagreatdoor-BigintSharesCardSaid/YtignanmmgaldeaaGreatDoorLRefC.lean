/- The reference's sums and products, as contracts. -/
import Derived.Test.YtignanmmgaldeaaGreatDoorLRefP
import Derived.Test.YtignanmmgaldeaaGreatDoorLRefSum
set_option linter.unusedVariables false
set_option linter.unusedSimpArgs false
namespace Go.Proofs.YtignanmmgaldeaaGreatDoor.RefP
open Go.RowKit Go.Proofs.YtignanmmgaldeaaGreatDoor.PRefA Go.Proofs.YtignanmmgaldeaaGreatDoorW.PrintWords Go.Proofs.YtignanmmgaldeaaGreatDoorW.PrintLast
theorem short_text {x : Int} {m : Nat} (hx : Bd m x) (hm : 1 ≤ m) (h4 : m ≤ 90000) : surveyorref01_short.f (text x) 17 = some (decide ((Lib.decDigits x.natAbs).length ≤ 17)) := by
  have s := size_text hx hm
  unfold surveyorref01_short.f
  rw [ref_digits _ (by omega) (canon_size (canon_text x).1), Option.bind_some, digN_text]
  congr 1
  exact decide_eq_decide.2 (by omega)
theorem neg_text (x : Int) : surveyorref01_Negative.f (text x) = some (decide (x < 0)) := by
  rw [ref_negative _ (canon_size (canon_text x).1), pre_text]
/-- What a sum of signed magnitudes is. -/
theorem sum_sign {x y : Int} (h : (decide (x < 0) == decide (y < 0)) = true) : (if decide (x < 0) = true then -((x.natAbs + y.natAbs : Nat) : Int) else ((x.natAbs + y.natAbs : Nat) : Int)) = x + y := by
  by_cases hx : x < 0
  · have hy : y < 0 := by simp [hx] at h; exact h
    rw [if_pos (decide_eq_true hx)]; omega
  · have hy : ¬ y < 0 := by simp [hx] at h; omega
    rw [if_neg (by simp [hx])]; omega
theorem sum_ge_sign {x y : Int} (h : (decide (x < 0) == decide (y < 0)) = false) (hg : y.natAbs ≤ x.natAbs) : (if decide (x < 0) = true then -((x.natAbs - y.natAbs : Nat) : Int) else ((x.natAbs - y.natAbs : Nat) : Int)) = x + y := by
  by_cases hx : x < 0
  · have hy : ¬ y < 0 := by simp [hx] at h; omega
    rw [if_pos (decide_eq_true hx)]; omega
  · have hy : y < 0 := by simp [hx] at h; exact h
    rw [if_neg (by simp [hx])]; omega
theorem sum_calls {x y : Int} (hx : Bd 9000 x) (hy : Bd 9000 y) (w : World) :
    Calls Tryz.prog 82 #[.string (text x), .string (text y)] w fun e w' => e = .returned (.string (text (x + y))) ∧ Below w.heap.size w w' := by
  have sx := short_text hx (by omega) (by omega)
  have sy := short_text hy (by omega) (by omega)
  obtain ⟨k, hk⟩ : ∃ k : Nat, k = 1000000 := ⟨_, rfl⟩
  by_cases hs : (Lib.decDigits x.natAbs).length ≤ 17 ∧ (Lib.decDigits y.natAbs).length ≤ 17
  · have bx : Bd 17 x := lt_of_digits _ _ hs.1
    have by' : Bd 17 y := lt_of_digits _ _ hs.2
    rw [decide_eq_true hs.1] at sx
    rw [decide_eq_true hs.2] at sy
    have b1 : x.natAbs < 100000000000000000 := Nat.lt_of_lt_of_le bx (by decide +kernel)
    have b2 : y.natAbs < 100000000000000000 := Nat.lt_of_lt_of_le by' (by decide +kernel)
    have hw : wrap64 (x + y) = x + y := by clear bx by' hx hy; unfold wrap64; omega
    exact PRefA.sum_short k _ _ _ x y w sx sy (number_text bx k (by omega)) (number_text by' k (by omega)) (by rw [hw]; exact whole_text _ (by omega) (by omega) k (by omega))
  · have hb : (decide ((Lib.decDigits x.natAbs).length ≤ 17) && decide ((Lib.decDigits y.natAbs).length ≤ 17)) = false := by
      rw [Bool.and_eq_false_iff]
      by_cases h1 : (Lib.decDigits x.natAbs).length ≤ 17
      · exact .inr (decide_eq_false fun q => hs ⟨h1, q⟩)
      · exact .inl (decide_eq_false h1)
    have lx := digits_le hx (by omega)
    have ly := digits_le hy (by omega)
    have dx := dL_len x.natAbs
    have dy := dL_len y.natAbs
    have tx := digits_text hx (by omega) (by omega) k (by omega)
    have ty := digits_text hy (by omega) (by omega) k (by omega)
    cases he : (decide (x < 0) == decide (y < 0)) with
    | true =>
      obtain ⟨p1, p2⟩ := plus_val (digs_dL x.natAbs) (digs_dL y.natAbs) (by omega) (by omega) (x.natAbs + y.natAbs) (by rw [hv_dL, hv_dL]; omega) k (by omega)
      have mv := made_val (digs_cL _) (by omega) _ (hv_cL (x.natAbs + y.natAbs)) (decide (x < 0)) k (by omega)
      rw [sum_sign he] at mv
      exact PRefA.sum_same k _ _ _ _ _ _ _ _ _ _ w sx sy hb tx ty (neg_text x) (neg_text y) he p1 mv
    | false =>
      have cx := cut_dL x.natAbs k (by omega) (by omega)
      have cy := cut_dL y.natAbs k (by omega) (by omega)
      have ov := order_cL x.natAbs y.natAbs k (by omega) (by omega) (by omega)
      by_cases hg : y.natAbs ≤ x.natAbs
      · have hd : decide (0 ≤ sgnI ((x.natAbs : Int) - (y.natAbs : Int))) = true := by
          refine decide_eq_true ?_
          unfold sgnI
          split
          · omega
          · split <;> omega
        obtain ⟨p1, p2⟩ := minus_val (digs_dL x.natAbs) (digs_dL y.natAbs) (by omega) (by rw [hv_dL, hv_dL]; omega) (x.natAbs - y.natAbs) (by rw [hv_dL, hv_dL]; omega) k (by omega)
        have mv := made_val (digs_cL _) (by omega) _ (hv_cL (x.natAbs - y.natAbs)) (decide (x < 0)) k (by omega)
        rw [sum_ge_sign he hg] at mv
        exact PRefA.sum_ge k _ _ _ _ _ _ _ _ _ _ w sx sy hb tx ty (neg_text x) (neg_text y) he _ _ cx cy _ ov hd p1 mv
      · have hd : decide (0 ≤ sgnI ((x.natAbs : Int) - (y.natAbs : Int))) = false := by
          refine decide_eq_false ?_
          unfold sgnI
          split
          · omega
          · split <;> omega
        obtain ⟨p1, p2⟩ := minus_val (digs_dL y.natAbs) (digs_dL x.natAbs) (by omega) (by rw [hv_dL, hv_dL]; omega) (y.natAbs - x.natAbs) (by rw [hv_dL, hv_dL]; omega) k (by omega)
        have mv := made_val (digs_cL _) (by omega) _ (hv_cL (y.natAbs - x.natAbs)) (decide (y < 0)) k (by omega)
        have he2 : (decide (y < 0) == decide (x < 0)) = false := by rw [Bool.beq_comm]; exact he
        rw [sum_ge_sign he2 (by omega), Int.add_comm] at mv
        exact PRefA.sum_lt k _ _ _ _ _ _ _ _ _ _ w sx sy hb tx ty (neg_text x) (neg_text y) he _ _ cx cy _ ov hd p1 mv
end Go.Proofs.YtignanmmgaldeaaGreatDoor.RefP
namespace Go.Proofs.YtignanmmgaldeaaGreatDoor
open Go.RowKit Go.Proofs.YtignanmmgaldeaaGreatDoor.RefP Go.Proofs.YtignanmmgaldeaaGreatDoorW.PrintWords Go.Proofs.YtignanmmgaldeaaGreatDoorW.PrintLast
/-- Canonical, and not too long for the reference. -/
def okR (a : ByteArray) : Prop := canon a.data.toList = true ∧ digN a ≤ 9000
instance (a : ByteArray) : Decidable (okR a) := inferInstanceAs (Decidable (_ ∧ _))
theorem bd_digits {x : Int} (m : Nat) (h : (Lib.decDigits x.natAbs).length ≤ m) : Bd m x := lt_of_digits _ _ h
theorem okR_text {a : ByteArray} (h : okR a) : ∃ x, a = text x ∧ Bd 9000 x := by
  obtain ⟨x, rfl⟩ := text_of_canon a h.1
  refine ⟨x, rfl, bd_digits _ ?_⟩
  rw [← digN_text]
  exact h.2
theorem text_okR {x : Int} {m : Nat} (h : Bd m x) (hm : 1 ≤ m) (h4 : m ≤ 9000) : okR (text x) := ⟨(canon_text x).1, by rw [digN_text]; have := digits_le h hm; omega⟩
def ref_Sum.f (a0 a1 : ByteArray) : Option ByteArray := if okR a0 ∧ okR a1 then some (text (ivalB a0 + ivalB a1)) else none
theorem ref_Sum.calls (a0 a1 r0 : ByteArray) (w : World) (h : ref_Sum.f a0 a1 = some r0) :
    Calls Tryz.prog 82 #[.string a0, .string a1] w fun e w' => e = .returned (.string r0) ∧ Below w.heap.size w w' := by
  unfold ref_Sum.f at h
  split at h
  · rename_i hs
    obtain ⟨x, rfl, bx⟩ := okR_text hs.1
    obtain ⟨y, rfl, by'⟩ := okR_text hs.2
    obtain rfl := Option.some.inj h
    rw [ival_text, ival_text]
    exact sum_calls bx by' w
  · cases h
theorem sum_val {x y : Int} {m : Nat} (hx : Bd m x) (hy : Bd m y) (hm : 1 ≤ m) (h4 : m ≤ 9000) : ref_Sum.f (text x) (text y) = some (text (x + y)) := by
  unfold ref_Sum.f
  rw [if_pos ⟨text_okR hx hm h4, text_okR hy hm h4⟩, ival_text, ival_text]
end Go.Proofs.YtignanmmgaldeaaGreatDoor
