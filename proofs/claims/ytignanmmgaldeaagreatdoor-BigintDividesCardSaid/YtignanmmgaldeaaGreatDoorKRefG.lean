/- The rest of the reference's integers, as contracts. -/
import Derived.Test.YtignanmmgaldeaaGreatDoorKRefE
import Derived.Test.YtignanmmgaldeaaGreatDoorKRefH
import Derived.Test.YtignanmmgaldeaaGreatDoorKAbs
set_option linter.unusedVariables false
set_option linter.unusedSimpArgs false
namespace Go.Proofs.YtignanmmgaldeaaGreatDoor.RefP
open Go.RowKit Go.Proofs.YtignanmmgaldeaaGreatDoor.PRefA Go.Proofs.YtignanmmgaldeaaGreatDoorW.PrintWords Go.Proofs.YtignanmmgaldeaaGreatDoorW.PrintLast
theorem rest_text {x y : Int} (hy0 : y ≠ 0) {m : Nat} (hx : Bd m x) (hy : Bd m y) (hm : 1 ≤ m) (h4 : m ≤ 4400) : surveyorref01_Rest.f (text x) (text y) = some (text (Int.fmod x y)) := by
  have hf := hx.fdiv hy0
  have hp : Bd (m + m) (y * Int.fdiv x y) := hy.mul hf
  unfold surveyorref01_Rest.f
  rw [floor_val hx hy hm (by omega) hy0, Option.bind_some, product_val hy hf hm (by omega), Option.bind_some, diff_val (m := m + m) (hx.mono (by omega)) hp (by omega) (by omega), Option.bind_some]
  have := Int.mul_fdiv_add_fmod x y
  rw [show x - y * Int.fdiv x y = Int.fmod x y by omega]
end Go.Proofs.YtignanmmgaldeaaGreatDoor.RefP
namespace Go.Proofs.YtignanmmgaldeaaGreatDoor
open Go.RowKit Go.Proofs.YtignanmmgaldeaaGreatDoor.PRefA Go.Proofs.YtignanmmgaldeaaGreatDoor.RefP Go.Proofs.YtignanmmgaldeaaGreatDoorW.PrintWords Go.Proofs.YtignanmmgaldeaaGreatDoorW.PrintLast
/-- Canonical, of at most n digits. -/
def okN (n : Nat) (a : ByteArray) : Prop := canon a.data.toList = true ∧ digN a ≤ n
instance (n : Nat) (a : ByteArray) : Decidable (okN n a) := inferInstanceAs (Decidable (_ ∧ _))
theorem okN_text {n : Nat} {a : ByteArray} (h : okN n a) : ∃ x, a = text x ∧ Bd n x := by
  obtain ⟨x, rfl⟩ := text_of_canon a h.1
  refine ⟨x, rfl, bd_digits _ ?_⟩
  rw [← digN_text]
  exact h.2
theorem text_okN {x : Int} {m n : Nat} (h : Bd m x) (hm : 1 ≤ m) (h4 : m ≤ n) : okN n (text x) := ⟨(canon_text x).1, by rw [digN_text]; have := digits_le h hm; omega⟩
def ref_Rest.f (a0 a1 : ByteArray) : Option ByteArray := if okN 4400 a0 ∧ okN 4400 a1 ∧ ivalB a1 ≠ 0 then some (text (Int.fmod (ivalB a0) (ivalB a1))) else none
theorem ref_Rest.calls (a0 a1 r0 : ByteArray) (w : World) (h : ref_Rest.f a0 a1 = some r0) :
    Calls Tryz.prog 78 #[.string a0, .string a1] w fun e w' => e = .returned (.string r0) ∧ Below w.heap.size w w' := by
  unfold ref_Rest.f at h
  split at h
  · rename_i hs
    obtain ⟨x, rfl, bx⟩ := okN_text hs.1
    obtain ⟨y, rfl, by'⟩ := okN_text hs.2.1
    obtain rfl := Option.some.inj h
    have h0 := hs.2.2
    rw [ival_text] at h0
    rw [ival_text, ival_text]
    exact surveyorref01_Rest.calls _ _ _ w (rest_text h0 bx by' (by omega) (by omega))
  · cases h
theorem rest_val {x y : Int} {m : Nat} (hx : Bd m x) (hy : Bd m y) (hm : 1 ≤ m) (h4 : m ≤ 4400) (h0 : y ≠ 0) : ref_Rest.f (text x) (text y) = some (text (Int.fmod x y)) := by
  unfold ref_Rest.f
  rw [if_pos ⟨text_okN hx hm h4, text_okN hy hm h4, by rw [ival_text]; exact h0⟩, ival_text, ival_text]
def ref_Checks.f (a0 a1 : ByteArray) : Option Int := if a0.size ≤ 140737488351232 ∧ a1.size ≤ 140737488351232 then some (chk2I a0 a1) else none
theorem ref_Checks.calls (a0 a1 : ByteArray) (r0 : Int) (w : World) (h : ref_Checks.f a0 a1 = some r0) :
    Calls Tryz.prog 75 #[.string a0, .string a1] w fun e w' => e = .returned (.int .i64 r0) ∧ Drawn0 w w' := by
  unfold ref_Checks.f at h
  split at h
  · rename_i hs
    obtain rfl := Option.some.inj h
    refine surveyorref01_Checks.calls (a0.size + a1.size + 4) _ _ _ w ?_
    unfold surveyorref01_Checks.f chk2I
    rw [ref_check a0 hs.1 _ (by omega), Option.bind_some]
    by_cases h0 : chkI a0 = 0
    · rw [if_pos h0, if_pos h0, ref_check a1 hs.2 _ (by omega), Option.bind_some]
    · rw [if_neg h0, if_neg h0]
  · cases h
def ref_Digits.f (a0 : ByteArray) : Option Int := if 0 < a0.size ∧ a0.size ≤ 140737488351232 then some (digN a0 : Int) else none
theorem ref_Digits.calls (a0 : ByteArray) (r0 : Int) (w : World) (h : ref_Digits.f a0 = some r0) :
    Calls Tryz.prog 149 #[.string a0] w fun e w' => e = .returned (.int .i64 r0) ∧ Drawn0 w w' := by
  unfold ref_Digits.f at h
  split at h
  · rename_i hs
    obtain rfl := Option.some.inj h
    exact surveyorref01_Digits.calls _ _ w (ref_digits a0 hs.2 hs.1)
  · cases h
theorem digits_val {x : Int} {m : Nat} (hx : Bd m x) (hm : 1 ≤ m) (h4 : m ≤ 90000) : ref_Digits.f (text x) = some ((Lib.decDigits x.natAbs).length : Int) := by
  have := size_text hx hm
  unfold ref_Digits.f
  rw [if_pos ⟨canon_size (canon_text x).1, by omega⟩, digN_text]
end Go.Proofs.YtignanmmgaldeaaGreatDoor
