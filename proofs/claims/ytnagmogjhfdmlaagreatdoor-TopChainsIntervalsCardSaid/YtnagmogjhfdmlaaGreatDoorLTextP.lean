/- The words of integers, plainly: what their texts are. -/
import Derived.Test.YtnagmogjhfdmlaaGreatDoorLBigGiven
set_option linter.unusedVariables false
set_option linter.unusedSimpArgs false
namespace Go.Proofs.YtnagmogjhfdmlaaGreatDoor
open Go.RowKit Go.Shelf Go.Proofs.YtnagmogjhfdmlaaGreatDoorW.PrintWords
open Go.Lib (decDigits)
theorem text_0 : text 0 = ⟨#[48]⟩ := by
  unfold text Lib.itoa
  rw [if_neg (by omega), show (0 : Int).toNat = 0 from rfl, decDigits_small (by omega)]; rfl
theorem canonN_dec (u : Nat) : canonN (decDigits u) = true := by
  by_cases h : u = 0
  · subst h; rw [decDigits_small (by omega)]; rfl
  · obtain ⟨c, l, e, h1, h2⟩ := decDigits_head u h
    have ha := allDig_decDigits u
    have hc : c ≠ 48 := fun q => by rw [q] at h1; simp at h1
    unfold canonN
    rw [ha, e]
    simp [hc]
theorem canon_text (z : Int) : canon (text z).data.toList = true ∧ ivalB (text z) = z := by
  unfold ivalB
  have e : (text z).data.toList = Lib.itoa z := rfl
  rw [e]
  unfold Lib.itoa
  split
  · rename_i h
    have hn := canonN_dec z.natAbs
    have hv := dval_decDigits z.natAbs
    constructor
    · show (canonN (decDigits z.natAbs) && !(decDigits z.natAbs == [48])) = true
      rw [hn]
      have : decDigits z.natAbs ≠ [48] := fun q => by rw [q] at hv; have : dval [48] = 0 := rfl; omega
      simp [this]
    · show -(dval (decDigits z.natAbs) : Int) = z
      rw [hv]; omega
  · rename_i h
    have hn := canonN_dec z.toNat
    have hv := dval_decDigits z.toNat
    have hh : ∀ r, decDigits z.toNat ≠ 45 :: r := fun r q => by
      have := allDig_decDigits z.toNat
      rw [q] at this
      simp [allDig, isDig] at this
    constructor
    · unfold canon
      split
      · rename_i r q
        exact absurd q (hh r)
      · exact hn
    · unfold ival
      split
      · rename_i r q
        exact absurd q (hh r)
      · rw [hv]; omega
theorem lt_of_digits (u m : Nat) (h : (Lib.decDigits u).length ≤ m) : u < 10 ^ m := by
  have h1 := dval_lt _ (allDig_decDigits u)
  rw [dval_decDigits] at h1
  exact Nat.lt_of_lt_of_le h1 (Nat.pow_le_pow_right (by omega) h)
theorem digits_le {u m : Nat} (h : u < 10 ^ m) (hm : 0 < m) : (Lib.decDigits u).length ≤ m := by
  by_cases h0 : u = 0
  · subst h0; rw [decDigits_small (by omega)]; show 1 ≤ m; omega
  · obtain ⟨c, l, e, h1, h2⟩ := decDigits_head u h0
    have hp := dval_pos_of_head c l h1
    rw [← e, dval_decDigits] at hp
    rw [e]
    show l.length + 1 ≤ m
    by_cases hle : l.length + 1 ≤ m
    · exact hle
    · have := Nat.pow_le_pow_right (n := 10) (by omega) (show m ≤ l.length by omega)
      omega
def Bd (m : Nat) (z : Int) : Prop := z.natAbs < 10 ^ m
theorem Bd.mono {m k : Nat} {z : Int} (h : Bd m z) (hk : m ≤ k) : Bd k z := Nat.lt_of_lt_of_le h (Nat.pow_le_pow_right (by omega) hk)
theorem digN_text (z : Int) : digN (text z) = (Lib.decDigits z.natAbs).length := by
  unfold digN
  rw [text_list]
  unfold Lib.itoa
  split
  · rename_i h
    have e1 : Lib.hasPrefix (45 :: Lib.decDigits z.natAbs) [45] = true := by simp [Lib.hasPrefix]
    simp [Lib.trimPrefix, e1]
  · rename_i h
    have hm := decDigits_no_minus z.toNat
    rw [show z.natAbs = z.toNat by omega]
    generalize Lib.decDigits z.toNat = l at hm
    unfold Lib.trimPrefix
    split
    · rename_i hp
      cases l with
      | nil => rfl
      | cons c r =>
        have hc : 45 = c := by have h := hp; simp [Lib.hasPrefix, List.isPrefixOf] at h; exact h
        subst hc
        exact absurd rfl (hm r)
    · rfl
theorem chk_text {z : Int} {m : Nat} (h : Bd m z) (hm : 1 ≤ m) (h4 : m ≤ 4096) : chkI (text z) = 0 := by
  unfold chkI
  have hd := digits_le h hm
  rw [if_pos (canon_text z).1, digN_text, if_neg (by omega)]
theorem ival_text (z : Int) : ivalB (text z) = z := (canon_text z).2
theorem size_text {z : Int} {m : Nat} (h : Bd m z) (hm : 1 ≤ m) : (text z).size ≤ m + 1 := by
  have hd := digits_le h hm
  rw [text_size, ← Lib.decDigits_length]
  split <;> omega
def two63 (a b : ByteArray) : Prop := a.size ≤ 9223372036854775807 ∧ b.size ≤ 9223372036854775807
theorem two_text {x y : Int} {m : Nat} (hx : Bd m x) (hy : Bd m y) (hm : 1 ≤ m) (h4 : m ≤ 4096) : two63 (text x) (text y) := by
  have h1 := size_text hx hm
  have h2 := size_text hy hm
  exact ⟨by omega, by omega⟩
theorem chk2_text {x y : Int} {m : Nat} (hx : Bd m x) (hy : Bd m y) (hm : 1 ≤ m) (h4 : m ≤ 4096) : chk2I (text x) (text y) = 0 := by
  unfold chk2I
  rw [chk_text hx hm h4, if_pos rfl, chk_text hy hm h4]
theorem compare_at {x y : Int} (m : Nat) (hx : Bd m x) (hy : Bd m y) (hm : 1 ≤ m) (h4 : m ≤ 4096) : bigint_Compare.f (text x) (text y) = some (sgnI (x - y), 0) := by
  unfold bigint_Compare.f cmpI
  have h2 := two_text hx hy hm h4
  rw [if_pos ⟨h2.1, h2.2⟩, if_pos (chk2_text hx hy hm h4), chk2_text hx hy hm h4, ival_text, ival_text]
end Go.Proofs.YtnagmogjhfdmlaaGreatDoor
