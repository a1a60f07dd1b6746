/- The rest of the reference's integers, as contracts. -/
import Derived.Test.YtignanmmgaldeaaGreatDoorLRefE
import Derived.Test.YtignanmmgaldeaaGreatDoorLRefH
import Derived.Test.YtignanmmgaldeaaGreatDoorLAbs
set_option linter.unusedVariables false
set_option linter.unusedSimpArgs false
namespace Go.Proofs.YtignanmmgaldeaaGreatDoor.RefP
open Go.RowKit Go.Proofs.YtignanmmgaldeaaGreatDoor.PRefA Go.Proofs.YtignanmmgaldeaaGreatDoorW.PrintWords Go.Proofs.YtignanmmgaldeaaGreatDoorW.PrintLast
theorem magnitude_text {x : Int} {m : Nat} (hx : Bd m x) (hm : 1 ≤ m) (h4 : m ≤ 90000) : surveyorref01_Magnitude.f (text x) = some (text (x.natAbs : Int)) := by
  have hs := size_text hx hm
  have hsz : 0 < (text x).size := canon_size (canon_text x).1
  unfold surveyorref01_Magnitude.f
  rw [neg_text, Option.bind_some]
  by_cases h : x < 0
  · obtain ⟨s, h1, h2, h3⟩ := text_split x
    rw [if_pos (decide_eq_true h), if_pos (by omega)]
    congr 1
    refine bytes_ext ?_
    have hz := Lib.size_eq (text x)
    rw [h1, h3.2 h] at hz
    rw [text_list, Lib.extract_data, h1, h3.2 h]
    unfold Lib.itoa
    rw [if_neg (by omega), Int.toNat_natCast]
    simp [hz]
  · rw [if_neg (by simp [h])]
    rw [show (x.natAbs : Int) = x by omega]
theorem rest_text {x y : Int} (hy0 : y ≠ 0) {m : Nat} (hx : Bd m x) (hy : Bd m y) (hm : 1 ≤ m) (h4 : m ≤ 4400) : surveyorref01_Rest.f (text x) (text y) = some (text (Int.fmod x y)) := by
  have hf := hx.fdiv hy0
  have hp : Bd (m + m) (y * Int.fdiv x y) := hy.mul hf
  unfold surveyorref01_Rest.f
  rw [floor_val hx hy hm (by omega) hy0, Option.bind_some, product_val hy hf hm (by omega), Option.bind_some, diff_val (m := m + m) (hx.mono (by omega)) hp (by omega) (by omega), Option.bind_some]
  have := Int.mul_fdiv_add_fmod x y
  rw [show x - y * Int.fdiv x y = Int.fmod x y by omega]
theorem common_loop {m : Nat} (hm : 1 ≤ m) (h4 : m ≤ 4400) : ∀ (k : Nat) (r s : Int), 0 ≤ r → 0 ≤ s → Bd m r → Bd m s → s.toNat < k → surveyorref01_Common.l0 k (text r) (text s) = some (text (gcdI r s))
  | 0, r, s, _, _, _, _, hk => by omega
  | k + 1, r, s, hr, hs, br, bs, hk => by
    rw [surveyorref01_Common.l0]
    by_cases h0 : s = 0
    · rw [if_pos ((text_zero_iff s).2 h0), h0, gcdI_zero hr]
    · have hf : Int.fmod r s = r % s := Int.fmod_eq_emod_of_nonneg _ hs
      have h1 := Int.emod_nonneg r h0
      have h2 := Int.emod_lt_of_pos r (show 0 < s by omega)
      rw [if_neg (fun q => h0 ((text_zero_iff s).1 q)), rest_text h0 br bs hm h4, Option.bind_some, hf]
      rw [common_loop hm h4 k s (r % s) hs h1 bs (bs.of_le (by omega)) (by omega), gcdI_step hr (by omega)]
theorem common_text {x y : Int} {m : Nat} (hx : Bd m x) (hy : Bd m y) (hm : 1 ≤ m) (h4 : m ≤ 4400) : surveyorref01_Common.f (y.natAbs + 1) (text x) (text y) = some (text (gcdI x y)) := by
  unfold surveyorref01_Common.f
  rw [magnitude_text hx hm (by omega), Option.bind_some, magnitude_text hy hm (by omega), Option.bind_some,
    common_loop hm h4 _ _ _ (by omega) (by omega) (by unfold Bd at *; simpa using hx) (by unfold Bd at *; simpa using hy) (by omega), gcdI_abs]
theorem coef_loop {a b : Int} (hb : b ≠ 0) {m : Nat} (ha : Bd m a) (hbm : Bd m b) (hm : 1 ≤ m) (h4 : m ≤ 4000) : ∀ (k : Nat) (r s x z : Int), 0 < r → 0 ≤ s → r.natAbs ≤ b.natAbs → s.natAbs ≤ b.natAbs → (∃ t, x * a + t * b = r) → (∃ t, z * a + t * b = s) → x.natAbs * s.natAbs + z.natAbs * r.natAbs ≤ b.natAbs → x.natAbs ≤ b.natAbs → gcdI r s = gcdI a b → s.toNat < k →
    surveyorref01_Coefficients.l0 k (text a) (text b) (text r) (text s) (text x) (text z) = some (text (bezU a b), text (bezV a b))
  | 0, r, s, x, z, _, _, _, _, _, _, _, _, _, hk => by omega
  | k + 1, r, s, x, z, hr, hs, rb, sb, ex, ez, hi, xb, hg, hk => by
    have br : Bd m r := hbm.of_le rb
    have bs : Bd m s := hbm.of_le sb
    have bx : Bd m x := hbm.of_le xb
    have bz : Bd m z := hbm.of_le (coef_bound (by omega) hi)
    rw [surveyorref01_Coefficients.l0]
    by_cases h0 : s = 0
    · rw [h0, gcdI_zero (by omega)] at hg
      subst hg
      have hB : Bd m (b.natAbs : Int) := by unfold Bd at *; simpa using hbm
      have hgd := gcdI_right a b
      have e1 : Int.fdiv (b.natAbs : Int) (gcdI a b) = (b.natAbs : Int) / gcdI a b := Int.fdiv_eq_ediv_of_nonneg _ (by omega)
      have n0 : (b.natAbs : Int) / gcdI a b ≠ 0 := by
        obtain ⟨n, hn⟩ : gcdI a b ∣ (b.natAbs : Int) := Int.dvd_natAbs.2 hgd
        rw [hn, Int.mul_ediv_cancel_left _ (by omega)]
        intro q
        rw [q, Int.mul_zero] at hn
        omega
      have bq : Bd m ((b.natAbs : Int) / gcdI a b) := by rw [← e1]; exact hB.fdiv (by omega)
      have hu := bez_unique hb ex
      have bu : Bd m (bezU a b) := by rw [← hu]; exact bq.fmod n0
      have bp : Bd (m + m) (a * bezU a b) := ha.mul bu
      have bd : Bd (m + m + 1) (gcdI a b - a * bezU a b) := (br.mono (show m ≤ m + m by omega)).add bp.neg
      rw [if_pos ((text_zero_iff s).2 h0), magnitude_text hbm hm (by omega), Option.bind_some, floor_val hB br hm (by omega) (by omega), Option.bind_some, e1, rest_text n0 bx bq hm (by omega), Option.bind_some, hu,
        product_val ha bu hm (by omega), Option.bind_some, diff_val (m := m + m) (br.mono (by omega)) bp (by omega) (by omega), Option.bind_some, floor_val (m := m + m + 1) bd (hbm.mono (by omega)) (by omega) (by omega) hb, Option.bind_some]
      unfold bezV
      rw [if_neg hb, ← Int.sub_eq_add_neg]
    · have hq : Int.fdiv r s = r / s := Int.fdiv_eq_ediv_of_nonneg _ hs
      have q0 : 0 ≤ r / s := Int.ediv_nonneg (by omega) hs
      have hmod := Int.emod_add_mul_ediv r s
      have h1 := Int.emod_nonneg r h0
      have h2 := Int.emod_lt_of_pos r (show 0 < s by omega)
      have bq : Bd m (r / s) := by rw [← hq]; exact br.fdiv h0
      have em : r - r / s * s = r % s := by rw [Int.mul_comm (r / s) s]; omega
      have bqs : Bd (m + m) (r / s * s) := bq.mul bs
      have bqz : Bd (m + m) (r / s * z) := bq.mul bz
      have st := coef_step (B := b) q0 hs (by rw [em]; exact h1) hi
      rw [em] at st
      have zb' : z.natAbs ≤ b.natAbs := coef_bound (by omega) hi
      rw [if_neg (fun q => h0 ((text_zero_iff s).1 q)), floor_val br bs hm (by omega) h0, Option.bind_some, hq, product_val bq bs hm (by omega), Option.bind_some, diff_val (m := m + m) (br.mono (by omega)) bqs (by omega) (by omega), Option.bind_some, em,
        product_val bq bz hm (by omega), Option.bind_some, diff_val (m := m + m) (bx.mono (by omega)) bqz (by omega) (by omega), Option.bind_some]
      refine coef_loop hb ha hbm hm h4 k s (r % s) z (x - r / s * z) (by omega) h1 sb (by omega) ez ?_ st zb' (by rw [gcdI_step (by omega) (by omega)]; exact hg) (by omega)
      obtain ⟨t, ht⟩ := ex
      obtain ⟨u, hu⟩ := ez
      refine ⟨t - r / s * u, ?_⟩
      have e3 : r / s * (z * a + u * b) = r / s * s := by rw [hu]
      rw [Int.mul_add, ← Int.mul_assoc, ← Int.mul_assoc] at e3
      rw [Int.sub_mul, Int.sub_mul]
      omega
theorem coef_text {a b : Int} {m : Nat} (ha : Bd m a) (hb : Bd m b) (hm : 1 ≤ m) (h4 : m ≤ 4000) (k : Nat) (hk : b.natAbs + 30 ≤ k) : surveyorref01_Coefficients.f k (text a) (text b) = some (text (bezU a b), text (bezV a b)) := by
  unfold surveyorref01_Coefficients.f
  by_cases h0 : b = 0
  · have s1 : -1 ≤ sgnI a ∧ sgnI a ≤ 1 := by
      unfold sgnI
      split
      · omega
      · split <;> omega
    rw [if_pos ((text_zero_iff b).2 h0), ref_sign a ha hm, Option.bind_some, whole_text _ (by omega) (by omega) k (by omega), Option.bind_some]
    unfold bezU bezV
    rw [if_pos h0, if_pos h0, text_0]
  · have hB : Bd m (b.natAbs : Int) := by unfold Bd at *; simpa using hb
    have hB0 : (b.natAbs : Int) ≠ 0 := by omega
    have hf : Int.fmod a (b.natAbs : Int) = a % (b.natAbs : Int) := Int.fmod_eq_emod_of_nonneg _ (by omega)
    have h1 := Int.emod_nonneg a hB0
    have h2 := Int.emod_lt_of_pos a (show 0 < (b.natAbs : Int) by omega)
    have hmod := Int.emod_add_mul_ediv a (b.natAbs : Int)
    rw [if_neg (fun q => h0 ((text_zero_iff b).1 q)), magnitude_text hb hm (by omega), Option.bind_some, Option.bind_some, rest_text hB0 ha hB hm (by omega), Option.bind_some, hf,
      show (⟨#[48]⟩ : ByteArray) = text 0 from text_0.symm, show (⟨#[49]⟩ : ByteArray) = text 1 from by decide +kernel]
    refine coef_loop h0 ha hb hm h4 k _ _ 0 1 (by omega) h1 (by omega) (by omega) ?_ ?_ (by simp) (by simp) ?_ (by omega)
    · refine ⟨sgnI b, ?_⟩
      unfold sgnI
      split
      · omega
      · first | omega | (split <;> omega)
    · refine ⟨-(sgnI b * (a / (b.natAbs : Int))), ?_⟩
      have e : sgnI b * (a / (b.natAbs : Int)) * b = (b.natAbs : Int) * (a / (b.natAbs : Int)) := by
        rw [Int.mul_right_comm]
        congr 1
        unfold sgnI
        split
        · omega
        · first | omega | (split <;> omega)
      rw [Int.neg_mul, e]
      omega
    · refine Int.dvd_antisymm (gcdI_nonneg _ _) (gcdI_nonneg _ _) ?_ ?_
      · have g1 := gcdI_left (b.natAbs : Int) (a % (b.natAbs : Int))
        have g2 := gcdI_right (b.natAbs : Int) (a % (b.natAbs : Int))
        refine Int.dvd_coe_gcd ?_ (Int.dvd_natAbs.1 g1)
        have := Int.dvd_add g2 (Int.dvd_trans g1 (Int.dvd_mul_right _ (a / (b.natAbs : Int))))
        rwa [hmod] at this
      · have g1 := gcdI_left a b
        have g2 : gcdI a b ∣ (b.natAbs : Int) := Int.dvd_natAbs.2 (gcdI_right a b)
        refine Int.dvd_coe_gcd g2 ?_
        have := Int.dvd_sub g1 (Int.dvd_trans g2 (Int.dvd_mul_right _ (a / (b.natAbs : Int))))
        rwa [show a - (b.natAbs : Int) * (a / (b.natAbs : Int)) = a % (b.natAbs : Int) by omega] at this
end Go.Proofs.YtignanmmgaldeaaGreatDoor.RefP
namespace Go.Proofs.YtignanmmgaldeaaGreatDoor
open Go.RowKit Go.Proofs.YtignanmmgaldeaaGreatDoor.PRefA Go.Proofs.YtignanmmgaldeaaGreatDoor.RefP Go.Proofs.YtignanmmgaldeaaGreatDoorW.PrintWords Go.Proofs.YtignanmmgaldeaaGreatDoorW.PrintLast
/-- Canonical, of at most n digits. -/
def okN (n : Nat) (a : ByteArray) : Prop := canon a.data.toList = true ∧ digN a ≤ n
instance (n : Nat) (a : ByteArray) : Decidable (okN n a) := inferInstanceAs (Decidable (_ ∧ _))
theorem okN_text {n : Nat} {a : ByteArray} (h : okN n a) : ∃ x, a = text x ∧ Bd n x := by
  obtain ⟨x, rfl⟩ := text_of_canon a h.1
  refine ⟨x, rfl, bd_digits _ ?_⟩
  rw [← digN_text]
  exact h.2
theorem text_okN {x : Int} {m n : Nat} (h : Bd m x) (hm : 1 ≤ m) (h4 : m ≤ n) : okN n (text x) := ⟨(canon_text x).1, by rw [digN_text]; have := digits_le h hm; omega⟩
def ref_Rest.f (a0 a1 : ByteArray) : Option ByteArray := if okN 4400 a0 ∧ okN 4400 a1 ∧ ivalB a1 ≠ 0 then some (text (Int.fmod (ivalB a0) (ivalB a1))) else none
theorem ref_Rest.calls (a0 a1 r0 : ByteArray) (w : World) (h : ref_Rest.f a0 a1 = some r0) :
    Calls Tryz.prog 78 #[.string a0, .string a1] w fun e w' => e = .returned (.string r0) ∧ Below w.heap.size w w' := by
  unfold ref_Rest.f at h
  split at h
  · rename_i hs
    obtain ⟨x, rfl, bx⟩ := okN_text hs.1
    obtain ⟨y, rfl, by'⟩ := okN_text hs.2.1
    obtain rfl := Option.some.inj h
    have h0 := hs.2.2
    rw [ival_text] at h0
    rw [ival_text, ival_text]
    exact surveyorref01_Rest.calls _ _ _ w (rest_text h0 bx by' (by omega) (by omega))
  · cases h
def ref_Common.f (a0 a1 : ByteArray) : Option ByteArray := if okN 4400 a0 ∧ okN 4400 a1 then some (text (gcdI (ivalB a0) (ivalB a1))) else none
theorem ref_Common.calls (a0 a1 r0 : ByteArray) (w : World) (h : ref_Common.f a0 a1 = some r0) :
    Calls Tryz.prog 89 #[.string a0, .string a1] w fun e w' => e = .returned (.string r0) ∧ Below w.heap.size w w' := by
  unfold ref_Common.f at h
  split at h
  · rename_i hs
    obtain ⟨x, rfl, bx⟩ := okN_text hs.1
    obtain ⟨y, rfl, by'⟩ := okN_text hs.2
    obtain rfl := Option.some.inj h
    rw [ival_text, ival_text]
    exact surveyorref01_Common.calls (y.natAbs + 1) _ _ _ w (common_text bx by' (by omega) (by omega))
  · cases h
theorem common_val {x y : Int} {m : Nat} (hx : Bd m x) (hy : Bd m y) (hm : 1 ≤ m) (h4 : m ≤ 4400) : ref_Common.f (text x) (text y) = some (text (gcdI x y)) := by
  unfold ref_Common.f
  rw [if_pos ⟨text_okN hx hm h4, text_okN hy hm h4⟩, ival_text, ival_text]
def ref_Coefficients.f (a0 a1 : ByteArray) : Option (ByteArray × ByteArray) := if okN 4000 a0 ∧ okN 4000 a1 then some (text (bezU (ivalB a0) (ivalB a1)), text (bezV (ivalB a0) (ivalB a1))) else none
theorem ref_Coefficients.calls (a0 a1 r0 r1 : ByteArray) (w : World) (h : ref_Coefficients.f a0 a1 = some (r0, r1)) :
    Calls Tryz.prog 96 #[.string a0, .string a1] w fun e w' => e = .returned (.tuple #[.string r0, .string r1]) ∧ Below w.heap.size w w' := by
  unfold ref_Coefficients.f at h
  split at h
  · rename_i hs
    obtain ⟨x, rfl, bx⟩ := okN_text hs.1
    obtain ⟨y, rfl, by'⟩ := okN_text hs.2
    obtain ⟨rfl, rfl⟩ := Prod.mk.inj (Option.some.inj h)
    rw [ival_text, ival_text]
    exact surveyorref01_Coefficients.calls (y.natAbs + 30) _ _ _ _ w (coef_text bx by' (by omega) (by omega) _ (Nat.le_refl _))
  · cases h
theorem coef_val {x y : Int} {m : Nat} (hx : Bd m x) (hy : Bd m y) (hm : 1 ≤ m) (h4 : m ≤ 4000) : ref_Coefficients.f (text x) (text y) = some (text (bezU x y), text (bezV x y)) := by
  unfold ref_Coefficients.f
  rw [if_pos ⟨text_okN hx hm h4, text_okN hy hm h4⟩, ival_text, ival_text]
def ref_Checks.f (a0 a1 : ByteArray) : Option Int := if a0.size ≤ 140737488351232 ∧ a1.size ≤ 140737488351232 then some (chk2I a0 a1) else none
theorem ref_Checks.calls (a0 a1 : ByteArray) (r0 : Int) (w : World) (h : ref_Checks.f a0 a1 = some r0) :
    Calls Tryz.prog 75 #[.string a0, .string a1] w fun e w' => e = .returned (.int .i64 r0) ∧ Drawn0 w w' := by
  unfold ref_Checks.f at h
  split at h
  · rename_i hs
    obtain rfl := Option.some.inj h
    refine surveyorref01_Checks.calls (a0.size + a1.size + 4) _ _ _ w ?_
    unfold surveyorref01_Checks.f chk2I
    rw [ref_check a0 hs.1 _ (by omega), Option.bind_some]
    by_cases h0 : chkI a0 = 0
    · rw [if_pos h0, if_pos h0, ref_check a1 hs.2 _ (by omega), Option.bind_some]
    · rw [if_neg h0, if_neg h0]
  · cases h
def ref_Digits.f (a0 : ByteArray) : Option Int := if 0 < a0.size ∧ a0.size ≤ 140737488351232 then some (digN a0 : Int) else none
theorem ref_Digits.calls (a0 : ByteArray) (r0 : Int) (w : World) (h : ref_Digits.f a0 = some r0) :
    Calls Tryz.prog 149 #[.string a0] w fun e w' => e = .returned (.int .i64 r0) ∧ Drawn0 w w' := by
  unfold ref_Digits.f at h
  split at h
  · rename_i hs
    obtain rfl := Option.some.inj h
    exact surveyorref01_Digits.calls _ _ w (ref_digits a0 hs.2 hs.1)
  · cases h
theorem digits_val {x : Int} {m : Nat} (hx : Bd m x) (hm : 1 ≤ m) (h4 : m ≤ 90000) : ref_Digits.f (text x) = some ((Lib.decDigits x.natAbs).length : Int) := by
  have := size_text hx hm
  unfold ref_Digits.f
  rw [if_pos ⟨canon_size (canon_text x).1, by omega⟩, digN_text]
def ref_Sign.f (a0 : ByteArray) : Option Int := if okN 9000 a0 then some (sgnI (ivalB a0)) else none
theorem ref_Sign.calls (a0 : ByteArray) (r0 : Int) (w : World) (h : ref_Sign.f a0 = some r0) :
    Calls Tryz.prog 142 #[.string a0] w fun e w' => e = .returned (.int .i64 r0) ∧ Drawn0 w w' := by
  unfold ref_Sign.f at h
  split at h
  · rename_i hs
    obtain ⟨x, rfl, bx⟩ := okN_text hs
    obtain rfl := Option.some.inj h
    rw [ival_text]
    exact surveyorref01_Sign.calls _ _ w (ref_sign x bx (by omega))
  · cases h
def ref_Negated.f (a0 : ByteArray) : Option ByteArray := if okN 9000 a0 then some (text (-ivalB a0)) else none
theorem ref_Negated.calls (a0 r0 : ByteArray) (w : World) (h : ref_Negated.f a0 = some r0) :
    Calls Tryz.prog 163 #[.string a0] w fun e w' => e = .returned (.string r0) ∧ Drawn0 w w' := by
  unfold ref_Negated.f at h
  split at h
  · rename_i hs
    obtain ⟨x, rfl, bx⟩ := okN_text hs
    obtain rfl := Option.some.inj h
    rw [ival_text]
    exact surveyorref01_Negated.calls _ _ w (negated_text bx (by omega) (by omega))
  · cases h
def ref_Magnitude.f (a0 : ByteArray) : Option ByteArray := if okN 9000 a0 then some (text ((ivalB a0).natAbs : Int)) else none
theorem ref_Magnitude.calls (a0 r0 : ByteArray) (w : World) (h : ref_Magnitude.f a0 = some r0) :
    Calls Tryz.prog 92 #[.string a0] w fun e w' => e = .returned (.string r0) ∧ Drawn0 w w' := by
  unfold ref_Magnitude.f at h
  split at h
  · rename_i hs
    obtain ⟨x, rfl, bx⟩ := okN_text hs
    obtain rfl := Option.some.inj h
    rw [ival_text]
    exact surveyorref01_Magnitude.calls _ _ w (magnitude_text bx (by omega) (by omega))
  · cases h
theorem magnitude_val {x : Int} {m : Nat} (hx : Bd m x) (hm : 1 ≤ m) (h4 : m ≤ 9000) : ref_Magnitude.f (text x) = some (text (x.natAbs : Int)) := by
  unfold ref_Magnitude.f
  rw [if_pos (text_okN hx hm h4), ival_text]
end Go.Proofs.YtignanmmgaldeaaGreatDoor
