/- bigint.common: the greatest common divisor of two magnitudes. · Bezout's coefficients: plain arithmetic. · bigint.Gcd and bigint.Lcm. · A region whose stores hit cells that it loads: a load may be taken first as long as the store that waits for it has not come up. · A region whose order is open, by an invariant: what holds when some of its operations have come up. · bigint.Bezout: the walk of its loop's round, and what it calls. -/
import Derived.Test.YtignanmmgaldeaaGreatDoorLLongAll
import Derived.Test.YtignanmmgaldeaaGreatDoorLQuotAll
import Derived.Test.YtignanmmgaldeaaGreatDoorLOpsAll
import Derived.Test.YtignanmmgaldeaaGreatDoorLBase
import Derived.OrdersHeld
import Derived.Deep.RegionHeld
set_option linter.unusedVariables false
set_option linter.unusedSimpArgs false
namespace Go.Proofs.YtignanmmgaldeaaGreatDoor
open Go.RowKit Go.Shelf Go.Proofs.YtignanmmgaldeaaGreatDoorW.PrintWords
theorem Mag.le {w : World} {u v : Value} {x y : Int} {L M : Nat} (h : Mag w u x L) (k : Mag w v y M) (hxy : x ≤ y) : Mag w u x M := by
  obtain ⟨A, n, c, xs, rfl, h1, h2, h3, h4, h5, h6, rfl⟩ := h
  obtain ⟨B, m, e, ys, rfl, k1, k2, k3, k4, k5, k6, rfl⟩ := k
  have hl := len_le_of_lval k2 h2 h3 hxy
  have a1 := h1.1
  have a2 := k1.1
  exact ⟨A, n, c, xs, rfl, h1, h2, h3, h4, h5, by omega, rfl⟩
/-- The limbs that a slice shows. -/
def rdW (w : World) (A : Option Addr) (n : Nat) : List Int := (List.range n).map fun i => match A with
  | some ad => (match w.cell? (ad.add i) with
    | some (.int _ v) => v
    | _ => 0)
  | none => 0
/-- What a slice of limbs is worth. -/
def magN (w : World) (v : Value) : Nat := match v with
  | .slice A n _ => (lval (rdW w A n)).toNat
  | _ => 0
theorem magN_of {w : World} {v : Value} {x : Int} {L : Nat} (h : Mag w v x L) : magN w v = x.toNat := by
  obtain ⟨A, n, c, xs, rfl, h1, h2, h3, h4, h5, h6, rfl⟩ := h
  show (lval (rdW w A n)).toNat = _
  have hl : (rdW w A n).length = n := by simp [rdW]
  rw [lval, lval, hl, h1.1]
  congr 1
  refine pval_congr n (fun i hi => ?_)
  obtain ⟨ad, rfl, _, hc⟩ := h1.2.2 (by omega)
  have hci := hc i hi
  simp [rdW, hi, hci]
theorem divide_mag (u v : Value) (x y : Int) (L M : Nat) (w : World) (hu : Mag w u x L) (hv : Mag w v y M) (h0 : 0 < y) (hL : L ≤ 100000) (hM : M ≤ 100000) :
    Calls Tryz.prog 90 #[u, v] w fun E w' => ∃ A n c B m e, E = .returned (.tuple #[.slice A n c, .slice B m e]) ∧ Mag w' (.slice A n c) (x / y) L ∧ Mag w' (.slice B m e) (x % y) M ∧ Below w.heap.size w w' := by
  have hu0 := hu
  have hv0 := hv
  have hx0 := hu.nonneg
  obtain ⟨A, n, c, xs, rfl, h1, h2, h3, h4, h5, h6, rfl⟩ := hu
  obtain ⟨B, m, e, ys, rfl, k1, k2, k3, k4, k5, k6, rfl⟩ := hv
  have a1 := h1.1
  have a2 := k1.1
  refine (div_all h2 k2 h3 k3 (by omega) (by omega) h0 A B n m c e w h1 k1 h4 k4).mono ?_
  rintro E w' ⟨A', n', c', B', m', c2, rfl, q1, q2, hB⟩
  refine ⟨_, _, _, _, _, _, rfl, q1.le (hu0.below hB) ?_, q2.le (hv0.below hB) ?_, hB⟩
  · exact Int.ediv_le_self _ hx0
  · exact Int.le_of_lt (Int.emod_lt_of_pos _ h0)
/-- The greatest common divisor. -/
def gcdI (x y : Int) : Int := (Nat.gcd x.natAbs y.natAbs : Nat)
theorem gcdI_zero {x : Int} (h : 0 ≤ x) : gcdI x 0 = x := by
  unfold gcdI; rw [Int.natAbs_zero, Nat.gcd_zero_right]; omega
theorem gcdI_step {x y : Int} (hx : 0 ≤ x) (hy : 0 < y) : gcdI y (x % y) = gcdI x y := by
  unfold gcdI
  have e : (x % y).natAbs = x.natAbs % y.natAbs := by
    obtain ⟨a, rfl⟩ := Int.eq_ofNat_of_zero_le hx
    obtain ⟨b, rfl⟩ := Int.eq_ofNat_of_zero_le (Int.le_of_lt hy)
    rfl
  rw [e, Nat.gcd_comm y.natAbs, ← Nat.gcd_rec y.natAbs x.natAbs, Nat.gcd_comm y.natAbs]
set_option maxRecDepth 100000 in
set_option maxHeartbeats 4000000 in
theorem common_mag (u v : Value) (x y : Int) (L : Nat) (w : World) (hu : Mag w u x L) (hv : Mag w v y L) (hL : L ≤ 100000) :
    Calls Tryz.prog 87 #[u, v] w fun E w' => ∃ A n c, E = .returned (.slice A n c) ∧ Mag w' (.slice A n c) (gcdI x y) L ∧ Below w.heap.size w w' := by
  have HU := Lib.hid hu
  have HV := Lib.hid hv
  obtain ⟨A0, n0, c0, xs, rfl, _⟩ := hu
  obtain ⟨B0, m0, e0, ys, rfl, _⟩ := hv
  have HD := Lib.hid (fun (u v : Value) (x y : Int) (w : World) (hu : Mag w u x L) (hv : Mag w v y L) (h0 : 0 < y) => divide_mag u v x y L L w hu hv h0 hL hL)
  go_enter Tryz.func87, Tryz.ntmps87
  go_wp2_with fail
  go_loopw [0, 1] (fun xv yv wr => ∃ A n c B m e X Y, xv = .slice A n c ∧ yv = .slice B m e ∧ Hid (Mag wr (.slice A n c) X L) ∧ Hid (Mag wr (.slice B m e) Y L) ∧ Hid (gcdI X Y = gcdI x y) ∧ Hid (Below w.heap.size w wr)) (fun _ yv wz => magN wz yv)
  case atStart => exact ⟨A0, n0, c0, B0, m0, e0, x, y, rfl, rfl, HU, HV, Lib.hid rfl, Lib.hid (Below.refl _ _)⟩
  case round =>
    obtain ⟨A, n, c, B, m, e, X, Y, rfl, rfl, HX, HY, HE, HB⟩ := hrel
    have hX0 := HX.out.nonneg
    have hY0 := HY.out.nonneg
    have hz := mag_zero HY.out
    by_cases h0 : m = 0
    · subst h0
      obtain rfl : Y = 0 := hz.2 rfl
      go_wp2_with fail
      go_ret
      refine ⟨_, _, _, rfl, ?_, HB.out⟩
      rw [← HE.out, gcdI_zero hX0]
      exact HX.out
    · have hY1 : 0 < Y := by have : Y ≠ 0 := fun q => h0 (hz.1 q); omega
      have hm1 : decide ((0 : Int) < (m : Int)) = true := decide_eq_true (by omega)
      have hm2 : (0 : Int) < (m : Int) := by omega
      clear hz
      go_wp2_with (go_at_call 90; refine (HD.out _ _ X Y _ HX.out HY.out hY1).mono ?_; rintro E w1 ⟨A1, n1, c1, A2, n2, c2, rfl, q1, q2, hB1⟩; have HQ := Lib.hid q2; have HY2 := Lib.hid (HY.out.below hB1); have HB2 := Lib.hid (HB.out.trans (hB1.mono HB.out.size)); clear q1 q2 hB1)
      refine ⟨⟨B, m, e, A2, n2, c2, Y, X % Y, rfl, rfl, HY2, HQ, Lib.hid ?_, HB2⟩, ?_⟩
      · rw [gcdI_step hX0 hY1]; exact HE.out
      · rw [magN_of HQ.out, magN_of HY.out]
        have h1 := Int.emod_lt_of_pos X hY1
        have h2 := Int.emod_nonneg X (show Y ≠ 0 by omega)
        omega
end Go.Proofs.YtignanmmgaldeaaGreatDoor
namespace Go.Proofs.YtignanmmgaldeaaGreatDoor
open Go.RowKit
/-- The coefficient that Euclid's steps leave. -/
def bezL : Nat → Int → Int → Int → Int → Int
  | 0, _, _, p, _ => p
  | k + 1, r, s, p, q => if s = 0 then p else bezL k s (r % s) q (p + -((r / s) * q))
/-- What the two coefficients keep: signs, and a size. -/
def BezOK (Y r s p q : Int) : Prop := ((0 ≤ p ∧ q ≤ 0 ∧ p * s - q * r = Y) ∨ (p ≤ 0 ∧ 0 ≤ q ∧ q * r - p * s = Y)) ∧ p.natAbs ≤ Y.toNat ∧ q.natAbs ≤ Y.toNat
theorem bezOK_start {X Y : Int} (hX : 0 ≤ X) (hY : 0 < Y) : BezOK Y X Y 1 0 := ⟨.inl ⟨by omega, by omega, by omega⟩, by omega, by omega⟩
theorem bezOK_step {Y r s p q : Int} (h : BezOK Y r s p q) (hr : 0 ≤ r) (hs : 0 < s) : BezOK Y s (r % s) q (p + -((r / s) * q)) := by
  obtain ⟨h1, h2, h3⟩ := h
  have hQ : 0 ≤ r / s := Int.ediv_nonneg hr (Int.le_of_lt hs)
  have hm : 0 ≤ r % s := Int.emod_nonneg r (by omega)
  have hd := Int.emod_add_mul_ediv r s
  generalize r / s = Q at *
  generalize r % s = m at *
  have e : ∀ t : Int, (p + -(Q * q)) * s - q * (r - s * Q) = p * s - q * r := fun _ => by
    rw [Int.add_mul, Int.mul_sub, Int.neg_mul, show Q * q * s = q * (s * Q) from by rw [Int.mul_comm Q q, Int.mul_assoc, Int.mul_comm Q s]]
    omega
  have e0 := e 0
  have em : r - s * Q = m := by omega
  rw [em] at e0
  rcases h1 with ⟨a, b, c⟩ | ⟨a, b, c⟩
  · have hq : 0 ≤ p + -(Q * q) := by have := Int.mul_nonpos_of_nonneg_of_nonpos hQ b; omega
    have hle : (p + -(Q * q)) * 1 ≤ (p + -(Q * q)) * s := Int.mul_le_mul_of_nonneg_left (by omega) hq
    have hn : q * m ≤ 0 := Int.mul_nonpos_of_nonpos_of_nonneg b hm
    refine ⟨.inr ⟨b, hq, by omega⟩, h3, by omega⟩
  · have hq : p + -(Q * q) ≤ 0 := by have := Int.mul_nonneg hQ b; omega
    have hle : (p + -(Q * q)) * s ≤ (p + -(Q * q)) * 1 := Int.mul_le_mul_of_nonpos_left hq (by omega)
    have hn : 0 ≤ q * m := Int.mul_nonneg b hm
    refine ⟨.inl ⟨b, hq, by omega⟩, h3, by omega⟩
theorem bezL_val (X Y : Int) : ∀ (k : Nat) (r s p q : Int), 0 ≤ r → 0 ≤ s → s.toNat ≤ k → (∃ t, p * X + t * Y = r) → (∃ t, q * X + t * Y = s) → ∃ t, bezL k r s p q * X + t * Y = gcdI r s
  | 0, r, s, p, q, hr, hs, hk, h1, h2 => by
    obtain rfl : s = 0 := by omega
    rw [gcdI_zero hr]; exact h1
  | k + 1, r, s, p, q, hr, hs, hk, h1, h2 => by
    unfold bezL
    split
    · rename_i h0
      subst h0
      rw [gcdI_zero hr]; exact h1
    · rename_i h0
      have hlt := Int.emod_lt_of_pos r (show 0 < s by omega)
      have hnn := Int.emod_nonneg r h0
      rw [← gcdI_step hr (show 0 < s by omega)]
      refine bezL_val X Y k s (r % s) q _ hs hnn (by omega) h2 ?_
      obtain ⟨t, h1⟩ := h1
      obtain ⟨u, h2⟩ := h2
      refine ⟨t + -((r / s) * u), ?_⟩
      have hd := Int.emod_add_mul_ediv r s
      have e : (r / s) * (q * X + u * Y) = (r / s) * q * X + (r / s) * u * Y := by rw [Int.mul_add, Int.mul_assoc, Int.mul_assoc]
      rw [h2, Int.mul_comm] at e
      rw [Int.add_mul, Int.add_mul, Int.neg_mul, Int.neg_mul]
      omega
/-- The first coefficient, before it is made least. -/
def bezP (a b : Int) : Int := if a < 0 then -bezL b.natAbs a.natAbs b.natAbs 1 0 else bezL b.natAbs a.natAbs b.natAbs 1 0
/-- Bezout's coefficients. -/
def bezU (a b : Int) : Int := if b = 0 then sgnI a else Int.fmod (bezP a b) ((b.natAbs : Int) / gcdI a b)
def bezV (a b : Int) : Int := if b = 0 then 0 else Int.fdiv (gcdI a b + -(a * bezU a b)) b
theorem gcdI_abs (a b : Int) : gcdI (a.natAbs : Int) (b.natAbs : Int) = gcdI a b := by unfold gcdI; simp
theorem gcdI_pos {a b : Int} (h : b ≠ 0) : 0 < gcdI a b := by
  unfold gcdI
  have := Nat.gcd_pos_of_pos_right a.natAbs (show 0 < b.natAbs by omega)
  omega
theorem gcdI_nonneg (a b : Int) : 0 ≤ gcdI a b := by unfold gcdI; omega
theorem gcdI_left (a b : Int) : gcdI a b ∣ a := by
  unfold gcdI
  exact Int.dvd_natAbs.1 (Int.ofNat_dvd.2 (Nat.gcd_dvd_left _ _))
theorem gcdI_right (a b : Int) : gcdI a b ∣ b := by
  unfold gcdI
  exact Int.dvd_natAbs.1 (Int.ofNat_dvd.2 (Nat.gcd_dvd_right _ _))
theorem bezP_val (a b : Int) (hb : b ≠ 0) : ∃ t, bezP a b * a + t * b = gcdI a b := by
  obtain ⟨t, h⟩ := bezL_val (a.natAbs : Int) (b.natAbs : Int) b.natAbs a.natAbs b.natAbs 1 0 (by omega) (by omega) (by omega) ⟨0, by omega⟩ ⟨1, by omega⟩
  rw [gcdI_abs] at h
  have hs : ∃ u, u * b = t * (b.natAbs : Int) := by
    rcases Int.lt_or_le b 0 with hneg | hneg
    · exact ⟨-t, by rw [show (b.natAbs : Int) = -b by omega, Int.neg_mul, Int.mul_neg]⟩
    · exact ⟨t, by rw [show (b.natAbs : Int) = b by omega]⟩
  obtain ⟨u, hu⟩ := hs
  refine ⟨u, ?_⟩
  rw [hu]
  unfold bezP
  split
  · rename_i ha
    rw [show (a.natAbs : Int) = -a by omega] at h ⊢
    rw [Int.mul_neg] at h
    rw [Int.neg_mul]; exact h
  · rename_i ha
    rw [show (a.natAbs : Int) = a by omega] at h ⊢
    exact h
end Go.Proofs.YtignanmmgaldeaaGreatDoor
namespace Go.Proofs.YtignanmmgaldeaaGreatDoor
open Go.RowKit Go.Shelf Go.Proofs.YtignanmmgaldeaaGreatDoorW.PrintWords
theorem numV_mag {w : World} {d : Bool} {v : Value} {z : Int} {L : Nat} (h : NumV w (.agg #[.bool d, v]) z L) : Mag w v (z.natAbs : Int) L := by
  obtain ⟨b, u, x, he, hm, rfl⟩ := h
  simp at he
  obtain ⟨rfl, rfl⟩ := he
  have := hm.nonneg
  have e : (((if d = true then -x else x) : Int).natAbs : Int) = x := by cases d <;> simp <;> omega
  rw [e]
  exact hm
theorem mag_numV {w : World} {v : Value} {x : Int} {L : Nat} (h : Mag w v x L) : NumV w (.agg #[.bool false, v]) x L := ⟨false, v, x, rfl, h, rfl⟩
theorem Mag.cast {w : World} {v : Value} {x y : Int} {L : Nat} (h : Mag w v x L) (e : x = y) : Mag w v y L := e ▸ h
theorem times_num (u v : Value) (x y : Int) (L M : Nat) (w : World) (hu : Mag w u x L) (hv : Mag w v y M) (hL : L ≤ 1000000) (hM : M ≤ 1000000) :
    Calls Tryz.prog 91 #[u, v] w fun e w' => ∃ A n c, e = .returned (.slice A n c) ∧ Mag w' (.slice A n c) (x * y) (L + M) ∧ Below w.heap.size w w' := by
  obtain ⟨A, n, c, xs, rfl, h1, h2, h3, h4, h5, h6, rfl⟩ := hu
  obtain ⟨B, m, e, ys, rfl, k1, k2, k3, k4, k5, k6, rfl⟩ := hv
  refine (times_mag A B n m c e xs ys w h1 k1 h2 k2 (by omega) (by omega) h4 k4).mono ?_
  rintro E w' ⟨A', n', c', rfl, hM, hB⟩
  exact ⟨_, _, _, rfl, hM.more (by omega), hB⟩
set_option maxRecDepth 100000 in
set_option maxHeartbeats 4000000 in
theorem gcd_ok (a b : ByteArray) (w : World) (ha0 : chkI a = 0) (hb0 : chkI b = 0) (ha : a.size ≤ 9223372036854775807) (hb : b.size ≤ 9223372036854775807) (hG : GW w) :
    Calls Tryz.prog 28 #[.string a, .string b] w fun e w' => e = .returned (.tuple #[.string (text (gcdI (ivalB a) (ivalB b))), .int .i64 0]) ∧ Below w.heap.size w w' := by
  have HP := Lib.hid (fun w => pair_shape a b w ha0 hb0 ha hb)
  have HG := Lib.hid hG
  go_enter Tryz.func28, Tryz.ntmps28
  clear ha0 hb0 ha hb hG
  go_wp2_with (first
    | (go_at_call 79; refine (HP.out _).mono ?_; rintro e w1 ⟨d, A, n, c, d2, B, m, c2, rfl, hn1, hn2, hB⟩; have HN1 := Lib.hid (numV_mag hn1); have HN2 := Lib.hid (numV_mag hn2); have HB := Lib.hid hB; clear hn1 hn2 hB HP)
    | (go_at_call 87; refine (common_mag _ _ _ _ 456 _ (HN1.out.below (((Below.refl _ w1).alloc (Nat.le_refl _) _).alloc (by simp) _)) (HN2.out.below (((Below.refl _ w1).alloc (Nat.le_refl _) _).alloc (by simp) _)) (by omega)).mono ?_; rintro e w3 ⟨A3, n3, c3, rfl, hr, hB3⟩; have hB4 := HB.out.trans (((((Below.refl _ w1).alloc (Nat.le_refl _) _).alloc (by simp) _).trans (hB3.mono (by simp; omega))).mono HB.out.size); have hg3 := HG.out.below hB4; have HR := Lib.hid (mag_numV (hr.cast (gcdI_abs _ _))); have HB4 := Lib.hid hB4; have HG3 := Lib.hid hg3; clear hr hB3 hB4 hg3)
    | (go_at_call 88; refine (text_num _ _ 456 w3 HR.out (by omega) HG3.out).mono ?_; rintro e w4 ⟨rfl, hB5⟩; have HB5 := Lib.hid hB5; clear hB5))
  go_ret2
  exact ⟨rfl, HB4.out.trans (HB5.out.mono HB4.out.size)⟩
set_option maxRecDepth 100000 in
set_option maxHeartbeats 2000000 in
theorem gcd_err (a b : ByteArray) (w : World) (c : Int) (hc : chk2I a b = c) (h0 : c ≠ 0) (ha : a.size ≤ 9223372036854775807) (hb : b.size ≤ 9223372036854775807) :
    Calls Tryz.prog 28 #[.string a, .string b] w fun e w' => e = .returned (.tuple #[.string ⟨#[]⟩, .int .i64 c]) ∧ Below w.heap.size w w' := by
  have HP : Hid (∀ w : World, Calls Tryz.prog 79 #[.string a, .string b] w fun e w' => ∃ d A n c1 d2 B m c2, e = .returned (.tuple #[.agg #[.bool d, .slice A n c1], .agg #[.bool d2, .slice B m c2], .int .i64 c]) ∧ Below w.heap.size w w') := Lib.hid (fun w => pair_err a b w c hc h0 ha hb)
  have e1 : (c != 0) = true := by simpa using h0
  go_enter Tryz.func28, Tryz.ntmps28
  clear hc ha hb
  go_wp2_with (go_at_call 79; refine (HP.out _).mono ?_; rintro e w1 ⟨d, A, n, c1, d2, B, m, c2, rfl, hB⟩; have HB := Lib.hid hB; clear hB HP)
  go_ret2
  exact ⟨rfl, HB.out.trans ((((Below.refl _ w1).alloc (Nat.le_refl _) _).alloc (by simp) _).mono HB.out.size)⟩
/-- The least common multiple. -/
def lcmI (x y : Int) : Int := if x = 0 ∨ y = 0 then 0 else (x.natAbs : Int) / gcdI x y * (y.natAbs : Int)
set_option maxRecDepth 100000 in
set_option maxHeartbeats 2000000 in
theorem lcm_err (a b : ByteArray) (w : World) (c : Int) (hc : chk2I a b = c) (h0 : c ≠ 0) (ha : a.size ≤ 9223372036854775807) (hb : b.size ≤ 9223372036854775807) :
    Calls Tryz.prog 30 #[.string a, .string b] w fun e w' => e = .returned (.tuple #[.string ⟨#[]⟩, .int .i64 c]) ∧ Below w.heap.size w w' := by
  have HP : Hid (∀ w : World, Calls Tryz.prog 79 #[.string a, .string b] w fun e w' => ∃ d A n c1 d2 B m c2, e = .returned (.tuple #[.agg #[.bool d, .slice A n c1], .agg #[.bool d2, .slice B m c2], .int .i64 c]) ∧ Below w.heap.size w w') := Lib.hid (fun w => pair_err a b w c hc h0 ha hb)
  have e1 : (c != 0) = true := by simpa using h0
  go_enter Tryz.func30, Tryz.ntmps30
  clear hc ha hb
  go_wp2_with (go_at_call 79; refine (HP.out _).mono ?_; rintro e w1 ⟨d, A, n, c1, d2, B, m, c2, rfl, hB⟩; have HB := Lib.hid hB; clear hB HP)
  go_ret2
  exact ⟨rfl, HB.out.trans ((((Below.refl _ w1).alloc (Nat.le_refl _) _).alloc (by simp) _).mono HB.out.size)⟩
set_option maxRecDepth 100000 in
set_option maxHeartbeats 4000000 in
theorem lcm_zero (a b : ByteArray) (w : World) (ha0 : chkI a = 0) (hb0 : chkI b = 0) (ha : a.size ≤ 9223372036854775807) (hb : b.size ≤ 9223372036854775807) (hz : ivalB a = 0 ∨ ivalB b = 0) :
    Calls Tryz.prog 30 #[.string a, .string b] w fun e w' => e = .returned (.tuple #[.string ⟨#[48]⟩, .int .i64 0]) ∧ Below w.heap.size w w' := by
  have HP := Lib.hid (fun w => pair_shape a b w ha0 hb0 ha hb)
  have HZ := Lib.hid hz
  go_enter Tryz.func30, Tryz.ntmps30
  clear ha0 hb0 ha hb hz
  go_wp2_with fail
  refine (HP.out _).mono ?_
  rintro e w1 ⟨d, A, n, c, d2, B, m, c2, rfl, hn1, hn2, hB⟩
  have h1 := mag_zero (numV_mag hn1)
  have h2 := mag_zero (numV_mag hn2)
  have HB := Lib.hid hB
  have hz := HZ.out
  clear hn1 hn2 hB HP HZ
  by_cases hn : n = 0
  · subst hn
    clear h1 h2 hz
    go_wp2
    go_ret2
    exact ⟨rfl, HB.out.trans ((((Below.refl _ w1).alloc (Nat.le_refl _) _).alloc (by simp) _).mono HB.out.size)⟩
  · have hm : m = 0 := by
      rcases hz with h | h
      · exact absurd (h1.1 (by omega)) hn
      · exact h2.1 (by omega)
    subst hm
    have e1 : ((n : Int) == 0) = false := by simpa using hn
    have e2 : ¬ (n : Int) = 0 := by omega
    clear h1 h2 hz
    go_wp2
    go_ret2
    exact ⟨rfl, HB.out.trans ((((Below.refl _ w1).alloc (Nat.le_refl _) _).alloc (by simp) _).mono HB.out.size)⟩
set_option maxRecDepth 100000 in
set_option maxHeartbeats 4000000 in
theorem lcm_ok (a b : ByteArray) (w : World) (ha0 : chkI a = 0) (hb0 : chkI b = 0) (ha : a.size ≤ 9223372036854775807) (hb : b.size ≤ 9223372036854775807) (hz1 : ivalB a ≠ 0) (hz2 : ivalB b ≠ 0) (hG : GW w) :
    Calls Tryz.prog 30 #[.string a, .string b] w fun e w' => e = .returned (.tuple #[.string (wrS (lcmI (ivalB a) (ivalB b))), .int .i64 (wrE (lcmI (ivalB a) (ivalB b)))]) ∧ Below w.heap.size w w' := by
  have hlcm : lcmI (ivalB a) (ivalB b) = ((ivalB a).natAbs : Int) / gcdI ((ivalB a).natAbs : Int) ((ivalB b).natAbs : Int) * ((ivalB b).natAbs : Int) := by
    unfold lcmI
    rw [if_neg (by simp [hz1, hz2]), gcdI_abs]
  rw [hlcm]
  clear hlcm
  have HP := Lib.hid (fun w => pair_shape a b w ha0 hb0 ha hb)
  have HG := Lib.hid hG
  have hX : 0 < ((ivalB a).natAbs : Int) := by omega
  have hY : 0 < ((ivalB b).natAbs : Int) := by omega
  have hg0 : 0 < gcdI ((ivalB a).natAbs : Int) ((ivalB b).natAbs : Int) := gcdI_pos (by omega)
  have HNM : Hid (∀ (w : World) d v L, NumV w (.agg #[.bool d, v]) (ivalB a) L → Mag w v ((ivalB a).natAbs : Int) L) := Lib.hid fun w d v L h => numV_mag h
  have HNM2 : Hid (∀ (w : World) d v L, NumV w (.agg #[.bool d, v]) (ivalB b) L → Mag w v ((ivalB b).natAbs : Int) L) := Lib.hid fun w d v L h => numV_mag h
  generalize ((ivalB a).natAbs : Int) = X at *
  generalize ((ivalB b).natAbs : Int) = Y at *
  go_enter Tryz.func30, Tryz.ntmps30
  clear ha0 hb0 ha hb hG hz1 hz2
  go_wp2_with fail
  refine (HP.out _).mono ?_
  rintro e w1 ⟨d, A, n, c, d2, B, m, c2, rfl, hn1, hn2, hB⟩
  have hm1 := HNM.out _ _ _ _ hn1
  have hm2 := HNM2.out _ _ _ _ hn2
  have hn0 : n ≠ 0 := fun q => by have := (mag_zero hm1).2 q; omega
  have hm0 : m ≠ 0 := fun q => by have := (mag_zero hm2).2 q; omega
  have e1 : ((n : Int) == 0) = false := by simpa using hn0
  have e2 : ¬ (n : Int) = 0 := by omega
  have e3 : ((m : Int) == 0) = false := by simpa using hm0
  have e4 : ¬ (m : Int) = 0 := by omega
  have HN1 := Lib.hid hm1
  have HN2 := Lib.hid hm2
  have HB := Lib.hid hB
  have hb0 : ((w1.alloc (.cells #[.bool d, .slice A n c] 81)).alloc (.cells #[.bool d2, .slice B m c2] 81)).heap[w1.heap.size]? = some (.cells #[.bool d, .slice A n c] 81) := (Below.heap_alloc _ _ _ (by simp)).trans (World.alloc_heap_new w1 _)
  have hb1 : ((w1.alloc (.cells #[.bool d, .slice A n c] 81)).alloc (.cells #[.bool d2, .slice B m c2] 81)).heap[w1.heap.size + 1]? = some (.cells #[.bool d2, .slice B m c2] 81) := by
    have := World.alloc_heap_new (w1.alloc (.cells #[.bool d, .slice A n c] 81)) (.cells #[.bool d2, .slice B m c2] 81)
    rwa [World.size_alloc] at this
  have hBa : Below w1.heap.size w1 ((w1.alloc (.cells #[.bool d, .slice A n c] 81)).alloc (.cells #[.bool d2, .slice B m c2] 81)) := ((Below.refl _ w1).alloc (Nat.le_refl _) _).alloc (by simp) _
  have hsz : ((w1.alloc (.cells #[.bool d, .slice A n c] 81)).alloc (.cells #[.bool d2, .slice B m c2] 81)).heap.size = w1.heap.size + 2 := by simp
  clear hn1 hn2 hm1 hm2 hB HP HNM HNM2 hn0 hm0
  go_wp2_with fail
  obtain ⟨W5, hW5⟩ : ∃ W5, (w1.alloc (.cells #[.bool d, .slice A n c] 81)).alloc (.cells #[.bool d2, .slice B m c2] 81) = W5 := ⟨_, rfl⟩
  rw [hW5] at hb0 hb1 hBa hsz ⊢
  clear hW5
  have kd : W5.drew.cell? ⟨w1.heap.size, 1, none⟩ = some (.slice A n c) ∧ W5.drew.cell? ⟨w1.heap.size + 1, 1, none⟩ = some (.slice B m c2) := ⟨cellA hb0 1 _ rfl, cellA hb1 1 _ rfl⟩
  have HBD := Lib.hid hBa.drew
  have hsd : w1.heap.size + 2 = W5.drew.heap.size := hsz.symm
  have HKC : Hid (∀ v1 v2 : World, w1.heap.size + 1 < v1.heap.size → Below v1.heap.size v1 v2 → (v1.cell? ⟨w1.heap.size, 1, none⟩ = some (.slice A n c) ∧ v1.cell? ⟨w1.heap.size + 1, 1, none⟩ = some (.slice B m c2)) → v2.cell? ⟨w1.heap.size, 1, none⟩ = some (.slice A n c) ∧ v2.cell? ⟨w1.heap.size + 1, 1, none⟩ = some (.slice B m c2)) := Lib.hid fun v1 v2 hl hB ⟨a2, a4⟩ =>
    ⟨(hB.cell (p := ⟨w1.heap.size, 1, none⟩) (by show w1.heap.size < _; omega)).trans a2, (hB.cell (p := ⟨w1.heap.size + 1, 1, none⟩) hl).trans a4⟩
  have HCM := Lib.hid (common_mag _ _ _ _ 456 W5.drew (HN1.out.below HBD.out) (HN2.out.below HBD.out) (by omega))
  clear hb0 hb1 hBa hsz
  go_region_held3 (fun w' => w'.cell? ⟨w1.heap.size, 1, none⟩ = some (.slice A n c) ∧ w'.cell? ⟨w1.heap.size + 1, 1, none⟩ = some (.slice B m c2)) (first | assumption) (first
    | (go_at_call 87; refine HCM.out.mono ?_; rintro e w2 ⟨A3, n3, c3, rfl, hr, hB2⟩; have k2 := HKC.out _ _ (by omega) hB2 kd; have HR := Lib.hid hr; have HB2 := Lib.hid hB2; have hs2 := hB2.size; clear hB2 hr HCM)
    | (go_at_call 90; refine (divide_mag _ _ X (gcdI X Y) 456 456 w2 (HN1.out.below (HBD.out.trans (HB2.out.mono (by omega)))) HR.out hg0 (by omega) (by omega)).mono ?_; rintro e w3 ⟨A4, n4, c4, A5, n5, c5, rfl, hq, _, hB3⟩; have k3 := HKC.out _ _ (by omega) hB3 k2; have HQ := Lib.hid hq; have HB3 := Lib.hid hB3; have hs3 := hB3.size; clear hB3 hq))
  all_goals (
    have c1 := k3.1
    have c2' := k3.2
    have hW3 := HBD.out.trans ((HB2.out.mono (by omega)).trans (HB3.out.mono (by omega)))
    have HW3 := Lib.hid hW3
    have HY3 := Lib.hid (HN2.out.below hW3)
    have HG3 := Lib.hid (HG.out.below (HB.out.trans (hW3.mono HB.out.size)))
    clear hW3
    go_wp2_with (first
      | (go_at_call 91; refine (times_num _ _ _ _ 456 456 _ HQ.out HY3.out (by omega) (by omega)).mono ?_; rintro e w6 ⟨A6, n6, c6, rfl, ht, hB6⟩; have HT := Lib.hid (mag_numV ht); have HB6 := Lib.hid hB6; have HG6 := Lib.hid (HG3.out.below hB6); clear ht hB6)
      | (go_at_call 80; refine (written_num _ _ (456 + 456) w6 HT.out (by omega) HG6.out).mono ?_; rintro e w7 ⟨rfl, hB7⟩; have HB7 := Lib.hid hB7; clear hB7))
    go_ret2
    exact ⟨rfl, HB.out.trans ((HW3.out.trans ((HB6.out.mono (by omega)).trans (HB7.out.mono (by have := HB6.out.size; omega)))).mono HB.out.size)⟩)
end Go.Proofs.YtignanmmgaldeaaGreatDoor
set_option linter.unusedVariables false
namespace Go.Proofs.YtignanmmgaldeaaGreatDoor
open Go
section
variable {P : Program} {ops : Array Oper} {Q : Exit → Act → World → Prop} {md : Region.Mode} {S : Array Bool → World → Prop}
/-- Whatever order is picked from here on, and S holds behind every operation that is carried out: S may hang on which have come up. -/
def wpAnyT (P : Program) (md : Region.Mode) (ops : Array Oper) (Q : Exit → Act → World → Prop) (S : Array Bool → World → Prop) : Nat → Array Bool → Act → World → Prop
  | 0, listed, a, w => Region.ready md ops listed = [] ∧ Q .normal a w
  | fuel + 1, listed, a, w =>
    (Region.ready md ops listed = [] → Q .normal a w) ∧
    ∀ i ∈ Region.ready md ops listed, wpOp P ops Q i (fun a' w' => S (listed.setIfInBounds i true) w' ∧ wpAnyT P md ops Q S fuel (listed.setIfInBounds i true) a' w') a w
theorem wpAny_of_T : ∀ (fuel : Nat) (listed : Array Bool) (a : Act) (w : World), wpAnyT P md ops Q S fuel listed a w → wpAny P md ops Q fuel listed a w
  | 0, _, _, _, h => h
  | fuel + 1, _, _, _, h => ⟨h.1, fun i hi => wpOp_mono (fun a' w' h' => wpAny_of_T fuel _ a' w' h'.2) (h.2 i hi)⟩
theorem wpAnyT_first {i k : Nat} {oi ok : Oper} {v : Value} {Y : World → Prop} (hi : ops[i]? = some oi) (hok : ops[k]? = some ok) (hki : ∃ e ∈ ok.after, Region.binds md e = true ∧ e.on = i) (hik : k ≠ i)
    (hY : ∀ L w, L.getD k true = false → S L w → Y w) (hSi : ∀ (L : Array Bool) w, S (L.setIfInBounds i true) w ↔ S L w) (hsel : ∀ (j : Nat) (o : Oper) cs b, ops[j]? = some o → o.op ≠ .select cs b)
    (hQ : ∀ c a w, Q (.panic c) (a.put oi.dst v) w → Q (.panic c) a w) :
    ∀ (fuel : Nat) (listed : Array Bool) (a : Act) (w : World),
      (∀ j oj, ops[j]? = some oj → j ≠ i → listed.getD j true = false → (∀ e ∈ oj.after, Region.binds md e = true → e.on ≠ i) → oi.apart ops oj = true) →
      i ∈ Region.ready md ops listed → listed.getD k true = false → YieldsIf P ops Y oi v a → S listed w →
      wpAnyT P md ops Q S fuel (listed.setIfInBounds i true) (a.put oi.dst v) w → wpAnyT P md ops Q S (fuel + 1) listed a w := by
  intro fuel
  induction fuel with
  | zero =>
    intro listed a w _ hr hlk hy hS H
    refine ⟨fun h => (by rw [h] at hr; cases hr), fun j hj => ?_⟩
    by_cases hji : j = i
    · subst hji; exact hy.wpOp hi (hY _ _ hlk hS) ⟨(hSi _ _).2 hS, H⟩
    · have := ready_mono hj hji
      rw [H.1] at this
      cases this
  | succ fuel ih =>
    intro listed a w hfree hr hlk hy hS H
    refine ⟨fun h => (by rw [h] at hr; cases hr), fun j hj => ?_⟩
    by_cases hji : j = i
    · subst hji; exact hy.wpOp hi (hY _ _ hlk hS) ⟨(hSi _ _).2 hS, H⟩
    · have h1 := H.2 j (ready_mono hj hji)
      obtain ⟨hjun, oj, hoj, hall⟩ := mem_ready.1 hj
      have hnot : ∀ e ∈ oj.after, Region.binds md e = true → e.on ≠ i := fun e he hb heq => by
        have h1 := hall e he hb
        have h0 := (mem_ready.1 hr).1
        rw [heq] at h1
        rcases Nat.lt_or_ge i listed.size with h' | h'
        · simp [h'] at h0 h1; rw [h0] at h1; cases h1
        · simp [Array.getElem?_eq_none h'] at h1
      have hjk : j ≠ k := fun q => by
        subst q
        obtain ⟨e, he, hb, heq⟩ := hki
        rw [hok] at hoj
        cases hoj
        exact hnot e he hb heq
      have h2 := wpOp_putIf hoj (hfree j oj hoj hji hjun hnot) (fun cs b => hsel i oi cs b hi) (fun cs b => hsel j oj cs b hoj) hQ hy h1
      have hfree' : ∀ k ok, ops[k]? = some ok → k ≠ i → (listed.setIfInBounds j true).getD k true = false →
          (∀ e ∈ ok.after, Region.binds md e = true → e.on ≠ i) → oi.apart ops ok = true := fun k ok hk hki hun hno => by
        refine hfree k ok hk hki ?_ hno
        by_cases hjk : j = k
        · subst hjk; exact hjun
        · rw [getD_set_ne true hjk] at hun; exact hun
      refine wpOp_mono (fun a' w' h3 => ?_) h2
      have hc : (listed.setIfInBounds i true).setIfInBounds j true = (listed.setIfInBounds j true).setIfInBounds i true := Array.setIfInBounds_comm _ _ (Ne.symm hji)
      have hS2 : S (listed.setIfInBounds j true) w' := by
        have := h3.2.1
        rw [hc] at this
        exact (hSi _ _).1 this
      refine ⟨hS2, ih (listed.setIfInBounds j true) a' w' hfree' (ready_mono hr (Ne.symm hji)) ?_ h3.1 hS2 ?_⟩
      · rw [getD_set_ne true hjk]; exact hlk
      · rw [← hc]
        exact h3.2.2
/-- Take number i first. -/
theorem wpAnyT_take (i k : Nat) {oi ok : Oper} {v : Value} (Y : World → Prop) {fuel : Nat} {listed : Array Bool} {a : Act} {w : World} (hi : ops[i]? = some oi) (hok : ops[k]? = some ok) (hki : (ok.after.any fun e => Region.binds md e && e.on == i) = true) (hik : k ≠ i)
    (hs : Region.noSelect ops = true) (hf : Region.free md ops listed i = true) (hr : (Region.ready md ops listed).contains i = true) (hlk : listed.getD k true = false)
    (hQ : ∀ c a w, Q (.panic c) (a.put oi.dst v) w → Q (.panic c) a w) (hSi : ∀ (L : Array Bool) w, S (L.setIfInBounds i true) w ↔ S L w) (hY : ∀ L w, L.getD k true = false → S L w → Y w) (hS : S listed w)
    (hw : Region.wanted oi (yielded ops a.tmps) = true) (hy : ∀ w, Y w → (execOp a.eval oi).run P w = .ok (.value v) w)
    (h : S (listed.setIfInBounds i true) w → wpAnyT P md ops Q S fuel (listed.setIfInBounds i true) (a.put oi.dst v) w) : wpAnyT P md ops Q S (fuel + 1) listed a w := by
  have hki' : ∃ e ∈ ok.after, Region.binds md e = true ∧ e.on = i := by
    rw [Array.any_eq_true'] at hki
    obtain ⟨e, he, hb⟩ := hki
    simp only [Bool.and_eq_true, beq_iff_eq] at hb
    exact ⟨e, he, hb.1, hb.2⟩
  exact wpAnyT_first hi hok hki' hik hY hSi (Region.noSelect_spec hs) hQ fuel listed a w (Region.free_spec hi hf) (by simpa using hr) hlk (Or.inl ⟨hw, hy⟩) hS (h ((hSi _ _).2 hS))
/-- One alone may come up. -/
theorem wpAnyT_one (i : Nat) {o : Oper} {fuel : Nat} {listed : Array Bool} {a : Act} {w : World} (hr : Region.ready md ops listed = [i]) (ho : ops[i]? = some o)
    (h : ∀ K' : Act → World → Prop, Shut (∀ a w, S (listed.setIfInBounds i true) w → wpAnyT P md ops Q S fuel (listed.setIfInBounds i true) a w → K' a w) → if Region.wanted o (yielded ops a.tmps) = true then Oper.wp P o a w K' Q else K' (a.put o.dst undef) w) : wpAnyT P md ops Q S (fuel + 1) listed a w :=
  ⟨fun h0 => absurd (hr.symm.trans h0) (by simp), fun j hj => by
    rw [hr] at hj
    obtain rfl : j = i := by simpa using hj
    exact wpOp_step ho (fun K' hK => h K' (fun a w hS hW => hK a w ⟨hS, hW⟩))⟩
theorem wpAnyT_done {listed : Array Bool} {a : Act} {w : World} (hr : Region.ready md ops listed = []) (h : Q .normal a w) : ∀ fuel, wpAnyT P md ops Q S fuel listed a w
  | 0 => ⟨hr, h⟩
  | _ + 1 => ⟨fun _ => h, by rw [hr]; simp⟩
theorem wp_region_T {id : Nat} {a : Act} {w : World} (hm : P.follows .mixedOrders = true) (h : wpAnyT P .any ops Q S ops.size (Array.replicate ops.size false) a w.drew) : (Code.region id ops true).wp P Q a w :=
  wp_region_any hm (wpAny_of_T _ _ _ _ h)
end
end Go.Proofs.YtignanmmgaldeaaGreatDoor
set_option linter.unusedVariables false
namespace Go.Proofs.YtignanmmgaldeaaGreatDoor
open Go
section
variable {P : Program} {ops : Array Oper} {Q : Exit → Act → World → Prop} {a0 : Act}
theorem eval_get {a : Act} {d : Nat} {v : Value} (h : a.eval (.tmp d) = v) : a.tmps[d]?.getD undef = v := by simpa [Act.eval] using h
theorem Agree.congr {vals vals' : Nat → Value} {L : Array Bool} {a : Act} (h : Agree ops vals a0 L a) (hv : ∀ j, L.getD j false = true → vals' j = vals j) : Agree ops vals' a0 L a :=
  ⟨h.defers, h.size, fun j d hj hl => by rw [hv j hl]; exact h.done j d hj hl, h.rest⟩
theorem wpAny_J (F : Array Bool → (Nat → Value) → World → Prop) (hsz : ∀ j d, dstAt ops j = some d → d < a0.tmps.size) (hdis : ∀ i j d, dstAt ops i = some d → dstAt ops j = some d → i = j) (hac : ∀ i j, need ops i j = true → j < i)
    (hstep : ∀ L vals a w i o, ops[i]? = some o → L.getD i false = false → L.size = ops.size → (∀ j, need ops i j = true → L.getD j false = true) → Knows ops vals a0 i a → F L vals w → ∀ K : Act → World → Prop, (∀ v w', F (L.setIfInBounds i true) (fun j => if j = i then v else vals j) w' → K (a.put o.dst v) w') → if Region.wanted o (yielded ops a.tmps) = true then Oper.wp P o a w K Q else K (a.put o.dst undef) w)
    (hend : ∀ vals a w L, (∀ j, j < ops.size → L.getD j false = true) → Agree ops vals a0 L a → F L vals w → Q .normal a w) :
    ∀ (n : Nat) (L : Array Bool) (vals : Nat → Value) (a : Act) (w : World), undone L ≤ n → L.size = ops.size → Agree ops vals a0 L a → F L vals w → wpAny P .any ops Q n L a w
  | 0, L, vals, a, w, hn, hs, hA, hF => by
    have h0 : undone L = 0 := by omega
    refine ⟨?_, hend vals a w L (fun j hj => undone_zero h0 j (by omega)) hA hF⟩
    cases hr : Region.ready .any ops L with
    | nil => rfl
    | cons i r =>
      obtain ⟨hu, o, ho, _⟩ := mem_ready.1 (show i ∈ Region.ready .any ops L by rw [hr]; exact List.mem_cons_self)
      have hlt : i < L.size := by rw [hs]; exact (Array.getElem?_eq_some_iff.1 ho).1
      have h1 := undone_zero h0 i hlt
      rw [Array.getD_eq_getD_getElem?, Array.getElem?_eq_getElem hlt] at h1 hu
      simp at h1 hu
      rw [h1] at hu
      cases hu
  | n + 1, L, vals, a, w, hn, hs, hA, hF => by
    refine ⟨fun hr => ?_, fun i hi => ?_⟩
    · exact hend vals a w L (fun j hj => undone_zero (ready_none hs hac hr) j (by omega)) hA hF
    · obtain ⟨hu, o, ho, hall⟩ := mem_ready.1 hi
      have hlt : i < L.size := by rw [hs]; exact (Array.getElem?_eq_some_iff.1 ho).1
      have hf : L.getD i false = false := by
        rw [Array.getD_eq_getD_getElem?, Array.getElem?_eq_getElem hlt] at hu ⊢
        simpa using hu
      refine wpOp_step ho (fun K' hK => hstep L vals a w i o ho hf hs (fun j hj => ?_) (hA.knows hi) hF K' (fun v w' hF' => hK _ _ ?_))
      · obtain ⟨e, he, hb, rfl⟩ := (need_iff ho).1 hj
        exact hall e he hb
      · have hund := undone_set hlt hf
        have hA' : Agree ops (fun j => if j = i then v else vals j) a0 L a := hA.congr (fun j hj => if_neg (fun e => by subst e; rw [hf] at hj; cases hj))
        have hst := hA'.step ho hlt hf hsz hdis
        rw [if_pos rfl] at hst
        exact wpAny_J F hsz hdis hac hstep hend n _ _ _ _ (by omega) (by simp [hs]) hst hF'
theorem region_J {id : Nat} {ls : List Oper} {w : World} (hm : P.follows .mixedOrders = true) (F : Array Bool → (Nat → Value) → World → Prop) (hB : tableB ls a0.tmps.size [] = true) (h0 : F (Array.replicate ls.length false) (fun _ => undef) w.drew)
    (hstep : ∀ L vals a w i o, ls[i]? = some o → L.getD i false = false → L.size = ls.length → (∀ j, need ls.toArray i j = true → L.getD j false = true) → Knows ls.toArray vals a0 i a → F L vals w → ∀ K : Act → World → Prop, (∀ v w', F (L.setIfInBounds i true) (fun j => if j = i then v else vals j) w' → K (a.put o.dst v) w') → if Region.wanted o (yielded ls.toArray a.tmps) = true then Oper.wp P o a w K Q else K (a.put o.dst undef) w)
    (hend : ∀ vals w L, (∀ j, j < ls.length → L.getD j false = true) → F L vals w → Q .normal (putFrom vals ls 0 a0) w) : (Code.region id ls.toArray true).wp P Q a0 w := by
  have hop : ∀ i o, ls.toArray[i]? = some o → _ := fun i o ho => tableB_op hB (i := i) (o := o) (by simpa using ho)
  have hsz : ∀ j d, dstAt ls.toArray j = some d → d < a0.tmps.size := fun j d hj => by
    cases ho : ls.toArray[j]? with
    | none => simp [dstAt, ho] at hj
    | some o => simp only [dstAt, ho, Option.bind_some] at hj; exact ((hop j o ho).2.2.1 d hj).1
  have hdis : ∀ i j d, dstAt ls.toArray i = some d → dstAt ls.toArray j = some d → i = j := fun i j d hi hj => by
    cases ho : ls.toArray[i]? with
    | none => simp [dstAt, ho] at hi
    | some oi =>
      cases ho2 : ls.toArray[j]? with
      | none => simp [dstAt, ho2] at hj
      | some oj =>
        simp only [dstAt, ho, ho2, Option.bind_some] at hi hj
        rcases Nat.lt_trichotomy i j with h | h | h
        · exact absurd hi (((hop j oj ho2).2.2.1 d hj).2 i oi h (by simpa using ho))
        · exact h
        · exact absurd hj (((hop i oi ho).2.2.1 d hi).2 j oj h (by simpa using ho2))
  have hac : ∀ i j, need ls.toArray i j = true → j < i := fun i j hn => by
    cases ho : ls.toArray[i]? with
    | none => simp [need, ho] at hn
    | some o =>
      obtain ⟨e, he, hb, rfl⟩ := (need_iff ho).1 hn
      exact (hop i o ho).2.1 e he hb
  refine wp_region_any hm (wpAny_J F hsz hdis hac (fun L vals a w i o ho hf hs hn hk hF K hK => hstep L vals a w i o (by simpa using ho) hf (by simpa using hs) hn hk hF K hK) ?_ _ _ (fun _ => undef) _ _ ?_ (by simp) Agree.init (by simpa using h0))
  · intro vals a w L hall hA hF
    obtain ⟨L', hs', hall', hA'⟩ := agree_all (vals := vals) hsz hdis ls 0 (Array.replicate ls.toArray.size false) a0 (fun j => by simp) (by simp) (by simp) (fun j hj => by rw [getD_replicate_false]; simp) Agree.init
    have : a = putFrom vals ls 0 a0 := hA.unique (L := L) ⟨hA'.defers, hA'.size, fun j d hj hl => by
      have hlt : j < ls.toArray.size := by
        cases ho : ls.toArray[j]? with
        | none => simp [dstAt, ho] at hj
        | some o => exact (Array.getElem?_eq_some_iff.1 ho).1
      exact hA'.done j d hj (hall' j hlt), fun d hd => by
      refine hA'.rest d (fun j hj => ?_)
      have hlt : j < ls.toArray.size := by
        cases ho : ls.toArray[j]? with
        | none => simp [dstAt, ho] at hj
        | some o => exact (Array.getElem?_eq_some_iff.1 ho).1
      have := hd j hj
      rw [hall j hlt] at this
      cases this⟩
    rw [this]
    exact hend vals w L (fun j hj => hall j (by simpa using hj)) hF
  · have : undone (Array.replicate ls.toArray.size false) ≤ (Array.replicate ls.toArray.size false).size := by
      unfold undone
      refine Nat.le_trans List.countP_le_length ?_
      simp
    simpa using this
end
end Go.Proofs.YtignanmmgaldeaaGreatDoor
namespace Go.Proofs.YtignanmmgaldeaaGreatDoor
open Go.RowKit Go.Shelf Go.Proofs.YtignanmmgaldeaaGreatDoorW.PrintWords
theorem NumV.le {w : World} {u v : Value} {z y : Int} {L M : Nat} (h : NumV w u z L) (k : Mag w v y M) (hz : (z.natAbs : Int) ≤ y) : NumV w u z M := by
  obtain ⟨b, u', x, rfl, h1, rfl⟩ := h
  refine ⟨b, u', x, rfl, h1.le k ?_, rfl⟩
  have := h1.nonneg
  cases b <;> simp at hz <;> omega
theorem quot_mag (u v : Value) (x y : Int) (L M : Nat) (w : World) (hu : Mag w u x L) (hv : Mag w v y M) (h0 : 0 < y) (hL : L ≤ 100000) (hM : M ≤ 100000) :
    Calls Tryz.prog 95 #[.agg #[.bool false, u], .agg #[.bool false, v]] w fun E w' => ∃ A1 n1 c1 A2 n2 c2, E = .returned (.tuple #[.agg #[.bool false, .slice A1 n1 c1], .agg #[.bool false, .slice A2 n2 c2]]) ∧ Mag w' (.slice A1 n1 c1) (x / y) L ∧ Mag w' (.slice A2 n2 c2) (x % y) M ∧ Below w.heap.size w w' := by
  have hu0 := hu
  have hv0 := hv
  have hx0 := hu.nonneg
  obtain ⟨A, n, c, xs, rfl, h1, h2, h3, h4, h5, h6, rfl⟩ := hu
  obtain ⟨B, m, e, ys, rfl, k1, k2, k3, k4, k5, k6, rfl⟩ := hv
  have a1 := h1.1
  have a2 := k1.1
  refine (quot_same A B n m c e xs ys false (xs.length + 1) w h1 k1 h4 k4 (div_all h2 k2 h3 k3 (by omega) (by omega) h0)).mono ?_
  rintro E w' ⟨A', n', c', B', m', c2, rfl, q1, q2, hB⟩
  exact ⟨_, _, _, _, _, _, rfl, q1.le (hu0.below hB) (Int.ediv_le_self _ hx0), q2.le (hv0.below hB) (Int.le_of_lt (Int.emod_lt_of_pos _ h0)), hB⟩
theorem quot_numV (u v : Value) (x y : Int) (L M K : Nat) (w : World) (hu : NumV w u x L) (hv : NumV w v y M) (h0 : y ≠ 0) (hL : L < K) (hM : M ≤ K) (hK : K ≤ 99999) :
    Calls Tryz.prog 95 #[u, v] w fun E w' => ∃ d1 A1 n1 c1 d2 A2 n2 c2, E = .returned (.tuple #[.agg #[.bool d1, .slice A1 n1 c1], .agg #[.bool d2, .slice A2 n2 c2]]) ∧ NumV w' (.agg #[.bool d1, .slice A1 n1 c1]) (Int.fdiv x y) (K + 1) ∧ NumV w' (.agg #[.bool d2, .slice A2 n2 c2]) (Int.fmod x y) (K + 1) ∧ Below w.heap.size w w' := by
  obtain ⟨b, u', x', rfl, ⟨A, n, c, xs, rfl, h1, h2, h3, h4, h5, h6, rfl⟩, rfl⟩ := hu
  obtain ⟨b2, v', y', rfl, ⟨B, m, e, ys, rfl, k1, k2, k3, k4, k5, k6, rfl⟩, rfl⟩ := hv
  have a1 := h1.1
  have a2 := k1.1
  have hp := lval_nonneg k2
  have hY : 0 < lval ys := by cases b2 <;> simp at h0 <;> omega
  exact quotient_num A B n m c e xs ys b b2 K w h1 k1 h4 k4 ((div_all h2 k2 h3 k3 (by omega) (by omega) hY).more (by omega)) h2 k2 k3 (by omega) (by omega) (by omega) hY
theorem sum_shape (u v : Value) (x y : Int) (L : Nat) (w : World) (hu : NumV w u x L) (hv : NumV w v y L) (hL : L ≤ 1000000) :
    Calls Tryz.prog 81 #[u, v] w fun e w' => ∃ d A n c, e = .returned (.agg #[.bool d, .slice A n c]) ∧ NumV w' (.agg #[.bool d, .slice A n c]) (x + y) (L + 1) ∧ Below w.heap.size w w' := by
  refine (sum_num u v x y L w hu hv hL).mono ?_
  rintro e w' ⟨r, he, hr, hB⟩
  obtain ⟨d, A, n, c, rfl, hr⟩ := num_open hr
  exact ⟨d, A, n, c, he, hr, hB⟩
theorem product_shape (u v : Value) (x y : Int) (L M : Nat) (w : World) (hu : NumV w u x L) (hv : NumV w v y M) (hL : L ≤ 1000000) (hM : M ≤ 1000000) :
    Calls Tryz.prog 85 #[u, v] w fun e w' => ∃ d A n c, e = .returned (.agg #[.bool d, .slice A n c]) ∧ NumV w' (.agg #[.bool d, .slice A n c]) (x * y) (L + M) ∧ Below w.heap.size w w' := by
  refine (product_num u v x y L M w hu hv hL hM).mono ?_
  rintro e w' ⟨r, he, hr, hB⟩
  obtain ⟨d, A, n, c, rfl, hr⟩ := num_open hr
  exact ⟨d, A, n, c, he, hr, hB⟩
theorem numV_sign {w : World} {d : Bool} {v : Value} {z : Int} {L : Nat} (h : NumV w (.agg #[.bool d, v]) z L) : if d = true then z ≤ 0 else 0 ≤ z := by
  obtain ⟨b, u, x, he, hm, rfl⟩ := h
  simp at he
  obtain ⟨rfl, rfl⟩ := he
  have := hm.nonneg
  cases d <;> simp <;> omega
theorem bezL_none (k : Nat) (Y : Int) (hY : 0 < Y) : bezL (k) 0 Y 1 0 = if k = 0 then 1 else 0 := by
  cases k with
  | zero => rfl
  | succ k =>
    rw [bezL, if_neg (by omega), if_neg (by omega)]
    cases k with
    | zero => rfl
    | succ k => rw [bezL, Int.zero_emod, if_pos rfl]
/-- A number's block. -/
def NB (W : World) (g : Nat) (d : Bool) (A : Option Addr) (n c : Nat) : Prop := W.heap[g]? = some (.cells #[.bool d, .slice A n c] 81 (0, 0))
theorem NB.c0 {W : World} {g : Nat} {d : Bool} {A : Option Addr} {n c : Nat} (h : NB W g d A n c) : W.cell? ⟨g, 0, none⟩ = some (.bool d) := cellA h 0 _ rfl
theorem NB.c1 {W : World} {g : Nat} {d : Bool} {A : Option Addr} {n c : Nat} (h : NB W g d A n c) : W.cell? ⟨g, 1, none⟩ = some (.slice A n c) := cellA h 1 _ rfl
theorem NB.f0 {W : World} {g : Nat} {d : Bool} {A : Option Addr} {n c : Nat} (h : NB W g d A n c) : W.frozen? ⟨g, 0, none⟩ = false := frozen_at h 0
theorem NB.f1 {W : World} {g : Nat} {d : Bool} {A : Option Addr} {n c : Nat} (h : NB W g d A n c) : W.frozen? ⟨g, 1, none⟩ = false := frozen_at h 1
theorem NB.lt {W : World} {g : Nat} {d : Bool} {A : Option Addr} {n c : Nat} (h : NB W g d A n c) : g < W.heap.size := (Array.getElem?_eq_some_iff.1 h).1
theorem NB.below {W W' : World} {g : Nat} {d : Bool} {A : Option Addr} {n c : Nat} (h : NB W g d A n c) (hB : Below W.heap.size W W') : NB W' g d A n c := (hB.block g h.lt).trans h
theorem NB.far {W : World} {g k : Nat} {d : Bool} {A : Option Addr} {n c : Nat} (h : NB W g d A n c) (hk : g ≠ k) (u v : Value) : NB ((W.setCell ⟨k, 0, none⟩ u).setCell ⟨k, 1, none⟩ v) g d A n c := (blk_far2 hk u v).trans h
theorem NB.put {W : World} {g : Nat} {d : Bool} {A : Option Addr} {n c : Nat} (h : NB W g d A n c) (d2 : Bool) (B : Option Addr) (m e : Nat) : NB ((W.setCell ⟨g, 0, none⟩ (.bool d2)).setCell ⟨g, 1, none⟩ (.slice B m e)) g d2 B m e := blk_put2 h d2 B m e
theorem NB.set_mag {W : World} {g : Nat} {d : Bool} {A : Option Addr} {n c : Nat} (h : NB W g d A n c) {v : Value} {x : Int} {L : Nat} (hm : Mag W v x L) (d2 : Bool) (B : Option Addr) (m e : Nat) : Mag ((W.setCell ⟨g, 0, none⟩ (.bool d2)).setCell ⟨g, 1, none⟩ (.slice B m e)) v x L := mag_set2 hm h d2 B m e
theorem NB.set_num {W : World} {g : Nat} {d : Bool} {A : Option Addr} {n c : Nat} (h : NB W g d A n c) {v : Value} {x : Int} {L : Nat} (hm : NumV W v x L) (d2 : Bool) (B : Option Addr) (m e : Nat) : NumV ((W.setCell ⟨g, 0, none⟩ (.bool d2)).setCell ⟨g, 1, none⟩ (.slice B m e)) v x L := hm.set2 h d2 B m e
theorem NB.alloc {W : World} {g : Nat} {d : Bool} {A : Option Addr} {n c : Nat} (h : NB W g d A n c) (o : Obj) : NB (W.alloc o) g d A n c := (Below.heap_alloc _ _ _ h.lt).trans h
theorem NB.new (W : World) (d : Bool) (A : Option Addr) (n c : Nat) : NB (W.alloc (.cells #[.bool d, .slice A n c] 81)) W.heap.size d A n c := World.alloc_heap_new W _
/-- Two numbers made one after the other. -/
theorem two_new (W : World) (d d2 : Bool) (A B : Option Addr) (n c m c2 : Nat) : NB ((W.alloc (.cells #[.bool d, .slice A n c] 81)).alloc (.cells #[.bool d2, .slice B m c2] 81)) W.heap.size d A n c ∧ NB ((W.alloc (.cells #[.bool d, .slice A n c] 81)).alloc (.cells #[.bool d2, .slice B m c2] 81)) (W.heap.size + 1) d2 B m c2 ∧ Below W.heap.size W ((W.alloc (.cells #[.bool d, .slice A n c] 81)).alloc (.cells #[.bool d2, .slice B m c2] 81)) ∧ ((W.alloc (.cells #[.bool d, .slice A n c] 81)).alloc (.cells #[.bool d2, .slice B m c2] 81)).heap.size = W.heap.size + 2 :=
  ⟨(NB.new W d A n c).alloc _, by have := NB.new (W.alloc (.cells #[.bool d, .slice A n c] 81)) d2 B m c2; rwa [World.size_alloc] at this, ((Below.refl _ W).alloc (Nat.le_refl _) _).alloc (by simp) _, by simp⟩
theorem bez_start (W : World) : NB (((W.alloc (.cells #[.int .i64 1] 3)).alloc (.cells #[.bool false, .slice (some ⟨W.heap.size, 0, none⟩) 1 1] 81)).alloc (.cells #[.bool false, .slice none 0 0] 81)) (W.heap.size + 1) false (some ⟨W.heap.size, 0, none⟩) 1 1 ∧
    NB (((W.alloc (.cells #[.int .i64 1] 3)).alloc (.cells #[.bool false, .slice (some ⟨W.heap.size, 0, none⟩) 1 1] 81)).alloc (.cells #[.bool false, .slice none 0 0] 81)) (W.heap.size + 1 + 1) false none 0 0 ∧
    Mag (((W.alloc (.cells #[.int .i64 1] 3)).alloc (.cells #[.bool false, .slice (some ⟨W.heap.size, 0, none⟩) 1 1] 81)).alloc (.cells #[.bool false, .slice none 0 0] 81)) (.slice (some ⟨W.heap.size, 0, none⟩) 1 1) 1 456 ∧
    Below W.heap.size W (((W.alloc (.cells #[.int .i64 1] 3)).alloc (.cells #[.bool false, .slice (some ⟨W.heap.size, 0, none⟩) 1 1] 81)).alloc (.cells #[.bool false, .slice none 0 0] 81)) := by
  obtain ⟨t1, t2, t3, t4⟩ := two_new (W.alloc (.cells #[.int .i64 1] 3)) false false (some ⟨W.heap.size, 0, none⟩) none 1 1 0 0
  rw [World.size_alloc] at t1 t2
  exact ⟨t1, t2, (mag_one W 456 (by omega)).below t3, (((Below.refl _ W).alloc (Nat.le_refl _) _).alloc (by simp) _).alloc (by simp; omega) _⟩
theorem results_tmp4 {fn : Func} {t u v x : Tmp} (h : fn.results = #[.tmp t, .tmp u, .tmp v, .tmp x]) (tmps : Array Value) (P : Program) (w : World) :
    (results fn tmps).run P w = .ok (.tuple #[tmps.getD t undef, tmps.getD u undef, tmps.getD v undef, tmps.getD x undef]) w := by
  simp [results, h]
/-- What the operations of Bezout's last sum leave, as far as they have come up. -/
def BG (r x u y : Value) (p s V : Int) (B : Nat) : Nat → Value → Bool → World → Prop
  | 0, z, _, _ => z = r
  | 1, z, _, _ => z = x
  | 2, z, _, _ => z = u
  | 3, z, _, w => ∃ d A n c, z = .agg #[.bool d, .slice A n c] ∧ NumV w z p 914
  | 4, z, _, w => ∃ d A n c, z = .agg #[.bool d, .slice A n c] ∧ NumV w z (-p) 914
  | 5, z, _, w => ∃ d A n c, z = .agg #[.bool d, .slice A n c] ∧ NumV w z s 915
  | 6, z, _, _ => z = y
  | 7, z, _, w => ∃ d A n c d2 A2 n2 c2, z = .tuple #[.agg #[.bool d, .slice A n c], .agg #[.bool d2, .slice A2 n2 c2]] ∧ NumV w (.agg #[.bool d, .slice A n c]) V 917
  | 8, z, _, w => ∃ d A n c d2 A2 n2 c2, z = .tuple #[.agg #[.bool d, .slice A n c], .agg #[.bool d2, .slice A2 n2 c2]] ∧ NumV w (.agg #[.bool d, .slice A n c]) V 917
  | 9, z, _, w => ∃ d A n c, z = .agg #[.bool d, .slice A n c] ∧ NumV w z V 917
  | 10, z, _, w => ∃ d A n c, z = .agg #[.bool d, .slice A n c]
  | 11, z, t, w => ∃ g d A n c, z = .pointer (some ⟨g, 0, none⟩) ∧ NB w g d A n c ∧ B ≤ g ∧ (t = true → NumV w (.agg #[.bool d, .slice A n c]) V 917)
  | 12, z, _, w => ∃ g d A n c, z = .pointer (some ⟨g, 0, none⟩) ∧ NB w g d A n c ∧ B ≤ g
  | _, _, _, _ => True
def BF (r x u y : Value) (p s V : Int) (W9 : World) (L : Array Bool) (vals : Nat → Value) (w : World) : Prop :=
  Below W9.heap.size W9 w ∧ (L.getD 11 false = true → L.getD 12 false = true → vals 11 ≠ vals 12) ∧ (L.getD 13 false = true → L.getD 11 false = true) ∧ ∀ j, L.getD j false = true → BG r x u y p s V W9.heap.size j (vals j) (L.getD 13 false) w
theorem BG.below {r x u y : Value} {p s V : Int} {B : Nat} {w w' : World} (hB : Below w.heap.size w w') : ∀ (j : Nat) (z : Value) (t : Bool), BG r x u y p s V B j z t w → BG r x u y p s V B j z t w'
  | 0, _, _, h => h
  | 1, _, _, h => h
  | 2, _, _, h => h
  | 3, _, _, ⟨d, A, n, c, e, h⟩ => ⟨d, A, n, c, e, h.below hB⟩
  | 4, _, _, ⟨d, A, n, c, e, h⟩ => ⟨d, A, n, c, e, h.below hB⟩
  | 5, _, _, ⟨d, A, n, c, e, h⟩ => ⟨d, A, n, c, e, h.below hB⟩
  | 6, _, _, h => h
  | 7, _, _, ⟨d, A, n, c, d2, A2, n2, c2, e, h⟩ => ⟨d, A, n, c, d2, A2, n2, c2, e, h.below hB⟩
  | 8, _, _, ⟨d, A, n, c, d2, A2, n2, c2, e, h⟩ => ⟨d, A, n, c, d2, A2, n2, c2, e, h.below hB⟩
  | 9, _, _, ⟨d, A, n, c, e, h⟩ => ⟨d, A, n, c, e, h.below hB⟩
  | 10, _, _, h => h
  | 11, _, _, ⟨g, d, A, n, c, e, h, h2, h3⟩ => ⟨g, d, A, n, c, e, h.below hB, h2, fun ht => (h3 ht).below hB⟩
  | 12, _, _, ⟨g, d, A, n, c, e, h, h2⟩ => ⟨g, d, A, n, c, e, h.below hB, h2⟩
  | _ + 13, _, _, h => h
theorem BF.step {r x u y : Value} {p s V : Int} {W9 : World} {L : Array Bool} {vals : Nat → Value} {w : World} (h : BF r x u y p s V W9 L vals w) {i : Nat} (hi : i < L.size) (h13 : i ≠ 13) {w' : World} (hB : Below w.heap.size w w') {v : Value}
    (hG : BG r x u y p s V W9.heap.size i v (L.getD 13 false) w') (hne : (i = 11 → L.getD 12 false = true → v ≠ vals 12) ∧ (i = 12 → L.getD 11 false = true → vals 11 ≠ v)) : BF r x u y p s V W9 (L.setIfInBounds i true) (fun j => if j = i then v else vals j) w' := by
  refine ⟨h.1.trans (hB.mono h.1.size), fun h1 h2 => ?_, fun h1 => ?_, fun j hj => ?_⟩
  · rw [getD_set _ _ _ hi] at h1 h2
    dsimp only
    by_cases e1 : 11 = i
    · have e2 : ¬ 12 = i := by omega
      rw [if_neg e2] at h2
      rw [if_pos e1, if_neg e2]
      exact hne.1 e1.symm h2
    · rw [if_neg e1] at h1
      by_cases e2 : 12 = i
      · rw [if_neg e1, if_pos e2]
        exact hne.2 e2.symm h1
      · rw [if_neg e2] at h2
        rw [if_neg e1, if_neg e2]
        exact h.2.1 h1 h2
  · rw [getD_set _ _ _ hi, if_neg (Ne.symm h13)] at h1
    rw [getD_set _ _ _ hi]
    split
    · rfl
    · exact h.2.2.1 h1
  · rw [getD_set _ _ _ hi] at hj
    rw [getD_set _ _ _ hi, if_neg (Ne.symm h13)]
    dsimp only
    by_cases e : j = i
    · rw [if_pos e, e]; exact hG
    · rw [if_neg e] at hj ⊢
      exact BG.below hB j _ _ (h.2.2.2 j hj)
/-- A number is stored into a new block. -/
theorem BF.store {r x u y : Value} {p s V : Int} {W9 : World} {L : Array Bool} {vals : Nat → Value} {w : World} (h : BF r x u y p s V W9 L vals w) {i : Nat} (hi : i < L.size) {g : Nat} {d0 : Bool} {A0 : Option Addr} {n0 c0 : Nat} (hN : NB w g d0 A0 n0 c0) (hg : W9.heap.size ≤ g) (d : Bool) (A : Option Addr) (n c : Nat)
    (hc : (i = 13 ∧ vals 11 = .pointer (some ⟨g, 0, none⟩) ∧ NumV w (.agg #[.bool d, .slice A n c]) V 917 ∧ L.getD 11 false = true) ∨ (i = 14 ∧ vals 12 = .pointer (some ⟨g, 0, none⟩) ∧ L.getD 12 false = true)) :
    BF r x u y p s V W9 (L.setIfInBounds i true) (fun j => if j = i then undef else vals j) ((w.setCell ⟨g, 0, none⟩ (.bool d)).setCell ⟨g, 1, none⟩ (.slice A n c)) := by
  refine ⟨below_set2 h.1 hg _ _, fun h1 h2 => ?_, fun h1 => ?_, fun j hj => ?_⟩
  · rw [getD_set _ _ _ hi, if_neg (by omega)] at h1 h2
    dsimp only
    rw [if_neg (by omega), if_neg (by omega)]
    exact h.2.1 h1 h2
  · rw [getD_set _ _ _ hi] at h1 ⊢
    rw [if_neg (by omega)]
    rcases hc with ⟨q, _, _, hl⟩ | ⟨q, _, _⟩
    · exact hl
    · rw [if_neg (by omega)] at h1
      exact h.2.2.1 h1
  · rw [getD_set _ _ _ hi] at hj
    dsimp only
    have keep : ∀ {z : Value} {q : Int} {M : Nat}, NumV w z q M → NumV ((w.setCell ⟨g, 0, none⟩ (.bool d)).setCell ⟨g, 1, none⟩ (.slice A n c)) z q M := fun hz => hN.set_num hz d A n c
    by_cases e : j = i
    · rw [if_pos e, e]
      rcases hc with ⟨q, _⟩ | ⟨q, _⟩ <;> subst q <;> trivial
    · rw [if_neg e] at hj ⊢
      have hk := h.2.2.2 j hj
      have hlt : j < 13 ∨ 13 ≤ j := by omega
      rcases hlt with hlt | hlt
      · obtain rfl | rfl | rfl | rfl | rfl | rfl | rfl | rfl | rfl | rfl | rfl | rfl | rfl : j = 0 ∨ j = 1 ∨ j = 2 ∨ j = 3 ∨ j = 4 ∨ j = 5 ∨ j = 6 ∨ j = 7 ∨ j = 8 ∨ j = 9 ∨ j = 10 ∨ j = 11 ∨ j = 12 := by omega
        · exact hk
        · exact hk
        · exact hk
        · obtain ⟨d', A', n', c', e', h'⟩ := hk; exact ⟨d', A', n', c', e', keep h'⟩
        · obtain ⟨d', A', n', c', e', h'⟩ := hk; exact ⟨d', A', n', c', e', keep h'⟩
        · obtain ⟨d', A', n', c', e', h'⟩ := hk; exact ⟨d', A', n', c', e', keep h'⟩
        · exact hk
        · obtain ⟨d', A', n', c', d2, A2, n2, c2, e', h'⟩ := hk; exact ⟨d', A', n', c', d2, A2, n2, c2, e', keep h'⟩
        · obtain ⟨d', A', n', c', d2, A2, n2, c2, e', h'⟩ := hk; exact ⟨d', A', n', c', d2, A2, n2, c2, e', keep h'⟩
        · obtain ⟨d', A', n', c', e', h'⟩ := hk; exact ⟨d', A', n', c', e', keep h'⟩
        · exact hk
        · obtain ⟨g', d', A', n', c', e', h', h2, h3⟩ := hk
          rcases hc with ⟨q, hv, hnum, _⟩ | ⟨q, hv, hl⟩
          · rw [hv] at e'
            injection e' with e'
            injection e' with e'
            injection e' with e'
            subst e'
            exact ⟨g, d, A, n, c, hv, h'.put d A n c, h2, fun _ => keep hnum⟩
          · have hne := h.2.1 hj hl
            rw [hv, e'] at hne
            have hne2 : g' ≠ g := fun q => hne (by rw [q])
            refine ⟨g', d', A', n', c', e', h'.far hne2 _ _, h2, fun ht => keep (h3 ?_)⟩
            rw [getD_set _ _ _ hi, if_neg (by omega)] at ht
            exact ht
        · obtain ⟨g', d', A', n', c', e', h', h2⟩ := hk
          rcases hc with ⟨q, hv, hnum, hl⟩ | ⟨q, hv, _⟩
          · have hne := h.2.1 hl hj
            rw [hv, e'] at hne
            have hne2 : g' ≠ g := fun q => hne (by rw [q])
            exact ⟨g', d', A', n', c', e', h'.far hne2 _ _, h2⟩
          · rw [hv] at e'
            injection e' with e'
            injection e' with e'
            injection e' with e'
            subst e'
            exact ⟨g, d, A, n, c, hv, h'.put d A n c, h2⟩
      · obtain ⟨k, rfl⟩ : ∃ k, j = k + 13 := ⟨j - 13, by omega⟩
        trivial
/-- What the loop of Bezout keeps. -/
structure BezW (W0 : World) (B0 gr gs gb gn : Nat) (Y F g : Int) (R S : Int) (wr : World) : Prop where
  h : ∃ (k : Nat) (P Q : Int) (Ar As : Option Addr) (nr cr ns cs : Nat) (db dn : Bool) (Ab An : Option Addr) (nb cb nn cn : Nat),
    NB wr gr false Ar nr cr ∧ NB wr gs false As ns cs ∧ NB wr gb db Ab nb cb ∧ NB wr gn dn An nn cn ∧
    Mag wr (.slice Ar nr cr) R 456 ∧ Mag wr (.slice As ns cs) S 456 ∧ NumV wr (.agg #[.bool db, .slice Ab nb cb]) P 456 ∧ NumV wr (.agg #[.bool dn, .slice An nn cn]) Q 456 ∧
    BezOK Y R S P Q ∧ S.toNat ≤ k ∧ bezL k R S P Q = F ∧ gcdI R S = g
  b : Below B0 W0 wr
end Go.Proofs.YtignanmmgaldeaaGreatDoor
