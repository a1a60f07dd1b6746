/- bigint.subtract, bigint.estimate: walked on a window of a row. · bigint.estimate: a limb of the quotient. · bigint.divide: the plain laws of its loop. · bigint.divide by two limbs and more. · bigint.divide: any divisor but 0. -/
import Derived.Test.YtignanmmgaldeaaGreatDoorLTimesAll
import Derived.Test.YtignanmmgaldeaaGreatDoorLQuotAll
set_option linter.unusedVariables false
set_option linter.unusedSimpArgs false
namespace Go.Proofs.YtignanmmgaldeaaGreatDoor
open Go.RowKit Go.Shelf Go.Proofs.YtignanmmgaldeaaGreatDoorW.PrintWords
/-- A row of a block of its own, which may be longer. -/
def RowN (g : Nat) (L : List Int) (w : World) : Prop := ∃ base cap, w.ownsRow base 3 1 (.slice (some ⟨g, 0, none⟩) L.length cap) L.length (nums .i64 L)
theorem RowN.cell {g : Nat} {L : List Int} {w : World} (h : RowN g L w) (k : Nat) (hk : k < L.length) : w.cell? ⟨g, k, none⟩ = some (.int .i64 (L[k]?.getD 0)) := by
  obtain ⟨base, cap, ho⟩ := h
  have := (own_at ho (k : Int) (by omega) (by omega)).1
  rwa [rd_nat, Int.toNat_natCast] at this
theorem RowN.frozen {g : Nat} {L : List Int} {w : World} (h : RowN g L w) (k : Nat) : w.frozen? ⟨g, k, none⟩ = false := by
  obtain ⟨base, cap, ho⟩ := h
  rcases ho.2 with ⟨h', _⟩ | ⟨g', cap', cur, h', _, hh, _⟩
  · cases h'
  · have : g = g' := by injection h' with h'; injection h' with h'; injection h' with h'
    subst this
    simp [World.frozen?, hh]
theorem RowN.store {g : Nat} {L : List Int} {w : World} (h : RowN g L w) (k : Nat) (v : Int) : RowN g (L.set k v) (w.setCell ⟨g, k, none⟩ (.int .i64 v)) := by
  obtain ⟨base, cap, ho⟩ := h
  have := (own_store ho (k : Int) v).1
  rw [Int.toNat_natCast] at this
  exact ⟨base, cap, by rw [List.length_set]; exact this⟩
theorem RI.otherAt {B1 : Nat} {w : World} {A : Option Addr} {n : Nat} {xs : List Int} {g : Nat} (h : RI B1 w A n xs) (hne : ∀ ad, A = some ad → ad.block ≠ g) (o : Nat) (v : Value) : RI B1 (w.setCell ⟨g, o, none⟩ v) A n xs := by
  refine ⟨h.1, h.2.1, fun h0 => ?_⟩
  obtain ⟨ad, e, hl, hc⟩ := h.2.2 h0
  refine ⟨ad, e, hl, fun i hi => ?_⟩
  have hb : (ad.add i).block = ad.block := by simp only [Addr.add]; split <;> rfl
  exact (cell_far (p := ⟨g, o, none⟩) v (by rw [hb]; exact fun q => hne ad e q.symm)).trans (hc i hi)
/-- No block but one has been written. -/
def Only (g : Nat) (w wr : World) : Prop := w.heap.size ≤ wr.heap.size ∧ ∀ b, b < w.heap.size → b ≠ g → wr.heap[b]? = w.heap[b]?
theorem Only.refl (g : Nat) (w : World) : Only g w w := ⟨Nat.le_refl _, fun _ _ _ => rfl⟩
theorem Only.trans {g : Nat} {w v u : World} (h : Only g w v) (k : Only g v u) : Only g w u := ⟨Nat.le_trans h.1 k.1, fun b hb hg => (k.2 b (Nat.lt_of_lt_of_le hb h.1) hg).trans (h.2 b hb hg)⟩
theorem Only.put {g : Nat} {w wr : World} (h : Only g w wr) (o : Nat) (v : Value) : Only g w (wr.setCell ⟨g, o, none⟩ v) :=
  ⟨Nat.le_trans h.1 ((Below.refl 0 wr).setCell (p := ⟨g, o, none⟩) (Nat.zero_le _) v).size, fun b hb hg => (Below.heap_setCell wr ⟨g, o, none⟩ v b hg).trans (h.2 b hb hg)⟩
theorem Only.drewN {g : Nat} {w wr : World} (h : Only g w wr) (k : Nat) : Only g w (wr.drewN k) := h
/-- subtract: the carry before place k is taken off, at place k. -/
def sbS (ys : List Int) (q : Int) (k : Nat) (c : Int) : Int := if k < ys.length then c + q * ys[k]?.getD 0 else c
def sbF (L : List Int) (j : Nat) (ys : List Int) (q : Int) : Nat → List Int × Int
  | 0 => (L, 0)
  | k + 1 =>
    if (sbF L j ys q k).1[j + k]?.getD 0 - sbS ys q k (sbF L j ys q k).2 % 1000000000 < 0
    then ((sbF L j ys q k).1.set (j + k) ((sbF L j ys q k).1[j + k]?.getD 0 - sbS ys q k (sbF L j ys q k).2 % 1000000000 + 1000000000), sbS ys q k (sbF L j ys q k).2 / 1000000000 + 1)
    else ((sbF L j ys q k).1.set (j + k) ((sbF L j ys q k).1[j + k]?.getD 0 - sbS ys q k (sbF L j ys q k).2 % 1000000000), sbS ys q k (sbF L j ys q k).2 / 1000000000)
theorem sbF_len (L : List Int) (j : Nat) (ys : List Int) (q : Int) : ∀ k, (sbF L j ys q k).1.length = L.length
  | 0 => rfl
  | k + 1 => by
    simp only [sbF]
    split <;> simp [sbF_len L j ys q k]
theorem sbF_far (L : List Int) (j : Nat) (ys : List Int) (q : Int) (i : Nat) : ∀ k, i < j ∨ j + k ≤ i → (sbF L j ys q k).1[i]? = L[i]?
  | 0, _ => rfl
  | k + 1, h => by
    have ih := sbF_far L j ys q i k (by omega)
    simp only [sbF]
    split <;> (dsimp only; rw [List.getElem?_set_ne (by omega), ih])
theorem prod_bounds {q v : Int} (hq0 : 0 ≤ q) (hq1 : q < 1000000000) (hv0 : 0 ≤ v) (hv1 : v < 1000000000) : 0 ≤ q * v ∧ q * v ≤ 999999998000000001 := by
  refine ⟨Int.mul_nonneg hq0 hv0, ?_⟩
  have h1 : q * v ≤ 999999999 * v := Int.mul_le_mul_of_nonneg_right (by omega) hv0
  omega
theorem sbS_bounds {ys : List Int} (hy : limbs ys) {q : Int} (hq0 : 0 ≤ q) (hq1 : q < 1000000000) (k : Nat) {c : Int} (h0 : 0 ≤ c) (h1 : c ≤ 1000000000) : 0 ≤ sbS ys q k c ∧ sbS ys q k c ≤ 999999999000000001 := by
  have hp := prod_bounds hq0 hq1 (hy k).1 (hy k).2
  unfold sbS
  split <;> omega
theorem sbF_carry (L : List Int) (j : Nat) {ys : List Int} (hy : limbs ys) {q : Int} (hq0 : 0 ≤ q) (hq1 : q < 1000000000) : ∀ k, 0 ≤ (sbF L j ys q k).2 ∧ (sbF L j ys q k).2 ≤ 1000000000
  | 0 => by simp [sbF]
  | k + 1 => by
    have ih := sbF_carry L j hy hq0 hq1 k
    have hb := sbS_bounds hy hq0 hq1 k ih.1 ih.2
    simp only [sbF]
    split <;> (dsimp only; omega)
set_option maxRecDepth 100000 in
set_option maxHeartbeats 4000000 in
theorem subtract_walk (g j n c : Nat) (B : Option Addr) (m e : Nat) (L ys : List Int) (q : Int) (B0 : Nat) (w0 w : World) (hR : RowN g L w) (hg : B0 ≤ g) (hB : Below B0 w0 w) (hj : j + n ≤ L.length) (B1 : Nat) (hy : RI B1 w B m ys) (hne : ∀ ad, B = some ad → ad.block ≠ g) (hL : limbs L) (hyl : limbs ys) (hq0 : 0 ≤ q) (hq1 : q < 1000000000) (hn : n ≤ 35184372088831) (hm : m ≤ 35184372088831) :
    Calls Tryz.prog 203 #[.slice (some ⟨g, j, none⟩) n c, .slice B m e, .int .i64 q] w fun E w' => E = .returned (.bool ((sbF L j ys q n).2 == 0)) ∧ RowN g (sbF L j ys q n).1 w' ∧ Below B0 w0 w' ∧ RI B1 w' B m ys ∧ Only g w w' := by
  have HR0 := Lib.hid hR
  have HB0 := Lib.hid hB
  have HY := Lib.hid hy
  have HL := Lib.hid hL
  have HYL := Lib.hid hyl
  clear hR hB hy hL hyl
  go_enter Tryz.func203, Tryz.ntmps203
  go_wp2_with fail
  go_loopw [7, 12] (fun cv iv wr => ∃ k : Nat, k ≤ n ∧ iv = .int .i64 k ∧ cv = .int .i64 (sbF L j ys q k).2 ∧ Hid (RowN g (sbF L j ys q k).1 wr) ∧ Hid (Below B0 w0 wr) ∧ Hid (RI B1 wr B m ys) ∧ Hid (Only g w wr)) (fun _ i _ => n - (intOf i).toNat)
  case atStart => exact ⟨0, by omega, rfl, rfl, HR0, HB0, HY, Lib.hid (Only.refl g w)⟩
  case round =>
    obtain ⟨k, hk, rfl, rfl, HR, HB, HYr, HNr⟩ := hrel
    by_cases h0 : k < n
    · have hcar := sbF_carry L j HYL.out hq0 hq1 k
      have cW := HR.out.cell (j + k) (by rw [sbF_len]; omega)
      rw [sbF_far L j ys q (j + k) k (by omega)] at cW
      have fW := HR.out.frozen (j + k)
      have hv := HL.out (j + k)
      have hs : Hid (sbF L j ys q (k + 1) = if L[j + k]?.getD 0 - sbS ys q k (sbF L j ys q k).2 % 1000000000 < 0 then ((sbF L j ys q k).1.set (j + k) (L[j + k]?.getD 0 - sbS ys q k (sbF L j ys q k).2 % 1000000000 + 1000000000), sbS ys q k (sbF L j ys q k).2 / 1000000000 + 1) else ((sbF L j ys q k).1.set (j + k) (L[j + k]?.getD 0 - sbS ys q k (sbF L j ys q k).2 % 1000000000), sbS ys q k (sbF L j ys q k).2 / 1000000000)) := by
        show sbF L j ys q (k + 1) = _
        rw [sbF, sbF_far L j ys q (j + k) k (by omega)]
      generalize L[j + k]?.getD 0 = v at *
      by_cases h2 : k < m
      · obtain ⟨ad2, rfl, hlt2, hc2⟩ := HYr.out.2.2 (by omega)
        have cY := hc2 k h2
        have hu := HYL.out k
        have hp := prod_bounds hq0 hq1 hu.1 hu.2
        clear hc2
        have HT : Hid (sbS ys q k (sbF L j ys q k).2 = (sbF L j ys q k).2 + q * ys[k]?.getD 0) := by
          show sbS _ _ _ _ = _
          rw [sbS, if_pos (by rw [HY.out.1]; omega)]
        generalize ys[k]?.getD 0 = u at *
        generalize hcc : (sbF L j ys q k).2 = cc at *
        have HC := Lib.hid hcc
        clear hcc
        by_cases hd : v - (cc + q * u) % 1000000000 < 0
        · have ht : Hid (sbF L j ys q (k + 1) = ((sbF L j ys q k).1.set (j + k) (v - (cc + q * u) % 1000000000 + 1000000000), (cc + q * u) / 1000000000 + 1)) := by
            show sbF L j ys q (k + 1) = _
            rw [hs.out, HT.out, if_pos hd]
          go_wp2
          refine ⟨⟨k + 1, by omega, rfl, by rw [ht.out], Lib.hid ?_, Lib.hid (HB.out.setCell (p := ⟨g, j + k, none⟩) hg _), Lib.hid (HYr.out.otherAt hne (j + k) _), Lib.hid (HNr.out.put (j + k) _)⟩, by simp only [intOf]; omega⟩
          rw [ht.out]
          exact HR.out.store (j + k) _
        · have ht : Hid (sbF L j ys q (k + 1) = ((sbF L j ys q k).1.set (j + k) (v - (cc + q * u) % 1000000000), (cc + q * u) / 1000000000)) := by
            show sbF L j ys q (k + 1) = _
            rw [hs.out, HT.out, if_neg hd]
          go_wp2
          refine ⟨⟨k + 1, by omega, rfl, by rw [ht.out], Lib.hid ?_, Lib.hid (HB.out.setCell (p := ⟨g, j + k, none⟩) hg _), Lib.hid (HYr.out.otherAt hne (j + k) _), Lib.hid (HNr.out.put (j + k) _)⟩, by simp only [intOf]; omega⟩
          rw [ht.out]
          exact HR.out.store (j + k) _
      · have HT : Hid (sbS ys q k (sbF L j ys q k).2 = (sbF L j ys q k).2) := by
          show sbS _ _ _ _ = _
          rw [sbS, if_neg (by rw [HY.out.1]; omega)]
        generalize hcc : (sbF L j ys q k).2 = cc at *
        have HC := Lib.hid hcc
        clear hcc
        by_cases hd : v - (cc) % 1000000000 < 0
        · have ht : Hid (sbF L j ys q (k + 1) = ((sbF L j ys q k).1.set (j + k) (v - (cc) % 1000000000 + 1000000000), (cc) / 1000000000 + 1)) := by
            show sbF L j ys q (k + 1) = _
            rw [hs.out, HT.out, if_pos hd]
          go_wp2
          refine ⟨⟨k + 1, by omega, rfl, by rw [ht.out], Lib.hid ?_, Lib.hid (HB.out.setCell (p := ⟨g, j + k, none⟩) hg _), Lib.hid (HYr.out.otherAt hne (j + k) _), Lib.hid (HNr.out.put (j + k) _)⟩, by simp only [intOf]; omega⟩
          rw [ht.out]
          exact HR.out.store (j + k) _
        · have ht : Hid (sbF L j ys q (k + 1) = ((sbF L j ys q k).1.set (j + k) (v - (cc) % 1000000000), (cc) / 1000000000)) := by
            show sbF L j ys q (k + 1) = _
            rw [hs.out, HT.out, if_neg hd]
          go_wp2
          refine ⟨⟨k + 1, by omega, rfl, by rw [ht.out], Lib.hid ?_, Lib.hid (HB.out.setCell (p := ⟨g, j + k, none⟩) hg _), Lib.hid (HYr.out.otherAt hne (j + k) _), Lib.hid (HNr.out.put (j + k) _)⟩, by simp only [intOf]; omega⟩
          rw [ht.out]
          exact HR.out.store (j + k) _
    · obtain rfl : k = n := by omega
      go_wp2_with fail
      go_ret
      exact ⟨rfl, HR.out, HB.out, HYr.out, HNr.out⟩
/-- The value of a window of a row. -/
def wval (L : List Int) (j : Nat) : Nat → Int
  | 0 => 0
  | k + 1 => wval L j k + L[j + k]?.getD 0 * 1000000000 ^ k
theorem wval_congr {L M : List Int} (j : Nat) : ∀ k, (∀ i, i < k → L[j + i]?.getD 0 = M[j + i]?.getD 0) → wval L j k = wval M j k
  | 0, _ => rfl
  | k + 1, h => by
    rw [wval, wval, wval_congr j k (fun i hi => h i (by omega)), h k (by omega)]
theorem wval_nonneg {L : List Int} (hL : limbs L) (j : Nat) : ∀ k, 0 ≤ wval L j k
  | 0 => Int.le_refl 0
  | k + 1 => by
    have ih := wval_nonneg hL j k
    have h := Int.mul_nonneg (hL (j + k)).1 (Int.le_of_lt (base_pos k))
    rw [wval]; omega
theorem wval_lt {L : List Int} (hL : limbs L) (j : Nat) : ∀ k, wval L j k < 1000000000 ^ k
  | 0 => by simp [wval]
  | k + 1 => by
    have ih := wval_lt hL j k
    have h1 : L[j + k]?.getD 0 * 1000000000 ^ k ≤ 999999999 * 1000000000 ^ k := Int.mul_le_mul_of_nonneg_right (by have := (hL (j + k)).2; omega) (Int.le_of_lt (base_pos k))
    rw [wval, base_succ]; omega
theorem pval_split (L : List Int) (j : Nat) : ∀ k, pval L (j + k) = pval L j + wval L j k * 1000000000 ^ j
  | 0 => by simp [wval]
  | k + 1 => by
    rw [← Nat.add_assoc, pval, pval_split L j k, wval, Int.add_mul, Int.mul_assoc, ← Int.pow_add, Nat.add_comm k j]
    omega
theorem sbS_eq (ys : List Int) (q : Int) (k : Nat) (c : Int) : sbS ys q k c = c + q * ys[k]?.getD 0 := by
  unfold sbS
  split
  · rfl
  · rw [getD_out ys k (by omega)]; omega
theorem sbF_limbs {L : List Int} (hL : limbs L) (j : Nat) {ys : List Int} (hy : limbs ys) {q : Int} (hq0 : 0 ≤ q) (hq1 : q < 1000000000) : ∀ k, limbs (sbF L j ys q k).1
  | 0 => hL
  | k + 1 => by
    have ih := sbF_limbs hL j hy hq0 hq1 k
    have hc := sbF_carry L j hy hq0 hq1 k
    have hb := sbS_bounds hy hq0 hq1 k hc.1 hc.2
    have hv := ih (j + k)
    simp only [sbF]
    split <;> exact limbs_set ih _ _ (by omega)
/-- What is left of u when a multiple of v is taken off, and what is carried. -/
theorem sbF_val {L : List Int} (hL : limbs L) (j : Nat) {ys : List Int} (hy : limbs ys) {q : Int} (hq0 : 0 ≤ q) (hq1 : q < 1000000000) : ∀ k, j + k ≤ L.length → wval (sbF L j ys q k).1 j k - (sbF L j ys q k).2 * 1000000000 ^ k = wval L j k - q * pval ys k
  | 0, _ => by simp [sbF, wval, pval]
  | k + 1, hk => by
    have ih := sbF_val hL j hy hq0 hq1 k (by omega)
    have hlen := sbF_len L j ys q k
    have hfar := sbF_far L j ys q (j + k) k (by omega)
    have hw (x : Int) : wval ((sbF L j ys q k).1.set (j + k) x) j (k + 1) = wval (sbF L j ys q k).1 j k + x * 1000000000 ^ k := by
      rw [wval, wval_congr (M := (sbF L j ys q k).1) j k (fun i hi => by rw [List.getElem?_set_ne (by omega)]), List.getElem?_set_self (by omega)]
      rfl
    have hs := sbS_eq ys q k (sbF L j ys q k).2
    have hdm := Int.emod_add_mul_ediv (sbS ys q k (sbF L j ys q k).2) 1000000000
    have hq : q * pval ys (k + 1) = q * pval ys k + q * ys[k]?.getD 0 * 1000000000 ^ k := by rw [pval, Int.mul_add, Int.mul_assoc]
    have hL1 : wval L j (k + 1) = wval L j k + L[j + k]?.getD 0 * 1000000000 ^ k := rfl
    rw [hq, hL1]
    simp only [sbF, hfar]
    generalize sbS ys q k (sbF L j ys q k).2 = S at *
    generalize q * ys[k]?.getD 0 = Y at *
    generalize wval L j k = A at *
    generalize q * pval ys k = C at *
    generalize L[j + k]?.getD 0 = v at *
    generalize hcc : (sbF L j ys q k).2 = cc at *
    split <;> (dsimp only; rw [hw, base_succ]; generalize wval (sbF L j ys q k).1 j k = D at *; generalize (1000000000 : Int) ^ k = p at *)
    · have h1 : (v - S % 1000000000 + 1000000000) * p = v * p - S % 1000000000 * p + 1000000000 * p := by rw [Int.add_mul, Int.sub_mul]
      have h2 : (S / 1000000000 + 1) * (1000000000 * p) = 1000000000 * (S / 1000000000) * p + 1000000000 * p := by rw [Int.add_mul, Int.one_mul, ← Int.mul_assoc, Int.mul_comm (S / 1000000000)]
      have h3 := congrArg (· * p) hdm
      simp only [Int.add_mul] at h3
      have h4 : S * p = cc * p + Y * p := by rw [hs, Int.add_mul]
      omega
    · have h1 : (v - S % 1000000000) * p = v * p - S % 1000000000 * p := by rw [Int.sub_mul]
      have h2 : (S / 1000000000) * (1000000000 * p) = 1000000000 * (S / 1000000000) * p := by rw [← Int.mul_assoc, Int.mul_comm (S / 1000000000)]
      have h3 := congrArg (· * p) hdm
      simp only [Int.add_mul] at h3
      have h4 : S * p = cc * p + Y * p := by rw [hs, Int.add_mul]
      omega
/-- estimate: v is added again. -/
def adF (L : List Int) (j : Nat) (ys : List Int) (n : Nat) : Nat → List Int × Int
  | 0 => (L, 0)
  | k + 1 =>
    let s := (adF L j ys n k).2 + (adF L j ys n k).1[j + k]?.getD 0 + (if k < n then ys[k]?.getD 0 else 0)
    ((adF L j ys n k).1.set (j + k) (s % 1000000000), s / 1000000000)
theorem adF_len (L : List Int) (j : Nat) (ys : List Int) (n : Nat) : ∀ k, (adF L j ys n k).1.length = L.length
  | 0 => rfl
  | k + 1 => by simp [adF, adF_len L j ys n k]
theorem adF_far (L : List Int) (j : Nat) (ys : List Int) (n : Nat) (i : Nat) : ∀ k, i < j ∨ j + k ≤ i → (adF L j ys n k).1[i]? = L[i]?
  | 0, _ => rfl
  | k + 1, h => by
    have ih := adF_far L j ys n i k (by omega)
    simp only [adF]
    rw [List.getElem?_set_ne (by omega), ih]
theorem adF_carry {L : List Int} (hL : limbs L) (j : Nat) {ys : List Int} (hy : limbs ys) (n : Nat) : ∀ k, 0 ≤ (adF L j ys n k).2 ∧ (adF L j ys n k).2 ≤ 1
  | 0 => by simp [adF]
  | k + 1 => by
    have ih := adF_carry hL j hy n k
    have h1 := hL (j + k)
    have h2 := hy k
    simp only [adF, adF_far L j ys n (j + k) k (by omega)]
    split <;> omega
theorem adF_limbs {L : List Int} (hL : limbs L) (j : Nat) (ys : List Int) (n : Nat) : ∀ k, limbs (adF L j ys n k).1
  | 0 => hL
  | k + 1 => by
    simp only [adF]
    exact limbs_set (adF_limbs hL j ys n k) _ _ (by omega)
theorem adF_val {L : List Int} (hL : limbs L) (j : Nat) {ys : List Int} (n : Nat) (hn : ys.length ≤ n) : ∀ k, j + k ≤ L.length → wval (adF L j ys n k).1 j k + (adF L j ys n k).2 * 1000000000 ^ k = wval L j k + pval ys k
  | 0, _ => by simp [adF, wval, pval]
  | k + 1, hk => by
    have ih := adF_val hL j n hn k (by omega)
    have hlen := adF_len L j ys n k
    have hw (x : Int) : wval ((adF L j ys n k).1.set (j + k) x) j (k + 1) = wval (adF L j ys n k).1 j k + x * 1000000000 ^ k := by
      rw [wval, wval_congr (M := (adF L j ys n k).1) j k (fun i hi => by rw [List.getElem?_set_ne (by omega)]), List.getElem?_set_self (by omega)]
      rfl
    have hi : (if k < n then ys[k]?.getD 0 else 0) = ys[k]?.getD 0 := by
      split
      · rfl
      · rw [getD_out ys k (by omega)]
    have hL1 : wval L j (k + 1) = wval L j k + L[j + k]?.getD 0 * 1000000000 ^ k := rfl
    rw [pval, hL1]
    simp only [adF, adF_far L j ys n (j + k) k (by omega), hi]
    rw [hw, base_succ]
    generalize L[j + k]?.getD 0 = v at *
    generalize ys[k]?.getD 0 = y at *
    generalize hcc : (adF L j ys n k).2 = cc at *
    have hdm := Int.emod_add_mul_ediv (cc + v + y) 1000000000
    generalize hS : cc + v + y = S at *
    generalize wval (adF L j ys n k).1 j k = D at *
    generalize (1000000000 : Int) ^ k = p at *
    have h2 : (S / 1000000000) * (1000000000 * p) = 1000000000 * (S / 1000000000) * p := by rw [← Int.mul_assoc, Int.mul_comm (S / 1000000000)]
    have h3 := congrArg (· * p) hdm
    simp only [Int.add_mul] at h3
    have h4 : S * p = cc * p + v * p + y * p := by rw [← hS, Int.add_mul, Int.add_mul]
    omega
end Go.Proofs.YtignanmmgaldeaaGreatDoor
namespace Go.Proofs.YtignanmmgaldeaaGreatDoor
open Go.RowKit Go.Shelf Go.Proofs.YtignanmmgaldeaaGreatDoorW.PrintWords Go.Proofs.YtignanmmgaldeaaGreatDoorW.PrintLast Go.Proofs.YtignanmmgaldeaaGreatDoorW.PrintMore
attribute [local go_sem] max2_int min2_int max_two min_two
theorem est_up {W V T v1 p q : Int} (hp : 0 < p) (hV : v1 * p ≤ V) (hW : W < (T + 1) * p) (hq : T + 1 ≤ (q + 1) * v1) (hq0 : 0 ≤ q) : W < (q + 1) * V := by
  have h1 : (T + 1) * p ≤ (q + 1) * v1 * p := Int.mul_le_mul_of_nonneg_right hq (Int.le_of_lt hp)
  have h2 : (q + 1) * (v1 * p) ≤ (q + 1) * V := Int.mul_le_mul_of_nonneg_left hV (by omega)
  rw [← Int.mul_assoc] at h2
  omega
theorem est_mul (q v1 v2 : Int) : q * (v1 * 1000000000 + v2) = q * v1 * 1000000000 + q * v2 := by rw [Int.mul_add, Int.mul_assoc]
theorem est_dec {W V T v1 v2 u2 q p : Int} (hp : 0 < p) (hV : (v1 * 1000000000 + v2) * p ≤ V) (hW : W < (T * 1000000000 + u2 + 1) * p) (hq0 : 0 ≤ q) (hc : (T - q * v1) * 1000000000 + u2 < q * v2) : W < q * V := by
  have h0 := est_mul q v1 v2
  have h1 : (T * 1000000000 + u2 + 1) * p ≤ q * (v1 * 1000000000 + v2) * p := Int.mul_le_mul_of_nonneg_right (by omega) (Int.le_of_lt hp)
  have h2 : q * ((v1 * 1000000000 + v2) * p) ≤ q * V := Int.mul_le_mul_of_nonneg_left hV hq0
  rw [← Int.mul_assoc] at h2
  omega
theorem est_ok {W V T v1 v2 u2 q p : Int} (hp : 0 < p) (hV : V < (v1 * 1000000000 + v2 + 1) * p) (hV0 : 0 ≤ V) (hW : (T * 1000000000 + u2) * p ≤ W) (hW0 : 0 ≤ W) (hq0 : 0 ≤ q) (hq1 : q ≤ 999999999) (hv1 : 1 ≤ v1) (hv2 : 0 ≤ v2 ∧ v2 < 1000000000) (hu2 : 0 ≤ u2) (hx : 1000000000 ≤ T - q * v1 ∨ q * v2 ≤ (T - q * v1) * 1000000000 + u2) : (q - 1) * V ≤ W := by
  by_cases h : q = 0
  · subst h; omega
  · have hb := prod_bounds hq0 (by omega : q < 1000000000) hv2.1 hv2.2
    have h1 : (q - 1) * V ≤ (q - 1) * ((v1 * 1000000000 + v2 + 1) * p) := Int.mul_le_mul_of_nonneg_left (Int.le_of_lt hV) (by omega)
    have h2 : (q - 1) * (v1 * 1000000000 + v2 + 1) = q * v1 * 1000000000 + q * v2 + q - v1 * 1000000000 - v2 - 1 := by
      rw [Int.sub_mul, Int.one_mul, Int.mul_add, Int.mul_add, Int.mul_one, Int.mul_assoc]; omega
    have h3 : (q - 1) * (v1 * 1000000000 + v2 + 1) * p ≤ (T * 1000000000 + u2) * p := Int.mul_le_mul_of_nonneg_right (by rw [h2]; rcases hx with hx | hx <;> omega) (Int.le_of_lt hp)
    rw [← Int.mul_assoc] at h1
    omega
theorem est_fin {W V q r : Int} (hV : 0 < V) (h : r + V * q = W) (h0 : 0 ≤ r) (h1 : r < V) : W / V = q ∧ W % V = r := (Int.ediv_emod_unique hV).2 ⟨h, h0, h1⟩
theorem wval_top {L : List Int} (hL : limbs L) (j n : Nat) : ((L[j + (n + 2)]?.getD 0 * 1000000000 + L[j + (n + 1)]?.getD 0) * 1000000000 + L[j + n]?.getD 0) * 1000000000 ^ n ≤ wval L j (n + 2 + 1) ∧ wval L j (n + 2 + 1) < ((L[j + (n + 2)]?.getD 0 * 1000000000 + L[j + (n + 1)]?.getD 0) * 1000000000 + L[j + n]?.getD 0 + 1) * 1000000000 ^ n ∧ wval L j (n + 2 + 1) < (L[j + (n + 2)]?.getD 0 * 1000000000 + L[j + (n + 1)]?.getD 0 + 1) * 1000000000 ^ (n + 1) := by
  have h0 := wval_nonneg hL j n
  have h1 := wval_lt hL j n
  have h2 := wval_lt hL j (n + 1)
  have e1 : wval L j (n + 1) = wval L j n + L[j + n]?.getD 0 * 1000000000 ^ n := rfl
  have e : wval L j (n + 2 + 1) = wval L j (n + 1) + L[j + (n + 1)]?.getD 0 * 1000000000 ^ (n + 1) + L[j + (n + 2)]?.getD 0 * 1000000000 ^ (n + 1 + 1) := rfl
  rw [base_succ (n + 1)] at e
  generalize L[j + (n + 2)]?.getD 0 = a at *
  generalize L[j + (n + 1)]?.getD 0 = b at *
  generalize L[j + n]?.getD 0 = c at *
  rw [e]
  have k1 : (a * 1000000000 + b + 1) * 1000000000 ^ (n + 1) = a * (1000000000 * 1000000000 ^ (n + 1)) + b * 1000000000 ^ (n + 1) + 1000000000 ^ (n + 1) := by
    rw [Int.add_mul, Int.add_mul, Int.one_mul, Int.mul_assoc]
  refine ⟨?_, ?_, by omega⟩
  all_goals (
    rw [base_succ n] at *
    have k2 : ((a * 1000000000 + b) * 1000000000 + c) * 1000000000 ^ n = a * (1000000000 * (1000000000 * 1000000000 ^ n)) + b * (1000000000 * 1000000000 ^ n) + c * 1000000000 ^ n := by
      simp only [Int.add_mul, Int.mul_assoc]
    have k3 : ((a * 1000000000 + b) * 1000000000 + c + 1) * 1000000000 ^ n = a * (1000000000 * (1000000000 * 1000000000 ^ n)) + b * (1000000000 * 1000000000 ^ n) + c * 1000000000 ^ n + 1000000000 ^ n := by
      simp only [Int.add_mul, Int.mul_assoc, Int.one_mul]
    omega)
theorem lval_top {ys : List Int} (hy : limbs ys) (n : Nat) (hn : ys.length = n + 2) : (ys[n + 1]?.getD 0 * 1000000000 + ys[n]?.getD 0) * 1000000000 ^ n ≤ lval ys ∧ lval ys < (ys[n + 1]?.getD 0 * 1000000000 + ys[n]?.getD 0 + 1) * 1000000000 ^ n ∧ ys[n + 1]?.getD 0 * 1000000000 ^ (n + 1) ≤ lval ys := by
  have h0 := pval_nonneg hy n
  have h1 := pval_lt hy n
  have h2 := pval_nonneg hy (n + 1)
  have e1 : pval ys (n + 1) = pval ys n + ys[n]?.getD 0 * 1000000000 ^ n := rfl
  have e : lval ys = pval ys (n + 1) + ys[n + 1]?.getD 0 * 1000000000 ^ (n + 1) := by rw [lval, hn]; rfl
  generalize ys[n + 1]?.getD 0 = b at *
  generalize ys[n]?.getD 0 = c at *
  rw [e]
  refine ⟨?_, ?_, by omega⟩
  all_goals (
    rw [base_succ n] at *
    have k2 : (b * 1000000000 + c) * 1000000000 ^ n = b * (1000000000 * 1000000000 ^ n) + c * 1000000000 ^ n := by
      simp only [Int.add_mul, Int.mul_assoc]
    have k3 : (b * 1000000000 + c + 1) * 1000000000 ^ n = b * (1000000000 * 1000000000 ^ n) + c * 1000000000 ^ n + 1000000000 ^ n := by
      simp only [Int.add_mul, Int.mul_assoc, Int.one_mul]
    omega)
/-- What subtract leaves, when the estimate is right, or one too great. -/
theorem est_sub {L : List Int} (hL : limbs L) (j m : Nat) {ys : List Int} (hy : limbs ys) (hm : ys.length ≤ m) {q : Int} (hq0 : 0 ≤ q) (hq1 : q < 1000000000) (hj : j + m ≤ L.length) (hV : 0 < lval ys) (hVm : lval ys < 1000000000 ^ m) (h1 : (q - 1) * lval ys ≤ wval L j m) (h2 : wval L j m < (q + 1) * lval ys) :
    ((sbF L j ys q m).2 = 0 ∧ wval L j m / lval ys = q ∧ wval (sbF L j ys q m).1 j m = wval L j m % lval ys) ∨
    ((sbF L j ys q m).2 ≠ 0 ∧ wval L j m / lval ys = q - 1 ∧ 1 ≤ q ∧ wval (adF (sbF L j ys q m).1 j ys ys.length m).1 j m = wval L j m % lval ys) := by
  have hs := sbF_val hL j hy hq0 hq1 m hj
  have hc := sbF_carry L j hy hq0 hq1 m
  have hlb := sbF_limbs hL j hy hq0 hq1 m
  have hw0 := wval_nonneg hlb j m
  have hw1 := wval_lt hlb j m
  have ha := adF_val hlb j ys.length (Nat.le_refl _) m (by rw [sbF_len]; exact hj)
  have hac := adF_carry hlb j hy ys.length m
  have hal := adF_limbs hlb j ys ys.length m
  have hx0 := wval_nonneg hal j m
  have hx1 := wval_lt hal j m
  have hW0 := wval_nonneg hL j m
  rw [pval_all ys m hm] at hs ha
  generalize (sbF L j ys q m).2 = c at *
  generalize wval (sbF L j ys q m).1 j m = S at *
  generalize wval (adF (sbF L j ys q m).1 j ys ys.length m).1 j m = A at *
  generalize (adF (sbF L j ys q m).1 j ys ys.length m).2 = c2 at *
  generalize wval L j m = W at *
  generalize lval ys = V at *
  generalize (1000000000 : Int) ^ m = P at *
  have e1 : (q - 1) * V = q * V - V := by rw [Int.sub_mul, Int.one_mul]
  have e2 : (q + 1) * V = q * V + V := by rw [Int.add_mul, Int.one_mul]
  by_cases h0 : c = 0
  · subst h0
    left
    have := est_fin (W := W) (V := V) (q := q) (r := S) hV (by rw [Int.mul_comm V q]; omega) hw0 (by omega)
    exact ⟨rfl, this.1, this.2.symm⟩
  · right
    have c1 : c = 1 := by
      by_cases h : 2 ≤ c
      · have : 2 * P ≤ c * P := Int.mul_le_mul_of_nonneg_right h (by omega)
        omega
      · omega
    subst c1
    have c3 : c2 = 1 := by
      by_cases h : c2 = 0
      · subst h; omega
      · omega
    subst c3
    have hq : 1 ≤ q := by
      by_cases h : q = 0
      · subst h; omega
      · omega
    have := est_fin (W := W) (V := V) (q := q - 1) (r := A) hV (by rw [Int.mul_comm V (q - 1)]; omega) hx0 (by omega)
    exact ⟨h0, this.1, hq, this.2.symm⟩
set_option maxRecDepth 100000 in
set_option maxHeartbeats 4000000 in
theorem estimate_walk (g j n c : Nat) (B : Option Addr) (e : Nat) (L ys : List Int) (B0 : Nat) (w0 w : World) (hR : RowN g L w) (hg : B0 ≤ g) (hB : Below B0 w0 w) (hj : j + (n + 2 + 1) ≤ L.length) (B1 : Nat) (hy : RI B1 w B (n + 2) ys) (hne : ∀ ad, B = some ad → ad.block ≠ g) (hL : limbs L) (hyl : limbs ys) (hv1 : 1 ≤ ys[n + 1]?.getD 0) (hn : n ≤ 1000000) (hW : wval L j (n + 2 + 1) < 1000000000 * lval ys) :
    Calls Tryz.prog 173 #[.slice (some ⟨g, j, none⟩) (n + 2 + 1) c, .slice B (n + 2) e] w fun E w' => E = .returned (.int .i64 (wval L j (n + 2 + 1) / lval ys)) ∧ (∃ M, RowN g M w' ∧ limbs M ∧ M.length = L.length ∧ (∀ i, i < j ∨ j + (n + 2 + 1) ≤ i → M[i]? = L[i]?) ∧ wval M j (n + 2 + 1) = wval L j (n + 2 + 1) % lval ys) ∧ Below B0 w0 w' ∧ RI B1 w' B (n + 2) ys ∧ Only g w w' := by
  have HR := Lib.hid hR
  have HB := Lib.hid hB
  have HY := Lib.hid hy
  have HL := Lib.hid hL
  have HYL := Lib.hid hyl
  obtain ⟨ad, rfl, hlt, hc⟩ := hy.2.2 (by omega)
  have y1 := hc (n + 1) (by omega)
  have y2 := hc n (by omega)
  have u0 := hR.cell (j + (n + 2)) (by omega)
  have u1 := hR.cell (j + (n + 1)) (by omega)
  have u2 := hR.cell (j + n) (by omega)
  have b0 := hL (j + (n + 2))
  have b1 := hL (j + (n + 1))
  have b2 := hL (j + n)
  have d1 := hyl (n + 1)
  have d2 := hyl n
  have HW1 := Lib.hid (wval_top hL j n)
  have HV3 := Lib.hid (lval_top hyl n hy.1)
  have HYn := Lib.hid hy.1
  clear hR hB hy hL hyl hc
  generalize hU0 : L[j + (n + 2)]?.getD 0 = U0 at *
  have HU0 := Lib.hid hU0
  clear hU0
  generalize hU1 : L[j + (n + 1)]?.getD 0 = U1 at *
  have HU1 := Lib.hid hU1
  clear hU1
  generalize hU2 : L[j + n]?.getD 0 = U2 at *
  have HU2 := Lib.hid hU2
  clear hU2
  generalize hV1 : ys[n + 1]?.getD 0 = V1 at *
  have HV1 := Lib.hid hV1
  clear hV1
  generalize hV2 : ys[n]?.getD 0 = V2 at *
  have HV2 := Lib.hid hV2
  clear hV2
  have e1 : ((n + 2 : Nat) : Int) - 1 = ((n + 1 : Nat) : Int) := by omega
  have e2 : ((n + 2 : Nat) : Int) - 2 = ((n : Nat) : Int) := by omega
  go_enter Tryz.func173, Tryz.ntmps173
  go_wp2_with fail
  go_quiet (fail)
  have hR1 : RowN g L (w.drewN nq) := HR.out
  have hB1 := pw_below_drewN HB.out nq
  have HYq : Hid (RI B1 (w.drewN nq) (some ad) (n + 2) ys) := Lib.hid (show RI B1 w (some ad) (n + 2) ys from HY.out)
  have HN1 : Hid (Only g w (w.drewN nq)) := Lib.hid ((Only.refl g w).drewN nq)
  obtain ⟨w1, hw1⟩ : ∃ w1, w.drewN nq = w1 := ⟨_, rfl⟩
  rw [hw1] at hR1 hB1 HYq HN1 ⊢
  clear hw1 u0 u1 u2 y1 y2 HR HB
  have HR := Lib.hid hR1
  have HB := Lib.hid hB1
  have HY1 : Hid (RI B1 w1 (some ad) (n + 2) ys) := HYq
  clear HY
  obtain ⟨_, hea, _, hc⟩ := HY1.out.2.2 (by omega)
  cases hea
  have y1 : w1.cell? ⟨ad.block, ad.off + (n + 1), none⟩ = some (.int .i64 V1) := by
    have := hc (n + 1) (by omega)
    rw [HV1.out] at this
    simpa [Addr.add] using this
  have y2 := hc n (by omega)
  rw [HV2.out] at y2
  have u2 := hR1.cell (j + n) (by omega)
  rw [HU2.out] at u2
  clear hR1 hB1 hc
  have hT : 0 ≤ U0 * 1000000000 + U1 ∧ U0 * 1000000000 + U1 < 1000000000000000000 := by omega
  generalize U0 * 1000000000 + U1 = T at *
  have HV0 : Hid (0 < lval ys) := Lib.hid (Int.lt_of_lt_of_le (Int.mul_pos (by omega : 0 < V1 * 1000000000 + V2) (base_pos n)) HV3.out.1)
  have z1 : (V1 == 0) = false := by rw [beq_eq_false_iff_ne]; omega
  have z2 : V1 ≠ 0 := by omega
  have z3 : T.tdiv V1 = T / V1 := Int.tdiv_eq_ediv_of_nonneg hT.1
  have z4 : 0 ≤ T / V1 := Int.ediv_nonneg hT.1 (by omega)
  have z5 : T / V1 ≤ T := Int.ediv_le_self _ hT.1
  have z6 : IntKind.i64.wrap (T / V1) = T / V1 := by rw [IntKind.wrap_i64]; omega
  have hq0 : T + 1 ≤ (T / V1 + 1) * V1 := Int.lt_ediv_add_one_mul_self T (by omega)
  have hqv : T / V1 * V1 ≤ T := Int.ediv_mul_le T z2
  have r1 : wrap64 (T - wrap64 (T / V1 * V1)) = T - T / V1 * V1 := by
    have := Int.mul_nonneg z4 d1.1
    unfold wrap64; omega
  have r2 : wrap64 (T - wrap64 (999999999 * V1)) = T - 999999999 * V1 := by unfold wrap64; omega
  have HS1 : Hid (wval L j (n + 2 + 1) < (T / V1 + 1) * lval ys) := Lib.hid (est_up (base_pos (n + 1)) HV3.out.2.2 HW1.out.2.2 hq0 z4)
  have HS2 : Hid (wval L j (n + 2 + 1) < (999999999 + 1) * lval ys) := Lib.hid (by omega)
  have HR1 := HR
  have HB1 := HB
  clear HR HB u2 y2 hq0 e1 e2 hW
  by_cases hm : T / V1 ≤ 999999999
  · have HQ0 : Hid (T / V1 * V1 ≤ T) := Lib.hid hqv
    have HQ1 : Hid (0 ≤ T / V1 ∧ T / V1 ≤ 999999999) := Lib.hid ⟨z4, hm⟩
    clear hqv HS2
    go_wp2_with fail
    (try rw [r1])
    clear r1 r2 z1 z2 z3 z4 z5 z6 hm
    go_loopw [7, 8] (fun qv rv wr => ∃ q : Int, qv = .int .i64 q ∧ rv = .int .i64 (T - q * V1) ∧ 0 ≤ q ∧ q ≤ 999999999 ∧ 0 ≤ T - q * V1 ∧ Hid (wval L j (n + 2 + 1) < (q + 1) * lval ys) ∧ Hid (RowN g L wr) ∧ Hid (Below B0 w0 wr) ∧ Hid (RI B1 wr (some ad) (n + 2) ys) ∧ Hid (Only g w wr)) (fun _ r _ => (1000000000 - intOf r).toNat)
    case atStart => exact ⟨T / V1, rfl, rfl, HQ1.out.1, HQ1.out.2, by have := HQ0.out; omega, HS1, HR1, HB1, HY1, HN1⟩
    case round =>
      obtain ⟨q, rfl, rfl, hq0, hq1, hr0, HQ, HR, HB, HY, HN⟩ := hrel
      have hR1 := HR.out
      obtain ⟨_, hea, hlt2, hc⟩ := HY.out.2.2 (by omega)
      cases hea
      have y1 : wr.cell? ⟨ad.block, ad.off + (n + 1), none⟩ = some (.int .i64 V1) := by
        have := hc (n + 1) (by omega)
        rw [HV1.out] at this
        simpa [Addr.add] using this
      have y2 := hc n (by omega)
      rw [HV2.out] at y2
      have u2 := hR1.cell (j + n) (by omega)
      rw [HU2.out] at u2
      clear hR1 hc
      have hp1 := prod_bounds hq0 (by omega : q < 1000000000) d2.1 d2.2
      have hp2 := prod_bounds hq0 (by omega : q < 1000000000) d1.1 d1.2
      by_cases hE : T - q * V1 < 1000000000 ∧ (T - q * V1) * 1000000000 + U2 < q * V2
      · obtain ⟨hE1, hE2⟩ := hE
        have hdec := est_dec (base_pos n) HV3.out.1 HW1.out.2.1 hq0 hE2
        have HDC := Lib.hid hdec
        clear hdec
        have hsub : (q - 1) * V1 = q * V1 - V1 := by rw [Int.sub_mul, Int.one_mul]
        go_wp2_with fail
        go_quiet (fail)
        go_wp2_with fail
        have hq2 : 1 ≤ q := by
          by_cases h : q = 0
          · subst h; omega
          · omega
        exact ⟨⟨q - 1, rfl, congrArg (Value.int .i64) (by rw [hsub]; omega), by omega, by omega, by rw [hsub]; omega, Lib.hid (by rw [Int.sub_add_cancel]; exact HDC.out), Lib.hid (show RowN g L (wr.drewN nq) from HR.out), Lib.hid (pw_below_drewN HB.out nq), Lib.hid (show RI B1 (wr.drewN nq) (some ad) (n + 2) ys from HY.out), Lib.hid (HN.out.drewN nq)⟩, by simp only [intOf]; omega⟩
      · have hx : 1000000000 ≤ T - q * V1 ∨ q * V2 ≤ (T - q * V1) * 1000000000 + U2 := by omega
        have hok := est_ok (base_pos n) HV3.out.2.1 (Int.le_of_lt HV0.out) HW1.out.1 (wval_nonneg HL.out j _) hq0 hq1 hv1 d2 b2.1 hx
        have HES := Lib.hid (est_sub HL.out j (n + 2 + 1) HYL.out (by rw [HYn.out]; omega) hq0 (by omega : q < 1000000000) hj HV0.out (Int.lt_of_lt_of_le (lval_lt HYL.out) (by rw [HYn.out, base_succ (n + 2)]; have := base_pos (n + 2); omega)) hok HQ.out)
        clear hok
        by_cases hE1 : T - q * V1 < 1000000000
        · have hE2 : ¬ ((T - q * V1) * 1000000000 + U2 < q * V2) := fun h => hE ⟨hE1, h⟩
          go_wp2_with fail
          go_quiet (fail)
          have HR3 := Lib.hid (show RowN g L (wr.drewN nq) from HR.out)
          have HB3 := Lib.hid (pw_below_drewN HB.out nq)
          have HY3 : Hid (RI B1 (wr.drewN nq) (some ad) (n + 2) ys) := Lib.hid HY.out
          clear HY
          rcases HES.out with ⟨hz, hdiv, hmod⟩ | ⟨hz, hdiv, hq2, hmod⟩
          · have zz : ((sbF L j ys q (n + 2 + 1)).2 == 0) = true := by rw [hz]; rfl
            have HDV := Lib.hid hdiv
            have HMD := Lib.hid hmod
            clear hz hdiv hmod HES
            go_wp2_with (go_at_call 203; refine (subtract_walk g j (n + 2 + 1) c (some ad) (n + 2) e L ys q B0 w0 _ HR3.out hg HB3.out hj B1 HY3.out hne HL.out HYL.out hq0 (by omega) (by omega) (by omega)).mono ?_; rintro E w2 ⟨rfl, hR2, hB2, hY2, hN2⟩; have HN2 := Lib.hid ((HN.out.drewN nq).trans hN2); have HR2 := Lib.hid hR2; have HB2 := Lib.hid hB2; have HY2 := Lib.hid hY2; clear hR2 hB2 hY2 hN2)
            go_ret
            exact ⟨by rw [HDV.out]; rfl, ⟨_, HR2.out, sbF_limbs HL.out j HYL.out hq0 (by omega) _, sbF_len L j ys q _, fun i hi => sbF_far L j ys q i _ hi, HMD.out⟩, HB2.out, HY2.out, HN2.out⟩
          · have zz : ((sbF L j ys q (n + 2 + 1)).2 == 0) = false := by simpa using hz
            have HDV := Lib.hid hdiv
            have HMD := Lib.hid hmod
            clear hz hdiv hmod HES
            go_wp2_with (go_at_call 203; refine (subtract_walk g j (n + 2 + 1) c (some ad) (n + 2) e L ys q B0 w0 _ HR3.out hg HB3.out hj B1 HY3.out hne HL.out HYL.out hq0 (by omega) (by omega) (by omega)).mono ?_; rintro E w2 ⟨rfl, hR2, hB2, hY2, hN2⟩; have HN2 := Lib.hid ((HN.out.drewN nq).trans hN2); have HR2 := Lib.hid hR2; have HB2 := Lib.hid hB2; have HY2 := Lib.hid hY2; clear hR2 hB2 hY2 hN2)
            have hSl := sbF_limbs HL.out j HYL.out hq0 (by omega : q < 1000000000) (n + 2 + 1)
            have hSn := sbF_len L j ys q (n + 2 + 1)
            have HSF := Lib.hid (fun i hi => sbF_far L j ys q i (n + 2 + 1) hi)
            rw [HYn.out] at HMD
            generalize (sbF L j ys q (n + 2 + 1)).1 = S at *
            have HSL := Lib.hid hSl
            clear hSl
            have HR5 := HR2
            have HB5 := HB2
            have HY5 := HY2
            have HN5 := HN2
            clear HR2 HB2 HY2 HN2 HN HR3 HB3 HR HB y1 y2 u2 hp1 hp2
            go_loopw [9, 79] (fun cv iv wz => ∃ k : Nat, k ≤ n + 2 + 1 ∧ iv = .int .i64 k ∧ cv = .int .i64 (adF S j ys (n + 2) k).2 ∧ Hid (RowN g (adF S j ys (n + 2) k).1 wz) ∧ Hid (Below B0 w0 wz) ∧ Hid (RI B1 wz (some ad) (n + 2) ys) ∧ Hid (Only g w wz)) (fun _ i _ => (n + 2 + 1) - (intOf i).toNat)
            case atStart => exact ⟨0, by omega, rfl, rfl, HR5, HB5, HY5, HN5⟩
            case round =>
              obtain ⟨k, hk, rfl, rfl, HR, HB, HY, HN⟩ := hrel
              by_cases h0 : k < n + 2 + 1
              · have hcar := adF_carry HSL.out j HYL.out (n + 2) k
                have cW := HR.out.cell (j + k) (by rw [adF_len]; omega)
                rw [adF_far S j ys (n + 2) (j + k) k (by omega)] at cW
                have fW := HR.out.frozen (j + k)
                have hv := HSL.out (j + k)
                have hs : Hid (adF S j ys (n + 2) (k + 1) = ((adF S j ys (n + 2) k).1.set (j + k) (((adF S j ys (n + 2) k).2 + S[j + k]?.getD 0 + (if k < n + 2 then ys[k]?.getD 0 else 0)) % 1000000000), ((adF S j ys (n + 2) k).2 + S[j + k]?.getD 0 + (if k < n + 2 then ys[k]?.getD 0 else 0)) / 1000000000)) := by
                  show adF S j ys (n + 2) (k + 1) = _
                  simp only [adF, adF_far S j ys (n + 2) (j + k) k (by omega)]
                generalize S[j + k]?.getD 0 = v at *
                by_cases h2 : k < n + 2
                · obtain ⟨ad3, hea, hlt3, hc2⟩ := HY.out.2.2 (by omega)
                  cases hea
                  have cY := hc2 k h2
                  have hu := HYL.out k
                  clear hc2
                  rw [if_pos h2] at hs
                  generalize ys[k]?.getD 0 = u at *
                  generalize hcc : (adF S j ys (n + 2) k).2 = cc at *
                  have HC := Lib.hid hcc
                  clear hcc
                  go_wp2_with fail
                  refine ⟨⟨k + 1, by omega, rfl, by rw [hs.out], Lib.hid ?_, Lib.hid (HB.out.setCell (p := ⟨g, j + k, none⟩) hg _), Lib.hid (HY.out.otherAt hne (j + k) _), Lib.hid (HN.out.put (j + k) _)⟩, by simp only [intOf]; omega⟩
                  rw [hs.out]
                  exact HR.out.store (j + k) _
                · rw [if_neg h2, Int.add_zero] at hs
                  generalize hcc : (adF S j ys (n + 2) k).2 = cc at *
                  have HC := Lib.hid hcc
                  clear hcc
                  go_wp2_with fail
                  refine ⟨⟨k + 1, by omega, rfl, by rw [hs.out], Lib.hid ?_, Lib.hid (HB.out.setCell (p := ⟨g, j + k, none⟩) hg _), Lib.hid (HY.out.otherAt hne (j + k) _), Lib.hid (HN.out.put (j + k) _)⟩, by simp only [intOf]; omega⟩
                  rw [hs.out]
                  exact HR.out.store (j + k) _
              · obtain rfl : k = n + 2 + 1 := by omega
                go_wp2_with fail
                go_ret
                exact ⟨by rw [HDV.out]; rfl, ⟨_, HR.out, adF_limbs HSL.out j ys _ _, (adF_len S j ys _ _).trans hSn, fun i hi => (adF_far S j ys _ i _ hi).trans (HSF.out i hi), HMD.out⟩, HB.out, HY.out, HN.out⟩
        · have hf : decide (T - q * V1 < 1000000000) = false := decide_eq_false hE1
          clear hx
          go_wp2_with fail
          go_quiet (fail)
          have HR3 := Lib.hid (show RowN g L (wr.drewN nq) from HR.out)
          have HB3 := Lib.hid (pw_below_drewN HB.out nq)
          have HY3 : Hid (RI B1 (wr.drewN nq) (some ad) (n + 2) ys) := Lib.hid HY.out
          clear HY
          rcases HES.out with ⟨hz, hdiv, hmod⟩ | ⟨hz, hdiv, hq2, hmod⟩
          · have zz : ((sbF L j ys q (n + 2 + 1)).2 == 0) = true := by rw [hz]; rfl
            have HDV := Lib.hid hdiv
            have HMD := Lib.hid hmod
            clear hz hdiv hmod HES
            go_wp2_with (go_at_call 203; refine (subtract_walk g j (n + 2 + 1) c (some ad) (n + 2) e L ys q B0 w0 _ HR3.out hg HB3.out hj B1 HY3.out hne HL.out HYL.out hq0 (by omega) (by omega) (by omega)).mono ?_; rintro E w2 ⟨rfl, hR2, hB2, hY2, hN2⟩; have HN2 := Lib.hid ((HN.out.drewN nq).trans hN2); have HR2 := Lib.hid hR2; have HB2 := Lib.hid hB2; have HY2 := Lib.hid hY2; clear hR2 hB2 hY2 hN2)
            go_ret
            exact ⟨by rw [HDV.out]; rfl, ⟨_, HR2.out, sbF_limbs HL.out j HYL.out hq0 (by omega) _, sbF_len L j ys q _, fun i hi => sbF_far L j ys q i _ hi, HMD.out⟩, HB2.out, HY2.out, HN2.out⟩
          · have zz : ((sbF L j ys q (n + 2 + 1)).2 == 0) = false := by simpa using hz
            have HDV := Lib.hid hdiv
            have HMD := Lib.hid hmod
            clear hz hdiv hmod HES
            go_wp2_with (go_at_call 203; refine (subtract_walk g j (n + 2 + 1) c (some ad) (n + 2) e L ys q B0 w0 _ HR3.out hg HB3.out hj B1 HY3.out hne HL.out HYL.out hq0 (by omega) (by omega) (by omega)).mono ?_; rintro E w2 ⟨rfl, hR2, hB2, hY2, hN2⟩; have HN2 := Lib.hid ((HN.out.drewN nq).trans hN2); have HR2 := Lib.hid hR2; have HB2 := Lib.hid hB2; have HY2 := Lib.hid hY2; clear hR2 hB2 hY2 hN2)
            have hSl := sbF_limbs HL.out j HYL.out hq0 (by omega : q < 1000000000) (n + 2 + 1)
            have hSn := sbF_len L j ys q (n + 2 + 1)
            have HSF := Lib.hid (fun i hi => sbF_far L j ys q i (n + 2 + 1) hi)
            rw [HYn.out] at HMD
            generalize (sbF L j ys q (n + 2 + 1)).1 = S at *
            have HSL := Lib.hid hSl
            clear hSl
            have HR5 := HR2
            have HB5 := HB2
            have HY5 := HY2
            have HN5 := HN2
            clear HR2 HB2 HY2 HN2 HN HR3 HB3 HR HB y1 y2 u2 hp1 hp2
            go_loopw [9, 79] (fun cv iv wz => ∃ k : Nat, k ≤ n + 2 + 1 ∧ iv = .int .i64 k ∧ cv = .int .i64 (adF S j ys (n + 2) k).2 ∧ Hid (RowN g (adF S j ys (n + 2) k).1 wz) ∧ Hid (Below B0 w0 wz) ∧ Hid (RI B1 wz (some ad) (n + 2) ys) ∧ Hid (Only g w wz)) (fun _ i _ => (n + 2 + 1) - (intOf i).toNat)
            case atStart => exact ⟨0, by omega, rfl, rfl, HR5, HB5, HY5, HN5⟩
            case round =>
              obtain ⟨k, hk, rfl, rfl, HR, HB, HY, HN⟩ := hrel
              by_cases h0 : k < n + 2 + 1
              · have hcar := adF_carry HSL.out j HYL.out (n + 2) k
                have cW := HR.out.cell (j + k) (by rw [adF_len]; omega)
                rw [adF_far S j ys (n + 2) (j + k) k (by omega)] at cW
                have fW := HR.out.frozen (j + k)
                have hv := HSL.out (j + k)
                have hs : Hid (adF S j ys (n + 2) (k + 1) = ((adF S j ys (n + 2) k).1.set (j + k) (((adF S j ys (n + 2) k).2 + S[j + k]?.getD 0 + (if k < n + 2 then ys[k]?.getD 0 else 0)) % 1000000000), ((adF S j ys (n + 2) k).2 + S[j + k]?.getD 0 + (if k < n + 2 then ys[k]?.getD 0 else 0)) / 1000000000)) := by
                  show adF S j ys (n + 2) (k + 1) = _
                  simp only [adF, adF_far S j ys (n + 2) (j + k) k (by omega)]
                generalize S[j + k]?.getD 0 = v at *
                by_cases h2 : k < n + 2
                · obtain ⟨ad3, hea, hlt3, hc2⟩ := HY.out.2.2 (by omega)
                  cases hea
                  have cY := hc2 k h2
                  have hu := HYL.out k
                  clear hc2
                  rw [if_pos h2] at hs
                  generalize ys[k]?.getD 0 = u at *
                  generalize hcc : (adF S j ys (n + 2) k).2 = cc at *
                  have HC := Lib.hid hcc
                  clear hcc
                  go_wp2_with fail
                  refine ⟨⟨k + 1, by omega, rfl, by rw [hs.out], Lib.hid ?_, Lib.hid (HB.out.setCell (p := ⟨g, j + k, none⟩) hg _), Lib.hid (HY.out.otherAt hne (j + k) _), Lib.hid (HN.out.put (j + k) _)⟩, by simp only [intOf]; omega⟩
                  rw [hs.out]
                  exact HR.out.store (j + k) _
                · rw [if_neg h2, Int.add_zero] at hs
                  generalize hcc : (adF S j ys (n + 2) k).2 = cc at *
                  have HC := Lib.hid hcc
                  clear hcc
                  go_wp2_with fail
                  refine ⟨⟨k + 1, by omega, rfl, by rw [hs.out], Lib.hid ?_, Lib.hid (HB.out.setCell (p := ⟨g, j + k, none⟩) hg _), Lib.hid (HY.out.otherAt hne (j + k) _), Lib.hid (HN.out.put (j + k) _)⟩, by simp only [intOf]; omega⟩
                  rw [hs.out]
                  exact HR.out.store (j + k) _
              · obtain rfl : k = n + 2 + 1 := by omega
                go_wp2_with fail
                go_ret
                exact ⟨by rw [HDV.out]; rfl, ⟨_, HR.out, adF_limbs HSL.out j ys _ _, (adF_len S j ys _ _).trans hSn, fun i hi => (adF_far S j ys _ i _ hi).trans (HSF.out i hi), HMD.out⟩, HB.out, HY.out, HN.out⟩
  · have hm2 : 999999999 * V1 ≤ T := by
      have : 999999999 * V1 ≤ T / V1 * V1 := Int.mul_le_mul_of_nonneg_right (by omega) d1.1
      omega
    have HQ0 : Hid (999999999 * V1 ≤ T) := Lib.hid hm2
    clear hqv HS1
    go_wp2_with fail
    (try rw [r2])
    clear r1 r2 z1 z2 z3 z4 z5 z6 hm hm2
    go_loopw [7, 8] (fun qv rv wr => ∃ q : Int, qv = .int .i64 q ∧ rv = .int .i64 (T - q * V1) ∧ 0 ≤ q ∧ q ≤ 999999999 ∧ 0 ≤ T - q * V1 ∧ Hid (wval L j (n + 2 + 1) < (q + 1) * lval ys) ∧ Hid (RowN g L wr) ∧ Hid (Below B0 w0 wr) ∧ Hid (RI B1 wr (some ad) (n + 2) ys) ∧ Hid (Only g w wr)) (fun _ r _ => (1000000000 - intOf r).toNat)
    case atStart => exact ⟨999999999, rfl, rfl, by omega, by omega, by have := HQ0.out; omega, HS2, HR1, HB1, HY1, HN1⟩
    case round =>
      obtain ⟨q, rfl, rfl, hq0, hq1, hr0, HQ, HR, HB, HY, HN⟩ := hrel
      have hR1 := HR.out
      obtain ⟨_, hea, hlt2, hc⟩ := HY.out.2.2 (by omega)
      cases hea
      have y1 : wr.cell? ⟨ad.block, ad.off + (n + 1), none⟩ = some (.int .i64 V1) := by
        have := hc (n + 1) (by omega)
        rw [HV1.out] at this
        simpa [Addr.add] using this
      have y2 := hc n (by omega)
      rw [HV2.out] at y2
      have u2 := hR1.cell (j + n) (by omega)
      rw [HU2.out] at u2
      clear hR1 hc
      have hp1 := prod_bounds hq0 (by omega : q < 1000000000) d2.1 d2.2
      have hp2 := prod_bounds hq0 (by omega : q < 1000000000) d1.1 d1.2
      by_cases hE : T - q * V1 < 1000000000 ∧ (T - q * V1) * 1000000000 + U2 < q * V2
      · obtain ⟨hE1, hE2⟩ := hE
        have hdec := est_dec (base_pos n) HV3.out.1 HW1.out.2.1 hq0 hE2
        have HDC := Lib.hid hdec
        clear hdec
        have hsub : (q - 1) * V1 = q * V1 - V1 := by rw [Int.sub_mul, Int.one_mul]
        go_wp2_with fail
        go_quiet (fail)
        go_wp2_with fail
        have hq2 : 1 ≤ q := by
          by_cases h : q = 0
          · subst h; omega
          · omega
        exact ⟨⟨q - 1, rfl, congrArg (Value.int .i64) (by rw [hsub]; omega), by omega, by omega, by rw [hsub]; omega, Lib.hid (by rw [Int.sub_add_cancel]; exact HDC.out), Lib.hid (show RowN g L (wr.drewN nq) from HR.out), Lib.hid (pw_below_drewN HB.out nq), Lib.hid (show RI B1 (wr.drewN nq) (some ad) (n + 2) ys from HY.out), Lib.hid (HN.out.drewN nq)⟩, by simp only [intOf]; omega⟩
      · have hx : 1000000000 ≤ T - q * V1 ∨ q * V2 ≤ (T - q * V1) * 1000000000 + U2 := by omega
        have hok := est_ok (base_pos n) HV3.out.2.1 (Int.le_of_lt HV0.out) HW1.out.1 (wval_nonneg HL.out j _) hq0 hq1 hv1 d2 b2.1 hx
        have HES := Lib.hid (est_sub HL.out j (n + 2 + 1) HYL.out (by rw [HYn.out]; omega) hq0 (by omega : q < 1000000000) hj HV0.out (Int.lt_of_lt_of_le (lval_lt HYL.out) (by rw [HYn.out, base_succ (n + 2)]; have := base_pos (n + 2); omega)) hok HQ.out)
        clear hok
        by_cases hE1 : T - q * V1 < 1000000000
        · have hE2 : ¬ ((T - q * V1) * 1000000000 + U2 < q * V2) := fun h => hE ⟨hE1, h⟩
          go_wp2_with fail
          go_quiet (fail)
          have HR3 := Lib.hid (show RowN g L (wr.drewN nq) from HR.out)
          have HB3 := Lib.hid (pw_below_drewN HB.out nq)
          have HY3 : Hid (RI B1 (wr.drewN nq) (some ad) (n + 2) ys) := Lib.hid HY.out
          clear HY
          rcases HES.out with ⟨hz, hdiv, hmod⟩ | ⟨hz, hdiv, hq2, hmod⟩
          · have zz : ((sbF L j ys q (n + 2 + 1)).2 == 0) = true := by rw [hz]; rfl
            have HDV := Lib.hid hdiv
            have HMD := Lib.hid hmod
            clear hz hdiv hmod HES
            go_wp2_with (go_at_call 203; refine (subtract_walk g j (n + 2 + 1) c (some ad) (n + 2) e L ys q B0 w0 _ HR3.out hg HB3.out hj B1 HY3.out hne HL.out HYL.out hq0 (by omega) (by omega) (by omega)).mono ?_; rintro E w2 ⟨rfl, hR2, hB2, hY2, hN2⟩; have HN2 := Lib.hid ((HN.out.drewN nq).trans hN2); have HR2 := Lib.hid hR2; have HB2 := Lib.hid hB2; have HY2 := Lib.hid hY2; clear hR2 hB2 hY2 hN2)
            go_ret
            exact ⟨by rw [HDV.out]; rfl, ⟨_, HR2.out, sbF_limbs HL.out j HYL.out hq0 (by omega) _, sbF_len L j ys q _, fun i hi => sbF_far L j ys q i _ hi, HMD.out⟩, HB2.out, HY2.out, HN2.out⟩
          · have zz : ((sbF L j ys q (n + 2 + 1)).2 == 0) = false := by simpa using hz
            have HDV := Lib.hid hdiv
            have HMD := Lib.hid hmod
            clear hz hdiv hmod HES
            go_wp2_with (go_at_call 203; refine (subtract_walk g j (n + 2 + 1) c (some ad) (n + 2) e L ys q B0 w0 _ HR3.out hg HB3.out hj B1 HY3.out hne HL.out HYL.out hq0 (by omega) (by omega) (by omega)).mono ?_; rintro E w2 ⟨rfl, hR2, hB2, hY2, hN2⟩; have HN2 := Lib.hid ((HN.out.drewN nq).trans hN2); have HR2 := Lib.hid hR2; have HB2 := Lib.hid hB2; have HY2 := Lib.hid hY2; clear hR2 hB2 hY2 hN2)
            have hSl := sbF_limbs HL.out j HYL.out hq0 (by omega : q < 1000000000) (n + 2 + 1)
            have hSn := sbF_len L j ys q (n + 2 + 1)
            have HSF := Lib.hid (fun i hi => sbF_far L j ys q i (n + 2 + 1) hi)
            rw [HYn.out] at HMD
            generalize (sbF L j ys q (n + 2 + 1)).1 = S at *
            have HSL := Lib.hid hSl
            clear hSl
            have HR5 := HR2
            have HB5 := HB2
            have HY5 := HY2
            have HN5 := HN2
            clear HR2 HB2 HY2 HN2 HN HR3 HB3 HR HB y1 y2 u2 hp1 hp2
            go_loopw [9, 79] (fun cv iv wz => ∃ k : Nat, k ≤ n + 2 + 1 ∧ iv = .int .i64 k ∧ cv = .int .i64 (adF S j ys (n + 2) k).2 ∧ Hid (RowN g (adF S j ys (n + 2) k).1 wz) ∧ Hid (Below B0 w0 wz) ∧ Hid (RI B1 wz (some ad) (n + 2) ys) ∧ Hid (Only g w wz)) (fun _ i _ => (n + 2 + 1) - (intOf i).toNat)
            case atStart => exact ⟨0, by omega, rfl, rfl, HR5, HB5, HY5, HN5⟩
            case round =>
              obtain ⟨k, hk, rfl, rfl, HR, HB, HY, HN⟩ := hrel
              by_cases h0 : k < n + 2 + 1
              · have hcar := adF_carry HSL.out j HYL.out (n + 2) k
                have cW := HR.out.cell (j + k) (by rw [adF_len]; omega)
                rw [adF_far S j ys (n + 2) (j + k) k (by omega)] at cW
                have fW := HR.out.frozen (j + k)
                have hv := HSL.out (j + k)
                have hs : Hid (adF S j ys (n + 2) (k + 1) = ((adF S j ys (n + 2) k).1.set (j + k) (((adF S j ys (n + 2) k).2 + S[j + k]?.getD 0 + (if k < n + 2 then ys[k]?.getD 0 else 0)) % 1000000000), ((adF S j ys (n + 2) k).2 + S[j + k]?.getD 0 + (if k < n + 2 then ys[k]?.getD 0 else 0)) / 1000000000)) := by
                  show adF S j ys (n + 2) (k + 1) = _
                  simp only [adF, adF_far S j ys (n + 2) (j + k) k (by omega)]
                generalize S[j + k]?.getD 0 = v at *
                by_cases h2 : k < n + 2
                · obtain ⟨ad3, hea, hlt3, hc2⟩ := HY.out.2.2 (by omega)
                  cases hea
                  have cY := hc2 k h2
                  have hu := HYL.out k
                  clear hc2
                  rw [if_pos h2] at hs
                  generalize ys[k]?.getD 0 = u at *
                  generalize hcc : (adF S j ys (n + 2) k).2 = cc at *
                  have HC := Lib.hid hcc
                  clear hcc
                  go_wp2_with fail
                  refine ⟨⟨k + 1, by omega, rfl, by rw [hs.out], Lib.hid ?_, Lib.hid (HB.out.setCell (p := ⟨g, j + k, none⟩) hg _), Lib.hid (HY.out.otherAt hne (j + k) _), Lib.hid (HN.out.put (j + k) _)⟩, by simp only [intOf]; omega⟩
                  rw [hs.out]
                  exact HR.out.store (j + k) _
                · rw [if_neg h2, Int.add_zero] at hs
                  generalize hcc : (adF S j ys (n + 2) k).2 = cc at *
                  have HC := Lib.hid hcc
                  clear hcc
                  go_wp2_with fail
                  refine ⟨⟨k + 1, by omega, rfl, by rw [hs.out], Lib.hid ?_, Lib.hid (HB.out.setCell (p := ⟨g, j + k, none⟩) hg _), Lib.hid (HY.out.otherAt hne (j + k) _), Lib.hid (HN.out.put (j + k) _)⟩, by simp only [intOf]; omega⟩
                  rw [hs.out]
                  exact HR.out.store (j + k) _
              · obtain rfl : k = n + 2 + 1 := by omega
                go_wp2_with fail
                go_ret
                exact ⟨by rw [HDV.out]; rfl, ⟨_, HR.out, adF_limbs HSL.out j ys _ _, (adF_len S j ys _ _).trans hSn, fun i hi => (adF_far S j ys _ i _ hi).trans (HSF.out i hi), HMD.out⟩, HB.out, HY.out, HN.out⟩
        · have hf : decide (T - q * V1 < 1000000000) = false := decide_eq_false hE1
          clear hx
          go_wp2_with fail
          go_quiet (fail)
          have HR3 := Lib.hid (show RowN g L (wr.drewN nq) from HR.out)
          have HB3 := Lib.hid (pw_below_drewN HB.out nq)
          have HY3 : Hid (RI B1 (wr.drewN nq) (some ad) (n + 2) ys) := Lib.hid HY.out
          clear HY
          rcases HES.out with ⟨hz, hdiv, hmod⟩ | ⟨hz, hdiv, hq2, hmod⟩
          · have zz : ((sbF L j ys q (n + 2 + 1)).2 == 0) = true := by rw [hz]; rfl
            have HDV := Lib.hid hdiv
            have HMD := Lib.hid hmod
            clear hz hdiv hmod HES
            go_wp2_with (go_at_call 203; refine (subtract_walk g j (n + 2 + 1) c (some ad) (n + 2) e L ys q B0 w0 _ HR3.out hg HB3.out hj B1 HY3.out hne HL.out HYL.out hq0 (by omega) (by omega) (by omega)).mono ?_; rintro E w2 ⟨rfl, hR2, hB2, hY2, hN2⟩; have HN2 := Lib.hid ((HN.out.drewN nq).trans hN2); have HR2 := Lib.hid hR2; have HB2 := Lib.hid hB2; have HY2 := Lib.hid hY2; clear hR2 hB2 hY2 hN2)
            go_ret
            exact ⟨by rw [HDV.out]; rfl, ⟨_, HR2.out, sbF_limbs HL.out j HYL.out hq0 (by omega) _, sbF_len L j ys q _, fun i hi => sbF_far L j ys q i _ hi, HMD.out⟩, HB2.out, HY2.out, HN2.out⟩
          · have zz : ((sbF L j ys q (n + 2 + 1)).2 == 0) = false := by simpa using hz
            have HDV := Lib.hid hdiv
            have HMD := Lib.hid hmod
            clear hz hdiv hmod HES
            go_wp2_with (go_at_call 203; refine (subtract_walk g j (n + 2 + 1) c (some ad) (n + 2) e L ys q B0 w0 _ HR3.out hg HB3.out hj B1 HY3.out hne HL.out HYL.out hq0 (by omega) (by omega) (by omega)).mono ?_; rintro E w2 ⟨rfl, hR2, hB2, hY2, hN2⟩; have HN2 := Lib.hid ((HN.out.drewN nq).trans hN2); have HR2 := Lib.hid hR2; have HB2 := Lib.hid hB2; have HY2 := Lib.hid hY2; clear hR2 hB2 hY2 hN2)
            have hSl := sbF_limbs HL.out j HYL.out hq0 (by omega : q < 1000000000) (n + 2 + 1)
            have hSn := sbF_len L j ys q (n + 2 + 1)
            have HSF := Lib.hid (fun i hi => sbF_far L j ys q i (n + 2 + 1) hi)
            rw [HYn.out] at HMD
            generalize (sbF L j ys q (n + 2 + 1)).1 = S at *
            have HSL := Lib.hid hSl
            clear hSl
            have HR5 := HR2
            have HB5 := HB2
            have HY5 := HY2
            have HN5 := HN2
            clear HR2 HB2 HY2 HN2 HN HR3 HB3 HR HB y1 y2 u2 hp1 hp2
            go_loopw [9, 79] (fun cv iv wz => ∃ k : Nat, k ≤ n + 2 + 1 ∧ iv = .int .i64 k ∧ cv = .int .i64 (adF S j ys (n + 2) k).2 ∧ Hid (RowN g (adF S j ys (n + 2) k).1 wz) ∧ Hid (Below B0 w0 wz) ∧ Hid (RI B1 wz (some ad) (n + 2) ys) ∧ Hid (Only g w wz)) (fun _ i _ => (n + 2 + 1) - (intOf i).toNat)
            case atStart => exact ⟨0, by omega, rfl, rfl, HR5, HB5, HY5, HN5⟩
            case round =>
              obtain ⟨k, hk, rfl, rfl, HR, HB, HY, HN⟩ := hrel
              by_cases h0 : k < n + 2 + 1
              · have hcar := adF_carry HSL.out j HYL.out (n + 2) k
                have cW := HR.out.cell (j + k) (by rw [adF_len]; omega)
                rw [adF_far S j ys (n + 2) (j + k) k (by omega)] at cW
                have fW := HR.out.frozen (j + k)
                have hv := HSL.out (j + k)
                have hs : Hid (adF S j ys (n + 2) (k + 1) = ((adF S j ys (n + 2) k).1.set (j + k) (((adF S j ys (n + 2) k).2 + S[j + k]?.getD 0 + (if k < n + 2 then ys[k]?.getD 0 else 0)) % 1000000000), ((adF S j ys (n + 2) k).2 + S[j + k]?.getD 0 + (if k < n + 2 then ys[k]?.getD 0 else 0)) / 1000000000)) := by
                  show adF S j ys (n + 2) (k + 1) = _
                  simp only [adF, adF_far S j ys (n + 2) (j + k) k (by omega)]
                generalize S[j + k]?.getD 0 = v at *
                by_cases h2 : k < n + 2
                · obtain ⟨ad3, hea, hlt3, hc2⟩ := HY.out.2.2 (by omega)
                  cases hea
                  have cY := hc2 k h2
                  have hu := HYL.out k
                  clear hc2
                  rw [if_pos h2] at hs
                  generalize ys[k]?.getD 0 = u at *
                  generalize hcc : (adF S j ys (n + 2) k).2 = cc at *
                  have HC := Lib.hid hcc
                  clear hcc
                  go_wp2_with fail
                  refine ⟨⟨k + 1, by omega, rfl, by rw [hs.out], Lib.hid ?_, Lib.hid (HB.out.setCell (p := ⟨g, j + k, none⟩) hg _), Lib.hid (HY.out.otherAt hne (j + k) _), Lib.hid (HN.out.put (j + k) _)⟩, by simp only [intOf]; omega⟩
                  rw [hs.out]
                  exact HR.out.store (j + k) _
                · rw [if_neg h2, Int.add_zero] at hs
                  generalize hcc : (adF S j ys (n + 2) k).2 = cc at *
                  have HC := Lib.hid hcc
                  clear hcc
                  go_wp2_with fail
                  refine ⟨⟨k + 1, by omega, rfl, by rw [hs.out], Lib.hid ?_, Lib.hid (HB.out.setCell (p := ⟨g, j + k, none⟩) hg _), Lib.hid (HY.out.otherAt hne (j + k) _), Lib.hid (HN.out.put (j + k) _)⟩, by simp only [intOf]; omega⟩
                  rw [hs.out]
                  exact HR.out.store (j + k) _
              · obtain rfl : k = n + 2 + 1 := by omega
                go_wp2_with fail
                go_ret
                exact ⟨by rw [HDV.out]; rfl, ⟨_, HR.out, adF_limbs HSL.out j ys _ _, (adF_len S j ys _ _).trans hSn, fun i hi => (adF_far S j ys _ i _ hi).trans (HSF.out i hi), HMD.out⟩, HB.out, HY.out, HN.out⟩
end Go.Proofs.YtignanmmgaldeaaGreatDoor
namespace Go.Proofs.YtignanmmgaldeaaGreatDoor
open Go.RowKit Go.Shelf Go.Proofs.YtignanmmgaldeaaGreatDoorW.PrintWords
/-- The scaled quotient and remainder are those of the numbers, the remainder scaled. -/
theorem div_end {X Y s Q R : Int} (hs : 1 ≤ s) (hY : 0 < Y) (h : R + Y * s * Q = X * s) (h0 : 0 ≤ R) (h1 : R < Y * s) : X / Y = Q ∧ X % Y = R / s := by
  have e : R = (X - Y * Q) * s := by
    rw [Int.sub_mul, Int.mul_assoc Y Q s, Int.mul_comm Q s, ← Int.mul_assoc]
    omega
  have e2 : R / s = X - Y * Q := by rw [e, Int.mul_ediv_cancel _ (by omega)]
  have a0 : 0 ≤ X - Y * Q := by
    by_cases h : X - Y * Q ≤ -1
    · have : (X - Y * Q) * s ≤ -1 * s := Int.mul_le_mul_of_nonneg_right h (by omega)
      omega
    · omega
  have a1 : X - Y * Q < Y := by
    by_cases h : Y ≤ X - Y * Q
    · have : Y * s ≤ (X - Y * Q) * s := Int.mul_le_mul_of_nonneg_right h (by omega)
      omega
    · omega
  rw [e2]
  exact est_fin hY (by omega) a0 a1
/-- A window one place lower. -/
theorem wval_down (L : List Int) (j n : Nat) : wval L j (n + 1) = L[j]?.getD 0 + 1000000000 * wval L (j + 1) n := by
  induction n with
  | zero => simp [wval]
  | succ k ih =>
    rw [wval, ih, wval, show j + 1 + k = j + (k + 1) from by omega, Int.mul_add, base_succ]
    have : 1000000000 * (L[j + (k + 1)]?.getD 0 * 1000000000 ^ k) = L[j + (k + 1)]?.getD 0 * (1000000000 * 1000000000 ^ k) := by
      rw [← Int.mul_assoc, Int.mul_comm 1000000000 (L[j + (k + 1)]?.getD 0), Int.mul_assoc]
    omega
/-- The next window is less than the base times the divisor. -/
theorem win_lt {L : List Int} (hL : limbs L) (j n : Nat) {V : Int} (h : wval L (j + 1) n < V) : wval L j (n + 1) < 1000000000 * V := by
  have := hL j
  rw [wval_down]
  omega
/-- A change within a window changes the whole by as much, scaled. -/
theorem win_change {L M : List Int} (j k N : Nat) (hN : j + k ≤ N) (h : ∀ i, i < j ∨ j + k ≤ i → M[i]? = L[i]?) : pval M N - pval L N = (wval M j k - wval L j k) * 1000000000 ^ j := by
  obtain ⟨d, rfl⟩ : ∃ d, N = j + k + d := ⟨N - (j + k), by omega⟩
  rw [pval_split M (j + k) d, pval_split L (j + k) d, pval_split M j k, pval_split L j k, wval_congr (M := L) (j + k) d (fun i hi => by rw [h _ (by omega)]), pval_congr (ys := L) j (fun i hi => by rw [h _ (by omega)]), Int.sub_mul]
  omega
/-- A window whose value has n limbs has nothing in its last place. -/
theorem win_top {L : List Int} (hL : limbs L) (j n : Nat) (h : wval L j (n + 1) < 1000000000 ^ n) : L[j + n]?.getD 0 = 0 ∧ wval L j n = wval L j (n + 1) := by
  have h0 := wval_nonneg hL j n
  have h1 := (hL (j + n)).1
  have e : wval L j (n + 1) = wval L j n + L[j + n]?.getD 0 * 1000000000 ^ n := rfl
  by_cases hz : L[j + n]?.getD 0 = 0
  · rw [hz, Int.zero_mul] at e
    exact ⟨hz, by omega⟩
  · have : 1 * (1000000000 : Int) ^ n ≤ L[j + n]?.getD 0 * 1000000000 ^ n := Int.mul_le_mul_of_nonneg_right (by omega) (Int.le_of_lt (base_pos n))
    omega
/-- The quotient's limb set at a place that was empty. -/
theorem out_step (O : List Int) (j : Nat) (q : Int) (hj : j < O.length) (h0 : O[j]?.getD 0 = 0) : lval (O.set j q) = lval O + q * 1000000000 ^ j := by
  have := pval_set_any O j q hj O.length hj
  rw [h0, Int.sub_zero] at this
  rw [lval, List.length_set]
  exact this
end Go.Proofs.YtignanmmgaldeaaGreatDoor
namespace Go.Proofs.YtignanmmgaldeaaGreatDoor
open Go.RowKit Go.Shelf Go.Proofs.YtignanmmgaldeaaGreatDoorW.PrintWords Go.Proofs.YtignanmmgaldeaaGreatDoorW.PrintLast Go.Proofs.YtignanmmgaldeaaGreatDoorW.PrintMore
theorem own_of_rowd {g k base : Nat} {R : List Int} {w : World} (h : Rowd g R w) (hb : base ≤ g) (hk : k ≤ R.length) (hR : R.length ≤ 2000000) : w.ownsRow base 3 1 (.slice (some ⟨g, 0, none⟩) k R.length) (R.take k).length (nums .i64 (R.take k)) := by
  have e : (R.take k).length = k := by rw [List.length_take]; omega
  refine ⟨by simp [nums], .inr ⟨g, R.length, (nums .i64 R).toArray, by rw [e], hb, h, by omega, by simp only [maxLen]; omega, by simp [nums], ?_⟩⟩
  rw [e]
  simp [nums, List.map_take]
theorem base_mono2 {a b : Nat} (h : a ≤ b) : (1000000000 : Int) ^ a ≤ 1000000000 ^ b := by
  obtain ⟨k, rfl⟩ : ∃ k, b = a + k := ⟨b - a, by omega⟩
  rw [Int.pow_add]
  have h1 := base_pos a
  have h2 := base_pos k
  have h3 : (1000000000 : Int) ^ a * 1 ≤ 1000000000 ^ a * 1000000000 ^ k := Int.mul_le_mul_of_nonneg_left (by omega) (by omega)
  omega
theorem topped_ge2 {xs : List Int} (hx : limbs xs) (ht : topped xs) (h : xs.length ≠ 0) : (1000000000 : Int) ^ (xs.length - 1) ≤ lval xs := by
  have ht : xs[xs.length - 1]?.getD 0 ≠ 0 := by rcases ht with h' | h'; exact absurd h' h; exact h'
  have h0 := pval_nonneg hx (xs.length - 1)
  have h1 := (hx (xs.length - 1)).1
  have e : lval xs = pval xs (xs.length - 1) + xs[xs.length - 1]?.getD 0 * 1000000000 ^ (xs.length - 1) := by
    rw [lval]
    obtain ⟨k, hk⟩ : ∃ k, xs.length = k + 1 := ⟨xs.length - 1, by omega⟩
    rw [hk]; rfl
  have h2 : 1 * (1000000000 : Int) ^ (xs.length - 1) ≤ xs[xs.length - 1]?.getD 0 * 1000000000 ^ (xs.length - 1) := Int.mul_le_mul_of_nonneg_right (by omega) (Int.le_of_lt (base_pos _))
  omega
theorem last0_lt {l : List Int} (hl : limbs l) (h : l[l.length - 1]?.getD 0 = 0) (h1 : 1 ≤ l.length) : lval l < 1000000000 ^ (l.length - 1) := by
  have h0 := pval_lt hl (l.length - 1)
  have e : lval l = pval l (l.length - 1) + l[l.length - 1]?.getD 0 * 1000000000 ^ (l.length - 1) := by
    rw [lval]
    obtain ⟨k, hk⟩ : ∃ k, l.length = k + 1 := ⟨l.length - 1, by omega⟩
    rw [hk]; rfl
  rw [h, Int.zero_mul] at e
  omega
/-- How many limbs the scaled divisor has. -/
theorem scaled_len {X D : Int} {l v : List Int} (hl : limbs l) (hz : l[l.length - 1]?.getD 0 = 0) (h1 : 1 ≤ l.length) (hv : limbs v) (ht : topped v) (hvl : lval v = D) (hll : lval l = X) (hDX : D ≤ X) {m : Nat} (hD : (1000000000 : Int) ^ (m + 1) ≤ D) : m + 2 ≤ v.length ∧ v.length + 1 ≤ l.length := by
  have a1 : m + 2 ≤ v.length := by
    by_cases h : v.length ≤ m + 1
    · have := base_mono2 h
      have := lval_lt hv
      omega
    · omega
  have a2 := topped_ge2 hv ht (by omega)
  have a3 := last0_lt hl hz h1
  refine ⟨a1, ?_⟩
  by_cases h : l.length - 1 ≤ v.length - 1
  · have := base_mono2 h
    omega
  · omega
theorem tlen_zero (M : List Int) (N : Nat) (h : ∀ i, N ≤ i → M[i]?.getD 0 = 0) : ∀ d, tlen M (N + d) ≤ N
  | 0 => tlen_le M N
  | d + 1 => by
    rw [← Nat.add_assoc, tlen, if_pos (h (N + d) (by omega))]
    exact tlen_zero M N h d
theorem pval_zero (M : List Int) (N : Nat) (h : ∀ i, N ≤ i → M[i]?.getD 0 = 0) : ∀ d, pval M (N + d) = pval M N
  | 0 => rfl
  | d + 1 => by rw [← Nat.add_assoc, pval, h (N + d) (by omega), pval_zero M N h d]; omega
theorem own_kept {g n cap base : Nat} {xs : List Value} {w w1 : World} (h : w.ownsRow base 3 1 (.slice (some ⟨g, 0, none⟩) n cap) n xs) (hw : w1.heap[g]? = w.heap[g]?) : w1.ownsRow base 3 1 (.slice (some ⟨g, 0, none⟩) n cap) n xs := by
  refine ⟨h.1, ?_⟩
  rcases h.2 with h | ⟨g', cap', cur, he, hb, hh, h1, h2, h3, h4⟩
  · exact .inl h
  · cases he
    exact .inr ⟨g, cap, cur, rfl, hb, hw.trans hh, h1, h2, h3, h4⟩
theorem lval_snoc0 (l : List Int) : lval (l ++ [0]) = lval l := by
  have e : (l ++ [0]).length = l.length + 1 := by simp
  rw [lval, e, pval, pval_congr (ys := l) l.length (fun i hi => by rw [List.getElem?_append_left hi])]
  simp [lval]
theorem limbs_snoc0 {l : List Int} (h : limbs l) : limbs (l ++ [0]) := fun i => by
  rw [List.getElem?_append]
  split
  · exact h i
  · cases hi : i - l.length with
    | zero => simp
    | succ k => simp
set_option maxRecDepth 100000 in
set_option maxHeartbeats 4000000 in
theorem divide_long (A B : Option Addr) (n m c e : Nat) (xs ys : List Int) (w : World) (hx : RI w.heap.size w A n xs) (hy : RI w.heap.size w B (m + 2) ys) (hxl : limbs xs) (hyl : limbs ys) (hyt : topped ys) (hn : n ≤ 100000) (hm : m + 2 ≤ 100000) (h : ¬ ordL xs ys < 0) (hlt : lval ys ≤ lval xs) :
    Calls Tryz.prog 90 #[.slice A n c, .slice B (m + 2) e] w fun E w' => ∃ A' n' c' B' m' c2, E = .returned (.tuple #[.slice A' n' c', .slice B' m' c2]) ∧ Mag w' (.slice A' n' c') (lval xs / lval ys) (n + 1) ∧ Mag w' (.slice B' m' c2) (lval xs % lval ys) (n + 1) ∧ Below w.heap.size w w' := by
  have HO := Lib.hid (order_any A B n (m + 2) c e xs ys w hx hy)
  have h1 : decide (ordL xs ys < 0) = false := by simpa using h
  generalize ordL xs ys = o at HO h1
  obtain ⟨ad, rfl, hb, hc⟩ := hy.2.2 (by omega)
  have hcell := hc (m + 1) (by omega)
  have hcell' : w.cell? ⟨ad.block, ad.off + (m + 1), none⟩ = some (.int .i64 (ys[m + 1]?.getD 0)) := by simpa [Addr.add] using hcell
  have HC := Lib.hid hcell'
  have hY := hyl (m + 1)
  have hY1 : 1 ≤ ys[m + 1]?.getD 0 := by
    rcases hyt with h | h
    · have := hy.1; omega
    · rw [hy.1, show m + 2 - 1 = m + 1 from rfl] at h
      omega
  have HX := Lib.hid hx
  have HY := Lib.hid hy
  have HXL := Lib.hid hxl
  have HYL := Lib.hid hyl
  have HYT := Lib.hid hyt
  have HLT := Lib.hid hlt
  clear hx hy hxl hyl hyt hlt hc hcell hcell'
  generalize hYe : ys[m + 1]?.getD 0 = Y at *
  have HYe := Lib.hid hYe
  clear hYe
  have z1 : (Y + 1 == 0) = false := by rw [beq_eq_false_iff_ne]; omega
  have z2 : Y + 1 ≠ 0 := by omega
  have z3 : (1000000000 : Int).tdiv (Y + 1) = 1000000000 / (Y + 1) := Int.tdiv_eq_ediv_of_nonneg (by omega)
  have z4 : 1 ≤ (1000000000 : Int) / (Y + 1) := by
    have := Int.lt_ediv_add_one_mul_self 1000000000 (b := Y + 1) (by omega)
    by_cases h : (1000000000 : Int) / (Y + 1) ≤ 0
    · have h2 : ((1000000000 : Int) / (Y + 1) + 1) * (Y + 1) ≤ 1 * (Y + 1) := Int.mul_le_mul_of_nonneg_right (by omega) (by omega)
      omega
    · omega
  have z5 : (1000000000 : Int) / (Y + 1) ≤ 1000000000 := Int.ediv_le_self _ (by omega)
  have z6 : (1000000000 : Int) / (Y + 1) * (Y + 1) ≤ 1000000000 := Int.ediv_mul_le _ z2
  have z7 : IntKind.i64.wrap ((1000000000 : Int) / (Y + 1)) = 1000000000 / (Y + 1) := by rw [IntKind.wrap_i64]; omega
  go_enter Tryz.func90, Tryz.ntmps90
  go_wp2_with (go_at_call 145; refine HO.out.mono ?_; rintro e w1 ⟨rfl, hB⟩; have hz1 := hB.size; have cw := (hB.cell (p := ⟨ad.block, ad.off + (m + 1), none⟩) hb).trans HC.out; have HB := Lib.hid hB; clear hB HO)
  have z8 : (1000000000 : Int) / (Y + 1) * 2 ≤ 1000000000 := by
    have : (1000000000 : Int) / (Y + 1) * 2 ≤ (1000000000 : Int) / (Y + 1) * (Y + 1) := Int.mul_le_mul_of_nonneg_left (by omega) (by omega)
    omega
  generalize hs : (1000000000 : Int) / (Y + 1) = s at *
  have hBa : Below w1.heap.size w1 (w1.alloc (.cells #[.int .i64 s] 3)) := (Below.refl _ w1).alloc (Nat.le_refl _) _
  have hsz : (w1.alloc (.cells #[.int .i64 s] 3)).heap.size = w1.heap.size + 1 := by simp
  have hsb : (w1.alloc (.cells #[.int .i64 s] 3)).heap[w1.heap.size]? = some (.cells #[.int .i64 s] 3) := World.alloc_heap_new w1 _
  have hXa := (HX.out.below (HB.out.trans (hBa.mono hz1))).mono (by rw [hsz]; omega : w.heap.size ≤ (w1.alloc (.cells #[.int .i64 s] 3)).heap.size)
  have hYa := (HY.out.below (HB.out.trans (hBa.mono hz1))).mono (by rw [hsz]; omega : w.heap.size ≤ (w1.alloc (.cells #[.int .i64 s] 3)).heap.size)
  have HBW := Lib.hid (HB.out.trans (hBa.mono hz1))
  obtain ⟨W2, hW2⟩ : ∃ W2, w1.alloc (.cells #[.int .i64 s] 3) = W2 := ⟨_, rfl⟩
  rw [hW2] at hsz hsb hXa hYa HBW ⊢
  clear hW2 hBa
  have HSC : Hid (∀ v : World, Below W2.heap.size W2 v → RI v.heap.size v (some ⟨w1.heap.size, 0, none⟩) 1 [s]) := Lib.hid fun v hv => by
    have hb := (hv.block w1.heap.size (by omega)).trans hsb
    have hl := (Array.getElem?_eq_some_iff.1 hb).1
    refine ⟨rfl, by omega, fun _ => ⟨_, rfl, hl, fun j hj => ?_⟩⟩
    obtain rfl : j = 0 := by omega
    simpa [Addr.add] using cellA hb 0 _ rfl
  have hsl : limbs [s] := fun i => by
    match i with
    | 0 => simp; omega
    | i + 1 => simp
  have HSL := Lib.hid hsl
  have HXa := Lib.hid hXa
  have HYa := Lib.hid hYa
  have HSZ := Lib.hid hsz
  clear hsl hXa hYa hsz hsb cw HC HX HY z1 z2 z3 z7 hb
  refine (times_own A (some ⟨w1.heap.size, 0, none⟩) n 1 c 1 xs [s] W2 HXa.out (HSC.out _ (Below.refl _ _)) HXL.out HSL.out (by omega) (by omega)).mono ?_
  rintro E w2 ⟨rfl, hR2, hB2⟩
  have hl2 : (rowF xs [s] n).length = n + 1 := by rw [rowF_len, HXa.out.1]; rfl
  have hv2 : lval (rowF xs [s] n) = lval xs * lval [s] := by have := rowF_all xs [s]; rwa [HXa.out.1] at this
  have hk2 := rowF_ok HXL.out HSL.out n
  generalize rowF xs [s] n = R at *
  have ht2 := tlen_le R (n + 1)
  have HOU := Lib.hid (own_of_rowd (base := W2.heap.size) hR2 (Nat.le_refl _) (k := tlen R (n + 1)) (by omega) (by omega))
  rw [hl2] at HOU
  have HB2 := Lib.hid hB2
  have HLR := Lib.hid hl2
  have HKR := Lib.hid hk2
  have HVR := Lib.hid hv2
  have hz2 := hB2.size
  have htl : (R.take (tlen R (n + 1))).length = tlen R (n + 1) := by rw [List.length_take]; omega
  clear hl2 hk2 hv2 hB2 hR2
  go_wp2_with ((with_reducible refine gate_builtin (b := .append) (xs := #[.tmp 47, .tmp 48]) rfl ?_); at_builtin; go_loud (refine print_append_num (w0 := W2) (W := w2) W2.heap.size rfl _ _ 79 3 .i64 8 rfl Tryz.underlying79 info_int (by decide) (.slice (some ⟨W2.heap.size, 0, none⟩) (tlen R (n + 1)) (n + 1)) (R.take (tlen R (n + 1))) 0 rfl rfl HOU.out HB2.out hz2 (by rw [htl]; omega) ?_); intro v1 w3 hown hB3 hg3 hat3; obtain ⟨g, cap, rfl, hgb, hgl⟩ := hown.form (by simp); have HO3 := Lib.hid hown; have HB3 := Lib.hid hB3; clear hown hB3 hg3 hat3)
  have hz3 := HB3.out.size
  refine (times_own (some ad) (some ⟨w1.heap.size, 0, none⟩) (m + 2) 1 e 1 ys [s] w3 ((HYa.out.below HB3.out).mono hz3) (HSC.out _ HB3.out) HYL.out HSL.out (by omega) (by omega)).mono ?_
  rintro E w4 ⟨rfl, hR4, hB4⟩
  have hl4 : (rowF ys [s] (m + 2)).length = m + 2 + 1 := by rw [rowF_len, HYa.out.1]; rfl
  have hv4 : lval (rowF ys [s] (m + 2)) = lval ys * lval [s] := by have := rowF_all ys [s]; rwa [HYa.out.1] at this
  have hk4 := rowF_ok HYL.out HSL.out (m + 2)
  generalize rowF ys [s] (m + 2) = V at *
  have HR4 := Lib.hid hR4
  have HB4 := Lib.hid hB4
  have HL4 := Lib.hid hl4
  have HK4 := Lib.hid hk4
  have HV4 := Lib.hid hv4
  have hz4 := hB4.size
  clear hl4 hk4 hv4 hB4 hR4
  have hlk : limbs (R.take (tlen R (n + 1)) ++ [0]) := limbs_snoc0 (limbs_take HKR.out _)
  have hvk : lval (R.take (tlen R (n + 1)) ++ [0]) = lval xs * lval [s] := by
    rw [lval_snoc0, lval, htl, pval_take, pval_tlen, ← HVR.out, lval, HLR.out]
  have hlz : (R.take (tlen R (n + 1)) ++ [0]).length = tlen R (n + 1) + 1 := by simp only [List.length_append, htl, List.length_cons, List.length_nil]
  have hol := own_kept HO3.out (HB4.out.block g hgl)
  have HOL := Lib.hid hol
  have HLK := Lib.hid hlk
  have HVK := Lib.hid hvk
  have HLZ : Hid ((R.take (tlen R (n + 1)) ++ [0])[(R.take (tlen R (n + 1)) ++ [0]).length - 1]?.getD 0 = 0) := Lib.hid (by rw [hlz, Nat.add_sub_cancel, List.getElem?_append_right (by omega), htl]; simp)
  generalize R.take (tlen R (n + 1)) ++ [0] = l at *
  have HBT := Lib.hid (HB3.out.trans (HB4.out.mono hz3))
  clear hol hlk hvk HO3 HB3
  go_wp2_with fail
  go_loopw [9] (fun uv wr => ∃ (g cap : Nat) (l : List Int), uv = .slice (some ⟨g, 0, none⟩) l.length cap ∧ 1 ≤ l.length ∧ l.length ≤ n + 2 ∧ g ≠ w3.heap.size ∧ Hid (wr.ownsRow W2.heap.size 3 1 (.slice (some ⟨g, 0, none⟩) l.length cap) l.length (nums .i64 l)) ∧ Hid (lval l = lval xs * lval [s]) ∧ Hid (limbs l) ∧ Hid (l[l.length - 1]?.getD 0 = 0) ∧ Hid (Rowd w3.heap.size V wr) ∧ Hid (Below W2.heap.size W2 wr)) (fun uv _ => n + 1 - sliceLen uv)
  case atStart => exact ⟨g, cap, l, by rw [hlz], by omega, by omega, by omega, HOL, HVK, HLK, HLZ, HR4, HBT⟩
  case round =>
    obtain ⟨g, cap, l, rfl, hl1, hl2, hgw, HO, HV, HL, HZ, HRV, HB⟩ := hrel
    by_cases hle : l.length ≤ n
    · have hzr := HB.out.size
      have hrl := HRV.out.lt
      go_wp2_with ((with_reducible refine gate_builtin (b := .append) (xs := #[.tmp 58, .tmp 59]) rfl ?_); at_builtin; go_loud (refine print_append_num (w0 := W2) (W := wr) W2.heap.size rfl _ _ 79 3 .i64 8 rfl Tryz.underlying79 info_int (by decide) (.slice (some ⟨g, 0, none⟩) l.length cap) l 0 rfl rfl HO.out HB.out hzr (by omega) ?_); intro v1 w5 hown hB5 hg5 hat5; obtain ⟨g5, cap5, rfl, hgb5, hgl5⟩ := hown.form (by simp); have HO5 := Lib.hid hown; have HB5 := Lib.hid hB5; have HG5 := Lib.hid hg5; have HAT5 := Lib.hid hat5; clear hown hB5 hg5 hat5)
      have hll : (l ++ [0]).length = l.length + 1 := by simp
      refine ⟨⟨g5, cap5, l ++ [0], by rw [hll], by omega, by omega, ?_, HO5, Lib.hid (by rw [lval_snoc0]; exact HV.out), Lib.hid (limbs_snoc0 HL.out), Lib.hid (by rw [hll, Nat.add_sub_cancel, List.getElem?_append_right (Nat.le_refl _)]; simp), Lib.hid ?_, HB5⟩, by simp only [sliceLen, hll]; omega⟩
      · rcases HAT5.out with h | ⟨b, h, hb⟩
        · cases h; exact hgw
        · have e : g5 = b := by cases h; rfl
          subst e
          omega
      · exact (HG5.out.block w3.heap.size hrl (fun e => by cases e; exact hgw rfl)).trans HRV.out
    · have hsv : lval [s] = s := by simp [lval, pval]
      have hV' : limbs (tl V) ∧ topped (tl V) ∧ lval (tl V) = lval ys * s ∧ (tl V).length = tlen V (m + 2 + 1) := ⟨tl_limbs HK4.out, tl_topped V, by rw [tl_val, HV4.out, hsv], by rw [tl_len, HL4.out]⟩
      have hD : (1000000000 : Int) ^ (m + 1) ≤ lval ys * s := by
        have h1 := topped_ge2 HYL.out HYT.out (by rw [HYa.out.1]; omega)
        rw [HYa.out.1] at h1
        have h2 : lval ys * 1 ≤ lval ys * s := Int.mul_le_mul_of_nonneg_left z4 (lval_nonneg HYL.out)
        have e : m + 2 - 1 = m + 1 := by omega
        rw [e] at h1
        omega
      have hXY : lval ys * s ≤ lval xs * s := Int.mul_le_mul_of_nonneg_right HLT.out (by omega)
      have hlen := scaled_len HL.out HZ.out hl1 hV'.1 hV'.2.1 hV'.2.2.1 (by rw [HV.out, hsv]) hXY hD
      rw [hV'.2.2.2] at hlen
      have HVV := Lib.hid hV'
      have HD := Lib.hid hD
      have HXY := Lib.hid hXY
      clear hV' hD hXY
      have htn := tlen_le V (m + 2 + 1)
      generalize tlen V (m + 2 + 1) = N at *
      have hmk := print_make (P := Tryz.prog) 79 3 .i64 8 Tryz.underlying79 info_int (by decide) (l.length - N) (by omega)
      rw [Int.ofNat_sub (by omega : N ≤ l.length)] at hmk
      have HRN : Hid (RowN g l wr) := Lib.hid ⟨W2.heap.size, cap, HO.out⟩
      have hcap : l.length ≤ cap := by
        rcases HO.out.2 with ⟨h, _⟩ | ⟨_, _, _, he, _, _, h, _⟩
        · cases h
        · cases he; exact h
      have hgl2 : g < wr.heap.size := by
        rcases HO.out.2 with ⟨h, _⟩ | ⟨_, _, _, he, _, hh, _⟩
        · cases h
        · cases he; exact (Array.getElem?_eq_some_iff.1 hh).1
      have hgW : W2.heap.size ≤ g := by
        rcases HO.out.2 with ⟨h, _⟩ | ⟨_, _, _, he, hb, _⟩
        · cases h
        · cases he; exact hb
      have hrw := HB.out.size
      go_wp2_with fail
      clear hmk
      obtain ⟨gO, hgO⟩ : ∃ gO, wr.heap.size = gO := ⟨_, rfl⟩
      have hgO2 : gO ≠ g := by omega
      have hgw3 : w3.heap.size < gO := hgO ▸ HRV.out.lt
      have hRO0 : Rowd gO (List.replicate (l.length - N) 0) (wr.alloc (.cells (madeCells #[.int .i64 0] (l.length - N)) 3)) := by rw [← hgO]; exact Rowd.made wr _
      have HRO0 := Lib.hid hRO0
      clear hRO0
      rw [hgO]
      go_loopw [13] (fun jv wz => ∃ (k : Nat) (M O : List Int), k ≤ l.length - N ∧ jv = .int .i64 ((k : Int) - 1) ∧ M.length = l.length ∧ O.length = l.length - N ∧ Hid (RowN g M wz) ∧ Hid (limbs M) ∧ Hid (Rowd gO O wz) ∧ Hid (limbs O) ∧ Hid (∀ i, i < k → O[i]?.getD 0 = 0) ∧ Hid (∀ i, k + N ≤ i → M[i]?.getD 0 = 0) ∧ Hid (wval M k N < lval ys * s) ∧ Hid (pval M l.length + lval ys * s * lval O = lval xs * s) ∧ Hid (Rowd w3.heap.size V wz) ∧ Hid (Below W2.heap.size W2 wz)) (fun jv _ => (1 + intOf jv).toNat)
      case atStart =>
        have hw : wval l (l.length - N) N < lval ys * s := by
          obtain ⟨N', hN'⟩ : ∃ N', N = N' + 1 := ⟨N - 1, by omega⟩
          have a := topped_ge2 HVV.out.1 HVV.out.2.1 (by rw [HVV.out.2.2.2]; omega)
          rw [HVV.out.2.2.2, HVV.out.2.2.1, hN', Nat.add_sub_cancel] at a
          have b := wval_lt HL.out (l.length - (N' + 1)) N'
          rw [hN', wval, show l.length - (N' + 1) + N' = l.length - 1 from by omega, HZ.out, Int.zero_mul, Int.add_zero]
          omega
        have hz0 : lval (List.replicate (l.length - N) 0) = 0 := zeros_pval _ _
        have hzl : limbs (List.replicate (l.length - N) 0) := fun i => by by_cases h : i < l.length - N <;> simp [List.getElem?_replicate, h]
        refine ⟨l.length - N, l, List.replicate (l.length - N) 0, Nat.le_refl _, congrArg (Value.int .i64) (by omega), rfl, by simp, Lib.hid ?_, HL, HRO0, Lib.hid hzl, Lib.hid (fun i hi => by simp [List.getElem?_replicate, hi]), Lib.hid (fun i hi => getD_out l i (by omega)), Lib.hid hw, Lib.hid ?_, Lib.hid (HRV.out.alloc _), Lib.hid (HB.out.alloc hrw _)⟩
        · obtain ⟨b6, c6, ho6⟩ := HRN.out
          exact ⟨b6, c6, own_kept ho6 (Below.heap_alloc _ _ _ hgl2)⟩
        · rw [hz0, Int.mul_zero, Int.add_zero]
          exact HV.out.trans (by rw [hsv])
      case round =>
        obtain ⟨k, M, O, hk, rfl, hM, hO, HRM, HLM, HRO, HLO, HZO, HZM, HW, HS, HRV2, HB2⟩ := hrel
        by_cases hk0 : k = 0
        · subst hk0
          have hru : ReadsInt wr .i64 (some ⟨g, 0, none⟩) l.length M := ⟨hM, by omega, fun _ => ⟨_, rfl, fun i hi => by
            have := HRM.out.cell i (by omega)
            rw [List.getD_eq_getElem?_getD, ← this, show (Addr.add ⟨g, 0, none⟩ i) = ⟨g, i, none⟩ from by simp only [Addr.add]; split <;> simp_all]⟩⟩
          have HRU : Hid (ReadsInt wr.drew .i64 (some ⟨g, 0, none⟩) l.length M) := Lib.hid hru
          have hcm : cap ≤ 9223372036854775807 := by
            obtain ⟨_, _, ho⟩ := HRN.out
            rcases HO.out.2 with ⟨h, _⟩ | ⟨_, _, _, he, _, _, _, h, _⟩
            · cases h
            · cases he; exact h
          have kd : wr.drew.cell? ⟨w1.heap.size, 0, none⟩ = some (.int .i64 s) := by
            obtain ⟨_, e, _, hc⟩ := (HSC.out _ HB2.out).2.2 (by omega)
            cases e
            simpa [Addr.add] using hc 0 (by omega)
          have hRT : RI wr.drew.heap.size wr.drew (some ⟨g, 0, none⟩) (tlen M l.length) (tl M) := by
            refine ⟨by rw [tl_len, hM], by have := tlen_le M l.length; omega, fun _ => ⟨_, rfl, ?_, fun i hi => ?_⟩⟩
            · have hh := HRM.out.frozen 0
              obtain ⟨_, _, ho⟩ := HRM.out
              rcases ho.2 with ⟨h, _⟩ | ⟨_, _, _, he, _, hh, _⟩
              · cases h
              · cases he; exact (Array.getElem?_eq_some_iff.1 hh).1
            · have hlt := tlen_le M l.length
              have := HRM.out.cell i (by omega)
              rw [show (Addr.add ⟨g, 0, none⟩ i) = ⟨g, i, none⟩ from by simp only [Addr.add]; split <;> simp_all]
              rw [tl, take_getD M _ i (by rw [hM]; exact hi)]
              exact this
          have HSH := Lib.hid (short_walk (some ⟨g, 0, none⟩) (tlen M l.length) cap (tl M) s wr.drew hRT (by have := tlen_le M l.length; omega) z4 (by omega) (fun i => tl_limbs HLM.out i.val))
          clear hru hRT
          go_wp2_with fail
          go_region_held3 (fun w' => w'.cell? ⟨w1.heap.size, 0, none⟩ = some (.int .i64 s)) (first | assumption) (first
            | (go_at_call 172; refine (trim_any _ _ _ M _ HRU.out hcap hcm).mono ?_; rintro e w6 ⟨rfl, rfl⟩)
            | (go_at_call 171; refine HSH.out.mono ?_; rintro E w7 ⟨rfl, hR7, hB7⟩; have k7 : w7.cell? ⟨w1.heap.size, 0, none⟩ = some (.int .i64 s) := (hB7.cell (p := ⟨w1.heap.size, 0, none⟩) (by show w1.heap.size < wr.heap.size; have h1 := HSZ.out; have h2 := HB2.out.size; omega)).trans kd; have HR7 := Lib.hid hR7; have HB7 := Lib.hid hB7; clear hR7 hB7 HSH))
          all_goals (
            have hO7 : Rowd gO O w7 := (HB7.out.block gO HRO.out.lt).trans HRO.out
            have HT7 := Lib.hid (rowd_reads hO7 (by omega))
            rw [hO] at HT7
            have HO7 := Lib.hid hO7
            clear hO7
            go_wp2_with (go_at_call 172; refine (trim_any _ _ _ O _ HT7.out (Nat.le_refl _) (by omega)).mono ?_; rintro e w8 ⟨rfl, rfl⟩)
            go_ret2
            have hZM : ∀ i, N ≤ i → M[i]?.getD 0 = 0 := fun i hi => HZM.out i (by omega)
            have hP : pval M l.length = wval M 0 N := by
              have h1 := pval_zero M N hZM (l.length - N)
              rw [show N + (l.length - N) = l.length from by omega] at h1
              have h2 := pval_split M 0 N
              rw [Nat.zero_add] at h2
              rw [h1, h2]
              simp [pval]
            have hT : lval (tl M) = pval M l.length := by rw [tl_val, lval, hM]
            have htN : tlen M l.length ≤ N := by
              have := tlen_zero M N hZM (l.length - N)
              rwa [show N + (l.length - N) = l.length from by omega] at this
            have ht : (tl M).length = tlen M l.length := by rw [tl_len, hM]
            have hY0 : 0 < lval ys := by
              have h1 := topped_ge2 HYL.out HYT.out (by rw [HYa.out.1]; omega)
              exact Int.lt_of_lt_of_le (base_pos _) h1
            have hend := div_end (X := lval xs) (Y := lval ys) (Q := lval O) (R := pval M l.length) z4 hY0 HS.out (pval_nonneg HLM.out _) (by rw [hP]; exact HW.out)
            have hsv2 := short_val s z4 (tl_limbs HLM.out) (tlen M l.length) ht
            have hsl2 := shF_limbs s z4 (tl_limbs HLM.out) (tlen M l.length) (tlen M l.length) (Nat.le_refl _)
            have hl7 : (shF s (tl M) (bwl (tlen M l.length) (tlen M l.length))).1.length = tlen M l.length := shF_len s (tl M) _
            have hq1 : Mag w8 (.slice (some ⟨gO, 0, none⟩) (tlen O O.length) (l.length - N)) (lval xs / lval ys) (n + 1) := mag_of_reads (rowd_reads HO7.out (by omega)) (fun ad e => by cases e; exact HO7.out.lt) HLO.out (by omega) (by omega) (Nat.le_trans (tlen_le _ _) (by omega)) hend.1.symm
            rw [hO] at hq1
            have hq2 := mag_of_reads (L := n + 1) (c := tlen M l.length) (x := lval xs % lval ys) (rowd_reads HR7.out (by rw [hl7]; omega)) (fun ad e => by cases e; exact HR7.out.lt) hsl2 (by rw [hl7]; exact Nat.le_refl _) (by omega) (Nat.le_trans (tlen_le _ _) (by rw [hl7]; omega)) (by rw [hsv2.1, hT, hend.2])
            rw [hl7] at hq2
            exact ⟨_, _, _, _, _, _, rfl, hq1, hq2, HBW.out.trans ((HB2.out.drew.trans (HB7.out.mono HB2.out.size)).mono HBW.out.size)⟩)
        · obtain ⟨k, rfl⟩ : ∃ k', k = k' + 1 := ⟨k - 1, by omega⟩
          have e1 : ((k + 1 : Nat) : Int) - 1 = (k : Int) := by omega
          rw [e1]
          have hN : tlen V V.length = N := (tl_len V).symm.trans HVV.out.2.2.2
          have hMV := mag_of_reads (L := N) (c := m + 2 + 1) (x := lval ys * s) (rowd_reads HRV2.out (by rw [HL4.out]; omega)) (fun ad e => by cases e; exact HRV2.out.lt) HK4.out (by rw [HL4.out]; omega) (by omega) (by rw [hN]; exact Nat.le_refl _) (by rw [HV4.out, hsv])
          rw [hN] at hMV
          obtain ⟨_, _, _, vs, he, hri, hvl, hvt, _, _, _, hvv⟩ := hMV
          cases he
          obtain ⟨N2, hN2⟩ : ∃ N2, N = N2 + 2 := ⟨N - 2, by omega⟩
          have hv1 : 1 ≤ vs[N2 + 1]?.getD 0 := by
            have h1 := (hvl (N2 + 1)).1
            rcases hvt with h | h
            · rw [hri.1] at h; omega
            · rw [hri.1, show N - 1 = N2 + 1 from by omega] at h; omega
          have hE := estimate_walk g k N2 (cap - k) (some ⟨w3.heap.size, 0, none⟩) (m + 2 + 1) M vs W2.heap.size W2 wr HRM.out hgW HB2.out (by omega) _ (hN2 ▸ hri) (fun ad e => by cases e; exact fun q => hgw q.symm) HLM.out hvl hv1 (by omega) (by rw [hvv]; exact win_lt HLM.out k (N2 + 2) (hN2 ▸ HW.out))
          rw [← hN2, hvv] at hE
          have HE := Lib.hid hE
          clear hE hri hvl hvt hvv hv1 hN hN2
          go_wp2_with (go_at_call 173; rw [show k + N + 1 - k = N + 1 from by omega]; refine HE.out.mono ?_; rintro E w6 ⟨rfl, ⟨M2, hR6, hl6, hn6, hf6, hw6⟩, hB6, hY6, hN6⟩; have hO6 : Rowd gO O w6 := (hN6.2 gO HRO.out.lt hgO2).trans HRO.out; have hV6 : Rowd w3.heap.size V w6 := (hN6.2 w3.heap.size HRV2.out.lt (fun q => hgw q.symm)).trans HRV2.out; have fO := hO6.frozen k; have cO := hO6.cell k (by omega); have HO6 := Lib.hid hO6; have HV6 := Lib.hid hV6; have HR6 := Lib.hid hR6; have HB6 := Lib.hid hB6; clear hR6 hB6 hY6 hN6 hO6 hV6)
          have hD0 : 0 < lval ys * s := Int.lt_of_lt_of_le (base_pos _) HD.out
          have hW0 := wval_nonneg HLM.out k (N + 1)
          have hq0 : 0 ≤ wval M k (N + 1) / (lval ys * s) := Int.ediv_nonneg hW0 (Int.le_of_lt hD0)
          have hwl := win_lt HLM.out k N HW.out
          have hq1 : wval M k (N + 1) / (lval ys * s) < 1000000000 := Int.ediv_lt_of_lt_mul hD0 hwl
          have hr1 : wval M k (N + 1) % (lval ys * s) < lval ys * s := Int.emod_lt_of_pos _ hD0
          have hDN : lval ys * s < 1000000000 ^ N := by have := lval_lt HVV.out.1; rw [HVV.out.2.2.1, HVV.out.2.2.2] at this; exact this
          have hwt := win_top hl6 k N (by rw [hw6]; omega)
          have hch := win_change k (N + 1) l.length (by omega) hf6
          have hdm := Int.emod_add_mul_ediv (wval M k (N + 1)) (lval ys * s)
          have hos := out_step O k (wval M k (N + 1) / (lval ys * s)) (by omega) (HZO.out k (by omega))
          rw [hw6] at hch
          refine ⟨⟨k, M2, O.set k (wval M k (N + 1) / (lval ys * s)), by omega, rfl, hn6.trans hM, by rw [List.length_set]; exact hO, Lib.hid ?_, Lib.hid hl6, Lib.hid (HO6.out.store k _), Lib.hid (limbs_set HLO.out _ _ ⟨hq0, hq1⟩), Lib.hid ?_, Lib.hid ?_, Lib.hid (by rw [hwt.2, hw6]; exact hr1), Lib.hid ?_, Lib.hid (HV6.out.other (by omega) _ _), Lib.hid (HB6.out.setCell (p := ⟨gO, k, none⟩) (by show W2.heap.size ≤ gO; omega) _)⟩, by simp only [intOf]; omega⟩
          · obtain ⟨b6, c6, ho6⟩ := HR6.out
            exact ⟨b6, c6, own_kept ho6 (Below.heap_setCell _ _ _ _ (fun q => hgO2 q.symm))⟩
          · intro i hi
            rw [List.getElem?_set_ne (by omega)]
            exact HZO.out i (by omega)
          · intro i hi
            by_cases h : i = k + N
            · subst h; exact hwt.1
            · rw [hf6 i (by omega)]
              exact HZM.out i (by omega)
          · rw [hos]
            have hSum := HS.out
            generalize pval M2 l.length = P2 at *
            generalize pval M l.length = P1 at *
            generalize wval M k (N + 1) = Wk at *
            have h1 : (Wk % (lval ys * s) - Wk) * 1000000000 ^ k = -(lval ys * s * (Wk / (lval ys * s) * 1000000000 ^ k)) := by
              rw [show Wk % (lval ys * s) - Wk = -(lval ys * s * (Wk / (lval ys * s))) from by omega, Int.neg_mul, Int.mul_assoc]
            rw [h1] at hch
            rw [Int.mul_add]
            omega
end Go.Proofs.YtignanmmgaldeaaGreatDoor
namespace Go.Proofs.YtignanmmgaldeaaGreatDoor
open Go.RowKit Go.Shelf Go.Proofs.YtignanmmgaldeaaGreatDoorW.PrintWords
theorem div_all {xs ys : List Int} (hx : limbs xs) (hy : limbs ys) (tx : topped xs) (ty : topped ys) (hn : xs.length ≤ 100000) (hm : ys.length ≤ 100000) (h0 : 0 < lval ys) : DivH xs ys (xs.length + 1) := by
  by_cases hs : lval xs < lval ys ∨ lval ys < 1000000000
  · exact div_small hx hy tx ty (by omega) h0 hs
  · intro A B n m c e w hX hY hnc hme
    have ho := (ordL_val hx hy tx ty).1
    have h2 : 2 ≤ ys.length := by
      by_cases h : ys.length ≤ 1
      · have h1 := lval_lt hy
        have h2 := base_mono2 h
        rw [Int.pow_one] at h2
        omega
      · omega
    obtain ⟨k, hk⟩ : ∃ k, m = k + 2 := ⟨m - 2, by have := hY.1; omega⟩
    subst hk
    have hl := hX.1
    rw [hl]
    have hl2 := hY.1
    exact divide_long A B n k c e xs ys w hX hY hx hy ty (by omega) (by omega) (fun h => hs (.inl (ho.1 h))) (by omega)
end Go.Proofs.YtignanmmgaldeaaGreatDoor
