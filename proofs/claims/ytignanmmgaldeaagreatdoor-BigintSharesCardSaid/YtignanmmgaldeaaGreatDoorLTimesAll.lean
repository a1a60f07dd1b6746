/- What bigint.times computes: the product, in plain Lean. · bigint.times: the product lies in a row of its own. · bigint.product: the product of two numbers. · bigint.Add, bigint.Sub, bigint.Mul. -/
import Derived.Test.YtignanmmgaldeaaGreatDoorLTextAll
import Derived.Test.YtignanmmgaldeaaGreatDoorLPtimesx1
set_option linter.unusedVariables false
set_option linter.unusedSimpArgs false
namespace Go.Proofs.YtignanmmgaldeaaGreatDoor
open Go.RowKit Go.Proofs.YtignanmmgaldeaaGreatDoor.Ptimes Go.Proofs.YtignanmmgaldeaaGreatDoorW.PrintWords
theorem wrap_id {x : Int} (h : -9223372036854775808 ≤ x ∧ x ≤ 9223372036854775807) : wrap64 x = x := by unfold wrap64; omega
theorem rd_nat (xs : List Int) (k : Nat) : rd xs (k : Int) = xs[k]?.getD 0 := by simp [rd, List.getD_eq_getElem?_getD]
theorem mul_limb {a y : Int} (ha : 0 ≤ a ∧ a < 1000000000) (hy : 0 ≤ y ∧ y < 1000000000) : 0 ≤ a * y ∧ a * y ≤ 999999998000000001 :=
  ⟨Int.mul_nonneg ha.1 hy.1, by
    have := Int.mul_le_mul (show a ≤ 999999999 by omega) (show y ≤ 999999999 by omega) hy.1 (by omega)
    omega⟩
theorem limbs_set {xs : List Int} (h : limbs xs) (k : Nat) (v : Int) (hv : 0 ≤ v ∧ v < 1000000000) : limbs (xs.set k v) := fun i => by
  by_cases e : k = i
  · subst e
    by_cases hl : k < xs.length
    · rw [List.getElem?_set_self hl]; exact hv
    · rw [List.getElem?_eq_none (by simpa using hl)]; simp
  · rw [List.getElem?_set_ne e]; exact h i
theorem pval_set_any (xs : List Int) (i : Nat) (v : Int) (hi : i < xs.length) : ∀ N, i < N → pval (xs.set i v) N = pval xs N + (v - xs[i]?.getD 0) * 1000000000 ^ i
  | 0, h => by omega
  | N + 1, h => by
    by_cases e : i = N
    · subst e
      rw [pval_set_last _ _ _ hi, pval, Int.sub_mul]; omega
    · rw [pval, pval, pval_set_any xs i v hi N (by omega), List.getElem?_set_ne e]; omega
/-- One row: j places of a times ys, added from place i on; the carry. -/
def inS (ys : List Int) (a : Int) (i : Nat) (out : List Int) : Nat → List Int × Int
  | 0 => (out, 0)
  | j + 1 => ((inS ys a i out j).1.set (i + j) (((inS ys a i out j).2 + ((inS ys a i out j).1[i + j]?.getD 0 + a * ys[j]?.getD 0)) % 1000000000), ((inS ys a i out j).2 + ((inS ys a i out j).1[i + j]?.getD 0 + a * ys[j]?.getD 0)) / 1000000000)
def rowF (xs ys : List Int) : Nat → List Int
  | 0 => List.replicate (xs.length + ys.length) 0
  | i + 1 => (inS ys (xs[i]?.getD 0) i (rowF xs ys i) ys.length).1.set (i + ys.length) (inS ys (xs[i]?.getD 0) i (rowF xs ys i) ys.length).2
theorem inS_len (ys : List Int) (a : Int) (i : Nat) (out : List Int) : ∀ j, (inS ys a i out j).1.length = out.length
  | 0 => rfl
  | j + 1 => by simp [inS, inS_len ys a i out j]
theorem rowF_len (xs ys : List Int) : ∀ i, (rowF xs ys i).length = xs.length + ys.length
  | 0 => by simp [rowF]
  | i + 1 => by simp [rowF, inS_len, rowF_len xs ys i]
theorem inS_ok {ys out : List Int} {a : Int} (hy : limbs ys) (ho : limbs out) (ha : 0 ≤ a ∧ a < 1000000000) (i : Nat) : ∀ j, limbs (inS ys a i out j).1 ∧ 0 ≤ (inS ys a i out j).2 ∧ (inS ys a i out j).2 < 1000000000
  | 0 => ⟨ho, by simp [inS], by simp [inS]⟩
  | j + 1 => by
    obtain ⟨h1, h2, h3⟩ := inS_ok hy ho ha i j
    have hm := mul_limb ha (hy j)
    have hl := h1 (i + j)
    rw [inS]
    exact ⟨limbs_set h1 _ _ ⟨by omega, by omega⟩, by dsimp only; omega, by dsimp only; omega⟩
theorem inS_far (ys out : List Int) (a : Int) (i k : Nat) : ∀ j, i + j ≤ k → (inS ys a i out j).1[k]?.getD 0 = out[k]?.getD 0
  | 0, _ => rfl
  | j + 1, h => by rw [inS]; dsimp only; rw [List.getElem?_set_ne (by omega)]; exact inS_far ys out a i k j (by omega)
theorem inS_val {ys out : List Int} (a : Int) (i N : Nat) (hN : out.length = N) : ∀ j, i + j ≤ N → pval (inS ys a i out j).1 N + (inS ys a i out j).2 * 1000000000 ^ (i + j) = pval out N + a * pval ys j * 1000000000 ^ i
  | 0, _ => by simp [inS, pval]
  | j + 1, h => by
    have ih := inS_val (ys := ys) a i N hN j (by omega)
    have hl := inS_len ys a i out j
    have hc := carry_law ((inS ys a i out j).2 + ((inS ys a i out j).1[i + j]?.getD 0 + a * ys[j]?.getD 0)) (1000000000 ^ (i + j))
    rw [inS]
    dsimp only
    rw [pval_set_any _ _ _ (by omega) N (by omega), Int.sub_mul, show i + (j + 1) = (i + j) + 1 from rfl, base_succ (i + j), pval, Int.mul_add, Int.add_mul]
    have e : a * (ys[j]?.getD 0 * 1000000000 ^ j) * 1000000000 ^ i = a * ys[j]?.getD 0 * 1000000000 ^ (i + j) := by
      rw [Int.pow_add, ← Int.mul_assoc, Int.mul_assoc, Int.mul_comm (1000000000 ^ j)]
    rw [e]
    rw [Int.add_mul (inS ys a i out j).2, Int.add_mul ((inS ys a i out j).1[i + j]?.getD 0)] at hc
    omega
theorem rowF_ok {xs ys : List Int} (hx : limbs xs) (hy : limbs ys) : ∀ i, limbs (rowF xs ys i)
  | 0 => fun k => by
    by_cases h : k < xs.length + ys.length
    · simp [rowF, List.getElem?_replicate, h]
    · simp [rowF, List.getElem?_replicate, h]
  | i + 1 => by
    obtain ⟨h1, h2, h3⟩ := inS_ok hy (rowF_ok hx hy i) (hx i) i ys.length
    exact limbs_set h1 _ _ ⟨h2, h3⟩
theorem rowF_far (xs ys : List Int) (k : Nat) : ∀ i, i + ys.length ≤ k → (rowF xs ys i)[k]?.getD 0 = 0
  | 0, _ => by by_cases h : k < xs.length + ys.length <;> simp [rowF, List.getElem?_replicate, h]
  | i + 1, h => by
    rw [rowF, List.getElem?_set_ne (by omega), inS_far ys _ _ i k ys.length (by omega)]
    exact rowF_far xs ys k i (by omega)
theorem zeros_pval (n : Nat) : ∀ k, pval (List.replicate n 0) k = 0
  | 0 => rfl
  | k + 1 => by
    have : (List.replicate n (0 : Int))[k]?.getD 0 = 0 := by by_cases h : k < n <;> simp [List.getElem?_replicate, h]
    rw [pval, zeros_pval n k, this]; omega
theorem rowF_val (xs ys : List Int) : ∀ i, i ≤ xs.length → pval (rowF xs ys i) (xs.length + ys.length) = pval xs i * lval ys
  | 0, _ => by rw [rowF, zeros_pval, pval]; omega
  | i + 1, h => by
    have ih := rowF_val xs ys i (by omega)
    have hl := rowF_len xs ys i
    have hv := inS_val (ys := ys) (out := rowF xs ys i) (xs[i]?.getD 0) i (xs.length + ys.length) hl ys.length (by omega)
    have hf : (inS ys (xs[i]?.getD 0) i (rowF xs ys i) ys.length).1[i + ys.length]?.getD 0 = 0 := by
      rw [inS_far ys _ _ i _ ys.length (Nat.le_refl _)]; exact rowF_far xs ys _ i (Nat.le_refl _)
    rw [rowF, pval_set_any _ _ _ (by rw [inS_len, hl]; omega) _ (by omega), hf, Int.sub_zero, pval, Int.add_mul]
    have e : xs[i]?.getD 0 * lval ys * 1000000000 ^ i = xs[i]?.getD 0 * 1000000000 ^ i * lval ys := by rw [Int.mul_assoc, Int.mul_comm (lval ys), ← Int.mul_assoc]
    have e2 : pval ys ys.length = lval ys := rfl
    rw [e2, e, ih] at hv
    omega
/-- The product of magnitudes. -/
theorem rowF_all (xs ys : List Int) : lval (rowF xs ys xs.length) = lval xs * lval ys := by
  rw [lval, rowF_len]; exact rowF_val xs ys xs.length (Nat.le_refl _)
theorem trim_f (xs : List Int) (hl : xs.length ≤ 1000000000) : ∀ m k, m ≤ xs.length → m < k → bigint_trim.l0 k (xs.take m) = some (xs.take (tlen xs m))
  | m, 0, _, h => by omega
  | 0, k + 1, _, _ => by
    unfold bigint_trim.l0
    rw [List.take_zero, if_neg (by simp)]; rfl
  | m + 1, k + 1, hm, hk => by
    have e : (xs.take (m + 1)).length = m + 1 := by simp; omega
    unfold bigint_trim.l0
    rw [e, wrap_id (by omega), if_pos (by omega), if_pos (by omega), if_pos (by omega), show ((m + 1 : Nat) : Int) - 1 = (m : Int) from by omega, rd_nat, take_getD _ _ _ (by omega), tlen]
    by_cases h : xs[m]?.getD 0 = 0
    · rw [if_pos h, if_pos (by omega), if_pos h, Int.toNat_natCast, List.take_take, Nat.min_eq_left (by omega)]
      exact trim_f xs hl m k (by omega) (by omega)
    · rw [if_neg h, if_neg h]
theorem trim_tl (xs : List Int) (hl : xs.length ≤ 1000000000) (k : Nat) (hk : xs.length < k) : bigint_trim.f k xs = some (tl xs) := by
  have := trim_f xs hl xs.length k (Nat.le_refl _) hk
  rwa [List.take_length] at this
theorem times_l1 (xs ys : List Int) (hy : limbs ys) (hm : ys.length ≤ 1000000) (a : Int) (ha : 0 ≤ a ∧ a < 1000000000) (n : Int) (i : Nat) (hi : i ≤ 1000000) (out : List Int) (ho : limbs out) (hl : i + ys.length < out.length) (hl2 : out.length ≤ 2000000) (k : Nat) :
    ∀ r j, j + r = ys.length → bigint_times.l1 (k + r + 1) ys (inS ys a i out j).1 i a (inS ys a i out j).2 xs n i ys (ys.length : Int) j = bigint_times.l0 k ys ((inS ys a i out ys.length).1.set (i + ys.length) (inS ys a i out ys.length).2) xs n ((i + 1 : Nat) : Int)
  | 0, j, h => by
    obtain rfl : j = ys.length := by omega
    have e := inS_len ys a i out ys.length
    simp only [bigint_times.l1]
    rw [if_neg (by omega), wrap_id (by omega), if_pos (by omega), if_pos (by rw [e]; omega), wrap_id (by omega)]
    congr 1
  | r + 1, j, h => by
    have e := inS_len ys a i out j
    obtain ⟨h1, h2, h3⟩ := inS_ok hy ho ha i j
    have hmu := mul_limb ha (hy j)
    have hlo := h1 (i + j)
    rw [show k + (r + 1) + 1 = (k + r + 1) + 1 from by omega]
    conv => lhs; simp only [bigint_times.l1]
    rw [if_pos (by omega), if_pos (by omega), if_pos (by omega), wrap_id (x := (i : Int) + j) (by omega), if_pos (by omega), if_pos (by rw [e]; omega)]
    rw [show (i : Int) + (j : Int) = ((i + j : Nat) : Int) from by omega, rd_nat, rd_nat, wrap_id (x := a * ys[j]?.getD 0) (by omega), wrap_id (x := (inS ys a i out j).1[i + j]?.getD 0 + a * ys[j]?.getD 0) (by omega), wrap_id (x := (inS ys a i out j).2 + _) (by omega)]
    rw [Int.tmod_eq_emod_of_nonneg (by omega), Int.tdiv_eq_ediv_of_nonneg (by omega), wrap_id (x := _ / 1000000000) (by omega), wrap_id (x := (j : Int) + 1) (by omega), Int.toNat_natCast]
    exact times_l1 xs ys hy hm a ha n i hi out ho hl hl2 k r (j + 1) (by omega)
theorem times_l0 (xs ys : List Int) (hx : limbs xs) (hy : limbs ys) (hn : xs.length ≤ 1000000) (hm : ys.length ≤ 1000000) (K : Nat) (hK : xs.length + ys.length < K) :
    ∀ r i, i + r = xs.length → bigint_times.l0 (K + r * (ys.length + 2) + 1) ys (rowF xs ys i) xs (xs.length : Int) i = some (tl (rowF xs ys xs.length))
  | 0, i, h => by
    obtain rfl : i = xs.length := by omega
    rw [Nat.zero_mul, Nat.add_zero]
    simp only [bigint_times.l0]
    rw [if_neg (by omega), trim_tl _ (by rw [rowF_len]; omega) K (by rw [rowF_len]; omega)]
    rfl
  | r + 1, i, h => by
    have ih := times_l0 xs ys hx hy hn hm K hK r (i + 1) (by omega)
    have hl := rowF_len xs ys i
    have hin := times_l1 xs ys hy hm (xs[i]?.getD 0) (hx i) (xs.length : Int) i (by omega) (rowF xs ys i) (rowF_ok hx hy i) (by omega) (by omega) (K + r * (ys.length + 2) + 1) ys.length 0 (by omega)
    rw [show K + (r + 1) * (ys.length + 2) + 1 = (K + r * (ys.length + 2) + 1 + ys.length + 1) + 1 from by rw [Nat.add_mul]; omega]
    conv => lhs; simp only [bigint_times.l0]
    rw [if_pos (by omega), if_pos (by omega), if_pos (by omega), rd_nat]
    exact hin.trans ih
theorem times_f (xs ys : List Int) (hx : limbs xs) (hy : limbs ys) (hn : xs.length ≤ 1000000) (hm : ys.length ≤ 1000000) : ∃ k, bigint_times.f k xs ys = some (tl (rowF xs ys xs.length)) := by
  refine ⟨xs.length + ys.length + 1 + xs.length * (ys.length + 2) + 1, ?_⟩
  unfold bigint_times.f
  rw [wrap_id (by omega), if_pos (by omega), if_pos (by omega), show ((xs.length : Int) + (ys.length : Int)).toNat = xs.length + ys.length from by omega]
  exact times_l0 xs ys hx hy hn hm (xs.length + ys.length + 1) (by omega) xs.length 0 (by omega)
theorem row_of_ri {n₀ : Nat} {w : World} {A : Option Addr} {n : Nat} {xs : List Int} (h : RI n₀ w A n xs) : Kd.C (Kd.int .i64) w A n xs :=
  ⟨h.1, h.2.1, fun hn => by
    obtain ⟨ad, e, _, hc⟩ := h.2.2 hn
    refine ⟨ad, e, fun j p hp => ?_⟩
    have hj : j < n := by have := (List.getElem?_eq_some_iff.1 hp).1; rw [h.1] at this; exact this
    have hcj := hc j hj
    rw [hp, Option.getD_some] at hcj
    refine ⟨[.int .i64 p], rfl, rfl, fun i u hu => ?_⟩
    have hi : i = 0 := by have := (List.getElem?_eq_some_iff.1 hu).1; simpa using this
    subst hi
    cases hu
    rw [show (Kd.int IntKind.i64).sz = 1 from rfl, Nat.mul_one, Nat.add_zero]
    exact hcj⟩
theorem ri_of_row {w : World} {A : Option Addr} {n : Nat} {xs : List Int} (h : Kd.C (Kd.int .i64) w A n xs) : RI w.heap.size w A n xs := by
  have hcell : 0 < n → ∃ ad, A = some ad ∧ ∀ j, j < n → w.cell? (ad.add j) = some (.int .i64 (xs[j]?.getD 0)) := fun hn => by
    obtain ⟨ad, e, hc⟩ := h.2.2 hn
    refine ⟨ad, e, fun j hj => ?_⟩
    have hjl : j < xs.length := by rw [h.1]; exact hj
    obtain ⟨c, hl, hk, hcc⟩ := hc j _ (List.getElem?_eq_getElem hjl)
    have hk2 : c = [.int .i64 xs[j]] := hk
    subst hk2
    have := hcc 0 (.int .i64 xs[j]) rfl
    rw [show (Kd.int IntKind.i64).sz = 1 from rfl, Nat.mul_one, Nat.add_zero] at this
    rw [this, List.getElem?_eq_getElem hjl]; rfl
  refine ⟨h.1, h.2.1, fun hn => ?_⟩
  obtain ⟨ad, e, hc⟩ := hcell hn
  refine ⟨ad, e, ?_, hc⟩
  have h0 := hc 0 hn
  rw [World.cell?, add_block] at h0
  cases hb : w.heap[ad.block]? with
  | none => rw [hb] at h0; cases h0
  | some o => exact (Array.getElem?_eq_some_iff.1 hb).1
theorem mag_of_V {w w0 : World} {ok : Nat → Prop} {v : Value} {xs : List Int} {x : Int} {L : Nat} (h : Kd.V (Kd.int .i64) 3 w w0.heap.size ok v xs) (hl : limbs xs) (ht : topped xs) (hx : lval xs = x) (hL : xs.length ≤ L) : Mag w v x L := by
  obtain ⟨A, c, rfl, hlc, hF⟩ := h
  exact ⟨A, xs.length, c, xs, rfl, ri_of_row (Kd.F_now hF), hl, ht, hlc, trivial, hL, hx⟩
end Go.Proofs.YtignanmmgaldeaaGreatDoor
namespace Go.Proofs.YtignanmmgaldeaaGreatDoor
open Go.RowKit Go.Shelf Go.Proofs.YtignanmmgaldeaaGreatDoorW.PrintWords
set_option maxRecDepth 100000 in
set_option maxHeartbeats 4000000 in
theorem times_own (A B : Option Addr) (n m c e : Nat) (xs ys : List Int) (w : World) (hx : RI w.heap.size w A n xs) (hy : RI w.heap.size w B m ys) (hxl : limbs xs) (hyl : limbs ys) (hn : n ≤ 1000000) (hm : m ≤ 1000000) :
    Calls Tryz.prog 91 #[.slice A n c, .slice B m e] w fun E w' => E = .returned (.slice (some ⟨w.heap.size, 0, none⟩) (tlen (rowF xs ys n) (n + m)) (n + m)) ∧ Rowd w.heap.size (rowF xs ys n) w' ∧ Below w.heap.size w w' := by
  have HX := Lib.hid hx
  have HY := Lib.hid hy
  have HXL := Lib.hid hxl
  have HYL := Lib.hid hyl
  clear hx hy hxl hyl
  have hmk := print_make (P := Tryz.prog) 79 3 .i64 8 Tryz.underlying79 info_int (by decide) (n + m) (by omega)
  simp only [Int.natCast_add] at hmk
  go_enter Tryz.func91, Tryz.ntmps91
  go_wp2
  clear hmk
  have HN : Hid (xs.length = n ∧ ys.length = m) := Lib.hid ⟨HX.out.1, HY.out.1⟩
  go_loopw [19] (fun iv wr => ∃ k : Nat, k ≤ n ∧ iv = .int .i64 k ∧ Hid (Rowd w.heap.size (rowF xs ys k) wr) ∧ Hid (Below w.heap.size w wr)) (fun i _ => n - (intOf i).toNat)
  case atStart => exact ⟨0, by omega, rfl, Lib.hid (by rw [rowF, HN.out.1, HN.out.2]; exact Rowd.made w (n + m)), Lib.hid ((Below.refl _ w).alloc (Nat.le_refl _) _)⟩
  case round =>
    obtain ⟨k, hk, rfl, HR, HB⟩ := hrel
    by_cases h0 : k < n
    · obtain ⟨ad1, rfl, hlt1, hc1⟩ := (HX.out.below HB.out).2.2 (by omega)
      have cX := hc1 k h0
      have ha := HXL.out k
      clear hc1
      have HSTEP : Hid (rowF xs ys (k + 1) = (inS ys (xs[k]?.getD 0) k (rowF xs ys k) m).1.set (k + m) (inS ys (xs[k]?.getD 0) k (rowF xs ys k) m).2) := by
        show rowF xs ys (k + 1) = _
        rw [rowF, HN.out.2]
      have HOL := Lib.hid (rowF_ok HXL.out HYL.out k)
      have HLN : Hid ((rowF xs ys k).length = n + m) := Lib.hid (by rw [rowF_len, HN.out.1, HN.out.2])
      generalize xs[k]?.getD 0 = a at *
      generalize rowF xs ys k = out at *
      have HR1 := HR
      have HB1 := HB
      clear HR HB
      go_wp2_with fail
      go_loopw [8, 26] (fun cv iv wz => ∃ q : Nat, q ≤ m ∧ iv = .int .i64 q ∧ cv = .int .i64 (inS ys a k out q).2 ∧ Hid (Rowd w.heap.size (inS ys a k out q).1 wz) ∧ Hid (Below w.heap.size w wz)) (fun _ i _ => m - (intOf i).toNat)
      case atStart => exact ⟨0, by omega, rfl, rfl, HR1, HB1⟩
      case round =>
        obtain ⟨q, hq, rfl, rfl, HR, HB⟩ := hrel
        have hok := inS_ok HYL.out HOL.out ha k q
        by_cases h2 : q < m
        · obtain ⟨ad2, rfl, hlt2, hc2⟩ := (HY.out.below HB.out).2.2 (by omega)
          have cY := hc2 q h2
          have hu := HYL.out q
          clear hc2
          have cW := HR.out.cell (k + q) (by rw [inS_len, HLN.out]; omega)
          have fW := HR.out.frozen (k + q)
          have ho := hok.1 (k + q)
          have hs : Hid (inS ys a k out (q + 1) = ((inS ys a k out q).1.set (k + q) (((inS ys a k out q).2 + ((inS ys a k out q).1[k + q]?.getD 0 + a * ys[q]?.getD 0)) % 1000000000), ((inS ys a k out q).2 + ((inS ys a k out q).1[k + q]?.getD 0 + a * ys[q]?.getD 0)) / 1000000000)) := Lib.hid rfl
          have hp := mul_limb ha hu
          have hcar := hok.2
          clear hok
          generalize ys[q]?.getD 0 = u at *
          generalize (inS ys a k out q).1[k + q]?.getD 0 = v at *
          generalize hcc : (inS ys a k out q).2 = cc at *
          have HC := Lib.hid hcc
          clear hcc
          go_wp2_with fail
          refine ⟨⟨q + 1, by omega, rfl, by rw [hs.out], Lib.hid ?_, Lib.hid (HB.out.setCell (p := ⟨w.heap.size, k + q, none⟩) (Nat.le_refl _) _)⟩, by simp only [intOf]; omega⟩
          rw [hs.out]
          exact HR.out.store (k + q) _
        · obtain rfl : q = m := by omega
          have fW := HR.out.frozen (k + q)
          have cW := HR.out.cell (k + q) (by rw [inS_len, HLN.out]; omega)
          clear hok
          go_wp2_with fail
          refine ⟨⟨k + 1, by omega, rfl, Lib.hid ?_, Lib.hid (HB.out.setCell (p := ⟨w.heap.size, k + q, none⟩) (Nat.le_refl _) _)⟩, by simp only [intOf]; omega⟩
          rw [HSTEP.out]
          exact HR.out.store (k + q) _
    · obtain rfl : k = n := by omega
      have HT := Lib.hid (rowd_reads HR.out (by rw [rowF_len, HN.out.1, HN.out.2]; omega))
      rw [rowF_len, HN.out.1, HN.out.2] at HT
      go_wp2_with (go_at_call 172; refine (trim_any _ _ _ _ _ HT.out (Nat.le_refl _) (by omega)).mono ?_; rintro e w' ⟨rfl, rfl⟩)
      go_ret
      exact ⟨rfl, HR.out, HB.out⟩
end Go.Proofs.YtignanmmgaldeaaGreatDoor
namespace Go.Proofs.YtignanmmgaldeaaGreatDoor
open Go.RowKit Go.Shelf Go.Proofs.YtignanmmgaldeaaGreatDoor.Ptimes Go.Proofs.YtignanmmgaldeaaGreatDoorW.PrintWords
theorem times_mag (A B : Option Addr) (n m c e : Nat) (xs ys : List Int) (w : World) (hx : RI w.heap.size w A n xs) (hy : RI w.heap.size w B m ys) (hxl : limbs xs) (hyl : limbs ys) (hn : n ≤ 1000000) (hm : m ≤ 1000000) (hc : n ≤ c) (he : m ≤ e) :
    Calls Tryz.prog 91 #[.slice A n c, .slice B m e] w fun e w' => ∃ A' n' c', e = .returned (.slice A' n' c') ∧ Mag w' (.slice A' n' c') (lval xs * lval ys) (n + m) ∧ Below w.heap.size w w' := by
  obtain ⟨k, hk⟩ := times_f xs ys hxl hyl (by rw [hx.1]; exact hn) (by rw [hy.1]; exact hm)
  have h1 := hx.1
  have h2 := hy.1
  subst h1
  subst h2
  refine (bigint_times.calls k A c xs B e ys _ w (row_of_ri hx) hc (row_of_ri hy) he hk).mono ?_
  rintro E w' ⟨v, rfl, hV, hB⟩
  have hM := mag_of_V (w0 := w) (x := lval xs * lval ys) (L := xs.length + ys.length) hV (tl_limbs (rowF_ok hxl hyl _)) (tl_topped _) (by rw [tl_val, rowF_all]) (by rw [tl_len]; exact Nat.le_trans (tlen_le _ _) (by rw [rowF_len]; exact Nat.le_refl _))
  obtain ⟨A', c', rfl, _⟩ := hV
  exact ⟨A', _, c', rfl, hM, hB⟩
set_option maxRecDepth 100000 in
set_option maxHeartbeats 4000000 in
theorem product_walk (A B : Option Addr) (n m c e : Nat) (xs ys : List Int) (b b2 : Bool) (w : World) (hx : RI w.heap.size w A n xs) (hy : RI w.heap.size w B m ys) (hxl : limbs xs) (hyl : limbs ys) (hn : n ≤ 1000000) (hm : m ≤ 1000000) (hc : n ≤ c) (he : m ≤ e) :
    Calls Tryz.prog 85 #[.agg #[.bool b, .slice A n c], .agg #[.bool b2, .slice B m e]] w fun e w' => ∃ A' n' c', e = .returned (.agg #[.bool (b != b2), .slice A' n' c']) ∧ Mag w' (.slice A' n' c') (lval xs * lval ys) (n + m) ∧ Below w.heap.size w w' := by
  have HX := Lib.hid hx
  have HY := Lib.hid hy
  have HXl := Lib.hid hxl
  have HYl := Lib.hid hyl
  clear hx hy hxl hyl
  go_enter Tryz.func85, Tryz.ntmps85
  go_wp2
  have hx0 : (((w.alloc (.cells #[.bool b, .slice A n c] 81)).alloc (.cells #[.bool b2, .slice B m e] 81)).alloc (.cells #[.bool false, .slice none 0 0] 81)).heap[w.heap.size]? = some (.cells #[.bool b, .slice A n c] 81) := (Below.heap_alloc _ _ _ (by simp; omega)).trans ((Below.heap_alloc _ _ _ (by simp)).trans (World.alloc_heap_new w _))
  have hx1 : (((w.alloc (.cells #[.bool b, .slice A n c] 81)).alloc (.cells #[.bool b2, .slice B m e] 81)).alloc (.cells #[.bool false, .slice none 0 0] 81)).heap[w.heap.size + 1]? = some (.cells #[.bool b2, .slice B m e] 81) := (Below.heap_alloc _ _ _ (by simp)).trans (by have := World.alloc_heap_new (w.alloc (.cells #[.bool b, .slice A n c] 81)) (.cells #[.bool b2, .slice B m e] 81); rwa [World.size_alloc] at this)
  have hx2 : (((w.alloc (.cells #[.bool b, .slice A n c] 81)).alloc (.cells #[.bool b2, .slice B m e] 81)).alloc (.cells #[.bool false, .slice none 0 0] 81)).heap[w.heap.size + 1 + 1]? = some (.cells #[.bool false, .slice none 0 0] 81) := by have := World.alloc_heap_new ((w.alloc (.cells #[.bool b, .slice A n c] 81)).alloc (.cells #[.bool b2, .slice B m e] 81)) (.cells #[.bool false, .slice none 0 0] 81); rwa [World.size_alloc, World.size_alloc] at this
  have hBa : Below w.heap.size w (((w.alloc (.cells #[.bool b, .slice A n c] 81)).alloc (.cells #[.bool b2, .slice B m e] 81)).alloc (.cells #[.bool false, .slice none 0 0] 81)) := (((Below.refl _ w).alloc (Nat.le_refl _) _).alloc (by simp) _).alloc (by simp; omega) _
  have hsa : (((w.alloc (.cells #[.bool b, .slice A n c] 81)).alloc (.cells #[.bool b2, .slice B m e] 81)).alloc (.cells #[.bool false, .slice none 0 0] 81)).heap.size = w.heap.size + 3 := by simp
  obtain ⟨W5, hW5⟩ : ∃ W5, ((w.alloc (.cells #[.bool b, .slice A n c] 81)).alloc (.cells #[.bool b2, .slice B m e] 81)).alloc (.cells #[.bool false, .slice none 0 0] 81) = W5 := ⟨_, rfl⟩
  rw [hW5] at hx0 hx1 hx2 hBa hsa ⊢
  clear hW5
  have kd : W5.drew.cell? ⟨w.heap.size, 0, none⟩ = some (.bool b) ∧ W5.drew.cell? ⟨w.heap.size, 1, none⟩ = some (.slice A n c) ∧ W5.drew.cell? ⟨w.heap.size + 1, 0, none⟩ = some (.bool b2) ∧ W5.drew.cell? ⟨w.heap.size + 1, 1, none⟩ = some (.slice B m e) := ⟨cellA hx0 0 _ rfl, cellA hx0 1 _ rfl, cellA hx1 0 _ rfl, cellA hx1 1 _ rfl⟩
  have HKC : Hid (∀ v2 : World, Below W5.drew.heap.size W5.drew v2 → v2.cell? ⟨w.heap.size, 0, none⟩ = some (.bool b) ∧ v2.cell? ⟨w.heap.size, 1, none⟩ = some (.slice A n c) ∧ v2.cell? ⟨w.heap.size + 1, 0, none⟩ = some (.bool b2) ∧ v2.cell? ⟨w.heap.size + 1, 1, none⟩ = some (.slice B m e)) := Lib.hid fun v2 hB =>
    ⟨(hB.cell (p := ⟨w.heap.size, 0, none⟩) (by show w.heap.size < W5.heap.size; omega)).trans kd.1, (hB.cell (p := ⟨w.heap.size, 1, none⟩) (by show w.heap.size < W5.heap.size; omega)).trans kd.2.1, (hB.cell (p := ⟨w.heap.size + 1, 0, none⟩) (by show w.heap.size + 1 < W5.heap.size; omega)).trans kd.2.2.1, (hB.cell (p := ⟨w.heap.size + 1, 1, none⟩) (by show w.heap.size + 1 < W5.heap.size; omega)).trans kd.2.2.2⟩
  have HKS : Hid (∀ (v1 : World) (u v : Value), (v1.cell? ⟨w.heap.size, 0, none⟩ = some (.bool b) ∧ v1.cell? ⟨w.heap.size, 1, none⟩ = some (.slice A n c) ∧ v1.cell? ⟨w.heap.size + 1, 0, none⟩ = some (.bool b2) ∧ v1.cell? ⟨w.heap.size + 1, 1, none⟩ = some (.slice B m e)) → ((v1.setCell ⟨w.heap.size + 1 + 1, 0, none⟩ u).setCell ⟨w.heap.size + 1 + 1, 1, none⟩ v).cell? ⟨w.heap.size, 0, none⟩ = some (.bool b) ∧ ((v1.setCell ⟨w.heap.size + 1 + 1, 0, none⟩ u).setCell ⟨w.heap.size + 1 + 1, 1, none⟩ v).cell? ⟨w.heap.size, 1, none⟩ = some (.slice A n c) ∧ ((v1.setCell ⟨w.heap.size + 1 + 1, 0, none⟩ u).setCell ⟨w.heap.size + 1 + 1, 1, none⟩ v).cell? ⟨w.heap.size + 1, 0, none⟩ = some (.bool b2) ∧ ((v1.setCell ⟨w.heap.size + 1 + 1, 0, none⟩ u).setCell ⟨w.heap.size + 1 + 1, 1, none⟩ v).cell? ⟨w.heap.size + 1, 1, none⟩ = some (.slice B m e)) := Lib.hid fun v1 u v ⟨a1, a2, a3, a4⟩ =>
    have h (q : Addr) (hq : w.heap.size + 1 + 1 ≠ q.block) : ((v1.setCell ⟨w.heap.size + 1 + 1, 0, none⟩ u).setCell ⟨w.heap.size + 1 + 1, 1, none⟩ v).cell? q = v1.cell? q := (cell_far _ hq).trans (cell_far _ hq)
    ⟨(h _ (by show w.heap.size + 1 + 1 ≠ w.heap.size; omega)).trans a1, (h _ (by show w.heap.size + 1 + 1 ≠ w.heap.size; omega)).trans a2, (h _ (by show w.heap.size + 1 + 1 ≠ w.heap.size + 1; omega)).trans a3, (h _ (by show w.heap.size + 1 + 1 ≠ w.heap.size + 1; omega)).trans a4⟩
  have HZ := Lib.hid (show W5.drew.heap[w.heap.size + 1 + 1]? = some (.cells #[.bool false, .slice none 0 0] 81) from hx2)
  have HBD := Lib.hid hBa.drew
  have HSD := Lib.hid (show W5.drew.heap.size = w.heap.size + 3 from hsa)
  have HT := Lib.hid (times_mag A B n m c e xs ys W5.drew ((HX.out.below HBD.out).mono (by rw [HSD.out]; omega)) ((HY.out.below HBD.out).mono (by rw [HSD.out]; omega)) HXl.out HYl.out hn hm hc he)
  clear hx0 hx1 hx2 hBa hsa
  go_region_held3 (fun w' => w'.cell? ⟨w.heap.size, 0, none⟩ = some (.bool b) ∧ w'.cell? ⟨w.heap.size, 1, none⟩ = some (.slice A n c) ∧ w'.cell? ⟨w.heap.size + 1, 0, none⟩ = some (.bool b2) ∧ w'.cell? ⟨w.heap.size + 1, 1, none⟩ = some (.slice B m e)) (first | assumption | exact HKS.out _ _ _ (by assumption)) (first
    | (go_at_call 91; refine HT.out.mono ?_; rintro e w3 ⟨A', n', c', rfl, hM, hB3⟩; have k3 := HKC.out _ hB3; have hb4 := (hB3.block (w.heap.size + 1 + 1) (by rw [HSD.out]; omega)).trans HZ.out; have z0 := cellA hb4 0 _ rfl; have z1 := cellA hb4 1 _ rfl; have y0 := frozen_at hb4 0; have y1 := frozen_at hb4 1; have HM := Lib.hid hM; have HB3 := Lib.hid hB3; have HB4 := Lib.hid hb4; clear hM hB3 hb4))
  all_goals (
    go_wp2
    refine bodyPost_ret (results_cell_row rfl _ _ (w.heap.size + 1 + 1) 81 #[.bool (b != b2), .slice A' n' c'] (0, 0) _ rfl (blk_put2 HB4.out _ _ _ _) Tryz.underlying81 rfl (by kernel_rfl)) rfl ?_
    exact ⟨_, _, _, rfl, (HM.out.set HB4.out (no_ints false none 0 0) 0 _).set (blk_put (cs := #[.bool false, .slice none 0 0]) HB4.out 0 (.bool (b != b2)) rfl) (no_ints _ none 0 0) 1 _, below_set2 (HBD.out.trans (HB3.out.mono (by rw [HSD.out]; omega))) (by omega) _ _⟩)
theorem product_num (u v : Value) (x y : Int) (L M : Nat) (w : World) (hu : NumV w u x L) (hv : NumV w v y M) (hL : L ≤ 1000000) (hM : M ≤ 1000000) :
    Calls Tryz.prog 85 #[u, v] w fun e w' => ∃ r, e = .returned r ∧ NumV w' r (x * y) (L + M) ∧ Below w.heap.size w w' := by
  obtain ⟨b, u', x', rfl, ⟨A, n, c, xs, rfl, h1, h2, h3, h4, h5, h6, rfl⟩, rfl⟩ := hu
  obtain ⟨b2, v', y', rfl, ⟨B, m, e, ys, rfl, k1, k2, k3, k4, k5, k6, rfl⟩, rfl⟩ := hv
  refine (product_walk A B n m c e xs ys b b2 w h1 k1 h2 k2 (by omega) (by omega) h4 k4).mono ?_
  rintro E w' ⟨A', n', c', rfl, hMg, hB⟩
  refine ⟨_, rfl, ⟨_, _, _, rfl, hMg.more (by omega), ?_⟩, hB⟩
  cases b <;> cases b2 <;> simp [Int.neg_mul, Int.mul_neg]
end Go.Proofs.YtignanmmgaldeaaGreatDoor
namespace Go.Proofs.YtignanmmgaldeaaGreatDoor
open Go.RowKit Go.Shelf Go.Proofs.YtignanmmgaldeaaGreatDoorW.PrintWords
set_option maxRecDepth 100000 in
set_option maxHeartbeats 4000000 in
theorem add_ok (a b : ByteArray) (w : World) (ha0 : chkI a = 0) (hb0 : chkI b = 0) (ha : a.size ≤ 9223372036854775807) (hb : b.size ≤ 9223372036854775807) (hG : GW w) :
    Calls Tryz.prog 22 #[.string a, .string b] w fun e w' => e = .returned (.tuple #[.string (wrS (ivalB a + ivalB b)), .int .i64 (wrE (ivalB a + ivalB b))]) ∧ Below w.heap.size w w' := by
  have HP := Lib.hid (fun w => pair_shape a b w ha0 hb0 ha hb)
  have HG := Lib.hid hG
  go_enter Tryz.func22, Tryz.ntmps22
  clear ha0 hb0 ha hb hG
  go_wp2_with (first
    | (go_at_call 79; refine (HP.out _).mono ?_; rintro e w1 ⟨d, A, n, c, d2, B, m, c2, rfl, hn1, hn2, hB⟩; have HN1 := Lib.hid hn1; have HN2 := Lib.hid hn2; have HB := Lib.hid hB; clear hn1 hn2 hB HP)
    | (go_at_call 81; refine (sum_num _ _ (ivalB a) (ivalB b) 456 _ (HN1.out.below (((Below.refl _ w1).alloc (Nat.le_refl _) _).alloc (by simp) _)) (HN2.out.below (((Below.refl _ w1).alloc (Nat.le_refl _) _).alloc (by simp) _)) (by omega)).mono ?_; rintro e w3 ⟨r, rfl, hr, hB3⟩; have hB4 := HB.out.trans (((((Below.refl _ w1).alloc (Nat.le_refl _) _).alloc (by simp) _).trans (hB3.mono (by simp; omega))).mono HB.out.size); have hg3 := HG.out.below hB4; have HR := Lib.hid hr; have HB4 := Lib.hid hB4; have HG3 := Lib.hid hg3; clear hr hB3 hB4 hg3)
    | (go_at_call 80; refine (written_num r _ (456 + 1) w3 HR.out (by omega) HG3.out).mono ?_; rintro e w4 ⟨rfl, hB5⟩; have HB5 := Lib.hid hB5; clear hB5))
  go_ret2
  exact ⟨rfl, HB4.out.trans (HB5.out.mono HB4.out.size)⟩
set_option maxRecDepth 100000 in
set_option maxHeartbeats 2000000 in
theorem add_err (a b : ByteArray) (w : World) (c : Int) (hc : chk2I a b = c) (h0 : c ≠ 0) (ha : a.size ≤ 9223372036854775807) (hb : b.size ≤ 9223372036854775807) :
    Calls Tryz.prog 22 #[.string a, .string b] w fun e w' => e = .returned (.tuple #[.string ⟨#[]⟩, .int .i64 c]) ∧ Below w.heap.size w w' := by
  have HP : Hid (∀ w : World, Calls Tryz.prog 79 #[.string a, .string b] w fun e w' => ∃ d A n c1 d2 B m c2, e = .returned (.tuple #[.agg #[.bool d, .slice A n c1], .agg #[.bool d2, .slice B m c2], .int .i64 c]) ∧ Below w.heap.size w w') := Lib.hid (fun w => pair_err a b w c hc h0 ha hb)
  have e1 : (c != 0) = true := by simpa using h0
  go_enter Tryz.func22, Tryz.ntmps22
  clear hc ha hb
  go_wp2_with (go_at_call 79; refine (HP.out _).mono ?_; rintro e w1 ⟨d, A, n, c1, d2, B, m, c2, rfl, hB⟩; have HB := Lib.hid hB; clear hB HP)
  go_ret2
  exact ⟨rfl, HB.out.trans ((((Below.refl _ w1).alloc (Nat.le_refl _) _).alloc (by simp) _).mono HB.out.size)⟩
set_option maxRecDepth 100000 in
set_option maxHeartbeats 4000000 in
theorem mul_ok (a b : ByteArray) (w : World) (ha0 : chkI a = 0) (hb0 : chkI b = 0) (ha : a.size ≤ 9223372036854775807) (hb : b.size ≤ 9223372036854775807) (hG : GW w) :
    Calls Tryz.prog 26 #[.string a, .string b] w fun e w' => e = .returned (.tuple #[.string (wrS (ivalB a * ivalB b)), .int .i64 (wrE (ivalB a * ivalB b))]) ∧ Below w.heap.size w w' := by
  have HP := Lib.hid (fun w => pair_shape a b w ha0 hb0 ha hb)
  have HG := Lib.hid hG
  go_enter Tryz.func26, Tryz.ntmps26
  clear ha0 hb0 ha hb hG
  go_wp2_with (first
    | (go_at_call 79; refine (HP.out _).mono ?_; rintro e w1 ⟨d, A, n, c, d2, B, m, c2, rfl, hn1, hn2, hB⟩; have HN1 := Lib.hid hn1; have HN2 := Lib.hid hn2; have HB := Lib.hid hB; clear hn1 hn2 hB HP)
    | (go_at_call 85; refine (product_num _ _ (ivalB a) (ivalB b) 456 456 _ (HN1.out.below (((Below.refl _ w1).alloc (Nat.le_refl _) _).alloc (by simp) _)) (HN2.out.below (((Below.refl _ w1).alloc (Nat.le_refl _) _).alloc (by simp) _)) (by omega) (by omega)).mono ?_; rintro e w3 ⟨r, rfl, hr, hB3⟩; have hB4 := HB.out.trans (((((Below.refl _ w1).alloc (Nat.le_refl _) _).alloc (by simp) _).trans (hB3.mono (by simp; omega))).mono HB.out.size); have hg3 := HG.out.below hB4; have HR := Lib.hid hr; have HB4 := Lib.hid hB4; have HG3 := Lib.hid hg3; clear hr hB3 hB4 hg3)
    | (go_at_call 80; refine (written_num r _ (456 + 456) w3 HR.out (by omega) HG3.out).mono ?_; rintro e w4 ⟨rfl, hB5⟩; have HB5 := Lib.hid hB5; clear hB5))
  go_ret2
  exact ⟨rfl, HB4.out.trans (HB5.out.mono HB4.out.size)⟩
set_option maxRecDepth 100000 in
set_option maxHeartbeats 2000000 in
theorem mul_err (a b : ByteArray) (w : World) (c : Int) (hc : chk2I a b = c) (h0 : c ≠ 0) (ha : a.size ≤ 9223372036854775807) (hb : b.size ≤ 9223372036854775807) :
    Calls Tryz.prog 26 #[.string a, .string b] w fun e w' => e = .returned (.tuple #[.string ⟨#[]⟩, .int .i64 c]) ∧ Below w.heap.size w w' := by
  have HP : Hid (∀ w : World, Calls Tryz.prog 79 #[.string a, .string b] w fun e w' => ∃ d A n c1 d2 B m c2, e = .returned (.tuple #[.agg #[.bool d, .slice A n c1], .agg #[.bool d2, .slice B m c2], .int .i64 c]) ∧ Below w.heap.size w w') := Lib.hid (fun w => pair_err a b w c hc h0 ha hb)
  have e1 : (c != 0) = true := by simpa using h0
  go_enter Tryz.func26, Tryz.ntmps26
  clear hc ha hb
  go_wp2_with (go_at_call 79; refine (HP.out _).mono ?_; rintro e w1 ⟨d, A, n, c1, d2, B, m, c2, rfl, hB⟩; have HB := Lib.hid hB; clear hB HP)
  go_ret2
  exact ⟨rfl, HB.out.trans ((((Below.refl _ w1).alloc (Nat.le_refl _) _).alloc (by simp) _).mono HB.out.size)⟩
set_option maxRecDepth 100000 in
set_option maxHeartbeats 4000000 in
theorem sub_ok (a b : ByteArray) (w : World) (ha0 : chkI a = 0) (hb0 : chkI b = 0) (ha : a.size ≤ 9223372036854775807) (hb : b.size ≤ 9223372036854775807) (hG : GW w) :
    Calls Tryz.prog 24 #[.string a, .string b] w fun e w' => e = .returned (.tuple #[.string (wrS (ivalB a + -ivalB b)), .int .i64 (wrE (ivalB a + -ivalB b))]) ∧ Below w.heap.size w w' := by
  have HP := Lib.hid (fun w => pair_shape a b w ha0 hb0 ha hb)
  have HG := Lib.hid hG
  go_enter Tryz.func24, Tryz.ntmps24
  clear ha0 hb0 ha hb hG
  go_wp2_with (go_at_call 79; refine (HP.out _).mono ?_; rintro e w1 ⟨d, A, n, c, d2, B, m, c2, rfl, hn1, hn2, hB⟩; have HN1 := Lib.hid hn1; have HN2 := Lib.hid hn2; have HB := Lib.hid hB; clear hn1 hn2 hB HP)
  have hb0 : ((w1.alloc (.cells #[.bool d, .slice A n c] 81)).alloc (.cells #[.bool d2, .slice B m c2] 81)).heap[w1.heap.size]? = some (.cells #[.bool d, .slice A n c] 81) := (Below.heap_alloc _ _ _ (by simp)).trans (World.alloc_heap_new w1 _)
  have hb1 : ((w1.alloc (.cells #[.bool d, .slice A n c] 81)).alloc (.cells #[.bool d2, .slice B m c2] 81)).heap[w1.heap.size + 1]? = some (.cells #[.bool d2, .slice B m c2] 81) := by
    have := World.alloc_heap_new (w1.alloc (.cells #[.bool d, .slice A n c] 81)) (.cells #[.bool d2, .slice B m c2] 81)
    rwa [World.size_alloc] at this
  have hBa : Below w1.heap.size w1 ((w1.alloc (.cells #[.bool d, .slice A n c] 81)).alloc (.cells #[.bool d2, .slice B m c2] 81)) := ((Below.refl _ w1).alloc (Nat.le_refl _) _).alloc (by simp) _
  have hsz : ((w1.alloc (.cells #[.bool d, .slice A n c] 81)).alloc (.cells #[.bool d2, .slice B m c2] 81)).heap.size = w1.heap.size + 2 := by simp
  obtain ⟨W5, hW5⟩ : ∃ W5, (w1.alloc (.cells #[.bool d, .slice A n c] 81)).alloc (.cells #[.bool d2, .slice B m c2] 81) = W5 := ⟨_, rfl⟩
  rw [hW5] at hb0 hb1 hBa hsz ⊢
  clear hW5
  have c0 := cellA hb0 0 _ rfl
  have c1 := cellA hb0 1 _ rfl
  have c3 := cellA hb1 0 _ rfl
  have c4 := cellA hb1 1 _ rfl
  have HKC : Hid (∀ v1 v2 : World, w1.heap.size + 1 < v1.heap.size → Below v1.heap.size v1 v2 → (v1.cell? ⟨w1.heap.size, 0, none⟩ = some (.bool d) ∧ v1.cell? ⟨w1.heap.size, 1, none⟩ = some (.slice A n c) ∧ v1.cell? ⟨w1.heap.size + 1, 0, none⟩ = some (.bool d2) ∧ v1.cell? ⟨w1.heap.size + 1, 1, none⟩ = some (.slice B m c2)) → v2.cell? ⟨w1.heap.size, 0, none⟩ = some (.bool d) ∧ v2.cell? ⟨w1.heap.size, 1, none⟩ = some (.slice A n c) ∧ v2.cell? ⟨w1.heap.size + 1, 0, none⟩ = some (.bool d2) ∧ v2.cell? ⟨w1.heap.size + 1, 1, none⟩ = some (.slice B m c2)) := Lib.hid fun v1 v2 hl hB ⟨a1, a2, a3, a4⟩ =>
    ⟨(hB.cell (p := ⟨w1.heap.size, 0, none⟩) (by show w1.heap.size < _; omega)).trans a1, (hB.cell (p := ⟨w1.heap.size, 1, none⟩) (by show w1.heap.size < _; omega)).trans a2, (hB.cell (p := ⟨w1.heap.size + 1, 0, none⟩) hl).trans a3, (hB.cell (p := ⟨w1.heap.size + 1, 1, none⟩) hl).trans a4⟩
  have kd : W5.drew.cell? ⟨w1.heap.size, 0, none⟩ = some (.bool d) ∧ W5.drew.cell? ⟨w1.heap.size, 1, none⟩ = some (.slice A n c) ∧ W5.drew.cell? ⟨w1.heap.size + 1, 0, none⟩ = some (.bool d2) ∧ W5.drew.cell? ⟨w1.heap.size + 1, 1, none⟩ = some (.slice B m c2) := ⟨c0, c1, c3, c4⟩
  have HBD := Lib.hid hBa.drew
  have hsd : w1.heap.size + 2 = W5.drew.heap.size := hsz.symm
  clear hb0 hb1 hBa hsz
  go_region_held3 (fun w' => w'.cell? ⟨w1.heap.size, 0, none⟩ = some (.bool d) ∧ w'.cell? ⟨w1.heap.size, 1, none⟩ = some (.slice A n c) ∧ w'.cell? ⟨w1.heap.size + 1, 0, none⟩ = some (.bool d2) ∧ w'.cell? ⟨w1.heap.size + 1, 1, none⟩ = some (.slice B m c2)) (first | assumption) (first
    | (go_at_call 83; refine (negated_walk d2 B m c2 W5.drew).mono ?_; rintro e w2 ⟨rfl, hB2⟩; have k2 := HKC.out _ _ (by omega) hB2 kd; have HB2 := Lib.hid hB2; have hs2 := hB2.size; clear hB2)
    | (go_at_call 81; refine (sum_num _ _ (ivalB a) (-ivalB b) 456 w2 (HN1.out.below (HBD.out.trans (HB2.out.mono (by omega)))) (HN2.out.neg.below (HBD.out.trans (HB2.out.mono (by omega)))) (by omega)).mono ?_; rintro e w3 ⟨r, rfl, hr, hB3⟩; have k3 := HKC.out _ _ (by omega) hB3 k2; have HR := Lib.hid hr; have HB3 := Lib.hid hB3; have hs3 := hB3.size; clear hB3 hr)
    | (go_at_call 80; refine (written_num r _ (456 + 1) w3 HR.out (by omega) (HG.out.below (HB.out.trans ((HBD.out.trans ((HB2.out.mono (by omega)).trans (HB3.out.mono (by omega)))).mono HB.out.size)))).mono ?_; rintro e w4 ⟨rfl, hB4⟩; have k4 := HKC.out _ _ (by omega) hB4 k3; have HB4 := Lib.hid hB4; clear hB4))
  all_goals (
    go_wp2
    go_ret2
    exact ⟨rfl, HB.out.trans ((HBD.out.trans ((HB2.out.mono (by omega)).trans ((HB3.out.mono (by omega)).trans (HB4.out.mono (by omega))))).mono HB.out.size)⟩)
set_option maxRecDepth 100000 in
set_option maxHeartbeats 2000000 in
theorem sub_err (a b : ByteArray) (w : World) (c : Int) (hc : chk2I a b = c) (h0 : c ≠ 0) (ha : a.size ≤ 9223372036854775807) (hb : b.size ≤ 9223372036854775807) :
    Calls Tryz.prog 24 #[.string a, .string b] w fun e w' => e = .returned (.tuple #[.string ⟨#[]⟩, .int .i64 c]) ∧ Below w.heap.size w w' := by
  have HP : Hid (∀ w : World, Calls Tryz.prog 79 #[.string a, .string b] w fun e w' => ∃ d A n c1 d2 B m c2, e = .returned (.tuple #[.agg #[.bool d, .slice A n c1], .agg #[.bool d2, .slice B m c2], .int .i64 c]) ∧ Below w.heap.size w w') := Lib.hid (fun w => pair_err a b w c hc h0 ha hb)
  have e1 : (c != 0) = true := by simpa using h0
  go_enter Tryz.func24, Tryz.ntmps24
  clear hc ha hb
  go_wp2_with (go_at_call 79; refine (HP.out _).mono ?_; rintro e w1 ⟨d, A, n, c1, d2, B, m, c2, rfl, hB⟩; have HB := Lib.hid hB; clear hB HP)
  go_ret2
  exact ⟨rfl, HB.out.trans ((((Below.refl _ w1).alloc (Nat.le_refl _) _).alloc (by simp) _).mono HB.out.size)⟩
theorem add_walk (a b : ByteArray) (w : World) (ha : a.size ≤ 9223372036854775807) (hb : b.size ≤ 9223372036854775807) (hG : GW w) :
    Calls Tryz.prog 22 #[.string a, .string b] w fun e w' => e = .returned (.tuple #[.string (if chk2I a b = 0 then wrS (ivalB a + ivalB b) else ⟨#[]⟩), .int .i64 (if chk2I a b = 0 then wrE (ivalB a + ivalB b) else chk2I a b)]) ∧ Below w.heap.size w w' := by
  by_cases h : chk2I a b = 0
  · rw [if_pos h, if_pos h]
    unfold chk2I at h
    split at h
    · rename_i h1
      exact add_ok a b w h1 h ha hb hG
    · rename_i h1
      exact absurd h h1
  · rw [if_neg h, if_neg h]
    exact add_err a b w _ rfl h ha hb
theorem sub_walk (a b : ByteArray) (w : World) (ha : a.size ≤ 9223372036854775807) (hb : b.size ≤ 9223372036854775807) (hG : GW w) :
    Calls Tryz.prog 24 #[.string a, .string b] w fun e w' => e = .returned (.tuple #[.string (if chk2I a b = 0 then wrS (ivalB a + -ivalB b) else ⟨#[]⟩), .int .i64 (if chk2I a b = 0 then wrE (ivalB a + -ivalB b) else chk2I a b)]) ∧ Below w.heap.size w w' := by
  by_cases h : chk2I a b = 0
  · rw [if_pos h, if_pos h]
    unfold chk2I at h
    split at h
    · rename_i h1
      exact sub_ok a b w h1 h ha hb hG
    · rename_i h1
      exact absurd h h1
  · rw [if_neg h, if_neg h]
    exact sub_err a b w _ rfl h ha hb
theorem mul_walk (a b : ByteArray) (w : World) (ha : a.size ≤ 9223372036854775807) (hb : b.size ≤ 9223372036854775807) (hG : GW w) :
    Calls Tryz.prog 26 #[.string a, .string b] w fun e w' => e = .returned (.tuple #[.string (if chk2I a b = 0 then wrS (ivalB a * ivalB b) else ⟨#[]⟩), .int .i64 (if chk2I a b = 0 then wrE (ivalB a * ivalB b) else chk2I a b)]) ∧ Below w.heap.size w w' := by
  by_cases h : chk2I a b = 0
  · rw [if_pos h, if_pos h]
    unfold chk2I at h
    split at h
    · rename_i h1
      exact mul_ok a b w h1 h ha hb hG
    · rename_i h1
      exact absurd h h1
  · rw [if_neg h, if_neg h]
    exact mul_err a b w _ rfl h ha hb
end Go.Proofs.YtignanmmgaldeaaGreatDoor
