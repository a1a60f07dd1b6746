/- What bigint.times computes: the product, in plain Lean. -/
import Derived.Test.YtlefniheafefgaaGreatDoorSize
import Derived.Test.YtlefniheafefgaaGreatDoorPtimesx1
set_option linter.unusedVariables false
set_option linter.unusedSimpArgs false
namespace Go.Proofs.YtlefniheafefgaaGreatDoor
open Go.RowKit Go.Proofs.YtlefniheafefgaaGreatDoor.Ptimes Go.Proofs.YtlefniheafefgaaGreatDoorW.PrintWords

theorem wrap_id {x : Int} (h : -9223372036854775808 ≤ x ∧ x ≤ 9223372036854775807) : wrap64 x = x := by unfold wrap64; omega
theorem rd_nat (xs : List Int) (k : Nat) : rd xs (k : Int) = xs[k]?.getD 0 := by simp [rd, List.getD_eq_getElem?_getD]
theorem mul_limb {a y : Int} (ha : 0 ≤ a ∧ a < 1000000000) (hy : 0 ≤ y ∧ y < 1000000000) : 0 ≤ a * y ∧ a * y ≤ 999999998000000001 :=
  ⟨Int.mul_nonneg ha.1 hy.1, by
    have := Int.mul_le_mul (show a ≤ 999999999 by omega) (show y ≤ 999999999 by omega) hy.1 (by omega)
    omega⟩
theorem limbs_set {xs : List Int} (h : limbs xs) (k : Nat) (v : Int) (hv : 0 ≤ v ∧ v < 1000000000) : limbs (xs.set k v) := fun i => by
  by_cases e : k = i
  · subst e
    by_cases hl : k < xs.length
    · rw [List.getElem?_set_self hl]; exact hv
    · rw [List.getElem?_eq_none (by simpa using hl)]; simp
  · rw [List.getElem?_set_ne e]; exact h i
theorem pval_set_any (xs : List Int) (i : Nat) (v : Int) (hi : i < xs.length) : ∀ N, i < N → pval (xs.set i v) N = pval xs N + (v - xs[i]?.getD 0) * 1000000000 ^ i
  | 0, h => by omega
  | N + 1, h => by
    by_cases e : i = N
    · subst e
      rw [pval_set_last _ _ _ hi, pval, Int.sub_mul]; omega
    · rw [pval, pval, pval_set_any xs i v hi N (by omega), List.getElem?_set_ne e]; omega

/-- One row: j places of a times ys, added from place i on; the carry. -/
def inS (ys : List Int) (a : Int) (i : Nat) (out : List Int) : Nat → List Int × Int
  | 0 => (out, 0)
  | j + 1 => ((inS ys a i out j).1.set (i + j) (((inS ys a i out j).2 + ((inS ys a i out j).1[i + j]?.getD 0 + a * ys[j]?.getD 0)) % 1000000000), ((inS ys a i out j).2 + ((inS ys a i out j).1[i + j]?.getD 0 + a * ys[j]?.getD 0)) / 1000000000)
def rowF (xs ys : List Int) : Nat → List Int
  | 0 => List.replicate (xs.length + ys.length) 0
  | i + 1 => (inS ys (xs[i]?.getD 0) i (rowF xs ys i) ys.length).1.set (i + ys.length) (inS ys (xs[i]?.getD 0) i (rowF xs ys i) ys.length).2
theorem inS_len (ys : List Int) (a : Int) (i : Nat) (out : List Int) : ∀ j, (inS ys a i out j).1.length = out.length
  | 0 => rfl
  | j + 1 => by simp [inS, inS_len ys a i out j]
theorem rowF_len (xs ys : List Int) : ∀ i, (rowF xs ys i).length = xs.length + ys.length
  | 0 => by simp [rowF]
  | i + 1 => by simp [rowF, inS_len, rowF_len xs ys i]
theorem inS_ok {ys out : List Int} {a : Int} (hy : limbs ys) (ho : limbs out) (ha : 0 ≤ a ∧ a < 1000000000) (i : Nat) : ∀ j, limbs (inS ys a i out j).1 ∧ 0 ≤ (inS ys a i out j).2 ∧ (inS ys a i out j).2 < 1000000000
  | 0 => ⟨ho, by simp [inS], by simp [inS]⟩
  | j + 1 => by
    obtain ⟨h1, h2, h3⟩ := inS_ok hy ho ha i j
    have hm := mul_limb ha (hy j)
    have hl := h1 (i + j)
    rw [inS]
    exact ⟨limbs_set h1 _ _ ⟨by omega, by omega⟩, by dsimp only; omega, by dsimp only; omega⟩
theorem inS_far (ys out : List Int) (a : Int) (i k : Nat) : ∀ j, i + j ≤ k → (inS ys a i out j).1[k]?.getD 0 = out[k]?.getD 0
  | 0, _ => rfl
  | j + 1, h => by rw [inS]; dsimp only; rw [List.getElem?_set_ne (by omega)]; exact inS_far ys out a i k j (by omega)
theorem inS_val {ys out : List Int} (a : Int) (i N : Nat) (hN : out.length = N) : ∀ j, i + j ≤ N → pval (inS ys a i out j).1 N + (inS ys a i out j).2 * 1000000000 ^ (i + j) = pval out N + a * pval ys j * 1000000000 ^ i
  | 0, _ => by simp [inS, pval]
  | j + 1, h => by
    have ih := inS_val (ys := ys) a i N hN j (by omega)
    have hl := inS_len ys a i out j
    have hc := carry_law ((inS ys a i out j).2 + ((inS ys a i out j).1[i + j]?.getD 0 + a * ys[j]?.getD 0)) (1000000000 ^ (i + j))
    rw [inS]
    dsimp only
    rw [pval_set_any _ _ _ (by omega) N (by omega), Int.sub_mul, show i + (j + 1) = (i + j) + 1 from rfl, base_succ (i + j), pval, Int.mul_add, Int.add_mul]
    have e : a * (ys[j]?.getD 0 * 1000000000 ^ j) * 1000000000 ^ i = a * ys[j]?.getD 0 * 1000000000 ^ (i + j) := by
      rw [Int.pow_add, ← Int.mul_assoc, Int.mul_assoc, Int.mul_comm (1000000000 ^ j)]
    rw [e]
    rw [Int.add_mul (inS ys a i out j).2, Int.add_mul ((inS ys a i out j).1[i + j]?.getD 0)] at hc
    omega
theorem rowF_ok {xs ys : List Int} (hx : limbs xs) (hy : limbs ys) : ∀ i, limbs (rowF xs ys i)
  | 0 => fun k => by
    by_cases h : k < xs.length + ys.length
    · simp [rowF, List.getElem?_replicate, h]
    · simp [rowF, List.getElem?_replicate, h]
  | i + 1 => by
    obtain ⟨h1, h2, h3⟩ := inS_ok hy (rowF_ok hx hy i) (hx i) i ys.length
    exact limbs_set h1 _ _ ⟨h2, h3⟩
theorem rowF_far (xs ys : List Int) (k : Nat) : ∀ i, i + ys.length ≤ k → (rowF xs ys i)[k]?.getD 0 = 0
  | 0, _ => by by_cases h : k < xs.length + ys.length <;> simp [rowF, List.getElem?_replicate, h]
  | i + 1, h => by
    rw [rowF, List.getElem?_set_ne (by omega), inS_far ys _ _ i k ys.length (by omega)]
    exact rowF_far xs ys k i (by omega)
theorem zeros_pval (n : Nat) : ∀ k, pval (List.replicate n 0) k = 0
  | 0 => rfl
  | k + 1 => by
    have : (List.replicate n (0 : Int))[k]?.getD 0 = 0 := by by_cases h : k < n <;> simp [List.getElem?_replicate, h]
    rw [pval, zeros_pval n k, this]; omega
theorem rowF_val (xs ys : List Int) : ∀ i, i ≤ xs.length → pval (rowF xs ys i) (xs.length + ys.length) = pval xs i * lval ys
  | 0, _ => by rw [rowF, zeros_pval, pval]; omega
  | i + 1, h => by
    have ih := rowF_val xs ys i (by omega)
    have hl := rowF_len xs ys i
    have hv := inS_val (ys := ys) (out := rowF xs ys i) (xs[i]?.getD 0) i (xs.length + ys.length) hl ys.length (by omega)
    have hf : (inS ys (xs[i]?.getD 0) i (rowF xs ys i) ys.length).1[i + ys.length]?.getD 0 = 0 := by
      rw [inS_far ys _ _ i _ ys.length (Nat.le_refl _)]; exact rowF_far xs ys _ i (Nat.le_refl _)
    rw [rowF, pval_set_any _ _ _ (by rw [inS_len, hl]; omega) _ (by omega), hf, Int.sub_zero, pval, Int.add_mul]
    have e : xs[i]?.getD 0 * lval ys * 1000000000 ^ i = xs[i]?.getD 0 * 1000000000 ^ i * lval ys := by rw [Int.mul_assoc, Int.mul_comm (lval ys), ← Int.mul_assoc]
    have e2 : pval ys ys.length = lval ys := rfl
    rw [e2, e, ih] at hv
    omega
/-- The product of magnitudes. -/
theorem rowF_all (xs ys : List Int) : lval (rowF xs ys xs.length) = lval xs * lval ys := by
  rw [lval, rowF_len]; exact rowF_val xs ys xs.length (Nat.le_refl _)

/-! The printed functions. -/
theorem trim_f (xs : List Int) (hl : xs.length ≤ 1000000000) : ∀ m k, m ≤ xs.length → m < k → bigint_trim.l0 k (xs.take m) = some (xs.take (tlen xs m))
  | m, 0, _, h => by omega
  | 0, k + 1, _, _ => by
    unfold bigint_trim.l0
    rw [List.take_zero, if_neg (by simp)]; rfl
  | m + 1, k + 1, hm, hk => by
    have e : (xs.take (m + 1)).length = m + 1 := by simp; omega
    unfold bigint_trim.l0
    rw [e, wrap_id (by omega), if_pos (by omega), if_pos (by omega), if_pos (by omega), show ((m + 1 : Nat) : Int) - 1 = (m : Int) from by omega, rd_nat, take_getD _ _ _ (by omega), tlen]
    by_cases h : xs[m]?.getD 0 = 0
    · rw [if_pos h, if_pos (by omega), if_pos h, Int.toNat_natCast, List.take_take, Nat.min_eq_left (by omega)]
      exact trim_f xs hl m k (by omega) (by omega)
    · rw [if_neg h, if_neg h]
theorem trim_tl (xs : List Int) (hl : xs.length ≤ 1000000000) (k : Nat) (hk : xs.length < k) : bigint_trim.f k xs = some (tl xs) := by
  have := trim_f xs hl xs.length k (Nat.le_refl _) hk
  rwa [List.take_length] at this
theorem times_l1 (xs ys : List Int) (hy : limbs ys) (hm : ys.length ≤ 1000000) (a : Int) (ha : 0 ≤ a ∧ a < 1000000000) (n : Int) (i : Nat) (hi : i ≤ 1000000) (out : List Int) (ho : limbs out) (hl : i + ys.length < out.length) (hl2 : out.length ≤ 2000000) (k : Nat) :
    ∀ r j, j + r = ys.length → bigint_times.l1 (k + r + 1) ys (inS ys a i out j).1 i a (inS ys a i out j).2 xs n i ys (ys.length : Int) j = bigint_times.l0 k ys ((inS ys a i out ys.length).1.set (i + ys.length) (inS ys a i out ys.length).2) xs n ((i + 1 : Nat) : Int)
  | 0, j, h => by
    obtain rfl : j = ys.length := by omega
    have e := inS_len ys a i out ys.length
    simp only [bigint_times.l1]
    rw [if_neg (by omega), wrap_id (by omega), if_pos (by omega), if_pos (by rw [e]; omega), wrap_id (by omega)]
    congr 1
  | r + 1, j, h => by
    have e := inS_len ys a i out j
    obtain ⟨h1, h2, h3⟩ := inS_ok hy ho ha i j
    have hmu := mul_limb ha (hy j)
    have hlo := h1 (i + j)
    rw [show k + (r + 1) + 1 = (k + r + 1) + 1 from by omega]
    conv => lhs; simp only [bigint_times.l1]
    rw [if_pos (by omega), if_pos (by omega), if_pos (by omega), wrap_id (x := (i : Int) + j) (by omega), if_pos (by omega), if_pos (by rw [e]; omega)]
    rw [show (i : Int) + (j : Int) = ((i + j : Nat) : Int) from by omega, rd_nat, rd_nat, wrap_id (x := a * ys[j]?.getD 0) (by omega), wrap_id (x := (inS ys a i out j).1[i + j]?.getD 0 + a * ys[j]?.getD 0) (by omega), wrap_id (x := (inS ys a i out j).2 + _) (by omega)]
    rw [Int.tmod_eq_emod_of_nonneg (by omega), Int.tdiv_eq_ediv_of_nonneg (by omega), wrap_id (x := _ / 1000000000) (by omega), wrap_id (x := (j : Int) + 1) (by omega), Int.toNat_natCast]
    exact times_l1 xs ys hy hm a ha n i hi out ho hl hl2 k r (j + 1) (by omega)
theorem times_l0 (xs ys : List Int) (hx : limbs xs) (hy : limbs ys) (hn : xs.length ≤ 1000000) (hm : ys.length ≤ 1000000) (K : Nat) (hK : xs.length + ys.length < K) :
    ∀ r i, i + r = xs.length → bigint_times.l0 (K + r * (ys.length + 2) + 1) ys (rowF xs ys i) xs (xs.length : Int) i = some (tl (rowF xs ys xs.length))
  | 0, i, h => by
    obtain rfl : i = xs.length := by omega
    rw [Nat.zero_mul, Nat.add_zero]
    simp only [bigint_times.l0]
    rw [if_neg (by omega), trim_tl _ (by rw [rowF_len]; omega) K (by rw [rowF_len]; omega)]
    rfl
  | r + 1, i, h => by
    have ih := times_l0 xs ys hx hy hn hm K hK r (i + 1) (by omega)
    have hl := rowF_len xs ys i
    have hin := times_l1 xs ys hy hm (xs[i]?.getD 0) (hx i) (xs.length : Int) i (by omega) (rowF xs ys i) (rowF_ok hx hy i) (by omega) (by omega) (K + r * (ys.length + 2) + 1) ys.length 0 (by omega)
    rw [show K + (r + 1) * (ys.length + 2) + 1 = (K + r * (ys.length + 2) + 1 + ys.length + 1) + 1 from by rw [Nat.add_mul]; omega]
    conv => lhs; simp only [bigint_times.l0]
    rw [if_pos (by omega), if_pos (by omega), if_pos (by omega), rd_nat]
    exact hin.trans ih
theorem times_f (xs ys : List Int) (hx : limbs xs) (hy : limbs ys) (hn : xs.length ≤ 1000000) (hm : ys.length ≤ 1000000) : ∃ k, bigint_times.f k xs ys = some (tl (rowF xs ys xs.length)) := by
  refine ⟨xs.length + ys.length + 1 + xs.length * (ys.length + 2) + 1, ?_⟩
  unfold bigint_times.f
  rw [wrap_id (by omega), if_pos (by omega), if_pos (by omega), show ((xs.length : Int) + (ys.length : Int)).toNat = xs.length + ys.length from by omega]
  exact times_l0 xs ys hx hy hn hm (xs.length + ys.length + 1) (by omega) xs.length 0 (by omega)

/-! From rows to magnitudes and back. -/
theorem row_of_ri {n₀ : Nat} {w : World} {A : Option Addr} {n : Nat} {xs : List Int} (h : RI n₀ w A n xs) : Kd.C (Kd.int .i64) w A n xs :=
  ⟨h.1, h.2.1, fun hn => by
    obtain ⟨ad, e, _, hc⟩ := h.2.2 hn
    refine ⟨ad, e, fun j p hp => ?_⟩
    have hj : j < n := by have := (List.getElem?_eq_some_iff.1 hp).1; rw [h.1] at this; exact this
    have hcj := hc j hj
    rw [hp, Option.getD_some] at hcj
    refine ⟨[.int .i64 p], rfl, rfl, fun i u hu => ?_⟩
    have hi : i = 0 := by have := (List.getElem?_eq_some_iff.1 hu).1; simpa using this
    subst hi
    cases hu
    rw [show (Kd.int IntKind.i64).sz = 1 from rfl, Nat.mul_one, Nat.add_zero]
    exact hcj⟩
theorem ri_of_row {w : World} {A : Option Addr} {n : Nat} {xs : List Int} (h : Kd.C (Kd.int .i64) w A n xs) : RI w.heap.size w A n xs := by
  have hcell : 0 < n → ∃ ad, A = some ad ∧ ∀ j, j < n → w.cell? (ad.add j) = some (.int .i64 (xs[j]?.getD 0)) := fun hn => by
    obtain ⟨ad, e, hc⟩ := h.2.2 hn
    refine ⟨ad, e, fun j hj => ?_⟩
    have hjl : j < xs.length := by rw [h.1]; exact hj
    obtain ⟨c, hl, hk, hcc⟩ := hc j _ (List.getElem?_eq_getElem hjl)
    have hk2 : c = [.int .i64 xs[j]] := hk
    subst hk2
    have := hcc 0 (.int .i64 xs[j]) rfl
    rw [show (Kd.int IntKind.i64).sz = 1 from rfl, Nat.mul_one, Nat.add_zero] at this
    rw [this, List.getElem?_eq_getElem hjl]; rfl
  refine ⟨h.1, h.2.1, fun hn => ?_⟩
  obtain ⟨ad, e, hc⟩ := hcell hn
  refine ⟨ad, e, ?_, hc⟩
  have h0 := hc 0 hn
  rw [World.cell?, add_block] at h0
  cases hb : w.heap[ad.block]? with
  | none => rw [hb] at h0; cases h0
  | some o => exact (Array.getElem?_eq_some_iff.1 hb).1
theorem mag_of_V {w w0 : World} {ok : Nat → Prop} {v : Value} {xs : List Int} {x : Int} {L : Nat} (h : Kd.V (Kd.int .i64) 3 w w0.heap.size ok v xs) (hl : limbs xs) (ht : topped xs) (hx : lval xs = x) (hL : xs.length ≤ L) : Mag w v x L := by
  obtain ⟨A, c, rfl, hlc, hF⟩ := h
  exact ⟨A, xs.length, c, xs, rfl, ri_of_row (Kd.F_now hF), hl, ht, hlc, trivial, hL, hx⟩
end Go.Proofs.YtlefniheafefgaaGreatDoor
