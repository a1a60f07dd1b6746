/- Plain arithmetic of canonical decimal numerals: a numeral's value, the canonical numeral of a number, limbs of base 1000000000. No program in sight. · What limbs are worth: sums, differences and the order of magnitudes, in plain Lean. · Numbers in values: a magnitude in a slice, a number in a pair; the sum of two numbers, and what a numeral's groups of digits are worth. -/
import Derived.Lib.ItoaNum
import Derived.Lib.AtoiAll
import Derived.Test.YtlefniheafefgaaGreatDoorSums
set_option linter.unusedVariables false
set_option linter.unusedSimpArgs false
namespace Go.Proofs.YtlefniheafefgaaGreatDoor
open Go.Lib (decDigits itoa nDigits)

/-- The value of a list of digits. -/
def dval (l : List UInt8) : Nat := l.foldl (fun n c => n * 10 + (c.toNat - 48)) 0
def isDig (c : UInt8) : Bool := 48 ≤ c.toNat && c.toNat ≤ 57
def allDig (l : List UInt8) : Bool := l.all isDig

theorem dval_from (l : List UInt8) : ∀ n, l.foldl (fun n c => n * 10 + (c.toNat - 48)) n = n * 10 ^ l.length + dval l := by
  unfold dval
  induction l with
  | nil => intro n; simp
  | cons c l ih =>
    intro n
    rw [List.foldl_cons, ih, List.foldl_cons, ih (0 * 10 + (c.toNat - 48)), List.length_cons, Nat.pow_succ]
    generalize 10 ^ l.length = p
    rw [Nat.zero_mul, Nat.zero_add, Nat.add_mul, Nat.mul_assoc, Nat.mul_comm 10 p, Nat.add_assoc]

theorem dval_nil : dval [] = 0 := rfl
theorem dval_append (l m : List UInt8) : dval (l ++ m) = dval l * 10 ^ m.length + dval m := by
  unfold dval; rw [List.foldl_append, dval_from]; rfl
theorem dval_snoc (l : List UInt8) (c : UInt8) : dval (l ++ [c]) = dval l * 10 + (c.toNat - 48) := by
  rw [dval_append]; simp [dval]
theorem dval_cons (c : UInt8) (l : List UInt8) : dval (c :: l) = (c.toNat - 48) * 10 ^ l.length + dval l := by
  have := dval_append [c] l; simpa [dval] using this

theorem isDig_iff (c : UInt8) : isDig c = true ↔ 48 ≤ c.toNat ∧ c.toNat ≤ 57 := by simp [isDig]

theorem dval_lt : ∀ (l : List UInt8), allDig l = true → dval l < 10 ^ l.length
  | [], _ => by simp [dval]
  | c :: l, h => by
    simp only [allDig, List.all_cons, Bool.and_eq_true] at h
    have h1 := (isDig_iff c).1 h.1
    have h2 := dval_lt l h.2
    rw [dval_cons, List.length_cons, Nat.pow_succ]
    have : (c.toNat - 48) * 10 ^ l.length ≤ 9 * 10 ^ l.length := Nat.mul_le_mul_right _ (by omega)
    omega

theorem toNat_dig (d : Nat) (h : d < 10) : (UInt8.ofNat (48 + d)).toNat = 48 + d := by
  rw [UInt8.toNat_ofNat']; omega

theorem decDigits_small {u : Nat} (h : u < 10) : decDigits u = [UInt8.ofNat (48 + u)] := by rw [decDigits, dif_pos h]
theorem decDigits_big {u : Nat} (h : ¬ u < 10) : decDigits u = decDigits (u / 10) ++ [UInt8.ofNat (48 + u % 10)] := by rw [decDigits, dif_neg h]

theorem dval_decDigits (u : Nat) : dval (decDigits u) = u := by
  induction u using Nat.strongRecOn with
  | _ u ih =>
    by_cases h : u < 10
    · rw [decDigits_small h]
      have e : dval [UInt8.ofNat (48 + u)] = (UInt8.ofNat (48 + u)).toNat - 48 := by unfold dval; rw [List.foldl_cons, List.foldl_nil]; omega
      rw [e, toNat_dig u h]; omega
    · rw [decDigits_big h, dval_snoc, ih (u / 10) (by omega), toNat_dig _ (Nat.mod_lt _ (by omega))]
      omega

theorem allDig_append (l m : List UInt8) : allDig (l ++ m) = (allDig l && allDig m) := by simp [allDig]
theorem allDig_decDigits (u : Nat) : allDig (decDigits u) = true := by
  induction u using Nat.strongRecOn with
  | _ u ih =>
    by_cases h : u < 10
    · rw [decDigits_small h]
      have := toNat_dig u h
      simp only [allDig, List.all_cons, List.all_nil, Bool.and_true, isDig_iff]; omega
    · rw [decDigits_big h, allDig_append, ih (u / 10) (by omega)]
      have := toNat_dig (u % 10) (Nat.mod_lt _ (by omega))
      simp only [allDig, List.all_cons, List.all_nil, Bool.and_true, Bool.true_and, isDig_iff]; omega

theorem decDigits_ne_nil (u : Nat) : decDigits u ≠ [] := by
  by_cases h : u < 10
  · rw [decDigits_small h]; simp
  · rw [decDigits_big h]; simp

/-- The first digit of a number other than 0 is no 0. -/
theorem decDigits_head (u : Nat) (hu : u ≠ 0) : ∃ c l, decDigits u = c :: l ∧ 49 ≤ c.toNat ∧ c.toNat ≤ 57 := by
  induction u using Nat.strongRecOn with
  | _ u ih =>
    by_cases h : u < 10
    · have := toNat_dig u h
      exact ⟨_, [], decDigits_small h, by omega, by omega⟩
    · obtain ⟨c, l, hc, h1, h2⟩ := ih (u / 10) (by omega) (by omega)
      exact ⟨c, l ++ [UInt8.ofNat (48 + u % 10)], by rw [decDigits_big h, hc]; rfl, h1, h2⟩

/-- A canonical numeral of a number that is not negative. -/
def canonN (l : List UInt8) : Bool := l == [48] || (allDig l && !(l.head? == some 48) && !l.isEmpty)
/-- A canonical numeral. -/
def canon (l : List UInt8) : Bool := match l with
  | 45 :: r => canonN r && !(r == [48])
  | l => canonN l
/-- The value of a canonical numeral. -/
def ival (l : List UInt8) : Int := match l with
  | 45 :: r => -(dval r : Int)
  | l => (dval l : Int)

theorem dval_pos_of_head (c : UInt8) (l : List UInt8) (h : 49 ≤ c.toNat) : 10 ^ l.length ≤ dval (c :: l) := by
  rw [dval_cons]
  have : 1 * 10 ^ l.length ≤ (c.toNat - 48) * 10 ^ l.length := Nat.mul_le_mul_right _ (by omega)
  omega

theorem u8_ext {a b : UInt8} (h : a.toNat = b.toNat) : a = b := UInt8.toNat_inj.1 h

theorem decDigits_snoc (n d : Nat) (hn : n ≠ 0) (hd : d < 10) : decDigits (n * 10 + d) = decDigits n ++ [UInt8.ofNat (48 + d)] := by
  rw [decDigits_big (by omega)]
  congr 2
  · congr 1; omega
  · congr 2; omega

/-- Digits without a 0 in front are the numeral of their value. -/
theorem decDigits_dval (l : List UInt8) (h : allDig l = true) (hh : ∃ c r, l = c :: r ∧ c ≠ 48) : decDigits (dval l) = l := by
  obtain ⟨c, r, rfl, hc⟩ := hh
  have hc' : 49 ≤ c.toNat ∧ c.toNat ≤ 57 := by
    simp only [allDig, List.all_cons, Bool.and_eq_true] at h
    have := (isDig_iff c).1 h.1
    have : c.toNat ≠ 48 := fun e => hc (u8_ext (by simpa using e))
    omega
  clear hc
  suffices H : ∀ (m : List UInt8) (k : Nat), m.length = k → allDig (c :: m) = true → decDigits (dval (c :: m)) = c :: m from H r _ rfl h
  intro m k
  induction k generalizing m with
  | zero =>
    intro hm _
    obtain rfl : m = [] := List.eq_nil_of_length_eq_zero hm
    have e : dval [c] = c.toNat - 48 := by simp [dval]
    rw [e, decDigits_small (by omega)]
    congr 1
    exact u8_ext (by rw [toNat_dig _ (by omega)]; omega)
  | succ k ih =>
    intro hm hd
    have hne : m ≠ [] := by intro e; subst e; simp at hm
    obtain ⟨m', x, rfl⟩ : ∃ m' x, m = m' ++ [x] := ⟨m.dropLast, m.getLast hne, (List.dropLast_concat_getLast hne).symm⟩
    have hd' : allDig (c :: m') = true ∧ allDig [x] = true := by
      rw [← List.cons_append, allDig_append] at hd
      simpa using hd
    have hx : 48 ≤ x.toNat ∧ x.toNat ≤ 57 := by
      have := hd'.2
      simp only [allDig, List.all_cons, List.all_nil, Bool.and_true] at this
      exact (isDig_iff x).1 this
    have hpos := dval_pos_of_head c m' hc'.1
    have hp : 0 < 10 ^ m'.length := Nat.pow_pos (by omega)
    rw [← List.cons_append, dval_snoc, decDigits_snoc _ _ (by omega) (by omega), ih m' (by simp at hm; omega) hd'.1]
    congr 2
    exact u8_ext (by rw [toNat_dig _ (by omega)]; omega)

theorem canonN_decDigits (u : Nat) : canonN (decDigits u) = true := by
  by_cases h : u = 0
  · subst h; rw [decDigits_small (by omega)]; rfl
  · obtain ⟨c, l, hc, h1, h2⟩ := decDigits_head u h
    have hd := allDig_decDigits u
    rw [hc] at hd ⊢
    have : c ≠ 48 := by intro e; subst e; simp at h1
    simp [canonN, hd, this]

theorem decDigits_of_canonN (l : List UInt8) (h : canonN l = true) : decDigits (dval l) = l := by
  unfold canonN at h
  simp only [Bool.or_eq_true, Bool.and_eq_true, beq_iff_eq] at h
  rcases h with rfl | ⟨⟨h1, h2⟩, h3⟩
  · have e : dval [48] = 0 := by simp [dval]
    rw [e, decDigits_small (by omega)]; rfl
  · refine decDigits_dval l h1 ?_
    cases l with
    | nil => simp at h3
    | cons c r => exact ⟨c, r, rfl, by intro e; subst e; simp at h2⟩

theorem decDigits_no_minus (u : Nat) (r : List UInt8) : decDigits u ≠ 45 :: r := by
  intro e
  have := allDig_decDigits u
  rw [e] at this
  simp [allDig, isDig] at this

theorem canon_itoa (n : Int) : canon (itoa n) = true := by
  unfold itoa
  split
  · rename_i h
    have h0 : decDigits n.natAbs ≠ [48] := by
      obtain ⟨c, l, hc, h1, h2⟩ := decDigits_head n.natAbs (by omega)
      rw [hc]; intro e; injection e with e; subst e; simp at h1
    simp [canon, canonN_decDigits, h0]
  · have hm := decDigits_no_minus n.toNat
    have hc := canonN_decDigits n.toNat
    generalize decDigits n.toNat = l at hm hc
    unfold canon
    split
    · exact absurd rfl (hm _)
    · exact hc

theorem ival_itoa (n : Int) : ival (itoa n) = n := by
  unfold itoa
  split
  · simp only [ival, dval_decDigits]; omega
  · have hm := decDigits_no_minus n.toNat
    have hv := dval_decDigits n.toNat
    generalize decDigits n.toNat = l at hm hv
    unfold ival
    split
    · exact absurd rfl (hm _)
    · omega

theorem itoa_ival (l : List UInt8) (h : canon l = true) : itoa (ival l) = l := by
  unfold canon at h
  split at h
  · rename_i r
    simp only [Bool.and_eq_true, Bool.not_eq_true', beq_eq_false_iff_ne] at h
    have hd := decDigits_of_canonN r h.1
    have h0 : dval r ≠ 0 := by
      intro e; rw [e, decDigits_small (by omega)] at hd; exact h.2 hd.symm
    have : ival (45 :: r) = -(dval r : Int) := rfl
    rw [this]; unfold itoa
    rw [if_pos (by omega), show (-(dval r : Int)).natAbs = dval r from by omega, hd]
  · rename_i hne
    have e : ival l = (dval l : Int) := by
      unfold ival; split
      · exact absurd rfl (hne _)
      · rfl
    rw [e]; unfold itoa
    rw [if_neg (by omega), show (dval l : Int).toNat = dval l from by omega]
    exact decDigits_of_canonN l h

/-- The canonical integer of a number, as the program has it. -/
def text (n : Int) : ByteArray := ⟨(itoa n).toArray⟩
theorem text_list (n : Int) : (text n).data.toList = itoa n := by simp [text]
theorem text_inj {m n : Int} (h : text m = text n) : m = n := by
  have := congrArg (fun s : ByteArray => ival s.data.toList) h
  simpa [text_list, ival_itoa] using this
theorem bytes_ext {a b : ByteArray} (h : a.data.toList = b.data.toList) : a = b := by
  cases a; cases b; congr 1; exact Array.toList_inj.1 h
theorem text_of_canon (s : ByteArray) (h : canon s.data.toList = true) : ∃ n, s = text n :=
  ⟨ival s.data.toList, bytes_ext (by rw [text_list, itoa_ival _ h])⟩
theorem text_size (n : Int) : (text n).size = (if n < 0 then 1 else 0) + nDigits n.natAbs := by
  have : (text n).size = (itoa n).length := by simp [text, ByteArray.size]
  rw [this]; unfold itoa
  split
  · rw [List.length_cons, Go.Lib.decDigits_length]; omega
  · rw [Go.Lib.decDigits_length]; rw [show n.toNat = n.natAbs from by omega]; omega

end Go.Proofs.YtlefniheafefgaaGreatDoor

namespace Go.Proofs.YtlefniheafefgaaGreatDoor
open Go.RowKit

/-- The value of the lowest k limbs. -/
def pval (xs : List Int) : Nat → Int
  | 0 => 0
  | k + 1 => pval xs k + xs[k]?.getD 0 * 1000000000 ^ k
/-- The value of all limbs. -/
def lval (xs : List Int) : Int := pval xs xs.length

theorem base_pos (k : Nat) : (0 : Int) < 1000000000 ^ k := Int.pow_pos (by omega)
theorem base_succ (k : Nat) : (1000000000 : Int) ^ (k + 1) = 1000000000 * 1000000000 ^ k := by rw [Int.pow_succ, Int.mul_comm]
theorem getD_out (xs : List Int) (k : Nat) (h : xs.length ≤ k) : xs[k]?.getD 0 = 0 := by rw [List.getElem?_eq_none h]; rfl
theorem pval_congr {xs ys : List Int} : ∀ k, (∀ i, i < k → xs[i]?.getD 0 = ys[i]?.getD 0) → pval xs k = pval ys k
  | 0, _ => rfl
  | k + 1, h => by rw [pval, pval, pval_congr k (fun i hi => h i (by omega)), h k (by omega)]
theorem pval_set (xs : List Int) (i : Nat) (v : Int) (k : Nat) (h : k ≤ i) : pval (xs.set i v) k = pval xs k :=
  pval_congr k (fun j hj => by rw [List.getElem?_set_ne (by omega)])
theorem pval_set_last (xs : List Int) (i : Nat) (v : Int) (h : i < xs.length) : pval (xs.set i v) (i + 1) = pval xs i + v * 1000000000 ^ i := by
  rw [pval, pval_set _ _ _ _ (Nat.le_refl _), List.getElem?_set_self h]; rfl
theorem pval_long (xs : List Int) (k : Nat) (h : xs.length ≤ k) : ∀ j, pval xs (k + j) = pval xs k
  | 0 => rfl
  | j + 1 => by rw [← Nat.add_assoc, pval, pval_long xs k h j, getD_out xs (k + j) (by omega)]; omega
theorem pval_all (xs : List Int) (k : Nat) (h : xs.length ≤ k) : pval xs k = lval xs := by
  obtain ⟨j, rfl⟩ : ∃ j, k = xs.length + j := ⟨k - xs.length, by omega⟩
  exact pval_long xs _ (Nat.le_refl _) j
theorem pval_nonneg {xs : List Int} (hx : limbs xs) : ∀ k, 0 ≤ pval xs k
  | 0 => Int.le_refl _
  | k + 1 => by
    have h := Int.mul_nonneg (hx k).1 (Int.le_of_lt (base_pos k))
    have := pval_nonneg hx k
    rw [pval]; omega
theorem pval_lt {xs : List Int} (hx : limbs xs) : ∀ k, pval xs k < 1000000000 ^ k
  | 0 => by simp [pval]
  | k + 1 => by
    have h := pval_lt hx k
    have h2 : xs[k]?.getD 0 * 1000000000 ^ k ≤ 999999999 * 1000000000 ^ k := Int.mul_le_mul_of_nonneg_right (by have := (hx k).2; omega) (Int.le_of_lt (base_pos k))
    rw [pval, base_succ]; omega
theorem lval_nonneg {xs : List Int} (hx : limbs xs) : 0 ≤ lval xs := pval_nonneg hx _
theorem lval_lt {xs : List Int} (hx : limbs xs) : lval xs < 1000000000 ^ xs.length := pval_lt hx _

theorem pval_tlen (xs : List Int) : ∀ n, pval xs (tlen xs n) = pval xs n
  | 0 => rfl
  | n + 1 => by
    unfold tlen
    split
    · rename_i h
      rw [pval_tlen xs n, pval, h]; omega
    · rfl
theorem tlen_top (xs : List Int) : ∀ n, tlen xs n = 0 ∨ xs[tlen xs n - 1]?.getD 0 ≠ 0
  | 0 => Or.inl rfl
  | n + 1 => by
    unfold tlen
    split
    · exact tlen_top xs n
    · rename_i h
      exact Or.inr h
theorem take_getD (xs : List Int) (m i : Nat) (h : i < m) : (xs.take m)[i]?.getD 0 = xs[i]?.getD 0 := by rw [List.getElem?_take_of_lt h]
theorem pval_take (xs : List Int) (m : Nat) : pval (xs.take m) m = pval xs m := pval_congr m (fun i hi => take_getD xs m i hi)
theorem limbs_take {xs : List Int} (hx : limbs xs) (m : Nat) : limbs (xs.take m) := fun i => by
  by_cases h : i < m
  · rw [take_getD xs m i h]; exact hx i
  · rw [getD_out _ _ (by simp; omega)]; omega
theorem tl_len (xs : List Int) : (tl xs).length = tlen xs xs.length := by
  have := tlen_le xs xs.length
  simp [tl]; omega
theorem tl_val (xs : List Int) : lval (tl xs) = lval xs := by
  rw [lval, tl_len, tl, pval_take, pval_tlen]; rfl
theorem tl_limbs {xs : List Int} (hx : limbs xs) : limbs (tl xs) := limbs_take hx _
/-- The highest limb is no 0. -/
def topped (xs : List Int) : Prop := xs.length = 0 ∨ xs[xs.length - 1]?.getD 0 ≠ 0
theorem tl_topped (xs : List Int) : topped (tl xs) := by
  unfold topped
  rw [tl_len]
  rcases tlen_top xs xs.length with h | h
  · exact Or.inl h
  · by_cases h0 : tlen xs xs.length = 0
    · exact Or.inl h0
    · exact Or.inr (by rw [tl, take_getD _ _ _ (by omega)]; exact h)

theorem topped_ge {xs : List Int} (hx : limbs xs) (ht : topped xs) (h : 0 < xs.length) : 1000000000 ^ (xs.length - 1) ≤ lval xs := by
  obtain ⟨n, hn⟩ : ∃ n, xs.length = n + 1 := ⟨xs.length - 1, by omega⟩
  rcases ht with h0 | ht
  · omega
  · rw [lval, hn, pval]
    rw [hn] at ht
    simp only [Nat.add_sub_cancel] at ht ⊢
    have h1 := pval_nonneg hx n
    have h2 := (hx n).1
    have h3 : 1 * 1000000000 ^ n ≤ xs[n]?.getD 0 * 1000000000 ^ n := Int.mul_le_mul_of_nonneg_right (by omega) (Int.le_of_lt (base_pos n))
    omega
theorem base_mono {m n : Nat} (h : m ≤ n) : (1000000000 : Int) ^ m ≤ 1000000000 ^ n := by
  obtain ⟨j, rfl⟩ := Nat.exists_eq_add_of_le h
  rw [Int.pow_add]
  have h1 : (1000000000 : Int) ^ m * 1 ≤ 1000000000 ^ m * 1000000000 ^ j := Int.mul_le_mul_of_nonneg_left (by have := base_pos j; omega) (Int.le_of_lt (base_pos m))
  omega
theorem lval_zero {xs : List Int} (hx : limbs xs) (ht : topped xs) : lval xs = 0 ↔ xs.length = 0 := by
  constructor
  · intro h
    by_cases h0 : xs.length = 0
    · exact h0
    · have := topped_ge hx ht (by omega)
      have := base_pos (xs.length - 1)
      omega
  · intro h; rw [lval, h]; rfl
theorem len_le_of_lval {xs ys : List Int} (hx : limbs xs) (hy : limbs ys) (ht : topped ys) (h : lval ys ≤ lval xs) : ys.length ≤ xs.length := by
  by_cases h0 : ys.length ≤ xs.length
  · exact h0
  · have h1 := topped_ge hy ht (by omega)
    have h2 := lval_lt hx
    have h3 := base_mono (m := xs.length) (n := ys.length - 1) (by omega)
    omega

theorem plS_eq (xs ys : List Int) (k : Nat) (c : Int) : plS xs ys k c = c + xs[k]?.getD 0 + ys[k]?.getD 0 := by
  unfold plS
  by_cases h1 : k < xs.length
  · by_cases h2 : k < ys.length
    · rw [if_pos h1, if_pos h2]
    · rw [if_pos h1, if_neg h2, getD_out ys k (by omega)]
  · by_cases h2 : k < ys.length
    · rw [if_neg h1, if_pos h2, getD_out xs k (by omega)]
    · rw [if_neg h1, if_neg h2, getD_out xs k (by omega), getD_out ys k (by omega)]
theorem carry_law (s p : Int) : s % 1000000000 * p + s / 1000000000 * (1000000000 * p) = s * p := by
  have h : s % 1000000000 + 1000000000 * (s / 1000000000) = s := Int.emod_add_mul_ediv s 1000000000
  have h2 := congrArg (· * p) h
  simp only [Int.add_mul] at h2
  rw [← h2]
  congr 1
  rw [Int.mul_left_comm, Int.mul_assoc]
theorem plF_val (xs ys : List Int) : ∀ k, k ≤ xs.length + 1 → pval (plF xs ys k).1 k + (plF xs ys k).2 * 1000000000 ^ k = pval xs k + pval ys k
  | 0, _ => by simp [plF, pval]
  | k + 1, h => by
    have ih := plF_val xs ys k (by omega)
    have hl := plF_len xs ys k
    have hc := carry_law (plS xs ys k (plF xs ys k).2) (1000000000 ^ k)
    rw [plF, pval_set_last _ _ _ (by omega), base_succ, pval, pval]
    dsimp only
    rw [Int.add_assoc, hc, plS_eq, Int.add_mul, Int.add_mul]
    omega
theorem plF_limbs (xs ys : List Int) : ∀ k, limbs (plF xs ys k).1
  | 0 => fun i => by
    by_cases h : i < xs.length + 1
    · simp [plF, List.getElem?_replicate, h]
    · simp [plF, List.getElem?_replicate, h]
  | k + 1 => fun i => by
    rw [plF]
    dsimp only
    by_cases e : k = i
    · subst e
      by_cases h : k < (plF xs ys k).1.length
      · rw [List.getElem?_set_self h]; simp only [Option.getD_some]; omega
      · rw [List.getElem?_eq_none (by simpa using h)]; simp
    · rw [List.getElem?_set_ne e]; exact plF_limbs xs ys k i
theorem plF_all {xs ys : List Int} (hx : limbs xs) (hy : limbs ys) (hl : ys.length ≤ xs.length) : lval (plF xs ys (xs.length + 1)).1 = lval xs + lval ys := by
  have h := plF_val xs ys (xs.length + 1) (Nat.le_refl _)
  have hc : (plF xs ys (xs.length + 1)).2 = 0 := by
    have := plF_carry hx hy xs.length
    rw [plF]
    dsimp only
    rw [plS_eq, getD_out xs _ (Nat.le_refl _), getD_out ys _ hl]
    omega
  rw [hc, pval_all xs _ (by omega), pval_all ys _ (by omega)] at h
  rw [lval, plF_len]
  omega
theorem plL_val {xs ys : List Int} (hx : limbs xs) (hy : limbs ys) : lval (plL xs ys) = lval xs + lval ys := by
  unfold plL
  split
  · rw [plF_all hy hx (by omega)]; omega
  · exact plF_all hx hy (by omega)
theorem plL_limbs (xs ys : List Int) : limbs (plL xs ys) := by
  unfold plL
  split <;> exact plF_limbs _ _ _

theorem mnS_eq (xs ys : List Int) (k : Nat) (c : Int) : mnS xs ys k c = xs[k]?.getD 0 - c - ys[k]?.getD 0 := by
  unfold mnS
  split
  · rfl
  · rw [getD_out ys k (by omega)]
theorem mnF_val (xs ys : List Int) : ∀ k, k ≤ xs.length → pval (mnF xs ys k).1 k - (mnF xs ys k).2 * 1000000000 ^ k = pval xs k - pval ys k
  | 0, _ => by simp [mnF, pval]
  | k + 1, h => by
    have ih := mnF_val xs ys k (by omega)
    have hl := mnF_len xs ys k
    have hs := mnS_eq xs ys k (mnF xs ys k).2
    have hm := congrArg (· * (1000000000 : Int) ^ k) hs
    simp only [Int.sub_mul] at hm
    rw [mnF]
    split
    · dsimp only
      rw [pval_set_last _ _ _ (by omega), base_succ, pval, pval, Int.add_mul]
      omega
    · dsimp only
      rw [pval_set_last _ _ _ (by omega), pval, pval]
      omega
theorem mnF_limbs {xs ys : List Int} (hx : limbs xs) (hy : limbs ys) : ∀ k, limbs (mnF xs ys k).1
  | 0 => fun i => by
    by_cases h : i < xs.length
    · simp [mnF, List.getElem?_replicate, h]
    · simp [mnF, List.getElem?_replicate, h]
  | k + 1 => fun i => by
    have hs := mnS_eq xs ys k (mnF xs ys k).2
    have hb := mnF_borrow xs ys k
    have h1 := hx k
    have h2 := hy k
    have ih := mnF_limbs hx hy k
    rw [mnF]
    split <;> dsimp only
    all_goals
      by_cases e : k = i
      · subst e
        by_cases h : k < (mnF xs ys k).1.length
        · rw [List.getElem?_set_self h]; simp only [Option.getD_some]; omega
        · rw [List.getElem?_eq_none (by simpa using h)]; simp
      · rw [List.getElem?_set_ne e]; exact ih i
theorem mnL_limbs {xs ys : List Int} (hx : limbs xs) (hy : limbs ys) : limbs (mnL xs ys) := mnF_limbs hx hy _
theorem mnL_val {xs ys : List Int} (hx : limbs xs) (hy : limbs ys) (ht : topped ys) (hle : lval ys ≤ lval xs) : lval (mnL xs ys) = lval xs - lval ys := by
  have h := mnF_val xs ys xs.length (Nat.le_refl _)
  have hlen := len_le_of_lval hx hy ht hle
  have hb := mnF_borrow xs ys xs.length
  have hv := lval_lt (mnL_limbs hx hy)
  rw [pval_all ys _ hlen, pval_all xs _ (Nat.le_refl _)] at h
  have e : lval (mnL xs ys) = pval (mnF xs ys xs.length).1 xs.length := by rw [lval, mnL, mnF_len]
  rw [mnL, mnF_len, ← mnL] at hv
  have hp := base_pos xs.length
  rcases (show (mnF xs ys xs.length).2 = 0 ∨ (mnF xs ys xs.length).2 = 1 by omega) with h0 | h1
  · rw [h0] at h; omega
  · rw [h1] at h; omega

theorem ordN_val {xs ys : List Int} (hx : limbs xs) (hy : limbs ys) : ∀ k, (ordN xs ys k < 0 ↔ pval xs k < pval ys k) ∧ (ordN xs ys k = 0 ↔ pval xs k = pval ys k)
  | 0 => by simp [ordN, pval]
  | k + 1 => by
    have ih := ordN_val hx hy k
    have h1 := hx k
    have h2 := hy k
    rw [ordN, pval, pval]
    split
    · rename_i h; rw [h]; constructor <;> omega
    · rename_i h
      have hw : wrap64 (xs[k]?.getD 0 - ys[k]?.getD 0) = xs[k]?.getD 0 - ys[k]?.getD 0 := by unfold wrap64; omega
      rw [hw]
      have a1 := pval_lt hx k
      have a2 := pval_lt hy k
      have a3 := pval_nonneg hx k
      have a4 := pval_nonneg hy k
      by_cases hlt : xs[k]?.getD 0 < ys[k]?.getD 0
      · have := Int.mul_le_mul_of_nonneg_right (show xs[k]?.getD 0 + 1 ≤ ys[k]?.getD 0 by omega) (Int.le_of_lt (base_pos k))
        rw [Int.add_mul] at this
        constructor <;> omega
      · have := Int.mul_le_mul_of_nonneg_right (show ys[k]?.getD 0 + 1 ≤ xs[k]?.getD 0 by omega) (Int.le_of_lt (base_pos k))
        rw [Int.add_mul] at this
        constructor <;> omega
theorem ordL_val {xs ys : List Int} (hx : limbs xs) (hy : limbs ys) (tx : topped xs) (ty : topped ys) : (ordL xs ys < 0 ↔ lval xs < lval ys) ∧ (ordL xs ys = 0 ↔ lval xs = lval ys) := by
  unfold ordL
  split
  · rename_i h
    have := ordN_val hx hy xs.length
    rw [pval_all xs _ (Nat.le_refl _), pval_all ys _ (by omega)] at this
    exact this
  · rename_i h
    by_cases hlt : xs.length < ys.length
    · have : ¬ lval ys ≤ lval xs := fun hle => by have := len_le_of_lval hx hy ty hle; omega
      constructor <;> omega
    · have : ¬ lval xs ≤ lval ys := fun hle => by have := len_le_of_lval hy hx tx hle; omega
      constructor <;> omega
theorem dfL_limbs {xs ys : List Int} (hx : limbs xs) (hy : limbs ys) : limbs (dfL xs ys) := by
  unfold dfL
  split
  · exact mnL_limbs hy hx
  · exact mnL_limbs hx hy
theorem dfL_val {xs ys : List Int} (hx : limbs xs) (hy : limbs ys) (tx : topped xs) (ty : topped ys) : lval (dfL xs ys) = if lval xs < lval ys then lval ys - lval xs else lval xs - lval ys := by
  have h := (ordL_val hx hy tx ty).1
  unfold dfL
  split
  · rename_i h1
    rw [if_pos (h.1 h1), mnL_val hy hx tx (by have := h.1 h1; omega)]
  · rename_i h1
    have h2 : ¬ lval xs < lval ys := fun e => h1 (h.2 e)
    rw [if_neg h2, mnL_val hx hy ty (by omega)]
end Go.Proofs.YtlefniheafefgaaGreatDoor

namespace Go.Proofs.YtlefniheafefgaaGreatDoor
open Go.RowKit Go.Shelf Go.Proofs.YtlefniheafefgaaGreatDoorW.PrintWords

/-- A magnitude of at most L limbs, without a 0 at its end, in a slice. -/
def Mag (w : World) (v : Value) (x : Int) (L : Nat) : Prop := ∃ A n c xs, v = .slice A n c ∧ RI w.heap.size w A n xs ∧ limbs xs ∧ topped xs ∧ n ≤ c ∧ True ∧ n ≤ L ∧ lval xs = x
/-- A number. -/
def NumV (w : World) (v : Value) (z : Int) (L : Nat) : Prop := ∃ b u x, v = .agg #[.bool b, u] ∧ Mag w u x L ∧ z = if b then -x else x
theorem Mag.below {w w1 : World} {v : Value} {x : Int} {L : Nat} (h : Mag w v x L) (hb : Below w.heap.size w w1) : Mag w1 v x L := by
  obtain ⟨A, n, c, xs, rfl, h1, h2, h3, h4, h5, h6, h7⟩ := h
  exact ⟨A, n, c, xs, rfl, (h1.below hb).mono hb.size, h2, h3, h4, h5, h6, h7⟩
theorem NumV.below {w w1 : World} {v : Value} {z : Int} {L : Nat} (h : NumV w v z L) (hb : Below w.heap.size w w1) : NumV w1 v z L := by
  obtain ⟨b, u, x, rfl, h1, h2⟩ := h
  exact ⟨b, u, x, rfl, h1.below hb, h2⟩
theorem Mag.more {w : World} {v : Value} {x : Int} {L M : Nat} (h : Mag w v x L) (hM : L ≤ M) : Mag w v x M := by
  obtain ⟨A, n, c, xs, rfl, h1, h2, h3, h4, h5, h6, h7⟩ := h
  exact ⟨A, n, c, xs, rfl, h1, h2, h3, h4, h5, by omega, h7⟩
theorem NumV.more {w : World} {v : Value} {z : Int} {L M : Nat} (h : NumV w v z L) (hM : L ≤ M) : NumV w v z M := by
  obtain ⟨b, u, x, rfl, h1, h2⟩ := h
  exact ⟨b, u, x, rfl, h1.more hM, h2⟩
theorem Mag.nonneg {w : World} {v : Value} {x : Int} {L : Nat} (h : Mag w v x L) : 0 ≤ x := by
  obtain ⟨A, n, c, xs, rfl, h1, h2, h3, h4, h5, h6, h7⟩ := h
  rw [← h7]; exact lval_nonneg h2
theorem tl_get (l : List Int) (j : Nat) (h : j < tlen l l.length) : (tl l)[j]?.getD 0 = l[j]?.getD 0 := take_getD l _ j h
/-- A row of limbs that a function has made is a magnitude. -/
theorem mag_of_reads {w : World} {A : Option Addr} {l : List Int} {c : Nat} {x : Int} {L : Nat} (h : ReadsInt w .i64 A l.length l) (hA : ∀ ad, A = some ad → ad.block < w.heap.size) (hl : limbs l) (hc : l.length ≤ c) (hc2 : c ≤ 9223372036854775807) (hL : tlen l l.length ≤ L) (hx : lval l = x) : Mag w (.slice A (tlen l l.length) c) x L := by
  have hle := tlen_le l l.length
  refine ⟨A, _, c, tl l, rfl, ⟨tl_len l, by have := h.2.1; omega, fun h0 => ?_⟩, tl_limbs hl, tl_topped l, by omega, trivial, hL, by rw [tl_val, hx]⟩
  obtain ⟨ad, e, hcell⟩ := h.2.2 (by omega)
  refine ⟨ad, e, hA ad e, fun j hj => ?_⟩
  rw [tl_get l j hj, hcell j (by omega), List.getD_eq_getElem?_getD]

theorem sum_num (u v : Value) (x y : Int) (L : Nat) (w : World) (hu : NumV w u x L) (hv : NumV w v y L) (hL : L ≤ 1000000) :
    Calls Tryz.prog 35 #[u, v] w fun e w' => ∃ r, e = .returned r ∧ NumV w' r (x + y) (L + 1) ∧ Below w.heap.size w w' := by
  obtain ⟨b, u', x', rfl, hm, rfl⟩ := hu
  obtain ⟨b2, v', y', rfl, hm2, rfl⟩ := hv
  obtain ⟨A, n, c, xs, rfl, h1, h2, h3, h4, h5, h6, rfl⟩ := hm
  obtain ⟨B, m, e, ys, rfl, k1, k2, k3, k4, k5, k6, rfl⟩ := hm2
  by_cases hb : b2 = b
  · subst hb
    refine (sum_same A B n m c e xs ys b2 w h1 k1 h2 k2 (by omega) (by omega)).mono ?_
    rintro E w' ⟨A', c', rfl, hr, hc1, hc2, hA, hB⟩
    refine ⟨_, rfl, ⟨_, _, _, rfl, mag_of_reads hr (fun ad e => (hA ad e).2) (plL_limbs xs ys) hc1 hc2 (Nat.le_trans (tlen_le _ _) (plL_le xs ys L (by rw [h1.1]; exact h6) (by rw [k1.1]; exact k6))) (plL_val h2 k2), ?_⟩, hB⟩
    cases b2 <;> simp <;> omega
  · obtain rfl : b2 = !b := by cases b <;> cases b2 <;> simp_all
    refine (sum_other A B n m c e xs ys b w h1 k1 h2 k2 (by omega) (by omega)).mono ?_
    rintro E w' ⟨A', c', rfl, hr, hc1, hc2, hA, hB⟩
    refine ⟨_, rfl, ⟨_, _, _, rfl, mag_of_reads hr (fun ad e => (hA ad e).2) (dfL_limbs h2 k2) hc1 hc2 (Nat.le_trans (tlen_le _ _) (Nat.le_succ_of_le (dfL_le xs ys L (by rw [h1.1]; exact h6) (by rw [k1.1]; exact k6)))) (dfL_val h2 k2 h3 k3), ?_⟩, hB⟩
    have ho := (ordL_val h2 k2 h3 k3).1
    by_cases hlt : lval xs < lval ys
    · have hd : decide (ordL xs ys < 0) = true := by simpa using ho.2 hlt
      rw [if_pos hlt, hd]
      cases b <;> simp <;> omega
    · have hd : decide (ordL xs ys < 0) = false := decide_eq_false (fun e => hlt (ho.1 e))
      rw [if_neg hlt, hd]
      cases b <;> simp <;> omega

/-! Groups of nine digits. -/
theorem decFrom_dval : ∀ (l : List UInt8) (acc : Nat), allDig l = true → Lib.decFrom acc l = some (acc * 10 ^ l.length + dval l)
  | [], acc, _ => by simp [Lib.decFrom, dval]
  | c :: l, acc, h => by
    simp only [allDig, List.all_cons, Bool.and_eq_true] at h
    have h1 := (isDig_iff c).1 h.1
    have ih := decFrom_dval l (acc * 10 + (c.toNat - 48)) h.2
    rw [Lib.decFrom, Lib.digitVal, if_pos h1]
    dsimp only
    rw [ih, dval_cons, List.length_cons, Nat.pow_succ, Nat.add_mul]
    congr 1
    rw [show acc * 10 * 10 ^ l.length = acc * (10 ^ l.length * 10) from by rw [Nat.mul_assoc, Nat.mul_comm 10]]
    omega
theorem atoi_dig (l : List UInt8) (h : allDig l = true) (h0 : l ≠ []) : Lib.atoi l = some (dval l : Int) := by
  have hd := decFrom_dval l 0 h
  cases l with
  | nil => exact absurd rfl h0
  | cons c r =>
    simp only [allDig, List.all_cons, Bool.and_eq_true] at h
    have h1 := (isDig_iff c).1 h.1
    have e1 : (c == 45) = false := by simp only [beq_eq_false_iff_ne]; intro e; subst e; simp at h1
    have e2 : (c == 43) = false := by simp only [beq_eq_false_iff_ne]; intro e; subst e; simp at h1
    have e3 : ((c :: r).isEmpty) = false := rfl
    simp [Lib.atoi, e1, e2, Lib.decNat, hd]
theorem chunkB_list (s : ByteArray) (j : Nat) : (chunkB s j).data.toList = (s.data.toList.take (s.size - 9 * j)).drop (s.size - 9 * j - 9) := by
  simp [chunkB, ByteArray.data_extract, Array.toList_extract, List.extract_eq_take_drop, List.drop_take]
  try omega
theorem allDig_sub {l m : List UInt8} (h : allDig l = true) (hs : ∀ c, c ∈ m → c ∈ l) : allDig m = true := List.all_eq_true.2 fun c hc => List.all_eq_true.1 h c (hs c hc)
/-- The value of group j. -/
def chV (s : ByteArray) (j : Nat) : Int := (dval (chunkB s j).data.toList : Int)
theorem chunk_len (s : ByteArray) (j : Nat) : (chunkB s j).data.toList.length ≤ 9 := by rw [chunkB_list]; simp; omega
theorem chunk_dig (s : ByteArray) (h : allDig s.data.toList = true) (j : Nat) : allDig (chunkB s j).data.toList = true := by
  rw [chunkB_list]
  exact allDig_sub h (fun c hc => List.mem_of_mem_take (List.mem_of_mem_drop hc))
theorem chunk_atoi (s : ByteArray) (h : allDig s.data.toList = true) (j : Nat) (hj : j < chunkN s) : Lib.atoi (chunkB s j).data.toList = some (chV s j) := by
  refine atoi_dig _ (chunk_dig s h j) (fun e => ?_)
  have hl := congrArg List.length e
  rw [chunkB_list] at hl
  have hz : s.data.toList.length = s.size := (Lib.size_eq s).symm
  unfold chunkN at hj
  simp only [List.length_drop, List.length_take, List.length_nil, hz] at hl
  omega
theorem chunkL_get (v : Nat → Int) (k i : Nat) : (chunkL v k)[i]?.getD 0 = if i < k then v i else 0 := by
  unfold chunkL
  by_cases h : i < k
  · rw [if_pos h, List.getElem?_map, List.getElem?_range h]; rfl
  · rw [if_neg h, List.getElem?_map, List.getElem?_eq_none (by simp; omega)]; rfl
theorem chunkL_limbs (s : ByteArray) (h : allDig s.data.toList = true) (k : Nat) : limbs (chunkL (chV s) k) := fun i => by
  rw [chunkL_get]
  split
  · have h1 := dval_lt _ (chunk_dig s h i)
    have h2 : 10 ^ (chunkB s i).data.toList.length ≤ 10 ^ 9 := Nat.pow_le_pow_right (by omega) (chunk_len s i)
    unfold chV
    have : (10 : Nat) ^ 9 = 1000000000 := by decide
    omega
  · omega
theorem chunks_pval (s : ByteArray) (K : Nat) (hK : K = chunkN s) : ∀ k, k ≤ K → pval (chunkL (chV s) K) k = (dval (s.data.toList.drop (s.size - 9 * k)) : Int)
  | 0, _ => by
    have hz : s.data.toList.length = s.size := (Lib.size_eq s).symm
    rw [Nat.mul_zero, Nat.sub_zero, ← hz, List.drop_length]; rfl
  | k + 1, h => by
    have hz : s.data.toList.length = s.size := (Lib.size_eq s).symm
    have hk : 9 * k < s.size := by unfold chunkN at hK; omega
    have e : s.data.toList.drop (s.size - 9 * (k + 1)) = (chunkB s k).data.toList ++ s.data.toList.drop (s.size - 9 * k) := by
      rw [chunkB_list, show s.size - 9 * (k + 1) = s.size - 9 * k - 9 from by omega]
      generalize s.data.toList = l at hz ⊢
      have h1 : l = l.take (s.size - 9 * k) ++ l.drop (s.size - 9 * k) := (List.take_append_drop _ l).symm
      conv => lhs; rw [h1]
      rw [List.drop_append_of_le_length (by simp; omega)]
    have hl : (s.data.toList.drop (s.size - 9 * k)).length = 9 * k := by simp; omega
    rw [pval, chunks_pval s K hK k (by omega), chunkL_get, if_pos (by omega), e, dval_append, hl]
    have hp : (1000000000 : Int) ^ k = ((10 ^ (9 * k) : Nat) : Int) := by
      rw [Nat.pow_mul, show (10 : Nat) ^ 9 = 1000000000 from by decide, Int.natCast_pow]; rfl
    rw [hp, chV]
    push_cast
    omega
theorem chunks_val (s : ByteArray) : lval (chunkL (chV s) (chunkN s)) = (dval s.data.toList : Int) := by
  rw [lval, chunkL_len, chunks_pval s _ rfl _ (Nat.le_refl _), show s.size - 9 * chunkN s = 0 from by unfold chunkN; omega, List.drop_zero]
end Go.Proofs.YtlefniheafefgaaGreatDoor
