/- bigint.divide: by less than the divisor, and by a divisor of one limb. -/
import Derived.Test.YtlefniheafefgaaGreatDoorOps
set_option linter.unusedVariables false
set_option linter.unusedSimpArgs false
namespace Go.Proofs.YtlefniheafefgaaGreatDoor
open Go.RowKit Go.Shelf Go.Proofs.YtlefniheafefgaaGreatDoorW.PrintWords

theorem shF_low (d : Int) (xs : List Int) (n : Nat) : ∀ k, k ≤ n → ∀ i, i < n - k → (shF d xs (bwl n k)).1[i]?.getD 0 = 0
  | 0, _, i, hi => by
    rw [Nat.sub_zero] at hi
    simp [shF, bwl, List.getElem?_replicate, hi]
  | k + 1, hk, i, hi => by
    rw [bwl_step n k (by omega), shF_snoc]
    dsimp only
    rw [List.getElem?_set_ne (by omega)]
    exact shF_low d xs n k (by omega) i (by omega)
theorem shF_val (d : Int) (hd : 1 ≤ d) (xs : List Int) (n : Nat) (hn : xs.length = n) : ∀ k, k ≤ n → pval (shF d xs (bwl n k)).1 n * d + (shF d xs (bwl n k)).2 * 1000000000 ^ (n - k) + pval xs (n - k) = lval xs
  | 0, _ => by
    have : pval (shF d xs (bwl n 0)).1 n = 0 := zeros_pval n n
    rw [this]; simp [shF, bwl, lval, hn]
  | k + 1, hk => by
    have ih := shF_val d hd xs n hn k (by omega)
    have hl := shF_len d xs (bwl n k)
    have hz := shF_low d xs n k (by omega) (n - 1 - k) (by omega)
    rw [show n - k = (n - (k + 1)) + 1 from by omega, base_succ, pval] at ih
    rw [show n - (k + 1) = n - 1 - k from by omega] at ih ⊢
    rw [bwl_step n k (by omega), shF_snoc]
    dsimp only
    rw [pval_set_any _ _ _ (by rw [hl]; omega) n (by omega), hz, Int.sub_zero]
    generalize (shF d xs (bwl n k)).2 = rest at ih ⊢
    generalize pval (shF d xs (bwl n k)).1 n = P at ih ⊢
    generalize xs[n - 1 - k]?.getD 0 = x at ih ⊢
    generalize (1000000000 : Int) ^ (n - 1 - k) = p at ih ⊢
    have h := Int.emod_add_mul_ediv (rest * 1000000000 + x) d
    have h2 := congrArg (· * p) h
    simp only [Int.add_mul] at h2
    have e1 : d * ((rest * 1000000000 + x) / d) * p = (rest * 1000000000 + x) / d * p * d := by rw [Int.mul_comm d, Int.mul_assoc, Int.mul_assoc, Int.mul_comm d p]
    have e2 : rest * (1000000000 * p) = rest * 1000000000 * p := (Int.mul_assoc _ _ _).symm
    rw [Int.add_mul]
    omega
theorem shF_limbs (d : Int) (hd : 1 ≤ d) {xs : List Int} (hx : limbs xs) (n : Nat) : ∀ k, k ≤ n → limbs (shF d xs (bwl n k)).1
  | 0, _ => fun i => by by_cases h : i < n <;> simp [shF, bwl, List.getElem?_replicate, h]
  | k + 1, hk => by
    have ih := shF_limbs d hd hx n k (by omega)
    have hr := shF_rest d hd xs (bwl n k)
    have h1 := hx (n - 1 - k)
    rw [bwl_step n k (by omega), shF_snoc]
    dsimp only
    refine limbs_set ih _ _ ⟨Int.ediv_nonneg (by omega) (by omega), ?_⟩
    refine Int.ediv_lt_of_lt_mul (by omega) ?_
    have : ((shF d xs (bwl n k)).2 + 1) * 1000000000 ≤ d * 1000000000 := Int.mul_le_mul_of_nonneg_right (by omega) (by omega)
    rw [Int.mul_comm 1000000000 d]
    omega
/-- Division by one limb. -/
theorem short_val (d : Int) (hd : 1 ≤ d) {xs : List Int} (hx : limbs xs) (n : Nat) (hn : xs.length = n) : lval (shF d xs (bwl n n)).1 = lval xs / d ∧ (shF d xs (bwl n n)).2 = lval xs % d := by
  have hv := shF_val d hd xs n hn n (Nat.le_refl _)
  have hr := shF_rest d hd xs (bwl n n)
  have hl := shF_len d xs (bwl n n)
  rw [Nat.sub_self] at hv
  simp only [Int.pow_zero, Int.mul_one, pval, Int.add_zero] at hv
  have e : lval (shF d xs (bwl n n)).1 = pval (shF d xs (bwl n n)).1 n := by rw [lval, hl]
  rw [e]
  have hu := Int.ediv_emod_unique (a := lval xs) (b := d) (r := (shF d xs (bwl n n)).2) (q := pval (shF d xs (bwl n n)).1 n) (by omega)
  have := hu.2 ⟨by rw [Int.mul_comm d]; omega, hr.1, hr.2⟩
  exact ⟨this.1.symm, this.2.symm⟩

/-- What divide is asked to do. -/
def DivOK (w : World) (u v : Value) (x y : Int) (L : Nat) : Prop := Calls Tryz.prog 94 #[u, v] w fun e w' => ∃ A n c B m c2, e = .returned (.tuple #[.slice A n c, .slice B m c2]) ∧ Mag w' (.slice A n c) (x / y) L ∧ Mag w' (.slice B m c2) (x % y) L ∧ Below w.heap.size w w'
theorem mag_nil (w : World) (L : Nat) : Mag w (.slice none 0 0) 0 L := ⟨none, 0, 0, [], rfl, ⟨rfl, by omega, fun h => by omega⟩, fun i => by simp, Or.inl rfl, Nat.le_refl _, trivial, Nat.zero_le _, rfl⟩
set_option maxRecDepth 100000 in
set_option maxHeartbeats 2000000 in
theorem divide_less (A B : Option Addr) (n m c e : Nat) (xs ys : List Int) (w : World) (hx : RI w.heap.size w A n xs) (hy : RI w.heap.size w B m ys) (h : ordL xs ys < 0) :
    Calls Tryz.prog 94 #[.slice A n c, .slice B m e] w fun e w' => e = .returned (.tuple #[.slice none 0 0, .slice A n c]) ∧ Below w.heap.size w w' := by
  have HO := Lib.hid (order_any A B n m c e xs ys w hx hy)
  have h1 : decide (ordL xs ys < 0) = true := by simpa using h
  generalize ordL xs ys = o at HO h1
  clear hx hy h
  go_enter Tryz.func94, Tryz.ntmps94
  go_wp2_with (go_at_call 75; refine HO.out.mono ?_; rintro e w1 ⟨rfl, hB⟩; have HB := Lib.hid hB; clear hB HO)
  go_ret2
  exact ⟨rfl, HB.out⟩
set_option maxRecDepth 100000 in
set_option maxHeartbeats 4000000 in
theorem divide_one (A B : Option Addr) (n c e : Nat) (xs ys : List Int) (d : Int) (w : World) (hx : RI w.heap.size w A n xs) (hy : RI w.heap.size w B 1 ys) (hxl : limbs xs) (hn : n ≤ 1000000) (hd : ys[0]?.getD 0 = d) (hd1 : 1 ≤ d) (hd2 : d < 1000000000) (h : ¬ ordL xs ys < 0) :
    Calls Tryz.prog 94 #[.slice A n c, .slice B 1 e] w fun e w' => ∃ A' n' c' B' m' c2, e = .returned (.tuple #[.slice A' n' c', .slice B' m' c2]) ∧ Mag w' (.slice A' n' c') (lval xs / d) n ∧ Mag w' (.slice B' m' c2) (lval xs % d) 1 ∧ Below w.heap.size w w' := by
  have HO := Lib.hid (order_any A B n 1 c e xs ys w hx hy)
  have h1 : decide (ordL xs ys < 0) = false := by simpa using h
  generalize ordL xs ys = o at HO h1
  obtain ⟨ad, rfl, hb, hc⟩ := hy.2.2 (by omega)
  have hcell := hc 0 (by omega)
  rw [hd, show ad.add 0 = ad from by simp [Addr.add]] at hcell
  have HC := Lib.hid hcell
  have HX := Lib.hid hx
  have HL := Lib.hid hxl
  have HSV := Lib.hid (short_val d hd1 hxl n hx.1)
  have HSL := Lib.hid (shF_limbs d hd1 hxl n n (Nat.le_refl _))
  have hrest := shF_rest d hd1 xs (bwl n n)
  have hlen := shF_len d xs (bwl n n)
  have HSW := Lib.hid (fun w1 h => short_walk A n c xs d w1 h (by omega) hd1 (by omega) (fun i => hxl i.val))
  generalize (shF d xs (bwl n n)).2 = r0 at HSV hrest HSW
  generalize (shF d xs (bwl n n)).1 = q0 at HSV HSL hlen HSW
  clear hx hy h hd hc hcell hxl
  go_enter Tryz.func94, Tryz.ntmps94
  go_wp2_with (first
    | (go_at_call 75; refine HO.out.mono ?_; rintro e w1 ⟨rfl, hB⟩; have hz1 := hB.size; have cw := (hB.cell (p := ad) hb).trans HC.out; have HB := Lib.hid hB; clear hB HO)
    | (go_at_call 116; refine (HSW.out w1 ((HX.out.below HB.out).mono hz1)).mono ?_; rintro e w2 ⟨rfl, hR, hB2⟩; have HR := Lib.hid hR; have HB2 := Lib.hid hB2; have hz2 := hB2.size; clear hR hB2 cw)
    | (go_at_call 69; refine (trim_any _ _ _ [r0] _ (rowd_reads (World.alloc_heap_new w2 _) (by simp)) (by simp) (by omega)).mono ?_; rintro e w3 ⟨rfl, rfl⟩))
  go_ret2
  have hW3 : Below w2.heap.size w2 (w2.alloc (.cells #[.int .i64 r0] 3)) := (Below.refl _ w2).alloc (Nat.le_refl _) _
  have hq := rowd_reads HR.out (by omega)
  rw [hlen] at hq
  have hM1 : Mag w2 (.slice (some ⟨w1.heap.size + 1, 0, none⟩) (tlen q0 q0.length) n) (lval xs / d) n := mag_of_reads (rowd_reads HR.out (by omega)) (fun ad e => by cases e; exact HR.out.lt) HSL.out (by omega) (by omega) (Nat.le_trans (tlen_le _ _) (by omega)) HSV.out.1
  rw [hlen] at hM1
  have hlr : limbs [r0] := fun i => by
    match i with
    | 0 => simp; omega
    | i + 1 => simp
  have hM2 : Mag (w2.alloc (.cells #[.int .i64 r0] 3)) (.slice (some ⟨w2.heap.size, 0, none⟩) (tlen [r0] [r0].length) 1) (lval xs % d) 1 := mag_of_reads (l := [r0]) (rowd_reads (World.alloc_heap_new w2 _) (by simp)) (fun ad e => by cases e; simp) hlr (by simp) (by omega) (tlen_le _ _) (by rw [← HSV.out.2]; simp [lval, pval])
  exact ⟨_, _, _, _, _, _, rfl, hM1.below hW3, hM2, (HB.out.trans (HB2.out.mono hz1)).trans (hW3.mono (by omega))⟩
end Go.Proofs.YtlefniheafefgaaGreatDoor
