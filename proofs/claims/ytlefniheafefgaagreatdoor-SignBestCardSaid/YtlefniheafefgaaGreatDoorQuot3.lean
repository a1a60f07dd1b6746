/- bigint.quotient: different signs and a rest; all together. -/
import Derived.Test.YtlefniheafefgaaGreatDoorQuot2
set_option linter.unusedVariables false
set_option linter.unusedSimpArgs false
namespace Go.Proofs.YtlefniheafefgaaGreatDoor
open Go.RowKit Go.Shelf Go.Proofs.YtlefniheafefgaaGreatDoorW.PrintWords

set_option maxRecDepth 100000 in
set_option maxHeartbeats 4000000 in
theorem quot_rest (A B : Option Addr) (n m c e : Nat) (xs ys : List Int) (b : Bool) (K : Nat) (w : World) (hx : RI w.heap.size w A n xs) (hy : RI w.heap.size w B m ys) (hc : n ≤ c) (he : m ≤ e) (hD : DivH xs ys K) (hz : lval xs % lval ys ≠ 0) (hyl : limbs ys) (hyt : topped ys) (hK : K ≤ 999999) (hmK : m ≤ K) (hK1 : 1 ≤ K) (hY0 : 0 < lval ys) :
    Calls Tryz.prog 81 #[.agg #[.bool b, .slice A n c], .agg #[.bool (!b), .slice B m e]] w fun e w' => ∃ A1 n1 c1 A2 n2 c2, e = .returned (.tuple #[.agg #[.bool true, .slice A1 n1 c1], .agg #[.bool (!b), .slice A2 n2 c2]]) ∧ Mag w' (.slice A1 n1 c1) (lval xs / lval ys + 1) (K + 1) ∧ Mag w' (.slice A2 n2 c2) (lval ys - lval xs % lval ys) (K + 1) ∧ Below w.heap.size w w' := by
  have HX := Lib.hid hx
  have HY := Lib.hid hy
  have HD := Lib.hid hD
  clear hx hy hD
  obtain ⟨x0, x1, x2, x3, xz, xB⟩ := alloc4 w (.cells #[.bool b, .slice A n c] 65) (.cells #[.bool (!b), .slice B m e] 65) (.cells #[.bool false, .slice none 0 0] 65) (.cells #[.bool false, .slice none 0 0] 65)
  have HDV : Hid (Calls Tryz.prog 94 #[.slice A n c, .slice B m e] ((((w.alloc (.cells #[.bool b, .slice A n c] 65)).alloc (.cells #[.bool (!b), .slice B m e] 65)).alloc (.cells #[.bool false, .slice none 0 0] 65)).alloc (.cells #[.bool false, .slice none 0 0] 65)) fun E w' => ∃ A' n' c' B' m' c2, E = .returned (.tuple #[.slice A' n' c', .slice B' m' c2]) ∧ Mag w' (.slice A' n' c') (lval xs / lval ys) K ∧ Mag w' (.slice B' m' c2) (lval xs % lval ys) K ∧ Below ((((w.alloc (.cells #[.bool b, .slice A n c] 65)).alloc (.cells #[.bool (!b), .slice B m e] 65)).alloc (.cells #[.bool false, .slice none 0 0] 65)).alloc (.cells #[.bool false, .slice none 0 0] 65)).heap.size ((((w.alloc (.cells #[.bool b, .slice A n c] 65)).alloc (.cells #[.bool (!b), .slice B m e] 65)).alloc (.cells #[.bool false, .slice none 0 0] 65)).alloc (.cells #[.bool false, .slice none 0 0] 65)) w') := Lib.hid (HD.out A B n m c e _ ((HX.out.below xB).mono (by rw [xz]; omega)) ((HY.out.below xB).mono (by rw [xz]; omega)) hc he)
  have X0 := Lib.hid x0
  have X1 := Lib.hid x1
  have X2 := Lib.hid x2
  have X3 := Lib.hid x3
  have XZ := Lib.hid xz
  have XB := Lib.hid xB
  clear x0 x1 x2 x3 xz xB
  have HKG : Hid (∀ (g : Nat) (v1 : World) (u v : Value), g ≠ w.heap.size → g ≠ w.heap.size + 1 → (v1.cell? ⟨w.heap.size, 0, none⟩ = some (.bool b) ∧ v1.cell? ⟨w.heap.size, 1, none⟩ = some (.slice A n c) ∧ v1.cell? ⟨w.heap.size + 1, 0, none⟩ = some (.bool (!b)) ∧ v1.cell? ⟨w.heap.size + 1, 1, none⟩ = some (.slice B m e)) → ((v1.setCell ⟨g, 0, none⟩ u).setCell ⟨g, 1, none⟩ v).cell? ⟨w.heap.size, 0, none⟩ = some (.bool b) ∧ ((v1.setCell ⟨g, 0, none⟩ u).setCell ⟨g, 1, none⟩ v).cell? ⟨w.heap.size, 1, none⟩ = some (.slice A n c) ∧ ((v1.setCell ⟨g, 0, none⟩ u).setCell ⟨g, 1, none⟩ v).cell? ⟨w.heap.size + 1, 0, none⟩ = some (.bool (!b)) ∧ ((v1.setCell ⟨g, 0, none⟩ u).setCell ⟨g, 1, none⟩ v).cell? ⟨w.heap.size + 1, 1, none⟩ = some (.slice B m e)) := Lib.hid fun g v1 u v hg0 hg1 ⟨a1, a2, a3, a4⟩ =>
    have h (q : Addr) (hq : g ≠ q.block) : ((v1.setCell ⟨g, 0, none⟩ u).setCell ⟨g, 1, none⟩ v).cell? q = v1.cell? q := (cell_far _ hq).trans (cell_far _ hq)
    ⟨(h _ hg0).trans a1, (h _ hg0).trans a2, (h _ hg1).trans a3, (h _ hg1).trans a4⟩
  go_enter Tryz.func81, Tryz.ntmps81
  go_wp2_with fail
  refine HDV.out.mono ?_
  rintro E w1 ⟨A1, n1, c1, A2, n2, c2, rfl, hM1, hM2, hB⟩
  have y0 := (hB.block w.heap.size (by rw [XZ.out]; omega)).trans X0.out
  have y1 := (hB.block (w.heap.size + 1) (by rw [XZ.out]; omega)).trans X1.out
  have y2 := (hB.block (w.heap.size + 1 + 1) (by rw [XZ.out]; omega)).trans X2.out
  have y3 := (hB.block (w.heap.size + 1 + 1 + 1) (by rw [XZ.out]; omega)).trans X3.out
  have kx0 := cellA y0 0 _ rfl
  have kx1 := cellA y0 1 _ rfl
  have ky0 := cellA y1 0 _ rfl
  have ky1 := cellA y1 1 _ rfl
  have z0 := cellA y2 0 _ rfl
  have z1 := cellA y2 1 _ rfl
  have z2 := frozen_at y2 0
  have z3 := frozen_at y2 1
  have r0 := cellA y3 0 _ rfl
  have r1 := cellA y3 1 _ rfl
  have r2 := frozen_at y3 0
  have r3 := frozen_at y3 1
  have Y1 := Lib.hid y1
  have Y2 := Lib.hid y2
  have Y3 := Lib.hid y3
  have hn2 : n2 ≠ 0 := fun e0 => hz ((mag_zero hM2).2 e0)
  have hn4 : (0 : Int) < (n2 : Int) := by omega
  have hn3 : decide ((0 : Int) < (n2 : Int)) = true := decide_eq_true hn4
  have HM1 := Lib.hid hM1
  have HM2 := Lib.hid hM2
  have hbw := XB.out.trans (hB.mono (by rw [XZ.out]; omega))
  have hzw := hB.size
  rw [XZ.out] at hzw
  have HBW := Lib.hid hbw
  clear y0 y1 y2 y3 hM1 hM2 hB hbw HDV
  go_wp2
  have kd0 : w1.cell? ⟨w.heap.size, 0, none⟩ = some (.bool b) ∧ w1.cell? ⟨w.heap.size, 1, none⟩ = some (.slice A n c) ∧ w1.cell? ⟨w.heap.size + 1, 0, none⟩ = some (.bool (!b)) ∧ w1.cell? ⟨w.heap.size + 1, 1, none⟩ = some (.slice B m e) := ⟨kx0, kx1, ky0, ky1⟩
  have kd : w1.drew.cell? ⟨w.heap.size, 0, none⟩ = some (.bool b) ∧ w1.drew.cell? ⟨w.heap.size, 1, none⟩ = some (.slice A n c) ∧ w1.drew.cell? ⟨w.heap.size + 1, 0, none⟩ = some (.bool (!b)) ∧ w1.drew.cell? ⟨w.heap.size + 1, 1, none⟩ = some (.slice B m e) := kd0
  have HKL : Hid (∀ o : Obj, (w1.alloc o).cell? ⟨w.heap.size, 0, none⟩ = some (.bool b) ∧ (w1.alloc o).cell? ⟨w.heap.size, 1, none⟩ = some (.slice A n c) ∧ (w1.alloc o).cell? ⟨w.heap.size + 1, 0, none⟩ = some (.bool (!b)) ∧ (w1.alloc o).cell? ⟨w.heap.size + 1, 1, none⟩ = some (.slice B m e)) := Lib.hid fun o => by
    have hB := (Below.refl w1.heap.size w1).alloc (Nat.le_refl _) o
    exact ⟨(hB.cell (p := ⟨w.heap.size, 0, none⟩) (by show w.heap.size < _; omega)).trans kx0, (hB.cell (p := ⟨w.heap.size, 1, none⟩) (by show w.heap.size < _; omega)).trans kx1, (hB.cell (p := ⟨w.heap.size + 1, 0, none⟩) (by show w.heap.size + 1 < _; omega)).trans ky0, (hB.cell (p := ⟨w.heap.size + 1, 1, none⟩) (by show w.heap.size + 1 < _; omega)).trans ky1⟩
  have HKB : Hid (∀ v1 v2 : World, w.heap.size + 1 < v1.heap.size → Below v1.heap.size v1 v2 → (v1.cell? ⟨w.heap.size, 0, none⟩ = some (.bool b) ∧ v1.cell? ⟨w.heap.size, 1, none⟩ = some (.slice A n c) ∧ v1.cell? ⟨w.heap.size + 1, 0, none⟩ = some (.bool (!b)) ∧ v1.cell? ⟨w.heap.size + 1, 1, none⟩ = some (.slice B m e)) → v2.cell? ⟨w.heap.size, 0, none⟩ = some (.bool b) ∧ v2.cell? ⟨w.heap.size, 1, none⟩ = some (.slice A n c) ∧ v2.cell? ⟨w.heap.size + 1, 0, none⟩ = some (.bool (!b)) ∧ v2.cell? ⟨w.heap.size + 1, 1, none⟩ = some (.slice B m e)) := Lib.hid fun v1 v2 hl hB ⟨a1, a2, a3, a4⟩ =>
    ⟨(hB.cell (p := ⟨w.heap.size, 0, none⟩) (by show w.heap.size < _; omega)).trans a1, (hB.cell (p := ⟨w.heap.size, 1, none⟩) (by show w.heap.size < _; omega)).trans a2, (hB.cell (p := ⟨w.heap.size + 1, 0, none⟩) hl).trans a3, (hB.cell (p := ⟨w.heap.size + 1, 1, none⟩) hl).trans a4⟩
  have hmy : Mag w (.slice B m e) (lval ys) K := ⟨B, m, e, ys, rfl, HY.out, hyl, hyt, he, trivial, hmK, rfl⟩
  have hal : Below w1.heap.size w1 (w1.alloc (.cells #[.int .i64 1] 3)).drew := ((Below.refl _ w1).alloc (Nat.le_refl _) _).drew
  have HAL := Lib.hid hal
  have HZ1 := Lib.hid (show (w1.alloc (.cells #[.int .i64 1] 3)).drew.heap.size = w1.heap.size + 1 from World.size_alloc _ _)
  have HP := Lib.hid (plus_mag (.slice A1 n1 c1) (.slice (some ⟨w1.heap.size, 0, none⟩) 1 1) (lval xs / lval ys) 1 K (w1.alloc (.cells #[.int .i64 1] 3)).drew (HM1.out.below hal) (mag_drew (mag_one w1 K hK1)) (by omega))
  have hrY := Int.emod_lt_of_pos (lval xs) hY0
  have HMI : Hid (∀ v : World, Below w1.heap.size w1 v → Calls Tryz.prog 76 #[.slice B m e, .slice A2 n2 c2] v fun E w' => ∃ A n c, E = .returned (.slice A n c) ∧ Mag w' (.slice A n c) (lval ys - lval xs % lval ys) K ∧ Below v.heap.size v w') := Lib.hid fun v hv => minus_mag _ _ _ _ K v ((hmy.below HBW.out).below hv) (HM2.out.below hv) (by omega) (by omega)
  clear kx0 kx1 ky0 ky1 X0 X1 X2 X3 XZ XB HX HY HD hmy hal hyl hyt hz hrY
  go_region_held3 (fun w' => w'.cell? ⟨w.heap.size, 0, none⟩ = some (.bool b) ∧ w'.cell? ⟨w.heap.size, 1, none⟩ = some (.slice A n c) ∧ w'.cell? ⟨w.heap.size + 1, 0, none⟩ = some (.bool (!b)) ∧ w'.cell? ⟨w.heap.size + 1, 1, none⟩ = some (.slice B m e)) (first | assumption | exact HKL.out _) (first
    | (go_at_call 72; refine HP.out.mono ?_; rintro E w2 ⟨A3, n3, c3, rfl, hM3, hB2⟩; have k2 := HKB.out _ _ (by rw [HZ1.out]; omega) hB2 (HKL.out _); have hb2 := HAL.out.trans (hB2.mono (by rw [HZ1.out]; omega)); have hz2 := hb2.size; have HM3 := Lib.hid hM3; have HB2 := Lib.hid hb2; clear hM3 hb2 hB2 HP)
    | (go_at_call 76; refine (HMI.out w2 HB2.out).mono ?_; rintro E w3 ⟨A4, n4, c4, rfl, hM4, hB3⟩; have k3 := HKB.out _ _ (by omega) hB3 k2; have hb3 := HB2.out.trans (hB3.mono hz2); have hz3 := hb3.size; have HM4 := Lib.hid hM4; have HM5 := Lib.hid (HM3.out.below hB3); have HB3 := Lib.hid hb3; clear hM4 hb3 hB3 HMI))
  have y2 := (HB3.out.block (w.heap.size + 1 + 1) (by omega)).trans Y2.out
  have y3 := (HB3.out.block (w.heap.size + 1 + 1 + 1) (by omega)).trans Y3.out
  have z0 := cellA y2 0 _ rfl
  have z1 := cellA y2 1 _ rfl
  have z2 := frozen_at y2 0
  have z3 := frozen_at y2 1
  have r0 := cellA y3 0 _ rfl
  have r1 := cellA y3 1 _ rfl
  have r2 := frozen_at y3 0
  have r3 := frozen_at y3 1
  have Z2 := Lib.hid y2
  have Z3 := Lib.hid y3
  have HBZ := Lib.hid (HBW.out.trans (HB3.out.mono (by omega)))
  have k3' := k3
  obtain ⟨kx0, kx1, ky0, ky1⟩ := k3'
  have hz9 : w.heap.size + 4 ≤ w3.heap.size := by omega
  clear y2 y3 k2 HKL HKB HAL HZ1 HM1 HM2 HM3 HB2 HB3 HBW Y1 Y2 Y3
  go_wp2
  have kd : w3.drew.cell? ⟨w.heap.size, 0, none⟩ = some (.bool b) ∧ w3.drew.cell? ⟨w.heap.size, 1, none⟩ = some (.slice A n c) ∧ w3.drew.cell? ⟨w.heap.size + 1, 0, none⟩ = some (.bool (!b)) ∧ w3.drew.cell? ⟨w.heap.size + 1, 1, none⟩ = some (.slice B m e) := k3
  clear k3 kx0 kx1 ky0 ky1
  go_region_held3 (fun w' => w'.cell? ⟨w.heap.size, 0, none⟩ = some (.bool b) ∧ w'.cell? ⟨w.heap.size, 1, none⟩ = some (.slice A n c) ∧ w'.cell? ⟨w.heap.size + 1, 0, none⟩ = some (.bool (!b)) ∧ w'.cell? ⟨w.heap.size + 1, 1, none⟩ = some (.slice B m e)) (first | assumption | exact HKG.out _ _ _ _ (by omega) (by omega) (by assumption)) (fail)
  go_wp2
  have s1 := (blk_far2 (w := w3) (g := w.heap.size + 1 + 1) (k := w.heap.size + 1 + 1 + 1) (by omega) (.bool true) (.slice A3 n3 c3)).trans Z3.out
  have s2 := (blk_far2 (w := (w3.setCell ⟨w.heap.size + 1 + 1, 0, none⟩ (.bool true)).setCell ⟨w.heap.size + 1 + 1, 1, none⟩ (.slice A3 n3 c3)) (g := w.heap.size + 1 + 1 + 1) (k := w.heap.size + 1 + 1) (by omega) (.bool (!b)) (.slice A4 n4 c4)).trans (blk_put2 Z2.out true A3 n3 c3)
  have s3 := blk_put2 s1 (!b) A4 n4 c4
  refine bodyPost_ret (results_c2 rfl _ _ (w.heap.size + 1 + 1) (w.heap.size + 1 + 1 + 1) 65 _ _ (0, 0) (0, 0) _ rfl s2 rfl s3 Tryz.underlying65 rfl (by kernel_rfl) (by kernel_rfl)) rfl ?_
  exact ⟨_, _, _, _, _, _, rfl, mag_drew (mag_set2 (mag_set2 HM5.out Z2.out _ _ _ _) s1 _ _ _ _), mag_drew (mag_set2 (mag_set2 (HM4.out.more (Nat.le_succ K)) Z2.out _ _ _ _) s1 _ _ _ _), (below_set2 (below_set2 HBZ.out (by omega) _ _) (by omega) _ _).drew⟩

/-- The quotient of two numbers, rounded down, and the remainder. -/
theorem quotient_num (A B : Option Addr) (n m c e : Nat) (xs ys : List Int) (b b2 : Bool) (K : Nat) (w : World) (hx : RI w.heap.size w A n xs) (hy : RI w.heap.size w B m ys) (hc : n ≤ c) (he : m ≤ e) (hD : DivH xs ys K) (hxl : limbs xs) (hyl : limbs ys) (hyt : topped ys) (hK : K ≤ 999999) (hmK : m ≤ K) (hK1 : 1 ≤ K) (hY0 : 0 < lval ys) :
    Calls Tryz.prog 81 #[.agg #[.bool b, .slice A n c], .agg #[.bool b2, .slice B m e]] w fun E w' => ∃ d1 A1 n1 c1 d2 A2 n2 c2, E = .returned (.tuple #[.agg #[.bool d1, .slice A1 n1 c1], .agg #[.bool d2, .slice A2 n2 c2]]) ∧ NumV w' (.agg #[.bool d1, .slice A1 n1 c1]) (Int.fdiv (if b = true then -lval xs else lval xs) (if b2 = true then -lval ys else lval ys)) (K + 1) ∧ NumV w' (.agg #[.bool d2, .slice A2 n2 c2]) (Int.fmod (if b = true then -lval xs else lval xs) (if b2 = true then -lval ys else lval ys)) (K + 1) ∧ Below w.heap.size w w' := by
  have hX0 := lval_nonneg hxl
  by_cases hb : b2 = b
  · subst hb
    obtain ⟨q1, q2⟩ := fdiv_same b2 (lval xs) (lval ys) hX0 hY0
    rw [q1, q2]
    refine (quot_same A B n m c e xs ys b2 K w hx hy hc he hD).mono ?_
    rintro E w' ⟨A1, n1, c1, A2, n2, c2, rfl, h1, h2, hB⟩
    exact ⟨_, _, _, _, _, _, _, _, rfl, ⟨_, _, _, rfl, h1.more (Nat.le_succ K), rfl⟩, ⟨_, _, _, rfl, h2.more (Nat.le_succ K), rfl⟩, hB⟩
  · obtain rfl : b2 = !b := by cases b <;> cases b2 <;> simp_all
    obtain ⟨q1, q2⟩ := fdiv_other b (lval xs) (lval ys) hX0 hY0
    rw [q1, q2]
    by_cases hz : lval xs % lval ys = 0
    · rw [if_pos hz, if_pos hz]
      refine (quot_zero A B n m c e xs ys b K w hx hy hc he hD hz).mono ?_
      rintro E w' ⟨A1, n1, c1, A2, n2, c2, rfl, h1, h2, hB⟩
      rw [hz] at h2
      exact ⟨_, _, _, _, _, _, _, _, rfl, ⟨_, _, _, rfl, h1.more (Nat.le_succ K), rfl⟩, ⟨_, _, _, rfl, h2.more (Nat.le_succ K), rfl⟩, hB⟩
    · rw [if_neg hz, if_neg hz]
      refine (quot_rest A B n m c e xs ys b K w hx hy hc he hD hz hyl hyt hK hmK hK1 hY0).mono ?_
      rintro E w' ⟨A1, n1, c1, A2, n2, c2, rfl, h1, h2, hB⟩
      exact ⟨_, _, _, _, _, _, _, _, rfl, ⟨_, _, _, rfl, h1, rfl⟩, ⟨_, _, _, rfl, h2, rfl⟩, hB⟩
end Go.Proofs.YtlefniheafefgaaGreatDoor
