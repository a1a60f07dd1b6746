/- bigint.quotient: different signs; all together. -/
import Derived.Test.YtlefniheafefgaaGreatDoorQuot
set_option linter.unusedVariables false
set_option linter.unusedSimpArgs false
namespace Go.Proofs.YtlefniheafefgaaGreatDoor
open Go.RowKit Go.Shelf Go.Proofs.YtlefniheafefgaaGreatDoorW.PrintWords

theorem plus_mag (u v : Value) (x y : Int) (L : Nat) (w : World) (hu : Mag w u x L) (hv : Mag w v y L) (hL : L ≤ 1000000) :
    Calls Tryz.prog 72 #[u, v] w fun E w' => ∃ A n c, E = .returned (.slice A n c) ∧ Mag w' (.slice A n c) (x + y) (L + 1) ∧ Below w.heap.size w w' := by
  obtain ⟨A, n, c, xs, rfl, h1, h2, h3, h4, h5, h6, rfl⟩ := hu
  obtain ⟨B, m, e, ys, rfl, k1, k2, k3, k4, k5, k6, rfl⟩ := hv
  have hpl := plL_le xs ys L (by rw [h1.1]; exact h6) (by rw [k1.1]; exact k6)
  refine (plus_walk A B n m c e xs ys w h1 k1 h2 k2 (by omega) (by omega)).mono ?_
  rintro E w' ⟨rfl, hR, hB⟩
  exact ⟨_, _, _, rfl, mag_of_reads (rowd_reads hR (by omega)) (fun ad e => by cases e; exact hR.lt) (plL_limbs xs ys) (Nat.le_refl _) (by omega) (Nat.le_trans (tlen_le _ _) hpl) (plL_val h2 k2), hB⟩
theorem minus_mag (u v : Value) (x y : Int) (L : Nat) (w : World) (hu : Mag w u x L) (hv : Mag w v y L) (hL : L ≤ 1000000) (hxy : y ≤ x) :
    Calls Tryz.prog 76 #[u, v] w fun E w' => ∃ A n c, E = .returned (.slice A n c) ∧ Mag w' (.slice A n c) (x - y) L ∧ Below w.heap.size w w' := by
  obtain ⟨A, n, c, xs, rfl, h1, h2, h3, h4, h5, h6, rfl⟩ := hu
  obtain ⟨B, m, e, ys, rfl, k1, k2, k3, k4, k5, k6, rfl⟩ := hv
  have hml : (mnL xs ys).length = n := by rw [mnL, mnF_len]; exact h1.1
  refine (minus_walk A B n m c e xs ys w h1 k1 h2 k2 (by omega) (by omega)).mono ?_
  rintro E w' ⟨rfl, hR, hB⟩
  exact ⟨_, _, _, rfl, mag_of_reads (rowd_reads hR (by omega)) (fun ad e => by cases e; exact hR.lt) (mnL_limbs h2 k2) (Nat.le_refl _) (by omega) (Nat.le_trans (tlen_le _ _) (by omega)) (mnL_val h2 k2 k3 hxy), hB⟩
theorem mag_zero {w : World} {A : Option Addr} {n c : Nat} {x : Int} {L : Nat} (h : Mag w (.slice A n c) x L) : x = 0 ↔ n = 0 := by
  obtain ⟨A', n', c', xs, he, h1, h2, h3, h4, h5, h6, rfl⟩ := h
  cases he
  rw [lval_zero h2 h3, h1.1]
theorem mag_one (w : World) (L : Nat) (hL : 1 ≤ L) : Mag (w.alloc (.cells #[.int .i64 1] 3)) (.slice (some ⟨w.heap.size, 0, none⟩) 1 1) 1 L :=
  ⟨_, 1, 1, [1], rfl, ⟨rfl, by omega, fun _ => ⟨_, rfl, by simp, fun j hj => by
    obtain rfl : j = 0 := by omega
    rw [show (Addr.add ⟨w.heap.size, 0, none⟩ 0) = ⟨w.heap.size, 0, none⟩ from by simp [Addr.add]]
    exact cellA (World.alloc_heap_new w _) 0 _ rfl⟩⟩, fun i => by
    match i with
    | 0 => simp
    | i + 1 => simp, Or.inr (by simp), Nat.le_refl _, trivial, hL, by simp [lval, pval]⟩

set_option maxRecDepth 100000 in
set_option maxHeartbeats 4000000 in
theorem quot_zero (A B : Option Addr) (n m c e : Nat) (xs ys : List Int) (b : Bool) (K : Nat) (w : World) (hx : RI w.heap.size w A n xs) (hy : RI w.heap.size w B m ys) (hc : n ≤ c) (he : m ≤ e) (hD : DivH xs ys K) (hz : lval xs % lval ys = 0) :
    Calls Tryz.prog 81 #[.agg #[.bool b, .slice A n c], .agg #[.bool (!b), .slice B m e]] w fun e w' => ∃ A1 n1 c1 A2 n2 c2, e = .returned (.tuple #[.agg #[.bool true, .slice A1 n1 c1], .agg #[.bool (!b), .slice A2 n2 c2]]) ∧ Mag w' (.slice A1 n1 c1) (lval xs / lval ys) K ∧ Mag w' (.slice A2 n2 c2) (lval xs % lval ys) K ∧ Below w.heap.size w w' := by
  have HX := Lib.hid hx
  have HY := Lib.hid hy
  have HD := Lib.hid hD
  clear hx hy hD
  obtain ⟨x0, x1, x2, x3, xz, xB⟩ := alloc4 w (.cells #[.bool b, .slice A n c] 65) (.cells #[.bool (!b), .slice B m e] 65) (.cells #[.bool false, .slice none 0 0] 65) (.cells #[.bool false, .slice none 0 0] 65)
  have HDV : Hid (Calls Tryz.prog 94 #[.slice A n c, .slice B m e] ((((w.alloc (.cells #[.bool b, .slice A n c] 65)).alloc (.cells #[.bool (!b), .slice B m e] 65)).alloc (.cells #[.bool false, .slice none 0 0] 65)).alloc (.cells #[.bool false, .slice none 0 0] 65)) fun E w' => ∃ A' n' c' B' m' c2, E = .returned (.tuple #[.slice A' n' c', .slice B' m' c2]) ∧ Mag w' (.slice A' n' c') (lval xs / lval ys) K ∧ Mag w' (.slice B' m' c2) (lval xs % lval ys) K ∧ Below ((((w.alloc (.cells #[.bool b, .slice A n c] 65)).alloc (.cells #[.bool (!b), .slice B m e] 65)).alloc (.cells #[.bool false, .slice none 0 0] 65)).alloc (.cells #[.bool false, .slice none 0 0] 65)).heap.size ((((w.alloc (.cells #[.bool b, .slice A n c] 65)).alloc (.cells #[.bool (!b), .slice B m e] 65)).alloc (.cells #[.bool false, .slice none 0 0] 65)).alloc (.cells #[.bool false, .slice none 0 0] 65)) w') := Lib.hid (HD.out A B n m c e _ ((HX.out.below xB).mono (by rw [xz]; omega)) ((HY.out.below xB).mono (by rw [xz]; omega)) hc he)
  have X0 := Lib.hid x0
  have X1 := Lib.hid x1
  have X2 := Lib.hid x2
  have X3 := Lib.hid x3
  have XZ := Lib.hid xz
  have XB := Lib.hid xB
  clear x0 x1 x2 x3 xz xB
  have HKG : Hid (∀ (g : Nat) (v1 : World) (u v : Value), g ≠ w.heap.size → g ≠ w.heap.size + 1 → (v1.cell? ⟨w.heap.size, 0, none⟩ = some (.bool b) ∧ v1.cell? ⟨w.heap.size, 1, none⟩ = some (.slice A n c) ∧ v1.cell? ⟨w.heap.size + 1, 0, none⟩ = some (.bool (!b)) ∧ v1.cell? ⟨w.heap.size + 1, 1, none⟩ = some (.slice B m e)) → ((v1.setCell ⟨g, 0, none⟩ u).setCell ⟨g, 1, none⟩ v).cell? ⟨w.heap.size, 0, none⟩ = some (.bool b) ∧ ((v1.setCell ⟨g, 0, none⟩ u).setCell ⟨g, 1, none⟩ v).cell? ⟨w.heap.size, 1, none⟩ = some (.slice A n c) ∧ ((v1.setCell ⟨g, 0, none⟩ u).setCell ⟨g, 1, none⟩ v).cell? ⟨w.heap.size + 1, 0, none⟩ = some (.bool (!b)) ∧ ((v1.setCell ⟨g, 0, none⟩ u).setCell ⟨g, 1, none⟩ v).cell? ⟨w.heap.size + 1, 1, none⟩ = some (.slice B m e)) := Lib.hid fun g v1 u v hg0 hg1 ⟨a1, a2, a3, a4⟩ =>
    have h (q : Addr) (hq : g ≠ q.block) : ((v1.setCell ⟨g, 0, none⟩ u).setCell ⟨g, 1, none⟩ v).cell? q = v1.cell? q := (cell_far _ hq).trans (cell_far _ hq)
    ⟨(h _ hg0).trans a1, (h _ hg0).trans a2, (h _ hg1).trans a3, (h _ hg1).trans a4⟩
  go_enter Tryz.func81, Tryz.ntmps81
  go_wp2_with (go_at_call 94; refine HDV.out.mono ?_; rintro E w1 ⟨A1, n1, c1, A2, n2, c2, rfl, hM1, hM2, hB⟩; have y0 := (hB.block w.heap.size (by rw [XZ.out]; omega)).trans X0.out; have y1 := (hB.block (w.heap.size + 1) (by rw [XZ.out]; omega)).trans X1.out; have y2 := (hB.block (w.heap.size + 1 + 1) (by rw [XZ.out]; omega)).trans X2.out; have y3 := (hB.block (w.heap.size + 1 + 1 + 1) (by rw [XZ.out]; omega)).trans X3.out; have kx0 := cellA y0 0 _ rfl; have kx1 := cellA y0 1 _ rfl; have ky0 := cellA y1 0 _ rfl; have ky1 := cellA y1 1 _ rfl; have z0 := cellA y2 0 _ rfl; have z1 := cellA y2 1 _ rfl; have z2 := frozen_at y2 0; have z3 := frozen_at y2 1; have r0 := cellA y3 0 _ rfl; have r1 := cellA y3 1 _ rfl; have r2 := frozen_at y3 0; have r3 := frozen_at y3 1; have Y1 := Lib.hid y1; have Y2 := Lib.hid y2; have Y3 := Lib.hid y3; obtain rfl : n2 = 0 := (mag_zero hM2).1 hz; have HM1 := Lib.hid hM1; have HM2 := Lib.hid hM2; have hbw := XB.out.trans (hB.mono (by rw [XZ.out]; omega)); have hzw := hB.size; rw [XZ.out] at hzw; have HBW := Lib.hid hbw; clear y0 y1 y2 y3 hM1 hM2 hB hbw HDV)
  have kd : w1.drew.cell? ⟨w.heap.size, 0, none⟩ = some (.bool b) ∧ w1.drew.cell? ⟨w.heap.size, 1, none⟩ = some (.slice A n c) ∧ w1.drew.cell? ⟨w.heap.size + 1, 0, none⟩ = some (.bool (!b)) ∧ w1.drew.cell? ⟨w.heap.size + 1, 1, none⟩ = some (.slice B m e) := ⟨kx0, kx1, ky0, ky1⟩
  clear kx0 kx1 ky0 ky1 X0 X1 X2 X3 XZ XB HX HY HD
  go_region_held3 (fun w' => w'.cell? ⟨w.heap.size, 0, none⟩ = some (.bool b) ∧ w'.cell? ⟨w.heap.size, 1, none⟩ = some (.slice A n c) ∧ w'.cell? ⟨w.heap.size + 1, 0, none⟩ = some (.bool (!b)) ∧ w'.cell? ⟨w.heap.size + 1, 1, none⟩ = some (.slice B m e)) (first | assumption | exact HKG.out _ _ _ _ (by omega) (by omega) (by assumption)) (fail)
  go_wp2
  have s1 := (blk_far2 (w := w1) (g := w.heap.size + 1 + 1) (k := w.heap.size + 1 + 1 + 1) (by omega) (.bool true) (.slice A1 n1 c1)).trans Y3.out
  have s2 := (blk_far2 (w := (w1.setCell ⟨w.heap.size + 1 + 1, 0, none⟩ (.bool true)).setCell ⟨w.heap.size + 1 + 1, 1, none⟩ (.slice A1 n1 c1)) (g := w.heap.size + 1 + 1 + 1) (k := w.heap.size + 1 + 1) (by omega) (.bool (!b)) (.slice A2 0 c2)).trans (blk_put2 Y2.out true A1 n1 c1)
  have s3 := blk_put2 s1 (!b) A2 0 c2
  refine bodyPost_ret (results_c2 rfl _ _ (w.heap.size + 1 + 1) (w.heap.size + 1 + 1 + 1) 65 _ _ (0, 0) (0, 0) _ rfl s2 rfl s3 Tryz.underlying65 rfl (by kernel_rfl) (by kernel_rfl)) rfl ?_
  exact ⟨_, _, _, _, _, _, rfl, mag_drew (mag_set2 (mag_set2 HM1.out Y2.out _ _ _ _) s1 _ _ _ _), mag_drew (mag_set2 (mag_set2 HM2.out Y2.out _ _ _ _) s1 _ _ _ _), (below_set2 (below_set2 HBW.out (by omega) _ _) (by omega) _ _).drew⟩
end Go.Proofs.YtlefniheafefgaaGreatDoor
