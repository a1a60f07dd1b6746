/- bigint.product: the product of two numbers. -/
import Derived.Test.YtlefniheafefgaaGreatDoorTimes
set_option linter.unusedVariables false
set_option linter.unusedSimpArgs false
namespace Go.Proofs.YtlefniheafefgaaGreatDoor
open Go.RowKit Go.Shelf Go.Proofs.YtlefniheafefgaaGreatDoor.Ptimes Go.Proofs.YtlefniheafefgaaGreatDoorW.PrintWords

theorem times_mag (A B : Option Addr) (n m c e : Nat) (xs ys : List Int) (w : World) (hx : RI w.heap.size w A n xs) (hy : RI w.heap.size w B m ys) (hxl : limbs xs) (hyl : limbs ys) (hn : n ≤ 1000000) (hm : m ≤ 1000000) (hc : n ≤ c) (he : m ≤ e) :
    Calls Tryz.prog 80 #[.slice A n c, .slice B m e] w fun e w' => ∃ A' n' c', e = .returned (.slice A' n' c') ∧ Mag w' (.slice A' n' c') (lval xs * lval ys) (n + m) ∧ Below w.heap.size w w' := by
  obtain ⟨k, hk⟩ := times_f xs ys hxl hyl (by rw [hx.1]; exact hn) (by rw [hy.1]; exact hm)
  have h1 := hx.1
  have h2 := hy.1
  subst h1
  subst h2
  refine (bigint_times.calls k A c xs B e ys _ w (row_of_ri hx) hc (row_of_ri hy) he hk).mono ?_
  rintro E w' ⟨v, rfl, hV, hB⟩
  have hM := mag_of_V (w0 := w) (x := lval xs * lval ys) (L := xs.length + ys.length) hV (tl_limbs (rowF_ok hxl hyl _)) (tl_topped _) (by rw [tl_val, rowF_all]) (by rw [tl_len]; exact Nat.le_trans (tlen_le _ _) (by rw [rowF_len]; exact Nat.le_refl _))
  obtain ⟨A', c', rfl, _⟩ := hV
  exact ⟨A', _, c', rfl, hM, hB⟩

set_option maxRecDepth 100000 in
set_option maxHeartbeats 4000000 in
theorem product_walk (A B : Option Addr) (n m c e : Nat) (xs ys : List Int) (b b2 : Bool) (w : World) (hx : RI w.heap.size w A n xs) (hy : RI w.heap.size w B m ys) (hxl : limbs xs) (hyl : limbs ys) (hn : n ≤ 1000000) (hm : m ≤ 1000000) (hc : n ≤ c) (he : m ≤ e) :
    Calls Tryz.prog 63 #[.agg #[.bool b, .slice A n c], .agg #[.bool b2, .slice B m e]] w fun e w' => ∃ A' n' c', e = .returned (.agg #[.bool (b != b2), .slice A' n' c']) ∧ Mag w' (.slice A' n' c') (lval xs * lval ys) (n + m) ∧ Below w.heap.size w w' := by
  have HX := Lib.hid hx
  have HY := Lib.hid hy
  have HXl := Lib.hid hxl
  have HYl := Lib.hid hyl
  clear hx hy hxl hyl
  go_enter Tryz.func63, Tryz.ntmps63
  go_wp2
  have hx0 : (((w.alloc (.cells #[.bool b, .slice A n c] 65)).alloc (.cells #[.bool b2, .slice B m e] 65)).alloc (.cells #[.bool false, .slice none 0 0] 65)).heap[w.heap.size]? = some (.cells #[.bool b, .slice A n c] 65) := (Below.heap_alloc _ _ _ (by simp; omega)).trans ((Below.heap_alloc _ _ _ (by simp)).trans (World.alloc_heap_new w _))
  have hx1 : (((w.alloc (.cells #[.bool b, .slice A n c] 65)).alloc (.cells #[.bool b2, .slice B m e] 65)).alloc (.cells #[.bool false, .slice none 0 0] 65)).heap[w.heap.size + 1]? = some (.cells #[.bool b2, .slice B m e] 65) := (Below.heap_alloc _ _ _ (by simp)).trans (by have := World.alloc_heap_new (w.alloc (.cells #[.bool b, .slice A n c] 65)) (.cells #[.bool b2, .slice B m e] 65); rwa [World.size_alloc] at this)
  have hx2 : (((w.alloc (.cells #[.bool b, .slice A n c] 65)).alloc (.cells #[.bool b2, .slice B m e] 65)).alloc (.cells #[.bool false, .slice none 0 0] 65)).heap[w.heap.size + 1 + 1]? = some (.cells #[.bool false, .slice none 0 0] 65) := by have := World.alloc_heap_new ((w.alloc (.cells #[.bool b, .slice A n c] 65)).alloc (.cells #[.bool b2, .slice B m e] 65)) (.cells #[.bool false, .slice none 0 0] 65); rwa [World.size_alloc, World.size_alloc] at this
  have hBa : Below w.heap.size w (((w.alloc (.cells #[.bool b, .slice A n c] 65)).alloc (.cells #[.bool b2, .slice B m e] 65)).alloc (.cells #[.bool false, .slice none 0 0] 65)) := (((Below.refl _ w).alloc (Nat.le_refl _) _).alloc (by simp) _).alloc (by simp; omega) _
  have hsa : (((w.alloc (.cells #[.bool b, .slice A n c] 65)).alloc (.cells #[.bool b2, .slice B m e] 65)).alloc (.cells #[.bool false, .slice none 0 0] 65)).heap.size = w.heap.size + 3 := by simp
  obtain ⟨W5, hW5⟩ : ∃ W5, ((w.alloc (.cells #[.bool b, .slice A n c] 65)).alloc (.cells #[.bool b2, .slice B m e] 65)).alloc (.cells #[.bool false, .slice none 0 0] 65) = W5 := ⟨_, rfl⟩
  rw [hW5] at hx0 hx1 hx2 hBa hsa ⊢
  clear hW5
  have kd : W5.drew.cell? ⟨w.heap.size, 0, none⟩ = some (.bool b) ∧ W5.drew.cell? ⟨w.heap.size, 1, none⟩ = some (.slice A n c) ∧ W5.drew.cell? ⟨w.heap.size + 1, 0, none⟩ = some (.bool b2) ∧ W5.drew.cell? ⟨w.heap.size + 1, 1, none⟩ = some (.slice B m e) := ⟨cellA hx0 0 _ rfl, cellA hx0 1 _ rfl, cellA hx1 0 _ rfl, cellA hx1 1 _ rfl⟩
  have HKC : Hid (∀ v2 : World, Below W5.drew.heap.size W5.drew v2 → v2.cell? ⟨w.heap.size, 0, none⟩ = some (.bool b) ∧ v2.cell? ⟨w.heap.size, 1, none⟩ = some (.slice A n c) ∧ v2.cell? ⟨w.heap.size + 1, 0, none⟩ = some (.bool b2) ∧ v2.cell? ⟨w.heap.size + 1, 1, none⟩ = some (.slice B m e)) := Lib.hid fun v2 hB =>
    ⟨(hB.cell (p := ⟨w.heap.size, 0, none⟩) (by show w.heap.size < W5.heap.size; omega)).trans kd.1, (hB.cell (p := ⟨w.heap.size, 1, none⟩) (by show w.heap.size < W5.heap.size; omega)).trans kd.2.1, (hB.cell (p := ⟨w.heap.size + 1, 0, none⟩) (by show w.heap.size + 1 < W5.heap.size; omega)).trans kd.2.2.1, (hB.cell (p := ⟨w.heap.size + 1, 1, none⟩) (by show w.heap.size + 1 < W5.heap.size; omega)).trans kd.2.2.2⟩
  have HKS : Hid (∀ (v1 : World) (u v : Value), (v1.cell? ⟨w.heap.size, 0, none⟩ = some (.bool b) ∧ v1.cell? ⟨w.heap.size, 1, none⟩ = some (.slice A n c) ∧ v1.cell? ⟨w.heap.size + 1, 0, none⟩ = some (.bool b2) ∧ v1.cell? ⟨w.heap.size + 1, 1, none⟩ = some (.slice B m e)) → ((v1.setCell ⟨w.heap.size + 1 + 1, 0, none⟩ u).setCell ⟨w.heap.size + 1 + 1, 1, none⟩ v).cell? ⟨w.heap.size, 0, none⟩ = some (.bool b) ∧ ((v1.setCell ⟨w.heap.size + 1 + 1, 0, none⟩ u).setCell ⟨w.heap.size + 1 + 1, 1, none⟩ v).cell? ⟨w.heap.size, 1, none⟩ = some (.slice A n c) ∧ ((v1.setCell ⟨w.heap.size + 1 + 1, 0, none⟩ u).setCell ⟨w.heap.size + 1 + 1, 1, none⟩ v).cell? ⟨w.heap.size + 1, 0, none⟩ = some (.bool b2) ∧ ((v1.setCell ⟨w.heap.size + 1 + 1, 0, none⟩ u).setCell ⟨w.heap.size + 1 + 1, 1, none⟩ v).cell? ⟨w.heap.size + 1, 1, none⟩ = some (.slice B m e)) := Lib.hid fun v1 u v ⟨a1, a2, a3, a4⟩ =>
    have h (q : Addr) (hq : w.heap.size + 1 + 1 ≠ q.block) : ((v1.setCell ⟨w.heap.size + 1 + 1, 0, none⟩ u).setCell ⟨w.heap.size + 1 + 1, 1, none⟩ v).cell? q = v1.cell? q := (cell_far _ hq).trans (cell_far _ hq)
    ⟨(h _ (by show w.heap.size + 1 + 1 ≠ w.heap.size; omega)).trans a1, (h _ (by show w.heap.size + 1 + 1 ≠ w.heap.size; omega)).trans a2, (h _ (by show w.heap.size + 1 + 1 ≠ w.heap.size + 1; omega)).trans a3, (h _ (by show w.heap.size + 1 + 1 ≠ w.heap.size + 1; omega)).trans a4⟩
  have HZ := Lib.hid (show W5.drew.heap[w.heap.size + 1 + 1]? = some (.cells #[.bool false, .slice none 0 0] 65) from hx2)
  have HBD := Lib.hid hBa.drew
  have HSD := Lib.hid (show W5.drew.heap.size = w.heap.size + 3 from hsa)
  have HT := Lib.hid (times_mag A B n m c e xs ys W5.drew ((HX.out.below HBD.out).mono (by rw [HSD.out]; omega)) ((HY.out.below HBD.out).mono (by rw [HSD.out]; omega)) HXl.out HYl.out hn hm hc he)
  clear hx0 hx1 hx2 hBa hsa
  go_region_held3 (fun w' => w'.cell? ⟨w.heap.size, 0, none⟩ = some (.bool b) ∧ w'.cell? ⟨w.heap.size, 1, none⟩ = some (.slice A n c) ∧ w'.cell? ⟨w.heap.size + 1, 0, none⟩ = some (.bool b2) ∧ w'.cell? ⟨w.heap.size + 1, 1, none⟩ = some (.slice B m e)) (first | assumption | exact HKS.out _ _ _ (by assumption)) (first
    | (go_at_call 80; refine HT.out.mono ?_; rintro e w3 ⟨A', n', c', rfl, hM, hB3⟩; have k3 := HKC.out _ hB3; have hb4 := (hB3.block (w.heap.size + 1 + 1) (by rw [HSD.out]; omega)).trans HZ.out; have z0 := cellA hb4 0 _ rfl; have z1 := cellA hb4 1 _ rfl; have y0 := frozen_at hb4 0; have y1 := frozen_at hb4 1; have HM := Lib.hid hM; have HB3 := Lib.hid hB3; have HB4 := Lib.hid hb4; clear hM hB3 hb4))
  all_goals (
    go_wp2
    refine bodyPost_ret (results_cell_row rfl _ _ (w.heap.size + 1 + 1) 65 #[.bool (b != b2), .slice A' n' c'] (0, 0) _ rfl (blk_put2 HB4.out _ _ _ _) Tryz.underlying65 rfl (by kernel_rfl)) rfl ?_
    exact ⟨_, _, _, rfl, (HM.out.set HB4.out (no_ints false none 0 0) 0 _).set (blk_put (cs := #[.bool false, .slice none 0 0]) HB4.out 0 (.bool (b != b2)) rfl) (no_ints _ none 0 0) 1 _, below_set2 (HBD.out.trans (HB3.out.mono (by rw [HSD.out]; omega))) (by omega) _ _⟩)
theorem product_num (u v : Value) (x y : Int) (L M : Nat) (w : World) (hu : NumV w u x L) (hv : NumV w v y M) (hL : L ≤ 1000000) (hM : M ≤ 1000000) :
    Calls Tryz.prog 63 #[u, v] w fun e w' => ∃ r, e = .returned r ∧ NumV w' r (x * y) (L + M) ∧ Below w.heap.size w w' := by
  obtain ⟨b, u', x', rfl, ⟨A, n, c, xs, rfl, h1, h2, h3, h4, h5, h6, rfl⟩, rfl⟩ := hu
  obtain ⟨b2, v', y', rfl, ⟨B, m, e, ys, rfl, k1, k2, k3, k4, k5, k6, rfl⟩, rfl⟩ := hv
  refine (product_walk A B n m c e xs ys b b2 w h1 k1 h2 k2 (by omega) (by omega) h4 k4).mono ?_
  rintro E w' ⟨A', n', c', rfl, hMg, hB⟩
  refine ⟨_, rfl, ⟨_, _, _, rfl, hMg.more (by omega), ?_⟩, hB⟩
  cases b <;> cases b2 <;> simp [Int.neg_mul, Int.mul_neg]
end Go.Proofs.YtlefniheafefgaaGreatDoor
