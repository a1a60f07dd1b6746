/- bigint.sum: the operations' function values. · bigint.operations: the table of the operations. · bigint.sum. · bigint.sum. -/
import Derived.Test.YtlefniheafefgaaGreatDoorMags
import Derived.Deep.RegionHeld3
import Derived.Test.YtlefniheafefgaaGreatDoorReads
set_option linter.unusedVariables false
set_option linter.unusedSimpArgs false
namespace Go.Proofs.YtlefniheafefgaaGreatDoor
open Go.RowKit Go.Shelf Go.Proofs.YtlefniheafefgaaGreatDoorW.PrintWords

theorem RI.mono {n₀ n₁ : Nat} {W : World} {A : Option Addr} {n : Nat} {xs : List Int} (h : RI n₀ W A n xs) (hn : n₀ ≤ n₁) : RI n₁ W A n xs := ⟨h.1, h.2.1, fun h0 => by
  obtain ⟨ad, e, hlt, hc⟩ := h.2.2 h0
  exact ⟨ad, e, by omega, hc⟩⟩

theorem cellA {W : World} {B : Nat} {cs : Array Value} {t : TypeId} (h : W.heap[B]? = some (.cells cs t (0, 0))) (k : Nat) (v : Value) (hv : cs[k]? = some v) : W.cell? ⟨B, k, none⟩ = some v := by simp [World.cell?, h, hv]

set_option maxRecDepth 100000 in
set_option maxHeartbeats 1000000 in
theorem neg_same (A B : Option Addr) (n m c e : Nat) (b b2 : Bool) (w : World) :
    Calls Tryz.prog 73 #[.agg #[.bool b, .slice A n c], .agg #[.bool b2, .slice B m e]] w fun e w' => e = .returned (.bool b) ∧ Below w.heap.size w w' := by
  go_enter Tryz.func73, Tryz.ntmps73
  go_wp2
  go_ret
  exact ⟨rfl, ((Below.refl _ w).alloc (Nat.le_refl _) _).alloc (by simp) _⟩

set_option maxRecDepth 100000 in
set_option maxHeartbeats 2000000 in
theorem neg_other (A B : Option Addr) (n m c e : Nat) (xs ys : List Int) (b b2 : Bool) (w : World) (hx : RI w.heap.size w A n xs) (hy : RI w.heap.size w B m ys) :
    Calls Tryz.prog 77 #[.agg #[.bool b, .slice A n c], .agg #[.bool b2, .slice B m e]] w fun e w' => e = .returned (.bool (decide (ordL xs ys < 0) != b)) ∧ Below w.heap.size w w' := by
  have HX := Lib.hid hx
  have HY := Lib.hid hy
  clear hx hy
  go_enter Tryz.func77, Tryz.ntmps77
  go_wp2
  have hB0 : Below w.heap.size w ((w.alloc (.cells #[.bool b, .slice A n c] 65)).alloc (.cells #[.bool b2, .slice B m e] 65)) := ((Below.refl _ w).alloc (Nat.le_refl _) _).alloc (by simp) _
  have h1 : ((w.alloc (.cells #[.bool b, .slice A n c] 65)).alloc (.cells #[.bool b2, .slice B m e] 65)).heap[w.heap.size]? = some (.cells #[.bool b, .slice A n c] 65) := (Below.heap_alloc _ _ _ (by simp)).trans (World.alloc_heap_new w _)
  have h2 : ((w.alloc (.cells #[.bool b, .slice A n c] 65)).alloc (.cells #[.bool b2, .slice B m e] 65)).heap[w.heap.size + 1]? = some (.cells #[.bool b2, .slice B m e] 65) := by
    have := World.alloc_heap_new (w.alloc (.cells #[.bool b, .slice A n c] 65)) (.cells #[.bool b2, .slice B m e] 65)
    rwa [World.size_alloc] at this
  have hsz : ((w.alloc (.cells #[.bool b, .slice A n c] 65)).alloc (.cells #[.bool b2, .slice B m e] 65)).heap.size = w.heap.size + 2 := by simp
  obtain ⟨W0, hW0⟩ : ∃ W0, (w.alloc (.cells #[.bool b, .slice A n c] 65)).alloc (.cells #[.bool b2, .slice B m e] 65) = W0 := ⟨_, rfl⟩
  rw [hW0] at hB0 h1 h2 hsz ⊢
  clear hW0
  have c1 := cellA h1 0 _ rfl
  have c2 := cellA h1 1 _ rfl
  have c3 := cellA h2 1 _ rfl
  have HB0 := Lib.hid hB0
  have Hsz := Lib.hid hsz
  clear h1 h2 hB0 hsz
  have hle : w.heap.size ≤ W0.drew.heap.size := by show w.heap.size ≤ W0.heap.size; have := Hsz.out; omega
  have HXD := Lib.hid ((HX.out.below HB0.out.drew).mono hle)
  have HYD := Lib.hid ((HY.out.below HB0.out.drew).mono hle)
  have hlt1 : w.heap.size < W0.drew.heap.size := by show w.heap.size < W0.heap.size; have := Hsz.out; omega
  have hlt2 : w.heap.size + 1 < W0.drew.heap.size := by show w.heap.size + 1 < W0.heap.size; have := Hsz.out; omega
  have keepc : ∀ w1, Below W0.drew.heap.size W0.drew w1 → w1.cell? ⟨w.heap.size, 0, none⟩ = some (.bool b) ∧ w1.cell? ⟨w.heap.size, 1, none⟩ = some (.slice A n c) ∧ w1.cell? ⟨w.heap.size + 1, 1, none⟩ = some (.slice B m e) := fun w1 hB =>
    ⟨(hB.cell (p := ⟨w.heap.size, 0, none⟩) hlt1).trans c1, (hB.cell (p := ⟨w.heap.size, 1, none⟩) hlt1).trans c2, (hB.cell (p := ⟨w.heap.size + 1, 1, none⟩) hlt2).trans c3⟩
  have hor := order_any A B n m c e xs ys W0.drew HXD.out HYD.out
  have HKC := Lib.hid keepc
  have HOR := Lib.hid hor
  clear keepc hor
  go_region_held3 (fun w' => w'.cell? ⟨w.heap.size, 0, none⟩ = some (.bool b) ∧ w'.cell? ⟨w.heap.size, 1, none⟩ = some (.slice A n c) ∧ w'.cell? ⟨w.heap.size + 1, 1, none⟩ = some (.slice B m e)) (first | exact ⟨c1, c2, c3⟩ | assumption) (first | (go_at_call 75; refine HOR.out.mono ?_; rintro e w1 ⟨rfl, hB⟩; have kk := HKC.out _ hB; have HBZ := Lib.hid hB))
  all_goals (go_wp2; go_ret; exact ⟨rfl, HB0.out.drew.trans (HBZ.out.mono hle)⟩)

/-- The difference of magnitudes, whichever is the greater. -/
def dfL (xs ys : List Int) : List Int := if ordL xs ys < 0 then mnL ys xs else mnL xs ys
set_option maxRecDepth 100000 in
set_option maxHeartbeats 2000000 in
theorem minus_other (A B : Option Addr) (n m c e : Nat) (xs ys : List Int) (w : World) (hx : RI w.heap.size w A n xs) (hy : RI w.heap.size w B m ys) (hxl : limbs xs) (hyl : limbs ys) (hn : n ≤ 35184372088831) (hm : m ≤ 35184372088831) :
    Calls Tryz.prog 74 #[.slice A n c, .slice B m e] w fun e w' => ∃ A' c', e = .returned (.slice A' (tlen (dfL xs ys) (dfL xs ys).length) c') ∧ ReadsInt w' .i64 A' (dfL xs ys).length (dfL xs ys) ∧ (dfL xs ys).length ≤ c' ∧ c' ≤ 9223372036854775807 ∧ (∀ ad, A' = some ad → w.heap.size ≤ ad.block ∧ ad.block < w'.heap.size) ∧ Below w.heap.size w w' := by
  have HX := Lib.hid hx
  have HY := Lib.hid hy
  have HXl := Lib.hid hxl
  have HYl := Lib.hid hyl
  clear hx hy hxl hyl
  go_enter Tryz.func74, Tryz.ntmps74
  by_cases h : ordL xs ys < 0
  · have hl : Hid (dfL xs ys = mnL ys xs) := by show dfL xs ys = _; rw [dfL, if_pos h]
    have hlen : Hid ((mnL ys xs).length ≤ 35184372088831) := by show _ ≤ _; rw [mnL, mnF_len, HY.out.1]; exact hm
    go_wp2_with (first
      | (go_at_call 75; refine (order_any _ _ _ _ _ _ xs ys _ HX.out HY.out).mono ?_; rintro e w1 ⟨rfl, hB⟩; have HB := Lib.hid hB; have hsz := hB.size; clear hB)
      | (go_at_call 76; refine (minus_walk _ _ _ _ _ _ ys xs w1 ((HY.out.below HB.out).mono hsz) ((HX.out.below HB.out).mono hsz) HYl.out HXl.out hm hn).mono ?_; rintro e w2 ⟨rfl, hR, hB2⟩; have HR := Lib.hid hR; have HB2 := Lib.hid hB2; clear hR hB2))
    go_ret
    refine ⟨_, _, by rw [hl.out]; rfl, by rw [hl.out]; exact rowd_reads HR.out (by have := hlen.out; omega), by rw [hl.out]; exact Nat.le_refl _, by have := hlen.out; omega, fun ad e => ?_, HB.out.trans (HB2.out.mono hsz)⟩
    cases e
    exact ⟨hsz, HR.out.lt⟩
  · have hl : Hid (dfL xs ys = mnL xs ys) := by show dfL xs ys = _; rw [dfL, if_neg h]
    have hlen : Hid ((mnL xs ys).length ≤ 35184372088831) := by show _ ≤ _; rw [mnL, mnF_len, HX.out.1]; exact hn
    go_wp2_with (first
      | (go_at_call 75; refine (order_any _ _ _ _ _ _ xs ys _ HX.out HY.out).mono ?_; rintro e w1 ⟨rfl, hB⟩; have HB := Lib.hid hB; have hsz := hB.size; clear hB)
      | (go_at_call 76; refine (minus_walk _ _ _ _ _ _ xs ys w1 ((HX.out.below HB.out).mono hsz) ((HY.out.below HB.out).mono hsz) HXl.out HYl.out hn hm).mono ?_; rintro e w2 ⟨rfl, hR, hB2⟩; have HR := Lib.hid hR; have HB2 := Lib.hid hB2; clear hR hB2))
    go_ret
    refine ⟨_, _, by rw [hl.out]; rfl, by rw [hl.out]; exact rowd_reads HR.out (by have := hlen.out; omega), by rw [hl.out]; exact Nat.le_refl _, by have := hlen.out; omega, fun ad e => ?_, HB.out.trans (HB2.out.mono hsz)⟩
    cases e
    exact ⟨hsz, HR.out.lt⟩
end Go.Proofs.YtlefniheafefgaaGreatDoor

namespace Go.Proofs.YtlefniheafefgaaGreatDoor
open Go.RowKit Go.Shelf Go.Proofs.YtlefniheafefgaaGreatDoorW.PrintWords

set_option maxRecDepth 100000 in
set_option maxHeartbeats 1000000 in
theorem operations_walk (w : World) :
    Calls Tryz.prog 59 #[] w fun e w' => e = .returned (.agg #[.func (.func 72) #[] #[], .func (.func 73) #[] #[], .func (.func 74) #[] #[], .func (.func 77) #[] #[]]) ∧ Below w.heap.size w w' := by
  go_enter Tryz.func59, Tryz.ntmps59
  have HB0 := fun t => World.alloc_heap_new w (.cells #[.nilFunc, .nilFunc, .nilFunc, .nilFunc] t)
  have hst := fun (a : Addr) (f : Fn) (w' : World) => run_store Tryz.prog w' a (.func f #[] #[]) .plain rfl
  have c0 := fun t => cellA (HB0 t) 0 _ rfl
  have c1 := fun t => cellA (HB0 t) 1 _ rfl
  have c2 := fun t => cellA (HB0 t) 2 _ rfl
  have c3 := fun t => cellA (HB0 t) 3 _ rfl
  have f0 := fun t => frozen_at (HB0 t)
  clear HB0
  go_wp2
  refine bodyPost_ret (results_cell_row rfl _ _ w.heap.size _ _ (0, 0) _ rfl (World.alloc_heap_new w _) Tryz.underlying89 rfl (by kernel_rfl)) rfl ?_
  exact ⟨rfl, (Below.refl _ w).alloc (Nat.le_refl _) _⟩

end Go.Proofs.YtlefniheafefgaaGreatDoor

namespace Go.Proofs.YtlefniheafefgaaGreatDoor
open Go.RowKit Go.Shelf Go.Proofs.YtlefniheafefgaaGreatDoorW.PrintWords

theorem plL_le (xs ys : List Int) (K : Nat) (hx : xs.length ≤ K) (hy : ys.length ≤ K) : (plL xs ys).length ≤ K + 1 := by
  unfold plL
  split <;> rw [plF_len] <;> omega
theorem cell_far {W : World} {p q : Addr} (v : Value) (h : p.block ≠ q.block) : (W.setCell p v).cell? q = W.cell? q := World.cell?_of_block (Below.heap_setCell W p v q.block (fun e => h e.symm))

set_option maxRecDepth 100000 in
set_option maxHeartbeats 2000000 in
theorem sum_same (A B : Option Addr) (n m c e : Nat) (xs ys : List Int) (b : Bool) (w : World) (hx : RI w.heap.size w A n xs) (hy : RI w.heap.size w B m ys) (hxl : limbs xs) (hyl : limbs ys) (hn : n ≤ 35184372088831) (hm : m ≤ 35184372088831) :
    Calls Tryz.prog 35 #[.agg #[.bool b, .slice A n c], .agg #[.bool b, .slice B m e]] w fun e w' => ∃ A' c', e = .returned (.agg #[.bool b, .slice A' (tlen (plL xs ys) (plL xs ys).length) c']) ∧ ReadsInt w' .i64 A' (plL xs ys).length (plL xs ys) ∧ (plL xs ys).length ≤ c' ∧ c' ≤ 9223372036854775807 ∧ (∀ ad, A' = some ad → w.heap.size ≤ ad.block ∧ ad.block < w'.heap.size) ∧ Below w.heap.size w w' := by
  have HPL := Lib.hid (plL_le xs ys 35184372088831 (by rw [hx.1]; exact hn) (by rw [hy.1]; exact hm))
  have HX := Lib.hid hx
  have HY := Lib.hid hy
  have HXl := Lib.hid hxl
  have HYl := Lib.hid hyl
  clear hx hy hxl hyl
  have hst := fun (a : Addr) (f : Fn) (w' : World) => run_store Tryz.prog w' a (.func f #[] #[]) .plain rfl
  have c0 := fun (W : World) t => cellA (World.alloc_heap_new W (.cells #[.nilFunc, .nilFunc] t)) 0 _ rfl
  have c1 := fun (W : World) t => cellA (World.alloc_heap_new W (.cells #[.nilFunc, .nilFunc] t)) 1 _ rfl
  have f0 := fun (W : World) t => frozen_at (World.alloc_heap_new W (.cells #[.nilFunc, .nilFunc] t))
  have hix := fun (f g h k : Value) (w' : World) => show (Instr.index 89 (.agg #[f, g, h, k]) (.int .i64 0)).run Tryz.prog w' = .ok (.agg #[f, g]) w' by
    simp [Instr.index, asIntOf, part, run_underlying Tryz.underlying89, go_sem, Tryz.isAgg88, Tryz.sizeOf88]
  go_enter Tryz.func35, Tryz.ntmps35
  go_wp2_with (go_at_call 59; refine (operations_walk _).mono ?_; rintro e w1 ⟨rfl, hB⟩; have HB := Lib.hid hB; clear hB)
  have hx0 : (((w.alloc (.cells #[.bool b, .slice A n c] 65)).alloc (.cells #[.bool b, .slice B m e] 65)).alloc (.cells #[.bool false, .slice none 0 0] 65)).heap[w.heap.size]? = some (.cells #[.bool b, .slice A n c] 65) := (Below.heap_alloc _ _ _ (by simp; omega)).trans ((Below.heap_alloc _ _ _ (by simp)).trans (World.alloc_heap_new w _))
  have hx1 : (((w.alloc (.cells #[.bool b, .slice A n c] 65)).alloc (.cells #[.bool b, .slice B m e] 65)).alloc (.cells #[.bool false, .slice none 0 0] 65)).heap[w.heap.size + 1]? = some (.cells #[.bool b, .slice B m e] 65) := (Below.heap_alloc _ _ _ (by simp)).trans (by have := World.alloc_heap_new (w.alloc (.cells #[.bool b, .slice A n c] 65)) (.cells #[.bool b, .slice B m e] 65); rwa [World.size_alloc] at this)
  have hx2 : (((w.alloc (.cells #[.bool b, .slice A n c] 65)).alloc (.cells #[.bool b, .slice B m e] 65)).alloc (.cells #[.bool false, .slice none 0 0] 65)).heap[w.heap.size + 1 + 1]? = some (.cells #[.bool false, .slice none 0 0] 65) := by have := World.alloc_heap_new ((w.alloc (.cells #[.bool b, .slice A n c] 65)).alloc (.cells #[.bool b, .slice B m e] 65)) (.cells #[.bool false, .slice none 0 0] 65); rwa [World.size_alloc, World.size_alloc] at this
  have hBa : Below w.heap.size w (((w.alloc (.cells #[.bool b, .slice A n c] 65)).alloc (.cells #[.bool b, .slice B m e] 65)).alloc (.cells #[.bool false, .slice none 0 0] 65)) := (((Below.refl _ w).alloc (Nat.le_refl _) _).alloc (by simp) _).alloc (by simp; omega) _
  have hsa : (((w.alloc (.cells #[.bool b, .slice A n c] 65)).alloc (.cells #[.bool b, .slice B m e] 65)).alloc (.cells #[.bool false, .slice none 0 0] 65)).heap.size = w.heap.size + 3 := by simp
  have hs1 := HB.out.size
  obtain ⟨W5, hW5⟩ : ∃ W5, w1.alloc (.cells #[.func (.func 72) #[] #[], .func (.func 73) #[] #[]] 88) = W5 := ⟨_, rfl⟩
  have hy0 : W5.heap[w.heap.size]? = some (.cells #[.bool b, .slice A n c] 65) := by rw [← hW5]; exact (Below.heap_alloc _ _ _ (by omega)).trans ((HB.out.block _ (by omega)).trans hx0)
  have hy1 : W5.heap[w.heap.size + 1]? = some (.cells #[.bool b, .slice B m e] 65) := by rw [← hW5]; exact (Below.heap_alloc _ _ _ (by omega)).trans ((HB.out.block _ (by omega)).trans hx1)
  have hy2 : W5.heap[w.heap.size + 1 + 1]? = some (.cells #[.bool false, .slice none 0 0] 65) := by rw [← hW5]; exact (Below.heap_alloc _ _ _ (by omega)).trans ((HB.out.block _ (by omega)).trans hx2)
  have hy3 : W5.heap[w1.heap.size]? = some (.cells #[.func (.func 72) #[] #[], .func (.func 73) #[] #[]] 88) := by rw [← hW5]; exact World.alloc_heap_new w1 _
  have hB5 : Below w.heap.size w W5 := by rw [← hW5]; exact (hBa.trans (HB.out.mono (by omega))).alloc (by omega) _
  have hs5 : w1.heap.size < W5.heap.size := by rw [← hW5]; simp
  rw [hW5]
  clear hx0 hx1 hx2 hBa hW5 hst c0 c1 f0 hix
  have k5 : W5.cell? ⟨w.heap.size, 0, none⟩ = some (.bool b) ∧ W5.cell? ⟨w.heap.size, 1, none⟩ = some (.slice A n c) ∧ W5.cell? ⟨w.heap.size + 1, 0, none⟩ = some (.bool b) ∧ W5.cell? ⟨w.heap.size + 1, 1, none⟩ = some (.slice B m e) ∧ W5.cell? ⟨w1.heap.size, 0, none⟩ = some (.func (.func 72) #[] #[]) ∧ W5.cell? ⟨w1.heap.size, 1, none⟩ = some (.func (.func 73) #[] #[]) := ⟨cellA hy0 0 _ rfl, cellA hy0 1 _ rfl, cellA hy1 0 _ rfl, cellA hy1 1 _ rfl, cellA hy3 0 _ rfl, cellA hy3 1 _ rfl⟩
  have keepc : ∀ v1 v2 : World, w1.heap.size < v1.heap.size → Below v1.heap.size v1 v2 → (v1.cell? ⟨w.heap.size, 0, none⟩ = some (.bool b) ∧ v1.cell? ⟨w.heap.size, 1, none⟩ = some (.slice A n c) ∧ v1.cell? ⟨w.heap.size + 1, 0, none⟩ = some (.bool b) ∧ v1.cell? ⟨w.heap.size + 1, 1, none⟩ = some (.slice B m e) ∧ v1.cell? ⟨w1.heap.size, 0, none⟩ = some (.func (.func 72) #[] #[]) ∧ v1.cell? ⟨w1.heap.size, 1, none⟩ = some (.func (.func 73) #[] #[])) → v2.cell? ⟨w.heap.size, 0, none⟩ = some (.bool b) ∧ v2.cell? ⟨w.heap.size, 1, none⟩ = some (.slice A n c) ∧ v2.cell? ⟨w.heap.size + 1, 0, none⟩ = some (.bool b) ∧ v2.cell? ⟨w.heap.size + 1, 1, none⟩ = some (.slice B m e) ∧ v2.cell? ⟨w1.heap.size, 0, none⟩ = some (.func (.func 72) #[] #[]) ∧ v2.cell? ⟨w1.heap.size, 1, none⟩ = some (.func (.func 73) #[] #[]) := fun v1 v2 hl hB ⟨a1, a2, a3, a4, a5, a6⟩ =>
    ⟨(hB.cell (p := ⟨w.heap.size, 0, none⟩) (by show w.heap.size < _; omega)).trans a1, (hB.cell (p := ⟨w.heap.size, 1, none⟩) (by show w.heap.size < _; omega)).trans a2, (hB.cell (p := ⟨w.heap.size + 1, 0, none⟩) (by show w.heap.size + 1 < _; omega)).trans a3, (hB.cell (p := ⟨w.heap.size + 1, 1, none⟩) (by show w.heap.size + 1 < _; omega)).trans a4, (hB.cell (p := ⟨w1.heap.size, 0, none⟩) hl).trans a5, (hB.cell (p := ⟨w1.heap.size, 1, none⟩) hl).trans a6⟩
  have HKC := Lib.hid keepc
  have keeps : ∀ (v1 : World) (u v : Value), (v1.cell? ⟨w.heap.size, 0, none⟩ = some (.bool b) ∧ v1.cell? ⟨w.heap.size, 1, none⟩ = some (.slice A n c) ∧ v1.cell? ⟨w.heap.size + 1, 0, none⟩ = some (.bool b) ∧ v1.cell? ⟨w.heap.size + 1, 1, none⟩ = some (.slice B m e) ∧ v1.cell? ⟨w1.heap.size, 0, none⟩ = some (.func (.func 72) #[] #[]) ∧ v1.cell? ⟨w1.heap.size, 1, none⟩ = some (.func (.func 73) #[] #[])) → ((v1.setCell ⟨w.heap.size + 1 + 1, 0, none⟩ u).setCell ⟨w.heap.size + 1 + 1, 1, none⟩ v).cell? ⟨w.heap.size, 0, none⟩ = some (.bool b) ∧ ((v1.setCell ⟨w.heap.size + 1 + 1, 0, none⟩ u).setCell ⟨w.heap.size + 1 + 1, 1, none⟩ v).cell? ⟨w.heap.size, 1, none⟩ = some (.slice A n c) ∧ ((v1.setCell ⟨w.heap.size + 1 + 1, 0, none⟩ u).setCell ⟨w.heap.size + 1 + 1, 1, none⟩ v).cell? ⟨w.heap.size + 1, 0, none⟩ = some (.bool b) ∧ ((v1.setCell ⟨w.heap.size + 1 + 1, 0, none⟩ u).setCell ⟨w.heap.size + 1 + 1, 1, none⟩ v).cell? ⟨w.heap.size + 1, 1, none⟩ = some (.slice B m e) ∧ ((v1.setCell ⟨w.heap.size + 1 + 1, 0, none⟩ u).setCell ⟨w.heap.size + 1 + 1, 1, none⟩ v).cell? ⟨w1.heap.size, 0, none⟩ = some (.func (.func 72) #[] #[]) ∧ ((v1.setCell ⟨w.heap.size + 1 + 1, 0, none⟩ u).setCell ⟨w.heap.size + 1 + 1, 1, none⟩ v).cell? ⟨w1.heap.size, 1, none⟩ = some (.func (.func 73) #[] #[]) := fun v1 u v ⟨a1, a2, a3, a4, a5, a6⟩ =>
    have h (q : Addr) (hq : w.heap.size + 1 + 1 ≠ q.block) : ((v1.setCell ⟨w.heap.size + 1 + 1, 0, none⟩ u).setCell ⟨w.heap.size + 1 + 1, 1, none⟩ v).cell? q = v1.cell? q := (cell_far _ hq).trans (cell_far _ hq)
    ⟨(h _ (by show w.heap.size + 1 + 1 ≠ w.heap.size; omega)).trans a1, (h _ (by show w.heap.size + 1 + 1 ≠ w.heap.size; omega)).trans a2, (h _ (by show w.heap.size + 1 + 1 ≠ w.heap.size + 1; omega)).trans a3, (h _ (by show w.heap.size + 1 + 1 ≠ w.heap.size + 1; omega)).trans a4, (h _ (by show w.heap.size + 1 + 1 ≠ w1.heap.size; omega)).trans a5, (h _ (by show w.heap.size + 1 + 1 ≠ w1.heap.size; omega)).trans a6⟩
  have HKS := Lib.hid keeps
  have kd : W5.drew.cell? ⟨w.heap.size, 0, none⟩ = some (.bool b) ∧ W5.drew.cell? ⟨w.heap.size, 1, none⟩ = some (.slice A n c) ∧ W5.drew.cell? ⟨w.heap.size + 1, 0, none⟩ = some (.bool b) ∧ W5.drew.cell? ⟨w.heap.size + 1, 1, none⟩ = some (.slice B m e) ∧ W5.drew.cell? ⟨w1.heap.size, 0, none⟩ = some (.func (.func 72) #[] #[]) ∧ W5.drew.cell? ⟨w1.heap.size, 1, none⟩ = some (.func (.func 73) #[] #[]) := k5
  have hs5d : w1.heap.size < W5.drew.heap.size := hs5
  have hzd : W5.drew.heap[w.heap.size + 1 + 1]? = some (.cells #[.bool false, .slice none 0 0] 65) := hy2
  have HZ := Lib.hid hzd
  have HBD := Lib.hid hB5.drew
  have hne : ¬ w1.heap.size = w.heap.size + 1 + 1 := by omega
  clear hy0 hy1 hy2 hy3 keepc keeps hB5 hzd
  go_region_held3 (fun w' => w'.cell? ⟨w.heap.size, 0, none⟩ = some (.bool b) ∧ w'.cell? ⟨w.heap.size, 1, none⟩ = some (.slice A n c) ∧ w'.cell? ⟨w.heap.size + 1, 0, none⟩ = some (.bool b) ∧ w'.cell? ⟨w.heap.size + 1, 1, none⟩ = some (.slice B m e) ∧ w'.cell? ⟨w1.heap.size, 0, none⟩ = some (.func (.func 72) #[] #[]) ∧ w'.cell? ⟨w1.heap.size, 1, none⟩ = some (.func (.func 73) #[] #[])) (first | assumption | exact HKS.out _ _ _ (by assumption)) (first
    | (go_at_call 73; refine (neg_same A B n m c e b b W5.drew).mono ?_; rintro e w2 ⟨rfl, hB2⟩; have k2 := HKC.out _ _ hs5d hB2 kd; have HB2 := Lib.hid hB2; have hs2 := hB2.size; clear hB2)
    | (go_at_call 72; refine (plus_walk A B n m c e xs ys w2 ((HX.out.below (HBD.out.trans (HB2.out.mono (by omega)))).mono (by omega)) ((HY.out.below (HBD.out.trans (HB2.out.mono (by omega)))).mono (by omega)) HXl.out HYl.out hn hm).mono ?_; rintro e w3 ⟨rfl, hR3, hB3⟩; have k3 := HKC.out _ _ (by omega) hB3 k2; have hb4 := (hB3.block (w.heap.size + 1 + 1) (by omega)).trans ((HB2.out.block (w.heap.size + 1 + 1) (by omega)).trans HZ.out); have z0 := cellA hb4 0 _ rfl; have z1 := cellA hb4 1 _ rfl; have y0 := frozen_at hb4 0; have y1 := frozen_at hb4 1; have HR3 := Lib.hid hR3; have HB3 := Lib.hid hB3; have HB4 := Lib.hid hb4; clear hR3 hB3 hb4))
  all_goals (
    go_wp2
    refine bodyPost_ret (results_cell_row rfl _ _ (w.heap.size + 1 + 1) 65 #[.bool b, .slice (some ⟨w2.heap.size, 0, none⟩) (tlen (plL xs ys) (plL xs ys).length) (plL xs ys).length] (0, 0) _ rfl (blk_put (cs := #[.bool b, .slice none 0 0]) (blk_put (cs := #[.bool false, .slice none 0 0]) HB4.out 0 _ rfl) 1 _ rfl) Tryz.underlying65 rfl (by kernel_rfl)) rfl ?_
    have hpl := HPL.out
    have hbw := HBD.out.trans ((HB2.out.mono (by omega)).trans (HB3.out.mono (by omega)))
    have hlt := HR3.out.lt
    refine ⟨_, _, rfl, reads_set (reads_set (rowd_reads HR3.out (by omega)) _ (fun ad e => ?_)) _ (fun ad e => ?_), Nat.le_refl _, by omega, fun ad e => ?_, (hbw.setCell (p := ⟨w.heap.size + 1 + 1, 0, none⟩) (by show w.heap.size ≤ w.heap.size + 1 + 1; omega) _).setCell (p := ⟨w.heap.size + 1 + 1, 1, none⟩) (by show w.heap.size ≤ w.heap.size + 1 + 1; omega) _⟩
    · cases e; show w.heap.size + 1 + 1 ≠ w2.heap.size; omega
    · cases e; show w.heap.size + 1 + 1 ≠ w2.heap.size; omega
    · cases e; simp only [World.setCell, Array.size_modify]; omega)
end Go.Proofs.YtlefniheafefgaaGreatDoor

namespace Go.Proofs.YtlefniheafefgaaGreatDoor
open Go.RowKit Go.Shelf Go.Proofs.YtlefniheafefgaaGreatDoorW.PrintWords

theorem dfL_le (xs ys : List Int) (K : Nat) (hx : xs.length ≤ K) (hy : ys.length ≤ K) : (dfL xs ys).length ≤ K := by
  unfold dfL mnL
  split <;> rw [mnF_len] <;> omega

set_option maxRecDepth 100000 in
set_option maxHeartbeats 2000000 in
theorem sum_other (A B : Option Addr) (n m c e : Nat) (xs ys : List Int) (b : Bool) (w : World) (hx : RI w.heap.size w A n xs) (hy : RI w.heap.size w B m ys) (hxl : limbs xs) (hyl : limbs ys) (hn : n ≤ 35184372088831) (hm : m ≤ 35184372088831) :
    Calls Tryz.prog 35 #[.agg #[.bool b, .slice A n c], .agg #[.bool (!b), .slice B m e]] w fun e w' => ∃ A' c', e = .returned (.agg #[.bool (decide (ordL xs ys < 0) != b), .slice A' (tlen (dfL xs ys) (dfL xs ys).length) c']) ∧ ReadsInt w' .i64 A' (dfL xs ys).length (dfL xs ys) ∧ (dfL xs ys).length ≤ c' ∧ c' ≤ 9223372036854775807 ∧ (∀ ad, A' = some ad → w.heap.size ≤ ad.block ∧ ad.block < w'.heap.size) ∧ Below w.heap.size w w' := by
  have HPL := Lib.hid (dfL_le xs ys 35184372088831 (by rw [hx.1]; exact hn) (by rw [hy.1]; exact hm))
  have HX := Lib.hid hx
  have HY := Lib.hid hy
  have HXl := Lib.hid hxl
  have HYl := Lib.hid hyl
  clear hx hy hxl hyl
  have hst := fun (a : Addr) (f : Fn) (w' : World) => run_store Tryz.prog w' a (.func f #[] #[]) .plain rfl
  have c0 := fun (W : World) t => cellA (World.alloc_heap_new W (.cells #[.nilFunc, .nilFunc] t)) 0 _ rfl
  have c1 := fun (W : World) t => cellA (World.alloc_heap_new W (.cells #[.nilFunc, .nilFunc] t)) 1 _ rfl
  have f0 := fun (W : World) t => frozen_at (World.alloc_heap_new W (.cells #[.nilFunc, .nilFunc] t))
  have hix := fun (f g h k : Value) (w' : World) => show (Instr.index 89 (.agg #[f, g, h, k]) (.int .i64 1)).run Tryz.prog w' = .ok (.agg #[h, k]) w' by
    simp [Instr.index, asIntOf, part, run_underlying Tryz.underlying89, go_sem, Tryz.isAgg88, Tryz.sizeOf88]
  go_enter Tryz.func35, Tryz.ntmps35
  go_wp2_with (go_at_call 59; refine (operations_walk _).mono ?_; rintro e w1 ⟨rfl, hB⟩; have HB := Lib.hid hB; clear hB)
  have hx0 : (((w.alloc (.cells #[.bool b, .slice A n c] 65)).alloc (.cells #[.bool (!b), .slice B m e] 65)).alloc (.cells #[.bool false, .slice none 0 0] 65)).heap[w.heap.size]? = some (.cells #[.bool b, .slice A n c] 65) := (Below.heap_alloc _ _ _ (by simp; omega)).trans ((Below.heap_alloc _ _ _ (by simp)).trans (World.alloc_heap_new w _))
  have hx1 : (((w.alloc (.cells #[.bool b, .slice A n c] 65)).alloc (.cells #[.bool (!b), .slice B m e] 65)).alloc (.cells #[.bool false, .slice none 0 0] 65)).heap[w.heap.size + 1]? = some (.cells #[.bool (!b), .slice B m e] 65) := (Below.heap_alloc _ _ _ (by simp)).trans (by have := World.alloc_heap_new (w.alloc (.cells #[.bool b, .slice A n c] 65)) (.cells #[.bool (!b), .slice B m e] 65); rwa [World.size_alloc] at this)
  have hx2 : (((w.alloc (.cells #[.bool b, .slice A n c] 65)).alloc (.cells #[.bool (!b), .slice B m e] 65)).alloc (.cells #[.bool false, .slice none 0 0] 65)).heap[w.heap.size + 1 + 1]? = some (.cells #[.bool false, .slice none 0 0] 65) := by have := World.alloc_heap_new ((w.alloc (.cells #[.bool b, .slice A n c] 65)).alloc (.cells #[.bool (!b), .slice B m e] 65)) (.cells #[.bool false, .slice none 0 0] 65); rwa [World.size_alloc, World.size_alloc] at this
  have hBa : Below w.heap.size w (((w.alloc (.cells #[.bool b, .slice A n c] 65)).alloc (.cells #[.bool (!b), .slice B m e] 65)).alloc (.cells #[.bool false, .slice none 0 0] 65)) := (((Below.refl _ w).alloc (Nat.le_refl _) _).alloc (by simp) _).alloc (by simp; omega) _
  have hsa : (((w.alloc (.cells #[.bool b, .slice A n c] 65)).alloc (.cells #[.bool (!b), .slice B m e] 65)).alloc (.cells #[.bool false, .slice none 0 0] 65)).heap.size = w.heap.size + 3 := by simp
  have hs1 := HB.out.size
  obtain ⟨W5, hW5⟩ : ∃ W5, w1.alloc (.cells #[.func (.func 74) #[] #[], .func (.func 77) #[] #[]] 88) = W5 := ⟨_, rfl⟩
  have hy0 : W5.heap[w.heap.size]? = some (.cells #[.bool b, .slice A n c] 65) := by rw [← hW5]; exact (Below.heap_alloc _ _ _ (by omega)).trans ((HB.out.block _ (by omega)).trans hx0)
  have hy1 : W5.heap[w.heap.size + 1]? = some (.cells #[.bool (!b), .slice B m e] 65) := by rw [← hW5]; exact (Below.heap_alloc _ _ _ (by omega)).trans ((HB.out.block _ (by omega)).trans hx1)
  have hy2 : W5.heap[w.heap.size + 1 + 1]? = some (.cells #[.bool false, .slice none 0 0] 65) := by rw [← hW5]; exact (Below.heap_alloc _ _ _ (by omega)).trans ((HB.out.block _ (by omega)).trans hx2)
  have hy3 : W5.heap[w1.heap.size]? = some (.cells #[.func (.func 74) #[] #[], .func (.func 77) #[] #[]] 88) := by rw [← hW5]; exact World.alloc_heap_new w1 _
  have hB5 : Below w.heap.size w W5 := by rw [← hW5]; exact (hBa.trans (HB.out.mono (by omega))).alloc (by omega) _
  have hs5 : w1.heap.size < W5.heap.size := by rw [← hW5]; simp
  rw [hW5]
  clear hx0 hx1 hx2 hBa hW5 hst c0 c1 f0 hix
  have k5 : W5.cell? ⟨w.heap.size, 0, none⟩ = some (.bool b) ∧ W5.cell? ⟨w.heap.size, 1, none⟩ = some (.slice A n c) ∧ W5.cell? ⟨w.heap.size + 1, 0, none⟩ = some (.bool (!b)) ∧ W5.cell? ⟨w.heap.size + 1, 1, none⟩ = some (.slice B m e) ∧ W5.cell? ⟨w1.heap.size, 0, none⟩ = some (.func (.func 74) #[] #[]) ∧ W5.cell? ⟨w1.heap.size, 1, none⟩ = some (.func (.func 77) #[] #[]) := ⟨cellA hy0 0 _ rfl, cellA hy0 1 _ rfl, cellA hy1 0 _ rfl, cellA hy1 1 _ rfl, cellA hy3 0 _ rfl, cellA hy3 1 _ rfl⟩
  have keepc : ∀ v1 v2 : World, w1.heap.size < v1.heap.size → Below v1.heap.size v1 v2 → (v1.cell? ⟨w.heap.size, 0, none⟩ = some (.bool b) ∧ v1.cell? ⟨w.heap.size, 1, none⟩ = some (.slice A n c) ∧ v1.cell? ⟨w.heap.size + 1, 0, none⟩ = some (.bool (!b)) ∧ v1.cell? ⟨w.heap.size + 1, 1, none⟩ = some (.slice B m e) ∧ v1.cell? ⟨w1.heap.size, 0, none⟩ = some (.func (.func 74) #[] #[]) ∧ v1.cell? ⟨w1.heap.size, 1, none⟩ = some (.func (.func 77) #[] #[])) → v2.cell? ⟨w.heap.size, 0, none⟩ = some (.bool b) ∧ v2.cell? ⟨w.heap.size, 1, none⟩ = some (.slice A n c) ∧ v2.cell? ⟨w.heap.size + 1, 0, none⟩ = some (.bool (!b)) ∧ v2.cell? ⟨w.heap.size + 1, 1, none⟩ = some (.slice B m e) ∧ v2.cell? ⟨w1.heap.size, 0, none⟩ = some (.func (.func 74) #[] #[]) ∧ v2.cell? ⟨w1.heap.size, 1, none⟩ = some (.func (.func 77) #[] #[]) := fun v1 v2 hl hB ⟨a1, a2, a3, a4, a5, a6⟩ =>
    ⟨(hB.cell (p := ⟨w.heap.size, 0, none⟩) (by show w.heap.size < _; omega)).trans a1, (hB.cell (p := ⟨w.heap.size, 1, none⟩) (by show w.heap.size < _; omega)).trans a2, (hB.cell (p := ⟨w.heap.size + 1, 0, none⟩) (by show w.heap.size + 1 < _; omega)).trans a3, (hB.cell (p := ⟨w.heap.size + 1, 1, none⟩) (by show w.heap.size + 1 < _; omega)).trans a4, (hB.cell (p := ⟨w1.heap.size, 0, none⟩) hl).trans a5, (hB.cell (p := ⟨w1.heap.size, 1, none⟩) hl).trans a6⟩
  have HKC := Lib.hid keepc
  have keeps : ∀ (v1 : World) (u v : Value), (v1.cell? ⟨w.heap.size, 0, none⟩ = some (.bool b) ∧ v1.cell? ⟨w.heap.size, 1, none⟩ = some (.slice A n c) ∧ v1.cell? ⟨w.heap.size + 1, 0, none⟩ = some (.bool (!b)) ∧ v1.cell? ⟨w.heap.size + 1, 1, none⟩ = some (.slice B m e) ∧ v1.cell? ⟨w1.heap.size, 0, none⟩ = some (.func (.func 74) #[] #[]) ∧ v1.cell? ⟨w1.heap.size, 1, none⟩ = some (.func (.func 77) #[] #[])) → ((v1.setCell ⟨w.heap.size + 1 + 1, 0, none⟩ u).setCell ⟨w.heap.size + 1 + 1, 1, none⟩ v).cell? ⟨w.heap.size, 0, none⟩ = some (.bool b) ∧ ((v1.setCell ⟨w.heap.size + 1 + 1, 0, none⟩ u).setCell ⟨w.heap.size + 1 + 1, 1, none⟩ v).cell? ⟨w.heap.size, 1, none⟩ = some (.slice A n c) ∧ ((v1.setCell ⟨w.heap.size + 1 + 1, 0, none⟩ u).setCell ⟨w.heap.size + 1 + 1, 1, none⟩ v).cell? ⟨w.heap.size + 1, 0, none⟩ = some (.bool (!b)) ∧ ((v1.setCell ⟨w.heap.size + 1 + 1, 0, none⟩ u).setCell ⟨w.heap.size + 1 + 1, 1, none⟩ v).cell? ⟨w.heap.size + 1, 1, none⟩ = some (.slice B m e) ∧ ((v1.setCell ⟨w.heap.size + 1 + 1, 0, none⟩ u).setCell ⟨w.heap.size + 1 + 1, 1, none⟩ v).cell? ⟨w1.heap.size, 0, none⟩ = some (.func (.func 74) #[] #[]) ∧ ((v1.setCell ⟨w.heap.size + 1 + 1, 0, none⟩ u).setCell ⟨w.heap.size + 1 + 1, 1, none⟩ v).cell? ⟨w1.heap.size, 1, none⟩ = some (.func (.func 77) #[] #[]) := fun v1 u v ⟨a1, a2, a3, a4, a5, a6⟩ =>
    have h (q : Addr) (hq : w.heap.size + 1 + 1 ≠ q.block) : ((v1.setCell ⟨w.heap.size + 1 + 1, 0, none⟩ u).setCell ⟨w.heap.size + 1 + 1, 1, none⟩ v).cell? q = v1.cell? q := (cell_far _ hq).trans (cell_far _ hq)
    ⟨(h _ (by show w.heap.size + 1 + 1 ≠ w.heap.size; omega)).trans a1, (h _ (by show w.heap.size + 1 + 1 ≠ w.heap.size; omega)).trans a2, (h _ (by show w.heap.size + 1 + 1 ≠ w.heap.size + 1; omega)).trans a3, (h _ (by show w.heap.size + 1 + 1 ≠ w.heap.size + 1; omega)).trans a4, (h _ (by show w.heap.size + 1 + 1 ≠ w1.heap.size; omega)).trans a5, (h _ (by show w.heap.size + 1 + 1 ≠ w1.heap.size; omega)).trans a6⟩
  have HKS := Lib.hid keeps
  have kd : W5.drew.cell? ⟨w.heap.size, 0, none⟩ = some (.bool b) ∧ W5.drew.cell? ⟨w.heap.size, 1, none⟩ = some (.slice A n c) ∧ W5.drew.cell? ⟨w.heap.size + 1, 0, none⟩ = some (.bool (!b)) ∧ W5.drew.cell? ⟨w.heap.size + 1, 1, none⟩ = some (.slice B m e) ∧ W5.drew.cell? ⟨w1.heap.size, 0, none⟩ = some (.func (.func 74) #[] #[]) ∧ W5.drew.cell? ⟨w1.heap.size, 1, none⟩ = some (.func (.func 77) #[] #[]) := k5
  have hs5d : w1.heap.size < W5.drew.heap.size := hs5
  have hzd : W5.drew.heap[w.heap.size + 1 + 1]? = some (.cells #[.bool false, .slice none 0 0] 65) := hy2
  have HZ := Lib.hid hzd
  have HBD := Lib.hid hB5.drew
  have hne : ¬ w1.heap.size = w.heap.size + 1 + 1 := by omega
  clear hy0 hy1 hy2 hy3 keepc keeps hB5 hzd
  go_region_held3 (fun w' => w'.cell? ⟨w.heap.size, 0, none⟩ = some (.bool b) ∧ w'.cell? ⟨w.heap.size, 1, none⟩ = some (.slice A n c) ∧ w'.cell? ⟨w.heap.size + 1, 0, none⟩ = some (.bool (!b)) ∧ w'.cell? ⟨w.heap.size + 1, 1, none⟩ = some (.slice B m e) ∧ w'.cell? ⟨w1.heap.size, 0, none⟩ = some (.func (.func 74) #[] #[]) ∧ w'.cell? ⟨w1.heap.size, 1, none⟩ = some (.func (.func 77) #[] #[])) (first | assumption | exact HKS.out _ _ _ (by assumption)) (first
    | (go_at_call 77; refine (neg_other A B n m c e xs ys b (!b) W5.drew ((HX.out.below HBD.out).mono (by omega)) ((HY.out.below HBD.out).mono (by omega))).mono ?_; rintro e w2 ⟨rfl, hB2⟩; have k2 := HKC.out _ _ hs5d hB2 kd; have HB2 := Lib.hid hB2; have hs2 := hB2.size; clear hB2)
    | (go_at_call 74; refine (minus_other A B n m c e xs ys w2 ((HX.out.below (HBD.out.trans (HB2.out.mono (by omega)))).mono (by omega)) ((HY.out.below (HBD.out.trans (HB2.out.mono (by omega)))).mono (by omega)) HXl.out HYl.out hn hm).mono ?_; rintro e w3 ⟨A3, c3, rfl, hR3, hc3, hc4, hA3, hB3⟩; have k3 := HKC.out _ _ (by omega) hB3 k2; have hb4 := (hB3.block (w.heap.size + 1 + 1) (by omega)).trans ((HB2.out.block (w.heap.size + 1 + 1) (by omega)).trans HZ.out); have z0 := cellA hb4 0 _ rfl; have z1 := cellA hb4 1 _ rfl; have y0 := frozen_at hb4 0; have y1 := frozen_at hb4 1; have HR3 := Lib.hid hR3; have HA3 := Lib.hid hA3; have HB3 := Lib.hid hB3; have HB4 := Lib.hid hb4; clear hR3 hB3 hb4 hA3))
  all_goals (
    go_wp2
    refine bodyPost_ret (results_cell_row rfl _ _ (w.heap.size + 1 + 1) 65 #[.bool (decide (ordL xs ys < 0) != b), .slice A3 (tlen (dfL xs ys) (dfL xs ys).length) c3] (0, 0) _ rfl (blk_put (cs := #[.bool (decide (ordL xs ys < 0) != b), .slice none 0 0]) (blk_put (cs := #[.bool false, .slice none 0 0]) HB4.out 0 _ rfl) 1 _ rfl) Tryz.underlying65 rfl (by kernel_rfl)) rfl ?_
    have hpl := HPL.out
    have hbw := HBD.out.trans ((HB2.out.mono (by omega)).trans (HB3.out.mono (by omega)))
    refine ⟨_, _, rfl, reads_set (reads_set HR3.out _ (fun ad e => ?_)) _ (fun ad e => ?_), hc3, hc4, fun ad e => ?_, (hbw.setCell (p := ⟨w.heap.size + 1 + 1, 0, none⟩) (by show w.heap.size ≤ w.heap.size + 1 + 1; omega) _).setCell (p := ⟨w.heap.size + 1 + 1, 1, none⟩) (by show w.heap.size ≤ w.heap.size + 1 + 1; omega) _⟩
    · have := (HA3.out ad e).1; show w.heap.size + 1 + 1 ≠ ad.block; omega
    · have := (HA3.out ad e).1; show w.heap.size + 1 + 1 ≠ ad.block; omega
    · have := HA3.out ad e; simp only [World.setCell, Array.size_modify]; omega)
end Go.Proofs.YtlefniheafefgaaGreatDoor
