/- bigint.divided, Quo, Rem. -/
import Derived.Test.YtlefniheafefgaaGreatDoorQuot3
import Derived.Test.YtlefniheafefgaaGreatDoorOps
set_option linter.unusedVariables false
set_option linter.unusedSimpArgs false
namespace Go.Proofs.YtlefniheafefgaaGreatDoor
open Go.RowKit Go.Shelf Go.Proofs.YtlefniheafefgaaGreatDoorW.PrintWords

theorem DivH.more {xs ys : List Int} {K M : Nat} (h : DivH xs ys K) (hM : K ≤ M) : DivH xs ys M := by
  intro A B n m c e w h1 h2 h3 h4
  refine (h A B n m c e w h1 h2 h3 h4).mono ?_
  rintro E w' ⟨A', n', c', B', m', c2, he, k1, k2, hB⟩
  exact ⟨A', n', c', B', m', c2, he, k1.more hM, k2.more hM, hB⟩

/-- Two integers whose limbs divide. -/
def DivZ (x y : Int) : Prop := ∀ (xs ys : List Int) (b b2 : Bool), limbs xs → limbs ys → topped xs → topped ys → xs.length ≤ 456 → ys.length ≤ 456 → x = (if b then -lval xs else lval xs) → y = (if b2 then -lval ys else lval ys) → 0 < lval ys → DivH xs ys 457
theorem divZ_small {x y : Int} (h : y < 1000000000 ∧ -1000000000 < y) : DivZ x y := by
  intro xs ys b b2 h1 h2 h3 h4 h5 h6 hx hy h0
  refine (div_small h1 h2 h3 h4 (by omega) h0 (.inr ?_)).more (by omega)
  cases b2 <;> simp at hy <;> omega

theorem numV_shape {w : World} {d : Bool} {A : Option Addr} {n c : Nat} {z : Int} {L : Nat} (h : NumV w (.agg #[.bool d, .slice A n c]) z L) : ∃ xs, RI w.heap.size w A n xs ∧ limbs xs ∧ topped xs ∧ n ≤ c ∧ n ≤ L ∧ z = (if d = true then -lval xs else lval xs) ∧ n = xs.length := by
  obtain ⟨b, u, x, he, ⟨A', n', c', xs, rfl, h1, h2, h3, h4, h5, h6, rfl⟩, rfl⟩ := h
  simp at he
  obtain ⟨rfl, rfl, rfl, rfl⟩ := he
  exact ⟨xs, h1, h2, h3, h4, h6, rfl, h1.1.symm⟩

set_option maxRecDepth 100000 in
set_option maxHeartbeats 4000000 in
theorem divided_err (a b : ByteArray) (w : World) (c : Int) (hc : chk2I a b = c) (h0 : c ≠ 0) (ha : a.size ≤ 9223372036854775807) (hb : b.size ≤ 9223372036854775807) :
    Calls Tryz.prog 64 #[.string a, .string b] w fun e w' => e = .returned (.tuple #[.string ⟨#[]⟩, .string ⟨#[]⟩, .int .i64 c]) ∧ Below w.heap.size w w' := by
  have HP : Hid (∀ w : World, Calls Tryz.prog 33 #[.string a, .string b] w fun e w' => ∃ d A n c1 d2 B m c2, e = .returned (.tuple #[.agg #[.bool d, .slice A n c1], .agg #[.bool d2, .slice B m c2], .int .i64 c]) ∧ Below w.heap.size w w') := Lib.hid (fun w => pair_err a b w c hc h0 ha hb)
  have e1 : (c != 0) = true := by simpa using h0
  go_enter Tryz.func64, Tryz.ntmps64
  clear hc ha hb
  go_wp2_with (go_at_call 33; refine (HP.out _).mono ?_; rintro e w1 ⟨d, A, n, c1, d2, B, m, c2, rfl, hB⟩; have HB := Lib.hid hB; clear hB HP)
  go_ret3
  exact ⟨rfl, HB.out.trans ((((Below.refl _ w1).alloc (Nat.le_refl _) _).alloc (by simp) _).mono HB.out.size)⟩
set_option maxRecDepth 100000 in
set_option maxHeartbeats 4000000 in
theorem divided_zero (a b : ByteArray) (w : World) (ha0 : chkI a = 0) (hb0 : chkI b = 0) (ha : a.size ≤ 9223372036854775807) (hb : b.size ≤ 9223372036854775807) (hz : ivalB b = 0) :
    Calls Tryz.prog 64 #[.string a, .string b] w fun e w' => e = .returned (.tuple #[.string ⟨#[]⟩, .string ⟨#[]⟩, .int .i64 19]) ∧ Below w.heap.size w w' := by
  have HP : Hid (∀ w : World, Calls Tryz.prog 33 #[.string a, .string b] w fun e w' => ∃ d A n c1 d2 B c2, e = .returned (.tuple #[.agg #[.bool d, .slice A n c1], .agg #[.bool d2, .slice B 0 c2], .int .i64 0]) ∧ Below w.heap.size w w') := Lib.hid (fun w => (pair_shape a b w ha0 hb0 ha hb).mono (by
    rintro e w' ⟨d, A, n, c, d2, B, m, c2, rfl, h1, h2, hB⟩
    obtain ⟨ys, k1, k2, k3, k4, k5, k6, k7⟩ := numV_shape h2
    have : lval ys = 0 := by rw [hz] at k6; cases d2 <;> simp at k6 <;> omega
    have : m = 0 := by rw [k7]; exact (lval_zero k2 k3).1 this
    subst this
    exact ⟨_, _, _, _, _, _, _, rfl, hB⟩))
  go_enter Tryz.func64, Tryz.ntmps64
  clear ha0 hb0 ha hb hz
  go_wp2_with (go_at_call 33; refine (HP.out _).mono ?_; rintro e w1 ⟨d, A, n, c1, d2, B, c2, rfl, hB⟩; have HB := Lib.hid hB; clear hB HP)
  go_ret3
  exact ⟨rfl, HB.out.trans ((((Below.refl _ w1).alloc (Nat.le_refl _) _).alloc (by simp) _).mono HB.out.size)⟩

set_option maxRecDepth 100000 in
set_option maxHeartbeats 4000000 in
theorem divided_ok (a b : ByteArray) (w : World) (ha0 : chkI a = 0) (hb0 : chkI b = 0) (ha : a.size ≤ 9223372036854775807) (hb : b.size ≤ 9223372036854775807) (hz : ivalB b ≠ 0) (hD : DivZ (ivalB a) (ivalB b)) (hG : GW w) :
    Calls Tryz.prog 64 #[.string a, .string b] w fun e w' => e = .returned (.tuple #[.string (text (Int.fdiv (ivalB a) (ivalB b))), .string (text (Int.fmod (ivalB a) (ivalB b))), .int .i64 0]) ∧ Below w.heap.size w w' := by
  have HP := Lib.hid (fun w => pair_shape a b w ha0 hb0 ha hb)
  have HG := Lib.hid hG
  go_enter Tryz.func64, Tryz.ntmps64
  clear ha0 hb0 ha hb hG
  go_wp2_with (go_at_call 33; refine (HP.out _).mono ?_; rintro e w1 ⟨d, A, n, c, d2, B, m, c2, rfl, hn1, hn2, hB⟩; obtain ⟨xs, x1, x2, x3, x4, x5, x6, x7⟩ := numV_shape hn1; obtain ⟨ys, y1, y2, y3, y4, y5, y6, y7⟩ := numV_shape hn2; have hm0 : m ≠ 0 := (fun e0 => hz (by rw [y6, (lval_zero y2 y3).2 (by rw [← y7]; exact e0)]; cases d2 <;> rfl)); have hm1 : decide ((m : Int) = 0) = false := (by simpa using hm0); have hm2 : ((m : Int) == 0) = false := (by simpa using hm0); have HB := Lib.hid hB; have HD := Lib.hid (hD xs ys d d2 x2 y2 x3 y3 (by omega) (by omega) x6 y6 (by have := lval_nonneg y2; have : lval ys ≠ 0 := (fun e0 => hm0 (y7.trans ((lval_zero y2 y3).1 e0))); omega)); have H0 := Lib.hid (show 0 < lval ys by have := lval_nonneg y2; have : lval ys ≠ 0 := (fun e0 => hm0 (y7.trans ((lval_zero y2 y3).1 e0))); omega); have X6 := Lib.hid x6; have Y6 := Lib.hid y6; have X1 := Lib.hid x1; have X2 := Lib.hid x2; have Y1 := Lib.hid y1; have Y2 := Lib.hid y2; have Y3 := Lib.hid y3; clear hn1 hn2 hB HP hD x1 x2 x3 y1 y2 y3 x6 y6)
  have hba : Below w1.heap.size w1 ((w1.alloc (.cells #[.bool d, .slice A n c] 65)).alloc (.cells #[.bool d2, .slice B m c2] 65)) := ((Below.refl _ w1).alloc (Nat.le_refl _) _).alloc (by simp) _
  have hsa : ((w1.alloc (.cells #[.bool d, .slice A n c] 65)).alloc (.cells #[.bool d2, .slice B m c2] 65)).heap.size = w1.heap.size + 2 := by simp
  have hrx := (X1.out.below hba).mono hba.size
  have hry := (Y1.out.below hba).mono hba.size
  subst x7
  subst y7
  refine (quotient_num A B _ _ c c2 xs ys d d2 457 _ hrx hry x4 y4 HD.out X2.out Y2.out Y3.out (by omega) (by omega) (by omega) H0.out).mono ?_
  rintro E w2 ⟨d1, A1, n1, c1, d3, A2, n2, c3, rfl, q1, q2, hB2⟩
  rw [← X6.out, ← Y6.out] at q1 q2
  have hb2 := HB.out.trans ((hba.trans (hB2.mono (by rw [hsa]; omega))).mono HB.out.size)
  have HB2 := Lib.hid hb2
  have HG2 := Lib.hid (HG.out.below hb2)
  have HQ := Lib.hid q1
  have HR := Lib.hid q2
  clear q1 q2 hb2 hB2 hba hsa hrx hry HB HG X1 X2 X6 Y1 Y2 Y3 Y6 HD H0
  go_wp2
  have hb0 : ((w2.alloc (.cells #[.bool d1, .slice A1 n1 c1] 65)).alloc (.cells #[.bool d3, .slice A2 n2 c3] 65)).heap[w2.heap.size]? = some (.cells #[.bool d1, .slice A1 n1 c1] 65) := (Below.heap_alloc _ _ _ (by simp)).trans (World.alloc_heap_new w2 _)
  have hb1 : ((w2.alloc (.cells #[.bool d1, .slice A1 n1 c1] 65)).alloc (.cells #[.bool d3, .slice A2 n2 c3] 65)).heap[w2.heap.size + 1]? = some (.cells #[.bool d3, .slice A2 n2 c3] 65) := by
    have := World.alloc_heap_new (w2.alloc (.cells #[.bool d1, .slice A1 n1 c1] 65)) (.cells #[.bool d3, .slice A2 n2 c3] 65)
    rwa [World.size_alloc] at this
  have hBa : Below w2.heap.size w2 ((w2.alloc (.cells #[.bool d1, .slice A1 n1 c1] 65)).alloc (.cells #[.bool d3, .slice A2 n2 c3] 65)) := ((Below.refl _ w2).alloc (Nat.le_refl _) _).alloc (by simp) _
  have hsz : ((w2.alloc (.cells #[.bool d1, .slice A1 n1 c1] 65)).alloc (.cells #[.bool d3, .slice A2 n2 c3] 65)).heap.size = w2.heap.size + 2 := by simp
  obtain ⟨W5, hW5⟩ : ∃ W5, (w2.alloc (.cells #[.bool d1, .slice A1 n1 c1] 65)).alloc (.cells #[.bool d3, .slice A2 n2 c3] 65) = W5 := ⟨_, rfl⟩
  rw [hW5] at hb0 hb1 hBa hsz ⊢
  clear hW5
  have c0 := cellA hb0 0 _ rfl
  have c1' := cellA hb0 1 _ rfl
  have c3' := cellA hb1 0 _ rfl
  have c4 := cellA hb1 1 _ rfl
  have HKC : Hid (∀ v1 v2 : World, w2.heap.size + 1 < v1.heap.size → Below v1.heap.size v1 v2 → (v1.cell? ⟨w2.heap.size, 0, none⟩ = some (.bool d1) ∧ v1.cell? ⟨w2.heap.size, 1, none⟩ = some (.slice A1 n1 c1) ∧ v1.cell? ⟨w2.heap.size + 1, 0, none⟩ = some (.bool d3) ∧ v1.cell? ⟨w2.heap.size + 1, 1, none⟩ = some (.slice A2 n2 c3)) → v2.cell? ⟨w2.heap.size, 0, none⟩ = some (.bool d1) ∧ v2.cell? ⟨w2.heap.size, 1, none⟩ = some (.slice A1 n1 c1) ∧ v2.cell? ⟨w2.heap.size + 1, 0, none⟩ = some (.bool d3) ∧ v2.cell? ⟨w2.heap.size + 1, 1, none⟩ = some (.slice A2 n2 c3)) := Lib.hid fun v1 v2 hl hB ⟨a1, a2, a3, a4⟩ =>
    ⟨(hB.cell (p := ⟨w2.heap.size, 0, none⟩) (by show w2.heap.size < _; omega)).trans a1, (hB.cell (p := ⟨w2.heap.size, 1, none⟩) (by show w2.heap.size < _; omega)).trans a2, (hB.cell (p := ⟨w2.heap.size + 1, 0, none⟩) hl).trans a3, (hB.cell (p := ⟨w2.heap.size + 1, 1, none⟩) hl).trans a4⟩
  have kd : W5.drew.cell? ⟨w2.heap.size, 0, none⟩ = some (.bool d1) ∧ W5.drew.cell? ⟨w2.heap.size, 1, none⟩ = some (.slice A1 n1 c1) ∧ W5.drew.cell? ⟨w2.heap.size + 1, 0, none⟩ = some (.bool d3) ∧ W5.drew.cell? ⟨w2.heap.size + 1, 1, none⟩ = some (.slice A2 n2 c3) := ⟨c0, c1', c3', c4⟩
  have HBD := Lib.hid hBa.drew
  have hsd : w2.heap.size + 2 = W5.drew.heap.size := hsz.symm
  have HT1 : Hid (∀ v : World, Below w2.heap.size w2 v → Calls Tryz.prog 79 #[.agg #[.bool d1, .slice A1 n1 c1]] v fun e w' => e = .returned (.string (text (Int.fdiv (ivalB a) (ivalB b)))) ∧ Below v.heap.size v w') := Lib.hid fun v hv => text_num _ _ 458 v (HQ.out.below hv) (by omega) (HG2.out.below hv)
  have HT2 : Hid (∀ v : World, Below w2.heap.size w2 v → Calls Tryz.prog 79 #[.agg #[.bool d3, .slice A2 n2 c3]] v fun e w' => e = .returned (.string (text (Int.fmod (ivalB a) (ivalB b)))) ∧ Below v.heap.size v w') := Lib.hid fun v hv => text_num _ _ 458 v (HR.out.below hv) (by omega) (HG2.out.below hv)
  clear hb0 hb1 hBa hsz c0 c1' c3' c4
  go_region_held3 (fun w' => w'.cell? ⟨w2.heap.size, 0, none⟩ = some (.bool d1) ∧ w'.cell? ⟨w2.heap.size, 1, none⟩ = some (.slice A1 n1 c1) ∧ w'.cell? ⟨w2.heap.size + 1, 0, none⟩ = some (.bool d3) ∧ w'.cell? ⟨w2.heap.size + 1, 1, none⟩ = some (.slice A2 n2 c3)) (first | assumption) (first
    | (go_at_call 79; refine (HT1.out _ HBD.out).mono ?_; rintro e w3 ⟨rfl, hB2⟩; have k2 := HKC.out _ _ (by omega) hB2 kd; have HB3 := Lib.hid (HBD.out.trans (hB2.mono (by omega))); have hs2 := hB2.size; clear hB2 HT1)
    | (go_at_call 79; refine (HT2.out _ HB3.out).mono ?_; rintro e w4 ⟨rfl, hB3⟩; have k3 := HKC.out _ _ (by omega) hB3 k2; have HB4 := Lib.hid (HB3.out.trans (hB3.mono (by omega))); have hs3 := hB3.size; clear hB3 HT2))
  all_goals (
    go_wp2
    go_ret3
    exact ⟨rfl, HB2.out.trans (HB4.out.mono HB2.out.size)⟩)
/-- The quotient, or the error. -/
def dvE (a b : ByteArray) : Int := if chk2I a b = 0 then (if ivalB b = 0 then 19 else 0) else chk2I a b
def dvS (a b : ByteArray) (z : Int) : ByteArray := if dvE a b = 0 then text z else ⟨#[]⟩
theorem divided_walk (a b : ByteArray) (w : World) (ha : a.size ≤ 9223372036854775807) (hb : b.size ≤ 9223372036854775807) (hD : DivZ (ivalB a) (ivalB b)) (hG : GW w) :
    Calls Tryz.prog 64 #[.string a, .string b] w fun e w' => e = .returned (.tuple #[.string (dvS a b (Int.fdiv (ivalB a) (ivalB b))), .string (dvS a b (Int.fmod (ivalB a) (ivalB b))), .int .i64 (dvE a b)]) ∧ Below w.heap.size w w' := by
  unfold dvS dvE
  by_cases h : chk2I a b = 0
  · have h' := h
    unfold chk2I at h'
    split at h'
    · rename_i h1
      by_cases hz : ivalB b = 0
      · simp only [h, hz, if_pos, if_neg]
        exact divided_zero a b w h1 h' ha hb hz
      · simp only [h, hz, if_pos, if_neg]
        exact divided_ok a b w h1 h' ha hb hz hD hG
    · rename_i h1
      exact absurd h' h1
  · simp only [h, if_neg, if_false, not_false_eq_true]
    exact divided_err a b w _ rfl h ha hb
set_option maxRecDepth 100000 in
theorem quo_walk (a b : ByteArray) (w : World) (ha : a.size ≤ 9223372036854775807) (hb : b.size ≤ 9223372036854775807) (hD : DivZ (ivalB a) (ivalB b)) (hG : GW w) :
    Calls Tryz.prog 49 #[.string a, .string b] w fun e w' => e = .returned (.tuple #[.string (dvS a b (Int.fdiv (ivalB a) (ivalB b))), .int .i64 (dvE a b)]) ∧ Below w.heap.size w w' := by
  have HP := Lib.hid (divided_walk a b w ha hb hD hG)
  go_enter Tryz.func49, Tryz.ntmps49
  clear ha hb hD hG
  go_wp2_with (go_at_call 64; refine HP.out.mono ?_; rintro e w1 ⟨rfl, hB⟩; have HB := Lib.hid hB; clear hB HP)
  go_ret2
  exact ⟨rfl, HB.out⟩
set_option maxRecDepth 100000 in
theorem rem_walk (a b : ByteArray) (w : World) (ha : a.size ≤ 9223372036854775807) (hb : b.size ≤ 9223372036854775807) (hD : DivZ (ivalB a) (ivalB b)) (hG : GW w) :
    Calls Tryz.prog 50 #[.string a, .string b] w fun e w' => e = .returned (.tuple #[.string (dvS a b (Int.fmod (ivalB a) (ivalB b))), .int .i64 (dvE a b)]) ∧ Below w.heap.size w w' := by
  have HP := Lib.hid (divided_walk a b w ha hb hD hG)
  go_enter Tryz.func50, Tryz.ntmps50
  clear ha hb hD hG
  go_wp2_with (go_at_call 64; refine HP.out.mono ?_; rintro e w1 ⟨rfl, hB⟩; have HB := Lib.hid hB; clear hB HP)
  go_ret2
  exact ⟨rfl, HB.out⟩
/-- The text of an int. -/
theorem of_walk (n : Int) (h0 : -9223372036854775808 ≤ n) (h1 : n ≤ 9223372036854775807) (w : World) (hG : GW w) :
    Calls Tryz.prog 25 #[.int .i64 n] w fun e w' => e = .returned (.string ⟨(Lib.itoa n).toArray⟩) ∧ Below w.heap.size w w' := by
  have HP := Lib.hid (itoa_walk n h0 h1 w hG)
  go_enter Tryz.func25, Tryz.ntmps25
  clear h0 h1 hG
  go_wp2_with (go_at_call 51; refine HP.out.mono ?_; rintro e w1 ⟨rfl, hB⟩; have HB := Lib.hid hB; clear hB HP)
  go_ret
  exact ⟨rfl, HB.out⟩
end Go.Proofs.YtlefniheafefgaaGreatDoor
