/- bigint.Add, bigint.Sub, bigint.Mul. -/
import Derived.Test.YtlefniheafefgaaGreatDoorProduct
set_option linter.unusedVariables false
set_option linter.unusedSimpArgs false
namespace Go.Proofs.YtlefniheafefgaaGreatDoor
open Go.RowKit Go.Shelf Go.Proofs.YtlefniheafefgaaGreatDoorW.PrintWords

set_option maxRecDepth 100000 in
set_option maxHeartbeats 4000000 in
theorem add_ok (a b : ByteArray) (w : World) (ha0 : chkI a = 0) (hb0 : chkI b = 0) (ha : a.size ≤ 9223372036854775807) (hb : b.size ≤ 9223372036854775807) (hG : GW w) :
    Calls Tryz.prog 46 #[.string a, .string b] w fun e w' => e = .returned (.tuple #[.string (wrS (ivalB a + ivalB b)), .int .i64 (wrE (ivalB a + ivalB b))]) ∧ Below w.heap.size w w' := by
  have HP := Lib.hid (fun w => pair_shape a b w ha0 hb0 ha hb)
  have HG := Lib.hid hG
  go_enter Tryz.func46, Tryz.ntmps46
  clear ha0 hb0 ha hb hG
  go_wp2_with (first
    | (go_at_call 33; refine (HP.out _).mono ?_; rintro e w1 ⟨d, A, n, c, d2, B, m, c2, rfl, hn1, hn2, hB⟩; have HN1 := Lib.hid hn1; have HN2 := Lib.hid hn2; have HB := Lib.hid hB; clear hn1 hn2 hB HP)
    | (go_at_call 35; refine (sum_num _ _ (ivalB a) (ivalB b) 456 _ (HN1.out.below (((Below.refl _ w1).alloc (Nat.le_refl _) _).alloc (by simp) _)) (HN2.out.below (((Below.refl _ w1).alloc (Nat.le_refl _) _).alloc (by simp) _)) (by omega)).mono ?_; rintro e w3 ⟨r, rfl, hr, hB3⟩; have hB4 := HB.out.trans (((((Below.refl _ w1).alloc (Nat.le_refl _) _).alloc (by simp) _).trans (hB3.mono (by simp; omega))).mono HB.out.size); have hg3 := HG.out.below hB4; have HR := Lib.hid hr; have HB4 := Lib.hid hB4; have HG3 := Lib.hid hg3; clear hr hB3 hB4 hg3)
    | (go_at_call 62; refine (written_num r _ (456 + 1) w3 HR.out (by omega) HG3.out).mono ?_; rintro e w4 ⟨rfl, hB5⟩; have HB5 := Lib.hid hB5; clear hB5))
  go_ret2
  exact ⟨rfl, HB4.out.trans (HB5.out.mono HB4.out.size)⟩
set_option maxRecDepth 100000 in
set_option maxHeartbeats 2000000 in
theorem add_err (a b : ByteArray) (w : World) (c : Int) (hc : chk2I a b = c) (h0 : c ≠ 0) (ha : a.size ≤ 9223372036854775807) (hb : b.size ≤ 9223372036854775807) :
    Calls Tryz.prog 46 #[.string a, .string b] w fun e w' => e = .returned (.tuple #[.string ⟨#[]⟩, .int .i64 c]) ∧ Below w.heap.size w w' := by
  have HP : Hid (∀ w : World, Calls Tryz.prog 33 #[.string a, .string b] w fun e w' => ∃ d A n c1 d2 B m c2, e = .returned (.tuple #[.agg #[.bool d, .slice A n c1], .agg #[.bool d2, .slice B m c2], .int .i64 c]) ∧ Below w.heap.size w w') := Lib.hid (fun w => pair_err a b w c hc h0 ha hb)
  have e1 : (c != 0) = true := by simpa using h0
  go_enter Tryz.func46, Tryz.ntmps46
  clear hc ha hb
  go_wp2_with (go_at_call 33; refine (HP.out _).mono ?_; rintro e w1 ⟨d, A, n, c1, d2, B, m, c2, rfl, hB⟩; have HB := Lib.hid hB; clear hB HP)
  go_ret2
  exact ⟨rfl, HB.out.trans ((((Below.refl _ w1).alloc (Nat.le_refl _) _).alloc (by simp) _).mono HB.out.size)⟩
set_option maxRecDepth 100000 in
set_option maxHeartbeats 4000000 in
theorem mul_ok (a b : ByteArray) (w : World) (ha0 : chkI a = 0) (hb0 : chkI b = 0) (ha : a.size ≤ 9223372036854775807) (hb : b.size ≤ 9223372036854775807) (hG : GW w) :
    Calls Tryz.prog 48 #[.string a, .string b] w fun e w' => e = .returned (.tuple #[.string (wrS (ivalB a * ivalB b)), .int .i64 (wrE (ivalB a * ivalB b))]) ∧ Below w.heap.size w w' := by
  have HP := Lib.hid (fun w => pair_shape a b w ha0 hb0 ha hb)
  have HG := Lib.hid hG
  go_enter Tryz.func48, Tryz.ntmps48
  clear ha0 hb0 ha hb hG
  go_wp2_with (first
    | (go_at_call 33; refine (HP.out _).mono ?_; rintro e w1 ⟨d, A, n, c, d2, B, m, c2, rfl, hn1, hn2, hB⟩; have HN1 := Lib.hid hn1; have HN2 := Lib.hid hn2; have HB := Lib.hid hB; clear hn1 hn2 hB HP)
    | (go_at_call 63; refine (product_num _ _ (ivalB a) (ivalB b) 456 456 _ (HN1.out.below (((Below.refl _ w1).alloc (Nat.le_refl _) _).alloc (by simp) _)) (HN2.out.below (((Below.refl _ w1).alloc (Nat.le_refl _) _).alloc (by simp) _)) (by omega) (by omega)).mono ?_; rintro e w3 ⟨r, rfl, hr, hB3⟩; have hB4 := HB.out.trans (((((Below.refl _ w1).alloc (Nat.le_refl _) _).alloc (by simp) _).trans (hB3.mono (by simp; omega))).mono HB.out.size); have hg3 := HG.out.below hB4; have HR := Lib.hid hr; have HB4 := Lib.hid hB4; have HG3 := Lib.hid hg3; clear hr hB3 hB4 hg3)
    | (go_at_call 62; refine (written_num r _ (456 + 456) w3 HR.out (by omega) HG3.out).mono ?_; rintro e w4 ⟨rfl, hB5⟩; have HB5 := Lib.hid hB5; clear hB5))
  go_ret2
  exact ⟨rfl, HB4.out.trans (HB5.out.mono HB4.out.size)⟩
set_option maxRecDepth 100000 in
set_option maxHeartbeats 2000000 in
theorem mul_err (a b : ByteArray) (w : World) (c : Int) (hc : chk2I a b = c) (h0 : c ≠ 0) (ha : a.size ≤ 9223372036854775807) (hb : b.size ≤ 9223372036854775807) :
    Calls Tryz.prog 48 #[.string a, .string b] w fun e w' => e = .returned (.tuple #[.string ⟨#[]⟩, .int .i64 c]) ∧ Below w.heap.size w w' := by
  have HP : Hid (∀ w : World, Calls Tryz.prog 33 #[.string a, .string b] w fun e w' => ∃ d A n c1 d2 B m c2, e = .returned (.tuple #[.agg #[.bool d, .slice A n c1], .agg #[.bool d2, .slice B m c2], .int .i64 c]) ∧ Below w.heap.size w w') := Lib.hid (fun w => pair_err a b w c hc h0 ha hb)
  have e1 : (c != 0) = true := by simpa using h0
  go_enter Tryz.func48, Tryz.ntmps48
  clear hc ha hb
  go_wp2_with (go_at_call 33; refine (HP.out _).mono ?_; rintro e w1 ⟨d, A, n, c1, d2, B, m, c2, rfl, hB⟩; have HB := Lib.hid hB; clear hB HP)
  go_ret2
  exact ⟨rfl, HB.out.trans ((((Below.refl _ w1).alloc (Nat.le_refl _) _).alloc (by simp) _).mono HB.out.size)⟩
set_option maxRecDepth 100000 in
set_option maxHeartbeats 4000000 in
theorem sub_ok (a b : ByteArray) (w : World) (ha0 : chkI a = 0) (hb0 : chkI b = 0) (ha : a.size ≤ 9223372036854775807) (hb : b.size ≤ 9223372036854775807) (hG : GW w) :
    Calls Tryz.prog 47 #[.string a, .string b] w fun e w' => e = .returned (.tuple #[.string (wrS (ivalB a + -ivalB b)), .int .i64 (wrE (ivalB a + -ivalB b))]) ∧ Below w.heap.size w w' := by
  have HP := Lib.hid (fun w => pair_shape a b w ha0 hb0 ha hb)
  have HG := Lib.hid hG
  go_enter Tryz.func47, Tryz.ntmps47
  clear ha0 hb0 ha hb hG
  go_wp2_with (go_at_call 33; refine (HP.out _).mono ?_; rintro e w1 ⟨d, A, n, c, d2, B, m, c2, rfl, hn1, hn2, hB⟩; have HN1 := Lib.hid hn1; have HN2 := Lib.hid hn2; have HB := Lib.hid hB; clear hn1 hn2 hB HP)
  have hb0 : ((w1.alloc (.cells #[.bool d, .slice A n c] 65)).alloc (.cells #[.bool d2, .slice B m c2] 65)).heap[w1.heap.size]? = some (.cells #[.bool d, .slice A n c] 65) := (Below.heap_alloc _ _ _ (by simp)).trans (World.alloc_heap_new w1 _)
  have hb1 : ((w1.alloc (.cells #[.bool d, .slice A n c] 65)).alloc (.cells #[.bool d2, .slice B m c2] 65)).heap[w1.heap.size + 1]? = some (.cells #[.bool d2, .slice B m c2] 65) := by
    have := World.alloc_heap_new (w1.alloc (.cells #[.bool d, .slice A n c] 65)) (.cells #[.bool d2, .slice B m c2] 65)
    rwa [World.size_alloc] at this
  have hBa : Below w1.heap.size w1 ((w1.alloc (.cells #[.bool d, .slice A n c] 65)).alloc (.cells #[.bool d2, .slice B m c2] 65)) := ((Below.refl _ w1).alloc (Nat.le_refl _) _).alloc (by simp) _
  have hsz : ((w1.alloc (.cells #[.bool d, .slice A n c] 65)).alloc (.cells #[.bool d2, .slice B m c2] 65)).heap.size = w1.heap.size + 2 := by simp
  obtain ⟨W5, hW5⟩ : ∃ W5, (w1.alloc (.cells #[.bool d, .slice A n c] 65)).alloc (.cells #[.bool d2, .slice B m c2] 65) = W5 := ⟨_, rfl⟩
  rw [hW5] at hb0 hb1 hBa hsz ⊢
  clear hW5
  have c0 := cellA hb0 0 _ rfl
  have c1 := cellA hb0 1 _ rfl
  have c3 := cellA hb1 0 _ rfl
  have c4 := cellA hb1 1 _ rfl
  have HKC : Hid (∀ v1 v2 : World, w1.heap.size + 1 < v1.heap.size → Below v1.heap.size v1 v2 → (v1.cell? ⟨w1.heap.size, 0, none⟩ = some (.bool d) ∧ v1.cell? ⟨w1.heap.size, 1, none⟩ = some (.slice A n c) ∧ v1.cell? ⟨w1.heap.size + 1, 0, none⟩ = some (.bool d2) ∧ v1.cell? ⟨w1.heap.size + 1, 1, none⟩ = some (.slice B m c2)) → v2.cell? ⟨w1.heap.size, 0, none⟩ = some (.bool d) ∧ v2.cell? ⟨w1.heap.size, 1, none⟩ = some (.slice A n c) ∧ v2.cell? ⟨w1.heap.size + 1, 0, none⟩ = some (.bool d2) ∧ v2.cell? ⟨w1.heap.size + 1, 1, none⟩ = some (.slice B m c2)) := Lib.hid fun v1 v2 hl hB ⟨a1, a2, a3, a4⟩ =>
    ⟨(hB.cell (p := ⟨w1.heap.size, 0, none⟩) (by show w1.heap.size < _; omega)).trans a1, (hB.cell (p := ⟨w1.heap.size, 1, none⟩) (by show w1.heap.size < _; omega)).trans a2, (hB.cell (p := ⟨w1.heap.size + 1, 0, none⟩) hl).trans a3, (hB.cell (p := ⟨w1.heap.size + 1, 1, none⟩) hl).trans a4⟩
  have kd : W5.drew.cell? ⟨w1.heap.size, 0, none⟩ = some (.bool d) ∧ W5.drew.cell? ⟨w1.heap.size, 1, none⟩ = some (.slice A n c) ∧ W5.drew.cell? ⟨w1.heap.size + 1, 0, none⟩ = some (.bool d2) ∧ W5.drew.cell? ⟨w1.heap.size + 1, 1, none⟩ = some (.slice B m c2) := ⟨c0, c1, c3, c4⟩
  have HBD := Lib.hid hBa.drew
  have hsd : w1.heap.size + 2 = W5.drew.heap.size := hsz.symm
  clear hb0 hb1 hBa hsz
  go_region_held3 (fun w' => w'.cell? ⟨w1.heap.size, 0, none⟩ = some (.bool d) ∧ w'.cell? ⟨w1.heap.size, 1, none⟩ = some (.slice A n c) ∧ w'.cell? ⟨w1.heap.size + 1, 0, none⟩ = some (.bool d2) ∧ w'.cell? ⟨w1.heap.size + 1, 1, none⟩ = some (.slice B m c2)) (first | assumption) (first
    | (go_at_call 36; refine (negated_walk d2 B m c2 W5.drew).mono ?_; rintro e w2 ⟨rfl, hB2⟩; have k2 := HKC.out _ _ (by omega) hB2 kd; have HB2 := Lib.hid hB2; have hs2 := hB2.size; clear hB2)
    | (go_at_call 35; refine (sum_num _ _ (ivalB a) (-ivalB b) 456 w2 (HN1.out.below (HBD.out.trans (HB2.out.mono (by omega)))) (HN2.out.neg.below (HBD.out.trans (HB2.out.mono (by omega)))) (by omega)).mono ?_; rintro e w3 ⟨r, rfl, hr, hB3⟩; have k3 := HKC.out _ _ (by omega) hB3 k2; have HR := Lib.hid hr; have HB3 := Lib.hid hB3; have hs3 := hB3.size; clear hB3 hr)
    | (go_at_call 62; refine (written_num r _ (456 + 1) w3 HR.out (by omega) (HG.out.below (HB.out.trans ((HBD.out.trans ((HB2.out.mono (by omega)).trans (HB3.out.mono (by omega)))).mono HB.out.size)))).mono ?_; rintro e w4 ⟨rfl, hB4⟩; have k4 := HKC.out _ _ (by omega) hB4 k3; have HB4 := Lib.hid hB4; clear hB4))
  all_goals (
    go_wp2
    go_ret2
    exact ⟨rfl, HB.out.trans ((HBD.out.trans ((HB2.out.mono (by omega)).trans ((HB3.out.mono (by omega)).trans (HB4.out.mono (by omega))))).mono HB.out.size)⟩)
set_option maxRecDepth 100000 in
set_option maxHeartbeats 2000000 in
theorem sub_err (a b : ByteArray) (w : World) (c : Int) (hc : chk2I a b = c) (h0 : c ≠ 0) (ha : a.size ≤ 9223372036854775807) (hb : b.size ≤ 9223372036854775807) :
    Calls Tryz.prog 47 #[.string a, .string b] w fun e w' => e = .returned (.tuple #[.string ⟨#[]⟩, .int .i64 c]) ∧ Below w.heap.size w w' := by
  have HP : Hid (∀ w : World, Calls Tryz.prog 33 #[.string a, .string b] w fun e w' => ∃ d A n c1 d2 B m c2, e = .returned (.tuple #[.agg #[.bool d, .slice A n c1], .agg #[.bool d2, .slice B m c2], .int .i64 c]) ∧ Below w.heap.size w w') := Lib.hid (fun w => pair_err a b w c hc h0 ha hb)
  have e1 : (c != 0) = true := by simpa using h0
  go_enter Tryz.func47, Tryz.ntmps47
  clear hc ha hb
  go_wp2_with (go_at_call 33; refine (HP.out _).mono ?_; rintro e w1 ⟨d, A, n, c1, d2, B, m, c2, rfl, hB⟩; have HB := Lib.hid hB; clear hB HP)
  go_ret2
  exact ⟨rfl, HB.out.trans ((((Below.refl _ w1).alloc (Nat.le_refl _) _).alloc (by simp) _).mono HB.out.size)⟩
theorem add_walk (a b : ByteArray) (w : World) (ha : a.size ≤ 9223372036854775807) (hb : b.size ≤ 9223372036854775807) (hG : GW w) :
    Calls Tryz.prog 46 #[.string a, .string b] w fun e w' => e = .returned (.tuple #[.string (if chk2I a b = 0 then wrS (ivalB a + ivalB b) else ⟨#[]⟩), .int .i64 (if chk2I a b = 0 then wrE (ivalB a + ivalB b) else chk2I a b)]) ∧ Below w.heap.size w w' := by
  by_cases h : chk2I a b = 0
  · rw [if_pos h, if_pos h]
    unfold chk2I at h
    split at h
    · rename_i h1
      exact add_ok a b w h1 h ha hb hG
    · rename_i h1
      exact absurd h h1
  · rw [if_neg h, if_neg h]
    exact add_err a b w _ rfl h ha hb
theorem sub_walk (a b : ByteArray) (w : World) (ha : a.size ≤ 9223372036854775807) (hb : b.size ≤ 9223372036854775807) (hG : GW w) :
    Calls Tryz.prog 47 #[.string a, .string b] w fun e w' => e = .returned (.tuple #[.string (if chk2I a b = 0 then wrS (ivalB a + -ivalB b) else ⟨#[]⟩), .int .i64 (if chk2I a b = 0 then wrE (ivalB a + -ivalB b) else chk2I a b)]) ∧ Below w.heap.size w w' := by
  by_cases h : chk2I a b = 0
  · rw [if_pos h, if_pos h]
    unfold chk2I at h
    split at h
    · rename_i h1
      exact sub_ok a b w h1 h ha hb hG
    · rename_i h1
      exact absurd h h1
  · rw [if_neg h, if_neg h]
    exact sub_err a b w _ rfl h ha hb
theorem mul_walk (a b : ByteArray) (w : World) (ha : a.size ≤ 9223372036854775807) (hb : b.size ≤ 9223372036854775807) (hG : GW w) :
    Calls Tryz.prog 48 #[.string a, .string b] w fun e w' => e = .returned (.tuple #[.string (if chk2I a b = 0 then wrS (ivalB a * ivalB b) else ⟨#[]⟩), .int .i64 (if chk2I a b = 0 then wrE (ivalB a * ivalB b) else chk2I a b)]) ∧ Below w.heap.size w w' := by
  by_cases h : chk2I a b = 0
  · rw [if_pos h, if_pos h]
    unfold chk2I at h
    split at h
    · rename_i h1
      exact mul_ok a b w h1 h ha hb hG
    · rename_i h1
      exact absurd h h1
  · rw [if_neg h, if_neg h]
    exact mul_err a b w _ rfl h ha hb
end Go.Proofs.YtlefniheafefgaaGreatDoor
