/- sign.read: a text of nine bytes as a table. -/
import Derived.Test.YtlefniheafefgaaSignRef
import Derived.BigRegion
import Derived.RegionTactic
set_option linter.unusedVariables false
set_option linter.unusedSimpArgs false
namespace Go.Proofs.Ytlefniheafefgaa
open Go.RowKit

def byteAt (s : ByteArray) (k : Nat) : Int := if h : k < s.size then ((s[k]'h).toNat : Int) else 0
theorem byteAt_eq (s : ByteArray) (k : Nat) (h : k < s.size) : ((s[k]'h).toNat : Int) = byteAt s k := by simp [byteAt, h]
theorem wb (s : ByteArray) (k : Nat) (h : k < s.size) : wrap64 ((s[k]'h).toNat : Int) = byteAt s k := by
  rw [byteAt_eq]
  have : 0 ≤ byteAt s k ∧ byteAt s k ≤ 255 := by rw [← byteAt_eq s k h]; have := (s[k]'h).toNat_lt; omega
  unfold wrap64; omega
def part (s : ByteArray) (m : Nat) : Nat → Int := fun k => if k < m then byteAt s k else 0
theorem Tabd.congr {t u : Nat → Int} {B : Nat} {W : World} (h : Tabd t B W) (e : ∀ k, k < 9 → t k = u k) : Tabd u B W := by
  have : tcells t = tcells u := by simp [tcells, e 0 (by omega), e 1 (by omega), e 2 (by omega), e 3 (by omega), e 4 (by omega), e 5 (by omega), e 6 (by omega), e 7 (by omega), e 8 (by omega)]
  unfold Tabd
  rw [← this]
  exact h
theorem Tabd.store {t : Nat → Int} {B : Nat} {W : World} (h : Tabd t B W) (k : Nat) (hk : k < 9) (v : Int) : Tabd (fun m => if m = k then v else t m) B (W.setCell ⟨B, k, none⟩ (.int .i64 v)) := by
  obtain ⟨hlt, he⟩ := Array.getElem?_eq_some_iff.1 h
  show (W.heap.modify B _)[B]? = _
  rw [Array.getElem?_eq_getElem (by rw [Array.size_modify]; exact hlt), Array.getElem_modify_self, he]
  match k, hk with
  | 0, _ | 1, _ | 2, _ | 3, _ | 4, _ | 5, _ | 6, _ | 7, _ | 8, _ => rfl
theorem Tabd.drew {t : Nat → Int} {B : Nat} {W : World} (h : Tabd t B W) : Tabd t B W.drew := h
theorem Tabd.frozen {t : Nat → Int} {B : Nat} {W : World} (h : Tabd t B W) (k : Nat) : W.frozen? ⟨B, k, none⟩ = false := by simp [World.frozen?, show W.heap[B]? = _ from h]
theorem part_step (s : ByteArray) (m : Nat) : ∀ k, k < 9 → (if k = m then byteAt s m else part s m k) = part s (m + 1) k := by
  intro k _
  unfold part
  by_cases h : k = m
  · subst h; simp
  · by_cases h2 : k < m
    · rw [if_neg h, if_pos h2, if_pos (by omega)]
    · rw [if_neg h, if_neg h2, if_neg (by omega)]

set_option maxRecDepth 100000 in
set_option maxHeartbeats 4000000 in
theorem read_any (s : ByteArray) (hs : s.size = 9) (w : World) : Calls Try.prog 42 #[.string s] w fun e w' => e = .returned (.agg (tcells (byteAt s))) ∧ Below w.heap.size w w' := by
  have hs' : 9 ≤ s.size := by omega
  have hs2 : s.size ≤ 9 := by omega
  clear hs
  go_enter Try.func42, Try.ntmps42
  go_wp2
  go_loopw [6] (fun i wr => ∃ k : Nat, k ≤ 3 ∧ i = .int .i64 k ∧ Tabd (part s (3 * k)) (w.heap.size + 1) wr ∧ Tabd (fun _ => 0) w.heap.size wr ∧ Below w.heap.size w wr) (fun i _ => 3 - (intOf i).toNat)
  case atStart => exact ⟨0, by omega, rfl, Tabd.congr (t := fun _ => 0) (by have := World.alloc_heap_new (w.alloc (.cells (tcells fun _ => 0) 55)) (.cells (tcells fun _ => 0) 55); rw [World.size_alloc] at this; exact this) (by intro k _; simp [part]), (Tabd.alloc (show Tabd (fun _ => 0) w.heap.size _ from World.alloc_heap_new w _) _), ((Below.refl _ w).alloc (Nat.le_refl _) _).alloc (by simp) _⟩
  case round =>
    obtain ⟨i, hi, rfl, hT, hR, hb⟩ := hrel
    by_cases hlt : i < 3
    · go_wp2
      obtain ⟨wo, rfl⟩ : ∃ wo : World, wo = wr := ⟨_, rfl⟩
      go_loopw [9] (fun j wr => ∃ k : Nat, k ≤ 3 ∧ j = .int .i64 k ∧ Tabd (part s (3 * i + k)) (w.heap.size + 1) wr ∧ Tabd (fun _ => 0) w.heap.size wr ∧ Below w.heap.size w wr) (fun i _ => 3 - (intOf i).toNat)
      case atStart => exact ⟨0, by omega, rfl, hT, hR, hb⟩
      case round =>
        obtain ⟨j, hj, rfl, hT1, hR1, hb1⟩ := hrel
        by_cases hlj : j < 3
        · have hend : Hid (∀ v, v = byteAt s (3 * i + j) → ∃ W2, W2 = (wr.setCell ⟨w.heap.size + 1, 3 * i + j, none⟩ (.int .i64 v)).drew ∧ Tabd (part s (3 * i + (j + 1))) (w.heap.size + 1) W2 ∧ Tabd (fun _ => 0) w.heap.size W2 ∧ Below w.heap.size w W2) := by
            rintro v rfl
            refine ⟨_, rfl, ((hT1.store (3 * i + j) (by omega) _).congr (part_step s (3 * i + j))).drew, ?_, (hb1.setCell (p := ⟨w.heap.size + 1, 3 * i + j, none⟩) (by simp) _).drew⟩
            exact (Below.heap_setCell wr ⟨w.heap.size + 1, 3 * i + j, none⟩ _ w.heap.size (by simp)).trans hR1
          have ex : i = 0 ∨ i = 1 ∨ i = 2 := by omega
          have ey : j = 0 ∨ j = 1 ∨ j = 2 := by omega
          rcases ex with rfl | rfl | rfl <;> rcases ey with rfl | rfl | rfl
          · have c0 := hT1.cell 0 (by omega)
            have f0 := hT1.frozen 0
            have hk : 0 < s.size := by omega
            have hki : (0 : Int) < (s.size : Int) := by omega
            have hv := Lib.hid (wb s (3 * 0 + 0) hk)
            clear hT hT1 hR1 hR hb hb1
            go_wp2
            go_region
            all_goals go_wp2
            all_goals
              obtain ⟨W2, hW2, g1, g2, g3⟩ := hend.out _ hv.out
              refine ⟨?_, by simp [intOf]⟩
              rw [← hW2]
              exact ⟨1, by omega, rfl, g1, g2, g3⟩
          · have c0 := hT1.cell 1 (by omega)
            have f0 := hT1.frozen 1
            have hk : 1 < s.size := by omega
            have hki : (1 : Int) < (s.size : Int) := by omega
            have hv := Lib.hid (wb s (3 * 0 + 1) hk)
            clear hT hT1 hR1 hR hb hb1
            go_wp2
            go_region
            all_goals go_wp2
            all_goals
              obtain ⟨W2, hW2, g1, g2, g3⟩ := hend.out _ hv.out
              refine ⟨?_, by simp [intOf]⟩
              rw [← hW2]
              exact ⟨2, by omega, rfl, g1, g2, g3⟩
          · have c0 := hT1.cell 2 (by omega)
            have f0 := hT1.frozen 2
            have hk : 2 < s.size := by omega
            have hki : (2 : Int) < (s.size : Int) := by omega
            have hv := Lib.hid (wb s (3 * 0 + 2) hk)
            clear hT hT1 hR1 hR hb hb1
            go_wp2
            go_region
            all_goals go_wp2
            all_goals
              obtain ⟨W2, hW2, g1, g2, g3⟩ := hend.out _ hv.out
              refine ⟨?_, by simp [intOf]⟩
              rw [← hW2]
              exact ⟨3, by omega, rfl, g1, g2, g3⟩
          · have c0 := hT1.cell 3 (by omega)
            have f0 := hT1.frozen 3
            have hk : 3 < s.size := by omega
            have hki : (3 : Int) < (s.size : Int) := by omega
            have hv := Lib.hid (wb s (3 * 1 + 0) hk)
            clear hT hT1 hR1 hR hb hb1
            go_wp2
            go_region
            all_goals go_wp2
            all_goals
              obtain ⟨W2, hW2, g1, g2, g3⟩ := hend.out _ hv.out
              refine ⟨?_, by simp [intOf]⟩
              rw [← hW2]
              exact ⟨1, by omega, rfl, g1, g2, g3⟩
          · have c0 := hT1.cell 4 (by omega)
            have f0 := hT1.frozen 4
            have hk : 4 < s.size := by omega
            have hki : (4 : Int) < (s.size : Int) := by omega
            have hv := Lib.hid (wb s (3 * 1 + 1) hk)
            clear hT hT1 hR1 hR hb hb1
            go_wp2
            go_region
            all_goals go_wp2
            all_goals
              obtain ⟨W2, hW2, g1, g2, g3⟩ := hend.out _ hv.out
              refine ⟨?_, by simp [intOf]⟩
              rw [← hW2]
              exact ⟨2, by omega, rfl, g1, g2, g3⟩
          · have c0 := hT1.cell 5 (by omega)
            have f0 := hT1.frozen 5
            have hk : 5 < s.size := by omega
            have hki : (5 : Int) < (s.size : Int) := by omega
            have hv := Lib.hid (wb s (3 * 1 + 2) hk)
            clear hT hT1 hR1 hR hb hb1
            go_wp2
            go_region
            all_goals go_wp2
            all_goals
              obtain ⟨W2, hW2, g1, g2, g3⟩ := hend.out _ hv.out
              refine ⟨?_, by simp [intOf]⟩
              rw [← hW2]
              exact ⟨3, by omega, rfl, g1, g2, g3⟩
          · have c0 := hT1.cell 6 (by omega)
            have f0 := hT1.frozen 6
            have hk : 6 < s.size := by omega
            have hki : (6 : Int) < (s.size : Int) := by omega
            have hv := Lib.hid (wb s (3 * 2 + 0) hk)
            clear hT hT1 hR1 hR hb hb1
            go_wp2
            go_region
            all_goals go_wp2
            all_goals
              obtain ⟨W2, hW2, g1, g2, g3⟩ := hend.out _ hv.out
              refine ⟨?_, by simp [intOf]⟩
              rw [← hW2]
              exact ⟨1, by omega, rfl, g1, g2, g3⟩
          · have c0 := hT1.cell 7 (by omega)
            have f0 := hT1.frozen 7
            have hk : 7 < s.size := by omega
            have hki : (7 : Int) < (s.size : Int) := by omega
            have hv := Lib.hid (wb s (3 * 2 + 1) hk)
            clear hT hT1 hR1 hR hb hb1
            go_wp2
            go_region
            all_goals go_wp2
            all_goals
              obtain ⟨W2, hW2, g1, g2, g3⟩ := hend.out _ hv.out
              refine ⟨?_, by simp [intOf]⟩
              rw [← hW2]
              exact ⟨2, by omega, rfl, g1, g2, g3⟩
          · have c0 := hT1.cell 8 (by omega)
            have f0 := hT1.frozen 8
            have hk : 8 < s.size := by omega
            have hki : (8 : Int) < (s.size : Int) := by omega
            have hv := Lib.hid (wb s (3 * 2 + 2) hk)
            clear hT hT1 hR1 hR hb hb1
            go_wp2
            go_region
            all_goals go_wp2
            all_goals
              obtain ⟨W2, hW2, g1, g2, g3⟩ := hend.out _ hv.out
              refine ⟨?_, by simp [intOf]⟩
              rw [← hW2]
              exact ⟨3, by omega, rfl, g1, g2, g3⟩
        · obtain rfl : j = 3 := by omega
          go_wp2
          go_roundw
          case rel => exact ⟨i + 1, by omega, by go_num, hT1, hR1, hb1⟩
          case measure => simp [intOf]; omega
    · obtain rfl : i = 3 := by omega
      have c0 := hT.cell 0 (by omega)
      have c1 := hT.cell 1 (by omega)
      have c2 := hT.cell 2 (by omega)
      have c3 := hT.cell 3 (by omega)
      have c4 := hT.cell 4 (by omega)
      have c5 := hT.cell 5 (by omega)
      have c6 := hT.cell 6 (by omega)
      have c7 := hT.cell 7 (by omega)
      have c8 := hT.cell 8 (by omega)
      have e9 : ∀ k, k < 9 → part s (3 * 3) k = byteAt s k := fun k hk => by simp [part]; omega
      have r0 := hR.cell 0 (by omega)
      have f0 := hR.frozen 0
      have r1 := hR.cell 1 (by omega)
      have f1 := hR.frozen 1
      have r2 := hR.cell 2 (by omega)
      have f2 := hR.frozen 2
      have r3 := hR.cell 3 (by omega)
      have f3 := hR.frozen 3
      have r4 := hR.cell 4 (by omega)
      have f4 := hR.frozen 4
      have r5 := hR.cell 5 (by omega)
      have f5 := hR.frozen 5
      have r6 := hR.cell 6 (by omega)
      have f6 := hR.frozen 6
      have r7 := hR.cell 7 (by omega)
      have f7 := hR.frozen 7
      have r8 := hR.cell 8 (by omega)
      have f8 := hR.frozen 8
      have hfin : Hid (∃ W9, W9 = (((((((((wr.setCell ⟨w.heap.size, 0, none⟩ (.int .i64 (byteAt s 0))).setCell ⟨w.heap.size, 1, none⟩ (.int .i64 (byteAt s 1))).setCell ⟨w.heap.size, 2, none⟩ (.int .i64 (byteAt s 2))).setCell ⟨w.heap.size, 3, none⟩ (.int .i64 (byteAt s 3))).setCell ⟨w.heap.size, 4, none⟩ (.int .i64 (byteAt s 4))).setCell ⟨w.heap.size, 5, none⟩ (.int .i64 (byteAt s 5))).setCell ⟨w.heap.size, 6, none⟩ (.int .i64 (byteAt s 6))).setCell ⟨w.heap.size, 7, none⟩ (.int .i64 (byteAt s 7))).setCell ⟨w.heap.size, 8, none⟩ (.int .i64 (byteAt s 8))) ∧ Tabd (byteAt s) w.heap.size W9 ∧ Below w.heap.size w W9) := by
        refine ⟨_, rfl, ?_, ?_⟩
        · refine Tabd.congr (((((((((hR.store 0 (by omega) (byteAt s 0)).store 1 (by omega) (byteAt s 1)).store 2 (by omega) (byteAt s 2)).store 3 (by omega) (byteAt s 3)).store 4 (by omega) (byteAt s 4)).store 5 (by omega) (byteAt s 5)).store 6 (by omega) (byteAt s 6)).store 7 (by omega) (byteAt s 7)).store 8 (by omega) (byteAt s 8)) ?_
          intro k hk
          match k, hk with
          | 0, _ | 1, _ | 2, _ | 3, _ | 4, _ | 5, _ | 6, _ | 7, _ | 8, _ => rfl
        · exact ((((((((hb.setCell (p := ⟨w.heap.size, 0, none⟩) (Nat.le_refl _) _).setCell (p := ⟨w.heap.size, 1, none⟩) (Nat.le_refl _) _).setCell (p := ⟨w.heap.size, 2, none⟩) (Nat.le_refl _) _).setCell (p := ⟨w.heap.size, 3, none⟩) (Nat.le_refl _) _).setCell (p := ⟨w.heap.size, 4, none⟩) (Nat.le_refl _) _).setCell (p := ⟨w.heap.size, 5, none⟩) (Nat.le_refl _) _).setCell (p := ⟨w.heap.size, 6, none⟩) (Nat.le_refl _) _).setCell (p := ⟨w.heap.size, 7, none⟩) (Nat.le_refl _) _).setCell (p := ⟨w.heap.size, 8, none⟩) (Nat.le_refl _) _
      go_wp2
      obtain ⟨W9, hW9, hT9, hb9⟩ := hfin.out
      rw [← hW9]
      have q0 := hT9.cell 0 (by omega)
      have q1 := hT9.cell 1 (by omega)
      have q2 := hT9.cell 2 (by omega)
      have q3 := hT9.cell 3 (by omega)
      have q4 := hT9.cell 4 (by omega)
      have q5 := hT9.cell 5 (by omega)
      have q6 := hT9.cell 6 (by omega)
      have q7 := hT9.cell 7 (by omega)
      have q8 := hT9.cell 8 (by omega)
      clear hW9
      exact bodyPost_ret (v := .agg (tcells (byteAt s))) (by simp [results, Try.results42, go_sem, tcells, q0, q1, q2, q3, q4, q5, q6, q7, q8]) rfl ⟨rfl, hb9⟩
end Go.Proofs.Ytlefniheafefgaa
