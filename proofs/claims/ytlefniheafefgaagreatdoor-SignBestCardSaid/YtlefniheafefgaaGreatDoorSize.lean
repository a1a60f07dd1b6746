/- bigint.size and bigint.written. -/
import Derived.Test.YtlefniheafefgaaGreatDoorText
set_option linter.unusedVariables false
set_option linter.unusedSimpArgs false
namespace Go.Proofs.YtlefniheafefgaaGreatDoor
open Go.RowKit Go.Shelf Go.Proofs.YtlefniheafefgaaGreatDoorW.PrintWords

/-- The digits of an integer, 0 for 0. -/
def sizeN (z : Int) : Nat := if z = 0 then 0 else (Lib.decDigits z.natAbs).length
theorem flat_len {xs : List Int} (hx : limbs xs) (n : Nat) : ∀ k, 0 < k → k ≤ n → ((bwl n k).flatMap fun i => padT xs n i.val).length = (Lib.itoa (xs[n - 1]?.getD 0)).length + 9 * (k - 1)
  | 0, h, _ => by omega
  | k + 1, _, hk => by
    rw [bwl_step n k (by omega), List.flatMap_append, List.length_append]
    have hl := limb_len hx (n - 1 - k)
    rcases Nat.eq_zero_or_pos k with e | e
    · subst e
      simp only [bwl, List.flatMap_nil, List.length_nil, List.flatMap_cons, List.append_nil, Nat.sub_zero]
      rw [padT, if_neg (by omega), List.nil_append]; omega
    · rw [flat_len hx n k e (by omega)]
      simp only [List.flatMap_cons, List.flatMap_nil, List.append_nil]
      rw [padT, if_pos (by omega), List.length_append, List.length_replicate]
      omega
theorem size_val {xs : List Int} (hx : limbs xs) (ht : topped xs) (n : Nat) (hn : xs.length = n) (h0 : 0 < n) (d : Bool) : sizeN (if d = true then -lval xs else lval xs) = (Lib.itoa (xs[n - 1]?.getD 0)).length + 9 * (n - 1) := by
  obtain ⟨h1, h2⟩ := top_digits hx ht n hn n h0 (Nat.le_refl _)
  have hv := topV_val hx n hn n (Nat.le_refl _)
  have hl := flat_len hx n n h0 (Nat.le_refl _)
  rw [h2] at hl
  rw [Nat.sub_self] at hv
  simp only [Int.pow_zero, Int.mul_one, pval, Int.add_zero] at hv
  rw [← hl, ← hv]
  unfold sizeN
  cases d
  · simp only [Bool.false_eq_true, if_false]; rw [if_neg (by omega), show ((topV xs n n : Nat) : Int).natAbs = topV xs n n from by omega]
  · simp only [if_true]; rw [if_neg (by omega), show (-((topV xs n n : Nat) : Int)).natAbs = topV xs n n from by omega]

set_option maxRecDepth 100000 in
set_option maxHeartbeats 2000000 in
theorem size_zero (d : Bool) (A : Option Addr) (c : Nat) (w : World) :
    Calls Tryz.prog 78 #[.agg #[.bool d, .slice A 0 c]] w fun e w' => e = .returned (.int .i64 0) ∧ Below w.heap.size w w' := by
  go_enter Tryz.func78, Tryz.ntmps78
  go_wp2
  go_ret
  exact ⟨rfl, (Below.refl _ w).alloc (Nat.le_refl _) _⟩
set_option maxRecDepth 100000 in
set_option maxHeartbeats 2000000 in
theorem size_pos (d : Bool) (A : Option Addr) (n c : Nat) (xs : List Int) (w : World) (hx : RI w.heap.size w A n xs) (hxl : limbs xs) (hn : n ≤ 1000000) (h0 : 0 < n) (hG : GW w) :
    Calls Tryz.prog 78 #[.agg #[.bool d, .slice A n c]] w fun e w' => e = .returned (.int .i64 (((Lib.itoa (xs[n - 1]?.getD 0)).length + 9 * (n - 1) : Nat) : Int)) ∧ Below w.heap.size w w' := by
  have hl := hxl (n - 1)
  have hlen := limb_len hxl (n - 1)
  have hn1 : ((n : Int) == 0) = false := by simp; omega
  have hn2 : ¬ (n : Int) = 0 := by omega
  obtain ⟨ad, rfl, hb, hc⟩ := hx.2.2 h0
  have HG := Lib.hid hG
  have hcell : ∀ o, (w.alloc o).cell? (ad.add (n - 1)) = some (.int .i64 (xs[n - 1]?.getD 0)) := fun o => ((Below.refl w.heap.size w).alloc (Nat.le_refl _) o).cell (p := ad.add (n - 1)) (by rw [add_block]; exact hb) |>.trans (hc (n - 1) (by omega))
  have hit := fun w h => itoa_walk (xs[n - 1]?.getD 0) (by omega) (by omega) w h
  have hsz : (ByteArray.mk (Lib.itoa (xs[n - 1]?.getD 0)).toArray).size = (Lib.itoa (xs[n - 1]?.getD 0)).length := by rw [Lib.size_eq]
  generalize ByteArray.mk (Lib.itoa (xs[n - 1]?.getD 0)).toArray = sb at hit hsz
  generalize (Lib.itoa (xs[n - 1]?.getD 0)).length = k at hsz hlen ⊢
  generalize xs[n - 1]?.getD 0 = v at hit hcell hl
  have HIT := Lib.hid hit
  obtain ⟨m, rfl⟩ : ∃ m, n = m + 1 := ⟨n - 1, by omega⟩
  rw [Nat.add_sub_cancel] at hcell ⊢
  have HS := Lib.hid hsz
  have hsl : sb.size ≤ 9 := by omega
  clear hx hxl hG hc hit hsz
  go_enter Tryz.func78, Tryz.ntmps78
  go_wp2_with (go_at_call 51; refine (HIT.out _ (HG.out.below ((Below.refl _ w).alloc (Nat.le_refl _) _))).mono ?_; rintro e w' ⟨rfl, hB⟩; have HB := Lib.hid hB; clear hB HIT)
  go_ret
  exact ⟨by rw [show (m : Int) * 9 + (sb.size : Int) = ((k + 9 * m : Nat) : Int) from by rw [HS.out]; omega]; rfl, (((Below.refl _ w).alloc (Nat.le_refl _) _).trans (HB.out.mono (by simp)))⟩
theorem size_num (v : Value) (z : Int) (L : Nat) (w : World) (hv : NumV w v z L) (hL : L ≤ 1000000) (hG : GW w) :
    Calls Tryz.prog 78 #[v] w fun e w' => e = .returned (.int .i64 (sizeN z : Int)) ∧ Below w.heap.size w w' := by
  obtain ⟨d, u, x, rfl, ⟨A, n, c, xs, rfl, h1, h2, h3, h4, h5, h6, rfl⟩, rfl⟩ := hv
  by_cases h0 : n = 0
  · subst h0
    have hz := (lval_zero h2 h3).2 h1.1
    have e : sizeN (if d = true then -lval xs else lval xs) = 0 := by rw [hz]; cases d <;> rfl
    rw [e]
    exact size_zero d A c w
  · rw [size_val h2 h3 n h1.1 (by omega) d]
    exact size_pos d A n c xs w h1 h2 (by omega) (by omega) hG

/-- What written returns. -/
def wrS (z : Int) : ByteArray := if 4096 < sizeN z then ⟨#[]⟩ else text z
def wrE (z : Int) : Int := if 4096 < sizeN z then 10 else 0
theorem num_open {w : World} {v : Value} {z : Int} {L : Nat} (h : NumV w v z L) : ∃ d A n c, v = .agg #[.bool d, .slice A n c] ∧ NumV w (.agg #[.bool d, .slice A n c]) z L := by
  have k := h
  obtain ⟨d, u, x, rfl, ⟨A, n, c, xs, rfl, h'⟩, hz⟩ := h
  exact ⟨d, A, n, c, rfl, k⟩
set_option maxRecDepth 100000 in
set_option maxHeartbeats 2000000 in
theorem written_num (v : Value) (z : Int) (L : Nat) (w : World) (hv : NumV w v z L) (hL : L ≤ 1000000) (hG : GW w) :
    Calls Tryz.prog 62 #[v] w fun e w' => e = .returned (.tuple #[.string (wrS z), .int .i64 (wrE z)]) ∧ Below w.heap.size w w' := by
  obtain ⟨d, A, n, c, rfl, hv⟩ := num_open hv
  have hsn := fun w (h : NumV w (.agg #[.bool d, .slice A n c]) z L) hg => size_num _ z L w h hL hg
  have htn := fun w (h : NumV w (.agg #[.bool d, .slice A n c]) z L) hg => text_num _ z L w h hL hg
  have hbx : (w.alloc (.cells #[.bool d, .slice A n c] 65)).heap[w.heap.size]? = some (.cells #[.bool d, .slice A n c] 65) := World.alloc_heap_new w _
  have hba : Below w.heap.size w (w.alloc (.cells #[.bool d, .slice A n c] 65)) := (Below.refl _ w).alloc (Nat.le_refl _) _
  have hsz : (w.alloc (.cells #[.bool d, .slice A n c] 65)).heap.size = w.heap.size + 1 := by simp
  have HSN := Lib.hid (hsn _ (hv.below hba) (hG.below hba))
  have HT := Lib.hid htn
  have HV := Lib.hid (hv.below hba)
  have HG := Lib.hid (hG.below hba)
  have HX := Lib.hid hbx
  have HB := Lib.hid hba
  have HZ := Lib.hid hsz
  clear hsn htn hv hG hbx hba hsz
  by_cases h : 4096 < sizeN z
  · rw [wrS, if_pos h, wrE, if_pos h]
    generalize sizeN z = s at HSN h
    have q : decide ((4096 : Int) < (s : Int)) = true := by simp; omega
    go_enter Tryz.func62, Tryz.ntmps62
    go_wp2_with (go_at_call 78; refine HSN.out.mono ?_; rintro e w1 ⟨rfl, k1⟩; have K1 := Lib.hid k1; clear k1 HSN)
    go_ret2
    exact ⟨rfl, HB.out.trans (K1.out.mono (by rw [HZ.out]; omega))⟩
  · rw [wrS, if_neg h, wrE, if_neg h]
    generalize sizeN z = s at HSN h
    have q : decide ((4096 : Int) < (s : Int)) = false := by simp; omega
    go_enter Tryz.func62, Tryz.ntmps62
    go_wp2_with (first
      | (go_at_call 78; refine HSN.out.mono ?_; rintro e w1 ⟨rfl, k1⟩; have hx1 := (k1.block w.heap.size (by rw [HZ.out]; omega)).trans HX.out; have c0 := cellA hx1 0 _ rfl; have c1 := cellA hx1 1 _ rfl; have K1 := Lib.hid k1; clear k1 hx1 HSN)
      | (go_at_call 79; refine (HT.out w1 (HV.out.below K1.out) (HG.out.below K1.out)).mono ?_; rintro e w2 ⟨rfl, k2⟩; have K2 := Lib.hid k2; clear k2 c0 c1))
    go_ret2
    exact ⟨rfl, HB.out.trans ((K1.out.trans (K2.out.mono K1.out.size)).mono (by rw [HZ.out]; omega))⟩
end Go.Proofs.YtlefniheafefgaaGreatDoor
