/- bigint.Pow. · bigint: Gcd, Lcm, Bezout, Pow as contracts for the print (with the premise GW). -/
import Derived.Test.YtignanmmgaldeaaGreatDoorLGcdAll
import Derived.Test.YtignanmmgaldeaaGreatDoorLOpsAll
import Derived.Deep.DeepCutAuto
import Derived.Test.YtignanmmgaldeaaGreatDoorLBezout
set_option linter.unusedVariables false
set_option linter.unusedSimpArgs false
namespace Go.Proofs.YtignanmmgaldeaaGreatDoor
open Go.RowKit Go.Shelf Go.Proofs.YtignanmmgaldeaaGreatDoorW.PrintWords Go.Proofs.YtignanmmgaldeaaGreatDoorW.PrintLast Go.Proofs.YtignanmmgaldeaaGreatDoorW.PrintMore
theorem ri_one (w : World) : RI (w.alloc (.cells #[.int .i64 1] 3)).heap.size (w.alloc (.cells #[.int .i64 1] 3)) (some ⟨w.heap.size, 0, none⟩) 1 [1] :=
  ⟨rfl, by omega, fun _ => ⟨_, rfl, by simp, fun j hj => by
    obtain rfl : j = 0 := by omega
    rw [show (Addr.add ⟨w.heap.size, 0, none⟩ 0) = ⟨w.heap.size, 0, none⟩ from by simp [Addr.add]]
    exact cellA (World.alloc_heap_new w _) 0 _ rfl⟩⟩
theorem limbs_one : limbs [1] := fun i => by
  match i with
  | 0 => simp
  | i + 1 => simp
theorem ord_one {xs : List Int} (hx : limbs xs) (tx : topped xs) (d : Bool) : decide (ordL xs [1] ≤ 0) = decide ((if d = true then -lval xs else lval xs).natAbs ≤ 1) := by
  have h := ordL_val hx limbs_one tx (Or.inr (by simp))
  have h1 : lval [1] = 1 := by simp [lval, pval]
  rw [h1] at h
  have h0 := lval_nonneg hx
  have e : (if d = true then -lval xs else lval xs).natAbs = (lval xs).natAbs := by cases d <;> simp
  rw [e]
  by_cases hle : ordL xs [1] ≤ 0
  · rw [decide_eq_true hle, decide_eq_true]
    by_cases hz : ordL xs [1] = 0
    · have := h.2.1 hz; omega
    · have := h.1.1 (by omega); omega
  · rw [decide_eq_false hle, decide_eq_false]
    intro hq
    by_cases hz : lval xs = 1
    · have := h.2.2 hz; omega
    · have := h.1.2 (by omega); omega
/-- How often Pow multiplies, as an int. -/
def nI (x n : Int) : Int := if x.natAbs ≤ 1 then min n (2 + n % 2) else n
theorem powN_eq (x n : Int) : powN x n = (nI x n).toNat := rfl
def pwS (x n : Int) : ByteArray := match powL x (powN x n) 1 with
  | some z => text z
  | none => ⟨#[]⟩
def pwE (x n : Int) : Int := match powL x (powN x n) 1 with
  | some z => 0
  | none => 10
attribute [local go_sem] min2_int min_two
set_option maxRecDepth 100000 in
set_option maxHeartbeats 4000000 in
theorem pow_ok (a : ByteArray) (n : Int) (w : World) (ha0 : chkI a = 0) (ha : a.size ≤ 9223372036854775807) (hn0 : 0 ≤ n) (hn1 : n ≤ 1048576) (hG : GW w) :
    Calls Tryz.prog 72 #[.string a, .int .i64 n] w fun e w' => e = .returned (.tuple #[.string (pwS (ivalB a) n), .int .i64 (pwE (ivalB a) n)]) ∧ Below w.heap.size w w' := by
  have HA := Lib.hid (fun w => check_walk a w ha)
  obtain ⟨ca, da⟩ := chk_ok ha0
  have HRA : Hid (∀ w : World, Calls Tryz.prog 144 #[.string a] w fun e w' => ∃ d A n c, e = .returned (.agg #[.bool d, .slice A n c]) ∧ NumV w' (.agg #[.bool d, .slice A n c]) (ivalB a) 456 ∧ Below w.heap.size w w') := Lib.hid fun w => (read_num a w ca (by omega)).mono fun e w' h => by
    obtain ⟨r, h1, h2, h3⟩ := h
    exact num_shape h1 (h2.more (by omega)) h3
  rw [ha0] at HA
  have HG := Lib.hid hG
  have e1 : decide (n < 0) = false := decide_eq_false (by omega)
  have e2 : decide ((1048576 : Int) < n) = false := decide_eq_false (by omega)
  clear ca da ha0 ha hG
  go_enter Tryz.func72, Tryz.ntmps72
  go_wp2_with (first
    | (go_at_call 73; refine (HA.out _).mono ?_; rintro e w1 ⟨rfl, hB1⟩; have HB1 := Lib.hid hB1; clear hB1)
    | (go_at_call 144; refine (HRA.out _).mono ?_; rintro e w2 ⟨d, A, m, c, rfl, hn, hB2⟩; have HB2 := Lib.hid (HB1.out.trans (hB2.mono HB1.out.size)); have HN := Lib.hid hn; clear hB2 hn HB1 HRA HA))
  obtain ⟨xs, x1, x2, x3, x4, x5, x6, x7⟩ := numV_shape HN.out
  have hal : Below w2.heap.size w2 ((w2.alloc (.cells #[.bool d, .slice A m c] 81)).alloc (.cells #[.int .i64 1] 3)) := ((Below.refl _ w2).alloc (Nat.le_refl _) _).alloc (by simp) _
  have hri := ri_one (w2.alloc (.cells #[.bool d, .slice A m c] 81))
  have hadr : (w2.alloc (.cells #[.bool d, .slice A m c] 81)).heap.size = w2.heap.size + 1 := World.size_alloc _ _
  rw [hadr] at hri
  refine (order_any _ _ _ _ _ _ _ _ _ ((x1.below hal).mono hal.size) hri).mono ?_
  rintro e w3 ⟨rfl, hB3⟩
  have hdec := ord_one x2 x3 d
  rw [← x6] at hdec
  have nx : NB w3 w2.heap.size d A m c := ((NB.new w2 d A m c).alloc _).below hB3
  have hb3 := hal.trans (hB3.mono hal.size)
  have HNX := Lib.hid nx
  have HNV := Lib.hid (HN.out.below hb3)
  have HB3 := Lib.hid (HB2.out.trans (hb3.mono HB2.out.size))
  have hsz3 := nx.lt
  clear hal hri x1 x2 x3 x4 x5 x6 x7 hB3 hb3 HN HB2 nx
  generalize ordL xs [1] = o at *
  go_upto_if 26 with fail
  go_cut [1] (fun s1 wx => s1 = .int .i64 (nI (ivalB a) n) ∧ w3 = wx)
  case first =>
    by_cases hs : (ivalB a).natAbs ≤ 1
    · rw [decide_eq_true hs] at hdec
      have e3 : Int.tmod n 2 = n % 2 := Int.tmod_eq_emod_of_nonneg hn0
      by_cases hmn : n ≤ 2 + n % 2
      · go_wp2_with fail
        go_meet
        exact ⟨by unfold nI; rw [if_pos hs]; congr 1; omega, rfl⟩
      · go_wp2_with fail
        go_meet
        exact ⟨by unfold nI; rw [if_pos hs]; congr 1; omega, rfl⟩
    · rw [decide_eq_false hs] at hdec
      go_wp2_with fail
      go_meet
      exact ⟨by unfold nI; rw [if_neg hs], rfl⟩
  case rest =>
    obtain ⟨rfl, rfl⟩ := hcut
    have hN0 : 0 ≤ nI (ivalB a) n := by unfold nI; split <;> omega
    have hN1 : nI (ivalB a) n ≤ 1048576 := by unfold nI; split <;> omega
    have hNN : (nI (ivalB a) n) = ((powN (ivalB a) n : Nat) : Int) := by rw [powN_eq]; omega
    rw [hNN] at hN0 hN1 ⊢
    have hpS : ∀ o, powL (ivalB a) (powN (ivalB a) n) 1 = o → pwS (ivalB a) n = (match o with | some z => text z | none => ⟨#[]⟩) ∧ pwE (ivalB a) n = (match o with | some z => 0 | none => 10) := fun o ho => by unfold pwS pwE; rw [ho]; exact ⟨rfl, rfl⟩
    have HPS := Lib.hid hpS
    clear hpS hdec e1 e2 hNN
    generalize powN (ivalB a) n = N at *
    go_wp2_with fail
    have g1 : NB ((w3.alloc (.cells #[.int .i64 1] 3)).alloc (.cells #[.bool false, .slice (some ⟨w3.heap.size, 0, none⟩) 1 1] 81)) (w3.heap.size + 1) false (some ⟨w3.heap.size, 0, none⟩) 1 1 := by
      have := NB.new (w3.alloc (.cells #[.int .i64 1] 3)) false (some ⟨w3.heap.size, 0, none⟩) 1 1
      rwa [World.size_alloc] at this
    have hal : Below w3.heap.size w3 ((w3.alloc (.cells #[.int .i64 1] 3)).alloc (.cells #[.bool false, .slice (some ⟨w3.heap.size, 0, none⟩) 1 1] 81)) := ((Below.refl _ w3).alloc (Nat.le_refl _) _).alloc (by simp) _
    have g2 : NumV ((w3.alloc (.cells #[.int .i64 1] 3)).alloc (.cells #[.bool false, .slice (some ⟨w3.heap.size, 0, none⟩) 1 1] 81)) (.agg #[.bool false, .slice (some ⟨w3.heap.size, 0, none⟩) 1 1]) 1 456 := mag_numV ((mag_one w3 456 (by omega)).below ((Below.refl _ _).alloc (Nat.le_refl _) _))
    obtain ⟨W0, hW0⟩ : ∃ W0, (w3.alloc (.cells #[.int .i64 1] 3)).alloc (.cells #[.bool false, .slice (some ⟨w3.heap.size, 0, none⟩) 1 1] 81) = W0 := ⟨_, rfl⟩
    rw [hW0] at g1 g2 hal ⊢
    have d1 : w2.heap.size ≠ w3.heap.size + 1 := by omega
    have d2 : w3.heap.size ≤ w3.heap.size + 1 := by omega
    have G1 := Lib.hid g1
    have G2 := Lib.hid g2
    have HAL := Lib.hid hal
    clear hW0 g1 g2 hal
    generalize w3.heap.size + 1 = go at *
    go_loopw [35] (fun iv wr => ∃ k : Nat, k ≤ N ∧ iv = .int .i64 k ∧ Hid (∃ z dO AO nO cO, NB wr go dO AO nO cO ∧ NumV wr (.agg #[.bool dO, .slice AO nO cO]) z 456 ∧ powL (ivalB a) (N - k) z = powL (ivalB a) N 1) ∧ Hid (Below w3.heap.size w3 wr)) (fun iv _ => N - (intOf iv).toNat)
    case atStart => exact ⟨0, by omega, rfl, Lib.hid ⟨1, _, _, _, _, G1.out, G2.out, rfl⟩, HAL⟩
    case round =>
      clear G1 G2 HAL
      obtain ⟨k, hk, rfl, HZ, HBr⟩ := hrel
      obtain ⟨z, dO, AO, nO, cO, h1, h2, h3⟩ := HZ.out
      by_cases hkN : k < N
      · have xx := HNX.out.below HBr.out
        have a0 := h1.c0
        have a1 := h1.c1
        have a2 := xx.c0
        have a3 := xx.c1
        have hNV := HNV.out.below HBr.out
        have H2 := Lib.hid h2
        have HNV2 := Lib.hid hNV
        have H1 := Lib.hid h1
        have H3 := Lib.hid h3
        clear h1 h2 h3 xx hNV HZ
        go_wp2_with fail
        refine (product_shape _ _ z (ivalB a) 456 456 wr H2.out HNV2.out (by omega) (by omega)).mono ?_
        rintro e w4 ⟨dp, Ap, np, cp, rfl, hp, hB4⟩
        have h4 := H1.out.below hB4
        have b0 := h4.c0
        have b1 := h4.c1
        have b2 := h4.f0
        have b3 := h4.f1
        have H4 := Lib.hid h4
        have HP := Lib.hid (h4.set_num hp dp Ap np cp)
        have H5 := Lib.hid (h4.put dp Ap np cp)
        have hb5 := below_set2 (HBr.out.trans (hB4.mono HBr.out.size)) d2 (.bool dp) (.slice Ap np cp)
        have HB5 := Lib.hid hb5
        have HG5 := Lib.hid (HG.out.below (HB3.out.trans (hb5.mono HB3.out.size)))
        have a4 := (h4.put dp Ap np cp).c0
        have a5 := (h4.put dp Ap np cp).c1
        clear h4 hp hB4 hb5 a0 a1 a2 a3
        obtain ⟨W5, hW5⟩ : ∃ W5, (w4.setCell ⟨go, 0, none⟩ (.bool dp)).setCell ⟨go, 1, none⟩ (.slice Ap np cp) = W5 := ⟨_, rfl⟩
        rw [hW5] at HP H5 HB5 HG5 a4 a5
        have hstep : powL (ivalB a) (N - k) z = if 4096 < sizeN (z * ivalB a) then none else powL (ivalB a) (N - (k + 1)) (z * ivalB a) := by
          rw [show N - k = (N - (k + 1)) + 1 from by omega, powL]
        have HST := Lib.hid hstep
        have HSZ := Lib.hid (size_num _ (z * ivalB a) (456 + 456) W5 HP.out (by omega) HG5.out)
        clear hstep
        by_cases hs : 4096 < sizeN (z * ivalB a)
        · have hq : decide ((4096 : Int) < (sizeN (z * ivalB a) : Int)) = true := decide_eq_true (by omega)
          have hout := HPS.out none (by rw [← H3.out, HST.out, if_pos hs])
          go_upto_region 13 with fail
          try rw [hW5]
          clear hW5 b0 b1 b2 b3
          go_wp2_with fail
          refine HSZ.out.mono ?_
          rintro e w6 ⟨rfl, hB6⟩
          go_wp2_with fail
          go_ret2
          exact ⟨by rw [hout.1, hout.2]; rfl, HB3.out.trans ((HB5.out.trans (hB6.mono HB5.out.size)).mono HB3.out.size)⟩
        · have hq : decide ((4096 : Int) < (sizeN (z * ivalB a) : Int)) = false := decide_eq_false (by omega)
          go_upto_region 13 with fail
          try rw [hW5]
          clear hW5 b0 b1 b2 b3
          go_wp2_with fail
          refine HSZ.out.mono ?_
          rintro e w6 ⟨rfl, hB6⟩
          go_wp2_with fail
          refine ⟨⟨k + 1, by omega, rfl, Lib.hid ⟨z * ivalB a, dp, Ap, np, cp, H5.out.below hB6, (HP.out.below hB6).fit (by omega), ?_⟩, Lib.hid (HB5.out.trans (hB6.mono HB5.out.size))⟩, by simp only [intOf]; omega⟩
          rw [← H3.out, HST.out, if_neg hs]
      · obtain rfl : k = N := by omega
        rw [Nat.sub_self] at h3
        have hout := HPS.out (some z) (by rw [← h3]; rfl)
        have HOUT := Lib.hid hout
        have a0 := h1.c0
        have a1 := h1.c1
        have H2 := Lib.hid h2
        clear h1 h2 h3 HZ hout
        go_wp2_with fail
        refine (text_num _ _ 456 wr H2.out (by omega) (HG.out.below (HB3.out.trans (HBr.out.mono HB3.out.size)))).mono ?_
        rintro e w6 ⟨rfl, hB6⟩
        go_wp2_with fail
        go_ret2
        exact ⟨by rw [HOUT.out.1, HOUT.out.2]; rfl, HB3.out.trans ((HBr.out.trans (hB6.mono HBr.out.size)).mono HB3.out.size)⟩
set_option maxRecDepth 100000 in
set_option maxHeartbeats 2000000 in
theorem pow_err (a : ByteArray) (n c : Int) (w : World) (ha0 : chkI a = c) (hc : c ≠ 0) (ha : a.size ≤ 9223372036854775807) :
    Calls Tryz.prog 72 #[.string a, .int .i64 n] w fun e w' => e = .returned (.tuple #[.string ⟨#[]⟩, .int .i64 c]) ∧ Below w.heap.size w w' := by
  have HA := Lib.hid (fun w => check_walk a w ha)
  rw [ha0] at HA
  have e1 : (c != 0) = true := by simpa using hc
  go_enter Tryz.func72, Tryz.ntmps72
  clear ha0 ha
  go_wp2_with (go_at_call 73; refine (HA.out _).mono ?_; rintro e w1 ⟨rfl, hB1⟩; have HB1 := Lib.hid hB1; clear hB1)
  go_ret2
  exact ⟨rfl, HB1.out⟩
set_option maxRecDepth 100000 in
set_option maxHeartbeats 2000000 in
theorem pow_range (a : ByteArray) (n : Int) (w : World) (ha0 : chkI a = 0) (hn : n < 0 ∨ 1048576 < n) (ha : a.size ≤ 9223372036854775807) :
    Calls Tryz.prog 72 #[.string a, .int .i64 n] w fun e w' => e = .returned (.tuple #[.string ⟨#[]⟩, .int .i64 2]) ∧ Below w.heap.size w w' := by
  have HA := Lib.hid (fun w => check_walk a w ha)
  rw [ha0] at HA
  clear ha0 ha
  by_cases h : n < 0
  · have e1 : decide (n < 0) = true := decide_eq_true h
    go_enter Tryz.func72, Tryz.ntmps72
    go_wp2_with (go_at_call 73; refine (HA.out _).mono ?_; rintro e w1 ⟨rfl, hB1⟩; have HB1 := Lib.hid hB1; clear hB1)
    go_ret2
    exact ⟨rfl, HB1.out⟩
  · have e1 : decide (n < 0) = false := decide_eq_false h
    have e2 : decide ((1048576 : Int) < n) = true := decide_eq_true (by omega)
    go_enter Tryz.func72, Tryz.ntmps72
    go_wp2_with (go_at_call 73; refine (HA.out _).mono ?_; rintro e w1 ⟨rfl, hB1⟩; have HB1 := Lib.hid hB1; clear hB1)
    go_ret2
    exact ⟨rfl, HB1.out⟩
end Go.Proofs.YtignanmmgaldeaaGreatDoor
namespace Go.Proofs.YtignanmmgaldeaaGreatDoor
open Go.RowKit Go.Shelf
theorem chk2_both {a b : ByteArray} (h : chk2I a b = 0) : chkI a = 0 ∧ chkI b = 0 := by
  unfold chk2I at h
  split at h
  · rename_i h1; exact ⟨h1, h⟩
  · rename_i h1; exact absurd h h1
def bigint_Gcd.f (a0 a1 : ByteArray) : Option (ByteArray × Int) := if two63 a0 a1 then (if chk2I a0 a1 = 0 then some (text (gcdI (ivalB a0) (ivalB a1)), 0) else some (⟨#[]⟩, chk2I a0 a1)) else none
theorem bigint_Gcd.calls (a0 a1 : ByteArray) (r0 : ByteArray) (r1 : Int) (w : World) (hG : GW w) (h : bigint_Gcd.f a0 a1 = some (r0, r1)) :
    Calls Tryz.prog 28 #[.string a0, .string a1] w fun e w' => e = .returned (.tuple #[.string r0, .int .i64 r1]) ∧ Below w.heap.size w w' := by
  unfold bigint_Gcd.f at h
  split at h
  · rename_i h1
    split at h
    · rename_i h2
      obtain ⟨rfl, rfl⟩ := Prod.mk.inj (Option.some.inj h)
      exact gcd_ok a0 a1 w (chk2_both h2).1 (chk2_both h2).2 h1.1 h1.2 hG
    · rename_i h2
      obtain ⟨rfl, rfl⟩ := Prod.mk.inj (Option.some.inj h)
      exact gcd_err a0 a1 w _ rfl h2 h1.1 h1.2
  · cases h
theorem wr_zero : wrS 0 = ⟨#[48]⟩ ∧ wrE 0 = 0 := by
  unfold wrS wrE sizeN
  rw [if_pos rfl, if_neg (by omega), if_neg (by omega)]
  exact ⟨text_0, rfl⟩
def bigint_Lcm.f (a0 a1 : ByteArray) : Option (ByteArray × Int) := if two63 a0 a1 then (if chk2I a0 a1 = 0 then some (wrS (lcmI (ivalB a0) (ivalB a1)), wrE (lcmI (ivalB a0) (ivalB a1))) else some (⟨#[]⟩, chk2I a0 a1)) else none
theorem bigint_Lcm.calls (a0 a1 : ByteArray) (r0 : ByteArray) (r1 : Int) (w : World) (hG : GW w) (h : bigint_Lcm.f a0 a1 = some (r0, r1)) :
    Calls Tryz.prog 30 #[.string a0, .string a1] w fun e w' => e = .returned (.tuple #[.string r0, .int .i64 r1]) ∧ Below w.heap.size w w' := by
  unfold bigint_Lcm.f at h
  split at h
  · rename_i h1
    split at h
    · rename_i h2
      obtain ⟨rfl, rfl⟩ := Prod.mk.inj (Option.some.inj h)
      by_cases hz : ivalB a0 = 0 ∨ ivalB a1 = 0
      · have e : lcmI (ivalB a0) (ivalB a1) = 0 := if_pos hz
        rw [e, wr_zero.1, wr_zero.2]
        exact lcm_zero a0 a1 w (chk2_both h2).1 (chk2_both h2).2 h1.1 h1.2 hz
      · exact lcm_ok a0 a1 w (chk2_both h2).1 (chk2_both h2).2 h1.1 h1.2 (fun e => hz (.inl e)) (fun e => hz (.inr e)) hG
    · rename_i h2
      obtain ⟨rfl, rfl⟩ := Prod.mk.inj (Option.some.inj h)
      exact lcm_err a0 a1 w _ rfl h2 h1.1 h1.2
  · cases h
def bigint_Bezout.f (a0 a1 : ByteArray) : Option (ByteArray × ByteArray × ByteArray × Int) := if two63 a0 a1 then (if chk2I a0 a1 = 0 then some (text (gcdI (ivalB a0) (ivalB a1)), text (bezU (ivalB a0) (ivalB a1)), text (bezV (ivalB a0) (ivalB a1)), 0) else some (⟨#[]⟩, ⟨#[]⟩, ⟨#[]⟩, chk2I a0 a1)) else none
theorem bigint_Bezout.calls (a0 a1 : ByteArray) (r0 r1 r2 : ByteArray) (r3 : Int) (w : World) (hG : GW w) (h : bigint_Bezout.f a0 a1 = some (r0, r1, r2, r3)) :
    Calls Tryz.prog 32 #[.string a0, .string a1] w fun e w' => e = .returned (.tuple #[.string r0, .string r1, .string r2, .int .i64 r3]) ∧ Below w.heap.size w w' := by
  unfold bigint_Bezout.f at h
  split at h
  · rename_i h1
    split at h
    · rename_i h2
      have h3 := Option.some.inj h
      simp only [Prod.mk.injEq] at h3
      obtain ⟨rfl, rfl, rfl, rfl⟩ := h3
      by_cases hz : ivalB a1 = 0
      · have e1 : gcdI (ivalB a0) (ivalB a1) = ((ivalB a0).natAbs : Int) := by rw [hz]; unfold gcdI; simp
        have e2 : bezU (ivalB a0) (ivalB a1) = sgnI (ivalB a0) := if_pos hz
        have e3 : bezV (ivalB a0) (ivalB a1) = 0 := if_pos hz
        rw [e1, e2, e3, text_0]
        exact bezout_zero a0 a1 w (chk2_both h2).1 (chk2_both h2).2 h1.1 h1.2 hz hG
      · exact bezout_ok a0 a1 w (chk2_both h2).1 (chk2_both h2).2 h1.1 h1.2 hz hG
    · rename_i h2
      have h3 := Option.some.inj h
      simp only [Prod.mk.injEq] at h3
      obtain ⟨rfl, rfl, rfl, rfl⟩ := h3
      exact bezout_err a0 a1 w _ rfl h2 h1.1 h1.2
  · cases h
def bigint_Pow.f (a0 : ByteArray) (n : Int) : Option (ByteArray × Int) := if a0.size ≤ 9223372036854775807 then (if chkI a0 = 0 then (if n < 0 ∨ 1048576 < n then some (⟨#[]⟩, 2) else some (pwS (ivalB a0) n, pwE (ivalB a0) n)) else some (⟨#[]⟩, chkI a0)) else none
theorem bigint_Pow.calls (a0 : ByteArray) (n : Int) (r0 : ByteArray) (r1 : Int) (w : World) (hG : GW w) (h : bigint_Pow.f a0 n = some (r0, r1)) :
    Calls Tryz.prog 72 #[.string a0, .int .i64 n] w fun e w' => e = .returned (.tuple #[.string r0, .int .i64 r1]) ∧ Below w.heap.size w w' := by
  unfold bigint_Pow.f at h
  split at h
  · rename_i h1
    split at h
    · rename_i h2
      split at h
      · rename_i h3
        obtain ⟨rfl, rfl⟩ := Prod.mk.inj (Option.some.inj h)
        exact pow_range a0 n w h2 h3 h1
      · rename_i h3
        obtain ⟨rfl, rfl⟩ := Prod.mk.inj (Option.some.inj h)
        exact pow_ok a0 n w h2 h1 (by omega) (by omega) hG
    · rename_i h2
      obtain ⟨rfl, rfl⟩ := Prod.mk.inj (Option.some.inj h)
      exact pow_err a0 n _ w rfl h2 h1
  · cases h
end Go.Proofs.YtignanmmgaldeaaGreatDoor
