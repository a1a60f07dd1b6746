/- bigint.Bezout. -/
import Derived.Test.YtignanmmgaldeaaGreatDoorLGcdAll
import Derived.Deep.DeepCutAuto
set_option linter.unusedVariables false
set_option linter.unusedSimpArgs false
namespace Go.Proofs.YtignanmmgaldeaaGreatDoor
open Go.RowKit Go.Shelf Go.Proofs.YtignanmmgaldeaaGreatDoorW.PrintWords
theorem sgn_fits (z : Int) : -9223372036854775808 ≤ sgnI z ∧ sgnI z ≤ 9223372036854775807 := by
  unfold sgnI
  split
  · omega
  · split <;> omega
set_option maxRecDepth 100000 in
set_option maxHeartbeats 4000000 in
theorem bezout_ok (a b : ByteArray) (w : World) (ha0 : chkI a = 0) (hb0 : chkI b = 0) (ha : a.size ≤ 9223372036854775807) (hb : b.size ≤ 9223372036854775807) (hz : ivalB b ≠ 0) (hG : GW w) :
    Calls Tryz.prog 32 #[.string a, .string b] w fun e w' => e = .returned (.tuple #[.string (text (gcdI (ivalB a) (ivalB b))), .string (text (bezU (ivalB a) (ivalB b))), .string (text (bezV (ivalB a) (ivalB b))), .int .i64 0]) ∧ Below w.heap.size w w' := by
  have HP := Lib.hid (fun w => pair_shape a b w ha0 hb0 ha hb)
  have HG := Lib.hid hG
  have HZ := Lib.hid hz
  go_enter Tryz.func32, Tryz.ntmps32
  clear ha0 hb0 ha hb hG hz
  go_wp2_with fail
  refine (HP.out _).mono ?_
  rintro e w1 ⟨d, A, n, c, d2, B, m, c2, rfl, hn1, hn2, hB⟩
  have hm1 := numV_mag hn1
  have hm2 := numV_mag hn2
  have hm0 : m ≠ 0 := fun q => HZ.out (by have := (mag_zero hm2).2 q; omega)
  have e3 : ((m : Int) == 0) = false := by simpa using hm0
  have e4 : ¬ (m : Int) = 0 := by omega
  have hb0 : ((w1.alloc (.cells #[.bool d, .slice A n c] 81)).alloc (.cells #[.bool d2, .slice B m c2] 81)).heap[w1.heap.size]? = some (.cells #[.bool d, .slice A n c] 81) := (Below.heap_alloc _ _ _ (by simp)).trans (World.alloc_heap_new w1 _)
  have hb1 : ((w1.alloc (.cells #[.bool d, .slice A n c] 81)).alloc (.cells #[.bool d2, .slice B m c2] 81)).heap[w1.heap.size + 1]? = some (.cells #[.bool d2, .slice B m c2] 81) := by
    have := World.alloc_heap_new (w1.alloc (.cells #[.bool d, .slice A n c] 81)) (.cells #[.bool d2, .slice B m c2] 81)
    rwa [World.size_alloc] at this
  have hBa : Below w1.heap.size w1 ((w1.alloc (.cells #[.bool d, .slice A n c] 81)).alloc (.cells #[.bool d2, .slice B m c2] 81)) := ((Below.refl _ w1).alloc (Nat.le_refl _) _).alloc (by simp) _
  have hsz : ((w1.alloc (.cells #[.bool d, .slice A n c] 81)).alloc (.cells #[.bool d2, .slice B m c2] 81)).heap.size = w1.heap.size + 2 := by simp
  have HN1 := Lib.hid (hn1.below hBa)
  have HN2 := Lib.hid (hn2.below hBa)
  have HM1 := Lib.hid (hm1.below hBa)
  have HM2 := Lib.hid (hm2.below hBa)
  have HB := Lib.hid (hB.trans (hBa.mono hB.size))
  have hsw := hB.size
  clear hn1 hn2 hm1 hm2 hB HP hm0
  go_wp2_with fail
  obtain ⟨W5, hW5⟩ : ∃ W5, (w1.alloc (.cells #[.bool d, .slice A n c] 81)).alloc (.cells #[.bool d2, .slice B m c2] 81) = W5 := ⟨_, rfl⟩
  rw [hW5] at hb0 hb1 hsz HN1 HN2 HM1 HM2 HB ⊢
  clear hW5 hBa
  have NX : NB W5 w1.heap.size d A n c := hb0
  have NY : NB W5 (w1.heap.size + 1) d2 B m c2 := hb1
  clear hb0 hb1
  have HS0 := Lib.hid hsz
  have HKB : Hid (∀ v : World, Below W5.heap.size W5 v → v.cell? ⟨w1.heap.size, 1, none⟩ = some (.slice A n c) ∧ v.cell? ⟨w1.heap.size + 1, 1, none⟩ = some (.slice B m c2)) := Lib.hid fun v hB => ⟨(NX.below hB).c1, (NY.below hB).c1⟩
  have HNX := Lib.hid NX
  have HNY := Lib.hid NY
  clear HZ NX NY
  go_upto_region 7 with fail
  go_cut [12, 13] (fun s12 s13 wx => ∃ (gr gs : Nat) (W7 : World), W7 = wx ∧ s12 = .pointer (some ⟨gr, 0, none⟩) ∧ s13 = .pointer (some ⟨gs, 0, none⟩) ∧ W5.heap.size ≤ gr ∧ W5.heap.size ≤ gs ∧ gs ≠ gr ∧ Hid (NB W7 gr false A n c) ∧ Hid (NB W7 gs false B m c2) ∧ Hid (Below W5.heap.size W5 W7))
  case first =>
    go_region_held3 (fun w' => w'.cell? ⟨w1.heap.size, 1, none⟩ = some (.slice A n c) ∧ w'.cell? ⟨w1.heap.size + 1, 1, none⟩ = some (.slice B m c2)) (first | assumption | exact HKB.out _ (by repeat (first | exact Below.refl _ _ | apply below_alloc | apply below_drew1))) (fail)
    all_goals (
      first
        | (obtain ⟨t1, t2, t3, t4⟩ := two_new W5 false false A B n c m c2
           rw [hsz] at t1 t2
           go_wp2_with fail
           go_meet
           exact ⟨_, _, _, rfl, rfl, rfl, Nat.le_of_eq hsz, by omega, by omega, Lib.hid t1, Lib.hid t2, Lib.hid t3.drew⟩)
        | (obtain ⟨t1, t2, t3, t4⟩ := two_new W5 false false B A m c2 n c
           rw [hsz] at t1 t2
           go_wp2_with fail
           go_meet
           exact ⟨_, _, _, rfl, rfl, rfl, by omega, Nat.le_of_eq hsz, by omega, Lib.hid t2, Lib.hid t1, Lib.hid t3.drew⟩))
  case rest =>
    obtain ⟨gr, gs, W7, hW7, rfl, rfl, o1, o2, o3, HR7, HS7, HB7⟩ := hcut
    subst hW7
    clear HKB
    go_wp2_with fail
    obtain ⟨l1, l2, l3, l4⟩ := bez_start W7
    have l5 := HR7.out.lt
    have l6 := HS7.out.lt
    have hY0 := HM2.out.nonneg
    have hX0 := HM1.out.nonneg
    have hY1 : 0 < ((ivalB b).natAbs : Int) := by
      have : ((ivalB b).natAbs : Int) ≠ 0 := fun q => e4 (by exact_mod_cast (mag_zero HM2.out).1 q)
      omega
    obtain ⟨WL, hWL⟩ : ∃ WL, (((W7.alloc (.cells #[.int .i64 1] 3)).alloc (.cells #[.bool false, .slice (some ⟨W7.heap.size, 0, none⟩) 1 1] 81)).alloc (.cells #[.bool false, .slice none 0 0] 81)) = WL := ⟨_, rfl⟩
    rw [hWL] at l1 l2 l3 l4 ⊢
    have l7 : W5.heap.size ≤ W7.heap.size + 1 := by have := HB7.out.size; omega
    have l8 : W5.heap.size ≤ W7.heap.size + 1 + 1 := by omega
    have d1 : gr ≠ W7.heap.size + 1 := by omega
    have d2' : gr ≠ W7.heap.size + 1 + 1 := by omega
    have d3 : gs ≠ W7.heap.size + 1 := by omega
    have d4 : gs ≠ W7.heap.size + 1 + 1 := by omega
    have d5 : W7.heap.size + 1 + 1 ≠ W7.heap.size + 1 := by omega
    have HST : Hid (∃ R S, BezW W5 W5.heap.size gr gs (W7.heap.size + 1) (W7.heap.size + 1 + 1) (ivalB b).natAbs (bezL (ivalB b).natAbs (ivalB a).natAbs (ivalB b).natAbs 1 0) (gcdI (ivalB a).natAbs (ivalB b).natAbs) R S WL) :=
      Lib.hid ⟨_, _, ⟨(ivalB b).natAbs, 1, 0, _, _, _, _, _, _, _, _, _, _, _, _, _, _, HR7.out.below l4, HS7.out.below l4, l1, l2, HM1.out.below (HB7.out.trans (l4.mono HB7.out.size)), HM2.out.below (HB7.out.trans (l4.mono HB7.out.size)), mag_numV l3, ⟨false, _, 0, rfl, mag_nil _ _, rfl⟩, bezOK_start hX0 hY1, by omega, rfl, rfl⟩, HB7.out.trans (l4.mono HB7.out.size)⟩
    clear l1 l2 l3 l4 l5 l6 HR7 HS7 hWL
    generalize W7.heap.size + 1 + 1 = gn at l8 d2' d4 d5 HST ⊢
    generalize W7.heap.size + 1 = gb at l7 d1 d3 d5 HST ⊢
    clear HB7
    go_loopw [] (fun wr => Hid (∃ R S, BezW W5 W5.heap.size gr gs gb gn (ivalB b).natAbs (bezL (ivalB b).natAbs (ivalB a).natAbs (ivalB b).natAbs 1 0) (gcdI (ivalB a).natAbs (ivalB b).natAbs) R S wr)) (fun wz => magN wz ((wz.cell? ⟨gs, 1, none⟩).getD undef))
    case atStart => exact HST
    case round =>
      clear HST
      obtain ⟨R, Z, ⟨k, P, Q, Ar, As, nr, cr, ns, cs, db, dn, Ab, An, nb, cb, nn, cn, n1, n2, n3, n4, m1, m2, v1, v2, hok, hk, hF, hg⟩, hBr⟩ := hrel.out
      have hS0 := m2.nonneg
      have hR0 := m1.nonneg
      have hz := mag_zero m2
      by_cases h0 : ns = 0
      · obtain rfl : Z = 0 := hz.2 h0
        subst h0
        have hPF : P = bezL (ivalB b).natAbs (ivalB a).natAbs (ivalB b).natAbs 1 0 := by
          rw [← hF]
          cases k <;> simp [bezL]
        have hRg : R = gcdI (ivalB a) (ivalB b) := by rw [gcdI_zero hR0, gcdI_abs] at hg; exact hg
        subst hRg
        have hbz : ivalB b ≠ 0 := by omega
        have hg0 : 0 < gcdI (ivalB a) (ivalB b) := gcdI_pos hbz
        have hq0 : 0 < ((ivalB b).natAbs : Int) / gcdI (ivalB a) (ivalB b) := Int.ediv_pos_of_pos_of_dvd hY1 (Int.le_of_lt hg0) (Int.dvd_natAbs.2 (gcdI_right _ _))
        have nx := HNX.out.below hBr
        have ny := HNY.out.below hBr
        have s0 := n2.c0
        have s1 := n2.c1
        have xa := nx.c0
        have ya := ny.c1
        have ra := n1.c1
        have hxb : w1.heap.size ≠ gb := by omega
        have hyb : w1.heap.size + 1 ≠ gb := by omega
        clear hz hok hk hF hg v2 n4 m2 hrel
        go_upto_if 75 with fail
        go_cut [] (fun wx => ∃ (wD : World) (db' : Bool), wD = wx ∧ Hid (NB wD gr false Ar nr cr) ∧ Hid (NB wD gb db' Ab nb cb) ∧ Hid (NB wD w1.heap.size d A n c) ∧ Hid (NB wD (w1.heap.size + 1) d2 B m c2) ∧ Hid (Mag wD (.slice Ar nr cr) (gcdI (ivalB a) (ivalB b)) 456) ∧ Hid (NumV wD (.agg #[.bool db', .slice Ab nb cb]) (bezP (ivalB a) (ivalB b)) 456) ∧ Hid (Below W5.heap.size W5 wD))
        case first =>
          cases d with
          | false =>
            have hP : P = bezP (ivalB a) (ivalB b) := by
              have h1 := numV_sign HN1.out
              unfold bezP
              rw [if_neg (by simp at h1; omega)]
              exact hPF
            subst hP
            go_wp2_with fail
            go_meet
            exact ⟨_, _, rfl, Lib.hid n1, Lib.hid n3, Lib.hid nx, Lib.hid ny, Lib.hid m1, Lib.hid v1, Lib.hid hBr⟩
          | true =>
            have hP : -P = bezP (ivalB a) (ivalB b) := by
              have h1 := numV_sign HN1.out
              unfold bezP
              by_cases ha0 : ivalB a < 0
              · rw [if_pos ha0, hPF]
              · rw [if_neg ha0, hPF]
                have : ivalB a = 0 := by simp at h1; omega
                rw [this, Int.natAbs_zero, show ((0 : Nat) : Int) = 0 from rfl, bezL_none _ _ (by omega), if_neg (by omega)]
                rfl
            have ba := n3.c0
            have bb := n3.c1
            go_wp2_with fail
            refine (negated_walk db Ab nb cb wr).mono ?_
            rintro e w2 ⟨rfl, hB2⟩
            have k3 := n3.below hB2
            have bc := k3.c0
            have bd := k3.c1
            have be := k3.f0
            have bf := k3.f1
            go_wp2_with fail
            go_meet
            refine ⟨_, !db, rfl, Lib.hid ((n1.below hB2).far d1 _ _), Lib.hid (k3.put _ _ _ _), Lib.hid ((nx.below hB2).far hxb _ _), Lib.hid ((ny.below hB2).far hyb _ _), Lib.hid (k3.set_mag (m1.below hB2) _ _ _ _), Lib.hid ?_, Lib.hid (below_set2 (hBr.trans (hB2.mono hBr.size)) l7 _ _)⟩
            rw [← hP]
            exact k3.set_num ((v1.neg).below hB2) _ _ _ _
        case rest =>
          obtain ⟨wD, db', hwD, G1', G3', GX', GY', MR', NP', BD'⟩ := hcut
          subst hwD
          clear s0 s1 xa ya ra n1 n3 nx ny m1 v1 hBr hPF
          have NX' := Lib.hid (HN1.out.below BD'.out)
          have NY' := Lib.hid (HN2.out.below BD'.out)
          have MY' := Lib.hid (HM2.out.below BD'.out)
          have y0 := GY'.out.c1
          have y1 := G1'.out.c1
          go_wp2_with fail
          clear y0 y1
          refine (divide_mag _ _ _ _ 456 456 wD MY'.out MR'.out hg0 (by omega) (by omega)).mono ?_
          rintro e w3 ⟨A3, n3, c3, A4, n4, c4, rfl, hst, _, hB3⟩
          have y0 := (G3'.out.below hB3).c0
          have y1 := (G3'.out.below hB3).c1
          have HST := Lib.hid hst
          have HB3 := Lib.hid hB3
          clear hst hB3
          go_wp2_with fail
          refine (quot_numV _ _ _ _ 456 456 457 w3 (NP'.out.below HB3.out) (mag_numV HST.out) (by omega) (by omega) (by omega) (by omega)).mono ?_
          rintro e w4 ⟨d5, A5, n5, c5, d6, A6, n6, c6, rfl, _, hu, hB4⟩
          have HU := Lib.hid hu
          have HB4 := Lib.hid (HB3.out.trans (hB4.mono HB3.out.size))
          clear hu hB4 y0 y1
          go_wp2_with fail
          obtain ⟨t1, t2, t3, t4⟩ := two_new w4 d5 d6 A5 A6 n5 c5 n6 c6
          obtain ⟨W9, hW9⟩ : ∃ W9, (w4.alloc (.cells #[.bool d5, .slice A5 n5 c5] 81)).alloc (.cells #[.bool d6, .slice A6 n6 c6] 81) = W9 := ⟨_, rfl⟩
          rw [hW9] at t1 t2 t3 t4 ⊢
          have b9 : Below wD.heap.size wD W9.drew := (HB4.out.trans (t3.mono HB4.out.size)).drew
          have g1 : NB W9.drew gr false Ar nr cr := G1'.out.below b9
          have gx : NB W9.drew w1.heap.size d A n c := GX'.out.below b9
          have gy : NB W9.drew (w1.heap.size + 1) d2 B m c2 := GY'.out.below b9
          have gu : NB W9.drew (w4.heap.size + 1) d6 A6 n6 c6 := t2
          have hU : bezU (ivalB a) (ivalB b) = Int.fmod (bezP (ivalB a) (ivalB b)) ((ivalB b).natAbs / gcdI (ivalB a) (ivalB b)) := if_neg hbz
          have hV : bezV (ivalB a) (ivalB b) = Int.fdiv (gcdI (ivalB a) (ivalB b) + -(ivalB a * bezU (ivalB a) (ivalB b))) (ivalB b) := if_neg hbz
          have nu : NumV W9.drew (.agg #[.bool d6, .slice A6 n6 c6]) (bezU (ivalB a) (ivalB b)) 458 := by rw [hU]; exact HU.out.below t3.drew
          have GU := Lib.hid gu
          have G1 := Lib.hid g1
          have NU := Lib.hid nu
          have NX9 := Lib.hid (NX'.out.below b9)
          have NY9 := Lib.hid (NY'.out.below b9)
          have MR9 := Lib.hid (MR'.out.below b9)
          have B9 := Lib.hid (BD'.out.trans (b9.mono BD'.out.size))
          have HV := Lib.hid hV
          have HK9 : Hid (∀ v : World, Below W9.drew.heap.size W9.drew v → v.cell? ⟨gr, 0, none⟩ = some (.bool false) ∧ v.cell? ⟨gr, 1, none⟩ = some (.slice Ar nr cr) ∧ v.cell? ⟨w1.heap.size, 0, none⟩ = some (.bool d) ∧ v.cell? ⟨w1.heap.size, 1, none⟩ = some (.slice A n c) ∧ v.cell? ⟨w4.heap.size + 1, 0, none⟩ = some (.bool d6) ∧ v.cell? ⟨w4.heap.size + 1, 1, none⟩ = some (.slice A6 n6 c6) ∧ v.cell? ⟨w1.heap.size + 1, 0, none⟩ = some (.bool d2) ∧ v.cell? ⟨w1.heap.size + 1, 1, none⟩ = some (.slice B m c2)) := Lib.hid fun v hB => ⟨(g1.below hB).c0, (g1.below hB).c1, (gx.below hB).c0, (gx.below hB).c1, (gu.below hB).c0, (gu.below hB).c1, (gy.below hB).c0, (gy.below hB).c1⟩
          have kd := HK9.out W9.drew (Below.refl _ _)
          clear g1 gx gy gu nu t1 t2 t3 t4 b9 G1' G3' GX' GY' NX' NY' MY' MR' NP' BD' HST HU HB3 HB4 hU hV hW9
          refine region_J (by kernel_rfl) (BF (.agg #[.bool false, .slice Ar nr cr]) (.agg #[.bool d, .slice A n c]) (.agg #[.bool d6, .slice A6 n6 c6]) (.agg #[.bool d2, .slice B m c2]) (ivalB a * bezU (ivalB a) (ivalB b)) (gcdI (ivalB a) (ivalB b) + -(ivalB a * bezU (ivalB a) (ivalB b))) (bezV (ivalB a) (ivalB b)) W9.drew) (by kernel_rfl) ⟨Below.refl _ _, fun h => by (rw [getD_replicate_false] at h; cases h), fun h => by (rw [getD_replicate_false] at h; cases h), fun j h => by (rw [getD_replicate_false] at h; cases h)⟩ ?_ ?_
          · intro L vals ac wv i o ho hf hs hn hk hF K hK
            have hlt : i < 15 := (List.getElem?_eq_some_iff.1 ho).1
            have hi : i < L.size := by rw [hs]; exact hlt
            have hx := HK9.out wv hF.1
            have hall := Lib.hid hF.2.2.2
            have HFF := Lib.hid hF
            clear hF kd
            obtain rfl | rfl | rfl | rfl | rfl | rfl | rfl | rfl | rfl | rfl | rfl | rfl | rfl | rfl | rfl : i = 0 ∨ i = 1 ∨ i = 2 ∨ i = 3 ∨ i = 4 ∨ i = 5 ∨ i = 6 ∨ i = 7 ∨ i = 8 ∨ i = 9 ∨ i = 10 ∨ i = 11 ∨ i = 12 ∨ i = 13 ∨ i = 14 := by omega
            all_goals (obtain rfl := Option.some.inj ho)
            · have e0 : ac.tmps[12]?.getD undef = .pointer (some ⟨gr, 0, none⟩) := eval_get ((hk.rest' 12 (by kernel_rfl)).trans rfl)
              go_simp
              exact hK _ _ (HFF.out.step hi (by decide) (Below.refl _ _) rfl ⟨fun e => absurd e (by decide), fun e => absurd e (by decide)⟩)
            · have e0 : ac.tmps[8]?.getD undef = .pointer (some ⟨w1.heap.size, 0, none⟩) := eval_get ((hk.rest' 8 (by kernel_rfl)).trans rfl)
              go_simp
              exact hK _ _ (HFF.out.step hi (by decide) (Below.refl _ _) rfl ⟨fun e => absurd e (by decide), fun e => absurd e (by decide)⟩)
            · have e0 : ac.tmps[21]?.getD undef = .pointer (some ⟨w4.heap.size + 1, 0, none⟩) := eval_get ((hk.rest' 21 (by kernel_rfl)).trans rfl)
              go_simp
              exact hK _ _ (HFF.out.step hi (by decide) (Below.refl _ _) rfl ⟨fun e => absurd e (by decide), fun e => absurd e (by decide)⟩)
            · have e0 : ac.tmps[95]?.getD undef = .agg #[.bool d, .slice A n c] := eval_get ((hk.done 1 95 rfl (by kernel_rfl)).trans (hall.out 1 (hn 1 (by kernel_rfl))))
              have e1 : ac.tmps[96]?.getD undef = .agg #[.bool d6, .slice A6 n6 c6] := eval_get ((hk.done 2 96 rfl (by kernel_rfl)).trans (hall.out 2 (hn 2 (by kernel_rfl))))
              go_simp
              go_at_call 85
              refine (product_shape _ _ (ivalB a) (bezU (ivalB a) (ivalB b)) 456 458 wv (NX9.out.below HFF.out.1) (NU.out.below HFF.out.1) (by omega) (by omega)).mono ?_
              rintro e v1 ⟨dp, Ap, np, cp, rfl, hp, hB5⟩
              dsimp only
              exact hK _ _ (HFF.out.step hi (by decide) hB5 ⟨_, _, _, _, rfl, hp⟩ ⟨fun e => absurd e (by decide), fun e => absurd e (by decide)⟩)
            · obtain ⟨dp, Ap, np, cp, hv, hp⟩ := hall.out 3 (hn 3 (by kernel_rfl))
              have e0 := eval_get (hk.done 3 97 rfl (by kernel_rfl))
              rw [hv] at e0 hp
              go_simp
              go_at_call 83
              refine (negated_walk dp Ap np cp wv).mono ?_
              rintro e v1 ⟨rfl, hB5⟩
              dsimp only
              exact hK _ _ (HFF.out.step hi (by decide) hB5 ⟨_, _, _, _, rfl, hp.neg.below hB5⟩ ⟨fun e => absurd e (by decide), fun e => absurd e (by decide)⟩)
            · obtain ⟨dp, Ap, np, cp, hv, hp⟩ := hall.out 4 (hn 4 (by kernel_rfl))
              have e0 := eval_get (hk.done 4 98 rfl (by kernel_rfl))
              rw [hv] at e0 hp
              have e1 : ac.tmps[94]?.getD undef = .agg #[.bool false, .slice Ar nr cr] := eval_get ((hk.done 0 94 rfl (by kernel_rfl)).trans (hall.out 0 (hn 0 (by kernel_rfl))))
              go_simp
              go_at_call 81
              refine (sum_shape _ _ (gcdI (ivalB a) (ivalB b)) (-(ivalB a * bezU (ivalB a) (ivalB b))) 914 wv ((mag_numV (MR9.out.below HFF.out.1)).more (by omega)) hp (by omega)).mono ?_
              rintro e v1 ⟨ds, As, ns, cs, rfl, hs', hB5⟩
              dsimp only
              exact hK _ _ (HFF.out.step hi (by decide) hB5 ⟨_, _, _, _, rfl, hs'⟩ ⟨fun e => absurd e (by decide), fun e => absurd e (by decide)⟩)
            · have e0 : ac.tmps[9]?.getD undef = .pointer (some ⟨w1.heap.size + 1, 0, none⟩) := eval_get ((hk.rest' 9 (by kernel_rfl)).trans rfl)
              go_simp
              exact hK _ _ (HFF.out.step hi (by decide) (Below.refl _ _) rfl ⟨fun e => absurd e (by decide), fun e => absurd e (by decide)⟩)
            · obtain ⟨dp, Ap, np, cp, hv, hp⟩ := hall.out 5 (hn 5 (by kernel_rfl))
              have e0 := eval_get (hk.done 5 99 rfl (by kernel_rfl))
              rw [hv] at e0 hp
              have e1 : ac.tmps[100]?.getD undef = .agg #[.bool d2, .slice B m c2] := eval_get ((hk.done 6 100 rfl (by kernel_rfl)).trans (hall.out 6 (hn 6 (by kernel_rfl))))
              go_simp
              go_at_call 95
              refine (quot_numV _ _ _ (ivalB b) 915 456 916 wv hp (NY9.out.below HFF.out.1) hbz (by omega) (by omega) (by omega)).mono ?_
              rintro e v1 ⟨d7, A7, n7, c7, d8, A8, n8, c8, rfl, hv', _, hB5⟩
              dsimp only
              exact hK _ _ (HFF.out.step hi (by decide) hB5 ⟨_, _, _, _, _, _, _, _, rfl, by rw [HV.out]; exact hv'⟩ ⟨fun e => absurd e (by decide), fun e => absurd e (by decide)⟩)
            · obtain ⟨d7, A7, n7, c7, d8, A8, n8, c8, hv, hp⟩ := hall.out 7 (hn 7 (by kernel_rfl))
              have e0 := eval_get (hk.done 7 101 rfl (by kernel_rfl))
              rw [hv] at e0
              go_simp
              exact hK _ _ (HFF.out.step hi (by decide) (Below.refl _ _) ⟨_, _, _, _, _, _, _, _, rfl, hp⟩ ⟨fun e => absurd e (by decide), fun e => absurd e (by decide)⟩)
            · obtain ⟨d7, A7, n7, c7, d8, A8, n8, c8, hv, hp⟩ := hall.out 8 (hn 8 (by kernel_rfl))
              have e0 := eval_get (hk.done 8 93 rfl (by kernel_rfl))
              rw [hv] at e0
              go_simp
              exact hK _ _ (HFF.out.step hi (by decide) (Below.refl _ _) ⟨_, _, _, _, rfl, hp⟩ ⟨fun e => absurd e (by decide), fun e => absurd e (by decide)⟩)
            · obtain ⟨d7, A7, n7, c7, d8, A8, n8, c8, hv, hp⟩ := hall.out 8 (hn 8 (by kernel_rfl))
              have e0 := eval_get (hk.done 8 93 rfl (by kernel_rfl))
              rw [hv] at e0
              go_simp
              exact hK _ _ (HFF.out.step hi (by decide) (Below.refl _ _) ⟨_, _, _, _, rfl⟩ ⟨fun e => absurd e (by decide), fun e => absurd e (by decide)⟩)
            · go_simp
              refine hK _ _ (HFF.out.step hi (by decide) ((Below.refl _ wv).alloc (Nat.le_refl _) _) ⟨_, _, _, _, _, rfl, NB.new wv _ _ _ _, HFF.out.1.size, fun ht => absurd (HFF.out.2.2.1 ht) (by rw [hf]; decide)⟩ ⟨fun _ hl => ?_, fun e => absurd e (by decide)⟩)
              obtain ⟨g', d', A', n', c', e', h', _⟩ := hall.out 12 hl
              rw [e']
              intro q
              injection q with q
              injection q with q
              injection q with q
              have := h'.lt
              omega
            · go_simp
              refine hK _ _ (HFF.out.step hi (by decide) ((Below.refl _ wv).alloc (Nat.le_refl _) _) ⟨_, _, _, _, _, rfl, NB.new wv _ _ _ _, HFF.out.1.size⟩ ⟨fun e => absurd e (by decide), fun _ hl => ?_⟩)
              obtain ⟨g', d', A', n', c', e', h', _⟩ := hall.out 11 hl
              rw [e']
              intro q
              injection q with q
              injection q with q
              injection q with q
              have := h'.lt
              omega
            · obtain ⟨d7, A7, n7, c7, hv, hp⟩ := hall.out 9 (hn 9 (by kernel_rfl))
              obtain ⟨g', d', A', n', c', e', h', hg', _⟩ := hall.out 11 (hn 11 (by kernel_rfl))
              have e0 := eval_get (hk.done 9 102 rfl (by kernel_rfl))
              have e1 := eval_get (hk.done 11 22 rfl (by kernel_rfl))
              rw [hv] at e0 hp
              rw [e'] at e1
              have y0 := h'.c0
              have y1 := h'.c1
              have y2 := h'.f0
              have y3 := h'.f1
              go_simp
              exact hK _ _ (HFF.out.store hi h' hg' d7 A7 n7 c7 (.inl ⟨rfl, e', hp, hn 11 (by kernel_rfl)⟩))
            · obtain ⟨d7, A7, n7, c7, hv⟩ := hall.out 10 (hn 10 (by kernel_rfl))
              obtain ⟨g', d', A', n', c', e', h', hg'⟩ := hall.out 12 (hn 12 (by kernel_rfl))
              have e0 := eval_get (hk.done 10 103 rfl (by kernel_rfl))
              have e1 := eval_get (hk.done 12 23 rfl (by kernel_rfl))
              rw [hv] at e0
              rw [e'] at e1
              have y0 := h'.c0
              have y1 := h'.c1
              have y2 := h'.f0
              have y3 := h'.f1
              go_simp
              exact hK _ _ (HFF.out.store hi h' hg' d7 A7 n7 c7 (.inr ⟨rfl, e', hn 12 (by kernel_rfl)⟩))
          · intro vals wv L hl hF
            obtain ⟨gv, dv, Av, nv, cv, e', h', hg', hnum⟩ := hF.2.2.2 11 (hl 11 (by decide))
            have hV9 := hnum (hl 13 (by decide))
            simp only [putFrom, Act.put, List.setIfInBounds_toArray, List.set_cons_zero, List.set_cons_succ]
            rw [e']
            have r1 := G1.out.below hF.1
            have r2 := GU.out.below hF.1
            have hW := B9.out.trans (hF.1.mono B9.out.size)
            have HMR := Lib.hid (mag_numV (MR9.out.below hF.1))
            have HNU := Lib.hid (NU.out.below hF.1)
            have HNV := Lib.hid hV9
            have HWW := Lib.hid (HB.out.trans (hW.mono HB.out.size))
            have HGV := Lib.hid (HG.out.below HWW.out)
            have HT1 : Hid (∀ v : World, Below wv.heap.size wv v → Calls Tryz.prog 88 #[.agg #[.bool false, .slice Ar nr cr]] v fun e w' => e = .returned (.string (text (gcdI (ivalB a) (ivalB b)))) ∧ Below v.heap.size v w') := Lib.hid fun v hv => text_num _ _ 456 v (HMR.out.below hv) (by omega) (HGV.out.below hv)
            have HT2 : Hid (∀ v : World, Below wv.heap.size wv v → Calls Tryz.prog 88 #[.agg #[.bool d6, .slice A6 n6 c6]] v fun e w' => e = .returned (.string (text (bezU (ivalB a) (ivalB b)))) ∧ Below v.heap.size v w') := Lib.hid fun v hv => text_num _ _ 458 v (HNU.out.below hv) (by omega) (HGV.out.below hv)
            have HT3 : Hid (∀ v : World, Below wv.heap.size wv v → Calls Tryz.prog 88 #[.agg #[.bool dv, .slice Av nv cv]] v fun e w' => e = .returned (.string (text (bezV (ivalB a) (ivalB b)))) ∧ Below v.heap.size v w') := Lib.hid fun v hv => text_num _ _ 917 v (HNV.out.below hv) (by omega) (HGV.out.below hv)
            have HKC : Hid (∀ v : World, Below wv.heap.size wv v → v.cell? ⟨gr, 0, none⟩ = some (.bool false) ∧ v.cell? ⟨gr, 1, none⟩ = some (.slice Ar nr cr) ∧ v.cell? ⟨w4.heap.size + 1, 0, none⟩ = some (.bool d6) ∧ v.cell? ⟨w4.heap.size + 1, 1, none⟩ = some (.slice A6 n6 c6) ∧ v.cell? ⟨gv, 0, none⟩ = some (.bool dv) ∧ v.cell? ⟨gv, 1, none⟩ = some (.slice Av nv cv)) := Lib.hid fun v hB => ⟨(r1.below hB).c0, (r1.below hB).c1, (r2.below hB).c0, (r2.below hB).c1, (h'.below hB).c0, (h'.below hB).c1⟩
            have BQ0 := Lib.hid ((Below.refl wv.heap.size wv).drew)
            have kd0 := HKC.out _ BQ0.out
            clear hF hl hnum hV9 hW r1 r2 h' hg' e' kd HK9 NX9 NY9 MR9 NU GU G1 B9 HV HN1 HN2 HM1 HM2 HNX HNY HMR HNU HNV
            go_wp2_with fail
            go_region_held3 (fun v => v.cell? ⟨gr, 0, none⟩ = some (.bool false) ∧ v.cell? ⟨gr, 1, none⟩ = some (.slice Ar nr cr) ∧ v.cell? ⟨w4.heap.size + 1, 0, none⟩ = some (.bool d6) ∧ v.cell? ⟨w4.heap.size + 1, 1, none⟩ = some (.slice A6 n6 c6) ∧ v.cell? ⟨gv, 0, none⟩ = some (.bool dv) ∧ v.cell? ⟨gv, 1, none⟩ = some (.slice Av nv cv)) (first | assumption) (first
              | (go_at_call 88; refine (HT1.out _ BQ0.out).mono ?_; rintro e v1 ⟨rfl, hb⟩; have hb2 := BQ0.out.trans (hb.mono BQ0.out.size); have kd1 := HKC.out _ hb2; have BQ1 := Lib.hid hb2; clear hb hb2 HT1)
              | (go_at_call 88; refine (HT2.out _ BQ1.out).mono ?_; rintro e v2 ⟨rfl, hb⟩; have hb2 := BQ1.out.trans (hb.mono BQ1.out.size); have kd2 := HKC.out _ hb2; have BQ2 := Lib.hid hb2; clear hb hb2 HT2)
              | (go_at_call 88; refine (HT3.out _ BQ2.out).mono ?_; rintro e v3 ⟨rfl, hb⟩; have hb2 := BQ2.out.trans (hb.mono BQ2.out.size); have kd3 := HKC.out _ hb2; have BQ3 := Lib.hid hb2; clear hb hb2 HT3))
            all_goals (
              go_wp2_with fail
              (try simp only [Exit.inBlock, Exit.then])
              refine bodyPost_ret (results_tmp4 rfl _ _ _) rfl ?_
              exact ⟨rfl, HWW.out.trans (BQ3.out.mono HWW.out.size)⟩)
      · have hS1 : 0 < Z := by have : Z ≠ 0 := fun q => h0 (hz.1 q); omega
        have e5 : decide ((0 : Int) < (ns : Int)) = true := decide_eq_true (by omega)
        have e6 : (0 : Int) < (ns : Int) := by omega
        have r0 := n1.c0
        have r1 := n1.c1
        have s0 := n2.c0
        have s1 := n2.c1
        have HMS : Hid (magN wr ((wr.cell? ⟨gs, 1, none⟩).getD undef) = Z.toNat) := Lib.hid (by rw [s1]; exact magN_of m2)
        have HQ := Lib.hid (quot_mag _ _ R Z 456 456 wr m1 m2 hS1 (by omega) (by omega))
        have N1 := Lib.hid n1
        have N2 := Lib.hid n2
        have N3 := Lib.hid n3
        have N4 := Lib.hid n4
        have M1 := Lib.hid m1
        have M2 := Lib.hid m2
        have V1 := Lib.hid v1
        have V2 := Lib.hid v2
        have OK := Lib.hid hok
        have HK := Lib.hid hk
        have HF := Lib.hid hF
        have HGC := Lib.hid hg
        have HBR := Lib.hid hBr
        clear n1 n2 n3 n4 m1 m2 v1 v2 hok hk hF hg hBr hz h0 hrel
        go_wp2_with (go_at_call 95; refine HQ.out.mono ?_; rintro E w2 ⟨A1, k1, c1, A2, k2, c2', rfl, q1, q2, hB2⟩; have HQ1 := Lib.hid q1; have HQ2 := Lib.hid q2; have HB2 := Lib.hid hB2; clear q1 q2 hB2 HQ r0 r1 s0 s1)
        obtain ⟨t1, t2, t3, t4⟩ := two_new w2 false false A1 A2 k1 c1 k2 c2'
        obtain ⟨W3, hW3⟩ : ∃ W3, (w2.alloc (.cells #[.bool false, .slice A1 k1 c1] 81)).alloc (.cells #[.bool false, .slice A2 k2 c2'] 81) = W3 := ⟨_, rfl⟩
        rw [hW3] at t1 t2 t3 t4 ⊢
        have p1 : NB W3 gr false Ar nr cr := (N1.out.below HB2.out).below t3
        have p2 : NB W3 gs false As ns cs := (N2.out.below HB2.out).below t3
        have p3 : NB W3 gb db Ab nb cb := (N3.out.below HB2.out).below t3
        have p4 : NB W3 gn dn An nn cn := (N4.out.below HB2.out).below t3
        have p5 : NB W3 w2.heap.size false A1 k1 c1 := t1
        have p6 : NB W3 (w2.heap.size + 1) false A2 k2 c2' := t2
        have f1 : w2.heap.size + 1 ≠ gr := by have := (N1.out.below HB2.out).lt; omega
        have f2 : w2.heap.size + 1 ≠ gs := by have := (N2.out.below HB2.out).lt; omega
        have f3 : w2.heap.size ≠ gr := by have := (N1.out.below HB2.out).lt; omega
        have f4 : w2.heap.size ≠ gs := by have := (N2.out.below HB2.out).lt; omega
        have f5 : w2.heap.size ≠ gb := by have := (N3.out.below HB2.out).lt; omega
        have f6 : w2.heap.size ≠ gn := by have := (N4.out.below HB2.out).lt; omega
        have P2 := Lib.hid p2
        have P3 := Lib.hid p3
        have P4 := Lib.hid p4
        have P5 := Lib.hid p5
        have P6 := Lib.hid p6
        have P1 := Lib.hid p1
        have x0 := p1.c0
        have x1 := p1.c1
        have x2 := p1.f0
        have x3 := p1.f1
        have T3 := Lib.hid (HBR.out.trans ((HB2.out.trans (t3.mono HB2.out.size)).mono HBR.out.size)).drew
        clear hW3 t1 t2 p1 p2 p3 p4 p5 p6 N1 N2 N3 N4
        refine wp_region_T (S := fun L W => (L.getD 3 true = false → W.cell? ⟨gs, 0, none⟩ = some (.bool false) ∧ W.cell? ⟨gs, 1, none⟩ = some (.slice As ns cs)) ∧ W.cell? ⟨w2.heap.size + 1, 0, none⟩ = some (.bool false) ∧ W.cell? ⟨w2.heap.size + 1, 1, none⟩ = some (.slice A2 k2 c2')) (by kernel_rfl) ?_
        refine wpAnyT_take 0 3 (fun W => W.cell? ⟨gs, 0, none⟩ = some (.bool false) ∧ W.cell? ⟨gs, 1, none⟩ = some (.slice As ns cs)) (v := .agg #[.bool false, .slice As ns cs]) rfl rfl (by kernel_rfl) (by decide) (by kernel_rfl) (by kernel_rfl) (by kernel_rfl) (by kernel_rfl) (fun _ _ _ h => h) (fun L W => by rw [getD_set_ne true (show (0 : Nat) ≠ 3 by decide)]) (fun L W hl h => h.1 hl) ⟨fun _ => ⟨P2.out.c0, P2.out.c1⟩, P6.out.c0, P6.out.c1⟩ rfl (fun W hW => by obtain ⟨y0, y1⟩ := hW; go_simp) (fun hS => ?_)
        try simp only [Act.put, List.setIfInBounds_toArray, List.set_cons_zero, List.set_cons_succ]
        refine wpAnyT_take 1 3 (fun W => W.cell? ⟨w2.heap.size + 1, 0, none⟩ = some (.bool false) ∧ W.cell? ⟨w2.heap.size + 1, 1, none⟩ = some (.slice A2 k2 c2')) (v := .agg #[.bool false, .slice A2 k2 c2']) rfl rfl (by kernel_rfl) (by decide) (by kernel_rfl) (by kernel_rfl) (by kernel_rfl) (by kernel_rfl) (fun _ _ _ h => h) (fun L W => by rw [getD_set_ne true (show (1 : Nat) ≠ 3 by decide)]) (fun L W hl h => h.2) hS rfl (fun W hW => by obtain ⟨y0, y1⟩ := hW; go_simp) (fun hS => ?_)
        try simp only [Act.put, List.setIfInBounds_toArray, List.set_cons_zero, List.set_cons_succ]
        refine wpAnyT_one 2 (by kernel_rfl) rfl (fun K' hK => ?_)
        go_simp
        refine hK.out _ _ ⟨fun _ => ⟨((P2.out.far o3 (.bool false) (.slice As ns cs))).c0, (P2.out.far o3 (.bool false) (.slice As ns cs)).c1⟩, (P6.out.far f1 (.bool false) (.slice As ns cs)).c0, (P6.out.far f1 (.bool false) (.slice As ns cs)).c1⟩ ?_
        try simp only [Act.put, List.setIfInBounds_toArray, List.set_cons_zero, List.set_cons_succ]
        clear hK K' hS
        have q1 := P1.out.put false As ns cs
        have q2 := P2.out.far o3 (.bool false) (.slice As ns cs)
        have q3 := P3.out.far (Ne.symm d1) (.bool false) (.slice As ns cs)
        have q4 := P4.out.far (Ne.symm d2') (.bool false) (.slice As ns cs)
        have q5 := P5.out.far f3 (.bool false) (.slice As ns cs)
        have q6 := P6.out.far f1 (.bool false) (.slice As ns cs)
        have hbt := HB2.out.trans (t3.mono HB2.out.size)
        have u2 := P1.out.set_mag (M2.out.below hbt) false As ns cs
        have u3 := P1.out.set_num (V1.out.below hbt) false As ns cs
        have u4 := P1.out.set_num (V2.out.below hbt) false As ns cs
        have u5 := P1.out.set_mag (HQ1.out.below t3) false As ns cs
        have u6 := P1.out.set_mag (HQ2.out.below t3) false As ns cs
        have b1 := below_set2 T3.out o1 (.bool false) (.slice As ns cs)
        obtain ⟨W4, hW4⟩ : ∃ W4, (W3.setCell ⟨gr, 0, none⟩ (.bool false)).setCell ⟨gr, 1, none⟩ (.slice As ns cs) = W4 := ⟨_, rfl⟩
        rw [hW4] at q1 q2 q3 q4 q5 q6 u2 u3 u4 u5 u6
        have b2 : Below W5.heap.size W5 W4 := by rw [← hW4]; exact below_set2 (HBR.out.trans (hbt.mono HBR.out.size)) o1 _ _
        try rw [hW4]
        have y0 := q2.c0
        have y1 := q2.c1
        have y2 := q2.f0
        have y3 := q2.f1
        clear x0 x1 x2 x3 hW4 T3 b1 P1 P2 P3 P4 P5 P6
        refine wpAnyT_one 3 (by kernel_rfl) rfl (fun K' hK => ?_)
        go_simp
        refine hK.out _ _ ⟨fun h => absurd (show true = false from h) (by decide), (q6.far f2 (.bool false) (.slice A2 k2 c2')).c0, (q6.far f2 (.bool false) (.slice A2 k2 c2')).c1⟩ ?_
        clear hK K'
        refine wpAnyT_done (by kernel_rfl) ?_ _
        have r1 := q1.far (Ne.symm o3) (.bool false) (.slice A2 k2 c2')
        have r2 := q2.put false A2 k2 c2'
        have r3 := q3.far (Ne.symm d3) (.bool false) (.slice A2 k2 c2')
        have r4 := q4.far (Ne.symm d4) (.bool false) (.slice A2 k2 c2')
        have r5 := q5.far f4 (.bool false) (.slice A2 k2 c2')
        have v2 := q2.set_mag u2 false A2 k2 c2'
        have v3 := q2.set_num u3 false A2 k2 c2'
        have v4 := q2.set_num u4 false A2 k2 c2'
        have v5 := q2.set_mag u5 false A2 k2 c2'
        have v6 := q2.set_mag u6 false A2 k2 c2'
        have b3 := below_set2 b2 o2 (.bool false) (.slice A2 k2 c2')
        clear q1 q2 q3 q4 q5 q6 u2 u3 u4 u5 u6 b2 y0 y1 y2 y3 t3 t4 hbt M1 M2 V1 V2 HQ1 HQ2 HBR
        go_wp2_with fail
        obtain ⟨W8, hW8⟩ : ∃ W8, ((W4.setCell ⟨gs, 0, none⟩ (.bool false)).setCell ⟨gs, 1, none⟩ (.slice A2 k2 c2')).drew = W8 := ⟨_, rfl⟩
        rw [hW8]
        have e1 : NB W8.drew gr false As ns cs := by rw [← hW8]; exact r1
        have e2 : NB W8.drew gs false A2 k2 c2' := by rw [← hW8]; exact r2
        have e3 : NB W8.drew gb db Ab nb cb := by rw [← hW8]; exact r3
        have e4 : NB W8.drew gn dn An nn cn := by rw [← hW8]; exact r4
        have e5' : NB W8.drew w2.heap.size false A1 k1 c1 := by rw [← hW8]; exact r5
        have z2 : Mag W8.drew (.slice As ns cs) Z 456 := by rw [← hW8]; exact v2
        have z3 : NumV W8.drew (.agg #[.bool db, .slice Ab nb cb]) P 456 := by rw [← hW8]; exact v3
        have z4 : NumV W8.drew (.agg #[.bool dn, .slice An nn cn]) Q 456 := by rw [← hW8]; exact v4
        have z5 : Mag W8.drew (.slice A1 k1 c1) (R / Z) 456 := by rw [← hW8]; exact v5
        have z6 : Mag W8.drew (.slice A2 k2 c2') (R % Z) 456 := by rw [← hW8]; exact v6
        have b4 : Below W5.heap.size W5 W8.drew := by rw [← hW8]; exact b3.drew.drew
        have E1 := Lib.hid e1
        have E2 := Lib.hid e2
        have E3 := Lib.hid e3
        have E4 := Lib.hid e4
        have E5 := Lib.hid e5'
        have Z2 := Lib.hid z2
        have Z3 := Lib.hid z3
        have Z4 := Lib.hid z4
        have Z5 := Lib.hid z5
        have Z6 := Lib.hid z6
        have B4 := Lib.hid b4
        clear r1 r2 r3 r4 r5 v2 v3 v4 v5 v6 b3 hW8 e1 e2 e3 e4 e5' z2 z3 z4 z5 z6 b4
        refine wp_region_T (S := fun L W => (W.cell? ⟨w2.heap.size, 0, none⟩ = some (.bool false) ∧ W.cell? ⟨w2.heap.size, 1, none⟩ = some (.slice A1 k1 c1)) ∧ (L.getD 7 true = false → W.cell? ⟨gb, 0, none⟩ = some (.bool db) ∧ W.cell? ⟨gb, 1, none⟩ = some (.slice Ab nb cb)) ∧ (L.getD 8 true = false → W.cell? ⟨gn, 0, none⟩ = some (.bool dn) ∧ W.cell? ⟨gn, 1, none⟩ = some (.slice An nn cn))) (by kernel_rfl) ?_
        refine wpAnyT_take 0 8 (fun W => W.cell? ⟨gn, 0, none⟩ = some (.bool dn) ∧ W.cell? ⟨gn, 1, none⟩ = some (.slice An nn cn)) (v := .agg #[.bool dn, .slice An nn cn]) rfl rfl (by kernel_rfl) (by decide) (by kernel_rfl) (by kernel_rfl) (by kernel_rfl) (by kernel_rfl) (fun _ _ _ h => h) (fun L W => by rw [getD_set_ne true (show (0 : Nat) ≠ 8 by decide), getD_set_ne true (show (0 : Nat) ≠ 7 by decide)]) (fun L W hl h => h.2.2 hl) ⟨⟨E5.out.c0, E5.out.c1⟩, fun _ => ⟨E3.out.c0, E3.out.c1⟩, fun _ => ⟨E4.out.c0, E4.out.c1⟩⟩ rfl (fun W hW => by obtain ⟨y0, y1⟩ := hW; go_simp) (fun hS => ?_)
        try simp only [Act.put, List.setIfInBounds_toArray, List.set_cons_zero, List.set_cons_succ]
        refine wpAnyT_take 1 7 (fun W => W.cell? ⟨gb, 0, none⟩ = some (.bool db) ∧ W.cell? ⟨gb, 1, none⟩ = some (.slice Ab nb cb)) (v := .agg #[.bool db, .slice Ab nb cb]) rfl rfl (by kernel_rfl) (by decide) (by kernel_rfl) (by kernel_rfl) (by kernel_rfl) (by kernel_rfl) (fun _ _ _ h => h) (fun L W => by rw [getD_set_ne true (show (1 : Nat) ≠ 8 by decide), getD_set_ne true (show (1 : Nat) ≠ 7 by decide)]) (fun L W hl h => h.2.1 hl) hS rfl (fun W hW => by obtain ⟨y0, y1⟩ := hW; go_simp) (fun hS => ?_)
        try simp only [Act.put, List.setIfInBounds_toArray, List.set_cons_zero, List.set_cons_succ]
        refine wpAnyT_take 2 8 (fun W => W.cell? ⟨w2.heap.size, 0, none⟩ = some (.bool false) ∧ W.cell? ⟨w2.heap.size, 1, none⟩ = some (.slice A1 k1 c1)) (v := .agg #[.bool false, .slice A1 k1 c1]) rfl rfl (by kernel_rfl) (by decide) (by kernel_rfl) (by kernel_rfl) (by kernel_rfl) (by kernel_rfl) (fun _ _ _ h => h) (fun L W => by rw [getD_set_ne true (show (2 : Nat) ≠ 8 by decide), getD_set_ne true (show (2 : Nat) ≠ 7 by decide)]) (fun L W hl h => h.1) hS rfl (fun W hW => by obtain ⟨y0, y1⟩ := hW; go_simp) (fun hS => ?_)
        try simp only [Act.put, List.setIfInBounds_toArray, List.set_cons_zero, List.set_cons_succ]
        refine wpAnyT_take 3 8 (fun W => W.cell? ⟨gn, 0, none⟩ = some (.bool dn) ∧ W.cell? ⟨gn, 1, none⟩ = some (.slice An nn cn)) (v := .agg #[.bool dn, .slice An nn cn]) rfl rfl (by kernel_rfl) (by decide) (by kernel_rfl) (by kernel_rfl) (by kernel_rfl) (by kernel_rfl) (fun _ _ _ h => h) (fun L W => by rw [getD_set_ne true (show (3 : Nat) ≠ 8 by decide), getD_set_ne true (show (3 : Nat) ≠ 7 by decide)]) (fun L W hl h => h.2.2 hl) hS rfl (fun W hW => by obtain ⟨y0, y1⟩ := hW; go_simp) (fun hS => ?_)
        try simp only [Act.put, List.setIfInBounds_toArray, List.set_cons_zero, List.set_cons_succ]
        clear hS
        refine wpAnyT_one 4 (by kernel_rfl) rfl (fun K' hK => ?_)
        go_simp
        go_at_call 85
        refine (product_shape _ _ (R / Z) Q 456 456 W8.drew (mag_numV Z5.out) Z4.out (by omega) (by omega)).mono ?_
        rintro e w5 ⟨dp, Ap, np, cp, rfl, hp, hB5⟩
        dsimp only
        have i1 := E1.out.below hB5
        have i2 := E2.out.below hB5
        have i3 := E3.out.below hB5
        have i4 := E4.out.below hB5
        have i5 := E5.out.below hB5
        have j2 := Z2.out.below hB5
        have j3 := Z3.out.below hB5
        have j4 := Z4.out.below hB5
        have j6 := Z6.out.below hB5
        have b5 := B4.out.trans (hB5.mono B4.out.size)
        have HNP := Lib.hid hp.neg
        clear hp hB5 E1 E2 E3 E4 E5 Z2 Z3 Z4 Z5 Z6 B4
        refine hK.out _ _ ⟨⟨i5.c0, i5.c1⟩, fun _ => ⟨i3.c0, i3.c1⟩, fun _ => ⟨i4.c0, i4.c1⟩⟩ ?_
        try simp only [Act.put, List.setIfInBounds_toArray, List.set_cons_zero, List.set_cons_succ]
        clear hK K'
        refine wpAnyT_one 5 (by kernel_rfl) rfl (fun K' hK => ?_)
        go_simp
        go_at_call 83
        refine (negated_walk dp Ap np cp w5).mono ?_
        rintro e w6 ⟨rfl, hB6⟩
        dsimp only
        have k1 := i1.below hB6
        have k2' := i2.below hB6
        have k3 := i3.below hB6
        have k4 := i4.below hB6
        have k5 := i5.below hB6
        have m2 := j2.below hB6
        have m3 := j3.below hB6
        have m4 := j4.below hB6
        have m6 := j6.below hB6
        have m7 := HNP.out.below hB6
        have b6 := b5.trans (hB6.mono b5.size)
        clear i1 i2 i3 i4 i5 j2 j3 j4 j6 b5 hB6 HNP
        refine hK.out _ _ ⟨⟨k5.c0, k5.c1⟩, fun _ => ⟨k3.c0, k3.c1⟩, fun _ => ⟨k4.c0, k4.c1⟩⟩ ?_
        try simp only [Act.put, List.setIfInBounds_toArray, List.set_cons_zero, List.set_cons_succ]
        clear hK K'
        refine wpAnyT_one 6 (by kernel_rfl) rfl (fun K' hK => ?_)
        go_simp
        go_at_call 81
        refine (sum_shape _ _ P (-(R / Z * Q)) 912 w6 (m3.more (by omega)) m7 (by omega)).mono ?_
        rintro e w9 ⟨ds, Au, nu, cu, rfl, hsu, hB9⟩
        dsimp only
        have i1 := k1.below hB9
        have i2 := k2'.below hB9
        have i3 := k3.below hB9
        have i4 := k4.below hB9
        have i5 := k5.below hB9
        have j2 := m2.below hB9
        have j4 := m4.below hB9
        have j6 := m6.below hB9
        have b9 := b6.trans (hB9.mono b6.size)
        clear k1 k2' k3 k4 k5 m2 m3 m4 m6 m7 b6 hB9
        refine hK.out _ _ ⟨⟨i5.c0, i5.c1⟩, fun _ => ⟨i3.c0, i3.c1⟩, fun _ => ⟨i4.c0, i4.c1⟩⟩ ?_
        try simp only [Act.put, List.setIfInBounds_toArray, List.set_cons_zero, List.set_cons_succ]
        clear hK K'
        have y0 := i3.c0
        have y1 := i3.c1
        have y2 := i3.f0
        have y3 := i3.f1
        refine wpAnyT_one 7 (by kernel_rfl) rfl (fun K' hK => ?_)
        go_simp
        have q1 := i1.far d1 (.bool dn) (.slice An nn cn)
        have q2 := i2.far d3 (.bool dn) (.slice An nn cn)
        have q3 := i3.put dn An nn cn
        have q4 := i4.far d5 (.bool dn) (.slice An nn cn)
        have q5 := i5.far f5 (.bool dn) (.slice An nn cn)
        have u2 := i3.set_mag j2 dn An nn cn
        have u4 := i3.set_num j4 dn An nn cn
        have u6 := i3.set_mag j6 dn An nn cn
        have u7 := i3.set_num hsu dn An nn cn
        have b10 := below_set2 b9 l7 (.bool dn) (.slice An nn cn)
        refine hK.out _ _ ⟨⟨q5.c0, q5.c1⟩, fun h => absurd (show true = false from h) (by decide), fun _ => ⟨q4.c0, q4.c1⟩⟩ ?_
        clear hK K' i1 i2 i3 i4 i5 j2 j4 j6 b9 hsu y0 y1 y2 y3
        obtain ⟨W10, hW10⟩ : ∃ W10, (w9.setCell ⟨gb, 0, none⟩ (.bool dn)).setCell ⟨gb, 1, none⟩ (.slice An nn cn) = W10 := ⟨_, rfl⟩
        rw [hW10] at q1 q2 q3 q4 q5 u2 u4 u6 u7 b10 ⊢
        clear hW10
        have y0 := q4.c0
        have y1 := q4.c1
        have y2 := q4.f0
        have y3 := q4.f1
        refine wpAnyT_one 8 (by kernel_rfl) rfl (fun K' hK => ?_)
        go_simp
        refine hK.out _ _ ⟨⟨(q5.far f6 (.bool ds) (.slice Au nu cu)).c0, (q5.far f6 (.bool ds) (.slice Au nu cu)).c1⟩, fun h => absurd (show true = false from h) (by decide), fun h => absurd (show true = false from h) (by decide)⟩ ?_
        clear hK K'
        refine wpAnyT_done (by kernel_rfl) ?_ _
        have r1 := q1.far d2' (.bool ds) (.slice Au nu cu)
        have r2 := q2.far d4 (.bool ds) (.slice Au nu cu)
        have r3 := q3.far (Ne.symm d5) (.bool ds) (.slice Au nu cu)
        have r4 := q4.put ds Au nu cu
        have v2 := q4.set_mag u2 ds Au nu cu
        have v4 := q4.set_num u4 ds Au nu cu
        have v6 := q4.set_mag u6 ds Au nu cu
        have v7 := q4.set_num u7 ds Au nu cu
        have b11 := below_set2 b10 l8 (.bool ds) (.slice Au nu cu)
        clear q1 q2 q3 q4 q5 u2 u4 u6 u7 b10 y0 y1 y2 y3
        go_wp2_with fail
        have hst := bezOK_step OK.out hR0 hS1
        obtain ⟨k', hk'⟩ : ∃ k', k = k' + 1 := ⟨k - 1, by have := HK.out; omega⟩
        have hlt := Int.emod_lt_of_pos R hS1
        have hnn := Int.emod_nonneg R (show Z ≠ 0 by omega)
        have hFF := HF.out
        rw [hk', bezL, if_neg (show ¬ Z = 0 by omega)] at hFF
        refine ⟨Lib.hid ⟨Z, R % Z, ⟨k', Q, P + -(R / Z * Q), _, _, _, _, _, _, _, _, _, _, _, _, _, _, r1, r2, r3, r4, v2, v6, v4, v7.le (HM2.out.below b11) (by have := hst.2.2; omega), hst, by have := HK.out; omega, hFF, by rw [gcdI_step hR0 hS1]; exact HGC.out⟩, b11⟩, ?_⟩
        rw [HMS.out, r2.c1]
        show magN _ (.slice A2 k2 c2') < _
        rw [magN_of v6]
        omega
set_option maxRecDepth 100000 in
set_option maxHeartbeats 2000000 in
theorem bezout_err (a b : ByteArray) (w : World) (c : Int) (hc : chk2I a b = c) (h0 : c ≠ 0) (ha : a.size ≤ 9223372036854775807) (hb : b.size ≤ 9223372036854775807) :
    Calls Tryz.prog 32 #[.string a, .string b] w fun e w' => e = .returned (.tuple #[.string ⟨#[]⟩, .string ⟨#[]⟩, .string ⟨#[]⟩, .int .i64 c]) ∧ Below w.heap.size w w' := by
  have HP : Hid (∀ w : World, Calls Tryz.prog 79 #[.string a, .string b] w fun e w' => ∃ d A n c1 d2 B m c2, e = .returned (.tuple #[.agg #[.bool d, .slice A n c1], .agg #[.bool d2, .slice B m c2], .int .i64 c]) ∧ Below w.heap.size w w') := Lib.hid (fun w => pair_err a b w c hc h0 ha hb)
  have e1 : (c != 0) = true := by simpa using h0
  go_enter Tryz.func32, Tryz.ntmps32
  clear hc ha hb
  go_wp2_with (go_at_call 79; refine (HP.out _).mono ?_; rintro e w1 ⟨d, A, n, c1, d2, B, m, c2, rfl, hB⟩; have HB := Lib.hid hB; clear hB HP)
  (try simp only [Exit.inBlock, Exit.then])
  refine bodyPost_ret (results_tmp4 rfl _ _ _) rfl ?_
  exact ⟨rfl, HB.out.trans ((((Below.refl _ w1).alloc (Nat.le_refl _) _).alloc (by simp) _).mono HB.out.size)⟩
set_option maxRecDepth 100000 in
set_option maxHeartbeats 4000000 in
theorem bezout_zero (a b : ByteArray) (w : World) (ha0 : chkI a = 0) (hb0 : chkI b = 0) (ha : a.size ≤ 9223372036854775807) (hb : b.size ≤ 9223372036854775807) (hz : ivalB b = 0) (hG : GW w) :
    Calls Tryz.prog 32 #[.string a, .string b] w fun e w' => e = .returned (.tuple #[.string (text ((ivalB a).natAbs : Int)), .string (text (sgnI (ivalB a))), .string ⟨#[48]⟩, .int .i64 0]) ∧ Below w.heap.size w w' := by
  have HP := Lib.hid (fun w => pair_shape a b w ha0 hb0 ha hb)
  have HG := Lib.hid hG
  have HZ := Lib.hid hz
  go_enter Tryz.func32, Tryz.ntmps32
  clear ha0 hb0 ha hb hG hz
  go_wp2_with fail
  refine (HP.out _).mono ?_
  rintro e w1 ⟨d, A, n, c, d2, B, m, c2, rfl, hn1, hn2, hB⟩
  obtain rfl : m = 0 := (mag_zero (numV_mag hn2)).1 (by rw [HZ.out]; rfl)
  have HN1 := Lib.hid hn1
  have HB := Lib.hid hB
  have hba : Below w1.heap.size w1 ((w1.alloc (.cells #[.bool d, .slice A n c] 81)).alloc (.cells #[.bool d2, .slice B 0 c2] 81)) := ((Below.refl _ w1).alloc (Nat.le_refl _) _).alloc (by simp) _
  have HBA := Lib.hid hba
  have hx : NB ((w1.alloc (.cells #[.bool d, .slice A n c] 81)).alloc (.cells #[.bool d2, .slice B 0 c2] 81)) w1.heap.size d A n c := (NB.new w1 d A n c).alloc _
  have HX := Lib.hid hx
  have hsr := sgn_fits (ivalB a)
  clear hn1 hn2 hB hba HP HZ hx
  go_wp2_with fail
  refine (sign_num _ _ 456 _ (HN1.out.below HBA.out)).mono ?_
  rintro e w2 ⟨rfl, hB2⟩
  have x1 := (HX.out.below hB2).c1
  have HB2 := Lib.hid (HBA.out.trans (hB2.mono HBA.out.size))
  clear hB2
  go_wp2_with fail
  refine (text_num _ _ 456 _ (mag_numV ((numV_mag HN1.out).below HB2.out)) (by omega) (HG.out.below (HB.out.trans (HB2.out.mono HB.out.size)))).mono ?_
  rintro e w3 ⟨rfl, hB3⟩
  have HB3 := Lib.hid (HB2.out.trans (hB3.mono HB2.out.size))
  clear hB3 x1
  go_wp2_with fail
  refine (of_walk (sgnI (ivalB a)) hsr.1 hsr.2 _ (HG.out.below (HB.out.trans (HB3.out.mono HB.out.size)))).mono ?_
  rintro e w4 ⟨rfl, hB4⟩
  go_wp2_with fail
  (try simp only [Exit.inBlock, Exit.then])
  refine bodyPost_ret (results_tmp4 rfl _ _ _) rfl ?_
  exact ⟨rfl, HB.out.trans ((HB3.out.trans (hB4.mono HB3.out.size)).mono HB.out.size)⟩
end Go.Proofs.YtignanmmgaldeaaGreatDoor
