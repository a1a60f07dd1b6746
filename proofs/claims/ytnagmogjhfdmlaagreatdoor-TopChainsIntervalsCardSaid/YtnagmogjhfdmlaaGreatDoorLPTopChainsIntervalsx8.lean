/- Lemmas. -/
import Derived.Test.YtnagmogjhfdmlaaGreatDoorLPTopChainsIntervalsx0
import Derived.Test.YtnagmogjhfdmlaaGreatDoorLPTopChainsIntervalsx1
import Derived.Test.YtnagmogjhfdmlaaGreatDoorLPTopChainsIntervalsx2
import Derived.Test.YtnagmogjhfdmlaaGreatDoorLPTopChainsIntervalsx3
import Derived.Test.YtnagmogjhfdmlaaGreatDoorLPTopChainsIntervalsx7
import Derived.Test.YtnagmogjhfdmlaaGreatDoorLShort
import Derived.Test.YtnagmogjhfdmlaaGreatDoorLShort3
import Derived.Test.YtnagmogjhfdmlaaGreatDoorLShort4
namespace Go.Proofs.YtnagmogjhfdmlaaGreatDoor.PTopChainsIntervals
open Go.RowKit Go.Proofs.YtnagmogjhfdmlaaGreatDoorW.PrintWords Go.Proofs.YtnagmogjhfdmlaaGreatDoorW.PrintLast Go.Proofs.YtnagmogjhfdmlaaGreatDoorW.PrintMore
attribute [local go_sem] max2_int -- for this text's walks alone
set_option linter.unusedVariables false
set_option linter.unusedSimpArgs false
attribute [local go_sem high] eqA28
def surveyortop_tryChains.l0 : Nat → Int → List ByteArray → Int → Int → Bool → ByteArray → ByteArray → Option (Bool)
  | 0, _, _, _, _, _, _, _ => none
  | k + 1, x2, x8, x9, x10, x264000, x264001, x264002 => if x10 < x9 then (if 0 ≤ x10 then (if x10 < (x8.length : Int) then ((interval_Widen.f k x264000 x264001 x264002 false (rdOf ByteArray.empty x8 x10) (rdOf ByteArray.empty x8 x10) (([(⟨#[49]⟩ : ByteArray)] : List ByteArray))).bind fun bt271 => (if bt271.2.2.2 = 0 then (if (!(bt271.1 == x264000) || (!(bt271.2.1.toList == x264001.toList) || (!(bt271.2.2.1.toList == x264002.toList)))) = true then (surveyortop_tryChains.l0 k (wrap64 (x2 + 1)) x8 x9 (wrap64 (x10 + 1)) bt271.1 bt271.2.1 bt271.2.2.1) else (surveyortop_tryChains.l0 k x2 x8 x9 (wrap64 (x10 + 1)) bt271.1 bt271.2.1 bt271.2.2.1)) else (some false))) else (none)) else (none)) else (if x2 = 2 then (some (!x264000 && (x264001.toList == ([48] : List UInt8) && (x264002.toList == ([] : List UInt8))))) else (some false))
def surveyortop_tryChains.f (k : Nat)  : Option (Bool) := (some (([(⟨#[49]⟩ : ByteArray), (⟨#[50]⟩ : ByteArray), (⟨#[51]⟩ : ByteArray)] : List ByteArray) : List ByteArray)).bind fun y264 => (surveyortop_tryChains.l0 k 0 y264 (y264.length : Int) 0 false (⟨#[48]⟩ : ByteArray) (⟨#[48]⟩ : ByteArray))
theorem surveyortop_tryChains.mono_l : ∀ k, (∀ y0 y1 y2 y3 y4 y5 y6, LeO (surveyortop_tryChains.l0 k y0 y1 y2 y3 y4 y5 y6) (surveyortop_tryChains.l0 (k + 1) y0 y1 y2 y3 y4 y5 y6))
  | 0 => fun _ _ _ _ _ _ _ r h => by simp [surveyortop_tryChains.l0] at h
  | k + 1 => by
    have ih0 := surveyortop_tryChains.mono_l k
    · intro y0 y1 y2 y3 y4 y5 y6
      unfold surveyortop_tryChains.l0
      repeat' first
      | (with_reducible exact ih0 _ _ _ _ _ _ _)
      | (with_reducible exact interval_Widen.mono _ _ _ _ _ _ _ _)
      | (with_reducible exact LeO.refl _)
      | (with_reducible exact LeO.none _)
      | (with_reducible refine LeO.ite ?_ ?_)
      | (with_reducible refine LeO.bind ?_ (fun _ => ?_))
      | exact ih0 _ _ _ _ _ _ _
      | exact interval_Widen.mono _ _ _ _ _ _ _ _
      | exact LeO.none _
      | refine LeO.ite ?_ ?_
      | refine LeO.bind ?_ (fun _ => ?_)
theorem surveyortop_tryChains.mono : ∀ k, LeO (surveyortop_tryChains.f k ) (surveyortop_tryChains.f (k + 1) ) := by
  intro  k
  have ih0 := surveyortop_tryChains.mono_l k
  unfold surveyortop_tryChains.f
  repeat' first
      | (with_reducible exact ih0 _ _ _ _ _ _ _)
      | (with_reducible exact interval_Widen.mono _ _ _ _ _ _ _ _)
      | (with_reducible exact LeO.refl _)
      | (with_reducible exact LeO.none _)
      | (with_reducible refine LeO.ite ?_ ?_)
      | (with_reducible refine LeO.bind ?_ (fun _ => ?_))
      | exact ih0 _ _ _ _ _ _ _
      | exact interval_Widen.mono _ _ _ _ _ _ _ _
      | exact LeO.none _
      | refine LeO.ite ?_ ?_
      | refine LeO.bind ?_ (fun _ => ?_)
set_option maxHeartbeats 8000000 in
set_option maxRecDepth 100000 in
theorem surveyortop_tryChains.calls (k : Nat)  (r : Bool) (w : World) (h : surveyortop_tryChains.f k  = some r) :
    Calls Tryz.prog 5 #[] w fun e w' => e = .returned (.bool r) ∧ Below w.heap.size w w' := by
  have hu28 := Tryz.underlying28
  have HB := Aside0.mk (Below.refl w.heap.size w)
  have H : ((some (([(⟨#[49]⟩ : ByteArray), (⟨#[50]⟩ : ByteArray), (⟨#[51]⟩ : ByteArray)] : List ByteArray) : List ByteArray)).bind fun y264 => (surveyortop_tryChains.l0 k 0 y264 (y264.length : Int) 0 false (⟨#[48]⟩ : ByteArray) (⟨#[48]⟩ : ByteArray))) = some r := h
  clear h
  obtain ⟨y264, hy264⟩ : ∃ y_ : List ByteArray, y_ = (([(⟨#[49]⟩ : ByteArray), (⟨#[50]⟩ : ByteArray), (⟨#[51]⟩ : ByteArray)] : List ByteArray)) := ⟨_, rfl⟩
  replace H : (surveyortop_tryChains.l0 k 0 y264 (y264.length : Int) 0 false (⟨#[48]⟩ : ByteArray) (⟨#[48]⟩ : ByteArray)) = some r := by first | (rw [hy264]; with_reducible exact H) | (have H2_ := (Option.bind_some _ _).symm.trans H; rw [hy264]; with_reducible exact H2_) | (have H2_ := (Option.bind_some _ _).symm.trans H; with_reducible exact H2_) | with_reducible exact H | (rw [hy264]; exact H) | exact H
  have Ny264 := Aside0.mk hy264
  clear hy264
  have H' := Aside0.mk H
  clear H
  go_enter Tryz.func5, Tryz.ntmps5
  go_wp2_with (first | ((with_reducible refine gate_dst (N := 1) rfl ?_); refine bx_ 1 28 #[.bool false, .string (⟨#[]⟩ : ByteArray), .string (⟨#[]⟩ : ByteArray)] (h := ?_); intro gb263 hg w1 hbox hb; have BK263 := Aside0.mk (hbox); have GW263 := pkG HB hg; have GE263 := GW263; replace HB := pkB HB hb; clear hb hbox hg; obtain ⟨⟨hcz2_0, hcz2_1, hcz2_2⟩, hfz2_0, hfz2_1, hfz2_2⟩ := pk3 BK263) | ((with_reducible refine gate_dst (N := 8) rfl ?_); refine Kd.R_lit Kd.string _ 26 ?hg (N := 8) ?hd (xs := ([(⟨#[49]⟩ : ByteArray), (⟨#[50]⟩ : ByteArray), (⟨#[51]⟩ : ByteArray)] : List ByteArray)) (inner := [.string (⟨#[49]⟩ : ByteArray), .string (⟨#[50]⟩ : ByteArray), .string (⟨#[51]⟩ : ByteArray)]) (ok := fun _ => True) (okp := fun _ => True) ?hr ?hp (fun _ hk => hk) trivial (Below.refl _ _) (Nat.le_refl _) (by simp) ?_; (case hd => rfl); (case hg => rfl); (case hr => first | (go_simp; done) | (go_simp; rfl)); (case hp => exact (Reps.one (show Kd.M Kd.string _ _ _ (⟨#[49]⟩ : ByteArray) [.string (⟨#[49]⟩ : ByteArray)] from rfl) (Reps.one (show Kd.M Kd.string _ _ _ (⟨#[50]⟩ : ByteArray) [.string (⟨#[50]⟩ : ByteArray)] from rfl) (Reps.one (show Kd.M Kd.string _ _ _ (⟨#[51]⟩ : ByteArray) [.string (⟨#[51]⟩ : ByteArray)] from rfl) (Reps.none _ _))))); intro v265 w3 ho4 hb hg_ hnew_; clear hg_ hnew_; (first | rw [← Ny264.out] at ho4 | (simp only [Int.reduceToNat] at ho4; rw [← Ny264.out] at ho4)); have HO266 := Aside0.mk (Kd.R_lower ho4 (below_size (pkL HB))); replace BK263 := Aside0.mk (blk_below (g := gb263) (o := .cells #[.bool false, .string (⟨#[48]⟩ : ByteArray), .string (⟨#[48]⟩ : ByteArray)] 28 (0, 0)) (pkS3 BK263) hb); replace HB := pkB HB hb; clear hb ho4; obtain ⟨Ao5, co5, eo5⟩ := Kd.R_slice HO266.out; subst eo5))
  go_loopg [2, 10] k (fun kq v2 v10 w' => ∃ (x2_1 : Int) (x10_1 : Int) (x264000_1 : Bool) (x264001_1 : ByteArray) (x264002_1 : ByteArray), v2 = .int .i64 x2_1 ∧ v10 = .int .i64 x10_1 ∧ Aside0 (surveyortop_tryChains.l0 kq x2_1 y264 (y264.length : Int) x10_1 x264000_1 x264001_1 x264002_1 = some r) ∧ Aside0 (kq ≤ k) ∧ Aside0 (Kd.R Kd.string 26 w' w.heap.size (fun _ => True) (.slice Ao5 y264.length co5) y264) ∧ Aside0 (w'.heap[gb263]? = some (.cells #[.bool x264000_1, .string x264001_1, .string x264002_1] 28 (0, 0))) ∧ Aside0 (Below w.heap.size w w'))
  case atStart => exact ⟨(0), (0), (false), ((⟨#[48]⟩ : ByteArray)), ((⟨#[48]⟩ : ByteArray)), (by first | rfl | (simp; done) | (simp [*]; done)), (by first | rfl | (simp; done) | (simp [*]; done)), H', ⟨Nat.le_refl _⟩, ⟨by (with_reducible repeat (first | apply Kd.R_alloc | apply Kd.R_drewN | apply Kd.R_drew)); exact HO266.out⟩, ⟨pkW BK263⟩, ⟨pkL HB⟩⟩
  case round =>
    clear H'
    try clear hcz2_0
    try clear hcz2_1
    try clear hcz2_2
    try clear hfz2_0
    try clear hfz2_1
    try clear hfz2_2
    obtain ⟨x2_1, x10_1, x264000_1, x264001_1, x264002_1, rfl, rfl, HA, HK1, HO_8, BK263, HB⟩ := hrel
    cases gk with
    | zero => exact absurd HA.out (by simp [surveyortop_tryChains.l0])
    | succ k1 =>
      have H := HA.out
      clear HA
      simp only [surveyortop_tryChains.l0] at H
      by_cases c6 : x10_1 < (y264.length : Int)
      · rw [if_pos c6] at H
        have c6b0 : decide (x10_1 < (y264.length : Int)) = true := decide_eq_true c6
        clear c6
        by_cases c7 : 0 ≤ x10_1
        · rw [if_pos c7] at H
          have c7b0 : decide (0 ≤ x10_1) = true := decide_eq_true c7
          clear c7
          by_cases c8 : x10_1 < (y264.length : Int)
          · rw [if_pos c8] at H
            have c8b0 : decide (x10_1 < (y264.length : Int)) = true := decide_eq_true c8
            clear c8
            obtain ⟨y268, hy268⟩ : ∃ y_ : List ByteArray, y_ = (([(⟨#[49]⟩ : ByteArray)] : List ByteArray)) := ⟨_, rfl⟩
            replace H : ((interval_Widen.f k1 x264000_1 x264001_1 x264002_1 false (rdOf ByteArray.empty y264 x10_1) (rdOf ByteArray.empty y264 x10_1) y268).bind fun bt271 => (if bt271.2.2.2 = 0 then (if (!(bt271.1 == x264000_1) || (!(bt271.2.1.toList == x264001_1.toList) || (!(bt271.2.2.1.toList == x264002_1.toList)))) = true then (surveyortop_tryChains.l0 k1 (wrap64 (x2_1 + 1)) y264 (y264.length : Int) (wrap64 (x10_1 + 1)) bt271.1 bt271.2.1 bt271.2.2.1) else (surveyortop_tryChains.l0 k1 x2_1 y264 (y264.length : Int) (wrap64 (x10_1 + 1)) bt271.1 bt271.2.1 bt271.2.2.1)) else (some false))) = some r := by first | (rw [hy268]; with_reducible exact H) | (have H2_ := (Option.bind_some _ _).symm.trans H; rw [hy268]; with_reducible exact H2_) | (have H2_ := (Option.bind_some _ _).symm.trans H; with_reducible exact H2_) | with_reducible exact H | (rw [hy268]; exact H) | exact H
            have Ny268 := Aside0.mk hy268
            clear hy268
            obtain ⟨⟨t271, t272, t273, t274⟩, A9, H⟩ := bi H
            try dsimp only at H
            by_cases c10 : t274 = 0
            · rw [if_pos c10] at H
              have c10b0 : (t274 == 0) = true := beq_iff_eq.mpr c10
              have c10b1 : (t274 != 0) = false := bne_eq_false_iff_eq.mpr c10
              clear c10
              by_cases c11 : (!(t271 == x264000_1) || (!(t272.toList == x264001_1.toList) || (!(t273.toList == x264002_1.toList)))) = true
              · rw [if_pos c11] at H
                have c11b0 : (!(t271 == x264000_1) || (!(t272.toList == x264001_1.toList) || (!(t273.toList == x264002_1.toList)))) = true := c11
                clear c11
                have H' := Aside0.mk H
                clear H
                have p267 : 0 ≤ (x10_1 : Int) := of_decide_eq_true (by first | (with_reducible assumption) | assumption)
                have q267 : x10_1 < (y264.length : Int) := of_decide_eq_true (by first | (with_reducible assumption) | assumption)
                obtain ⟨ad267, e267, hx267_0⟩ := Kd.at_string (Kd.R_reads' HO_8.out).2.2 x10_1 p267 q267
                cases e267
                replace p267 := eq_true p267
                replace q267 := eq_true q267
                obtain ⟨⟨hcz12_0, hcz12_1, hcz12_2⟩, hfz12_0, hfz12_1, hfz12_2⟩ := pk3 BK263
                go_wp2_with (first | ((with_reducible refine gate_dst (N := 19) rfl ?_); refine Kd.R_lit Kd.string _ 26 ?hg (N := 19) ?hd (xs := ([(⟨#[49]⟩ : ByteArray)] : List ByteArray)) (inner := [.string (⟨#[49]⟩ : ByteArray)]) (ok := fun _ => True) (okp := fun _ => True) ?hr ?hp (fun _ hk => hk) trivial (Below.refl _ _) (Nat.le_refl _) (by simp) ?_; (case hd => rfl); (case hg => rfl); (case hr => first | (go_simp; done) | (go_simp; rfl)); (case hp => exact (Reps.one (show Kd.M Kd.string _ _ _ (⟨#[49]⟩ : ByteArray) [.string (⟨#[49]⟩ : ByteArray)] from rfl) (Reps.none _ _))); intro v269 w13 ho14 hb hg_ hnew_; clear hg_ hnew_; (first | rw [← Ny268.out] at ho14 | (simp only [Int.reduceToNat] at ho14; rw [← Ny268.out] at ho14)); have n0_ := Aside0.mk (Kd.R_elder' (by (with_reducible repeat (first | apply Kd.R_alloc | apply Kd.R_drewN | apply Kd.R_drew)); exact HO_8.out) (Kd.R_base ho14) hb); have n1_ := Aside0.mk (Kd.R_lower (Kd.R_new' ho14 (Kd.R_lt (by (with_reducible repeat (first | apply Kd.R_alloc | apply Kd.R_drewN | apply Kd.R_drew)); exact HO_8.out))) (below_size (pkL HB))); have n2_ := pkK BK263 hb; have n3_ := pkB HB hb; clear HO_8; clear BK263; clear HB; have HO_8 := n0_; have HO270 := n1_; have BK263 := n2_; have HB := n3_; clear n0_ n1_ n2_ n3_; clear hb ho14; obtain ⟨Ao15, co15, eo15⟩ := Kd.R_slice HO270.out; subst eo15) | ((with_reducible refine gate_callee (f := 7) rfl ?_); refine gl_ 20 Tryz.func7 #[.agg #[.bool x264000_1, .string x264001_1, .string x264002_1], .agg #[.bool false, .string (rdOf ByteArray.empty y264 x10_1), .string (rdOf ByteArray.empty y264 x10_1)], .slice Ao15 y268.length co15] (h := ?_); (with_reducible refine (interval_Widen.calls k1 x264000_1 x264001_1 x264002_1 false (rdOf ByteArray.empty y264 x10_1) (rdOf ByteArray.empty y264 x10_1) _ _ y268 t271 t272 t273 t274 _ ?side1 ?side2 A9.out).mono ?_); (case side1 => repeat (first | exact (Kd.R_reads' HO270.out).2.2 | (with_reducible refine Kd.C_alloc ?_ _) | (with_reducible refine Kd.C_drewN ?_ _) | (with_reducible refine Kd.C_drew ?_))); (case side2 => exact (Kd.R_reads' HO270.out).2.1); rintro e w16 ⟨rfl, hb⟩; refine ⟨_, rfl, ?_⟩; replace HO_8 := Aside0.mk (Kd.R_below (by (with_reducible repeat (first | apply Kd.R_alloc | apply Kd.R_drewN | apply Kd.R_drew)); exact HO_8.out) hb); replace HO270 := Aside0.mk (Kd.R_below (by (with_reducible repeat (first | apply Kd.R_alloc | apply Kd.R_drewN | apply Kd.R_drew)); exact HO270.out) hb); replace BK263 := pkK BK263 hb; replace HB := pkB HB hb; try clear hb) | ((with_reducible refine gate_dst (N := 5) rfl ?_); refine bx_ 5 28 #[.bool false, .string (⟨#[]⟩ : ByteArray), .string (⟨#[]⟩ : ByteArray)] (h := ?_); intro gb275 hg w17 hbox hb; have n0_ := Aside0.mk (Kd.R_below (by (with_reducible repeat (first | apply Kd.R_alloc | apply Kd.R_drewN | apply Kd.R_drew)); exact HO_8.out) hb); have n1_ := Aside0.mk (Kd.R_below (by (with_reducible repeat (first | apply Kd.R_alloc | apply Kd.R_drewN | apply Kd.R_drew)); exact HO270.out) hb); have n2_ := pkK BK263 hb; have n3_ := pkB HB hb; have n4_ := Aside0.mk (hbox); have n5_ := pkG HB hg; have n6_ := pkG HB hg; have n7_ := pkN BK263 hg; have n8_ := pkM BK263 hg; clear HO_8; clear HO270; clear BK263; clear HB; have HO_8 := n0_; have HO270 := n1_; have BK263 := n2_; have HB := n3_; have BK275 := n4_; have GW275 := n5_; have GE275 := n6_; have NB263_275 := n7_; have NB275_263 := n8_; clear n0_ n1_ n2_ n3_ n4_ n5_ n6_ n7_ n8_; clear hb hbox hg; have hnb18 := NB275_263.out; have hnc18 := NB263_275.out; obtain ⟨⟨hcz19_0, hcz19_1, hcz19_2⟩, hfz19_0, hfz19_1, hfz19_2⟩ := pk3 BK275; obtain ⟨⟨hcz20_0, hcz20_1, hcz20_2⟩, hfz20_0, hfz20_1, hfz20_2⟩ := pk3 BK263))
                go_roundg k1
                case measure => have := HK1.out; omega
                case rel => exact ⟨(wrap64 (x2_1 + 1)), (wrap64 (x10_1 + 1)), (t271), (t272), (t273), (by first | rfl | (simp; done) | (simp [*]; done)), (by first | rfl | (simp; done) | (simp [*]; done)), H', ⟨by have := HK1.out; omega⟩, ⟨by (with_reducible repeat (first | apply Kd.R_alloc | apply Kd.R_drewN | apply Kd.R_drew)); exact Kd.R_mono (Kd.R_far (p := ⟨gb263, 2, none⟩) (Kd.R_far (p := ⟨gb263, 1, none⟩) (Kd.R_far (p := ⟨gb263, 0, none⟩) (Kd.R_far (p := ⟨gb275, 2, none⟩) (Kd.R_far (p := ⟨gb275, 1, none⟩) (Kd.R_far (p := ⟨gb275, 0, none⟩) (Kd.R_types (Kd.R_types HO_8.out BK275.out (by decide)) BK263.out (by decide)) (fun _ hk => hk.1.2) (.bool t271)) (fun _ hk => hk.1.2) (.string t272)) (fun _ hk => hk.1.2) (.string t273)) (fun _ hk => hk.2) (.bool t271)) (fun _ hk => hk.2) (.string t272)) (fun _ hk => hk.2) (.string t273)) (fun _ hk => trivial)⟩, ⟨by (with_reducible repeat (first | refine blk_drewN ?_ _ | refine blk_drew ?_ | refine blk_alloc ?_ _)); refine blk_put (cs := #[.bool t271, .string t272, .string x264002_1]) ?_ 2 _ rfl; (with_reducible repeat (first | refine blk_drewN ?_ _ | refine blk_drew ?_ | refine blk_alloc ?_ _)); refine blk_put (cs := #[.bool t271, .string x264001_1, .string x264002_1]) ?_ 1 _ rfl; (with_reducible repeat (first | refine blk_drewN ?_ _ | refine blk_drew ?_ | refine blk_alloc ?_ _)); refine blk_put (cs := #[.bool x264000_1, .string x264001_1, .string x264002_1]) ?_ 0 _ rfl; (with_reducible repeat (first | refine blk_drewN ?_ _ | refine blk_drew ?_ | refine blk_alloc ?_ _)); refine blk_far ?_ NB263_275.out _; (with_reducible repeat (first | refine blk_drewN ?_ _ | refine blk_drew ?_ | refine blk_alloc ?_ _)); refine blk_far ?_ NB263_275.out _; (with_reducible repeat (first | refine blk_drewN ?_ _ | refine blk_drew ?_ | refine blk_alloc ?_ _)); refine blk_far ?_ NB263_275.out _; (with_reducible repeat (first | refine blk_drewN ?_ _ | refine blk_drew ?_ | refine blk_alloc ?_ _)); exact BK263.out⟩, ⟨pkL HB⟩⟩
              · rw [if_neg c11] at H
                have c11b0 : (!(t271 == x264000_1) || (!(t272.toList == x264001_1.toList) || (!(t273.toList == x264002_1.toList)))) = false := by simpa using c11
                clear c11
                have H' := Aside0.mk H
                clear H
                have p267 : 0 ≤ (x10_1 : Int) := of_decide_eq_true (by first | (with_reducible assumption) | assumption)
                have q267 : x10_1 < (y264.length : Int) := of_decide_eq_true (by first | (with_reducible assumption) | assumption)
                obtain ⟨ad267, e267, hx267_0⟩ := Kd.at_string (Kd.R_reads' HO_8.out).2.2 x10_1 p267 q267
                cases e267
                replace p267 := eq_true p267
                replace q267 := eq_true q267
                obtain ⟨⟨hcz21_0, hcz21_1, hcz21_2⟩, hfz21_0, hfz21_1, hfz21_2⟩ := pk3 BK263
                go_wp2_with (first | ((with_reducible refine gate_dst (N := 19) rfl ?_); refine Kd.R_lit Kd.string _ 26 ?hg (N := 19) ?hd (xs := ([(⟨#[49]⟩ : ByteArray)] : List ByteArray)) (inner := [.string (⟨#[49]⟩ : ByteArray)]) (ok := fun _ => True) (okp := fun _ => True) ?hr ?hp (fun _ hk => hk) trivial (Below.refl _ _) (Nat.le_refl _) (by simp) ?_; (case hd => rfl); (case hg => rfl); (case hr => first | (go_simp; done) | (go_simp; rfl)); (case hp => exact (Reps.one (show Kd.M Kd.string _ _ _ (⟨#[49]⟩ : ByteArray) [.string (⟨#[49]⟩ : ByteArray)] from rfl) (Reps.none _ _))); intro v269 w22 ho23 hb hg_ hnew_; clear hg_ hnew_; (first | rw [← Ny268.out] at ho23 | (simp only [Int.reduceToNat] at ho23; rw [← Ny268.out] at ho23)); have n0_ := Aside0.mk (Kd.R_elder' (by (with_reducible repeat (first | apply Kd.R_alloc | apply Kd.R_drewN | apply Kd.R_drew)); exact HO_8.out) (Kd.R_base ho23) hb); have n1_ := Aside0.mk (Kd.R_lower (Kd.R_new' ho23 (Kd.R_lt (by (with_reducible repeat (first | apply Kd.R_alloc | apply Kd.R_drewN | apply Kd.R_drew)); exact HO_8.out))) (below_size (pkL HB))); have n2_ := pkK BK263 hb; have n3_ := pkB HB hb; clear HO_8; clear BK263; clear HB; have HO_8 := n0_; have HO270 := n1_; have BK263 := n2_; have HB := n3_; clear n0_ n1_ n2_ n3_; clear hb ho23; obtain ⟨Ao24, co24, eo24⟩ := Kd.R_slice HO270.out; subst eo24) | ((with_reducible refine gate_callee (f := 7) rfl ?_); refine gl_ 20 Tryz.func7 #[.agg #[.bool x264000_1, .string x264001_1, .string x264002_1], .agg #[.bool false, .string (rdOf ByteArray.empty y264 x10_1), .string (rdOf ByteArray.empty y264 x10_1)], .slice Ao24 y268.length co24] (h := ?_); (with_reducible refine (interval_Widen.calls k1 x264000_1 x264001_1 x264002_1 false (rdOf ByteArray.empty y264 x10_1) (rdOf ByteArray.empty y264 x10_1) _ _ y268 t271 t272 t273 t274 _ ?side1 ?side2 A9.out).mono ?_); (case side1 => repeat (first | exact (Kd.R_reads' HO270.out).2.2 | (with_reducible refine Kd.C_alloc ?_ _) | (with_reducible refine Kd.C_drewN ?_ _) | (with_reducible refine Kd.C_drew ?_))); (case side2 => exact (Kd.R_reads' HO270.out).2.1); rintro e w25 ⟨rfl, hb⟩; refine ⟨_, rfl, ?_⟩; replace HO_8 := Aside0.mk (Kd.R_below (by (with_reducible repeat (first | apply Kd.R_alloc | apply Kd.R_drewN | apply Kd.R_drew)); exact HO_8.out) hb); replace HO270 := Aside0.mk (Kd.R_below (by (with_reducible repeat (first | apply Kd.R_alloc | apply Kd.R_drewN | apply Kd.R_drew)); exact HO270.out) hb); replace BK263 := pkK BK263 hb; replace HB := pkB HB hb; try clear hb) | ((with_reducible refine gate_dst (N := 5) rfl ?_); refine bx_ 5 28 #[.bool false, .string (⟨#[]⟩ : ByteArray), .string (⟨#[]⟩ : ByteArray)] (h := ?_); intro gb275 hg w26 hbox hb; have n0_ := Aside0.mk (Kd.R_below (by (with_reducible repeat (first | apply Kd.R_alloc | apply Kd.R_drewN | apply Kd.R_drew)); exact HO_8.out) hb); have n1_ := Aside0.mk (Kd.R_below (by (with_reducible repeat (first | apply Kd.R_alloc | apply Kd.R_drewN | apply Kd.R_drew)); exact HO270.out) hb); have n2_ := pkK BK263 hb; have n3_ := pkB HB hb; have n4_ := Aside0.mk (hbox); have n5_ := pkG HB hg; have n6_ := pkG HB hg; have n7_ := pkN BK263 hg; have n8_ := pkM BK263 hg; clear HO_8; clear HO270; clear BK263; clear HB; have HO_8 := n0_; have HO270 := n1_; have BK263 := n2_; have HB := n3_; have BK275 := n4_; have GW275 := n5_; have GE275 := n6_; have NB263_275 := n7_; have NB275_263 := n8_; clear n0_ n1_ n2_ n3_ n4_ n5_ n6_ n7_ n8_; clear hb hbox hg; have hnb27 := NB275_263.out; have hnc27 := NB263_275.out; obtain ⟨⟨hcz28_0, hcz28_1, hcz28_2⟩, hfz28_0, hfz28_1, hfz28_2⟩ := pk3 BK275; obtain ⟨⟨hcz29_0, hcz29_1, hcz29_2⟩, hfz29_0, hfz29_1, hfz29_2⟩ := pk3 BK263))
                go_roundg k1
                case measure => have := HK1.out; omega
                case rel => exact ⟨(x2_1), (wrap64 (x10_1 + 1)), (t271), (t272), (t273), (by first | rfl | (simp; done) | (simp [*]; done)), (by first | rfl | (simp; done) | (simp [*]; done)), H', ⟨by have := HK1.out; omega⟩, ⟨by (with_reducible repeat (first | apply Kd.R_alloc | apply Kd.R_drewN | apply Kd.R_drew)); exact Kd.R_mono (Kd.R_far (p := ⟨gb263, 2, none⟩) (Kd.R_far (p := ⟨gb263, 1, none⟩) (Kd.R_far (p := ⟨gb263, 0, none⟩) (Kd.R_far (p := ⟨gb275, 2, none⟩) (Kd.R_far (p := ⟨gb275, 1, none⟩) (Kd.R_far (p := ⟨gb275, 0, none⟩) (Kd.R_types (Kd.R_types HO_8.out BK275.out (by decide)) BK263.out (by decide)) (fun _ hk => hk.1.2) (.bool t271)) (fun _ hk => hk.1.2) (.string t272)) (fun _ hk => hk.1.2) (.string t273)) (fun _ hk => hk.2) (.bool t271)) (fun _ hk => hk.2) (.string t272)) (fun _ hk => hk.2) (.string t273)) (fun _ hk => trivial)⟩, ⟨by (with_reducible repeat (first | refine blk_drewN ?_ _ | refine blk_drew ?_ | refine blk_alloc ?_ _)); refine blk_put (cs := #[.bool t271, .string t272, .string x264002_1]) ?_ 2 _ rfl; (with_reducible repeat (first | refine blk_drewN ?_ _ | refine blk_drew ?_ | refine blk_alloc ?_ _)); refine blk_put (cs := #[.bool t271, .string x264001_1, .string x264002_1]) ?_ 1 _ rfl; (with_reducible repeat (first | refine blk_drewN ?_ _ | refine blk_drew ?_ | refine blk_alloc ?_ _)); refine blk_put (cs := #[.bool x264000_1, .string x264001_1, .string x264002_1]) ?_ 0 _ rfl; (with_reducible repeat (first | refine blk_drewN ?_ _ | refine blk_drew ?_ | refine blk_alloc ?_ _)); refine blk_far ?_ NB263_275.out _; (with_reducible repeat (first | refine blk_drewN ?_ _ | refine blk_drew ?_ | refine blk_alloc ?_ _)); refine blk_far ?_ NB263_275.out _; (with_reducible repeat (first | refine blk_drewN ?_ _ | refine blk_drew ?_ | refine blk_alloc ?_ _)); refine blk_far ?_ NB263_275.out _; (with_reducible repeat (first | refine blk_drewN ?_ _ | refine blk_drew ?_ | refine blk_alloc ?_ _)); exact BK263.out⟩, ⟨pkL HB⟩⟩
            · rw [if_neg c10] at H
              have c10b0 : (t274 == 0) = false := beq_eq_false_iff_ne.mpr c10
              have c10b1 : (t274 != 0) = true := bne_iff_ne.mpr c10
              obtain rfl := Option.some.inj H
              have p267 : 0 ≤ (x10_1 : Int) := of_decide_eq_true (by first | (with_reducible assumption) | assumption)
              have q267 : x10_1 < (y264.length : Int) := of_decide_eq_true (by first | (with_reducible assumption) | assumption)
              obtain ⟨ad267, e267, hx267_0⟩ := Kd.at_string (Kd.R_reads' HO_8.out).2.2 x10_1 p267 q267
              cases e267
              replace p267 := eq_true p267
              replace q267 := eq_true q267
              obtain ⟨⟨hcz30_0, hcz30_1, hcz30_2⟩, hfz30_0, hfz30_1, hfz30_2⟩ := pk3 BK263
              go_wp2_with (first | ((with_reducible refine gate_dst (N := 19) rfl ?_); refine Kd.R_lit Kd.string _ 26 ?hg (N := 19) ?hd (xs := ([(⟨#[49]⟩ : ByteArray)] : List ByteArray)) (inner := [.string (⟨#[49]⟩ : ByteArray)]) (ok := fun _ => True) (okp := fun _ => True) ?hr ?hp (fun _ hk => hk) trivial (Below.refl _ _) (Nat.le_refl _) (by simp) ?_; (case hd => rfl); (case hg => rfl); (case hr => first | (go_simp; done) | (go_simp; rfl)); (case hp => exact (Reps.one (show Kd.M Kd.string _ _ _ (⟨#[49]⟩ : ByteArray) [.string (⟨#[49]⟩ : ByteArray)] from rfl) (Reps.none _ _))); intro v269 w31 ho32 hb hg_ hnew_; clear hg_ hnew_; (first | rw [← Ny268.out] at ho32 | (simp only [Int.reduceToNat] at ho32; rw [← Ny268.out] at ho32)); have n0_ := Aside0.mk (Kd.R_elder' (by (with_reducible repeat (first | apply Kd.R_alloc | apply Kd.R_drewN | apply Kd.R_drew)); exact HO_8.out) (Kd.R_base ho32) hb); have n1_ := Aside0.mk (Kd.R_lower (Kd.R_new' ho32 (Kd.R_lt (by (with_reducible repeat (first | apply Kd.R_alloc | apply Kd.R_drewN | apply Kd.R_drew)); exact HO_8.out))) (below_size (pkL HB))); have n2_ := pkK BK263 hb; have n3_ := pkB HB hb; clear HO_8; clear BK263; clear HB; have HO_8 := n0_; have HO270 := n1_; have BK263 := n2_; have HB := n3_; clear n0_ n1_ n2_ n3_; clear hb ho32; obtain ⟨Ao33, co33, eo33⟩ := Kd.R_slice HO270.out; subst eo33) | ((with_reducible refine gate_callee (f := 7) rfl ?_); refine gl_ 20 Tryz.func7 #[.agg #[.bool x264000_1, .string x264001_1, .string x264002_1], .agg #[.bool false, .string (rdOf ByteArray.empty y264 x10_1), .string (rdOf ByteArray.empty y264 x10_1)], .slice Ao33 y268.length co33] (h := ?_); (with_reducible refine (interval_Widen.calls k1 x264000_1 x264001_1 x264002_1 false (rdOf ByteArray.empty y264 x10_1) (rdOf ByteArray.empty y264 x10_1) _ _ y268 t271 t272 t273 t274 _ ?side1 ?side2 A9.out).mono ?_); (case side1 => repeat (first | exact (Kd.R_reads' HO270.out).2.2 | (with_reducible refine Kd.C_alloc ?_ _) | (with_reducible refine Kd.C_drewN ?_ _) | (with_reducible refine Kd.C_drew ?_))); (case side2 => exact (Kd.R_reads' HO270.out).2.1); rintro e w34 ⟨rfl, hb⟩; refine ⟨_, rfl, ?_⟩; replace HO_8 := Aside0.mk (Kd.R_below (by (with_reducible repeat (first | apply Kd.R_alloc | apply Kd.R_drewN | apply Kd.R_drew)); exact HO_8.out) hb); replace HO270 := Aside0.mk (Kd.R_below (by (with_reducible repeat (first | apply Kd.R_alloc | apply Kd.R_drewN | apply Kd.R_drew)); exact HO270.out) hb); replace BK263 := pkK BK263 hb; replace HB := pkB HB hb; try clear hb) | ((with_reducible refine gate_dst (N := 5) rfl ?_); refine bx_ 5 28 #[.bool false, .string (⟨#[]⟩ : ByteArray), .string (⟨#[]⟩ : ByteArray)] (h := ?_); intro gb275 hg w35 hbox hb; have n0_ := Aside0.mk (Kd.R_below (by (with_reducible repeat (first | apply Kd.R_alloc | apply Kd.R_drewN | apply Kd.R_drew)); exact HO_8.out) hb); have n1_ := Aside0.mk (Kd.R_below (by (with_reducible repeat (first | apply Kd.R_alloc | apply Kd.R_drewN | apply Kd.R_drew)); exact HO270.out) hb); have n2_ := pkK BK263 hb; have n3_ := pkB HB hb; have n4_ := Aside0.mk (hbox); have n5_ := pkG HB hg; have n6_ := pkG HB hg; have n7_ := pkN BK263 hg; have n8_ := pkM BK263 hg; clear HO_8; clear HO270; clear BK263; clear HB; have HO_8 := n0_; have HO270 := n1_; have BK263 := n2_; have HB := n3_; have BK275 := n4_; have GW275 := n5_; have GE275 := n6_; have NB263_275 := n7_; have NB275_263 := n8_; clear n0_ n1_ n2_ n3_ n4_ n5_ n6_ n7_ n8_; clear hb hbox hg; have hnb36 := NB275_263.out; have hnc36 := NB263_275.out; obtain ⟨⟨hcz37_0, hcz37_1, hcz37_2⟩, hfz37_0, hfz37_1, hfz37_2⟩ := pk3 BK275))
              go_ret
              exact pkE HB
          · rw [if_neg c8] at H
            exact absurd H (by simp)
        · rw [if_neg c7] at H
          exact absurd H (by simp)
      · rw [if_neg c6] at H
        have c6b0 : decide (x10_1 < (y264.length : Int)) = false := decide_eq_false c6
        clear c6
        by_cases c38 : x2_1 = 2
        · rw [if_pos c38] at H
          have c38b0 : (x2_1 == 2) = true := beq_iff_eq.mpr c38
          have c38b1 : (x2_1 != 2) = false := bne_eq_false_iff_eq.mpr c38
          clear c38
          obtain rfl := Option.some.inj H
          obtain ⟨⟨hcz39_0, hcz39_1, hcz39_2⟩, hfz39_0, hfz39_1, hfz39_2⟩ := pk3 BK263
          go_wp2
          go_ret
          exact pkE HB
        · rw [if_neg c38] at H
          have c38b0 : (x2_1 == 2) = false := beq_eq_false_iff_ne.mpr c38
          have c38b1 : (x2_1 != 2) = true := bne_iff_ne.mpr c38
          obtain rfl := Option.some.inj H
          go_wp2
          go_ret
          exact pkE HB
def surveyorref21_bound.f (k : Nat) (a0 : ByteArray) : Option (Int) := if a0.toList = ([] : List UInt8) then (some 0) else ((surveyorref06_Number.f k a0).bind fun t276 => (some t276))
set_option maxHeartbeats 8000000 in
set_option maxRecDepth 100000 in
theorem surveyorref21_bound.calls (k : Nat) (a0 : ByteArray) (r : Int) (w : World) (h : surveyorref21_bound.f k a0 = some r) :
    Calls Tryz.prog 11 #[.string a0] w fun e w' => e = .returned (.int .i64 r) ∧ Drawn0 w w' := by
  have H : (if a0.toList = ([] : List UInt8) then (some 0) else ((surveyorref06_Number.f k a0).bind fun t276 => (some t276))) = some r := h
  clear h
  go_enter Tryz.func11, Tryz.ntmps11
  refine byC (P := a0.toList = ([] : List UInt8)) (fun c2 => ?a1) (fun c2 => ?b1)
  case' a1 =>
    rw [if_pos c2] at H
    have c2b0 : (a0.toList == ([] : List UInt8)) = true := beq_iff_eq.mpr c2
    have c2b1 : (a0.toList != ([] : List UInt8)) = false := bne_eq_false_iff_eq.mpr c2
    clear c2
    obtain rfl := Option.some.inj H
  case' b1 =>
    rw [if_neg c2] at H
    have c2b0 : (a0.toList == ([] : List UInt8)) = false := beq_eq_false_iff_ne.mpr c2
    have c2b1 : (a0.toList != ([] : List UInt8)) = true := bne_iff_ne.mpr c2
    obtain ⟨t276, A3, H⟩ := bi H
    try dsimp only at H
    obtain rfl := Option.some.inj H
  all_goals
    go_wp2_with (first | ((with_reducible refine gate_callee (f := 9) rfl ?_); refine gl_ 6 Tryz.func9 #[.string a0] (h := ?_); (with_reducible refine (surveyorref06_Number.calls k a0 t276 _ A3.out).mono ?_); rintro e w' ⟨rfl, ⟨nd, rfl⟩⟩; refine ⟨_, rfl, ?_⟩))
    go_ret
    exact ⟨by first | rfl | (simp; done) | (simp [*]; done), by repeat (first | exact Drawn0.refl _ | apply Drawn0.step)⟩
def surveyorref21_Check.j0 : Nat → Bool → Bool → ByteArray → ByteArray → Option (Int)
  | 0, _, _, _, _ => none
  | k + 1, x16, x278000, x278001, x278002 => if x16 = true then (some 3) else ((surveyorref21_bound.f k x278001).bind fun t278 => (if t278 = 0 then ((surveyorref21_bound.f k x278002).bind fun t279 => (if t279 = 0 then (if x278001.toList = ([] : List UInt8) then (some 0) else (if x278002.toList = ([] : List UInt8) then (some 0) else ((surveyorref01_Less.f k x278002 x278001).bind fun t280 => (if t280 = true then (some 14) else (some 0))))) else (some t279))) else (some t278)))
def surveyorref21_Check.f (k : Nat) (a0_0 : Bool) (a0_1 : ByteArray) (a0_2 : ByteArray) : Option (Int) := if a0_0 = true then (if a0_1.toList = ([] : List UInt8) then (surveyorref21_Check.j0 k (a0_2.toList != ([] : List UInt8)) a0_0 a0_1 a0_2) else (surveyorref21_Check.j0 k true a0_0 a0_1 a0_2)) else (surveyorref21_Check.j0 k false a0_0 a0_1 a0_2)
set_option maxHeartbeats 8000000 in
set_option maxRecDepth 100000 in
theorem surveyorref21_Check.calls (k : Nat) (a0_0 : Bool) (a0_1 : ByteArray) (a0_2 : ByteArray) (r : Int) (w : World) (h : surveyorref21_Check.f k a0_0 a0_1 a0_2 = some r) :
    Calls Tryz.prog 6 #[.agg #[.bool a0_0, .string a0_1, .string a0_2]] w fun e w' => e = .returned (.int .i64 r) ∧ Below w.heap.size w w' := by
  have hu28 := Tryz.underlying28
  have HB := Aside0.mk (Below.refl w.heap.size w)
  have H : (if a0_0 = true then (if a0_1.toList = ([] : List UInt8) then (surveyorref21_Check.j0 k (a0_2.toList != ([] : List UInt8)) a0_0 a0_1 a0_2) else (surveyorref21_Check.j0 k true a0_0 a0_1 a0_2)) else (surveyorref21_Check.j0 k false a0_0 a0_1 a0_2)) = some r := h
  clear h
  have HC2 := Aside0.mk H
  clear H
  go_enter Tryz.func6, Tryz.ntmps6
  go_upto_region 1 with (first | ((with_reducible refine gate_dst (N := 1) rfl ?_); refine bx_ 1 28 #[.bool a0_0, .string a0_1, .string a0_2] (h := ?_); intro gb277 hg w3 hbox hb; have BK277 := Aside0.mk (hbox); have GW277 := pkG HB hg; have GE277 := GW277; replace HB := pkB HB hb; clear hb hbox hg))
  (try simp only [Act.put, List.setIfInBounds_toArray, List.set_cons_zero, List.set_cons_succ])
  go_cut [16] (fun v16 wc => ∃ (kq : Nat) (x16_1 : Bool), v16 = .bool x16_1 ∧ Aside0 (surveyorref21_Check.j0 kq x16_1 a0_0 a0_1 a0_2 = some r) ∧ Aside0 (kq ≤ k) ∧ Aside0 (wc.heap[gb277]? = some (.cells #[.bool a0_0, .string a0_1, .string a0_2] 28 (0, 0))) ∧ Aside0 (Below w.heap.size w wc))
  case first =>
    have H := HC2.out
    clear HC2
    by_cases c4 : a0_0 = true
    · subst c4
      rw [if_pos rfl] at H
      by_cases c5 : a0_1.toList = ([] : List UInt8)
      · rw [if_pos c5] at H
        have c5b0 : (a0_1.toList == ([] : List UInt8)) = true := beq_iff_eq.mpr c5
        have c5b1 : (a0_1.toList != ([] : List UInt8)) = false := bne_eq_false_iff_eq.mpr c5
        clear c5
        (first | rw [c5b0] | (simp only [i64_w, i32_w]; rw [c5b0]) | skip)
        have H' := Aside0.mk H
        clear H
        obtain ⟨⟨hcz6_0, hcz6_1, hcz6_2⟩, hfz6_0, hfz6_1, hfz6_2⟩ := pk3 BK277
        go_wp2
        go_meet
        case rel => exact ⟨_, ((a0_2.toList != ([] : List UInt8))), (by first | rfl | (simp; done) | (generalize a0_2.toList = l_; cases l_ <;> first | rfl | simp)), H', ⟨by first | omega | exact Nat.le_refl _⟩, ⟨pkW BK277⟩, ⟨pkL HB⟩⟩
      · rw [if_neg c5] at H
        have c5b0 : (a0_1.toList == ([] : List UInt8)) = false := beq_eq_false_iff_ne.mpr c5
        have c5b1 : (a0_1.toList != ([] : List UInt8)) = true := bne_iff_ne.mpr c5
        (first | rw [c5b0] | (simp only [i64_w, i32_w]; rw [c5b0]) | skip)
        have H' := Aside0.mk H
        clear H
        obtain ⟨⟨hcz7_0, hcz7_1, hcz7_2⟩, hfz7_0, hfz7_1, hfz7_2⟩ := pk3 BK277
        go_wp2
        go_meet
        case rel => exact ⟨_, (true), (by first | rfl | (simp; done) | (simp [*]; done)), H', ⟨by first | omega | exact Nat.le_refl _⟩, ⟨pkW BK277⟩, ⟨pkL HB⟩⟩
    · replace c4 := Bool.eq_false_iff.mpr c4
      subst c4
      rw [if_neg (show ¬ (false = true) by decide)] at H
      have H' := Aside0.mk H
      clear H
      obtain ⟨⟨hcz8_0, hcz8_1, hcz8_2⟩, hfz8_0, hfz8_1, hfz8_2⟩ := pk3 BK277
      go_wp2
      go_meet
      case rel => exact ⟨_, (false), (by first | rfl | (simp; done) | (simp [*]; done)), H', ⟨by first | omega | exact Nat.le_refl _⟩, ⟨pkW BK277⟩, ⟨pkL HB⟩⟩
  case rest =>
    clear HC2
    try clear c4
    try clear c5
    try clear c5b0
    try clear c5b1
    try clear hcz6_0
    try clear hcz6_1
    try clear hcz6_2
    try clear hcz7_0
    try clear hcz7_1
    try clear hcz7_2
    try clear hcz8_0
    try clear hcz8_1
    try clear hcz8_2
    try clear hfz6_0
    try clear hfz6_1
    try clear hfz6_2
    try clear hfz7_0
    try clear hfz7_1
    try clear hfz7_2
    try clear hfz8_0
    try clear hfz8_1
    try clear hfz8_2
    obtain ⟨kq, x16_1, rfl, HA, HJ1, BK277, HB⟩ := hcut
    cases kq with
    | zero => exact absurd HA.out (by simp [surveyorref21_Check.j0])
    | succ kj1 =>
      have H := HA.out
      clear HA
      simp only [surveyorref21_Check.j0] at H
      by_cases c9 : x16_1 = true
      · subst c9
        rw [if_pos rfl] at H
        obtain rfl := Option.some.inj H
        go_wp2
        go_ret
        exact pkE HB
      · replace c9 := Bool.eq_false_iff.mpr c9
        subst c9
        rw [if_neg (show ¬ (false = true) by decide)] at H
        obtain ⟨t278, A10, H⟩ := bi H
        try dsimp only at H
        by_cases c11 : t278 = 0
        · rw [if_pos c11] at H
          have c11b0 : (t278 == 0) = true := beq_iff_eq.mpr c11
          have c11b1 : (t278 != 0) = false := bne_eq_false_iff_eq.mpr c11
          clear c11
          obtain ⟨t279, A12, H⟩ := bi H
          try dsimp only at H
          by_cases c13 : t279 = 0
          · rw [if_pos c13] at H
            have c13b0 : (t279 == 0) = true := beq_iff_eq.mpr c13
            have c13b1 : (t279 != 0) = false := bne_eq_false_iff_eq.mpr c13
            clear c13
            by_cases c14 : a0_1.toList = ([] : List UInt8)
            · rw [if_pos c14] at H
              have c14b0 : (a0_1.toList == ([] : List UInt8)) = true := beq_iff_eq.mpr c14
              have c14b1 : (a0_1.toList != ([] : List UInt8)) = false := bne_eq_false_iff_eq.mpr c14
              clear c14
              obtain rfl := Option.some.inj H
              obtain ⟨⟨hcz15_0, hcz15_1, hcz15_2⟩, hfz15_0, hfz15_1, hfz15_2⟩ := pk3 BK277
              go_wp2_with (first | ((with_reducible refine gate_callee (f := 11) rfl ?_); refine gl_ 19 Tryz.func11 #[.string a0_1] (h := ?_); (with_reducible refine (surveyorref21_bound.calls kj1 a0_1 t278 _ A10.out).mono ?_); rintro e w' ⟨rfl, ⟨nd, rfl⟩⟩; refine ⟨_, rfl, ?_⟩) | ((with_reducible refine gate_callee (f := 11) rfl ?_); refine gl_ 25 Tryz.func11 #[.string a0_2] (h := ?_); (with_reducible refine (surveyorref21_bound.calls kj1 a0_2 t279 _ A12.out).mono ?_); rintro e w' ⟨rfl, ⟨nd, rfl⟩⟩; refine ⟨_, rfl, ?_⟩))
              go_ret
              exact pkE HB
            · rw [if_neg c14] at H
              have c14b0 : (a0_1.toList == ([] : List UInt8)) = false := beq_eq_false_iff_ne.mpr c14
              have c14b1 : (a0_1.toList != ([] : List UInt8)) = true := bne_iff_ne.mpr c14
              by_cases c16 : a0_2.toList = ([] : List UInt8)
              · rw [if_pos c16] at H
                have c16b0 : (a0_2.toList == ([] : List UInt8)) = true := beq_iff_eq.mpr c16
                have c16b1 : (a0_2.toList != ([] : List UInt8)) = false := bne_eq_false_iff_eq.mpr c16
                clear c16
                obtain rfl := Option.some.inj H
                obtain ⟨⟨hcz17_0, hcz17_1, hcz17_2⟩, hfz17_0, hfz17_1, hfz17_2⟩ := pk3 BK277
                go_wp2_with (first | ((with_reducible refine gate_callee (f := 11) rfl ?_); refine gl_ 19 Tryz.func11 #[.string a0_1] (h := ?_); (with_reducible refine (surveyorref21_bound.calls kj1 a0_1 t278 _ A10.out).mono ?_); rintro e w' ⟨rfl, ⟨nd, rfl⟩⟩; refine ⟨_, rfl, ?_⟩) | ((with_reducible refine gate_callee (f := 11) rfl ?_); refine gl_ 25 Tryz.func11 #[.string a0_2] (h := ?_); (with_reducible refine (surveyorref21_bound.calls kj1 a0_2 t279 _ A12.out).mono ?_); rintro e w' ⟨rfl, ⟨nd, rfl⟩⟩; refine ⟨_, rfl, ?_⟩))
                go_ret
                exact pkE HB
              · rw [if_neg c16] at H
                have c16b0 : (a0_2.toList == ([] : List UInt8)) = false := beq_eq_false_iff_ne.mpr c16
                have c16b1 : (a0_2.toList != ([] : List UInt8)) = true := bne_iff_ne.mpr c16
                obtain ⟨t280, A18, H⟩ := bi H
                try dsimp only at H
                by_cases c19 : t280 = true
                · subst c19
                  rw [if_pos rfl] at H
                  obtain rfl := Option.some.inj H
                  obtain ⟨⟨hcz20_0, hcz20_1, hcz20_2⟩, hfz20_0, hfz20_1, hfz20_2⟩ := pk3 BK277
                  go_wp2_with (first | ((with_reducible refine gate_callee (f := 11) rfl ?_); refine gl_ 19 Tryz.func11 #[.string a0_1] (h := ?_); (with_reducible refine (surveyorref21_bound.calls kj1 a0_1 t278 _ A10.out).mono ?_); rintro e w' ⟨rfl, ⟨nd, rfl⟩⟩; refine ⟨_, rfl, ?_⟩) | ((with_reducible refine gate_callee (f := 11) rfl ?_); refine gl_ 25 Tryz.func11 #[.string a0_2] (h := ?_); (with_reducible refine (surveyorref21_bound.calls kj1 a0_2 t279 _ A12.out).mono ?_); rintro e w' ⟨rfl, ⟨nd, rfl⟩⟩; refine ⟨_, rfl, ?_⟩) | (go_at_call 10; (with_reducible refine (surveyorref01_Less.calls kj1 a0_2 a0_1 true _ A18.out).mono ?_); rintro e w21 ⟨rfl, hb⟩; replace BK277 := pkK BK277 hb; replace HB := pkB HB hb; try clear hb))
                  go_ret
                  exact pkE HB
                · replace c19 := Bool.eq_false_iff.mpr c19
                  subst c19
                  rw [if_neg (show ¬ (false = true) by decide)] at H
                  obtain rfl := Option.some.inj H
                  obtain ⟨⟨hcz22_0, hcz22_1, hcz22_2⟩, hfz22_0, hfz22_1, hfz22_2⟩ := pk3 BK277
                  go_wp2_with (first | ((with_reducible refine gate_callee (f := 11) rfl ?_); refine gl_ 19 Tryz.func11 #[.string a0_1] (h := ?_); (with_reducible refine (surveyorref21_bound.calls kj1 a0_1 t278 _ A10.out).mono ?_); rintro e w' ⟨rfl, ⟨nd, rfl⟩⟩; refine ⟨_, rfl, ?_⟩) | ((with_reducible refine gate_callee (f := 11) rfl ?_); refine gl_ 25 Tryz.func11 #[.string a0_2] (h := ?_); (with_reducible refine (surveyorref21_bound.calls kj1 a0_2 t279 _ A12.out).mono ?_); rintro e w' ⟨rfl, ⟨nd, rfl⟩⟩; refine ⟨_, rfl, ?_⟩) | (go_at_call 10; (with_reducible refine (surveyorref01_Less.calls kj1 a0_2 a0_1 false _ A18.out).mono ?_); rintro e w23 ⟨rfl, hb⟩; replace BK277 := pkK BK277 hb; replace HB := pkB HB hb; try clear hb))
                  go_ret
                  exact pkE HB
          · rw [if_neg c13] at H
            have c13b0 : (t279 == 0) = false := beq_eq_false_iff_ne.mpr c13
            have c13b1 : (t279 != 0) = true := bne_iff_ne.mpr c13
            obtain rfl := Option.some.inj H
            obtain ⟨⟨hcz24_0, hcz24_1, hcz24_2⟩, hfz24_0, hfz24_1, hfz24_2⟩ := pk3 BK277
            go_wp2_with (first | ((with_reducible refine gate_callee (f := 11) rfl ?_); refine gl_ 19 Tryz.func11 #[.string a0_1] (h := ?_); (with_reducible refine (surveyorref21_bound.calls kj1 a0_1 t278 _ A10.out).mono ?_); rintro e w' ⟨rfl, ⟨nd, rfl⟩⟩; refine ⟨_, rfl, ?_⟩) | ((with_reducible refine gate_callee (f := 11) rfl ?_); refine gl_ 25 Tryz.func11 #[.string a0_2] (h := ?_); (with_reducible refine (surveyorref21_bound.calls kj1 a0_2 t279 _ A12.out).mono ?_); rintro e w' ⟨rfl, ⟨nd, rfl⟩⟩; refine ⟨_, rfl, ?_⟩))
            go_ret
            exact pkE HB
        · rw [if_neg c11] at H
          have c11b0 : (t278 == 0) = false := beq_eq_false_iff_ne.mpr c11
          have c11b1 : (t278 != 0) = true := bne_iff_ne.mpr c11
          obtain rfl := Option.some.inj H
          obtain ⟨⟨hcz25_0, hcz25_1, hcz25_2⟩, hfz25_0, hfz25_1, hfz25_2⟩ := pk3 BK277
          go_wp2_with (first | ((with_reducible refine gate_callee (f := 11) rfl ?_); refine gl_ 19 Tryz.func11 #[.string a0_1] (h := ?_); (with_reducible refine (surveyorref21_bound.calls kj1 a0_1 t278 _ A10.out).mono ?_); rintro e w' ⟨rfl, ⟨nd, rfl⟩⟩; refine ⟨_, rfl, ?_⟩))
          go_ret
          exact pkE HB
end Go.Proofs.YtnagmogjhfdmlaaGreatDoor.PTopChainsIntervals
