/- Lemmas. -/
import Derived.Test.YtnagmogjhfdmlaaGreatDoorLPTopChainsIntervalsx0
import Derived.Test.YtnagmogjhfdmlaaGreatDoorLPTopChainsIntervalsx4
import Derived.Test.YtnagmogjhfdmlaaGreatDoorLPTopChainsIntervalsx5
import Derived.Test.YtnagmogjhfdmlaaGreatDoorLShort
import Derived.Test.YtnagmogjhfdmlaaGreatDoorLShort3
import Derived.Test.YtnagmogjhfdmlaaGreatDoorLShort4
namespace Go.Proofs.YtnagmogjhfdmlaaGreatDoor.PTopChainsIntervals
open Go.RowKit Go.Proofs.YtnagmogjhfdmlaaGreatDoorW.PrintWords Go.Proofs.YtnagmogjhfdmlaaGreatDoorW.PrintLast Go.Proofs.YtnagmogjhfdmlaaGreatDoorW.PrintMore
attribute [local go_sem] max2_int -- for this text's walks alone
set_option linter.unusedVariables false
set_option linter.unusedSimpArgs false
def interval_Leq.f (k : Nat) (a0_0 : Bool) (a0_1 : ByteArray) (a0_2 : ByteArray) (a1_0 : Bool) (a1_1 : ByteArray) (a1_2 : ByteArray) : Option (Bool × Int) := (interval_checks.f k (([(⟨a0_0, a0_1, a0_2⟩ : S28), (⟨a1_0, a1_1, a1_2⟩ : S28)] : List (S28)))).bind fun t286 => (if t286 = 0 then ((interval_of.f a0_0 a0_1 a0_2).bind fun bt287 => ((interval_of.f a1_0 a1_1 a1_2).bind fun bt291 => ((interval_span_empty.f bt287.1 bt287.2.1 bt287.2.2.1 bt287.2.2.2).bind fun t297 => (if t297 = true then (some (true, 0)) else ((interval_compare.f bt291.1 bt291.2.1 bt287.1 bt287.2.1).bind fun t298 => (if t298 ≤ 0 then ((interval_compare.f bt287.2.2.1 bt287.2.2.2 bt291.2.2.1 bt291.2.2.2).bind fun t299 => (some (decide (t299 ≤ 0), 0))) else (some (false, 0)))))))) else (some (false, t286)))
def interval_Leq.T4 : Bool × List (List Nat × List Nat) := (true, [([], []), ([0], [0]), ([], []), ([2, 1], [2]), ([], []), ([], []), ([4, 1, 3, 0, 1, 4, 5], [1, 4]), ([5, 3, 6, 0, 1, 2, 3, 4, 5, 6], [3, 5])])
def interval_Leq.B4 : List Nat := [0, 1, 0, 7, 0, 0, 63, 127]
theorem interval_Leq.tab4 : rtab .any (opsOf Tryz.f8 4) = interval_Leq.T4 := by kernel_rfl
theorem interval_Leq.bits4 : waitsOk interval_Leq.T4.2 interval_Leq.B4 = true := by kernel_rfl
set_option maxHeartbeats 8000000 in
set_option maxRecDepth 100000 in
theorem interval_Leq.calls (k : Nat) (a0_0 : Bool) (a0_1 : ByteArray) (a0_2 : ByteArray) (a1_0 : Bool) (a1_1 : ByteArray) (a1_2 : ByteArray) (r1 : Bool) (r2 : Int) (w : World) (h : interval_Leq.f k a0_0 a0_1 a0_2 a1_0 a1_1 a1_2 = some (r1, r2)) :
    Calls Tryz.prog 8 #[.agg #[.bool a0_0, .string a0_1, .string a0_2], .agg #[.bool a1_0, .string a1_1, .string a1_2]] w fun e w' => e = .returned (.tuple #[.bool r1, .int .i64 r2]) ∧ Below w.heap.size w w' := by
  have hu28 := Tryz.underlying28
  have hu43 := Tryz.underlying43
  have hu41 := Tryz.underlying41
  have HB := Aside0.mk (Below.refl w.heap.size w)
  have H : ((interval_checks.f k (([(⟨a0_0, a0_1, a0_2⟩ : S28), (⟨a1_0, a1_1, a1_2⟩ : S28)] : List (S28)))).bind fun t286 => (if t286 = 0 then ((interval_of.f a0_0 a0_1 a0_2).bind fun bt287 => ((interval_of.f a1_0 a1_1 a1_2).bind fun bt291 => ((interval_span_empty.f bt287.1 bt287.2.1 bt287.2.2.1 bt287.2.2.2).bind fun t297 => (if t297 = true then (some (true, 0)) else ((interval_compare.f bt291.1 bt291.2.1 bt287.1 bt287.2.1).bind fun t298 => (if t298 ≤ 0 then ((interval_compare.f bt287.2.2.1 bt287.2.2.2 bt291.2.2.1 bt291.2.2.2).bind fun t299 => (some (decide (t299 ≤ 0), 0))) else (some (false, 0)))))))) else (some (false, t286)))) = some (r1, r2) := h
  clear h
  obtain ⟨y283, hy283⟩ : ∃ y_ : List (S28), y_ = (([(⟨a0_0, a0_1, a0_2⟩ : S28), (⟨a1_0, a1_1, a1_2⟩ : S28)] : List (S28))) := ⟨_, rfl⟩
  replace H : ((interval_checks.f k y283).bind fun t286 => (if t286 = 0 then ((interval_of.f a0_0 a0_1 a0_2).bind fun bt287 => ((interval_of.f a1_0 a1_1 a1_2).bind fun bt291 => ((interval_span_empty.f bt287.1 bt287.2.1 bt287.2.2.1 bt287.2.2.2).bind fun t297 => (if t297 = true then (some (true, 0)) else ((interval_compare.f bt291.1 bt291.2.1 bt287.1 bt287.2.1).bind fun t298 => (if t298 ≤ 0 then ((interval_compare.f bt287.2.2.1 bt287.2.2.2 bt291.2.2.1 bt291.2.2.2).bind fun t299 => (some (decide (t299 ≤ 0), 0))) else (some (false, 0)))))))) else (some (false, t286)))) = some (r1, r2) := by first | (rw [hy283]; with_reducible exact H) | (have H2_ := (Option.bind_some _ _).symm.trans H; rw [hy283]; with_reducible exact H2_) | (have H2_ := (Option.bind_some _ _).symm.trans H; with_reducible exact H2_) | with_reducible exact H | (rw [hy283]; exact H) | exact H
  have Ny283 := Aside0.mk hy283
  clear hy283
  obtain ⟨t286, A3, H⟩ := bi H
  try dsimp only at H
  go_enter Tryz.func8, Tryz.ntmps8
  by_cases c4 : t286 = 0
  · rw [if_pos c4] at H
    have c4b0 : (t286 == 0) = true := beq_iff_eq.mpr c4
    have c4b1 : (t286 != 0) = false := bne_eq_false_iff_eq.mpr c4
    clear c4
    obtain ⟨⟨t287, t288, t289, t290⟩, A5, H⟩ := bi H
    try dsimp only at H
    obtain ⟨⟨t291, t292, t293, t294⟩, A6, H⟩ := bi H
    try dsimp only at H
    obtain ⟨t297, A7, H⟩ := bi H
    try dsimp only at H
    try go_wp2_with (first | ((with_reducible refine gate_dst (N := 2) rfl ?_); refine bx_ 2 28 #[.bool a0_0, .string a0_1, .string a0_2] (h := ?_); intro gb281 hg w9 hbox hb; have BK281 := Aside0.mk (hbox); have GW281 := pkG HB hg; have GE281 := GW281; replace HB := pkB HB hb; clear hb hbox hg) | ((with_reducible refine gate_dst (N := 3) rfl ?_); refine bx_ 3 28 #[.bool a1_0, .string a1_1, .string a1_2] (h := ?_); intro gb282 hg w10 hbox hb; have BK282 := Aside0.mk (hbox); have GW282 := pkG HB hg; have GE282 := GW282; obtain ⟨NB281_282, NB282_281, _, _⟩ := pkQ BK281 hg; replace BK281 := pkK BK281 hb; replace HB := pkB HB hb; clear hb hbox hg; have hnb11 := NB281_282.out; have hnc11 := NB282_281.out; obtain ⟨⟨hcz12_0, hcz12_1, hcz12_2⟩, hfz12_0, hfz12_1, hfz12_2⟩ := pk3 BK281; obtain ⟨⟨hcz13_0, hcz13_1, hcz13_2⟩, hfz13_0, hfz13_1, hfz13_2⟩ := pk3 BK282) | ((with_reducible refine gate_dst (N := 11) rfl ?_); refine Kd.R_lit k28 _ 28 ?hg (N := 11) ?hd (xs := ([(⟨a0_0, a0_1, a0_2⟩ : S28), (⟨a1_0, a1_1, a1_2⟩ : S28)] : List (S28))) (inner := [.bool a0_0, .string a0_1, .string a0_2, .bool a1_0, .string a1_1, .string a1_2]) (ok := fun _ => True) (okp := fun _ => True) ?hr ?hp (fun _ hk => hk) trivial (Below.refl _ _) (Nat.le_refl _) (by simp) ?_; (case hd => rfl); (case hg => rfl); (case hr => first | (go_simp; done) | (go_simp; rfl)); (case hp => exact (Reps.c3 (show Kd.M k28 _ _ _ (⟨a0_0, a0_1, a0_2⟩ : S28) [.bool a0_0, .string a0_1, .string a0_2] from (k28_mkM _ _ _ (⟨a0_0, a0_1, a0_2⟩ : S28) )) (Reps.c3 (show Kd.M k28 _ _ _ (⟨a1_0, a1_1, a1_2⟩ : S28) [.bool a1_0, .string a1_1, .string a1_2] from (k28_mkM _ _ _ (⟨a1_0, a1_1, a1_2⟩ : S28) )) (Reps.none _ _)))); intro v284 w14 ho15 hb hg_ hnew_; clear hg_ hnew_; (first | rw [← Ny283.out] at ho15 | (simp only [Int.reduceToNat] at ho15; rw [← Ny283.out] at ho15)); have HO285 := Aside0.mk (Kd.R_lower (Kd.R_newB (Kd.R_newB ho15 (g := gb281) (o := .cells #[.bool a0_0, .string a0_1, .string a0_2] 28 (0, 0)) (pkW BK281)) (g := gb282) (o := .cells #[.bool a1_0, .string a1_1, .string a1_2] 28 (0, 0)) (pkW BK282)) (below_size (pkL HB))); replace BK281 := pkK BK281 hb; replace BK282 := pkK BK282 hb; replace HB := pkB HB hb; clear hb ho15; obtain ⟨Ao16, co16, eo16⟩ := Kd.R_slice HO285.out; subst eo16) | ((with_reducible refine gate_callee (f := 12) rfl ?_); refine gl_ 12 Tryz.func12 #[.slice Ao16 y283.length co16] (h := ?_); (with_reducible refine (interval_checks.calls k _ _ y283 t286 _ ?side1 ?side2 A3.out).mono ?_); (case side1 => repeat (first | exact (Kd.R_reads' HO285.out).2.2 | (with_reducible refine Kd.C_alloc ?_ _) | (with_reducible refine Kd.C_drewN ?_ _) | (with_reducible refine Kd.C_drew ?_))); (case side2 => exact (Kd.R_reads' HO285.out).2.1); rintro e w17 ⟨rfl, hb⟩; refine ⟨_, rfl, ?_⟩; replace HO285 := Aside0.mk (Kd.R_below (by (with_reducible repeat (first | apply Kd.R_alloc | apply Kd.R_drewN | apply Kd.R_drew)); exact HO285.out) hb); replace BK281 := pkK BK281 hb; replace BK282 := pkK BK282 hb; replace HB := pkB HB hb; try clear hb))
    replace HO285 := Aside0.mk (Kd.R_drew HO285.out); replace BK281 := Aside0.mk (blk_drew BK281.out); replace BK282 := Aside0.mk (blk_drew BK282.out); replace HB := Aside0.mk (below_drew1 HB.out)
    refine start_ (n := 8) (S := fun w' => w'.cell? ⟨gb281, 0, none⟩ = some (.bool a0_0) ∧ w'.cell? ⟨gb281, 1, none⟩ = some (.string a0_1) ∧ w'.cell? ⟨gb281, 2, none⟩ = some (.string a0_2) ∧ w'.cell? ⟨gb282, 0, none⟩ = some (.bool a1_0) ∧ w'.cell? ⟨gb282, 1, none⟩ = some (.string a1_1) ∧ w'.cell? ⟨gb282, 2, none⟩ = some (.string a1_2)) (ds := []) #[false, false, false, false, false, false, false, false] (by kernel_rfl) rfl rfl ⟨(blk_cell BK281.out 0).trans rfl, (blk_cell BK281.out 1).trans rfl, (blk_cell BK281.out 2).trans rfl, (blk_cell BK282.out 0).trans rfl, (blk_cell BK282.out 1).trans rfl, (blk_cell BK282.out 2).trans rfl⟩ (fun hHeld => ?_); refine with_tabW interval_Leq.tab4 interval_Leq.bits4 (fun HT_ HW_ => ?_)
    generalize w17.drew = w18 at HO285 BK281 BK282 HB hHeld ⊢
    refine tk_ 0 16 hHeld (hy := by rintro w' ⟨s0, s1, s2, s3, s4, s5⟩; go_simp; with_reducible rfl) (h := ?_)
    refine tk_ 2 18 hHeld (hy := by rintro w' ⟨s0, s1, s2, s3, s4, s5⟩; go_simp; with_reducible rfl) (h := ?_)
    refine join_ (σ := Nat × Nat) 2 #[true, true, true, true, true, true, false, false] (fun s_ => [(17, .agg #[.int .i64 t287, .string t288, .int .i64 t289, .string t290]), (19, .agg #[.int .i64 t291, .string t292, .int .i64 t293, .string t294]), (7, .pointer (some ⟨s_.1, 0, none⟩)), (8, .pointer (some ⟨s_.2, 0, none⟩))]) (fun s_ w' => (w'.cell? ⟨gb281, 0, none⟩ = some (.bool a0_0) ∧ w'.cell? ⟨gb281, 1, none⟩ = some (.string a0_1) ∧ w'.cell? ⟨gb281, 2, none⟩ = some (.string a0_2) ∧ w'.cell? ⟨gb282, 0, none⟩ = some (.bool a1_0) ∧ w'.cell? ⟨gb282, 1, none⟩ = some (.string a1_1) ∧ w'.cell? ⟨gb282, 2, none⟩ = some (.string a1_2)) ∧ (Kd.R k28 28 w' w.heap.size (fun k_ => k_ ≠ gb281 ∧ k_ ≠ gb282) (.slice Ao16 y283.length co16) y283) ∧ (w'.heap[gb281]? = some (.cells #[.bool a0_0, .string a0_1, .string a0_2] 28 (0, 0))) ∧ (w'.heap[gb282]? = some (.cells #[.bool a1_0, .string a1_1, .string a1_2] 28 (0, 0))) ∧ (w'.heap[s_.1]? = some (.cells #[.int .i64 0, .string (⟨#[]⟩ : ByteArray), .int .i64 0, .string (⟨#[]⟩ : ByteArray)] 43 (0, 0))) ∧ (w'.heap[s_.2]? = some (.cells #[.int .i64 0, .string (⟨#[]⟩ : ByteArray), .int .i64 0, .string (⟨#[]⟩ : ByteArray)] 43 (0, 0))) ∧ (w.heap.size ≤ s_.1) ∧ (w.heap.size ≤ s_.1) ∧ (gb281 ≠ s_.1) ∧ (s_.1 ≠ gb281) ∧ (gb282 ≠ s_.1) ∧ (s_.1 ≠ gb282) ∧ (s_.2 ≠ s_.1) ∧ (s_.1 ≠ s_.2) ∧ (w.heap.size ≤ s_.2) ∧ (w.heap.size ≤ s_.2) ∧ (gb281 ≠ s_.2) ∧ (s_.2 ≠ gb281) ∧ (gb282 ≠ s_.2) ∧ (s_.2 ≠ gb282) ∧ (Below w.heap.size w w')) ?_ ?_
    rotate_left
    · intro hJ1_3_4_5
      refine join_ (σ := Nat) 3 #[true, true, true, true, true, false, false, false] (fun s_ => [(17, .agg #[.int .i64 t287, .string t288, .int .i64 t289, .string t290]), (19, .agg #[.int .i64 t291, .string t292, .int .i64 t293, .string t294]), (7, .pointer (some ⟨s_, 0, none⟩))]) (fun s_ w' => (w'.cell? ⟨gb281, 0, none⟩ = some (.bool a0_0) ∧ w'.cell? ⟨gb281, 1, none⟩ = some (.string a0_1) ∧ w'.cell? ⟨gb281, 2, none⟩ = some (.string a0_2) ∧ w'.cell? ⟨gb282, 0, none⟩ = some (.bool a1_0) ∧ w'.cell? ⟨gb282, 1, none⟩ = some (.string a1_1) ∧ w'.cell? ⟨gb282, 2, none⟩ = some (.string a1_2)) ∧ (Kd.R k28 28 w' w.heap.size (fun k_ => k_ ≠ gb281 ∧ k_ ≠ gb282) (.slice Ao16 y283.length co16) y283) ∧ (w'.heap[gb281]? = some (.cells #[.bool a0_0, .string a0_1, .string a0_2] 28 (0, 0))) ∧ (w'.heap[gb282]? = some (.cells #[.bool a1_0, .string a1_1, .string a1_2] 28 (0, 0))) ∧ (w'.heap[s_]? = some (.cells #[.int .i64 0, .string (⟨#[]⟩ : ByteArray), .int .i64 0, .string (⟨#[]⟩ : ByteArray)] 43 (0, 0))) ∧ (w.heap.size ≤ s_) ∧ (w.heap.size ≤ s_) ∧ (gb281 ≠ s_) ∧ (s_ ≠ gb281) ∧ (gb282 ≠ s_) ∧ (s_ ≠ gb282) ∧ (Below w.heap.size w w')) ?_ ?_
      rotate_left
      · intro hJ1_3_4
        refine join_ (σ := Nat) 3 #[true, true, true, true, false, true, false, false] (fun s_ => [(17, .agg #[.int .i64 t287, .string t288, .int .i64 t289, .string t290]), (19, .agg #[.int .i64 t291, .string t292, .int .i64 t293, .string t294]), (8, .pointer (some ⟨s_, 0, none⟩))]) (fun s_ w' => (w'.cell? ⟨gb281, 0, none⟩ = some (.bool a0_0) ∧ w'.cell? ⟨gb281, 1, none⟩ = some (.string a0_1) ∧ w'.cell? ⟨gb281, 2, none⟩ = some (.string a0_2) ∧ w'.cell? ⟨gb282, 0, none⟩ = some (.bool a1_0) ∧ w'.cell? ⟨gb282, 1, none⟩ = some (.string a1_1) ∧ w'.cell? ⟨gb282, 2, none⟩ = some (.string a1_2)) ∧ (Kd.R k28 28 w' w.heap.size (fun k_ => k_ ≠ gb281 ∧ k_ ≠ gb282) (.slice Ao16 y283.length co16) y283) ∧ (w'.heap[gb281]? = some (.cells #[.bool a0_0, .string a0_1, .string a0_2] 28 (0, 0))) ∧ (w'.heap[gb282]? = some (.cells #[.bool a1_0, .string a1_1, .string a1_2] 28 (0, 0))) ∧ (w'.heap[s_]? = some (.cells #[.int .i64 0, .string (⟨#[]⟩ : ByteArray), .int .i64 0, .string (⟨#[]⟩ : ByteArray)] 43 (0, 0))) ∧ (w.heap.size ≤ s_) ∧ (w.heap.size ≤ s_) ∧ (gb281 ≠ s_) ∧ (s_ ≠ gb281) ∧ (gb282 ≠ s_) ∧ (s_ ≠ gb282) ∧ (Below w.heap.size w w')) ?_ ?_
        rotate_left
        · intro hJ1_3_5
          refine join_ (σ := Nat × Nat) 3 #[true, true, true, false, true, true, false, false] (fun s_ => [(17, .agg #[.int .i64 t287, .string t288, .int .i64 t289, .string t290]), (7, .pointer (some ⟨s_.1, 0, none⟩)), (8, .pointer (some ⟨s_.2, 0, none⟩))]) (fun s_ w' => (w'.cell? ⟨gb281, 0, none⟩ = some (.bool a0_0) ∧ w'.cell? ⟨gb281, 1, none⟩ = some (.string a0_1) ∧ w'.cell? ⟨gb281, 2, none⟩ = some (.string a0_2) ∧ w'.cell? ⟨gb282, 0, none⟩ = some (.bool a1_0) ∧ w'.cell? ⟨gb282, 1, none⟩ = some (.string a1_1) ∧ w'.cell? ⟨gb282, 2, none⟩ = some (.string a1_2)) ∧ (Kd.R k28 28 w' w.heap.size (fun k_ => k_ ≠ gb281 ∧ k_ ≠ gb282) (.slice Ao16 y283.length co16) y283) ∧ (w'.heap[gb281]? = some (.cells #[.bool a0_0, .string a0_1, .string a0_2] 28 (0, 0))) ∧ (w'.heap[gb282]? = some (.cells #[.bool a1_0, .string a1_1, .string a1_2] 28 (0, 0))) ∧ (w'.heap[s_.1]? = some (.cells #[.int .i64 0, .string (⟨#[]⟩ : ByteArray), .int .i64 0, .string (⟨#[]⟩ : ByteArray)] 43 (0, 0))) ∧ (w'.heap[s_.2]? = some (.cells #[.int .i64 0, .string (⟨#[]⟩ : ByteArray), .int .i64 0, .string (⟨#[]⟩ : ByteArray)] 43 (0, 0))) ∧ (w.heap.size ≤ s_.1) ∧ (w.heap.size ≤ s_.1) ∧ (gb281 ≠ s_.1) ∧ (s_.1 ≠ gb281) ∧ (gb282 ≠ s_.1) ∧ (s_.1 ≠ gb282) ∧ (s_.2 ≠ s_.1) ∧ (s_.1 ≠ s_.2) ∧ (w.heap.size ≤ s_.2) ∧ (w.heap.size ≤ s_.2) ∧ (gb281 ≠ s_.2) ∧ (s_.2 ≠ gb281) ∧ (gb282 ≠ s_.2) ∧ (s_.2 ≠ gb282) ∧ (Below w.heap.size w w')) ?_ ?_
          rotate_left
          · intro hJ1_4_5
            refine join_ (σ := Unit) 4 #[true, true, true, true, false, false, false, false] (fun s_ => [(17, .agg #[.int .i64 t287, .string t288, .int .i64 t289, .string t290]), (19, .agg #[.int .i64 t291, .string t292, .int .i64 t293, .string t294])]) (fun s_ w' => (w'.cell? ⟨gb281, 0, none⟩ = some (.bool a0_0) ∧ w'.cell? ⟨gb281, 1, none⟩ = some (.string a0_1) ∧ w'.cell? ⟨gb281, 2, none⟩ = some (.string a0_2) ∧ w'.cell? ⟨gb282, 0, none⟩ = some (.bool a1_0) ∧ w'.cell? ⟨gb282, 1, none⟩ = some (.string a1_1) ∧ w'.cell? ⟨gb282, 2, none⟩ = some (.string a1_2)) ∧ (Kd.R k28 28 w' w.heap.size (fun k_ => k_ ≠ gb281 ∧ k_ ≠ gb282) (.slice Ao16 y283.length co16) y283) ∧ (w'.heap[gb281]? = some (.cells #[.bool a0_0, .string a0_1, .string a0_2] 28 (0, 0))) ∧ (w'.heap[gb282]? = some (.cells #[.bool a1_0, .string a1_1, .string a1_2] 28 (0, 0))) ∧ (Below w.heap.size w w')) ?_ ?_
            rotate_left
            · intro hJ1_3
              refine join_ (σ := Nat) 4 #[true, true, true, false, true, false, false, false] (fun s_ => [(17, .agg #[.int .i64 t287, .string t288, .int .i64 t289, .string t290]), (7, .pointer (some ⟨s_, 0, none⟩))]) (fun s_ w' => (w'.cell? ⟨gb281, 0, none⟩ = some (.bool a0_0) ∧ w'.cell? ⟨gb281, 1, none⟩ = some (.string a0_1) ∧ w'.cell? ⟨gb281, 2, none⟩ = some (.string a0_2) ∧ w'.cell? ⟨gb282, 0, none⟩ = some (.bool a1_0) ∧ w'.cell? ⟨gb282, 1, none⟩ = some (.string a1_1) ∧ w'.cell? ⟨gb282, 2, none⟩ = some (.string a1_2)) ∧ (Kd.R k28 28 w' w.heap.size (fun k_ => k_ ≠ gb281 ∧ k_ ≠ gb282) (.slice Ao16 y283.length co16) y283) ∧ (w'.heap[gb281]? = some (.cells #[.bool a0_0, .string a0_1, .string a0_2] 28 (0, 0))) ∧ (w'.heap[gb282]? = some (.cells #[.bool a1_0, .string a1_1, .string a1_2] 28 (0, 0))) ∧ (w'.heap[s_]? = some (.cells #[.int .i64 0, .string (⟨#[]⟩ : ByteArray), .int .i64 0, .string (⟨#[]⟩ : ByteArray)] 43 (0, 0))) ∧ (w.heap.size ≤ s_) ∧ (w.heap.size ≤ s_) ∧ (gb281 ≠ s_) ∧ (s_ ≠ gb281) ∧ (gb282 ≠ s_) ∧ (s_ ≠ gb282) ∧ (Below w.heap.size w w')) ?_ ?_
              rotate_left
              · intro hJ1_4
                refine join_ (σ := Nat) 4 #[true, true, true, false, false, true, false, false] (fun s_ => [(17, .agg #[.int .i64 t287, .string t288, .int .i64 t289, .string t290]), (8, .pointer (some ⟨s_, 0, none⟩))]) (fun s_ w' => (w'.cell? ⟨gb281, 0, none⟩ = some (.bool a0_0) ∧ w'.cell? ⟨gb281, 1, none⟩ = some (.string a0_1) ∧ w'.cell? ⟨gb281, 2, none⟩ = some (.string a0_2) ∧ w'.cell? ⟨gb282, 0, none⟩ = some (.bool a1_0) ∧ w'.cell? ⟨gb282, 1, none⟩ = some (.string a1_1) ∧ w'.cell? ⟨gb282, 2, none⟩ = some (.string a1_2)) ∧ (Kd.R k28 28 w' w.heap.size (fun k_ => k_ ≠ gb281 ∧ k_ ≠ gb282) (.slice Ao16 y283.length co16) y283) ∧ (w'.heap[gb281]? = some (.cells #[.bool a0_0, .string a0_1, .string a0_2] 28 (0, 0))) ∧ (w'.heap[gb282]? = some (.cells #[.bool a1_0, .string a1_1, .string a1_2] 28 (0, 0))) ∧ (w'.heap[s_]? = some (.cells #[.int .i64 0, .string (⟨#[]⟩ : ByteArray), .int .i64 0, .string (⟨#[]⟩ : ByteArray)] 43 (0, 0))) ∧ (w.heap.size ≤ s_) ∧ (w.heap.size ≤ s_) ∧ (gb281 ≠ s_) ∧ (s_ ≠ gb281) ∧ (gb282 ≠ s_) ∧ (s_ ≠ gb282) ∧ (Below w.heap.size w w')) ?_ ?_
                rotate_left
                · intro hJ1_5
                  refine join_ (σ := Nat × Nat) 4 #[true, false, true, false, true, true, false, false] (fun s_ => [(7, .pointer (some ⟨s_.1, 0, none⟩)), (8, .pointer (some ⟨s_.2, 0, none⟩))]) (fun s_ w' => (w'.cell? ⟨gb281, 0, none⟩ = some (.bool a0_0) ∧ w'.cell? ⟨gb281, 1, none⟩ = some (.string a0_1) ∧ w'.cell? ⟨gb281, 2, none⟩ = some (.string a0_2) ∧ w'.cell? ⟨gb282, 0, none⟩ = some (.bool a1_0) ∧ w'.cell? ⟨gb282, 1, none⟩ = some (.string a1_1) ∧ w'.cell? ⟨gb282, 2, none⟩ = some (.string a1_2)) ∧ (Kd.R k28 28 w' w.heap.size (fun k_ => k_ ≠ gb281 ∧ k_ ≠ gb282) (.slice Ao16 y283.length co16) y283) ∧ (w'.heap[gb281]? = some (.cells #[.bool a0_0, .string a0_1, .string a0_2] 28 (0, 0))) ∧ (w'.heap[gb282]? = some (.cells #[.bool a1_0, .string a1_1, .string a1_2] 28 (0, 0))) ∧ (w'.heap[s_.1]? = some (.cells #[.int .i64 0, .string (⟨#[]⟩ : ByteArray), .int .i64 0, .string (⟨#[]⟩ : ByteArray)] 43 (0, 0))) ∧ (w'.heap[s_.2]? = some (.cells #[.int .i64 0, .string (⟨#[]⟩ : ByteArray), .int .i64 0, .string (⟨#[]⟩ : ByteArray)] 43 (0, 0))) ∧ (w.heap.size ≤ s_.1) ∧ (w.heap.size ≤ s_.1) ∧ (gb281 ≠ s_.1) ∧ (s_.1 ≠ gb281) ∧ (gb282 ≠ s_.1) ∧ (s_.1 ≠ gb282) ∧ (s_.2 ≠ s_.1) ∧ (s_.1 ≠ s_.2) ∧ (w.heap.size ≤ s_.2) ∧ (w.heap.size ≤ s_.2) ∧ (gb281 ≠ s_.2) ∧ (s_.2 ≠ gb281) ∧ (gb282 ≠ s_.2) ∧ (s_.2 ≠ gb282) ∧ (Below w.heap.size w w')) ?_ ?_
                  rotate_left
                  · intro hJ4_5
                    refine join_ (σ := Unit) 5 #[true, true, true, false, false, false, false, false] (fun s_ => [(17, .agg #[.int .i64 t287, .string t288, .int .i64 t289, .string t290])]) (fun s_ w' => (w'.cell? ⟨gb281, 0, none⟩ = some (.bool a0_0) ∧ w'.cell? ⟨gb281, 1, none⟩ = some (.string a0_1) ∧ w'.cell? ⟨gb281, 2, none⟩ = some (.string a0_2) ∧ w'.cell? ⟨gb282, 0, none⟩ = some (.bool a1_0) ∧ w'.cell? ⟨gb282, 1, none⟩ = some (.string a1_1) ∧ w'.cell? ⟨gb282, 2, none⟩ = some (.string a1_2)) ∧ (Kd.R k28 28 w' w.heap.size (fun k_ => k_ ≠ gb281 ∧ k_ ≠ gb282) (.slice Ao16 y283.length co16) y283) ∧ (w'.heap[gb281]? = some (.cells #[.bool a0_0, .string a0_1, .string a0_2] 28 (0, 0))) ∧ (w'.heap[gb282]? = some (.cells #[.bool a1_0, .string a1_1, .string a1_2] 28 (0, 0))) ∧ (Below w.heap.size w w')) ?_ ?_
                    rotate_left
                    · intro hJ1
                      refine join_ (σ := Nat) 5 #[true, false, true, false, true, false, false, false] (fun s_ => [(7, .pointer (some ⟨s_, 0, none⟩))]) (fun s_ w' => (w'.cell? ⟨gb281, 0, none⟩ = some (.bool a0_0) ∧ w'.cell? ⟨gb281, 1, none⟩ = some (.string a0_1) ∧ w'.cell? ⟨gb281, 2, none⟩ = some (.string a0_2) ∧ w'.cell? ⟨gb282, 0, none⟩ = some (.bool a1_0) ∧ w'.cell? ⟨gb282, 1, none⟩ = some (.string a1_1) ∧ w'.cell? ⟨gb282, 2, none⟩ = some (.string a1_2)) ∧ (Kd.R k28 28 w' w.heap.size (fun k_ => k_ ≠ gb281 ∧ k_ ≠ gb282) (.slice Ao16 y283.length co16) y283) ∧ (w'.heap[gb281]? = some (.cells #[.bool a0_0, .string a0_1, .string a0_2] 28 (0, 0))) ∧ (w'.heap[gb282]? = some (.cells #[.bool a1_0, .string a1_1, .string a1_2] 28 (0, 0))) ∧ (w'.heap[s_]? = some (.cells #[.int .i64 0, .string (⟨#[]⟩ : ByteArray), .int .i64 0, .string (⟨#[]⟩ : ByteArray)] 43 (0, 0))) ∧ (w.heap.size ≤ s_) ∧ (w.heap.size ≤ s_) ∧ (gb281 ≠ s_) ∧ (s_ ≠ gb281) ∧ (gb282 ≠ s_) ∧ (s_ ≠ gb282) ∧ (Below w.heap.size w w')) ?_ ?_
                      rotate_left
                      · intro hJ4
                        refine join_ (σ := Nat) 5 #[true, false, true, false, false, true, false, false] (fun s_ => [(8, .pointer (some ⟨s_, 0, none⟩))]) (fun s_ w' => (w'.cell? ⟨gb281, 0, none⟩ = some (.bool a0_0) ∧ w'.cell? ⟨gb281, 1, none⟩ = some (.string a0_1) ∧ w'.cell? ⟨gb281, 2, none⟩ = some (.string a0_2) ∧ w'.cell? ⟨gb282, 0, none⟩ = some (.bool a1_0) ∧ w'.cell? ⟨gb282, 1, none⟩ = some (.string a1_1) ∧ w'.cell? ⟨gb282, 2, none⟩ = some (.string a1_2)) ∧ (Kd.R k28 28 w' w.heap.size (fun k_ => k_ ≠ gb281 ∧ k_ ≠ gb282) (.slice Ao16 y283.length co16) y283) ∧ (w'.heap[gb281]? = some (.cells #[.bool a0_0, .string a0_1, .string a0_2] 28 (0, 0))) ∧ (w'.heap[gb282]? = some (.cells #[.bool a1_0, .string a1_1, .string a1_2] 28 (0, 0))) ∧ (w'.heap[s_]? = some (.cells #[.int .i64 0, .string (⟨#[]⟩ : ByteArray), .int .i64 0, .string (⟨#[]⟩ : ByteArray)] 43 (0, 0))) ∧ (w.heap.size ≤ s_) ∧ (w.heap.size ≤ s_) ∧ (gb281 ≠ s_) ∧ (s_ ≠ gb281) ∧ (gb282 ≠ s_) ∧ (s_ ≠ gb282) ∧ (Below w.heap.size w w')) ?_ ?_
                        rotate_left
                        · intro hJ5
                          refine three_ (i := 1) (j := 4) (k := 5) (Ni := some 17) (Nj := some 7) (Nk := some 8) #[true, true, true, false, false, false, false, false] #[true, false, true, false, true, false, false, false] #[true, false, true, false, false, true, false, false] rfl rfl rfl rfl rfl rfl (three_of HT_.out (by kernel_rfl)) (by decide) (by decide) (by decide) (fun K hK => ?_) (fun K hK => ?_) (fun K hK => ?_)
                          · skip
                            refine g1_ Tryz.func14 #[.agg #[.bool a0_0, .string a0_1, .string a0_2]] (h := ?_)
                            with_reducible refine (interval_of.calls a0_0 a0_1 a0_2 t287 t288 t289 t290 _ A5.out).mono ?_
                            rintro e w19 ⟨rfl, hb⟩
                            refine ⟨_, rfl, ?_⟩
                            replace HO285 := Aside0.mk (Kd.R_below (by (with_reducible repeat (first | apply Kd.R_alloc | apply Kd.R_drewN | apply Kd.R_drew)); exact HO285.out) hb); replace BK281 := pkK BK281 hb; replace BK282 := pkK BK282 hb; replace HB := pkB HB hb
                            (try clear hb)
                            (try clear hb2)
                            (try clear hk)
                            (try clear hi)
                            refine hK.out _ _ ⟨(blk_cell BK281.out 0).trans rfl, (blk_cell BK281.out 1).trans rfl, (blk_cell BK281.out 2).trans rfl, (blk_cell BK282.out 0).trans rfl, (blk_cell BK282.out 1).trans rfl, (blk_cell BK282.out 2).trans rfl⟩ (fun hHeld => ?_)
                            clear hK K
                            refine norm_ (a' := ?_) ?_ ?_
                            rotate_left
                            · show Act.put _ (some 17) _ = _
                              simp only [Act.put, List.setIfInBounds_toArray, List.set_cons_zero, List.set_cons_succ, i64_w, i32_w]
                              rfl
                            exact norm_ (by first | (simp only [putAll, Act.put, List.setIfInBounds_toArray, List.set_cons_zero, List.set_cons_succ]; done) | (simp only [putAll, Act.put, List.setIfInBounds_toArray, List.set_cons_zero, List.set_cons_succ]; rfl)) (hJ1 () _ ⟨hHeld, (by (with_reducible repeat (first | apply Kd.R_alloc | apply Kd.R_drewN | apply Kd.R_drew)); exact Kd.R_mono HO285.out (fun _ hk => ⟨hk.1.2, hk.2⟩)), (pkW BK281), (pkW BK282), (pkL HB)⟩)
                          · skip
                            refine box_step ?hg (N := 7) ?hd (cs := #[.int .i64 0, .string (⟨#[]⟩ : ByteArray), .int .i64 0, .string (⟨#[]⟩ : ByteArray)]) (t := 43) ?hr ?_; (case hd => rfl); (case hg => rfl); (case hr => first | (go_simp; done) | (go_simp; rfl))
                            intro gb295 hg w19 hbox hb
                            have n0_ := Aside0.mk (Kd.R_below (by (with_reducible repeat (first | apply Kd.R_alloc | apply Kd.R_drewN | apply Kd.R_drew)); exact HO285.out) hb)
                            have n1_ := pkK BK281 hb
                            have n2_ := pkK BK282 hb
                            have n3_ := pkB HB hb
                            have n4_ := Aside0.mk (hbox)
                            have n5_ := pkG HB hg
                            have n6_ := pkG HB hg
                            have n7_ := pkN BK281 hg
                            have n8_ := pkM BK281 hg
                            have n9_ := pkN BK282 hg
                            have n10_ := pkM BK282 hg
                            clear HO285
                            clear BK281
                            clear BK282
                            clear HB
                            have HO285 := n0_
                            have BK281 := n1_
                            have BK282 := n2_
                            have HB := n3_
                            have BK295 := n4_
                            have GW295 := n5_
                            have GE295 := n6_
                            have NB281_295 := n7_
                            have NB295_281 := n8_
                            have NB282_295 := n9_
                            have NB295_282 := n10_
                            clear n0_ n1_ n2_ n3_ n4_ n5_ n6_ n7_ n8_ n9_ n10_
                            clear hb hbox hg
                            refine hK.out _ _ ⟨(blk_cell BK281.out 0).trans rfl, (blk_cell BK281.out 1).trans rfl, (blk_cell BK281.out 2).trans rfl, (blk_cell BK282.out 0).trans rfl, (blk_cell BK282.out 1).trans rfl, (blk_cell BK282.out 2).trans rfl⟩ (fun hHeld => ?_)
                            clear hK K
                            refine norm_ (a' := ?_) ?_ ?_
                            rotate_left
                            · show Act.put _ (some 7) _ = _
                              simp only [Act.put, List.setIfInBounds_toArray, List.set_cons_zero, List.set_cons_succ, i64_w, i32_w]
                              rfl
                            exact norm_ (by first | (simp only [putAll, Act.put, List.setIfInBounds_toArray, List.set_cons_zero, List.set_cons_succ]; done) | (simp only [putAll, Act.put, List.setIfInBounds_toArray, List.set_cons_zero, List.set_cons_succ]; rfl)) (hJ4 (gb295) _ ⟨hHeld, (by (with_reducible repeat (first | apply Kd.R_alloc | apply Kd.R_drewN | apply Kd.R_drew)); exact Kd.R_mono HO285.out (fun _ hk => ⟨hk.1.2, hk.2⟩)), (pkW BK281), (pkW BK282), (pkW BK295), GW295.out, GE295.out, NB281_295.out, NB295_281.out, NB282_295.out, NB295_282.out, (pkL HB)⟩)
                          · skip
                            refine box_step ?hg (N := 8) ?hd (cs := #[.int .i64 0, .string (⟨#[]⟩ : ByteArray), .int .i64 0, .string (⟨#[]⟩ : ByteArray)]) (t := 43) ?hr ?_; (case hd => rfl); (case hg => rfl); (case hr => first | (go_simp; done) | (go_simp; rfl))
                            intro gb296 hg w19 hbox hb
                            have n0_ := Aside0.mk (Kd.R_below (by (with_reducible repeat (first | apply Kd.R_alloc | apply Kd.R_drewN | apply Kd.R_drew)); exact HO285.out) hb)
                            have n1_ := pkK BK281 hb
                            have n2_ := pkK BK282 hb
                            have n3_ := pkB HB hb
                            have n4_ := Aside0.mk (hbox)
                            have n5_ := pkG HB hg
                            have n6_ := pkG HB hg
                            have n7_ := pkN BK281 hg
                            have n8_ := pkM BK281 hg
                            have n9_ := pkN BK282 hg
                            have n10_ := pkM BK282 hg
                            clear HO285
                            clear BK281
                            clear BK282
                            clear HB
                            have HO285 := n0_
                            have BK281 := n1_
                            have BK282 := n2_
                            have HB := n3_
                            have BK296 := n4_
                            have GW296 := n5_
                            have GE296 := n6_
                            have NB281_296 := n7_
                            have NB296_281 := n8_
                            have NB282_296 := n9_
                            have NB296_282 := n10_
                            clear n0_ n1_ n2_ n3_ n4_ n5_ n6_ n7_ n8_ n9_ n10_
                            clear hb hbox hg
                            refine hK.out _ _ ⟨(blk_cell BK281.out 0).trans rfl, (blk_cell BK281.out 1).trans rfl, (blk_cell BK281.out 2).trans rfl, (blk_cell BK282.out 0).trans rfl, (blk_cell BK282.out 1).trans rfl, (blk_cell BK282.out 2).trans rfl⟩ (fun hHeld => ?_)
                            clear hK K
                            refine norm_ (a' := ?_) ?_ ?_
                            rotate_left
                            · show Act.put _ (some 8) _ = _
                              simp only [Act.put, List.setIfInBounds_toArray, List.set_cons_zero, List.set_cons_succ, i64_w, i32_w]
                              rfl
                            exact norm_ (by first | (simp only [putAll, Act.put, List.setIfInBounds_toArray, List.set_cons_zero, List.set_cons_succ]; done) | (simp only [putAll, Act.put, List.setIfInBounds_toArray, List.set_cons_zero, List.set_cons_succ]; rfl)) (hJ5 (gb296) _ ⟨hHeld, (by (with_reducible repeat (first | apply Kd.R_alloc | apply Kd.R_drewN | apply Kd.R_drew)); exact Kd.R_mono HO285.out (fun _ hk => ⟨hk.1.2, hk.2⟩)), (pkW BK281), (pkW BK282), (pkW BK296), GW296.out, GE296.out, NB281_296.out, NB296_281.out, NB282_296.out, NB296_282.out, (pkL HB)⟩)
                        · skip
                          rintro gb296 w20 ⟨hS_, h0_, h1_, h2_, h3_, h4_, h5_, h6_, h7_, h8_, h9_, h10_⟩
                          have n0_ : Aside0 (Kd.R k28 28 w20 w.heap.size (fun k_ => k_ ≠ gb281 ∧ k_ ≠ gb282) (.slice Ao16 y283.length co16) y283) := ⟨h0_⟩
                          have n1_ : Aside0 (w20.heap[gb281]? = some (.cells #[.bool a0_0, .string a0_1, .string a0_2] 28 (0, 0))) := ⟨h1_⟩
                          have n2_ : Aside0 (w20.heap[gb282]? = some (.cells #[.bool a1_0, .string a1_1, .string a1_2] 28 (0, 0))) := ⟨h2_⟩
                          have n3_ : Aside0 (w20.heap[gb296]? = some (.cells #[.int .i64 0, .string (⟨#[]⟩ : ByteArray), .int .i64 0, .string (⟨#[]⟩ : ByteArray)] 43 (0, 0))) := ⟨h3_⟩
                          have n4_ : Aside0 (w.heap.size ≤ gb296) := ⟨h4_⟩
                          have n5_ : Aside0 (w.heap.size ≤ gb296) := ⟨h5_⟩
                          have n6_ : Aside0 (gb281 ≠ gb296) := ⟨h6_⟩
                          have n7_ : Aside0 (gb296 ≠ gb281) := ⟨h7_⟩
                          have n8_ : Aside0 (gb282 ≠ gb296) := ⟨h8_⟩
                          have n9_ : Aside0 (gb296 ≠ gb282) := ⟨h9_⟩
                          have n10_ : Aside0 (Below w.heap.size w w20) := ⟨h10_⟩
                          clear HO285
                          clear BK281
                          clear BK282
                          clear HB
                          clear h0_ h1_ h2_ h3_ h4_ h5_ h6_ h7_ h8_ h9_ h10_
                          have HO285 := n0_
                          have BK281 := n1_
                          have BK282 := n2_
                          have BK296 := n3_
                          have GW296 := n4_
                          have GE296 := n5_
                          have NB281_296 := n6_
                          have NB296_281 := n7_
                          have NB282_296 := n8_
                          have NB296_282 := n9_
                          have HB := n10_
                          clear n0_ n1_ n2_ n3_ n4_ n5_ n6_ n7_ n8_ n9_ n10_
                          have hHeld : w20.cell? ⟨gb281, 0, none⟩ = some (.bool a0_0) ∧ w20.cell? ⟨gb281, 1, none⟩ = some (.string a0_1) ∧ w20.cell? ⟨gb281, 2, none⟩ = some (.string a0_2) ∧ w20.cell? ⟨gb282, 0, none⟩ = some (.bool a1_0) ∧ w20.cell? ⟨gb282, 1, none⟩ = some (.string a1_1) ∧ w20.cell? ⟨gb282, 2, none⟩ = some (.string a1_2) := hS_
                          refine norm_ (a' := ?_) ?_ ?_
                          rotate_left
                          · simp only [putAll, Act.put, List.setIfInBounds_toArray, List.set_cons_zero, List.set_cons_succ]
                            rfl
                          refine two_ (i := 1) (j := 4) (Ni := some 17) (Nj := some 7) #[true, true, true, false, false, true, false, false] #[true, false, true, false, true, true, false, false] rfl rfl rfl rfl (two_of HT_.out (by kernel_rfl)) (by decide) (by decide) (fun K hK => ?_) (fun K hK => ?_)
                          · skip
                            refine g1_ Tryz.func14 #[.agg #[.bool a0_0, .string a0_1, .string a0_2]] (h := ?_)
                            with_reducible refine (interval_of.calls a0_0 a0_1 a0_2 t287 t288 t289 t290 _ A5.out).mono ?_
                            rintro e w21 ⟨rfl, hb⟩
                            refine ⟨_, rfl, ?_⟩
                            replace HO285 := Aside0.mk (Kd.R_below (by (with_reducible repeat (first | apply Kd.R_alloc | apply Kd.R_drewN | apply Kd.R_drew)); exact HO285.out) hb); replace BK281 := pkK BK281 hb; replace BK282 := pkK BK282 hb; replace BK296 := pkK BK296 hb; replace HB := pkB HB hb
                            (try clear hb)
                            (try clear hb2)
                            (try clear hk)
                            (try clear hi)
                            refine hK.out _ _ ⟨(blk_cell BK281.out 0).trans rfl, (blk_cell BK281.out 1).trans rfl, (blk_cell BK281.out 2).trans rfl, (blk_cell BK282.out 0).trans rfl, (blk_cell BK282.out 1).trans rfl, (blk_cell BK282.out 2).trans rfl⟩ (fun hHeld => ?_)
                            clear hK K
                            refine norm_ (a' := ?_) ?_ ?_
                            rotate_left
                            · show Act.put _ (some 17) _ = _
                              simp only [Act.put, List.setIfInBounds_toArray, List.set_cons_zero, List.set_cons_succ, i64_w, i32_w]
                              rfl
                            exact norm_ (by first | (simp only [putAll, Act.put, List.setIfInBounds_toArray, List.set_cons_zero, List.set_cons_succ]; done) | (simp only [putAll, Act.put, List.setIfInBounds_toArray, List.set_cons_zero, List.set_cons_succ]; rfl)) (hJ1_5 (gb296) _ ⟨hHeld, (by (with_reducible repeat (first | apply Kd.R_alloc | apply Kd.R_drewN | apply Kd.R_drew)); exact HO285.out), (pkW BK281), (pkW BK282), (pkW BK296), GW296.out, GE296.out, NB281_296.out, NB296_281.out, NB282_296.out, NB296_282.out, (pkL HB)⟩)
                          · skip
                            refine box_step ?hg (N := 7) ?hd (cs := #[.int .i64 0, .string (⟨#[]⟩ : ByteArray), .int .i64 0, .string (⟨#[]⟩ : ByteArray)]) (t := 43) ?hr ?_; (case hd => rfl); (case hg => rfl); (case hr => first | (go_simp; done) | (go_simp; rfl))
                            intro gb295 hg w21 hbox hb
                            have n0_ := Aside0.mk (Kd.R_below (by (with_reducible repeat (first | apply Kd.R_alloc | apply Kd.R_drewN | apply Kd.R_drew)); exact HO285.out) hb)
                            have n1_ := pkK BK281 hb
                            have n2_ := pkK BK282 hb
                            have n3_ := pkK BK296 hb
                            have n4_ := pkB HB hb
                            have n5_ := Aside0.mk (hbox)
                            have n6_ := pkG HB hg
                            have n7_ := pkG HB hg
                            have n8_ := pkN BK281 hg
                            have n9_ := pkM BK281 hg
                            have n10_ := pkN BK282 hg
                            have n11_ := pkM BK282 hg
                            have n12_ := pkN BK296 hg
                            have n13_ := pkM BK296 hg
                            clear HO285
                            clear BK281
                            clear BK282
                            clear BK296
                            clear HB
                            have HO285 := n0_
                            have BK281 := n1_
                            have BK282 := n2_
                            have BK296 := n3_
                            have HB := n4_
                            have BK295 := n5_
                            have GW295 := n6_
                            have GE295 := n7_
                            have NB281_295 := n8_
                            have NB295_281 := n9_
                            have NB282_295 := n10_
                            have NB295_282 := n11_
                            have NB296_295 := n12_
                            have NB295_296 := n13_
                            clear n0_ n1_ n2_ n3_ n4_ n5_ n6_ n7_ n8_ n9_ n10_ n11_ n12_ n13_
                            clear hb hbox hg
                            refine hK.out _ _ ⟨(blk_cell BK281.out 0).trans rfl, (blk_cell BK281.out 1).trans rfl, (blk_cell BK281.out 2).trans rfl, (blk_cell BK282.out 0).trans rfl, (blk_cell BK282.out 1).trans rfl, (blk_cell BK282.out 2).trans rfl⟩ (fun hHeld => ?_)
                            clear hK K
                            refine norm_ (a' := ?_) ?_ ?_
                            rotate_left
                            · show Act.put _ (some 7) _ = _
                              simp only [Act.put, List.setIfInBounds_toArray, List.set_cons_zero, List.set_cons_succ, i64_w, i32_w]
                              rfl
                            exact norm_ (by first | (simp only [putAll, Act.put, List.setIfInBounds_toArray, List.set_cons_zero, List.set_cons_succ]; done) | (simp only [putAll, Act.put, List.setIfInBounds_toArray, List.set_cons_zero, List.set_cons_succ]; rfl)) (hJ4_5 (gb295, gb296) _ ⟨hHeld, (by (with_reducible repeat (first | apply Kd.R_alloc | apply Kd.R_drewN | apply Kd.R_drew)); exact HO285.out), (pkW BK281), (pkW BK282), (pkW BK295), (pkW BK296), GW295.out, GE295.out, NB281_295.out, NB295_281.out, NB282_295.out, NB295_282.out, NB296_295.out, NB295_296.out, GW296.out, GE296.out, NB281_296.out, NB296_281.out, NB282_296.out, NB296_282.out, (pkL HB)⟩)
                      · skip
                        rintro gb295 w20 ⟨hS_, h0_, h1_, h2_, h3_, h4_, h5_, h6_, h7_, h8_, h9_, h10_⟩
                        have n0_ : Aside0 (Kd.R k28 28 w20 w.heap.size (fun k_ => k_ ≠ gb281 ∧ k_ ≠ gb282) (.slice Ao16 y283.length co16) y283) := ⟨h0_⟩
                        have n1_ : Aside0 (w20.heap[gb281]? = some (.cells #[.bool a0_0, .string a0_1, .string a0_2] 28 (0, 0))) := ⟨h1_⟩
                        have n2_ : Aside0 (w20.heap[gb282]? = some (.cells #[.bool a1_0, .string a1_1, .string a1_2] 28 (0, 0))) := ⟨h2_⟩
                        have n3_ : Aside0 (w20.heap[gb295]? = some (.cells #[.int .i64 0, .string (⟨#[]⟩ : ByteArray), .int .i64 0, .string (⟨#[]⟩ : ByteArray)] 43 (0, 0))) := ⟨h3_⟩
                        have n4_ : Aside0 (w.heap.size ≤ gb295) := ⟨h4_⟩
                        have n5_ : Aside0 (w.heap.size ≤ gb295) := ⟨h5_⟩
                        have n6_ : Aside0 (gb281 ≠ gb295) := ⟨h6_⟩
                        have n7_ : Aside0 (gb295 ≠ gb281) := ⟨h7_⟩
                        have n8_ : Aside0 (gb282 ≠ gb295) := ⟨h8_⟩
                        have n9_ : Aside0 (gb295 ≠ gb282) := ⟨h9_⟩
                        have n10_ : Aside0 (Below w.heap.size w w20) := ⟨h10_⟩
                        clear HO285
                        clear BK281
                        clear BK282
                        clear HB
                        clear h0_ h1_ h2_ h3_ h4_ h5_ h6_ h7_ h8_ h9_ h10_
                        have HO285 := n0_
                        have BK281 := n1_
                        have BK282 := n2_
                        have BK295 := n3_
                        have GW295 := n4_
                        have GE295 := n5_
                        have NB281_295 := n6_
                        have NB295_281 := n7_
                        have NB282_295 := n8_
                        have NB295_282 := n9_
                        have HB := n10_
                        clear n0_ n1_ n2_ n3_ n4_ n5_ n6_ n7_ n8_ n9_ n10_
                        have hHeld : w20.cell? ⟨gb281, 0, none⟩ = some (.bool a0_0) ∧ w20.cell? ⟨gb281, 1, none⟩ = some (.string a0_1) ∧ w20.cell? ⟨gb281, 2, none⟩ = some (.string a0_2) ∧ w20.cell? ⟨gb282, 0, none⟩ = some (.bool a1_0) ∧ w20.cell? ⟨gb282, 1, none⟩ = some (.string a1_1) ∧ w20.cell? ⟨gb282, 2, none⟩ = some (.string a1_2) := hS_
                        refine norm_ (a' := ?_) ?_ ?_
                        rotate_left
                        · simp only [putAll, Act.put, List.setIfInBounds_toArray, List.set_cons_zero, List.set_cons_succ]
                          rfl
                        refine two_ (i := 1) (j := 5) (Ni := some 17) (Nj := some 8) #[true, true, true, false, true, false, false, false] #[true, false, true, false, true, true, false, false] rfl rfl rfl rfl (two_of HT_.out (by kernel_rfl)) (by decide) (by decide) (fun K hK => ?_) (fun K hK => ?_)
                        · skip
                          refine g1_ Tryz.func14 #[.agg #[.bool a0_0, .string a0_1, .string a0_2]] (h := ?_)
                          with_reducible refine (interval_of.calls a0_0 a0_1 a0_2 t287 t288 t289 t290 _ A5.out).mono ?_
                          rintro e w21 ⟨rfl, hb⟩
                          refine ⟨_, rfl, ?_⟩
                          replace HO285 := Aside0.mk (Kd.R_below (by (with_reducible repeat (first | apply Kd.R_alloc | apply Kd.R_drewN | apply Kd.R_drew)); exact HO285.out) hb); replace BK281 := pkK BK281 hb; replace BK282 := pkK BK282 hb; replace BK295 := pkK BK295 hb; replace HB := pkB HB hb
                          (try clear hb)
                          (try clear hb2)
                          (try clear hk)
                          (try clear hi)
                          refine hK.out _ _ ⟨(blk_cell BK281.out 0).trans rfl, (blk_cell BK281.out 1).trans rfl, (blk_cell BK281.out 2).trans rfl, (blk_cell BK282.out 0).trans rfl, (blk_cell BK282.out 1).trans rfl, (blk_cell BK282.out 2).trans rfl⟩ (fun hHeld => ?_)
                          clear hK K
                          refine norm_ (a' := ?_) ?_ ?_
                          rotate_left
                          · show Act.put _ (some 17) _ = _
                            simp only [Act.put, List.setIfInBounds_toArray, List.set_cons_zero, List.set_cons_succ, i64_w, i32_w]
                            rfl
                          exact norm_ (by first | (simp only [putAll, Act.put, List.setIfInBounds_toArray, List.set_cons_zero, List.set_cons_succ]; done) | (simp only [putAll, Act.put, List.setIfInBounds_toArray, List.set_cons_zero, List.set_cons_succ]; rfl)) (hJ1_4 (gb295) _ ⟨hHeld, (by (with_reducible repeat (first | apply Kd.R_alloc | apply Kd.R_drewN | apply Kd.R_drew)); exact HO285.out), (pkW BK281), (pkW BK282), (pkW BK295), GW295.out, GE295.out, NB281_295.out, NB295_281.out, NB282_295.out, NB295_282.out, (pkL HB)⟩)
                        · skip
                          refine box_step ?hg (N := 8) ?hd (cs := #[.int .i64 0, .string (⟨#[]⟩ : ByteArray), .int .i64 0, .string (⟨#[]⟩ : ByteArray)]) (t := 43) ?hr ?_; (case hd => rfl); (case hg => rfl); (case hr => first | (go_simp; done) | (go_simp; rfl))
                          intro gb296 hg w21 hbox hb
                          have n0_ := Aside0.mk (Kd.R_below (by (with_reducible repeat (first | apply Kd.R_alloc | apply Kd.R_drewN | apply Kd.R_drew)); exact HO285.out) hb)
                          have n1_ := pkK BK281 hb
                          have n2_ := pkK BK282 hb
                          have n3_ := pkK BK295 hb
                          have n4_ := pkB HB hb
                          have n5_ := Aside0.mk (hbox)
                          have n6_ := pkG HB hg
                          have n7_ := pkG HB hg
                          have n8_ := pkN BK281 hg
                          have n9_ := pkM BK281 hg
                          have n10_ := pkN BK282 hg
                          have n11_ := pkM BK282 hg
                          have n12_ := pkN BK295 hg
                          have n13_ := pkM BK295 hg
                          clear HO285
                          clear BK281
                          clear BK282
                          clear BK295
                          clear HB
                          have HO285 := n0_
                          have BK281 := n1_
                          have BK282 := n2_
                          have BK295 := n3_
                          have HB := n4_
                          have BK296 := n5_
                          have GW296 := n6_
                          have GE296 := n7_
                          have NB281_296 := n8_
                          have NB296_281 := n9_
                          have NB282_296 := n10_
                          have NB296_282 := n11_
                          have NB295_296 := n12_
                          have NB296_295 := n13_
                          clear n0_ n1_ n2_ n3_ n4_ n5_ n6_ n7_ n8_ n9_ n10_ n11_ n12_ n13_
                          clear hb hbox hg
                          refine hK.out _ _ ⟨(blk_cell BK281.out 0).trans rfl, (blk_cell BK281.out 1).trans rfl, (blk_cell BK281.out 2).trans rfl, (blk_cell BK282.out 0).trans rfl, (blk_cell BK282.out 1).trans rfl, (blk_cell BK282.out 2).trans rfl⟩ (fun hHeld => ?_)
                          clear hK K
                          refine norm_ (a' := ?_) ?_ ?_
                          rotate_left
                          · show Act.put _ (some 8) _ = _
                            simp only [Act.put, List.setIfInBounds_toArray, List.set_cons_zero, List.set_cons_succ, i64_w, i32_w]
                            rfl
                          exact norm_ (by first | (simp only [putAll, Act.put, List.setIfInBounds_toArray, List.set_cons_zero, List.set_cons_succ]; done) | (simp only [putAll, Act.put, List.setIfInBounds_toArray, List.set_cons_zero, List.set_cons_succ]; rfl)) (hJ4_5 (gb295, gb296) _ ⟨hHeld, (by (with_reducible repeat (first | apply Kd.R_alloc | apply Kd.R_drewN | apply Kd.R_drew)); exact HO285.out), (pkW BK281), (pkW BK282), (pkW BK295), (pkW BK296), GW295.out, GE295.out, NB281_295.out, NB295_281.out, NB282_295.out, NB295_282.out, NB296_295.out, NB295_296.out, GW296.out, GE296.out, NB281_296.out, NB296_281.out, NB282_296.out, NB296_282.out, (pkL HB)⟩)
                    · skip
                      rintro _ w20 ⟨hS_, h0_, h1_, h2_, h3_⟩
                      have n0_ : Aside0 (Kd.R k28 28 w20 w.heap.size (fun k_ => k_ ≠ gb281 ∧ k_ ≠ gb282) (.slice Ao16 y283.length co16) y283) := ⟨h0_⟩
                      have n1_ : Aside0 (w20.heap[gb281]? = some (.cells #[.bool a0_0, .string a0_1, .string a0_2] 28 (0, 0))) := ⟨h1_⟩
                      have n2_ : Aside0 (w20.heap[gb282]? = some (.cells #[.bool a1_0, .string a1_1, .string a1_2] 28 (0, 0))) := ⟨h2_⟩
                      have n3_ : Aside0 (Below w.heap.size w w20) := ⟨h3_⟩
                      clear HO285
                      clear BK281
                      clear BK282
                      clear HB
                      clear h0_ h1_ h2_ h3_
                      have HO285 := n0_
                      have BK281 := n1_
                      have BK282 := n2_
                      have HB := n3_
                      clear n0_ n1_ n2_ n3_
                      have hHeld : w20.cell? ⟨gb281, 0, none⟩ = some (.bool a0_0) ∧ w20.cell? ⟨gb281, 1, none⟩ = some (.string a0_1) ∧ w20.cell? ⟨gb281, 2, none⟩ = some (.string a0_2) ∧ w20.cell? ⟨gb282, 0, none⟩ = some (.bool a1_0) ∧ w20.cell? ⟨gb282, 1, none⟩ = some (.string a1_1) ∧ w20.cell? ⟨gb282, 2, none⟩ = some (.string a1_2) := hS_
                      refine norm_ (a' := ?_) ?_ ?_
                      rotate_left
                      · simp only [putAll, Act.put, List.setIfInBounds_toArray, List.set_cons_zero, List.set_cons_succ]
                        rfl
                      refine three_ (i := 3) (j := 4) (k := 5) (Ni := some 19) (Nj := some 7) (Nk := some 8) #[true, true, true, true, false, false, false, false] #[true, true, true, false, true, false, false, false] #[true, true, true, false, false, true, false, false] rfl rfl rfl rfl rfl rfl (three_of HT_.out (by kernel_rfl)) (by decide) (by decide) (by decide) (fun K hK => ?_) (fun K hK => ?_) (fun K hK => ?_)
                      · skip
                        refine g1_ Tryz.func14 #[.agg #[.bool a1_0, .string a1_1, .string a1_2]] (h := ?_)
                        with_reducible refine (interval_of.calls a1_0 a1_1 a1_2 t291 t292 t293 t294 _ A6.out).mono ?_
                        rintro e w21 ⟨rfl, hb⟩
                        refine ⟨_, rfl, ?_⟩
                        replace HO285 := Aside0.mk (Kd.R_below (by (with_reducible repeat (first | apply Kd.R_alloc | apply Kd.R_drewN | apply Kd.R_drew)); exact HO285.out) hb); replace BK281 := pkK BK281 hb; replace BK282 := pkK BK282 hb; replace HB := pkB HB hb
                        (try clear hb)
                        (try clear hb2)
                        (try clear hk)
                        (try clear hi)
                        refine hK.out _ _ ⟨(blk_cell BK281.out 0).trans rfl, (blk_cell BK281.out 1).trans rfl, (blk_cell BK281.out 2).trans rfl, (blk_cell BK282.out 0).trans rfl, (blk_cell BK282.out 1).trans rfl, (blk_cell BK282.out 2).trans rfl⟩ (fun hHeld => ?_)
                        clear hK K
                        refine norm_ (a' := ?_) ?_ ?_
                        rotate_left
                        · show Act.put _ (some 19) _ = _
                          simp only [Act.put, List.setIfInBounds_toArray, List.set_cons_zero, List.set_cons_succ, i64_w, i32_w]
                          rfl
                        exact norm_ (by first | (simp only [putAll, Act.put, List.setIfInBounds_toArray, List.set_cons_zero, List.set_cons_succ]; done) | (simp only [putAll, Act.put, List.setIfInBounds_toArray, List.set_cons_zero, List.set_cons_succ]; rfl)) (hJ1_3 () _ ⟨hHeld, (by (with_reducible repeat (first | apply Kd.R_alloc | apply Kd.R_drewN | apply Kd.R_drew)); exact HO285.out), (pkW BK281), (pkW BK282), (pkL HB)⟩)
                      · skip
                        refine box_step ?hg (N := 7) ?hd (cs := #[.int .i64 0, .string (⟨#[]⟩ : ByteArray), .int .i64 0, .string (⟨#[]⟩ : ByteArray)]) (t := 43) ?hr ?_; (case hd => rfl); (case hg => rfl); (case hr => first | (go_simp; done) | (go_simp; rfl))
                        intro gb295 hg w21 hbox hb
                        have n0_ := Aside0.mk (Kd.R_below (by (with_reducible repeat (first | apply Kd.R_alloc | apply Kd.R_drewN | apply Kd.R_drew)); exact HO285.out) hb)
                        have n1_ := pkK BK281 hb
                        have n2_ := pkK BK282 hb
                        have n3_ := pkB HB hb
                        have n4_ := Aside0.mk (hbox)
                        have n5_ := pkG HB hg
                        have n6_ := pkG HB hg
                        have n7_ := pkN BK281 hg
                        have n8_ := pkM BK281 hg
                        have n9_ := pkN BK282 hg
                        have n10_ := pkM BK282 hg
                        clear HO285
                        clear BK281
                        clear BK282
                        clear HB
                        have HO285 := n0_
                        have BK281 := n1_
                        have BK282 := n2_
                        have HB := n3_
                        have BK295 := n4_
                        have GW295 := n5_
                        have GE295 := n6_
                        have NB281_295 := n7_
                        have NB295_281 := n8_
                        have NB282_295 := n9_
                        have NB295_282 := n10_
                        clear n0_ n1_ n2_ n3_ n4_ n5_ n6_ n7_ n8_ n9_ n10_
                        clear hb hbox hg
                        refine hK.out _ _ ⟨(blk_cell BK281.out 0).trans rfl, (blk_cell BK281.out 1).trans rfl, (blk_cell BK281.out 2).trans rfl, (blk_cell BK282.out 0).trans rfl, (blk_cell BK282.out 1).trans rfl, (blk_cell BK282.out 2).trans rfl⟩ (fun hHeld => ?_)
                        clear hK K
                        refine norm_ (a' := ?_) ?_ ?_
                        rotate_left
                        · show Act.put _ (some 7) _ = _
                          simp only [Act.put, List.setIfInBounds_toArray, List.set_cons_zero, List.set_cons_succ, i64_w, i32_w]
                          rfl
                        exact norm_ (by first | (simp only [putAll, Act.put, List.setIfInBounds_toArray, List.set_cons_zero, List.set_cons_succ]; done) | (simp only [putAll, Act.put, List.setIfInBounds_toArray, List.set_cons_zero, List.set_cons_succ]; rfl)) (hJ1_4 (gb295) _ ⟨hHeld, (by (with_reducible repeat (first | apply Kd.R_alloc | apply Kd.R_drewN | apply Kd.R_drew)); exact HO285.out), (pkW BK281), (pkW BK282), (pkW BK295), GW295.out, GE295.out, NB281_295.out, NB295_281.out, NB282_295.out, NB295_282.out, (pkL HB)⟩)
                      · skip
                        refine box_step ?hg (N := 8) ?hd (cs := #[.int .i64 0, .string (⟨#[]⟩ : ByteArray), .int .i64 0, .string (⟨#[]⟩ : ByteArray)]) (t := 43) ?hr ?_; (case hd => rfl); (case hg => rfl); (case hr => first | (go_simp; done) | (go_simp; rfl))
                        intro gb296 hg w21 hbox hb
                        have n0_ := Aside0.mk (Kd.R_below (by (with_reducible repeat (first | apply Kd.R_alloc | apply Kd.R_drewN | apply Kd.R_drew)); exact HO285.out) hb)
                        have n1_ := pkK BK281 hb
                        have n2_ := pkK BK282 hb
                        have n3_ := pkB HB hb
                        have n4_ := Aside0.mk (hbox)
                        have n5_ := pkG HB hg
                        have n6_ := pkG HB hg
                        have n7_ := pkN BK281 hg
                        have n8_ := pkM BK281 hg
                        have n9_ := pkN BK282 hg
                        have n10_ := pkM BK282 hg
                        clear HO285
                        clear BK281
                        clear BK282
                        clear HB
                        have HO285 := n0_
                        have BK281 := n1_
                        have BK282 := n2_
                        have HB := n3_
                        have BK296 := n4_
                        have GW296 := n5_
                        have GE296 := n6_
                        have NB281_296 := n7_
                        have NB296_281 := n8_
                        have NB282_296 := n9_
                        have NB296_282 := n10_
                        clear n0_ n1_ n2_ n3_ n4_ n5_ n6_ n7_ n8_ n9_ n10_
                        clear hb hbox hg
                        refine hK.out _ _ ⟨(blk_cell BK281.out 0).trans rfl, (blk_cell BK281.out 1).trans rfl, (blk_cell BK281.out 2).trans rfl, (blk_cell BK282.out 0).trans rfl, (blk_cell BK282.out 1).trans rfl, (blk_cell BK282.out 2).trans rfl⟩ (fun hHeld => ?_)
                        clear hK K
                        refine norm_ (a' := ?_) ?_ ?_
                        rotate_left
                        · show Act.put _ (some 8) _ = _
                          simp only [Act.put, List.setIfInBounds_toArray, List.set_cons_zero, List.set_cons_succ, i64_w, i32_w]
                          rfl
                        exact norm_ (by first | (simp only [putAll, Act.put, List.setIfInBounds_toArray, List.set_cons_zero, List.set_cons_succ]; done) | (simp only [putAll, Act.put, List.setIfInBounds_toArray, List.set_cons_zero, List.set_cons_succ]; rfl)) (hJ1_5 (gb296) _ ⟨hHeld, (by (with_reducible repeat (first | apply Kd.R_alloc | apply Kd.R_drewN | apply Kd.R_drew)); exact HO285.out), (pkW BK281), (pkW BK282), (pkW BK296), GW296.out, GE296.out, NB281_296.out, NB296_281.out, NB282_296.out, NB296_282.out, (pkL HB)⟩)
                  · skip
                    rintro ⟨gb295, gb296⟩ w21 ⟨hS_, h0_, h1_, h2_, h3_, h4_, h5_, h6_, h7_, h8_, h9_, h10_, h11_, h12_, h13_, h14_, h15_, h16_, h17_, h18_, h19_⟩
                    have n0_ : Aside0 (Kd.R k28 28 w21 w.heap.size (fun k_ => k_ ≠ gb281 ∧ k_ ≠ gb282) (.slice Ao16 y283.length co16) y283) := ⟨h0_⟩
                    have n1_ : Aside0 (w21.heap[gb281]? = some (.cells #[.bool a0_0, .string a0_1, .string a0_2] 28 (0, 0))) := ⟨h1_⟩
                    have n2_ : Aside0 (w21.heap[gb282]? = some (.cells #[.bool a1_0, .string a1_1, .string a1_2] 28 (0, 0))) := ⟨h2_⟩
                    have n3_ : Aside0 (w21.heap[gb295]? = some (.cells #[.int .i64 0, .string (⟨#[]⟩ : ByteArray), .int .i64 0, .string (⟨#[]⟩ : ByteArray)] 43 (0, 0))) := ⟨h3_⟩
                    have n4_ : Aside0 (w21.heap[gb296]? = some (.cells #[.int .i64 0, .string (⟨#[]⟩ : ByteArray), .int .i64 0, .string (⟨#[]⟩ : ByteArray)] 43 (0, 0))) := ⟨h4_⟩
                    have n5_ : Aside0 (w.heap.size ≤ gb295) := ⟨h5_⟩
                    have n6_ : Aside0 (w.heap.size ≤ gb295) := ⟨h6_⟩
                    have n7_ : Aside0 (gb281 ≠ gb295) := ⟨h7_⟩
                    have n8_ : Aside0 (gb295 ≠ gb281) := ⟨h8_⟩
                    have n9_ : Aside0 (gb282 ≠ gb295) := ⟨h9_⟩
                    have n10_ : Aside0 (gb295 ≠ gb282) := ⟨h10_⟩
                    have n11_ : Aside0 (gb296 ≠ gb295) := ⟨h11_⟩
                    have n12_ : Aside0 (gb295 ≠ gb296) := ⟨h12_⟩
                    have n13_ : Aside0 (w.heap.size ≤ gb296) := ⟨h13_⟩
                    have n14_ : Aside0 (w.heap.size ≤ gb296) := ⟨h14_⟩
                    have n15_ : Aside0 (gb281 ≠ gb296) := ⟨h15_⟩
                    have n16_ : Aside0 (gb296 ≠ gb281) := ⟨h16_⟩
                    have n17_ : Aside0 (gb282 ≠ gb296) := ⟨h17_⟩
                    have n18_ : Aside0 (gb296 ≠ gb282) := ⟨h18_⟩
                    have n19_ : Aside0 (Below w.heap.size w w21) := ⟨h19_⟩
                    clear HO285
                    clear BK281
                    clear BK282
                    clear HB
                    clear h0_ h1_ h2_ h3_ h4_ h5_ h6_ h7_ h8_ h9_ h10_ h11_ h12_ h13_ h14_ h15_ h16_ h17_ h18_ h19_
                    have HO285 := n0_
                    have BK281 := n1_
                    have BK282 := n2_
                    have BK295 := n3_
                    have BK296 := n4_
                    have GW295 := n5_
                    have GE295 := n6_
                    have NB281_295 := n7_
                    have NB295_281 := n8_
                    have NB282_295 := n9_
                    have NB295_282 := n10_
                    have NB296_295 := n11_
                    have NB295_296 := n12_
                    have GW296 := n13_
                    have GE296 := n14_
                    have NB281_296 := n15_
                    have NB296_281 := n16_
                    have NB282_296 := n17_
                    have NB296_282 := n18_
                    have HB := n19_
                    clear n0_ n1_ n2_ n3_ n4_ n5_ n6_ n7_ n8_ n9_ n10_ n11_ n12_ n13_ n14_ n15_ n16_ n17_ n18_ n19_
                    have hHeld : w21.cell? ⟨gb281, 0, none⟩ = some (.bool a0_0) ∧ w21.cell? ⟨gb281, 1, none⟩ = some (.string a0_1) ∧ w21.cell? ⟨gb281, 2, none⟩ = some (.string a0_2) ∧ w21.cell? ⟨gb282, 0, none⟩ = some (.bool a1_0) ∧ w21.cell? ⟨gb282, 1, none⟩ = some (.string a1_1) ∧ w21.cell? ⟨gb282, 2, none⟩ = some (.string a1_2) := hS_
                    refine norm_ (a' := ?_) ?_ ?_
                    rotate_left
                    · simp only [putAll, Act.put, List.setIfInBounds_toArray, List.set_cons_zero, List.set_cons_succ]
                      rfl
                    refine on_ 1 17 (h := fun K hK => ?_)
                    refine g1_ Tryz.func14 #[.agg #[.bool a0_0, .string a0_1, .string a0_2]] (h := ?_)
                    with_reducible refine (interval_of.calls a0_0 a0_1 a0_2 t287 t288 t289 t290 _ A5.out).mono ?_
                    rintro e w22 ⟨rfl, hb⟩
                    refine ⟨_, rfl, ?_⟩
                    replace HO285 := Aside0.mk (Kd.R_below (by (with_reducible repeat (first | apply Kd.R_alloc | apply Kd.R_drewN | apply Kd.R_drew)); exact HO285.out) hb); replace BK281 := pkK BK281 hb; replace BK282 := pkK BK282 hb; replace BK295 := pkK BK295 hb; replace BK296 := pkK BK296 hb; replace HB := pkB HB hb
                    (try clear hb)
                    (try clear hb2)
                    (try clear hk)
                    (try clear hi)
                    refine hK.out _ _ ⟨(blk_cell BK281.out 0).trans rfl, (blk_cell BK281.out 1).trans rfl, (blk_cell BK281.out 2).trans rfl, (blk_cell BK282.out 0).trans rfl, (blk_cell BK282.out 1).trans rfl, (blk_cell BK282.out 2).trans rfl⟩ (fun hHeld => ?_)
                    clear hK K
                    refine norm_ (a' := ?_) ?_ ?_
                    rotate_left
                    · show Act.put _ (some 17) _ = _
                      simp only [Act.put, List.setIfInBounds_toArray, List.set_cons_zero, List.set_cons_succ, i64_w, i32_w]
                      rfl
                    exact norm_ (by first | (simp only [putAll, Act.put, List.setIfInBounds_toArray, List.set_cons_zero, List.set_cons_succ]; done) | (simp only [putAll, Act.put, List.setIfInBounds_toArray, List.set_cons_zero, List.set_cons_succ]; rfl)) (hJ1_4_5 (gb295, gb296) _ ⟨hHeld, (by (with_reducible repeat (first | apply Kd.R_alloc | apply Kd.R_drewN | apply Kd.R_drew)); exact HO285.out), (pkW BK281), (pkW BK282), (pkW BK295), (pkW BK296), GW295.out, GE295.out, NB281_295.out, NB295_281.out, NB282_295.out, NB295_282.out, NB296_295.out, NB295_296.out, GW296.out, GE296.out, NB281_296.out, NB296_281.out, NB282_296.out, NB296_282.out, (pkL HB)⟩)
                · skip
                  rintro gb296 w21 ⟨hS_, h0_, h1_, h2_, h3_, h4_, h5_, h6_, h7_, h8_, h9_, h10_⟩
                  have n0_ : Aside0 (Kd.R k28 28 w21 w.heap.size (fun k_ => k_ ≠ gb281 ∧ k_ ≠ gb282) (.slice Ao16 y283.length co16) y283) := ⟨h0_⟩
                  have n1_ : Aside0 (w21.heap[gb281]? = some (.cells #[.bool a0_0, .string a0_1, .string a0_2] 28 (0, 0))) := ⟨h1_⟩
                  have n2_ : Aside0 (w21.heap[gb282]? = some (.cells #[.bool a1_0, .string a1_1, .string a1_2] 28 (0, 0))) := ⟨h2_⟩
                  have n3_ : Aside0 (w21.heap[gb296]? = some (.cells #[.int .i64 0, .string (⟨#[]⟩ : ByteArray), .int .i64 0, .string (⟨#[]⟩ : ByteArray)] 43 (0, 0))) := ⟨h3_⟩
                  have n4_ : Aside0 (w.heap.size ≤ gb296) := ⟨h4_⟩
                  have n5_ : Aside0 (w.heap.size ≤ gb296) := ⟨h5_⟩
                  have n6_ : Aside0 (gb281 ≠ gb296) := ⟨h6_⟩
                  have n7_ : Aside0 (gb296 ≠ gb281) := ⟨h7_⟩
                  have n8_ : Aside0 (gb282 ≠ gb296) := ⟨h8_⟩
                  have n9_ : Aside0 (gb296 ≠ gb282) := ⟨h9_⟩
                  have n10_ : Aside0 (Below w.heap.size w w21) := ⟨h10_⟩
                  clear HO285
                  clear BK281
                  clear BK282
                  clear HB
                  clear h0_ h1_ h2_ h3_ h4_ h5_ h6_ h7_ h8_ h9_ h10_
                  have HO285 := n0_
                  have BK281 := n1_
                  have BK282 := n2_
                  have BK296 := n3_
                  have GW296 := n4_
                  have GE296 := n5_
                  have NB281_296 := n6_
                  have NB296_281 := n7_
                  have NB282_296 := n8_
                  have NB296_282 := n9_
                  have HB := n10_
                  clear n0_ n1_ n2_ n3_ n4_ n5_ n6_ n7_ n8_ n9_ n10_
                  have hHeld : w21.cell? ⟨gb281, 0, none⟩ = some (.bool a0_0) ∧ w21.cell? ⟨gb281, 1, none⟩ = some (.string a0_1) ∧ w21.cell? ⟨gb281, 2, none⟩ = some (.string a0_2) ∧ w21.cell? ⟨gb282, 0, none⟩ = some (.bool a1_0) ∧ w21.cell? ⟨gb282, 1, none⟩ = some (.string a1_1) ∧ w21.cell? ⟨gb282, 2, none⟩ = some (.string a1_2) := hS_
                  refine norm_ (a' := ?_) ?_ ?_
                  rotate_left
                  · simp only [putAll, Act.put, List.setIfInBounds_toArray, List.set_cons_zero, List.set_cons_succ]
                    rfl
                  refine two_ (i := 3) (j := 4) (Ni := some 19) (Nj := some 7) #[true, true, true, true, false, true, false, false] #[true, true, true, false, true, true, false, false] rfl rfl rfl rfl (two_of HT_.out (by kernel_rfl)) (by decide) (by decide) (fun K hK => ?_) (fun K hK => ?_)
                  · skip
                    refine g1_ Tryz.func14 #[.agg #[.bool a1_0, .string a1_1, .string a1_2]] (h := ?_)
                    with_reducible refine (interval_of.calls a1_0 a1_1 a1_2 t291 t292 t293 t294 _ A6.out).mono ?_
                    rintro e w22 ⟨rfl, hb⟩
                    refine ⟨_, rfl, ?_⟩
                    replace HO285 := Aside0.mk (Kd.R_below (by (with_reducible repeat (first | apply Kd.R_alloc | apply Kd.R_drewN | apply Kd.R_drew)); exact HO285.out) hb); replace BK281 := pkK BK281 hb; replace BK282 := pkK BK282 hb; replace BK296 := pkK BK296 hb; replace HB := pkB HB hb
                    (try clear hb)
                    (try clear hb2)
                    (try clear hk)
                    (try clear hi)
                    refine hK.out _ _ ⟨(blk_cell BK281.out 0).trans rfl, (blk_cell BK281.out 1).trans rfl, (blk_cell BK281.out 2).trans rfl, (blk_cell BK282.out 0).trans rfl, (blk_cell BK282.out 1).trans rfl, (blk_cell BK282.out 2).trans rfl⟩ (fun hHeld => ?_)
                    clear hK K
                    refine norm_ (a' := ?_) ?_ ?_
                    rotate_left
                    · show Act.put _ (some 19) _ = _
                      simp only [Act.put, List.setIfInBounds_toArray, List.set_cons_zero, List.set_cons_succ, i64_w, i32_w]
                      rfl
                    exact norm_ (by first | (simp only [putAll, Act.put, List.setIfInBounds_toArray, List.set_cons_zero, List.set_cons_succ]; done) | (simp only [putAll, Act.put, List.setIfInBounds_toArray, List.set_cons_zero, List.set_cons_succ]; rfl)) (hJ1_3_5 (gb296) _ ⟨hHeld, (by (with_reducible repeat (first | apply Kd.R_alloc | apply Kd.R_drewN | apply Kd.R_drew)); exact HO285.out), (pkW BK281), (pkW BK282), (pkW BK296), GW296.out, GE296.out, NB281_296.out, NB296_281.out, NB282_296.out, NB296_282.out, (pkL HB)⟩)
                  · skip
                    refine box_step ?hg (N := 7) ?hd (cs := #[.int .i64 0, .string (⟨#[]⟩ : ByteArray), .int .i64 0, .string (⟨#[]⟩ : ByteArray)]) (t := 43) ?hr ?_; (case hd => rfl); (case hg => rfl); (case hr => first | (go_simp; done) | (go_simp; rfl))
                    intro gb295 hg w22 hbox hb
                    have n0_ := Aside0.mk (Kd.R_below (by (with_reducible repeat (first | apply Kd.R_alloc | apply Kd.R_drewN | apply Kd.R_drew)); exact HO285.out) hb)
                    have n1_ := pkK BK281 hb
                    have n2_ := pkK BK282 hb
                    have n3_ := pkK BK296 hb
                    have n4_ := pkB HB hb
                    have n5_ := Aside0.mk (hbox)
                    have n6_ := pkG HB hg
                    have n7_ := pkG HB hg
                    have n8_ := pkN BK281 hg
                    have n9_ := pkM BK281 hg
                    have n10_ := pkN BK282 hg
                    have n11_ := pkM BK282 hg
                    have n12_ := pkN BK296 hg
                    have n13_ := pkM BK296 hg
                    clear HO285
                    clear BK281
                    clear BK282
                    clear BK296
                    clear HB
                    have HO285 := n0_
                    have BK281 := n1_
                    have BK282 := n2_
                    have BK296 := n3_
                    have HB := n4_
                    have BK295 := n5_
                    have GW295 := n6_
                    have GE295 := n7_
                    have NB281_295 := n8_
                    have NB295_281 := n9_
                    have NB282_295 := n10_
                    have NB295_282 := n11_
                    have NB296_295 := n12_
                    have NB295_296 := n13_
                    clear n0_ n1_ n2_ n3_ n4_ n5_ n6_ n7_ n8_ n9_ n10_ n11_ n12_ n13_
                    clear hb hbox hg
                    refine hK.out _ _ ⟨(blk_cell BK281.out 0).trans rfl, (blk_cell BK281.out 1).trans rfl, (blk_cell BK281.out 2).trans rfl, (blk_cell BK282.out 0).trans rfl, (blk_cell BK282.out 1).trans rfl, (blk_cell BK282.out 2).trans rfl⟩ (fun hHeld => ?_)
                    clear hK K
                    refine norm_ (a' := ?_) ?_ ?_
                    rotate_left
                    · show Act.put _ (some 7) _ = _
                      simp only [Act.put, List.setIfInBounds_toArray, List.set_cons_zero, List.set_cons_succ, i64_w, i32_w]
                      rfl
                    exact norm_ (by first | (simp only [putAll, Act.put, List.setIfInBounds_toArray, List.set_cons_zero, List.set_cons_succ]; done) | (simp only [putAll, Act.put, List.setIfInBounds_toArray, List.set_cons_zero, List.set_cons_succ]; rfl)) (hJ1_4_5 (gb295, gb296) _ ⟨hHeld, (by (with_reducible repeat (first | apply Kd.R_alloc | apply Kd.R_drewN | apply Kd.R_drew)); exact HO285.out), (pkW BK281), (pkW BK282), (pkW BK295), (pkW BK296), GW295.out, GE295.out, NB281_295.out, NB295_281.out, NB282_295.out, NB295_282.out, NB296_295.out, NB295_296.out, GW296.out, GE296.out, NB281_296.out, NB296_281.out, NB282_296.out, NB296_282.out, (pkL HB)⟩)
              · skip
                rintro gb295 w21 ⟨hS_, h0_, h1_, h2_, h3_, h4_, h5_, h6_, h7_, h8_, h9_, h10_⟩
                have n0_ : Aside0 (Kd.R k28 28 w21 w.heap.size (fun k_ => k_ ≠ gb281 ∧ k_ ≠ gb282) (.slice Ao16 y283.length co16) y283) := ⟨h0_⟩
                have n1_ : Aside0 (w21.heap[gb281]? = some (.cells #[.bool a0_0, .string a0_1, .string a0_2] 28 (0, 0))) := ⟨h1_⟩
                have n2_ : Aside0 (w21.heap[gb282]? = some (.cells #[.bool a1_0, .string a1_1, .string a1_2] 28 (0, 0))) := ⟨h2_⟩
                have n3_ : Aside0 (w21.heap[gb295]? = some (.cells #[.int .i64 0, .string (⟨#[]⟩ : ByteArray), .int .i64 0, .string (⟨#[]⟩ : ByteArray)] 43 (0, 0))) := ⟨h3_⟩
                have n4_ : Aside0 (w.heap.size ≤ gb295) := ⟨h4_⟩
                have n5_ : Aside0 (w.heap.size ≤ gb295) := ⟨h5_⟩
                have n6_ : Aside0 (gb281 ≠ gb295) := ⟨h6_⟩
                have n7_ : Aside0 (gb295 ≠ gb281) := ⟨h7_⟩
                have n8_ : Aside0 (gb282 ≠ gb295) := ⟨h8_⟩
                have n9_ : Aside0 (gb295 ≠ gb282) := ⟨h9_⟩
                have n10_ : Aside0 (Below w.heap.size w w21) := ⟨h10_⟩
                clear HO285
                clear BK281
                clear BK282
                clear HB
                clear h0_ h1_ h2_ h3_ h4_ h5_ h6_ h7_ h8_ h9_ h10_
                have HO285 := n0_
                have BK281 := n1_
                have BK282 := n2_
                have BK295 := n3_
                have GW295 := n4_
                have GE295 := n5_
                have NB281_295 := n6_
                have NB295_281 := n7_
                have NB282_295 := n8_
                have NB295_282 := n9_
                have HB := n10_
                clear n0_ n1_ n2_ n3_ n4_ n5_ n6_ n7_ n8_ n9_ n10_
                have hHeld : w21.cell? ⟨gb281, 0, none⟩ = some (.bool a0_0) ∧ w21.cell? ⟨gb281, 1, none⟩ = some (.string a0_1) ∧ w21.cell? ⟨gb281, 2, none⟩ = some (.string a0_2) ∧ w21.cell? ⟨gb282, 0, none⟩ = some (.bool a1_0) ∧ w21.cell? ⟨gb282, 1, none⟩ = some (.string a1_1) ∧ w21.cell? ⟨gb282, 2, none⟩ = some (.string a1_2) := hS_
                refine norm_ (a' := ?_) ?_ ?_
                rotate_left
                · simp only [putAll, Act.put, List.setIfInBounds_toArray, List.set_cons_zero, List.set_cons_succ]
                  rfl
                refine two_ (i := 3) (j := 5) (Ni := some 19) (Nj := some 8) #[true, true, true, true, true, false, false, false] #[true, true, true, false, true, true, false, false] rfl rfl rfl rfl (two_of HT_.out (by kernel_rfl)) (by decide) (by decide) (fun K hK => ?_) (fun K hK => ?_)
                · skip
                  refine g1_ Tryz.func14 #[.agg #[.bool a1_0, .string a1_1, .string a1_2]] (h := ?_)
                  with_reducible refine (interval_of.calls a1_0 a1_1 a1_2 t291 t292 t293 t294 _ A6.out).mono ?_
                  rintro e w22 ⟨rfl, hb⟩
                  refine ⟨_, rfl, ?_⟩
                  replace HO285 := Aside0.mk (Kd.R_below (by (with_reducible repeat (first | apply Kd.R_alloc | apply Kd.R_drewN | apply Kd.R_drew)); exact HO285.out) hb); replace BK281 := pkK BK281 hb; replace BK282 := pkK BK282 hb; replace BK295 := pkK BK295 hb; replace HB := pkB HB hb
                  (try clear hb)
                  (try clear hb2)
                  (try clear hk)
                  (try clear hi)
                  refine hK.out _ _ ⟨(blk_cell BK281.out 0).trans rfl, (blk_cell BK281.out 1).trans rfl, (blk_cell BK281.out 2).trans rfl, (blk_cell BK282.out 0).trans rfl, (blk_cell BK282.out 1).trans rfl, (blk_cell BK282.out 2).trans rfl⟩ (fun hHeld => ?_)
                  clear hK K
                  refine norm_ (a' := ?_) ?_ ?_
                  rotate_left
                  · show Act.put _ (some 19) _ = _
                    simp only [Act.put, List.setIfInBounds_toArray, List.set_cons_zero, List.set_cons_succ, i64_w, i32_w]
                    rfl
                  exact norm_ (by first | (simp only [putAll, Act.put, List.setIfInBounds_toArray, List.set_cons_zero, List.set_cons_succ]; done) | (simp only [putAll, Act.put, List.setIfInBounds_toArray, List.set_cons_zero, List.set_cons_succ]; rfl)) (hJ1_3_4 (gb295) _ ⟨hHeld, (by (with_reducible repeat (first | apply Kd.R_alloc | apply Kd.R_drewN | apply Kd.R_drew)); exact HO285.out), (pkW BK281), (pkW BK282), (pkW BK295), GW295.out, GE295.out, NB281_295.out, NB295_281.out, NB282_295.out, NB295_282.out, (pkL HB)⟩)
                · skip
                  refine box_step ?hg (N := 8) ?hd (cs := #[.int .i64 0, .string (⟨#[]⟩ : ByteArray), .int .i64 0, .string (⟨#[]⟩ : ByteArray)]) (t := 43) ?hr ?_; (case hd => rfl); (case hg => rfl); (case hr => first | (go_simp; done) | (go_simp; rfl))
                  intro gb296 hg w22 hbox hb
                  have n0_ := Aside0.mk (Kd.R_below (by (with_reducible repeat (first | apply Kd.R_alloc | apply Kd.R_drewN | apply Kd.R_drew)); exact HO285.out) hb)
                  have n1_ := pkK BK281 hb
                  have n2_ := pkK BK282 hb
                  have n3_ := pkK BK295 hb
                  have n4_ := pkB HB hb
                  have n5_ := Aside0.mk (hbox)
                  have n6_ := pkG HB hg
                  have n7_ := pkG HB hg
                  have n8_ := pkN BK281 hg
                  have n9_ := pkM BK281 hg
                  have n10_ := pkN BK282 hg
                  have n11_ := pkM BK282 hg
                  have n12_ := pkN BK295 hg
                  have n13_ := pkM BK295 hg
                  clear HO285
                  clear BK281
                  clear BK282
                  clear BK295
                  clear HB
                  have HO285 := n0_
                  have BK281 := n1_
                  have BK282 := n2_
                  have BK295 := n3_
                  have HB := n4_
                  have BK296 := n5_
                  have GW296 := n6_
                  have GE296 := n7_
                  have NB281_296 := n8_
                  have NB296_281 := n9_
                  have NB282_296 := n10_
                  have NB296_282 := n11_
                  have NB295_296 := n12_
                  have NB296_295 := n13_
                  clear n0_ n1_ n2_ n3_ n4_ n5_ n6_ n7_ n8_ n9_ n10_ n11_ n12_ n13_
                  clear hb hbox hg
                  refine hK.out _ _ ⟨(blk_cell BK281.out 0).trans rfl, (blk_cell BK281.out 1).trans rfl, (blk_cell BK281.out 2).trans rfl, (blk_cell BK282.out 0).trans rfl, (blk_cell BK282.out 1).trans rfl, (blk_cell BK282.out 2).trans rfl⟩ (fun hHeld => ?_)
                  clear hK K
                  refine norm_ (a' := ?_) ?_ ?_
                  rotate_left
                  · show Act.put _ (some 8) _ = _
                    simp only [Act.put, List.setIfInBounds_toArray, List.set_cons_zero, List.set_cons_succ, i64_w, i32_w]
                    rfl
                  exact norm_ (by first | (simp only [putAll, Act.put, List.setIfInBounds_toArray, List.set_cons_zero, List.set_cons_succ]; done) | (simp only [putAll, Act.put, List.setIfInBounds_toArray, List.set_cons_zero, List.set_cons_succ]; rfl)) (hJ1_4_5 (gb295, gb296) _ ⟨hHeld, (by (with_reducible repeat (first | apply Kd.R_alloc | apply Kd.R_drewN | apply Kd.R_drew)); exact HO285.out), (pkW BK281), (pkW BK282), (pkW BK295), (pkW BK296), GW295.out, GE295.out, NB281_295.out, NB295_281.out, NB282_295.out, NB295_282.out, NB296_295.out, NB295_296.out, GW296.out, GE296.out, NB281_296.out, NB296_281.out, NB282_296.out, NB296_282.out, (pkL HB)⟩)
            · skip
              rintro _ w21 ⟨hS_, h0_, h1_, h2_, h3_⟩
              have n0_ : Aside0 (Kd.R k28 28 w21 w.heap.size (fun k_ => k_ ≠ gb281 ∧ k_ ≠ gb282) (.slice Ao16 y283.length co16) y283) := ⟨h0_⟩
              have n1_ : Aside0 (w21.heap[gb281]? = some (.cells #[.bool a0_0, .string a0_1, .string a0_2] 28 (0, 0))) := ⟨h1_⟩
              have n2_ : Aside0 (w21.heap[gb282]? = some (.cells #[.bool a1_0, .string a1_1, .string a1_2] 28 (0, 0))) := ⟨h2_⟩
              have n3_ : Aside0 (Below w.heap.size w w21) := ⟨h3_⟩
              clear HO285
              clear BK281
              clear BK282
              clear HB
              clear h0_ h1_ h2_ h3_
              have HO285 := n0_
              have BK281 := n1_
              have BK282 := n2_
              have HB := n3_
              clear n0_ n1_ n2_ n3_
              have hHeld : w21.cell? ⟨gb281, 0, none⟩ = some (.bool a0_0) ∧ w21.cell? ⟨gb281, 1, none⟩ = some (.string a0_1) ∧ w21.cell? ⟨gb281, 2, none⟩ = some (.string a0_2) ∧ w21.cell? ⟨gb282, 0, none⟩ = some (.bool a1_0) ∧ w21.cell? ⟨gb282, 1, none⟩ = some (.string a1_1) ∧ w21.cell? ⟨gb282, 2, none⟩ = some (.string a1_2) := hS_
              refine norm_ (a' := ?_) ?_ ?_
              rotate_left
              · simp only [putAll, Act.put, List.setIfInBounds_toArray, List.set_cons_zero, List.set_cons_succ]
                rfl
              refine two_ (i := 4) (j := 5) (Ni := some 7) (Nj := some 8) #[true, true, true, true, true, false, false, false] #[true, true, true, true, false, true, false, false] rfl rfl rfl rfl (two_of HT_.out (by kernel_rfl)) (by decide) (by decide) (fun K hK => ?_) (fun K hK => ?_)
              · skip
                refine box_step ?hg (N := 7) ?hd (cs := #[.int .i64 0, .string (⟨#[]⟩ : ByteArray), .int .i64 0, .string (⟨#[]⟩ : ByteArray)]) (t := 43) ?hr ?_; (case hd => rfl); (case hg => rfl); (case hr => first | (go_simp; done) | (go_simp; rfl))
                intro gb295 hg w22 hbox hb
                have n0_ := Aside0.mk (Kd.R_below (by (with_reducible repeat (first | apply Kd.R_alloc | apply Kd.R_drewN | apply Kd.R_drew)); exact HO285.out) hb)
                have n1_ := pkK BK281 hb
                have n2_ := pkK BK282 hb
                have n3_ := pkB HB hb
                have n4_ := Aside0.mk (hbox)
                have n5_ := pkG HB hg
                have n6_ := pkG HB hg
                have n7_ := pkN BK281 hg
                have n8_ := pkM BK281 hg
                have n9_ := pkN BK282 hg
                have n10_ := pkM BK282 hg
                clear HO285
                clear BK281
                clear BK282
                clear HB
                have HO285 := n0_
                have BK281 := n1_
                have BK282 := n2_
                have HB := n3_
                have BK295 := n4_
                have GW295 := n5_
                have GE295 := n6_
                have NB281_295 := n7_
                have NB295_281 := n8_
                have NB282_295 := n9_
                have NB295_282 := n10_
                clear n0_ n1_ n2_ n3_ n4_ n5_ n6_ n7_ n8_ n9_ n10_
                clear hb hbox hg
                refine hK.out _ _ ⟨(blk_cell BK281.out 0).trans rfl, (blk_cell BK281.out 1).trans rfl, (blk_cell BK281.out 2).trans rfl, (blk_cell BK282.out 0).trans rfl, (blk_cell BK282.out 1).trans rfl, (blk_cell BK282.out 2).trans rfl⟩ (fun hHeld => ?_)
                clear hK K
                refine norm_ (a' := ?_) ?_ ?_
                rotate_left
                · show Act.put _ (some 7) _ = _
                  simp only [Act.put, List.setIfInBounds_toArray, List.set_cons_zero, List.set_cons_succ, i64_w, i32_w]
                  rfl
                exact norm_ (by first | (simp only [putAll, Act.put, List.setIfInBounds_toArray, List.set_cons_zero, List.set_cons_succ]; done) | (simp only [putAll, Act.put, List.setIfInBounds_toArray, List.set_cons_zero, List.set_cons_succ]; rfl)) (hJ1_3_4 (gb295) _ ⟨hHeld, (by (with_reducible repeat (first | apply Kd.R_alloc | apply Kd.R_drewN | apply Kd.R_drew)); exact HO285.out), (pkW BK281), (pkW BK282), (pkW BK295), GW295.out, GE295.out, NB281_295.out, NB295_281.out, NB282_295.out, NB295_282.out, (pkL HB)⟩)
              · skip
                refine box_step ?hg (N := 8) ?hd (cs := #[.int .i64 0, .string (⟨#[]⟩ : ByteArray), .int .i64 0, .string (⟨#[]⟩ : ByteArray)]) (t := 43) ?hr ?_; (case hd => rfl); (case hg => rfl); (case hr => first | (go_simp; done) | (go_simp; rfl))
                intro gb296 hg w22 hbox hb
                have n0_ := Aside0.mk (Kd.R_below (by (with_reducible repeat (first | apply Kd.R_alloc | apply Kd.R_drewN | apply Kd.R_drew)); exact HO285.out) hb)
                have n1_ := pkK BK281 hb
                have n2_ := pkK BK282 hb
                have n3_ := pkB HB hb
                have n4_ := Aside0.mk (hbox)
                have n5_ := pkG HB hg
                have n6_ := pkG HB hg
                have n7_ := pkN BK281 hg
                have n8_ := pkM BK281 hg
                have n9_ := pkN BK282 hg
                have n10_ := pkM BK282 hg
                clear HO285
                clear BK281
                clear BK282
                clear HB
                have HO285 := n0_
                have BK281 := n1_
                have BK282 := n2_
                have HB := n3_
                have BK296 := n4_
                have GW296 := n5_
                have GE296 := n6_
                have NB281_296 := n7_
                have NB296_281 := n8_
                have NB282_296 := n9_
                have NB296_282 := n10_
                clear n0_ n1_ n2_ n3_ n4_ n5_ n6_ n7_ n8_ n9_ n10_
                clear hb hbox hg
                refine hK.out _ _ ⟨(blk_cell BK281.out 0).trans rfl, (blk_cell BK281.out 1).trans rfl, (blk_cell BK281.out 2).trans rfl, (blk_cell BK282.out 0).trans rfl, (blk_cell BK282.out 1).trans rfl, (blk_cell BK282.out 2).trans rfl⟩ (fun hHeld => ?_)
                clear hK K
                refine norm_ (a' := ?_) ?_ ?_
                rotate_left
                · show Act.put _ (some 8) _ = _
                  simp only [Act.put, List.setIfInBounds_toArray, List.set_cons_zero, List.set_cons_succ, i64_w, i32_w]
                  rfl
                exact norm_ (by first | (simp only [putAll, Act.put, List.setIfInBounds_toArray, List.set_cons_zero, List.set_cons_succ]; done) | (simp only [putAll, Act.put, List.setIfInBounds_toArray, List.set_cons_zero, List.set_cons_succ]; rfl)) (hJ1_3_5 (gb296) _ ⟨hHeld, (by (with_reducible repeat (first | apply Kd.R_alloc | apply Kd.R_drewN | apply Kd.R_drew)); exact HO285.out), (pkW BK281), (pkW BK282), (pkW BK296), GW296.out, GE296.out, NB281_296.out, NB296_281.out, NB282_296.out, NB296_282.out, (pkL HB)⟩)
          · skip
            rintro ⟨gb295, gb296⟩ w22 ⟨hS_, h0_, h1_, h2_, h3_, h4_, h5_, h6_, h7_, h8_, h9_, h10_, h11_, h12_, h13_, h14_, h15_, h16_, h17_, h18_, h19_⟩
            have n0_ : Aside0 (Kd.R k28 28 w22 w.heap.size (fun k_ => k_ ≠ gb281 ∧ k_ ≠ gb282) (.slice Ao16 y283.length co16) y283) := ⟨h0_⟩
            have n1_ : Aside0 (w22.heap[gb281]? = some (.cells #[.bool a0_0, .string a0_1, .string a0_2] 28 (0, 0))) := ⟨h1_⟩
            have n2_ : Aside0 (w22.heap[gb282]? = some (.cells #[.bool a1_0, .string a1_1, .string a1_2] 28 (0, 0))) := ⟨h2_⟩
            have n3_ : Aside0 (w22.heap[gb295]? = some (.cells #[.int .i64 0, .string (⟨#[]⟩ : ByteArray), .int .i64 0, .string (⟨#[]⟩ : ByteArray)] 43 (0, 0))) := ⟨h3_⟩
            have n4_ : Aside0 (w22.heap[gb296]? = some (.cells #[.int .i64 0, .string (⟨#[]⟩ : ByteArray), .int .i64 0, .string (⟨#[]⟩ : ByteArray)] 43 (0, 0))) := ⟨h4_⟩
            have n5_ : Aside0 (w.heap.size ≤ gb295) := ⟨h5_⟩
            have n6_ : Aside0 (w.heap.size ≤ gb295) := ⟨h6_⟩
            have n7_ : Aside0 (gb281 ≠ gb295) := ⟨h7_⟩
            have n8_ : Aside0 (gb295 ≠ gb281) := ⟨h8_⟩
            have n9_ : Aside0 (gb282 ≠ gb295) := ⟨h9_⟩
            have n10_ : Aside0 (gb295 ≠ gb282) := ⟨h10_⟩
            have n11_ : Aside0 (gb296 ≠ gb295) := ⟨h11_⟩
            have n12_ : Aside0 (gb295 ≠ gb296) := ⟨h12_⟩
            have n13_ : Aside0 (w.heap.size ≤ gb296) := ⟨h13_⟩
            have n14_ : Aside0 (w.heap.size ≤ gb296) := ⟨h14_⟩
            have n15_ : Aside0 (gb281 ≠ gb296) := ⟨h15_⟩
            have n16_ : Aside0 (gb296 ≠ gb281) := ⟨h16_⟩
            have n17_ : Aside0 (gb282 ≠ gb296) := ⟨h17_⟩
            have n18_ : Aside0 (gb296 ≠ gb282) := ⟨h18_⟩
            have n19_ : Aside0 (Below w.heap.size w w22) := ⟨h19_⟩
            clear HO285
            clear BK281
            clear BK282
            clear HB
            clear h0_ h1_ h2_ h3_ h4_ h5_ h6_ h7_ h8_ h9_ h10_ h11_ h12_ h13_ h14_ h15_ h16_ h17_ h18_ h19_
            have HO285 := n0_
            have BK281 := n1_
            have BK282 := n2_
            have BK295 := n3_
            have BK296 := n4_
            have GW295 := n5_
            have GE295 := n6_
            have NB281_295 := n7_
            have NB295_281 := n8_
            have NB282_295 := n9_
            have NB295_282 := n10_
            have NB296_295 := n11_
            have NB295_296 := n12_
            have GW296 := n13_
            have GE296 := n14_
            have NB281_296 := n15_
            have NB296_281 := n16_
            have NB282_296 := n17_
            have NB296_282 := n18_
            have HB := n19_
            clear n0_ n1_ n2_ n3_ n4_ n5_ n6_ n7_ n8_ n9_ n10_ n11_ n12_ n13_ n14_ n15_ n16_ n17_ n18_ n19_
            have hHeld : w22.cell? ⟨gb281, 0, none⟩ = some (.bool a0_0) ∧ w22.cell? ⟨gb281, 1, none⟩ = some (.string a0_1) ∧ w22.cell? ⟨gb281, 2, none⟩ = some (.string a0_2) ∧ w22.cell? ⟨gb282, 0, none⟩ = some (.bool a1_0) ∧ w22.cell? ⟨gb282, 1, none⟩ = some (.string a1_1) ∧ w22.cell? ⟨gb282, 2, none⟩ = some (.string a1_2) := hS_
            refine norm_ (a' := ?_) ?_ ?_
            rotate_left
            · simp only [putAll, Act.put, List.setIfInBounds_toArray, List.set_cons_zero, List.set_cons_succ]
              rfl
            refine on_ 3 19 (h := fun K hK => ?_)
            refine g1_ Tryz.func14 #[.agg #[.bool a1_0, .string a1_1, .string a1_2]] (h := ?_)
            with_reducible refine (interval_of.calls a1_0 a1_1 a1_2 t291 t292 t293 t294 _ A6.out).mono ?_
            rintro e w23 ⟨rfl, hb⟩
            refine ⟨_, rfl, ?_⟩
            replace HO285 := Aside0.mk (Kd.R_below (by (with_reducible repeat (first | apply Kd.R_alloc | apply Kd.R_drewN | apply Kd.R_drew)); exact HO285.out) hb); replace BK281 := pkK BK281 hb; replace BK282 := pkK BK282 hb; replace BK295 := pkK BK295 hb; replace BK296 := pkK BK296 hb; replace HB := pkB HB hb
            (try clear hb)
            (try clear hb2)
            (try clear hk)
            (try clear hi)
            refine hK.out _ _ ⟨(blk_cell BK281.out 0).trans rfl, (blk_cell BK281.out 1).trans rfl, (blk_cell BK281.out 2).trans rfl, (blk_cell BK282.out 0).trans rfl, (blk_cell BK282.out 1).trans rfl, (blk_cell BK282.out 2).trans rfl⟩ (fun hHeld => ?_)
            clear hK K
            refine norm_ (a' := ?_) ?_ ?_
            rotate_left
            · show Act.put _ (some 19) _ = _
              simp only [Act.put, List.setIfInBounds_toArray, List.set_cons_zero, List.set_cons_succ, i64_w, i32_w]
              rfl
            exact norm_ (by first | (simp only [putAll, Act.put, List.setIfInBounds_toArray, List.set_cons_zero, List.set_cons_succ]; done) | (simp only [putAll, Act.put, List.setIfInBounds_toArray, List.set_cons_zero, List.set_cons_succ]; rfl)) (hJ1_3_4_5 (gb295, gb296) _ ⟨hHeld, (by (with_reducible repeat (first | apply Kd.R_alloc | apply Kd.R_drewN | apply Kd.R_drew)); exact HO285.out), (pkW BK281), (pkW BK282), (pkW BK295), (pkW BK296), GW295.out, GE295.out, NB281_295.out, NB295_281.out, NB282_295.out, NB295_282.out, NB296_295.out, NB295_296.out, GW296.out, GE296.out, NB281_296.out, NB296_281.out, NB282_296.out, NB296_282.out, (pkL HB)⟩)
        · skip
          rintro gb296 w22 ⟨hS_, h0_, h1_, h2_, h3_, h4_, h5_, h6_, h7_, h8_, h9_, h10_⟩
          have n0_ : Aside0 (Kd.R k28 28 w22 w.heap.size (fun k_ => k_ ≠ gb281 ∧ k_ ≠ gb282) (.slice Ao16 y283.length co16) y283) := ⟨h0_⟩
          have n1_ : Aside0 (w22.heap[gb281]? = some (.cells #[.bool a0_0, .string a0_1, .string a0_2] 28 (0, 0))) := ⟨h1_⟩
          have n2_ : Aside0 (w22.heap[gb282]? = some (.cells #[.bool a1_0, .string a1_1, .string a1_2] 28 (0, 0))) := ⟨h2_⟩
          have n3_ : Aside0 (w22.heap[gb296]? = some (.cells #[.int .i64 0, .string (⟨#[]⟩ : ByteArray), .int .i64 0, .string (⟨#[]⟩ : ByteArray)] 43 (0, 0))) := ⟨h3_⟩
          have n4_ : Aside0 (w.heap.size ≤ gb296) := ⟨h4_⟩
          have n5_ : Aside0 (w.heap.size ≤ gb296) := ⟨h5_⟩
          have n6_ : Aside0 (gb281 ≠ gb296) := ⟨h6_⟩
          have n7_ : Aside0 (gb296 ≠ gb281) := ⟨h7_⟩
          have n8_ : Aside0 (gb282 ≠ gb296) := ⟨h8_⟩
          have n9_ : Aside0 (gb296 ≠ gb282) := ⟨h9_⟩
          have n10_ : Aside0 (Below w.heap.size w w22) := ⟨h10_⟩
          clear HO285
          clear BK281
          clear BK282
          clear HB
          clear h0_ h1_ h2_ h3_ h4_ h5_ h6_ h7_ h8_ h9_ h10_
          have HO285 := n0_
          have BK281 := n1_
          have BK282 := n2_
          have BK296 := n3_
          have GW296 := n4_
          have GE296 := n5_
          have NB281_296 := n6_
          have NB296_281 := n7_
          have NB282_296 := n8_
          have NB296_282 := n9_
          have HB := n10_
          clear n0_ n1_ n2_ n3_ n4_ n5_ n6_ n7_ n8_ n9_ n10_
          have hHeld : w22.cell? ⟨gb281, 0, none⟩ = some (.bool a0_0) ∧ w22.cell? ⟨gb281, 1, none⟩ = some (.string a0_1) ∧ w22.cell? ⟨gb281, 2, none⟩ = some (.string a0_2) ∧ w22.cell? ⟨gb282, 0, none⟩ = some (.bool a1_0) ∧ w22.cell? ⟨gb282, 1, none⟩ = some (.string a1_1) ∧ w22.cell? ⟨gb282, 2, none⟩ = some (.string a1_2) := hS_
          refine norm_ (a' := ?_) ?_ ?_
          rotate_left
          · simp only [putAll, Act.put, List.setIfInBounds_toArray, List.set_cons_zero, List.set_cons_succ]
            rfl
          refine on_ 4 7 (h := fun K hK => ?_)
          refine box_step ?hg (N := 7) ?hd (cs := #[.int .i64 0, .string (⟨#[]⟩ : ByteArray), .int .i64 0, .string (⟨#[]⟩ : ByteArray)]) (t := 43) ?hr ?_; (case hd => rfl); (case hg => rfl); (case hr => first | (go_simp; done) | (go_simp; rfl))
          intro gb295 hg w23 hbox hb
          have n0_ := Aside0.mk (Kd.R_below (by (with_reducible repeat (first | apply Kd.R_alloc | apply Kd.R_drewN | apply Kd.R_drew)); exact HO285.out) hb)
          have n1_ := pkK BK281 hb
          have n2_ := pkK BK282 hb
          have n3_ := pkK BK296 hb
          have n4_ := pkB HB hb
          have n5_ := Aside0.mk (hbox)
          have n6_ := pkG HB hg
          have n7_ := pkG HB hg
          have n8_ := pkN BK281 hg
          have n9_ := pkM BK281 hg
          have n10_ := pkN BK282 hg
          have n11_ := pkM BK282 hg
          have n12_ := pkN BK296 hg
          have n13_ := pkM BK296 hg
          clear HO285
          clear BK281
          clear BK282
          clear BK296
          clear HB
          have HO285 := n0_
          have BK281 := n1_
          have BK282 := n2_
          have BK296 := n3_
          have HB := n4_
          have BK295 := n5_
          have GW295 := n6_
          have GE295 := n7_
          have NB281_295 := n8_
          have NB295_281 := n9_
          have NB282_295 := n10_
          have NB295_282 := n11_
          have NB296_295 := n12_
          have NB295_296 := n13_
          clear n0_ n1_ n2_ n3_ n4_ n5_ n6_ n7_ n8_ n9_ n10_ n11_ n12_ n13_
          clear hb hbox hg
          refine hK.out _ _ ⟨(blk_cell BK281.out 0).trans rfl, (blk_cell BK281.out 1).trans rfl, (blk_cell BK281.out 2).trans rfl, (blk_cell BK282.out 0).trans rfl, (blk_cell BK282.out 1).trans rfl, (blk_cell BK282.out 2).trans rfl⟩ (fun hHeld => ?_)
          clear hK K
          refine norm_ (a' := ?_) ?_ ?_
          rotate_left
          · show Act.put _ (some 7) _ = _
            simp only [Act.put, List.setIfInBounds_toArray, List.set_cons_zero, List.set_cons_succ, i64_w, i32_w]
            rfl
          exact norm_ (by first | (simp only [putAll, Act.put, List.setIfInBounds_toArray, List.set_cons_zero, List.set_cons_succ]; done) | (simp only [putAll, Act.put, List.setIfInBounds_toArray, List.set_cons_zero, List.set_cons_succ]; rfl)) (hJ1_3_4_5 (gb295, gb296) _ ⟨hHeld, (by (with_reducible repeat (first | apply Kd.R_alloc | apply Kd.R_drewN | apply Kd.R_drew)); exact HO285.out), (pkW BK281), (pkW BK282), (pkW BK295), (pkW BK296), GW295.out, GE295.out, NB281_295.out, NB295_281.out, NB282_295.out, NB295_282.out, NB296_295.out, NB295_296.out, GW296.out, GE296.out, NB281_296.out, NB296_281.out, NB282_296.out, NB296_282.out, (pkL HB)⟩)
      · skip
        rintro gb295 w22 ⟨hS_, h0_, h1_, h2_, h3_, h4_, h5_, h6_, h7_, h8_, h9_, h10_⟩
        have n0_ : Aside0 (Kd.R k28 28 w22 w.heap.size (fun k_ => k_ ≠ gb281 ∧ k_ ≠ gb282) (.slice Ao16 y283.length co16) y283) := ⟨h0_⟩
        have n1_ : Aside0 (w22.heap[gb281]? = some (.cells #[.bool a0_0, .string a0_1, .string a0_2] 28 (0, 0))) := ⟨h1_⟩
        have n2_ : Aside0 (w22.heap[gb282]? = some (.cells #[.bool a1_0, .string a1_1, .string a1_2] 28 (0, 0))) := ⟨h2_⟩
        have n3_ : Aside0 (w22.heap[gb295]? = some (.cells #[.int .i64 0, .string (⟨#[]⟩ : ByteArray), .int .i64 0, .string (⟨#[]⟩ : ByteArray)] 43 (0, 0))) := ⟨h3_⟩
        have n4_ : Aside0 (w.heap.size ≤ gb295) := ⟨h4_⟩
        have n5_ : Aside0 (w.heap.size ≤ gb295) := ⟨h5_⟩
        have n6_ : Aside0 (gb281 ≠ gb295) := ⟨h6_⟩
        have n7_ : Aside0 (gb295 ≠ gb281) := ⟨h7_⟩
        have n8_ : Aside0 (gb282 ≠ gb295) := ⟨h8_⟩
        have n9_ : Aside0 (gb295 ≠ gb282) := ⟨h9_⟩
        have n10_ : Aside0 (Below w.heap.size w w22) := ⟨h10_⟩
        clear HO285
        clear BK281
        clear BK282
        clear HB
        clear h0_ h1_ h2_ h3_ h4_ h5_ h6_ h7_ h8_ h9_ h10_
        have HO285 := n0_
        have BK281 := n1_
        have BK282 := n2_
        have BK295 := n3_
        have GW295 := n4_
        have GE295 := n5_
        have NB281_295 := n6_
        have NB295_281 := n7_
        have NB282_295 := n8_
        have NB295_282 := n9_
        have HB := n10_
        clear n0_ n1_ n2_ n3_ n4_ n5_ n6_ n7_ n8_ n9_ n10_
        have hHeld : w22.cell? ⟨gb281, 0, none⟩ = some (.bool a0_0) ∧ w22.cell? ⟨gb281, 1, none⟩ = some (.string a0_1) ∧ w22.cell? ⟨gb281, 2, none⟩ = some (.string a0_2) ∧ w22.cell? ⟨gb282, 0, none⟩ = some (.bool a1_0) ∧ w22.cell? ⟨gb282, 1, none⟩ = some (.string a1_1) ∧ w22.cell? ⟨gb282, 2, none⟩ = some (.string a1_2) := hS_
        refine norm_ (a' := ?_) ?_ ?_
        rotate_left
        · simp only [putAll, Act.put, List.setIfInBounds_toArray, List.set_cons_zero, List.set_cons_succ]
          rfl
        refine on_ 5 8 (h := fun K hK => ?_)
        refine box_step ?hg (N := 8) ?hd (cs := #[.int .i64 0, .string (⟨#[]⟩ : ByteArray), .int .i64 0, .string (⟨#[]⟩ : ByteArray)]) (t := 43) ?hr ?_; (case hd => rfl); (case hg => rfl); (case hr => first | (go_simp; done) | (go_simp; rfl))
        intro gb296 hg w23 hbox hb
        have n0_ := Aside0.mk (Kd.R_below (by (with_reducible repeat (first | apply Kd.R_alloc | apply Kd.R_drewN | apply Kd.R_drew)); exact HO285.out) hb)
        have n1_ := pkK BK281 hb
        have n2_ := pkK BK282 hb
        have n3_ := pkK BK295 hb
        have n4_ := pkB HB hb
        have n5_ := Aside0.mk (hbox)
        have n6_ := pkG HB hg
        have n7_ := pkG HB hg
        have n8_ := pkN BK281 hg
        have n9_ := pkM BK281 hg
        have n10_ := pkN BK282 hg
        have n11_ := pkM BK282 hg
        have n12_ := pkN BK295 hg
        have n13_ := pkM BK295 hg
        clear HO285
        clear BK281
        clear BK282
        clear BK295
        clear HB
        have HO285 := n0_
        have BK281 := n1_
        have BK282 := n2_
        have BK295 := n3_
        have HB := n4_
        have BK296 := n5_
        have GW296 := n6_
        have GE296 := n7_
        have NB281_296 := n8_
        have NB296_281 := n9_
        have NB282_296 := n10_
        have NB296_282 := n11_
        have NB295_296 := n12_
        have NB296_295 := n13_
        clear n0_ n1_ n2_ n3_ n4_ n5_ n6_ n7_ n8_ n9_ n10_ n11_ n12_ n13_
        clear hb hbox hg
        refine hK.out _ _ ⟨(blk_cell BK281.out 0).trans rfl, (blk_cell BK281.out 1).trans rfl, (blk_cell BK281.out 2).trans rfl, (blk_cell BK282.out 0).trans rfl, (blk_cell BK282.out 1).trans rfl, (blk_cell BK282.out 2).trans rfl⟩ (fun hHeld => ?_)
        clear hK K
        refine norm_ (a' := ?_) ?_ ?_
        rotate_left
        · show Act.put _ (some 8) _ = _
          simp only [Act.put, List.setIfInBounds_toArray, List.set_cons_zero, List.set_cons_succ, i64_w, i32_w]
          rfl
        exact norm_ (by first | (simp only [putAll, Act.put, List.setIfInBounds_toArray, List.set_cons_zero, List.set_cons_succ]; done) | (simp only [putAll, Act.put, List.setIfInBounds_toArray, List.set_cons_zero, List.set_cons_succ]; rfl)) (hJ1_3_4_5 (gb295, gb296) _ ⟨hHeld, (by (with_reducible repeat (first | apply Kd.R_alloc | apply Kd.R_drewN | apply Kd.R_drew)); exact HO285.out), (pkW BK281), (pkW BK282), (pkW BK295), (pkW BK296), GW295.out, GE295.out, NB281_295.out, NB295_281.out, NB282_295.out, NB295_282.out, NB296_295.out, NB295_296.out, GW296.out, GE296.out, NB281_296.out, NB296_281.out, NB282_296.out, NB296_282.out, (pkL HB)⟩)
    rintro ⟨gb295, gb296⟩ w23 ⟨hS_, h0_, h1_, h2_, h3_, h4_, h5_, h6_, h7_, h8_, h9_, h10_, h11_, h12_, h13_, h14_, h15_, h16_, h17_, h18_, h19_⟩
    have n0_ : Aside0 (Kd.R k28 28 w23 w.heap.size (fun k_ => k_ ≠ gb281 ∧ k_ ≠ gb282) (.slice Ao16 y283.length co16) y283) := ⟨h0_⟩
    have n1_ : Aside0 (w23.heap[gb281]? = some (.cells #[.bool a0_0, .string a0_1, .string a0_2] 28 (0, 0))) := ⟨h1_⟩
    have n2_ : Aside0 (w23.heap[gb282]? = some (.cells #[.bool a1_0, .string a1_1, .string a1_2] 28 (0, 0))) := ⟨h2_⟩
    have n3_ : Aside0 (w23.heap[gb295]? = some (.cells #[.int .i64 0, .string (⟨#[]⟩ : ByteArray), .int .i64 0, .string (⟨#[]⟩ : ByteArray)] 43 (0, 0))) := ⟨h3_⟩
    have n4_ : Aside0 (w23.heap[gb296]? = some (.cells #[.int .i64 0, .string (⟨#[]⟩ : ByteArray), .int .i64 0, .string (⟨#[]⟩ : ByteArray)] 43 (0, 0))) := ⟨h4_⟩
    have n5_ : Aside0 (w.heap.size ≤ gb295) := ⟨h5_⟩
    have n6_ : Aside0 (w.heap.size ≤ gb295) := ⟨h6_⟩
    have n7_ : Aside0 (gb281 ≠ gb295) := ⟨h7_⟩
    have n8_ : Aside0 (gb295 ≠ gb281) := ⟨h8_⟩
    have n9_ : Aside0 (gb282 ≠ gb295) := ⟨h9_⟩
    have n10_ : Aside0 (gb295 ≠ gb282) := ⟨h10_⟩
    have n11_ : Aside0 (gb296 ≠ gb295) := ⟨h11_⟩
    have n12_ : Aside0 (gb295 ≠ gb296) := ⟨h12_⟩
    have n13_ : Aside0 (w.heap.size ≤ gb296) := ⟨h13_⟩
    have n14_ : Aside0 (w.heap.size ≤ gb296) := ⟨h14_⟩
    have n15_ : Aside0 (gb281 ≠ gb296) := ⟨h15_⟩
    have n16_ : Aside0 (gb296 ≠ gb281) := ⟨h16_⟩
    have n17_ : Aside0 (gb282 ≠ gb296) := ⟨h17_⟩
    have n18_ : Aside0 (gb296 ≠ gb282) := ⟨h18_⟩
    have n19_ : Aside0 (Below w.heap.size w w23) := ⟨h19_⟩
    clear HO285
    clear BK281
    clear BK282
    clear HB
    clear h0_ h1_ h2_ h3_ h4_ h5_ h6_ h7_ h8_ h9_ h10_ h11_ h12_ h13_ h14_ h15_ h16_ h17_ h18_ h19_
    have HO285 := n0_
    have BK281 := n1_
    have BK282 := n2_
    have BK295 := n3_
    have BK296 := n4_
    have GW295 := n5_
    have GE295 := n6_
    have NB281_295 := n7_
    have NB295_281 := n8_
    have NB282_295 := n9_
    have NB295_282 := n10_
    have NB296_295 := n11_
    have NB295_296 := n12_
    have GW296 := n13_
    have GE296 := n14_
    have NB281_296 := n15_
    have NB296_281 := n16_
    have NB282_296 := n17_
    have NB296_282 := n18_
    have HB := n19_
    clear n0_ n1_ n2_ n3_ n4_ n5_ n6_ n7_ n8_ n9_ n10_ n11_ n12_ n13_ n14_ n15_ n16_ n17_ n18_ n19_
    have hHeld : w23.cell? ⟨gb281, 0, none⟩ = some (.bool a0_0) ∧ w23.cell? ⟨gb281, 1, none⟩ = some (.string a0_1) ∧ w23.cell? ⟨gb281, 2, none⟩ = some (.string a0_2) ∧ w23.cell? ⟨gb282, 0, none⟩ = some (.bool a1_0) ∧ w23.cell? ⟨gb282, 1, none⟩ = some (.string a1_1) ∧ w23.cell? ⟨gb282, 2, none⟩ = some (.string a1_2) := hS_
    refine norm_ (a' := ?_) ?_ ?_
    rotate_left
    · simp only [putAll, Act.put, List.setIfInBounds_toArray, List.set_cons_zero, List.set_cons_succ]
      rfl
    refine one_ (i := 6) (N := none) #[true, true, true, true, true, true, true, false] rfl rfl (one_of HT_.out (by kernel_rfl)) (by decide) (fun K hK => ?_)
    have hs24 : w23.cell? ⟨gb295, 0, none⟩ = some (.int .i64 0) := (blk_cell BK295.out 0).trans rfl
    have hfs24 := blk_frozen BK295.out 0
    have hns24_0 := NB281_295.out
    have hns24_1 := NB282_295.out
    have hns24_3 := NB296_295.out
    have hms24_0 := NB295_281.out
    have hms24_1 := NB295_282.out
    have hms24_3 := NB295_296.out
    have hs25 : w23.cell? ⟨gb295, 1, none⟩ = some (.string (⟨#[]⟩ : ByteArray)) := (blk_cell BK295.out 1).trans rfl
    have hfs25 := blk_frozen BK295.out 1
    have hns25_0 := NB281_295.out
    have hns25_1 := NB282_295.out
    have hns25_3 := NB296_295.out
    have hms25_0 := NB295_281.out
    have hms25_1 := NB295_282.out
    have hms25_3 := NB295_296.out
    have hs26 : w23.cell? ⟨gb295, 2, none⟩ = some (.int .i64 0) := (blk_cell BK295.out 2).trans rfl
    have hfs26 := blk_frozen BK295.out 2
    have hns26_0 := NB281_295.out
    have hns26_1 := NB282_295.out
    have hns26_3 := NB296_295.out
    have hms26_0 := NB295_281.out
    have hms26_1 := NB295_282.out
    have hms26_3 := NB295_296.out
    have hs27 : w23.cell? ⟨gb295, 3, none⟩ = some (.string (⟨#[]⟩ : ByteArray)) := (blk_cell BK295.out 3).trans rfl
    have hfs27 := blk_frozen BK295.out 3
    have hns27_0 := NB281_295.out
    have hns27_1 := NB282_295.out
    have hns27_3 := NB296_295.out
    have hms27_0 := NB295_281.out
    have hms27_1 := NB295_282.out
    have hms27_3 := NB295_296.out
    refine skip_ (w1 := ?_) (by rfl) rfl ?_ ?_
    rotate_left
    · go_simp
      rfl
    refine hK.out _ _ ⟨((Go.Proofs.YtnagmogjhfdmlaaGreatDoorW.PrintWords.cell_far (p := ⟨gb295, _, none⟩) NB281_295.out _).trans (((Go.Proofs.YtnagmogjhfdmlaaGreatDoorW.PrintWords.cell_far (p := ⟨gb295, _, none⟩) NB281_295.out _).trans (((Go.Proofs.YtnagmogjhfdmlaaGreatDoorW.PrintWords.cell_far (p := ⟨gb295, _, none⟩) NB281_295.out _).trans (((Go.Proofs.YtnagmogjhfdmlaaGreatDoorW.PrintWords.cell_far (p := ⟨gb295, _, none⟩) NB281_295.out _).trans (hHeld.1)))))))), ((Go.Proofs.YtnagmogjhfdmlaaGreatDoorW.PrintWords.cell_far (p := ⟨gb295, _, none⟩) NB281_295.out _).trans (((Go.Proofs.YtnagmogjhfdmlaaGreatDoorW.PrintWords.cell_far (p := ⟨gb295, _, none⟩) NB281_295.out _).trans (((Go.Proofs.YtnagmogjhfdmlaaGreatDoorW.PrintWords.cell_far (p := ⟨gb295, _, none⟩) NB281_295.out _).trans (((Go.Proofs.YtnagmogjhfdmlaaGreatDoorW.PrintWords.cell_far (p := ⟨gb295, _, none⟩) NB281_295.out _).trans (hHeld.2.1)))))))), ((Go.Proofs.YtnagmogjhfdmlaaGreatDoorW.PrintWords.cell_far (p := ⟨gb295, _, none⟩) NB281_295.out _).trans (((Go.Proofs.YtnagmogjhfdmlaaGreatDoorW.PrintWords.cell_far (p := ⟨gb295, _, none⟩) NB281_295.out _).trans (((Go.Proofs.YtnagmogjhfdmlaaGreatDoorW.PrintWords.cell_far (p := ⟨gb295, _, none⟩) NB281_295.out _).trans (((Go.Proofs.YtnagmogjhfdmlaaGreatDoorW.PrintWords.cell_far (p := ⟨gb295, _, none⟩) NB281_295.out _).trans (hHeld.2.2.1)))))))), ((Go.Proofs.YtnagmogjhfdmlaaGreatDoorW.PrintWords.cell_far (p := ⟨gb295, _, none⟩) NB282_295.out _).trans (((Go.Proofs.YtnagmogjhfdmlaaGreatDoorW.PrintWords.cell_far (p := ⟨gb295, _, none⟩) NB282_295.out _).trans (((Go.Proofs.YtnagmogjhfdmlaaGreatDoorW.PrintWords.cell_far (p := ⟨gb295, _, none⟩) NB282_295.out _).trans (((Go.Proofs.YtnagmogjhfdmlaaGreatDoorW.PrintWords.cell_far (p := ⟨gb295, _, none⟩) NB282_295.out _).trans (hHeld.2.2.2.1)))))))), ((Go.Proofs.YtnagmogjhfdmlaaGreatDoorW.PrintWords.cell_far (p := ⟨gb295, _, none⟩) NB282_295.out _).trans (((Go.Proofs.YtnagmogjhfdmlaaGreatDoorW.PrintWords.cell_far (p := ⟨gb295, _, none⟩) NB282_295.out _).trans (((Go.Proofs.YtnagmogjhfdmlaaGreatDoorW.PrintWords.cell_far (p := ⟨gb295, _, none⟩) NB282_295.out _).trans (((Go.Proofs.YtnagmogjhfdmlaaGreatDoorW.PrintWords.cell_far (p := ⟨gb295, _, none⟩) NB282_295.out _).trans (hHeld.2.2.2.2.1)))))))), ((Go.Proofs.YtnagmogjhfdmlaaGreatDoorW.PrintWords.cell_far (p := ⟨gb295, _, none⟩) NB282_295.out _).trans (((Go.Proofs.YtnagmogjhfdmlaaGreatDoorW.PrintWords.cell_far (p := ⟨gb295, _, none⟩) NB282_295.out _).trans (((Go.Proofs.YtnagmogjhfdmlaaGreatDoorW.PrintWords.cell_far (p := ⟨gb295, _, none⟩) NB282_295.out _).trans (((Go.Proofs.YtnagmogjhfdmlaaGreatDoorW.PrintWords.cell_far (p := ⟨gb295, _, none⟩) NB282_295.out _).trans (hHeld.2.2.2.2.2))))))))⟩ (fun hHeld => ?_)
    clear hK K
    refine one_ (i := 7) (N := none) #[true, true, true, true, true, true, true, true] rfl rfl (one_of HT_.out (by kernel_rfl)) (by decide) (fun K hK => ?_)
    have hs28 : w23.cell? ⟨gb296, 0, none⟩ = some (.int .i64 0) := (blk_cell BK296.out 0).trans rfl
    have hfs28 := blk_frozen BK296.out 0
    have hns28_0 := NB281_296.out
    have hns28_1 := NB282_296.out
    have hns28_2 := NB295_296.out
    have hms28_0 := NB296_281.out
    have hms28_1 := NB296_282.out
    have hms28_2 := NB296_295.out
    have hs29 : w23.cell? ⟨gb296, 1, none⟩ = some (.string (⟨#[]⟩ : ByteArray)) := (blk_cell BK296.out 1).trans rfl
    have hfs29 := blk_frozen BK296.out 1
    have hns29_0 := NB281_296.out
    have hns29_1 := NB282_296.out
    have hns29_2 := NB295_296.out
    have hms29_0 := NB296_281.out
    have hms29_1 := NB296_282.out
    have hms29_2 := NB296_295.out
    have hs30 : w23.cell? ⟨gb296, 2, none⟩ = some (.int .i64 0) := (blk_cell BK296.out 2).trans rfl
    have hfs30 := blk_frozen BK296.out 2
    have hns30_0 := NB281_296.out
    have hns30_1 := NB282_296.out
    have hns30_2 := NB295_296.out
    have hms30_0 := NB296_281.out
    have hms30_1 := NB296_282.out
    have hms30_2 := NB296_295.out
    have hs31 : w23.cell? ⟨gb296, 3, none⟩ = some (.string (⟨#[]⟩ : ByteArray)) := (blk_cell BK296.out 3).trans rfl
    have hfs31 := blk_frozen BK296.out 3
    have hns31_0 := NB281_296.out
    have hns31_1 := NB282_296.out
    have hns31_2 := NB295_296.out
    have hms31_0 := NB296_281.out
    have hms31_1 := NB296_282.out
    have hms31_2 := NB296_295.out
    refine skip_ (w1 := ?_) (by rfl) rfl ?_ ?_
    rotate_left
    · go_simp
      rfl
    refine hK.out _ _ ⟨((Go.Proofs.YtnagmogjhfdmlaaGreatDoorW.PrintWords.cell_far (p := ⟨gb296, _, none⟩) NB281_296.out _).trans (((Go.Proofs.YtnagmogjhfdmlaaGreatDoorW.PrintWords.cell_far (p := ⟨gb296, _, none⟩) NB281_296.out _).trans (((Go.Proofs.YtnagmogjhfdmlaaGreatDoorW.PrintWords.cell_far (p := ⟨gb296, _, none⟩) NB281_296.out _).trans (((Go.Proofs.YtnagmogjhfdmlaaGreatDoorW.PrintWords.cell_far (p := ⟨gb296, _, none⟩) NB281_296.out _).trans (hHeld.1)))))))), ((Go.Proofs.YtnagmogjhfdmlaaGreatDoorW.PrintWords.cell_far (p := ⟨gb296, _, none⟩) NB281_296.out _).trans (((Go.Proofs.YtnagmogjhfdmlaaGreatDoorW.PrintWords.cell_far (p := ⟨gb296, _, none⟩) NB281_296.out _).trans (((Go.Proofs.YtnagmogjhfdmlaaGreatDoorW.PrintWords.cell_far (p := ⟨gb296, _, none⟩) NB281_296.out _).trans (((Go.Proofs.YtnagmogjhfdmlaaGreatDoorW.PrintWords.cell_far (p := ⟨gb296, _, none⟩) NB281_296.out _).trans (hHeld.2.1)))))))), ((Go.Proofs.YtnagmogjhfdmlaaGreatDoorW.PrintWords.cell_far (p := ⟨gb296, _, none⟩) NB281_296.out _).trans (((Go.Proofs.YtnagmogjhfdmlaaGreatDoorW.PrintWords.cell_far (p := ⟨gb296, _, none⟩) NB281_296.out _).trans (((Go.Proofs.YtnagmogjhfdmlaaGreatDoorW.PrintWords.cell_far (p := ⟨gb296, _, none⟩) NB281_296.out _).trans (((Go.Proofs.YtnagmogjhfdmlaaGreatDoorW.PrintWords.cell_far (p := ⟨gb296, _, none⟩) NB281_296.out _).trans (hHeld.2.2.1)))))))), ((Go.Proofs.YtnagmogjhfdmlaaGreatDoorW.PrintWords.cell_far (p := ⟨gb296, _, none⟩) NB282_296.out _).trans (((Go.Proofs.YtnagmogjhfdmlaaGreatDoorW.PrintWords.cell_far (p := ⟨gb296, _, none⟩) NB282_296.out _).trans (((Go.Proofs.YtnagmogjhfdmlaaGreatDoorW.PrintWords.cell_far (p := ⟨gb296, _, none⟩) NB282_296.out _).trans (((Go.Proofs.YtnagmogjhfdmlaaGreatDoorW.PrintWords.cell_far (p := ⟨gb296, _, none⟩) NB282_296.out _).trans (hHeld.2.2.2.1)))))))), ((Go.Proofs.YtnagmogjhfdmlaaGreatDoorW.PrintWords.cell_far (p := ⟨gb296, _, none⟩) NB282_296.out _).trans (((Go.Proofs.YtnagmogjhfdmlaaGreatDoorW.PrintWords.cell_far (p := ⟨gb296, _, none⟩) NB282_296.out _).trans (((Go.Proofs.YtnagmogjhfdmlaaGreatDoorW.PrintWords.cell_far (p := ⟨gb296, _, none⟩) NB282_296.out _).trans (((Go.Proofs.YtnagmogjhfdmlaaGreatDoorW.PrintWords.cell_far (p := ⟨gb296, _, none⟩) NB282_296.out _).trans (hHeld.2.2.2.2.1)))))))), ((Go.Proofs.YtnagmogjhfdmlaaGreatDoorW.PrintWords.cell_far (p := ⟨gb296, _, none⟩) NB282_296.out _).trans (((Go.Proofs.YtnagmogjhfdmlaaGreatDoorW.PrintWords.cell_far (p := ⟨gb296, _, none⟩) NB282_296.out _).trans (((Go.Proofs.YtnagmogjhfdmlaaGreatDoorW.PrintWords.cell_far (p := ⟨gb296, _, none⟩) NB282_296.out _).trans (((Go.Proofs.YtnagmogjhfdmlaaGreatDoorW.PrintWords.cell_far (p := ⟨gb296, _, none⟩) NB282_296.out _).trans (hHeld.2.2.2.2.2))))))))⟩ (fun hHeld => ?_)
    clear hK K
    refine done_ (done_of HT_.out (by kernel_rfl)) ?_
    by_cases c8 : t297 = true
    · subst c8
      rw [if_pos rfl] at H
      simp only [Option.some.injEq, Prod.mk.injEq] at H
      obtain ⟨rfl, rfl⟩ := H
      have hnb32 := NB295_281.out
      have hnc32 := NB281_295.out
      have hnb33 := NB295_282.out
      have hnc33 := NB282_295.out
      have hnb34 := NB295_296.out
      have hnc34 := NB296_295.out
      have hcz35_0 : w23.cell? ⟨gb295, 0, none⟩ = some (.int .i64 0) := (blk_cell BK295.out 0).trans rfl
      have hcz35_1 : w23.cell? ⟨gb295, 1, none⟩ = some (.string (⟨#[]⟩ : ByteArray)) := (blk_cell BK295.out 1).trans rfl
      have hcz35_2 : w23.cell? ⟨gb295, 2, none⟩ = some (.int .i64 0) := (blk_cell BK295.out 2).trans rfl
      have hcz35_3 : w23.cell? ⟨gb295, 3, none⟩ = some (.string (⟨#[]⟩ : ByteArray)) := (blk_cell BK295.out 3).trans rfl
      have hfz35_0 := blk_frozen BK295.out 0
      have hfz35_1 := blk_frozen BK295.out 1
      have hfz35_2 := blk_frozen BK295.out 2
      have hfz35_3 := blk_frozen BK295.out 3
      try go_wp2_with (first | ((with_reducible refine gate_callee (f := 15) rfl ?_); refine gl_ 21 Tryz.func15 #[.agg #[.int .i64 t287, .string t288, .int .i64 t289, .string t290]] (h := ?_); (with_reducible refine (interval_span_empty.calls t287 t288 t289 t290 true _ A7.out).mono ?_); rintro e w36 ⟨rfl, hb⟩; refine ⟨_, rfl, ?_⟩; have n0_ := Aside0.mk (Kd.R_below (by (with_reducible repeat (first | apply Kd.R_alloc | apply Kd.R_drewN | apply Kd.R_drew)); exact (Kd.R_mono (Kd.R_mono (Kd.R_far (p := ⟨gb296, 3, none⟩) (Kd.R_far (p := ⟨gb296, 2, none⟩) (Kd.R_far (p := ⟨gb296, 1, none⟩) (Kd.R_far (p := ⟨gb296, 0, none⟩) (Kd.R_far (p := ⟨gb295, 3, none⟩) (Kd.R_far (p := ⟨gb295, 2, none⟩) (Kd.R_far (p := ⟨gb295, 1, none⟩) (Kd.R_far (p := ⟨gb295, 0, none⟩) (Kd.R_types (Kd.R_types HO285.out BK295.out (by decide)) BK296.out (by decide)) (fun _ hk => hk.1.2) (.int .i64 t287)) (fun _ hk => hk.1.2) (.string t288)) (fun _ hk => hk.1.2) (.int .i64 t289)) (fun _ hk => hk.1.2) (.string t290)) (fun _ hk => hk.2) (.int .i64 t291)) (fun _ hk => hk.2) (.string t292)) (fun _ hk => hk.2) (.int .i64 t293)) (fun _ hk => hk.2) (.string t294)) (fun _ h_ => h_.1)) (fun _ h_ => h_.1))) hb); have n1_ := pkF BK281 hb; have n2_ := pkF BK282 hb; have n3_ := Aside0.mk (blk_below (g := gb295) (o := .cells #[.int .i64 t287, .string t288, .int .i64 t289, .string t290] 43 (0, 0)) (by (with_reducible repeat (first | refine blk_drewN ?_ _ | refine blk_drew ?_ | refine blk_alloc ?_ _)); refine blk_far ?_ NB295_296.out _; (with_reducible repeat (first | refine blk_drewN ?_ _ | refine blk_drew ?_ | refine blk_alloc ?_ _)); refine blk_far ?_ NB295_296.out _; (with_reducible repeat (first | refine blk_drewN ?_ _ | refine blk_drew ?_ | refine blk_alloc ?_ _)); refine blk_far ?_ NB295_296.out _; (with_reducible repeat (first | refine blk_drewN ?_ _ | refine blk_drew ?_ | refine blk_alloc ?_ _)); refine blk_far ?_ NB295_296.out _; (with_reducible repeat (first | refine blk_drewN ?_ _ | refine blk_drew ?_ | refine blk_alloc ?_ _)); refine blk_put (cs := #[.int .i64 t287, .string t288, .int .i64 t289, .string (⟨#[]⟩ : ByteArray)]) ?_ 3 _ rfl; (with_reducible repeat (first | refine blk_drewN ?_ _ | refine blk_drew ?_ | refine blk_alloc ?_ _)); refine blk_put (cs := #[.int .i64 t287, .string t288, .int .i64 0, .string (⟨#[]⟩ : ByteArray)]) ?_ 2 _ rfl; (with_reducible repeat (first | refine blk_drewN ?_ _ | refine blk_drew ?_ | refine blk_alloc ?_ _)); refine blk_put (cs := #[.int .i64 t287, .string (⟨#[]⟩ : ByteArray), .int .i64 0, .string (⟨#[]⟩ : ByteArray)]) ?_ 1 _ rfl; (with_reducible repeat (first | refine blk_drewN ?_ _ | refine blk_drew ?_ | refine blk_alloc ?_ _)); refine blk_put (cs := #[.int .i64 0, .string (⟨#[]⟩ : ByteArray), .int .i64 0, .string (⟨#[]⟩ : ByteArray)]) ?_ 0 _ rfl; (with_reducible repeat (first | refine blk_drewN ?_ _ | refine blk_drew ?_ | refine blk_alloc ?_ _)); exact BK295.out) hb); have n4_ := Aside0.mk (blk_below (g := gb296) (o := .cells #[.int .i64 t291, .string t292, .int .i64 t293, .string t294] 43 (0, 0)) (pkS4 BK296) hb); have n5_ := pkB HB hb; clear HO285; clear BK281; clear BK282; clear BK295; clear BK296; clear HB; have HO285 := n0_; have BK281 := n1_; have BK282 := n2_; have BK295 := n3_; have BK296 := n4_; have HB := n5_; clear n0_ n1_ n2_ n3_ n4_ n5_; try clear hb))
      go_ret2
      exact pkE HB
    · replace c8 := Bool.eq_false_iff.mpr c8
      subst c8
      rw [if_neg (show ¬ (false = true) by decide)] at H
      obtain ⟨t298, A37, H⟩ := bi H
      try dsimp only at H
      by_cases c38 : t298 ≤ 0
      · rw [if_pos c38] at H
        have c38b0 : decide (t298 ≤ 0) = true := decide_eq_true c38
        clear c38
        obtain ⟨t299, A39, H⟩ := bi H
        try dsimp only at H
        simp only [Option.some.injEq, Prod.mk.injEq] at H
        obtain ⟨rfl, rfl⟩ := H
        have hnb63 := NB295_281.out
        have hnc63 := NB281_295.out
        have hnb64 := NB295_282.out
        have hnc64 := NB282_295.out
        have hnb65 := NB295_296.out
        have hnc65 := NB296_295.out
        have hcz66_0 : w23.cell? ⟨gb295, 0, none⟩ = some (.int .i64 0) := (blk_cell BK295.out 0).trans rfl
        have hcz66_1 : w23.cell? ⟨gb295, 1, none⟩ = some (.string (⟨#[]⟩ : ByteArray)) := (blk_cell BK295.out 1).trans rfl
        have hcz66_2 : w23.cell? ⟨gb295, 2, none⟩ = some (.int .i64 0) := (blk_cell BK295.out 2).trans rfl
        have hcz66_3 : w23.cell? ⟨gb295, 3, none⟩ = some (.string (⟨#[]⟩ : ByteArray)) := (blk_cell BK295.out 3).trans rfl
        have hfz66_0 := blk_frozen BK295.out 0
        have hfz66_1 := blk_frozen BK295.out 1
        have hfz66_2 := blk_frozen BK295.out 2
        have hfz66_3 := blk_frozen BK295.out 3
        try go_wp2_with (first | ((with_reducible refine gate_callee (f := 15) rfl ?_); refine gl_ 21 Tryz.func15 #[.agg #[.int .i64 t287, .string t288, .int .i64 t289, .string t290]] (h := ?_); (with_reducible refine (interval_span_empty.calls t287 t288 t289 t290 false _ A7.out).mono ?_); rintro e w67 ⟨rfl, hb⟩; refine ⟨_, rfl, ?_⟩; have n0_ := Aside0.mk (Kd.R_below (by (with_reducible repeat (first | apply Kd.R_alloc | apply Kd.R_drewN | apply Kd.R_drew)); exact (Kd.R_mono (Kd.R_mono (Kd.R_far (p := ⟨gb296, 3, none⟩) (Kd.R_far (p := ⟨gb296, 2, none⟩) (Kd.R_far (p := ⟨gb296, 1, none⟩) (Kd.R_far (p := ⟨gb296, 0, none⟩) (Kd.R_far (p := ⟨gb295, 3, none⟩) (Kd.R_far (p := ⟨gb295, 2, none⟩) (Kd.R_far (p := ⟨gb295, 1, none⟩) (Kd.R_far (p := ⟨gb295, 0, none⟩) (Kd.R_types (Kd.R_types HO285.out BK295.out (by decide)) BK296.out (by decide)) (fun _ hk => hk.1.2) (.int .i64 t287)) (fun _ hk => hk.1.2) (.string t288)) (fun _ hk => hk.1.2) (.int .i64 t289)) (fun _ hk => hk.1.2) (.string t290)) (fun _ hk => hk.2) (.int .i64 t291)) (fun _ hk => hk.2) (.string t292)) (fun _ hk => hk.2) (.int .i64 t293)) (fun _ hk => hk.2) (.string t294)) (fun _ h_ => h_.1)) (fun _ h_ => h_.1))) hb); have n1_ := pkF BK281 hb; have n2_ := pkF BK282 hb; have n3_ := Aside0.mk (blk_below (g := gb295) (o := .cells #[.int .i64 t287, .string t288, .int .i64 t289, .string t290] 43 (0, 0)) (by (with_reducible repeat (first | refine blk_drewN ?_ _ | refine blk_drew ?_ | refine blk_alloc ?_ _)); refine blk_far ?_ NB295_296.out _; (with_reducible repeat (first | refine blk_drewN ?_ _ | refine blk_drew ?_ | refine blk_alloc ?_ _)); refine blk_far ?_ NB295_296.out _; (with_reducible repeat (first | refine blk_drewN ?_ _ | refine blk_drew ?_ | refine blk_alloc ?_ _)); refine blk_far ?_ NB295_296.out _; (with_reducible repeat (first | refine blk_drewN ?_ _ | refine blk_drew ?_ | refine blk_alloc ?_ _)); refine blk_far ?_ NB295_296.out _; (with_reducible repeat (first | refine blk_drewN ?_ _ | refine blk_drew ?_ | refine blk_alloc ?_ _)); refine blk_put (cs := #[.int .i64 t287, .string t288, .int .i64 t289, .string (⟨#[]⟩ : ByteArray)]) ?_ 3 _ rfl; (with_reducible repeat (first | refine blk_drewN ?_ _ | refine blk_drew ?_ | refine blk_alloc ?_ _)); refine blk_put (cs := #[.int .i64 t287, .string t288, .int .i64 0, .string (⟨#[]⟩ : ByteArray)]) ?_ 2 _ rfl; (with_reducible repeat (first | refine blk_drewN ?_ _ | refine blk_drew ?_ | refine blk_alloc ?_ _)); refine blk_put (cs := #[.int .i64 t287, .string (⟨#[]⟩ : ByteArray), .int .i64 0, .string (⟨#[]⟩ : ByteArray)]) ?_ 1 _ rfl; (with_reducible repeat (first | refine blk_drewN ?_ _ | refine blk_drew ?_ | refine blk_alloc ?_ _)); refine blk_put (cs := #[.int .i64 0, .string (⟨#[]⟩ : ByteArray), .int .i64 0, .string (⟨#[]⟩ : ByteArray)]) ?_ 0 _ rfl; (with_reducible repeat (first | refine blk_drewN ?_ _ | refine blk_drew ?_ | refine blk_alloc ?_ _)); exact BK295.out) hb); have n4_ := Aside0.mk (blk_below (g := gb296) (o := .cells #[.int .i64 t291, .string t292, .int .i64 t293, .string t294] 43 (0, 0)) (pkS4 BK296) hb); have n5_ := pkB HB hb; clear HO285; clear BK281; clear BK282; clear BK295; clear BK296; clear HB; have HO285 := n0_; have BK281 := n1_; have BK282 := n2_; have BK295 := n3_; have BK296 := n4_; have HB := n5_; clear n0_ n1_ n2_ n3_ n4_ n5_; try clear hb; have hnb68 := NB296_281.out; have hnc68 := NB281_296.out; have hnb69 := NB296_282.out; have hnc69 := NB282_296.out; have hcz70_0 : w67.cell? ⟨gb296, 0, none⟩ = some (.int .i64 t291) := (blk_cell BK296.out 0).trans rfl; have hcz70_1 : w67.cell? ⟨gb296, 1, none⟩ = some (.string t292) := (blk_cell BK296.out 1).trans rfl; have hcz70_2 : w67.cell? ⟨gb296, 2, none⟩ = some (.int .i64 t293) := (blk_cell BK296.out 2).trans rfl; have hcz70_3 : w67.cell? ⟨gb296, 3, none⟩ = some (.string t294) := (blk_cell BK296.out 3).trans rfl; have hfz70_0 := blk_frozen BK296.out 0; have hfz70_1 := blk_frozen BK296.out 1; have hfz70_2 := blk_frozen BK296.out 2; have hfz70_3 := blk_frozen BK296.out 3; have hcz71_0 : w67.cell? ⟨gb295, 0, none⟩ = some (.int .i64 t287) := (blk_cell BK295.out 0).trans rfl; have hcz71_1 : w67.cell? ⟨gb295, 1, none⟩ = some (.string t288) := (blk_cell BK295.out 1).trans rfl; have hcz71_2 : w67.cell? ⟨gb295, 2, none⟩ = some (.int .i64 t289) := (blk_cell BK295.out 2).trans rfl; have hcz71_3 : w67.cell? ⟨gb295, 3, none⟩ = some (.string t290) := (blk_cell BK295.out 3).trans rfl; have hfz71_0 := blk_frozen BK295.out 0; have hfz71_1 := blk_frozen BK295.out 1; have hfz71_2 := blk_frozen BK295.out 2; have hfz71_3 := blk_frozen BK295.out 3) | (go_at_call 18; (with_reducible refine (interval_compare.calls t291 t292 t287 t288 t298 _ A37.out).mono ?_); rintro e w72 ⟨rfl, hb⟩; replace HO285 := Aside0.mk (Kd.R_below (by (with_reducible repeat (first | apply Kd.R_alloc | apply Kd.R_drewN | apply Kd.R_drew)); exact HO285.out) hb); replace BK281 := pkK BK281 hb; replace BK282 := pkK BK282 hb; replace BK295 := pkK BK295 hb; replace BK296 := pkK BK296 hb; replace HB := pkB HB hb; try clear hb; have hcz73_0 : w72.cell? ⟨gb295, 0, none⟩ = some (.int .i64 t287) := (blk_cell BK295.out 0).trans rfl; have hcz73_1 : w72.cell? ⟨gb295, 1, none⟩ = some (.string t288) := (blk_cell BK295.out 1).trans rfl; have hcz73_2 : w72.cell? ⟨gb295, 2, none⟩ = some (.int .i64 t289) := (blk_cell BK295.out 2).trans rfl; have hcz73_3 : w72.cell? ⟨gb295, 3, none⟩ = some (.string t290) := (blk_cell BK295.out 3).trans rfl; have hfz73_0 := blk_frozen BK295.out 0; have hfz73_1 := blk_frozen BK295.out 1; have hfz73_2 := blk_frozen BK295.out 2; have hfz73_3 := blk_frozen BK295.out 3; have hcz74_0 : w72.cell? ⟨gb296, 0, none⟩ = some (.int .i64 t291) := (blk_cell BK296.out 0).trans rfl; have hcz74_1 : w72.cell? ⟨gb296, 1, none⟩ = some (.string t292) := (blk_cell BK296.out 1).trans rfl; have hcz74_2 : w72.cell? ⟨gb296, 2, none⟩ = some (.int .i64 t293) := (blk_cell BK296.out 2).trans rfl; have hcz74_3 : w72.cell? ⟨gb296, 3, none⟩ = some (.string t294) := (blk_cell BK296.out 3).trans rfl; have hfz74_0 := blk_frozen BK296.out 0; have hfz74_1 := blk_frozen BK296.out 1; have hfz74_2 := blk_frozen BK296.out 2; have hfz74_3 := blk_frozen BK296.out 3) | (go_at_call 18; (with_reducible refine (interval_compare.calls t289 t290 t293 t294 t299 _ A39.out).mono ?_); rintro e w75 ⟨rfl, hb⟩; replace HO285 := Aside0.mk (Kd.R_below (by (with_reducible repeat (first | apply Kd.R_alloc | apply Kd.R_drewN | apply Kd.R_drew)); exact HO285.out) hb); replace BK281 := pkK BK281 hb; replace BK282 := pkK BK282 hb; replace BK295 := pkK BK295 hb; replace BK296 := pkK BK296 hb; replace HB := pkB HB hb; try clear hb))
        go_ret2
        exact pkE HB
      · rw [if_neg c38] at H
        have c38b0 : decide (t298 ≤ 0) = false := decide_eq_false c38
        clear c38
        simp only [Option.some.injEq, Prod.mk.injEq] at H
        obtain ⟨rfl, rfl⟩ := H
        have hnb63 := NB295_281.out
        have hnc63 := NB281_295.out
        have hnb64 := NB295_282.out
        have hnc64 := NB282_295.out
        have hnb65 := NB295_296.out
        have hnc65 := NB296_295.out
        have hcz66_0 : w23.cell? ⟨gb295, 0, none⟩ = some (.int .i64 0) := (blk_cell BK295.out 0).trans rfl
        have hcz66_1 : w23.cell? ⟨gb295, 1, none⟩ = some (.string (⟨#[]⟩ : ByteArray)) := (blk_cell BK295.out 1).trans rfl
        have hcz66_2 : w23.cell? ⟨gb295, 2, none⟩ = some (.int .i64 0) := (blk_cell BK295.out 2).trans rfl
        have hcz66_3 : w23.cell? ⟨gb295, 3, none⟩ = some (.string (⟨#[]⟩ : ByteArray)) := (blk_cell BK295.out 3).trans rfl
        have hfz66_0 := blk_frozen BK295.out 0
        have hfz66_1 := blk_frozen BK295.out 1
        have hfz66_2 := blk_frozen BK295.out 2
        have hfz66_3 := blk_frozen BK295.out 3
        try go_wp2_with (first | ((with_reducible refine gate_callee (f := 15) rfl ?_); refine gl_ 21 Tryz.func15 #[.agg #[.int .i64 t287, .string t288, .int .i64 t289, .string t290]] (h := ?_); (with_reducible refine (interval_span_empty.calls t287 t288 t289 t290 false _ A7.out).mono ?_); rintro e w103 ⟨rfl, hb⟩; refine ⟨_, rfl, ?_⟩; have n0_ := Aside0.mk (Kd.R_below (by (with_reducible repeat (first | apply Kd.R_alloc | apply Kd.R_drewN | apply Kd.R_drew)); exact (Kd.R_mono (Kd.R_mono (Kd.R_far (p := ⟨gb296, 3, none⟩) (Kd.R_far (p := ⟨gb296, 2, none⟩) (Kd.R_far (p := ⟨gb296, 1, none⟩) (Kd.R_far (p := ⟨gb296, 0, none⟩) (Kd.R_far (p := ⟨gb295, 3, none⟩) (Kd.R_far (p := ⟨gb295, 2, none⟩) (Kd.R_far (p := ⟨gb295, 1, none⟩) (Kd.R_far (p := ⟨gb295, 0, none⟩) (Kd.R_types (Kd.R_types HO285.out BK295.out (by decide)) BK296.out (by decide)) (fun _ hk => hk.1.2) (.int .i64 t287)) (fun _ hk => hk.1.2) (.string t288)) (fun _ hk => hk.1.2) (.int .i64 t289)) (fun _ hk => hk.1.2) (.string t290)) (fun _ hk => hk.2) (.int .i64 t291)) (fun _ hk => hk.2) (.string t292)) (fun _ hk => hk.2) (.int .i64 t293)) (fun _ hk => hk.2) (.string t294)) (fun _ h_ => h_.1)) (fun _ h_ => h_.1))) hb); have n1_ := pkF BK281 hb; have n2_ := pkF BK282 hb; have n3_ := Aside0.mk (blk_below (g := gb295) (o := .cells #[.int .i64 t287, .string t288, .int .i64 t289, .string t290] 43 (0, 0)) (by (with_reducible repeat (first | refine blk_drewN ?_ _ | refine blk_drew ?_ | refine blk_alloc ?_ _)); refine blk_far ?_ NB295_296.out _; (with_reducible repeat (first | refine blk_drewN ?_ _ | refine blk_drew ?_ | refine blk_alloc ?_ _)); refine blk_far ?_ NB295_296.out _; (with_reducible repeat (first | refine blk_drewN ?_ _ | refine blk_drew ?_ | refine blk_alloc ?_ _)); refine blk_far ?_ NB295_296.out _; (with_reducible repeat (first | refine blk_drewN ?_ _ | refine blk_drew ?_ | refine blk_alloc ?_ _)); refine blk_far ?_ NB295_296.out _; (with_reducible repeat (first | refine blk_drewN ?_ _ | refine blk_drew ?_ | refine blk_alloc ?_ _)); refine blk_put (cs := #[.int .i64 t287, .string t288, .int .i64 t289, .string (⟨#[]⟩ : ByteArray)]) ?_ 3 _ rfl; (with_reducible repeat (first | refine blk_drewN ?_ _ | refine blk_drew ?_ | refine blk_alloc ?_ _)); refine blk_put (cs := #[.int .i64 t287, .string t288, .int .i64 0, .string (⟨#[]⟩ : ByteArray)]) ?_ 2 _ rfl; (with_reducible repeat (first | refine blk_drewN ?_ _ | refine blk_drew ?_ | refine blk_alloc ?_ _)); refine blk_put (cs := #[.int .i64 t287, .string (⟨#[]⟩ : ByteArray), .int .i64 0, .string (⟨#[]⟩ : ByteArray)]) ?_ 1 _ rfl; (with_reducible repeat (first | refine blk_drewN ?_ _ | refine blk_drew ?_ | refine blk_alloc ?_ _)); refine blk_put (cs := #[.int .i64 0, .string (⟨#[]⟩ : ByteArray), .int .i64 0, .string (⟨#[]⟩ : ByteArray)]) ?_ 0 _ rfl; (with_reducible repeat (first | refine blk_drewN ?_ _ | refine blk_drew ?_ | refine blk_alloc ?_ _)); exact BK295.out) hb); have n4_ := Aside0.mk (blk_below (g := gb296) (o := .cells #[.int .i64 t291, .string t292, .int .i64 t293, .string t294] 43 (0, 0)) (pkS4 BK296) hb); have n5_ := pkB HB hb; clear HO285; clear BK281; clear BK282; clear BK295; clear BK296; clear HB; have HO285 := n0_; have BK281 := n1_; have BK282 := n2_; have BK295 := n3_; have BK296 := n4_; have HB := n5_; clear n0_ n1_ n2_ n3_ n4_ n5_; try clear hb; have hnb104 := NB296_281.out; have hnc104 := NB281_296.out; have hnb105 := NB296_282.out; have hnc105 := NB282_296.out; have hcz106_0 : w103.cell? ⟨gb296, 0, none⟩ = some (.int .i64 t291) := (blk_cell BK296.out 0).trans rfl; have hcz106_1 : w103.cell? ⟨gb296, 1, none⟩ = some (.string t292) := (blk_cell BK296.out 1).trans rfl; have hcz106_2 : w103.cell? ⟨gb296, 2, none⟩ = some (.int .i64 t293) := (blk_cell BK296.out 2).trans rfl; have hcz106_3 : w103.cell? ⟨gb296, 3, none⟩ = some (.string t294) := (blk_cell BK296.out 3).trans rfl; have hfz106_0 := blk_frozen BK296.out 0; have hfz106_1 := blk_frozen BK296.out 1; have hfz106_2 := blk_frozen BK296.out 2; have hfz106_3 := blk_frozen BK296.out 3; have hcz107_0 : w103.cell? ⟨gb295, 0, none⟩ = some (.int .i64 t287) := (blk_cell BK295.out 0).trans rfl; have hcz107_1 : w103.cell? ⟨gb295, 1, none⟩ = some (.string t288) := (blk_cell BK295.out 1).trans rfl; have hcz107_2 : w103.cell? ⟨gb295, 2, none⟩ = some (.int .i64 t289) := (blk_cell BK295.out 2).trans rfl; have hcz107_3 : w103.cell? ⟨gb295, 3, none⟩ = some (.string t290) := (blk_cell BK295.out 3).trans rfl; have hfz107_0 := blk_frozen BK295.out 0; have hfz107_1 := blk_frozen BK295.out 1; have hfz107_2 := blk_frozen BK295.out 2; have hfz107_3 := blk_frozen BK295.out 3) | (go_at_call 18; (with_reducible refine (interval_compare.calls t291 t292 t287 t288 t298 _ A37.out).mono ?_); rintro e w108 ⟨rfl, hb⟩; replace HO285 := Aside0.mk (Kd.R_below (by (with_reducible repeat (first | apply Kd.R_alloc | apply Kd.R_drewN | apply Kd.R_drew)); exact HO285.out) hb); replace BK281 := pkK BK281 hb; replace BK282 := pkK BK282 hb; replace BK295 := pkK BK295 hb; replace BK296 := pkK BK296 hb; replace HB := pkB HB hb; try clear hb))
        go_ret2
        exact pkE HB
  · rw [if_neg c4] at H
    have c4b0 : (t286 == 0) = false := beq_eq_false_iff_ne.mpr c4
    have c4b1 : (t286 != 0) = true := bne_iff_ne.mpr c4
    simp only [Option.some.injEq, Prod.mk.injEq] at H
    obtain ⟨rfl, rfl⟩ := H
    go_wp2_with (first | ((with_reducible refine gate_dst (N := 2) rfl ?_); refine bx_ 2 28 #[.bool a0_0, .string a0_1, .string a0_2] (h := ?_); intro gb281 hg w109 hbox hb; have BK281 := Aside0.mk (hbox); have GW281 := pkG HB hg; have GE281 := GW281; replace HB := pkB HB hb; clear hb hbox hg) | ((with_reducible refine gate_dst (N := 3) rfl ?_); refine bx_ 3 28 #[.bool a1_0, .string a1_1, .string a1_2] (h := ?_); intro gb282 hg w110 hbox hb; have BK282 := Aside0.mk (hbox); have GW282 := pkG HB hg; have GE282 := GW282; obtain ⟨NB281_282, NB282_281, _, _⟩ := pkQ BK281 hg; replace BK281 := pkK BK281 hb; replace HB := pkB HB hb; clear hb hbox hg; have hnb111 := NB281_282.out; have hnc111 := NB282_281.out; obtain ⟨⟨hcz112_0, hcz112_1, hcz112_2⟩, hfz112_0, hfz112_1, hfz112_2⟩ := pk3 BK281; obtain ⟨⟨hcz113_0, hcz113_1, hcz113_2⟩, hfz113_0, hfz113_1, hfz113_2⟩ := pk3 BK282) | ((with_reducible refine gate_dst (N := 11) rfl ?_); refine Kd.R_lit k28 _ 28 ?hg (N := 11) ?hd (xs := ([(⟨a0_0, a0_1, a0_2⟩ : S28), (⟨a1_0, a1_1, a1_2⟩ : S28)] : List (S28))) (inner := [.bool a0_0, .string a0_1, .string a0_2, .bool a1_0, .string a1_1, .string a1_2]) (ok := fun _ => True) (okp := fun _ => True) ?hr ?hp (fun _ hk => hk) trivial (Below.refl _ _) (Nat.le_refl _) (by simp) ?_; (case hd => rfl); (case hg => rfl); (case hr => first | (go_simp; done) | (go_simp; rfl)); (case hp => exact (Reps.c3 (show Kd.M k28 _ _ _ (⟨a0_0, a0_1, a0_2⟩ : S28) [.bool a0_0, .string a0_1, .string a0_2] from (k28_mkM _ _ _ (⟨a0_0, a0_1, a0_2⟩ : S28) )) (Reps.c3 (show Kd.M k28 _ _ _ (⟨a1_0, a1_1, a1_2⟩ : S28) [.bool a1_0, .string a1_1, .string a1_2] from (k28_mkM _ _ _ (⟨a1_0, a1_1, a1_2⟩ : S28) )) (Reps.none _ _)))); intro v284 w114 ho115 hb hg_ hnew_; clear hg_ hnew_; (first | rw [← Ny283.out] at ho115 | (simp only [Int.reduceToNat] at ho115; rw [← Ny283.out] at ho115)); have HO285 := Aside0.mk (Kd.R_lower (Kd.R_newB (Kd.R_newB ho115 (g := gb281) (o := .cells #[.bool a0_0, .string a0_1, .string a0_2] 28 (0, 0)) (pkW BK281)) (g := gb282) (o := .cells #[.bool a1_0, .string a1_1, .string a1_2] 28 (0, 0)) (pkW BK282)) (below_size (pkL HB))); replace BK281 := pkK BK281 hb; replace BK282 := pkK BK282 hb; replace HB := pkB HB hb; clear hb ho115; obtain ⟨Ao116, co116, eo116⟩ := Kd.R_slice HO285.out; subst eo116) | ((with_reducible refine gate_callee (f := 12) rfl ?_); refine gl_ 12 Tryz.func12 #[.slice Ao116 y283.length co116] (h := ?_); (with_reducible refine (interval_checks.calls k _ _ y283 t286 _ ?side1 ?side2 A3.out).mono ?_); (case side1 => repeat (first | exact (Kd.R_reads' HO285.out).2.2 | (with_reducible refine Kd.C_alloc ?_ _) | (with_reducible refine Kd.C_drewN ?_ _) | (with_reducible refine Kd.C_drew ?_))); (case side2 => exact (Kd.R_reads' HO285.out).2.1); rintro e w117 ⟨rfl, hb⟩; refine ⟨_, rfl, ?_⟩; replace HO285 := Aside0.mk (Kd.R_below (by (with_reducible repeat (first | apply Kd.R_alloc | apply Kd.R_drewN | apply Kd.R_drew)); exact HO285.out) hb); replace BK281 := pkK BK281 hb; replace BK282 := pkK BK282 hb; replace HB := pkB HB hb; try clear hb))
    go_ret2
    exact pkE HB
end Go.Proofs.YtnagmogjhfdmlaaGreatDoor.PTopChainsIntervals
