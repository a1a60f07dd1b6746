/- Lemmas. -/
import Derived.Test.YtnagmogjhfdmlaaGreatDoorLPTopChainsIntervalsx0
import Derived.Test.YtnagmogjhfdmlaaGreatDoorLPTopChainsIntervalsx5
import Derived.Test.YtnagmogjhfdmlaaGreatDoorLShort
import Derived.Test.YtnagmogjhfdmlaaGreatDoorLShort3
import Derived.Test.YtnagmogjhfdmlaaGreatDoorLShort4
namespace Go.Proofs.YtnagmogjhfdmlaaGreatDoor.PTopChainsIntervals
open Go.RowKit Go.Proofs.YtnagmogjhfdmlaaGreatDoorW.PrintWords Go.Proofs.YtnagmogjhfdmlaaGreatDoorW.PrintLast Go.Proofs.YtnagmogjhfdmlaaGreatDoorW.PrintMore
attribute [local go_sem] max2_int -- for this text's walks alone
set_option linter.unusedVariables false
set_option linter.unusedSimpArgs false
def interval_span_interval.f (a0_0 : Int) (a0_1 : ByteArray) (a0_2 : Int) (a0_3 : ByteArray) : Option (Bool × ByteArray × ByteArray) := (interval_span_empty.f a0_0 a0_1 a0_2 a0_3).bind fun t203 => (if t203 = true then (some (true, (⟨#[]⟩ : ByteArray), (⟨#[]⟩ : ByteArray))) else ((interval_text.f a0_0 a0_1).bind fun t204 => ((interval_text.f a0_2 a0_3).bind fun t205 => (some (false, t204, t205)))))
def interval_span_interval.T3 : Bool × List (List Nat × List Nat) := (true, [([], []), ([0], [0]), ([1], [1]), ([], []), ([3], [3]), ([4, 2], [4]), ([2, 5], [2, 5]), ([6, 5, 0, 1, 2, 3, 4, 5, 6], [6])])
def interval_span_interval.B3 : List Nat := [0, 1, 3, 0, 8, 31, 63, 127]
theorem interval_span_interval.tab3 : rtab .any (opsOf Tryz.f17 3) = interval_span_interval.T3 := by kernel_rfl
theorem interval_span_interval.bits3 : waitsOk interval_span_interval.T3.2 interval_span_interval.B3 = true := by kernel_rfl
set_option maxHeartbeats 8000000 in
set_option maxRecDepth 100000 in
theorem interval_span_interval.calls (a0_0 : Int) (a0_1 : ByteArray) (a0_2 : Int) (a0_3 : ByteArray) (r1 : Bool) (r2 : ByteArray) (r3 : ByteArray) (w : World) (h : interval_span_interval.f a0_0 a0_1 a0_2 a0_3 = some (r1, r2, r3)) :
    Calls Tryz.prog 17 #[.agg #[.int .i64 a0_0, .string a0_1, .int .i64 a0_2, .string a0_3]] w fun e w' => e = .returned (.agg #[.bool r1, .string r2, .string r3]) ∧ Below w.heap.size w w' := by
  have hu43 := Tryz.underlying43
  have hu28 := Tryz.underlying28
  have hu41 := Tryz.underlying41
  have HB := Aside0.mk (Below.refl w.heap.size w)
  have H : ((interval_span_empty.f a0_0 a0_1 a0_2 a0_3).bind fun t203 => (if t203 = true then (some (true, (⟨#[]⟩ : ByteArray), (⟨#[]⟩ : ByteArray))) else ((interval_text.f a0_0 a0_1).bind fun t204 => ((interval_text.f a0_2 a0_3).bind fun t205 => (some (false, t204, t205)))))) = some (r1, r2, r3) := h
  clear h
  obtain ⟨t203, A2, H⟩ := bi H
  try dsimp only at H
  go_enter Tryz.func17, Tryz.ntmps17
  by_cases c3 : t203 = true
  · subst c3
    rw [if_pos rfl] at H
    simp only [Option.some.injEq, Prod.mk.injEq] at H
    obtain ⟨rfl, rfl, rfl⟩ := H
    go_wp2_with (first | ((with_reducible refine gate_dst (N := 1) rfl ?_); refine bx_ 1 43 #[.int .i64 a0_0, .string a0_1, .int .i64 a0_2, .string a0_3] (h := ?_); intro gb201 hg w4 hbox hb; have BK201 := Aside0.mk (hbox); have GW201 := pkG HB hg; have GE201 := GW201; replace HB := pkB HB hb; clear hb hbox hg) | ((with_reducible refine gate_dst (N := 2) rfl ?_); refine bx_ 2 28 #[.bool false, .string (⟨#[]⟩ : ByteArray), .string (⟨#[]⟩ : ByteArray)] (h := ?_); intro gb202 hg w5 hbox hb; have BK202 := Aside0.mk (hbox); have GW202 := pkG HB hg; have GE202 := GW202; obtain ⟨NB201_202, NB202_201, _, _⟩ := pkQ BK201 hg; replace BK201 := pkK BK201 hb; replace HB := pkB HB hb; clear hb hbox hg; have hnb6 := NB201_202.out; have hnc6 := NB202_201.out; have hcz7_0 : w5.cell? ⟨gb201, 0, none⟩ = some (.int .i64 a0_0) := (blk_cell BK201.out 0).trans rfl; have hcz7_1 : w5.cell? ⟨gb201, 1, none⟩ = some (.string a0_1) := (blk_cell BK201.out 1).trans rfl; have hcz7_2 : w5.cell? ⟨gb201, 2, none⟩ = some (.int .i64 a0_2) := (blk_cell BK201.out 2).trans rfl; have hcz7_3 : w5.cell? ⟨gb201, 3, none⟩ = some (.string a0_3) := (blk_cell BK201.out 3).trans rfl; have hfz7_0 := blk_frozen BK201.out 0; have hfz7_1 := blk_frozen BK201.out 1; have hfz7_2 := blk_frozen BK201.out 2; have hfz7_3 := blk_frozen BK201.out 3) | ((with_reducible refine gate_callee (f := 15) rfl ?_); refine gl_ 4 Tryz.func15 #[.agg #[.int .i64 a0_0, .string a0_1, .int .i64 a0_2, .string a0_3]] (h := ?_); (with_reducible refine (interval_span_empty.calls a0_0 a0_1 a0_2 a0_3 true _ A2.out).mono ?_); rintro e w8 ⟨rfl, hb⟩; refine ⟨_, rfl, ?_⟩; replace BK201 := pkK BK201 hb; replace BK202 := pkK BK202 hb; replace HB := pkB HB hb; try clear hb; obtain ⟨⟨hcz9_0, hcz9_1, hcz9_2⟩, hfz9_0, hfz9_1, hfz9_2⟩ := pk3 BK202))
    refine bodyPost_ret (results_cell_row rfl _ _ gb202 28 #[.bool true, .string (⟨#[]⟩ : ByteArray), .string (⟨#[]⟩ : ByteArray)] (0, 0) _ rfl (pkS3 BK202) Tryz.underlying28 rfl (by kernel_rfl)) rfl ?_
    exact pkE HB
  · replace c3 := Bool.eq_false_iff.mpr c3
    subst c3
    rw [if_neg (show ¬ (false = true) by decide)] at H
    obtain ⟨t204, A10, H⟩ := bi H
    try dsimp only at H
    obtain ⟨t205, A11, H⟩ := bi H
    try dsimp only at H
    simp only [Option.some.injEq, Prod.mk.injEq] at H
    obtain ⟨rfl, rfl, rfl⟩ := H
    try go_wp2_with (first | ((with_reducible refine gate_dst (N := 1) rfl ?_); refine bx_ 1 43 #[.int .i64 a0_0, .string a0_1, .int .i64 a0_2, .string a0_3] (h := ?_); intro gb201 hg w12 hbox hb; have BK201 := Aside0.mk (hbox); have GW201 := pkG HB hg; have GE201 := GW201; replace HB := pkB HB hb; clear hb hbox hg) | ((with_reducible refine gate_dst (N := 2) rfl ?_); refine bx_ 2 28 #[.bool false, .string (⟨#[]⟩ : ByteArray), .string (⟨#[]⟩ : ByteArray)] (h := ?_); intro gb202 hg w13 hbox hb; have BK202 := Aside0.mk (hbox); have GW202 := pkG HB hg; have GE202 := GW202; obtain ⟨NB201_202, NB202_201, _, _⟩ := pkQ BK201 hg; replace BK201 := pkK BK201 hb; replace HB := pkB HB hb; clear hb hbox hg; have hnb14 := NB201_202.out; have hnc14 := NB202_201.out; have hcz15_0 : w13.cell? ⟨gb201, 0, none⟩ = some (.int .i64 a0_0) := (blk_cell BK201.out 0).trans rfl; have hcz15_1 : w13.cell? ⟨gb201, 1, none⟩ = some (.string a0_1) := (blk_cell BK201.out 1).trans rfl; have hcz15_2 : w13.cell? ⟨gb201, 2, none⟩ = some (.int .i64 a0_2) := (blk_cell BK201.out 2).trans rfl; have hcz15_3 : w13.cell? ⟨gb201, 3, none⟩ = some (.string a0_3) := (blk_cell BK201.out 3).trans rfl; have hfz15_0 := blk_frozen BK201.out 0; have hfz15_1 := blk_frozen BK201.out 1; have hfz15_2 := blk_frozen BK201.out 2; have hfz15_3 := blk_frozen BK201.out 3) | ((with_reducible refine gate_callee (f := 15) rfl ?_); refine gl_ 4 Tryz.func15 #[.agg #[.int .i64 a0_0, .string a0_1, .int .i64 a0_2, .string a0_3]] (h := ?_); (with_reducible refine (interval_span_empty.calls a0_0 a0_1 a0_2 a0_3 false _ A2.out).mono ?_); rintro e w16 ⟨rfl, hb⟩; refine ⟨_, rfl, ?_⟩; replace BK201 := pkK BK201 hb; replace BK202 := pkK BK202 hb; replace HB := pkB HB hb; try clear hb))
    replace BK201 := Aside0.mk (blk_drew BK201.out); replace BK202 := Aside0.mk (blk_drew BK202.out); replace HB := Aside0.mk (below_drew1 HB.out)
    refine start_ (n := 8) (S := fun w' => w'.cell? ⟨gb201, 0, none⟩ = some (.int .i64 a0_0) ∧ w'.cell? ⟨gb201, 1, none⟩ = some (.string a0_1) ∧ w'.cell? ⟨gb201, 2, none⟩ = some (.int .i64 a0_2) ∧ w'.cell? ⟨gb201, 3, none⟩ = some (.string a0_3)) (ds := []) #[false, false, false, false, false, false, false, false] (by kernel_rfl) rfl rfl ⟨(blk_cell BK201.out 0).trans rfl, (blk_cell BK201.out 1).trans rfl, (blk_cell BK201.out 2).trans rfl, (blk_cell BK201.out 3).trans rfl⟩ (fun hHeld => ?_); refine with_tabW interval_span_interval.tab3 interval_span_interval.bits3 (fun HT_ HW_ => ?_)
    generalize w16.drew = w17 at BK201 BK202 HB hHeld ⊢
    refine pr_ 0 6 (h := ?_)
    refine pr_ 3 9 (h := ?_)
    refine tk_ 1 7 hHeld (hy := by rintro w' ⟨s0, s1, s2, s3⟩; go_simp; with_reducible rfl) (h := ?_)
    refine tk_ 4 10 hHeld (hy := by rintro w' ⟨s0, s1, s2, s3⟩; go_simp; with_reducible rfl) (h := ?_)
    refine on_ 2 8 (h := fun K hK => ?_)
    refine g1_ Tryz.func30 #[.agg #[.int .i64 a0_0, .string a0_1]] (h := ?_)
    with_reducible refine (interval_text.calls a0_0 a0_1 t204 _ A10.out).mono ?_
    rintro e w18 ⟨rfl, hb⟩
    refine ⟨_, rfl, ?_⟩
    replace BK201 := pkK BK201 hb; replace BK202 := pkK BK202 hb; replace HB := pkB HB hb
    (try clear hb)
    (try clear hb2)
    (try clear hk)
    (try clear hi)
    refine hK.out _ _ ⟨(blk_cell BK201.out 0).trans rfl, (blk_cell BK201.out 1).trans rfl, (blk_cell BK201.out 2).trans rfl, (blk_cell BK201.out 3).trans rfl⟩ (fun hHeld => ?_)
    clear hK K
    refine norm_ (a' := ?_) ?_ ?_
    rotate_left
    · show Act.put _ (some 8) _ = _
      simp only [Act.put, List.setIfInBounds_toArray, List.set_cons_zero, List.set_cons_succ, i64_w, i32_w]
      rfl
    refine on_ 5 11 (h := fun K hK => ?_)
    refine g1_ Tryz.func30 #[.agg #[.int .i64 a0_2, .string a0_3]] (h := ?_)
    with_reducible refine (interval_text.calls a0_2 a0_3 t205 _ A11.out).mono ?_
    rintro e w19 ⟨rfl, hb⟩
    refine ⟨_, rfl, ?_⟩
    replace BK201 := pkK BK201 hb; replace BK202 := pkK BK202 hb; replace HB := pkB HB hb
    (try clear hb)
    (try clear hb2)
    (try clear hk)
    (try clear hi)
    refine hK.out _ _ ⟨(blk_cell BK201.out 0).trans rfl, (blk_cell BK201.out 1).trans rfl, (blk_cell BK201.out 2).trans rfl, (blk_cell BK201.out 3).trans rfl⟩ (fun hHeld => ?_)
    clear hK K
    refine norm_ (a' := ?_) ?_ ?_
    rotate_left
    · show Act.put _ (some 11) _ = _
      simp only [Act.put, List.setIfInBounds_toArray, List.set_cons_zero, List.set_cons_succ, i64_w, i32_w]
      rfl
    refine pr_ 6 12 (h := ?_)
    refine one_ (i := 7) (N := none) #[true, true, true, true, true, true, true, true] rfl rfl (one_of HT_.out (by kernel_rfl)) (by decide) (fun K hK => ?_)
    have hs20 : w19.cell? ⟨gb202, 0, none⟩ = some (.bool false) := (blk_cell BK202.out 0).trans rfl
    have hfs20 := blk_frozen BK202.out 0
    have hns20_0 := NB201_202.out
    have hms20_0 := NB202_201.out
    have hs21 : w19.cell? ⟨gb202, 1, none⟩ = some (.string (⟨#[]⟩ : ByteArray)) := (blk_cell BK202.out 1).trans rfl
    have hfs21 := blk_frozen BK202.out 1
    have hns21_0 := NB201_202.out
    have hms21_0 := NB202_201.out
    have hs22 : w19.cell? ⟨gb202, 2, none⟩ = some (.string (⟨#[]⟩ : ByteArray)) := (blk_cell BK202.out 2).trans rfl
    have hfs22 := blk_frozen BK202.out 2
    have hns22_0 := NB201_202.out
    have hms22_0 := NB202_201.out
    refine skip_ (w1 := ?_) (by rfl) rfl ?_ ?_
    rotate_left
    · go_simp
      rfl
    refine hK.out _ _ ⟨((Go.Proofs.YtnagmogjhfdmlaaGreatDoorW.PrintWords.cell_far (p := ⟨gb202, _, none⟩) NB201_202.out _).trans (((Go.Proofs.YtnagmogjhfdmlaaGreatDoorW.PrintWords.cell_far (p := ⟨gb202, _, none⟩) NB201_202.out _).trans (((Go.Proofs.YtnagmogjhfdmlaaGreatDoorW.PrintWords.cell_far (p := ⟨gb202, _, none⟩) NB201_202.out _).trans (hHeld.1)))))), ((Go.Proofs.YtnagmogjhfdmlaaGreatDoorW.PrintWords.cell_far (p := ⟨gb202, _, none⟩) NB201_202.out _).trans (((Go.Proofs.YtnagmogjhfdmlaaGreatDoorW.PrintWords.cell_far (p := ⟨gb202, _, none⟩) NB201_202.out _).trans (((Go.Proofs.YtnagmogjhfdmlaaGreatDoorW.PrintWords.cell_far (p := ⟨gb202, _, none⟩) NB201_202.out _).trans (hHeld.2.1)))))), ((Go.Proofs.YtnagmogjhfdmlaaGreatDoorW.PrintWords.cell_far (p := ⟨gb202, _, none⟩) NB201_202.out _).trans (((Go.Proofs.YtnagmogjhfdmlaaGreatDoorW.PrintWords.cell_far (p := ⟨gb202, _, none⟩) NB201_202.out _).trans (((Go.Proofs.YtnagmogjhfdmlaaGreatDoorW.PrintWords.cell_far (p := ⟨gb202, _, none⟩) NB201_202.out _).trans (hHeld.2.2.1)))))), ((Go.Proofs.YtnagmogjhfdmlaaGreatDoorW.PrintWords.cell_far (p := ⟨gb202, _, none⟩) NB201_202.out _).trans (((Go.Proofs.YtnagmogjhfdmlaaGreatDoorW.PrintWords.cell_far (p := ⟨gb202, _, none⟩) NB201_202.out _).trans (((Go.Proofs.YtnagmogjhfdmlaaGreatDoorW.PrintWords.cell_far (p := ⟨gb202, _, none⟩) NB201_202.out _).trans (hHeld.2.2.2))))))⟩ (fun hHeld => ?_)
    clear hK K
    refine done_ (done_of HT_.out (by kernel_rfl)) ?_
    try go_wp2
    refine bodyPost_ret (results_cell_row rfl _ _ gb202 28 #[.bool false, .string t204, .string t205] (0, 0) _ rfl (pkS3 BK202) Tryz.underlying28 rfl (by kernel_rfl)) rfl ?_
    exact pkE HB
end Go.Proofs.YtnagmogjhfdmlaaGreatDoor.PTopChainsIntervals
