/- Lemmas. -/
import Derived.Test.YtignanmmgaldeaaGreatDoorLPRefAx0
import Derived.Test.YtignanmmgaldeaaGreatDoorLPRefAx1
import Derived.Test.YtignanmmgaldeaaGreatDoorLPRefAx2
namespace Go.Proofs.YtignanmmgaldeaaGreatDoor.PRefA
open Go.RowKit Go.Proofs.YtignanmmgaldeaaGreatDoorW.PrintWords Go.Proofs.YtignanmmgaldeaaGreatDoorW.PrintLast Go.Proofs.YtignanmmgaldeaaGreatDoorW.PrintMore
attribute [local go_sem] max2_int min2_int max_two min_two -- for this text's walks alone
set_option linter.unusedVariables false
set_option linter.unusedSimpArgs false
def surveyorref01_Digits.f (a0 : ByteArray) : Option (Int) := (surveyorref01_Negative.f a0).bind fun t157 => (if t157 = true then (some (wrap64 ((a0.size : Int) - 1))) else (some (a0.size : Int)))
set_option maxHeartbeats 8000000 in
set_option maxRecDepth 100000 in
theorem surveyorref01_Digits.calls (a0 : ByteArray) (r : Int) (w : World) (h : surveyorref01_Digits.f a0 = some r) :
    Calls Tryz.prog 149 #[.string a0] w fun e w' => e = .returned (.int .i64 r) ∧ Drawn0 w w' := by
  have H : ((surveyorref01_Negative.f a0).bind fun t157 => (if t157 = true then (some (wrap64 ((a0.size : Int) - 1))) else (some (a0.size : Int)))) = some r := h
  clear h
  replace H := Option.bind_eq_some_iff.mp H
  obtain ⟨t157, A20, H⟩ := H
  replace H : (if t157 = true then (some (wrap64 ((a0.size : Int) - 1))) else (some (a0.size : Int))) = some r := H
  have A2 := Aside0.mk A20
  clear A20
  by_cases c3 : t157 = true
  · subst c3
    have H1 : (some (wrap64 ((a0.size : Int) - 1))) = some r := by rw [if_pos rfl] at H; exact H
    clear H
    have H := H1
    clear H1
    obtain rfl := Option.some.inj H
    go_enter Tryz.func149, Tryz.ntmps149
    go_wp2_with (first | ((with_reducible refine gate_callee (f := 158) rfl ?_); refine goesL_ (some 4) rfl rfl Tryz.func158 (by kernel_rfl) rfl #[.string a0] rfl (by (try simp only [List.map_toArray, List.map_cons, List.map_nil]); first | done | rfl | (simp only [List.length_drop, List.length_take]; rfl)) ?_; (with_reducible refine (surveyorref01_Negative.calls a0 true _ A2.out).mono ?_); rintro e w' ⟨rfl, ⟨nd, rfl⟩⟩; refine ⟨_, rfl, ?_⟩))
    go_ret
    exact ⟨by first | rfl | (simp; done) | (simp [*]; done), by repeat (first | exact Drawn0.refl _ | apply Drawn0.step)⟩
  · replace c3 := Bool.eq_false_iff.mpr c3
    subst c3
    have H1 : (some (a0.size : Int)) = some r := by rw [if_neg (show ¬ (false = true) by decide)] at H; exact H
    clear H
    have H := H1
    clear H1
    obtain rfl := Option.some.inj H
    go_enter Tryz.func149, Tryz.ntmps149
    go_wp2_with (first | ((with_reducible refine gate_callee (f := 158) rfl ?_); refine goesL_ (some 4) rfl rfl Tryz.func158 (by kernel_rfl) rfl #[.string a0] rfl (by (try simp only [List.map_toArray, List.map_cons, List.map_nil]); first | done | rfl | (simp only [List.length_drop, List.length_take]; rfl)) ?_; (with_reducible refine (surveyorref01_Negative.calls a0 false _ A2.out).mono ?_); rintro e w' ⟨rfl, ⟨nd, rfl⟩⟩; refine ⟨_, rfl, ?_⟩))
    go_ret
    exact ⟨by first | rfl | (simp; done) | (simp [*]; done), by repeat (first | exact Drawn0.refl _ | apply Drawn0.step)⟩
def surveyorref01_short.f (a0 : ByteArray) (a1 : Int) : Option (Bool) := (surveyorref01_Digits.f a0).bind fun t158 => (some (decide (t158 ≤ a1)))
set_option maxHeartbeats 8000000 in
set_option maxRecDepth 100000 in
theorem surveyorref01_short.calls (a0 : ByteArray) (a1 : Int) (r : Bool) (w : World) (h : surveyorref01_short.f a0 a1 = some r) :
    Calls Tryz.prog 150 #[.string a0, .int .i64 a1] w fun e w' => e = .returned (.bool r) ∧ Drawn0 w w' := by
  have H : ((surveyorref01_Digits.f a0).bind fun t158 => (some (decide (t158 ≤ a1)))) = some r := h
  clear h
  replace H := Option.bind_eq_some_iff.mp H
  obtain ⟨t158, A30, H⟩ := H
  replace H : (some (decide (t158 ≤ a1))) = some r := H
  have A3 := Aside0.mk A30
  clear A30
  obtain rfl := Option.some.inj H
  go_enter Tryz.func150, Tryz.ntmps150
  go_wp2_with (first | ((with_reducible refine gate_callee (f := 149) rfl ?_); refine goesL_ (some 6) rfl rfl Tryz.func149 (by kernel_rfl) rfl #[.string a0] rfl (by (try simp only [List.map_toArray, List.map_cons, List.map_nil]); first | done | rfl | (simp only [List.length_drop, List.length_take]; rfl)) ?_; (with_reducible refine (surveyorref01_Digits.calls a0 t158 _ A3.out).mono ?_); rintro e w' ⟨rfl, ⟨nd, rfl⟩⟩; refine ⟨_, rfl, ?_⟩))
  go_ret
  exact ⟨by first | rfl | (simp; done) | (simp [*]; done), by repeat (first | exact Drawn0.refl _ | apply Drawn0.step)⟩
mutual
def surveyorref01_split.l0 : Nat → List Int → List Int → List Int → List Int → Int → Option (List Int × List Int)
  | 0, _, _, _, _, _ => none
  | k + 1, x0, x1, x7, x8, x9 => if x9 ≥ 0 then (if 0 ≤ x9 then (if x9 < (x0.length : Int) then ((some (([rd x0 x9] : List Int) : List Int)).bind fun y173 => (if y173.length + x8.length < 17592186044416 then ((surveyorref01_cut.f k (y173 ++ x8)).bind fun t179 => (surveyorref01_split.l1 k x0 x1 x7 t179 x9)) else (none))) else (none)) else (none)) else ((surveyorref01_cut.f k x7).bind fun t169 => (some (t169, x8)))
def surveyorref01_split.l1 : Nat → List Int → List Int → List Int → List Int → Int → Option (List Int × List Int)
  | 0, _, _, _, _, _ => none
  | k + 1, x0, x1, x7, x8, x9 => (surveyorref01_order.f k x8 x1).bind fun t182 => (if t182 ≥ 0 then ((surveyorref01_minus.f k x8 x1).bind fun t183 => (if 0 ≤ x9 then (if x9 < (x7.length : Int) then (surveyorref01_split.l1 k x0 x1 (x7.set (x9 : Int).toNat (wrap64 ((rd x7 x9) + 1))) t183 x9) else (none)) else (none))) else (surveyorref01_split.l0 k x0 x1 x7 x8 (wrap64 (x9 - 1))))
end
def surveyorref01_split.f (k : Nat) (l0 : List Int) (l1 : List Int) : Option (List Int × List Int) := if 0 ≤ (mx 0 (wrap64 ((wrap64 ((l0.length : Int) - (l1.length : Int))) + 1))) then (if (mx 0 (wrap64 ((wrap64 ((l0.length : Int) - (l1.length : Int))) + 1)) : Int).toNat ≤ 35184372088832 then ((some (([] : List Int) : List Int)).bind fun y162 => (if (mx 0 (wrap64 ((wrap64 ((l0.length : Int) - (l1.length : Int))) + 1))) ≤ (l0.length : Int) then (if y162.length + (l0.drop ((mx 0 (wrap64 ((wrap64 ((l0.length : Int) - (l1.length : Int))) + 1))) : Int).toNat).length < 17592186044416 then (surveyorref01_split.l0 k l0 l1 (List.replicate (mx 0 (wrap64 ((wrap64 ((l0.length : Int) - (l1.length : Int))) + 1)) : Int).toNat 0) (y162 ++ (l0.drop ((mx 0 (wrap64 ((wrap64 ((l0.length : Int) - (l1.length : Int))) + 1))) : Int).toNat)) (wrap64 ((mx 0 (wrap64 ((wrap64 ((l0.length : Int) - (l1.length : Int))) + 1))) - 1))) else (none)) else (none))) else (none)) else (none)
set_option maxHeartbeats 8000000 in
set_option maxRecDepth 100000 in
theorem surveyorref01_split.calls (k : Nat) (A0 : Option Addr) (c0 : Nat) (l0 : List Int) (A1 : Option Addr) (c1 : Nat) (l1 : List Int) (r1 : List Int) (r2 : List Int) (w : World) (hr0 : Kd.C (Kd.int .i64) w A0 l0.length l0) (hc0 : l0.length ≤ c0) (hr1 : Kd.C (Kd.int .i64) w A1 l1.length l1) (hc1 : l1.length ≤ c1) (h : surveyorref01_split.f k l0 l1 = some (r1, r2)) :
    Calls Tryz.prog 154 #[.slice A0 l0.length c0, .slice A1 l1.length c1] w fun e w' => ∃ v0_ v1_ : Value, e = .returned (.tuple #[v0_, v1_]) ∧ Kd.R (Kd.int .i64) 3 w' w.heap.size (fun k_ => some k_ ≠ (v1_ : Value).ownBlock) v0_ r1 ∧ Kd.R (Kd.int .i64) 3 w' w.heap.size (fun k_ => some k_ ≠ (v0_ : Value).ownBlock) v1_ r2 ∧ Below w.heap.size w w' := by
  have HR0 := Aside0.mk hr0
  have HC0 := Aside0.mk hc0
  clear hr0 hc0
  have HR1 := Aside0.mk hr1
  have HC1 := Aside0.mk hc1
  clear hr1 hc1
  have HB := Aside0.mk (Below.refl w.heap.size w)
  have H : (if 0 ≤ (mx 0 (wrap64 ((wrap64 ((l0.length : Int) - (l1.length : Int))) + 1))) then (if (mx 0 (wrap64 ((wrap64 ((l0.length : Int) - (l1.length : Int))) + 1)) : Int).toNat ≤ 35184372088832 then ((some (([] : List Int) : List Int)).bind fun y162 => (if (mx 0 (wrap64 ((wrap64 ((l0.length : Int) - (l1.length : Int))) + 1))) ≤ (l0.length : Int) then (if y162.length + (l0.drop ((mx 0 (wrap64 ((wrap64 ((l0.length : Int) - (l1.length : Int))) + 1))) : Int).toNat).length < 17592186044416 then (surveyorref01_split.l0 k l0 l1 (List.replicate (mx 0 (wrap64 ((wrap64 ((l0.length : Int) - (l1.length : Int))) + 1)) : Int).toNat 0) (y162 ++ (l0.drop ((mx 0 (wrap64 ((wrap64 ((l0.length : Int) - (l1.length : Int))) + 1))) : Int).toNat)) (wrap64 ((mx 0 (wrap64 ((wrap64 ((l0.length : Int) - (l1.length : Int))) + 1))) - 1))) else (none)) else (none))) else (none)) else (none)) = some (r1, r2) := h
  clear h
  obtain ⟨ji3, hji3⟩ : ∃ j_ : Int, (mx 0 (wrap64 ((wrap64 ((l0.length : Int) - (l1.length : Int))) + 1))) = j_ := ⟨_, rfl⟩
  replace H : (if 0 ≤ (ji3) then (if (ji3 : Int).toNat ≤ 35184372088832 then ((some (([] : List Int) : List Int)).bind fun y162 => (if (ji3) ≤ (l0.length : Int) then (if y162.length + (l0.drop ((ji3) : Int).toNat).length < 17592186044416 then (surveyorref01_split.l0 k l0 l1 (List.replicate (ji3 : Int).toNat 0) (y162 ++ (l0.drop ((ji3) : Int).toNat)) (wrap64 ((ji3) - 1))) else (none)) else (none))) else (none)) else (none)) = some (r1, r2) := by first | (rw [hji3] at H; exact H) | (simp only [hji3] at H ⊢; exact H)
  (try (have hji3l : 0 ≤ ji3 := by (rw [← hji3]; unfold mx; (repeat' split) <;> omega)))
  (try (have hji3m : 0 ≤ ji3 := by omega))
  have hji3_ : (if 0 < (wrap64 ((wrap64 ((l0.length : Int) - (l1.length : Int))) + 1)) then (wrap64 ((wrap64 ((l0.length : Int) - (l1.length : Int))) + 1)) else 0) = ji3 := hji3
  by_cases c4 : 0 ≤ (ji3)
  · rw [if_pos c4] at H
    have c4b0 := eq_true c4
    have c4b1 : decide (0 ≤ (ji3)) = true := decide_eq_true c4
    clear c4
    by_cases c5 : (ji3 : Int).toNat ≤ 35184372088832
    · rw [if_pos c5] at H
      have c5b0 := eq_true c5
      have c5b1 : decide ((ji3 : Int).toNat ≤ 35184372088832) = true := decide_eq_true c5
      clear c5
      obtain ⟨y159, hy159⟩ : ∃ y_ : List Int, y_ = (List.replicate (ji3 : Int).toNat 0) := ⟨_, rfl⟩
      replace H : ((some (([] : List Int) : List Int)).bind fun y162 => (if (ji3) ≤ (l0.length : Int) then (if y162.length + (l0.drop ((ji3) : Int).toNat).length < 17592186044416 then (surveyorref01_split.l0 k l0 l1 y159 (y162 ++ (l0.drop ((ji3) : Int).toNat)) (wrap64 ((ji3) - 1))) else (none)) else (none))) = some (r1, r2) := by first | (rw [hy159]; with_reducible exact H) | (have H2_ := (Option.bind_some _ _).symm.trans H; rw [hy159]; with_reducible exact H2_) | (have H2_ := (Option.bind_some _ _).symm.trans H; with_reducible exact H2_) | with_reducible exact H | (rw [hy159]; exact H) | exact H
      have Ny159 := Aside0.mk hy159
      clear hy159
      obtain ⟨y162, hy162⟩ : ∃ y_ : List Int, y_ = (([] : List Int)) := ⟨_, rfl⟩
      replace H : (if (ji3) ≤ (l0.length : Int) then (if y162.length + (l0.drop ((ji3) : Int).toNat).length < 17592186044416 then (surveyorref01_split.l0 k l0 l1 y159 (y162 ++ (l0.drop ((ji3) : Int).toNat)) (wrap64 ((ji3) - 1))) else (none)) else (none)) = some (r1, r2) := by first | (rw [hy162]; with_reducible exact H) | (have H2_ := (Option.bind_some _ _).symm.trans H; rw [hy162]; with_reducible exact H2_) | (have H2_ := (Option.bind_some _ _).symm.trans H; with_reducible exact H2_) | with_reducible exact H | (rw [hy162]; exact H) | exact H
      have Ny162 := Aside0.mk hy162
      clear hy162
      have c6b0 := eq_true (of_decide_eq_true (by first | (with_reducible assumption) | assumption) : 0 ≤ (ji3))
      by_cases c7 : (ji3) ≤ (l0.length : Int)
      · rw [if_pos c7] at H
        have c7b0 := eq_true c7
        have c7b1 : decide ((ji3) ≤ (l0.length : Int)) = true := decide_eq_true c7
        clear c7
        by_cases c8 : y162.length + (l0.drop ((ji3) : Int).toNat).length < 17592186044416
        · rw [if_pos c8] at H
          have LMc8 := Aside0.mk c8
          clear c8
          obtain ⟨y166, hy166⟩ : ∃ y_ : List Int, y_ = (y162 ++ (l0.drop ((ji3) : Int).toNat)) := ⟨_, rfl⟩
          replace H : (surveyorref01_split.l0 k l0 l1 y159 y166 (wrap64 ((ji3) - 1))) = some (r1, r2) := by first | (rw [hy166]; with_reducible exact H) | (have H2_ := (Option.bind_some _ _).symm.trans H; rw [hy166]; with_reducible exact H2_) | (have H2_ := (Option.bind_some _ _).symm.trans H; with_reducible exact H2_) | with_reducible exact H | (rw [hy166]; exact H) | exact H
          have Ny166 := Aside0.mk hy166
          clear hy166
          have H' := Aside0.mk H
          clear H
          go_enter Tryz.func154, Tryz.ntmps154
          go_wp2_with (first | ((with_reducible refine gate_dst (N := 18) rfl ?_); refine Kd.R_make (Kd.int .i64) _ 3 rfl (N := 18) rfl 79 _ _ rfl ji3 rfl rfl Tryz.underlying79 (.int .i64 0) 8 info3 rfl (by decide) (by omega) 0 (ok := fun _ => True) (okp := fun _ => True) rfl (fun _ hk => hk) trivial (of_decide_eq_true (by first | (with_reducible assumption) | assumption)) (Nat.le_trans (Nat.mul_le_mul_right _ (of_decide_eq_true (by first | (with_reducible assumption) | assumption) : ji3.toNat ≤ 35184372088832)) (by omega)) (Below.refl _ _) (Nat.le_refl _) ?_; intro v160 w9 ho10 hb hg_ hnew_; clear hg_ hnew_; (first | rw [← Ny159.out] at ho10 | (simp only [Int.reduceToNat] at ho10; rw [← Ny159.out] at ho10)); have n0_ := Aside0.mk (Kd.R_lower ho10 (below_size (by repeat (first | (with_reducible first | exact HB.out | apply below_alloc | apply pw_below_drewN | apply below_drew1) | exact HB.out)))); have n1_ := Aside0.mk (below_step (by repeat (first | (with_reducible first | exact HB.out | apply below_alloc | apply pw_below_drewN | apply below_drew1) | exact HB.out)) hb); clear HB; have HO161 := n0_; have HB := n1_; clear n0_ n1_; clear hb ho10) | ((with_reducible refine gate_dst (N := 19) rfl ?_); refine Kd.R_lit (Kd.int .i64) _ 3 ?hg (N := 19) ?hd (xs := ([] : List Int)) (inner := []) (ok := fun _ => True) (okp := fun _ => True) ?hr ?hp (fun _ hk => hk) trivial (Below.refl _ _) (Nat.le_refl _) (by simp) ?_; (case hd => rfl); (case hg => rfl); (case hr => first | (go_simp; done) | (go_simp; rfl)); (case hp => exact (Reps.none _ _)); intro v163 w11 ho12 hb hg_ hnew_; clear hg_ hnew_; (first | rw [← Ny162.out] at ho12 | (simp only [Int.reduceToNat] at ho12; rw [← Ny162.out] at ho12)); have n0_ := Aside0.mk (Kd.R_elder' (by (with_reducible repeat (first | apply Kd.R_alloc | apply Kd.R_drewN | apply Kd.R_drew)); exact HO161.out) (Kd.R_base ho12) hb); have n1_ := Aside0.mk (Kd.R_lower (Kd.R_new' ho12 (Kd.R_lt (by (with_reducible repeat (first | apply Kd.R_alloc | apply Kd.R_drewN | apply Kd.R_drew)); exact HO161.out))) (below_size (by repeat (first | (with_reducible first | exact HB.out | apply below_alloc | apply pw_below_drewN | apply below_drew1) | exact HB.out)))); have n2_ := Aside0.mk (below_step (by repeat (first | (with_reducible first | exact HB.out | apply below_alloc | apply pw_below_drewN | apply below_drew1) | exact HB.out)) hb); clear HO161; clear HB; have HO161 := n0_; have HO164 := n1_; have HB := n2_; clear n0_ n1_ n2_; clear hb ho12; obtain ⟨i013, hi013, _, hsz13, _⟩ := info_parts info3; obtain ⟨A13, hcut13, hA13, hC13⟩ := print_drop_of (P := Tryz.prog) (Value.int .i64) 0 79 3 .i64 Tryz.underlying79 hi013 hsz13 A0 c0 l0 (ji3) (of_decide_eq_true (by first | (with_reducible assumption) | assumption)) (of_decide_eq_true (by first | (with_reducible assumption) | assumption)) HC0.out; have HR165 := Aside0.mk (Kd.C_of_reads (h1 := fun _ => rfl) (hA13 _ (Kd.reads_of_C HR0.out))); have HC165 := Aside0.mk hC13; clear hA13 hC13 hi013 hsz13) | ((with_reducible refine gate_builtin (b := .append) (xs := #[.tmp 19, .tmp 22]) rfl ?_); at_builtin; refine Kd.R_append_rows (Kd.int .i64) (w0 := w) w.heap.size rfl (.tmp 19) (.tmp 22) 79 3 (.int .i64 0) 8 rfl Tryz.underlying79 info3 rfl (by decide) (by omega) v163 y162 (l0.drop ((ji3) : Int).toNat) _ _ _ (fun k_ => some k_ ≠ (v160 : Value).ownBlock) (fun _ => False) rfl rfl ?aO ?aR (fun _ _ h => h) (fun _ h => h.elim) ?aF ?aB ?aS ?aL ?_; (case aR => first | (rw [← show (l0.drop ((ji3) : Int).toNat).length = (l0.length - (ji3).toNat) from List.length_drop]; repeat (first | exact (Kd.C_below HR165.out HB.out) | (with_reducible refine Kd.C_alloc ?_ _) | (with_reducible refine Kd.C_drewN ?_ _) | (with_reducible refine Kd.C_drew ?_))) | (repeat (first | exact (Kd.C_below HR165.out HB.out) | (with_reducible refine Kd.C_alloc ?_ _) | (with_reducible refine Kd.C_drewN ?_ _) | (with_reducible refine Kd.C_drew ?_)))); (case aB => exact (by repeat (first | (with_reducible first | exact HB.out | apply below_alloc | apply pw_below_drewN | apply below_drew1) | exact HB.out))); (case aF => exact (fun k_ hk => Kd.fresh' (Kd.R_lt (by (with_reducible repeat (first | apply Kd.R_alloc | apply Kd.R_drewN | apply Kd.R_drew)); exact HO161.out)) k_ hk)); (case aO => exact (by (with_reducible repeat (first | apply Kd.R_alloc | apply Kd.R_drewN | apply Kd.R_drew)); exact Kd.R_mono HO164.out (fun _ hk => hk.2))); (case aS => exact (below_size (by repeat (first | (with_reducible first | exact HB.out | apply below_alloc | apply pw_below_drewN | apply below_drew1) | exact HB.out)))); (case aL => have := LMc8.out; have hlx_ := (show (l0.drop ((ji3) : Int).toNat).length = (l0.length - (ji3).toNat) from List.length_drop); omega); intro v167 w14 ho hb hg hat; rw [← Ny166.out] at ho; have n0_ := Aside0.mk (Kd.R_after (ok := (fun _ => True)) (by (with_reducible repeat (first | apply Kd.R_alloc | apply Kd.R_drewN | apply Kd.R_drew)); exact HO161.out) hg hat); have n1_ := Aside0.mk (hb); have n2_ := Aside0.mk (ho); clear HO161; clear HB; clear HO164; have HO161 := n0_; have HB := n1_; have HO168 := n2_; clear n0_ n1_ n2_; clear ho hb hg hat))
          go_loopg [8, 9] k (fun kq v8 v9 w' => ∃ (x7_1 : List Int) (x8_1 : List Int) (x9_1 : Int), v9 = .int .i64 x9_1 ∧ Aside0 (surveyorref01_split.l0 kq l0 l1 x7_1 x8_1 x9_1 = some (r1, r2)) ∧ Aside0 (kq ≤ k) ∧ Aside0 (Kd.R (Kd.int .i64) 3 w' w.heap.size (fun k_ => some k_ ≠ (v8 : Value).ownBlock) v160 x7_1) ∧ Aside0 (Kd.R (Kd.int .i64) 3 w' w.heap.size (fun k_ => some k_ ≠ (v160 : Value).ownBlock) v8 x8_1) ∧ Aside0 (Below w.heap.size w w'))
          case atStart => exact ⟨(y159), (y166), (wrap64 ((ji3) - 1)), (by first | rfl | (simp; done) | (simp only [← hji3] <;> (first | rfl | simp)) | (simp [*]; done)), H', ⟨Nat.le_refl _⟩, ⟨by (with_reducible repeat (first | apply Kd.R_alloc | apply Kd.R_drewN | apply Kd.R_drew)); exact Kd.R_mono HO161.out (fun _ hk => hk.2)⟩, ⟨by (with_reducible repeat (first | apply Kd.R_alloc | apply Kd.R_drewN | apply Kd.R_drew)); exact HO168.out⟩, ⟨by repeat (first | (with_reducible first | exact HB.out | apply below_alloc | apply pw_below_drewN | apply below_drew1) | exact HB.out)⟩⟩
          case round =>
            clear H'
            try clear c1
            try clear p2
            try clear c4
            try clear c4b0
            try clear c4b1
            try clear c5
            try clear c5b0
            try clear c5b1
            try clear c6
            try clear c6b0
            try clear p6
            try clear c7
            try clear c7b0
            try clear c7b1
            try clear c8
            obtain ⟨x7_1, x8_1, x9_1, rfl, HA, HK1, HO_7, HO_8, HB⟩ := hrel
            cases gk with
            | zero => exact absurd HA.out (by simp [surveyorref01_split.l0])
            | succ k1 =>
              have H := HA.out
              clear HA
              simp only [surveyorref01_split.l0] at H
              by_cases c15 : x9_1 ≥ 0
              · rw [if_pos c15] at H
                have c15b0 : decide (0 ≤ x9_1) = true := decide_eq_true c15
                clear c15
                by_cases c16 : 0 ≤ x9_1
                · rw [if_pos c16] at H
                  have c16b0 : decide (0 ≤ x9_1) = true := decide_eq_true c16
                  clear c16
                  by_cases c17 : x9_1 < (l0.length : Int)
                  · rw [if_pos c17] at H
                    have c17b0 : decide (x9_1 < (l0.length : Int)) = true := decide_eq_true c17
                    clear c17
                    obtain ⟨y173, hy173⟩ : ∃ y_ : List Int, y_ = (([rd l0 x9_1] : List Int)) := ⟨_, rfl⟩
                    replace H : (if y173.length + x8_1.length < 17592186044416 then ((surveyorref01_cut.f k1 (y173 ++ x8_1)).bind fun t179 => (surveyorref01_split.l1 k1 l0 l1 x7_1 t179 x9_1)) else (none)) = some (r1, r2) := by first | (rw [hy173]; with_reducible exact H) | (have H2_ := (Option.bind_some _ _).symm.trans H; rw [hy173]; with_reducible exact H2_) | (have H2_ := (Option.bind_some _ _).symm.trans H; with_reducible exact H2_) | with_reducible exact H | (rw [hy173]; exact H) | exact H
                    have Ny173 := Aside0.mk hy173
                    clear hy173
                    by_cases c18 : y173.length + x8_1.length < 17592186044416
                    · rw [if_pos c18] at H
                      have LMc18 := Aside0.mk c18
                      clear c18
                      obtain ⟨y176, hy176⟩ : ∃ y_ : List Int, y_ = (y173 ++ x8_1) := ⟨_, rfl⟩
                      replace H : ((surveyorref01_cut.f k1 y176).bind fun t179 => (surveyorref01_split.l1 k1 l0 l1 x7_1 t179 x9_1)) = some (r1, r2) := by first | (rw [hy176]; with_reducible exact H) | (have H2_ := (Option.bind_some _ _).symm.trans H; rw [hy176]; with_reducible exact H2_) | (have H2_ := (Option.bind_some _ _).symm.trans H; with_reducible exact H2_) | with_reducible exact H | (rw [hy176]; exact H) | exact H
                      have Ny176 := Aside0.mk hy176
                      clear hy176
                      replace H := Option.bind_eq_some_iff.mp H
                      obtain ⟨t179, A190, H⟩ := H
                      replace H : (surveyorref01_split.l1 k1 l0 l1 x7_1 t179 x9_1) = some (r1, r2) := H
                      have A19 := Aside0.mk A190
                      clear A190
                      have H' := Aside0.mk H
                      clear H
                      have p172 : 0 ≤ (x9_1 : Int) := of_decide_eq_true (by first | (with_reducible assumption) | assumption)
                      have q172 : x9_1 < (l0.length : Int) := of_decide_eq_true (by first | (with_reducible assumption) | assumption)
                      obtain ⟨ad172, e172, hx172_0⟩ := Kd.at_int HR0.out x9_1 p172 q172
                      cases e172
                      replace hx172_0 := (HB.out.cell (World.block_lt_of_cell? w _ hx172_0)).trans hx172_0
                      replace p172 := eq_true p172
                      replace q172 := eq_true q172
                      go_wp2_with (first | ((with_reducible refine gate_dst (N := 34) rfl ?_); refine Kd.R_lit (Kd.int .i64) _ 3 ?hg (N := 34) ?hd (xs := ([rd l0 x9_1] : List Int)) (inner := [.int .i64 (rd l0 x9_1)]) (ok := fun _ => True) (okp := fun _ => True) ?hr ?hp (fun _ hk => hk) trivial (Below.refl _ _) (Nat.le_refl _) (by simp) ?_; (case hd => rfl); (case hg => rfl); (case hr => first | (go_simp; done) | (go_simp; rfl)); (case hp => exact (Reps.one (show Kd.M (Kd.int .i64) _ _ _ (rd l0 x9_1) [.int .i64 (rd l0 x9_1)] from rfl) (Reps.none _ _))); intro v174 w20 ho21 hb hg_ hnew_; clear hg_ hnew_; (first | rw [← Ny173.out] at ho21 | (simp only [Int.reduceToNat] at ho21; rw [← Ny173.out] at ho21)); have n0_ := Aside0.mk (Kd.R_elder' (by (with_reducible repeat (first | apply Kd.R_alloc | apply Kd.R_drewN | apply Kd.R_drew)); exact HO_7.out) (Kd.R_base ho21) hb); have n1_ := Aside0.mk (Kd.R_elder' (by (with_reducible repeat (first | apply Kd.R_alloc | apply Kd.R_drewN | apply Kd.R_drew)); exact HO_8.out) (Kd.R_base ho21) hb); have n2_ := Aside0.mk (Kd.R_lower (Kd.R_new' (Kd.R_new' ho21 (Kd.R_lt (by (with_reducible repeat (first | apply Kd.R_alloc | apply Kd.R_drewN | apply Kd.R_drew)); exact HO_7.out))) (Kd.R_lt (by (with_reducible repeat (first | apply Kd.R_alloc | apply Kd.R_drewN | apply Kd.R_drew)); exact HO_8.out))) (below_size (by repeat (first | (with_reducible first | exact HB.out | apply below_alloc | apply pw_below_drewN | apply below_drew1) | exact HB.out)))); have n3_ := Aside0.mk (below_step (by repeat (first | (with_reducible first | exact HB.out | apply below_alloc | apply pw_below_drewN | apply below_drew1) | exact HB.out)) hb); clear HO_7; clear HO_8; clear HB; have HO_7 := n0_; have HO_8 := n1_; have HO175 := n2_; have HB := n3_; clear n0_ n1_ n2_ n3_; clear hb ho21; obtain ⟨Ao23, co23, eo23⟩ := Kd.R_slice HO_8.out; subst eo23) | ((with_reducible refine gate_builtin (b := .append) (xs := #[.tmp 34, .tmp 35]) rfl ?_); at_builtin; refine Kd.R_append_rows (Kd.int .i64) (w0 := w) w.heap.size rfl (.tmp 34) (.tmp 35) 79 3 (.int .i64 0) 8 rfl Tryz.underlying79 info3 rfl (by decide) (by omega) v174 y173 x8_1 _ _ _ (fun k_ => some k_ ≠ (v160 : Value).ownBlock ∧ some k_ ≠ (.slice Ao23 x8_1.length co23 : Value).ownBlock) (fun _ => False) rfl rfl ?aO ?aR (fun _ _ h => h) (fun _ h => h.elim) ?aF ?aB ?aS ?aL ?_; (case aR => repeat (first | exact (Kd.R_reads' HO_8.out).2.2 | (with_reducible refine Kd.C_alloc ?_ _) | (with_reducible refine Kd.C_drewN ?_ _) | (with_reducible refine Kd.C_drew ?_))); (case aB => exact (by repeat (first | (with_reducible first | exact HB.out | apply below_alloc | apply pw_below_drewN | apply below_drew1) | exact HB.out))); (case aF => exact (fun k_ hk => ⟨Kd.fresh' (Kd.R_lt (by (with_reducible repeat (first | apply Kd.R_alloc | apply Kd.R_drewN | apply Kd.R_drew)); exact HO_7.out)) k_ hk, Kd.fresh' (Kd.R_lt (by (with_reducible repeat (first | apply Kd.R_alloc | apply Kd.R_drewN | apply Kd.R_drew)); exact HO_8.out)) k_ hk⟩)); (case aO => exact (by (with_reducible repeat (first | apply Kd.R_alloc | apply Kd.R_drewN | apply Kd.R_drew)); exact Kd.R_mono HO175.out (fun _ hk => ⟨hk.1.2, hk.2⟩))); (case aS => exact (below_size (by repeat (first | (with_reducible first | exact HB.out | apply below_alloc | apply pw_below_drewN | apply below_drew1) | exact HB.out)))); (case aL => have := LMc18.out; omega); intro v177 w22 ho hb hg hat; rw [← Ny176.out] at ho; have n0_ := Aside0.mk (Kd.R_after (ok := (fun k_ => some k_ ≠ (.slice Ao23 x8_1.length co23 : Value).ownBlock)) (by (with_reducible repeat (first | apply Kd.R_alloc | apply Kd.R_drewN | apply Kd.R_drew)); exact HO_7.out) hg hat); have n1_ := Aside0.mk (Kd.R_after (ok := (fun k_ => some k_ ≠ (v160 : Value).ownBlock)) (by (with_reducible repeat (first | apply Kd.R_alloc | apply Kd.R_drewN | apply Kd.R_drew)); exact HO_8.out) hg hat); have n2_ := Aside0.mk (hb); have n3_ := Aside0.mk (ho); clear HO_7; clear HO_8; clear HB; clear HO175; have HO_7 := n0_; have HO_8 := n1_; have HB := n2_; have HO178 := n3_; clear n0_ n1_ n2_ n3_; clear ho hb hg hat; obtain ⟨Ao24, co24, eo24⟩ := Kd.R_slice HO178.out; subst eo24) | ((with_reducible refine gate_callee (f := 155) rfl ?_); refine goesL_ (some 37) rfl rfl Tryz.func155 (by kernel_rfl) rfl #[.slice Ao24 y176.length co24] rfl (by (try simp only [List.map_toArray, List.map_cons, List.map_nil]); first | done | rfl | (simp only [List.length_drop, List.length_take]; rfl)) ?_; (with_reducible refine (surveyorref01_cut.calls k1 (fun k_ => some k_ = (.slice Ao24 y176.length co24 : Value).ownBlock) (.slice Ao24 y176.length co24) y176 t179 w _ ?side1 ?side2 A19.out).mono ?_); (case side1 => repeat (first | (with_reducible first | exact HB.out | apply below_alloc | apply pw_below_drewN | apply below_drew1) | exact HB.out)); (case side2 => exact Kd.R_tight rfl HO178.out); rintro e w25 ⟨v180, rfl, ho0, hb, hkp⟩; refine ⟨_, rfl, ?_⟩; have n0_ := Aside0.mk (Kd.R_mono (ok' := fun k_ => some k_ ≠ (.slice Ao23 x8_1.length co23 : Value).ownBlock ∧ some k_ ≠ (v180 : Value).ownBlock) (Kd.R_keptB (HO_7.out) hkp (fun k_ hk_ hs_ => (hk_.2) hs_)) (fun k_ hk_ => ⟨hk_.1.1, fun e_ => Or.elim (ho0.1 k_ e_.symm) (fun hs_ => hk_.2.1 hs_) (fun hn_ => Nat.not_le.2 hk_.2.2 hn_)⟩)); have n1_ := Aside0.mk (Kd.R_mono (ok' := fun k_ => some k_ ≠ (v160 : Value).ownBlock ∧ some k_ ≠ (v180 : Value).ownBlock) (Kd.R_keptB (HO_8.out) hkp (fun k_ hk_ hs_ => (hk_.2) hs_)) (fun k_ hk_ => ⟨hk_.1.1, fun e_ => Or.elim (ho0.1 k_ e_.symm) (fun hs_ => hk_.2.1 hs_) (fun hn_ => Nat.not_le.2 hk_.2.2 hn_)⟩)); have n2_ := Aside0.mk (Kd.R_mono (ok' := fun k_ => some k_ ≠ (v160 : Value).ownBlock ∧ some k_ ≠ (.slice Ao23 x8_1.length co23 : Value).ownBlock) ho0 (fun k_ hk_ => ⟨Or.elim hk_ (fun hs_ => fun e_ => (((HO_7.out).1 k_ e_.symm).2) hs_) (fun hn_ => (Kd.fresh' (Kd.R_lt (by (with_reducible repeat (first | apply Kd.R_alloc | apply Kd.R_drewN | apply Kd.R_drew)); exact HO_7.out)) k_ hn_)), Or.elim hk_ (fun hs_ => fun e_ => (((HO_8.out).1 k_ e_.symm).2) hs_) (fun hn_ => (Kd.fresh' (Kd.R_lt (by (with_reducible repeat (first | apply Kd.R_alloc | apply Kd.R_drewN | apply Kd.R_drew)); exact HO_8.out)) k_ hn_))⟩)); have n3_ := Aside0.mk (hb); clear HO_7; clear HO_8; clear HB; clear HO178; have HO_7 := n0_; have HO_8 := n1_; have HO181 := n2_; have HB := n3_; clear n0_ n1_ n2_ n3_; (try clear hb); (try clear hkp); (try clear ho0)))
                      go_loopg [8] k1 (fun kq v8 w' => ∃ (x7_2 : List Int) (x8_2 : List Int), Aside0 (surveyorref01_split.l1 kq l0 l1 x7_2 x8_2 x9_1 = some (r1, r2)) ∧ Aside0 (kq ≤ k1) ∧ Aside0 (Kd.R (Kd.int .i64) 3 w' w.heap.size (fun k_ => some k_ ≠ (v8 : Value).ownBlock) v160 x7_2) ∧ Aside0 (Kd.R (Kd.int .i64) 3 w' w.heap.size (fun k_ => some k_ ≠ (v160 : Value).ownBlock) v8 x8_2) ∧ Aside0 (Below w.heap.size w w'))
                      case atStart => exact ⟨(x7_1), (t179), H', ⟨Nat.le_refl _⟩, ⟨by (with_reducible repeat (first | apply Kd.R_alloc | apply Kd.R_drewN | apply Kd.R_drew)); exact Kd.R_mono HO_7.out (fun _ hk => hk.2)⟩, ⟨by (with_reducible repeat (first | apply Kd.R_alloc | apply Kd.R_drewN | apply Kd.R_drew)); exact Kd.R_mono HO181.out (fun _ hk => hk.1)⟩, ⟨by repeat (first | (with_reducible first | exact HB.out | apply below_alloc | apply pw_below_drewN | apply below_drew1) | exact HB.out)⟩⟩
                      case round =>
                        clear H'
                        try clear c1
                        try clear p1
                        try clear q1
                        try clear hx1
                        try clear p2
                        try clear c4
                        try clear c4b0
                        try clear c4b1
                        try clear c5
                        try clear c5b0
                        try clear c5b1
                        try clear c6
                        try clear c6b0
                        try clear p6
                        try clear c7
                        try clear c7b0
                        try clear c7b1
                        try clear c8
                        try clear c15
                        try clear c15b0
                        try clear c16
                        try clear c16b0
                        try clear c17
                        try clear c17b0
                        try clear p17
                        try clear q17
                        try clear hx17
                        try clear c18
                        try clear hx172_0
                        try clear p172
                        try clear p2
                        try clear p6
                        try clear q172
                        obtain ⟨x7_2, x8_2, HA, HK2, HO_7, HO_8, HB⟩ := hrel
                        cases gk with
                        | zero => exact absurd HA.out (by simp [surveyorref01_split.l1])
                        | succ k2 =>
                          have H := HA.out
                          clear HA
                          simp only [surveyorref01_split.l1] at H
                          replace H := Option.bind_eq_some_iff.mp H
                          obtain ⟨t182, A260, H⟩ := H
                          replace H : (if t182 ≥ 0 then ((surveyorref01_minus.f k2 x8_2 l1).bind fun t183 => (if 0 ≤ x9_1 then (if x9_1 < (x7_2.length : Int) then (surveyorref01_split.l1 k2 l0 l1 (x7_2.set (x9_1 : Int).toNat (wrap64 ((rd x7_2 x9_1) + 1))) t183 x9_1) else (none)) else (none))) else (surveyorref01_split.l0 k2 l0 l1 x7_2 x8_2 (wrap64 (x9_1 - 1)))) = some (r1, r2) := H
                          have A26 := Aside0.mk A260
                          clear A260
                          by_cases c27 : t182 ≥ 0
                          · rw [if_pos c27] at H
                            have c27b0 : decide (0 ≤ t182) = true := decide_eq_true c27
                            clear c27
                            replace H := Option.bind_eq_some_iff.mp H
                            obtain ⟨t183, A280, H⟩ := H
                            replace H : (if 0 ≤ x9_1 then (if x9_1 < (x7_2.length : Int) then (surveyorref01_split.l1 k2 l0 l1 (x7_2.set (x9_1 : Int).toNat (wrap64 ((rd x7_2 x9_1) + 1))) t183 x9_1) else (none)) else (none)) = some (r1, r2) := H
                            have A28 := Aside0.mk A280
                            clear A280
                            by_cases c29 : 0 ≤ x9_1
                            · rw [if_pos c29] at H
                              have c29b0 : decide (0 ≤ x9_1) = true := decide_eq_true c29
                              clear c29
                              by_cases c30 : x9_1 < (x7_2.length : Int)
                              · rw [if_pos c30] at H
                                have c30b0 : decide (x9_1 < (x7_2.length : Int)) = true := decide_eq_true c30
                                clear c30
                                obtain ⟨y187, hy187⟩ : ∃ y_ : List Int, y_ = (x7_2.set (x9_1 : Int).toNat (wrap64 ((rd x7_2 x9_1) + 1))) := ⟨_, rfl⟩
                                replace H : (surveyorref01_split.l1 k2 l0 l1 y187 t183 x9_1) = some (r1, r2) := by first | (rw [hy187]; with_reducible exact H) | (have H2_ := (Option.bind_some _ _).symm.trans H; rw [hy187]; with_reducible exact H2_) | (have H2_ := (Option.bind_some _ _).symm.trans H; with_reducible exact H2_) | with_reducible exact H | (rw [hy187]; exact H) | exact H
                                have Ny187 := Aside0.mk hy187
                                clear hy187
                                have H' := Aside0.mk H
                                clear H
                                obtain ⟨Ao32, co32, eo32⟩ := Kd.R_slice HO_8.out
                                subst eo32
                                go_wp2_with (first | ((with_reducible refine gate_callee (f := 161) rfl ?_); refine goesL_ (some 40) rfl rfl Tryz.func161 (by kernel_rfl) rfl #[.slice Ao32 x8_2.length co32, .slice A1 l1.length c1] rfl (by (try simp only [List.map_toArray, List.map_cons, List.map_nil]); first | done | rfl | (simp only [List.length_drop, List.length_take]; rfl)) ?_; (with_reducible refine (surveyorref01_order.calls k2 _ _ x8_2 _ _ l1 t182 _ ?side1 ?side2 ?side3 ?side4 A26.out).mono ?_); (case side1 => repeat (first | exact (Kd.R_reads' HO_8.out).2.2 | (with_reducible refine Kd.C_alloc ?_ _) | (with_reducible refine Kd.C_drewN ?_ _) | (with_reducible refine Kd.C_drew ?_))); (case side2 => exact (Kd.R_reads' HO_8.out).2.1); (case side3 => repeat (first | exact (Kd.C_below HR1.out HB.out) | (with_reducible refine Kd.C_alloc ?_ _) | (with_reducible refine Kd.C_drewN ?_ _) | (with_reducible refine Kd.C_drew ?_))); (case side4 => exact HC1.out); rintro e w' ⟨rfl, ⟨nd, rfl⟩⟩; refine ⟨_, rfl, ?_⟩; (try (rw [drewN_self wr]; generalize hq_ : World.drewN wr _ = wr; have n0_ : Aside0 (Kd.R (Kd.int .i64) 3 wr w.heap.size (fun k_ => some k_ ≠ (.slice Ao32 x8_2.length co32 : Value).ownBlock) v160 x7_2) := ⟨by rw [← hq_]; exact (by (with_reducible repeat (first | apply Kd.R_alloc | apply Kd.R_drewN | apply Kd.R_drew)); exact HO_7.out)⟩; have n1_ : Aside0 (Kd.R (Kd.int .i64) 3 wr w.heap.size (fun k_ => some k_ ≠ (v160 : Value).ownBlock) (.slice Ao32 x8_2.length co32) x8_2) := ⟨by rw [← hq_]; exact (by (with_reducible repeat (first | apply Kd.R_alloc | apply Kd.R_drewN | apply Kd.R_drew)); exact HO_8.out)⟩; have n2_ : Aside0 (Below w.heap.size w wr) := ⟨by rw [← hq_]; exact (by repeat (first | (with_reducible first | exact HB.out | apply below_alloc | apply pw_below_drewN | apply below_drew1) | exact HB.out))⟩; clear HO_7 HO_8 HB hq_; have HO_7 := n0_; have HO_8 := n1_; have HB := n2_; clear n0_ n1_ n2_))) | ((with_reducible refine gate_callee (f := 162) rfl ?_); refine goesL_ (some 44) rfl rfl Tryz.func162 (by kernel_rfl) rfl #[.slice Ao32 x8_2.length co32, .slice A1 l1.length c1] rfl (by (try simp only [List.map_toArray, List.map_cons, List.map_nil]); first | done | rfl | (simp only [List.length_drop, List.length_take]; rfl)) ?_; (with_reducible refine (surveyorref01_minus.calls k2 _ _ x8_2 _ _ l1 t183 _ ?side1 ?side2 ?side3 ?side4 A28.out).mono ?_); (case side1 => repeat (first | exact (Kd.R_reads' HO_8.out).2.2 | (with_reducible refine Kd.C_alloc ?_ _) | (with_reducible refine Kd.C_drewN ?_ _) | (with_reducible refine Kd.C_drew ?_))); (case side2 => exact (Kd.R_reads' HO_8.out).2.1); (case side3 => repeat (first | exact (Kd.C_below HR1.out HB.out) | (with_reducible refine Kd.C_alloc ?_ _) | (with_reducible refine Kd.C_drewN ?_ _) | (with_reducible refine Kd.C_drew ?_))); (case side4 => exact HC1.out); rintro e w33 ⟨v184, rfl, ho0, hb⟩; refine ⟨_, rfl, ?_⟩; have n0_ := Aside0.mk (Kd.R_elder' (by (with_reducible repeat (first | apply Kd.R_alloc | apply Kd.R_drewN | apply Kd.R_drew)); exact HO_7.out) (Kd.R_base ho0) hb); have n1_ := Aside0.mk (Kd.R_elder' (by (with_reducible repeat (first | apply Kd.R_alloc | apply Kd.R_drewN | apply Kd.R_drew)); exact HO_8.out) (Kd.R_base ho0) hb); have n2_ := Aside0.mk (Kd.R_lower (Kd.R_new' (Kd.R_new' ho0 (Kd.R_lt (by (with_reducible repeat (first | apply Kd.R_alloc | apply Kd.R_drewN | apply Kd.R_drew)); exact HO_7.out))) (Kd.R_lt (by (with_reducible repeat (first | apply Kd.R_alloc | apply Kd.R_drewN | apply Kd.R_drew)); exact HO_8.out))) (below_size (by repeat (first | (with_reducible first | exact HB.out | apply below_alloc | apply pw_below_drewN | apply below_drew1) | exact HB.out)))); have n3_ := Aside0.mk (below_step (by repeat (first | (with_reducible first | exact HB.out | apply below_alloc | apply pw_below_drewN | apply below_drew1) | exact HB.out)) hb); clear HO_7; clear HO_8; clear HB; have HO_7 := n0_; have HO_8 := n1_; have HO185 := n2_; have HB := n3_; clear n0_ n1_ n2_ n3_; (try clear hb); (try clear hb2); (try clear hk); (try clear hi); (try clear ho0); obtain ⟨Ao34, co34, eo34⟩ := Kd.R_slice HO_7.out; subst eo34; have p186 : 0 ≤ (x9_1 : Int) := of_decide_eq_true (by first | (with_reducible assumption) | assumption); have q186 : x9_1 < (x7_2.length : Int) := of_decide_eq_true (by first | (with_reducible assumption) | assumption); obtain ⟨ad186, e186, hx186_0⟩ := Kd.at_int (Kd.R_reads' HO_7.out).2.2 x9_1 p186 q186; cases e186; replace p186 := eq_true p186; replace q186 := eq_true q186; have p31 : 0 ≤ (x9_1 : Int) := of_decide_eq_true (by first | (with_reducible assumption) | assumption); have q31 : (x9_1 : Int) < ((x7_2.length : Int) : Int) := of_decide_eq_true (by first | (with_reducible assumption) | assumption); obtain ⟨go31, co31, eo31, gb31, gl31, cl31, HG31⟩ := Kd.R_form HO_7.out (by omega); (first | cases eo31 | (injection eo31 with ea_ en_ ec_; (first | subst ea_ | (injection ea_ with ea_; subst ea_)); subst ec_; clear en_)); have GB31 := Aside0.mk gb31; have GG31 := Aside0.mk HG31; clear gb31 gl31 HG31; (first | simp only [add_plain] at hx186_0 | skip); obtain ⟨hx31_0, hf31_0⟩ := Kd.R_celln 0 HO_7.out (x9_1 : Int) p31 q31; replace p31 := eq_true p31; replace q31 := eq_true q31; obtain ⟨hy35_, hz35_⟩ := Kd.R_celln 0 HO_7.out (x9_1 : Int) (of_decide_eq_true (by first | (with_reducible assumption) | assumption)) (of_decide_eq_true (by first | (with_reducible assumption) | assumption)); have HP35 := Kd.R_putg HO_7.out (x9_1 : Int) (wrap64 ((rd x7_2 x9_1) + 1))) | ((with_reducible refine gate_store (t := 3) (p := 52) rfl ?_); refine store_event (t := 3) (p := 52) (v := ?vo_w36) (w1 := (w33.setCell ⟨go31, (x9_1 : Int).toNat, none⟩ (.int .i64 (wrap64 ((rd x7_2 x9_1) + 1))))) ?hg ?ho ?hn ?hr ?_; (case ho => rfl); (case hg => rfl); (case hn => rfl); (case hr => first | (go_simp; done) | (go_simp; rfl)); intro w36 hw; have hg : w33.grownBy w36 (some go31) := (by rw [hw]; exact HP35.2); have hp_ : Kd.R (Kd.int .i64) 3 w36 w.heap.size (fun k_ => some k_ ≠ (.slice Ao32 x8_2.length co32 : Value).ownBlock ∧ some k_ ≠ (v184 : Value).ownBlock) (.slice (some ⟨go31, 0, none⟩) x7_2.length co34) y187 := (by rw [hw, Ny187.out]; exact HP35.1); clear HP35; have n0_ := Aside0.mk (hp_); have n1_ := Aside0.mk (Kd.R_after (v := (.slice (some ⟨go31, 0, none⟩) x7_2.length co34)) (v1 := (.slice (some ⟨go31, 0, none⟩) x7_2.length co34)) (ok := (fun k_ => some k_ ≠ (v184 : Value).ownBlock)) (by (with_reducible repeat (first | apply Kd.R_alloc | apply Kd.R_drewN | apply Kd.R_drew)); exact Kd.R_mono HO_8.out (fun _ hk => ⟨hk.2, hk.1⟩)) hg (.inl rfl)); have n2_ := Aside0.mk (Kd.R_after (v := (.slice (some ⟨go31, 0, none⟩) x7_2.length co34)) (v1 := (.slice (some ⟨go31, 0, none⟩) x7_2.length co34)) (ok := (fun k_ => some k_ ≠ (.slice Ao32 x8_2.length co32 : Value).ownBlock)) (by (with_reducible repeat (first | apply Kd.R_alloc | apply Kd.R_drewN | apply Kd.R_drew)); exact Kd.R_mono HO185.out (fun _ hk => ⟨hk.2, hk.1.2⟩)) hg (.inl rfl)); have n3_ := Aside0.mk ((by rw [hw]; exact below_set (HB.out) GB31.out : Below w.heap.size w w36)); clear HO_7; clear HO_8; clear HO185; clear HB; have HO_7 := n0_; have HO_8 := n1_; have HO185 := n2_; have HB := n3_; clear n0_ n1_ n2_ n3_; clear hg hw hp_))
                                go_roundg k2
                                case measure => have := HK1.out; have := HK2.out; omega
                                case rel => exact ⟨(y187), (t183), H', ⟨by have := HK1.out; have := HK2.out; omega⟩, ⟨by (with_reducible repeat (first | apply Kd.R_alloc | apply Kd.R_drewN | apply Kd.R_drew)); exact Kd.R_mono HO_7.out (fun _ hk => hk.2)⟩, ⟨by (with_reducible repeat (first | apply Kd.R_alloc | apply Kd.R_drewN | apply Kd.R_drew)); exact Kd.R_mono HO185.out (fun _ hk => hk.2)⟩, ⟨by repeat (first | (with_reducible first | exact HB.out | apply below_alloc | apply pw_below_drewN | apply below_drew1) | exact HB.out)⟩⟩
                              · rw [if_neg c30] at H
                                exact absurd H (by simp)
                            · rw [if_neg c29] at H
                              exact absurd H (by simp)
                          · rw [if_neg c27] at H
                            have c27b0 : decide (0 ≤ t182) = false := decide_eq_false c27
                            clear c27
                            have H' := Aside0.mk H
                            clear H
                            obtain ⟨Ao37, co37, eo37⟩ := Kd.R_slice HO_8.out
                            subst eo37
                            go_wp2_with (first | ((with_reducible refine gate_callee (f := 161) rfl ?_); refine goesL_ (some 40) rfl rfl Tryz.func161 (by kernel_rfl) rfl #[.slice Ao37 x8_2.length co37, .slice A1 l1.length c1] rfl (by (try simp only [List.map_toArray, List.map_cons, List.map_nil]); first | done | rfl | (simp only [List.length_drop, List.length_take]; rfl)) ?_; (with_reducible refine (surveyorref01_order.calls k2 _ _ x8_2 _ _ l1 t182 _ ?side1 ?side2 ?side3 ?side4 A26.out).mono ?_); (case side1 => repeat (first | exact (Kd.R_reads' HO_8.out).2.2 | (with_reducible refine Kd.C_alloc ?_ _) | (with_reducible refine Kd.C_drewN ?_ _) | (with_reducible refine Kd.C_drew ?_))); (case side2 => exact (Kd.R_reads' HO_8.out).2.1); (case side3 => repeat (first | exact (Kd.C_below HR1.out HB.out) | (with_reducible refine Kd.C_alloc ?_ _) | (with_reducible refine Kd.C_drewN ?_ _) | (with_reducible refine Kd.C_drew ?_))); (case side4 => exact HC1.out); rintro e w' ⟨rfl, ⟨nd, rfl⟩⟩; refine ⟨_, rfl, ?_⟩))
                            go_roundg k2
                            case measure => have := HK1.out; have := HK2.out; omega
                            case rel => exact ⟨(x7_2), (x8_2), (wrap64 (x9_1 - 1)), (by first | rfl | (simp; done) | (simp [*]; done)), H', ⟨by have := HK1.out; have := HK2.out; omega⟩, ⟨by (with_reducible repeat (first | apply Kd.R_alloc | apply Kd.R_drewN | apply Kd.R_drew)); exact HO_7.out⟩, ⟨by (with_reducible repeat (first | apply Kd.R_alloc | apply Kd.R_drewN | apply Kd.R_drew)); exact HO_8.out⟩, ⟨by repeat (first | (with_reducible first | exact HB.out | apply below_alloc | apply pw_below_drewN | apply below_drew1) | exact HB.out)⟩⟩
                    · rw [if_neg c18] at H
                      exact absurd H (by simp)
                  · rw [if_neg c17] at H
                    exact absurd H (by simp)
                · rw [if_neg c16] at H
                  exact absurd H (by simp)
              · rw [if_neg c15] at H
                have c15b0 : decide (0 ≤ x9_1) = false := decide_eq_false c15
                clear c15
                replace H := Option.bind_eq_some_iff.mp H
                obtain ⟨t169, A380, H⟩ := H
                replace H : (some (t169, x8_1)) = some (r1, r2) := H
                have A38 := Aside0.mk A380
                clear A380
                simp only [Option.some.injEq, Prod.mk.injEq] at H
                obtain ⟨rfl, rfl⟩ := H
                obtain ⟨Ao39, co39, eo39⟩ := Kd.R_slice HO_7.out
                subst eo39
                go_wp2_with (first | ((with_reducible refine gate_callee (f := 155) rfl ?_); refine goesL_ (some 54) rfl rfl Tryz.func155 (by kernel_rfl) rfl #[.slice Ao39 x7_1.length co39] rfl (by (try simp only [List.map_toArray, List.map_cons, List.map_nil]); first | done | rfl | (simp only [List.length_drop, List.length_take]; rfl)) ?_; (with_reducible refine (surveyorref01_cut.calls k1 (fun k_ => some k_ = (.slice Ao39 x7_1.length co39 : Value).ownBlock) (.slice Ao39 x7_1.length co39) x7_1 t169 w _ ?side1 ?side2 A38.out).mono ?_); (case side1 => repeat (first | (with_reducible first | exact HB.out | apply below_alloc | apply pw_below_drewN | apply below_drew1) | exact HB.out)); (case side2 => exact Kd.R_tight rfl HO_7.out); rintro e w40 ⟨v170, rfl, ho0, hb, hkp⟩; refine ⟨_, rfl, ?_⟩; have n0_ := Aside0.mk (Kd.R_mono (ok' := fun k_ => some k_ ≠ (v170 : Value).ownBlock) (Kd.R_keptB (HO_8.out) hkp (fun k_ hk_ hs_ => (hk_) hs_)) (fun k_ hk_ => fun e_ => Or.elim (ho0.1 k_ e_.symm) (fun hs_ => hk_.2.1 hs_) (fun hn_ => Nat.not_le.2 hk_.2.2 hn_))); have n1_ := Aside0.mk (Kd.R_mono (ok' := fun k_ => some k_ ≠ (u8 : Value).ownBlock) ho0 (fun k_ hk_ => Or.elim hk_ (fun hs_ => fun e_ => (((HO_8.out).1 k_ e_.symm)) hs_) (fun hn_ => (Kd.fresh' (Kd.R_lt (by (with_reducible repeat (first | apply Kd.R_alloc | apply Kd.R_drewN | apply Kd.R_drew)); exact HO_8.out)) k_ hn_)))); have n2_ := Aside0.mk (hb); clear HO_8; clear HB; clear HO_7; have HO_8 := n0_; have HO171 := n1_; have HB := n2_; clear n0_ n1_ n2_; (try clear hb); (try clear hkp); (try clear ho0)))
                go_ret2
                exact ⟨_, _, by first | rfl | (simp [errW_none, errW_some] <;> rfl) | (simp only [← hji3]; first | rfl | (simp [errW_none, errW_some] <;> rfl)) | (simp [*, errW_none, errW_some] <;> rfl), by (with_reducible repeat (first | apply Kd.R_alloc | apply Kd.R_drewN | apply Kd.R_drew)); exact HO171.out, by (with_reducible repeat (first | apply Kd.R_alloc | apply Kd.R_drewN | apply Kd.R_drew)); exact HO_8.out, by repeat (first | (with_reducible first | exact HB.out | apply below_alloc | apply pw_below_drewN | apply below_drew1) | exact HB.out)⟩
        · rw [if_neg c8] at H
          exact absurd H (by simp)
      · rw [if_neg c7] at H
        exact absurd H (by simp)
    · rw [if_neg c5] at H
      exact absurd H (by simp)
  · rw [if_neg c4] at H
    exact absurd H (by simp)
def surveyorref01_floor.f (a0 : Int) (a1 : Int) : Option (Int) := if a1 = 0 then (none) else (if (Int.tmod a0 a1) = 0 then (some (wrap64 (Int.tdiv a0 a1))) else (if ((decide (a0 < 0)) != (decide (a1 < 0))) = true then (some (wrap64 ((wrap64 (Int.tdiv a0 a1)) - 1))) else (some (wrap64 (Int.tdiv a0 a1)))))
set_option maxHeartbeats 8000000 in
set_option maxRecDepth 100000 in
theorem surveyorref01_floor.calls (a0 : Int) (a1 : Int) (r : Int) (w : World) (h : surveyorref01_floor.f a0 a1 = some r) :
    Calls Tryz.prog 152 #[.int .i64 a0, .int .i64 a1] w fun e w' => e = .returned (.int .i64 r) ∧ Drawn0 w w' := by
  have H : (if a1 = 0 then (none) else (if (Int.tmod a0 a1) = 0 then (some (wrap64 (Int.tdiv a0 a1))) else (if ((decide (a0 < 0)) != (decide (a1 < 0))) = true then (some (wrap64 ((wrap64 (Int.tdiv a0 a1)) - 1))) else (some (wrap64 (Int.tdiv a0 a1)))))) = some r := h
  clear h
  by_cases c3 : a1 = 0
  · rw [if_pos c3] at H
    exact absurd H (by simp)
  · rw [if_neg c3] at H
    have c3b0 : (a1 == 0) = false := beq_eq_false_iff_ne.mpr c3
    have c3b1 : (a1 != 0) = true := bne_iff_ne.mpr c3
    by_cases c4 : (Int.tmod a0 a1) = 0
    · rw [if_pos c4] at H
      have c4b0 : ((Int.tmod a0 a1) == 0) = true := beq_iff_eq.mpr c4
      have c4b1 : ((Int.tmod a0 a1) != 0) = false := bne_eq_false_iff_eq.mpr c4
      clear c4
      obtain rfl := Option.some.inj H
      go_enter Tryz.func152, Tryz.ntmps152
      go_wp2
      go_ret
      exact ⟨by first | rfl | (simp; done) | (simp [*]; done), by repeat (first | exact Drawn0.refl _ | apply Drawn0.step)⟩
    · rw [if_neg c4] at H
      have c4b0 : ((Int.tmod a0 a1) == 0) = false := beq_eq_false_iff_ne.mpr c4
      have c4b1 : ((Int.tmod a0 a1) != 0) = true := bne_iff_ne.mpr c4
      by_cases c5 : ((decide (a0 < 0)) != (decide (a1 < 0))) = true
      · rw [if_pos c5] at H
        have c5b0 : ((decide (a0 < 0)) != (decide (a1 < 0))) = true := c5
        (try (have c5b1 : decide ((decide (a0 < 0)) = (decide (a1 < 0))) = false := by simpa using c5))
        (try (have c5b2 : ((decide (a0 < 0)) == (decide (a1 < 0))) = false := by simpa using c5))
        (try (have c5b3 : ¬ ((decide (a0 < 0)) = (decide (a1 < 0))) := by simpa using c5))
        clear c5
        obtain rfl := Option.some.inj H
        go_enter Tryz.func152, Tryz.ntmps152
        go_wp2
        go_ret
        exact ⟨by first | rfl | (simp; done) | (simp [*]; done), by repeat (first | exact Drawn0.refl _ | apply Drawn0.step)⟩
      · rw [if_neg c5] at H
        have c5b0 : ((decide (a0 < 0)) != (decide (a1 < 0))) = false := by simpa using c5
        (try (have c5b1 : decide ((decide (a0 < 0)) = (decide (a1 < 0))) = true := by simpa using c5))
        (try (have c5b2 : ((decide (a0 < 0)) == (decide (a1 < 0))) = true := by simpa using c5))
        clear c5
        obtain rfl := Option.some.inj H
        go_enter Tryz.func152, Tryz.ntmps152
        go_wp2
        go_ret
        exact ⟨by first | rfl | (simp; done) | (simp [*]; done), by repeat (first | exact Drawn0.refl _ | apply Drawn0.step)⟩
end Go.Proofs.YtignanmmgaldeaaGreatDoor.PRefA
