/- SignBest: the walk. -/
import Derived.Test.YtlefniheafefgaaGreatDoorBest
import Derived.RegionTactic
import Derived.BigRegion
import Derived.Deep.QuietTactic
import Derived.BigQuiet
import Derived.Laws.IdiomArrays
import Derived.ChangeArms
import Derived.OpenShut
set_option linter.unusedVariables false
set_option linter.unusedSimpArgs false
namespace Go.Proofs.YtlefniheafefgaaGreatDoor.Best
open Go.RowKit Go.Shelf Go.Proofs.YtlefniheafefgaaGreatDoorW.PrintWords Go.Proofs.YtlefniheafefgaaGreatDoorW.PrintLast
open Go.Proofs.YtlefniheafefgaaGreatDoor.Pcompute (surveyorlaw19_compute.f surveyorlaw19_compute.calls)
open Go.Proofs.YtlefniheafefgaaGreatDoor.Papply (surveyorlaw19_apply.f surveyorlaw19_apply.calls)
open Go.Proofs.YtlefniheafefgaaGreatDoor.Pawake (surveyorlaw19_awake.f surveyorlaw19_awake.calls)
open Go.Proofs.YtlefniheafefgaaGreatDoor.PHolds (sign_Holds.f sign_Holds.calls sign_Of.f sign_Of.calls)

set_option maxRecDepth 100000 in
set_option maxHeartbeats 4000000 in
theorem best_walk (o x0 x1 : Int) (w : World) (ho : 0 ≤ o) (ho2 : o ≤ 255) (h0 : 0 ≤ x0) (h0' : x0 ≤ 255) (h1 : 0 ≤ x1) (h1' : x1 ≤ 255) (hG : GW w) :
    Calls Tryz.prog 6 #[.int .u8 o, .agg #[.int .u8 x0, .int .u8 x1]] w fun e w' => e = .returned (.bool true) ∧ Below w.heap.size w w' := by
  have HG := Lib.hid hG
  clear hG
  go_enter Tryz.func6, Tryz.ntmps6
  have hb0 : (w.alloc (.cells #[.int .u8 x0, .int .u8 x1] 24)).heap[w.heap.size]? = some (.cells #[.int .u8 x0, .int .u8 x1] 24) := World.alloc_heap_new w _
  have hBa : Below w.heap.size w (w.alloc (.cells #[.int .u8 x0, .int .u8 x1] 24)) := (Below.refl _ w).alloc (Nat.le_refl _) _
  go_wp2_with fail
  obtain ⟨W0, hW0⟩ : ∃ W0, w.alloc (.cells #[.int .u8 x0, .int .u8 x1] 24) = W0 := ⟨_, rfl⟩
  rw [hW0] at hb0 hBa ⊢
  clear hW0
  have c0 := cellA hb0 0 _ rfl
  have c1 := cellA hb0 1 _ rfl
  have HB := Lib.hid hBa
  clear hb0 hBa
  go_wp2
  go_quiet (fail)
  have HA := Lib.hid (apply_at o (x0 % 8) (x1 % 8) ho (by omega) (by omega) (by omega) (by omega))
  go_wp2_with (go_at_call 23; refine (surveyorlaw19_apply.calls _ _ _ _ _ _ HA.out).mono ?_; rintro e w1 ⟨rfl, hb⟩; have n0_ := Lib.hid (below_step (by repeat (first | (with_reducible first | exact HB.out | apply below_alloc | apply pw_below_drewN | apply below_drew1) | exact HB.out)) hb); clear HB; have HB := n0_; clear n0_; clear hb c0 c1 HA)
  have HB1 := HB
  clear HB
  go_loopw [9, 10] (fun fv av wr => ∃ k : Nat, k ≤ 9 ∧ av = .int .i64 (nine k) ∧ fv = .int .i64 (allF (o % 5) (x0 % 8) (x1 % 8) k) ∧ Hid (Below w.heap.size w wr)) (fun _ a _ => (6 - intOf a).toNat)
  case atStart => exact ⟨0, by omega, rfl, rfl, HB1⟩
  case round =>
    obtain ⟨k, hk, rfl, rfl, HB⟩ := hrel
    by_cases h9 : k < 9
    · have q1 := nine_le k h9
      have q2 := nine_next k h9
      have q3 : nine (k + 1) = nine k + 1 := by unfold nine; omega
      go_wp2_with fail
      have HBk := HB
      clear HB
      have HE : Hid (∀ k2 : Nat, k2 < 9 → ∀ f, stepF (o % 5) (x0 % 8) (x1 % 8) (nine k) (nine k2) f = (if hb (x0 % 8) (nine k) && hb (x1 % 8) (nine k2) then (match valO (o % 5) (nine k) (nine k2) with | some z => bits .or .i64 f (setI z) | none => f) else f)) := Lib.hid fun _ _ _ => rfl
      go_loopw [9, 11] (fun fv bv wr => ∃ k2 : Nat, k2 ≤ 9 ∧ bv = .int .i64 (nine k2) ∧ fv = .int .i64 (rowF (o % 5) (x0 % 8) (x1 % 8) (nine k) (allF (o % 5) (x0 % 8) (x1 % 8) k) k2) ∧ Hid (Below w.heap.size w wr)) (fun _ a _ => (6 - intOf a).toNat)
      case atStart => exact ⟨0, by omega, rfl, rfl, HBk⟩
      case round =>
        obtain ⟨k2, hk2, rfl, rfl, HB⟩ := hrel
        by_cases h9' : k2 < 9
        · have q4 := nine_le k2 h9'
          have q5 := nine_next k2 h9'
          have q6 : nine (k2 + 1) = nine k2 + 1 := by unfold nine; omega
          have hx := holds_at (x0 % 8) (by omega) (by omega) k h9
          have hy := holds_at (x1 % 8) (by omega) (by omega) k2 h9'
          have hc := compute_at o ho k k2 h9 h9'
          have hs := of_at o ho k k2 h9 h9'
          have hstep : rowF (o % 5) (x0 % 8) (x1 % 8) (nine k) (allF (o % 5) (x0 % 8) (x1 % 8) k) (k2 + 1) = (if hb (x0 % 8) (nine k) && hb (x1 % 8) (nine k2) then (match valO (o % 5) (nine k) (nine k2) with | some z => bits .or .i64 (rowF (o % 5) (x0 % 8) (x1 % 8) (nine k) (allF (o % 5) (x0 % 8) (x1 % 8) k) k2) (setI z) | none => (rowF (o % 5) (x0 % 8) (x1 % 8) (nine k) (allF (o % 5) (x0 % 8) (x1 % 8) k) k2)) else (rowF (o % 5) (x0 % 8) (x1 % 8) (nine k) (allF (o % 5) (x0 % 8) (x1 % 8) k) k2)) := rfl
          have HST := Lib.hid hstep
          have HX := Lib.hid hx
          have HY := Lib.hid hy
          clear hx hy hstep HE
          unfold res at hc
          generalize valO (o % 5) (nine k) (nine k2) = vo at HST hc hs
          generalize hb (x0 % 8) (nine k) = X at HST HX
          generalize hb (x1 % 8) (nine k2) = Y at HST HY
          generalize rowF (o % 5) (x0 % 8) (x1 % 8) (nine k) (allF (o % 5) (x0 % 8) (x1 % 8) k) k2 = f0 at HST ⊢
          have hfin : ∀ W : World, Below w.heap.size w W → ∀ f1, rowF (o % 5) (x0 % 8) (x1 % 8) (nine k) (allF (o % 5) (x0 % 8) (x1 % 8) k) (k2 + 1) = f1 → (∃ k2' : Nat, k2' ≤ 9 ∧ Value.int .i64 (nine (k2 + 1)) = .int .i64 (nine k2') ∧ Value.int .i64 f1 = .int .i64 (rowF (o % 5) (x0 % 8) (x1 % 8) (nine k) (allF (o % 5) (x0 % 8) (x1 % 8) k) k2') ∧ Hid (Below w.heap.size w W)) ∧ (6 - intOf (.int .i64 (nine (k2 + 1)))).toNat < (6 - intOf (.int .i64 (nine k2))).toNat := by
            intro W hW f1 hf
            exact ⟨⟨k2 + 1, by omega, rfl, by rw [hf], Lib.hid hW⟩, by show (6 - nine (k2 + 1)).toNat < (6 - nine k2).toNat; unfold nine; omega⟩
          have HF := Lib.hid hfin
          clear hfin
          cases X with
          | false =>
            have hv : ∃ r1 r2, surveyorlaw19_compute.f o (text (nine k)) (text (nine k2)) = some (r1, r2) := ⟨_, _, hc⟩
            obtain ⟨r1, r2, hc'⟩ := hv
            have HC := Lib.hid hc'
            clear hc hc' hs
            go_wp2_with (first | (go_at_call 25; refine (bigint_Of.calls _ _ _ (HG.out.below (by repeat (first | (with_reducible first | exact HB.out | apply below_alloc | apply pw_below_drewN | apply below_drew1) | exact HB.out))) (of_some _ (nine_fits _ (by omega)))).mono ?_; rintro e w6 ⟨rfl, hb⟩; have n0_ := Lib.hid (below_step (by repeat (first | (with_reducible first | exact HB.out | apply below_alloc | apply pw_below_drewN | apply below_drew1) | exact HB.out)) hb); clear HB; have HB := n0_; clear n0_; clear hb) | (go_at_call 15; refine (sign_Holds.calls _ _ _ _ _ HX.out).mono ?_; rintro e w6 ⟨rfl, hb⟩; have n0_ := Lib.hid (below_step (by repeat (first | (with_reducible first | exact HB.out | apply below_alloc | apply pw_below_drewN | apply below_drew1) | exact HB.out)) hb); clear HB; have HB := n0_; clear n0_; clear hb; clear HX) | (go_at_call 15; refine (sign_Holds.calls _ _ _ _ _ HY.out).mono ?_; rintro e w6 ⟨rfl, hb⟩; have n0_ := Lib.hid (below_step (by repeat (first | (with_reducible first | exact HB.out | apply below_alloc | apply pw_below_drewN | apply below_drew1) | exact HB.out)) hb); clear HB; have HB := n0_; clear n0_; clear hb; clear HY) | (go_at_call 24; refine (surveyorlaw19_compute.calls (hG := (HG.out.below (by repeat (first | (with_reducible first | exact HB.out | apply below_alloc | apply pw_below_drewN | apply below_drew1) | exact HB.out)))) _ _ _ _ _ _ HC.out).mono ?_; rintro e w6 ⟨rfl, hb⟩; have n0_ := Lib.hid (below_step (by repeat (first | (with_reducible first | exact HB.out | apply below_alloc | apply pw_below_drewN | apply below_drew1) | exact HB.out)) hb); clear HB; have HB := n0_; clear n0_; clear hb; clear HC))
            rw [q5]
            exact HF.out _ HB.out _ HST.out
          | true =>
            cases Y with
            | false =>
              have hv : ∃ r1 r2, surveyorlaw19_compute.f o (text (nine k)) (text (nine k2)) = some (r1, r2) := ⟨_, _, hc⟩
              obtain ⟨r1, r2, hc'⟩ := hv
              have HC := Lib.hid hc'
              clear hc hc' hs
              go_wp2_with (first | (go_at_call 25; refine (bigint_Of.calls _ _ _ (HG.out.below (by repeat (first | (with_reducible first | exact HB.out | apply below_alloc | apply pw_below_drewN | apply below_drew1) | exact HB.out))) (of_some _ (nine_fits _ (by omega)))).mono ?_; rintro e w6 ⟨rfl, hb⟩; have n0_ := Lib.hid (below_step (by repeat (first | (with_reducible first | exact HB.out | apply below_alloc | apply pw_below_drewN | apply below_drew1) | exact HB.out)) hb); clear HB; have HB := n0_; clear n0_; clear hb) | (go_at_call 15; refine (sign_Holds.calls _ _ _ _ _ HX.out).mono ?_; rintro e w6 ⟨rfl, hb⟩; have n0_ := Lib.hid (below_step (by repeat (first | (with_reducible first | exact HB.out | apply below_alloc | apply pw_below_drewN | apply below_drew1) | exact HB.out)) hb); clear HB; have HB := n0_; clear n0_; clear hb; clear HX) | (go_at_call 15; refine (sign_Holds.calls _ _ _ _ _ HY.out).mono ?_; rintro e w6 ⟨rfl, hb⟩; have n0_ := Lib.hid (below_step (by repeat (first | (with_reducible first | exact HB.out | apply below_alloc | apply pw_below_drewN | apply below_drew1) | exact HB.out)) hb); clear HB; have HB := n0_; clear n0_; clear hb; clear HY) | (go_at_call 24; refine (surveyorlaw19_compute.calls (hG := (HG.out.below (by repeat (first | (with_reducible first | exact HB.out | apply below_alloc | apply pw_below_drewN | apply below_drew1) | exact HB.out)))) _ _ _ _ _ _ HC.out).mono ?_; rintro e w6 ⟨rfl, hb⟩; have n0_ := Lib.hid (below_step (by repeat (first | (with_reducible first | exact HB.out | apply below_alloc | apply pw_below_drewN | apply below_drew1) | exact HB.out)) hb); clear HB; have HB := n0_; clear n0_; clear hb; clear HC))
              rw [q5]
              exact HF.out _ HB.out _ HST.out
            | true =>
              cases vo with
              | none =>
                have HC : Hid (surveyorlaw19_compute.f o (text (nine k)) (text (nine k2)) = some (⟨#[]⟩, 19)) := Lib.hid hc
                clear hc hs
                go_wp2_with (first | (go_at_call 25; refine (bigint_Of.calls _ _ _ (HG.out.below (by repeat (first | (with_reducible first | exact HB.out | apply below_alloc | apply pw_below_drewN | apply below_drew1) | exact HB.out))) (of_some _ (nine_fits _ (by omega)))).mono ?_; rintro e w6 ⟨rfl, hb⟩; have n0_ := Lib.hid (below_step (by repeat (first | (with_reducible first | exact HB.out | apply below_alloc | apply pw_below_drewN | apply below_drew1) | exact HB.out)) hb); clear HB; have HB := n0_; clear n0_; clear hb) | (go_at_call 15; refine (sign_Holds.calls _ _ _ _ _ HX.out).mono ?_; rintro e w6 ⟨rfl, hb⟩; have n0_ := Lib.hid (below_step (by repeat (first | (with_reducible first | exact HB.out | apply below_alloc | apply pw_below_drewN | apply below_drew1) | exact HB.out)) hb); clear HB; have HB := n0_; clear n0_; clear hb; clear HX) | (go_at_call 15; refine (sign_Holds.calls _ _ _ _ _ HY.out).mono ?_; rintro e w6 ⟨rfl, hb⟩; have n0_ := Lib.hid (below_step (by repeat (first | (with_reducible first | exact HB.out | apply below_alloc | apply pw_below_drewN | apply below_drew1) | exact HB.out)) hb); clear HB; have HB := n0_; clear n0_; clear hb; clear HY) | (go_at_call 24; refine (surveyorlaw19_compute.calls (hG := (HG.out.below (by repeat (first | (with_reducible first | exact HB.out | apply below_alloc | apply pw_below_drewN | apply below_drew1) | exact HB.out)))) _ _ _ _ _ _ HC.out).mono ?_; rintro e w6 ⟨rfl, hb⟩; have n0_ := Lib.hid (below_step (by repeat (first | (with_reducible first | exact HB.out | apply below_alloc | apply pw_below_drewN | apply below_drew1) | exact HB.out)) hb); clear HB; have HB := n0_; clear n0_; clear hb; clear HC))
                rw [q5]
                exact HF.out _ HB.out _ HST.out
              | some z =>
                have HC : Hid (surveyorlaw19_compute.f o (text (nine k)) (text (nine k2)) = some (text z, 0)) := Lib.hid hc
                have HS := Lib.hid (hs z rfl)
                clear hc hs
                go_wp2_with (first | (go_at_call 25; refine (bigint_Of.calls _ _ _ (HG.out.below (by repeat (first | (with_reducible first | exact HB.out | apply below_alloc | apply pw_below_drewN | apply below_drew1) | exact HB.out))) (of_some _ (nine_fits _ (by omega)))).mono ?_; rintro e w6 ⟨rfl, hb⟩; have n0_ := Lib.hid (below_step (by repeat (first | (with_reducible first | exact HB.out | apply below_alloc | apply pw_below_drewN | apply below_drew1) | exact HB.out)) hb); clear HB; have HB := n0_; clear n0_; clear hb) | (go_at_call 15; refine (sign_Holds.calls _ _ _ _ _ HX.out).mono ?_; rintro e w6 ⟨rfl, hb⟩; have n0_ := Lib.hid (below_step (by repeat (first | (with_reducible first | exact HB.out | apply below_alloc | apply pw_below_drewN | apply below_drew1) | exact HB.out)) hb); clear HB; have HB := n0_; clear n0_; clear hb; clear HX) | (go_at_call 15; refine (sign_Holds.calls _ _ _ _ _ HY.out).mono ?_; rintro e w6 ⟨rfl, hb⟩; have n0_ := Lib.hid (below_step (by repeat (first | (with_reducible first | exact HB.out | apply below_alloc | apply pw_below_drewN | apply below_drew1) | exact HB.out)) hb); clear HB; have HB := n0_; clear n0_; clear hb; clear HY) | (go_at_call 24; refine (surveyorlaw19_compute.calls (hG := (HG.out.below (by repeat (first | (with_reducible first | exact HB.out | apply below_alloc | apply pw_below_drewN | apply below_drew1) | exact HB.out)))) _ _ _ _ _ _ HC.out).mono ?_; rintro e w6 ⟨rfl, hb⟩; have n0_ := Lib.hid (below_step (by repeat (first | (with_reducible first | exact HB.out | apply below_alloc | apply pw_below_drewN | apply below_drew1) | exact HB.out)) hb); clear HB; have HB := n0_; clear n0_; clear hb; clear HC) | (go_at_call 11; refine (sign_Of.calls _ _ _ _ HS.out).mono ?_; rintro e w6 ⟨rfl, hb⟩; have n0_ := Lib.hid (below_step (by repeat (first | (with_reducible first | exact HB.out | apply below_alloc | apply pw_below_drewN | apply below_drew1) | exact HB.out)) hb); clear HB; have HB := n0_; clear n0_; clear hb; clear HS))
                rw [q5]
                exact HF.out _ HB.out _ HST.out
        · obtain rfl : k2 = 9 := by omega
          have q4 := nine_gt
          go_wp2_with fail
          exact ⟨⟨k + 1, by omega, by rw [q2], rfl, HB⟩, by rw [q2]; show (6 - nine (k + 1)).toNat < (6 - nine k).toNat; unfold nine; omega⟩
    · obtain rfl : k = 9 := by omega
      have q1 := nine_gt
      have HW := Lib.hid awake9
      generalize allF (o % 5) (x0 % 8) (x1 % 8) 9 = R
      have q2 : (R == R) = true := by simp
      go_wp2_with (go_at_call 8; refine (surveyorlaw19_awake.calls 300 true _ HW.out).mono ?_; rintro e w2 ⟨rfl, hb⟩; have n0_ := Lib.hid (below_step (by repeat (first | (with_reducible first | exact HB.out | apply below_alloc | apply pw_below_drewN | apply below_drew1) | exact HB.out)) hb); clear HB; have HB := n0_; clear n0_; clear hb HW)
      go_ret
      exact ⟨rfl, HB.out⟩
/-! The reading of an array of two bytes. -/
section
open Go.ChangeShapes Go.WideShapes
variable {H : Type} {enc : TypeId × Value → H} {P : Program} {w : World} {base : Nat} {spare : Nat → Bool} {held : Bool}
theorem okWide_array {r : Reach} {t e : TypeId} {n : Nat} {v : Value} (ht : P.underlying t = some (.array n e)) (h : Value.okWide P w r base t v) : ∃ cs, v = .agg cs ∧ cs.size = P.cellsOf t := by
  simp only [Value.okWide, ht] at h
  obtain ⟨cs, h1, h2, _⟩ := h
  exact ⟨cs, h1, h2⟩
theorem two {α : Type} {cs : Array α} (h : cs.size = 2) : ∃ c0 c1, cs = #[c0, c1] := by
  obtain ⟨l⟩ := cs
  match l, h with
  | [a, b], _ => exact ⟨a, b, rfl⟩
theorem trod_two {t e : TypeId} {fuel : Nat} {c0 c1 : Value} {x : DataW H × List MemPlace} (ht : P.underlying t = some (.array 2 e)) (hce : P.cellsOf e = 1) (h : DataW.trod enc P w base spare held fuel t [c0, c1] = some x) :
    ∃ y0 y1 n, DataW.trod enc P w base spare held n e [c0] = some y0 ∧ DataW.trod enc P w base spare held n e [c1] = some y1 := by
  obtain ⟨xs, m, _, _, _, hxl, hel⟩ := DataW.trod_array ht h
  have e0 := hel 0 (by omega)
  have e1 := hel 1 (by omega)
  rw [hce] at e0 e1
  match xs, hxl, e0, e1 with
  | [y0, y1], _, e0, e1 => exact ⟨y0, y1, m, e0, e1⟩
theorem open_u8x2 {r : Reach} {b0 : Nat} {t e : TypeId} {v : Value} {d : DataW H} {p : List MemPlace} (ht : P.underlying t = some (.array 2 e)) (he : P.underlying e = some (.int .u8)) (hce : P.cellsOf e = 1) (hC : P.cellsOf t = 2)
    (hv : Value.okWide P w r b0 t v) (h : DataW.Trod enc P w base spare held t v d p) :
    ∃ x0 x1 : Int, v = .agg #[.int .u8 x0, .int .u8 x1] ∧ (Lit.int .u8 x0).wf = true ∧ (Lit.int .u8 x1).wf = true := by
  obtain ⟨cs, rfl, hsz⟩ := okWide_array ht hv
  obtain ⟨c0, c1, rfl⟩ := two (hsz.trans hC)
  obtain ⟨fuel, hf⟩ := h
  obtain ⟨y0, y1, n, h0, h1⟩ := trod_two ht hce hf
  obtain ⟨x0, e0, _, w0⟩ := DataW.trod_int he h0
  obtain ⟨x1, e1, _, w1⟩ := DataW.trod_int he h1
  simp only [List.cons.injEq, and_true] at e0 e1
  subst e0 e1
  exact ⟨x0, x1, rfl, w0, w1⟩
end
end Go.Proofs.YtlefniheafefgaaGreatDoor.Best
