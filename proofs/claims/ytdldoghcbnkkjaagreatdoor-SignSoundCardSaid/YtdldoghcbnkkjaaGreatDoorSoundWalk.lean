/- SignSound: the walk. -/
import Derived.Test.YtdldoghcbnkkjaaGreatDoorSoundLaw
import Derived.RegionTactic
import Derived.BigRegion
import Derived.Deep.QuietTactic
import Derived.BigQuiet
import Derived.Laws.IdiomArrays
import Derived.ChangeArms
import Derived.OpenShut
set_option linter.unusedVariables false
set_option linter.unusedSimpArgs false
namespace Go.Proofs.YtdldoghcbnkkjaaGreatDoor.Sound
open Go.RowKit Go.Shelf Go.Proofs.YtdldoghcbnkkjaaGreatDoorW.PrintWords Go.Proofs.YtdldoghcbnkkjaaGreatDoorW.PrintLast
open Go.Proofs.YtdldoghcbnkkjaaGreatDoor.Pcompute (surveyorlaw19_compute.f surveyorlaw19_compute.calls)
open Go.Proofs.YtdldoghcbnkkjaaGreatDoor.Papply (surveyorlaw19_apply.f surveyorlaw19_apply.calls)
open Go.Proofs.YtdldoghcbnkkjaaGreatDoor.Pawake (surveyorlaw19_awake.f surveyorlaw19_awake.calls)
open Go.Proofs.YtdldoghcbnkkjaaGreatDoor.PHolds (sign_Holds.f sign_Holds.calls)
open Go.Proofs.YtdldoghcbnkkjaaGreatDoor.Pright

theorem two_strings {W : World} {g : Nat} {a b : ByteArray} {t : TypeId} (h : W.heap[g]? = some (.cells #[.string a, .string b] t (0, 0))) : Kd.string.C W (some ⟨g, 0, none⟩) 2 [a, b] :=
  ⟨rfl, by omega, fun _ => ⟨⟨g, 0, none⟩, rfl, fun j p hp => by
    have hj : j < 2 := by have := (List.getElem?_eq_some_iff.1 hp).1; simpa using this
    refine ⟨[.string p], rfl, rfl, fun i u hu => ?_⟩
    have hi : i = 0 := by have := (List.getElem?_eq_some_iff.1 hu).1; simp at this; exact this
    subst hi
    have e : (Addr.add ⟨g, 0, none⟩ (j * 1 + 0)) = ⟨g, j, none⟩ := by simp only [Addr.add]; split <;> simp_all
    rw [show Kd.string.sz = 1 from rfl, e]
    cases hu
    match j, hj with
    | 0, _ => cases hp; exact cellA h 0 _ rfl
    | 1, _ => cases hp; exact cellA h 1 _ rfl⟩⟩
set_option maxRecDepth 100000 in
set_option maxHeartbeats 4000000 in
theorem sound_walk (o x0 x1 : Int) (a b : ByteArray) (w : World) (ho : 0 ≤ o) (ho2 : o ≤ 255) (h0 : 0 ≤ x0) (h0' : x0 ≤ 255) (h1 : 0 ≤ x1) (h1' : x1 ≤ 255) (ha : a.size ≤ 9223372036854775807) (hb : b.size ≤ 9223372036854775807) (hG : GW w) :
    Calls Tryz.prog 3 #[.int .u8 o, .agg #[.string a, .string b], .agg #[.int .u8 x0, .int .u8 x1]] w fun e w' => e = .returned (.bool true) ∧ Below w.heap.size w w' := by
  have hr := right_two a b
  have HG := Lib.hid hG
  clear hG
  go_enter Tryz.func3, Tryz.ntmps3
  go_wp2_with fail
  have hbs : (((w.alloc (.cells #[.string a, .string b] 23)).alloc (.cells #[.int .u8 x0, .int .u8 x1] 24)).alloc (.cells #[.string a, .string b] 22)).heap[w.heap.size + 1 + 1]? = some (.cells #[.string a, .string b] 22) := by
    have := World.alloc_heap_new ((w.alloc (.cells #[.string a, .string b] 23)).alloc (.cells #[.int .u8 x0, .int .u8 x1] 24)) (.cells #[.string a, .string b] 22)
    rwa [World.size_alloc, World.size_alloc] at this
  have hb0 : (((w.alloc (.cells #[.string a, .string b] 23)).alloc (.cells #[.int .u8 x0, .int .u8 x1] 24)).alloc (.cells #[.string a, .string b] 22)).heap[w.heap.size]? = some (.cells #[.string a, .string b] 23) := (Below.heap_alloc _ _ _ (by simp; omega)).trans ((Below.heap_alloc _ _ _ (by simp)).trans (World.alloc_heap_new w _))
  have hb1 : (((w.alloc (.cells #[.string a, .string b] 23)).alloc (.cells #[.int .u8 x0, .int .u8 x1] 24)).alloc (.cells #[.string a, .string b] 22)).heap[w.heap.size + 1]? = some (.cells #[.int .u8 x0, .int .u8 x1] 24) := (Below.heap_alloc _ _ _ (by simp)).trans (by
    have := World.alloc_heap_new (w.alloc (.cells #[.string a, .string b] 23)) (.cells #[.int .u8 x0, .int .u8 x1] 24)
    rwa [World.size_alloc] at this)
  have hBa : Below w.heap.size w (((w.alloc (.cells #[.string a, .string b] 23)).alloc (.cells #[.int .u8 x0, .int .u8 x1] 24)).alloc (.cells #[.string a, .string b] 22)) := (((Below.refl _ w).alloc (Nat.le_refl _) _).alloc (by simp) _).alloc (by simp; omega) _
  have hsz : (((w.alloc (.cells #[.string a, .string b] 23)).alloc (.cells #[.int .u8 x0, .int .u8 x1] 24)).alloc (.cells #[.string a, .string b] 22)).heap.size = w.heap.size + 3 := by simp
  obtain ⟨W0, hW0⟩ : ∃ W0, (((w.alloc (.cells #[.string a, .string b] 23)).alloc (.cells #[.int .u8 x0, .int .u8 x1] 24)).alloc (.cells #[.string a, .string b] 22)) = W0 := ⟨_, rfl⟩
  rw [hW0] at hbs hb0 hb1 hBa hsz ⊢
  clear hW0
  have HK : Hid (∀ W : World, Below W0.heap.size W0 W → W.cell? ⟨w.heap.size, 0, none⟩ = some (.string a) ∧ W.cell? ⟨w.heap.size, 1, none⟩ = some (.string b) ∧ W.cell? ⟨w.heap.size + 1, 0, none⟩ = some (.int .u8 x0) ∧ W.cell? ⟨w.heap.size + 1, 1, none⟩ = some (.int .u8 x1)) := Lib.hid fun W hB =>
    ⟨cellA ((hB.block w.heap.size (by omega)).trans hb0) 0 _ rfl, cellA ((hB.block w.heap.size (by omega)).trans hb0) 1 _ rfl, cellA ((hB.block (w.heap.size + 1) (by omega)).trans hb1) 0 _ rfl, cellA ((hB.block (w.heap.size + 1) (by omega)).trans hb1) 1 _ rfl⟩
  have HGB : Hid (∀ W : World, Below W0.heap.size W0 W → GW W) := Lib.hid fun W hB => HG.out.below (hBa.trans (hB.mono hBa.size))
  by_cases hR : (a.size ≤ 250 ∧ chkI a = 0) ∧ (b.size ≤ 250 ∧ chkI b = 0)
  · rw [decide_eq_true hR] at hr
    have HR := Aside0.mk hr
    clear hr
    refine (surveyorlaw19_right.calls 310 (some ⟨w.heap.size + 1 + 1, 0, none⟩) 2 [a, b] _ W0 (two_strings hbs) (Nat.le_refl 2) HR.out).mono ?_
    rintro e w1 ⟨rfl, hd1⟩
    have hB1 := hd1.below
    obtain ⟨c0, c1, c2, c3⟩ := HK.out _ hB1
    have HB1 := Lib.hid hB1
    clear hbs hb0 hb1 hB1 hd1
    obtain ⟨xa, rfl, ba⟩ := word_text hR.1.1 hR.1.2
    obtain ⟨xb, rfl, bb⟩ := word_text hR.2.1 hR.2.2
    obtain ⟨X, Y, R, rs, c, hx, hy, hap, hco, hfin⟩ := sound_law o (x0 % 8) (x1 % 8) xa xb ho (by omega) (by omega) (by omega) (by omega) ba bb
    have HX := Aside0.mk hx
    have HY := Aside0.mk hy
    have HA := Aside0.mk hap
    have HC := Aside0.mk hco
    have HFN := Aside0.mk hfin
    clear hx hy hap hco hfin hR ba bb ha hb
    generalize text xa = ta at *
    generalize text xb = tb at *
    go_wp2
    go_quiet (fail)
    have hbq : Below W0.heap.size W0 (w1.drewN nq) := pw_below_drewN HB1.out nq
    have HBq := HB1
    clear HB1
    have HB1 := Lib.hid hbq
    clear hbq
    go_wp2_with fail
    refine (sign_Holds.calls _ _ _ _ _ HX.out).mono ?_
    rintro e w2 ⟨rfl, k2⟩
    have hB2 := HB1.out.trans (k2.mono HB1.out.size)
    obtain ⟨c0, c1, c2, c3⟩ := HK.out _ hB2
    have HB2 := Lib.hid hB2
    clear k2 hB2
    go_wp2_with fail
    refine (sign_Holds.calls _ _ _ _ _ HY.out).mono ?_
    rintro e w3 ⟨rfl, k3⟩
    have hB3 := HB2.out.trans (k3.mono HB2.out.size)
    obtain ⟨c0, c1, c2, c3⟩ := HK.out _ hB3
    have HB3 := Lib.hid hB3
    clear k3 hB3
    go_wp2_with fail
    refine (surveyorlaw19_apply.calls _ _ _ _ _ _ HA.out).mono ?_
    rintro e w4 ⟨rfl, k4⟩
    have hB4 := HB3.out.trans (k4.mono HB3.out.size)
    obtain ⟨c0, c1, c2, c3⟩ := HK.out _ hB4
    have HB4 := Lib.hid hB4
    clear k4 hB4
    go_wp2_with fail
    refine (surveyorlaw19_compute.calls (hG := HGB.out _ HB4.out) _ _ _ _ _ _ HC.out).mono ?_
    rintro e w5 ⟨rfl, k5⟩
    have hB5 := HB4.out.trans (k5.mono HB4.out.size)
    have HB5 := Lib.hid hB5
    clear k5 hB5 c0 c1 c2 c3
    have hfin : ∀ w7, Below w5.heap.size w5 w7 → Below w.heap.size w w7 := fun w7 h => hBa.trans ((HB5.out.trans (h.mono HB5.out.size)).mono hBa.size)
    have HF := Lib.hid hfin
    clear hfin
    rcases HFN.out with ⟨rfl, hxy⟩ | rfl
    · -- there is a result
      cases X with
      | false =>
        go_wp2_with fail
        refine (surveyorlaw19_awake.calls 300 true _ awake_true).mono ?_
        rintro e w7 ⟨rfl, k7⟩
        go_wp2_with fail
        go_ret
        exact ⟨rfl, HF.out _ k7⟩
      | true =>
        cases Y with
        | false =>
          go_wp2_with fail
          refine (surveyorlaw19_awake.calls 300 true _ awake_true).mono ?_
          rintro e w7 ⟨rfl, k7⟩
          go_wp2_with fail
          go_ret
          exact ⟨rfl, HF.out _ k7⟩
        | true =>
          have HZ := Aside0.mk (hxy rfl rfl)
          clear hxy
          go_wp2_with fail
          refine (sign_Holds.calls _ _ _ _ _ HZ.out).mono ?_
          rintro e w6 ⟨rfl, k6⟩
          go_wp2_with fail
          refine (surveyorlaw19_awake.calls 300 true _ awake_true).mono ?_
          rintro e w7 ⟨rfl, k7⟩
          go_wp2_with fail
          go_ret
          exact ⟨rfl, HF.out _ (k6.trans (k7.mono k6.size))⟩
    · cases X with
      | false =>
        go_wp2_with fail
        refine (surveyorlaw19_awake.calls 300 true _ awake_true).mono ?_
        rintro e w7 ⟨rfl, k7⟩
        go_wp2_with fail
        go_ret
        exact ⟨rfl, HF.out _ k7⟩
      | true =>
        cases Y with
        | false =>
          go_wp2_with fail
          refine (surveyorlaw19_awake.calls 300 true _ awake_true).mono ?_
          rintro e w7 ⟨rfl, k7⟩
          go_wp2_with fail
          go_ret
          exact ⟨rfl, HF.out _ k7⟩
        | true =>
          go_wp2_with fail
          refine (surveyorlaw19_awake.calls 300 true _ awake_true).mono ?_
          rintro e w7 ⟨rfl, k7⟩
          go_wp2_with fail
          go_ret
          exact ⟨rfl, HF.out _ k7⟩
  · rw [decide_eq_false hR] at hr
    have HR := Aside0.mk hr
    clear hr
    refine (surveyorlaw19_right.calls 310 (some ⟨w.heap.size + 1 + 1, 0, none⟩) 2 [a, b] _ W0 (two_strings hbs) (Nat.le_refl 2) HR.out).mono ?_
    rintro e w1 ⟨rfl, hd1⟩
    have HB1 := Lib.hid hd1.below
    clear hbs hb0 hb1 hd1
    go_wp2_with fail
    refine (surveyorlaw19_awake.calls 300 true _ awake_true).mono ?_
    rintro e w2 ⟨rfl, hB2⟩
    have HB2 := Lib.hid hB2
    clear hB2
    go_wp2_with fail
    go_ret
    exact ⟨rfl, hBa.trans ((HB1.out.trans (HB2.out.mono HB1.out.size)).mono hBa.size)⟩
/-! The reading of an array of two strings, and of two bytes. -/
section
open Go.ChangeShapes Go.WideShapes
variable {H : Type} {enc : TypeId × Value → H} {P : Program} {w : World} {base : Nat} {spare : Nat → Bool} {held : Bool}
theorem okWide_array {r : Reach} {t e : TypeId} {n : Nat} {v : Value} (ht : P.underlying t = some (.array n e)) (h : Value.okWide P w r base t v) : ∃ cs, v = .agg cs ∧ cs.size = P.cellsOf t := by
  simp only [Value.okWide, ht] at h
  obtain ⟨cs, h1, h2, _⟩ := h
  exact ⟨cs, h1, h2⟩
theorem two {α : Type} {cs : Array α} (h : cs.size = 2) : ∃ c0 c1, cs = #[c0, c1] := by
  obtain ⟨l⟩ := cs
  match l, h with
  | [a, b], _ => exact ⟨a, b, rfl⟩
theorem trod_two {t e : TypeId} {fuel : Nat} {c0 c1 : Value} {x : DataW H × List MemPlace} (ht : P.underlying t = some (.array 2 e)) (hce : P.cellsOf e = 1) (h : DataW.trod enc P w base spare held fuel t [c0, c1] = some x) :
    ∃ y0 y1 n, DataW.trod enc P w base spare held n e [c0] = some y0 ∧ DataW.trod enc P w base spare held n e [c1] = some y1 := by
  obtain ⟨xs, m, _, _, _, hxl, hel⟩ := DataW.trod_array ht h
  have e0 := hel 0 (by omega)
  have e1 := hel 1 (by omega)
  rw [hce] at e0 e1
  match xs, hxl, e0, e1 with
  | [y0, y1], _, e0, e1 => exact ⟨y0, y1, m, e0, e1⟩
theorem open_u8x2 {r : Reach} {b0 : Nat} {t e : TypeId} {v : Value} {d : DataW H} {p : List MemPlace} (ht : P.underlying t = some (.array 2 e)) (he : P.underlying e = some (.int .u8)) (hce : P.cellsOf e = 1) (hC : P.cellsOf t = 2)
    (hv : Value.okWide P w r b0 t v) (h : DataW.Trod enc P w base spare held t v d p) :
    ∃ x0 x1 : Int, v = .agg #[.int .u8 x0, .int .u8 x1] ∧ (Lit.int .u8 x0).wf = true ∧ (Lit.int .u8 x1).wf = true := by
  obtain ⟨cs, rfl, hsz⟩ := okWide_array ht hv
  obtain ⟨c0, c1, rfl⟩ := two (hsz.trans hC)
  obtain ⟨fuel, hf⟩ := h
  obtain ⟨y0, y1, n, h0, h1⟩ := trod_two ht hce hf
  obtain ⟨x0, e0, _, w0⟩ := DataW.trod_int he h0
  obtain ⟨x1, e1, _, w1⟩ := DataW.trod_int he h1
  simp only [List.cons.injEq, and_true] at e0 e1
  subst e0 e1
  exact ⟨x0, x1, rfl, w0, w1⟩
theorem open_strx2 {r : Reach} {b0 : Nat} {t e : TypeId} {v : Value} {d : DataW H} {p : List MemPlace} (ht : P.underlying t = some (.array 2 e)) (he : P.underlying e = some .string) (hce : P.cellsOf e = 1) (hC : P.cellsOf t = 2)
    (hv : Value.okWide P w r b0 t v) (h : DataW.Trod enc P w base spare held t v d p) :
    ∃ a b : ByteArray, v = .agg #[.string a, .string b] ∧ a.size ≤ 9223372036854775807 ∧ b.size ≤ 9223372036854775807 := by
  obtain ⟨cs, rfl, hsz⟩ := okWide_array ht hv
  obtain ⟨c0, c1, rfl⟩ := two (hsz.trans hC)
  obtain ⟨fuel, hf⟩ := h
  obtain ⟨y0, y1, n, h0, h1⟩ := trod_two ht hce hf
  obtain ⟨a, e0, _, w0⟩ := DataW.trod_string he h0
  obtain ⟨b, e1, _, w1⟩ := DataW.trod_string he h1
  simp only [List.cons.injEq, and_true] at e0 e1
  subst e0 e1
  exact ⟨a, b, rfl, w0, w1⟩
end
end Go.Proofs.YtdldoghcbnkkjaaGreatDoor.Sound
