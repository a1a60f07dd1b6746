/- SignGrows: the plain law and the walk. -/
import Derived.Test.YtlefniheafefgaaPSignGrowsx1
import Derived.RegionTactic
import Derived.BigRegion
import Derived.Deep.QuietTactic
import Derived.BigQuiet
import Derived.Laws.IdiomArrays
import Derived.ChangeArms
set_option linter.unusedVariables false
set_option linter.unusedSimpArgs false
namespace Go.Proofs.Ytlefniheafefgaa
open Go.RowKit Go.Proofs.Ytlefniheafefgaa.PSignGrows Go.Proofs.YtlefniheafefgaaW.PrintWords Go.Proofs.YtlefniheafefgaaW.PrintLast

def growB (o s t u : Int) : Option Bool :=
  (sign_Join.f s u).bind fun p => (surveyorlaw19_apply.f o s t).bind fun a => (surveyorlaw19_apply.f o u t).bind fun b => (surveyorlaw19_apply.f o p.1 t).bind fun c =>
    (sign_Join.f a.1 b.1).bind fun ab => (sign_Leq.f a.1 c.1).bind fun l => some (decide (p.2 = 0 ∧ a.2 = 0 ∧ b.2 = 0 ∧ c.2 = 0 ∧ ab.2 = 0 ∧ l = (true, 0) ∧ ab.1 = c.1))
set_option maxRecDepth 100000 in
theorem grows_in : ∀ (o : Fin 5) (s t u : Fin 8), growB o.val s.val t.val u.val = some true := by decide +kernel
theorem apply_mod (o s t : Int) : surveyorlaw19_apply.f o s t = surveyorlaw19_apply.f (o.tmod 5) s t := by
  have : (o.tmod 5).tmod 5 = o.tmod 5 := by
    rw [Int.tmod_tmod_of_dvd _ (Int.dvd_refl 5)]
  unfold surveyorlaw19_apply.f
  rw [this]
theorem grows (o s t u : Int) (h0 : 0 ≤ o) (hs : 0 ≤ s ∧ s < 8) (ht : 0 ≤ t ∧ t < 8) (hu : 0 ≤ u ∧ u < 8) :
    ∃ su a b c, sign_Join.f s u = some (su, 0) ∧ surveyorlaw19_apply.f o s t = some (a, 0) ∧ surveyorlaw19_apply.f o u t = some (b, 0) ∧ surveyorlaw19_apply.f o su t = some (c, 0) ∧ sign_Join.f a b = some (c, 0) ∧ sign_Leq.f a c = some (true, 0) := by
  have hm : 0 ≤ o.tmod 5 ∧ o.tmod 5 < 5 := by rw [Int.tmod_eq_emod_of_nonneg h0]; omega
  have := grows_in ⟨(o.tmod 5).toNat, by omega⟩ ⟨s.toNat, by omega⟩ ⟨t.toNat, by omega⟩ ⟨u.toNat, by omega⟩
  dsimp only at this
  rw [show (((o.tmod 5).toNat : Nat) : Int) = o.tmod 5 from by omega, show ((s.toNat : Nat) : Int) = s from by omega, show ((t.toNat : Nat) : Int) = t from by omega, show ((u.toNat : Nat) : Int) = u from by omega] at this
  unfold growB at this
  obtain ⟨⟨su, e1⟩, h1, this⟩ := Option.bind_eq_some_iff.1 this
  obtain ⟨⟨a, e2⟩, h2, this⟩ := Option.bind_eq_some_iff.1 this
  obtain ⟨⟨b, e3⟩, h3, this⟩ := Option.bind_eq_some_iff.1 this
  obtain ⟨⟨c, e4⟩, h4, this⟩ := Option.bind_eq_some_iff.1 this
  obtain ⟨⟨ab, e5⟩, h5, this⟩ := Option.bind_eq_some_iff.1 this
  obtain ⟨⟨l, e6⟩, h6, this⟩ := Option.bind_eq_some_iff.1 this
  have hd := of_decide_eq_true (Option.some.inj this)
  dsimp only at hd
  obtain ⟨rfl, rfl, rfl, rfl, rfl, hl, rfl⟩ := hd
  rw [hl] at h6
  rw [← apply_mod] at h2 h3 h4
  exact ⟨su, a, b, ab, h1, h2, h3, h4, h5, h6⟩
set_option maxRecDepth 100000 in
theorem grows_awake : surveyorlaw19_awake.f 130 = some true := by decide +kernel

set_option maxRecDepth 100000 in
set_option maxHeartbeats 4000000 in
theorem grows_walk (o x0 x1 x2 : Int) (w : World) (ho : 0 ≤ o) (ho2 : o ≤ 255) (h0 : 0 ≤ x0) (h0' : x0 ≤ 255) (h1 : 0 ≤ x1) (h1' : x1 ≤ 255) (h2 : 0 ≤ x2) (h2' : x2 ≤ 255) :
    Calls Try.prog 6 #[.int .u8 o, .agg #[.int .u8 x0, .int .u8 x1, .int .u8 x2]] w fun e w' => e = .returned (.bool true) ∧ Below w.heap.size w w' := by
  obtain ⟨su, a, b, c, g1, g2, g3, g4, g5, g6⟩ := grows o (x0 % 8) (x1 % 8) (x2 % 8) ho (by omega) (by omega) (by omega)
  have G1 := Aside0.mk g1
  have G2 := Aside0.mk g2
  have G3 := Aside0.mk g3
  have G4 := Aside0.mk g4
  have G5 := Aside0.mk g5
  have G6 := Aside0.mk g6
  clear g1 g2 g3 g4 g5 g6
  go_enter Try.func6, Try.ntmps6
  go_wp2
  go_quiet (fail)
  go_wp2_with fail
  have hb0 : Below w.heap.size w ((w.alloc (.cells #[.int .u8 x0, .int .u8 x1, .int .u8 x2] 39)).drewN nq) := pw_below_drewN ((Below.refl _ _).alloc (Nat.le_refl _) _) nq
  refine (sign_Join.calls _ _ _ _ _ G1.out).mono ?_
  rintro e w1 ⟨rfl, k1⟩
  have hb1 := below_then hb0 hb0.size k1
  clear hb0 k1
  go_wp2_with fail
  refine (surveyorlaw19_apply.calls _ _ _ _ _ _ G2.out).mono ?_
  rintro e w2 ⟨rfl, k2⟩
  have hb2 := below_then hb1 hb1.size k2
  clear hb1 k2
  go_wp2_with fail
  refine (surveyorlaw19_apply.calls _ _ _ _ _ _ G3.out).mono ?_
  rintro e w3 ⟨rfl, k3⟩
  have hb3 := below_then hb2 hb2.size k3
  clear hb2 k3
  go_wp2_with fail
  refine (surveyorlaw19_apply.calls _ _ _ _ _ _ G4.out).mono ?_
  rintro e w4 ⟨rfl, k4⟩
  have hb4 := below_then hb3 hb3.size k4
  clear hb3 k4
  go_wp2_with fail
  refine (sign_Join.calls _ _ _ _ _ G5.out).mono ?_
  rintro e w5 ⟨rfl, k5⟩
  have hb5 := below_then hb4 hb4.size k5
  clear hb4 k5
  go_wp2_with fail
  refine (sign_Leq.calls _ _ _ _ _ G6.out).mono ?_
  rintro e w6 ⟨rfl, k6⟩
  have hb6 := below_then hb5 hb5.size k6
  clear hb5 k6
  go_wp2_with fail
  refine (surveyorlaw19_awake.calls 130 true _ grows_awake).mono ?_
  rintro e w7 ⟨rfl, k7⟩
  have hb7 := below_then hb6 hb6.size k7
  clear hb6 k7
  go_wp2_with fail
  go_ret
  exact ⟨rfl, hb7⟩

/- The reading of an array of three bytes. -/
section
variable {H : Type} {enc : TypeId × Value → H} {P : Program} {w : World} {base : Nat} {spare : Nat → Bool} {held : Bool}
theorem okWide_array {r : Reach} {t e : TypeId} {n : Nat} {v : Value} (ht : P.underlying t = some (.array n e)) (h : Value.okWide P w r base t v) : ∃ cs, v = .agg cs ∧ cs.size = P.cellsOf t := by
  simp only [Value.okWide, ht] at h
  obtain ⟨cs, h1, h2, _⟩ := h
  exact ⟨cs, h1, h2⟩
theorem three {α : Type} {cs : Array α} (h : cs.size = 3) : ∃ c0 c1 c2, cs = #[c0, c1, c2] := by
  obtain ⟨l⟩ := cs
  match l, h with
  | [a, b, c], _ => exact ⟨a, b, c, rfl⟩
theorem open_u8x3 {r : Reach} {b0 : Nat} {t e : TypeId} {v : Value} {d : DataW H} {p : List MemPlace} (ht : P.underlying t = some (.array 3 e)) (he : P.underlying e = some (.int .u8)) (hce : P.cellsOf e = 1) (hC : P.cellsOf t = 3)
    (hv : Value.okWide P w r b0 t v) (h : DataW.Trod enc P w base spare held t v d p) :
    ∃ x0 x1 x2 : Int, v = .agg #[.int .u8 x0, .int .u8 x1, .int .u8 x2] ∧ (Lit.int .u8 x0).wf = true ∧ (Lit.int .u8 x1).wf = true ∧ (Lit.int .u8 x2).wf = true := by
  obtain ⟨cs, rfl, hsz⟩ := okWide_array ht hv
  obtain ⟨c0, c1, c2, rfl⟩ := three (hsz.trans hC)
  obtain ⟨fuel, hf⟩ := h
  obtain ⟨y0, y1, y2, n, _, h0, h1, h2⟩ := Go.ChangeShapes.trod_array3 ht hce hf
  obtain ⟨x0, e0, _, w0⟩ := DataW.trod_int he h0
  obtain ⟨x1, e1, _, w1⟩ := DataW.trod_int he h1
  obtain ⟨x2, e2, _, w2⟩ := DataW.trod_int he h2
  simp only [List.cons.injEq, and_true] at e0 e1 e2
  subst e0 e1 e2
  exact ⟨x0, x1, x2, rfl, w0, w1, w2⟩
end
end Go.Proofs.Ytlefniheafefgaa
