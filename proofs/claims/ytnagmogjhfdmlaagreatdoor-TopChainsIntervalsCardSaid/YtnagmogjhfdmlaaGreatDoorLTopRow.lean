/- Arguments that are slices of strings, or of structs of a bool and two strings: opened, sized. -/
import Derived.Lib.SmallJoins
import Derived.RowKit
import Derived.ChangeOld
import Derived.SizedLaws
import Derived.ShutString
import Derived.Deep.Strs
import Derived.Test.YtnagmogjhfdmlaaGreatDoorLPTopChainsIntervalsx0
set_option linter.unusedVariables false
set_option maxRecDepth 100000
namespace Go.Proofs.YtnagmogjhfdmlaaGreatDoor
open Go.ChangeShapes Go.WideShapes Go.ChangeAt Go.RowKit Go.Joins Go.Deep
open Go.ChangeMaps (open_string shut_string)
open Go.Proofs.YtnagmogjhfdmlaaGreatDoorW.PrintWords Go.Proofs.YtnagmogjhfdmlaaGreatDoorW.PrintLast Go.Proofs.YtnagmogjhfdmlaaGreatDoor.PTopChainsIntervals
section
variable {H : Type} {enc : TypeId × Value → H} {W : World} {base : Nat} {sp : Nat → Bool} {held : Bool}
def ivD {H : Type} (e : Bool) (m r : ByteArray) : DataW H := .agg [.lit (.bool e), .lit (.string m.data.toList), .lit (.string r.data.toList)]
theorem cellsV : Tryz.prog.cellsOf 28 = 3 := by kernel_rfl
theorem cellsI : Tryz.prog.cellsOf 26 = 1 := by kernel_rfl
theorem cellsB : Tryz.prog.cellsOf 4 = 1 := by kernel_rfl
theorem trod_iv {fuel : Nat} {c0 c1 c2 : Value} {y : DataW H × List MemPlace} (h : DataW.trod enc Tryz.prog W base sp held fuel 28 [c0, c1, c2] = some y) :
    ∃ (e : Bool) (m q : ByteArray), c0 = .bool e ∧ c1 = .string m ∧ c2 = .string q ∧ y = (ivD e m q, []) := by
  obtain ⟨y0, y1, y2, n, hx, _, h0, h1, h2⟩ := trod_struct3 Tryz.underlying28 h
  have g0 : DataW.trod enc Tryz.prog W base sp held n 4 [c0] = some y0 := by simpa [cellsI, cellsB] using h0
  have g1 : DataW.trod enc Tryz.prog W base sp held n 26 [c1] = some y1 := by simpa [cellsI, cellsB] using h1
  have g2 : DataW.trod enc Tryz.prog W base sp held n 26 [c2] = some y2 := by simpa [cellsI, cellsB] using h2
  obtain ⟨b, e0, x0⟩ := DataW.trod_bool Tryz.underlying4 g0
  obtain ⟨s1, e1, x1, z1⟩ := DataW.trod_string Tryz.underlying26 g1
  obtain ⟨s2, e2, x2, z2⟩ := DataW.trod_string Tryz.underlying26 g2
  simp only [List.cons.injEq, and_true] at e0 e1 e2
  subst x0; subst x1; subst x2
  exact ⟨b, s1, s2, e0, e1, e2, hx⟩
theorem weights_all {t : TypeId} : ∀ {ds : List (DataW H)} {d : DataW H}, d ∈ ds → ∀ n ∈ d.weights Tryz.prog t, n ∈ DataW.weightsAll Tryz.prog t ds
  | [], _, hd, _, _ => by cases hd
  | x :: r, d, hd, n, hn => by
    rw [DataW.weightsAll, List.mem_append]
    rcases List.mem_cons.1 hd with rfl | hd
    · exact .inl hn
    · exact .inr (weights_all hd n hn)
theorem sized_elem {ts : List TypeId} {ds : List (DataW H)} (h : (DataW.weightsEach Tryz.prog ts ds).all (· ≤ reachBytes) = true) {j : Nat} {t e : TypeId} {elems spare : List (DataW H)} (ht : ts[j]? = some t) (hd : ds[j]? = some (.slice elems spare)) (hu : Tryz.prog.underlying t = some (.slice e)) {d : DataW H} (hm : d ∈ elems) {n : Nat} (hn : n ∈ d.weights Tryz.prog e) : n ≤ 140737488351232 := by
  have := List.all_eq_true.1 h _ (DataW.weights_mem_each ht hd n (by
    simp only [DataW.weights, hu, List.mem_cons, List.mem_append]
    exact .inr (.inl (weights_all hm n hn))))
  exact of_decide_eq_true this
/-- A slice of intervals. -/
theorem open_ivs {ts : List TypeId} {ds : List (DataW H)} (hz : (DataW.weightsEach Tryz.prog ts ds).all (· ≤ reachBytes) = true) {j : Nat} {a : Option Addr} {len cap : Nat} {d : DataW H} {p : List MemPlace} (ht : ts[j]? = some 22) (hd : ds[j]? = some d) (h : DataW.Trod enc Tryz.prog W base sp held 22 (.slice a len cap) d p) :
    ∃ l : List S28, l.length = len ∧ Kd.C k28 W a l.length l ∧ l.length ≤ cap ∧ ∀ s ∈ l, s.f1.size ≤ 140737488351232 ∧ s.f2.size ≤ 140737488351232 := by
  obtain ⟨fuel, hf⟩ := h
  rcases open_slice Tryz.underlying22 hf with ⟨hcs, _⟩ | ⟨x, l, c, m, n, D, Pl, hcs, hb, hl, hm, hmm, hx, hc⟩
  · simp [Value.cells] at hcs
    obtain ⟨rfl, rfl, rfl⟩ := hcs
    exact ⟨[], rfl, ⟨rfl, by simp, fun h => by simp at h⟩, by simp, fun s hs => by cases hs⟩
  · simp [Value.cells] at hcs
    obtain ⟨rfl, rfl, rfl⟩ := hcs
    have hlm : len ≤ m := by rw [hmm]; split <;> omega
    have each : ∀ i, i < len → ∃ s : S28, (∀ k u, [Value.bool s.f0, .string s.f1, .string s.f2][k]? = some u → W.cell? (x.add (i * 3 + k)) = some u) ∧ D i = ivD s.f0 s.f1 s.f2 := fun i hi => by
      obtain ⟨cs, h1, h2⟩ := hc i (by omega)
      rw [cellsV] at h1
      obtain ⟨e1, e2⟩ := World.cells?_some h1
      obtain ⟨c0, c1, c2, rfl⟩ : ∃ c0 c1 c2, cs = [c0, c1, c2] := by
        match cs, e2.1 with
        | [c0, c1, c2], _ => exact ⟨c0, c1, c2, rfl⟩
      obtain ⟨e, m', q', rfl, rfl, rfl, hy⟩ := trod_iv h2
      refine ⟨⟨e, m', q'⟩, fun k u hk => ?_, congrArg Prod.fst hy⟩
      have hk3 : k < 3 := (List.getElem?_eq_some_iff.1 hk).1
      have e3 := e2.2 k hk3
      rw [Go.Deep.add_add] at e3
      rw [e3]
      exact hk
    haveI : Inhabited S28 := ⟨z28⟩
    obtain ⟨S, hS⟩ := choose_lt each
    refine ⟨(List.range len).map S, by simp, ⟨by simp, by simp; unfold maxLen at hm; omega, fun _ => ⟨x, rfl, fun j p hj => ?_⟩⟩, by simpa using hl, fun s hs => ?_⟩
    · have hj' : j < len := by simpa using (List.getElem?_eq_some_iff.1 hj).1
      rw [List.getElem?_map, List.getElem?_range hj'] at hj
      obtain rfl := Option.some.inj hj
      exact ⟨_, rfl, k28_mk W _, (hS j hj').1⟩
    · obtain ⟨i, hi, rfl⟩ := List.mem_map.1 hs
      have hi' := List.mem_range.1 hi
      obtain ⟨rfl, rfl⟩ : d = _ ∧ p = _ := ⟨congrArg Prod.fst hx, congrArg Prod.snd hx⟩
      have hmem : D i ∈ (List.range len).map D := List.mem_map.2 ⟨i, hi, rfl⟩
      have hw : (S i).f1.data.toList.length ∈ (D i).weights Tryz.prog 28 ∧ (S i).f2.data.toList.length ∈ (D i).weights Tryz.prog 28 := by
        rw [(hS i hi').2]
        unfold ivD
        simp only [DataW.weights, Tryz.underlying28, List.map_cons, List.map_nil, DataW.weightsEach]
        constructor <;> simp
      have a1 := sized_elem hz ht hd Tryz.underlying22 hmem hw.1
      have a2 := sized_elem hz ht hd Tryz.underlying22 hmem hw.2
      rw [Array.length_toList] at a1 a2
      exact ⟨a1, a2⟩
/-- A slice of strings. -/
theorem open_strl {ts : List TypeId} {ds : List (DataW H)} (hz : (DataW.weightsEach Tryz.prog ts ds).all (· ≤ reachBytes) = true) {j : Nat} {a : Option Addr} {len cap : Nat} {d : DataW H} {p : List MemPlace} (ht : ts[j]? = some 23) (hd : ds[j]? = some d) (h : DataW.Trod enc Tryz.prog W base sp held 23 (.slice a len cap) d p) :
    ∃ l : List ByteArray, l.length = len ∧ Kd.C Kd.string W a l.length l ∧ l.length ≤ cap ∧ ∀ s ∈ l, s.size ≤ 140737488351232 := by
  obtain ⟨fuel, hf⟩ := h
  rcases open_strs Tryz.underlying23 Tryz.underlying26 cellsI hf with ⟨hcs, _⟩ | ⟨x, l, c, m, S, hcs, hb, hl, hm, hmm, hx, hc⟩
  · simp [Value.cells] at hcs
    obtain ⟨rfl, rfl, rfl⟩ := hcs
    exact ⟨[], rfl, ⟨rfl, by simp, fun h => by simp at h⟩, by simp, fun s hs => by cases hs⟩
  · simp [Value.cells] at hcs
    obtain ⟨rfl, rfl, rfl⟩ := hcs
    have hlm : len ≤ m := by rw [hmm]; split <;> omega
    refine ⟨(List.range len).map S, by simp, ⟨by simp, by simp; unfold maxLen at hm; omega, fun _ => ⟨x, rfl, fun j p hj => ?_⟩⟩, by simpa using hl, fun s hs => ?_⟩
    · have hj' : j < len := by simpa using (List.getElem?_eq_some_iff.1 hj).1
      rw [List.getElem?_map, List.getElem?_range hj'] at hj
      obtain rfl := Option.some.inj hj
      refine ⟨[.string (S j)], rfl, rfl, fun i u hu => ?_⟩
      obtain rfl : i = 0 := by have := (List.getElem?_eq_some_iff.1 hu).1; simpa using this
      obtain rfl : .string (S j) = u := by simpa using hu
      exact (show W.cell? (x.add (j * 1 + 0)) = _ by rw [Nat.mul_one, Nat.add_zero]; exact (hc j (by omega)).1)
    · obtain ⟨i, hi, rfl⟩ := List.mem_map.1 hs
      obtain ⟨rfl, rfl⟩ : d = _ ∧ p = _ := ⟨congrArg Prod.fst hx, congrArg Prod.snd hx⟩
      have a1 := sized_elem hz ht hd Tryz.underlying23 (d := .lit (.string (S i).data.toList)) (List.mem_map.2 ⟨i, hi, rfl⟩) (n := (S i).data.toList.length) (by simp [DataW.weights])
      rw [Array.length_toList] at a1
      exact a1
end
end Go.Proofs.YtnagmogjhfdmlaaGreatDoor
