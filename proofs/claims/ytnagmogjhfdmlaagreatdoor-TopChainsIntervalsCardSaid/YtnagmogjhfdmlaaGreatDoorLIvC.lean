/- interval.Check: the error of an interval, which is that of its form, its numbers, their order. -/
import Derived.Test.YtnagmogjhfdmlaaGreatDoorLPIvAx1
import Derived.Test.YtnagmogjhfdmlaaGreatDoorLBase
set_option linter.unusedVariables false
set_option linter.unusedSimpArgs false
namespace Go.Proofs.YtnagmogjhfdmlaaGreatDoor
open Go.RowKit Go.Shelf Go.Proofs.YtnagmogjhfdmlaaGreatDoorW.PrintWords
/-- The error of a bound that may be missing. -/
def numB (x : ByteArray) : Option Int := if x = ⟨#[]⟩ then some 0 else PIvA.interval_number.f x
/-- What interval.Check answers. -/
def interval_Check.f (e : Bool) (lo hi : ByteArray) : Option Int :=
  if e = true ∧ (lo ≠ ⟨#[]⟩ ∨ hi ≠ ⟨#[]⟩) then some 3 else (numB lo).bind fun a => if a ≠ 0 then some a else (numB hi).bind fun b => if b ≠ 0 then some b else
    if lo = ⟨#[]⟩ ∨ hi = ⟨#[]⟩ then some 0 else (PIvA.interval_order.f lo hi).bind fun o => some (if 0 < o then 14 else 0)
theorem str_nil {a : ByteArray} (h : a ≠ ⟨#[]⟩) : a.toList ≠ [] := fun q => by
  have e : a.toList = a.data.toList := by simp [ByteArray.toList_eq]
  exact h (bytes_ext (by rw [← e, q]))
set_option maxRecDepth 100000 in
set_option maxHeartbeats 4000000 in
theorem iv_check (e : Bool) (lo hi : ByteArray) (r a b o : Int) (w : World) (ha : numB lo = some a) (hb : a = 0 → numB hi = some b) (ho : a = 0 → b = 0 → lo ≠ ⟨#[]⟩ → hi ≠ ⟨#[]⟩ → PIvA.interval_order.f lo hi = some o) (hne : ¬ (e = true ∧ (lo ≠ ⟨#[]⟩ ∨ hi ≠ ⟨#[]⟩)))
    (hr : r = if a ≠ 0 then a else if b ≠ 0 then b else if lo = ⟨#[]⟩ ∨ hi = ⟨#[]⟩ then 0 else if 0 < o then 14 else 0) :
    Calls Tryz.prog 24 #[.agg #[.bool e, .string lo, .string hi]] w fun E w' => E = .returned (.int .i64 r) ∧ Below w.heap.size w w' := by
  have HN : Hid (∀ (x : ByteArray) (t : Int) (w : World), PIvA.interval_number.f x = some t → Calls Tryz.prog 25 #[.string x] w fun e w' => e = .returned (.int .i64 t) ∧ Below w.heap.size w w') := Lib.hid fun x t w h => PIvA.interval_number.calls x t w h
  have HO : Hid (∀ (x y : ByteArray) (t : Int) (w : World), PIvA.interval_order.f x y = some t → Calls Tryz.prog 26 #[.string x, .string y] w fun e w' => e = .returned (.int .i64 t) ∧ Below w.heap.size w w') := Lib.hid fun x y t w h => PIvA.interval_order.calls x y t w h
  have HL : Hid (numB lo = some a) := Lib.hid ha
  have HH : Hid (a = 0 → numB hi = some b) := Lib.hid hb
  have HOR : Hid (a = 0 → b = 0 → lo ≠ ⟨#[]⟩ → hi ≠ ⟨#[]⟩ → PIvA.interval_order.f lo hi = some o) := Lib.hid ho
  have HR := Lib.hid hr
  clear ha hb ho hr
  have hix0 := fun (f g : Value) (w' : World) => show (Instr.index 61 (.agg #[f, g]) (.int .i64 0)).run Tryz.prog w' = .ok f w' by
    simp [Instr.index, asIntOf, part, run_underlying Tryz.underlying61, go_sem, Tryz.isAgg26, Tryz.sizeOf26]
  have hix1 := fun (f g : Value) (w' : World) => show (Instr.index 61 (.agg #[f, g]) (.int .i64 1)).run Tryz.prog w' = .ok g w' by
    simp [Instr.index, asIntOf, part, run_underlying Tryz.underlying61, go_sem, Tryz.isAgg26, Tryz.sizeOf26]
  go_enter Tryz.func24, Tryz.ntmps24
  have hx0 : (w.alloc (.cells #[.bool e, .string lo, .string hi] 28)).heap[w.heap.size]? = some (.cells #[.bool e, .string lo, .string hi] 28) := World.alloc_heap_new w _
  have hB0 : Below w.heap.size w (w.alloc (.cells #[.bool e, .string lo, .string hi] 28)) := (Below.refl _ w).alloc (Nat.le_refl _) _
  have hsz : (w.alloc (.cells #[.bool e, .string lo, .string hi] 28)).heap.size = w.heap.size + 1 := by simp
  have HX := Lib.hid hx0
  have HB0 := Lib.hid hB0
  have HSZ := Lib.hid hsz
  clear hx0 hB0 hsz
  have hguard : (e = true ∧ (lo ≠ ⟨#[]⟩ ∨ hi ≠ ⟨#[]⟩)) = False := eq_false hne
  have hcell : Hid (∀ wr : World, Below (w.alloc (.cells #[.bool e, .string lo, .string hi] 28)).heap.size (w.alloc (.cells #[.bool e, .string lo, .string hi] 28)) wr → wr.cell? ⟨w.heap.size, 0, none⟩ = some (.bool e) ∧ wr.cell? ⟨w.heap.size, 1, none⟩ = some (.string lo) ∧ wr.cell? ⟨w.heap.size, 2, none⟩ = some (.string hi)) := Lib.hid fun wr hb => by
    have h := (hb.block w.heap.size (by rw [HSZ.out]; omega)).trans HX.out
    exact ⟨cellA h 0 _ rfl, cellA h 1 _ rfl, cellA h 2 _ rfl⟩
  have hend : Hid (∀ wr : World, Below (w.alloc (.cells #[.bool e, .string lo, .string hi] 28)).heap.size (w.alloc (.cells #[.bool e, .string lo, .string hi] 28)) wr → Below w.heap.size w wr) := Lib.hid fun wr hb => HB0.out.trans (hb.mono (by rw [HSZ.out]; omega))
  have hlo : Hid ((lo = ⟨#[]⟩ ∧ lo.toList = [] ∧ a = 0) ∨ (lo ≠ ⟨#[]⟩ ∧ (lo.toList = []) = False ∧ lo.toList.isEmpty = false ∧ (lo.toList == []) = false ∧ (lo.toList != []) = true ∧ PIvA.interval_number.f lo = some a)) := Lib.hid (by
    have hL := HL.out
    unfold numB at hL
    by_cases h : lo = ⟨#[]⟩
    · rw [if_pos h] at hL
      exact .inl ⟨h, by rw [h, ByteArray.toList_eq], (Option.some.inj hL).symm⟩
    · have := str_nil h
      rw [if_neg h] at hL
      exact .inr ⟨h, eq_false this, by simpa using this, by simpa using this, by simpa using this, hL⟩)
  have hhi : Hid ((hi = ⟨#[]⟩ ∧ hi.toList = [] ∧ (a = 0 → b = 0)) ∨ (hi ≠ ⟨#[]⟩ ∧ (hi.toList = []) = False ∧ hi.toList.isEmpty = false ∧ (hi.toList == []) = false ∧ (hi.toList != []) = true ∧ (a = 0 → PIvA.interval_number.f hi = some b))) := Lib.hid (by
    have hL := HH.out
    unfold numB at hL
    by_cases h : hi = ⟨#[]⟩
    · rw [if_pos h] at hL
      exact .inl ⟨h, by rw [h, ByteArray.toList_eq], fun q => (Option.some.inj (hL q)).symm⟩
    · have := str_nil h
      rw [if_neg h] at hL
      exact .inr ⟨h, eq_false this, by simpa using this, by simpa using this, by simpa using this, hL⟩)
  have hem : e = true → lo.toList = [] ∧ hi.toList = [] := fun he => by
    rcases hlo.out with ⟨_, h, _⟩ | ⟨h, _⟩
    · rcases hhi.out with ⟨_, k, _⟩ | ⟨k, _⟩
      · exact ⟨h, k⟩
      · exact absurd ⟨he, .inr k⟩ hne
    · exact absurd ⟨he, .inl h⟩ hne
  clear hne hguard HL HH
  have HEM := Lib.hid hem
  clear hem HX HB0 HSZ
  cases e
  all_goals (
    try (have l1 := (HEM.out rfl).1; have m1 := (HEM.out rfl).2)
    go_wp2
    try clear l1 m1
    clear HEM
    generalize hW0 : w.alloc _ = W0 at *
    clear hW0
    go_loopw [23] (fun iv wr => ∃ k : Nat, k ≤ 2 ∧ iv = .int .i64 k ∧ Hid (1 ≤ k → a = 0) ∧ Hid (2 ≤ k → b = 0) ∧ Hid (Below W0.heap.size W0 wr)) (fun i _ => 2 - (intOf i).toNat)
    case atStart => exact ⟨0, by omega, rfl, Lib.hid (by omega), Lib.hid (by omega), Lib.hid (Below.refl _ _)⟩
    case round =>
      obtain ⟨k, hk, rfl, HA0, HB0, HBr⟩ := hrel
      by_cases h0 : k = 0
      · subst h0
        rcases hlo.out with ⟨hl, l1, l2⟩ | ⟨hl, l1, l2, l3, l4, l5⟩
        · go_wp2
          exact ⟨⟨1, by omega, rfl, Lib.hid (fun _ => l2), Lib.hid (by omega), HBr⟩, by simp [intOf]⟩
        · by_cases hz : a = 0
          · subst hz
            go_wp2_with (go_at_call 25; refine (HN.out _ _ _ l5).mono ?_; rintro e w1 ⟨rfl, hB1⟩; have HB1 := Lib.hid hB1; clear hB1)
            exact ⟨⟨1, by omega, rfl, Lib.hid (by intros; first | rfl | trivial), Lib.hid (by omega), Lib.hid (HBr.out.trans (HB1.out.mono HBr.out.size))⟩, by simp [intOf]⟩
          · have hz1 : (a != 0) = true := by simpa using hz
            have hz2 : (a == 0) = false := by simpa using hz
            go_wp2_with (go_at_call 25; refine (HN.out _ _ _ l5).mono ?_; rintro e w1 ⟨rfl, hB1⟩; have HB1 := Lib.hid hB1; clear hB1)
            go_ret
            exact ⟨by rw [HR.out, if_pos hz]; rfl, hend.out _ (HBr.out.trans (HB1.out.mono HBr.out.size))⟩
      · by_cases h1 : k = 1
        · subst h1
          have ha0 := HA0.out (by omega)
          subst ha0
          rcases hhi.out with ⟨hl, l1, l2⟩ | ⟨hl, l1, l2, l3, l4, l5⟩
          · go_wp2
            exact ⟨⟨2, by omega, rfl, Lib.hid (by intros; first | rfl | trivial), Lib.hid (fun _ => l2 rfl), HBr⟩, by simp [intOf]⟩
          · have l6 := l5 rfl
            by_cases hz : b = 0
            · subst hz
              go_wp2_with (go_at_call 25; refine (HN.out _ _ _ l6).mono ?_; rintro e w1 ⟨rfl, hB1⟩; have HB1 := Lib.hid hB1; clear hB1)
              exact ⟨⟨2, by omega, rfl, Lib.hid (by intros; first | rfl | trivial), Lib.hid (by intros; first | rfl | trivial), Lib.hid (HBr.out.trans (HB1.out.mono HBr.out.size))⟩, by simp [intOf]⟩
            · have hz1 : (b != 0) = true := by simpa using hz
              have hz2 : (b == 0) = false := by simpa using hz
              go_wp2_with (go_at_call 25; refine (HN.out _ _ _ l6).mono ?_; rintro e w1 ⟨rfl, hB1⟩; have HB1 := Lib.hid hB1; clear hB1)
              go_ret
              exact ⟨by rw [HR.out, if_neg (by simp), if_pos hz]; rfl, hend.out _ (HBr.out.trans (HB1.out.mono HBr.out.size))⟩
        · obtain rfl : k = 2 := by omega
          have ha0 := HA0.out (by omega)
          have hb0 := HB0.out (by omega)
          subst ha0 hb0
          obtain ⟨c0, c1, c2⟩ := hcell.out _ HBr.out
          have hr' := HR.out
          rw [if_neg (by simp), if_neg (by simp)] at hr'
          rcases hlo.out with ⟨hl, l1, l2⟩ | ⟨hl, l1, l2, l3, l4, l5⟩
          · rw [if_pos (.inl hl)] at hr'
            subst hr'
            go_wp2
            go_ret
            exact ⟨rfl, hend.out _ HBr.out⟩
          · rcases hhi.out with ⟨ml, m1, m2⟩ | ⟨ml, m1, m2, m3, m4, m5⟩
            · rw [if_pos (.inr ml)] at hr'
              subst hr'
              go_wp2
              go_ret
              exact ⟨rfl, hend.out _ HBr.out⟩
            · rw [if_neg (fun q => by rcases q with q | q <;> contradiction)] at hr'
              have ho := HOR.out rfl rfl hl ml
              by_cases hp : 0 < o
              · rw [if_pos hp] at hr'
                subst hr'
                have p1 : decide (0 < o) = true := decide_eq_true hp
                go_wp2_with (go_at_call 26; refine (HO.out _ _ _ _ ho).mono ?_; rintro e w1 ⟨rfl, hB1⟩; have HB1 := Lib.hid hB1; clear hB1)
                go_ret
                exact ⟨rfl, hend.out _ (HBr.out.trans (HB1.out.mono HBr.out.size))⟩
              · rw [if_neg hp] at hr'
                subst hr'
                have p1 : decide (0 < o) = false := decide_eq_false hp
                go_wp2_with (go_at_call 26; refine (HO.out _ _ _ _ ho).mono ?_; rintro e w1 ⟨rfl, hB1⟩; have HB1 := Lib.hid hB1; clear hB1)
                go_ret
                exact ⟨rfl, hend.out _ (HBr.out.trans (HB1.out.mono HBr.out.size))⟩)
set_option maxRecDepth 100000 in
set_option maxHeartbeats 4000000 in
theorem iv_check_form (e : Bool) (lo hi : ByteArray) (w : World) (h : e = true ∧ (lo ≠ ⟨#[]⟩ ∨ hi ≠ ⟨#[]⟩)) :
    Calls Tryz.prog 24 #[.agg #[.bool e, .string lo, .string hi]] w fun E w' => E = .returned (.int .i64 3) ∧ Below w.heap.size w w' := by
  obtain ⟨rfl, h⟩ := h
  have HB0 : Below w.heap.size w (w.alloc (.cells #[.bool true, .string lo, .string hi] 28)) := (Below.refl _ w).alloc (Nat.le_refl _) _
  by_cases hl : lo = ⟨#[]⟩
  · have m := str_nil (h.resolve_left (fun q => q hl))
    have l1 : lo.toList = [] := by rw [hl, ByteArray.toList_eq]
    have m1 : (hi.toList = []) = False := eq_false m
    have m2 : hi.toList.isEmpty = false := by simpa using m
    clear h hl m
    go_enter Tryz.func24, Tryz.ntmps24
    go_wp2
    go_ret
    exact ⟨rfl, HB0⟩
  · have l := str_nil hl
    have l1 : (lo.toList = []) = False := eq_false l
    have l2 : lo.toList.isEmpty = false := by simpa using l
    clear h hl l
    go_enter Tryz.func24, Tryz.ntmps24
    go_wp2
    go_ret
    exact ⟨rfl, HB0⟩
theorem interval_Check.calls (e : Bool) (lo hi : ByteArray) (r : Int) (w : World) (h : interval_Check.f e lo hi = some r) :
    Calls Tryz.prog 24 #[.agg #[.bool e, .string lo, .string hi]] w fun E w' => E = .returned (.int .i64 r) ∧ Below w.heap.size w w' := by
  unfold interval_Check.f at h
  by_cases h0 : e = true ∧ (lo ≠ ⟨#[]⟩ ∨ hi ≠ ⟨#[]⟩)
  · rw [if_pos h0] at h
    cases h
    exact iv_check_form e lo hi w h0
  · rw [if_neg h0] at h
    obtain ⟨a, ha, h⟩ := Option.bind_eq_some_iff.mp h
    by_cases a0 : a ≠ 0
    · rw [if_pos a0] at h
      obtain rfl := Option.some.inj h
      exact iv_check e lo hi a a 0 0 w ha (fun q => absurd q a0) (fun q => absurd q a0) h0 (if_pos a0).symm
    · rw [if_neg a0] at h
      obtain ⟨b, hb, h⟩ := Option.bind_eq_some_iff.mp h
      by_cases b0 : b ≠ 0
      · rw [if_pos b0] at h
        obtain rfl := Option.some.inj h
        exact iv_check e lo hi b a b 0 w ha (fun _ => hb) (fun _ q => absurd q b0) h0 (by rw [if_neg a0, if_pos b0])
      · rw [if_neg b0] at h
        by_cases c0 : lo = ⟨#[]⟩ ∨ hi = ⟨#[]⟩
        · rw [if_pos c0] at h
          cases h
          exact iv_check e lo hi 0 a b 0 w ha (fun _ => hb) (fun _ _ q1 q2 => absurd c0 (fun q => q.elim q1 q2)) h0 (by rw [if_neg a0, if_neg b0, if_pos c0])
        · rw [if_neg c0] at h
          obtain ⟨o, ho, h⟩ := Option.bind_eq_some_iff.mp h
          cases h
          exact iv_check e lo hi _ a b o w ha (fun _ => hb) (fun _ _ _ _ => ho) h0 (by rw [if_neg a0, if_neg b0, if_neg c0])
end Go.Proofs.YtnagmogjhfdmlaaGreatDoor
