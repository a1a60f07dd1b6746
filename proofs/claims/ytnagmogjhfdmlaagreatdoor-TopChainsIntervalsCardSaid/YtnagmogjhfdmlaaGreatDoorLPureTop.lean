/- TopChainsIntervals: the plain law. -/
import Derived.Test.YtnagmogjhfdmlaaGreatDoorLPureTopA
set_option linter.unusedVariables false
set_option linter.unusedSimpArgs false
namespace Go.Proofs.YtnagmogjhfdmlaaGreatDoor.Pure
open Go.RowKit Go.Proofs.YtnagmogjhfdmlaaGreatDoor.PTopChainsIntervals Go.Proofs.YtnagmogjhfdmlaaGreatDoorW.PrintWords Go.Proofs.YtnagmogjhfdmlaaGreatDoorW.PrintLast
/-- Beyond all numbers of 100 digits. -/
def MM : Int := 10 ^ 100
theorem MM_pos : 0 < MM := by unfold MM; exact Int.pow_pos (by omega)
theorem bd_MM {x : Int} : Bd 100 x ↔ -MM < x ∧ x < MM := by
  unfold Bd MM
  have e : ((10 ^ 100 : Nat) : Int) = (10 : Int) ^ 100 := by rw [Int.natCast_pow]; rfl
  rw [← e]
  generalize (10 ^ 100 : Nat) = m
  omega
theorem le_of_text_size {x : Int} (h : digN (text x) ≤ 100) : Bd 100 x := by
  rw [digN_text] at h
  exact lt_of_digits _ _ h
/-- A number's text. -/
def tI (z : Int) : ByteArray := if z ≤ -MM ∨ MM ≤ z then ⟨#[]⟩ else text z
/-- A bound of a span. -/
def eB (z : Int) : Int × ByteArray := if z ≤ -MM then (-1, ⟨#[]⟩) else if MM ≤ z then (1, ⟨#[]⟩) else (0, text z)
/-- An interval. -/
def eI (p : Int × Int) : Bool × ByteArray × ByteArray := if p.2 < p.1 then (true, ⟨#[]⟩, ⟨#[]⟩) else (false, tI p.1, tI p.2)
/-- A right pair. -/
def VI (p : Int × Int) : Prop := (p.1 = MM ∧ p.2 = -MM) ∨ (-MM ≤ p.1 ∧ p.1 < MM ∧ -MM < p.2 ∧ p.2 ≤ MM ∧ p.1 ≤ p.2)
/-- A right bound. -/
def RB (z : Int) : Prop := -MM ≤ z ∧ z ≤ MM
theorem VI.rb {p : Int × Int} (h : VI p) : RB p.1 ∧ RB p.2 := by
  have := MM_pos
  unfold RB
  rcases h with ⟨h1, h2⟩ | h <;> omega
theorem eB_in {z : Int} (h1 : -MM < z) (h2 : z < MM) : eB z = (0, text z) := by unfold eB; rw [if_neg (by omega), if_neg (by omega)]
theorem text_ne (z : Int) : text z ≠ (⟨#[]⟩ : ByteArray) := fun h => by
  have h1 : (text z).data.toList = [] := by rw [h]
  rw [text_list] at h1
  unfold Lib.itoa at h1
  split at h1
  · cases h1
  · exact decDigits_ne_nil _ h1
theorem nil_iff (a : ByteArray) : a.toList = ([] : List UInt8) ↔ a = ⟨#[]⟩ := by
  rw [toList_data]
  constructor
  · intro h; exact bytes_ext (by rw [h])
  · intro h; rw [h]
theorem finite_val (a : ByteArray) : interval_finite.f a = some (0, a) := rfl
theorem digits_val {x : Int} (h : Bd 100 x) : ∃ d, interval_digits.f (text x) = some d ∧ ¬ d > 100 := by
  have hs := size_text h (by omega)
  obtain ⟨s, h1, h2, h3⟩ := text_split x
  have hd := digits_le h (by omega)
  have hz := Lib.size_eq (text x)
  rw [h1, List.length_append] at hz
  have hp : 0 < (text x).size := by
    have := List.length_pos_iff.2 (decDigits_ne_nil x.natAbs)
    omega
  unfold interval_digits.f
  rw [if_pos (by omega), if_pos (by omega)]
  rcases h2 with rfl | rfl
  · split
    · exact ⟨_, rfl, by unfold wrap64; omega⟩
    · exact ⟨_, rfl, by simp only [List.length_nil] at hz; omega⟩
  · have hb := bt_get (text x) 0 45 (by rw [h1]; rfl)
    rw [show ((0 : Nat) : Int) = 0 from rfl] at hb
    rw [hb, if_pos (by decide)]
    exact ⟨_, rfl, by simp only [List.length_cons, List.length_nil] at hz; unfold wrap64; omega⟩
theorem number_val {x : Int} (h : Bd 100 x) : interval_number.f (text x) = some 0 := by
  obtain ⟨d, h1, h2⟩ := digits_val h
  have hs := size_text h (by omega)
  unfold interval_number.f bigint_Check.f
  rw [if_pos (by omega), chk_text h (by omega) (by omega), Option.bind_some, if_pos rfl, h1, Option.bind_some, if_neg h2]
theorem order_val {x y : Int} (hx : Bd 100 x) (hy : Bd 100 y) : interval_order.f (text x) (text y) = some (sgnI (x - y)) := by
  unfold interval_order.f
  rw [compare_at 100 hx hy (by omega) (by omega)]
  rfl
theorem sgnI_cases (z : Int) : (z < 0 ∧ sgnI z = -1) ∨ (z = 0 ∧ sgnI z = 0) ∨ (0 < z ∧ sgnI z = 1) := by
  unfold sgnI
  by_cases h : z < 0
  · exact .inl ⟨h, if_pos h⟩
  · by_cases h0 : z = 0
    · exact .inr (.inl ⟨h0, by rw [if_neg h, if_pos h0]⟩)
    · exact .inr (.inr ⟨by omega, by rw [if_neg h, if_neg h0]⟩)
theorem compare_val {x y : Int} (hx : RB x) (hy : RB y) : ∃ c, interval_compare.f (eB x).1 (eB x).2 (eB y).1 (eB y).2 = some c ∧ (c < 0 ↔ x < y) ∧ (c = 0 ↔ x = y) := by
  have hM := MM_pos
  unfold RB at hx hy
  unfold interval_compare.f eB
  have w1 : ∀ a b : Int, -1 ≤ a → a ≤ 1 → -1 ≤ b → b ≤ 1 → wrap64 (a - b) = a - b := fun a b h1 h2 h3 h4 => by unfold wrap64; omega
  by_cases x1 : x ≤ -MM
  · rw [if_pos x1, if_neg (show ¬ ((-1 : Int)) = 0 by omega)]
    refine ⟨_, rfl, ?_⟩
    by_cases y1 : y ≤ -MM
    · rw [if_pos y1, w1 _ _ (by omega) (by omega) (by omega) (by omega)]; dsimp only; omega
    · rw [if_neg y1]
      by_cases y2 : MM ≤ y
      · rw [if_pos y2, w1 _ _ (by omega) (by omega) (by omega) (by omega)]; dsimp only; omega
      · rw [if_neg y2, w1 _ _ (by omega) (by omega) (by omega) (by omega)]; dsimp only; omega
  · rw [if_neg x1]
    by_cases x2 : MM ≤ x
    · rw [if_pos x2, if_neg (show ¬ ((1 : Int)) = 0 by omega)]
      refine ⟨_, rfl, ?_⟩
      by_cases y1 : y ≤ -MM
      · rw [if_pos y1, w1 _ _ (by omega) (by omega) (by omega) (by omega)]; dsimp only; omega
      · rw [if_neg y1]
        by_cases y2 : MM ≤ y
        · rw [if_pos y2, w1 _ _ (by omega) (by omega) (by omega) (by omega)]; dsimp only; omega
        · rw [if_neg y2, w1 _ _ (by omega) (by omega) (by omega) (by omega)]; dsimp only; omega
    · rw [if_neg x2, if_pos rfl]
      by_cases y1 : y ≤ -MM
      · rw [if_pos y1, if_neg (show ¬ ((-1 : Int)) = 0 by omega), w1 _ _ (by omega) (by omega) (by omega) (by omega)]
        exact ⟨_, rfl, by dsimp only; omega⟩
      · rw [if_neg y1]
        by_cases y2 : MM ≤ y
        · rw [if_pos y2, if_neg (show ¬ ((1 : Int)) = 0 by omega), w1 _ _ (by omega) (by omega) (by omega) (by omega)]
          exact ⟨_, rfl, by dsimp only; omega⟩
        · rw [if_neg y2, if_pos rfl, order_val (bd_MM.2 (by omega)) (bd_MM.2 (by omega)), Option.bind_some]
          refine ⟨_, rfl, ?_⟩
          have := sgnI_cases (x - y)
          omega
theorem empty_val {x y : Int} (hx : RB x) (hy : RB y) : interval_span_empty.f (eB x).1 (eB x).2 (eB y).1 (eB y).2 = some (decide (y < x)) := by
  obtain ⟨c, h1, h2, h3⟩ := compare_val hx hy
  unfold interval_span_empty.f
  rw [h1, Option.bind_some]
  congr 1
  rw [decide_eq_decide]
  omega
theorem least_val {x y : Int} (hx : RB x) (hy : RB y) : interval_least.f (eB x).1 (eB x).2 (eB y).1 (eB y).2 = some (eB (if y < x then y else x)) := by
  obtain ⟨c, h1, h2, h3⟩ := compare_val hy hx
  unfold interval_least.f
  rw [h1, Option.bind_some]
  by_cases h : y < x
  · rw [if_pos (h2.2 h), if_pos h]
  · rw [if_neg (fun q => h (h2.1 q)), if_neg h]
theorem most_val {x y : Int} (hx : RB x) (hy : RB y) : interval_most.f (eB x).1 (eB x).2 (eB y).1 (eB y).2 = some (eB (if x < y then y else x)) := by
  obtain ⟨c, h1, h2, h3⟩ := compare_val hy hx
  unfold interval_most.f
  rw [h1, Option.bind_some]
  by_cases h : x < y
  · rw [if_pos (show c > 0 by omega), if_pos h]
  · rw [if_neg (show ¬ c > 0 by omega), if_neg h]
theorem rb_min {x y : Int} (hx : RB x) (hy : RB y) : RB (if y < x then y else x) := by split <;> assumption
theorem rb_max {x y : Int} (hx : RB x) (hy : RB y) : RB (if x < y then y else x) := by split <;> assumption
/-- The hull of two spans. -/
def hullP (p q : Int × Int) : Int × Int := if p.2 < p.1 then q else if q.2 < q.1 then p else (if q.1 < p.1 then q.1 else p.1, if p.2 < q.2 then q.2 else p.2)
/-- A span's four fields. -/
def eS (p : Int × Int) : Int × ByteArray × Int × ByteArray := ((eB p.1).1, (eB p.1).2, (eB p.2).1, (eB p.2).2)
theorem hull_val {p q : Int × Int} (hp : RB p.1 ∧ RB p.2) (hq : RB q.1 ∧ RB q.2) : interval_span_hull.f (eB p.1).1 (eB p.1).2 (eB p.2).1 (eB p.2).2 (eB q.1).1 (eB q.1).2 (eB q.2).1 (eB q.2).2 = some (eS (hullP p q)) := by
  unfold interval_span_hull.f hullP
  rw [empty_val hp.1 hp.2, Option.bind_some]
  by_cases h : p.2 < p.1
  · rw [if_pos (decide_eq_true h), if_pos h]; rfl
  · rw [if_neg (by simpa using h), if_neg h, empty_val hq.1 hq.2, Option.bind_some]
    by_cases h2 : q.2 < q.1
    · rw [if_pos (decide_eq_true h2), if_pos h2]; rfl
    · rw [if_neg (by simpa using h2), if_neg h2, least_val hp.1 hq.1, Option.bind_some, most_val hp.2 hq.2, Option.bind_some]; rfl
theorem hull_rb {p q : Int × Int} (hp : RB p.1 ∧ RB p.2) (hq : RB q.1 ∧ RB q.2) : RB (hullP p q).1 ∧ RB (hullP p q).2 := by
  unfold hullP
  split
  · exact hq
  · split
    · exact hp
    · exact ⟨rb_min hp.1 hq.1, rb_max hp.2 hq.2⟩
theorem itext_val {z : Int} (hz : RB z) : interval_text.f (eB z).1 (eB z).2 = some (tI z) := by
  unfold interval_text.f eB tI
  unfold RB at hz
  by_cases h1 : z ≤ -MM
  · rw [if_pos h1, if_neg (by simp), if_pos (.inl h1)]
  · rw [if_neg h1]
    by_cases h2 : MM ≤ z
    · rw [if_pos h2, if_neg (by simp), if_pos (.inr h2)]
    · obtain ⟨d, h3, h4⟩ := digits_val (bd_MM.2 (show -MM < z ∧ z < MM by omega))
      rw [if_neg h2, if_pos rfl, if_neg (by omega), h3, Option.bind_some, if_neg h4]
theorem interval_val {p : Int × Int} (hp : RB p.1 ∧ RB p.2) : interval_span_interval.f (eB p.1).1 (eB p.1).2 (eB p.2).1 (eB p.2).2 = some (eI p) := by
  unfold interval_span_interval.f eI
  rw [empty_val hp.1 hp.2, Option.bind_some]
  by_cases h : p.2 < p.1
  · rw [if_pos (decide_eq_true h), if_pos h]
  · rw [if_neg (by simpa using h), if_neg h, itext_val hp.1, Option.bind_some, itext_val hp.2, Option.bind_some]
theorem tI_nil {z : Int} : (tI z).toList = ([] : List UInt8) ↔ (z ≤ -MM ∨ MM ≤ z) := by
  rw [nil_iff]
  unfold tI
  split
  · rename_i h; exact ⟨fun _ => h, fun _ => rfl⟩
  · rename_i h; exact ⟨fun q => absurd q (text_ne z), fun q => absurd q h⟩
theorem of_val {p : Int × Int} (h : VI p) : interval_of.f (eI p).1 (eI p).2.1 (eI p).2.2 = some (eS p) := by
  have hM := MM_pos
  have hi : interval_infinite.f 1 = some (1, (⟨#[]⟩ : ByteArray)) := rfl
  have hj : interval_infinite.f (-1) = some (-1, (⟨#[]⟩ : ByteArray)) := rfl
  unfold interval_of.f eI
  rcases h with ⟨h1, h2⟩ | ⟨h1, h2, h3, h4, h5⟩
  · rw [if_pos (show p.2 < p.1 by omega), if_pos rfl]
    have e1 : eB p.1 = (1, (⟨#[]⟩ : ByteArray)) := by unfold eB; rw [if_neg (by omega), if_pos (by omega)]
    have e2 : eB p.2 = (-1, (⟨#[]⟩ : ByteArray)) := by unfold eB; rw [if_pos (by omega)]
    unfold eS interval_none.f
    rw [e1, e2, hi, Option.bind_some, hj]
    rfl
  · rw [if_neg (show ¬ p.2 < p.1 by omega)]
    dsimp only
    rw [if_neg (by simp), hi, hj, Option.bind_some, Option.bind_some]
    unfold eS
    by_cases a1 : p.1 = -MM
    · rw [if_pos (tI_nil.2 (by omega))]
      have e1 : eB p.1 = (-1, (⟨#[]⟩ : ByteArray)) := by unfold eB; rw [if_pos (by omega)]
      by_cases a2 : p.2 = MM
      · have e2 : eB p.2 = (1, (⟨#[]⟩ : ByteArray)) := by unfold eB; rw [if_neg (by omega), if_pos (by omega)]
        rw [if_pos (tI_nil.2 (by omega)), e1, e2]
      · have e2 : eB p.2 = (0, text p.2) := eB_in (by omega) (by omega)
        have e3 : tI p.2 = text p.2 := if_neg (by omega)
        rw [if_neg (fun q => by have := tI_nil.1 q; omega), e1, e2, e3]
        rfl
    · have e1 : eB p.1 = (0, text p.1) := eB_in (by omega) (by omega)
      have e3 : tI p.1 = text p.1 := if_neg (by omega)
      rw [if_neg (fun q => by have := tI_nil.1 q; omega), e1, e3, finite_val, Option.bind_some]
      by_cases a2 : p.2 = MM
      · have e2 : eB p.2 = (1, (⟨#[]⟩ : ByteArray)) := by unfold eB; rw [if_neg (by omega), if_pos (by omega)]
        rw [if_pos (tI_nil.2 (by omega)), e2]
      · have e2 : eB p.2 = (0, text p.2) := eB_in (by omega) (by omega)
        have e4 : tI p.2 = text p.2 := if_neg (by omega)
        rw [if_neg (fun q => by have := tI_nil.1 q; omega), e2, e4]
        rfl
theorem numB_tI {z : Int} : numB (tI z) = some 0 := by
  unfold numB tI
  by_cases h : z ≤ -MM ∨ MM ≤ z
  · rw [if_pos h, if_pos rfl]
  · rw [if_neg h, if_neg (text_ne z)]
    exact pnumber_val (bd_MM.2 (by omega))
theorem check_val {p : Int × Int} (h : VI p) : interval_Check.f (eI p).1 (eI p).2.1 (eI p).2.2 = some 0 := by
  have hM := MM_pos
  unfold interval_Check.f eI
  rcases h with ⟨h1, h2⟩ | ⟨h1, h2, h3, h4, h5⟩
  · rw [if_pos (show p.2 < p.1 by omega), if_neg (fun q => by rcases q.2 with q | q <;> exact absurd rfl q)]
    first | done | rfl
  · rw [if_neg (show ¬ p.2 < p.1 by omega)]
    dsimp only
    rw [if_neg (by simp), numB_tI, Option.bind_some, if_neg (by simp), numB_tI, Option.bind_some, if_neg (by simp)]
    by_cases a1 : p.1 = -MM
    · rw [if_pos (.inl (if_pos (by omega)))]
    · by_cases a2 : p.2 = MM
      · rw [if_pos (.inr (if_pos (by omega)))]
      · have e1 : tI p.1 = text p.1 := if_neg (by omega)
        have e2 : tI p.2 = text p.2 := if_neg (by omega)
        rw [e1, e2, if_neg (fun q => by rcases q with q | q <;> exact text_ne _ q), porder_val (bd_MM.2 (by omega)) (bd_MM.2 (by omega)), Option.bind_some]
        have := sgnI_cases (p.1 - p.2)
        rw [if_neg (by omega)]
/-- An interval as the print has it. -/
def sI (p : Int × Int) : S28 := ⟨(eI p).1, (eI p).2.1, (eI p).2.2⟩
theorem checks_val {p q : Int × Int} (hp : VI p) (hq : VI q) (k : Nat) (hk : 3 ≤ k) : interval_checks.f k [sI p, sI q] = some 0 := by
  obtain ⟨k, rfl⟩ : ∃ j, k = j + 3 := ⟨k - 3, by omega⟩
  have w0 : wrap64 (0 + 1) = 1 := by decide +kernel
  have w1 : wrap64 (1 + 1) = 2 := by decide +kernel
  have e0 : rd_T28 [sI p, sI q] 0 = sI p := rfl
  have e1 : rd_T28 [sI p, sI q] 1 = sI q := rfl
  unfold interval_checks.f
  rw [interval_checks.l0, if_pos (by simp), if_pos (by simp), if_pos (by simp), e0, show interval_Check.f (sI p).f0 (sI p).f1 (sI p).f2 = some 0 from check_val hp, Option.bind_some, if_pos rfl, w0]
  rw [interval_checks.l0, if_pos (by simp), if_pos (by simp), if_pos (by simp), e1, show interval_Check.f (sI q).f0 (sI q).f1 (sI q).f2 = some 0 from check_val hq, Option.bind_some, if_pos rfl, w1]
  rw [interval_checks.l0, if_neg (by simp)]
theorem leq_val {p q : Int × Int} (hp : VI p) (hq : VI q) (h : p.2 < p.1 ∨ (q.1 ≤ p.1 ∧ p.2 ≤ q.2)) (k : Nat) (hk : 3 ≤ k) : interval_Leq.f k (eI p).1 (eI p).2.1 (eI p).2.2 (eI q).1 (eI q).2.1 (eI q).2.2 = some (true, 0) := by
  unfold interval_Leq.f
  rw [show ([⟨(eI p).1, (eI p).2.1, (eI p).2.2⟩, ⟨(eI q).1, (eI q).2.1, (eI q).2.2⟩] : List S28) = [sI p, sI q] from rfl, checks_val hp hq k hk, Option.bind_some, if_pos rfl, of_val hp, Option.bind_some, of_val hq, Option.bind_some]
  unfold eS
  rw [empty_val hp.rb.1 hp.rb.2, Option.bind_some]
  by_cases he : p.2 < p.1
  · rw [if_pos (decide_eq_true he)]
  · have h' : q.1 ≤ p.1 ∧ p.2 ≤ q.2 := h.resolve_left he
    obtain ⟨c, h1, h2, h3⟩ := compare_val hq.rb.1 hp.rb.1
    obtain ⟨d, k1, k2, k3⟩ := compare_val hp.rb.2 hq.rb.2
    rw [if_neg (by simpa using he), h1, Option.bind_some, if_pos (by omega), k1, Option.bind_some]
    congr 2
    exact decide_eq_true (by omega)
/-- Right thresholds, as integers. -/
def TH (l : List ByteArray) (ts : List Int) : Prop := l = ts.map text ∧ (∀ t ∈ ts, -MM < t ∧ t < MM) ∧ ∀ i, i + 1 < ts.length → ts[i]?.getD 0 < ts[i + 1]?.getD 0
theorem rd_th {l : List ByteArray} {ts : List Int} (h : l = ts.map text) (i : Nat) (hi : i < ts.length) : rdOf ByteArray.empty l (i : Int) = text (ts[i]?.getD 0) := by
  unfold rdOf
  rw [Int.toNat_natCast, h, List.getD_eq_getElem?_getD, List.getElem?_map, List.getElem?_eq_getElem hi]
  rfl
theorem th_in {l : List ByteArray} {ts : List Int} (h : TH l ts) (i : Nat) (hi : i < ts.length) : -MM < ts[i]?.getD 0 ∧ ts[i]?.getD 0 < MM := by
  rw [List.getElem?_eq_getElem hi]
  exact h.2.1 _ (List.getElem_mem hi)
theorem asc_loop {l : List ByteArray} {ts : List Int} (h : TH l ts) (hs : ts.length ≤ 20) : ∀ (d i k : Nat), i + d = ts.length → d < k → interval_ascending.l0 k l l (l.length : Int) (i : Int) = some 0
  | 0, i, k, hi, hk => by
    obtain ⟨k, rfl⟩ : ∃ j, k = j + 1 := ⟨k - 1, by omega⟩
    have hl : l.length = ts.length := by rw [h.1, List.length_map]
    rw [interval_ascending.l0, if_neg (by omega)]
  | d + 1, i, k, hi, hk => by
    obtain ⟨k, rfl⟩ : ∃ j, k = j + 1 := ⟨k - 1, by omega⟩
    have hl : l.length = ts.length := by rw [h.1, List.length_map]
    have hin := th_in h i (by omega)
    have ih := asc_loop h hs d (i + 1) k (by omega) (by omega)
    have w1 : wrap64 ((i : Int) + 1) = ((i + 1 : Nat) : Int) := by unfold wrap64; omega
    rw [interval_ascending.l0, if_pos (by omega), if_pos (by omega), if_pos (by omega), rd_th h.1 i (by omega), number_val (bd_MM.2 hin), Option.bind_some, if_pos rfl]
    by_cases h0 : i = 0
    · rw [if_neg (by omega), w1, ih]
    · have w2 : wrap64 ((i : Int) - 1) = ((i - 1 : Nat) : Int) := by unfold wrap64; omega
      have hin2 := th_in h (i - 1) (by omega)
      have hlt := h.2.2 (i - 1) (by omega)
      rw [show i - 1 + 1 = i by omega] at hlt
      have := sgnI_cases (ts[i - 1]?.getD 0 - ts[i]?.getD 0)
      rw [if_pos (by omega), w2, if_pos (by omega), if_pos (by omega), rd_th h.1 (i - 1) (by omega), order_val (bd_MM.2 hin2) (bd_MM.2 hin), Option.bind_some, if_neg (by omega), w1, ih]
theorem asc_val {l : List ByteArray} {ts : List Int} (h : TH l ts) (hs : ts.length ≤ 20) (k : Nat) (hk : 30 ≤ k) : interval_ascending.f k l = some 0 := by
  have hl : l.length = ts.length := by rw [h.1, List.length_map]
  unfold interval_ascending.f
  rw [if_neg (by omega)]
  exact asc_loop h hs ts.length 0 k (by omega) (by omega)
/-- The lower bound behind the thresholds from i on. -/
def loT (o : Int) : List Int → Int → Int
  | [], a => a
  | t :: r, a => loT o r (if t ≤ o then t else a)
/-- The upper bound. -/
def hiT (o : Int) : List Int → Int
  | [] => MM
  | t :: r => if o ≤ t then t else hiT o r
theorem loT_or (o : Int) : ∀ (l : List Int) (a : Int), loT o l a = a ∨ (loT o l a ∈ l ∧ loT o l a ≤ o)
  | [], a => .inl rfl
  | t :: r, a => by
    rw [loT]
    by_cases h : t ≤ o
    · rw [if_pos h]
      rcases loT_or o r t with e | ⟨e1, e2⟩
      · exact .inr (by rw [e]; exact ⟨List.mem_cons_self, h⟩)
      · exact .inr ⟨List.mem_cons_of_mem _ e1, e2⟩
    · rw [if_neg h]
      rcases loT_or o r a with e | ⟨e1, e2⟩
      · exact .inl e
      · exact .inr ⟨List.mem_cons_of_mem _ e1, e2⟩
theorem hiT_or (o : Int) : ∀ l : List Int, hiT o l = MM ∨ (hiT o l ∈ l ∧ o ≤ hiT o l)
  | [] => .inl rfl
  | t :: r => by
    rw [hiT]
    by_cases h : o ≤ t
    · rw [if_pos h]; exact .inr ⟨List.mem_cons_self, h⟩
    · rw [if_neg h]
      rcases hiT_or o r with e | ⟨e1, e2⟩
      · exact .inl e
      · exact .inr ⟨List.mem_cons_of_mem _ e1, e2⟩
/-- The widened interval. -/
def widP (ts : List Int) (p q : Int × Int) : Int × Int :=
  if p.2 < p.1 ∨ q.2 < q.1 then hullP p q else
    (if (hullP p q).1 = p.1 then p.1 else loT (hullP p q).1 ts (-MM), if (hullP p q).2 = p.2 then p.2 else hiT (hullP p q).2 ts)
theorem loT_in {ts : List Int} (ht : ∀ t ∈ ts, -MM < t ∧ t < MM) {o : Int} (ho : RB o) (h1 : o < MM) : -MM ≤ loT o ts (-MM) ∧ loT o ts (-MM) ≤ o := by
  unfold RB at ho
  rcases loT_or o ts (-MM) with e | ⟨e1, e2⟩
  · rw [e]; omega
  · have := ht _ e1; omega
theorem hiT_in {ts : List Int} (ht : ∀ t ∈ ts, -MM < t ∧ t < MM) {o : Int} (ho : RB o) (h1 : -MM < o) : o ≤ hiT o ts ∧ hiT o ts ≤ MM := by
  unfold RB at ho
  rcases hiT_or o ts with e | ⟨e1, e2⟩
  · rw [e]; omega
  · have := ht _ e1; omega
/-- What is right of a widening: it is an interval, which contains both. -/
theorem wid_ok {ts : List Int} (ht : ∀ t ∈ ts, -MM < t ∧ t < MM) {p q : Int × Int} (hp : VI p) (hq : VI q) :
    VI (widP ts p q) ∧ (p.2 < p.1 ∨ ((widP ts p q).1 ≤ p.1 ∧ p.2 ≤ (widP ts p q).2)) ∧ (q.2 < q.1 ∨ ((widP ts p q).1 ≤ q.1 ∧ q.2 ≤ (widP ts p q).2)) := by
  have hM := MM_pos
  unfold widP
  by_cases he : p.2 < p.1 ∨ q.2 < q.1
  · rw [if_pos he]
    unfold hullP
    by_cases h1 : p.2 < p.1
    · rw [if_pos h1]
      exact ⟨hq, .inl h1, .inr ⟨Int.le_refl _, Int.le_refl _⟩⟩
    · rw [if_neg h1, if_pos (he.resolve_left h1)]
      exact ⟨hp, .inr ⟨Int.le_refl _, Int.le_refl _⟩, .inl (he.resolve_left h1)⟩
  · rw [if_neg he]
    have hp' : -MM ≤ p.1 ∧ p.1 < MM ∧ -MM < p.2 ∧ p.2 ≤ MM ∧ p.1 ≤ p.2 := by rcases hp with h | h <;> omega
    have hq' : -MM ≤ q.1 ∧ q.1 < MM ∧ -MM < q.2 ∧ q.2 ≤ MM ∧ q.1 ≤ q.2 := by rcases hq with h | h <;> omega
    have e : hullP p q = (if q.1 < p.1 then q.1 else p.1, if p.2 < q.2 then q.2 else p.2) := by unfold hullP; rw [if_neg (by omega), if_neg (by omega)]
    rw [e]
    dsimp only
    have a1 : (if q.1 < p.1 then q.1 else p.1) ≤ p.1 ∧ (if q.1 < p.1 then q.1 else p.1) ≤ q.1 ∧ -MM ≤ (if q.1 < p.1 then q.1 else p.1) := by split <;> omega
    have a2 : p.2 ≤ (if p.2 < q.2 then q.2 else p.2) ∧ q.2 ≤ (if p.2 < q.2 then q.2 else p.2) ∧ (if p.2 < q.2 then q.2 else p.2) ≤ MM := by split <;> omega
    generalize (if q.1 < p.1 then q.1 else p.1) = lo at a1 ⊢
    generalize (if p.2 < q.2 then q.2 else p.2) = hi at a2 ⊢
    have b1 := loT_in ht (o := lo) ⟨by omega, by omega⟩ (by omega)
    have b2 := hiT_in ht (o := hi) ⟨by omega, by omega⟩ (by omega)
    have c1 : -MM ≤ (if lo = p.1 then p.1 else loT lo ts (-MM)) ∧ (if lo = p.1 then p.1 else loT lo ts (-MM)) ≤ lo := by split <;> omega
    have c2 : hi ≤ (if hi = p.2 then p.2 else hiT hi ts) ∧ (if hi = p.2 then p.2 else hiT hi ts) ≤ MM := by split <;> omega
    refine ⟨.inr ?_, .inr ?_, .inr ?_⟩ <;> (try dsimp only) <;> omega
/-- The thresholds below a bound, and the bound itself. -/
def rkL (ts : List Int) (z : Int) : Nat := if z = -MM then 0 else 1 + ts.countP (fun t => decide (t < z))
def rkH (ts : List Int) (z : Int) : Nat := if z = MM then 0 else 1 + ts.countP (fun t => decide (z < t))
/-- What is left of changes. -/
def rk (ts : List Int) (p : Int × Int) : Nat := if p.2 < p.1 then 3 + 2 * ts.length else rkL ts p.1 + rkH ts p.2
theorem count_lt {ts : List Int} {f g : Int → Bool} (h : ∀ t, f t = true → g t = true) {a : Int} (ha : a ∈ ts) (h1 : f a = false) (h2 : g a = true) : ts.countP f < ts.countP g := by
  induction ts with
  | nil => cases ha
  | cons t r ih =>
    rw [List.countP_cons, List.countP_cons]
    have hm : r.countP f ≤ r.countP g := List.countP_mono_left (fun x _ hx => h x hx)
    rcases List.mem_cons.1 ha with rfl | hr
    · rw [h1, h2]
      simp
      omega
    · have := ih hr
      cases hf : f t with
      | false => simp; omega
      | true => rw [h t hf]; simp; omega
theorem rkL_lt {ts : List Int} {o s : Int} (h1 : -MM ≤ o) (h2 : o < s) : rkL ts (loT o ts (-MM)) < rkL ts s := by
  have hs : rkL ts s = 1 + ts.countP (fun t => decide (t < s)) := if_neg (by omega)
  rcases loT_or o ts (-MM) with e | ⟨e1, e2⟩
  · rw [e, hs]
    unfold rkL
    rw [if_pos rfl]
    omega
  · rw [hs]
    generalize loT o ts (-MM) = z at e1 e2
    unfold rkL
    split
    · omega
    · have := count_lt (f := fun t => decide (t < z)) (g := fun t => decide (t < s)) (fun t ht => decide_eq_true (by have := of_decide_eq_true ht; omega)) e1 (decide_eq_false (by omega)) (decide_eq_true (by omega))
      omega
theorem rkH_lt {ts : List Int} {o s : Int} (h1 : o ≤ MM) (h2 : s < o) : rkH ts (hiT o ts) < rkH ts s := by
  have hs : rkH ts s = 1 + ts.countP (fun t => decide (s < t)) := if_neg (by omega)
  rcases hiT_or o ts with e | ⟨e1, e2⟩
  · rw [e, hs]
    unfold rkH
    rw [if_pos rfl]
    omega
  · rw [hs]
    generalize hiT o ts = z at e1 e2
    unfold rkH
    split
    · omega
    · have := count_lt (f := fun t => decide (z < t)) (g := fun t => decide (s < t)) (fun t ht => decide_eq_true (by have := of_decide_eq_true ht; omega)) e1 (decide_eq_false (by omega)) (decide_eq_true (by omega))
      omega
theorem rk_le (ts : List Int) (p : Int × Int) (h : ¬ p.2 < p.1) : rk ts p ≤ 2 + 2 * ts.length := by
  unfold rk rkL rkH
  rw [if_neg h]
  have a := List.countP_le_length (p := fun t => decide (t < p.1)) (l := ts)
  have b := List.countP_le_length (p := fun t => decide (p.2 < t)) (l := ts)
  split <;> split <;> omega
theorem rk_wid {ts : List Int} (ht : ∀ t ∈ ts, -MM < t ∧ t < MM) {p q : Int × Int} (hp : VI p) (hq : VI q) : widP ts p q = p ∨ rk ts (widP ts p q) + 1 ≤ rk ts p := by
  have hM := MM_pos
  by_cases hpe : p.2 < p.1
  · have e : widP ts p q = q := by unfold widP hullP; rw [if_pos (.inl hpe), if_pos hpe]
    rw [e]
    by_cases hqe : q.2 < q.1
    · refine .inl ?_
      rcases hp with h | h
      · rcases hq with k | k
        · exact Prod.ext (by omega) (by omega)
        · omega
      · omega
    · refine .inr ?_
      have := rk_le ts q hqe
      unfold rk at this ⊢
      rw [if_pos hpe]
      omega
  · by_cases hqe : q.2 < q.1
    · refine .inl ?_
      unfold widP hullP
      rw [if_pos (.inr hqe), if_neg hpe, if_pos hqe]
    · have hp' : -MM ≤ p.1 ∧ p.1 < MM ∧ -MM < p.2 ∧ p.2 ≤ MM ∧ p.1 ≤ p.2 := by rcases hp with h | h <;> omega
      have hq' : -MM ≤ q.1 ∧ q.1 < MM ∧ -MM < q.2 ∧ q.2 ≤ MM ∧ q.1 ≤ q.2 := by rcases hq with h | h <;> omega
      have hv := wid_ok ht hp hq
      have e : widP ts p q = (if (if q.1 < p.1 then q.1 else p.1) = p.1 then p.1 else loT (if q.1 < p.1 then q.1 else p.1) ts (-MM), if (if p.2 < q.2 then q.2 else p.2) = p.2 then p.2 else hiT (if p.2 < q.2 then q.2 else p.2) ts) := by
        unfold widP
        rw [if_neg (by omega)]
        unfold hullP
        rw [if_neg hpe, if_neg hqe]
      have hne : ¬ (widP ts p q).2 < (widP ts p q).1 := by
        rcases hv.2.1 with h | h <;> omega
      have hr : rk ts (widP ts p q) = rkL ts (widP ts p q).1 + rkH ts (widP ts p q).2 := if_neg hne
      have hr2 : rk ts p = rkL ts p.1 + rkH ts p.2 := if_neg hpe
      rw [hr, hr2, e]
      dsimp only
      have k1 : (if (if q.1 < p.1 then q.1 else p.1) = p.1 then p.1 else loT (if q.1 < p.1 then q.1 else p.1) ts (-MM)) = p.1 ∨ rkL ts (if (if q.1 < p.1 then q.1 else p.1) = p.1 then p.1 else loT (if q.1 < p.1 then q.1 else p.1) ts (-MM)) + 1 ≤ rkL ts p.1 := by
        by_cases h : q.1 < p.1
        · rw [if_pos h, if_neg (by omega)]
          have := rkL_lt (ts := ts) hq'.1 h
          exact .inr (by omega)
        · rw [if_neg h, if_pos rfl]; exact .inl rfl
      have k2 : (if (if p.2 < q.2 then q.2 else p.2) = p.2 then p.2 else hiT (if p.2 < q.2 then q.2 else p.2) ts) = p.2 ∨ rkH ts (if (if p.2 < q.2 then q.2 else p.2) = p.2 then p.2 else hiT (if p.2 < q.2 then q.2 else p.2) ts) + 1 ≤ rkH ts p.2 := by
        by_cases h : p.2 < q.2
        · rw [if_pos h, if_neg (by omega)]
          have := rkH_lt (ts := ts) hq'.2.2.2.1 h
          exact .inr (by omega)
        · rw [if_neg h, if_pos rfl]; exact .inl rfl
      generalize (if (if q.1 < p.1 then q.1 else p.1) = p.1 then p.1 else loT (if q.1 < p.1 then q.1 else p.1) ts (-MM)) = x at k1 ⊢
      generalize (if (if p.2 < q.2 then q.2 else p.2) = p.2 then p.2 else hiT (if p.2 < q.2 then q.2 else p.2) ts) = y at k2 ⊢
      rcases k1 with rfl | k1
      · rcases k2 with rfl | k2
        · exact .inl rfl
        · exact .inr (by omega)
      · rcases k2 with rfl | k2
        · exact .inr (by omega)
        · exact .inr (by omega)
theorem drop_cons {ts : List Int} {i : Nat} (h : i < ts.length) : ts.drop i = ts[i]?.getD 0 :: ts.drop (i + 1) := by
  rw [List.drop_eq_getElem_cons h, List.getElem?_eq_getElem h]; rfl
theorem cmp_th {t z : Int} (ht : -MM < t ∧ t < MM) (hz : RB z) : ∃ c, interval_compare.f 0 (text t) (eB z).1 (eB z).2 = some c ∧ (c < 0 ↔ t < z) ∧ (c = 0 ↔ t = z) := by
  have h := compare_val (x := t) (y := z) ⟨by omega, by omega⟩ hz
  rwa [eB_in ht.1 ht.2] at h
theorem hi_loop {l : List ByteArray} {ts : List Int} (h : TH l ts) (hs : ts.length ≤ 20) {lo o : Int} (hlo : RB lo) (ho : RB o) : ∀ (i k : Nat) (a : Int), i ≤ ts.length → i < k → (a = hiT o (ts.drop i)) →
    interval_Widen.l1 k l ((i : Int) - 1) (eB lo).1 (eB lo).2 (eB o).1 (eB o).2 (eB a).1 (eB a).2 = some ((eI (lo, hiT o ts)).1, (eI (lo, hiT o ts)).2.1, (eI (lo, hiT o ts)).2.2, 0)
  | 0, k, a, _, hk, ha => by
    obtain ⟨k, rfl⟩ : ∃ j, k = j + 1 := ⟨k - 1, by omega⟩
    rw [List.drop_zero] at ha
    have hb : RB (hiT o ts) := by
      have hM := MM_pos
      rcases hiT_or o ts with e | ⟨e1, _⟩
      · rw [e]; exact ⟨by omega, by omega⟩
      · have := h.2.1 _ e1; exact ⟨by omega, by omega⟩
    have := interval_val (p := (lo, hiT o ts)) ⟨hlo, hb⟩
    dsimp only at this
    rw [interval_Widen.l1, if_neg (by omega), ha, this]
    rfl
  | i + 1, k, a, hi, hk, ha => by
    obtain ⟨k, rfl⟩ : ∃ j, k = j + 1 := ⟨k - 1, by omega⟩
    have hl : l.length = ts.length := by rw [h.1, List.length_map]
    have hin := th_in h i (by omega)
    obtain ⟨c, c1, c2, c3⟩ := cmp_th hin ho
    have w2 : wrap64 ((i : Int) - 1) = (i : Int) - 1 := by unfold wrap64; omega
    rw [interval_Widen.l1, show ((i + 1 : Nat) : Int) - 1 = (i : Int) by omega, if_pos (by omega), if_pos (by omega), if_pos (by omega), rd_th h.1 i (by omega), finite_val, Option.bind_some]
    dsimp only
    rw [c1, Option.bind_some, w2]
    have hd := drop_cons (ts := ts) (i := i) (by omega)
    by_cases hc : c ≥ 0
    · rw [if_pos hc]
      have := hi_loop h hs hlo ho i k (ts[i]?.getD 0) (by omega) (by omega) (by rw [hd, hiT, if_pos (by omega)])
      rwa [eB_in hin.1 hin.2] at this
    · rw [if_neg hc]
      exact hi_loop h hs hlo ho i k a (by omega) (by omega) (by rw [ha, hd, hiT, if_neg (by omega)])
theorem j2_val {l : List ByteArray} {ts : List Int} (h : TH l ts) (hs : ts.length ≤ 20) {p : Int × Int} (hp : RB p.1 ∧ RB p.2) {lo hi : Int} (hlo : RB lo) (hhi : RB hi) (k : Nat) (hk : 30 ≤ k) :
    interval_Widen.j2 k l (eB p.1).1 (eB p.1).2 (eB p.2).1 (eB p.2).2 (eB lo).1 (eB lo).2 (eB hi).1 (eB hi).2 = some ((eI (lo, if hi = p.2 then p.2 else hiT hi ts)).1, (eI (lo, if hi = p.2 then p.2 else hiT hi ts)).2.1, (eI (lo, if hi = p.2 then p.2 else hiT hi ts)).2.2, 0) := by
  obtain ⟨k, rfl⟩ : ∃ j, k = j + 1 := ⟨k - 1, by omega⟩
  obtain ⟨c, c1, c2, c3⟩ := compare_val hhi hp.2
  rw [interval_Widen.j2, c1, Option.bind_some]
  by_cases hc : hi = p.2
  · rw [if_pos (c3.2 hc), if_pos hc]
    have := interval_val (p := (lo, hi)) ⟨hlo, hhi⟩
    dsimp only at this
    rw [this, ← hc]
    rfl
  · have hl : l.length = ts.length := by rw [h.1, List.length_map]
    rw [if_neg (fun q => hc (c3.1 q)), if_neg hc]
    have e : eB MM = (1, (⟨#[]⟩ : ByteArray)) := by have := MM_pos; unfold eB; rw [if_neg (by omega), if_pos (by omega)]
    have := hi_loop h hs hlo hhi ts.length k MM (Nat.le_refl _) (by omega) (by rw [List.drop_length]; rfl)
    rw [e] at this
    rw [show wrap64 ((l.length : Int) - 1) = (ts.length : Int) - 1 by rw [hl]; unfold wrap64; omega]
    exact this
theorem lo_loop {l : List ByteArray} {ts : List Int} (h : TH l ts) (hs : ts.length ≤ 20) {p : Int × Int} (hp : RB p.1 ∧ RB p.2) {o hi : Int} (ho : RB o) (hhi : RB hi) : ∀ (d i k : Nat) (a : Int), i + d = ts.length → d + 40 ≤ k → RB a →
    interval_Widen.l0 k l l (l.length : Int) (i : Int) (eB p.1).1 (eB p.1).2 (eB p.2).1 (eB p.2).2 (eB o).1 (eB o).2 (eB hi).1 (eB hi).2 (eB a).1 (eB a).2 = some ((eI (loT o (ts.drop i) a, if hi = p.2 then p.2 else hiT hi ts)).1, (eI (loT o (ts.drop i) a, if hi = p.2 then p.2 else hiT hi ts)).2.1, (eI (loT o (ts.drop i) a, if hi = p.2 then p.2 else hiT hi ts)).2.2, 0)
  | 0, i, k, a, hi', hk, ha => by
    obtain ⟨k, rfl⟩ : ∃ j, k = j + 1 := ⟨k - 1, by omega⟩
    have hl : l.length = ts.length := by rw [h.1, List.length_map]
    rw [interval_Widen.l0, if_neg (by omega), List.drop_of_length_le (by omega)]
    exact j2_val h hs hp ha hhi k (by omega)
  | d + 1, i, k, a, hi', hk, ha => by
    obtain ⟨k, rfl⟩ : ∃ j, k = j + 1 := ⟨k - 1, by omega⟩
    have hl : l.length = ts.length := by rw [h.1, List.length_map]
    have hin := th_in h i (by omega)
    obtain ⟨c, c1, c2, c3⟩ := cmp_th hin ho
    have w1 : wrap64 ((i : Int) + 1) = ((i + 1 : Nat) : Int) := by unfold wrap64; omega
    rw [interval_Widen.l0, if_pos (by omega), if_pos (by omega), if_pos (by omega), rd_th h.1 i (by omega), finite_val, Option.bind_some]
    dsimp only
    rw [c1, Option.bind_some, w1, drop_cons (ts := ts) (i := i) (by omega), loT]
    by_cases hc : c ≤ 0
    · rw [if_pos hc, if_pos (show ts[i]?.getD 0 ≤ o by omega)]
      have := lo_loop h hs hp ho hhi d (i + 1) k (ts[i]?.getD 0) (by omega) (by omega) ⟨by omega, by omega⟩
      rw [eB_in hin.1 hin.2] at this
      exact this
    · rw [if_neg hc, if_neg (show ¬ ts[i]?.getD 0 ≤ o by omega)]
      exact lo_loop h hs hp ho hhi d (i + 1) k a (by omega) (by omega) ha
theorem widen_val {l : List ByteArray} {ts : List Int} (h : TH l ts) (hs : ts.length ≤ 20) {p q : Int × Int} (hp : VI p) (hq : VI q) (k : Nat) (hk : 100 ≤ k) :
    interval_Widen.f k (eI p).1 (eI p).2.1 (eI p).2.2 (eI q).1 (eI q).2.1 (eI q).2.2 l = some ((eI (widP ts p q)).1, (eI (widP ts p q)).2.1, (eI (widP ts p q)).2.2, 0) := by
  have hl : l.length = ts.length := by rw [h.1, List.length_map]
  obtain ⟨k, rfl⟩ : ∃ j, k = j + 1 := ⟨k - 1, by omega⟩
  have hh := hull_val hp.rb hq.rb
  have hr := hull_rb hp.rb hq.rb
  unfold interval_Widen.f
  rw [show ([⟨(eI p).1, (eI p).2.1, (eI p).2.2⟩, ⟨(eI q).1, (eI q).2.1, (eI q).2.2⟩] : List S28) = [sI p, sI q] from rfl, checks_val hp hq _ (by omega), Option.bind_some, if_pos rfl, asc_val h hs _ (by omega), Option.bind_some, if_pos rfl, of_val hp, Option.bind_some, of_val hq, Option.bind_some]
  unfold eS
  dsimp only
  rw [empty_val hp.rb.1 hp.rb.2, Option.bind_some]
  by_cases he : p.2 < p.1
  · rw [if_pos (decide_eq_true he), interval_Widen.j0, if_pos rfl, hh, Option.bind_some]
    unfold eS
    dsimp only
    rw [interval_val hr]
    have e : widP ts p q = hullP p q := if_pos (.inl he)
    rw [e]
    rfl
  · rw [if_neg (by simpa using he), empty_val hq.rb.1 hq.rb.2, Option.bind_some]
    by_cases he2 : q.2 < q.1
    · rw [decide_eq_true he2, interval_Widen.j0, if_pos rfl, hh, Option.bind_some]
      unfold eS
      dsimp only
      rw [interval_val hr]
      have e : widP ts p q = hullP p q := if_pos (.inr he2)
      rw [e]
      rfl
    · rw [decide_eq_false he2, interval_Widen.j0, if_neg (by simp), hh, Option.bind_some]
      unfold eS
      dsimp only
      obtain ⟨c, c1, c2, c3⟩ := compare_val hr.1 hp.rb.1
      have e : widP ts p q = (if (hullP p q).1 = p.1 then p.1 else loT (hullP p q).1 ts (-MM), if (hullP p q).2 = p.2 then p.2 else hiT (hullP p q).2 ts) := if_neg (fun x => x.elim he he2)
      rw [c1, Option.bind_some, e]
      by_cases hc : (hullP p q).1 = p.1
      · rw [if_pos (c3.2 hc), if_pos hc]
        have := j2_val h hs hp.rb hr.1 hr.2 k (by omega)
        rw [hc] at this ⊢
        exact this
      · rw [if_neg (fun x => hc (c3.1 x)), if_neg hc, show interval_infinite.f (-1) = some (-1, (⟨#[]⟩ : ByteArray)) from rfl, Option.bind_some]
        have e2 : eB (-MM) = (-1, (⟨#[]⟩ : ByteArray)) := by unfold eB; rw [if_pos (by omega)]
        have := lo_loop h hs hp.rb hr.1 hr.2 ts.length 0 k (-MM) (by omega) (by omega) ⟨by omega, by have := MM_pos; omega⟩
        rw [e2, List.drop_zero] at this
        exact this
theorem number_ref (a : ByteArray) (h : a.size ≤ 140737488351232) (k : Nat) (hk : a.size + 4 ≤ k) : ∃ c, surveyorref06_Number.f k a = some c ∧ (c = 0 → ∃ x, a = text x ∧ Bd 100 x) := by
  unfold surveyorref06_Number.f
  rw [ref_check a h k hk, Option.bind_some]
  by_cases hc : chkI a = 0
  · obtain ⟨c1, c2⟩ := chk_ok hc
    rw [if_pos hc, ref_digits a h (canon_size c1), Option.bind_some]
    by_cases hd : (digN a : Int) > 100
    · rw [if_pos hd]
      exact ⟨_, rfl, fun q => by cases q⟩
    · rw [if_neg hd]
      refine ⟨_, rfl, fun _ => ?_⟩
      obtain ⟨x, rfl⟩ := text_of_canon a c1
      exact ⟨x, rfl, le_of_text_size (by omega)⟩
  · rw [if_neg hc]
    exact ⟨_, rfl, fun q => absurd q hc⟩
theorem bound_ref (a : ByteArray) (h : a.size ≤ 140737488351232) (k : Nat) (hk : a.size + 4 ≤ k) : ∃ c, surveyorref21_bound.f k a = some c ∧ (c = 0 → a = ⟨#[]⟩ ∨ ∃ x, a = text x ∧ Bd 100 x) := by
  unfold surveyorref21_bound.f
  by_cases h0 : a.toList = ([] : List UInt8)
  · rw [if_pos h0]
    exact ⟨_, rfl, fun _ => .inl ((nil_iff a).1 h0)⟩
  · rw [if_neg h0]
    obtain ⟨c, c1, c2⟩ := number_ref a h k hk
    rw [c1, Option.bind_some]
    exact ⟨_, rfl, fun q => .inr (c2 q)⟩
theorem less_ref {x y : Int} (hx : Bd 100 x) (hy : Bd 100 y) (k : Nat) (hk : 300 ≤ k) : surveyorref01_Less.f k (text x) (text y) = some (decide (x < y)) := by
  unfold surveyorref01_Less.f
  rw [order_text (hx.mono (by omega)) (hy.mono (by omega)) k hk, Option.bind_some]
  congr 1
  rw [decide_eq_decide]
  have := sgnI_cases (x - y)
  omega
theorem tI_text {x : Int} (h : Bd 100 x) : tI x = text x := by
  have := bd_MM.1 h
  exact if_neg (by omega)
theorem tI_lo : tI (-MM) = ⟨#[]⟩ := if_pos (.inl (Int.le_refl _))
theorem tI_hi : tI MM = ⟨#[]⟩ := if_pos (.inr (Int.le_refl _))
theorem eI_in {p : Int × Int} (h : p.1 ≤ p.2) : eI p = (false, tI p.1, tI p.2) := if_neg (by omega)
theorem check_ref (e : Bool) (lo hi : ByteArray) (h1 : lo.size ≤ 140737488351232) (h2 : hi.size ≤ 140737488351232) (k : Nat) (hk : lo.size + hi.size + 400 ≤ k) :
    ∃ c, surveyorref21_Check.f k e lo hi = some c ∧ (c = 0 → ∃ p, VI p ∧ e = (eI p).1 ∧ lo = (eI p).2.1 ∧ hi = (eI p).2.2) := by
  have hM := MM_pos
  obtain ⟨k, rfl⟩ : ∃ j, k = j + 1 := ⟨k - 1, by omega⟩
  obtain ⟨c, c1, c2⟩ := bound_ref lo h1 k (by omega)
  obtain ⟨d, d1, d2⟩ := bound_ref hi h2 k (by omega)
  have hj : ∀ b : Bool, b = false → ∃ c', surveyorref21_Check.j0 (k + 1) b e lo hi = some c' ∧ (c' = 0 → c = 0 ∧ d = 0 ∧ (∀ x y, lo = text x → hi = text y → Bd 100 x → Bd 100 y → x ≤ y)) := fun b hb => by
    subst hb
    rw [surveyorref21_Check.j0, if_neg (by simp), c1, Option.bind_some]
    by_cases hc : c = 0
    · rw [if_pos hc, d1, Option.bind_some]
      by_cases hd : d = 0
      · rw [if_pos hd]
        by_cases l0 : lo.toList = ([] : List UInt8)
        · rw [if_pos l0]
          exact ⟨_, rfl, fun _ => ⟨hc, hd, fun x y e1 _ _ _ => absurd (e1.symm.trans ((nil_iff lo).1 l0)) (text_ne x)⟩⟩
        · rw [if_neg l0]
          by_cases m0 : hi.toList = ([] : List UInt8)
          · rw [if_pos m0]
            exact ⟨_, rfl, fun _ => ⟨hc, hd, fun x y _ e1 _ _ => absurd (e1.symm.trans ((nil_iff hi).1 m0)) (text_ne y)⟩⟩
          · rw [if_neg m0]
            rcases c2 hc with q | ⟨x, rfl, hx⟩
            · exact absurd ((nil_iff lo).2 q) l0
            · rcases d2 hd with q | ⟨y, rfl, hy⟩
              · exact absurd ((nil_iff hi).2 q) m0
              · rw [less_ref hy hx k (by omega), Option.bind_some]
                by_cases hlt : y < x
                · rw [if_pos (decide_eq_true hlt)]
                  exact ⟨_, rfl, fun q => by cases q⟩
                · rw [if_neg (by simpa using hlt)]
                  exact ⟨_, rfl, fun _ => ⟨hc, hd, fun x' y' e1 e2 _ _ => by have := text_inj e1; have := text_inj e2; omega⟩⟩
      · rw [if_neg hd]
        exact ⟨_, rfl, fun q => absurd q hd⟩
    · rw [if_neg hc]
      exact ⟨_, rfl, fun q => absurd q hc⟩
  have hj3 : surveyorref21_Check.j0 (k + 1) true e lo hi = some 3 := by rw [surveyorref21_Check.j0, if_pos rfl]
  unfold surveyorref21_Check.f
  cases e with
  | true =>
    rw [if_pos rfl]
    by_cases l0 : lo.toList = ([] : List UInt8)
    · rw [if_pos l0]
      by_cases m0 : hi.toList = ([] : List UInt8)
      · obtain ⟨c', e1, e2⟩ := hj (hi.toList != ([] : List UInt8)) (by rw [m0]; rfl)
        refine ⟨c', e1, fun _ => ⟨(MM, -MM), .inl ⟨rfl, rfl⟩, ?_⟩⟩
        have : eI (MM, -MM) = (true, ⟨#[]⟩, ⟨#[]⟩) := if_pos (by dsimp only; omega)
        rw [this]
        exact ⟨rfl, (nil_iff lo).1 l0, (nil_iff hi).1 m0⟩
      · have : (hi.toList != ([] : List UInt8)) = true := by simpa using m0
        rw [this, hj3]
        exact ⟨_, rfl, fun q => by cases q⟩
    · rw [if_neg l0, hj3]
      exact ⟨_, rfl, fun q => by cases q⟩
  | false =>
    rw [if_neg (by simp)]
    obtain ⟨c', e1, e2⟩ := hj false rfl
    refine ⟨c', e1, fun q => ?_⟩
    obtain ⟨k1, k2, k3⟩ := e2 q
    rcases c2 k1 with q1 | ⟨x, hx, bx⟩
    · rcases d2 k2 with q2 | ⟨y, hy, b_y⟩
      · refine ⟨(-MM, MM), .inr (by dsimp only; omega), ?_⟩
        rw [eI_in (by dsimp only; omega)]
        exact ⟨rfl, q1.trans tI_lo.symm, q2.trans tI_hi.symm⟩
      · have := bd_MM.1 b_y
        refine ⟨(-MM, y), .inr (by dsimp only; omega), ?_⟩
        rw [eI_in (by dsimp only; omega)]
        exact ⟨rfl, q1.trans tI_lo.symm, hy.trans (tI_text b_y).symm⟩
    · have hbx := bd_MM.1 bx
      rcases d2 k2 with q2 | ⟨y, hy, b_y⟩
      · refine ⟨(x, MM), .inr (by dsimp only; omega), ?_⟩
        rw [eI_in (by dsimp only; omega)]
        exact ⟨rfl, hx.trans (tI_text bx).symm, q2.trans tI_hi.symm⟩
      · have hby := bd_MM.1 b_y
        have hxy := k3 x y hx hy bx b_y
        refine ⟨(x, y), .inr (by dsimp only; omega), ?_⟩
        rw [eI_in hxy]
        exact ⟨rfl, hx.trans (tI_text bx).symm, hy.trans (tI_text b_y).symm⟩
theorem rd_at (l : List ByteArray) (i : Nat) (h : i < l.length) : rdOf ByteArray.empty l (i : Int) = l[i] := by
  unfold rdOf
  rw [Int.toNat_natCast, List.getD_eq_getElem?_getD, List.getElem?_eq_getElem h]
  rfl
theorem th_loop (l : List ByteArray) (hl : l.length ≤ 20) (hs : ∀ a ∈ l, a.size ≤ 140737488351232) : ∀ (d i k : Nat) (ts : List Int), i + d = l.length → 140737488351232 + 1000 + d ≤ k → ts.length = i → l.take i = ts.map text → (∀ t ∈ ts, Bd 100 t) → (∀ j, j + 1 < ts.length → ts[j]?.getD 0 < ts[j + 1]?.getD 0) →
    ∃ c, surveyorref21_Thresholds.l0 k l (i : Int) = some c ∧ (c = 0 → ∃ ts, TH l ts)
  | 0, i, k, ts, hi, hk, h1, h2, h3, h4 => by
    obtain ⟨k, rfl⟩ : ∃ j, k = j + 1 := ⟨k - 1, by omega⟩
    rw [surveyorref21_Thresholds.l0, if_neg (by omega)]
    refine ⟨_, rfl, fun _ => ⟨ts, ?_, fun t ht => bd_MM.1 (h3 t ht), h4⟩⟩
    rw [← h2, List.take_of_length_le (by omega)]
  | d + 1, i, k, ts, hi, hk, h1, h2, h3, h4 => by
    obtain ⟨k, rfl⟩ : ∃ j, k = j + 1 := ⟨k - 1, by omega⟩
    have hlt : i < l.length := by omega
    have hsz := hs _ (List.getElem_mem hlt)
    obtain ⟨c, c1, c2⟩ := number_ref l[i] hsz k (by omega)
    rw [surveyorref21_Thresholds.l0, if_pos (by omega), if_pos (by omega), rd_at l i hlt, c1, Option.bind_some]
    by_cases hc : c = 0
    · obtain ⟨x, hx, bx⟩ := c2 hc
      have w1 : wrap64 ((i : Int) + 1) = ((i + 1 : Nat) : Int) := by unfold wrap64; omega
      have ht : l.take (i + 1) = (ts ++ [x]).map text := by rw [List.take_succ_eq_append_getElem hlt, h2, hx, List.map_append]; rfl
      have hb : ∀ t ∈ ts ++ [x], Bd 100 t := fun t q => by
        rcases List.mem_append.1 q with q | q
        · exact h3 t q
        · rw [List.mem_singleton.1 q]; exact bx
      rw [if_pos hc]
      by_cases h0 : i = 0
      · rw [if_neg (by omega), w1]
        refine th_loop l hl hs d (i + 1) k (ts ++ [x]) (by omega) (by omega) (by simp [h1]) ht hb (fun j hj => ?_)
        simp [h1, h0] at hj
      · have w2 : wrap64 ((i : Int) - 1) = ((i - 1 : Nat) : Int) := by unfold wrap64; omega
        have hlt2 : i - 1 < l.length := by omega
        have hpre : l[i - 1] = text (ts[i - 1]?.getD 0) := by
          have e1 : (l.take i)[i - 1]? = some l[i - 1] := by rw [List.getElem?_take_of_lt (by omega), List.getElem?_eq_getElem hlt2]
          rw [h2, List.getElem?_map, List.getElem?_eq_getElem (by omega)] at e1
          rw [List.getElem?_eq_getElem (by omega)]
          exact (Option.some.inj e1).symm
        have hpb : Bd 100 (ts[i - 1]?.getD 0) := by
          rw [List.getElem?_eq_getElem (by omega)]
          exact h3 _ (List.getElem_mem _)
        rw [if_pos (by omega), w2, if_pos (by omega), if_pos (by omega), rd_at l (i - 1) hlt2, hpre, hx, less_ref hpb bx k (by omega), Option.bind_some]
        by_cases hlt3 : ts[i - 1]?.getD 0 < x
        · rw [if_pos (decide_eq_true hlt3), w1]
          refine th_loop l hl hs d (i + 1) k (ts ++ [x]) (by omega) (by omega) (by simp [h1]) ht hb (fun j hj => ?_)
          rw [List.length_append, List.length_singleton, h1] at hj
          by_cases hj2 : j + 1 < i
          · rw [List.getElem?_append_left (by omega), List.getElem?_append_left (by omega)]
            exact h4 j (by omega)
          · have e : j = i - 1 := by omega
            subst e
            rw [List.getElem?_append_left (by omega), List.getElem?_append_right (by omega), show i - 1 + 1 - ts.length = 0 by omega]
            exact hlt3
        · rw [if_neg (by simpa using hlt3)]
          exact ⟨_, rfl, fun q => by cases q⟩
    · rw [if_neg hc]
      exact ⟨_, rfl, fun q => absurd q hc⟩
theorem thresholds_ref (l : List ByteArray) (hl : l.length ≤ 20) (hs : ∀ a ∈ l, a.size ≤ 140737488351232) (k : Nat) (hk : 140737488352300 ≤ k) : ∃ c, surveyorref21_Thresholds.f k l = some c ∧ (c = 0 → ∃ ts, TH l ts) := by
  unfold surveyorref21_Thresholds.f
  rw [if_neg (by omega)]
  exact th_loop l hl hs l.length 0 k [] (by omega) (by omega) rfl rfl (fun t h => by cases h) (fun j h => by simp at h)
set_option maxRecDepth 100000 in
theorem try_60 : surveyortop_tryChains.f 60 = some true := by decide +kernel
theorem try_at : ∀ k, surveyortop_tryChains.f (k + 60) = some true
  | 0 => try_60
  | k + 1 => surveyortop_tryChains.mono (k + 60) _ (try_at k)
theorem try_ge {k : Nat} (h : 60 ≤ k) : surveyortop_tryChains.f k = some true := by
  obtain ⟨j, rfl⟩ : ∃ j, k = j + 60 := ⟨k - 60, by omega⟩
  exact try_at j
theorem rd28 (l : List S28) (i : Nat) (h : i < l.length) : rd_T28 l (i : Int) = l[i] := by
  unfold rd_T28
  rw [Int.toNat_natCast, List.getD_eq_getElem?_getD, List.getElem?_eq_getElem h]
  rfl
theorem law_loop {l1 : List ByteArray} {ts : List Int} (h : TH l1 ts) (hs : ts.length ≤ 20) (l : List S28) (hl : l.length ≤ 100) (hz : ∀ s ∈ l, s.f1.size ≤ 140737488351232 ∧ s.f2.size ≤ 140737488351232) (K : Nat) (hK : 281474976703000 ≤ K) :
    ∀ (d i k : Nat) (ch : Nat) (p : Int × Int), i + d = l.length → K + 2 * d ≤ k → VI p → ch + rk ts p ≤ 3 + 2 * ts.length → surveyortop_TopChainsIntervals.l0 k l1 (ch : Int) l (l.length : Int) (i : Int) (eI p).1 (eI p).2.1 (eI p).2.2 = some true
  | 0, i, k, ch, p, hi, hk, hp, hr => by
    obtain ⟨k, rfl⟩ : ∃ j, k = j + 1 := ⟨k - 1, by omega⟩
    have hl1 : l1.length = ts.length := by rw [h.1, List.length_map]
    have w1 : wrap64 (3 + wrap64 (2 * (l1.length : Int))) = 3 + 2 * (ts.length : Int) := by rw [hl1]; unfold wrap64; omega
    rw [surveyortop_TopChainsIntervals.l0, if_neg (by omega), w1, if_pos (by omega), try_ge (by omega), Option.bind_some]
  | d + 1, i, k, ch, p, hi, hk, hp, hr => by
    obtain ⟨k, rfl⟩ : ∃ j, k = j + 2 := ⟨k - 2, by omega⟩
    have hlt : i < l.length := by omega
    obtain ⟨z1, z2⟩ := hz _ (List.getElem_mem hlt)
    have hk1 : K + 2 * d ≤ k := by omega
    have hid : i + 1 + d = l.length := by omega
    have hk4 : 60 ≤ k := by omega
    have hk2 : l[i].f1.size + l[i].f2.size + 400 ≤ k + 1 := by omega
    have hk3 : 100 ≤ k + 1 := by omega
    clear hk
    rw [surveyortop_TopChainsIntervals.l0, if_pos (by omega), if_pos (by omega), if_pos (by omega), rd28 l i hlt]
    obtain ⟨c, c1, c2⟩ := check_ref (l[i]).f0 (l[i]).f1 (l[i]).f2 z1 z2 (k + 1) hk2
    rw [c1, Option.bind_some]
    by_cases hc : c = 0
    · obtain ⟨q, hq, e0, e1, e2⟩ := c2 hc
      have hw := wid_ok h.2.1 hp hq
      have hrk := rk_wid h.2.1 hp hq
      rw [if_pos hc, e0, e1, e2, widen_val h hs hp hq (k + 1) hk3, Option.bind_some]
      dsimp only
      rw [leq_val hq hw.1 hw.2.2 (k + 1) (by omega), Option.bind_some, leq_val hp hw.1 hw.2.1 (k + 1) (by omega), Option.bind_some]
      generalize widP ts p q = y at hw hrk ⊢
      have hch : rk ts y + 1 ≤ rk ts p → ch + 1 + rk ts y ≤ 3 + 2 * ts.length := fun q => by clear hrk c1; omega
      have hch2 : rk ts y + 1 ≤ rk ts p → ch + rk ts y ≤ 3 + 2 * ts.length := fun q => by clear hrk c1; omega
      have w0 : wrap64 (wrap64 (0 + 0) + 0) = 0 := by decide +kernel
      have w1 : wrap64 ((i : Int) + 1) = ((i + 1 : Nat) : Int) := by unfold wrap64; omega
      have w2 : wrap64 ((ch : Int) + 1) = ((ch + 1 : Nat) : Int) := by unfold wrap64; omega
      rw [if_pos w0, if_pos rfl, surveyortop_TopChainsIntervals.j2, if_neg (by simp), w1, w2]
      split
      · rename_i hf
        have hne : y ≠ p := fun e => by
          rw [e] at hf
          simp at hf
        exact law_loop h hs l hl hz K hK d (i + 1) k (ch + 1) _ hid hk1 hw.1 (hch (hrk.resolve_left hne))
      · exact law_loop h hs l hl hz K hK d (i + 1) k ch _ hid hk1 hw.1 (hrk.elim (fun e => by rw [e]; exact hr) hch2)
    · rw [if_neg hc, try_ge (by omega), Option.bind_some]
theorem law (l : List S28) (l1 : List ByteArray) (hz : ∀ s ∈ l, s.f1.size ≤ 140737488351232 ∧ s.f2.size ≤ 140737488351232) (hz1 : ∀ a ∈ l1, a.size ≤ 140737488351232) : surveyortop_TopChainsIntervals.f 300000000000000 l l1 = some true := by
  obtain ⟨k, hk⟩ : ∃ k, 300000000000000 = k := ⟨_, rfl⟩
  rw [hk]
  obtain ⟨k, rfl⟩ : ∃ j, k = j + 1 := ⟨k - 1, by omega⟩
  have ht : surveyortop_TopChainsIntervals.j0 (k + 1) l l1 true = some true := by rw [surveyortop_TopChainsIntervals.j0, if_pos rfl, try_ge (by omega), Option.bind_some]
  unfold surveyortop_TopChainsIntervals.f
  by_cases h1 : (l.length : Int) > 100
  · rw [if_pos h1, ht]
  · rw [if_neg h1]
    by_cases h2 : (l1.length : Int) > 20
    · rw [if_pos h2, ht]
    · obtain ⟨c, c1, c2⟩ := thresholds_ref l1 (by omega) hz1 (k + 1) (by omega)
      rw [if_neg h2, c1, Option.bind_some]
      by_cases hc : c = 0
      · obtain ⟨ts, hT⟩ := c2 hc
        have hl1 : l1.length = ts.length := by rw [hT.1, List.length_map]
        have e : eI (MM, -MM) = (true, ⟨#[]⟩, ⟨#[]⟩) := if_pos (by have := MM_pos; dsimp only; omega)
        have := law_loop hT (by omega) l (by omega) hz 281474976703000 (Nat.le_refl _) l.length 0 k 0 (MM, -MM) (by omega) (by omega) (.inl ⟨rfl, rfl⟩) (by unfold rk; rw [if_pos (by have := MM_pos; dsimp only; omega)]; omega)
        rw [e] at this
        have hb : (c != 0) = false := by simpa using hc
        rw [hb, surveyortop_TopChainsIntervals.j0, if_neg (by simp)]
        exact this
      · have hb : (c != 0) = true := by simpa using hc
        rw [hb, ht]
end Go.Proofs.YtnagmogjhfdmlaaGreatDoor.Pure
