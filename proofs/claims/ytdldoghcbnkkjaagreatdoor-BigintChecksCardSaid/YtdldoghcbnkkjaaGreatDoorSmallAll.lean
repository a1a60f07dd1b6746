/- bigint.Small at every word, as a contract (with the premise SM: strconv.ErrRange is an error). -/
import Derived.Test.YtdldoghcbnkkjaaGreatDoorSmall
import Derived.Test.YtdldoghcbnkkjaaGreatDoorLays3
set_option linter.unusedVariables false
set_option linter.unusedSimpArgs false
namespace Go.Proofs.YtdldoghcbnkkjaaGreatDoor
open Go.RowKit Go.Shelf Go.Proofs.YtdldoghcbnkkjaaGreatDoorW.PrintWords

/-- What the library's variable holds. -/
def SM (w : World) : Prop := ∃ tp p, w.var? Tryz.prog "strconv.ErrRange" = some #[.iface tp p]
theorem SM.below {w w' : World} (h : SM w) (hb : Below w.heap.size w w') : SM w' := by
  obtain ⟨tp, p, h⟩ := h
  refine ⟨tp, p, ?_⟩
  unfold World.var? at h ⊢
  cases hg : (Tryz.prog).globalNamed "strconv.ErrRange" with
  | none => simp [hg] at h
  | some g =>
    simp only [hg, Option.bind_some] at h ⊢
    have hlt : g < w.heap.size := by
      rcases Nat.lt_or_ge g w.heap.size with h' | h'
      · exact h'
      · simp [Array.getElem?_eq_none h'] at h
    rw [hb.block g hlt]
    exact h
theorem parse_dig : ∀ (l : List UInt8) (acc : Nat), allDig l = true → acc < 18446744073709551616 → Lib.parseUint10 acc l = if acc * 10 ^ l.length + dval l < 18446744073709551616 then .ok (acc * 10 ^ l.length + dval l) else .range
  | [], acc, _, h => by simp [Lib.parseUint10, dval, h]
  | c :: l, acc, h, ha => by
    simp only [allDig, List.all_cons, Bool.and_eq_true] at h
    have h1 := (isDig_iff c).1 h.1
    have hp : 0 < 10 ^ l.length := Nat.pow_pos (by omega)
    have e : acc * 10 ^ (c :: l).length + dval (c :: l) = (acc * 10 + (c.toNat - 48)) * 10 ^ l.length + dval l := by
      rw [dval_cons, List.length_cons, Nat.pow_succ, Nat.add_mul, Nat.mul_comm (10 ^ l.length) 10, ← Nat.mul_assoc]
      omega
    rw [Lib.parseUint10, if_pos h1, e]
    by_cases h2 : 1844674407370955162 ≤ acc
    · have h3 : 18446744073709551616 * 1 ≤ (acc * 10 + (c.toNat - 48)) * 10 ^ l.length := Nat.mul_le_mul (by omega) hp
      rw [if_pos h2, if_neg (by omega)]
    · rw [if_neg h2]
      by_cases h3 : 18446744073709551616 ≤ acc * 10 + (c.toNat - 48)
      · have h4 : 18446744073709551616 * 1 ≤ (acc * 10 + (c.toNat - 48)) * 10 ^ l.length := Nat.mul_le_mul h3 hp
        rw [if_pos h3, if_neg (by omega)]
      · rw [if_neg h3, parse_dig l _ h.2 (by omega)]
theorem mag_dig (l : List UInt8) (h : allDig l = true) (h0 : l ≠ []) : Lib.parseMag l = if dval l < 18446744073709551616 then .ok (dval l) else .range := by
  have := parse_dig l 0 h (by omega)
  rw [Nat.zero_mul, Nat.zero_add] at this
  rw [Lib.parseMag, if_neg h0, this]
theorem atoiAll_canon (a : ByteArray) (h : canon a.data.toList = true) : Lib.atoiAll a.data.toList = if -9223372036854775808 ≤ ivalB a ∧ ivalB a ≤ 9223372036854775807 then .ok (ivalB a) else .range := by
  unfold ivalB
  generalize a.data.toList = l at h
  unfold canon at h
  have digs : ∀ r, canonN r = true → allDig r = true ∧ r ≠ [] := fun r hr => by
    unfold canonN at hr
    simp only [Bool.or_eq_true, Bool.and_eq_true, beq_iff_eq] at hr
    rcases hr with rfl | ⟨⟨h1, h2⟩, h3⟩
    · exact ⟨rfl, by simp⟩
    · exact ⟨h1, by intro e; subst e; simp at h3⟩
  split at h
  · rename_i r
    simp only [Bool.and_eq_true] at h
    obtain ⟨d1, d2⟩ := digs r h.1
    have e : ival (45 :: r) = -(dval r : Int) := rfl
    rw [e]
    unfold Lib.atoiAll
    simp only
    rw [if_pos (show (45 : UInt8).toNat = 43 ∨ (45 : UInt8).toNat = 45 from .inr rfl), mag_dig r d1 d2]
    by_cases h1 : dval r < 18446744073709551616
    · rw [if_pos h1]
      dsimp only
      rw [if_neg (fun q => q.1 rfl)]
      by_cases h2 : 9223372036854775808 < dval r
      · rw [if_pos ⟨rfl, h2⟩, if_neg (by omega)]
      · rw [if_neg (fun q => h2 q.2), if_pos (show (45 : UInt8).toNat = 45 from rfl), if_pos (by omega)]
    · rw [if_neg h1, if_neg (by omega)]
  · rename_i hne
    obtain ⟨d1, d2⟩ := digs l h
    have e : ival l = (dval l : Int) := by
      unfold ival
      split
      · rename_i r; exact absurd rfl (hne r)
      · rfl
    rw [e]
    cases l with
    | nil => exact absurd rfl d2
    | cons c r =>
      have hc := (isDig_iff c).1 (by simp only [allDig, List.all_cons, Bool.and_eq_true] at d1; exact d1.1)
      unfold Lib.atoiAll
      simp only
      rw [if_neg (show ¬ (c.toNat = 43 ∨ c.toNat = 45) by omega), mag_dig (c :: r) d1 d2]
      have hn : ¬ c.toNat = 45 := by omega
      by_cases h1 : dval (c :: r) < 18446744073709551616
      · rw [if_pos h1]
        dsimp only
        by_cases h2 : 9223372036854775808 ≤ dval (c :: r)
        · rw [if_pos ⟨hn, h2⟩, if_neg (by omega)]
        · rw [if_neg (fun q => h2 q.2), if_neg (fun q => hn q.1), if_neg hn, if_pos (by omega)]
      · rw [if_neg h1, if_neg (by omega)]
set_option maxRecDepth 100000 in
set_option maxHeartbeats 2000000 in
theorem smallall_walk (a : ByteArray) (w : World) (ha : a.size ≤ 281474976710656) (hS : SM w) :
    Calls Tryz.prog 48 #[.string a] w fun e w' => e = .returned (.tuple #[.int .i64 (smV a), .int .i64 (smE a)]) ∧ Below w.heap.size w w' := by
  have HA := Lib.hid (fun w => check_walk a w (by omega))
  unfold smV smE
  by_cases h : chkI a = 0
  · rw [if_pos h, if_pos h]
    rw [h] at HA
    have hat := atoiAll_canon a (chk_ok h).1
    by_cases hin : -9223372036854775808 ≤ ivalB a ∧ ivalB a ≤ 9223372036854775807
    · rw [if_pos hin] at hat
      have HT : Hid (∀ w : World, Calls Tryz.prog 97 #[.string a] w fun e w' => e = .returned (.tuple #[.int .i64 (ivalB a), .nilIface]) ∧ Below w.heap.size w w') := Lib.hid (fun w => (Any.strconv_Atoi_ok layC172 a (by omega) (ivalB a) hat w).mono (by
        rintro e w' ⟨he, hw⟩
        refine ⟨he, ?_⟩
        rcases hw with rfl | ⟨t, rfl⟩
        · exact Below.refl _ _
        · exact below_bytesWorld' w _ t _ (Nat.le_refl _)))
      clear h ha hat hS
      generalize ivalB a = n at HT hin ⊢
      by_cases h1 : n > 1048576
      · have e1 : decide ((1048576 : Int) < n) = true := decide_eq_true h1
        rw [if_pos (.inl h1), if_pos (.inl h1)]
        go_enter Tryz.func48, Tryz.ntmps48
        go_wp2_with (first
          | (go_at_call 53; refine (HA.out _).mono ?_; rintro e w1 ⟨rfl, hB1⟩; have HB1 := Lib.hid hB1; clear hB1 HA)
          | (go_at_call 97; refine (HT.out _).mono ?_; rintro e w2 ⟨rfl, hB2⟩; have HB2 := Lib.hid hB2; clear hB2))
        go_ret2
        exact ⟨rfl, HB1.out.trans (HB2.out.mono HB1.out.size)⟩
      · have e1 : decide ((1048576 : Int) < n) = false := decide_eq_false h1
        by_cases h2 : n < -1048576
        · have e2 : decide (n < -1048576) = true := decide_eq_true h2
          rw [if_pos (.inr h2), if_pos (.inr h2)]
          go_enter Tryz.func48, Tryz.ntmps48
          go_wp2_with (first
            | (go_at_call 53; refine (HA.out _).mono ?_; rintro e w1 ⟨rfl, hB1⟩; have HB1 := Lib.hid hB1; clear hB1 HA)
            | (go_at_call 97; refine (HT.out _).mono ?_; rintro e w2 ⟨rfl, hB2⟩; have HB2 := Lib.hid hB2; clear hB2))
          go_ret2
          exact ⟨rfl, HB1.out.trans (HB2.out.mono HB1.out.size)⟩
        · have e2 : decide (n < -1048576) = false := decide_eq_false h2
          rw [if_neg (by omega), if_neg (by omega)]
          go_enter Tryz.func48, Tryz.ntmps48
          go_wp2_with (first
            | (go_at_call 53; refine (HA.out _).mono ?_; rintro e w1 ⟨rfl, hB1⟩; have HB1 := Lib.hid hB1; clear hB1 HA)
            | (go_at_call 97; refine (HT.out _).mono ?_; rintro e w2 ⟨rfl, hB2⟩; have HB2 := Lib.hid hB2; clear hB2))
          go_ret2
          exact ⟨rfl, HB1.out.trans (HB2.out.mono HB1.out.size)⟩
    · rw [if_neg hin] at hat
      rw [if_pos (by omega), if_pos (by omega)]
      have HSM := Lib.hid hS
      have HT : Hid (∀ w : World, SM w → Calls Tryz.prog 97 #[.string a] w fun e w' => ∃ v t p, e = .returned (.tuple #[.int .i64 v, .iface t (.pointer (some p))]) ∧ Below w.heap.size w w') := Lib.hid (fun w hs => by
        obtain ⟨tp, p, hv⟩ := hs
        refine (Any.strconv_Atoi_range_var layC172 a ha hat tp p w hv).mono ?_
        rintro e w' ⟨M, he, _, _, hB⟩
        exact ⟨_, _, _, he, hB⟩)
      clear h ha hat hS hin
      go_enter Tryz.func48, Tryz.ntmps48
      go_wp2_with (first
        | (go_at_call 53; refine (HA.out _).mono ?_; rintro e w1 ⟨rfl, hB1⟩; have HB1 := Lib.hid hB1; clear hB1 HA)
        | (go_at_call 97; refine (HT.out _ (HSM.out.below HB1.out)).mono ?_; rintro e w2 ⟨v, t, p, rfl, hB2⟩; have HB2 := Lib.hid hB2; clear hB2))
      go_ret2
      exact ⟨rfl, HB1.out.trans (HB2.out.mono HB1.out.size)⟩
  · rw [if_neg h, if_neg h]
    generalize chkI a = c at h HA ⊢
    have e1 : (c != 0) = true := by simpa using h
    clear ha hS
    go_enter Tryz.func48, Tryz.ntmps48
    go_wp2_with (go_at_call 53; refine (HA.out _).mono ?_; rintro e w1 ⟨rfl, hB1⟩; have HB1 := Lib.hid hB1; clear hB1 HA)
    go_ret2
    exact ⟨rfl, HB1.out⟩
def bigint_SmallA.f (a0 : ByteArray) : Option (Int × Int) := if a0.size ≤ 281474976710656 then some (smV a0, smE a0) else none
theorem bigint_SmallA.calls (a0 : ByteArray) (r0 : Int) (r1 : Int) (w : World) (hS : SM w) (h : bigint_SmallA.f a0 = some (r0, r1)) :
    Calls Tryz.prog 48 #[.string a0] w fun e w' => e = .returned (.tuple #[.int .i64 r0, .int .i64 r1]) ∧ Below w.heap.size w w' := by
  unfold bigint_SmallA.f at h
  split at h
  · rename_i h1
    obtain ⟨rfl, rfl⟩ := Prod.mk.inj (Option.some.inj h)
    exact smallall_walk a0 w h1 hS
  · cases h
end Go.Proofs.YtdldoghcbnkkjaaGreatDoor
