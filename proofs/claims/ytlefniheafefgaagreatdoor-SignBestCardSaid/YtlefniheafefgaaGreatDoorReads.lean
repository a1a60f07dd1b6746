/- bigint.chunks: the iterator over groups of nine digits. · slices.Collect of bigint.chunks. · bigint.read: a canonical decimal becomes a sign and limbs. -/
import Derived.Test.YtlefniheafefgaaGreatDoorMags
import Derived.Lib.Atoi
import Derived.Maps.OwnIn
import Derived.OwnWalkIn
import Derived.Lib.Strings
set_option linter.unusedVariables false
set_option linter.unusedSimpArgs false
namespace Go.Proofs.YtlefniheafefgaaGreatDoor
open Go.RowKit Go.Shelf Go.Proofs.YtlefniheafefgaaGreatDoorW.PrintWords

/-- What strconv.Atoi is asked to do. -/
def AtoiOK : Prop := ∀ (s : ByteArray) (n : Int), s.size ≤ 18 → Lib.atoi s.data.toList = some n → ∀ w : World, Calls Tryz.prog 88 #[.string s] w fun e w' => e = .returned (.tuple #[.int .i64 n, .nilIface]) ∧ ∃ t, w' = Lib.bytesWorld w 5 t

/-- Group j of nine digits, from the last one on. -/
def chunkB (s : ByteArray) (j : Nat) : ByteArray := s.extract (s.size - 9 * j - 9) (s.size - 9 * j)
/-- How many groups there are. -/
def chunkN (s : ByteArray) : Nat := (s.size + 8) / 9
def chunkL (v : Nat → Int) (k : Nat) : List Int := (List.range k).map v
theorem chunkL_succ (v : Nat → Int) (k : Nat) : chunkL v (k + 1) = chunkL v k ++ [v k] := by simp [chunkL, List.range_succ]
theorem chunkL_len (v : Nat → Int) (k : Nat) : (chunkL v k).length = k := by simp [chunkL]
theorem chunkL_pre (v : Nat → Int) (k m : Nat) (h : k ≤ m) : chunkL v k <+: chunkL v m := by
  induction m with
  | zero =>
    have : k = 0 := by omega
    rw [this]; exact List.prefix_refl _
  | succ m ih =>
    by_cases e : k = m + 1
    · rw [e]; exact List.prefix_refl _
    · rw [chunkL_succ]; exact (ih (by omega)).trans (List.prefix_append _ _)

theorem grown_bytesWorld (w : World) (e : TypeId) (s : ByteArray) : w.grownBy (Lib.bytesWorld w e s) none :=
  ⟨rfl, rfl, rfl, by rw [Lib.bytesWorld_size]; omega, fun k hk _ => Lib.bytesWorld_at_old w e s k hk⟩

theorem below_bytesWorld' (w : World) (e : TypeId) (s : ByteArray) (B : Nat) (h : B ≤ w.heap.size) : Below B w (Lib.bytesWorld w e s) :=
  (Below.refl B w).grown (grown_bytesWorld w e s) h (fun k e => by cases e)
theorem sizeL {B : Nat} {a w : World} (h : Below B a w) : a.heap.size ≤ w.heap.size := h.size

set_option maxRecDepth 100000 in
set_option maxHeartbeats 2000000 in
theorem chunks1_in (hA : AtoiOK) (n : Nat) (hn : 1 ≤ n) (l Bs n₀ : Nat) (s : ByteArray) (v : Nat → Int) (J Jx : List Int → World → Prop)
    (hs : s.size ≤ 9223372036854775807) (hv : ∀ j, j < chunkN s → Lib.atoi (chunkB s j).data.toList = some (v j))
    (hJ : ∀ pre W W', J pre W → W.grownBy W' none → J pre W')
    (hY : ∀ pre x W, J pre W → pre.length < chunkN s → YieldAt Fence.wide (n - 1) Tryz.prog l #[.int .i64 x] W fun e W' =>
      (e = .returned (.bool true) ∧ J (pre ++ [x]) W' ∧ KpB Bs n₀ W W') ∨ (e = .returned (.bool false) ∧ Jx (pre ++ [x]) W'))
    (W : World) (hBs : W.cell? ⟨Bs, 0, none⟩ = some (.string s)) (hBl : Bs < W.heap.size) (h0l : n₀ ≤ W.heap.size) (h0 : J [] W) :
    CallsIn Fence.wide n Tryz.prog 87 #[.func (.yield l) #[] #[], .pointer (some ⟨Bs, 0, none⟩)] W fun e W' => (∃ u, e = .returned u) ∧
      ((∃ ys, ys = chunkL v (chunkN s) ∧ J ys W') ∨ (∃ pre, pre <+: chunkL v (chunkN s) ∧ Jx pre W')) := by
  have hro : Fence.wide.round = none := rfl
  refine callsIn_of_wp Tryz.func87 rfl trivial ?_ hro
  simp only [Tryz.ntmps87, List.size_toArray, List.length_cons, List.length_nil, Nat.reduceAdd, Nat.reduceSub, Array.replicate_succ, Array.replicate_zero, List.push_toArray, List.append_toArray, List.nil_append, List.cons_append]
  gi_wp2
  gi_loopw [3] (fun i wr => ∃ k : Nat, k ≤ chunkN s ∧ i = .int .i64 ((s.size : Int) - 9 * k) ∧ J (chunkL v k) wr ∧ KpB Bs n₀ W wr)
    (fun i _ => (intOf i + 9).toNat)
  case atStart => exact ⟨0, Nat.zero_le _, by go_num, h0, KeepB.refl _ _, Below.refl _ _⟩
  case round =>
    obtain ⟨k, hk, rfl, hJs, hnx, hbl⟩ := hrel
    have hcb : wr.cell? ⟨Bs, 0, none⟩ = some (.string s) := hnx.cell hBs
    have hkN : k ≤ (s.size + 8) / 9 := hk
    by_cases hlt : k < chunkN s
    · have hltN : k < (s.size + 8) / 9 := hlt
      have hat := Lib.hid (hv k hlt)
      have hstep := Lib.hid (chunkL_succ v k)
      have hpre := Lib.hid (chunkL_pre v (k + 1) (chunkN s) hlt)
      obtain ⟨hi, hhi⟩ : ∃ hi : Nat, (s.size : Int) - 9 * k = hi := ⟨s.size - 9 * k, by omega⟩
      have hi1 : 1 ≤ hi := by omega
      have hi2 : hi ≤ s.size := by omega
      have hsl := Lib.hid (show s.extract (hi - 9) hi = chunkB s k from by rw [chunkB, show s.size - 9 * k = hi from by omega])
      have hsz : (chunkB s k).size ≤ 18 := by rw [← hsl.out]; simp; omega
      have HHI := Lib.hid hhi
      rw [hhi]
      clear hhi hkN
      have hR0 := fun w' (hw : wr.grownBy w' none) => hY (chunkL v k) (v k) w' (hJ _ _ _ hJs hw) (by rw [chunkL_len]; exact hlt)
      by_cases h9 : hi ≤ 9
      · have hs9 : ∀ w' : World, (Instr.slice 9 (.string s) (some (.int .i64 0)) (some (.int .i64 (hi : Int))) none).run Tryz.prog w' = .ok (.string (chunkB s k)) w' := fun w' => by
          rw [run_slice_string _ _ _ _ _ _ _ (by kernel_rfl) (by omega) (by omega) (by omega), ← hsl.out, show hi - 9 = 0 from by omega, Int.toNat_natCast]
          rfl
        gi_wp2_with (refine ⟨trivial, ?_⟩; gi_at_call 88; refine (callsIn_wide.2 (hA _ _ hsz hat.out _)).mono ?_; rintro e w' ⟨rfl, t, rfl⟩)
        obtain ⟨fn, tmps, assign, body, hy, hR⟩ := hR0 _ (grown_bytesWorld wr 5 t)
        have hw5 : KpB Bs n₀ W (Lib.bytesWorld wr 5 t) := ⟨hnx.trans (.of_grownBy (grown_bytesWorld wr 5 t) (by simp)), hbl.trans (below_bytesWorld' wr 5 t n₀ (Nat.le_trans h0l (sizeL hbl)))⟩
        rw [hy]
        gi_wp2
        refine hR.mono ?_
        rintro e W3 (⟨rfl, hJ3, hk3⟩ | ⟨rfl, hJx3⟩)
        · gi_wp2
          go_roundw
          case rel => exact ⟨k + 1, hlt, by have := HHI.out; go_num, by rw [hstep.out]; exact hJ3, hw5.1.trans hk3.1, hw5.2.trans hk3.2⟩
          case measure => first | (simp [intOf]; done) | (simp [intOf]; omega)
        · gi_wp2
          refine bodyPost_ret (results_none rfl _ _ _) rfl ?_
          exact ⟨⟨_, rfl⟩, .inr ⟨_, by rw [← hstep.out]; exact hpre.out, hJx3⟩⟩
      · have hs9 : ∀ w' : World, (Instr.slice 9 (.string s) (some (.int .i64 ((hi : Int) - 9))) (some (.int .i64 (hi : Int))) none).run Tryz.prog w' = .ok (.string (chunkB s k)) w' := fun w' => by
          rw [run_slice_string _ _ _ _ _ _ _ (by kernel_rfl) (by omega) (by omega) (by omega), ← hsl.out]
          have e1 : ((hi : Int) - 9).toNat = hi - 9 := by omega
          rw [e1, Int.toNat_natCast]
        gi_wp2_with (refine ⟨trivial, ?_⟩; gi_at_call 88; refine (callsIn_wide.2 (hA _ _ hsz hat.out _)).mono ?_; rintro e w' ⟨rfl, t, rfl⟩)
        obtain ⟨fn, tmps, assign, body, hy, hR⟩ := hR0 _ (grown_bytesWorld wr 5 t)
        have hw5 : KpB Bs n₀ W (Lib.bytesWorld wr 5 t) := ⟨hnx.trans (.of_grownBy (grown_bytesWorld wr 5 t) (by simp)), hbl.trans (below_bytesWorld' wr 5 t n₀ (Nat.le_trans h0l (sizeL hbl)))⟩
        rw [hy]
        gi_wp2
        refine hR.mono ?_
        rintro e W3 (⟨rfl, hJ3, hk3⟩ | ⟨rfl, hJx3⟩)
        · gi_wp2
          go_roundw
          case rel => exact ⟨k + 1, hlt, by have := HHI.out; go_num, by rw [hstep.out]; exact hJ3, hw5.1.trans hk3.1, hw5.2.trans hk3.2⟩
          case measure => first | (simp [intOf]; done) | (simp [intOf]; omega)
        · gi_wp2
          refine bodyPost_ret (results_none rfl _ _ _) rfl ?_
          exact ⟨⟨_, rfl⟩, .inr ⟨_, by rw [← hstep.out]; exact hpre.out, hJx3⟩⟩
    · obtain rfl : k = chunkN s := by omega
      have hle : (s.size : Int) - 9 * (chunkN s : Nat) ≤ 0 := by
        have : s.size ≤ 9 * chunkN s := by show s.size ≤ 9 * ((s.size + 8) / 9); omega
        omega
      have hd : decide (9 * ((chunkN s : Nat) : Int) < (s.size : Int)) = false := decide_eq_false (by omega)
      gi_wp2
      go_end0
      exact ⟨⟨_, rfl⟩, .inl ⟨_, rfl, hJs⟩⟩
end Go.Proofs.YtlefniheafefgaaGreatDoor

namespace Go.Proofs.YtlefniheafefgaaGreatDoor
open Go.RowKit Go.Shelf Go.Proofs.YtlefniheafefgaaGreatDoorW.PrintWords

theorem chunks_stops (hA : AtoiOK) (n : Nat) (hn : 1 ≤ n) (Bn n₀ : Nat) (s : ByteArray) (v : Nat → Int) (w : World) (hBn : Bn < w.heap.size) (h0 : n₀ ≤ w.heap.size) (hs : s.size ≤ 9223372036854775807)
    (hv : ∀ j, j < chunkN s → Lib.atoi (chunkB s j).data.toList = some (v j)) (hc : w.cell? ⟨Bn, 0, none⟩ = some (.string s)) :
    SeqStopsK Fence.wide n Tryz.prog 87 #[.pointer (some ⟨Bn, 0, none⟩)] (fun x : Int => #[Value.int .i64 x]) (KpB Bn n₀) (fun ys => ys = chunkL v (chunkN s)) (fun pre => pre <+: chunkL v (chunkN s)) (chunkN s) w := fun l J Jx W hW hJ _ hY h0' =>
  chunks1_in hA n hn l Bn n₀ s v J Jx hs hv (fun pre W1 W2 h hg => hJ pre W1 W2 none h hg (fun r e => by cases e)) hY W ((hW.cell (p := ⟨Bn, 0, none⟩) hBn).trans hc) (Nat.lt_of_lt_of_le hBn hW.size) (Nat.le_trans h0 hW.size) h0'

set_option maxHeartbeats 1000000 in
theorem chunks_walk (s : ByteArray) (w : World) :
    Calls Tryz.prog 71 #[.string s] w fun e w' => e = .returned (.func (.func 87) #[] #[.pointer (some ⟨w.heap.size, 0, none⟩)]) ∧ w' = w.alloc (.cells #[.string s] 9) := by
  go_enter Tryz.func71, Tryz.ntmps71
  go_wp2
  go_ret
  exact ⟨rfl, rfl⟩

attribute [local go_sem] Oper.semAt_some

/-- v is a slice that owns, in a block of its own from B on, the ints xs. -/
def OwnI (B : Nat) (v : Value) (xs : List Int) (W : World) : Prop := W.ownsRow B 3 1 v xs.length (xs.map (Value.int .i64))
theorem OwnI.kept {B : Nat} {v : Value} {xs : List Int} {W W' : World} {row : Option Nat} (h : OwnI B v xs W) (hg : W.grownBy W' row) (hr : ∀ r, row = some r → r < B ∨ ∃ o : Obj, W.heap[r]? = some o ∧ o.isCells = false) : OwnI B v xs W' := by
  refine World.ownsRow.kept h hg ?_
  rcases h.2 with ⟨rfl, _⟩ | ⟨g, cap, cur, rfl, hB, hgb, _⟩
  · exact .inl rfl
  · refine .inr fun e' => ?_
    rcases hr g (by simpa [Value.ownBlock] using e'.symm) with h1 | ⟨o, ho, hw⟩
    · omega
    · rw [hgb] at ho; cases ho; cases hw
theorem own_some {base n : Nat} {e : TypeId} {v : Value} {xs : List Value} {W : World} (h : W.ownsRow base e 1 v (n + 1) xs) : ∃ g cap, v = .slice (some ⟨g, 0, none⟩) (n + 1) cap ∧ base ≤ g := by
  rcases h.2 with ⟨_, h0⟩ | ⟨g, cap, cur, e, hB, _⟩
  · exact absurd h0 (by omega)
  · exact ⟨g, cap, e, hB⟩
/-- Between two rounds of AppendSeq. -/
def CI (w : World) (xs : List Int) (W : World) : Prop := (∃ v, Boxed W w.heap.size 63 v ∧ OwnI (w.heap.size + 1) v xs W) ∧ Below w.heap.size w W
theorem cI_own (w : World) (B : Nat) (hB : w.heap.size ≤ B) : OwnFrom B (CI w) := fun xs W W' row h hg hr => by
  obtain ⟨⟨v, hb, ho⟩, hbl⟩ := h
  refine ⟨⟨v, ?_, ho.kept hg (fun r e => .inr (hr r e).2)⟩, hbl.grown hg hbl.size (fun k e => Nat.le_trans hB (hr k e).1)⟩
  exact boxed_own w.heap.size 63 (fun (_ : Unit) => v) () _ _ _ hb hg (fun r e => (hr r e).2)

theorem info_int2 : ∃ i, Tryz.prog.info? 3 = some i ∧ i.zero = some (.int .i64 0) ∧ i.size = 1 ∧ i.bytes = 8 := by
  have h := info_int
  cases hi : Tryz.prog.info? 3 with
  | none => rw [hi] at h; cases h
  | some i =>
    rw [hi] at h
    simp only [Option.map_some, Option.some.injEq, Prod.mk.injEq] at h
    exact ⟨i, rfl, h.1, h.2.1, h.2.2⟩

set_option maxRecDepth 100000 in
set_option maxHeartbeats 2000000 in
theorem append_walk (hA : AtoiOK) (Bn : Nat) (s : ByteArray) (v : Nat → Int) (w : World) (hBn : Bn < w.heap.size) (hs : s.size ≤ 140737488355328)
    (hv : ∀ j, j < chunkN s → Lib.atoi (chunkB s j).data.toList = some (v j)) (hc : w.cell? ⟨Bn, 0, none⟩ = some (.string s)) :
    Calls Tryz.prog 86 #[.slice none 0 0, .func (.func 87) #[] #[.pointer (some ⟨Bn, 0, none⟩)]] w fun e w' => ∃ u, e = .returned u ∧ OwnI (w.heap.size + 1) u (chunkL v (chunkN s)) w' ∧ Below w.heap.size w w' := by
  refine (callsIn_wide (n := 8)).1 ?_
  have hro : Fence.wide.round = none := rfl
  have h1 : 1 ≤ 8 := by omega
  have HV := Lib.hid hv
  clear hv
  refine callsIn_of_wp_marks Tryz.func86 rfl trivial ?_ hro
  simp only [Tryz.ntmps86, List.size_toArray, List.length_cons, List.length_nil, Nat.reduceAdd, Nat.reduceSub, Array.replicate_succ, Array.replicate_zero, List.push_toArray, List.append_toArray, List.nil_append, List.cons_append]
  gi_wp2
  have bS := Boxed.new w 63 (.slice none 0 0)
  have hB0 : Below w.heap.size w (w.alloc (.cells #[.slice none 0 0] 63)) := (Below.refl _ w).alloc (Nat.le_refl _) _
  have hc0 : (w.alloc (.cells #[.slice none 0 0] 63)).cell? ⟨Bn, 0, none⟩ = some (.string s) := (hB0.cell (p := ⟨Bn, 0, none⟩) hBn).trans hc
  have hsz : (w.alloc (.cells #[.slice none 0 0] 63)).heap.size = w.heap.size + 1 := by simp
  obtain ⟨W0, hW0⟩ : ∃ W0, w.alloc (.cells #[.slice none 0 0] 63) = W0 := ⟨_, rfl⟩
  rw [hW0] at bS hB0 hc0 hsz ⊢
  clear hW0
  refine wpIn_rangeFunc_ownF hro h1 (gf := 87) (lb := #[.pointer (some ⟨Bn, 0, none⟩)]) rfl trivial (enters_of Tryz.func87 (by kernel_rfl) rfl)
    (chunks_stops hA (8 - 1) (by omega) Bn w.heap.size s v W0 (by omega) (by omega) (by omega) HV.out hc0) kpB_t (kpB_b (by omega) (by omega)) (Below.refl _ _) (fun _ => rfl)
    (CI w) (fun _ _ _ => False) (cI_own w _ (by omega)) (fun _ _ _ _ _ hs _ _ => hs)
    ⟨⟨_, bS, by constructor; rfl; exact .inl ⟨rfl, rfl⟩⟩, hB0⟩
    (fun x => { tmps := #[.slice none 0 0, .func (.func 87) #[] #[.pointer (some ⟨Bn, 0, none⟩)], .pointer (some ⟨w.heap.size, 0, none⟩), undef, .slice none 0 0, .int .i64 x, .func (.func 87) #[] #[.pointer (some ⟨Bn, 0, none⟩)], .int .i64 x, undef, undef, undef, undef, undef], defers := [] }) ?assign ?body ?done ?stop
  case assign =>
    intro l x W K hK
    gi_wp2
    exact hK
  case body =>
    rintro l pre x W ⟨⟨u, hb, ho⟩, hbl⟩ hlt
    have cS := hb.cell
    obtain ⟨i0, hi, hz0, hz1, hz2⟩ := info_int2
    have Hi := Lib.hid hi
    have Hz0 := Lib.hid hz0
    have Hz1 := Lib.hid hz1
    have Hz2 := Lib.hid hz2
    clear hi hz0 hz1 hz2
    have hlen : pre.length < (s.size + 8) / 9 := hlt
    have hWs := hbl.size
    have HO := Lib.hid ho
    have HBL := Lib.hid hbl
    have HBX := Lib.hid hb
    clear ho hbl hb
    have hOA := Lib.hid (World.ownsRow.alloc HO.out (.cells #[.int .i64 x] 3))
    have hBA := Lib.hid (HBX.out.alloc (.cells #[.int .i64 x] 3))
    have hBlt := HBX.out.lt
    gi_wp2_with (gi_at_builtin; refine wpListIn_append_own _ rfl _ _ 63 rfl (w.heap.size + 1) 3 i0 (.int .i64 0) 1 8 Tryz.underlying63 Hi.out Hz0.out Hz1.out Hz2.out rfl (by decide) _ _ _ rfl hOA.out ⟨W.heap.size, 0, none⟩ 1 1 [.int .i64 x] rfl rfl (cell_one_new _ _ _) (by simp [Value.oneCell']) (by simp [maxLen]; omega) (by omega) (by simp; omega) ?_; intro v' w3 hown' hg3 hnil3; obtain ⟨g', cap', rfl, hbase'⟩ := own_some hown'; have hB3 : Boxed w3 w.heap.size 63 u := (hg3.block w.heap.size (by simp; omega) (fun e => by have := hOA.out.lt _ e.symm; omega)).trans hBA.out; have cS3 := hB3.cell; have fS3 := hB3.frozen; have HO3 := Lib.hid hown'; have HG3 := Lib.hid hg3; have HB3 := Lib.hid hB3; clear hown' hg3 hnil3 hB3; try go_frame)
    have hbW : Below w.heap.size W w3 := ((Below.refl _ W).alloc hWs _).grown HG3.out (by simp; omega) (fun k e => by have := hOA.out.lt _ e; omega)
    have hk3 : KeepsOthers W w3 := (KeepsOthers.alloc W _).trans (KeepsOthers.of_grownBy HG3.out (fun j o e ho => by
      rcases hOA.out.2 with ⟨rfl, _⟩ | ⟨g, cap, cur, rfl, _, hgb, _⟩
      · cases e
      · cases e
        rw [hgb] at ho
        cases ho
        rfl))
    have hbW4 := hbW.setCell (p := ⟨w.heap.size, 0, none⟩) (Nat.le_refl _) (.slice (some ⟨g', 0, none⟩) (pre.length + 1) cap')
    refine ⟨hk3.trans (KeepsOthers.setCell _ _ _), ⟨.of_below hbW4 hBn, hbW4⟩, ⟨_, HB3.out.set _, ?_⟩, HBL.out.trans hbW4⟩
    have e := OwnI.kept (B := w.heap.size + 1) (v := .slice (some ⟨g', 0, none⟩) (pre.length + 1) cap') (xs := pre ++ [x]) (W := w3) (by unfold OwnI; simpa using HO3.out) (grownBy_setCell' w3 w.heap.size (.slice (some ⟨g', 0, none⟩) (pre.length + 1) cap')) (fun r e => by cases e; left; omega)
    exact e
  case done =>
    rintro D zs W hD rfl ⟨⟨u, hb, ho⟩, hbl⟩ hK
    have cS := hb.cell
    have HO := Lib.hid ho
    have HBL := Lib.hid hbl
    clear ho hbl hb
    gi_wp2
    refine ⟨by simp, .inl ⟨_, _, rfl, run_takeDeferred hK, ?_⟩⟩
    exact ⟨_, by simp [results, Tryz.results86, go_sem], ⟨_, rfl, HO.out.kept (grownBy_putObj' W D (.deferred none)) (fun r e => by cases e; exact .inr ⟨_, hK, rfl⟩), HBL.out.trans (belowK_b (w := w) (Nat.le_refl _) _ D _ _ (by omega) hK rfl rfl)⟩⟩
  case stop =>
    rintro D c pre W _ _ h _
    exact h.elim
set_option maxHeartbeats 1000000 in
theorem collect_walk (hA : AtoiOK) (Bn : Nat) (s : ByteArray) (v : Nat → Int) (w : World) (hBn : Bn < w.heap.size) (hs : s.size ≤ 140737488355328)
    (hv : ∀ j, j < chunkN s → Lib.atoi (chunkB s j).data.toList = some (v j)) (hc : w.cell? ⟨Bn, 0, none⟩ = some (.string s)) :
    Calls Tryz.prog 70 #[.func (.func 87) #[] #[.pointer (some ⟨Bn, 0, none⟩)]] w fun e w' => ∃ u, e = .returned u ∧ OwnI (w.heap.size + 1) u (chunkL v (chunkN s)) w' ∧ Below w.heap.size w w' := by
  have HV := Lib.hid hv
  have HC := Lib.hid hc
  clear hv hc
  go_enter Tryz.func70, Tryz.ntmps70
  go_wp2_with (go_at_call 86; refine (append_walk hA Bn s v _ hBn hs HV.out HC.out).mono ?_; rintro e w' ⟨u, rfl, hO, hB⟩; have HO := Lib.hid hO; have HB := Lib.hid hB; clear hO hB)
  go_ret
  exact ⟨_, rfl, HO.out, HB.out⟩
end Go.Proofs.YtlefniheafefgaaGreatDoor

namespace Go.Proofs.YtlefniheafefgaaGreatDoor
open Go.RowKit Go.Shelf Go.Proofs.YtlefniheafefgaaGreatDoorW.PrintWords

/-- What strings.CutPrefix is asked to do. -/
def CutOK : Prop := ∀ (s p : ByteArray) (w : World), Calls Tryz.prog 68 #[.string s, .string p] w fun e w' => e = .returned (.tuple #[.string ⟨(Lib.trimPrefix s.data.toList p.data.toList).toArray⟩, .bool (Lib.hasPrefix s.data.toList p.data.toList)]) ∧ w' = w

theorem cell_at {W : World} {B : Nat} {cs : Array Value} {t : TypeId} (h : W.heap[B]? = some (.cells cs t (0, 0))) (k : Nat) : W.cell? ⟨B, k, none⟩ = cs[k]? := by simp [World.cell?, h]
theorem frozen_at {W : World} {B : Nat} {cs : Array Value} {t : TypeId} (h : W.heap[B]? = some (.cells cs t (0, 0))) (k : Nat) : W.frozen? ⟨B, k, none⟩ = false := by simp [World.frozen?, h]
theorem reads_set {W : World} {A : Option Addr} {n : Nat} {xs : List Int} (h : ReadsInt W .i64 A n xs) {p : Addr} (v : Value) (hp : ∀ ad, A = some ad → p.block ≠ ad.block) : ReadsInt (W.setCell p v) .i64 A n xs :=
  ⟨h.1, h.2.1, fun hn => by
    obtain ⟨ad, e, hc⟩ := h.2.2 hn
    exact ⟨ad, e, fun j hj => (World.cell?_of_block (Below.heap_setCell W p v (ad.add j).block (by rw [add_block]; exact fun e2 => hp ad e e2.symm))).trans (hc j hj)⟩⟩
/-- What lies behind a slice that owns its ints. -/
theorem OwnI.slice {B : Nat} {u : Value} {xs : List Int} {W : World} (h : OwnI B u xs W) : ∃ A c, u = .slice A xs.length c ∧ ReadsInt W .i64 A xs.length xs ∧ xs.length ≤ c ∧ c ≤ 9223372036854775807 ∧ (∀ ad, A = some ad → B ≤ ad.block ∧ ad.block < W.heap.size) := by
  rcases h.2 with ⟨rfl, h0⟩ | ⟨g, cap, cur, rfl, hB, hgb, h1, h2, h3, h4⟩
  · refine ⟨none, 0, by rw [h0], ⟨rfl, by omega, fun hn => by omega⟩, by omega, by omega, fun ad e => by cases e⟩
  · have h2' : cap ≤ 9223372036854775807 := by simpa [maxLen] using h2
    refine ⟨some ⟨g, 0, none⟩, cap, rfl, ⟨rfl, by omega, fun hn => ⟨_, rfl, fun j hj => ?_⟩⟩, h1, h2', fun ad e => by cases e; exact ⟨hB, (Array.getElem?_eq_some_iff.1 hgb).1⟩⟩
    have e : cur[j]? = some (.int .i64 (xs.getD j 0)) := by
      have h5 := congrArg (fun l => l[j]?) h4
      simp only [Nat.mul_one] at h5
      rw [List.getElem?_take_of_lt hj, Array.getElem?_toList] at h5
      rw [h5]
      simp [hj]
    have e2 : (Addr.add ⟨g, 0, none⟩ j) = ⟨g, j, none⟩ := by simp only [Addr.add]; split <;> simp_all
    rw [e2]
    simp [World.cell?, hgb, e]

set_option maxRecDepth 100000 in
set_option maxHeartbeats 2000000 in
theorem read_walk (hA : AtoiOK) (hC : CutOK) (a : ByteArray) (v : Nat → Int) (w : World) (neg : Bool) (s : ByteArray) (hneg : Lib.hasPrefix a.data.toList [45] = neg) (hsx : (⟨(Lib.trimPrefix a.data.toList [45]).toArray⟩ : ByteArray) = s) (hs : s.size ≤ 140737488355328)
    (hv : ∀ j, j < chunkN s → Lib.atoi (chunkB s j).data.toList = some (v j)) :
    Calls Tryz.prog 58 #[.string a] w fun e w' => ∃ A c, e = .returned (.agg #[.bool neg, .slice A (tlen (chunkL v (chunkN s)) (chunkN s)) c]) ∧ ReadsInt w' .i64 A (chunkN s) (chunkL v (chunkN s)) ∧ chunkN s ≤ c ∧ c ≤ 9223372036854775807 ∧ (∀ ad, A = some ad → w.heap.size ≤ ad.block ∧ ad.block < w'.heap.size) ∧ Below w.heap.size w w' := by
  have HV := Lib.hid hv
  have HN := Lib.hid hneg
  have HS := Lib.hid hsx
  clear hv hneg hsx
  go_enter Tryz.func58, Tryz.ntmps58
  have hcell : ((w.alloc (.cells #[.bool false, .slice none 0 0] 65)).alloc (.cells #[.string s] 9)).cell? ⟨w.heap.size + 1, 0, none⟩ = some (.string s) := by
    have := (Boxed.new (w.alloc (.cells #[.bool false, .slice none 0 0] 65)) 9 (.string s)).cell
    rwa [World.size_alloc] at this
  have hblk : ((w.alloc (.cells #[.bool false, .slice none 0 0] 65)).alloc (.cells #[.string s] 9)).heap[w.heap.size]? = some (.cells #[.bool false, .slice none 0 0] 65) :=
    (Below.heap_alloc _ _ _ (by simp)).trans (World.alloc_heap_new w _)
  have HCL := Lib.hid hcell
  have HBK := Lib.hid hblk
  clear hcell hblk
  go_wp2_with (first
    | (go_at_call 68; refine (hC _ _ _).mono ?_; rintro e w' ⟨rfl, rfl⟩; rw [show (ByteArray.mk #[45]).data.toList = [45] from rfl, HN.out, HS.out])
    | (go_at_call 71; refine (chunks_walk _ _).mono ?_; rintro e w' ⟨rfl, rfl⟩)
    | (go_at_call 70; refine (collect_walk hA (w.heap.size + 1) s v _ (by simp) hs HV.out HCL.out).mono ?_; rintro e w2 ⟨u, rfl, hO, hB⟩; obtain ⟨A, c, rfl, hr, hnc, hc, hA'⟩ := hO.slice; rw [chunkL_len] at hr hnc; rw [chunkL_len]; have HR := Lib.hid hr; have HA' := Lib.hid hA'; have HB := Lib.hid hB; clear hr hA' hB hO)
    | (go_at_call 69; refine (trim_any _ _ _ _ _ HR.out hnc hc).mono ?_; rintro e w' ⟨rfl, rfl⟩; have hb2 := (HB.out.block w.heap.size (by simp; omega)).trans HBK.out; have c0 := cell_at hb2 0; have c1 := cell_at hb2 1; have f0 := frozen_at hb2 0; have f1 := frozen_at hb2 1; simp only [List.getElem?_toArray, List.getElem?_cons_zero, List.getElem?_cons_succ] at c0 c1; clear hb2))
  have hb2 := (HB.out.block w.heap.size (by simp; omega)).trans HBK.out
  have hAb : ∀ ad, A = some ad → w.heap.size ≠ ad.block := fun ad e => by
    have := (HA'.out ad e).1
    simp at this
    omega
  have hBW : Below w.heap.size w w' := (((Below.refl _ w).alloc (Nat.le_refl _) _).alloc (by simp) _).trans (HB.out.mono (by simp; omega))
  have hBW2 := (hBW.setCell (p := ⟨w.heap.size, 0, none⟩) (Nat.le_refl _) (.bool neg)).setCell (p := ⟨w.heap.size, 1, none⟩) (Nat.le_refl _) (.slice A (tlen (chunkL v (chunkN s)) (chunkN s)) c)
  have hR2 := reads_set (reads_set HR.out (p := ⟨w.heap.size, 0, none⟩) (.bool neg) hAb) (p := ⟨w.heap.size, 1, none⟩) (.slice A (tlen (chunkL v (chunkN s)) (chunkN s)) c) hAb
  have hA2 : ∀ ad, A = some ad → w.heap.size ≤ ad.block ∧ ad.block < ((w'.setCell ⟨w.heap.size, 0, none⟩ (.bool neg)).setCell ⟨w.heap.size, 1, none⟩ (.slice A (tlen (chunkL v (chunkN s)) (chunkN s)) c)).heap.size := fun ad e => by
    have := HA'.out ad e
    simp [World.setCell] at this ⊢
    omega
  refine bodyPost_ret (results_cell_row rfl _ _ w.heap.size 65 #[.bool neg, .slice A (tlen (chunkL v (chunkN s)) (chunkN s)) c] (0, 0) _ rfl (blk_put (cs := #[.bool neg, .slice none 0 0]) (blk_put (cs := #[.bool false, .slice none 0 0]) hb2 0 _ rfl) 1 _ rfl) Tryz.underlying65 rfl (by kernel_rfl)) rfl ?_
  exact ⟨A, c, rfl, hR2, hnc, hc, hA2, hBW2⟩
end Go.Proofs.YtlefniheafefgaaGreatDoor
