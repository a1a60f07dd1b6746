/- bigint.short: a magnitude divided by one limb. · bigint.plus: the sum of two magnitudes. · bigint.minus: the difference of two magnitudes. -/
import Derived.Test.YtlefniheafefgaaGreatDoorFound
import Derived.BigRegionIn
import Derived.Sort.QuietTacIn
import Derived.Deep.CutRange
set_option linter.unusedVariables false
set_option linter.unusedSimpArgs false
namespace Go.Proofs.YtlefniheafefgaaGreatDoor
open Go.RowKit Go.Shelf Go.Proofs.YtlefniheafefgaaGreatDoorW.PrintWords

attribute [local go_sem] Oper.semAt_some

theorem KeepB.setAt {B : Nat} {X Y : World} (h : KeepB B X Y) {b : Nat} (hb : b ≠ B) (o : Nat) (v : Value) : KeepB B X (Y.setCell ⟨b, o, none⟩ v) := h.trans ⟨fun ob e => (Below.heap_setCell Y ⟨b, o, none⟩ v B (fun q => hb q.symm)).trans e⟩
/-- Block B is a row of ints. -/
def Rowd (B : Nat) (xs : List Int) (W : World) : Prop := W.heap[B]? = some (.cells (nums .i64 xs).toArray 3 (0, 0))
theorem Rowd.lt {B : Nat} {xs : List Int} {W : World} (h : Rowd B xs W) : B < W.heap.size := (Array.getElem?_eq_some_iff.1 h).1
theorem Rowd.cell {B : Nat} {xs : List Int} {W : World} (h : Rowd B xs W) (k : Nat) (hk : k < xs.length) : W.cell? ⟨B, k, none⟩ = some (.int .i64 (xs[k]?.getD 0)) := by
  simp [World.cell?, show W.heap[B]? = _ from h, nums, hk]
theorem Rowd.frozen {B : Nat} {xs : List Int} {W : World} (h : Rowd B xs W) (k : Nat) : W.frozen? ⟨B, k, none⟩ = false := by simp [World.frozen?, show W.heap[B]? = _ from h]
theorem Rowd.alloc {B : Nat} {xs : List Int} {W : World} (h : Rowd B xs W) (o : Obj) : Rowd B xs (W.alloc o) := (Below.heap_alloc W o B h.lt).trans h
theorem rowd_own (B : Nat) {β : Type} (f : β → List Int) : Own (fun (s : β) W => Rowd B (f s) W) := fun s W W' row h hg hr => (hg.block B (Rowd.lt h) (fun e => by
  obtain ⟨o, ho, hc⟩ := hr B e.symm
  rw [show W.heap[B]? = _ from h] at ho
  cases ho
  cases hc)).trans h
theorem Rowd.other {B : Nat} {xs : List Int} {W : World} (h : Rowd B xs W) {b : Nat} (hb : b ≠ B) (o : Nat) (v : Value) : Rowd B xs (W.setCell ⟨b, o, none⟩ v) := (Below.heap_setCell W ⟨b, o, none⟩ v B (fun e => hb e.symm)).trans h
theorem Rowd.store {B : Nat} {xs : List Int} {W : World} (h : Rowd B xs W) (k : Nat) (v : Int) : Rowd B (xs.set k v) (W.setCell ⟨B, k, none⟩ (.int .i64 v)) := by
  obtain ⟨hlt, he⟩ := Array.getElem?_eq_some_iff.1 h
  show (W.heap.modify B _)[B]? = _
  rw [Array.getElem?_eq_getElem (by rw [Array.size_modify]; exact hlt), Array.getElem_modify_self, he]
  simp [nums, List.map_set]
theorem Rowd.drew {B : Nat} {xs : List Int} {W : World} (h : Rowd B xs W) : Rowd B xs W.drew := h
theorem Rowd.made (W : World) (n : Nat) : Rowd W.heap.size (List.replicate n 0) (W.alloc (.cells (madeCells #[.int .i64 0] n) 3)) := by
  have h := World.alloc_heap_new W (.cells (madeCells #[.int .i64 0] n) 3)
  unfold Rowd
  rw [h]
  congr 2
  apply Array.toList_inj.1
  apply List.ext_getElem
  · simp [nums, madeCells]
  · intro i h1 h2
    simp [nums, madeCells, Nat.mod_one]
theorem rowd_reads {B : Nat} {xs : List Int} {W : World} (h : Rowd B xs W) (hx : xs.length ≤ 9223372036854775807 := by omega) : ReadsInt W .i64 (some ⟨B, 0, none⟩) xs.length xs := ⟨rfl, hx, fun _ => ⟨_, rfl, fun j hj => by
  have e := h.cell j hj
  rw [List.getD_eq_getElem?_getD, ← e, show (Addr.add ⟨B, 0, none⟩ j) = ⟨B, j, none⟩ from by simp only [Addr.add]; split <;> simp_all]⟩⟩
theorem boxed_other {W : World} {B : Nat} {t : TypeId} {v : Value} (h : Boxed W B t v) {b : Nat} (hb : b ≠ B) (o : Nat) (u : Value) : Boxed (W.setCell ⟨b, o, none⟩ u) B t v := (Below.heap_setCell W ⟨b, o, none⟩ u B (fun e => hb e.symm)).trans h

/-- The quotient's limbs and the remainder, after some places. -/
def shF (d : Int) (xs : List Int) {n : Nat} (pre : List (Fin n)) : List Int × Int :=
  pre.foldl (fun s i => (s.1.set i.val ((s.2 * 1000000000 + xs[i.val]?.getD 0) / d), (s.2 * 1000000000 + xs[i.val]?.getD 0) % d)) (List.replicate n 0, 0)
theorem shF_snoc (d : Int) (xs : List Int) {n : Nat} (pre : List (Fin n)) (x : Fin n) : shF d xs (pre ++ [x]) = ((shF d xs pre).1.set x.val (((shF d xs pre).2 * 1000000000 + xs[x.val]?.getD 0) / d), ((shF d xs pre).2 * 1000000000 + xs[x.val]?.getD 0) % d) := by simp [shF]
theorem shF_rest (d : Int) (hd : 1 ≤ d) (xs : List Int) {n : Nat} (pre : List (Fin n)) : 0 ≤ (shF d xs pre).2 ∧ (shF d xs pre).2 < d := by
  rcases List.eq_nil_or_concat pre with rfl | ⟨l, x, rfl⟩
  · simp [shF]; omega
  · rw [List.concat_eq_append, shF_snoc]
    exact ⟨Int.emod_nonneg _ (by omega), Int.emod_lt_of_pos _ (by omega)⟩
theorem shF_len (d : Int) (xs : List Int) {n : Nat} (pre : List (Fin n)) : (shF d xs pre).1.length = n := by
  suffices H : ∀ (l : List (Fin n)) (s : List Int × Int), s.1.length = n → (l.foldl (fun s i => (s.1.set i.val ((s.2 * 1000000000 + xs[i.val]?.getD 0) / d), (s.2 * 1000000000 + xs[i.val]?.getD 0) % d)) s).1.length = n from H pre _ (by simp)
  intro l
  induction l with
  | nil => intro s h; exact h
  | cons i l ih => intro s h; exact ih _ (by simpa using h)

set_option maxRecDepth 100000 in
theorem info_int : (Tryz.prog.info? 3).map (fun i => (i.zero, i.size, i.bytes)) = some (some (.int .i64 0), 1, 8) := by kernel_rfl

set_option maxRecDepth 100000 in
set_option maxHeartbeats 8000000 in
theorem short_walk (A : Option Addr) (n c : Nat) (xs : List Int) (d : Int) (w : World) (hx : RI w.heap.size w A n xs) (hn : n ≤ 35184372088832) (hd : 1 ≤ d) (hd2 : d ≤ 1000000000) (hb : ∀ i : Fin n, 0 ≤ xs[i.val]?.getD 0 ∧ xs[i.val]?.getD 0 < 1000000000) :
    Calls Tryz.prog 116 #[.slice A n c, .int .i64 d] w fun e W' => e = .returned (.tuple #[.slice (some ⟨w.heap.size + 1, 0, none⟩) (tlen (shF d xs (bwl n n)).1 n) n, .int .i64 (shF d xs (bwl n n)).2]) ∧ Rowd (w.heap.size + 1) (shF d xs (bwl n n)).1 W' ∧ Below w.heap.size w W' := by
  refine (callsIn_wide (n := 8)).1 ?_
  have hro : Fence.wide.round = none := rfl
  have h1 : 1 ≤ 8 := by omega
  have hmix : Tryz.prog.follows .mixedOrders = true := by kernel_rfl
  have hmk := print_make (P := Tryz.prog) 63 3 .i64 8 Tryz.underlying63 info_int (by decide) n (by omega)
  refine callsIn_of_wp_marks Tryz.func116 rfl trivial ?_ hro
  simp only [Tryz.ntmps116, List.size_toArray, List.length_cons, List.length_nil, Nat.reduceAdd, Nat.reduceSub, Array.replicate_succ, Array.replicate_zero, List.push_toArray, List.append_toArray, List.nil_append, List.cons_append]
  have HX := Lib.hid hx
  have HB := Lib.hid hb
  clear hx hb
  gi_wp2_with (refine ⟨trivial, ?_⟩; gi_at_call 89; refine (bwd_in Fence.wide (8 - 1) trivial hro _ _ _ _).mono ?_; rintro e w' ⟨rfl, rfl⟩)
  have bD := ((((Boxed.new w 3 (.int .i64 d)).alloc (.cells (madeCells #[.int .i64 0] n) 3)).alloc (.cells #[.slice (some ⟨w.heap.size + 1, 0, none⟩) n n] 63)).alloc (.cells #[.int .i64 0] 3)).alloc (.cells #[.slice A n c] 63)
  have bW := (((Rowd.made (w.alloc (.cells #[.int .i64 d] 3)) n).alloc (.cells #[.slice (some ⟨w.heap.size + 1, 0, none⟩) n n] 63)).alloc (.cells #[.int .i64 0] 3)).alloc (.cells #[.slice A n c] 63)
  have bO := ((Boxed.new ((w.alloc (.cells #[.int .i64 d] 3)).alloc (.cells (madeCells #[.int .i64 0] n) 3)) 63 (.slice (some ⟨w.heap.size + 1, 0, none⟩) n n)).alloc (.cells #[.int .i64 0] 3)).alloc (.cells #[.slice A n c] 63)
  have bR := (Boxed.new (((w.alloc (.cells #[.int .i64 d] 3)).alloc (.cells (madeCells #[.int .i64 0] n) 3)).alloc (.cells #[.slice (some ⟨w.heap.size + 1, 0, none⟩) n n] 63)) 3 (.int .i64 0)).alloc (.cells #[.slice A n c] 63)
  have bX := Boxed.new ((((w.alloc (.cells #[.int .i64 d] 3)).alloc (.cells (madeCells #[.int .i64 0] n) 3)).alloc (.cells #[.slice (some ⟨w.heap.size + 1, 0, none⟩) n n] 63)).alloc (.cells #[.int .i64 0] 3)) 63 (.slice A n c)
  simp only [World.size_alloc] at bD bW bO bR bX
  have hB0 : Below w.heap.size w (((((w.alloc (.cells #[.int .i64 d] 3)).alloc (.cells (madeCells #[.int .i64 0] n) 3)).alloc (.cells #[.slice (some ⟨w.heap.size + 1, 0, none⟩) n n] 63)).alloc (.cells #[.int .i64 0] 3)).alloc (.cells #[.slice A n c] 63)) := (((((Below.refl _ w).alloc (Nat.le_refl _) _).alloc (by simp) _).alloc (by simp; omega) _).alloc (by simp; omega) _).alloc (by simp; omega) _
  have hsz : (((((w.alloc (.cells #[.int .i64 d] 3)).alloc (.cells (madeCells #[.int .i64 0] n) 3)).alloc (.cells #[.slice (some ⟨w.heap.size + 1, 0, none⟩) n n] 63)).alloc (.cells #[.int .i64 0] 3)).alloc (.cells #[.slice A n c] 63)).heap.size = w.heap.size + 5 := by simp
  obtain ⟨W0, hW0⟩ : ∃ W0, ((((w.alloc (.cells #[.int .i64 d] 3)).alloc (.cells (madeCells #[.int .i64 0] n) 3)).alloc (.cells #[.slice (some ⟨w.heap.size + 1, 0, none⟩) n n] 63)).alloc (.cells #[.int .i64 0] 3)).alloc (.cells #[.slice A n c] 63) = W0 := ⟨_, rfl⟩
  rw [hW0] at bD bW bO bR bX hB0 hsz ⊢
  clear hW0 hmk
  refine wpIn_rangeFunc_ownF hro h1 (gf := 110) (lb := #[.pointer (some ⟨w.heap.size + 1 + 1 + 1 + 1, 0, none⟩)]) rfl trivial (enters_of Tryz.func110 (by kernel_rfl) rfl)
    (bwd_stops Fence.wide (8 - 1) trivial hro (by omega) (w.heap.size + 1 + 1 + 1 + 1) w.heap.size A n c xs W0 (by omega) (by omega) bX.cell (HX.out.below hB0)) kpB_t (kpB_b (by omega) (by omega)) (Below.refl _ _) (fun _ => rfl)
    (fun pre W => (((Boxed W w.heap.size 3 (.int .i64 d) ∧ Boxed W (w.heap.size + 1 + 1) 63 (.slice (some ⟨w.heap.size + 1, 0, none⟩) n n)) ∧ Boxed W (w.heap.size + 1 + 1 + 1) 3 (.int .i64 (shF d xs pre).2)) ∧ Rowd (w.heap.size + 1) (shF d xs pre).1 W) ∧ Below w.heap.size w W)
    (fun _ _ _ => False)
    (OwnFrom.and (OwnFrom.and (OwnFrom.and (OwnFrom.and (Own.from (boxed_own _ _ _) _) (Own.from (boxed_own _ _ _) _)) (Own.from (boxed_own _ _ _) _)) (Own.from (rowd_own _ _) _)) (ownFrom_below (Nat.le_refl _) (by omega)))
    (fun _ _ _ _ _ hs _ _ => hs)
    ⟨⟨⟨⟨bD, bO⟩, bR⟩, bW⟩, hB0⟩
    (fun x => { tmps := #[.slice A n c, .int .i64 d, undef, .pointer (some ⟨w.heap.size, 0, none⟩), .slice none 0 0, .int .i64 0, .pointer (some ⟨w.heap.size + 1 + 1, 0, none⟩), .pointer (some ⟨w.heap.size + 1 + 1 + 1, 0, none⟩), .int .i64 (x.val : Int), .int .i64 (xs[x.val]?.getD 0), .slice A n c, .int .i64 (n : Int), .slice (some ⟨w.heap.size + 1, 0, none⟩) n n, .slice A n c, .func (.func 110) #[] #[.pointer (some ⟨w.heap.size + 1 + 1 + 1 + 1, 0, none⟩)], .int .i64 (x.val : Int), .int .i64 (xs[x.val]?.getD 0), undef, undef, undef, undef, undef, undef, undef, undef, undef, undef, undef, undef, undef, undef, undef, undef], defers := [] }) ?assign ?body ?done ?stop
  case assign =>
    intro l x W K hK
    gi_wp2
    exact hK
  case body =>
    rintro l pre x W ⟨⟨⟨⟨bD1, bO1⟩, bR1⟩, bW1⟩, hB1⟩ hlt
    have hxb := HB.out x
    have hrest := shF_rest d hd xs pre
    have hlen := shF_len d xs pre
    have hstep := Lib.hid (shF_snoc d xs pre x)
    have hxlt := x.isLt
    generalize shF d xs pre = st at *
    generalize xs[x.val]?.getD 0 = v at *
    have hq : 0 ≤ st.2 * 1000000000 + v ∧ st.2 * 1000000000 + v < 1000000000000000000 := by omega
    have cD := bD1.cell
    have cR := bR1.cell
    have fR := bR1.frozen
    gi_wp2
    generalize st.snd * 1000000000 + v = t at *
    have hlR := bR1.lt
    obtain ⟨W1, hW1, k1, k2, d1, o1, r1, g1, b1⟩ : ∃ W1, W1 = W.setCell ⟨w.heap.size + 1 + 1 + 1, 0, none⟩ (.int .i64 t) ∧ KeepsOthers W W1 ∧ KpB (w.heap.size + 1 + 1 + 1 + 1) w.heap.size W W1 ∧ Boxed W1 w.heap.size 3 (.int .i64 d) ∧ Boxed W1 (w.heap.size + 1 + 1) 63 (.slice (some ⟨w.heap.size + 1, 0, none⟩) n n) ∧ Boxed W1 (w.heap.size + 1 + 1 + 1) 3 (.int .i64 t) ∧ Rowd (w.heap.size + 1) st.1 W1 ∧ Below w.heap.size w W1 :=
      ⟨_, rfl, KeepsOthers.setCell _ _ _, ⟨(KeepB.refl _ W).setCell (by omega) _, (Below.refl _ W).setCell (p := ⟨w.heap.size + 1 + 1 + 1, 0, none⟩) (by simp; omega) _⟩, bD1.other (by omega) _, bO1.other (by omega) _, bR1.set _, bW1.other (by omega) _ _, hB1.setCell (p := ⟨w.heap.size + 1 + 1 + 1, 0, none⟩) (by simp; omega) _⟩
    rw [← hW1]
    clear hW1 bD1 bO1 bR1 bW1 cD cR fR hB1
    have hd0 : (d == 0) = false := by rw [beq_eq_false_iff_ne]; omega
    have ht0 : 0 ≤ t := hq.1
    have hdn : d ≠ 0 := by omega
    have htq : t.tdiv d = t / d := Int.tdiv_eq_ediv_of_nonneg ht0
    have htm : t.tmod d = t % d := Int.tmod_eq_emod_of_nonneg ht0
    have hqw : IntKind.i64.wrap (t / d) = t / d := by
      have h1 : 0 ≤ t / d := Int.ediv_nonneg ht0 (by omega)
      have h2 : t / d ≤ t := Int.ediv_le_self _ ht0
      rw [IntKind.wrap_i64]
      omega
    obtain ⟨V0, hV0⟩ : ∃ V0 : World, W1.drew = V0 := ⟨_, rfl⟩
    have k1 : KeepsOthers W V0 := hV0 ▸ k1.trans (KeepsOthers.drew _)
    have k2 : KpB (w.heap.size + 1 + 1 + 1 + 1) w.heap.size W V0 := hV0 ▸ ⟨k2.1.drew, k2.2.drew⟩
    have d0 : Boxed V0 w.heap.size 3 (.int .i64 d) := hV0 ▸ d1
    have o0 : Boxed V0 (w.heap.size + 1 + 1) 63 (.slice (some ⟨w.heap.size + 1, 0, none⟩) n n) := hV0 ▸ o1
    have r0 : Boxed V0 (w.heap.size + 1 + 1 + 1) 3 (.int .i64 t) := hV0 ▸ r1
    have g0 : Rowd (w.heap.size + 1) st.1 V0 := hV0 ▸ g1
    have b0 : Below w.heap.size w V0 := hV0 ▸ b1.drew
    clear d1 o1 r1 g1 b1
    obtain ⟨V1, hV1⟩ : ∃ V1 : World, V0.setCell ⟨w.heap.size + 1, x.val, none⟩ (.int .i64 (t / d)) = V1 := ⟨_, rfl⟩
    have k1 : KeepsOthers W V1 := hV1 ▸ k1.trans (KeepsOthers.setCell _ _ _)
    have k2 : KpB (w.heap.size + 1 + 1 + 1 + 1) w.heap.size W V1 := hV1 ▸ ⟨k2.1.setAt (b := w.heap.size + 1) (by omega) _ _, k2.2.setCell (p := ⟨w.heap.size + 1, x.val, none⟩) (by simp) _⟩
    have d1 : Boxed V1 w.heap.size 3 (.int .i64 d) := hV1 ▸ boxed_other d0 (by omega) _ _
    have o1 : Boxed V1 (w.heap.size + 1 + 1) 63 (.slice (some ⟨w.heap.size + 1, 0, none⟩) n n) := hV1 ▸ boxed_other o0 (by omega) _ _
    have r1 : Boxed V1 (w.heap.size + 1 + 1 + 1) 3 (.int .i64 t) := hV1 ▸ boxed_other r0 (by omega) _ _
    have g1 : Rowd (w.heap.size + 1) (st.1.set x.val (t / d)) V1 := hV1 ▸ g0.store x.val (t / d)
    have b1 : Below w.heap.size w V1 := hV1 ▸ b0.setCell (p := ⟨w.heap.size + 1, x.val, none⟩) (by simp) _
    obtain ⟨V2, hV2⟩ : ∃ V2 : World, V1.setCell ⟨w.heap.size + 1 + 1 + 1, 0, none⟩ (.int .i64 (t % d)) = V2 := ⟨_, rfl⟩
    have k1 : KeepsOthers W V2 := hV2 ▸ k1.trans (KeepsOthers.setCell _ _ _)
    have k2 : KpB (w.heap.size + 1 + 1 + 1 + 1) w.heap.size W V2 := hV2 ▸ ⟨k2.1.setCell (b := w.heap.size + 1 + 1 + 1) (by omega) _, k2.2.setCell (p := ⟨w.heap.size + 1 + 1 + 1, 0, none⟩) (by simp; omega) _⟩
    have d2 : Boxed V2 w.heap.size 3 (.int .i64 d) := hV2 ▸ d1.other (by omega) _
    have o2 : Boxed V2 (w.heap.size + 1 + 1) 63 (.slice (some ⟨w.heap.size + 1, 0, none⟩) n n) := hV2 ▸ o1.other (by omega) _
    have r2 : Boxed V2 (w.heap.size + 1 + 1 + 1) 3 (.int .i64 (t % d)) := hV2 ▸ r1.set _
    have g2 : Rowd (w.heap.size + 1) (st.1.set x.val (t / d)) V2 := hV2 ▸ g1.other (by omega) _ _
    have b2 : Below w.heap.size w V2 := hV2 ▸ b1.setCell (p := ⟨w.heap.size + 1 + 1 + 1, 0, none⟩) (by simp; omega) _
    have cW := g0.cell x.val (by omega)
    have fW := g0.frozen x.val
    have cR := r1.cell
    have fR := r1.frozen
    refine region_table_round hmix (fun i => ([.slice (some ⟨w.heap.size + 1, 0, none⟩) n n, .int .i64 x.val, .int .i64 t, .int .i64 d, .int .i64 (t / d), .int .i64 t, .int .i64 d, .int .i64 (t % d), .pointer (some ⟨w.heap.size + 1, x.val, none⟩), undef, undef] : List Value).getD i undef) [9, 10]
      (fun k => ([V0, V1, V2] : List World).getD k V0) (by kernel_rfl) hV0.symm ?rd ?st ?fin
    case rd =>
      clear hrest hstep HB HX bD bW bO bR bX hB0 hxb hlt k1 k2
      refine ⟨?_, ?_, ?_, ?_, ?_, ?_, ?_, ?_, ?_, ?_, ?_, trivial⟩
      · intro _ k hk hn a hK
        have e0 := hK.rest' 6 (by kernel_rfl)
        rcases k with _ | _ | _ | k
        · simp only [execOp, e0]; simp [go_sem, o0.cell]
        · exact absurd hn (by rw [Bool.not_eq_true]; kernel_rfl)
        · exact absurd hn (by rw [Bool.not_eq_true]; kernel_rfl)
        · exfalso; simp only [List.length_cons, List.length_nil] at hk; omega
      · intro _ k hk hn a hK
        have e0 := hK.rest' 8 (by kernel_rfl)
        rcases k with _ | _ | _ | k
        · simp only [execOp, e0]; simp [go_sem]
        · exact absurd hn (by rw [Bool.not_eq_true]; kernel_rfl)
        · exact absurd hn (by rw [Bool.not_eq_true]; kernel_rfl)
        · exfalso; simp only [List.length_cons, List.length_nil] at hk; omega
      · intro _ k hk hn a hK
        have e0 := hK.rest' 7 (by kernel_rfl)
        rcases k with _ | _ | _ | k
        · simp only [execOp, e0]; simp [go_sem, r0.cell]
        · exact absurd hn (by rw [Bool.not_eq_true]; kernel_rfl)
        · exact absurd hn (by rw [Bool.not_eq_true]; kernel_rfl)
        · exfalso; simp only [List.length_cons, List.length_nil] at hk; omega
      · intro _ k hk hn a hK
        have e0 := hK.rest' 3 (by kernel_rfl)
        rcases k with _ | _ | _ | k
        · simp only [execOp, e0]; simp [go_sem, d0.cell]
        · exact absurd hn (by rw [Bool.not_eq_true]; kernel_rfl)
        · exact absurd hn (by rw [Bool.not_eq_true]; kernel_rfl)
        · exfalso; simp only [List.length_cons, List.length_nil] at hk; omega
      · intro _ k hk hn a hK
        have e0 := hK.done 2 23 rfl (by kernel_rfl)
        have e1 := hK.done 3 24 rfl (by kernel_rfl)
        rcases k with _ | _ | _ | k
        · simp only [execOp, e0, e1]; simp [go_sem, hdn, htq, htm, hqw]
        · exact absurd hn (by rw [Bool.not_eq_true]; kernel_rfl)
        · exact absurd hn (by rw [Bool.not_eq_true]; kernel_rfl)
        · exfalso; simp only [List.length_cons, List.length_nil] at hk; omega
      · intro _ k hk hn a hK
        have e0 := hK.rest' 7 (by kernel_rfl)
        rcases k with _ | _ | _ | k
        · simp only [execOp, e0]; simp [go_sem, r0.cell]
        · simp only [execOp, e0]; simp [go_sem, r1.cell]
        · exact absurd hn (by rw [Bool.not_eq_true]; kernel_rfl)
        · exfalso; simp only [List.length_cons, List.length_nil] at hk; omega
      · intro _ k hk hn a hK
        have e0 := hK.rest' 3 (by kernel_rfl)
        rcases k with _ | _ | _ | k
        · simp only [execOp, e0]; simp [go_sem, d0.cell]
        · simp only [execOp, e0]; simp [go_sem, d1.cell]
        · exact absurd hn (by rw [Bool.not_eq_true]; kernel_rfl)
        · exfalso; simp only [List.length_cons, List.length_nil] at hk; omega
      · intro _ k hk hn a hK
        have e0 := hK.done 5 26 rfl (by kernel_rfl)
        have e1 := hK.done 6 27 rfl (by kernel_rfl)
        rcases k with _ | _ | _ | k
        · simp only [execOp, e0, e1]; simp [go_sem, hdn, htq, htm, hqw]
        · simp only [execOp, e0, e1]; simp [go_sem, hdn, htq, htm, hqw]
        · exact absurd hn (by rw [Bool.not_eq_true]; kernel_rfl)
        · exfalso; simp only [List.length_cons, List.length_nil] at hk; omega
      · intro _ k hk hn a hK
        have e0 := hK.done 0 21 rfl (by kernel_rfl)
        have e1 := hK.done 1 22 rfl (by kernel_rfl)
        rcases k with _ | _ | _ | k
        · simp only [execOp, e0, e1]; simp [go_sem, hdn, htq, htm, hqw]
        · exact absurd hn (by rw [Bool.not_eq_true]; kernel_rfl)
        · exact absurd hn (by rw [Bool.not_eq_true]; kernel_rfl)
        · exfalso; simp only [List.length_cons, List.length_nil] at hk; omega
      · intro hc
        cases hc
      · intro hc
        cases hc
    case st =>
      clear hrest hstep HB HX bD bW bO bR bX hB0 hxb hlt k1 k2
      intro u hu o ho a hK
      rcases u with _ | _ | u
      · cases ho
        have e0 := hK.done 8 29 rfl (by kernel_rfl)
        have e1 := hK.done 4 25 rfl (by kernel_rfl)
        refine .inr ⟨?_, rfl⟩
        simp only [execOp, e0, e1]; simp [go_sem, cW, fW, hV1]
      · cases ho
        have e0 := hK.rest' 7 (by kernel_rfl)
        have e1 := hK.done 7 28 rfl (by kernel_rfl)
        refine .inr ⟨?_, rfl⟩
        simp only [execOp, e0, e1]; simp [go_sem, cR, fR, hV2]
      · exfalso; simp only [List.length_cons, List.length_nil] at hu; omega
    case fin =>
      refine ⟨k1, k2, ?_⟩
      show (((Boxed V2 _ _ _ ∧ Boxed V2 _ _ _) ∧ Boxed V2 _ _ (.int .i64 (shF d xs (pre ++ [x])).2)) ∧ Rowd _ (shF d xs (pre ++ [x])).1 V2) ∧ Below _ _ V2
      rw [hstep.out]
      exact ⟨⟨⟨⟨d2, o2⟩, r2⟩, g2⟩, b2⟩
  case done =>
    rintro D zs W hD rfl ⟨⟨⟨⟨bD1, bO1⟩, bR1⟩, bW1⟩, hB1⟩ hK
    have cO := bO1.cell
    have cR := bR1.cell
    have hlen := shF_len d xs (bwl n n)
    have HT := Lib.hid (rowd_reads bW1)
    rw [hlen] at HT
    have HW := Lib.hid bW1
    have HB1 := Lib.hid hB1
    clear bD1 bO1 bR1 bW1 hB1 hB0 bX bR bO bW bD
    gi_wp2
    refine wpIn_region_quiet_lit hro (by kernel_rfl) (by kernel_rfl) ?_
    repeat (
      (refine wpQuietIn_step (by first | (simp [Oper.askedIn, Oper.about, Fence.list]; exact fun _ _ _ => trivial) | quiet_asked_in) (fun K hK => ?_)
       go_simp
       first
         | (refine hK _ ?_; clear hK K)
         | (apply Exists.intro
            refine ⟨fun _ => ?_, hK _ ?_⟩
            ((gi_at_call 69; exact CallsIn.quiet_of_same (callsIn_wide.2 (trim_any _ _ _ _ _ (HT.out.drewN _) (Nat.le_refl _) (by omega)))))
            clear hK K)))
    refine wpQuietIn_nil ?_
    rintro _ ⟨m, rfl⟩
    have hK2 : (W.drewN m).heap[D]? = some (.deferred (some [])) := hK
    gi_wp2
    refine ⟨by simp, .inl ⟨_, _, rfl, run_takeDeferred hK2, ?_⟩⟩
    have hB2 : Below w.heap.size w (W.drewN m) := ⟨HB1.out.os, HB1.out.tape, HB1.out.output, HB1.out.size, HB1.out.block⟩
    have hR : Rowd (w.heap.size + 1) (shF d xs (bwl n n)).1 ((W.drewN m).putObj D (.deferred none)) := rowd_own (w.heap.size + 1) (fun (_ : Unit) => (shF d xs (bwl n n)).1) () _ _ _ (show Rowd (w.heap.size + 1) (shF d xs (bwl n n)).1 (W.drewN m) from HW.out) (grownBy_putObj' _ D (.deferred none)) (fun r e => by cases e; exact ⟨_, hK2, rfl⟩)
    exact ⟨_, by simp [results, Tryz.results116, go_sem], rfl, hR, hB2.trans (belowK_b (w := w) (Nat.le_refl _) _ D _ _ (by omega) hK2 rfl rfl)⟩
  case stop =>
    rintro D c pre W _ _ h _
    exact h.elim
end Go.Proofs.YtlefniheafefgaaGreatDoor

namespace Go.Proofs.YtlefniheafefgaaGreatDoor
open Go.RowKit Go.Shelf Go.Proofs.YtlefniheafefgaaGreatDoorW.PrintWords

/-- The limbs of the sum and the carry, after k places. -/
def plS (xs ys : List Int) (k : Nat) (c : Int) : Int := c + (if k < xs.length then xs[k]?.getD 0 else 0) + (if k < ys.length then ys[k]?.getD 0 else 0)
def plF (xs ys : List Int) : Nat → List Int × Int
  | 0 => (List.replicate (xs.length + 1) 0, 0)
  | k + 1 => ((plF xs ys k).1.set k (plS xs ys k (plF xs ys k).2 % 1000000000), plS xs ys k (plF xs ys k).2 / 1000000000)
theorem plF_len (xs ys : List Int) : ∀ k, (plF xs ys k).1.length = xs.length + 1
  | 0 => by simp [plF]
  | k + 1 => by simp [plF, plF_len xs ys k]
def limbs (xs : List Int) : Prop := ∀ i : Nat, 0 ≤ xs[i]?.getD 0 ∧ xs[i]?.getD 0 < 1000000000
theorem plF_carry {xs ys : List Int} (hx : limbs xs) (hy : limbs ys) : ∀ k, 0 ≤ (plF xs ys k).2 ∧ (plF xs ys k).2 ≤ 1
  | 0 => by simp [plF]
  | k + 1 => by
    have h := plF_carry hx hy k
    have h1 := hx k
    have h2 := hy k
    simp only [plF, plS]
    split <;> split <;> omega
def plL (xs ys : List Int) : List Int := if xs.length < ys.length then (plF ys xs (ys.length + 1)).1 else (plF xs ys (xs.length + 1)).1

set_option maxRecDepth 100000 in
set_option maxHeartbeats 2000000 in
theorem plus_walk (A B : Option Addr) (n m c e : Nat) (xs ys : List Int) (w : World) (hx : RI w.heap.size w A n xs) (hy : RI w.heap.size w B m ys) (hxl : limbs xs) (hyl : limbs ys) (hn : n ≤ 35184372088831) (hm : m ≤ 35184372088831) :
    Calls Tryz.prog 72 #[.slice A n c, .slice B m e] w fun e w' => e = .returned (.slice (some ⟨w.heap.size, 0, none⟩) (tlen (plL xs ys) (plL xs ys).length) (plL xs ys).length) ∧ Rowd w.heap.size (plL xs ys) w' ∧ Below w.heap.size w w' := by
  have HX := Lib.hid hx
  have HY := Lib.hid hy
  have HXl := Lib.hid hxl
  have HYl := Lib.hid hyl
  clear hx hy hxl hyl
  go_enter Tryz.func72, Tryz.ntmps72
  go_upto_if 12 with (fail)
  go_cut [0, 1] (fun a b wx => ∃ (A1 B1 : Option Addr) (n1 m1 c1 e1 : Nat) (xs1 ys1 : List Int), a = .slice A1 n1 c1 ∧ b = .slice B1 m1 e1 ∧ wx = w ∧ m1 ≤ n1 ∧ n1 ≤ 35184372088831 ∧ Hid (RI w.heap.size w A1 n1 xs1) ∧ Hid (RI w.heap.size w B1 m1 ys1) ∧ Hid (limbs xs1) ∧ Hid (limbs ys1) ∧ Hid (plL xs ys = (plF xs1 ys1 (n1 + 1)).1))
  case first =>
    by_cases h : n < m
    · have hl : Hid (plL xs ys = (plF ys xs (m + 1)).1) := by
        show plL xs ys = _
        have h1 := HX.out.1
        have h2 := HY.out.1
        rw [plL, if_pos (by omega), h2]
      go_wp2
      go_meet
      exact ⟨B, A, m, n, e, c, ys, xs, rfl, rfl, rfl, by omega, hm, HY, HX, HYl, HXl, hl⟩
    · have hl : Hid (plL xs ys = (plF xs ys (n + 1)).1) := by
        show plL xs ys = _
        have h1 := HX.out.1
        have h2 := HY.out.1
        rw [plL, if_neg (by omega), h1]
      go_wp2
      go_meet
      exact ⟨A, B, n, m, c, e, xs, ys, rfl, rfl, rfl, by omega, hn, HX, HY, HXl, HYl, hl⟩
  case rest =>
    obtain ⟨A1, B1, n1, m1, c1, e1, xs1, ys1, rfl, rfl, rfl, hmn, hn1, HX1, HY1, HXl1, HYl1, HL⟩ := hcut
    clear HX HY HXl HYl hn hm
    have hmk := print_make (P := Tryz.prog) 63 3 .i64 8 Tryz.underlying63 info_int (by decide) (n1 + 1) (by omega)
    simp only [Int.natCast_add, Int.cast_ofNat_Int] at hmk
    go_wp2
    clear hmk
    go_loopw [6, 21] (fun cv iv wr => ∃ k : Nat, k ≤ n1 + 1 ∧ iv = .int .i64 k ∧ cv = .int .i64 (plF xs1 ys1 k).2 ∧ Hid (Rowd wc.heap.size (plF xs1 ys1 k).1 wr) ∧ Hid (Below wc.heap.size wc wr)) (fun _ i _ => n1 + 1 - (intOf i).toNat)
    case atStart =>
      have h1 := HX1.out.1
      exact ⟨0, by omega, rfl, rfl, Lib.hid (by rw [plF, h1]; exact Rowd.made wc (n1 + 1)), Lib.hid ((Below.refl _ wc).alloc (Nat.le_refl _) _)⟩
    case round =>
      obtain ⟨k, hk, rfl, rfl, HR, HB⟩ := hrel
      by_cases h0 : k < n1 + 1
      · have hcar := plF_carry HXl1.out HYl1.out k
        have cW := HR.out.cell k (by rw [plF_len, HX1.out.1]; omega)
        have fW := HR.out.frozen k
        by_cases h1 : k < n1
        · obtain ⟨ad1, rfl, hlt1, hc1⟩ := (HX1.out.below HB.out).2.2 (by omega)
          have cX := hc1 k h1
          have hv := HXl1.out k
          clear hc1
          by_cases h2 : k < m1
          · obtain ⟨ad2, rfl, hlt2, hc2⟩ := (HY1.out.below HB.out).2.2 (by omega)
            have cY := hc2 k h2
            have hu := HYl1.out k
            clear hc2
            have HT : Hid (plS xs1 ys1 k (plF xs1 ys1 k).2 = (plF xs1 ys1 k).2 + xs1[k]?.getD 0 + ys1[k]?.getD 0) := by
              show plS _ _ _ _ = _
              rw [plS, if_pos (by rw [HX1.out.1]; omega), if_pos (by rw [HY1.out.1]; omega)]
            generalize xs1[k]?.getD 0 = v at *
            generalize ys1[k]?.getD 0 = u at *
            generalize hcc : (plF xs1 ys1 k).2 = cc at *
            have HC := Lib.hid hcc
            clear hcc
            go_wp2
            refine ⟨⟨k + 1, by omega, rfl, ?_, Lib.hid ?_, Lib.hid (HB.out.setCell (p := ⟨wc.heap.size, k, none⟩) (Nat.le_refl _) _)⟩, by simp only [intOf]; omega⟩
            · have e : plS xs1 ys1 k (plF xs1 ys1 k).2 = cc + v + u := by rw [HC.out, HT.out]
              simp only [plF, e]
            · have e : plS xs1 ys1 k (plF xs1 ys1 k).2 = cc + v + u := by rw [HC.out, HT.out]
              simp only [plF, e]
              exact HR.out.store k _
          · have HT : Hid (plS xs1 ys1 k (plF xs1 ys1 k).2 = (plF xs1 ys1 k).2 + xs1[k]?.getD 0 + 0) := by
              show plS _ _ _ _ = _
              rw [plS, if_pos (by rw [HX1.out.1]; omega), if_neg (by rw [HY1.out.1]; omega)]
            generalize xs1[k]?.getD 0 = v at *
            generalize hcc : (plF xs1 ys1 k).2 = cc at *
            have HC := Lib.hid hcc
            clear hcc
            go_wp2
            refine ⟨⟨k + 1, by omega, rfl, ?_, Lib.hid ?_, Lib.hid (HB.out.setCell (p := ⟨wc.heap.size, k, none⟩) (Nat.le_refl _) _)⟩, by simp only [intOf]; omega⟩
            · have e : plS xs1 ys1 k (plF xs1 ys1 k).2 = cc + v := by rw [HC.out, HT.out]; omega
              simp only [plF, e]
            · have e : plS xs1 ys1 k (plF xs1 ys1 k).2 = cc + v := by rw [HC.out, HT.out]; omega
              simp only [plF, e]
              exact HR.out.store k _
        · have h2 : ¬ k < m1 := by omega
          have HT : Hid (plS xs1 ys1 k (plF xs1 ys1 k).2 = (plF xs1 ys1 k).2 + 0 + 0) := by
            show plS _ _ _ _ = _
            rw [plS, if_neg (by rw [HX1.out.1]; omega), if_neg (by rw [HY1.out.1]; omega)]
          generalize hcc : (plF xs1 ys1 k).2 = cc at *
          have HC := Lib.hid hcc
          clear hcc
          go_wp2
          refine ⟨⟨k + 1, by omega, rfl, ?_, Lib.hid ?_, Lib.hid (HB.out.setCell (p := ⟨wc.heap.size, k, none⟩) (Nat.le_refl _) _)⟩, by simp only [intOf]; omega⟩
          · have e : plS xs1 ys1 k (plF xs1 ys1 k).2 = cc := by rw [HC.out, HT.out]; omega
            simp only [plF, e]
          · have e : plS xs1 ys1 k (plF xs1 ys1 k).2 = cc := by rw [HC.out, HT.out]; omega
            simp only [plF, e]
            exact HR.out.store k _
      · have HT := Lib.hid (rowd_reads HR.out (by rw [plF_len, HX1.out.1]; omega))
        rw [plF_len, HX1.out.1] at HT
        have hl : Hid ((plL xs ys).length = n1 + 1) := by show (plL xs ys).length = _; rw [HL.out, plF_len, HX1.out.1]
        obtain rfl : k = n1 + 1 := by omega
        go_wp2_with (go_at_call 69; refine (trim_any _ _ _ _ _ HT.out (Nat.le_refl _) (by omega)).mono ?_; rintro e w' ⟨rfl, rfl⟩)
        go_ret
        exact ⟨by rw [hl.out, HL.out]; rfl, by rw [HL.out]; exact HR.out, HB.out⟩
end Go.Proofs.YtlefniheafefgaaGreatDoor

namespace Go.Proofs.YtlefniheafefgaaGreatDoor
open Go.RowKit Go.Shelf Go.Proofs.YtlefniheafefgaaGreatDoorW.PrintWords

/-- The digit before the borrow, at place k. -/
def mnS (xs ys : List Int) (k : Nat) (b : Int) : Int := xs[k]?.getD 0 - b - (if k < ys.length then ys[k]?.getD 0 else 0)
def mnF (xs ys : List Int) : Nat → List Int × Int
  | 0 => (List.replicate xs.length 0, 0)
  | k + 1 => if mnS xs ys k (mnF xs ys k).2 < 0 then ((mnF xs ys k).1.set k (mnS xs ys k (mnF xs ys k).2 + 1000000000), 1) else ((mnF xs ys k).1.set k (mnS xs ys k (mnF xs ys k).2), 0)
theorem mnF_len (xs ys : List Int) : ∀ k, (mnF xs ys k).1.length = xs.length
  | 0 => by simp [mnF]
  | k + 1 => by
    simp only [mnF]
    split <;> simp [mnF_len xs ys k]
theorem mnF_borrow (xs ys : List Int) : ∀ k, 0 ≤ (mnF xs ys k).2 ∧ (mnF xs ys k).2 ≤ 1
  | 0 => by simp [mnF]
  | k + 1 => by
    simp only [mnF]
    split <;> simp
def mnL (xs ys : List Int) : List Int := (mnF xs ys xs.length).1

set_option maxRecDepth 100000 in
set_option maxHeartbeats 2000000 in
theorem minus_walk (A B : Option Addr) (n m c e : Nat) (xs ys : List Int) (w : World) (hx : RI w.heap.size w A n xs) (hy : RI w.heap.size w B m ys) (hxl : limbs xs) (hyl : limbs ys) (hn : n ≤ 35184372088831) (hm : m ≤ 35184372088831) :
    Calls Tryz.prog 76 #[.slice A n c, .slice B m e] w fun e w' => e = .returned (.slice (some ⟨w.heap.size, 0, none⟩) (tlen (mnL xs ys) (mnL xs ys).length) (mnL xs ys).length) ∧ Rowd w.heap.size (mnL xs ys) w' ∧ Below w.heap.size w w' := by
  have HX1 := Lib.hid hx
  have HY1 := Lib.hid hy
  have HXl1 := Lib.hid hxl
  have HYl1 := Lib.hid hyl
  have HL : Hid (mnL xs ys = (mnF xs ys n).1) := by show mnL xs ys = _; rw [mnL, hx.1]
  clear hx hy hxl hyl
  have hmk := print_make (P := Tryz.prog) 63 3 .i64 8 Tryz.underlying63 info_int (by decide) n (by omega)
  go_enter Tryz.func76, Tryz.ntmps76
  go_wp2
  clear hmk
  go_loopw [6, 14] (fun cv iv wr => ∃ k : Nat, k ≤ n ∧ iv = .int .i64 k ∧ cv = .int .i64 (mnF xs ys k).2 ∧ Hid (Rowd w.heap.size (mnF xs ys k).1 wr) ∧ Hid (Below w.heap.size w wr)) (fun _ i _ => n - (intOf i).toNat)
  case atStart =>
    have h1 := HX1.out.1
    exact ⟨0, by omega, rfl, rfl, Lib.hid (by rw [mnF, h1]; exact Rowd.made w n), Lib.hid ((Below.refl _ w).alloc (Nat.le_refl _) _)⟩
  case round =>
    obtain ⟨k, hk, rfl, rfl, HR, HB⟩ := hrel
    by_cases h0 : k < n
    · have hbor := mnF_borrow xs ys k
      have cW := HR.out.cell k (by rw [mnF_len, HX1.out.1]; omega)
      have fW := HR.out.frozen k
      obtain ⟨ad1, rfl, hlt1, hc1⟩ := (HX1.out.below HB.out).2.2 (by omega)
      have cX := hc1 k h0
      have hv := HXl1.out k
      clear hc1
      by_cases h2 : k < m
      · obtain ⟨ad2, rfl, hlt2, hc2⟩ := (HY1.out.below HB.out).2.2 (by omega)
        have cY := hc2 k h2
        have hu := HYl1.out k
        clear hc2
        have HT : Hid (mnS xs ys k (mnF xs ys k).2 = xs[k]?.getD 0 - (mnF xs ys k).2 - ys[k]?.getD 0) := by
          show mnS _ _ _ _ = _
          rw [mnS, if_pos (by rw [HY1.out.1]; omega)]
        generalize xs[k]?.getD 0 = v at *
        generalize ys[k]?.getD 0 = u at *
        generalize hcc : (mnF xs ys k).2 = cc at *
        have HC := Lib.hid hcc
        clear hcc
        have he : Hid (mnS xs ys k (mnF xs ys k).2 = v - cc - u) := by show mnS xs ys k (mnF xs ys k).2 = _; rw [HC.out, HT.out]
        by_cases hd : v - cc - u < 0
        · have hs : Hid (mnF xs ys (k + 1) = ((mnF xs ys k).1.set k (v - cc - u + 1000000000), 1)) := by
            show mnF xs ys (k + 1) = _
            rw [mnF, he.out, if_pos hd]
          go_wp2
          refine ⟨⟨k + 1, by omega, rfl, by rw [hs.out], Lib.hid ?_, Lib.hid (HB.out.setCell (p := ⟨w.heap.size, k, none⟩) (Nat.le_refl _) _)⟩, by simp only [intOf]; omega⟩
          rw [hs.out]
          exact HR.out.store k _
        · have hs : Hid (mnF xs ys (k + 1) = ((mnF xs ys k).1.set k (v - cc - u), 0)) := by
            show mnF xs ys (k + 1) = _
            rw [mnF, he.out, if_neg hd]
          go_wp2
          refine ⟨⟨k + 1, by omega, rfl, by rw [hs.out], Lib.hid ?_, Lib.hid (HB.out.setCell (p := ⟨w.heap.size, k, none⟩) (Nat.le_refl _) _)⟩, by simp only [intOf]; omega⟩
          rw [hs.out]
          exact HR.out.store k _
      · have HT : Hid (mnS xs ys k (mnF xs ys k).2 = xs[k]?.getD 0 - (mnF xs ys k).2 - 0) := by
          show mnS _ _ _ _ = _
          rw [mnS, if_neg (by rw [HY1.out.1]; omega)]
        generalize xs[k]?.getD 0 = v at *
        generalize hcc : (mnF xs ys k).2 = cc at *
        have HC := Lib.hid hcc
        clear hcc
        have he : Hid (mnS xs ys k (mnF xs ys k).2 = v - cc) := by show mnS xs ys k (mnF xs ys k).2 = _; rw [HC.out, HT.out]; omega
        by_cases hd : v - cc < 0
        · have hs : Hid (mnF xs ys (k + 1) = ((mnF xs ys k).1.set k (v - cc + 1000000000), 1)) := by
            show mnF xs ys (k + 1) = _
            rw [mnF, he.out, if_pos hd]
          go_wp2
          refine ⟨⟨k + 1, by omega, rfl, by rw [hs.out], Lib.hid ?_, Lib.hid (HB.out.setCell (p := ⟨w.heap.size, k, none⟩) (Nat.le_refl _) _)⟩, by simp only [intOf]; omega⟩
          rw [hs.out]
          exact HR.out.store k _
        · have hs : Hid (mnF xs ys (k + 1) = ((mnF xs ys k).1.set k (v - cc), 0)) := by
            show mnF xs ys (k + 1) = _
            rw [mnF, he.out, if_neg hd]
          go_wp2
          refine ⟨⟨k + 1, by omega, rfl, by rw [hs.out], Lib.hid ?_, Lib.hid (HB.out.setCell (p := ⟨w.heap.size, k, none⟩) (Nat.le_refl _) _)⟩, by simp only [intOf]; omega⟩
          rw [hs.out]
          exact HR.out.store k _
    · have HT := Lib.hid (rowd_reads HR.out (by rw [mnF_len, HX1.out.1]; omega))
      rw [mnF_len, HX1.out.1] at HT
      have hl : Hid ((mnL xs ys).length = n) := by show (mnL xs ys).length = _; rw [HL.out, mnF_len, HX1.out.1]
      obtain rfl : k = n := by omega
      go_wp2_with (go_at_call 69; refine (trim_any _ _ _ _ _ HT.out (Nat.le_refl _) (by omega)).mono ?_; rintro e w' ⟨rfl, rfl⟩)
      go_ret
      exact ⟨by rw [hl.out, HL.out]; rfl, by rw [HL.out]; exact HR.out, HB.out⟩
end Go.Proofs.YtlefniheafefgaaGreatDoor
