/- sign.Refine: the walk. -/
import Derived.Test.YtlefniheafefgaaSignRef
import Derived.BigRegionIn
set_option linter.unusedVariables false
set_option linter.unusedSimpArgs false
namespace Go.Proofs.Ytlefniheafefgaa
open Go.RowKit Go.Shelf

attribute [local go_sem] Oper.semAt_some

set_option maxRecDepth 100000 in
set_option maxHeartbeats 8000000 in
theorem refine_ok (op s t : Int) (w : World) (h2 : 2 ≤ op) (h5 : op ≤ 5) (hb : chk2 s t = 0) :
    Calls Try.prog 7 #[.int .i64 op, .int .i64 s, .int .i64 t] w fun e W' => e = .returned (.tuple #[.int .i64 (refAll op (sgl s 3) (sgl t 3)).1, .int .i64 (refAll op (sgl s 3) (sgl t 3)).2, .int .i64 0]) ∧ Below w.heap.size w W' := by
  have hboth := fun w => both_any s t w
  rw [hb] at hboth
  have Hboth := Lib.hid hboth
  clear hboth hb
  have e2 : decide (op < 2) = false := by simp; omega
  have e5 : decide (5 < op) = false := by simp; omega
  refine (callsIn_wide (n := 8)).1 ?_
  have hro : Fence.wide.round = none := rfl
  have h1 : 1 ≤ 8 := by omega
  have hmix : Try.prog.follows .mixedOrders = true := by kernel_rfl
  refine callsIn_of_wp_marks Try.func7 rfl trivial ?_ hro
  simp only [Try.ntmps7, List.size_toArray, List.length_cons, List.length_nil, Nat.reduceAdd, Nat.reduceSub, Array.replicate_succ, Array.replicate_zero, List.push_toArray, List.append_toArray, List.nil_append, List.cons_append]
  gi_wp2_with (first | (refine ⟨trivial, ?_⟩; gi_at_call 23; refine (signs_in Fence.wide (8 - 1) trivial rfl _ _).mono ?_; rintro e w' ⟨rfl, rfl⟩) | (refine ⟨trivial, ?_⟩; gi_at_call 22; refine (callsIn_wide.2 (Hboth.out _)).mono ?_; rintro e w' ⟨rfl, rfl⟩))
  have bO := ((((Boxed.new w 3 (.int .i64 op)).alloc (.cells #[.int .i64 t] 3)).alloc (.cells #[.int .i64 0] 3)).alloc (.cells #[.int .i64 0] 3)).alloc (.cells #[.int .i64 s] 3)
  have bT := (((Boxed.new (w.alloc (.cells #[.int .i64 op] 3)) 3 (.int .i64 t)).alloc (.cells #[.int .i64 0] 3)).alloc (.cells #[.int .i64 0] 3)).alloc (.cells #[.int .i64 s] 3)
  have bA := ((Boxed.new ((w.alloc (.cells #[.int .i64 op] 3)).alloc (.cells #[.int .i64 t] 3)) 3 (.int .i64 0)).alloc (.cells #[.int .i64 0] 3)).alloc (.cells #[.int .i64 s] 3)
  have bB := (Boxed.new (((w.alloc (.cells #[.int .i64 op] 3)).alloc (.cells #[.int .i64 t] 3)).alloc (.cells #[.int .i64 0] 3)) 3 (.int .i64 0)).alloc (.cells #[.int .i64 s] 3)
  have bS := Boxed.new ((((w.alloc (.cells #[.int .i64 op] 3)).alloc (.cells #[.int .i64 t] 3)).alloc (.cells #[.int .i64 0] 3)).alloc (.cells #[.int .i64 0] 3)) 3 (.int .i64 s)
  simp only [World.size_alloc] at bO bT bA bB bS
  have hB0 : Below w.heap.size w (((((w.alloc (.cells #[.int .i64 op] 3)).alloc (.cells #[.int .i64 t] 3)).alloc (.cells #[.int .i64 0] 3)).alloc (.cells #[.int .i64 0] 3)).alloc (.cells #[.int .i64 s] 3)) := (((((Below.refl _ w).alloc (Nat.le_refl _) _).alloc (by simp) _).alloc (by simp; omega) _).alloc (by simp; omega) _).alloc (by simp; omega) _
  have hsz : (((((w.alloc (.cells #[.int .i64 op] 3)).alloc (.cells #[.int .i64 t] 3)).alloc (.cells #[.int .i64 0] 3)).alloc (.cells #[.int .i64 0] 3)).alloc (.cells #[.int .i64 s] 3)).heap.size = w.heap.size + 5 := by simp
  obtain ⟨W0, hW0⟩ : ∃ W0, ((((w.alloc (.cells #[.int .i64 op] 3)).alloc (.cells #[.int .i64 t] 3)).alloc (.cells #[.int .i64 0] 3)).alloc (.cells #[.int .i64 0] 3)).alloc (.cells #[.int .i64 s] 3) = W0 := ⟨_, rfl⟩
  rw [hW0] at bO bT bA bB bS hB0 hsz ⊢
  clear hW0
  refine wpIn_rangeFunc_ownH hro h1 (gf := 40) (lb := #[.pointer (some ⟨w.heap.size + 1 + 1 + 1 + 1, 0, none⟩)]) rfl trivial (enters_of Try.func40 (by kernel_rfl) rfl)
    (signs_stops Fence.wide (8 - 1) trivial hro (by omega) (w.heap.size + 1 + 1 + 1 + 1) s W0 (by omega) bS.cell) keepB_t (keepB_b (by omega)) (Below.refl _ _) (fun _ => rfl)
    (fun pre W => (((Boxed W (w.heap.size + 1 + 1) 3 (.int .i64 (refAll op pre (sgl t 3)).1) ∧ Boxed W (w.heap.size + 1 + 1 + 1) 3 (.int .i64 (refAll op pre (sgl t 3)).2)) ∧ Boxed W (w.heap.size + 1) 3 (.int .i64 t)) ∧ Boxed W w.heap.size 3 (.int .i64 op)) ∧ Below w.heap.size w W)
    (fun _ _ _ => False)
    (OwnFrom.and (OwnFrom.and (OwnFrom.and (OwnFrom.and (Own.from (boxed_own _ _ _) _) (Own.from (boxed_own _ _ _) _)) (Own.from (boxed_own _ _ _) _)) (Own.from (boxed_own _ _ _) _)) (ownFrom_below (Nat.le_refl _) (by omega)))
    (fun _ _ _ _ _ hs _ _ => hs)
    ⟨⟨⟨⟨bA, bB⟩, bT⟩, bO⟩, hB0⟩
    (fun x a' W => ∃ Bx, w.heap.size + 1 + 1 + 1 < Bx ∧ Boxed W Bx 3 (.int .i64 (x.val : Int)) ∧ a' = { tmps := #[.int .i64 op, .int .i64 s, .int .i64 t, .pointer (some ⟨w.heap.size, 0, none⟩), undef, .pointer (some ⟨w.heap.size + 1, 0, none⟩), .int .i64 0, .int .i64 0, .int .i64 0, .int .i64 0, .pointer (some ⟨w.heap.size + 1 + 1, 0, none⟩), .pointer (some ⟨w.heap.size + 1 + 1 + 1, 0, none⟩), .pointer (some ⟨Bx, 0, none⟩), undef, .int .i64 op, .bool false, .bool false, .int .i64 op, .bool false, .bool false, .int .i64 s, .int .i64 t, .int .i64 0, .int .i64 0, .bool false, undef, .int .i64 s, .func (.func 40) #[] #[.pointer (some ⟨w.heap.size + 1 + 1 + 1 + 1, 0, none⟩)], .int .i64 (x.val : Int), undef, undef, undef, undef, undef, undef, undef, undef, undef, undef, undef, undef, undef, undef, undef, undef, undef], defers := [] })
    (fun x a' _ X Y row hs hg hr => by obtain ⟨Bx, h1, h2, h3⟩ := hs; exact ⟨Bx, h1, boxed_own Bx 3 (fun (_ : Unit) => Value.int .i64 (x.val : Int)) () X Y row h2 hg (fun r e => (hr r e).2), h3⟩)
    ?assign ?body ?done ?stop
  case assign =>
    rintro l pre x W K ⟨⟨⟨⟨bA1, bB1⟩, bT1⟩, bO1⟩, hB1⟩ hK
    gi_wp2
    exact hK _ _ ((KeepsOthers.alloc _ _).from _) ((KeepB.refl _ W).alloc _) ⟨⟨⟨⟨bA1.alloc _, bB1.alloc _⟩, bT1.alloc _⟩, bO1.alloc _⟩, hB1.alloc hB1.size _⟩ ⟨W.heap.size, bB1.lt, Boxed.new W 3 _, rfl⟩
  case body =>
    rintro l pre x a' W hl ⟨r, hr⟩ ⟨⟨⟨⟨bA1, bB1⟩, bT1⟩, bO1⟩, hB1⟩ ⟨Bx, hBx, bX, rfl⟩ hlt
    have cT := bT1.cell
    have h1' : 1 ≤ 8 - 1 - 1 := by omega
    gi_wp2_with (refine ⟨trivial, ?_⟩; gi_at_call 23; refine (CallsIn.inRound l (signs_in Fence.wide (8 - 1 - 1 - 1) trivial hro _ _)).mono ?_; rintro e w' ⟨rfl, rfl⟩)
    have hsW := hB1.size
    have bN := Boxed.new W 3 (.int .i64 t)
    have hr' : (W.alloc (.cells #[.int .i64 t] 3)).heap[l]? = some (.loop r) := (Below.heap_alloc W _ l (Array.getElem?_eq_some_iff.1 hr).1).trans hr
    refine wpIn_rangeFunc_ownN (l₀ := l) (r₀ := r) rfl hr' h1' (gf := 40) (lb := #[.pointer (some ⟨W.heap.size, 0, none⟩)]) rfl trivial (enters_of Try.func40 (by kernel_rfl) rfl)
      ((signs_stops Fence.wide (8 - 1 - 1 - 1) trivial hro (by omega) W.heap.size t _ (by simp) bN.cell).inRound l) keepB_t (keepB_b (by simp)) (Below.refl _ _) (fun _ => rfl)
      (fun pre' W' => ((((Boxed W' (w.heap.size + 1 + 1) 3 (.int .i64 (refRow op x (refAll op pre (sgl t 3)) pre').1) ∧ Boxed W' (w.heap.size + 1 + 1 + 1) 3 (.int .i64 (refRow op x (refAll op pre (sgl t 3)) pre').2)) ∧ Boxed W' Bx 3 (.int .i64 (x.val : Int))) ∧ Boxed W' (w.heap.size + 1) 3 (.int .i64 t)) ∧ Boxed W' w.heap.size 3 (.int .i64 op)) ∧ (Below w.heap.size W W' ∧ (KeepB (w.heap.size + 1 + 1 + 1 + 1) W W' ∧ KeepsFrom W0.heap.size W W')))
      (fun _ _ _ => False)
      (OwnFrom.and (OwnFrom.and (OwnFrom.and (OwnFrom.and (OwnFrom.and (Own.from (boxed_own _ _ _) _) (Own.from (boxed_own _ _ _) _)) (Own.from (boxed_own _ _ _) _)) (Own.from (boxed_own _ _ _) _)) (Own.from (boxed_own _ _ _) _)) (OwnFrom.and (ownFrom_below hsW (by simp; omega)) (OwnFrom.and (ownFrom_keepB (by have := hB0.size; have := bX.lt; simp; omega) _) (ownFrom_keepsFrom (by simp)))))
      (fun _ _ _ _ _ hs _ _ => hs)
      ⟨⟨⟨⟨⟨bA1.alloc _, bB1.alloc _⟩, bX.alloc _⟩, bT1.alloc _⟩, bO1.alloc _⟩, (Below.refl _ W).alloc hsW _, (KeepB.refl _ W).alloc _, (KeepsOthers.alloc _ _).from _⟩
      (fun y a'' _ => a'' = { tmps := #[.int .i64 op, .int .i64 s, .int .i64 t, .pointer (some ⟨w.heap.size, 0, none⟩), undef, .pointer (some ⟨w.heap.size + 1, 0, none⟩), .int .i64 0, .int .i64 0, .int .i64 0, .int .i64 0, .pointer (some ⟨w.heap.size + 1 + 1, 0, none⟩), .pointer (some ⟨w.heap.size + 1 + 1 + 1, 0, none⟩), .pointer (some ⟨Bx, 0, none⟩), .int .i64 (y.val : Int), .int .i64 op, .bool false, .bool false, .int .i64 op, .bool false, .bool false, .int .i64 s, .int .i64 t, .int .i64 0, .int .i64 0, .bool false, undef, .int .i64 s, .func (.func 40) #[] #[.pointer (some ⟨w.heap.size + 1 + 1 + 1 + 1, 0, none⟩)], .int .i64 (x.val : Int), .int .i64 t, .func (.func 40) #[] #[.pointer (some ⟨W.heap.size, 0, none⟩)], .int .i64 (y.val : Int), undef, undef, undef, undef, undef, undef, undef, undef, undef, undef, undef, undef, undef, undef], defers := [] })
      (fun _ _ _ _ _ _ hs _ _ => hs)
      ?assign2 ?body2 ?done2 ?stop2
    case assign2 =>
      rintro l2 pre' y W' K hi hK
      gi_wp2
      exact hK _ _ (KeepsFrom.refl _ _) (KeepB.refl _ _) hi rfl
    case body2 =>
      rintro l2 pre' y a'' W' hl2 _ ⟨⟨⟨⟨⟨bA2, bB2⟩, bX2⟩, bT2⟩, bO2⟩, hBW, hKB, hKF⟩ rfl _
      have cA := bA2.cell
      have fA := bA2.frozen
      have cB := bB2.cell
      have fB := bB2.frozen
      have cX := bX2.cell
      have cO := bO2.cell
      have hx3 := x.isLt
      have hy3 := y.isLt
      cases hp : poss op x.val y.val with
      | true =>
        have hlB := bB1.lt
        have hA : Hid (∀ v1, ∃ W2, W2 = (W'.setCell ⟨w.heap.size + 1 + 1, 0, none⟩ (.int .i64 v1)).drew ∧ KeepsOthers W' W2 ∧ KeepB W.heap.size W' W2 ∧ Boxed W2 (w.heap.size + 1 + 1) 3 (.int .i64 v1) ∧ Boxed W2 (w.heap.size + 1 + 1 + 1) 3 (.int .i64 (refRow op x (refAll op pre (sgl t 3)) pre').2) ∧ Boxed W2 Bx 3 (.int .i64 (x.val : Int)) ∧ Boxed W2 (w.heap.size + 1) 3 (.int .i64 t) ∧ Boxed W2 w.heap.size 3 (.int .i64 op) ∧ Below w.heap.size W W2 ∧ KeepB (w.heap.size + 1 + 1 + 1 + 1) W W2 ∧ KeepsFrom W0.heap.size W W2) := fun v1 =>
          have hk : KeepsOthers W' (W'.setCell ⟨w.heap.size + 1 + 1, 0, none⟩ (.int .i64 v1)).drew := (KeepsOthers.setCell W' _ _).trans (KeepsOthers.drew _)
          ⟨_, rfl, hk, ((KeepB.refl _ W').setCell (by omega) _).drew, bA2.set _, bB2.other (by omega) _, bX2.other (by omega) _, bT2.other (by omega) _, bO2.other (by omega) _, (hBW.setCell (p := ⟨w.heap.size + 1 + 1, 0, none⟩) (by simp; omega) _).drew, (hKB.setCell (by omega) _).drew, hKF.trans (hk.from _)⟩
        have hE : Hid (∀ v1 v2 W2, (refRow op x (refAll op pre (sgl t 3)) (pre' ++ [y])) = (v1, v2) → KeepsOthers W' W2 → KeepB W.heap.size W' W2 → Boxed W2 (w.heap.size + 1 + 1) 3 (.int .i64 v1) → Boxed W2 (w.heap.size + 1 + 1 + 1) 3 (.int .i64 (refRow op x (refAll op pre (sgl t 3)) pre').2) → Boxed W2 Bx 3 (.int .i64 (x.val : Int)) → Boxed W2 (w.heap.size + 1) 3 (.int .i64 t) → Boxed W2 w.heap.size 3 (.int .i64 op) → Below w.heap.size W W2 → KeepB (w.heap.size + 1 + 1 + 1 + 1) W W2 → KeepsFrom W0.heap.size W W2 →
            KeepsFrom (W.alloc (.cells #[.int .i64 t] 3)).heap.size W' (W2.setCell ⟨w.heap.size + 1 + 1 + 1, 0, none⟩ (.int .i64 v2)).drew ∧ KeepB W.heap.size W' (W2.setCell ⟨w.heap.size + 1 + 1 + 1, 0, none⟩ (.int .i64 v2)).drew ∧
            (((((Boxed (W2.setCell ⟨w.heap.size + 1 + 1 + 1, 0, none⟩ (.int .i64 v2)).drew (w.heap.size + 1 + 1) 3 (.int .i64 (refRow op x (refAll op pre (sgl t 3)) (pre' ++ [y])).1) ∧ Boxed (W2.setCell ⟨w.heap.size + 1 + 1 + 1, 0, none⟩ (.int .i64 v2)).drew (w.heap.size + 1 + 1 + 1) 3 (.int .i64 (refRow op x (refAll op pre (sgl t 3)) (pre' ++ [y])).2)) ∧ Boxed (W2.setCell ⟨w.heap.size + 1 + 1 + 1, 0, none⟩ (.int .i64 v2)).drew Bx 3 (.int .i64 (x.val : Int))) ∧ Boxed (W2.setCell ⟨w.heap.size + 1 + 1 + 1, 0, none⟩ (.int .i64 v2)).drew (w.heap.size + 1) 3 (.int .i64 t)) ∧ Boxed (W2.setCell ⟨w.heap.size + 1 + 1 + 1, 0, none⟩ (.int .i64 v2)).drew w.heap.size 3 (.int .i64 op)) ∧
              (Below w.heap.size W (W2.setCell ⟨w.heap.size + 1 + 1 + 1, 0, none⟩ (.int .i64 v2)).drew ∧ (KeepB (w.heap.size + 1 + 1 + 1 + 1) W (W2.setCell ⟨w.heap.size + 1 + 1 + 1, 0, none⟩ (.int .i64 v2)).drew ∧ KeepsFrom W0.heap.size W (W2.setCell ⟨w.heap.size + 1 + 1 + 1, 0, none⟩ (.int .i64 v2)).drew)))) := by
          intro v1 v2 W2 hv k1 k2 a1 a2 a3 a4 a5 a6 a7 a8
          rw [hv]
          have hk : KeepsOthers W2 (W2.setCell ⟨w.heap.size + 1 + 1 + 1, 0, none⟩ (.int .i64 v2)).drew := (KeepsOthers.setCell W2 _ _).trans (KeepsOthers.drew _)
          refine ⟨(k1.trans hk).from _, (k2.setCell (by omega) _).drew, ⟨⟨⟨⟨⟨?_, ?_⟩, ?_⟩, ?_⟩, ?_⟩, ?_, (a7.setCell (by omega) _).drew, a8.trans (hk.from _)⟩⟩
          · exact a1.other (by omega) _
          · exact a2.set _
          · exact a3.other (by omega) _
          · exact a4.other (by omega) _
          · exact a5.other (by omega) _
          · exact (a6.setCell (p := ⟨w.heap.size + 1 + 1 + 1, 0, none⟩) (by simp; omega) _).drew
        have hstep := refRow_snoc op x (refAll op pre (sgl t 3)) pre' y
        rw [hp, if_pos rfl] at hstep
        have Hstep := Lib.hid hstep
        have hcall := fun w => possible_any op (x.val : Int) (y.val : Int) w
        rw [hp] at hcall
        have Hcall := Lib.hid hcall
        clear hcall hp hstep
        generalize refRow op x (refAll op pre (sgl t 3)) pre' = acc at *
        gi_wp2_with (refine ⟨trivial, ?_⟩; gi_at_call 24; refine (CallsIn.inRound l2 (CallsIn.inRound l (callsIn_wide.2 (Hcall.out _)))).mono ?_; rintro e w' ⟨rfl, rfl⟩)
        gi_region
        all_goals
          obtain ⟨W2, hW2, k1, k2, a1, a2, a3, a4, a5, a6, a7, a8⟩ := hA.out (bits BinOp.or IntKind.i64 acc.fst (IntKind.i64.wrap (2 ^ x.val)))
          rw [← hW2]
          clear hW2 hA bA2 bB2 bX2 bT2 bO2 hBW hKB hKF cA fA cB fB cX cO
          have cB := a2.cell
          have fB := a2.frozen
          gi_wp2
          gi_region
          all_goals as_aux_lemma =>
            gi_wp2
            exact hE.out _ _ W2 Hstep.out k1 k2 a1 a2 a3 a4 a5 a6 a7 a8
      | false =>
        have hstep := refRow_snoc op x (refAll op pre (sgl t 3)) pre' y
        rw [hp, if_neg (by simp)] at hstep
        have Hstep := Lib.hid hstep
        have hcall := fun w => possible_any op (x.val : Int) (y.val : Int) w
        rw [hp] at hcall
        have Hcall := Lib.hid hcall
        clear hcall hp hstep
        gi_wp2_with (refine ⟨trivial, ?_⟩; gi_at_call 24; refine (CallsIn.inRound l2 (CallsIn.inRound l (callsIn_wide.2 (Hcall.out _)))).mono ?_; rintro e w' ⟨rfl, rfl⟩)
        exact ⟨KeepsFrom.refl _ _, KeepB.refl _ _, ⟨⟨⟨⟨⟨by rw [Hstep.out]; exact bA2, by rw [Hstep.out]; exact bB2⟩, bX2⟩, bT2⟩, bO2⟩, hBW, hKB, hKF⟩⟩
    case done2 =>
      rintro ys' W' rfl ⟨⟨⟨⟨⟨bA2, bB2⟩, bX2⟩, bT2⟩, bO2⟩, hBW, hKB, hKF⟩
      gi_wp2
      exact ⟨hKF, hKB, ⟨⟨⟨⟨by rw [refAll_snoc]; exact bA2, by rw [refAll_snoc]; exact bB2⟩, bT2⟩, bO2⟩, hB1.trans hBW⟩⟩
    case stop2 =>
      rintro c pre' W' _ h
      exact h.elim
  case done =>
    rintro D zs W hD rfl ⟨⟨⟨⟨bA1, bB1⟩, bT1⟩, bO1⟩, hB1⟩ hK
    have cA := bA1.cell
    have cB := bB1.cell
    gi_wp2
    gi_region
    all_goals as_aux_lemma =>
      gi_wp2
      refine ⟨by simp, .inl ⟨_, _, rfl, run_takeDeferred hK, ?_⟩⟩
      exact ⟨_, by simp [results, Try.results7, go_sem], rfl, (hB1.drew).trans (belowK_b (w := w) (Nat.le_refl _) _ D _ _ (by omega) hK rfl rfl)⟩
  case stop =>
    rintro D c pre W _ _ h _
    exact h.elim
end Go.Proofs.Ytlefniheafefgaa
