/- sign.Refine: the sets that a comparison leaves. · sign.Refine: the walk. · sign.read: a text of nine bytes as a table. -/
import Derived.Test.YtdldoghcbnkkjaaGreatDoorSignOf
import Derived.BigRegionIn
import Derived.BigRegion
import Derived.RegionTactic
set_option linter.unusedVariables false
set_option linter.unusedSimpArgs false
namespace Go.Proofs.YtdldoghcbnkkjaaGreatDoor
open Go.RowKit Go.Shelf

/-- Can the comparison be true for numbers of two signs? -/
def poss (op i j : Int) : Bool := if op = 2 then i == j else if op = 3 then i != j || i != 1 else if op = 4 then decide (i < j) || (i == j && i != 1) else decide (i ≤ j)

set_option maxHeartbeats 2000000 in
theorem possible_any (op i j : Int) (w : World) : Calls Tryz.prog 107 #[.int .i64 op, .int .i64 i, .int .i64 j] w fun e w' => e = .returned (.bool (poss op i j)) ∧ w' = w := by
  obtain ⟨r, hr⟩ : ∃ r, poss op i j = r := ⟨_, rfl⟩
  rw [hr]
  have Hr := Lib.hid hr
  clear hr
  by_cases h2 : op = 2
  · have e2 : (op == 2) = true := by simpa using h2
    have hq : Hid (poss op i j = (i == j)) := Lib.hid (by simp [poss, h2])
    clear h2
    go_enter Tryz.func107, Tryz.ntmps107
    go_wp2
    go_ret
    exact ⟨ret_bool (hq.out.symm.trans Hr.out), rfl⟩
  · have e2 : (op == 2) = false := by simpa using h2
    by_cases h3 : op = 3
    · have e3 : (op == 3) = true := by simpa using h3
      by_cases hij : i = j
      · have eij : (i != j) = false := by simpa using hij
        have hq : Hid (poss op i j = (i != 1)) := Lib.hid (by simp [poss, h2, h3, hij])
        clear h2 h3 hij
        go_enter Tryz.func107, Tryz.ntmps107
        go_wp2
        go_ret
        exact ⟨ret_bool (hq.out.symm.trans Hr.out), rfl⟩
      · have eij : (i != j) = true := by simpa using hij
        have hq : Hid (poss op i j = true) := Lib.hid (by simp [poss, h2, h3, hij])
        clear h2 h3 hij
        go_enter Tryz.func107, Tryz.ntmps107
        go_wp2
        go_ret
        exact ⟨ret_bool (hq.out.symm.trans Hr.out), rfl⟩
    · have e3 : (op == 3) = false := by simpa using h3
      by_cases h4 : op = 4
      · have e4 : (op == 4) = true := by simpa using h4
        by_cases hlt : i < j
        · have elt : decide (i < j) = true := by simpa using hlt
          have hq : Hid (poss op i j = true) := Lib.hid (by simp [poss, h4, hlt])
          clear h2 h3 h4 hlt
          go_enter Tryz.func107, Tryz.ntmps107
          go_wp2
          go_ret
          exact ⟨ret_bool (hq.out.symm.trans Hr.out), rfl⟩
        · have elt : decide (i < j) = false := by simpa using hlt
          by_cases hij : i = j
          · have eij : (i == j) = true := by simpa using hij
            have hq : Hid (poss op i j = (i != 1)) := Lib.hid (by simp [poss, h4, hij])
            clear h2 h3 h4 hlt hij
            go_enter Tryz.func107, Tryz.ntmps107
            go_wp2
            go_ret
            exact ⟨ret_bool (hq.out.symm.trans Hr.out), rfl⟩
          · have eij : (i == j) = false := by simpa using hij
            have hq : Hid (poss op i j = false) := Lib.hid (by simp [poss, h4, hlt, hij])
            clear h2 h3 h4 hlt hij
            go_enter Tryz.func107, Tryz.ntmps107
            go_wp2
            go_ret
            exact ⟨ret_bool (hq.out.symm.trans Hr.out), rfl⟩
      · have e4 : (op == 4) = false := by simpa using h4
        have hq : Hid (poss op i j = decide (i ≤ j)) := Lib.hid (by simp [poss, h2, h3, h4])
        clear h2 h3 h4
        go_enter Tryz.func107, Tryz.ntmps107
        go_wp2
        go_ret
        exact ⟨ret_bool (hq.out.symm.trans Hr.out), rfl⟩

/-- What the rows leave of the first set, and of the second. -/
def refRow (op : Int) (x : Fin 3) (s : Int × Int) (ys : List (Fin 3)) : Int × Int :=
  ys.foldl (fun s y => if poss op x.val y.val = true then (bits BinOp.or IntKind.i64 s.1 (IntKind.i64.wrap (2 ^ x.val)), bits BinOp.or IntKind.i64 s.2 (IntKind.i64.wrap (2 ^ y.val))) else s) s
def refAll (op : Int) (xs ys : List (Fin 3)) : Int × Int := xs.foldl (fun s x => refRow op x s ys) (0, 0)
theorem refRow_snoc (op : Int) (x : Fin 3) (s : Int × Int) (pre : List (Fin 3)) (y : Fin 3) : refRow op x s (pre ++ [y]) = if poss op x.val y.val = true then (bits BinOp.or IntKind.i64 (refRow op x s pre).1 (IntKind.i64.wrap (2 ^ x.val)), bits BinOp.or IntKind.i64 (refRow op x s pre).2 (IntKind.i64.wrap (2 ^ y.val))) else refRow op x s pre := by simp [refRow]
theorem refAll_snoc (op : Int) (pre : List (Fin 3)) (x : Fin 3) (ys : List (Fin 3)) : refAll op (pre ++ [x]) ys = refRow op x (refAll op pre ys) ys := by simp [refAll]
def chk (s : Int) : Int := if 0 ≤ s ∧ s ≤ 7 then 0 else 2

set_option maxHeartbeats 1000000 in
theorem check_any (s : Int) (w : World) : Calls Tryz.prog 64 #[.int .i64 s] w fun e w' => e = .returned (.int .i64 (chk s)) ∧ w' = w := by
  obtain ⟨r, hr⟩ : ∃ r, chk s = r := ⟨_, rfl⟩
  rw [hr]
  by_cases h0 : s < 0
  · obtain rfl : r = 2 := by rw [← hr, chk, if_neg (by omega)]
    clear hr
    go_enter Tryz.func64, Tryz.ntmps64
    go_wp2
    go_ret
    exact ⟨rfl, rfl⟩
  · by_cases h7 : 7 < s
    · obtain rfl : r = 2 := by rw [← hr, chk, if_neg (by omega)]
      clear hr
      go_enter Tryz.func64, Tryz.ntmps64
      go_wp2
      go_ret
      exact ⟨rfl, rfl⟩
    · obtain rfl : r = 0 := by rw [← hr, chk, if_pos (by omega)]
      clear hr
      go_enter Tryz.func64, Tryz.ntmps64
      go_wp2
      go_ret
      exact ⟨rfl, rfl⟩
def chk2 (s t : Int) : Int := if chk s = 0 then chk t else chk s

set_option maxHeartbeats 1000000 in
theorem both_any (s t : Int) (w : World) : Calls Tryz.prog 105 #[.int .i64 s, .int .i64 t] w fun e w' => e = .returned (.int .i64 (chk2 s t)) ∧ w' = w := by
  unfold chk2
  have h1 := check_any s w
  have h2 := check_any t w
  generalize chk s = c at *
  generalize chk t = d at *
  by_cases h0 : c = 0
  · rw [if_pos h0]
    have e0 : (c == 0) = true := by simpa using h0
    have e1 : (c != 0) = false := by simpa using h0
    clear h0
    have H1 := Lib.hid h1
    have H2 := Lib.hid h2
    clear h1 h2
    go_enter Tryz.func105, Tryz.ntmps105
    go_wp2_with fail
    refine H1.out.mono ?_
    rintro e w' ⟨rfl, rfl⟩
    go_wp2_with fail
    refine H2.out.mono ?_
    rintro e w' ⟨rfl, rfl⟩
    go_wp2_with fail
    go_ret
    exact ⟨rfl, rfl⟩
  · rw [if_neg h0]
    have e0 : (c == 0) = false := by simpa using h0
    have e1 : (c != 0) = true := by simpa using h0
    clear h0 h2
    have H1 := Lib.hid h1
    clear h1
    go_enter Tryz.func105, Tryz.ntmps105
    go_wp2_with fail
    refine H1.out.mono ?_
    rintro e w' ⟨rfl, rfl⟩
    go_wp2_with fail
    go_ret
    exact ⟨rfl, rfl⟩

end Go.Proofs.YtdldoghcbnkkjaaGreatDoor

namespace Go.Proofs.YtdldoghcbnkkjaaGreatDoor
open Go.RowKit Go.Shelf

attribute [local go_sem] Oper.semAt_some

set_option maxRecDepth 100000 in
set_option maxHeartbeats 8000000 in
theorem refine_ok (op s t : Int) (w : World) (h2 : 2 ≤ op) (h5 : op ≤ 5) (hb : chk2 s t = 0) :
    Calls Tryz.prog 62 #[.int .i64 op, .int .i64 s, .int .i64 t] w fun e W' => e = .returned (.tuple #[.int .i64 (refAll op (sgl s 3) (sgl t 3)).1, .int .i64 (refAll op (sgl s 3) (sgl t 3)).2, .int .i64 0]) ∧ Below w.heap.size w W' := by
  have hboth := fun w => both_any s t w
  rw [hb] at hboth
  have Hboth := Lib.hid hboth
  clear hboth hb
  have e2 : decide (op < 2) = false := by simp; omega
  have e5 : decide (5 < op) = false := by simp; omega
  refine (callsIn_wide (n := 8)).1 ?_
  have hro : Fence.wide.round = none := rfl
  have h1 : 1 ≤ 8 := by omega
  have hmix : Tryz.prog.follows .mixedOrders = true := by kernel_rfl
  refine callsIn_of_wp_marks Tryz.func62 rfl trivial ?_ hro
  simp only [Tryz.ntmps62, List.size_toArray, List.length_cons, List.length_nil, Nat.reduceAdd, Nat.reduceSub, Array.replicate_succ, Array.replicate_zero, List.push_toArray, List.append_toArray, List.nil_append, List.cons_append]
  gi_wp2_with (first | (refine ⟨trivial, ?_⟩; gi_at_call 106; refine (signs_in Fence.wide (8 - 1) trivial rfl _ _).mono ?_; rintro e w' ⟨rfl, rfl⟩) | (refine ⟨trivial, ?_⟩; gi_at_call 105; refine (callsIn_wide.2 (Hboth.out _)).mono ?_; rintro e w' ⟨rfl, rfl⟩))
  have bO := ((((Boxed.new w 3 (.int .i64 op)).alloc (.cells #[.int .i64 t] 3)).alloc (.cells #[.int .i64 0] 3)).alloc (.cells #[.int .i64 0] 3)).alloc (.cells #[.int .i64 s] 3)
  have bT := (((Boxed.new (w.alloc (.cells #[.int .i64 op] 3)) 3 (.int .i64 t)).alloc (.cells #[.int .i64 0] 3)).alloc (.cells #[.int .i64 0] 3)).alloc (.cells #[.int .i64 s] 3)
  have bA := ((Boxed.new ((w.alloc (.cells #[.int .i64 op] 3)).alloc (.cells #[.int .i64 t] 3)) 3 (.int .i64 0)).alloc (.cells #[.int .i64 0] 3)).alloc (.cells #[.int .i64 s] 3)
  have bB := (Boxed.new (((w.alloc (.cells #[.int .i64 op] 3)).alloc (.cells #[.int .i64 t] 3)).alloc (.cells #[.int .i64 0] 3)) 3 (.int .i64 0)).alloc (.cells #[.int .i64 s] 3)
  have bS := Boxed.new ((((w.alloc (.cells #[.int .i64 op] 3)).alloc (.cells #[.int .i64 t] 3)).alloc (.cells #[.int .i64 0] 3)).alloc (.cells #[.int .i64 0] 3)) 3 (.int .i64 s)
  simp only [World.size_alloc] at bO bT bA bB bS
  have hB0 : Below w.heap.size w (((((w.alloc (.cells #[.int .i64 op] 3)).alloc (.cells #[.int .i64 t] 3)).alloc (.cells #[.int .i64 0] 3)).alloc (.cells #[.int .i64 0] 3)).alloc (.cells #[.int .i64 s] 3)) := (((((Below.refl _ w).alloc (Nat.le_refl _) _).alloc (by simp) _).alloc (by simp; omega) _).alloc (by simp; omega) _).alloc (by simp; omega) _
  have hsz : (((((w.alloc (.cells #[.int .i64 op] 3)).alloc (.cells #[.int .i64 t] 3)).alloc (.cells #[.int .i64 0] 3)).alloc (.cells #[.int .i64 0] 3)).alloc (.cells #[.int .i64 s] 3)).heap.size = w.heap.size + 5 := by simp
  obtain ⟨W0, hW0⟩ : ∃ W0, ((((w.alloc (.cells #[.int .i64 op] 3)).alloc (.cells #[.int .i64 t] 3)).alloc (.cells #[.int .i64 0] 3)).alloc (.cells #[.int .i64 0] 3)).alloc (.cells #[.int .i64 s] 3) = W0 := ⟨_, rfl⟩
  rw [hW0] at bO bT bA bB bS hB0 hsz ⊢
  clear hW0
  refine wpIn_rangeFunc_ownH hro h1 (gf := 140) (lb := #[.pointer (some ⟨w.heap.size + 1 + 1 + 1 + 1, 0, none⟩)]) rfl trivial (enters_of Tryz.func140 (by kernel_rfl) rfl)
    (signs_stops Fence.wide (8 - 1) trivial hro (by omega) (w.heap.size + 1 + 1 + 1 + 1) s W0 (by omega) bS.cell) keepB_t (keepB_b (by omega)) (Below.refl _ _) (fun _ => rfl)
    (fun pre W => (((Boxed W (w.heap.size + 1 + 1) 3 (.int .i64 (refAll op pre (sgl t 3)).1) ∧ Boxed W (w.heap.size + 1 + 1 + 1) 3 (.int .i64 (refAll op pre (sgl t 3)).2)) ∧ Boxed W (w.heap.size + 1) 3 (.int .i64 t)) ∧ Boxed W w.heap.size 3 (.int .i64 op)) ∧ Below w.heap.size w W)
    (fun _ _ _ => False)
    (OwnFrom.and (OwnFrom.and (OwnFrom.and (OwnFrom.and (Own.from (boxed_own _ _ _) _) (Own.from (boxed_own _ _ _) _)) (Own.from (boxed_own _ _ _) _)) (Own.from (boxed_own _ _ _) _)) (ownFrom_below (Nat.le_refl _) (by omega)))
    (fun _ _ _ _ _ hs _ _ => hs)
    ⟨⟨⟨⟨bA, bB⟩, bT⟩, bO⟩, hB0⟩
    (fun x a' W => ∃ Bx, w.heap.size + 1 + 1 + 1 < Bx ∧ Boxed W Bx 3 (.int .i64 (x.val : Int)) ∧ a' = { tmps := #[.int .i64 op, .int .i64 s, .int .i64 t, .pointer (some ⟨w.heap.size, 0, none⟩), undef, .pointer (some ⟨w.heap.size + 1, 0, none⟩), .int .i64 0, .int .i64 0, .int .i64 0, .int .i64 0, .pointer (some ⟨w.heap.size + 1 + 1, 0, none⟩), .pointer (some ⟨w.heap.size + 1 + 1 + 1, 0, none⟩), .pointer (some ⟨Bx, 0, none⟩), undef, .int .i64 op, .bool false, .bool false, .int .i64 op, .bool false, .bool false, .int .i64 s, .int .i64 t, .int .i64 0, .int .i64 0, .bool false, undef, .int .i64 s, .func (.func 140) #[] #[.pointer (some ⟨w.heap.size + 1 + 1 + 1 + 1, 0, none⟩)], .int .i64 (x.val : Int), undef, undef, undef, undef, undef, undef, undef, undef, undef, undef, undef, undef, undef, undef, undef, undef, undef], defers := [] })
    (fun x a' _ X Y row hs hg hr => by obtain ⟨Bx, h1, h2, h3⟩ := hs; exact ⟨Bx, h1, boxed_own Bx 3 (fun (_ : Unit) => Value.int .i64 (x.val : Int)) () X Y row h2 hg (fun r e => (hr r e).2), h3⟩)
    ?assign ?body ?done ?stop
  case assign =>
    rintro l pre x W K ⟨⟨⟨⟨bA1, bB1⟩, bT1⟩, bO1⟩, hB1⟩ hK
    gi_wp2
    exact hK _ _ ((KeepsOthers.alloc _ _).from _) ((KeepB.refl _ W).alloc _) ⟨⟨⟨⟨bA1.alloc _, bB1.alloc _⟩, bT1.alloc _⟩, bO1.alloc _⟩, hB1.alloc hB1.size _⟩ ⟨W.heap.size, bB1.lt, Boxed.new W 3 _, rfl⟩
  case body =>
    rintro l pre x a' W hl ⟨r, hr⟩ ⟨⟨⟨⟨bA1, bB1⟩, bT1⟩, bO1⟩, hB1⟩ ⟨Bx, hBx, bX, rfl⟩ hlt
    have cT := bT1.cell
    have h1' : 1 ≤ 8 - 1 - 1 := by omega
    gi_wp2_with (refine ⟨trivial, ?_⟩; gi_at_call 106; refine (CallsIn.inRound l (signs_in Fence.wide (8 - 1 - 1 - 1) trivial hro _ _)).mono ?_; rintro e w' ⟨rfl, rfl⟩)
    have hsW := hB1.size
    have bN := Boxed.new W 3 (.int .i64 t)
    have hr' : (W.alloc (.cells #[.int .i64 t] 3)).heap[l]? = some (.loop r) := (Below.heap_alloc W _ l (Array.getElem?_eq_some_iff.1 hr).1).trans hr
    refine wpIn_rangeFunc_ownN (l₀ := l) (r₀ := r) rfl hr' h1' (gf := 140) (lb := #[.pointer (some ⟨W.heap.size, 0, none⟩)]) rfl trivial (enters_of Tryz.func140 (by kernel_rfl) rfl)
      ((signs_stops Fence.wide (8 - 1 - 1 - 1) trivial hro (by omega) W.heap.size t _ (by simp) bN.cell).inRound l) keepB_t (keepB_b (by simp)) (Below.refl _ _) (fun _ => rfl)
      (fun pre' W' => ((((Boxed W' (w.heap.size + 1 + 1) 3 (.int .i64 (refRow op x (refAll op pre (sgl t 3)) pre').1) ∧ Boxed W' (w.heap.size + 1 + 1 + 1) 3 (.int .i64 (refRow op x (refAll op pre (sgl t 3)) pre').2)) ∧ Boxed W' Bx 3 (.int .i64 (x.val : Int))) ∧ Boxed W' (w.heap.size + 1) 3 (.int .i64 t)) ∧ Boxed W' w.heap.size 3 (.int .i64 op)) ∧ (Below w.heap.size W W' ∧ (KeepB (w.heap.size + 1 + 1 + 1 + 1) W W' ∧ KeepsFrom W0.heap.size W W')))
      (fun _ _ _ => False)
      (OwnFrom.and (OwnFrom.and (OwnFrom.and (OwnFrom.and (OwnFrom.and (Own.from (boxed_own _ _ _) _) (Own.from (boxed_own _ _ _) _)) (Own.from (boxed_own _ _ _) _)) (Own.from (boxed_own _ _ _) _)) (Own.from (boxed_own _ _ _) _)) (OwnFrom.and (ownFrom_below hsW (by simp; omega)) (OwnFrom.and (ownFrom_keepB (by have := hB0.size; have := bX.lt; simp; omega) _) (ownFrom_keepsFrom (by simp)))))
      (fun _ _ _ _ _ hs _ _ => hs)
      ⟨⟨⟨⟨⟨bA1.alloc _, bB1.alloc _⟩, bX.alloc _⟩, bT1.alloc _⟩, bO1.alloc _⟩, (Below.refl _ W).alloc hsW _, (KeepB.refl _ W).alloc _, (KeepsOthers.alloc _ _).from _⟩
      (fun y a'' _ => a'' = { tmps := #[.int .i64 op, .int .i64 s, .int .i64 t, .pointer (some ⟨w.heap.size, 0, none⟩), undef, .pointer (some ⟨w.heap.size + 1, 0, none⟩), .int .i64 0, .int .i64 0, .int .i64 0, .int .i64 0, .pointer (some ⟨w.heap.size + 1 + 1, 0, none⟩), .pointer (some ⟨w.heap.size + 1 + 1 + 1, 0, none⟩), .pointer (some ⟨Bx, 0, none⟩), .int .i64 (y.val : Int), .int .i64 op, .bool false, .bool false, .int .i64 op, .bool false, .bool false, .int .i64 s, .int .i64 t, .int .i64 0, .int .i64 0, .bool false, undef, .int .i64 s, .func (.func 140) #[] #[.pointer (some ⟨w.heap.size + 1 + 1 + 1 + 1, 0, none⟩)], .int .i64 (x.val : Int), .int .i64 t, .func (.func 140) #[] #[.pointer (some ⟨W.heap.size, 0, none⟩)], .int .i64 (y.val : Int), undef, undef, undef, undef, undef, undef, undef, undef, undef, undef, undef, undef, undef, undef], defers := [] })
      (fun _ _ _ _ _ _ hs _ _ => hs)
      ?assign2 ?body2 ?done2 ?stop2
    case assign2 =>
      rintro l2 pre' y W' K hi hK
      gi_wp2
      exact hK _ _ (KeepsFrom.refl _ _) (KeepB.refl _ _) hi rfl
    case body2 =>
      rintro l2 pre' y a'' W' hl2 _ ⟨⟨⟨⟨⟨bA2, bB2⟩, bX2⟩, bT2⟩, bO2⟩, hBW, hKB, hKF⟩ rfl _
      have cA := bA2.cell
      have fA := bA2.frozen
      have cB := bB2.cell
      have fB := bB2.frozen
      have cX := bX2.cell
      have cO := bO2.cell
      have hx3 := x.isLt
      have hy3 := y.isLt
      cases hp : poss op x.val y.val with
      | true =>
        have hlB := bB1.lt
        have hA : Hid (∀ v1, ∃ W2, W2 = (W'.setCell ⟨w.heap.size + 1 + 1, 0, none⟩ (.int .i64 v1)).drew ∧ KeepsOthers W' W2 ∧ KeepB W.heap.size W' W2 ∧ Boxed W2 (w.heap.size + 1 + 1) 3 (.int .i64 v1) ∧ Boxed W2 (w.heap.size + 1 + 1 + 1) 3 (.int .i64 (refRow op x (refAll op pre (sgl t 3)) pre').2) ∧ Boxed W2 Bx 3 (.int .i64 (x.val : Int)) ∧ Boxed W2 (w.heap.size + 1) 3 (.int .i64 t) ∧ Boxed W2 w.heap.size 3 (.int .i64 op) ∧ Below w.heap.size W W2 ∧ KeepB (w.heap.size + 1 + 1 + 1 + 1) W W2 ∧ KeepsFrom W0.heap.size W W2) := fun v1 =>
          have hk : KeepsOthers W' (W'.setCell ⟨w.heap.size + 1 + 1, 0, none⟩ (.int .i64 v1)).drew := (KeepsOthers.setCell W' _ _).trans (KeepsOthers.drew _)
          ⟨_, rfl, hk, ((KeepB.refl _ W').setCell (by omega) _).drew, bA2.set _, bB2.other (by omega) _, bX2.other (by omega) _, bT2.other (by omega) _, bO2.other (by omega) _, (hBW.setCell (p := ⟨w.heap.size + 1 + 1, 0, none⟩) (by simp; omega) _).drew, (hKB.setCell (by omega) _).drew, hKF.trans (hk.from _)⟩
        have hE : Hid (∀ v1 v2 W2, (refRow op x (refAll op pre (sgl t 3)) (pre' ++ [y])) = (v1, v2) → KeepsOthers W' W2 → KeepB W.heap.size W' W2 → Boxed W2 (w.heap.size + 1 + 1) 3 (.int .i64 v1) → Boxed W2 (w.heap.size + 1 + 1 + 1) 3 (.int .i64 (refRow op x (refAll op pre (sgl t 3)) pre').2) → Boxed W2 Bx 3 (.int .i64 (x.val : Int)) → Boxed W2 (w.heap.size + 1) 3 (.int .i64 t) → Boxed W2 w.heap.size 3 (.int .i64 op) → Below w.heap.size W W2 → KeepB (w.heap.size + 1 + 1 + 1 + 1) W W2 → KeepsFrom W0.heap.size W W2 →
            KeepsFrom (W.alloc (.cells #[.int .i64 t] 3)).heap.size W' (W2.setCell ⟨w.heap.size + 1 + 1 + 1, 0, none⟩ (.int .i64 v2)).drew ∧ KeepB W.heap.size W' (W2.setCell ⟨w.heap.size + 1 + 1 + 1, 0, none⟩ (.int .i64 v2)).drew ∧
            (((((Boxed (W2.setCell ⟨w.heap.size + 1 + 1 + 1, 0, none⟩ (.int .i64 v2)).drew (w.heap.size + 1 + 1) 3 (.int .i64 (refRow op x (refAll op pre (sgl t 3)) (pre' ++ [y])).1) ∧ Boxed (W2.setCell ⟨w.heap.size + 1 + 1 + 1, 0, none⟩ (.int .i64 v2)).drew (w.heap.size + 1 + 1 + 1) 3 (.int .i64 (refRow op x (refAll op pre (sgl t 3)) (pre' ++ [y])).2)) ∧ Boxed (W2.setCell ⟨w.heap.size + 1 + 1 + 1, 0, none⟩ (.int .i64 v2)).drew Bx 3 (.int .i64 (x.val : Int))) ∧ Boxed (W2.setCell ⟨w.heap.size + 1 + 1 + 1, 0, none⟩ (.int .i64 v2)).drew (w.heap.size + 1) 3 (.int .i64 t)) ∧ Boxed (W2.setCell ⟨w.heap.size + 1 + 1 + 1, 0, none⟩ (.int .i64 v2)).drew w.heap.size 3 (.int .i64 op)) ∧
              (Below w.heap.size W (W2.setCell ⟨w.heap.size + 1 + 1 + 1, 0, none⟩ (.int .i64 v2)).drew ∧ (KeepB (w.heap.size + 1 + 1 + 1 + 1) W (W2.setCell ⟨w.heap.size + 1 + 1 + 1, 0, none⟩ (.int .i64 v2)).drew ∧ KeepsFrom W0.heap.size W (W2.setCell ⟨w.heap.size + 1 + 1 + 1, 0, none⟩ (.int .i64 v2)).drew)))) := by
          intro v1 v2 W2 hv k1 k2 a1 a2 a3 a4 a5 a6 a7 a8
          rw [hv]
          have hk : KeepsOthers W2 (W2.setCell ⟨w.heap.size + 1 + 1 + 1, 0, none⟩ (.int .i64 v2)).drew := (KeepsOthers.setCell W2 _ _).trans (KeepsOthers.drew _)
          refine ⟨(k1.trans hk).from _, (k2.setCell (by omega) _).drew, ⟨⟨⟨⟨⟨?_, ?_⟩, ?_⟩, ?_⟩, ?_⟩, ?_, (a7.setCell (by omega) _).drew, a8.trans (hk.from _)⟩⟩
          · exact a1.other (by omega) _
          · exact a2.set _
          · exact a3.other (by omega) _
          · exact a4.other (by omega) _
          · exact a5.other (by omega) _
          · exact (a6.setCell (p := ⟨w.heap.size + 1 + 1 + 1, 0, none⟩) (by simp; omega) _).drew
        have hstep := refRow_snoc op x (refAll op pre (sgl t 3)) pre' y
        rw [hp, if_pos rfl] at hstep
        have Hstep := Lib.hid hstep
        have hcall := fun w => possible_any op (x.val : Int) (y.val : Int) w
        rw [hp] at hcall
        have Hcall := Lib.hid hcall
        clear hcall hp hstep
        generalize refRow op x (refAll op pre (sgl t 3)) pre' = acc at *
        gi_wp2_with (refine ⟨trivial, ?_⟩; gi_at_call 107; refine (CallsIn.inRound l2 (CallsIn.inRound l (callsIn_wide.2 (Hcall.out _)))).mono ?_; rintro e w' ⟨rfl, rfl⟩)
        gi_region
        all_goals
          obtain ⟨W2, hW2, k1, k2, a1, a2, a3, a4, a5, a6, a7, a8⟩ := hA.out (bits BinOp.or IntKind.i64 acc.fst (IntKind.i64.wrap (2 ^ x.val)))
          rw [← hW2]
          clear hW2 hA bA2 bB2 bX2 bT2 bO2 hBW hKB hKF cA fA cB fB cX cO
          have cB := a2.cell
          have fB := a2.frozen
          gi_wp2
          gi_region
          all_goals as_aux_lemma =>
            gi_wp2
            exact hE.out _ _ W2 Hstep.out k1 k2 a1 a2 a3 a4 a5 a6 a7 a8
      | false =>
        have hstep := refRow_snoc op x (refAll op pre (sgl t 3)) pre' y
        rw [hp, if_neg (by simp)] at hstep
        have Hstep := Lib.hid hstep
        have hcall := fun w => possible_any op (x.val : Int) (y.val : Int) w
        rw [hp] at hcall
        have Hcall := Lib.hid hcall
        clear hcall hp hstep
        gi_wp2_with (refine ⟨trivial, ?_⟩; gi_at_call 107; refine (CallsIn.inRound l2 (CallsIn.inRound l (callsIn_wide.2 (Hcall.out _)))).mono ?_; rintro e w' ⟨rfl, rfl⟩)
        exact ⟨KeepsFrom.refl _ _, KeepB.refl _ _, ⟨⟨⟨⟨⟨by rw [Hstep.out]; exact bA2, by rw [Hstep.out]; exact bB2⟩, bX2⟩, bT2⟩, bO2⟩, hBW, hKB, hKF⟩⟩
    case done2 =>
      rintro ys' W' rfl ⟨⟨⟨⟨⟨bA2, bB2⟩, bX2⟩, bT2⟩, bO2⟩, hBW, hKB, hKF⟩
      gi_wp2
      exact ⟨hKF, hKB, ⟨⟨⟨⟨by rw [refAll_snoc]; exact bA2, by rw [refAll_snoc]; exact bB2⟩, bT2⟩, bO2⟩, hB1.trans hBW⟩⟩
    case stop2 =>
      rintro c pre' W' _ h
      exact h.elim
  case done =>
    rintro D zs W hD rfl ⟨⟨⟨⟨bA1, bB1⟩, bT1⟩, bO1⟩, hB1⟩ hK
    have cA := bA1.cell
    have cB := bB1.cell
    gi_wp2
    gi_region
    all_goals as_aux_lemma =>
      gi_wp2
      refine ⟨by simp, .inl ⟨_, _, rfl, run_takeDeferred hK, ?_⟩⟩
      exact ⟨_, by simp [results, Tryz.results62, go_sem], rfl, (hB1.drew).trans (belowK_b (w := w) (Nat.le_refl _) _ D _ _ (by omega) hK rfl rfl)⟩
  case stop =>
    rintro D c pre W _ _ h _
    exact h.elim
end Go.Proofs.YtdldoghcbnkkjaaGreatDoor

namespace Go.Proofs.YtdldoghcbnkkjaaGreatDoor
open Go.RowKit

def byteAt (s : ByteArray) (k : Nat) : Int := if h : k < s.size then ((s[k]'h).toNat : Int) else 0
theorem byteAt_eq (s : ByteArray) (k : Nat) (h : k < s.size) : ((s[k]'h).toNat : Int) = byteAt s k := by simp [byteAt, h]
theorem wb (s : ByteArray) (k : Nat) (h : k < s.size) : wrap64 ((s[k]'h).toNat : Int) = byteAt s k := by
  rw [byteAt_eq]
  have : 0 ≤ byteAt s k ∧ byteAt s k ≤ 255 := by rw [← byteAt_eq s k h]; have := (s[k]'h).toNat_lt; omega
  unfold wrap64; omega
def part (s : ByteArray) (m : Nat) : Nat → Int := fun k => if k < m then byteAt s k else 0
theorem Tabd.congr {t u : Nat → Int} {B : Nat} {W : World} (h : Tabd t B W) (e : ∀ k, k < 9 → t k = u k) : Tabd u B W := by
  have : tcells t = tcells u := by simp [tcells, e 0 (by omega), e 1 (by omega), e 2 (by omega), e 3 (by omega), e 4 (by omega), e 5 (by omega), e 6 (by omega), e 7 (by omega), e 8 (by omega)]
  unfold Tabd
  rw [← this]
  exact h
theorem Tabd.store {t : Nat → Int} {B : Nat} {W : World} (h : Tabd t B W) (k : Nat) (hk : k < 9) (v : Int) : Tabd (fun m => if m = k then v else t m) B (W.setCell ⟨B, k, none⟩ (.int .i64 v)) := by
  obtain ⟨hlt, he⟩ := Array.getElem?_eq_some_iff.1 h
  show (W.heap.modify B _)[B]? = _
  rw [Array.getElem?_eq_getElem (by rw [Array.size_modify]; exact hlt), Array.getElem_modify_self, he]
  match k, hk with
  | 0, _ | 1, _ | 2, _ | 3, _ | 4, _ | 5, _ | 6, _ | 7, _ | 8, _ => rfl
theorem Tabd.drew {t : Nat → Int} {B : Nat} {W : World} (h : Tabd t B W) : Tabd t B W.drew := h
theorem Tabd.frozen {t : Nat → Int} {B : Nat} {W : World} (h : Tabd t B W) (k : Nat) : W.frozen? ⟨B, k, none⟩ = false := by simp [World.frozen?, show W.heap[B]? = _ from h]
theorem part_step (s : ByteArray) (m : Nat) : ∀ k, k < 9 → (if k = m then byteAt s m else part s m k) = part s (m + 1) k := by
  intro k _
  unfold part
  by_cases h : k = m
  · subst h; simp
  · by_cases h2 : k < m
    · rw [if_neg h, if_pos h2, if_pos (by omega)]
    · rw [if_neg h, if_neg h2, if_neg (by omega)]

set_option maxRecDepth 100000 in
set_option maxHeartbeats 4000000 in
theorem read_any (s : ByteArray) (hs : s.size = 9) (w : World) : Calls Tryz.prog 103 #[.string s] w fun e w' => e = .returned (.agg (tcells (byteAt s))) ∧ Below w.heap.size w w' := by
  have hs' : 9 ≤ s.size := by omega
  have hs2 : s.size ≤ 9 := by omega
  clear hs
  go_enter Tryz.func103, Tryz.ntmps103
  go_wp2
  go_loopw [6] (fun i wr => ∃ k : Nat, k ≤ 3 ∧ i = .int .i64 k ∧ Tabd (part s (3 * k)) (w.heap.size + 1) wr ∧ Tabd (fun _ => 0) w.heap.size wr ∧ Below w.heap.size w wr) (fun i _ => 3 - (intOf i).toNat)
  case atStart => exact ⟨0, by omega, rfl, Tabd.congr (t := fun _ => 0) (by have := World.alloc_heap_new (w.alloc (.cells (tcells fun _ => 0) 105)) (.cells (tcells fun _ => 0) 105); rw [World.size_alloc] at this; exact this) (by intro k _; simp [part]), (Tabd.alloc (show Tabd (fun _ => 0) w.heap.size _ from World.alloc_heap_new w _) _), ((Below.refl _ w).alloc (Nat.le_refl _) _).alloc (by simp) _⟩
  case round =>
    obtain ⟨i, hi, rfl, hT, hR, hb⟩ := hrel
    by_cases hlt : i < 3
    · go_wp2
      obtain ⟨wo, rfl⟩ : ∃ wo : World, wo = wr := ⟨_, rfl⟩
      go_loopw [9] (fun j wr => ∃ k : Nat, k ≤ 3 ∧ j = .int .i64 k ∧ Tabd (part s (3 * i + k)) (w.heap.size + 1) wr ∧ Tabd (fun _ => 0) w.heap.size wr ∧ Below w.heap.size w wr) (fun i _ => 3 - (intOf i).toNat)
      case atStart => exact ⟨0, by omega, rfl, hT, hR, hb⟩
      case round =>
        obtain ⟨j, hj, rfl, hT1, hR1, hb1⟩ := hrel
        by_cases hlj : j < 3
        · have hend : Hid (∀ v, v = byteAt s (3 * i + j) → ∃ W2, W2 = (wr.setCell ⟨w.heap.size + 1, 3 * i + j, none⟩ (.int .i64 v)).drew ∧ Tabd (part s (3 * i + (j + 1))) (w.heap.size + 1) W2 ∧ Tabd (fun _ => 0) w.heap.size W2 ∧ Below w.heap.size w W2) := by
            rintro v rfl
            refine ⟨_, rfl, ((hT1.store (3 * i + j) (by omega) _).congr (part_step s (3 * i + j))).drew, ?_, (hb1.setCell (p := ⟨w.heap.size + 1, 3 * i + j, none⟩) (by simp) _).drew⟩
            exact (Below.heap_setCell wr ⟨w.heap.size + 1, 3 * i + j, none⟩ _ w.heap.size (by simp)).trans hR1
          have ex : i = 0 ∨ i = 1 ∨ i = 2 := by omega
          have ey : j = 0 ∨ j = 1 ∨ j = 2 := by omega
          rcases ex with rfl | rfl | rfl <;> rcases ey with rfl | rfl | rfl
          · have c0 := hT1.cell 0 (by omega)
            have f0 := hT1.frozen 0
            have hk : 0 < s.size := by omega
            have hki : (0 : Int) < (s.size : Int) := by omega
            have hv := Lib.hid (wb s (3 * 0 + 0) hk)
            clear hT hT1 hR1 hR hb hb1
            go_wp2
            go_region
            all_goals go_wp2
            all_goals
              obtain ⟨W2, hW2, g1, g2, g3⟩ := hend.out _ hv.out
              refine ⟨?_, by simp [intOf]⟩
              rw [← hW2]
              exact ⟨1, by omega, rfl, g1, g2, g3⟩
          · have c0 := hT1.cell 1 (by omega)
            have f0 := hT1.frozen 1
            have hk : 1 < s.size := by omega
            have hki : (1 : Int) < (s.size : Int) := by omega
            have hv := Lib.hid (wb s (3 * 0 + 1) hk)
            clear hT hT1 hR1 hR hb hb1
            go_wp2
            go_region
            all_goals go_wp2
            all_goals
              obtain ⟨W2, hW2, g1, g2, g3⟩ := hend.out _ hv.out
              refine ⟨?_, by simp [intOf]⟩
              rw [← hW2]
              exact ⟨2, by omega, rfl, g1, g2, g3⟩
          · have c0 := hT1.cell 2 (by omega)
            have f0 := hT1.frozen 2
            have hk : 2 < s.size := by omega
            have hki : (2 : Int) < (s.size : Int) := by omega
            have hv := Lib.hid (wb s (3 * 0 + 2) hk)
            clear hT hT1 hR1 hR hb hb1
            go_wp2
            go_region
            all_goals go_wp2
            all_goals
              obtain ⟨W2, hW2, g1, g2, g3⟩ := hend.out _ hv.out
              refine ⟨?_, by simp [intOf]⟩
              rw [← hW2]
              exact ⟨3, by omega, rfl, g1, g2, g3⟩
          · have c0 := hT1.cell 3 (by omega)
            have f0 := hT1.frozen 3
            have hk : 3 < s.size := by omega
            have hki : (3 : Int) < (s.size : Int) := by omega
            have hv := Lib.hid (wb s (3 * 1 + 0) hk)
            clear hT hT1 hR1 hR hb hb1
            go_wp2
            go_region
            all_goals go_wp2
            all_goals
              obtain ⟨W2, hW2, g1, g2, g3⟩ := hend.out _ hv.out
              refine ⟨?_, by simp [intOf]⟩
              rw [← hW2]
              exact ⟨1, by omega, rfl, g1, g2, g3⟩
          · have c0 := hT1.cell 4 (by omega)
            have f0 := hT1.frozen 4
            have hk : 4 < s.size := by omega
            have hki : (4 : Int) < (s.size : Int) := by omega
            have hv := Lib.hid (wb s (3 * 1 + 1) hk)
            clear hT hT1 hR1 hR hb hb1
            go_wp2
            go_region
            all_goals go_wp2
            all_goals
              obtain ⟨W2, hW2, g1, g2, g3⟩ := hend.out _ hv.out
              refine ⟨?_, by simp [intOf]⟩
              rw [← hW2]
              exact ⟨2, by omega, rfl, g1, g2, g3⟩
          · have c0 := hT1.cell 5 (by omega)
            have f0 := hT1.frozen 5
            have hk : 5 < s.size := by omega
            have hki : (5 : Int) < (s.size : Int) := by omega
            have hv := Lib.hid (wb s (3 * 1 + 2) hk)
            clear hT hT1 hR1 hR hb hb1
            go_wp2
            go_region
            all_goals go_wp2
            all_goals
              obtain ⟨W2, hW2, g1, g2, g3⟩ := hend.out _ hv.out
              refine ⟨?_, by simp [intOf]⟩
              rw [← hW2]
              exact ⟨3, by omega, rfl, g1, g2, g3⟩
          · have c0 := hT1.cell 6 (by omega)
            have f0 := hT1.frozen 6
            have hk : 6 < s.size := by omega
            have hki : (6 : Int) < (s.size : Int) := by omega
            have hv := Lib.hid (wb s (3 * 2 + 0) hk)
            clear hT hT1 hR1 hR hb hb1
            go_wp2
            go_region
            all_goals go_wp2
            all_goals
              obtain ⟨W2, hW2, g1, g2, g3⟩ := hend.out _ hv.out
              refine ⟨?_, by simp [intOf]⟩
              rw [← hW2]
              exact ⟨1, by omega, rfl, g1, g2, g3⟩
          · have c0 := hT1.cell 7 (by omega)
            have f0 := hT1.frozen 7
            have hk : 7 < s.size := by omega
            have hki : (7 : Int) < (s.size : Int) := by omega
            have hv := Lib.hid (wb s (3 * 2 + 1) hk)
            clear hT hT1 hR1 hR hb hb1
            go_wp2
            go_region
            all_goals go_wp2
            all_goals
              obtain ⟨W2, hW2, g1, g2, g3⟩ := hend.out _ hv.out
              refine ⟨?_, by simp [intOf]⟩
              rw [← hW2]
              exact ⟨2, by omega, rfl, g1, g2, g3⟩
          · have c0 := hT1.cell 8 (by omega)
            have f0 := hT1.frozen 8
            have hk : 8 < s.size := by omega
            have hki : (8 : Int) < (s.size : Int) := by omega
            have hv := Lib.hid (wb s (3 * 2 + 2) hk)
            clear hT hT1 hR1 hR hb hb1
            go_wp2
            go_region
            all_goals go_wp2
            all_goals
              obtain ⟨W2, hW2, g1, g2, g3⟩ := hend.out _ hv.out
              refine ⟨?_, by simp [intOf]⟩
              rw [← hW2]
              exact ⟨3, by omega, rfl, g1, g2, g3⟩
        · obtain rfl : j = 3 := by omega
          go_wp2
          go_roundw
          case rel => exact ⟨i + 1, by omega, by go_num, hT1, hR1, hb1⟩
          case measure => simp [intOf]; omega
    · obtain rfl : i = 3 := by omega
      have c0 := hT.cell 0 (by omega)
      have c1 := hT.cell 1 (by omega)
      have c2 := hT.cell 2 (by omega)
      have c3 := hT.cell 3 (by omega)
      have c4 := hT.cell 4 (by omega)
      have c5 := hT.cell 5 (by omega)
      have c6 := hT.cell 6 (by omega)
      have c7 := hT.cell 7 (by omega)
      have c8 := hT.cell 8 (by omega)
      have e9 : ∀ k, k < 9 → part s (3 * 3) k = byteAt s k := fun k hk => by simp [part]; omega
      have r0 := hR.cell 0 (by omega)
      have f0 := hR.frozen 0
      have r1 := hR.cell 1 (by omega)
      have f1 := hR.frozen 1
      have r2 := hR.cell 2 (by omega)
      have f2 := hR.frozen 2
      have r3 := hR.cell 3 (by omega)
      have f3 := hR.frozen 3
      have r4 := hR.cell 4 (by omega)
      have f4 := hR.frozen 4
      have r5 := hR.cell 5 (by omega)
      have f5 := hR.frozen 5
      have r6 := hR.cell 6 (by omega)
      have f6 := hR.frozen 6
      have r7 := hR.cell 7 (by omega)
      have f7 := hR.frozen 7
      have r8 := hR.cell 8 (by omega)
      have f8 := hR.frozen 8
      have hfin : Hid (∃ W9, W9 = (((((((((wr.setCell ⟨w.heap.size, 0, none⟩ (.int .i64 (byteAt s 0))).setCell ⟨w.heap.size, 1, none⟩ (.int .i64 (byteAt s 1))).setCell ⟨w.heap.size, 2, none⟩ (.int .i64 (byteAt s 2))).setCell ⟨w.heap.size, 3, none⟩ (.int .i64 (byteAt s 3))).setCell ⟨w.heap.size, 4, none⟩ (.int .i64 (byteAt s 4))).setCell ⟨w.heap.size, 5, none⟩ (.int .i64 (byteAt s 5))).setCell ⟨w.heap.size, 6, none⟩ (.int .i64 (byteAt s 6))).setCell ⟨w.heap.size, 7, none⟩ (.int .i64 (byteAt s 7))).setCell ⟨w.heap.size, 8, none⟩ (.int .i64 (byteAt s 8))) ∧ Tabd (byteAt s) w.heap.size W9 ∧ Below w.heap.size w W9) := by
        refine ⟨_, rfl, ?_, ?_⟩
        · refine Tabd.congr (((((((((hR.store 0 (by omega) (byteAt s 0)).store 1 (by omega) (byteAt s 1)).store 2 (by omega) (byteAt s 2)).store 3 (by omega) (byteAt s 3)).store 4 (by omega) (byteAt s 4)).store 5 (by omega) (byteAt s 5)).store 6 (by omega) (byteAt s 6)).store 7 (by omega) (byteAt s 7)).store 8 (by omega) (byteAt s 8)) ?_
          intro k hk
          match k, hk with
          | 0, _ | 1, _ | 2, _ | 3, _ | 4, _ | 5, _ | 6, _ | 7, _ | 8, _ => rfl
        · exact ((((((((hb.setCell (p := ⟨w.heap.size, 0, none⟩) (Nat.le_refl _) _).setCell (p := ⟨w.heap.size, 1, none⟩) (Nat.le_refl _) _).setCell (p := ⟨w.heap.size, 2, none⟩) (Nat.le_refl _) _).setCell (p := ⟨w.heap.size, 3, none⟩) (Nat.le_refl _) _).setCell (p := ⟨w.heap.size, 4, none⟩) (Nat.le_refl _) _).setCell (p := ⟨w.heap.size, 5, none⟩) (Nat.le_refl _) _).setCell (p := ⟨w.heap.size, 6, none⟩) (Nat.le_refl _) _).setCell (p := ⟨w.heap.size, 7, none⟩) (Nat.le_refl _) _).setCell (p := ⟨w.heap.size, 8, none⟩) (Nat.le_refl _) _
      go_wp2
      obtain ⟨W9, hW9, hT9, hb9⟩ := hfin.out
      rw [← hW9]
      have q0 := hT9.cell 0 (by omega)
      have q1 := hT9.cell 1 (by omega)
      have q2 := hT9.cell 2 (by omega)
      have q3 := hT9.cell 3 (by omega)
      have q4 := hT9.cell 4 (by omega)
      have q5 := hT9.cell 5 (by omega)
      have q6 := hT9.cell 6 (by omega)
      have q7 := hT9.cell 7 (by omega)
      have q8 := hT9.cell 8 (by omega)
      clear hW9
      exact bodyPost_ret (v := .agg (tcells (byteAt s))) (by simp [results, Tryz.results103, go_sem, tcells, q0, q1, q2, q3, q4, q5, q6, q7, q8]) rfl ⟨rfl, hb9⟩
end Go.Proofs.YtdldoghcbnkkjaaGreatDoor
