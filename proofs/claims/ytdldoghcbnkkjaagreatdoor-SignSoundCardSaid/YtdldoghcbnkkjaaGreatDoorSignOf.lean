/- The iterator over the signs of a set. · The union of the results for all signs of two sets. -/
import Derived.RangeFuncNested
import Derived.RangeFuncBound
import Derived.RangeFuncCalls
import Derived.RangeFuncLeaves
import Derived.Shelf.Abstract
import Derived.Shelf.RegionOpen
import Derived.WalkKit
import Derived.OwnWalkIn
import Derived.TacticsInMore
import Derived.LoopNIn
import Derived.LoopIn
import Derived.Outline
import Derived.Lib.Hide
import Derived.Test.YtdldoghcbnkkjaaGreatDoorProg
import Derived.Test.YtdldoghcbnkkjaaGreatDoorBase
import Derived.RegionTactic
import Derived.BigRegionIn
import Derived.ChangeAlike
set_option linter.unusedVariables false
set_option linter.unusedSimpArgs false
namespace Go.Proofs.YtdldoghcbnkkjaaGreatDoor
open Go.RowKit Go.Shelf

attribute [local go_sem] Oper.semAt_some

/-- Is the sign k in the set s, as the program tests it? -/
def sgt (s : Int) (k : Nat) : Bool := decide (bits BinOp.and IntKind.i64 (s / 2 ^ k) 1 = 1)
/-- The signs below k of a set. -/
def sgl (s : Int) : Nat → List (Fin 3)
  | 0 => []
  | k + 1 => sgl s k ++ (if h : k < 3 then (if sgt s k = true then [⟨k, h⟩] else []) else [])
theorem sgl_yes (s : Int) (k : Nat) (h3 : k < 3) (h : sgt s k = true) : sgl s (k + 1) = sgl s k ++ [⟨k, h3⟩] := by simp [sgl, h, h3]
theorem sgl_no (s : Int) (k : Nat) (h : sgt s k = false) : sgl s (k + 1) = sgl s k := by simp [sgl, h]
theorem sgl_len (s : Int) : ∀ k, (sgl s k).length ≤ k
  | 0 => Nat.le_refl _
  | k + 1 => by
    have := sgl_len s k
    rw [sgl, List.length_append]
    split
    · split <;> simp <;> omega
    · simp; omega
theorem sgl_mono (s : Int) (k : Nat) : ∀ j, sgl s k <+: sgl s (k + j)
  | 0 => List.prefix_refl _
  | j + 1 => (sgl_mono s k j).trans (by rw [← Nat.add_assoc, sgl]; exact List.prefix_append _ _)

set_option maxRecDepth 100000 in
set_option maxHeartbeats 2000000 in
theorem signs1_in (F : Fence) (n : Nat) (h40 : F.fn 140) (hro : F.round = none) (hn : 1 ≤ n) (l Bs : Nat) (s : Int) (J Jx : List (Fin 3) → World → Prop)
    (hY : ∀ pre x W, J pre W → pre.length < 3 → YieldAt F (n - 1) Tryz.prog l #[.int .i64 (x.val : Int)] W fun e W' =>
      (e = .returned (.bool true) ∧ J (pre ++ [x]) W' ∧ KeepB Bs W W') ∨ (e = .returned (.bool false) ∧ Jx (pre ++ [x]) W'))
    (W : World) (hBs : W.cell? ⟨Bs, 0, none⟩ = some (.int .i64 s)) (h0 : J [] W) :
    CallsIn F n Tryz.prog 140 #[.func (.yield l) #[] #[], .pointer (some ⟨Bs, 0, none⟩)] W fun e W' => (∃ v, e = .returned v) ∧
      ((∃ ys, ys = sgl s 3 ∧ J ys W') ∨ (∃ pre, pre <+: sgl s 3 ∧ Jx pre W')) := by
  refine callsIn_of_wp Tryz.func140 rfl h40 ?_ hro
  simp only [Tryz.ntmps140, List.size_toArray, List.length_cons, List.length_nil, Nat.reduceAdd, Nat.reduceSub, Array.replicate_succ, Array.replicate_zero, List.push_toArray, List.append_toArray, List.nil_append, List.cons_append]
  gi_wp2
  gi_loopw [4] (fun i wr => ∃ k : Nat, k ≤ 3 ∧ i = .int .i64 k ∧ J (sgl s k) wr ∧ KeepB Bs W wr)
    (fun i _ => 3 - (intOf i).toNat)
  case atStart => exact ⟨0, Nat.zero_le _, rfl, h0, KeepB.refl _ _⟩
  case round =>
    obtain ⟨k, hk, rfl, hJs, hnx⟩ := hrel
    have hcx : wr.cell? ⟨Bs, 0, none⟩ = some (.int .i64 s) := hnx.cell hBs
    by_cases hlt : k < 3
    · obtain ⟨fn, tmps, assign, body, hy, hR⟩ := hY _ ⟨k, hlt⟩ wr hJs (by have := sgl_len s k; omega)
      dsimp only at hy
      have hlen := sgl_len s k
      by_cases hb : bits BinOp.and IntKind.i64 (s / 2 ^ k) 1 = 1
      · have hyes := sgl_yes s k hlt (by simp [sgt, hb])
        have hsg : (sgl s k ++ [⟨k, hlt⟩]) <+: sgl s 3 := by rw [← hyes]; have := sgl_mono s (k + 1) (3 - (k + 1)); rwa [show k + 1 + (3 - (k + 1)) = 3 from by omega] at this
        have Hyes := Lib.hid hyes
        clear hyes
        gi_wp2
        refine hR.mono ?_
        rintro e W3 (⟨rfl, hJ3, hk3⟩ | ⟨rfl, hJx3⟩)
        · gi_wp2
          go_roundw
          case rel => exact ⟨k + 1, by omega, by simp, by rw [Hyes.out]; exact hJ3, hnx.trans hk3⟩
          case measure => simp [intOf]; omega
        · gi_wp2
          refine bodyPost_ret (results_none rfl _ _ _) rfl ?_
          exact ⟨⟨_, rfl⟩, .inr ⟨_, hsg, hJx3⟩⟩
      · have hno := Lib.hid (sgl_no s k (by simp [sgt, hb]))
        clear hy hR
        gi_wp2
        refine ⟨fun _ h => (by cases h), ?_⟩
        gi_wp2
        go_roundw
        case rel => exact ⟨k + 1, by omega, by simp, by rw [hno.out]; exact hJs, hnx⟩
        case measure => simp [intOf]; omega
    · obtain rfl : k = 3 := by omega
      gi_wp2
      go_end0
      exact ⟨⟨_, rfl⟩, .inl ⟨_, rfl, hJs⟩⟩

set_option maxHeartbeats 1000000 in
theorem signs_in (F : Fence) (n : Nat) (h5 : F.fn 106) (hro : F.round = none) (s : Int) (w : World) :
    CallsIn F n Tryz.prog 106 #[.int .i64 s] w fun e w' => e = .returned (.func (.func 140) #[] #[.pointer (some ⟨w.heap.size, 0, none⟩)]) ∧ w' = w.alloc (.cells #[.int .i64 s] 3) := by
  refine callsIn_of_wp Tryz.func106 rfl h5 ?_ hro
  simp only [Tryz.ntmps106, List.size_toArray, List.length_cons, List.length_nil, Nat.reduceAdd, Nat.reduceSub, Array.replicate_succ, Array.replicate_zero, List.push_toArray, List.append_toArray, List.nil_append, List.cons_append]
  gi_wp2
  go_ret
  exact ⟨rfl, rfl⟩

theorem signs_stops (F : Fence) (n : Nat) (h6 : F.fn 140) (hro : F.round = none) (hn : 1 ≤ n) (Bn : Nat) (s : Int) (w : World) (hBn : Bn < w.heap.size)
    (hc : w.cell? ⟨Bn, 0, none⟩ = some (.int .i64 s)) :
    SeqStopsK F n Tryz.prog 140 #[.pointer (some ⟨Bn, 0, none⟩)] (fun x : Fin 3 => #[Value.int .i64 (x.val : Int)]) (KeepB Bn) (fun ys => ys = sgl s 3) (fun pre => pre <+: sgl s 3) 3 w := fun l J Jx W hW _ _ hY h0 =>
  signs1_in F n h6 hro hn l Bn s J Jx hY W ((hW.cell (p := ⟨Bn, 0, none⟩) hBn).trans hc) h0
end Go.Proofs.YtdldoghcbnkkjaaGreatDoor

namespace Go.Proofs.YtdldoghcbnkkjaaGreatDoor
open Go.RowKit Go.Shelf

attribute [local go_sem] Oper.semAt_some

/-- The cells of a table of nine numbers. -/
def tcells (t : Nat → Int) : Array Value := #[.int .i64 (t 0), .int .i64 (t 1), .int .i64 (t 2), .int .i64 (t 3), .int .i64 (t 4), .int .i64 (t 5), .int .i64 (t 6), .int .i64 (t 7), .int .i64 (t 8)]
/-- Block B is such a table. -/
def Tabd (t : Nat → Int) (B : Nat) (W : World) : Prop := W.heap[B]? = some (.cells (tcells t) 105 (0, 0))
theorem Tabd.lt {t : Nat → Int} {B : Nat} {W : World} (h : Tabd t B W) : B < W.heap.size := (Array.getElem?_eq_some_iff.1 h).1
theorem Tabd.cell {t : Nat → Int} {B : Nat} {W : World} (h : Tabd t B W) (k : Nat) (hk : k < 9) : W.cell? ⟨B, k, none⟩ = some (.int .i64 (t k)) := by
  have e : (tcells t)[k]? = some (.int .i64 (t k)) := by
    match k, hk with
    | 0, _ | 1, _ | 2, _ | 3, _ | 4, _ | 5, _ | 6, _ | 7, _ | 8, _ => rfl
  simp [World.cell?, show W.heap[B]? = _ from h, e]
theorem Tabd.alloc {t : Nat → Int} {B : Nat} {W : World} (h : Tabd t B W) (o : Obj) : Tabd t B (W.alloc o) := (Below.heap_alloc W o B h.lt).trans h
theorem tabd_own (t : Nat → Int) (B : Nat) {β : Type} : Own (fun (_ : β) W => Tabd t B W) := fun _ W W' row h hg hr => (hg.block B (Tabd.lt h) (fun e => by
  obtain ⟨o, ho, hc⟩ := hr B e.symm
  rw [show W.heap[B]? = _ from h] at ho
  cases ho
  cases hc)).trans h
theorem Tabd.set {t : Nat → Int} {B : Nat} {W : World} (h : Tabd t B W) {b : Nat} (hb : b ≠ B) (v : Value) : Tabd t B (W.setCell ⟨b, 0, none⟩ v) := (Below.heap_setCell W ⟨b, 0, none⟩ v B (fun e => hb e.symm)).trans h

/-- The union so far: one row; all rows. -/
def ofRow (t : Nat → Int) (x : Fin 3) (s : Int) (ys : List (Fin 3)) : Int := ys.foldl (fun s y => bits BinOp.or IntKind.i64 s (t (3 * x.val + y.val))) s
def ofAll (t : Nat → Int) (xs ys : List (Fin 3)) : Int := xs.foldl (fun s x => ofRow t x s ys) 0
theorem ofRow_snoc (t : Nat → Int) (x : Fin 3) (s : Int) (pre : List (Fin 3)) (y : Fin 3) : ofRow t x s (pre ++ [y]) = bits BinOp.or IntKind.i64 (ofRow t x s pre) (t (3 * x.val + y.val)) := by simp [ofRow]
theorem ofAll_snoc (t : Nat → Int) (pre : List (Fin 3)) (x : Fin 3) (ys : List (Fin 3)) : ofAll t (pre ++ [x]) ys = ofRow t x (ofAll t pre ys) ys := by simp [ofAll]

set_option maxRecDepth 100000 in
set_option maxHeartbeats 4000000 in
theorem of_in (F : Fence) (n : Nat) (h43 : F.fn 104) (h23 : F.fn 106) (h40 : F.fn 140) (hro : F.round = none) (hn : 6 ≤ n) (t : Nat → Int) (a b : Int) (w : World) :
    CallsIn F n Tryz.prog 104 #[.agg (tcells t), .int .i64 a, .int .i64 b] w fun e W' => e = .returned (.int .i64 (ofAll t (sgl a 3) (sgl b 3))) ∧ Below w.heap.size w W' := by
  have h1 : 1 ≤ n := by omega
  have hmix : Tryz.prog.follows .mixedOrders = true := by kernel_rfl
  refine callsIn_of_wp_marks Tryz.func104 rfl h43 ?_ hro
  simp only [Tryz.ntmps104, List.size_toArray, List.length_cons, List.length_nil, Nat.reduceAdd, Nat.reduceSub, Array.replicate_succ, Array.replicate_zero, List.push_toArray, List.append_toArray, List.nil_append, List.cons_append]
  gi_wp2_with (gi_at_call 106; refine (signs_in F (n - 1) h23 hro _ _).mono ?_; rintro e w' ⟨rfl, rfl⟩)
  have bT : Tabd t w.heap.size ((((w.alloc (.cells (tcells t) 105)).alloc (.cells #[.int .i64 b] 3)).alloc (.cells #[.int .i64 0] 3)).alloc (.cells #[.int .i64 a] 3)) :=
    (((show Tabd t w.heap.size _ from World.alloc_heap_new w _).alloc _).alloc _).alloc _
  have bB := ((Boxed.new (w.alloc (.cells (tcells t) 105)) 3 (.int .i64 b)).alloc (.cells #[.int .i64 0] 3)).alloc (.cells #[.int .i64 a] 3)
  have bS := (Boxed.new ((w.alloc (.cells (tcells t) 105)).alloc (.cells #[.int .i64 b] 3)) 3 (.int .i64 0)).alloc (.cells #[.int .i64 a] 3)
  have bA := Boxed.new (((w.alloc (.cells (tcells t) 105)).alloc (.cells #[.int .i64 b] 3)).alloc (.cells #[.int .i64 0] 3)) 3 (.int .i64 a)
  simp only [World.size_alloc] at bS bA bB
  have hB0 : Below w.heap.size w ((((w.alloc (.cells (tcells t) 105)).alloc (.cells #[.int .i64 b] 3)).alloc (.cells #[.int .i64 0] 3)).alloc (.cells #[.int .i64 a] 3)) := ((((Below.refl _ w).alloc (Nat.le_refl _) _).alloc (by simp) _).alloc (by simp; omega) _).alloc (by simp; omega) _
  have hsz : ((((w.alloc (.cells (tcells t) 105)).alloc (.cells #[.int .i64 b] 3)).alloc (.cells #[.int .i64 0] 3)).alloc (.cells #[.int .i64 a] 3)).heap.size = w.heap.size + 4 := by simp
  obtain ⟨W0, hW0⟩ : ∃ W0, (((w.alloc (.cells (tcells t) 105)).alloc (.cells #[.int .i64 b] 3)).alloc (.cells #[.int .i64 0] 3)).alloc (.cells #[.int .i64 a] 3) = W0 := ⟨_, rfl⟩
  rw [hW0] at bT bB bS bA hB0 hsz ⊢
  clear hW0
  refine wpIn_rangeFunc_ownH hro h1 (gf := 140) (lb := #[.pointer (some ⟨w.heap.size + 1 + 1 + 1, 0, none⟩)]) rfl h40 (enters_of Tryz.func140 (by kernel_rfl) rfl)
    (signs_stops F (n - 1) h40 hro (by omega) (w.heap.size + 1 + 1 + 1) a W0 (by omega) bA.cell) keepB_t (keepB_b (by omega)) (Below.refl _ _) (fun _ => rfl)
    (fun pre W => ((Boxed W (w.heap.size + 1 + 1) 3 (.int .i64 (ofAll t pre (sgl b 3))) ∧ Boxed W (w.heap.size + 1) 3 (.int .i64 b)) ∧ Tabd t w.heap.size W) ∧ Below w.heap.size w W)
    (fun _ _ _ => False)
    (OwnFrom.and (OwnFrom.and (OwnFrom.and (Own.from (boxed_own _ _ _) _) (Own.from (boxed_own _ _ _) _)) (Own.from (tabd_own _ _) _)) (ownFrom_below (Nat.le_refl _) (by omega)))
    (fun _ _ _ _ _ hs _ _ => hs)
    ⟨⟨⟨bS, bB⟩, bT⟩, hB0⟩
    (fun x a' W => ∃ Bx, w.heap.size + 1 + 1 < Bx ∧ Boxed W Bx 3 (.int .i64 (x.val : Int)) ∧ a' = { tmps := #[.agg (tcells t), .int .i64 a, .int .i64 b, .pointer (some ⟨w.heap.size, 0, none⟩), undef, .pointer (some ⟨w.heap.size + 1, 0, none⟩), .int .i64 0, .pointer (some ⟨w.heap.size + 1 + 1, 0, none⟩), .pointer (some ⟨Bx, 0, none⟩), undef, .int .i64 a, .func (.func 140) #[] #[.pointer (some ⟨w.heap.size + 1 + 1 + 1, 0, none⟩)], .int .i64 (x.val : Int), undef, undef, undef, undef, undef, undef, undef, undef, undef, undef, undef], defers := [] })
    (fun x a' _ X Y row hs hg hr => by obtain ⟨Bx, h1, h2, h3⟩ := hs; exact ⟨Bx, h1, boxed_own Bx 3 (fun (_ : Unit) => Value.int .i64 (x.val : Int)) () X Y row h2 hg (fun r e => (hr r e).2), h3⟩)
    ?assign ?body ?done ?stop
  case assign =>
    rintro l pre x W K ⟨⟨⟨bS1, bB1⟩, bT1⟩, hB1⟩ hK
    gi_wp2
    exact hK _ _ ((KeepsOthers.alloc _ _).from _) ((KeepB.refl _ W).alloc _) ⟨⟨⟨bS1.alloc _, bB1.alloc _⟩, bT1.alloc _⟩, hB1.alloc hB1.size _⟩ ⟨W.heap.size, bS1.lt, Boxed.new W 3 _, rfl⟩
  case body =>
    rintro l pre x a' W hl ⟨r, hr⟩ ⟨⟨⟨bS1, bB1⟩, bT1⟩, hB1⟩ ⟨Bx, hBx, bX, rfl⟩ hlt
    have cB := bB1.cell
    have h1' : 1 ≤ n - 1 - 1 := by omega
    gi_wp2_with (gi_at_call 106; refine (CallsIn.inRound l (signs_in F (n - 1 - 1 - 1) h23 hro _ _)).mono ?_; rintro e w' ⟨rfl, rfl⟩)
    have hsW := hB1.size
    have bN := Boxed.new W 3 (.int .i64 b)
    have hr' : (W.alloc (.cells #[.int .i64 b] 3)).heap[l]? = some (.loop r) := (Below.heap_alloc W _ l (Array.getElem?_eq_some_iff.1 hr).1).trans hr
    refine wpIn_rangeFunc_ownN (l₀ := l) (r₀ := r) rfl hr' h1' (gf := 140) (lb := #[.pointer (some ⟨W.heap.size, 0, none⟩)]) rfl h40 (enters_of Tryz.func140 (by kernel_rfl) rfl)
      ((signs_stops F (n - 1 - 1 - 1) h40 hro (by omega) W.heap.size b _ (by simp) bN.cell).inRound l) keepB_t (keepB_b (by simp)) (Below.refl _ _) (fun _ => rfl)
      (fun pre' W' => (((Boxed W' (w.heap.size + 1 + 1) 3 (.int .i64 (ofRow t x (ofAll t pre (sgl b 3)) pre')) ∧ Boxed W' Bx 3 (.int .i64 (x.val : Int))) ∧ Boxed W' (w.heap.size + 1) 3 (.int .i64 b)) ∧ Tabd t w.heap.size W') ∧ (Below w.heap.size W W' ∧ (KeepB (w.heap.size + 1 + 1 + 1) W W' ∧ KeepsFrom W0.heap.size W W')))
      (fun _ _ _ => False)
      (OwnFrom.and (OwnFrom.and (OwnFrom.and (OwnFrom.and (Own.from (boxed_own _ _ _) _) (Own.from (boxed_own _ _ _) _)) (Own.from (boxed_own _ _ _) _)) (Own.from (tabd_own _ _) _)) (OwnFrom.and (ownFrom_below hsW (by simp; omega)) (OwnFrom.and (ownFrom_keepB (by have := hB0.size; have := bX.lt; simp; omega) _) (ownFrom_keepsFrom (by simp)))))
      (fun _ _ _ _ _ hs _ _ => hs)
      ⟨⟨⟨⟨bS1.alloc _, bX.alloc _⟩, bB1.alloc _⟩, bT1.alloc _⟩, (Below.refl _ W).alloc hsW _, (KeepB.refl _ W).alloc _, (KeepsOthers.alloc _ _).from _⟩
      (fun y a'' _ => a'' = { tmps := #[.agg (tcells t), .int .i64 a, .int .i64 b, .pointer (some ⟨w.heap.size, 0, none⟩), undef, .pointer (some ⟨w.heap.size + 1, 0, none⟩), .int .i64 0, .pointer (some ⟨w.heap.size + 1 + 1, 0, none⟩), .pointer (some ⟨Bx, 0, none⟩), .int .i64 (y.val : Int), .int .i64 a, .func (.func 140) #[] #[.pointer (some ⟨w.heap.size + 1 + 1 + 1, 0, none⟩)], .int .i64 (x.val : Int), .int .i64 b, .func (.func 140) #[] #[.pointer (some ⟨W.heap.size, 0, none⟩)], .int .i64 (y.val : Int), undef, undef, undef, undef, undef, undef, undef, undef], defers := [] })
      (fun _ _ _ _ _ _ hs _ _ => hs)
      ?assign2 ?body2 ?done2 ?stop2
    case assign2 =>
      rintro l2 pre' y W' K hi hK
      gi_wp2
      exact hK _ _ (KeepsFrom.refl _ _) (KeepB.refl _ _) hi rfl
    case body2 =>
      rintro l2 pre' y a'' W' _ _ ⟨⟨⟨⟨bS2, bX2⟩, bB2⟩, bT2⟩, hBW, hKB, hKF⟩ rfl _
      have ex : x.val = 0 ∨ x.val = 1 ∨ x.val = 2 := by have := x.isLt; omega
      have ey : y.val = 0 ∨ y.val = 1 ∨ y.val = 2 := by have := y.isLt; omega
      have hend : Hid (∀ v, ofRow t x (ofAll t pre (sgl b 3)) (pre' ++ [y]) = v → KeepsFrom (W.alloc (.cells #[.int .i64 b] 3)).heap.size W' (W'.setCell ⟨w.heap.size + 1 + 1, 0, none⟩ (.int .i64 v)).drew ∧ KeepB W.heap.size W' (W'.setCell ⟨w.heap.size + 1 + 1, 0, none⟩ (.int .i64 v)).drew ∧
          ((((Boxed (W'.setCell ⟨w.heap.size + 1 + 1, 0, none⟩ (.int .i64 v)).drew (w.heap.size + 1 + 1) 3 (.int .i64 (ofRow t x (ofAll t pre (sgl b 3)) (pre' ++ [y]))) ∧ Boxed (W'.setCell ⟨w.heap.size + 1 + 1, 0, none⟩ (.int .i64 v)).drew Bx 3 (.int .i64 (x.val : Int))) ∧ Boxed (W'.setCell ⟨w.heap.size + 1 + 1, 0, none⟩ (.int .i64 v)).drew (w.heap.size + 1) 3 (.int .i64 b)) ∧ Tabd t w.heap.size (W'.setCell ⟨w.heap.size + 1 + 1, 0, none⟩ (.int .i64 v)).drew) ∧
            (Below w.heap.size W (W'.setCell ⟨w.heap.size + 1 + 1, 0, none⟩ (.int .i64 v)).drew ∧ (KeepB (w.heap.size + 1 + 1 + 1) W (W'.setCell ⟨w.heap.size + 1 + 1, 0, none⟩ (.int .i64 v)).drew ∧ KeepsFrom W0.heap.size W (W'.setCell ⟨w.heap.size + 1 + 1, 0, none⟩ (.int .i64 v)).drew)))) := by
        rintro v rfl
        have hlS := bS1.lt
        refine ⟨((KeepsOthers.setCell W' _ _).trans (KeepsOthers.drew _)).from _, ((KeepB.refl _ W').setCell (by omega) _).drew, ⟨⟨⟨?_, ?_⟩, ?_⟩, ?_⟩, (hBW.setCell (p := ⟨w.heap.size + 1 + 1, 0, none⟩) (by simp; omega) _).drew, (hKB.setCell (by omega) _).drew, hKF.trans (((KeepsOthers.setCell W' _ _).trans (KeepsOthers.drew _)).from _)⟩
        · exact bS2.set _
        · exact bX2.other (by omega) _
        · exact bB2.other (by omega) _
        · exact bT2.set (by omega) _
      have hstep : Hid (ofRow t x (ofAll t pre (sgl b 3)) (pre' ++ [y]) = _) := ofRow_snoc t x (ofAll t pre (sgl b 3)) pre' y
      generalize ofRow t x (ofAll t pre (sgl b 3)) pre' = acc at *
      obtain ⟨x, hx3⟩ := x
      obtain ⟨y, hy3⟩ := y
      dsimp only at *
      rcases ex with rfl | rfl | rfl <;> rcases ey with rfl | rfl | rfl
      · have cS := bS2.cell
        have fS := bS2.frozen
        have cX := bX2.cell
        have cT := bT2.cell 0 (by omega)
        gi_wp2
        gi_region
        all_goals gi_wp2
        all_goals exact hend.out _ hstep.out
      · have cS := bS2.cell
        have fS := bS2.frozen
        have cX := bX2.cell
        have cT := bT2.cell 1 (by omega)
        gi_wp2
        gi_region
        all_goals gi_wp2
        all_goals exact hend.out _ hstep.out
      · have cS := bS2.cell
        have fS := bS2.frozen
        have cX := bX2.cell
        have cT := bT2.cell 2 (by omega)
        gi_wp2
        gi_region
        all_goals gi_wp2
        all_goals exact hend.out _ hstep.out
      · have cS := bS2.cell
        have fS := bS2.frozen
        have cX := bX2.cell
        have cT := bT2.cell 3 (by omega)
        gi_wp2
        gi_region
        all_goals gi_wp2
        all_goals exact hend.out _ hstep.out
      · have cS := bS2.cell
        have fS := bS2.frozen
        have cX := bX2.cell
        have cT := bT2.cell 4 (by omega)
        gi_wp2
        gi_region
        all_goals gi_wp2
        all_goals exact hend.out _ hstep.out
      · have cS := bS2.cell
        have fS := bS2.frozen
        have cX := bX2.cell
        have cT := bT2.cell 5 (by omega)
        gi_wp2
        gi_region
        all_goals gi_wp2
        all_goals exact hend.out _ hstep.out
      · have cS := bS2.cell
        have fS := bS2.frozen
        have cX := bX2.cell
        have cT := bT2.cell 6 (by omega)
        gi_wp2
        gi_region
        all_goals gi_wp2
        all_goals exact hend.out _ hstep.out
      · have cS := bS2.cell
        have fS := bS2.frozen
        have cX := bX2.cell
        have cT := bT2.cell 7 (by omega)
        gi_wp2
        gi_region
        all_goals gi_wp2
        all_goals exact hend.out _ hstep.out
      · have cS := bS2.cell
        have fS := bS2.frozen
        have cX := bX2.cell
        have cT := bT2.cell 8 (by omega)
        gi_wp2
        gi_region
        all_goals gi_wp2
        all_goals exact hend.out _ hstep.out
    case done2 =>
      rintro ys' W' rfl ⟨⟨⟨⟨bS2, bX2⟩, bB2⟩, bT2⟩, hBW, hKB, hKF⟩
      gi_wp2
      exact ⟨hKF, hKB, ⟨⟨⟨by rw [ofAll_snoc]; exact bS2, bB2⟩, bT2⟩, hB1.trans hBW⟩⟩
    case stop2 =>
      rintro c pre' W' _ h
      exact h.elim
  case done =>
    rintro D zs W hD rfl ⟨⟨⟨bS1, bB1⟩, bT1⟩, hB1⟩ hK
    have cS := bS1.cell
    gi_wp2
    refine ⟨by simp, .inl ⟨_, _, rfl, run_takeDeferred hK, ?_⟩⟩
    exact ⟨_, results_tmp rfl _ _ _, rfl, hB1.trans (belowK_b (w := w) (Nat.le_refl _) W D _ _ (by omega) hK rfl rfl)⟩
  case stop =>
    rintro D c pre W _ _ h _
    exact h.elim
end Go.Proofs.YtdldoghcbnkkjaaGreatDoor
