/- The iterator over the signs of a set. -/
import Derived.RangeFuncNested
import Derived.RangeFuncBound
import Derived.RangeFuncCalls
import Derived.RangeFuncLeaves
import Derived.Shelf.Abstract
import Derived.Shelf.RegionOpen
import Derived.WalkKit
import Derived.OwnWalkIn
import Derived.TacticsInMore
import Derived.LoopNIn
import Derived.LoopIn
import Derived.Outline
import Derived.Lib.Hide
import Derived.Test.YtlefniheafefgaaProg
set_option linter.unusedVariables false
set_option linter.unusedSimpArgs false
namespace Go.Proofs.Ytlefniheafefgaa
open Go.RowKit Go.Shelf

attribute [local go_sem] Oper.semAt_some

/-- What block B holds it holds on. -/
structure KeepB (B : Nat) (W W' : World) : Prop where
  same : ∀ o, W.heap[B]? = some o → W'.heap[B]? = some o
theorem KeepB.refl (B : Nat) (W : World) : KeepB B W W := ⟨fun _ h => h⟩
theorem KeepB.trans {B : Nat} {X Y Z : World} (h : KeepB B X Y) (k : KeepB B Y Z) : KeepB B X Z := ⟨fun o e => k.same o (h.same o e)⟩
theorem KeepB.cell {B : Nat} {X Y : World} (h : KeepB B X Y) {o : Nat} {v : Value} (e : X.cell? ⟨B, o, none⟩ = some v) : Y.cell? ⟨B, o, none⟩ = some v := by
  cases hx : X.heap[B]? with
  | none => simp [World.cell?, hx] at e
  | some ob =>
    have hy := h.same ob hx
    have : Y.cell? ⟨B, o, none⟩ = X.cell? ⟨B, o, none⟩ := by simp [World.cell?, hx, hy]
    rw [this]; exact e
theorem KeepB.of_grownBy {B : Nat} {X Y : World} {row : Option Nat} (hg : X.grownBy Y row) (hr : row ≠ some B) : KeepB B X Y := ⟨fun o e => (hg.block B (Array.getElem?_eq_some_iff.1 e).1 (fun q => hr q.symm)).trans e⟩
theorem KeepB.of_below {B n : Nat} {X Y : World} (hb : Below n X Y) (hB : B < n) : KeepB B X Y := ⟨fun o e => (hb.block B hB).trans e⟩
theorem KeepB.alloc {B : Nat} {X Y : World} (h : KeepB B X Y) (o : Obj) : KeepB B X (Y.alloc o) := h.trans (.of_grownBy (World.grownBy_alloc Y o none) (by simp))
theorem KeepB.setCell {B : Nat} {X Y : World} (h : KeepB B X Y) {b : Nat} (hb : b ≠ B) (v : Value) : KeepB B X (Y.setCell ⟨b, 0, none⟩ v) := h.trans (.of_grownBy (grownBy_setCell' Y b v) (by simpa using hb))
theorem KeepB.drew {B : Nat} {X Y : World} (h : KeepB B X Y) : KeepB B X Y.drew := ⟨h.same⟩
theorem KeepB.put {B : Nat} {X Y : World} (h : KeepB B X Y) {l : Nat} (hl : l ≠ B) (o : Obj) : KeepB B X (Y.putObj l o) := h.trans (.of_grownBy (grownBy_putObj' Y l o) (by simpa using hl))
theorem keepB_t {k : Nat} {A B C : World} (h : KeepB k A B) (h' : KeepB k B C) : KeepB k A C := h.trans h'
theorem keepB_b {k : Nat} {w : World} (hk : k < w.heap.size) (W : World) (l : Nat) (o o' : Obj) (hl : w.heap.size ≤ l) (_ : W.heap[l]? = some o) (_ : o.isCells = false) (_ : o.isWalk = false) : KeepB k W (W.putObj l o') := (KeepB.refl k W).put (by omega) o'
theorem ownFrom_keepB {β : Type} {B k : Nat} (hk : k < B) (X : World) : OwnFrom B (fun (_ : β) W => KeepB k X W) := fun _ _ _ _ h hg hr => h.trans (.of_grownBy hg (fun e => by have := (hr k e).1; omega))

/-- Is the sign k in the set s, as the program tests it? -/
def sgt (s : Int) (k : Nat) : Bool := decide (bits BinOp.and IntKind.i64 (s / 2 ^ k) 1 = 1)
/-- The signs below k of a set. -/
def sgl (s : Int) : Nat → List (Fin 3)
  | 0 => []
  | k + 1 => sgl s k ++ (if h : k < 3 then (if sgt s k = true then [⟨k, h⟩] else []) else [])
theorem sgl_yes (s : Int) (k : Nat) (h3 : k < 3) (h : sgt s k = true) : sgl s (k + 1) = sgl s k ++ [⟨k, h3⟩] := by simp [sgl, h, h3]
theorem sgl_no (s : Int) (k : Nat) (h : sgt s k = false) : sgl s (k + 1) = sgl s k := by simp [sgl, h]
theorem sgl_len (s : Int) : ∀ k, (sgl s k).length ≤ k
  | 0 => Nat.le_refl _
  | k + 1 => by
    have := sgl_len s k
    rw [sgl, List.length_append]
    split
    · split <;> simp <;> omega
    · simp; omega
theorem sgl_mono (s : Int) (k : Nat) : ∀ j, sgl s k <+: sgl s (k + j)
  | 0 => List.prefix_refl _
  | j + 1 => (sgl_mono s k j).trans (by rw [← Nat.add_assoc, sgl]; exact List.prefix_append _ _)

set_option maxRecDepth 100000 in
set_option maxHeartbeats 2000000 in
theorem signs1_in (F : Fence) (n : Nat) (h40 : F.fn 40) (hro : F.round = none) (hn : 1 ≤ n) (l Bs : Nat) (s : Int) (J Jx : List (Fin 3) → World → Prop)
    (hY : ∀ pre x W, J pre W → pre.length < 3 → YieldAt F (n - 1) Try.prog l #[.int .i64 (x.val : Int)] W fun e W' =>
      (e = .returned (.bool true) ∧ J (pre ++ [x]) W' ∧ KeepB Bs W W') ∨ (e = .returned (.bool false) ∧ Jx (pre ++ [x]) W'))
    (W : World) (hBs : W.cell? ⟨Bs, 0, none⟩ = some (.int .i64 s)) (h0 : J [] W) :
    CallsIn F n Try.prog 40 #[.func (.yield l) #[] #[], .pointer (some ⟨Bs, 0, none⟩)] W fun e W' => (∃ v, e = .returned v) ∧
      ((∃ ys, ys = sgl s 3 ∧ J ys W') ∨ (∃ pre, pre <+: sgl s 3 ∧ Jx pre W')) := by
  refine callsIn_of_wp Try.func40 rfl h40 ?_ hro
  simp only [Try.ntmps40, List.size_toArray, List.length_cons, List.length_nil, Nat.reduceAdd, Nat.reduceSub, Array.replicate_succ, Array.replicate_zero, List.push_toArray, List.append_toArray, List.nil_append, List.cons_append]
  gi_wp2
  gi_loopw [4] (fun i wr => ∃ k : Nat, k ≤ 3 ∧ i = .int .i64 k ∧ J (sgl s k) wr ∧ KeepB Bs W wr)
    (fun i _ => 3 - (intOf i).toNat)
  case atStart => exact ⟨0, Nat.zero_le _, rfl, h0, KeepB.refl _ _⟩
  case round =>
    obtain ⟨k, hk, rfl, hJs, hnx⟩ := hrel
    have hcx : wr.cell? ⟨Bs, 0, none⟩ = some (.int .i64 s) := hnx.cell hBs
    by_cases hlt : k < 3
    · obtain ⟨fn, tmps, assign, body, hy, hR⟩ := hY _ ⟨k, hlt⟩ wr hJs (by have := sgl_len s k; omega)
      dsimp only at hy
      have hlen := sgl_len s k
      by_cases hb : bits BinOp.and IntKind.i64 (s / 2 ^ k) 1 = 1
      · have hyes := sgl_yes s k hlt (by simp [sgt, hb])
        have hsg : (sgl s k ++ [⟨k, hlt⟩]) <+: sgl s 3 := by rw [← hyes]; have := sgl_mono s (k + 1) (3 - (k + 1)); rwa [show k + 1 + (3 - (k + 1)) = 3 from by omega] at this
        have Hyes := Lib.hid hyes
        clear hyes
        gi_wp2
        refine hR.mono ?_
        rintro e W3 (⟨rfl, hJ3, hk3⟩ | ⟨rfl, hJx3⟩)
        · gi_wp2
          go_roundw
          case rel => exact ⟨k + 1, by omega, by simp, by rw [Hyes.out]; exact hJ3, hnx.trans hk3⟩
          case measure => simp [intOf]; omega
        · gi_wp2
          refine bodyPost_ret (results_none rfl _ _ _) rfl ?_
          exact ⟨⟨_, rfl⟩, .inr ⟨_, hsg, hJx3⟩⟩
      · have hno := Lib.hid (sgl_no s k (by simp [sgt, hb]))
        clear hy hR
        gi_wp2
        refine ⟨fun _ h => (by cases h), ?_⟩
        gi_wp2
        go_roundw
        case rel => exact ⟨k + 1, by omega, by simp, by rw [hno.out]; exact hJs, hnx⟩
        case measure => simp [intOf]; omega
    · obtain rfl : k = 3 := by omega
      gi_wp2
      go_end0
      exact ⟨⟨_, rfl⟩, .inl ⟨_, rfl, hJs⟩⟩

set_option maxHeartbeats 1000000 in
theorem signs_in (F : Fence) (n : Nat) (h5 : F.fn 23) (hro : F.round = none) (s : Int) (w : World) :
    CallsIn F n Try.prog 23 #[.int .i64 s] w fun e w' => e = .returned (.func (.func 40) #[] #[.pointer (some ⟨w.heap.size, 0, none⟩)]) ∧ w' = w.alloc (.cells #[.int .i64 s] 3) := by
  refine callsIn_of_wp Try.func23 rfl h5 ?_ hro
  simp only [Try.ntmps23, List.size_toArray, List.length_cons, List.length_nil, Nat.reduceAdd, Nat.reduceSub, Array.replicate_succ, Array.replicate_zero, List.push_toArray, List.append_toArray, List.nil_append, List.cons_append]
  gi_wp2
  go_ret
  exact ⟨rfl, rfl⟩

theorem signs_stops (F : Fence) (n : Nat) (h6 : F.fn 40) (hro : F.round = none) (hn : 1 ≤ n) (Bn : Nat) (s : Int) (w : World) (hBn : Bn < w.heap.size)
    (hc : w.cell? ⟨Bn, 0, none⟩ = some (.int .i64 s)) :
    SeqStopsK F n Try.prog 40 #[.pointer (some ⟨Bn, 0, none⟩)] (fun x : Fin 3 => #[Value.int .i64 (x.val : Int)]) (KeepB Bn) (fun ys => ys = sgl s 3) (fun pre => pre <+: sgl s 3) 3 w := fun l J Jx W hW _ _ hY h0 =>
  signs1_in F n h6 hro hn l Bn s J Jx hY W ((hW.cell (p := ⟨Bn, 0, none⟩) hBn).trans hc) h0
end Go.Proofs.Ytlefniheafefgaa
