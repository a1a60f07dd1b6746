/- Small laws that the walks share. · A region of reads before its stores, within a round of a range over a function: walked once, in the order of the text. · A region whose order is open, by a table: each reading yields one value, whenever it is done; the stores are done in one order. · slices.Backward over a slice of ints: the iterator. · bigint.order: the order of two magnitudes. · bigint.trim: a magnitude without zeros at its end; the same row, the same world but for draws. · bigint.short: a magnitude divided by one limb. · bigint.plus: the sum of two magnitudes. · bigint.minus: the difference of two magnitudes. · bigint.chunks: the iterator over groups of nine digits. · slices.Collect of bigint.chunks. · bigint.read: a canonical decimal becomes a sign and limbs. · bigint.sum: the operations' function values. · bigint.operations: the table of the operations. · bigint.sum. · bigint.sum. · Plain arithmetic of canonical decimal numerals: a numeral's value, the canonical numeral of a number, limbs of base 1000000000. No program in sight. · What limbs are worth: sums, differences and the order of magnitudes, in plain Lean. · Numbers in values: a magnitude in a slice, a number in a pair; the sum of two numbers, and what a numeral's groups of digits are worth. -/
import Derived.RangeFuncNested
import Derived.RangeFuncBound
import Derived.RangeFuncCalls
import Derived.RangeFuncLeaves
import Derived.Shelf.Abstract
import Derived.Shelf.RegionOpen
import Derived.WalkKit
import Derived.OwnWalkIn
import Derived.TacticsInMore
import Derived.LoopNIn
import Derived.LoopIn
import Derived.Outline
import Derived.Lib.Hide
import Derived.Test.YtnagmogjhfdmlaaGreatDoorProg
import Derived.Test.YtnagmogjhfdmlaaGreatDoorLWMore
import Derived.StillTailTactics
import Derived.OrdersIn
import Derived.Deep.QuietTactic
import Derived.BigQuiet
import Derived.BigRegionIn
import Derived.Sort.QuietTacIn
import Derived.Deep.CutRange
import Derived.Lib.Atoi
import Derived.Maps.OwnIn
import Derived.Lib.Strings
import Derived.Deep.RegionHeld3
import Derived.Lib.ItoaNum
import Derived.Lib.AtoiAll
set_option linter.unusedVariables false
set_option linter.unusedSimpArgs false
namespace Go.Proofs.YtnagmogjhfdmlaaGreatDoor
open Go.RowKit Go.Shelf Go.Proofs.YtnagmogjhfdmlaaGreatDoorW.PrintWords
/-- What block B holds it holds on. -/
structure KeepB (B : Nat) (W W' : World) : Prop where
  same : ∀ o, W.heap[B]? = some o → W'.heap[B]? = some o
theorem KeepB.refl (B : Nat) (W : World) : KeepB B W W := ⟨fun _ h => h⟩
theorem KeepB.trans {B : Nat} {X Y Z : World} (h : KeepB B X Y) (k : KeepB B Y Z) : KeepB B X Z := ⟨fun o e => k.same o (h.same o e)⟩
theorem KeepB.cell {B : Nat} {X Y : World} (h : KeepB B X Y) {o : Nat} {v : Value} (e : X.cell? ⟨B, o, none⟩ = some v) : Y.cell? ⟨B, o, none⟩ = some v := by
  cases hx : X.heap[B]? with
  | none => simp [World.cell?, hx] at e
  | some ob =>
    have hy := h.same ob hx
    have : Y.cell? ⟨B, o, none⟩ = X.cell? ⟨B, o, none⟩ := by simp [World.cell?, hx, hy]
    rw [this]; exact e
theorem KeepB.of_grownBy {B : Nat} {X Y : World} {row : Option Nat} (hg : X.grownBy Y row) (hr : row ≠ some B) : KeepB B X Y := ⟨fun o e => (hg.block B (Array.getElem?_eq_some_iff.1 e).1 (fun q => hr q.symm)).trans e⟩
theorem KeepB.of_below {B n : Nat} {X Y : World} (hb : Below n X Y) (hB : B < n) : KeepB B X Y := ⟨fun o e => (hb.block B hB).trans e⟩
theorem KeepB.put {B : Nat} {X Y : World} (h : KeepB B X Y) {l : Nat} (hl : l ≠ B) (o : Obj) : KeepB B X (Y.putObj l o) := h.trans (.of_grownBy (grownBy_putObj' Y l o) (by simpa using hl))
theorem keepB_b {k : Nat} {w : World} (hk : k < w.heap.size) (W : World) (l : Nat) (o o' : Obj) (hl : w.heap.size ≤ l) (_ : W.heap[l]? = some o) (_ : o.isCells = false) (_ : o.isWalk = false) : KeepB k W (W.putObj l o') := (KeepB.refl k W).put (by omega) o'
end Go.Proofs.YtnagmogjhfdmlaaGreatDoor
namespace Go.Proofs.YtnagmogjhfdmlaaGreatDoor
open Go.RowKit Go.Shelf
section
variable {P : Program} {ops : Array Oper} {vals : Nat → Value} {a0 : Act}
/-- Operation i waits for operation j. -/
def need (ops : Array Oper) (i j : Nat) : Bool := match ops[i]? with
  | some o => o.after.any fun e => Region.binds .any e && e.on == j
  | none => false
theorem getD_set_true (L : Array Bool) (i j : Nat) (hi : i < L.size) : (L.setIfInBounds i true).getD j true = if j = i then true else L.getD j true := by
  simp only [Array.getD_eq_getD_getElem?, Array.getElem?_setIfInBounds]
  by_cases h : i = j
  · subst h; simp [hi]
  · have h' : ¬ j = i := fun e => h e.symm
    simp [h, h']
/-- What an operation that changes the world yields. -/
def Yields (r : Result Next) (v : Value) (W : World) : Prop := r = .ok (.value v) W ∨ (r = .ok .skip W ∧ v = undef)
end
end Go.Proofs.YtnagmogjhfdmlaaGreatDoor
namespace Go.Proofs.YtnagmogjhfdmlaaGreatDoor
open Go.RowKit Go.Shelf Go.Proofs.YtnagmogjhfdmlaaGreatDoorW.PrintWords
attribute [local go_sem] Oper.semAt_some
/-- The places of n elements, the last one first; the first k of them. -/
def bwl (n : Nat) : Nat → List (Fin n)
  | 0 => []
  | k + 1 => bwl n k ++ (if h : k < n then [⟨n - 1 - k, by omega⟩] else [])
theorem bwl_step (n k : Nat) (h : k < n) : bwl n (k + 1) = bwl n k ++ [⟨n - 1 - k, by omega⟩] := by simp [bwl, h]
theorem bwl_len (n : Nat) : ∀ k, k ≤ n → (bwl n k).length = k
  | 0, _ => rfl
  | k + 1, h => by rw [bwl_step n k (by omega), List.length_append, bwl_len n k (by omega)]; rfl
theorem bwl_mono (n k : Nat) : ∀ j, bwl n k <+: bwl n (k + j)
  | 0 => List.prefix_refl _
  | j + 1 => (bwl_mono n k j).trans (by rw [← Nat.add_assoc, bwl]; exact List.prefix_append _ _)
/-- What a round over a slice keeps: the box, and all that lay below n₀. -/
def KpB (Bn n₀ : Nat) (X Y : World) : Prop := KeepB Bn X Y ∧ Below n₀ X Y
theorem kpB_t {Bn n₀ : Nat} {A B C : World} (h : KpB Bn n₀ A B) (k : KpB Bn n₀ B C) : KpB Bn n₀ A C := ⟨h.1.trans k.1, h.2.trans k.2⟩
theorem kpB_b {Bn n₀ : Nat} {w : World} (hk : Bn < w.heap.size) (h0 : n₀ ≤ w.heap.size) (W : World) (l : Nat) (o o' : Obj) (hl : w.heap.size ≤ l) (h1 : W.heap[l]? = some o) (h2 : o.isCells = false) (h3 : o.isWalk = false) : KpB Bn n₀ W (W.putObj l o') :=
  ⟨keepB_b hk W l o o' hl h1 h2 h3, belowK_b h0 W l o o' hl h1 h2 h3⟩
theorem add_block (a : Addr) (j : Nat) : (a.add j).block = a.block := by unfold Addr.add; split <;> rfl
/-- A slice of ints that is read: its cells lie below n₀. -/
def RI (n₀ : Nat) (W : World) (A : Option Addr) (n : Nat) (xs : List Int) : Prop :=
  xs.length = n ∧ n ≤ 9223372036854775807 ∧ (0 < n → ∃ ad, A = some ad ∧ ad.block < n₀ ∧ ∀ j, j < n → W.cell? (ad.add j) = some (.int .i64 (xs[j]?.getD 0)))
theorem RI.below {n₀ : Nat} {W W1 : World} {A : Option Addr} {n : Nat} {xs : List Int} (h : RI n₀ W A n xs) (hb : Below n₀ W W1) : RI n₀ W1 A n xs :=
  ⟨h.1, h.2.1, fun hn => by
    obtain ⟨ad, e, hlt, hc⟩ := h.2.2 hn
    exact ⟨ad, e, hlt, fun j hj => (hb.cell (p := ad.add j) (by rw [add_block]; exact hlt)).trans (hc j hj)⟩⟩
set_option maxRecDepth 100000 in
set_option maxHeartbeats 2000000 in
theorem bwd1_in (F : Fence) (n : Nat) (h8 : F.fn 83) (hro : F.round = none) (hn : 1 ≤ n) (l Bs n₀ : Nat) (A : Option Addr) (len cap : Nat) (xs : List Int) (J Jx : List (Fin len) → World → Prop)
    (hY : ∀ pre x W, J pre W → pre.length < len → YieldAt F (n - 1) Tryz.prog l #[.int .i64 (x.val : Int), .int .i64 (xs[x.val]?.getD 0)] W fun e W' =>
      (e = .returned (.bool true) ∧ J (pre ++ [x]) W' ∧ KpB Bs n₀ W W') ∨ (e = .returned (.bool false) ∧ Jx (pre ++ [x]) W'))
    (W : World) (hBs : W.cell? ⟨Bs, 0, none⟩ = some (.slice A len cap)) (hI : RI n₀ W A len xs) (h0 : J [] W) :
    CallsIn F n Tryz.prog 83 #[.func (.yield l) #[] #[], .pointer (some ⟨Bs, 0, none⟩)] W fun e W' => (∃ v, e = .returned v) ∧
      ((∃ ys, ys = bwl len len ∧ J ys W') ∨ (∃ pre, pre <+: bwl len len ∧ Jx pre W')) := by
  have hmax := hI.2.1
  refine callsIn_of_wp Tryz.func83 rfl h8 ?_ hro
  simp only [Tryz.ntmps83, List.size_toArray, List.length_cons, List.length_nil, Nat.reduceAdd, Nat.reduceSub, Array.replicate_succ, Array.replicate_zero, List.push_toArray, List.append_toArray, List.nil_append, List.cons_append]
  gi_wp2
  gi_loopw [3] (fun i wr => ∃ k : Nat, k ≤ len ∧ i = .int .i64 ((len : Int) - 1 - k) ∧ J (bwl len k) wr ∧ KpB Bs n₀ W wr)
    (fun i _ => (intOf i + 1).toNat)
  case atStart => exact ⟨0, Nat.zero_le _, by go_num, h0, KeepB.refl _ _, Below.refl _ _⟩
  case round =>
    obtain ⟨k, hk, rfl, hJs, hnx, hbl⟩ := hrel
    have hcb : wr.cell? ⟨Bs, 0, none⟩ = some (.slice A len cap) := hnx.cell hBs
    by_cases hlt : k < len
    · obtain ⟨ad, rfl, hb0, hc⟩ := hI.2.2 (by omega)
      obtain ⟨m, hm⟩ : ∃ m : Nat, m = len - 1 - k := ⟨_, rfl⟩
      have hmi : (len : Int) - 1 - k = (m : Int) := by omega
      have hcx : wr.cell? (ad.add m) = some (.int .i64 (xs[m]?.getD 0)) := (hbl.cell (p := ad.add m) (by rw [add_block]; exact hb0)).trans (hc m (by omega))
      have hlm : m < len := by omega
      obtain ⟨fn, tmps, assign, body, hy, hR⟩ := hY _ ⟨m, hlm⟩ wr hJs (by rw [bwl_len _ _ (by omega)]; exact hlt)
      dsimp only at hy
      have hstep : Hid (bwl len (k + 1) = bwl len k ++ [⟨m, hlm⟩]) := by rw [bwl_step len k hlt]; congr 2; exact Fin.ext hm.symm
      have hpre : Hid (bwl len (k + 1) <+: bwl len len) := by
        have := bwl_mono len (k + 1) (len - (k + 1))
        rwa [show k + 1 + (len - (k + 1)) = len from by omega] at this
      have HM := Lib.hid hm
      have HMI := Lib.hid hmi
      rw [hmi]
      clear hm hmi hc
      gi_wp2
      refine hR.mono ?_
      rintro e W3 (⟨rfl, hJ3, hk3⟩ | ⟨rfl, hJx3⟩)
      · gi_wp2
        go_roundw
        case rel => exact ⟨k + 1, by omega, by have := HM.out; go_num, by rw [hstep.out]; exact hJ3, hnx.trans hk3.1, hbl.trans hk3.2⟩
        case measure => first | (simp [intOf]; done) | (simp [intOf]; omega)
      · gi_wp2
        refine bodyPost_ret (results_none rfl _ _ _) rfl ?_
        exact ⟨⟨_, rfl⟩, .inr ⟨_, by rw [← hstep.out]; exact hpre.out, hJx3⟩⟩
    · obtain rfl : k = len := by omega
      rw [show (k : Int) - 1 - k = -1 from by omega]
      gi_wp2
      go_end0
      exact ⟨⟨_, rfl⟩, .inl ⟨_, rfl, hJs⟩⟩
set_option maxHeartbeats 1000000 in
theorem bwd_in (F : Fence) (n : Nat) (h5 : F.fn 77) (hro : F.round = none) (a : Option Addr) (len cap : Nat) (w : World) :
    CallsIn F n Tryz.prog 77 #[.slice a len cap] w fun e w' => e = .returned (.func (.func 83) #[] #[.pointer (some ⟨w.heap.size, 0, none⟩)]) ∧ w' = w.alloc (.cells #[.slice a len cap] 58) := by
  refine callsIn_of_wp Tryz.func77 rfl h5 ?_ hro
  simp only [Tryz.ntmps77, List.size_toArray, List.length_cons, List.length_nil, Nat.reduceAdd, Nat.reduceSub, Array.replicate_succ, Array.replicate_zero, List.push_toArray, List.append_toArray, List.nil_append, List.cons_append]
  gi_wp2
  go_ret
  exact ⟨rfl, rfl⟩
theorem bwd_stops (F : Fence) (n : Nat) (h8 : F.fn 83) (hro : F.round = none) (hn : 1 ≤ n) (Bn n₀ : Nat) (A : Option Addr) (len cap : Nat) (xs : List Int) (w : World) (hBn : Bn < w.heap.size) (h0 : n₀ ≤ w.heap.size)
    (hc : w.cell? ⟨Bn, 0, none⟩ = some (.slice A len cap)) (hI : RI n₀ w A len xs) :
    SeqStopsK F n Tryz.prog 83 #[.pointer (some ⟨Bn, 0, none⟩)] (fun x : Fin len => #[Value.int .i64 (x.val : Int), Value.int .i64 (xs[x.val]?.getD 0)]) (KpB Bn n₀) (fun ys => ys = bwl len len) (fun pre => pre <+: bwl len len) len w := fun l J Jx W hW _ _ hY h0' =>
  bwd1_in F n h8 hro hn l Bn n₀ A len cap xs J Jx hY W ((hW.cell (p := ⟨Bn, 0, none⟩) hBn).trans hc) (hI.below (hW.mono h0)) h0'
end Go.Proofs.YtnagmogjhfdmlaaGreatDoor
namespace Go.Proofs.YtnagmogjhfdmlaaGreatDoor
open Go.RowKit Go.Shelf Go.Proofs.YtnagmogjhfdmlaaGreatDoorW.PrintWords
attribute [local go_sem] Oper.semAt_some
/-- The first difference of the lowest m limbs, from the highest one on; 0 if there is none. -/
def ordN (xs ys : List Int) : Nat → Int
  | 0 => 0
  | m + 1 => if xs[m]?.getD 0 = ys[m]?.getD 0 then ordN xs ys m else wrap64 (xs[m]?.getD 0 - ys[m]?.getD 0)
def ordL (xs ys : List Int) : Int := if xs.length = ys.length then ordN xs ys xs.length else (xs.length : Int) - ys.length
theorem bwl_prefix {n : Nat} {pre : List (Fin n)} (h : pre <+: bwl n n) : pre = bwl n pre.length := by
  have hl : pre.length ≤ n := by have := h.length_le; rwa [bwl_len n n (Nat.le_refl _)] at this
  have h2 := bwl_mono n pre.length (n - pre.length)
  rw [show pre.length + (n - pre.length) = n from by omega] at h2
  have e := List.prefix_of_prefix_length_le h h2 (by rw [bwl_len n _ hl]; exact Nat.le_refl _)
  exact e.eq_of_length (by rw [bwl_len n _ hl])
theorem bwl_last {n : Nat} {pre : List (Fin n)} {x : Fin n} (h : (pre ++ [x]) <+: bwl n n) : pre = bwl n pre.length ∧ x.val = n - 1 - pre.length ∧ pre.length < n := by
  have hl : (pre ++ [x]).length ≤ n := by have := h.length_le; rwa [bwl_len n n (Nat.le_refl _)] at this
  have e := bwl_prefix h
  simp only [List.length_append, List.length_cons, List.length_nil] at e hl
  rw [bwl_step n pre.length (by omega)] at e
  obtain ⟨e1, e2⟩ := List.append_inj' e rfl
  refine ⟨e1, ?_, by omega⟩
  simp only [List.cons.injEq, and_true] at e2
  rw [e2]
theorem ordN_eqs (xs ys : List Int) (n : Nat) : ∀ k, k ≤ n → (∀ i ∈ bwl n k, xs[i.val]?.getD 0 = ys[i.val]?.getD 0) → ordN xs ys n = ordN xs ys (n - k)
  | 0, _, _ => rfl
  | k + 1, hk, h => by
    rw [ordN_eqs xs ys n k (by omega) (fun i hi => h i (by rw [bwl_step n k (by omega)]; exact List.mem_append_left _ hi))]
    have := h ⟨n - 1 - k, by omega⟩ (by rw [bwl_step n k (by omega)]; simp)
    dsimp only at this
    rw [show n - k = (n - 1 - k) + 1 from by omega, ordN, if_pos this, show n - (k + 1) = n - 1 - k from by omega]
theorem ordN_stop (xs ys : List Int) (n : Nat) (pre : List (Fin n)) (x : Fin n) (h : (pre ++ [x]) <+: bwl n n) (he : ∀ i ∈ pre, xs[i.val]?.getD 0 = ys[i.val]?.getD 0) (hx : ¬ xs[x.val]?.getD 0 = ys[x.val]?.getD 0) :
    ordN xs ys n = wrap64 (xs[x.val]?.getD 0 - ys[x.val]?.getD 0) := by
  obtain ⟨e1, e2, e3⟩ := bwl_last h
  rw [ordN_eqs xs ys n pre.length (by omega) (by rw [← e1]; exact he)]
  rw [show n - pre.length = x.val + 1 from by omega, ordN, if_neg hx]
set_option maxRecDepth 100000 in
set_option maxHeartbeats 4000000 in
theorem order_eq (A1 A2 : Option Addr) (n c1 c2 : Nat) (xs ys : List Int) (w : World) (hx : RI w.heap.size w A1 n xs) (hy : RI w.heap.size w A2 n ys) :
    Calls Tryz.prog 66 #[.slice A1 n c1, .slice A2 n c2] w fun e W' => e = .returned (.int .i64 (ordN xs ys n)) ∧ Below w.heap.size w W' := by
  have hmax := hx.2.1
  refine (callsIn_wide (n := 8)).1 ?_
  have hro : Fence.wide.round = none := rfl
  have h1 : 1 ≤ 8 := by omega
  refine callsIn_of_wp_marks Tryz.func66 rfl trivial ?_ hro
  simp only [Tryz.ntmps66, List.size_toArray, List.length_cons, List.length_nil, Nat.reduceAdd, Nat.reduceSub, Array.replicate_succ, Array.replicate_zero, List.push_toArray, List.append_toArray, List.nil_append, List.cons_append]
  have HX := Lib.hid hx
  have HY := Lib.hid hy
  clear hx hy
  gi_wp2_with (refine ⟨trivial, ?_⟩; gi_at_call 77; refine (bwd_in Fence.wide (8 - 1) trivial hro _ _ _ _).mono ?_; rintro e w' ⟨rfl, rfl⟩)
  have bY := ((Boxed.new w 58 (.slice A2 n c2)).alloc (.cells #[.int .i64 0] 3)).alloc (.cells #[.slice A1 n c1] 58)
  have bR := (Boxed.new (w.alloc (.cells #[.slice A2 n c2] 58)) 3 (.int .i64 0)).alloc (.cells #[.slice A1 n c1] 58)
  have bX := Boxed.new ((w.alloc (.cells #[.slice A2 n c2] 58)).alloc (.cells #[.int .i64 0] 3)) 58 (.slice A1 n c1)
  simp only [World.size_alloc] at bY bR bX
  have hB0 : Below w.heap.size w (((w.alloc (.cells #[.slice A2 n c2] 58)).alloc (.cells #[.int .i64 0] 3)).alloc (.cells #[.slice A1 n c1] 58)) := (((Below.refl _ w).alloc (Nat.le_refl _) _).alloc (by simp) _).alloc (by simp; omega) _
  have hsz : (((w.alloc (.cells #[.slice A2 n c2] 58)).alloc (.cells #[.int .i64 0] 3)).alloc (.cells #[.slice A1 n c1] 58)).heap.size = w.heap.size + 3 := by simp
  obtain ⟨W0, hW0⟩ : ∃ W0, ((w.alloc (.cells #[.slice A2 n c2] 58)).alloc (.cells #[.int .i64 0] 3)).alloc (.cells #[.slice A1 n c1] 58) = W0 := ⟨_, rfl⟩
  rw [hW0] at bY bR bX hB0 hsz ⊢
  clear hW0
  refine wpIn_rangeFunc_ownF hro h1 (gf := 83) (lb := #[.pointer (some ⟨w.heap.size + 1 + 1, 0, none⟩)]) rfl trivial (enters_of Tryz.func83 (by kernel_rfl) rfl)
    (bwd_stops Fence.wide (8 - 1) trivial hro (by omega) (w.heap.size + 1 + 1) w.heap.size A1 n c1 xs W0 (by omega) (by omega) bX.cell (HX.out.below hB0)) kpB_t (kpB_b (by omega) (by omega)) (Below.refl _ _) (fun _ => rfl)
    (fun pre W => ((Boxed W w.heap.size 58 (.slice A2 n c2) ∧ Boxed W (w.heap.size + 1) 3 (.int .i64 0)) ∧ (∀ i ∈ pre, xs[i.val]?.getD 0 = ys[i.val]?.getD 0)) ∧ Below w.heap.size w W)
    (fun c pre W => (Boxed W (w.heap.size + 1) 3 (.int .i64 (ordN xs ys n)) ∨ ¬ pre <+: bwl n n) ∧ c = .ret ∧ Below w.heap.size w W)
    (OwnFrom.and (OwnFrom.and (OwnFrom.and (Own.from (boxed_own _ _ _) _) (Own.from (boxed_own _ _ _) _)) (ownFrom_pure _ _)) (ownFrom_below (Nat.le_refl _) (by omega)))
    (fun c => OwnFrom.and (fun s A B row hs hg hr => hs.elim (fun hb => .inl (boxed_own (w.heap.size + 1) 3 (fun (_ : Unit) => Value.int .i64 (ordN xs ys n)) () A B row hb hg (fun r e => (hr r e).2))) .inr) (OwnFrom.and (ownFrom_pure _ _) (ownFrom_below (Nat.le_refl _) (by omega))))
    ⟨⟨⟨bY, bR⟩, fun i hi => by cases hi⟩, hB0⟩
    (fun x => { tmps := #[.slice A1 n c1, .slice A2 n c2, undef, .pointer (some ⟨w.heap.size, 0, none⟩), .pointer (some ⟨w.heap.size + 1, 0, none⟩), .int .i64 (x.val : Int), .int .i64 (xs[x.val]?.getD 0), .slice A1 n c1, .int .i64 (n : Int), .slice A2 n c2, .int .i64 (n : Int), .bool false, undef, undef, undef, undef, undef, .slice A1 n c1, .func (.func 83) #[] #[.pointer (some ⟨w.heap.size + 1 + 1, 0, none⟩)], .int .i64 (x.val : Int), .int .i64 (xs[x.val]?.getD 0), undef, undef, undef, undef, undef, undef, undef, undef, undef, undef, undef, undef], defers := [] }) ?assign ?body ?done ?stop
  case assign =>
    intro l x W K hK
    gi_wp2
    exact hK
  case body =>
    rintro l pre x W ⟨⟨⟨bY1, bR1⟩, hall⟩, hB1⟩ hlt
    obtain ⟨ad, rfl, hb0, hc⟩ := HY.out.2.2 (by have := x.isLt; omega)
    have hcy : W.cell? (ad.add x.val) = some (.int .i64 (ys[x.val]?.getD 0)) := (hB1.cell (p := ad.add x.val) (by rw [add_block]; exact hb0)).trans (hc x.val x.isLt)
    have cY := bY1.cell
    have cR := bR1.cell
    have fR := bR1.frozen
    have hxlt := x.isLt
    clear hc
    by_cases he : xs[x.val]?.getD 0 = ys[x.val]?.getD 0
    · have e1 : (xs[x.val]?.getD 0 != ys[x.val]?.getD 0) = false := by simpa using he
      have e2 : (xs[x.val]?.getD 0 == ys[x.val]?.getD 0) = true := by simpa using he
      have He := Lib.hid he
      clear he
      gi_wp2
      exact ⟨KeepsOthers.refl _, ⟨KeepB.refl _ _, Below.refl _ _⟩, ⟨⟨bY1, bR1⟩, fun i hi => by
        rcases List.mem_append.1 hi with h | h
        · exact hall i h
        · simp only [List.mem_cons, List.not_mem_nil, or_false] at h
          rw [h]; exact He.out⟩, hB1⟩
    · have e1 : (xs[x.val]?.getD 0 != ys[x.val]?.getD 0) = true := by simpa using he
      have e2 : (xs[x.val]?.getD 0 == ys[x.val]?.getD 0) = false := by simpa using he
      have hend : Hid (Boxed (W.setCell ⟨w.heap.size + 1, 0, none⟩ (.int .i64 (wrap64 (xs[x.val]?.getD 0 - ys[x.val]?.getD 0)))) (w.heap.size + 1) 3 (.int .i64 (ordN xs ys n)) ∨ ¬ (pre ++ [x]) <+: bwl n n) := by
        by_cases hp : (pre ++ [x]) <+: bwl n n
        · left
          rw [ordN_stop xs ys n pre x hp hall he]
          exact bR1.set _
        · exact .inr hp
      clear he hall
      gi_wp2
      exact ⟨KeepsOthers.setCell _ _ _, hend.out, rfl, hB1.setCell (p := ⟨w.heap.size + 1, 0, none⟩) (by simp) _⟩
  case done =>
    rintro D zs W hD rfl ⟨⟨⟨bY1, bR1⟩, hall⟩, hB1⟩ hK
    have hz := ordN_eqs xs ys n n (Nat.le_refl _) hall
    rw [Nat.sub_self] at hz
    have cR := bR1.cell
    have fR := bR1.frozen
    have Hz := Lib.hid hz
    clear hz hall
    have hK2 : (W.setCell ⟨w.heap.size + 1, 0, none⟩ (.int .i64 0)).heap[D]? = some (.deferred (some [])) := (KeepsOthers.setCell W _ _).same D _ hK rfl
    have bR2 := (boxed_own (w.heap.size + 1) 3 (fun (_ : Unit) => Value.int .i64 0) () _ _ _ (bR1.set (.int .i64 0)) (grownBy_putObj' _ D (.deferred none)) (fun r e => by cases e; exact ⟨_, hK2, rfl⟩))
    have cR2 := bR2.cell
    gi_wp2
    refine ⟨by simp, .inl ⟨_, _, rfl, run_takeDeferred hK2, ?_⟩⟩
    exact ⟨_, by simp [results, Tryz.results66, go_sem, cR2]; rfl, by rw [Hz.out]; rfl, (hB1.setCell (p := ⟨w.heap.size + 1, 0, none⟩) (by simp) _).trans (belowK_b (w := w) (Nat.le_refl _) _ D _ _ (by omega) hK2 rfl rfl)⟩
  case stop =>
    rintro D c pre W hD hpre ⟨hr, rfl, hB1⟩ hK
    have bR1 : Boxed W (w.heap.size + 1) 3 (.int .i64 (ordN xs ys n)) := by
      rcases hr with h | h
      · exact h
      · exact absurd hpre h
    clear hr
    have bR2 := (boxed_own (w.heap.size + 1) 3 (fun (_ : Unit) => Value.int .i64 (ordN xs ys n)) () _ _ _ bR1 (grownBy_putObj' _ D (.deferred none)) (fun r e => by cases e; exact ⟨_, hK, rfl⟩))
    have cR2 := bR2.cell
    gi_wp2
    refine ⟨by simp, .inl ⟨_, _, rfl, run_takeDeferred hK, ?_⟩⟩
    exact ⟨_, by simp [results, Tryz.results66, go_sem, cR2], rfl, hB1.trans (belowK_b (w := w) (Nat.le_refl _) _ D _ _ (by omega) hK rfl rfl)⟩
set_option maxRecDepth 100000 in
set_option maxHeartbeats 2000000 in
theorem order_ne (A1 A2 : Option Addr) (n1 n2 c1 c2 : Nat) (w : World) (h1 : n1 ≤ 9223372036854775807) (h2 : n2 ≤ 9223372036854775807) (h : n1 ≠ n2) :
    Calls Tryz.prog 66 #[.slice A1 n1 c1, .slice A2 n2 c2] w fun e W' => e = .returned (.int .i64 ((n1 : Int) - n2)) ∧ Below w.heap.size w W' := by
  have e1 : ((n1 : Int) != (n2 : Int)) = true := by rw [bne_iff_ne]; omega
  have e2 : ((n1 : Int) == (n2 : Int)) = false := by rw [beq_eq_false_iff_ne]; omega
  have e3 : (n1 != n2) = true := by rw [bne_iff_ne]; omega
  have e4 : (n1 == n2) = false := by rw [beq_eq_false_iff_ne]; omega
  go_enter Tryz.func66, Tryz.ntmps66
  go_wp2
  exact bodyPost_ret (v := .int .i64 ((n1 : Int) - n2)) (by simp [results, Tryz.results66, go_sem]) rfl ⟨rfl, ((Below.refl _ _).alloc (Nat.le_refl _) _).alloc (by simp) _⟩
/-- The order of two magnitudes. -/
theorem order_any (A1 A2 : Option Addr) (n1 n2 c1 c2 : Nat) (xs ys : List Int) (w : World) (hx : RI w.heap.size w A1 n1 xs) (hy : RI w.heap.size w A2 n2 ys) :
    Calls Tryz.prog 66 #[.slice A1 n1 c1, .slice A2 n2 c2] w fun e W' => e = .returned (.int .i64 (ordL xs ys)) ∧ Below w.heap.size w W' := by
  unfold ordL
  by_cases h : n1 = n2
  · subst h
    rw [if_pos (hx.1.trans hy.1.symm), hx.1]
    exact order_eq A1 A2 n1 c1 c2 xs ys w hx hy
  · rw [if_neg (by rw [hx.1, hy.1]; exact h), hx.1, hy.1]
    exact order_ne A1 A2 n1 n2 c1 c2 w hx.2.1 hy.2.1 h
end Go.Proofs.YtnagmogjhfdmlaaGreatDoor
namespace Go.Proofs.YtnagmogjhfdmlaaGreatDoor
open Go.RowKit Go.Shelf Go.Proofs.YtnagmogjhfdmlaaGreatDoorW.PrintWords
/-- How many limbs are left. -/
def tlen (xs : List Int) : Nat → Nat
  | 0 => 0
  | m + 1 => if xs[m]?.getD 0 = 0 then tlen xs m else m + 1
theorem tlen_le (xs : List Int) : ∀ m, tlen xs m ≤ m
  | 0 => Nat.le_refl _
  | m + 1 => by unfold tlen; split; exact Nat.le_succ_of_le (tlen_le xs m); exact Nat.le_refl _
/-- A magnitude without zeros at its end. -/
def tl (xs : List Int) : List Int := xs.take (tlen xs xs.length)
def sliceLen : Value → Nat
  | .slice _ n _ => n
  | _ => 0
set_option maxRecDepth 100000 in
set_option maxHeartbeats 2000000 in
theorem trim_any (A : Option Addr) (n c : Nat) (xs : List Int) (w : World) (hr : ReadsInt w .i64 A n xs) (hnc : n ≤ c) (hc : c ≤ 9223372036854775807) :
    Calls Tryz.prog 60 #[.slice A n c] w fun e w' => e = .returned (.slice A (tlen xs n) c) ∧ w' = w := by
  have hmax := hr.2.1
  have HR := Lib.hid hr
  clear hr
  go_enter Tryz.func60, Tryz.ntmps60
  go_wp2
  go_loop [0] (fun v => ∃ m : Nat, m ≤ n ∧ v = .slice A m c ∧ tlen xs n = tlen xs m) (fun v => sliceLen v)
  case atStart => exact ⟨n, Nat.le_refl _, rfl, rfl⟩
  case round =>
    obtain ⟨m, hm, rfl, ht⟩ := hrel
    have Ht := Lib.hid ht
    clear ht
    by_cases h0 : m = 0
    · subst h0
      have hz : Hid (tlen xs 0 = 0) := rfl
      go_wp2
      go_ret
      exact ⟨by rw [Ht.out, hz.out]; rfl, rfl⟩
    · obtain ⟨j, rfl⟩ : ∃ j, m = j + 1 := ⟨m - 1, by omega⟩
      obtain ⟨ad, rfl, hcell⟩ := HR.out.2.2 (by omega)
      have hcj : w.cell? (ad.add j) = some (.int .i64 (xs[j]?.getD 0)) := by rw [hcell j (by omega), List.getD_eq_getElem?_getD]
      clear hcell
      by_cases hz : xs[j]?.getD 0 = 0
      · have e1 : (xs[j]?.getD 0 == 0) = true := by simpa using hz
        have hs : Hid (tlen xs (j + 1) = tlen xs j) := by show tlen xs (j + 1) = tlen xs j; rw [tlen, if_pos hz]
        clear hz
        go_wp2
        all_goals
          go_round
          case rel => exact ⟨j, by omega, by simp, by rw [Ht.out, hs.out]⟩
          case measure => simp [sliceLen]
      · have e1 : (xs[j]?.getD 0 == 0) = false := by simpa using hz
        have hs : Hid (tlen xs (j + 1) = j + 1) := by show tlen xs (j + 1) = j + 1; rw [tlen, if_neg hz]
        clear hz
        go_wp2
        go_ret
        exact ⟨by rw [Ht.out, hs.out]; rfl, rfl⟩
end Go.Proofs.YtnagmogjhfdmlaaGreatDoor
namespace Go.Proofs.YtnagmogjhfdmlaaGreatDoor
open Go.RowKit Go.Shelf Go.Proofs.YtnagmogjhfdmlaaGreatDoorW.PrintWords
attribute [local go_sem] Oper.semAt_some
/-- Block B is a row of ints. -/
def Rowd (B : Nat) (xs : List Int) (W : World) : Prop := W.heap[B]? = some (.cells (nums .i64 xs).toArray 3 (0, 0))
theorem Rowd.lt {B : Nat} {xs : List Int} {W : World} (h : Rowd B xs W) : B < W.heap.size := (Array.getElem?_eq_some_iff.1 h).1
theorem Rowd.cell {B : Nat} {xs : List Int} {W : World} (h : Rowd B xs W) (k : Nat) (hk : k < xs.length) : W.cell? ⟨B, k, none⟩ = some (.int .i64 (xs[k]?.getD 0)) := by
  simp [World.cell?, show W.heap[B]? = _ from h, nums, hk]
theorem Rowd.frozen {B : Nat} {xs : List Int} {W : World} (h : Rowd B xs W) (k : Nat) : W.frozen? ⟨B, k, none⟩ = false := by simp [World.frozen?, show W.heap[B]? = _ from h]
theorem Rowd.store {B : Nat} {xs : List Int} {W : World} (h : Rowd B xs W) (k : Nat) (v : Int) : Rowd B (xs.set k v) (W.setCell ⟨B, k, none⟩ (.int .i64 v)) := by
  obtain ⟨hlt, he⟩ := Array.getElem?_eq_some_iff.1 h
  show (W.heap.modify B _)[B]? = _
  rw [Array.getElem?_eq_getElem (by rw [Array.size_modify]; exact hlt), Array.getElem_modify_self, he]
  simp [nums, List.map_set]
theorem Rowd.made (W : World) (n : Nat) : Rowd W.heap.size (List.replicate n 0) (W.alloc (.cells (madeCells #[.int .i64 0] n) 3)) := by
  have h := World.alloc_heap_new W (.cells (madeCells #[.int .i64 0] n) 3)
  unfold Rowd
  rw [h]
  congr 2
  apply Array.toList_inj.1
  apply List.ext_getElem
  · simp [nums, madeCells]
  · intro i h1 h2
    simp [nums, madeCells, Nat.mod_one]
theorem rowd_reads {B : Nat} {xs : List Int} {W : World} (h : Rowd B xs W) (hx : xs.length ≤ 9223372036854775807 := by omega) : ReadsInt W .i64 (some ⟨B, 0, none⟩) xs.length xs := ⟨rfl, hx, fun _ => ⟨_, rfl, fun j hj => by
  have e := h.cell j hj
  rw [List.getD_eq_getElem?_getD, ← e, show (Addr.add ⟨B, 0, none⟩ j) = ⟨B, j, none⟩ from by simp only [Addr.add]; split <;> simp_all]⟩⟩
set_option maxRecDepth 100000 in
theorem info_int : (Tryz.prog.info? 3).map (fun i => (i.zero, i.size, i.bytes)) = some (some (.int .i64 0), 1, 8) := by kernel_rfl
end Go.Proofs.YtnagmogjhfdmlaaGreatDoor
namespace Go.Proofs.YtnagmogjhfdmlaaGreatDoor
open Go.RowKit Go.Shelf Go.Proofs.YtnagmogjhfdmlaaGreatDoorW.PrintWords
/-- The limbs of the sum and the carry, after k places. -/
def plS (xs ys : List Int) (k : Nat) (c : Int) : Int := c + (if k < xs.length then xs[k]?.getD 0 else 0) + (if k < ys.length then ys[k]?.getD 0 else 0)
def plF (xs ys : List Int) : Nat → List Int × Int
  | 0 => (List.replicate (xs.length + 1) 0, 0)
  | k + 1 => ((plF xs ys k).1.set k (plS xs ys k (plF xs ys k).2 % 1000000000), plS xs ys k (plF xs ys k).2 / 1000000000)
theorem plF_len (xs ys : List Int) : ∀ k, (plF xs ys k).1.length = xs.length + 1
  | 0 => by simp [plF]
  | k + 1 => by simp [plF, plF_len xs ys k]
def limbs (xs : List Int) : Prop := ∀ i : Nat, 0 ≤ xs[i]?.getD 0 ∧ xs[i]?.getD 0 < 1000000000
theorem plF_carry {xs ys : List Int} (hx : limbs xs) (hy : limbs ys) : ∀ k, 0 ≤ (plF xs ys k).2 ∧ (plF xs ys k).2 ≤ 1
  | 0 => by simp [plF]
  | k + 1 => by
    have h := plF_carry hx hy k
    have h1 := hx k
    have h2 := hy k
    simp only [plF, plS]
    split <;> split <;> omega
def plL (xs ys : List Int) : List Int := if xs.length < ys.length then (plF ys xs (ys.length + 1)).1 else (plF xs ys (xs.length + 1)).1
set_option maxRecDepth 100000 in
set_option maxHeartbeats 2000000 in
theorem plus_walk (A B : Option Addr) (n m c e : Nat) (xs ys : List Int) (w : World) (hx : RI w.heap.size w A n xs) (hy : RI w.heap.size w B m ys) (hxl : limbs xs) (hyl : limbs ys) (hn : n ≤ 35184372088831) (hm : m ≤ 35184372088831) :
    Calls Tryz.prog 63 #[.slice A n c, .slice B m e] w fun e w' => e = .returned (.slice (some ⟨w.heap.size, 0, none⟩) (tlen (plL xs ys) (plL xs ys).length) (plL xs ys).length) ∧ Rowd w.heap.size (plL xs ys) w' ∧ Below w.heap.size w w' := by
  have HX := Lib.hid hx
  have HY := Lib.hid hy
  have HXl := Lib.hid hxl
  have HYl := Lib.hid hyl
  clear hx hy hxl hyl
  go_enter Tryz.func63, Tryz.ntmps63
  go_upto_if 12 with (fail)
  go_cut [0, 1] (fun a b wx => ∃ (A1 B1 : Option Addr) (n1 m1 c1 e1 : Nat) (xs1 ys1 : List Int), a = .slice A1 n1 c1 ∧ b = .slice B1 m1 e1 ∧ wx = w ∧ m1 ≤ n1 ∧ n1 ≤ 35184372088831 ∧ Hid (RI w.heap.size w A1 n1 xs1) ∧ Hid (RI w.heap.size w B1 m1 ys1) ∧ Hid (limbs xs1) ∧ Hid (limbs ys1) ∧ Hid (plL xs ys = (plF xs1 ys1 (n1 + 1)).1))
  case first =>
    by_cases h : n < m
    · have hl : Hid (plL xs ys = (plF ys xs (m + 1)).1) := by
        show plL xs ys = _
        have h1 := HX.out.1
        have h2 := HY.out.1
        rw [plL, if_pos (by omega), h2]
      go_wp2
      go_meet
      exact ⟨B, A, m, n, e, c, ys, xs, rfl, rfl, rfl, by omega, hm, HY, HX, HYl, HXl, hl⟩
    · have hl : Hid (plL xs ys = (plF xs ys (n + 1)).1) := by
        show plL xs ys = _
        have h1 := HX.out.1
        have h2 := HY.out.1
        rw [plL, if_neg (by omega), h1]
      go_wp2
      go_meet
      exact ⟨A, B, n, m, c, e, xs, ys, rfl, rfl, rfl, by omega, hn, HX, HY, HXl, HYl, hl⟩
  case rest =>
    obtain ⟨A1, B1, n1, m1, c1, e1, xs1, ys1, rfl, rfl, rfl, hmn, hn1, HX1, HY1, HXl1, HYl1, HL⟩ := hcut
    clear HX HY HXl HYl hn hm
    have hmk := print_make (P := Tryz.prog) 58 3 .i64 8 Tryz.underlying58 info_int (by decide) (n1 + 1) (by omega)
    simp only [Int.natCast_add, Int.cast_ofNat_Int] at hmk
    go_wp2
    clear hmk
    go_loopw [6, 21] (fun cv iv wr => ∃ k : Nat, k ≤ n1 + 1 ∧ iv = .int .i64 k ∧ cv = .int .i64 (plF xs1 ys1 k).2 ∧ Hid (Rowd wc.heap.size (plF xs1 ys1 k).1 wr) ∧ Hid (Below wc.heap.size wc wr)) (fun _ i _ => n1 + 1 - (intOf i).toNat)
    case atStart =>
      have h1 := HX1.out.1
      exact ⟨0, by omega, rfl, rfl, Lib.hid (by rw [plF, h1]; exact Rowd.made wc (n1 + 1)), Lib.hid ((Below.refl _ wc).alloc (Nat.le_refl _) _)⟩
    case round =>
      obtain ⟨k, hk, rfl, rfl, HR, HB⟩ := hrel
      by_cases h0 : k < n1 + 1
      · have hcar := plF_carry HXl1.out HYl1.out k
        have cW := HR.out.cell k (by rw [plF_len, HX1.out.1]; omega)
        have fW := HR.out.frozen k
        by_cases h1 : k < n1
        · obtain ⟨ad1, rfl, hlt1, hc1⟩ := (HX1.out.below HB.out).2.2 (by omega)
          have cX := hc1 k h1
          have hv := HXl1.out k
          clear hc1
          by_cases h2 : k < m1
          · obtain ⟨ad2, rfl, hlt2, hc2⟩ := (HY1.out.below HB.out).2.2 (by omega)
            have cY := hc2 k h2
            have hu := HYl1.out k
            clear hc2
            have HT : Hid (plS xs1 ys1 k (plF xs1 ys1 k).2 = (plF xs1 ys1 k).2 + xs1[k]?.getD 0 + ys1[k]?.getD 0) := by
              show plS _ _ _ _ = _
              rw [plS, if_pos (by rw [HX1.out.1]; omega), if_pos (by rw [HY1.out.1]; omega)]
            generalize xs1[k]?.getD 0 = v at *
            generalize ys1[k]?.getD 0 = u at *
            generalize hcc : (plF xs1 ys1 k).2 = cc at *
            have HC := Lib.hid hcc
            clear hcc
            go_wp2
            refine ⟨⟨k + 1, by omega, rfl, ?_, Lib.hid ?_, Lib.hid (HB.out.setCell (p := ⟨wc.heap.size, k, none⟩) (Nat.le_refl _) _)⟩, by simp only [intOf]; omega⟩
            · have e : plS xs1 ys1 k (plF xs1 ys1 k).2 = cc + v + u := by rw [HC.out, HT.out]
              simp only [plF, e]
            · have e : plS xs1 ys1 k (plF xs1 ys1 k).2 = cc + v + u := by rw [HC.out, HT.out]
              simp only [plF, e]
              exact HR.out.store k _
          · have HT : Hid (plS xs1 ys1 k (plF xs1 ys1 k).2 = (plF xs1 ys1 k).2 + xs1[k]?.getD 0 + 0) := by
              show plS _ _ _ _ = _
              rw [plS, if_pos (by rw [HX1.out.1]; omega), if_neg (by rw [HY1.out.1]; omega)]
            generalize xs1[k]?.getD 0 = v at *
            generalize hcc : (plF xs1 ys1 k).2 = cc at *
            have HC := Lib.hid hcc
            clear hcc
            go_wp2
            refine ⟨⟨k + 1, by omega, rfl, ?_, Lib.hid ?_, Lib.hid (HB.out.setCell (p := ⟨wc.heap.size, k, none⟩) (Nat.le_refl _) _)⟩, by simp only [intOf]; omega⟩
            · have e : plS xs1 ys1 k (plF xs1 ys1 k).2 = cc + v := by rw [HC.out, HT.out]; omega
              simp only [plF, e]
            · have e : plS xs1 ys1 k (plF xs1 ys1 k).2 = cc + v := by rw [HC.out, HT.out]; omega
              simp only [plF, e]
              exact HR.out.store k _
        · have h2 : ¬ k < m1 := by omega
          have HT : Hid (plS xs1 ys1 k (plF xs1 ys1 k).2 = (plF xs1 ys1 k).2 + 0 + 0) := by
            show plS _ _ _ _ = _
            rw [plS, if_neg (by rw [HX1.out.1]; omega), if_neg (by rw [HY1.out.1]; omega)]
          generalize hcc : (plF xs1 ys1 k).2 = cc at *
          have HC := Lib.hid hcc
          clear hcc
          go_wp2
          refine ⟨⟨k + 1, by omega, rfl, ?_, Lib.hid ?_, Lib.hid (HB.out.setCell (p := ⟨wc.heap.size, k, none⟩) (Nat.le_refl _) _)⟩, by simp only [intOf]; omega⟩
          · have e : plS xs1 ys1 k (plF xs1 ys1 k).2 = cc := by rw [HC.out, HT.out]; omega
            simp only [plF, e]
          · have e : plS xs1 ys1 k (plF xs1 ys1 k).2 = cc := by rw [HC.out, HT.out]; omega
            simp only [plF, e]
            exact HR.out.store k _
      · have HT := Lib.hid (rowd_reads HR.out (by rw [plF_len, HX1.out.1]; omega))
        rw [plF_len, HX1.out.1] at HT
        have hl : Hid ((plL xs ys).length = n1 + 1) := by show (plL xs ys).length = _; rw [HL.out, plF_len, HX1.out.1]
        obtain rfl : k = n1 + 1 := by omega
        go_wp2_with (go_at_call 60; refine (trim_any _ _ _ _ _ HT.out (Nat.le_refl _) (by omega)).mono ?_; rintro e w' ⟨rfl, rfl⟩)
        go_ret
        exact ⟨by rw [hl.out, HL.out]; rfl, by rw [HL.out]; exact HR.out, HB.out⟩
end Go.Proofs.YtnagmogjhfdmlaaGreatDoor
namespace Go.Proofs.YtnagmogjhfdmlaaGreatDoor
open Go.RowKit Go.Shelf Go.Proofs.YtnagmogjhfdmlaaGreatDoorW.PrintWords
/-- The digit before the borrow, at place k. -/
def mnS (xs ys : List Int) (k : Nat) (b : Int) : Int := xs[k]?.getD 0 - b - (if k < ys.length then ys[k]?.getD 0 else 0)
def mnF (xs ys : List Int) : Nat → List Int × Int
  | 0 => (List.replicate xs.length 0, 0)
  | k + 1 => if mnS xs ys k (mnF xs ys k).2 < 0 then ((mnF xs ys k).1.set k (mnS xs ys k (mnF xs ys k).2 + 1000000000), 1) else ((mnF xs ys k).1.set k (mnS xs ys k (mnF xs ys k).2), 0)
theorem mnF_len (xs ys : List Int) : ∀ k, (mnF xs ys k).1.length = xs.length
  | 0 => by simp [mnF]
  | k + 1 => by
    simp only [mnF]
    split <;> simp [mnF_len xs ys k]
theorem mnF_borrow (xs ys : List Int) : ∀ k, 0 ≤ (mnF xs ys k).2 ∧ (mnF xs ys k).2 ≤ 1
  | 0 => by simp [mnF]
  | k + 1 => by
    simp only [mnF]
    split <;> simp
def mnL (xs ys : List Int) : List Int := (mnF xs ys xs.length).1
set_option maxRecDepth 100000 in
set_option maxHeartbeats 2000000 in
theorem minus_walk (A B : Option Addr) (n m c e : Nat) (xs ys : List Int) (w : World) (hx : RI w.heap.size w A n xs) (hy : RI w.heap.size w B m ys) (hxl : limbs xs) (hyl : limbs ys) (hn : n ≤ 35184372088831) (hm : m ≤ 35184372088831) :
    Calls Tryz.prog 67 #[.slice A n c, .slice B m e] w fun e w' => e = .returned (.slice (some ⟨w.heap.size, 0, none⟩) (tlen (mnL xs ys) (mnL xs ys).length) (mnL xs ys).length) ∧ Rowd w.heap.size (mnL xs ys) w' ∧ Below w.heap.size w w' := by
  have HX1 := Lib.hid hx
  have HY1 := Lib.hid hy
  have HXl1 := Lib.hid hxl
  have HYl1 := Lib.hid hyl
  have HL : Hid (mnL xs ys = (mnF xs ys n).1) := by show mnL xs ys = _; rw [mnL, hx.1]
  clear hx hy hxl hyl
  have hmk := print_make (P := Tryz.prog) 58 3 .i64 8 Tryz.underlying58 info_int (by decide) n (by omega)
  go_enter Tryz.func67, Tryz.ntmps67
  go_wp2
  clear hmk
  go_loopw [6, 14] (fun cv iv wr => ∃ k : Nat, k ≤ n ∧ iv = .int .i64 k ∧ cv = .int .i64 (mnF xs ys k).2 ∧ Hid (Rowd w.heap.size (mnF xs ys k).1 wr) ∧ Hid (Below w.heap.size w wr)) (fun _ i _ => n - (intOf i).toNat)
  case atStart =>
    have h1 := HX1.out.1
    exact ⟨0, by omega, rfl, rfl, Lib.hid (by rw [mnF, h1]; exact Rowd.made w n), Lib.hid ((Below.refl _ w).alloc (Nat.le_refl _) _)⟩
  case round =>
    obtain ⟨k, hk, rfl, rfl, HR, HB⟩ := hrel
    by_cases h0 : k < n
    · have hbor := mnF_borrow xs ys k
      have cW := HR.out.cell k (by rw [mnF_len, HX1.out.1]; omega)
      have fW := HR.out.frozen k
      obtain ⟨ad1, rfl, hlt1, hc1⟩ := (HX1.out.below HB.out).2.2 (by omega)
      have cX := hc1 k h0
      have hv := HXl1.out k
      clear hc1
      by_cases h2 : k < m
      · obtain ⟨ad2, rfl, hlt2, hc2⟩ := (HY1.out.below HB.out).2.2 (by omega)
        have cY := hc2 k h2
        have hu := HYl1.out k
        clear hc2
        have HT : Hid (mnS xs ys k (mnF xs ys k).2 = xs[k]?.getD 0 - (mnF xs ys k).2 - ys[k]?.getD 0) := by
          show mnS _ _ _ _ = _
          rw [mnS, if_pos (by rw [HY1.out.1]; omega)]
        generalize xs[k]?.getD 0 = v at *
        generalize ys[k]?.getD 0 = u at *
        generalize hcc : (mnF xs ys k).2 = cc at *
        have HC := Lib.hid hcc
        clear hcc
        have he : Hid (mnS xs ys k (mnF xs ys k).2 = v - cc - u) := by show mnS xs ys k (mnF xs ys k).2 = _; rw [HC.out, HT.out]
        by_cases hd : v - cc - u < 0
        · have hs : Hid (mnF xs ys (k + 1) = ((mnF xs ys k).1.set k (v - cc - u + 1000000000), 1)) := by
            show mnF xs ys (k + 1) = _
            rw [mnF, he.out, if_pos hd]
          go_wp2
          refine ⟨⟨k + 1, by omega, rfl, by rw [hs.out], Lib.hid ?_, Lib.hid (HB.out.setCell (p := ⟨w.heap.size, k, none⟩) (Nat.le_refl _) _)⟩, by simp only [intOf]; omega⟩
          rw [hs.out]
          exact HR.out.store k _
        · have hs : Hid (mnF xs ys (k + 1) = ((mnF xs ys k).1.set k (v - cc - u), 0)) := by
            show mnF xs ys (k + 1) = _
            rw [mnF, he.out, if_neg hd]
          go_wp2
          refine ⟨⟨k + 1, by omega, rfl, by rw [hs.out], Lib.hid ?_, Lib.hid (HB.out.setCell (p := ⟨w.heap.size, k, none⟩) (Nat.le_refl _) _)⟩, by simp only [intOf]; omega⟩
          rw [hs.out]
          exact HR.out.store k _
      · have HT : Hid (mnS xs ys k (mnF xs ys k).2 = xs[k]?.getD 0 - (mnF xs ys k).2 - 0) := by
          show mnS _ _ _ _ = _
          rw [mnS, if_neg (by rw [HY1.out.1]; omega)]
        generalize xs[k]?.getD 0 = v at *
        generalize hcc : (mnF xs ys k).2 = cc at *
        have HC := Lib.hid hcc
        clear hcc
        have he : Hid (mnS xs ys k (mnF xs ys k).2 = v - cc) := by show mnS xs ys k (mnF xs ys k).2 = _; rw [HC.out, HT.out]; omega
        by_cases hd : v - cc < 0
        · have hs : Hid (mnF xs ys (k + 1) = ((mnF xs ys k).1.set k (v - cc + 1000000000), 1)) := by
            show mnF xs ys (k + 1) = _
            rw [mnF, he.out, if_pos hd]
          go_wp2
          refine ⟨⟨k + 1, by omega, rfl, by rw [hs.out], Lib.hid ?_, Lib.hid (HB.out.setCell (p := ⟨w.heap.size, k, none⟩) (Nat.le_refl _) _)⟩, by simp only [intOf]; omega⟩
          rw [hs.out]
          exact HR.out.store k _
        · have hs : Hid (mnF xs ys (k + 1) = ((mnF xs ys k).1.set k (v - cc), 0)) := by
            show mnF xs ys (k + 1) = _
            rw [mnF, he.out, if_neg hd]
          go_wp2
          refine ⟨⟨k + 1, by omega, rfl, by rw [hs.out], Lib.hid ?_, Lib.hid (HB.out.setCell (p := ⟨w.heap.size, k, none⟩) (Nat.le_refl _) _)⟩, by simp only [intOf]; omega⟩
          rw [hs.out]
          exact HR.out.store k _
    · have HT := Lib.hid (rowd_reads HR.out (by rw [mnF_len, HX1.out.1]; omega))
      rw [mnF_len, HX1.out.1] at HT
      have hl : Hid ((mnL xs ys).length = n) := by show (mnL xs ys).length = _; rw [HL.out, mnF_len, HX1.out.1]
      obtain rfl : k = n := by omega
      go_wp2_with (go_at_call 60; refine (trim_any _ _ _ _ _ HT.out (Nat.le_refl _) (by omega)).mono ?_; rintro e w' ⟨rfl, rfl⟩)
      go_ret
      exact ⟨by rw [hl.out, HL.out]; rfl, by rw [HL.out]; exact HR.out, HB.out⟩
end Go.Proofs.YtnagmogjhfdmlaaGreatDoor
namespace Go.Proofs.YtnagmogjhfdmlaaGreatDoor
open Go.RowKit Go.Shelf Go.Proofs.YtnagmogjhfdmlaaGreatDoorW.PrintWords
/-- What strconv.Atoi is asked to do. -/
def AtoiOK : Prop := ∀ (s : ByteArray) (n : Int), s.size ≤ 18 → Lib.atoi s.data.toList = some n → ∀ w : World, Calls Tryz.prog 76 #[.string s] w fun e w' => e = .returned (.tuple #[.int .i64 n, .nilIface]) ∧ ∃ t, w' = Lib.bytesWorld w 5 t
/-- Group j of nine digits, from the last one on. -/
def chunkB (s : ByteArray) (j : Nat) : ByteArray := s.extract (s.size - 9 * j - 9) (s.size - 9 * j)
/-- How many groups there are. -/
def chunkN (s : ByteArray) : Nat := (s.size + 8) / 9
def chunkL (v : Nat → Int) (k : Nat) : List Int := (List.range k).map v
theorem chunkL_succ (v : Nat → Int) (k : Nat) : chunkL v (k + 1) = chunkL v k ++ [v k] := by simp [chunkL, List.range_succ]
theorem chunkL_len (v : Nat → Int) (k : Nat) : (chunkL v k).length = k := by simp [chunkL]
theorem chunkL_pre (v : Nat → Int) (k m : Nat) (h : k ≤ m) : chunkL v k <+: chunkL v m := by
  induction m with
  | zero =>
    have : k = 0 := by omega
    rw [this]; exact List.prefix_refl _
  | succ m ih =>
    by_cases e : k = m + 1
    · rw [e]; exact List.prefix_refl _
    · rw [chunkL_succ]; exact (ih (by omega)).trans (List.prefix_append _ _)
theorem grown_bytesWorld (w : World) (e : TypeId) (s : ByteArray) : w.grownBy (Lib.bytesWorld w e s) none :=
  ⟨rfl, rfl, rfl, by rw [Lib.bytesWorld_size]; omega, fun k hk _ => Lib.bytesWorld_at_old w e s k hk⟩
theorem below_bytesWorld' (w : World) (e : TypeId) (s : ByteArray) (B : Nat) (h : B ≤ w.heap.size) : Below B w (Lib.bytesWorld w e s) :=
  (Below.refl B w).grown (grown_bytesWorld w e s) h (fun k e => by cases e)
theorem sizeL {B : Nat} {a w : World} (h : Below B a w) : a.heap.size ≤ w.heap.size := h.size
set_option maxRecDepth 100000 in
set_option maxHeartbeats 2000000 in
theorem chunks1_in (hA : AtoiOK) (n : Nat) (hn : 1 ≤ n) (l Bs n₀ : Nat) (s : ByteArray) (v : Nat → Int) (J Jx : List Int → World → Prop)
    (hs : s.size ≤ 9223372036854775807) (hv : ∀ j, j < chunkN s → Lib.atoi (chunkB s j).data.toList = some (v j))
    (hJ : ∀ pre W W', J pre W → W.grownBy W' none → J pre W')
    (hY : ∀ pre x W, J pre W → pre.length < chunkN s → YieldAt Fence.wide (n - 1) Tryz.prog l #[.int .i64 x] W fun e W' =>
      (e = .returned (.bool true) ∧ J (pre ++ [x]) W' ∧ KpB Bs n₀ W W') ∨ (e = .returned (.bool false) ∧ Jx (pre ++ [x]) W'))
    (W : World) (hBs : W.cell? ⟨Bs, 0, none⟩ = some (.string s)) (hBl : Bs < W.heap.size) (h0l : n₀ ≤ W.heap.size) (h0 : J [] W) :
    CallsIn Fence.wide n Tryz.prog 75 #[.func (.yield l) #[] #[], .pointer (some ⟨Bs, 0, none⟩)] W fun e W' => (∃ u, e = .returned u) ∧
      ((∃ ys, ys = chunkL v (chunkN s) ∧ J ys W') ∨ (∃ pre, pre <+: chunkL v (chunkN s) ∧ Jx pre W')) := by
  have hro : Fence.wide.round = none := rfl
  refine callsIn_of_wp Tryz.func75 rfl trivial ?_ hro
  simp only [Tryz.ntmps75, List.size_toArray, List.length_cons, List.length_nil, Nat.reduceAdd, Nat.reduceSub, Array.replicate_succ, Array.replicate_zero, List.push_toArray, List.append_toArray, List.nil_append, List.cons_append]
  gi_wp2
  gi_loopw [3] (fun i wr => ∃ k : Nat, k ≤ chunkN s ∧ i = .int .i64 ((s.size : Int) - 9 * k) ∧ J (chunkL v k) wr ∧ KpB Bs n₀ W wr)
    (fun i _ => (intOf i + 9).toNat)
  case atStart => exact ⟨0, Nat.zero_le _, by go_num, h0, KeepB.refl _ _, Below.refl _ _⟩
  case round =>
    obtain ⟨k, hk, rfl, hJs, hnx, hbl⟩ := hrel
    have hcb : wr.cell? ⟨Bs, 0, none⟩ = some (.string s) := hnx.cell hBs
    have hkN : k ≤ (s.size + 8) / 9 := hk
    by_cases hlt : k < chunkN s
    · have hltN : k < (s.size + 8) / 9 := hlt
      have hat := Lib.hid (hv k hlt)
      have hstep := Lib.hid (chunkL_succ v k)
      have hpre := Lib.hid (chunkL_pre v (k + 1) (chunkN s) hlt)
      obtain ⟨hi, hhi⟩ : ∃ hi : Nat, (s.size : Int) - 9 * k = hi := ⟨s.size - 9 * k, by omega⟩
      have hi1 : 1 ≤ hi := by omega
      have hi2 : hi ≤ s.size := by omega
      have hsl := Lib.hid (show s.extract (hi - 9) hi = chunkB s k from by rw [chunkB, show s.size - 9 * k = hi from by omega])
      have hsz : (chunkB s k).size ≤ 18 := by rw [← hsl.out]; simp; omega
      have HHI := Lib.hid hhi
      rw [hhi]
      clear hhi hkN
      have hR0 := fun w' (hw : wr.grownBy w' none) => hY (chunkL v k) (v k) w' (hJ _ _ _ hJs hw) (by rw [chunkL_len]; exact hlt)
      by_cases h9 : hi ≤ 9
      · have hs9 : ∀ w' : World, (Instr.slice 9 (.string s) (some (.int .i64 0)) (some (.int .i64 (hi : Int))) none).run Tryz.prog w' = .ok (.string (chunkB s k)) w' := fun w' => by
          rw [run_slice_string _ _ _ _ _ _ _ (by kernel_rfl) (by omega) (by omega) (by omega), ← hsl.out, show hi - 9 = 0 from by omega, Int.toNat_natCast]
          rfl
        gi_wp2_with (refine ⟨trivial, ?_⟩; gi_at_call 76; refine (callsIn_wide.2 (hA _ _ hsz hat.out _)).mono ?_; rintro e w' ⟨rfl, t, rfl⟩)
        obtain ⟨fn, tmps, assign, body, hy, hR⟩ := hR0 _ (grown_bytesWorld wr 5 t)
        have hw5 : KpB Bs n₀ W (Lib.bytesWorld wr 5 t) := ⟨hnx.trans (.of_grownBy (grown_bytesWorld wr 5 t) (by simp)), hbl.trans (below_bytesWorld' wr 5 t n₀ (Nat.le_trans h0l (sizeL hbl)))⟩
        rw [hy]
        gi_wp2
        refine hR.mono ?_
        rintro e W3 (⟨rfl, hJ3, hk3⟩ | ⟨rfl, hJx3⟩)
        · gi_wp2
          go_roundw
          case rel => exact ⟨k + 1, hlt, by have := HHI.out; go_num, by rw [hstep.out]; exact hJ3, hw5.1.trans hk3.1, hw5.2.trans hk3.2⟩
          case measure => first | (simp [intOf]; done) | (simp [intOf]; omega)
        · gi_wp2
          refine bodyPost_ret (results_none rfl _ _ _) rfl ?_
          exact ⟨⟨_, rfl⟩, .inr ⟨_, by rw [← hstep.out]; exact hpre.out, hJx3⟩⟩
      · have hs9 : ∀ w' : World, (Instr.slice 9 (.string s) (some (.int .i64 ((hi : Int) - 9))) (some (.int .i64 (hi : Int))) none).run Tryz.prog w' = .ok (.string (chunkB s k)) w' := fun w' => by
          rw [run_slice_string _ _ _ _ _ _ _ (by kernel_rfl) (by omega) (by omega) (by omega), ← hsl.out]
          have e1 : ((hi : Int) - 9).toNat = hi - 9 := by omega
          rw [e1, Int.toNat_natCast]
        gi_wp2_with (refine ⟨trivial, ?_⟩; gi_at_call 76; refine (callsIn_wide.2 (hA _ _ hsz hat.out _)).mono ?_; rintro e w' ⟨rfl, t, rfl⟩)
        obtain ⟨fn, tmps, assign, body, hy, hR⟩ := hR0 _ (grown_bytesWorld wr 5 t)
        have hw5 : KpB Bs n₀ W (Lib.bytesWorld wr 5 t) := ⟨hnx.trans (.of_grownBy (grown_bytesWorld wr 5 t) (by simp)), hbl.trans (below_bytesWorld' wr 5 t n₀ (Nat.le_trans h0l (sizeL hbl)))⟩
        rw [hy]
        gi_wp2
        refine hR.mono ?_
        rintro e W3 (⟨rfl, hJ3, hk3⟩ | ⟨rfl, hJx3⟩)
        · gi_wp2
          go_roundw
          case rel => exact ⟨k + 1, hlt, by have := HHI.out; go_num, by rw [hstep.out]; exact hJ3, hw5.1.trans hk3.1, hw5.2.trans hk3.2⟩
          case measure => first | (simp [intOf]; done) | (simp [intOf]; omega)
        · gi_wp2
          refine bodyPost_ret (results_none rfl _ _ _) rfl ?_
          exact ⟨⟨_, rfl⟩, .inr ⟨_, by rw [← hstep.out]; exact hpre.out, hJx3⟩⟩
    · obtain rfl : k = chunkN s := by omega
      have hle : (s.size : Int) - 9 * (chunkN s : Nat) ≤ 0 := by
        have : s.size ≤ 9 * chunkN s := by show s.size ≤ 9 * ((s.size + 8) / 9); omega
        omega
      have hd : decide (9 * ((chunkN s : Nat) : Int) < (s.size : Int)) = false := decide_eq_false (by omega)
      gi_wp2
      go_end0
      exact ⟨⟨_, rfl⟩, .inl ⟨_, rfl, hJs⟩⟩
end Go.Proofs.YtnagmogjhfdmlaaGreatDoor
namespace Go.Proofs.YtnagmogjhfdmlaaGreatDoor
open Go.RowKit Go.Shelf Go.Proofs.YtnagmogjhfdmlaaGreatDoorW.PrintWords
theorem chunks_stops (hA : AtoiOK) (n : Nat) (hn : 1 ≤ n) (Bn n₀ : Nat) (s : ByteArray) (v : Nat → Int) (w : World) (hBn : Bn < w.heap.size) (h0 : n₀ ≤ w.heap.size) (hs : s.size ≤ 9223372036854775807)
    (hv : ∀ j, j < chunkN s → Lib.atoi (chunkB s j).data.toList = some (v j)) (hc : w.cell? ⟨Bn, 0, none⟩ = some (.string s)) :
    SeqStopsK Fence.wide n Tryz.prog 75 #[.pointer (some ⟨Bn, 0, none⟩)] (fun x : Int => #[Value.int .i64 x]) (KpB Bn n₀) (fun ys => ys = chunkL v (chunkN s)) (fun pre => pre <+: chunkL v (chunkN s)) (chunkN s) w := fun l J Jx W hW hJ _ hY h0' =>
  chunks1_in hA n hn l Bn n₀ s v J Jx hs hv (fun pre W1 W2 h hg => hJ pre W1 W2 none h hg (fun r e => by cases e)) hY W ((hW.cell (p := ⟨Bn, 0, none⟩) hBn).trans hc) (Nat.lt_of_lt_of_le hBn hW.size) (Nat.le_trans h0 hW.size) h0'
set_option maxHeartbeats 1000000 in
theorem chunks_walk (s : ByteArray) (w : World) :
    Calls Tryz.prog 62 #[.string s] w fun e w' => e = .returned (.func (.func 75) #[] #[.pointer (some ⟨w.heap.size, 0, none⟩)]) ∧ w' = w.alloc (.cells #[.string s] 9) := by
  go_enter Tryz.func62, Tryz.ntmps62
  go_wp2
  go_ret
  exact ⟨rfl, rfl⟩
attribute [local go_sem] Oper.semAt_some
/-- v is a slice that owns, in a block of its own from B on, the ints xs. -/
def OwnI (B : Nat) (v : Value) (xs : List Int) (W : World) : Prop := W.ownsRow B 3 1 v xs.length (xs.map (Value.int .i64))
theorem OwnI.kept {B : Nat} {v : Value} {xs : List Int} {W W' : World} {row : Option Nat} (h : OwnI B v xs W) (hg : W.grownBy W' row) (hr : ∀ r, row = some r → r < B ∨ ∃ o : Obj, W.heap[r]? = some o ∧ o.isCells = false) : OwnI B v xs W' := by
  refine World.ownsRow.kept h hg ?_
  rcases h.2 with ⟨rfl, _⟩ | ⟨g, cap, cur, rfl, hB, hgb, _⟩
  · exact .inl rfl
  · refine .inr fun e' => ?_
    rcases hr g (by simpa [Value.ownBlock] using e'.symm) with h1 | ⟨o, ho, hw⟩
    · omega
    · rw [hgb] at ho; cases ho; cases hw
theorem own_some {base n : Nat} {e : TypeId} {v : Value} {xs : List Value} {W : World} (h : W.ownsRow base e 1 v (n + 1) xs) : ∃ g cap, v = .slice (some ⟨g, 0, none⟩) (n + 1) cap ∧ base ≤ g := by
  rcases h.2 with ⟨_, h0⟩ | ⟨g, cap, cur, e, hB, _⟩
  · exact absurd h0 (by omega)
  · exact ⟨g, cap, e, hB⟩
/-- Between two rounds of AppendSeq. -/
def CI (w : World) (xs : List Int) (W : World) : Prop := (∃ v, Boxed W w.heap.size 58 v ∧ OwnI (w.heap.size + 1) v xs W) ∧ Below w.heap.size w W
theorem cI_own (w : World) (B : Nat) (hB : w.heap.size ≤ B) : OwnFrom B (CI w) := fun xs W W' row h hg hr => by
  obtain ⟨⟨v, hb, ho⟩, hbl⟩ := h
  refine ⟨⟨v, ?_, ho.kept hg (fun r e => .inr (hr r e).2)⟩, hbl.grown hg hbl.size (fun k e => Nat.le_trans hB (hr k e).1)⟩
  exact boxed_own w.heap.size 58 (fun (_ : Unit) => v) () _ _ _ hb hg (fun r e => (hr r e).2)
theorem info_int2 : ∃ i, Tryz.prog.info? 3 = some i ∧ i.zero = some (.int .i64 0) ∧ i.size = 1 ∧ i.bytes = 8 := by
  have h := info_int
  cases hi : Tryz.prog.info? 3 with
  | none => rw [hi] at h; cases h
  | some i =>
    rw [hi] at h
    simp only [Option.map_some, Option.some.injEq, Prod.mk.injEq] at h
    exact ⟨i, rfl, h.1, h.2.1, h.2.2⟩
set_option maxRecDepth 100000 in
set_option maxHeartbeats 2000000 in
theorem append_walk (hA : AtoiOK) (Bn : Nat) (s : ByteArray) (v : Nat → Int) (w : World) (hBn : Bn < w.heap.size) (hs : s.size ≤ 140737488355328)
    (hv : ∀ j, j < chunkN s → Lib.atoi (chunkB s j).data.toList = some (v j)) (hc : w.cell? ⟨Bn, 0, none⟩ = some (.string s)) :
    Calls Tryz.prog 74 #[.slice none 0 0, .func (.func 75) #[] #[.pointer (some ⟨Bn, 0, none⟩)]] w fun e w' => ∃ u, e = .returned u ∧ OwnI (w.heap.size + 1) u (chunkL v (chunkN s)) w' ∧ Below w.heap.size w w' := by
  refine (callsIn_wide (n := 8)).1 ?_
  have hro : Fence.wide.round = none := rfl
  have h1 : 1 ≤ 8 := by omega
  have HV := Lib.hid hv
  clear hv
  refine callsIn_of_wp_marks Tryz.func74 rfl trivial ?_ hro
  simp only [Tryz.ntmps74, List.size_toArray, List.length_cons, List.length_nil, Nat.reduceAdd, Nat.reduceSub, Array.replicate_succ, Array.replicate_zero, List.push_toArray, List.append_toArray, List.nil_append, List.cons_append]
  gi_wp2
  have bS := Boxed.new w 58 (.slice none 0 0)
  have hB0 : Below w.heap.size w (w.alloc (.cells #[.slice none 0 0] 58)) := (Below.refl _ w).alloc (Nat.le_refl _) _
  have hc0 : (w.alloc (.cells #[.slice none 0 0] 58)).cell? ⟨Bn, 0, none⟩ = some (.string s) := (hB0.cell (p := ⟨Bn, 0, none⟩) hBn).trans hc
  have hsz : (w.alloc (.cells #[.slice none 0 0] 58)).heap.size = w.heap.size + 1 := by simp
  obtain ⟨W0, hW0⟩ : ∃ W0, w.alloc (.cells #[.slice none 0 0] 58) = W0 := ⟨_, rfl⟩
  rw [hW0] at bS hB0 hc0 hsz ⊢
  clear hW0
  refine wpIn_rangeFunc_ownF hro h1 (gf := 75) (lb := #[.pointer (some ⟨Bn, 0, none⟩)]) rfl trivial (enters_of Tryz.func75 (by kernel_rfl) rfl)
    (chunks_stops hA (8 - 1) (by omega) Bn w.heap.size s v W0 (by omega) (by omega) (by omega) HV.out hc0) kpB_t (kpB_b (by omega) (by omega)) (Below.refl _ _) (fun _ => rfl)
    (CI w) (fun _ _ _ => False) (cI_own w _ (by omega)) (fun _ _ _ _ _ hs _ _ => hs)
    ⟨⟨_, bS, by constructor; rfl; exact .inl ⟨rfl, rfl⟩⟩, hB0⟩
    (fun x => { tmps := #[.slice none 0 0, .func (.func 75) #[] #[.pointer (some ⟨Bn, 0, none⟩)], .pointer (some ⟨w.heap.size, 0, none⟩), undef, .slice none 0 0, .int .i64 x, .func (.func 75) #[] #[.pointer (some ⟨Bn, 0, none⟩)], .int .i64 x, undef, undef, undef, undef, undef], defers := [] }) ?assign ?body ?done ?stop
  case assign =>
    intro l x W K hK
    gi_wp2
    exact hK
  case body =>
    rintro l pre x W ⟨⟨u, hb, ho⟩, hbl⟩ hlt
    have cS := hb.cell
    obtain ⟨i0, hi, hz0, hz1, hz2⟩ := info_int2
    have Hi := Lib.hid hi
    have Hz0 := Lib.hid hz0
    have Hz1 := Lib.hid hz1
    have Hz2 := Lib.hid hz2
    clear hi hz0 hz1 hz2
    have hlen : pre.length < (s.size + 8) / 9 := hlt
    have hWs := hbl.size
    have HO := Lib.hid ho
    have HBL := Lib.hid hbl
    have HBX := Lib.hid hb
    clear ho hbl hb
    have hOA := Lib.hid (World.ownsRow.alloc HO.out (.cells #[.int .i64 x] 3))
    have hBA := Lib.hid (HBX.out.alloc (.cells #[.int .i64 x] 3))
    have hBlt := HBX.out.lt
    gi_wp2_with (gi_at_builtin; refine wpListIn_append_own _ rfl _ _ 58 rfl (w.heap.size + 1) 3 i0 (.int .i64 0) 1 8 Tryz.underlying58 Hi.out Hz0.out Hz1.out Hz2.out rfl (by decide) _ _ _ rfl hOA.out ⟨W.heap.size, 0, none⟩ 1 1 [.int .i64 x] rfl rfl (cell_one_new _ _ _) (by simp [Value.oneCell']) (by simp [maxLen]; omega) (by omega) (by simp; omega) ?_; intro v' w3 hown' hg3 hnil3; obtain ⟨g', cap', rfl, hbase'⟩ := own_some hown'; have hB3 : Boxed w3 w.heap.size 58 u := (hg3.block w.heap.size (by simp; omega) (fun e => by have := hOA.out.lt _ e.symm; omega)).trans hBA.out; have cS3 := hB3.cell; have fS3 := hB3.frozen; have HO3 := Lib.hid hown'; have HG3 := Lib.hid hg3; have HB3 := Lib.hid hB3; clear hown' hg3 hnil3 hB3; try go_frame)
    have hbW : Below w.heap.size W w3 := ((Below.refl _ W).alloc hWs _).grown HG3.out (by simp; omega) (fun k e => by have := hOA.out.lt _ e; omega)
    have hk3 : KeepsOthers W w3 := (KeepsOthers.alloc W _).trans (KeepsOthers.of_grownBy HG3.out (fun j o e ho => by
      rcases hOA.out.2 with ⟨rfl, _⟩ | ⟨g, cap, cur, rfl, _, hgb, _⟩
      · cases e
      · cases e
        rw [hgb] at ho
        cases ho
        rfl))
    have hbW4 := hbW.setCell (p := ⟨w.heap.size, 0, none⟩) (Nat.le_refl _) (.slice (some ⟨g', 0, none⟩) (pre.length + 1) cap')
    refine ⟨hk3.trans (KeepsOthers.setCell _ _ _), ⟨.of_below hbW4 hBn, hbW4⟩, ⟨_, HB3.out.set _, ?_⟩, HBL.out.trans hbW4⟩
    have e := OwnI.kept (B := w.heap.size + 1) (v := .slice (some ⟨g', 0, none⟩) (pre.length + 1) cap') (xs := pre ++ [x]) (W := w3) (by unfold OwnI; simpa using HO3.out) (grownBy_setCell' w3 w.heap.size (.slice (some ⟨g', 0, none⟩) (pre.length + 1) cap')) (fun r e => by cases e; left; omega)
    exact e
  case done =>
    rintro D zs W hD rfl ⟨⟨u, hb, ho⟩, hbl⟩ hK
    have cS := hb.cell
    have HO := Lib.hid ho
    have HBL := Lib.hid hbl
    clear ho hbl hb
    gi_wp2
    refine ⟨by simp, .inl ⟨_, _, rfl, run_takeDeferred hK, ?_⟩⟩
    exact ⟨_, by simp [results, Tryz.results74, go_sem], ⟨_, rfl, HO.out.kept (grownBy_putObj' W D (.deferred none)) (fun r e => by cases e; exact .inr ⟨_, hK, rfl⟩), HBL.out.trans (belowK_b (w := w) (Nat.le_refl _) _ D _ _ (by omega) hK rfl rfl)⟩⟩
  case stop =>
    rintro D c pre W _ _ h _
    exact h.elim
set_option maxHeartbeats 1000000 in
theorem collect_walk (hA : AtoiOK) (Bn : Nat) (s : ByteArray) (v : Nat → Int) (w : World) (hBn : Bn < w.heap.size) (hs : s.size ≤ 140737488355328)
    (hv : ∀ j, j < chunkN s → Lib.atoi (chunkB s j).data.toList = some (v j)) (hc : w.cell? ⟨Bn, 0, none⟩ = some (.string s)) :
    Calls Tryz.prog 61 #[.func (.func 75) #[] #[.pointer (some ⟨Bn, 0, none⟩)]] w fun e w' => ∃ u, e = .returned u ∧ OwnI (w.heap.size + 1) u (chunkL v (chunkN s)) w' ∧ Below w.heap.size w w' := by
  have HV := Lib.hid hv
  have HC := Lib.hid hc
  clear hv hc
  go_enter Tryz.func61, Tryz.ntmps61
  go_wp2_with (go_at_call 74; refine (append_walk hA Bn s v _ hBn hs HV.out HC.out).mono ?_; rintro e w' ⟨u, rfl, hO, hB⟩; have HO := Lib.hid hO; have HB := Lib.hid hB; clear hO hB)
  go_ret
  exact ⟨_, rfl, HO.out, HB.out⟩
end Go.Proofs.YtnagmogjhfdmlaaGreatDoor
namespace Go.Proofs.YtnagmogjhfdmlaaGreatDoor
open Go.RowKit Go.Shelf Go.Proofs.YtnagmogjhfdmlaaGreatDoorW.PrintWords
/-- What strings.CutPrefix is asked to do. -/
def CutOK : Prop := ∀ (s p : ByteArray) (w : World), Calls Tryz.prog 46 #[.string s, .string p] w fun e w' => e = .returned (.tuple #[.string ⟨(Lib.trimPrefix s.data.toList p.data.toList).toArray⟩, .bool (Lib.hasPrefix s.data.toList p.data.toList)]) ∧ w' = w
theorem cell_at {W : World} {B : Nat} {cs : Array Value} {t : TypeId} (h : W.heap[B]? = some (.cells cs t (0, 0))) (k : Nat) : W.cell? ⟨B, k, none⟩ = cs[k]? := by simp [World.cell?, h]
theorem frozen_at {W : World} {B : Nat} {cs : Array Value} {t : TypeId} (h : W.heap[B]? = some (.cells cs t (0, 0))) (k : Nat) : W.frozen? ⟨B, k, none⟩ = false := by simp [World.frozen?, h]
theorem reads_set {W : World} {A : Option Addr} {n : Nat} {xs : List Int} (h : ReadsInt W .i64 A n xs) {p : Addr} (v : Value) (hp : ∀ ad, A = some ad → p.block ≠ ad.block) : ReadsInt (W.setCell p v) .i64 A n xs :=
  ⟨h.1, h.2.1, fun hn => by
    obtain ⟨ad, e, hc⟩ := h.2.2 hn
    exact ⟨ad, e, fun j hj => (World.cell?_of_block (Below.heap_setCell W p v (ad.add j).block (by rw [add_block]; exact fun e2 => hp ad e e2.symm))).trans (hc j hj)⟩⟩
/-- What lies behind a slice that owns its ints. -/
theorem OwnI.slice {B : Nat} {u : Value} {xs : List Int} {W : World} (h : OwnI B u xs W) : ∃ A c, u = .slice A xs.length c ∧ ReadsInt W .i64 A xs.length xs ∧ xs.length ≤ c ∧ c ≤ 9223372036854775807 ∧ (∀ ad, A = some ad → B ≤ ad.block ∧ ad.block < W.heap.size) := by
  rcases h.2 with ⟨rfl, h0⟩ | ⟨g, cap, cur, rfl, hB, hgb, h1, h2, h3, h4⟩
  · refine ⟨none, 0, by rw [h0], ⟨rfl, by omega, fun hn => by omega⟩, by omega, by omega, fun ad e => by cases e⟩
  · have h2' : cap ≤ 9223372036854775807 := by simpa [maxLen] using h2
    refine ⟨some ⟨g, 0, none⟩, cap, rfl, ⟨rfl, by omega, fun hn => ⟨_, rfl, fun j hj => ?_⟩⟩, h1, h2', fun ad e => by cases e; exact ⟨hB, (Array.getElem?_eq_some_iff.1 hgb).1⟩⟩
    have e : cur[j]? = some (.int .i64 (xs.getD j 0)) := by
      have h5 := congrArg (fun l => l[j]?) h4
      simp only [Nat.mul_one] at h5
      rw [List.getElem?_take_of_lt hj, Array.getElem?_toList] at h5
      rw [h5]
      simp [hj]
    have e2 : (Addr.add ⟨g, 0, none⟩ j) = ⟨g, j, none⟩ := by simp only [Addr.add]; split <;> simp_all
    rw [e2]
    simp [World.cell?, hgb, e]
set_option maxRecDepth 100000 in
set_option maxHeartbeats 2000000 in
theorem read_walk (hA : AtoiOK) (hC : CutOK) (a : ByteArray) (v : Nat → Int) (w : World) (neg : Bool) (s : ByteArray) (hneg : Lib.hasPrefix a.data.toList [45] = neg) (hsx : (⟨(Lib.trimPrefix a.data.toList [45]).toArray⟩ : ByteArray) = s) (hs : s.size ≤ 140737488355328)
    (hv : ∀ j, j < chunkN s → Lib.atoi (chunkB s j).data.toList = some (v j)) :
    Calls Tryz.prog 49 #[.string a] w fun e w' => ∃ A c, e = .returned (.agg #[.bool neg, .slice A (tlen (chunkL v (chunkN s)) (chunkN s)) c]) ∧ ReadsInt w' .i64 A (chunkN s) (chunkL v (chunkN s)) ∧ chunkN s ≤ c ∧ c ≤ 9223372036854775807 ∧ (∀ ad, A = some ad → w.heap.size ≤ ad.block ∧ ad.block < w'.heap.size) ∧ Below w.heap.size w w' := by
  have HV := Lib.hid hv
  have HN := Lib.hid hneg
  have HS := Lib.hid hsx
  clear hv hneg hsx
  go_enter Tryz.func49, Tryz.ntmps49
  have hcell : ((w.alloc (.cells #[.bool false, .slice none 0 0] 65)).alloc (.cells #[.string s] 9)).cell? ⟨w.heap.size + 1, 0, none⟩ = some (.string s) := by
    have := (Boxed.new (w.alloc (.cells #[.bool false, .slice none 0 0] 65)) 9 (.string s)).cell
    rwa [World.size_alloc] at this
  have hblk : ((w.alloc (.cells #[.bool false, .slice none 0 0] 65)).alloc (.cells #[.string s] 9)).heap[w.heap.size]? = some (.cells #[.bool false, .slice none 0 0] 65) :=
    (Below.heap_alloc _ _ _ (by simp)).trans (World.alloc_heap_new w _)
  have HCL := Lib.hid hcell
  have HBK := Lib.hid hblk
  clear hcell hblk
  go_wp2_with (first
    | (go_at_call 46; refine (hC _ _ _).mono ?_; rintro e w' ⟨rfl, rfl⟩; rw [show (ByteArray.mk #[45]).data.toList = [45] from rfl, HN.out, HS.out])
    | (go_at_call 62; refine (chunks_walk _ _).mono ?_; rintro e w' ⟨rfl, rfl⟩)
    | (go_at_call 61; refine (collect_walk hA (w.heap.size + 1) s v _ (by simp) hs HV.out HCL.out).mono ?_; rintro e w2 ⟨u, rfl, hO, hB⟩; obtain ⟨A, c, rfl, hr, hnc, hc, hA'⟩ := hO.slice; rw [chunkL_len] at hr hnc; rw [chunkL_len]; have HR := Lib.hid hr; have HA' := Lib.hid hA'; have HB := Lib.hid hB; clear hr hA' hB hO)
    | (go_at_call 60; refine (trim_any _ _ _ _ _ HR.out hnc hc).mono ?_; rintro e w' ⟨rfl, rfl⟩; have hb2 := (HB.out.block w.heap.size (by simp; omega)).trans HBK.out; have c0 := cell_at hb2 0; have c1 := cell_at hb2 1; have f0 := frozen_at hb2 0; have f1 := frozen_at hb2 1; simp only [List.getElem?_toArray, List.getElem?_cons_zero, List.getElem?_cons_succ] at c0 c1; clear hb2))
  have hb2 := (HB.out.block w.heap.size (by simp; omega)).trans HBK.out
  have hAb : ∀ ad, A = some ad → w.heap.size ≠ ad.block := fun ad e => by
    have := (HA'.out ad e).1
    simp at this
    omega
  have hBW : Below w.heap.size w w' := (((Below.refl _ w).alloc (Nat.le_refl _) _).alloc (by simp) _).trans (HB.out.mono (by simp; omega))
  have hBW2 := (hBW.setCell (p := ⟨w.heap.size, 0, none⟩) (Nat.le_refl _) (.bool neg)).setCell (p := ⟨w.heap.size, 1, none⟩) (Nat.le_refl _) (.slice A (tlen (chunkL v (chunkN s)) (chunkN s)) c)
  have hR2 := reads_set (reads_set HR.out (p := ⟨w.heap.size, 0, none⟩) (.bool neg) hAb) (p := ⟨w.heap.size, 1, none⟩) (.slice A (tlen (chunkL v (chunkN s)) (chunkN s)) c) hAb
  have hA2 : ∀ ad, A = some ad → w.heap.size ≤ ad.block ∧ ad.block < ((w'.setCell ⟨w.heap.size, 0, none⟩ (.bool neg)).setCell ⟨w.heap.size, 1, none⟩ (.slice A (tlen (chunkL v (chunkN s)) (chunkN s)) c)).heap.size := fun ad e => by
    have := HA'.out ad e
    simp [World.setCell] at this ⊢
    omega
  refine bodyPost_ret (results_cell_row rfl _ _ w.heap.size 65 #[.bool neg, .slice A (tlen (chunkL v (chunkN s)) (chunkN s)) c] (0, 0) _ rfl (blk_put (cs := #[.bool neg, .slice none 0 0]) (blk_put (cs := #[.bool false, .slice none 0 0]) hb2 0 _ rfl) 1 _ rfl) Tryz.underlying65 rfl (by kernel_rfl)) rfl ?_
  exact ⟨A, c, rfl, hR2, hnc, hc, hA2, hBW2⟩
end Go.Proofs.YtnagmogjhfdmlaaGreatDoor
namespace Go.Proofs.YtnagmogjhfdmlaaGreatDoor
open Go.RowKit Go.Shelf Go.Proofs.YtnagmogjhfdmlaaGreatDoorW.PrintWords
theorem RI.mono {n₀ n₁ : Nat} {W : World} {A : Option Addr} {n : Nat} {xs : List Int} (h : RI n₀ W A n xs) (hn : n₀ ≤ n₁) : RI n₁ W A n xs := ⟨h.1, h.2.1, fun h0 => by
  obtain ⟨ad, e, hlt, hc⟩ := h.2.2 h0
  exact ⟨ad, e, by omega, hc⟩⟩
theorem cellA {W : World} {B : Nat} {cs : Array Value} {t : TypeId} (h : W.heap[B]? = some (.cells cs t (0, 0))) (k : Nat) (v : Value) (hv : cs[k]? = some v) : W.cell? ⟨B, k, none⟩ = some v := by simp [World.cell?, h, hv]
set_option maxRecDepth 100000 in
set_option maxHeartbeats 1000000 in
theorem neg_same (A B : Option Addr) (n m c e : Nat) (b b2 : Bool) (w : World) :
    Calls Tryz.prog 64 #[.agg #[.bool b, .slice A n c], .agg #[.bool b2, .slice B m e]] w fun e w' => e = .returned (.bool b) ∧ Below w.heap.size w w' := by
  go_enter Tryz.func64, Tryz.ntmps64
  go_wp2
  go_ret
  exact ⟨rfl, ((Below.refl _ w).alloc (Nat.le_refl _) _).alloc (by simp) _⟩
set_option maxRecDepth 100000 in
set_option maxHeartbeats 2000000 in
theorem neg_other (A B : Option Addr) (n m c e : Nat) (xs ys : List Int) (b b2 : Bool) (w : World) (hx : RI w.heap.size w A n xs) (hy : RI w.heap.size w B m ys) :
    Calls Tryz.prog 68 #[.agg #[.bool b, .slice A n c], .agg #[.bool b2, .slice B m e]] w fun e w' => e = .returned (.bool (decide (ordL xs ys < 0) != b)) ∧ Below w.heap.size w w' := by
  have HX := Lib.hid hx
  have HY := Lib.hid hy
  clear hx hy
  go_enter Tryz.func68, Tryz.ntmps68
  go_wp2
  have hB0 : Below w.heap.size w ((w.alloc (.cells #[.bool b, .slice A n c] 65)).alloc (.cells #[.bool b2, .slice B m e] 65)) := ((Below.refl _ w).alloc (Nat.le_refl _) _).alloc (by simp) _
  have h1 : ((w.alloc (.cells #[.bool b, .slice A n c] 65)).alloc (.cells #[.bool b2, .slice B m e] 65)).heap[w.heap.size]? = some (.cells #[.bool b, .slice A n c] 65) := (Below.heap_alloc _ _ _ (by simp)).trans (World.alloc_heap_new w _)
  have h2 : ((w.alloc (.cells #[.bool b, .slice A n c] 65)).alloc (.cells #[.bool b2, .slice B m e] 65)).heap[w.heap.size + 1]? = some (.cells #[.bool b2, .slice B m e] 65) := by
    have := World.alloc_heap_new (w.alloc (.cells #[.bool b, .slice A n c] 65)) (.cells #[.bool b2, .slice B m e] 65)
    rwa [World.size_alloc] at this
  have hsz : ((w.alloc (.cells #[.bool b, .slice A n c] 65)).alloc (.cells #[.bool b2, .slice B m e] 65)).heap.size = w.heap.size + 2 := by simp
  obtain ⟨W0, hW0⟩ : ∃ W0, (w.alloc (.cells #[.bool b, .slice A n c] 65)).alloc (.cells #[.bool b2, .slice B m e] 65) = W0 := ⟨_, rfl⟩
  rw [hW0] at hB0 h1 h2 hsz ⊢
  clear hW0
  have c1 := cellA h1 0 _ rfl
  have c2 := cellA h1 1 _ rfl
  have c3 := cellA h2 1 _ rfl
  have HB0 := Lib.hid hB0
  have Hsz := Lib.hid hsz
  clear h1 h2 hB0 hsz
  have hle : w.heap.size ≤ W0.drew.heap.size := by show w.heap.size ≤ W0.heap.size; have := Hsz.out; omega
  have HXD := Lib.hid ((HX.out.below HB0.out.drew).mono hle)
  have HYD := Lib.hid ((HY.out.below HB0.out.drew).mono hle)
  have hlt1 : w.heap.size < W0.drew.heap.size := by show w.heap.size < W0.heap.size; have := Hsz.out; omega
  have hlt2 : w.heap.size + 1 < W0.drew.heap.size := by show w.heap.size + 1 < W0.heap.size; have := Hsz.out; omega
  have keepc : ∀ w1, Below W0.drew.heap.size W0.drew w1 → w1.cell? ⟨w.heap.size, 0, none⟩ = some (.bool b) ∧ w1.cell? ⟨w.heap.size, 1, none⟩ = some (.slice A n c) ∧ w1.cell? ⟨w.heap.size + 1, 1, none⟩ = some (.slice B m e) := fun w1 hB =>
    ⟨(hB.cell (p := ⟨w.heap.size, 0, none⟩) hlt1).trans c1, (hB.cell (p := ⟨w.heap.size, 1, none⟩) hlt1).trans c2, (hB.cell (p := ⟨w.heap.size + 1, 1, none⟩) hlt2).trans c3⟩
  have hor := order_any A B n m c e xs ys W0.drew HXD.out HYD.out
  have HKC := Lib.hid keepc
  have HOR := Lib.hid hor
  clear keepc hor
  go_region_held3 (fun w' => w'.cell? ⟨w.heap.size, 0, none⟩ = some (.bool b) ∧ w'.cell? ⟨w.heap.size, 1, none⟩ = some (.slice A n c) ∧ w'.cell? ⟨w.heap.size + 1, 1, none⟩ = some (.slice B m e)) (first | exact ⟨c1, c2, c3⟩ | assumption) (first | (go_at_call 66; refine HOR.out.mono ?_; rintro e w1 ⟨rfl, hB⟩; have kk := HKC.out _ hB; have HBZ := Lib.hid hB))
  all_goals (go_wp2; go_ret; exact ⟨rfl, HB0.out.drew.trans (HBZ.out.mono hle)⟩)
/-- The difference of magnitudes, whichever is the greater. -/
def dfL (xs ys : List Int) : List Int := if ordL xs ys < 0 then mnL ys xs else mnL xs ys
set_option maxRecDepth 100000 in
set_option maxHeartbeats 2000000 in
theorem minus_other (A B : Option Addr) (n m c e : Nat) (xs ys : List Int) (w : World) (hx : RI w.heap.size w A n xs) (hy : RI w.heap.size w B m ys) (hxl : limbs xs) (hyl : limbs ys) (hn : n ≤ 35184372088831) (hm : m ≤ 35184372088831) :
    Calls Tryz.prog 65 #[.slice A n c, .slice B m e] w fun e w' => ∃ A' c', e = .returned (.slice A' (tlen (dfL xs ys) (dfL xs ys).length) c') ∧ ReadsInt w' .i64 A' (dfL xs ys).length (dfL xs ys) ∧ (dfL xs ys).length ≤ c' ∧ c' ≤ 9223372036854775807 ∧ (∀ ad, A' = some ad → w.heap.size ≤ ad.block ∧ ad.block < w'.heap.size) ∧ Below w.heap.size w w' := by
  have HX := Lib.hid hx
  have HY := Lib.hid hy
  have HXl := Lib.hid hxl
  have HYl := Lib.hid hyl
  clear hx hy hxl hyl
  go_enter Tryz.func65, Tryz.ntmps65
  by_cases h : ordL xs ys < 0
  · have hl : Hid (dfL xs ys = mnL ys xs) := by show dfL xs ys = _; rw [dfL, if_pos h]
    have hlen : Hid ((mnL ys xs).length ≤ 35184372088831) := by show _ ≤ _; rw [mnL, mnF_len, HY.out.1]; exact hm
    go_wp2_with (first
      | (go_at_call 66; refine (order_any _ _ _ _ _ _ xs ys _ HX.out HY.out).mono ?_; rintro e w1 ⟨rfl, hB⟩; have HB := Lib.hid hB; have hsz := hB.size; clear hB)
      | (go_at_call 67; refine (minus_walk _ _ _ _ _ _ ys xs w1 ((HY.out.below HB.out).mono hsz) ((HX.out.below HB.out).mono hsz) HYl.out HXl.out hm hn).mono ?_; rintro e w2 ⟨rfl, hR, hB2⟩; have HR := Lib.hid hR; have HB2 := Lib.hid hB2; clear hR hB2))
    go_ret
    refine ⟨_, _, by rw [hl.out]; rfl, by rw [hl.out]; exact rowd_reads HR.out (by have := hlen.out; omega), by rw [hl.out]; exact Nat.le_refl _, by have := hlen.out; omega, fun ad e => ?_, HB.out.trans (HB2.out.mono hsz)⟩
    cases e
    exact ⟨hsz, HR.out.lt⟩
  · have hl : Hid (dfL xs ys = mnL xs ys) := by show dfL xs ys = _; rw [dfL, if_neg h]
    have hlen : Hid ((mnL xs ys).length ≤ 35184372088831) := by show _ ≤ _; rw [mnL, mnF_len, HX.out.1]; exact hn
    go_wp2_with (first
      | (go_at_call 66; refine (order_any _ _ _ _ _ _ xs ys _ HX.out HY.out).mono ?_; rintro e w1 ⟨rfl, hB⟩; have HB := Lib.hid hB; have hsz := hB.size; clear hB)
      | (go_at_call 67; refine (minus_walk _ _ _ _ _ _ xs ys w1 ((HX.out.below HB.out).mono hsz) ((HY.out.below HB.out).mono hsz) HXl.out HYl.out hn hm).mono ?_; rintro e w2 ⟨rfl, hR, hB2⟩; have HR := Lib.hid hR; have HB2 := Lib.hid hB2; clear hR hB2))
    go_ret
    refine ⟨_, _, by rw [hl.out]; rfl, by rw [hl.out]; exact rowd_reads HR.out (by have := hlen.out; omega), by rw [hl.out]; exact Nat.le_refl _, by have := hlen.out; omega, fun ad e => ?_, HB.out.trans (HB2.out.mono hsz)⟩
    cases e
    exact ⟨hsz, HR.out.lt⟩
end Go.Proofs.YtnagmogjhfdmlaaGreatDoor
namespace Go.Proofs.YtnagmogjhfdmlaaGreatDoor
open Go.RowKit Go.Shelf Go.Proofs.YtnagmogjhfdmlaaGreatDoorW.PrintWords
set_option maxRecDepth 100000 in
set_option maxHeartbeats 1000000 in
theorem operations_walk (w : World) :
    Calls Tryz.prog 50 #[] w fun e w' => e = .returned (.agg #[.func (.func 63) #[] #[], .func (.func 64) #[] #[], .func (.func 65) #[] #[], .func (.func 68) #[] #[]]) ∧ Below w.heap.size w w' := by
  go_enter Tryz.func50, Tryz.ntmps50
  have HB0 := fun t => World.alloc_heap_new w (.cells #[.nilFunc, .nilFunc, .nilFunc, .nilFunc] t)
  have hst := fun (a : Addr) (f : Fn) (w' : World) => run_store Tryz.prog w' a (.func f #[] #[]) .plain rfl
  have c0 := fun t => cellA (HB0 t) 0 _ rfl
  have c1 := fun t => cellA (HB0 t) 1 _ rfl
  have c2 := fun t => cellA (HB0 t) 2 _ rfl
  have c3 := fun t => cellA (HB0 t) 3 _ rfl
  have f0 := fun t => frozen_at (HB0 t)
  clear HB0
  go_wp2
  refine bodyPost_ret (results_cell_row rfl _ _ w.heap.size _ _ (0, 0) _ rfl (World.alloc_heap_new w _) Tryz.underlying79 rfl (by kernel_rfl)) rfl ?_
  exact ⟨rfl, (Below.refl _ w).alloc (Nat.le_refl _) _⟩
end Go.Proofs.YtnagmogjhfdmlaaGreatDoor
namespace Go.Proofs.YtnagmogjhfdmlaaGreatDoor
open Go.RowKit Go.Shelf Go.Proofs.YtnagmogjhfdmlaaGreatDoorW.PrintWords
theorem plL_le (xs ys : List Int) (K : Nat) (hx : xs.length ≤ K) (hy : ys.length ≤ K) : (plL xs ys).length ≤ K + 1 := by
  unfold plL
  split <;> rw [plF_len] <;> omega
theorem cell_far {W : World} {p q : Addr} (v : Value) (h : p.block ≠ q.block) : (W.setCell p v).cell? q = W.cell? q := World.cell?_of_block (Below.heap_setCell W p v q.block (fun e => h e.symm))
set_option maxRecDepth 100000 in
set_option maxHeartbeats 2000000 in
theorem sum_same (A B : Option Addr) (n m c e : Nat) (xs ys : List Int) (b : Bool) (w : World) (hx : RI w.heap.size w A n xs) (hy : RI w.heap.size w B m ys) (hxl : limbs xs) (hyl : limbs ys) (hn : n ≤ 35184372088831) (hm : m ≤ 35184372088831) :
    Calls Tryz.prog 44 #[.agg #[.bool b, .slice A n c], .agg #[.bool b, .slice B m e]] w fun e w' => ∃ A' c', e = .returned (.agg #[.bool b, .slice A' (tlen (plL xs ys) (plL xs ys).length) c']) ∧ ReadsInt w' .i64 A' (plL xs ys).length (plL xs ys) ∧ (plL xs ys).length ≤ c' ∧ c' ≤ 9223372036854775807 ∧ (∀ ad, A' = some ad → w.heap.size ≤ ad.block ∧ ad.block < w'.heap.size) ∧ Below w.heap.size w w' := by
  have HPL := Lib.hid (plL_le xs ys 35184372088831 (by rw [hx.1]; exact hn) (by rw [hy.1]; exact hm))
  have HX := Lib.hid hx
  have HY := Lib.hid hy
  have HXl := Lib.hid hxl
  have HYl := Lib.hid hyl
  clear hx hy hxl hyl
  have hst := fun (a : Addr) (f : Fn) (w' : World) => run_store Tryz.prog w' a (.func f #[] #[]) .plain rfl
  have c0 := fun (W : World) t => cellA (World.alloc_heap_new W (.cells #[.nilFunc, .nilFunc] t)) 0 _ rfl
  have c1 := fun (W : World) t => cellA (World.alloc_heap_new W (.cells #[.nilFunc, .nilFunc] t)) 1 _ rfl
  have f0 := fun (W : World) t => frozen_at (World.alloc_heap_new W (.cells #[.nilFunc, .nilFunc] t))
  have hix := fun (f g h k : Value) (w' : World) => show (Instr.index 79 (.agg #[f, g, h, k]) (.int .i64 0)).run Tryz.prog w' = .ok (.agg #[f, g]) w' by
    simp [Instr.index, asIntOf, part, run_underlying Tryz.underlying79, go_sem, Tryz.isAgg78, Tryz.sizeOf78]
  go_enter Tryz.func44, Tryz.ntmps44
  go_wp2_with (go_at_call 50; refine (operations_walk _).mono ?_; rintro e w1 ⟨rfl, hB⟩; have HB := Lib.hid hB; clear hB)
  have hx0 : (((w.alloc (.cells #[.bool b, .slice A n c] 65)).alloc (.cells #[.bool b, .slice B m e] 65)).alloc (.cells #[.bool false, .slice none 0 0] 65)).heap[w.heap.size]? = some (.cells #[.bool b, .slice A n c] 65) := (Below.heap_alloc _ _ _ (by simp; omega)).trans ((Below.heap_alloc _ _ _ (by simp)).trans (World.alloc_heap_new w _))
  have hx1 : (((w.alloc (.cells #[.bool b, .slice A n c] 65)).alloc (.cells #[.bool b, .slice B m e] 65)).alloc (.cells #[.bool false, .slice none 0 0] 65)).heap[w.heap.size + 1]? = some (.cells #[.bool b, .slice B m e] 65) := (Below.heap_alloc _ _ _ (by simp)).trans (by have := World.alloc_heap_new (w.alloc (.cells #[.bool b, .slice A n c] 65)) (.cells #[.bool b, .slice B m e] 65); rwa [World.size_alloc] at this)
  have hx2 : (((w.alloc (.cells #[.bool b, .slice A n c] 65)).alloc (.cells #[.bool b, .slice B m e] 65)).alloc (.cells #[.bool false, .slice none 0 0] 65)).heap[w.heap.size + 1 + 1]? = some (.cells #[.bool false, .slice none 0 0] 65) := by have := World.alloc_heap_new ((w.alloc (.cells #[.bool b, .slice A n c] 65)).alloc (.cells #[.bool b, .slice B m e] 65)) (.cells #[.bool false, .slice none 0 0] 65); rwa [World.size_alloc, World.size_alloc] at this
  have hBa : Below w.heap.size w (((w.alloc (.cells #[.bool b, .slice A n c] 65)).alloc (.cells #[.bool b, .slice B m e] 65)).alloc (.cells #[.bool false, .slice none 0 0] 65)) := (((Below.refl _ w).alloc (Nat.le_refl _) _).alloc (by simp) _).alloc (by simp; omega) _
  have hsa : (((w.alloc (.cells #[.bool b, .slice A n c] 65)).alloc (.cells #[.bool b, .slice B m e] 65)).alloc (.cells #[.bool false, .slice none 0 0] 65)).heap.size = w.heap.size + 3 := by simp
  have hs1 := HB.out.size
  obtain ⟨W5, hW5⟩ : ∃ W5, w1.alloc (.cells #[.func (.func 63) #[] #[], .func (.func 64) #[] #[]] 78) = W5 := ⟨_, rfl⟩
  have hy0 : W5.heap[w.heap.size]? = some (.cells #[.bool b, .slice A n c] 65) := by rw [← hW5]; exact (Below.heap_alloc _ _ _ (by omega)).trans ((HB.out.block _ (by omega)).trans hx0)
  have hy1 : W5.heap[w.heap.size + 1]? = some (.cells #[.bool b, .slice B m e] 65) := by rw [← hW5]; exact (Below.heap_alloc _ _ _ (by omega)).trans ((HB.out.block _ (by omega)).trans hx1)
  have hy2 : W5.heap[w.heap.size + 1 + 1]? = some (.cells #[.bool false, .slice none 0 0] 65) := by rw [← hW5]; exact (Below.heap_alloc _ _ _ (by omega)).trans ((HB.out.block _ (by omega)).trans hx2)
  have hy3 : W5.heap[w1.heap.size]? = some (.cells #[.func (.func 63) #[] #[], .func (.func 64) #[] #[]] 78) := by rw [← hW5]; exact World.alloc_heap_new w1 _
  have hB5 : Below w.heap.size w W5 := by rw [← hW5]; exact (hBa.trans (HB.out.mono (by omega))).alloc (by omega) _
  have hs5 : w1.heap.size < W5.heap.size := by rw [← hW5]; simp
  rw [hW5]
  clear hx0 hx1 hx2 hBa hW5 hst c0 c1 f0 hix
  have k5 : W5.cell? ⟨w.heap.size, 0, none⟩ = some (.bool b) ∧ W5.cell? ⟨w.heap.size, 1, none⟩ = some (.slice A n c) ∧ W5.cell? ⟨w.heap.size + 1, 0, none⟩ = some (.bool b) ∧ W5.cell? ⟨w.heap.size + 1, 1, none⟩ = some (.slice B m e) ∧ W5.cell? ⟨w1.heap.size, 0, none⟩ = some (.func (.func 63) #[] #[]) ∧ W5.cell? ⟨w1.heap.size, 1, none⟩ = some (.func (.func 64) #[] #[]) := ⟨cellA hy0 0 _ rfl, cellA hy0 1 _ rfl, cellA hy1 0 _ rfl, cellA hy1 1 _ rfl, cellA hy3 0 _ rfl, cellA hy3 1 _ rfl⟩
  have keepc : ∀ v1 v2 : World, w1.heap.size < v1.heap.size → Below v1.heap.size v1 v2 → (v1.cell? ⟨w.heap.size, 0, none⟩ = some (.bool b) ∧ v1.cell? ⟨w.heap.size, 1, none⟩ = some (.slice A n c) ∧ v1.cell? ⟨w.heap.size + 1, 0, none⟩ = some (.bool b) ∧ v1.cell? ⟨w.heap.size + 1, 1, none⟩ = some (.slice B m e) ∧ v1.cell? ⟨w1.heap.size, 0, none⟩ = some (.func (.func 63) #[] #[]) ∧ v1.cell? ⟨w1.heap.size, 1, none⟩ = some (.func (.func 64) #[] #[])) → v2.cell? ⟨w.heap.size, 0, none⟩ = some (.bool b) ∧ v2.cell? ⟨w.heap.size, 1, none⟩ = some (.slice A n c) ∧ v2.cell? ⟨w.heap.size + 1, 0, none⟩ = some (.bool b) ∧ v2.cell? ⟨w.heap.size + 1, 1, none⟩ = some (.slice B m e) ∧ v2.cell? ⟨w1.heap.size, 0, none⟩ = some (.func (.func 63) #[] #[]) ∧ v2.cell? ⟨w1.heap.size, 1, none⟩ = some (.func (.func 64) #[] #[]) := fun v1 v2 hl hB ⟨a1, a2, a3, a4, a5, a6⟩ =>
    ⟨(hB.cell (p := ⟨w.heap.size, 0, none⟩) (by show w.heap.size < _; omega)).trans a1, (hB.cell (p := ⟨w.heap.size, 1, none⟩) (by show w.heap.size < _; omega)).trans a2, (hB.cell (p := ⟨w.heap.size + 1, 0, none⟩) (by show w.heap.size + 1 < _; omega)).trans a3, (hB.cell (p := ⟨w.heap.size + 1, 1, none⟩) (by show w.heap.size + 1 < _; omega)).trans a4, (hB.cell (p := ⟨w1.heap.size, 0, none⟩) hl).trans a5, (hB.cell (p := ⟨w1.heap.size, 1, none⟩) hl).trans a6⟩
  have HKC := Lib.hid keepc
  have keeps : ∀ (v1 : World) (u v : Value), (v1.cell? ⟨w.heap.size, 0, none⟩ = some (.bool b) ∧ v1.cell? ⟨w.heap.size, 1, none⟩ = some (.slice A n c) ∧ v1.cell? ⟨w.heap.size + 1, 0, none⟩ = some (.bool b) ∧ v1.cell? ⟨w.heap.size + 1, 1, none⟩ = some (.slice B m e) ∧ v1.cell? ⟨w1.heap.size, 0, none⟩ = some (.func (.func 63) #[] #[]) ∧ v1.cell? ⟨w1.heap.size, 1, none⟩ = some (.func (.func 64) #[] #[])) → ((v1.setCell ⟨w.heap.size + 1 + 1, 0, none⟩ u).setCell ⟨w.heap.size + 1 + 1, 1, none⟩ v).cell? ⟨w.heap.size, 0, none⟩ = some (.bool b) ∧ ((v1.setCell ⟨w.heap.size + 1 + 1, 0, none⟩ u).setCell ⟨w.heap.size + 1 + 1, 1, none⟩ v).cell? ⟨w.heap.size, 1, none⟩ = some (.slice A n c) ∧ ((v1.setCell ⟨w.heap.size + 1 + 1, 0, none⟩ u).setCell ⟨w.heap.size + 1 + 1, 1, none⟩ v).cell? ⟨w.heap.size + 1, 0, none⟩ = some (.bool b) ∧ ((v1.setCell ⟨w.heap.size + 1 + 1, 0, none⟩ u).setCell ⟨w.heap.size + 1 + 1, 1, none⟩ v).cell? ⟨w.heap.size + 1, 1, none⟩ = some (.slice B m e) ∧ ((v1.setCell ⟨w.heap.size + 1 + 1, 0, none⟩ u).setCell ⟨w.heap.size + 1 + 1, 1, none⟩ v).cell? ⟨w1.heap.size, 0, none⟩ = some (.func (.func 63) #[] #[]) ∧ ((v1.setCell ⟨w.heap.size + 1 + 1, 0, none⟩ u).setCell ⟨w.heap.size + 1 + 1, 1, none⟩ v).cell? ⟨w1.heap.size, 1, none⟩ = some (.func (.func 64) #[] #[]) := fun v1 u v ⟨a1, a2, a3, a4, a5, a6⟩ =>
    have h (q : Addr) (hq : w.heap.size + 1 + 1 ≠ q.block) : ((v1.setCell ⟨w.heap.size + 1 + 1, 0, none⟩ u).setCell ⟨w.heap.size + 1 + 1, 1, none⟩ v).cell? q = v1.cell? q := (cell_far _ hq).trans (cell_far _ hq)
    ⟨(h _ (by show w.heap.size + 1 + 1 ≠ w.heap.size; omega)).trans a1, (h _ (by show w.heap.size + 1 + 1 ≠ w.heap.size; omega)).trans a2, (h _ (by show w.heap.size + 1 + 1 ≠ w.heap.size + 1; omega)).trans a3, (h _ (by show w.heap.size + 1 + 1 ≠ w.heap.size + 1; omega)).trans a4, (h _ (by show w.heap.size + 1 + 1 ≠ w1.heap.size; omega)).trans a5, (h _ (by show w.heap.size + 1 + 1 ≠ w1.heap.size; omega)).trans a6⟩
  have HKS := Lib.hid keeps
  have kd : W5.drew.cell? ⟨w.heap.size, 0, none⟩ = some (.bool b) ∧ W5.drew.cell? ⟨w.heap.size, 1, none⟩ = some (.slice A n c) ∧ W5.drew.cell? ⟨w.heap.size + 1, 0, none⟩ = some (.bool b) ∧ W5.drew.cell? ⟨w.heap.size + 1, 1, none⟩ = some (.slice B m e) ∧ W5.drew.cell? ⟨w1.heap.size, 0, none⟩ = some (.func (.func 63) #[] #[]) ∧ W5.drew.cell? ⟨w1.heap.size, 1, none⟩ = some (.func (.func 64) #[] #[]) := k5
  have hs5d : w1.heap.size < W5.drew.heap.size := hs5
  have hzd : W5.drew.heap[w.heap.size + 1 + 1]? = some (.cells #[.bool false, .slice none 0 0] 65) := hy2
  have HZ := Lib.hid hzd
  have HBD := Lib.hid hB5.drew
  have hne : ¬ w1.heap.size = w.heap.size + 1 + 1 := by omega
  clear hy0 hy1 hy2 hy3 keepc keeps hB5 hzd
  go_region_held3 (fun w' => w'.cell? ⟨w.heap.size, 0, none⟩ = some (.bool b) ∧ w'.cell? ⟨w.heap.size, 1, none⟩ = some (.slice A n c) ∧ w'.cell? ⟨w.heap.size + 1, 0, none⟩ = some (.bool b) ∧ w'.cell? ⟨w.heap.size + 1, 1, none⟩ = some (.slice B m e) ∧ w'.cell? ⟨w1.heap.size, 0, none⟩ = some (.func (.func 63) #[] #[]) ∧ w'.cell? ⟨w1.heap.size, 1, none⟩ = some (.func (.func 64) #[] #[])) (first | assumption | exact HKS.out _ _ _ (by assumption)) (first
    | (go_at_call 64; refine (neg_same A B n m c e b b W5.drew).mono ?_; rintro e w2 ⟨rfl, hB2⟩; have k2 := HKC.out _ _ hs5d hB2 kd; have HB2 := Lib.hid hB2; have hs2 := hB2.size; clear hB2)
    | (go_at_call 63; refine (plus_walk A B n m c e xs ys w2 ((HX.out.below (HBD.out.trans (HB2.out.mono (by omega)))).mono (by omega)) ((HY.out.below (HBD.out.trans (HB2.out.mono (by omega)))).mono (by omega)) HXl.out HYl.out hn hm).mono ?_; rintro e w3 ⟨rfl, hR3, hB3⟩; have k3 := HKC.out _ _ (by omega) hB3 k2; have hb4 := (hB3.block (w.heap.size + 1 + 1) (by omega)).trans ((HB2.out.block (w.heap.size + 1 + 1) (by omega)).trans HZ.out); have z0 := cellA hb4 0 _ rfl; have z1 := cellA hb4 1 _ rfl; have y0 := frozen_at hb4 0; have y1 := frozen_at hb4 1; have HR3 := Lib.hid hR3; have HB3 := Lib.hid hB3; have HB4 := Lib.hid hb4; clear hR3 hB3 hb4))
  all_goals (
    go_wp2
    refine bodyPost_ret (results_cell_row rfl _ _ (w.heap.size + 1 + 1) 65 #[.bool b, .slice (some ⟨w2.heap.size, 0, none⟩) (tlen (plL xs ys) (plL xs ys).length) (plL xs ys).length] (0, 0) _ rfl (blk_put (cs := #[.bool b, .slice none 0 0]) (blk_put (cs := #[.bool false, .slice none 0 0]) HB4.out 0 _ rfl) 1 _ rfl) Tryz.underlying65 rfl (by kernel_rfl)) rfl ?_
    have hpl := HPL.out
    have hbw := HBD.out.trans ((HB2.out.mono (by omega)).trans (HB3.out.mono (by omega)))
    have hlt := HR3.out.lt
    refine ⟨_, _, rfl, reads_set (reads_set (rowd_reads HR3.out (by omega)) _ (fun ad e => ?_)) _ (fun ad e => ?_), Nat.le_refl _, by omega, fun ad e => ?_, (hbw.setCell (p := ⟨w.heap.size + 1 + 1, 0, none⟩) (by show w.heap.size ≤ w.heap.size + 1 + 1; omega) _).setCell (p := ⟨w.heap.size + 1 + 1, 1, none⟩) (by show w.heap.size ≤ w.heap.size + 1 + 1; omega) _⟩
    · cases e; show w.heap.size + 1 + 1 ≠ w2.heap.size; omega
    · cases e; show w.heap.size + 1 + 1 ≠ w2.heap.size; omega
    · cases e; simp only [World.setCell, Array.size_modify]; omega)
end Go.Proofs.YtnagmogjhfdmlaaGreatDoor
namespace Go.Proofs.YtnagmogjhfdmlaaGreatDoor
open Go.RowKit Go.Shelf Go.Proofs.YtnagmogjhfdmlaaGreatDoorW.PrintWords
theorem dfL_le (xs ys : List Int) (K : Nat) (hx : xs.length ≤ K) (hy : ys.length ≤ K) : (dfL xs ys).length ≤ K := by
  unfold dfL mnL
  split <;> rw [mnF_len] <;> omega
set_option maxRecDepth 100000 in
set_option maxHeartbeats 2000000 in
theorem sum_other (A B : Option Addr) (n m c e : Nat) (xs ys : List Int) (b : Bool) (w : World) (hx : RI w.heap.size w A n xs) (hy : RI w.heap.size w B m ys) (hxl : limbs xs) (hyl : limbs ys) (hn : n ≤ 35184372088831) (hm : m ≤ 35184372088831) :
    Calls Tryz.prog 44 #[.agg #[.bool b, .slice A n c], .agg #[.bool (!b), .slice B m e]] w fun e w' => ∃ A' c', e = .returned (.agg #[.bool (decide (ordL xs ys < 0) != b), .slice A' (tlen (dfL xs ys) (dfL xs ys).length) c']) ∧ ReadsInt w' .i64 A' (dfL xs ys).length (dfL xs ys) ∧ (dfL xs ys).length ≤ c' ∧ c' ≤ 9223372036854775807 ∧ (∀ ad, A' = some ad → w.heap.size ≤ ad.block ∧ ad.block < w'.heap.size) ∧ Below w.heap.size w w' := by
  have HPL := Lib.hid (dfL_le xs ys 35184372088831 (by rw [hx.1]; exact hn) (by rw [hy.1]; exact hm))
  have HX := Lib.hid hx
  have HY := Lib.hid hy
  have HXl := Lib.hid hxl
  have HYl := Lib.hid hyl
  clear hx hy hxl hyl
  have hst := fun (a : Addr) (f : Fn) (w' : World) => run_store Tryz.prog w' a (.func f #[] #[]) .plain rfl
  have c0 := fun (W : World) t => cellA (World.alloc_heap_new W (.cells #[.nilFunc, .nilFunc] t)) 0 _ rfl
  have c1 := fun (W : World) t => cellA (World.alloc_heap_new W (.cells #[.nilFunc, .nilFunc] t)) 1 _ rfl
  have f0 := fun (W : World) t => frozen_at (World.alloc_heap_new W (.cells #[.nilFunc, .nilFunc] t))
  have hix := fun (f g h k : Value) (w' : World) => show (Instr.index 79 (.agg #[f, g, h, k]) (.int .i64 1)).run Tryz.prog w' = .ok (.agg #[h, k]) w' by
    simp [Instr.index, asIntOf, part, run_underlying Tryz.underlying79, go_sem, Tryz.isAgg78, Tryz.sizeOf78]
  go_enter Tryz.func44, Tryz.ntmps44
  go_wp2_with (go_at_call 50; refine (operations_walk _).mono ?_; rintro e w1 ⟨rfl, hB⟩; have HB := Lib.hid hB; clear hB)
  have hx0 : (((w.alloc (.cells #[.bool b, .slice A n c] 65)).alloc (.cells #[.bool (!b), .slice B m e] 65)).alloc (.cells #[.bool false, .slice none 0 0] 65)).heap[w.heap.size]? = some (.cells #[.bool b, .slice A n c] 65) := (Below.heap_alloc _ _ _ (by simp; omega)).trans ((Below.heap_alloc _ _ _ (by simp)).trans (World.alloc_heap_new w _))
  have hx1 : (((w.alloc (.cells #[.bool b, .slice A n c] 65)).alloc (.cells #[.bool (!b), .slice B m e] 65)).alloc (.cells #[.bool false, .slice none 0 0] 65)).heap[w.heap.size + 1]? = some (.cells #[.bool (!b), .slice B m e] 65) := (Below.heap_alloc _ _ _ (by simp)).trans (by have := World.alloc_heap_new (w.alloc (.cells #[.bool b, .slice A n c] 65)) (.cells #[.bool (!b), .slice B m e] 65); rwa [World.size_alloc] at this)
  have hx2 : (((w.alloc (.cells #[.bool b, .slice A n c] 65)).alloc (.cells #[.bool (!b), .slice B m e] 65)).alloc (.cells #[.bool false, .slice none 0 0] 65)).heap[w.heap.size + 1 + 1]? = some (.cells #[.bool false, .slice none 0 0] 65) := by have := World.alloc_heap_new ((w.alloc (.cells #[.bool b, .slice A n c] 65)).alloc (.cells #[.bool (!b), .slice B m e] 65)) (.cells #[.bool false, .slice none 0 0] 65); rwa [World.size_alloc, World.size_alloc] at this
  have hBa : Below w.heap.size w (((w.alloc (.cells #[.bool b, .slice A n c] 65)).alloc (.cells #[.bool (!b), .slice B m e] 65)).alloc (.cells #[.bool false, .slice none 0 0] 65)) := (((Below.refl _ w).alloc (Nat.le_refl _) _).alloc (by simp) _).alloc (by simp; omega) _
  have hsa : (((w.alloc (.cells #[.bool b, .slice A n c] 65)).alloc (.cells #[.bool (!b), .slice B m e] 65)).alloc (.cells #[.bool false, .slice none 0 0] 65)).heap.size = w.heap.size + 3 := by simp
  have hs1 := HB.out.size
  obtain ⟨W5, hW5⟩ : ∃ W5, w1.alloc (.cells #[.func (.func 65) #[] #[], .func (.func 68) #[] #[]] 78) = W5 := ⟨_, rfl⟩
  have hy0 : W5.heap[w.heap.size]? = some (.cells #[.bool b, .slice A n c] 65) := by rw [← hW5]; exact (Below.heap_alloc _ _ _ (by omega)).trans ((HB.out.block _ (by omega)).trans hx0)
  have hy1 : W5.heap[w.heap.size + 1]? = some (.cells #[.bool (!b), .slice B m e] 65) := by rw [← hW5]; exact (Below.heap_alloc _ _ _ (by omega)).trans ((HB.out.block _ (by omega)).trans hx1)
  have hy2 : W5.heap[w.heap.size + 1 + 1]? = some (.cells #[.bool false, .slice none 0 0] 65) := by rw [← hW5]; exact (Below.heap_alloc _ _ _ (by omega)).trans ((HB.out.block _ (by omega)).trans hx2)
  have hy3 : W5.heap[w1.heap.size]? = some (.cells #[.func (.func 65) #[] #[], .func (.func 68) #[] #[]] 78) := by rw [← hW5]; exact World.alloc_heap_new w1 _
  have hB5 : Below w.heap.size w W5 := by rw [← hW5]; exact (hBa.trans (HB.out.mono (by omega))).alloc (by omega) _
  have hs5 : w1.heap.size < W5.heap.size := by rw [← hW5]; simp
  rw [hW5]
  clear hx0 hx1 hx2 hBa hW5 hst c0 c1 f0 hix
  have k5 : W5.cell? ⟨w.heap.size, 0, none⟩ = some (.bool b) ∧ W5.cell? ⟨w.heap.size, 1, none⟩ = some (.slice A n c) ∧ W5.cell? ⟨w.heap.size + 1, 0, none⟩ = some (.bool (!b)) ∧ W5.cell? ⟨w.heap.size + 1, 1, none⟩ = some (.slice B m e) ∧ W5.cell? ⟨w1.heap.size, 0, none⟩ = some (.func (.func 65) #[] #[]) ∧ W5.cell? ⟨w1.heap.size, 1, none⟩ = some (.func (.func 68) #[] #[]) := ⟨cellA hy0 0 _ rfl, cellA hy0 1 _ rfl, cellA hy1 0 _ rfl, cellA hy1 1 _ rfl, cellA hy3 0 _ rfl, cellA hy3 1 _ rfl⟩
  have keepc : ∀ v1 v2 : World, w1.heap.size < v1.heap.size → Below v1.heap.size v1 v2 → (v1.cell? ⟨w.heap.size, 0, none⟩ = some (.bool b) ∧ v1.cell? ⟨w.heap.size, 1, none⟩ = some (.slice A n c) ∧ v1.cell? ⟨w.heap.size + 1, 0, none⟩ = some (.bool (!b)) ∧ v1.cell? ⟨w.heap.size + 1, 1, none⟩ = some (.slice B m e) ∧ v1.cell? ⟨w1.heap.size, 0, none⟩ = some (.func (.func 65) #[] #[]) ∧ v1.cell? ⟨w1.heap.size, 1, none⟩ = some (.func (.func 68) #[] #[])) → v2.cell? ⟨w.heap.size, 0, none⟩ = some (.bool b) ∧ v2.cell? ⟨w.heap.size, 1, none⟩ = some (.slice A n c) ∧ v2.cell? ⟨w.heap.size + 1, 0, none⟩ = some (.bool (!b)) ∧ v2.cell? ⟨w.heap.size + 1, 1, none⟩ = some (.slice B m e) ∧ v2.cell? ⟨w1.heap.size, 0, none⟩ = some (.func (.func 65) #[] #[]) ∧ v2.cell? ⟨w1.heap.size, 1, none⟩ = some (.func (.func 68) #[] #[]) := fun v1 v2 hl hB ⟨a1, a2, a3, a4, a5, a6⟩ =>
    ⟨(hB.cell (p := ⟨w.heap.size, 0, none⟩) (by show w.heap.size < _; omega)).trans a1, (hB.cell (p := ⟨w.heap.size, 1, none⟩) (by show w.heap.size < _; omega)).trans a2, (hB.cell (p := ⟨w.heap.size + 1, 0, none⟩) (by show w.heap.size + 1 < _; omega)).trans a3, (hB.cell (p := ⟨w.heap.size + 1, 1, none⟩) (by show w.heap.size + 1 < _; omega)).trans a4, (hB.cell (p := ⟨w1.heap.size, 0, none⟩) hl).trans a5, (hB.cell (p := ⟨w1.heap.size, 1, none⟩) hl).trans a6⟩
  have HKC := Lib.hid keepc
  have keeps : ∀ (v1 : World) (u v : Value), (v1.cell? ⟨w.heap.size, 0, none⟩ = some (.bool b) ∧ v1.cell? ⟨w.heap.size, 1, none⟩ = some (.slice A n c) ∧ v1.cell? ⟨w.heap.size + 1, 0, none⟩ = some (.bool (!b)) ∧ v1.cell? ⟨w.heap.size + 1, 1, none⟩ = some (.slice B m e) ∧ v1.cell? ⟨w1.heap.size, 0, none⟩ = some (.func (.func 65) #[] #[]) ∧ v1.cell? ⟨w1.heap.size, 1, none⟩ = some (.func (.func 68) #[] #[])) → ((v1.setCell ⟨w.heap.size + 1 + 1, 0, none⟩ u).setCell ⟨w.heap.size + 1 + 1, 1, none⟩ v).cell? ⟨w.heap.size, 0, none⟩ = some (.bool b) ∧ ((v1.setCell ⟨w.heap.size + 1 + 1, 0, none⟩ u).setCell ⟨w.heap.size + 1 + 1, 1, none⟩ v).cell? ⟨w.heap.size, 1, none⟩ = some (.slice A n c) ∧ ((v1.setCell ⟨w.heap.size + 1 + 1, 0, none⟩ u).setCell ⟨w.heap.size + 1 + 1, 1, none⟩ v).cell? ⟨w.heap.size + 1, 0, none⟩ = some (.bool (!b)) ∧ ((v1.setCell ⟨w.heap.size + 1 + 1, 0, none⟩ u).setCell ⟨w.heap.size + 1 + 1, 1, none⟩ v).cell? ⟨w.heap.size + 1, 1, none⟩ = some (.slice B m e) ∧ ((v1.setCell ⟨w.heap.size + 1 + 1, 0, none⟩ u).setCell ⟨w.heap.size + 1 + 1, 1, none⟩ v).cell? ⟨w1.heap.size, 0, none⟩ = some (.func (.func 65) #[] #[]) ∧ ((v1.setCell ⟨w.heap.size + 1 + 1, 0, none⟩ u).setCell ⟨w.heap.size + 1 + 1, 1, none⟩ v).cell? ⟨w1.heap.size, 1, none⟩ = some (.func (.func 68) #[] #[]) := fun v1 u v ⟨a1, a2, a3, a4, a5, a6⟩ =>
    have h (q : Addr) (hq : w.heap.size + 1 + 1 ≠ q.block) : ((v1.setCell ⟨w.heap.size + 1 + 1, 0, none⟩ u).setCell ⟨w.heap.size + 1 + 1, 1, none⟩ v).cell? q = v1.cell? q := (cell_far _ hq).trans (cell_far _ hq)
    ⟨(h _ (by show w.heap.size + 1 + 1 ≠ w.heap.size; omega)).trans a1, (h _ (by show w.heap.size + 1 + 1 ≠ w.heap.size; omega)).trans a2, (h _ (by show w.heap.size + 1 + 1 ≠ w.heap.size + 1; omega)).trans a3, (h _ (by show w.heap.size + 1 + 1 ≠ w.heap.size + 1; omega)).trans a4, (h _ (by show w.heap.size + 1 + 1 ≠ w1.heap.size; omega)).trans a5, (h _ (by show w.heap.size + 1 + 1 ≠ w1.heap.size; omega)).trans a6⟩
  have HKS := Lib.hid keeps
  have kd : W5.drew.cell? ⟨w.heap.size, 0, none⟩ = some (.bool b) ∧ W5.drew.cell? ⟨w.heap.size, 1, none⟩ = some (.slice A n c) ∧ W5.drew.cell? ⟨w.heap.size + 1, 0, none⟩ = some (.bool (!b)) ∧ W5.drew.cell? ⟨w.heap.size + 1, 1, none⟩ = some (.slice B m e) ∧ W5.drew.cell? ⟨w1.heap.size, 0, none⟩ = some (.func (.func 65) #[] #[]) ∧ W5.drew.cell? ⟨w1.heap.size, 1, none⟩ = some (.func (.func 68) #[] #[]) := k5
  have hs5d : w1.heap.size < W5.drew.heap.size := hs5
  have hzd : W5.drew.heap[w.heap.size + 1 + 1]? = some (.cells #[.bool false, .slice none 0 0] 65) := hy2
  have HZ := Lib.hid hzd
  have HBD := Lib.hid hB5.drew
  have hne : ¬ w1.heap.size = w.heap.size + 1 + 1 := by omega
  clear hy0 hy1 hy2 hy3 keepc keeps hB5 hzd
  go_region_held3 (fun w' => w'.cell? ⟨w.heap.size, 0, none⟩ = some (.bool b) ∧ w'.cell? ⟨w.heap.size, 1, none⟩ = some (.slice A n c) ∧ w'.cell? ⟨w.heap.size + 1, 0, none⟩ = some (.bool (!b)) ∧ w'.cell? ⟨w.heap.size + 1, 1, none⟩ = some (.slice B m e) ∧ w'.cell? ⟨w1.heap.size, 0, none⟩ = some (.func (.func 65) #[] #[]) ∧ w'.cell? ⟨w1.heap.size, 1, none⟩ = some (.func (.func 68) #[] #[])) (first | assumption | exact HKS.out _ _ _ (by assumption)) (first
    | (go_at_call 68; refine (neg_other A B n m c e xs ys b (!b) W5.drew ((HX.out.below HBD.out).mono (by omega)) ((HY.out.below HBD.out).mono (by omega))).mono ?_; rintro e w2 ⟨rfl, hB2⟩; have k2 := HKC.out _ _ hs5d hB2 kd; have HB2 := Lib.hid hB2; have hs2 := hB2.size; clear hB2)
    | (go_at_call 65; refine (minus_other A B n m c e xs ys w2 ((HX.out.below (HBD.out.trans (HB2.out.mono (by omega)))).mono (by omega)) ((HY.out.below (HBD.out.trans (HB2.out.mono (by omega)))).mono (by omega)) HXl.out HYl.out hn hm).mono ?_; rintro e w3 ⟨A3, c3, rfl, hR3, hc3, hc4, hA3, hB3⟩; have k3 := HKC.out _ _ (by omega) hB3 k2; have hb4 := (hB3.block (w.heap.size + 1 + 1) (by omega)).trans ((HB2.out.block (w.heap.size + 1 + 1) (by omega)).trans HZ.out); have z0 := cellA hb4 0 _ rfl; have z1 := cellA hb4 1 _ rfl; have y0 := frozen_at hb4 0; have y1 := frozen_at hb4 1; have HR3 := Lib.hid hR3; have HA3 := Lib.hid hA3; have HB3 := Lib.hid hB3; have HB4 := Lib.hid hb4; clear hR3 hB3 hb4 hA3))
  all_goals (
    go_wp2
    refine bodyPost_ret (results_cell_row rfl _ _ (w.heap.size + 1 + 1) 65 #[.bool (decide (ordL xs ys < 0) != b), .slice A3 (tlen (dfL xs ys) (dfL xs ys).length) c3] (0, 0) _ rfl (blk_put (cs := #[.bool (decide (ordL xs ys < 0) != b), .slice none 0 0]) (blk_put (cs := #[.bool false, .slice none 0 0]) HB4.out 0 _ rfl) 1 _ rfl) Tryz.underlying65 rfl (by kernel_rfl)) rfl ?_
    have hpl := HPL.out
    have hbw := HBD.out.trans ((HB2.out.mono (by omega)).trans (HB3.out.mono (by omega)))
    refine ⟨_, _, rfl, reads_set (reads_set HR3.out _ (fun ad e => ?_)) _ (fun ad e => ?_), hc3, hc4, fun ad e => ?_, (hbw.setCell (p := ⟨w.heap.size + 1 + 1, 0, none⟩) (by show w.heap.size ≤ w.heap.size + 1 + 1; omega) _).setCell (p := ⟨w.heap.size + 1 + 1, 1, none⟩) (by show w.heap.size ≤ w.heap.size + 1 + 1; omega) _⟩
    · have := (HA3.out ad e).1; show w.heap.size + 1 + 1 ≠ ad.block; omega
    · have := (HA3.out ad e).1; show w.heap.size + 1 + 1 ≠ ad.block; omega
    · have := HA3.out ad e; simp only [World.setCell, Array.size_modify]; omega)
end Go.Proofs.YtnagmogjhfdmlaaGreatDoor
namespace Go.Proofs.YtnagmogjhfdmlaaGreatDoor
open Go.Lib (decDigits itoa nDigits)
/-- The value of a list of digits. -/
def dval (l : List UInt8) : Nat := l.foldl (fun n c => n * 10 + (c.toNat - 48)) 0
def isDig (c : UInt8) : Bool := 48 ≤ c.toNat && c.toNat ≤ 57
def allDig (l : List UInt8) : Bool := l.all isDig
theorem dval_from (l : List UInt8) : ∀ n, l.foldl (fun n c => n * 10 + (c.toNat - 48)) n = n * 10 ^ l.length + dval l := by
  unfold dval
  induction l with
  | nil => intro n; simp
  | cons c l ih =>
    intro n
    rw [List.foldl_cons, ih, List.foldl_cons, ih (0 * 10 + (c.toNat - 48)), List.length_cons, Nat.pow_succ]
    generalize 10 ^ l.length = p
    rw [Nat.zero_mul, Nat.zero_add, Nat.add_mul, Nat.mul_assoc, Nat.mul_comm 10 p, Nat.add_assoc]
theorem dval_append (l m : List UInt8) : dval (l ++ m) = dval l * 10 ^ m.length + dval m := by
  unfold dval; rw [List.foldl_append, dval_from]; rfl
theorem dval_snoc (l : List UInt8) (c : UInt8) : dval (l ++ [c]) = dval l * 10 + (c.toNat - 48) := by
  rw [dval_append]; simp [dval]
theorem dval_cons (c : UInt8) (l : List UInt8) : dval (c :: l) = (c.toNat - 48) * 10 ^ l.length + dval l := by
  have := dval_append [c] l; simpa [dval] using this
theorem isDig_iff (c : UInt8) : isDig c = true ↔ 48 ≤ c.toNat ∧ c.toNat ≤ 57 := by simp [isDig]
theorem dval_lt : ∀ (l : List UInt8), allDig l = true → dval l < 10 ^ l.length
  | [], _ => by simp [dval]
  | c :: l, h => by
    simp only [allDig, List.all_cons, Bool.and_eq_true] at h
    have h1 := (isDig_iff c).1 h.1
    have h2 := dval_lt l h.2
    rw [dval_cons, List.length_cons, Nat.pow_succ]
    have : (c.toNat - 48) * 10 ^ l.length ≤ 9 * 10 ^ l.length := Nat.mul_le_mul_right _ (by omega)
    omega
theorem toNat_dig (d : Nat) (h : d < 10) : (UInt8.ofNat (48 + d)).toNat = 48 + d := by
  rw [UInt8.toNat_ofNat']; omega
theorem decDigits_small {u : Nat} (h : u < 10) : decDigits u = [UInt8.ofNat (48 + u)] := by rw [decDigits, dif_pos h]
theorem decDigits_big {u : Nat} (h : ¬ u < 10) : decDigits u = decDigits (u / 10) ++ [UInt8.ofNat (48 + u % 10)] := by rw [decDigits, dif_neg h]
theorem dval_decDigits (u : Nat) : dval (decDigits u) = u := by
  induction u using Nat.strongRecOn with
  | _ u ih =>
    by_cases h : u < 10
    · rw [decDigits_small h]
      have e : dval [UInt8.ofNat (48 + u)] = (UInt8.ofNat (48 + u)).toNat - 48 := by unfold dval; rw [List.foldl_cons, List.foldl_nil]; omega
      rw [e, toNat_dig u h]; omega
    · rw [decDigits_big h, dval_snoc, ih (u / 10) (by omega), toNat_dig _ (Nat.mod_lt _ (by omega))]
      omega
theorem allDig_append (l m : List UInt8) : allDig (l ++ m) = (allDig l && allDig m) := by simp [allDig]
theorem allDig_decDigits (u : Nat) : allDig (decDigits u) = true := by
  induction u using Nat.strongRecOn with
  | _ u ih =>
    by_cases h : u < 10
    · rw [decDigits_small h]
      have := toNat_dig u h
      simp only [allDig, List.all_cons, List.all_nil, Bool.and_true, isDig_iff]; omega
    · rw [decDigits_big h, allDig_append, ih (u / 10) (by omega)]
      have := toNat_dig (u % 10) (Nat.mod_lt _ (by omega))
      simp only [allDig, List.all_cons, List.all_nil, Bool.and_true, Bool.true_and, isDig_iff]; omega
theorem decDigits_ne_nil (u : Nat) : decDigits u ≠ [] := by
  by_cases h : u < 10
  · rw [decDigits_small h]; simp
  · rw [decDigits_big h]; simp
/-- The first digit of a number other than 0 is no 0. -/
theorem decDigits_head (u : Nat) (hu : u ≠ 0) : ∃ c l, decDigits u = c :: l ∧ 49 ≤ c.toNat ∧ c.toNat ≤ 57 := by
  induction u using Nat.strongRecOn with
  | _ u ih =>
    by_cases h : u < 10
    · have := toNat_dig u h
      exact ⟨_, [], decDigits_small h, by omega, by omega⟩
    · obtain ⟨c, l, hc, h1, h2⟩ := ih (u / 10) (by omega) (by omega)
      exact ⟨c, l ++ [UInt8.ofNat (48 + u % 10)], by rw [decDigits_big h, hc]; rfl, h1, h2⟩
/-- A canonical numeral of a number that is not negative. -/
def canonN (l : List UInt8) : Bool := l == [48] || (allDig l && !(l.head? == some 48) && !l.isEmpty)
/-- A canonical numeral. -/
def canon (l : List UInt8) : Bool := match l with
  | 45 :: r => canonN r && !(r == [48])
  | l => canonN l
/-- The value of a canonical numeral. -/
def ival (l : List UInt8) : Int := match l with
  | 45 :: r => -(dval r : Int)
  | l => (dval l : Int)
theorem dval_pos_of_head (c : UInt8) (l : List UInt8) (h : 49 ≤ c.toNat) : 10 ^ l.length ≤ dval (c :: l) := by
  rw [dval_cons]
  have : 1 * 10 ^ l.length ≤ (c.toNat - 48) * 10 ^ l.length := Nat.mul_le_mul_right _ (by omega)
  omega
theorem u8_ext {a b : UInt8} (h : a.toNat = b.toNat) : a = b := UInt8.toNat_inj.1 h
theorem decDigits_snoc (n d : Nat) (hn : n ≠ 0) (hd : d < 10) : decDigits (n * 10 + d) = decDigits n ++ [UInt8.ofNat (48 + d)] := by
  rw [decDigits_big (by omega)]
  congr 2
  · congr 1; omega
  · congr 2; omega
/-- Digits without a 0 in front are the numeral of their value. -/
theorem decDigits_dval (l : List UInt8) (h : allDig l = true) (hh : ∃ c r, l = c :: r ∧ c ≠ 48) : decDigits (dval l) = l := by
  obtain ⟨c, r, rfl, hc⟩ := hh
  have hc' : 49 ≤ c.toNat ∧ c.toNat ≤ 57 := by
    simp only [allDig, List.all_cons, Bool.and_eq_true] at h
    have := (isDig_iff c).1 h.1
    have : c.toNat ≠ 48 := fun e => hc (u8_ext (by simpa using e))
    omega
  clear hc
  suffices H : ∀ (m : List UInt8) (k : Nat), m.length = k → allDig (c :: m) = true → decDigits (dval (c :: m)) = c :: m from H r _ rfl h
  intro m k
  induction k generalizing m with
  | zero =>
    intro hm _
    obtain rfl : m = [] := List.eq_nil_of_length_eq_zero hm
    have e : dval [c] = c.toNat - 48 := by simp [dval]
    rw [e, decDigits_small (by omega)]
    congr 1
    exact u8_ext (by rw [toNat_dig _ (by omega)]; omega)
  | succ k ih =>
    intro hm hd
    have hne : m ≠ [] := by intro e; subst e; simp at hm
    obtain ⟨m', x, rfl⟩ : ∃ m' x, m = m' ++ [x] := ⟨m.dropLast, m.getLast hne, (List.dropLast_concat_getLast hne).symm⟩
    have hd' : allDig (c :: m') = true ∧ allDig [x] = true := by
      rw [← List.cons_append, allDig_append] at hd
      simpa using hd
    have hx : 48 ≤ x.toNat ∧ x.toNat ≤ 57 := by
      have := hd'.2
      simp only [allDig, List.all_cons, List.all_nil, Bool.and_true] at this
      exact (isDig_iff x).1 this
    have hpos := dval_pos_of_head c m' hc'.1
    have hp : 0 < 10 ^ m'.length := Nat.pow_pos (by omega)
    rw [← List.cons_append, dval_snoc, decDigits_snoc _ _ (by omega) (by omega), ih m' (by simp at hm; omega) hd'.1]
    congr 2
    exact u8_ext (by rw [toNat_dig _ (by omega)]; omega)
theorem canonN_decDigits (u : Nat) : canonN (decDigits u) = true := by
  by_cases h : u = 0
  · subst h; rw [decDigits_small (by omega)]; rfl
  · obtain ⟨c, l, hc, h1, h2⟩ := decDigits_head u h
    have hd := allDig_decDigits u
    rw [hc] at hd ⊢
    have : c ≠ 48 := by intro e; subst e; simp at h1
    simp [canonN, hd, this]
theorem decDigits_of_canonN (l : List UInt8) (h : canonN l = true) : decDigits (dval l) = l := by
  unfold canonN at h
  simp only [Bool.or_eq_true, Bool.and_eq_true, beq_iff_eq] at h
  rcases h with rfl | ⟨⟨h1, h2⟩, h3⟩
  · have e : dval [48] = 0 := by simp [dval]
    rw [e, decDigits_small (by omega)]; rfl
  · refine decDigits_dval l h1 ?_
    cases l with
    | nil => simp at h3
    | cons c r => exact ⟨c, r, rfl, by intro e; subst e; simp at h2⟩
theorem decDigits_no_minus (u : Nat) (r : List UInt8) : decDigits u ≠ 45 :: r := by
  intro e
  have := allDig_decDigits u
  rw [e] at this
  simp [allDig, isDig] at this
theorem ival_itoa (n : Int) : ival (itoa n) = n := by
  unfold itoa
  split
  · simp only [ival, dval_decDigits]; omega
  · have hm := decDigits_no_minus n.toNat
    have hv := dval_decDigits n.toNat
    generalize decDigits n.toNat = l at hm hv
    unfold ival
    split
    · exact absurd rfl (hm _)
    · omega
theorem itoa_ival (l : List UInt8) (h : canon l = true) : itoa (ival l) = l := by
  unfold canon at h
  split at h
  · rename_i r
    simp only [Bool.and_eq_true, Bool.not_eq_true', beq_eq_false_iff_ne] at h
    have hd := decDigits_of_canonN r h.1
    have h0 : dval r ≠ 0 := by
      intro e; rw [e, decDigits_small (by omega)] at hd; exact h.2 hd.symm
    have : ival (45 :: r) = -(dval r : Int) := rfl
    rw [this]; unfold itoa
    rw [if_pos (by omega), show (-(dval r : Int)).natAbs = dval r from by omega, hd]
  · rename_i hne
    have e : ival l = (dval l : Int) := by
      unfold ival; split
      · exact absurd rfl (hne _)
      · rfl
    rw [e]; unfold itoa
    rw [if_neg (by omega), show (dval l : Int).toNat = dval l from by omega]
    exact decDigits_of_canonN l h
/-- The canonical integer of a number, as the program has it. -/
def text (n : Int) : ByteArray := ⟨(itoa n).toArray⟩
theorem text_list (n : Int) : (text n).data.toList = itoa n := by simp [text]
theorem text_inj {m n : Int} (h : text m = text n) : m = n := by
  have := congrArg (fun s : ByteArray => ival s.data.toList) h
  simpa [text_list, ival_itoa] using this
theorem bytes_ext {a b : ByteArray} (h : a.data.toList = b.data.toList) : a = b := by
  cases a; cases b; congr 1; exact Array.toList_inj.1 h
theorem text_of_canon (s : ByteArray) (h : canon s.data.toList = true) : ∃ n, s = text n :=
  ⟨ival s.data.toList, bytes_ext (by rw [text_list, itoa_ival _ h])⟩
theorem text_size (n : Int) : (text n).size = (if n < 0 then 1 else 0) + nDigits n.natAbs := by
  have : (text n).size = (itoa n).length := by simp [text, ByteArray.size]
  rw [this]; unfold itoa
  split
  · rw [List.length_cons, Go.Lib.decDigits_length]; omega
  · rw [Go.Lib.decDigits_length]; rw [show n.toNat = n.natAbs from by omega]; omega
end Go.Proofs.YtnagmogjhfdmlaaGreatDoor
namespace Go.Proofs.YtnagmogjhfdmlaaGreatDoor
open Go.RowKit
/-- The value of the lowest k limbs. -/
def pval (xs : List Int) : Nat → Int
  | 0 => 0
  | k + 1 => pval xs k + xs[k]?.getD 0 * 1000000000 ^ k
/-- The value of all limbs. -/
def lval (xs : List Int) : Int := pval xs xs.length
theorem base_pos (k : Nat) : (0 : Int) < 1000000000 ^ k := Int.pow_pos (by omega)
theorem base_succ (k : Nat) : (1000000000 : Int) ^ (k + 1) = 1000000000 * 1000000000 ^ k := by rw [Int.pow_succ, Int.mul_comm]
theorem getD_out (xs : List Int) (k : Nat) (h : xs.length ≤ k) : xs[k]?.getD 0 = 0 := by rw [List.getElem?_eq_none h]; rfl
theorem pval_congr {xs ys : List Int} : ∀ k, (∀ i, i < k → xs[i]?.getD 0 = ys[i]?.getD 0) → pval xs k = pval ys k
  | 0, _ => rfl
  | k + 1, h => by rw [pval, pval, pval_congr k (fun i hi => h i (by omega)), h k (by omega)]
theorem pval_set (xs : List Int) (i : Nat) (v : Int) (k : Nat) (h : k ≤ i) : pval (xs.set i v) k = pval xs k :=
  pval_congr k (fun j hj => by rw [List.getElem?_set_ne (by omega)])
theorem pval_set_last (xs : List Int) (i : Nat) (v : Int) (h : i < xs.length) : pval (xs.set i v) (i + 1) = pval xs i + v * 1000000000 ^ i := by
  rw [pval, pval_set _ _ _ _ (Nat.le_refl _), List.getElem?_set_self h]; rfl
theorem pval_long (xs : List Int) (k : Nat) (h : xs.length ≤ k) : ∀ j, pval xs (k + j) = pval xs k
  | 0 => rfl
  | j + 1 => by rw [← Nat.add_assoc, pval, pval_long xs k h j, getD_out xs (k + j) (by omega)]; omega
theorem pval_all (xs : List Int) (k : Nat) (h : xs.length ≤ k) : pval xs k = lval xs := by
  obtain ⟨j, rfl⟩ : ∃ j, k = xs.length + j := ⟨k - xs.length, by omega⟩
  exact pval_long xs _ (Nat.le_refl _) j
theorem pval_nonneg {xs : List Int} (hx : limbs xs) : ∀ k, 0 ≤ pval xs k
  | 0 => Int.le_refl _
  | k + 1 => by
    have h := Int.mul_nonneg (hx k).1 (Int.le_of_lt (base_pos k))
    have := pval_nonneg hx k
    rw [pval]; omega
theorem pval_lt {xs : List Int} (hx : limbs xs) : ∀ k, pval xs k < 1000000000 ^ k
  | 0 => by simp [pval]
  | k + 1 => by
    have h := pval_lt hx k
    have h2 : xs[k]?.getD 0 * 1000000000 ^ k ≤ 999999999 * 1000000000 ^ k := Int.mul_le_mul_of_nonneg_right (by have := (hx k).2; omega) (Int.le_of_lt (base_pos k))
    rw [pval, base_succ]; omega
theorem lval_nonneg {xs : List Int} (hx : limbs xs) : 0 ≤ lval xs := pval_nonneg hx _
theorem lval_lt {xs : List Int} (hx : limbs xs) : lval xs < 1000000000 ^ xs.length := pval_lt hx _
theorem pval_tlen (xs : List Int) : ∀ n, pval xs (tlen xs n) = pval xs n
  | 0 => rfl
  | n + 1 => by
    unfold tlen
    split
    · rename_i h
      rw [pval_tlen xs n, pval, h]; omega
    · rfl
theorem tlen_top (xs : List Int) : ∀ n, tlen xs n = 0 ∨ xs[tlen xs n - 1]?.getD 0 ≠ 0
  | 0 => Or.inl rfl
  | n + 1 => by
    unfold tlen
    split
    · exact tlen_top xs n
    · rename_i h
      exact Or.inr h
theorem take_getD (xs : List Int) (m i : Nat) (h : i < m) : (xs.take m)[i]?.getD 0 = xs[i]?.getD 0 := by rw [List.getElem?_take_of_lt h]
theorem pval_take (xs : List Int) (m : Nat) : pval (xs.take m) m = pval xs m := pval_congr m (fun i hi => take_getD xs m i hi)
theorem limbs_take {xs : List Int} (hx : limbs xs) (m : Nat) : limbs (xs.take m) := fun i => by
  by_cases h : i < m
  · rw [take_getD xs m i h]; exact hx i
  · rw [getD_out _ _ (by simp; omega)]; omega
theorem tl_len (xs : List Int) : (tl xs).length = tlen xs xs.length := by
  have := tlen_le xs xs.length
  simp [tl]; omega
theorem tl_val (xs : List Int) : lval (tl xs) = lval xs := by
  rw [lval, tl_len, tl, pval_take, pval_tlen]; rfl
theorem tl_limbs {xs : List Int} (hx : limbs xs) : limbs (tl xs) := limbs_take hx _
/-- The highest limb is no 0. -/
def topped (xs : List Int) : Prop := xs.length = 0 ∨ xs[xs.length - 1]?.getD 0 ≠ 0
theorem tl_topped (xs : List Int) : topped (tl xs) := by
  unfold topped
  rw [tl_len]
  rcases tlen_top xs xs.length with h | h
  · exact Or.inl h
  · by_cases h0 : tlen xs xs.length = 0
    · exact Or.inl h0
    · exact Or.inr (by rw [tl, take_getD _ _ _ (by omega)]; exact h)
theorem topped_ge {xs : List Int} (hx : limbs xs) (ht : topped xs) (h : 0 < xs.length) : 1000000000 ^ (xs.length - 1) ≤ lval xs := by
  obtain ⟨n, hn⟩ : ∃ n, xs.length = n + 1 := ⟨xs.length - 1, by omega⟩
  rcases ht with h0 | ht
  · omega
  · rw [lval, hn, pval]
    rw [hn] at ht
    simp only [Nat.add_sub_cancel] at ht ⊢
    have h1 := pval_nonneg hx n
    have h2 := (hx n).1
    have h3 : 1 * 1000000000 ^ n ≤ xs[n]?.getD 0 * 1000000000 ^ n := Int.mul_le_mul_of_nonneg_right (by omega) (Int.le_of_lt (base_pos n))
    omega
theorem base_mono {m n : Nat} (h : m ≤ n) : (1000000000 : Int) ^ m ≤ 1000000000 ^ n := by
  obtain ⟨j, rfl⟩ := Nat.exists_eq_add_of_le h
  rw [Int.pow_add]
  have h1 : (1000000000 : Int) ^ m * 1 ≤ 1000000000 ^ m * 1000000000 ^ j := Int.mul_le_mul_of_nonneg_left (by have := base_pos j; omega) (Int.le_of_lt (base_pos m))
  omega
theorem lval_zero {xs : List Int} (hx : limbs xs) (ht : topped xs) : lval xs = 0 ↔ xs.length = 0 := by
  constructor
  · intro h
    by_cases h0 : xs.length = 0
    · exact h0
    · have := topped_ge hx ht (by omega)
      have := base_pos (xs.length - 1)
      omega
  · intro h; rw [lval, h]; rfl
theorem len_le_of_lval {xs ys : List Int} (hx : limbs xs) (hy : limbs ys) (ht : topped ys) (h : lval ys ≤ lval xs) : ys.length ≤ xs.length := by
  by_cases h0 : ys.length ≤ xs.length
  · exact h0
  · have h1 := topped_ge hy ht (by omega)
    have h2 := lval_lt hx
    have h3 := base_mono (m := xs.length) (n := ys.length - 1) (by omega)
    omega
theorem plS_eq (xs ys : List Int) (k : Nat) (c : Int) : plS xs ys k c = c + xs[k]?.getD 0 + ys[k]?.getD 0 := by
  unfold plS
  by_cases h1 : k < xs.length
  · by_cases h2 : k < ys.length
    · rw [if_pos h1, if_pos h2]
    · rw [if_pos h1, if_neg h2, getD_out ys k (by omega)]
  · by_cases h2 : k < ys.length
    · rw [if_neg h1, if_pos h2, getD_out xs k (by omega)]
    · rw [if_neg h1, if_neg h2, getD_out xs k (by omega), getD_out ys k (by omega)]
theorem carry_law (s p : Int) : s % 1000000000 * p + s / 1000000000 * (1000000000 * p) = s * p := by
  have h : s % 1000000000 + 1000000000 * (s / 1000000000) = s := Int.emod_add_mul_ediv s 1000000000
  have h2 := congrArg (· * p) h
  simp only [Int.add_mul] at h2
  rw [← h2]
  congr 1
  rw [Int.mul_left_comm, Int.mul_assoc]
theorem plF_val (xs ys : List Int) : ∀ k, k ≤ xs.length + 1 → pval (plF xs ys k).1 k + (plF xs ys k).2 * 1000000000 ^ k = pval xs k + pval ys k
  | 0, _ => by simp [plF, pval]
  | k + 1, h => by
    have ih := plF_val xs ys k (by omega)
    have hl := plF_len xs ys k
    have hc := carry_law (plS xs ys k (plF xs ys k).2) (1000000000 ^ k)
    rw [plF, pval_set_last _ _ _ (by omega), base_succ, pval, pval]
    dsimp only
    rw [Int.add_assoc, hc, plS_eq, Int.add_mul, Int.add_mul]
    omega
theorem plF_limbs (xs ys : List Int) : ∀ k, limbs (plF xs ys k).1
  | 0 => fun i => by
    by_cases h : i < xs.length + 1
    · simp [plF, List.getElem?_replicate, h]
    · simp [plF, List.getElem?_replicate, h]
  | k + 1 => fun i => by
    rw [plF]
    dsimp only
    by_cases e : k = i
    · subst e
      by_cases h : k < (plF xs ys k).1.length
      · rw [List.getElem?_set_self h]; simp only [Option.getD_some]; omega
      · rw [List.getElem?_eq_none (by simpa using h)]; simp
    · rw [List.getElem?_set_ne e]; exact plF_limbs xs ys k i
theorem plF_all {xs ys : List Int} (hx : limbs xs) (hy : limbs ys) (hl : ys.length ≤ xs.length) : lval (plF xs ys (xs.length + 1)).1 = lval xs + lval ys := by
  have h := plF_val xs ys (xs.length + 1) (Nat.le_refl _)
  have hc : (plF xs ys (xs.length + 1)).2 = 0 := by
    have := plF_carry hx hy xs.length
    rw [plF]
    dsimp only
    rw [plS_eq, getD_out xs _ (Nat.le_refl _), getD_out ys _ hl]
    omega
  rw [hc, pval_all xs _ (by omega), pval_all ys _ (by omega)] at h
  rw [lval, plF_len]
  omega
theorem plL_val {xs ys : List Int} (hx : limbs xs) (hy : limbs ys) : lval (plL xs ys) = lval xs + lval ys := by
  unfold plL
  split
  · rw [plF_all hy hx (by omega)]; omega
  · exact plF_all hx hy (by omega)
theorem plL_limbs (xs ys : List Int) : limbs (plL xs ys) := by
  unfold plL
  split <;> exact plF_limbs _ _ _
theorem mnS_eq (xs ys : List Int) (k : Nat) (c : Int) : mnS xs ys k c = xs[k]?.getD 0 - c - ys[k]?.getD 0 := by
  unfold mnS
  split
  · rfl
  · rw [getD_out ys k (by omega)]
theorem mnF_val (xs ys : List Int) : ∀ k, k ≤ xs.length → pval (mnF xs ys k).1 k - (mnF xs ys k).2 * 1000000000 ^ k = pval xs k - pval ys k
  | 0, _ => by simp [mnF, pval]
  | k + 1, h => by
    have ih := mnF_val xs ys k (by omega)
    have hl := mnF_len xs ys k
    have hs := mnS_eq xs ys k (mnF xs ys k).2
    have hm := congrArg (· * (1000000000 : Int) ^ k) hs
    simp only [Int.sub_mul] at hm
    rw [mnF]
    split
    · dsimp only
      rw [pval_set_last _ _ _ (by omega), base_succ, pval, pval, Int.add_mul]
      omega
    · dsimp only
      rw [pval_set_last _ _ _ (by omega), pval, pval]
      omega
theorem mnF_limbs {xs ys : List Int} (hx : limbs xs) (hy : limbs ys) : ∀ k, limbs (mnF xs ys k).1
  | 0 => fun i => by
    by_cases h : i < xs.length
    · simp [mnF, List.getElem?_replicate, h]
    · simp [mnF, List.getElem?_replicate, h]
  | k + 1 => fun i => by
    have hs := mnS_eq xs ys k (mnF xs ys k).2
    have hb := mnF_borrow xs ys k
    have h1 := hx k
    have h2 := hy k
    have ih := mnF_limbs hx hy k
    rw [mnF]
    split <;> dsimp only
    all_goals
      by_cases e : k = i
      · subst e
        by_cases h : k < (mnF xs ys k).1.length
        · rw [List.getElem?_set_self h]; simp only [Option.getD_some]; omega
        · rw [List.getElem?_eq_none (by simpa using h)]; simp
      · rw [List.getElem?_set_ne e]; exact ih i
theorem mnL_limbs {xs ys : List Int} (hx : limbs xs) (hy : limbs ys) : limbs (mnL xs ys) := mnF_limbs hx hy _
theorem mnL_val {xs ys : List Int} (hx : limbs xs) (hy : limbs ys) (ht : topped ys) (hle : lval ys ≤ lval xs) : lval (mnL xs ys) = lval xs - lval ys := by
  have h := mnF_val xs ys xs.length (Nat.le_refl _)
  have hlen := len_le_of_lval hx hy ht hle
  have hb := mnF_borrow xs ys xs.length
  have hv := lval_lt (mnL_limbs hx hy)
  rw [pval_all ys _ hlen, pval_all xs _ (Nat.le_refl _)] at h
  have e : lval (mnL xs ys) = pval (mnF xs ys xs.length).1 xs.length := by rw [lval, mnL, mnF_len]
  rw [mnL, mnF_len, ← mnL] at hv
  have hp := base_pos xs.length
  rcases (show (mnF xs ys xs.length).2 = 0 ∨ (mnF xs ys xs.length).2 = 1 by omega) with h0 | h1
  · rw [h0] at h; omega
  · rw [h1] at h; omega
theorem ordN_val {xs ys : List Int} (hx : limbs xs) (hy : limbs ys) : ∀ k, (ordN xs ys k < 0 ↔ pval xs k < pval ys k) ∧ (ordN xs ys k = 0 ↔ pval xs k = pval ys k)
  | 0 => by simp [ordN, pval]
  | k + 1 => by
    have ih := ordN_val hx hy k
    have h1 := hx k
    have h2 := hy k
    rw [ordN, pval, pval]
    split
    · rename_i h; rw [h]; constructor <;> omega
    · rename_i h
      have hw : wrap64 (xs[k]?.getD 0 - ys[k]?.getD 0) = xs[k]?.getD 0 - ys[k]?.getD 0 := by unfold wrap64; omega
      rw [hw]
      have a1 := pval_lt hx k
      have a2 := pval_lt hy k
      have a3 := pval_nonneg hx k
      have a4 := pval_nonneg hy k
      by_cases hlt : xs[k]?.getD 0 < ys[k]?.getD 0
      · have := Int.mul_le_mul_of_nonneg_right (show xs[k]?.getD 0 + 1 ≤ ys[k]?.getD 0 by omega) (Int.le_of_lt (base_pos k))
        rw [Int.add_mul] at this
        constructor <;> omega
      · have := Int.mul_le_mul_of_nonneg_right (show ys[k]?.getD 0 + 1 ≤ xs[k]?.getD 0 by omega) (Int.le_of_lt (base_pos k))
        rw [Int.add_mul] at this
        constructor <;> omega
theorem ordL_val {xs ys : List Int} (hx : limbs xs) (hy : limbs ys) (tx : topped xs) (ty : topped ys) : (ordL xs ys < 0 ↔ lval xs < lval ys) ∧ (ordL xs ys = 0 ↔ lval xs = lval ys) := by
  unfold ordL
  split
  · rename_i h
    have := ordN_val hx hy xs.length
    rw [pval_all xs _ (Nat.le_refl _), pval_all ys _ (by omega)] at this
    exact this
  · rename_i h
    by_cases hlt : xs.length < ys.length
    · have : ¬ lval ys ≤ lval xs := fun hle => by have := len_le_of_lval hx hy ty hle; omega
      constructor <;> omega
    · have : ¬ lval xs ≤ lval ys := fun hle => by have := len_le_of_lval hy hx tx hle; omega
      constructor <;> omega
theorem dfL_limbs {xs ys : List Int} (hx : limbs xs) (hy : limbs ys) : limbs (dfL xs ys) := by
  unfold dfL
  split
  · exact mnL_limbs hy hx
  · exact mnL_limbs hx hy
theorem dfL_val {xs ys : List Int} (hx : limbs xs) (hy : limbs ys) (tx : topped xs) (ty : topped ys) : lval (dfL xs ys) = if lval xs < lval ys then lval ys - lval xs else lval xs - lval ys := by
  have h := (ordL_val hx hy tx ty).1
  unfold dfL
  split
  · rename_i h1
    rw [if_pos (h.1 h1), mnL_val hy hx tx (by have := h.1 h1; omega)]
  · rename_i h1
    have h2 : ¬ lval xs < lval ys := fun e => h1 (h.2 e)
    rw [if_neg h2, mnL_val hx hy ty (by omega)]
end Go.Proofs.YtnagmogjhfdmlaaGreatDoor
namespace Go.Proofs.YtnagmogjhfdmlaaGreatDoor
open Go.RowKit Go.Shelf Go.Proofs.YtnagmogjhfdmlaaGreatDoorW.PrintWords
/-- A magnitude of at most L limbs, without a 0 at its end, in a slice. -/
def Mag (w : World) (v : Value) (x : Int) (L : Nat) : Prop := ∃ A n c xs, v = .slice A n c ∧ RI w.heap.size w A n xs ∧ limbs xs ∧ topped xs ∧ n ≤ c ∧ True ∧ n ≤ L ∧ lval xs = x
/-- A number. -/
def NumV (w : World) (v : Value) (z : Int) (L : Nat) : Prop := ∃ b u x, v = .agg #[.bool b, u] ∧ Mag w u x L ∧ z = if b then -x else x
theorem Mag.below {w w1 : World} {v : Value} {x : Int} {L : Nat} (h : Mag w v x L) (hb : Below w.heap.size w w1) : Mag w1 v x L := by
  obtain ⟨A, n, c, xs, rfl, h1, h2, h3, h4, h5, h6, h7⟩ := h
  exact ⟨A, n, c, xs, rfl, (h1.below hb).mono hb.size, h2, h3, h4, h5, h6, h7⟩
theorem NumV.below {w w1 : World} {v : Value} {z : Int} {L : Nat} (h : NumV w v z L) (hb : Below w.heap.size w w1) : NumV w1 v z L := by
  obtain ⟨b, u, x, rfl, h1, h2⟩ := h
  exact ⟨b, u, x, rfl, h1.below hb, h2⟩
theorem Mag.more {w : World} {v : Value} {x : Int} {L M : Nat} (h : Mag w v x L) (hM : L ≤ M) : Mag w v x M := by
  obtain ⟨A, n, c, xs, rfl, h1, h2, h3, h4, h5, h6, h7⟩ := h
  exact ⟨A, n, c, xs, rfl, h1, h2, h3, h4, h5, by omega, h7⟩
theorem NumV.more {w : World} {v : Value} {z : Int} {L M : Nat} (h : NumV w v z L) (hM : L ≤ M) : NumV w v z M := by
  obtain ⟨b, u, x, rfl, h1, h2⟩ := h
  exact ⟨b, u, x, rfl, h1.more hM, h2⟩
theorem tl_get (l : List Int) (j : Nat) (h : j < tlen l l.length) : (tl l)[j]?.getD 0 = l[j]?.getD 0 := take_getD l _ j h
/-- A row of limbs that a function has made is a magnitude. -/
theorem mag_of_reads {w : World} {A : Option Addr} {l : List Int} {c : Nat} {x : Int} {L : Nat} (h : ReadsInt w .i64 A l.length l) (hA : ∀ ad, A = some ad → ad.block < w.heap.size) (hl : limbs l) (hc : l.length ≤ c) (hc2 : c ≤ 9223372036854775807) (hL : tlen l l.length ≤ L) (hx : lval l = x) : Mag w (.slice A (tlen l l.length) c) x L := by
  have hle := tlen_le l l.length
  refine ⟨A, _, c, tl l, rfl, ⟨tl_len l, by have := h.2.1; omega, fun h0 => ?_⟩, tl_limbs hl, tl_topped l, by omega, trivial, hL, by rw [tl_val, hx]⟩
  obtain ⟨ad, e, hcell⟩ := h.2.2 (by omega)
  refine ⟨ad, e, hA ad e, fun j hj => ?_⟩
  rw [tl_get l j hj, hcell j (by omega), List.getD_eq_getElem?_getD]
theorem sum_num (u v : Value) (x y : Int) (L : Nat) (w : World) (hu : NumV w u x L) (hv : NumV w v y L) (hL : L ≤ 1000000) :
    Calls Tryz.prog 44 #[u, v] w fun e w' => ∃ r, e = .returned r ∧ NumV w' r (x + y) (L + 1) ∧ Below w.heap.size w w' := by
  obtain ⟨b, u', x', rfl, hm, rfl⟩ := hu
  obtain ⟨b2, v', y', rfl, hm2, rfl⟩ := hv
  obtain ⟨A, n, c, xs, rfl, h1, h2, h3, h4, h5, h6, rfl⟩ := hm
  obtain ⟨B, m, e, ys, rfl, k1, k2, k3, k4, k5, k6, rfl⟩ := hm2
  by_cases hb : b2 = b
  · subst hb
    refine (sum_same A B n m c e xs ys b2 w h1 k1 h2 k2 (by omega) (by omega)).mono ?_
    rintro E w' ⟨A', c', rfl, hr, hc1, hc2, hA, hB⟩
    refine ⟨_, rfl, ⟨_, _, _, rfl, mag_of_reads hr (fun ad e => (hA ad e).2) (plL_limbs xs ys) hc1 hc2 (Nat.le_trans (tlen_le _ _) (plL_le xs ys L (by rw [h1.1]; exact h6) (by rw [k1.1]; exact k6))) (plL_val h2 k2), ?_⟩, hB⟩
    cases b2 <;> simp <;> omega
  · obtain rfl : b2 = !b := by cases b <;> cases b2 <;> simp_all
    refine (sum_other A B n m c e xs ys b w h1 k1 h2 k2 (by omega) (by omega)).mono ?_
    rintro E w' ⟨A', c', rfl, hr, hc1, hc2, hA, hB⟩
    refine ⟨_, rfl, ⟨_, _, _, rfl, mag_of_reads hr (fun ad e => (hA ad e).2) (dfL_limbs h2 k2) hc1 hc2 (Nat.le_trans (tlen_le _ _) (Nat.le_succ_of_le (dfL_le xs ys L (by rw [h1.1]; exact h6) (by rw [k1.1]; exact k6)))) (dfL_val h2 k2 h3 k3), ?_⟩, hB⟩
    have ho := (ordL_val h2 k2 h3 k3).1
    by_cases hlt : lval xs < lval ys
    · have hd : decide (ordL xs ys < 0) = true := by simpa using ho.2 hlt
      rw [if_pos hlt, hd]
      cases b <;> simp <;> omega
    · have hd : decide (ordL xs ys < 0) = false := decide_eq_false (fun e => hlt (ho.1 e))
      rw [if_neg hlt, hd]
      cases b <;> simp <;> omega
theorem decFrom_dval : ∀ (l : List UInt8) (acc : Nat), allDig l = true → Lib.decFrom acc l = some (acc * 10 ^ l.length + dval l)
  | [], acc, _ => by simp [Lib.decFrom, dval]
  | c :: l, acc, h => by
    simp only [allDig, List.all_cons, Bool.and_eq_true] at h
    have h1 := (isDig_iff c).1 h.1
    have ih := decFrom_dval l (acc * 10 + (c.toNat - 48)) h.2
    rw [Lib.decFrom, Lib.digitVal, if_pos h1]
    dsimp only
    rw [ih, dval_cons, List.length_cons, Nat.pow_succ, Nat.add_mul]
    congr 1
    rw [show acc * 10 * 10 ^ l.length = acc * (10 ^ l.length * 10) from by rw [Nat.mul_assoc, Nat.mul_comm 10]]
    omega
theorem atoi_dig (l : List UInt8) (h : allDig l = true) (h0 : l ≠ []) : Lib.atoi l = some (dval l : Int) := by
  have hd := decFrom_dval l 0 h
  cases l with
  | nil => exact absurd rfl h0
  | cons c r =>
    simp only [allDig, List.all_cons, Bool.and_eq_true] at h
    have h1 := (isDig_iff c).1 h.1
    have e1 : (c == 45) = false := by simp only [beq_eq_false_iff_ne]; intro e; subst e; simp at h1
    have e2 : (c == 43) = false := by simp only [beq_eq_false_iff_ne]; intro e; subst e; simp at h1
    have e3 : ((c :: r).isEmpty) = false := rfl
    simp [Lib.atoi, e1, e2, Lib.decNat, hd]
theorem chunkB_list (s : ByteArray) (j : Nat) : (chunkB s j).data.toList = (s.data.toList.take (s.size - 9 * j)).drop (s.size - 9 * j - 9) := by
  simp [chunkB, ByteArray.data_extract, Array.toList_extract, List.extract_eq_take_drop, List.drop_take]
  try omega
theorem allDig_sub {l m : List UInt8} (h : allDig l = true) (hs : ∀ c, c ∈ m → c ∈ l) : allDig m = true := List.all_eq_true.2 fun c hc => List.all_eq_true.1 h c (hs c hc)
/-- The value of group j. -/
def chV (s : ByteArray) (j : Nat) : Int := (dval (chunkB s j).data.toList : Int)
theorem chunk_len (s : ByteArray) (j : Nat) : (chunkB s j).data.toList.length ≤ 9 := by rw [chunkB_list]; simp; omega
theorem chunk_dig (s : ByteArray) (h : allDig s.data.toList = true) (j : Nat) : allDig (chunkB s j).data.toList = true := by
  rw [chunkB_list]
  exact allDig_sub h (fun c hc => List.mem_of_mem_take (List.mem_of_mem_drop hc))
theorem chunk_atoi (s : ByteArray) (h : allDig s.data.toList = true) (j : Nat) (hj : j < chunkN s) : Lib.atoi (chunkB s j).data.toList = some (chV s j) := by
  refine atoi_dig _ (chunk_dig s h j) (fun e => ?_)
  have hl := congrArg List.length e
  rw [chunkB_list] at hl
  have hz : s.data.toList.length = s.size := (Lib.size_eq s).symm
  unfold chunkN at hj
  simp only [List.length_drop, List.length_take, List.length_nil, hz] at hl
  omega
theorem chunkL_get (v : Nat → Int) (k i : Nat) : (chunkL v k)[i]?.getD 0 = if i < k then v i else 0 := by
  unfold chunkL
  by_cases h : i < k
  · rw [if_pos h, List.getElem?_map, List.getElem?_range h]; rfl
  · rw [if_neg h, List.getElem?_map, List.getElem?_eq_none (by simp; omega)]; rfl
theorem chunkL_limbs (s : ByteArray) (h : allDig s.data.toList = true) (k : Nat) : limbs (chunkL (chV s) k) := fun i => by
  rw [chunkL_get]
  split
  · have h1 := dval_lt _ (chunk_dig s h i)
    have h2 : 10 ^ (chunkB s i).data.toList.length ≤ 10 ^ 9 := Nat.pow_le_pow_right (by omega) (chunk_len s i)
    unfold chV
    have : (10 : Nat) ^ 9 = 1000000000 := by decide
    omega
  · omega
theorem chunks_pval (s : ByteArray) (K : Nat) (hK : K = chunkN s) : ∀ k, k ≤ K → pval (chunkL (chV s) K) k = (dval (s.data.toList.drop (s.size - 9 * k)) : Int)
  | 0, _ => by
    have hz : s.data.toList.length = s.size := (Lib.size_eq s).symm
    rw [Nat.mul_zero, Nat.sub_zero, ← hz, List.drop_length]; rfl
  | k + 1, h => by
    have hz : s.data.toList.length = s.size := (Lib.size_eq s).symm
    have hk : 9 * k < s.size := by unfold chunkN at hK; omega
    have e : s.data.toList.drop (s.size - 9 * (k + 1)) = (chunkB s k).data.toList ++ s.data.toList.drop (s.size - 9 * k) := by
      rw [chunkB_list, show s.size - 9 * (k + 1) = s.size - 9 * k - 9 from by omega]
      generalize s.data.toList = l at hz ⊢
      have h1 : l = l.take (s.size - 9 * k) ++ l.drop (s.size - 9 * k) := (List.take_append_drop _ l).symm
      conv => lhs; rw [h1]
      rw [List.drop_append_of_le_length (by simp; omega)]
    have hl : (s.data.toList.drop (s.size - 9 * k)).length = 9 * k := by simp; omega
    rw [pval, chunks_pval s K hK k (by omega), chunkL_get, if_pos (by omega), e, dval_append, hl]
    have hp : (1000000000 : Int) ^ k = ((10 ^ (9 * k) : Nat) : Int) := by
      rw [Nat.pow_mul, show (10 : Nat) ^ 9 = 1000000000 from by decide, Int.natCast_pow]; rfl
    rw [hp, chV]
    push_cast
    omega
theorem chunks_val (s : ByteArray) : lval (chunkL (chV s) (chunkN s)) = (dval s.data.toList : Int) := by
  rw [lval, chunkL_len, chunks_pval s _ rfl _ (Nat.le_refl _), show s.size - 9 * chunkN s = 0 from by unfold chunkN; omega, List.drop_zero]
end Go.Proofs.YtnagmogjhfdmlaaGreatDoor
