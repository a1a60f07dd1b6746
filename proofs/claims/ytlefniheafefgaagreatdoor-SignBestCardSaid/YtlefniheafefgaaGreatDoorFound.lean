/- Small laws that the walks share. · A region of reads before its stores, within a round of a range over a function: walked once, in the order of the text. · A region whose order is open, by a table: each reading yields one value, whenever it is done; the stores are done in one order. · slices.Backward over a slice of ints: the iterator. · bigint.order: the order of two magnitudes. · bigint.trim: a magnitude without zeros at its end; the same row, the same world but for draws. -/
import Derived.RangeFuncNested
import Derived.RangeFuncBound
import Derived.RangeFuncCalls
import Derived.RangeFuncLeaves
import Derived.Shelf.Abstract
import Derived.Shelf.RegionOpen
import Derived.WalkKit
import Derived.OwnWalkIn
import Derived.TacticsInMore
import Derived.LoopNIn
import Derived.LoopIn
import Derived.Outline
import Derived.Lib.Hide
import Derived.Test.YtlefniheafefgaaGreatDoorProg
import Derived.Test.YtlefniheafefgaaGreatDoorWMore
import Derived.StillTailTactics
import Derived.OrdersIn
import Derived.Deep.QuietTactic
import Derived.BigQuiet
set_option linter.unusedVariables false
set_option linter.unusedSimpArgs false
namespace Go.Proofs.YtlefniheafefgaaGreatDoor
open Go.RowKit Go.Shelf Go.Proofs.YtlefniheafefgaaGreatDoorW.PrintWords

/-- What block B holds it holds on. -/
structure KeepB (B : Nat) (W W' : World) : Prop where
  same : ∀ o, W.heap[B]? = some o → W'.heap[B]? = some o
theorem KeepB.refl (B : Nat) (W : World) : KeepB B W W := ⟨fun _ h => h⟩
theorem KeepB.trans {B : Nat} {X Y Z : World} (h : KeepB B X Y) (k : KeepB B Y Z) : KeepB B X Z := ⟨fun o e => k.same o (h.same o e)⟩
theorem KeepB.cell {B : Nat} {X Y : World} (h : KeepB B X Y) {o : Nat} {v : Value} (e : X.cell? ⟨B, o, none⟩ = some v) : Y.cell? ⟨B, o, none⟩ = some v := by
  cases hx : X.heap[B]? with
  | none => simp [World.cell?, hx] at e
  | some ob =>
    have hy := h.same ob hx
    have : Y.cell? ⟨B, o, none⟩ = X.cell? ⟨B, o, none⟩ := by simp [World.cell?, hx, hy]
    rw [this]; exact e
theorem KeepB.of_grownBy {B : Nat} {X Y : World} {row : Option Nat} (hg : X.grownBy Y row) (hr : row ≠ some B) : KeepB B X Y := ⟨fun o e => (hg.block B (Array.getElem?_eq_some_iff.1 e).1 (fun q => hr q.symm)).trans e⟩
theorem KeepB.of_below {B n : Nat} {X Y : World} (hb : Below n X Y) (hB : B < n) : KeepB B X Y := ⟨fun o e => (hb.block B hB).trans e⟩
theorem KeepB.alloc {B : Nat} {X Y : World} (h : KeepB B X Y) (o : Obj) : KeepB B X (Y.alloc o) := h.trans (.of_grownBy (World.grownBy_alloc Y o none) (by simp))
theorem KeepB.setCell {B : Nat} {X Y : World} (h : KeepB B X Y) {b : Nat} (hb : b ≠ B) (v : Value) : KeepB B X (Y.setCell ⟨b, 0, none⟩ v) := h.trans (.of_grownBy (grownBy_setCell' Y b v) (by simpa using hb))
theorem KeepB.drew {B : Nat} {X Y : World} (h : KeepB B X Y) : KeepB B X Y.drew := ⟨h.same⟩
theorem KeepB.put {B : Nat} {X Y : World} (h : KeepB B X Y) {l : Nat} (hl : l ≠ B) (o : Obj) : KeepB B X (Y.putObj l o) := h.trans (.of_grownBy (grownBy_putObj' Y l o) (by simpa using hl))
theorem keepB_t {k : Nat} {A B C : World} (h : KeepB k A B) (h' : KeepB k B C) : KeepB k A C := h.trans h'
theorem keepB_b {k : Nat} {w : World} (hk : k < w.heap.size) (W : World) (l : Nat) (o o' : Obj) (hl : w.heap.size ≤ l) (_ : W.heap[l]? = some o) (_ : o.isCells = false) (_ : o.isWalk = false) : KeepB k W (W.putObj l o') := (KeepB.refl k W).put (by omega) o'
theorem ownFrom_keepB {β : Type} {B k : Nat} (hk : k < B) (X : World) : OwnFrom B (fun (_ : β) W => KeepB k X W) := fun _ _ _ _ h hg hr => h.trans (.of_grownBy hg (fun e => by have := (hr k e).1; omega))

theorem ret_bool {a b : Bool} (h : a = b) : Ending.returned (.bool a) = .returned (.bool b) := by rw [h]
theorem ret_int {k : IntKind} {a b : Int} (h : a = b) : Ending.returned (.int k a) = .returned (.int k b) := by rw [h]
theorem below_then' {w w1 w2 : World} (h : Below w.heap.size w w1) (k : Below w1.heap.size w1 w2) : Below w.heap.size w w2 :=
  h.trans ⟨k.os, k.tape, k.output, k.size, fun i hi => k.block i (Nat.lt_of_lt_of_le hi h.size)⟩
end Go.Proofs.YtlefniheafefgaaGreatDoor

namespace Go.Proofs.YtlefniheafefgaaGreatDoor
open Go.RowKit Go.Shelf

variable {P : Program}

/-- The normal end alone. -/
def NQ (Q : Exit → Act → World → Prop) : Exit → Act → World → Prop := fun e a w => e = .normal ∧ Q .normal a w
theorem nq_letsOut (Q : Exit → Act → World → Prop) : ¬ LetsOut (NQ Q) := fun ⟨_, _, h, _⟩ => by cases h

theorem rowsIn_round {l n : Nat} {row : String} {args : Array Value} {w : World} {R : Value → World → Prop} (h : Rows P row args w R) : RowsIn (Fence.wide.inRound l) n P row args w R := fun c cs hb => by
  obtain ⟨v, w', r, s⟩ := h c cs
  exact ⟨v, w', r, stepsIn_wide.2 s⟩

theorem upon_round {l n : Nat} {o : Oper} {a : Act} {K K' : Act → World → Prop} {Q : Exit → Act → World → Prop} (hK : ∀ a w, K a w → K' a w) : ∀ (r : Result Next), o.upon P a K (NQ Q) r → o.uponIn (Fence.wide.inRound l) n P a K' Q r
  | .ok (.value v) w', h => hK _ _ h
  | .ok .skip w', h => hK _ _ h
  | .ok (.defer d) w', h => hK _ _ h
  | .ok (.enter f args) w', h => by
    refine ⟨fun e => (by cases e), CallsIn.inRound l (CallsIn.mono (callsIn_wide.2 h) ?_)⟩
    intro e w'' he
    cases e with
    | returned v => exact hK _ _ he
    | panicked ch => cases he.1
    | outgrown => exact absurd he (nq_letsOut Q)
  | .ok (.row row args) w', h => ⟨fun e => (by cases e), rowsIn_round (h.mono fun _ _ he => hK _ _ he)⟩
  | .halt (.panic v) w', h => by cases h.1

theorem wpOp_round {l n : Nat} {ops : Array Oper} {Q : Exit → Act → World → Prop} (hnd : ∀ (i : Nat) (o : Oper), ops[i]? = some o → ∀ c, o.op ≠ .defer c) {i : Nat} {K K' : Act → World → Prop} (hK : ∀ a w, K a w → K' a w) {a : Act} {w : World}
    (h : wpOp P ops (NQ Q) i K a w) : wpOpIn (Fence.wide.inRound l) n P ops Q i K' a w := by
  unfold wpOp at h
  unfold wpOpIn
  split
  · rename_i hn; rw [hn] at h; exact hK _ _ h
  · rename_i o ho
    rw [ho] at h
    dsimp only at h
    split
    · rename_i hw
      rw [if_pos hw] at h
      rcases h with h | h
      · refine ⟨fun _ _ => trivial, ?_⟩
        rw [Fence.inRound_round, Oper.semAt_some l _ o (hnd i o ho)]
        exact upon_round hK _ h
      · exact absurd h.2 (nq_letsOut Q)
    · rename_i hw
      rw [if_neg hw] at h
      exact ⟨fun _ _ => trivial, hK _ _ h⟩

theorem wpAny_round {l n : Nat} {md : Region.Mode} {ops : Array Oper} {Q : Exit → Act → World → Prop} (hnd : ∀ (i : Nat) (o : Oper), ops[i]? = some o → ∀ c, o.op ≠ .defer c) : ∀ (fuel : Nat) (listed : Array Bool) (a : Act) (w : World),
    wpAny P md ops (NQ Q) fuel listed a w → wpAnyIn (Fence.wide.inRound l) n P md ops Q fuel listed a w
  | 0, _, _, _, h => ⟨h.1, h.2.2⟩
  | fuel + 1, listed, a, w, h => ⟨fun e => (h.1 e).2, fun i hi => wpOp_round hnd (fun a w hk => wpAny_round hnd fuel _ a w hk) (h.2 i hi)⟩


/-- **A REGION THAT READS, THEN STORES, WITHIN A ROUND.** -/
theorem region_round {id l m : Nat} {Q : Exit → Act → World → Prop} {a : Act} {w : World} {ls : List Oper} (n : Nat) (hm : P.follows .mixedOrders = true) (hB : Region.lexTailB .any ls.toArray n = true) (hnd : ls.all (fun o => match o.op with | .defer _ => false | _ => true) = true)
    (h : wpStill P ls.toArray { w with drawn := w.drawn + 1 } (fun a' => wpList P ls.toArray (NQ Q) (ls.drop n) a' { w with drawn := w.drawn + 1 }) (ls.take n) a) : (Code.region id ls.toArray true).wpIn (Fence.wide.inRound l) m P Q a w := by
  refine wpIn_region_any hm (wpAny_round ?_ _ _ _ _ ?_)
  · intro i o ho c hc
    have hmem : o ∈ ls := by
      have := List.mem_of_getElem? (l := ls) (i := i) (by simpa using ho)
      exact this
    have := List.all_eq_true.1 hnd o hmem
    rw [hc] at this
    cases this
  · simp only [Region.lexTailB, Bool.and_eq_true, decide_eq_true_eq] at hB
    obtain ⟨⟨⟨⟨hsel, hn⟩, hs⟩, hc⟩, hlex⟩ := hB
    have htl : (ls.take n).length = n := by simp at hn; simp; omega
    have hdl : (ls.drop n).length = ls.toArray.size - n := by simp
    have inv0 : HeadInv .any ls.toArray n (Array.replicate ls.toArray.size false) :=
      ⟨by simp, fun j oj _ hl => (by rw [getD_replicate_false] at hl; cases hl), fun t _ ht => getD_in (by simpa using ht) (getD_replicate_false _ _)⟩
    have H := wpAnyL_lex (md := .any) (g := ls.toArray.size - n) hsel hs hc hn (ls.take n) 0 _ a (fun j hj => by rw [htl] at hj; simp [hj]) (by simpa using htl) inv0 (by rw [htl]; exact hlex) h
    have := wpAny_of_head (Q' := NQ Q) (g := ls.toArray.size - n) (fun listed a' hL => by
      have := wpAny_of_seq (md := .any) (Q' := NQ Q) (ls.drop n) n listed a' { w with drawn := w.drawn + 1 } (fun j => by simp [List.getElem?_drop]) (by rw [hdl]; exact hL.1) hL.2
      rwa [hdl] at this) _ _ _ H
    rw [htl, show n + (ls.toArray.size - n) = ls.toArray.size by simp at hn; simp; omega] at this
    exact this
end Go.Proofs.YtlefniheafefgaaGreatDoor

namespace Go.Proofs.YtlefniheafefgaaGreatDoor
open Go.RowKit Go.Shelf

section
variable {P : Program} {ops : Array Oper} {vals : Nat → Value} {a0 : Act}

def dstAt (ops : Array Oper) (i : Nat) : Option Tmp := (ops[i]?).bind (·.dst)
/-- Operation i waits for operation j. -/
def need (ops : Array Oper) (i j : Nat) : Bool := match ops[i]? with
  | some o => o.after.any fun e => Region.binds .any e && e.on == j
  | none => false

/-- What the temporaries hold when the operations L have been done. -/
structure Agree (ops : Array Oper) (vals : Nat → Value) (a0 : Act) (L : Array Bool) (a : Act) : Prop where
  defers : a.defers = a0.defers
  size : a.tmps.size = a0.tmps.size
  done : ∀ j d, dstAt ops j = some d → L.getD j false = true → a.tmps[d]? = some (vals j)
  rest : ∀ d, (∀ j, dstAt ops j = some d → L.getD j false = false) → a.tmps[d]? = a0.tmps[d]?

theorem getD_set (L : Array Bool) (i j : Nat) (hi : i < L.size) : (L.setIfInBounds i true).getD j false = if j = i then true else L.getD j false := by
  simp only [Array.getD_eq_getD_getElem?, Array.getElem?_setIfInBounds]
  by_cases h : i = j
  · subst h; simp [hi]
  · have h' : ¬ j = i := fun e => h e.symm
    simp [h, h']

theorem Agree.step {L : Array Bool} {a : Act} (h : Agree ops vals a0 L a) {i : Nat} {o : Oper} (ho : ops[i]? = some o) (hi : i < L.size) (hL : L.getD i false = false)
    (hsz : ∀ j d, dstAt ops j = some d → d < a0.tmps.size) (hdis : ∀ i j d, dstAt ops i = some d → dstAt ops j = some d → i = j) :
    Agree ops vals a0 (L.setIfInBounds i true) (a.put o.dst (vals i)) := by
  have hd : dstAt ops i = o.dst := by simp [dstAt, ho]
  cases hod : o.dst with
  | none =>
    rw [hod] at hd
    refine ⟨h.defers, h.size, fun j d hj hl => ?_, fun d hj => ?_⟩
    · rw [getD_set _ _ _ hi] at hl
      by_cases e : j = i
      · subst e; rw [hd] at hj; cases hj
      · rw [if_neg e] at hl; exact h.done j d hj hl
    · refine h.rest d (fun j hjd => ?_)
      have := hj j hjd
      rw [getD_set _ _ _ hi] at this
      by_cases e : j = i
      · rw [if_pos e] at this; cases this
      · rwa [if_neg e] at this
  | some d0 =>
    rw [hod] at hd
    have hd0 : d0 < a.tmps.size := by rw [h.size]; exact hsz i d0 hd
    refine ⟨h.defers, by simp [Act.put, h.size], fun j d hj hl => ?_, fun d hj => ?_⟩
    · rw [getD_set _ _ _ hi] at hl
      by_cases e : j = i
      · subst e
        rw [hd] at hj; cases hj
        simp [Act.put, hd0]
      · rw [if_neg e] at hl
        have hne : d0 ≠ d := fun e2 => e (hdis j i d hj (by rw [hd, e2]))
        simp only [Act.put, Array.getElem?_setIfInBounds_ne hne]
        exact h.done j d hj hl
    · have hne : d0 ≠ d := fun e2 => by
        have := hj i (by rw [hd, e2])
        rw [getD_set _ _ _ hi, if_pos rfl] at this
        cases this
      simp only [Act.put, Array.getElem?_setIfInBounds_ne hne]
      refine h.rest d (fun j hjd => ?_)
      have := hj j hjd
      rw [getD_set _ _ _ hi] at this
      by_cases e : j = i
      · rw [if_pos e] at this; cases this
      · rwa [if_neg e] at this

theorem Agree.init : Agree ops vals a0 (Array.replicate ops.size false) a0 :=
  ⟨rfl, rfl, fun j d _ hl => (by rw [getD_replicate_false] at hl; cases hl), fun _ _ => rfl⟩

theorem Agree.unique {L : Array Bool} {a b : Act} (h : Agree ops vals a0 L a) (k : Agree ops vals a0 L b) : a = b := by
  have ht : a.tmps = b.tmps := by
    apply Array.ext
    · rw [h.size, k.size]
    · intro d h1 h2
      have e : a.tmps[d]? = b.tmps[d]? := by
        by_cases hx : ∃ j, dstAt ops j = some d ∧ L.getD j false = true
        · obtain ⟨j, hj, hl⟩ := hx
          rw [h.done j d hj hl, k.done j d hj hl]
        · have hx' : ∀ j, dstAt ops j = some d → L.getD j false = false := fun j hj => by
            cases e : L.getD j false with
            | true => exact absurd ⟨j, hj, e⟩ hx
            | false => rfl
          rw [h.rest d hx', k.rest d hx']
      rw [Array.getElem?_eq_getElem h1, Array.getElem?_eq_getElem h2] at e
      exact Option.some.inj e
  cases a; cases b
  simp only [Act.mk.injEq]
  exact ⟨ht, h.defers.trans k.defers.symm⟩

/-- All temporaries written, in the order of the text. -/
def putFrom (vals : Nat → Value) : List Oper → Nat → Act → Act
  | [], _, a => a
  | o :: r, i, a => putFrom vals r (i + 1) (a.put o.dst (vals i))

/-- What operation i may know of the temporaries. -/
structure Knows (ops : Array Oper) (vals : Nat → Value) (a0 : Act) (i : Nat) (a : Act) : Prop where
  done : ∀ j d, dstAt ops j = some d → need ops i j = true → a.eval (.tmp d) = vals j
  rest : ∀ d, (∀ j, dstAt ops j ≠ some d) → a.eval (.tmp d) = a0.eval (.tmp d)

theorem eval_of {a : Act} {d : Nat} {v : Value} (h : a.tmps[d]? = some v) : a.eval (.tmp d) = v := by
  simp [Act.eval, Array.getD_eq_getD_getElem?, h]
theorem need_iff {i j : Nat} {o : Oper} (ho : ops[i]? = some o) : need ops i j = true ↔ ∃ e ∈ o.after, Region.binds .any e = true ∧ e.on = j := by
  simp only [need, ho]
  rw [Array.any_eq_true]
  constructor
  · rintro ⟨x, h, hp⟩
    rw [Bool.and_eq_true, beq_iff_eq] at hp
    exact ⟨o.after[x], Array.getElem_mem h, hp.1, hp.2⟩
  · rintro ⟨e, he, hb, hon⟩
    obtain ⟨x, h, rfl⟩ := Array.getElem_of_mem he
    exact ⟨x, h, by rw [Bool.and_eq_true, beq_iff_eq]; exact ⟨hb, hon⟩⟩
theorem Agree.knows {L : Array Bool} {a : Act} (h : Agree ops vals a0 L a) {i : Nat} (hr : i ∈ Region.ready .any ops L) : Knows ops vals a0 i a := by
  obtain ⟨_, o, ho, hall⟩ := mem_ready.1 hr
  refine ⟨fun j d hj hn => ?_, fun d hd => ?_⟩
  · obtain ⟨e, he, hb, rfl⟩ := (need_iff ho).1 hn
    exact eval_of (h.done _ d hj (hall e he hb))
  · have e := h.rest d (fun j hj => absurd hj (hd j))
    simp only [Act.eval, Array.getD_eq_getD_getElem?, e]

theorem getD_set_true (L : Array Bool) (i j : Nat) (hi : i < L.size) : (L.setIfInBounds i true).getD j true = if j = i then true else L.getD j true := by
  simp only [Array.getD_eq_getD_getElem?, Array.getElem?_setIfInBounds]
  by_cases h : i = j
  · subst h; simp [hi]
  · have h' : ¬ j = i := fun e => h e.symm
    simp [h, h']

/-- How many operations are not done yet. -/
def undone (L : Array Bool) : Nat := (List.range L.size).countP fun j => !L.getD j false
theorem undone_set {L : Array Bool} {i : Nat} (hi : i < L.size) (hL : L.getD i false = false) : undone (L.setIfInBounds i true) + 1 = undone L := by
  unfold undone
  rw [Array.size_setIfInBounds]
  have key : ∀ (l : List Nat), l.Nodup → (i ∈ l → (l.countP fun j => !(L.setIfInBounds i true).getD j false) + 1 = l.countP fun j => !L.getD j false) ∧ (i ∉ l → (l.countP fun j => !(L.setIfInBounds i true).getD j false) = l.countP fun j => !L.getD j false) := by
    intro l
    induction l with
    | nil => intro _; exact ⟨fun h => (by cases h), fun _ => rfl⟩
    | cons x l ih =>
      intro hnd
      obtain ⟨h1, h2⟩ := ih (List.nodup_cons.1 hnd).2
      have hx := (List.nodup_cons.1 hnd).1
      refine ⟨fun hm => ?_, fun hm => ?_⟩
      · rcases List.mem_cons.1 hm with rfl | hm'
        · rw [List.countP_cons, List.countP_cons, h2 hx, getD_set _ _ _ hi, if_pos rfl, hL]; simp
        · have hne : x ≠ i := fun e => hx (e ▸ hm')
          rw [List.countP_cons, List.countP_cons, getD_set _ _ _ hi, if_neg hne]
          have := h1 hm'
          omega
      · have hne : x ≠ i := fun e => hm (by rw [e]; exact List.mem_cons_self)
        rw [List.countP_cons, List.countP_cons, getD_set _ _ _ hi, if_neg hne, h2 (fun h => hm (List.mem_cons_of_mem _ h))]
  exact (key _ List.nodup_range).1 (List.mem_range.2 hi)
theorem undone_zero {L : Array Bool} (h : undone L = 0) (j : Nat) (hj : j < L.size) : L.getD j false = true := by
  unfold undone at h
  have := List.countP_eq_zero.1 h j (List.mem_range.2 hj)
  simpa using this
theorem undone_pos {L : Array Bool} (h : undone L ≠ 0) : ∃ j, j < L.size ∧ L.getD j false = false := by
  have : 0 < undone L := by omega
  unfold undone at this
  obtain ⟨j, hj, hp⟩ := List.countP_pos_iff.1 this
  exact ⟨j, List.mem_range.1 hj, by simpa using hp⟩

theorem ready_none {L : Array Bool} (hs : L.size = ops.size) (hac : ∀ i j, need ops i j = true → j < i) (h : Region.ready .any ops L = []) : undone L = 0 := by
  by_cases e : undone L = 0
  · exact e
  · exfalso
    -- the least one that is not done is ready
    obtain ⟨j, hj, hf⟩ := undone_pos e
    have key : ∀ n j, j ≤ n → j < L.size → L.getD j false = false → ∃ i, i ∈ Region.ready .any ops L := by
      intro n
      induction n with
      | zero =>
        intro j hj hlt hf
        obtain rfl : j = 0 := by omega
        refine ⟨0, mem_ready.2 ⟨by simpa [Array.getD_eq_getD_getElem?, Array.getElem?_eq_getElem hlt] using hf, ops[0]'(by omega), by simp, fun e he hb => ?_⟩⟩
        exact absurd (hac 0 e.on ((need_iff (o := ops[0]'(by omega)) (by simp)).2 ⟨e, he, hb, rfl⟩)) (by omega)
      | succ n ih =>
        intro j hj hlt hf
        by_cases hall : ∀ e ∈ (ops[j]'(by omega)).after, Region.binds .any e = true → L.getD e.on false = true
        · exact ⟨j, mem_ready.2 ⟨by simpa [Array.getD_eq_getD_getElem?, Array.getElem?_eq_getElem hlt] using hf, ops[j]'(by omega), by simp, hall⟩⟩
        · simp only [Classical.not_forall] at hall
          obtain ⟨e, he, hb, hl⟩ := hall
          have hlt2 := hac j e.on ((need_iff (o := ops[j]'(by omega)) (by simp)).2 ⟨e, he, hb, rfl⟩)
          exact ih e.on (by omega) (by omega) (by simpa using hl)
    obtain ⟨i, hi⟩ := key j j (Nat.le_refl _) hj hf
    rw [h] at hi
    cases hi

theorem agree_all (hsz : ∀ j d, dstAt ops j = some d → d < a0.tmps.size) (hdis : ∀ i j d, dstAt ops i = some d → dstAt ops j = some d → i = j) :
    ∀ (ls : List Oper) (i : Nat) (L : Array Bool) (a : Act), (∀ j, ls[j]? = ops[i + j]?) → ls.length + i = ops.size → L.size = ops.size → (∀ j, j < ops.size → L.getD j false = decide (j < i)) → Agree ops vals a0 L a →
      ∃ L', L'.size = ops.size ∧ (∀ j, j < ops.size → L'.getD j false = true) ∧ Agree ops vals a0 L' (putFrom vals ls i a)
  | [], i, L, a, _, hlen, hs, hL, h => ⟨L, hs, fun j hj => by rw [hL j hj]; simp at hlen ⊢; omega, h⟩
  | o :: r, i, L, a, hls, hlen, hs, hL, h => by
    have ho : ops[i]? = some o := by have := hls 0; simpa using this.symm
    simp only [List.length_cons] at hlen
    refine agree_all hsz hdis r (i + 1) (L.setIfInBounds i true) _ (fun j => ?_) (by omega) (by simp [hs]) (fun j hj => ?_) (h.step ho (by omega) (by rw [hL i (by omega)]; simp) hsz hdis)
    · have := hls (j + 1)
      rw [show i + (j + 1) = i + 1 + j from by omega] at this
      simpa using this
    · rw [getD_set _ _ _ (by omega), hL j hj]
      by_cases e : j = i
      · subst e; simp
      · rw [if_neg e]
        by_cases h2 : j < i
        · simp [h2]; omega
        · simp [h2]; omega

/-- What an operation that changes the world yields. -/
def Yields (r : Result Next) (v : Value) (W : World) : Prop := r = .ok (.value v) W ∨ (r = .ok .skip W ∧ v = undef)
theorem Yields.upon {r : Result Next} {v : Value} {W : World} {o : Oper} {a : Act} {next : Act → World → Prop} {Q : Exit → Act → World → Prop} (h : Yields r v W) (hn : next (a.put o.dst v) W) : o.upon P a next Q r := by
  rcases h with rfl | ⟨rfl, rfl⟩
  · exact hn
  · exact hn

/-- **THE TABLE.** vals i: what operation i yields; st t: the t-th store; W t: the world behind t stores. -/
theorem wpAny_table {Q : Exit → Act → World → Prop} (m : Nat) (st : Nat → Nat) (W : Nat → World)
    (hac : ∀ i j, need ops i j = true → j < i) (hg : ∀ (i : Nat) (o : Oper), ops[i]? = some o → o.guard = none)
    (hsz : ∀ j d, dstAt ops j = some d → d < a0.tmps.size) (hdis : ∀ i j d, dstAt ops i = some d → dstAt ops j = some d → i = j)
    (hlt : ∀ t, t < m → st t < ops.size) (hinj : ∀ t u, t < m → u < m → st t = st u → t = u) (hchain : ∀ t, t + 1 < m → need ops (st (t + 1)) (st t) = true)
    (hread : ∀ (i : Nat) (o : Oper), ops[i]? = some o → (∀ t, t < m → st t ≠ i) → ∀ k, k ≤ m → (∀ t, t < k → need ops (st t) i = false) → ∀ a, Knows ops vals a0 i a → (execOp a.eval o).run P (W k) = .ok (.value (vals i)) (W k))
    (hstore : ∀ t, t < m → ∀ o, ops[st t]? = some o → ∀ a, Knows ops vals a0 (st t) a → Yields ((execOp a.eval o).run P (W t)) (vals (st t)) (W (t + 1)))
    (hfin : Q .normal (putFrom vals ops.toList 0 a0) (W m)) :
    ∀ (fuel : Nat) (L : Array Bool) (a : Act) (k : Nat), L.size = ops.size → undone L = fuel → Agree ops vals a0 L a → (∀ i j, L.getD i false = true → need ops i j = true → L.getD j false = true) →
      k ≤ m → (∀ t, t < m → L.getD (st t) false = decide (t < k)) → wpAny P .any ops Q fuel L a (W k) := by
  have hend : ∀ (L : Array Bool) (a : Act) (k : Nat), L.size = ops.size → undone L = 0 → Agree ops vals a0 L a → k ≤ m → (∀ t, t < m → L.getD (st t) false = decide (t < k)) → Q .normal a (W k) := by
    intro L a k hs hu hag hk hst
    obtain ⟨L', hs', hall, hag'⟩ := agree_all (vals := vals) hsz hdis ops.toList 0 (Array.replicate ops.size false) a0 (fun j => by simp) (by simp) (by simp) (fun j hj => by rw [getD_replicate_false]; simp) Agree.init
    have hLL : Agree ops vals a0 L' a := ⟨hag.defers, hag.size, fun j d hj _ => hag.done j d hj (undone_zero hu j (by
        have : ∃ o, ops[j]? = some o := by
          cases h : ops[j]? with
          | none => simp [dstAt, h] at hj
          | some o => exact ⟨o, rfl⟩
        obtain ⟨o, ho⟩ := this
        rw [hs]; exact (Array.getElem?_eq_some_iff.1 ho).1)), fun d hd => hag.rest d (fun j hj => by
        have hlt' : j < ops.size := by
          cases h : ops[j]? with
          | none => simp [dstAt, h] at hj
          | some o => exact (Array.getElem?_eq_some_iff.1 h).1
        have := hd j hj
        rw [hall j hlt'] at this
        cases this)⟩
    rw [hLL.unique hag']
    have : k = m := by
      by_cases e : k = m
      · exact e
      · have hkm : k < m := by omega
        have := hst k hkm
        rw [undone_zero hu (st k) (by rw [hs]; exact hlt k hkm)] at this
        simp at this
    rw [this]
    exact hfin
  intro fuel
  induction fuel with
  | zero =>
    intro L a k hs hu hag hcl hk hst
    refine ⟨?_, hend L a k hs hu hag hk hst⟩
    refine List.eq_nil_iff_forall_not_mem.2 (fun i hi => ?_)
    obtain ⟨h1, o, ho, _⟩ := mem_ready.1 hi
    have hlt' := (Array.getElem?_eq_some_iff.1 ho).1
    have h2 := undone_zero hu i (by rw [hs]; exact hlt')
    simp [Array.getD_eq_getD_getElem?, Array.getElem?_eq_getElem (show i < L.size by omega)] at h1 h2
    rw [h1] at h2
    cases h2
  | succ fuel ih =>
    intro L a k hs hu hag hcl hk hst
    refine ⟨fun hr => ?_, fun i hi => ?_⟩
    · have := ready_none hs hac hr
      omega
    · obtain ⟨h1, o, ho, hall⟩ := mem_ready.1 hi
      have hlt' := (Array.getElem?_eq_some_iff.1 ho).1
      have hLi : L.getD i false = false := by
        simp [Array.getD_eq_getD_getElem?, Array.getElem?_eq_getElem (show i < L.size by omega)] at h1 ⊢
        exact h1
      have hkn := hag.knows hi
      have hstep := hag.step ho (by omega) hLi hsz hdis
      have hun : undone (L.setIfInBounds i true) = fuel := by have := undone_set (show i < L.size by omega) hLi; omega
      have hcl' : ∀ x j, (L.setIfInBounds i true).getD x false = true → need ops x j = true → (L.setIfInBounds i true).getD j false = true := by
        intro x j hx hn
        rw [getD_set _ _ _ (by omega)] at hx ⊢
        by_cases e : x = i
        · subst e
          obtain ⟨ed, he, hb, rfl⟩ := (need_iff ho).1 hn
          have := hall ed he hb
          split
          · rfl
          · exact this
        · rw [if_neg e] at hx
          have := hcl x j hx hn
          split
          · rfl
          · exact this
      unfold wpOp
      rw [ho]
      dsimp only
      rw [if_pos (by simp [Region.wanted, hg i o ho])]
      left
      unfold Oper.wp
      by_cases hs' : ∃ t, t < m ∧ st t = i
      · obtain ⟨t, ht, rfl⟩ := hs'
        have hkt : k = t := by
          have h2 := hst t ht
          rw [hLi] at h2
          have h3 : ¬ t < k := by simpa using h2.symm
          by_cases h4 : t = 0
          · omega
          · have hc := hchain (t - 1) (by omega)
            rw [show t - 1 + 1 = t from by omega] at hc
            obtain ⟨ed, he, hb, hon⟩ := (need_iff ho).1 hc
            have h5 := hall ed he hb
            rw [hon, hst (t - 1) (by omega)] at h5
            have : t - 1 < k := by simpa using h5
            omega
        subst hkt
        refine (hstore k ht o ho a hkn).upon ?_
        refine ih _ _ (k + 1) (by simp [hs]) hun hstep hcl' (by omega) (fun u hu' => ?_)
        rw [getD_set _ _ _ (by omega)]
        by_cases e : st u = st k
        · have := hinj u k hu' ht e
          subst this
          simp
        · rw [if_neg e, hst u hu']
          have : u ≠ k := fun e2 => e (by rw [e2])
          by_cases h2 : u < k
          · simp [h2]; omega
          · simp [h2]; omega
      · have hns : ∀ t, t < m → st t ≠ i := fun t ht e => hs' ⟨t, ht, e⟩
        rw [hread i o ho hns k hk (fun t ht => by
          cases hn : need ops (st t) i with
          | false => rfl
          | true =>
            have := hcl (st t) i (by rw [hst t (by omega)]; simpa using ht) hn
            rw [hLi] at this
            cases this) a hkn]
        refine ih _ _ k (by simp [hs]) hun hstep hcl' hk (fun u hu' => ?_)
        rw [getD_set _ _ _ (by omega), if_neg (hns u hu'), hst u hu']

/-- What must hold of a region's text: edges lead back, no guard, each slot written once and within the frame; the stores are chained. -/
def tableB (ls : List Oper) (sz : Nat) (sts : List Nat) : Bool :=
  (List.range ls.length).all (fun i => match ls[i]? with
    | some o => o.guard.isNone && o.after.all (fun e => !Region.binds .any e || decide (e.on < i)) && (match o.dst with | some d => decide (d < sz) && (List.range i).all (fun j => match ls[j]? with | some oj => !(oj.dst == some d) | none => true) | none => true) && (match o.op with | .defer _ => false | _ => true)
    | none => false) &&
  (List.range sts.length).all (fun t => decide (sts.getD t 0 < ls.length) && (List.range t).all (fun u => !(sts.getD u 0 == sts.getD t 0)) && (t == 0 || need ls.toArray (sts.getD t 0) (sts.getD (t - 1) 0)))

theorem tableB_op {ls : List Oper} {sz : Nat} {sts : List Nat} (h : tableB ls sz sts = true) {i : Nat} {o : Oper} (ho : ls[i]? = some o) :
    o.guard = none ∧ (∀ e ∈ o.after, Region.binds .any e = true → e.on < i) ∧ (∀ d, o.dst = some d → d < sz ∧ ∀ j oj, j < i → ls[j]? = some oj → oj.dst ≠ some d) ∧ (∀ c, o.op ≠ .defer c) := by
  simp only [tableB, Bool.and_eq_true] at h
  have hlt := (List.getElem?_eq_some_iff.1 ho).1
  have h1 := List.all_eq_true.1 h.1 i (List.mem_range.2 hlt)
  rw [ho] at h1
  simp only [Bool.and_eq_true] at h1
  obtain ⟨⟨⟨g1, g2⟩, g3⟩, g4⟩ := h1
  refine ⟨by simpa using g1, fun e he hb => ?_, fun d hd => ?_, fun c hc => by rw [hc] at g4; cases g4⟩
  · obtain ⟨x, hx, rfl⟩ := Array.getElem_of_mem he
    have := (Array.all_eq_true.1 g2) x hx
    rw [hb] at this
    simpa using this
  · rw [hd] at g3
    simp only [Bool.and_eq_true, decide_eq_true_eq] at g3
    refine ⟨g3.1, fun j oj hj hoj e => ?_⟩
    have := List.all_eq_true.1 g3.2 j (List.mem_range.2 hj)
    rw [hoj] at this
    simp [e] at this

/-- What is asked of the readings, one by one. -/
def Reads (P : Program) (ops : Array Oper) (vals : Nat → Value) (a0 : Act) (sts : List Nat) (W : Nat → World) : List Oper → Nat → Prop
  | [], _ => True
  | o :: r, i => (sts.contains i = false → ∀ k, k ≤ sts.length → (List.range k).all (fun t => !need ops (sts.getD t 0) i) = true → ∀ a, Knows ops vals a0 i a → (execOp a.eval o).run P (W k) = .ok (.value (vals i)) (W k)) ∧ Reads P ops vals a0 sts W r (i + 1)
theorem Reads.at_ {sts : List Nat} {W : Nat → World} : ∀ (ls : List Oper) (i : Nat), Reads P ops vals a0 sts W ls i → ∀ j o, ls[j]? = some o → sts.contains (i + j) = false → ∀ k, k ≤ sts.length → (List.range k).all (fun t => !need ops (sts.getD t 0) (i + j)) = true → ∀ a, Knows ops vals a0 (i + j) a → (execOp a.eval o).run P (W k) = .ok (.value (vals (i + j))) (W k) := by
  intro ls
  induction ls with
  | nil =>
    intro i _ j o ho
    rw [List.getElem?_nil] at ho
    cases ho
  | cons o' r ih =>
    intro i h j o ho
    cases j with
    | zero =>
      rw [List.getElem?_cons_zero] at ho
      cases ho
      rw [Nat.add_zero]
      exact h.1
    | succ j =>
      rw [List.getElem?_cons_succ] at ho
      rw [show i + (j + 1) = i + 1 + j from by omega]
      exact ih _ h.2 j o ho

theorem wpAny_tableL {ls : List Oper} {Q : Exit → Act → World → Prop} (sts : List Nat) (W : Nat → World) (hB : tableB ls a0.tmps.size sts = true)
    (hread : Reads P ls.toArray vals a0 sts W ls 0)
    (hstore : ∀ t, t < sts.length → ∀ o, ls[sts.getD t 0]? = some o → ∀ a, Knows ls.toArray vals a0 (sts.getD t 0) a → Yields ((execOp a.eval o).run P (W t)) (vals (sts.getD t 0)) (W (t + 1)))
    (hfin : Q .normal (putFrom vals ls 0 a0) (W sts.length)) : wpAny P .any ls.toArray Q ls.toArray.size (Array.replicate ls.toArray.size false) a0 (W 0) := by
  have hop : ∀ {i : Nat} {o : Oper}, ls.toArray[i]? = some o → ls[i]? = some o := fun h => by simpa using h
  have hst : ∀ t, t < sts.length → sts.getD t 0 < ls.length ∧ (∀ u, u < t → sts.getD u 0 ≠ sts.getD t 0) ∧ (t ≠ 0 → need ls.toArray (sts.getD t 0) (sts.getD (t - 1) 0) = true) := by
    intro t ht
    have h2 := hB
    simp only [tableB, Bool.and_eq_true] at h2
    have := List.all_eq_true.1 h2.2 t (List.mem_range.2 ht)
    simp only [Bool.and_eq_true, decide_eq_true_eq, Bool.or_eq_true] at this
    refine ⟨this.1.1, fun u hu e => ?_, fun h0 => ?_⟩
    · have h7 := List.all_eq_true.1 this.1.2 u (List.mem_range.2 hu)
      have h8 : (sts.getD u 0 == sts.getD t 0) = true := by rw [e]; exact beq_self_eq_true _
      simp only [h8] at h7
      cases h7
    · rcases this.2 with h | h
      · exact absurd (by simpa using h) h0
      · exact h
  refine wpAny_table (ops := ls.toArray) (vals := vals) (a0 := a0) sts.length (fun t => sts.getD t 0) W ?_ ?_ ?_ ?_ ?_ ?_ ?_ ?_ ?_ (by simpa using hfin) _ _ _ 0 (by simp) ?_ Agree.init ?_ (Nat.zero_le _) ?_
  · intro i j hn
    cases ho : ls.toArray[i]? with
    | none => simp [need, ho] at hn
    | some o =>
      obtain ⟨e, he, hb, rfl⟩ := (need_iff ho).1 hn
      exact (tableB_op hB (hop ho)).2.1 e he hb
  · intro i o ho
    exact (tableB_op hB (hop ho)).1
  · intro j d hj
    cases ho : ls.toArray[j]? with
    | none => simp [dstAt, ho] at hj
    | some o =>
      have : o.dst = some d := by simpa [dstAt, ho] using hj
      exact ((tableB_op hB (hop ho)).2.2.1 d this).1
  · intro i j d hi hj
    cases hoi : ls.toArray[i]? with
    | none => simp [dstAt, hoi] at hi
    | some oi =>
      cases hoj : ls.toArray[j]? with
      | none => simp [dstAt, hoj] at hj
      | some oj =>
        have e1 : oi.dst = some d := by simpa [dstAt, hoi] using hi
        have e2 : oj.dst = some d := by simpa [dstAt, hoj] using hj
        rcases Nat.lt_trichotomy i j with h | h | h
        · exact absurd e1 (((tableB_op hB (hop hoj)).2.2.1 d e2).2 i oi h (hop hoi))
        · exact h
        · exact absurd e2 (((tableB_op hB (hop hoi)).2.2.1 d e1).2 j oj h (hop hoj))
  · intro t ht
    simpa using (hst t ht).1
  · intro t u ht hu e
    rcases Nat.lt_trichotomy t u with h | h | h
    · exact absurd e ((hst u hu).2.1 t h)
    · exact h
    · exact absurd e.symm ((hst t ht).2.1 u h)
  · intro t ht
    exact (hst (t + 1) ht).2.2 (by omega)
  · intro i o ho hns k hk hall a hkn
    have := Reads.at_ _ _ hread i o (hop ho) (by
      rw [Nat.zero_add]
      cases hc : sts.contains i with
      | false => rfl
      | true =>
        obtain ⟨t, ht, e⟩ := List.getElem_of_mem (List.contains_iff_mem.1 hc)
        exact absurd (by simp [List.getD_eq_getElem?_getD, List.getElem?_eq_getElem ht, e]) (hns t ht)) k hk (by
      rw [Nat.zero_add]
      exact List.all_eq_true.2 (fun t ht => by rw [hall t (List.mem_range.1 ht)]; rfl)) a (by rw [Nat.zero_add]; exact hkn)
    rw [Nat.zero_add] at this
    exact this
  · intro t ht o ho a hkn
    exact hstore t ht o (hop ho) a hkn
  · have : ∀ n, undone (Array.replicate n false) = n := by
      intro n
      unfold undone
      rw [List.countP_eq_length.2 (fun j _ => by rw [getD_replicate_false]; rfl)]
      simp
    exact this _
  · intro i j hi
    rw [getD_replicate_false] at hi
    cases hi
  · intro t ht
    rw [getD_replicate_false]
    simp

/-- **A REGION BY ITS TABLE, WITHIN A ROUND.** -/
theorem region_table_round {id l n : Nat} {ls : List Oper} {Q : Exit → Act → World → Prop} {w : World} (hm : P.follows .mixedOrders = true) (vals : Nat → Value) (sts : List Nat) (W : Nat → World) (hB : tableB ls a0.tmps.size sts = true) (hW : W 0 = { w with drawn := w.drawn + 1 })
    (hread : Reads P ls.toArray vals a0 sts W ls 0)
    (hstore : ∀ t, t < sts.length → ∀ o, ls[sts.getD t 0]? = some o → ∀ a, Knows ls.toArray vals a0 (sts.getD t 0) a → Yields ((execOp a.eval o).run P (W t)) (vals (sts.getD t 0)) (W (t + 1)))
    (hfin : Q .normal (putFrom vals ls 0 a0) (W sts.length)) : (Code.region id ls.toArray true).wpIn (Fence.wide.inRound l) n P Q a0 w := by
  refine wpIn_region_any hm ?_
  rw [← hW]
  refine wpAny_round ?_ _ _ _ _ (wpAny_tableL sts W hB hread hstore ⟨rfl, hfin⟩)
  intro i o ho
  exact (tableB_op hB (by simpa using ho)).2.2.2
/-- The same, elsewhere. -/
theorem region_table {id : Nat} {ls : List Oper} {Q : Exit → Act → World → Prop} {w : World} (hm : P.follows .mixedOrders = true) (vals : Nat → Value) (sts : List Nat) (W : Nat → World) (hB : tableB ls a0.tmps.size sts = true) (hW : W 0 = { w with drawn := w.drawn + 1 })
    (hread : Reads P ls.toArray vals a0 sts W ls 0)
    (hstore : ∀ t, t < sts.length → ∀ o, ls[sts.getD t 0]? = some o → ∀ a, Knows ls.toArray vals a0 (sts.getD t 0) a → Yields ((execOp a.eval o).run P (W t)) (vals (sts.getD t 0)) (W (t + 1)))
    (hfin : Q .normal (putFrom vals ls 0 a0) (W sts.length)) : (Code.region id ls.toArray true).wp P Q a0 w := by
  refine wp_region_any hm ?_
  rw [← hW]
  exact wpAny_tableL sts W hB hread hstore hfin

theorem Knows.rest' {ls : List Oper} {i : Nat} {a : Act} (h : Knows ls.toArray vals a0 i a) (d : Nat) (hd : ls.all (fun o => !(o.dst == some d)) = true) : a.eval (.tmp d) = a0.eval (.tmp d) :=
  h.rest d (fun j hj => by
    cases ho : ls.toArray[j]? with
    | none => simp [dstAt, ho] at hj
    | some o =>
      have e : o.dst = some d := by simpa [dstAt, ho] using hj
      have := List.all_eq_true.1 hd o (List.mem_of_getElem? (by simpa using ho))
      simp [e] at this)
end
end Go.Proofs.YtlefniheafefgaaGreatDoor

namespace Go.Proofs.YtlefniheafefgaaGreatDoor
open Go.RowKit Go.Shelf Go.Proofs.YtlefniheafefgaaGreatDoorW.PrintWords

attribute [local go_sem] Oper.semAt_some

/-- The places of n elements, the last one first; the first k of them. -/
def bwl (n : Nat) : Nat → List (Fin n)
  | 0 => []
  | k + 1 => bwl n k ++ (if h : k < n then [⟨n - 1 - k, by omega⟩] else [])
theorem bwl_step (n k : Nat) (h : k < n) : bwl n (k + 1) = bwl n k ++ [⟨n - 1 - k, by omega⟩] := by simp [bwl, h]
theorem bwl_len (n : Nat) : ∀ k, k ≤ n → (bwl n k).length = k
  | 0, _ => rfl
  | k + 1, h => by rw [bwl_step n k (by omega), List.length_append, bwl_len n k (by omega)]; rfl
theorem bwl_mono (n k : Nat) : ∀ j, bwl n k <+: bwl n (k + j)
  | 0 => List.prefix_refl _
  | j + 1 => (bwl_mono n k j).trans (by rw [← Nat.add_assoc, bwl]; exact List.prefix_append _ _)

/-- What a round over a slice keeps: the box, and all that lay below n₀. -/
def KpB (Bn n₀ : Nat) (X Y : World) : Prop := KeepB Bn X Y ∧ Below n₀ X Y
theorem kpB_t {Bn n₀ : Nat} {A B C : World} (h : KpB Bn n₀ A B) (k : KpB Bn n₀ B C) : KpB Bn n₀ A C := ⟨h.1.trans k.1, h.2.trans k.2⟩
theorem kpB_b {Bn n₀ : Nat} {w : World} (hk : Bn < w.heap.size) (h0 : n₀ ≤ w.heap.size) (W : World) (l : Nat) (o o' : Obj) (hl : w.heap.size ≤ l) (h1 : W.heap[l]? = some o) (h2 : o.isCells = false) (h3 : o.isWalk = false) : KpB Bn n₀ W (W.putObj l o') :=
  ⟨keepB_b hk W l o o' hl h1 h2 h3, belowK_b h0 W l o o' hl h1 h2 h3⟩

theorem add_block (a : Addr) (j : Nat) : (a.add j).block = a.block := by unfold Addr.add; split <;> rfl
/-- A slice of ints that is read: its cells lie below n₀. -/
def RI (n₀ : Nat) (W : World) (A : Option Addr) (n : Nat) (xs : List Int) : Prop :=
  xs.length = n ∧ n ≤ 9223372036854775807 ∧ (0 < n → ∃ ad, A = some ad ∧ ad.block < n₀ ∧ ∀ j, j < n → W.cell? (ad.add j) = some (.int .i64 (xs[j]?.getD 0)))
theorem RI.below {n₀ : Nat} {W W1 : World} {A : Option Addr} {n : Nat} {xs : List Int} (h : RI n₀ W A n xs) (hb : Below n₀ W W1) : RI n₀ W1 A n xs :=
  ⟨h.1, h.2.1, fun hn => by
    obtain ⟨ad, e, hlt, hc⟩ := h.2.2 hn
    exact ⟨ad, e, hlt, fun j hj => (hb.cell (p := ad.add j) (by rw [add_block]; exact hlt)).trans (hc j hj)⟩⟩
/-- What is read at the start lies below the start's end. -/
theorem RI.of_reads {w : World} {A : Option Addr} {n : Nat} {xs : List Int} (h : ReadsInt w .i64 A n xs) : RI w.heap.size w A n xs :=
  ⟨h.1, h.2.1, fun hn => by
    obtain ⟨ad, e, hc⟩ := h.2.2 hn
    refine ⟨ad, e, ?_, fun j hj => by rw [hc j hj, List.getD_eq_getElem?_getD]⟩
    have := World.block_lt_of_cell? w _ (hc 0 hn)
    rwa [add_block] at this⟩
theorem RI.reads {n₀ : Nat} {w : World} {A : Option Addr} {n : Nat} {xs : List Int} (h : RI n₀ w A n xs) : ReadsInt w .i64 A n xs :=
  ⟨h.1, h.2.1, fun hn => by
    obtain ⟨ad, e, _, hc⟩ := h.2.2 hn
    exact ⟨ad, e, fun j hj => by rw [hc j hj, List.getD_eq_getElem?_getD]⟩⟩

set_option maxRecDepth 100000 in
set_option maxHeartbeats 2000000 in
theorem bwd1_in (F : Fence) (n : Nat) (h8 : F.fn 110) (hro : F.round = none) (hn : 1 ≤ n) (l Bs n₀ : Nat) (A : Option Addr) (len cap : Nat) (xs : List Int) (J Jx : List (Fin len) → World → Prop)
    (hY : ∀ pre x W, J pre W → pre.length < len → YieldAt F (n - 1) Tryz.prog l #[.int .i64 (x.val : Int), .int .i64 (xs[x.val]?.getD 0)] W fun e W' =>
      (e = .returned (.bool true) ∧ J (pre ++ [x]) W' ∧ KpB Bs n₀ W W') ∨ (e = .returned (.bool false) ∧ Jx (pre ++ [x]) W'))
    (W : World) (hBs : W.cell? ⟨Bs, 0, none⟩ = some (.slice A len cap)) (hI : RI n₀ W A len xs) (h0 : J [] W) :
    CallsIn F n Tryz.prog 110 #[.func (.yield l) #[] #[], .pointer (some ⟨Bs, 0, none⟩)] W fun e W' => (∃ v, e = .returned v) ∧
      ((∃ ys, ys = bwl len len ∧ J ys W') ∨ (∃ pre, pre <+: bwl len len ∧ Jx pre W')) := by
  have hmax := hI.2.1
  refine callsIn_of_wp Tryz.func110 rfl h8 ?_ hro
  simp only [Tryz.ntmps110, List.size_toArray, List.length_cons, List.length_nil, Nat.reduceAdd, Nat.reduceSub, Array.replicate_succ, Array.replicate_zero, List.push_toArray, List.append_toArray, List.nil_append, List.cons_append]
  gi_wp2
  gi_loopw [3] (fun i wr => ∃ k : Nat, k ≤ len ∧ i = .int .i64 ((len : Int) - 1 - k) ∧ J (bwl len k) wr ∧ KpB Bs n₀ W wr)
    (fun i _ => (intOf i + 1).toNat)
  case atStart => exact ⟨0, Nat.zero_le _, by go_num, h0, KeepB.refl _ _, Below.refl _ _⟩
  case round =>
    obtain ⟨k, hk, rfl, hJs, hnx, hbl⟩ := hrel
    have hcb : wr.cell? ⟨Bs, 0, none⟩ = some (.slice A len cap) := hnx.cell hBs
    by_cases hlt : k < len
    · obtain ⟨ad, rfl, hb0, hc⟩ := hI.2.2 (by omega)
      obtain ⟨m, hm⟩ : ∃ m : Nat, m = len - 1 - k := ⟨_, rfl⟩
      have hmi : (len : Int) - 1 - k = (m : Int) := by omega
      have hcx : wr.cell? (ad.add m) = some (.int .i64 (xs[m]?.getD 0)) := (hbl.cell (p := ad.add m) (by rw [add_block]; exact hb0)).trans (hc m (by omega))
      have hlm : m < len := by omega
      obtain ⟨fn, tmps, assign, body, hy, hR⟩ := hY _ ⟨m, hlm⟩ wr hJs (by rw [bwl_len _ _ (by omega)]; exact hlt)
      dsimp only at hy
      have hstep : Hid (bwl len (k + 1) = bwl len k ++ [⟨m, hlm⟩]) := by rw [bwl_step len k hlt]; congr 2; exact Fin.ext hm.symm
      have hpre : Hid (bwl len (k + 1) <+: bwl len len) := by
        have := bwl_mono len (k + 1) (len - (k + 1))
        rwa [show k + 1 + (len - (k + 1)) = len from by omega] at this
      have HM := Lib.hid hm
      have HMI := Lib.hid hmi
      rw [hmi]
      clear hm hmi hc
      gi_wp2
      refine hR.mono ?_
      rintro e W3 (⟨rfl, hJ3, hk3⟩ | ⟨rfl, hJx3⟩)
      · gi_wp2
        go_roundw
        case rel => exact ⟨k + 1, by omega, by have := HM.out; go_num, by rw [hstep.out]; exact hJ3, hnx.trans hk3.1, hbl.trans hk3.2⟩
        case measure => first | (simp [intOf]; done) | (simp [intOf]; omega)
      · gi_wp2
        refine bodyPost_ret (results_none rfl _ _ _) rfl ?_
        exact ⟨⟨_, rfl⟩, .inr ⟨_, by rw [← hstep.out]; exact hpre.out, hJx3⟩⟩
    · obtain rfl : k = len := by omega
      rw [show (k : Int) - 1 - k = -1 from by omega]
      gi_wp2
      go_end0
      exact ⟨⟨_, rfl⟩, .inl ⟨_, rfl, hJs⟩⟩

set_option maxHeartbeats 1000000 in
theorem bwd_in (F : Fence) (n : Nat) (h5 : F.fn 89) (hro : F.round = none) (a : Option Addr) (len cap : Nat) (w : World) :
    CallsIn F n Tryz.prog 89 #[.slice a len cap] w fun e w' => e = .returned (.func (.func 110) #[] #[.pointer (some ⟨w.heap.size, 0, none⟩)]) ∧ w' = w.alloc (.cells #[.slice a len cap] 63) := by
  refine callsIn_of_wp Tryz.func89 rfl h5 ?_ hro
  simp only [Tryz.ntmps89, List.size_toArray, List.length_cons, List.length_nil, Nat.reduceAdd, Nat.reduceSub, Array.replicate_succ, Array.replicate_zero, List.push_toArray, List.append_toArray, List.nil_append, List.cons_append]
  gi_wp2
  go_ret
  exact ⟨rfl, rfl⟩

theorem bwd_stops (F : Fence) (n : Nat) (h8 : F.fn 110) (hro : F.round = none) (hn : 1 ≤ n) (Bn n₀ : Nat) (A : Option Addr) (len cap : Nat) (xs : List Int) (w : World) (hBn : Bn < w.heap.size) (h0 : n₀ ≤ w.heap.size)
    (hc : w.cell? ⟨Bn, 0, none⟩ = some (.slice A len cap)) (hI : RI n₀ w A len xs) :
    SeqStopsK F n Tryz.prog 110 #[.pointer (some ⟨Bn, 0, none⟩)] (fun x : Fin len => #[Value.int .i64 (x.val : Int), Value.int .i64 (xs[x.val]?.getD 0)]) (KpB Bn n₀) (fun ys => ys = bwl len len) (fun pre => pre <+: bwl len len) len w := fun l J Jx W hW _ _ hY h0' =>
  bwd1_in F n h8 hro hn l Bn n₀ A len cap xs J Jx hY W ((hW.cell (p := ⟨Bn, 0, none⟩) hBn).trans hc) (hI.below (hW.mono h0)) h0'
end Go.Proofs.YtlefniheafefgaaGreatDoor

namespace Go.Proofs.YtlefniheafefgaaGreatDoor
open Go.RowKit Go.Shelf Go.Proofs.YtlefniheafefgaaGreatDoorW.PrintWords

attribute [local go_sem] Oper.semAt_some

/-- The first difference of the lowest m limbs, from the highest one on; 0 if there is none. -/
def ordN (xs ys : List Int) : Nat → Int
  | 0 => 0
  | m + 1 => if xs[m]?.getD 0 = ys[m]?.getD 0 then ordN xs ys m else wrap64 (xs[m]?.getD 0 - ys[m]?.getD 0)
def ordL (xs ys : List Int) : Int := if xs.length = ys.length then ordN xs ys xs.length else (xs.length : Int) - ys.length

theorem RI.other {n₀ : Nat} {W W1 : World} {A : Option Addr} {n : Nat} {xs : List Int} (h : RI n₀ W A n xs) (hc : ∀ a v, a.block < n₀ → W.cell? a = some v → W1.cell? a = some v) : RI n₀ W1 A n xs :=
  ⟨h.1, h.2.1, fun hn => by
    obtain ⟨ad, e, hlt, hcc⟩ := h.2.2 hn
    exact ⟨ad, e, hlt, fun j hj => hc _ _ (by rw [add_block]; exact hlt) (hcc j hj)⟩⟩

theorem bwl_prefix {n : Nat} {pre : List (Fin n)} (h : pre <+: bwl n n) : pre = bwl n pre.length := by
  have hl : pre.length ≤ n := by have := h.length_le; rwa [bwl_len n n (Nat.le_refl _)] at this
  have h2 := bwl_mono n pre.length (n - pre.length)
  rw [show pre.length + (n - pre.length) = n from by omega] at h2
  have e := List.prefix_of_prefix_length_le h h2 (by rw [bwl_len n _ hl]; exact Nat.le_refl _)
  exact e.eq_of_length (by rw [bwl_len n _ hl])
theorem bwl_last {n : Nat} {pre : List (Fin n)} {x : Fin n} (h : (pre ++ [x]) <+: bwl n n) : pre = bwl n pre.length ∧ x.val = n - 1 - pre.length ∧ pre.length < n := by
  have hl : (pre ++ [x]).length ≤ n := by have := h.length_le; rwa [bwl_len n n (Nat.le_refl _)] at this
  have e := bwl_prefix h
  simp only [List.length_append, List.length_cons, List.length_nil] at e hl
  rw [bwl_step n pre.length (by omega)] at e
  obtain ⟨e1, e2⟩ := List.append_inj' e rfl
  refine ⟨e1, ?_, by omega⟩
  simp only [List.cons.injEq, and_true] at e2
  rw [e2]
theorem ordN_eqs (xs ys : List Int) (n : Nat) : ∀ k, k ≤ n → (∀ i ∈ bwl n k, xs[i.val]?.getD 0 = ys[i.val]?.getD 0) → ordN xs ys n = ordN xs ys (n - k)
  | 0, _, _ => rfl
  | k + 1, hk, h => by
    rw [ordN_eqs xs ys n k (by omega) (fun i hi => h i (by rw [bwl_step n k (by omega)]; exact List.mem_append_left _ hi))]
    have := h ⟨n - 1 - k, by omega⟩ (by rw [bwl_step n k (by omega)]; simp)
    dsimp only at this
    rw [show n - k = (n - 1 - k) + 1 from by omega, ordN, if_pos this, show n - (k + 1) = n - 1 - k from by omega]
theorem ordN_stop (xs ys : List Int) (n : Nat) (pre : List (Fin n)) (x : Fin n) (h : (pre ++ [x]) <+: bwl n n) (he : ∀ i ∈ pre, xs[i.val]?.getD 0 = ys[i.val]?.getD 0) (hx : ¬ xs[x.val]?.getD 0 = ys[x.val]?.getD 0) :
    ordN xs ys n = wrap64 (xs[x.val]?.getD 0 - ys[x.val]?.getD 0) := by
  obtain ⟨e1, e2, e3⟩ := bwl_last h
  rw [ordN_eqs xs ys n pre.length (by omega) (by rw [← e1]; exact he)]
  rw [show n - pre.length = x.val + 1 from by omega, ordN, if_neg hx]

set_option maxRecDepth 100000 in
set_option maxHeartbeats 4000000 in
theorem order_eq (A1 A2 : Option Addr) (n c1 c2 : Nat) (xs ys : List Int) (w : World) (hx : RI w.heap.size w A1 n xs) (hy : RI w.heap.size w A2 n ys) :
    Calls Tryz.prog 75 #[.slice A1 n c1, .slice A2 n c2] w fun e W' => e = .returned (.int .i64 (ordN xs ys n)) ∧ Below w.heap.size w W' := by
  have hmax := hx.2.1
  refine (callsIn_wide (n := 8)).1 ?_
  have hro : Fence.wide.round = none := rfl
  have h1 : 1 ≤ 8 := by omega
  refine callsIn_of_wp_marks Tryz.func75 rfl trivial ?_ hro
  simp only [Tryz.ntmps75, List.size_toArray, List.length_cons, List.length_nil, Nat.reduceAdd, Nat.reduceSub, Array.replicate_succ, Array.replicate_zero, List.push_toArray, List.append_toArray, List.nil_append, List.cons_append]
  have HX := Lib.hid hx
  have HY := Lib.hid hy
  clear hx hy
  gi_wp2_with (refine ⟨trivial, ?_⟩; gi_at_call 89; refine (bwd_in Fence.wide (8 - 1) trivial hro _ _ _ _).mono ?_; rintro e w' ⟨rfl, rfl⟩)
  have bY := ((Boxed.new w 63 (.slice A2 n c2)).alloc (.cells #[.int .i64 0] 3)).alloc (.cells #[.slice A1 n c1] 63)
  have bR := (Boxed.new (w.alloc (.cells #[.slice A2 n c2] 63)) 3 (.int .i64 0)).alloc (.cells #[.slice A1 n c1] 63)
  have bX := Boxed.new ((w.alloc (.cells #[.slice A2 n c2] 63)).alloc (.cells #[.int .i64 0] 3)) 63 (.slice A1 n c1)
  simp only [World.size_alloc] at bY bR bX
  have hB0 : Below w.heap.size w (((w.alloc (.cells #[.slice A2 n c2] 63)).alloc (.cells #[.int .i64 0] 3)).alloc (.cells #[.slice A1 n c1] 63)) := (((Below.refl _ w).alloc (Nat.le_refl _) _).alloc (by simp) _).alloc (by simp; omega) _
  have hsz : (((w.alloc (.cells #[.slice A2 n c2] 63)).alloc (.cells #[.int .i64 0] 3)).alloc (.cells #[.slice A1 n c1] 63)).heap.size = w.heap.size + 3 := by simp
  obtain ⟨W0, hW0⟩ : ∃ W0, ((w.alloc (.cells #[.slice A2 n c2] 63)).alloc (.cells #[.int .i64 0] 3)).alloc (.cells #[.slice A1 n c1] 63) = W0 := ⟨_, rfl⟩
  rw [hW0] at bY bR bX hB0 hsz ⊢
  clear hW0
  refine wpIn_rangeFunc_ownF hro h1 (gf := 110) (lb := #[.pointer (some ⟨w.heap.size + 1 + 1, 0, none⟩)]) rfl trivial (enters_of Tryz.func110 (by kernel_rfl) rfl)
    (bwd_stops Fence.wide (8 - 1) trivial hro (by omega) (w.heap.size + 1 + 1) w.heap.size A1 n c1 xs W0 (by omega) (by omega) bX.cell (HX.out.below hB0)) kpB_t (kpB_b (by omega) (by omega)) (Below.refl _ _) (fun _ => rfl)
    (fun pre W => ((Boxed W w.heap.size 63 (.slice A2 n c2) ∧ Boxed W (w.heap.size + 1) 3 (.int .i64 0)) ∧ (∀ i ∈ pre, xs[i.val]?.getD 0 = ys[i.val]?.getD 0)) ∧ Below w.heap.size w W)
    (fun c pre W => (Boxed W (w.heap.size + 1) 3 (.int .i64 (ordN xs ys n)) ∨ ¬ pre <+: bwl n n) ∧ c = .ret ∧ Below w.heap.size w W)
    (OwnFrom.and (OwnFrom.and (OwnFrom.and (Own.from (boxed_own _ _ _) _) (Own.from (boxed_own _ _ _) _)) (ownFrom_pure _ _)) (ownFrom_below (Nat.le_refl _) (by omega)))
    (fun c => OwnFrom.and (fun s A B row hs hg hr => hs.elim (fun hb => .inl (boxed_own (w.heap.size + 1) 3 (fun (_ : Unit) => Value.int .i64 (ordN xs ys n)) () A B row hb hg (fun r e => (hr r e).2))) .inr) (OwnFrom.and (ownFrom_pure _ _) (ownFrom_below (Nat.le_refl _) (by omega))))
    ⟨⟨⟨bY, bR⟩, fun i hi => by cases hi⟩, hB0⟩
    (fun x => { tmps := #[.slice A1 n c1, .slice A2 n c2, undef, .pointer (some ⟨w.heap.size, 0, none⟩), .pointer (some ⟨w.heap.size + 1, 0, none⟩), .int .i64 (x.val : Int), .int .i64 (xs[x.val]?.getD 0), .slice A1 n c1, .int .i64 (n : Int), .slice A2 n c2, .int .i64 (n : Int), .bool false, undef, undef, undef, undef, undef, .slice A1 n c1, .func (.func 110) #[] #[.pointer (some ⟨w.heap.size + 1 + 1, 0, none⟩)], .int .i64 (x.val : Int), .int .i64 (xs[x.val]?.getD 0), undef, undef, undef, undef, undef, undef, undef, undef, undef, undef, undef, undef], defers := [] }) ?assign ?body ?done ?stop
  case assign =>
    intro l x W K hK
    gi_wp2
    exact hK
  case body =>
    rintro l pre x W ⟨⟨⟨bY1, bR1⟩, hall⟩, hB1⟩ hlt
    obtain ⟨ad, rfl, hb0, hc⟩ := HY.out.2.2 (by have := x.isLt; omega)
    have hcy : W.cell? (ad.add x.val) = some (.int .i64 (ys[x.val]?.getD 0)) := (hB1.cell (p := ad.add x.val) (by rw [add_block]; exact hb0)).trans (hc x.val x.isLt)
    have cY := bY1.cell
    have cR := bR1.cell
    have fR := bR1.frozen
    have hxlt := x.isLt
    clear hc
    by_cases he : xs[x.val]?.getD 0 = ys[x.val]?.getD 0
    · have e1 : (xs[x.val]?.getD 0 != ys[x.val]?.getD 0) = false := by simpa using he
      have e2 : (xs[x.val]?.getD 0 == ys[x.val]?.getD 0) = true := by simpa using he
      have He := Lib.hid he
      clear he
      gi_wp2
      exact ⟨KeepsOthers.refl _, ⟨KeepB.refl _ _, Below.refl _ _⟩, ⟨⟨bY1, bR1⟩, fun i hi => by
        rcases List.mem_append.1 hi with h | h
        · exact hall i h
        · simp only [List.mem_cons, List.not_mem_nil, or_false] at h
          rw [h]; exact He.out⟩, hB1⟩
    · have e1 : (xs[x.val]?.getD 0 != ys[x.val]?.getD 0) = true := by simpa using he
      have e2 : (xs[x.val]?.getD 0 == ys[x.val]?.getD 0) = false := by simpa using he
      have hend : Hid (Boxed (W.setCell ⟨w.heap.size + 1, 0, none⟩ (.int .i64 (wrap64 (xs[x.val]?.getD 0 - ys[x.val]?.getD 0)))) (w.heap.size + 1) 3 (.int .i64 (ordN xs ys n)) ∨ ¬ (pre ++ [x]) <+: bwl n n) := by
        by_cases hp : (pre ++ [x]) <+: bwl n n
        · left
          rw [ordN_stop xs ys n pre x hp hall he]
          exact bR1.set _
        · exact .inr hp
      clear he hall
      gi_wp2
      exact ⟨KeepsOthers.setCell _ _ _, hend.out, rfl, hB1.setCell (p := ⟨w.heap.size + 1, 0, none⟩) (by simp) _⟩
  case done =>
    rintro D zs W hD rfl ⟨⟨⟨bY1, bR1⟩, hall⟩, hB1⟩ hK
    have hz := ordN_eqs xs ys n n (Nat.le_refl _) hall
    rw [Nat.sub_self] at hz
    have cR := bR1.cell
    have fR := bR1.frozen
    have Hz := Lib.hid hz
    clear hz hall
    have hK2 : (W.setCell ⟨w.heap.size + 1, 0, none⟩ (.int .i64 0)).heap[D]? = some (.deferred (some [])) := (KeepsOthers.setCell W _ _).same D _ hK rfl
    have bR2 := (boxed_own (w.heap.size + 1) 3 (fun (_ : Unit) => Value.int .i64 0) () _ _ _ (bR1.set (.int .i64 0)) (grownBy_putObj' _ D (.deferred none)) (fun r e => by cases e; exact ⟨_, hK2, rfl⟩))
    have cR2 := bR2.cell
    gi_wp2
    refine ⟨by simp, .inl ⟨_, _, rfl, run_takeDeferred hK2, ?_⟩⟩
    exact ⟨_, by simp [results, Tryz.results75, go_sem, cR2]; rfl, by rw [Hz.out]; rfl, (hB1.setCell (p := ⟨w.heap.size + 1, 0, none⟩) (by simp) _).trans (belowK_b (w := w) (Nat.le_refl _) _ D _ _ (by omega) hK2 rfl rfl)⟩
  case stop =>
    rintro D c pre W hD hpre ⟨hr, rfl, hB1⟩ hK
    have bR1 : Boxed W (w.heap.size + 1) 3 (.int .i64 (ordN xs ys n)) := by
      rcases hr with h | h
      · exact h
      · exact absurd hpre h
    clear hr
    have bR2 := (boxed_own (w.heap.size + 1) 3 (fun (_ : Unit) => Value.int .i64 (ordN xs ys n)) () _ _ _ bR1 (grownBy_putObj' _ D (.deferred none)) (fun r e => by cases e; exact ⟨_, hK, rfl⟩))
    have cR2 := bR2.cell
    gi_wp2
    refine ⟨by simp, .inl ⟨_, _, rfl, run_takeDeferred hK, ?_⟩⟩
    exact ⟨_, by simp [results, Tryz.results75, go_sem, cR2], rfl, hB1.trans (belowK_b (w := w) (Nat.le_refl _) _ D _ _ (by omega) hK rfl rfl)⟩

set_option maxRecDepth 100000 in
set_option maxHeartbeats 2000000 in
theorem order_ne (A1 A2 : Option Addr) (n1 n2 c1 c2 : Nat) (w : World) (h1 : n1 ≤ 9223372036854775807) (h2 : n2 ≤ 9223372036854775807) (h : n1 ≠ n2) :
    Calls Tryz.prog 75 #[.slice A1 n1 c1, .slice A2 n2 c2] w fun e W' => e = .returned (.int .i64 ((n1 : Int) - n2)) ∧ Below w.heap.size w W' := by
  have e1 : ((n1 : Int) != (n2 : Int)) = true := by rw [bne_iff_ne]; omega
  have e2 : ((n1 : Int) == (n2 : Int)) = false := by rw [beq_eq_false_iff_ne]; omega
  have e3 : (n1 != n2) = true := by rw [bne_iff_ne]; omega
  have e4 : (n1 == n2) = false := by rw [beq_eq_false_iff_ne]; omega
  go_enter Tryz.func75, Tryz.ntmps75
  go_wp2
  exact bodyPost_ret (v := .int .i64 ((n1 : Int) - n2)) (by simp [results, Tryz.results75, go_sem]) rfl ⟨rfl, ((Below.refl _ _).alloc (Nat.le_refl _) _).alloc (by simp) _⟩

/-- The order of two magnitudes. -/
theorem order_any (A1 A2 : Option Addr) (n1 n2 c1 c2 : Nat) (xs ys : List Int) (w : World) (hx : RI w.heap.size w A1 n1 xs) (hy : RI w.heap.size w A2 n2 ys) :
    Calls Tryz.prog 75 #[.slice A1 n1 c1, .slice A2 n2 c2] w fun e W' => e = .returned (.int .i64 (ordL xs ys)) ∧ Below w.heap.size w W' := by
  unfold ordL
  by_cases h : n1 = n2
  · subst h
    rw [if_pos (hx.1.trans hy.1.symm), hx.1]
    exact order_eq A1 A2 n1 c1 c2 xs ys w hx hy
  · rw [if_neg (by rw [hx.1, hy.1]; exact h), hx.1, hy.1]
    exact order_ne A1 A2 n1 n2 c1 c2 w hx.2.1 hy.2.1 h
end Go.Proofs.YtlefniheafefgaaGreatDoor

namespace Go.Proofs.YtlefniheafefgaaGreatDoor
open Go.RowKit Go.Shelf Go.Proofs.YtlefniheafefgaaGreatDoorW.PrintWords

/-- How many limbs are left. -/
def tlen (xs : List Int) : Nat → Nat
  | 0 => 0
  | m + 1 => if xs[m]?.getD 0 = 0 then tlen xs m else m + 1
theorem tlen_le (xs : List Int) : ∀ m, tlen xs m ≤ m
  | 0 => Nat.le_refl _
  | m + 1 => by unfold tlen; split; exact Nat.le_succ_of_le (tlen_le xs m); exact Nat.le_refl _
/-- A magnitude without zeros at its end. -/
def tl (xs : List Int) : List Int := xs.take (tlen xs xs.length)

def sliceLen : Value → Nat
  | .slice _ n _ => n
  | _ => 0

set_option maxRecDepth 100000 in
set_option maxHeartbeats 2000000 in
theorem trim_any (A : Option Addr) (n c : Nat) (xs : List Int) (w : World) (hr : ReadsInt w .i64 A n xs) (hnc : n ≤ c) (hc : c ≤ 9223372036854775807) :
    Calls Tryz.prog 69 #[.slice A n c] w fun e w' => e = .returned (.slice A (tlen xs n) c) ∧ w' = w := by
  have hmax := hr.2.1
  have HR := Lib.hid hr
  clear hr
  go_enter Tryz.func69, Tryz.ntmps69
  go_wp2
  go_loop [0] (fun v => ∃ m : Nat, m ≤ n ∧ v = .slice A m c ∧ tlen xs n = tlen xs m) (fun v => sliceLen v)
  case atStart => exact ⟨n, Nat.le_refl _, rfl, rfl⟩
  case round =>
    obtain ⟨m, hm, rfl, ht⟩ := hrel
    have Ht := Lib.hid ht
    clear ht
    by_cases h0 : m = 0
    · subst h0
      have hz : Hid (tlen xs 0 = 0) := rfl
      go_wp2
      go_ret
      exact ⟨by rw [Ht.out, hz.out]; rfl, rfl⟩
    · obtain ⟨j, rfl⟩ : ∃ j, m = j + 1 := ⟨m - 1, by omega⟩
      obtain ⟨ad, rfl, hcell⟩ := HR.out.2.2 (by omega)
      have hcj : w.cell? (ad.add j) = some (.int .i64 (xs[j]?.getD 0)) := by rw [hcell j (by omega), List.getD_eq_getElem?_getD]
      clear hcell
      by_cases hz : xs[j]?.getD 0 = 0
      · have e1 : (xs[j]?.getD 0 == 0) = true := by simpa using hz
        have hs : Hid (tlen xs (j + 1) = tlen xs j) := by show tlen xs (j + 1) = tlen xs j; rw [tlen, if_pos hz]
        clear hz
        go_wp2
        all_goals
          go_round
          case rel => exact ⟨j, by omega, by simp, by rw [Ht.out, hs.out]⟩
          case measure => simp [sliceLen]
      · have e1 : (xs[j]?.getD 0 == 0) = false := by simpa using hz
        have hs : Hid (tlen xs (j + 1) = j + 1) := by show tlen xs (j + 1) = j + 1; rw [tlen, if_neg hz]
        clear hz
        go_wp2
        go_ret
        exact ⟨by rw [Ht.out, hs.out]; rfl, rfl⟩
end Go.Proofs.YtlefniheafefgaaGreatDoor
