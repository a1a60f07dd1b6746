/- Short steps of walks: what is kept over a call, what a made block says. -/
import Derived.Test.YtnagmogjhfdmlaaGreatDoorLWMore
import Derived.Test.YtnagmogjhfdmlaaGreatDoorLWLast
import Derived.Test.YtnagmogjhfdmlaaGreatDoorLWWords
set_option linter.unusedVariables false
namespace Go.Proofs.YtnagmogjhfdmlaaGreatDoorW.PrintWords
open Go.RowKit
/-- A block over a call. -/
theorem pkK {W0 W W' : World} {g : Nat} {o : Obj} (B : Aside0 (W0.heap[g]? = some o)) (hb : Below W.heap.size W W') (h : W0.heap[g]? = some o → W.heap[g]? = some o := by intro h_; (with_reducible repeat (first | refine blk_drewN ?_ _ | refine blk_drew ?_ | refine blk_alloc ?_ _)); exact h_) : Aside0 (W'.heap[g]? = some o) := ⟨blk_below (h B.out) hb⟩
/-- A block in a later world. -/
theorem pkW {W0 W : World} {g : Nat} {o : Obj} (B : Aside0 (W0.heap[g]? = some o)) (h : W0.heap[g]? = some o → W.heap[g]? = some o := by intro h_; (with_reducible repeat (first | refine blk_drewN ?_ _ | refine blk_drew ?_ | refine blk_alloc ?_ _)); exact h_) : W.heap[g]? = some o := h B.out
/-- What lies above, in a later world. -/
theorem pkL {w W0 W : World} (B : Aside0 (Below w.heap.size w W0)) (h : Below w.heap.size w W0 → Below w.heap.size w W := by intro h_; repeat (first | (with_reducible first | exact h_ | apply below_alloc | apply pw_below_drewN | apply below_drew1 | refine below_set ?_ (Aside0.out (by assumption))) | exact h_)) : Below w.heap.size w W := h B.out
/-- What lies above, over a call. -/
theorem pkB {w W0 W W' : World} (B : Aside0 (Below w.heap.size w W0)) (hb : Below W.heap.size W W') (h : Below w.heap.size w W0 → Below w.heap.size w W := by intro h_; repeat (first | (with_reducible first | exact h_ | apply below_alloc | apply pw_below_drewN | apply below_drew1 | refine below_set ?_ (Aside0.out (by assumption))) | exact h_)) : Aside0 (Below w.heap.size w W') := ⟨below_step (h B.out) hb⟩
/-- A new block lies above. -/
theorem pkG {w W0 W : World} {g : Nat} (B : Aside0 (Below w.heap.size w W0)) (hg : g = W.heap.size) (h : Below w.heap.size w W0 → Below w.heap.size w W := by intro h_; repeat (first | (with_reducible first | exact h_ | apply below_alloc | apply pw_below_drewN | apply below_drew1 | refine below_set ?_ (Aside0.out (by assumption))) | exact h_)) : Aside0 (w.heap.size ≤ g) := ⟨by rw [hg]; exact below_size (h B.out)⟩
/-- A new block is none of the elder ones. -/
theorem pkN {W0 W : World} {g g' : Nat} {o : Obj} (B : Aside0 (W0.heap[g]? = some o)) (hg : g' = W.heap.size) (h : W0.heap[g]? = some o → W.heap[g]? = some o := by intro h_; (with_reducible repeat (first | refine blk_drewN ?_ _ | refine blk_drew ?_ | refine blk_alloc ?_ _)); exact h_) : Aside0 (g ≠ g') := ⟨by rw [hg]; exact Nat.ne_of_lt (blk_lt (h B.out))⟩
theorem pkM {W0 W : World} {g g' : Nat} {o : Obj} (B : Aside0 (W0.heap[g]? = some o)) (hg : g' = W.heap.size) (h : W0.heap[g]? = some o → W.heap[g]? = some o := by intro h_; (with_reducible repeat (first | refine blk_drewN ?_ _ | refine blk_drew ?_ | refine blk_alloc ?_ _)); exact h_) : Aside0 (g' ≠ g) := ⟨by rw [hg]; exact Nat.ne_of_gt (blk_lt (h B.out))⟩
/-- The end of a walk. -/
theorem pkE {w W0 W : World} {e v : Ending} (B : Aside0 (Below w.heap.size w W0)) (h1 : e = v := by first | rfl | (simp [errW_none, errW_some] <;> rfl) | (simp [*, errW_none, errW_some] <;> rfl)) (h : Below w.heap.size w W0 → Below w.heap.size w W := by intro h_; repeat (first | (with_reducible first | exact h_ | apply below_alloc | apply pw_below_drewN | apply below_drew1 | refine below_set ?_ (Aside0.out (by assumption))) | exact h_)) : e = v ∧ Below w.heap.size w W := ⟨h1, h B.out⟩
/-- Cells of a block. -/
theorem pk3 {W : World} {g : Nat} {t : TypeId} {a b c : Value} (B : Aside0 (W.heap[g]? = some (.cells #[a, b, c] t (0, 0)))) : (W.cell? ⟨g, 0, none⟩ = some a ∧ W.cell? ⟨g, 1, none⟩ = some b ∧ W.cell? ⟨g, 2, none⟩ = some c) ∧ W.frozen? ⟨g, 0, none⟩ = false ∧ W.frozen? ⟨g, 1, none⟩ = false ∧ W.frozen? ⟨g, 2, none⟩ = false :=
  ⟨⟨(blk_cell B.out 0).trans rfl, (blk_cell B.out 1).trans rfl, (blk_cell B.out 2).trans rfl⟩, blk_frozen B.out 0, blk_frozen B.out 1, blk_frozen B.out 2⟩
/-- Stores into the three cells of a block. -/
theorem blk_p0 {w : World} {g : Nat} {t : TypeId} {x a b c : Value} (h : w.heap[g]? = some (.cells #[x, b, c] t (0, 0))) : (w.setCell ⟨g, 0, none⟩ a).heap[g]? = some (.cells #[a, b, c] t (0, 0)) := blk_put h 0 a rfl
theorem blk_p1 {w : World} {g : Nat} {t : TypeId} {x a b c : Value} (h : w.heap[g]? = some (.cells #[a, x, c] t (0, 0))) : (w.setCell ⟨g, 1, none⟩ b).heap[g]? = some (.cells #[a, b, c] t (0, 0)) := blk_put h 1 b rfl
theorem blk_p2 {w : World} {g : Nat} {t : TypeId} {x a b c : Value} (h : w.heap[g]? = some (.cells #[a, b, x] t (0, 0))) : (w.setCell ⟨g, 2, none⟩ c).heap[g]? = some (.cells #[a, b, c] t (0, 0)) := blk_put h 2 c rfl
theorem pkS3 {W0 W : World} {g : Nat} {t : TypeId} {x y z a b c : Value} (B : Aside0 (W0.heap[g]? = some (.cells #[x, y, z] t (0, 0)))) (h : W0.heap[g]? = some (.cells #[x, y, z] t (0, 0)) → W.heap[g]? = some (.cells #[a, b, c] t (0, 0)) := by intro h_; repeat (first | (with_reducible first | exact h_ | apply blk_p2 | apply blk_p1 | apply blk_p0 | refine blk_drewN ?_ _ | refine blk_drew ?_ | refine blk_alloc ?_ _) | refine blk_far ?_ (Aside0.out (by assumption)) _)) : W.heap[g]? = some (.cells #[a, b, c] t (0, 0)) := h B.out
theorem blk_r0 {w : World} {g : Nat} {t : TypeId} {x a b : Value} (h : w.heap[g]? = some (.cells #[x, b] t (0, 0))) : (w.setCell ⟨g, 0, none⟩ a).heap[g]? = some (.cells #[a, b] t (0, 0)) := blk_put h 0 a rfl
theorem blk_r1 {w : World} {g : Nat} {t : TypeId} {x a b : Value} (h : w.heap[g]? = some (.cells #[a, x] t (0, 0))) : (w.setCell ⟨g, 1, none⟩ b).heap[g]? = some (.cells #[a, b] t (0, 0)) := blk_put h 1 b rfl
theorem pkS2 {W0 W : World} {g : Nat} {t : TypeId} {x0 x1 a b : Value} (B : Aside0 (W0.heap[g]? = some (.cells #[x0, x1] t (0, 0)))) (h : W0.heap[g]? = some (.cells #[x0, x1] t (0, 0)) → W.heap[g]? = some (.cells #[a, b] t (0, 0)) := by intro h_; repeat (first | (with_reducible first | exact h_ | apply blk_r1 | apply blk_r0 | refine blk_drewN ?_ _ | refine blk_drew ?_ | refine blk_alloc ?_ _) | refine blk_far ?_ (Aside0.out (by assumption)) _)) : W.heap[g]? = some (.cells #[a, b] t (0, 0)) := h B.out
theorem blk_q0 {w : World} {g : Nat} {t : TypeId} {x a b c d : Value} (h : w.heap[g]? = some (.cells #[x, b, c, d] t (0, 0))) : (w.setCell ⟨g, 0, none⟩ a).heap[g]? = some (.cells #[a, b, c, d] t (0, 0)) := blk_put h 0 a rfl
theorem blk_q1 {w : World} {g : Nat} {t : TypeId} {x a b c d : Value} (h : w.heap[g]? = some (.cells #[a, x, c, d] t (0, 0))) : (w.setCell ⟨g, 1, none⟩ b).heap[g]? = some (.cells #[a, b, c, d] t (0, 0)) := blk_put h 1 b rfl
theorem blk_q2 {w : World} {g : Nat} {t : TypeId} {x a b c d : Value} (h : w.heap[g]? = some (.cells #[a, b, x, d] t (0, 0))) : (w.setCell ⟨g, 2, none⟩ c).heap[g]? = some (.cells #[a, b, c, d] t (0, 0)) := blk_put h 2 c rfl
theorem blk_q3 {w : World} {g : Nat} {t : TypeId} {x a b c d : Value} (h : w.heap[g]? = some (.cells #[a, b, c, x] t (0, 0))) : (w.setCell ⟨g, 3, none⟩ d).heap[g]? = some (.cells #[a, b, c, d] t (0, 0)) := blk_put h 3 d rfl
theorem pkS4 {W0 W : World} {g : Nat} {t : TypeId} {x0 x1 x2 x3 a b c d : Value} (B : Aside0 (W0.heap[g]? = some (.cells #[x0, x1, x2, x3] t (0, 0)))) (h : W0.heap[g]? = some (.cells #[x0, x1, x2, x3] t (0, 0)) → W.heap[g]? = some (.cells #[a, b, c, d] t (0, 0)) := by intro h_; repeat (first | (with_reducible first | exact h_ | apply blk_q3 | apply blk_q2 | apply blk_q1 | apply blk_q0 | refine blk_drewN ?_ _ | refine blk_drew ?_ | refine blk_alloc ?_ _) | refine blk_far ?_ (Aside0.out (by assumption)) _)) : W.heap[g]? = some (.cells #[a, b, c, d] t (0, 0)) := h B.out
end Go.Proofs.YtnagmogjhfdmlaaGreatDoorW.PrintWords
