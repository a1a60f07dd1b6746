/- Short steps of walks: what is kept over a call, what a made block says. -/
import Derived.Test.YtignanmmgaldeaaGreatDoorLWMore
import Derived.Test.YtignanmmgaldeaaGreatDoorLWLast
import Derived.Test.YtignanmmgaldeaaGreatDoorLWWords
set_option linter.unusedVariables false
namespace Go.Proofs.YtignanmmgaldeaaGreatDoorW.PrintWords
open Go.RowKit
/-- What lies above, in a later world. -/
theorem pkL {w W0 W : World} (B : Aside0 (Below w.heap.size w W0)) (h : Below w.heap.size w W0 → Below w.heap.size w W := by intro h_; repeat (first | (with_reducible first | exact h_ | apply below_alloc | apply pw_below_drewN | apply below_drew1 | refine below_set ?_ (Aside0.out (by assumption))) | exact h_)) : Below w.heap.size w W := h B.out
/-- What lies above, over a call. -/
theorem pkB {w W0 W W' : World} (B : Aside0 (Below w.heap.size w W0)) (hb : Below W.heap.size W W') (h : Below w.heap.size w W0 → Below w.heap.size w W := by intro h_; repeat (first | (with_reducible first | exact h_ | apply below_alloc | apply pw_below_drewN | apply below_drew1 | refine below_set ?_ (Aside0.out (by assumption))) | exact h_)) : Aside0 (Below w.heap.size w W') := ⟨below_step (h B.out) hb⟩
/-- The end of a walk. -/
theorem pkE {w W0 W : World} {e v : Ending} (B : Aside0 (Below w.heap.size w W0)) (h1 : e = v := by first | rfl | (simp [errW_none, errW_some] <;> rfl) | (simp [*, errW_none, errW_some] <;> rfl)) (h : Below w.heap.size w W0 → Below w.heap.size w W := by intro h_; repeat (first | (with_reducible first | exact h_ | apply below_alloc | apply pw_below_drewN | apply below_drew1 | refine below_set ?_ (Aside0.out (by assumption))) | exact h_)) : e = v ∧ Below w.heap.size w W := ⟨h1, h B.out⟩
end Go.Proofs.YtignanmmgaldeaaGreatDoorW.PrintWords
