/- Short steps of walks: blocks that lie apart from what is stored into. -/
import Derived.Test.YtnagmogjhfdmlaaGreatDoorLShort
set_option linter.unusedVariables false
namespace Go.Proofs.YtnagmogjhfdmlaaGreatDoorW.PrintWords
open Go.RowKit
/-- A block over a call, behind stores into other blocks. -/
theorem pkF {W0 W W' : World} {g : Nat} {t : TypeId} {cs : Array Value} (B : Aside0 (W0.heap[g]? = some (.cells cs t (0, 0)))) (hb : Below W.heap.size W W') (h : W0.heap[g]? = some (.cells cs t (0, 0)) → W.heap[g]? = some (.cells cs t (0, 0)) := by intro h_; repeat (first | (with_reducible first | exact h_ | refine blk_drewN ?_ _ | refine blk_drew ?_ | refine blk_alloc ?_ _) | refine blk_far ?_ (Aside0.out (by assumption)) _)) : Aside0 (W'.heap[g]? = some (.cells cs t (0, 0))) := ⟨blk_below (h B.out) hb⟩
/-- A new block is none of the elder ones: both ways, aside and plain. -/
theorem pkQ {W0 W : World} {g g' : Nat} {o : Obj} (B : Aside0 (W0.heap[g]? = some o)) (hg : g' = W.heap.size) (h : W0.heap[g]? = some o → W.heap[g]? = some o := by intro h_; (with_reducible repeat (first | refine blk_drewN ?_ _ | refine blk_drew ?_ | refine blk_alloc ?_ _)); exact h_) : Aside0 (g ≠ g') ∧ Aside0 (g' ≠ g) ∧ g' ≠ g ∧ g ≠ g' :=
  ⟨⟨by rw [hg]; exact Nat.ne_of_lt (blk_lt (h B.out))⟩, ⟨by rw [hg]; exact Nat.ne_of_gt (blk_lt (h B.out))⟩, by rw [hg]; exact Nat.ne_of_gt (blk_lt (h B.out)), by rw [hg]; exact Nat.ne_of_lt (blk_lt (h B.out))⟩
/-- Two ways. -/
theorem byC {P g : Prop} (h1 : P → g) (h2 : ¬P → g) : g := (Classical.em P).elim h1 h2
end Go.Proofs.YtnagmogjhfdmlaaGreatDoorW.PrintWords
