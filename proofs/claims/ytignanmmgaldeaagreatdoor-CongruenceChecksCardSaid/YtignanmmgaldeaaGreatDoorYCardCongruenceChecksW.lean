/- Lemmas for the proof. -/
import Derived.Test.YtignanmmgaldeaaGreatDoorYG
section
set_option linter.unusedVariables false
set_option linter.unusedSimpArgs false
namespace Go.Proofs.YtignanmmgaldeaaGreatDoorW.PrintWords
open Go.RowKit
namespace Kd
section
variable {α:Type} {d:Kd α} {e base g:Nat} {ok:Nat→Prop} {w w1:World} {v:Value} {xs:List α} {o:Obj}
theorem qR(h:d.R e w1 w.heap.size ok v xs)(hb:w.heap[g]? =some o):d.R e w1 w.heap.size (fun k=>ok k∧k≠g) v xs:=dK (pO h) (fun k hk=>⟨hk.1,by have:=pX hb;have:=hk.2.1;omega⟩)
end
end Kd
end Go.Proofs.YtignanmmgaldeaaGreatDoorW.PrintWords
end
section
namespace Go.Proofs.YtignanmmgaldeaaGreatDoorW.PrintWords
theorem Reps.front{α:Type}{R:α→List Value→Prop}{size:Nat}{ps:List α}{cs c all:List Value}{p:α}(hp:R p c)(hc:c.length=size)(h:Reps R size ps cs)(ha:c++cs=all):Reps R size (p::ps) all:=by
 subst ha;refine⟨by rw[List.length_append,hc,h.1,List.length_cons,Nat.succ_mul,Nat.add_comm],fun j q hq=> ?_⟩
 cases j with
 |zero=>
  simp only[List.getElem?_cons_zero,Option.some.injEq] at hq;subst hq;rw[Nat.zero_mul,List.drop_zero,List.take_append_of_le_length aFx,List.take_of_length_le aFx];exact hp
 |succ j=>
  simp only[List.getElem?_cons_succ] at hq;have h1:=h.2 j q hq;rw[Nat.succ_mul,List.drop_append,List.drop_of_length_le (by rw[hc];exact Nat.le_add_left _ _),List.nil_append,hc,Nat.add_sub_cancel];exact h1
theorem Reps.c3{α:Type}{R:α→List Value→Prop}{ps:List α}{cs:List Value}{p:α}{va vb vc:Value}(hp:R p [va,vb,vc])(h:Reps R 3 ps cs):Reps R 3 (p::ps) (va::vb::vc::cs):=Reps.front hp rfl h rfl
end Go.Proofs.YtignanmmgaldeaaGreatDoorW.PrintWords
end
