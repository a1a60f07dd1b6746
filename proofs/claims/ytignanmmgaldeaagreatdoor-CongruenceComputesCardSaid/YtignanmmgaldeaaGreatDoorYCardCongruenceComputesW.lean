/- Lemmas for the proof. -/
import Derived.Test.YtignanmmgaldeaaGreatDoorYG
section
set_option linter.unusedVariables false
set_option linter.unusedSimpArgs false
namespace Go.Proofs.YtignanmmgaldeaaGreatDoorW.PrintWords
open Go.RowKit
namespace Kd
section
variable {α:Type} {d:Kd α} {e:Nat} {w w1:World} {base:Nat} {ok ok':Nat→Prop} {v:Value} {xs:List α}
theorem iY(h:d.R e w base ok v xs){p:Addr}(hok:∀k,ok k→k≠p.block)(u:Value):d.R e (w.setCell p u) base ok v xs:=aC4 h (fun k ho _=>Below.heap_setCell w p u k (hok k ho))
end
end Kd
namespace Kd
section
variable {α:Type} {d:Kd α} {e base g:Nat} {ok:Nat→Prop} {w w1:World} {v:Value} {xs:List α} {o:Obj}
theorem nG(h:d.R e w base ok v xs)(a:Nat)(ha:w.heap.size≤a):d.R e w base (fun k=>ok k∧k≠a) v xs:=dK (pO h) (fun k hk=>⟨hk.1,by have:=hk.2.2.1;omega⟩)
theorem qR(h:d.R e w1 w.heap.size ok v xs)(hb:w.heap[g]? =some o):d.R e w1 w.heap.size (fun k=>ok k∧k≠g) v xs:=dK (pO h) (fun k hk=>⟨hk.1,by have:=pX hb;have:=hk.2.1;omega⟩)
end
end Kd
end Go.Proofs.YtignanmmgaldeaaGreatDoorW.PrintWords
end
section
namespace Go.Proofs.YtignanmmgaldeaaGreatDoorW.PrintWords
theorem Reps.front{α:Type}{R:α→List Value→Prop}{size:Nat}{ps:List α}{cs c all:List Value}{p:α}(hp:R p c)(hc:c.length=size)(h:Reps R size ps cs)(ha:c++cs=all):Reps R size (p::ps) all:=by
 subst ha;refine⟨by rw[List.length_append,hc,h.1,List.length_cons,Nat.succ_mul,Nat.add_comm],fun j q hq=> ?_⟩
 cases j with
 |zero=>
  simp only[List.getElem?_cons_zero,Option.some.injEq] at hq;subst hq;rw[Nat.zero_mul,List.drop_zero,List.take_append_of_le_length aFx,List.take_of_length_le aFx];exact hp
 |succ j=>
  simp only[List.getElem?_cons_succ] at hq;have h1:=h.2 j q hq;rw[Nat.succ_mul,List.drop_append,List.drop_of_length_le (by rw[hc];exact Nat.le_add_left _ _),List.nil_append,hc,Nat.add_sub_cancel];exact h1
theorem Reps.c3{α:Type}{R:α→List Value→Prop}{ps:List α}{cs:List Value}{p:α}{va vb vc:Value}(hp:R p [va,vb,vc])(h:Reps R 3 ps cs):Reps R 3 (p::ps) (va::vb::vc::cs):=Reps.front hp rfl h rfl
end Go.Proofs.YtignanmmgaldeaaGreatDoorW.PrintWords
end
section
set_option linter.unusedVariables false
namespace Go.Proofs.YtignanmmgaldeaaGreatDoorW.PrintWords
open Go.RowKit
theorem pkN{W0 W:World}{g g':Nat}{o:Obj}(B:aA (W0.heap[g]? =some o))(hg:g'=W.heap.size)(h:W0.heap[g]? =some o→W.heap[g]? =some o:=by intro h_;(with_reducible repeat(first|refine bH ?_ _|refine aK ?_|refine bG ?_ _));exact h_):aA (g≠g'):=⟨by rw[hg];exact Nat.ne_of_lt (pX (h B.out))⟩
theorem pkM{W0 W:World}{g g':Nat}{o:Obj}(B:aA (W0.heap[g]? =some o))(hg:g'=W.heap.size)(h:W0.heap[g]? =some o→W.heap[g]? =some o:=by intro h_;(with_reducible repeat(first|refine bH ?_ _|refine aK ?_|refine bG ?_ _));exact h_):aA (g'≠g):=⟨by rw[hg];exact Nat.ne_of_gt (pX (h B.out))⟩
end Go.Proofs.YtignanmmgaldeaaGreatDoorW.PrintWords
end
