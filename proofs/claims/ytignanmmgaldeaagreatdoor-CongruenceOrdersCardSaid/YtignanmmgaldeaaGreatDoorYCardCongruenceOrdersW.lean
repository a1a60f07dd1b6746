/- Lemmas for the proof. -/
import Derived.Test.YtignanmmgaldeaaGreatDoorYB
set_option linter.unusedVariables false
set_option linter.unusedSimpArgs false
namespace Go.Proofs.YtignanmmgaldeaaGreatDoorW.PrintWords
open Go.RowKit
namespace Kd
section
variable {α:Type} {d:Kd α} {e:Nat} {w w1:World} {base:Nat} {ok ok':Nat→Prop} {v:Value} {xs:List α}
theorem iY(h:d.R e w base ok v xs){p:Addr}(hok:∀k,ok k→k≠p.block)(u:Value):d.R e (w.setCell p u) base ok v xs:=aC4 h (fun k ho _=>Below.heap_setCell w p u k (hok k ho))
end
end Kd
namespace Kd
section
variable {α:Type} {d:Kd α} {e base g:Nat} {ok:Nat→Prop} {w w1:World} {v:Value} {xs:List α} {o:Obj}
theorem nG(h:d.R e w base ok v xs)(a:Nat)(ha:w.heap.size≤a):d.R e w base (fun k=>ok k∧k≠a) v xs:=dK (pO h) (fun k hk=>⟨hk.1,by have:=hk.2.2.1;omega⟩)
theorem qR(h:d.R e w1 w.heap.size ok v xs)(hb:w.heap[g]? =some o):d.R e w1 w.heap.size (fun k=>ok k∧k≠g) v xs:=dK (pO h) (fun k hk=>⟨hk.1,by have:=pX hb;have:=hk.2.1;omega⟩)
end
end Kd
end Go.Proofs.YtignanmmgaldeaaGreatDoorW.PrintWords
