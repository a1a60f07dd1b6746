/- Lemmas for the proof. -/
import Derived.Test.YtignanmmgaldeaaGreatDoorYG
section
set_option linter.unusedVariables false
set_option linter.unusedSimpArgs false
namespace Go.Proofs.YtignanmmgaldeaaGreatDoorW.PrintWords
open Go.RowKit
namespace Kd
section
variable {α:Type} {d:Kd α} {e:Nat} {w w1:World} {base:Nat} {ok ok':Nat→Prop} {v:Value} {xs:List α}
theorem iY(h:d.R e w base ok v xs){p:Addr}(hok:∀k,ok k→k≠p.block)(u:Value):d.R e (w.setCell p u) base ok v xs:=aC4 h (fun k ho _=>Below.heap_setCell w p u k (hok k ho))
theorem R_types(h:d.R e w base ok v xs){g t:Nat}{cells:Array Value}(hb:w.heap[g]? =some (.cells cells t (0,0)))(ht:∀q,q∈e::d.E→q≠t):d.R e w base (fun k=>ok k∧k≠g) v xs:=
 dK (pO h) (fun k hk=>⟨hk.1,by
  obtain⟨_,_,_,q,hq,cells',hc⟩:=hk;rintro rfl;rw[hc] at hb
  injection hb with hb
  injection hb with _ hb
  exact ht q hq hb⟩)
end
end Kd
end Go.Proofs.YtignanmmgaldeaaGreatDoorW.PrintWords
end
section
set_option linter.unusedVariables false
namespace Go.Proofs.YtignanmmgaldeaaGreatDoorW.PrintWords
open Go.RowKit
theorem pkN{W0 W:World}{g g':Nat}{o:Obj}(B:aA (W0.heap[g]? =some o))(hg:g'=W.heap.size)(h:W0.heap[g]? =some o→W.heap[g]? =some o:=by intro h_;(with_reducible repeat(first|refine bH ?_ _|refine aK ?_|refine bG ?_ _));exact h_):aA (g≠g'):=⟨by rw[hg];exact Nat.ne_of_lt (pX (h B.out))⟩
theorem pkM{W0 W:World}{g g':Nat}{o:Obj}(B:aA (W0.heap[g]? =some o))(hg:g'=W.heap.size)(h:W0.heap[g]? =some o→W.heap[g]? =some o:=by intro h_;(with_reducible repeat(first|refine bH ?_ _|refine aK ?_|refine bG ?_ _));exact h_):aA (g'≠g):=⟨by rw[hg];exact Nat.ne_of_gt (pX (h B.out))⟩
end Go.Proofs.YtignanmmgaldeaaGreatDoorW.PrintWords
end
