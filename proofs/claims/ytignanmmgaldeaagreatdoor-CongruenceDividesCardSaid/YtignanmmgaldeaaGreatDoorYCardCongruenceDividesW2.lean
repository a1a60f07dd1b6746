/- Lemmas for the proof. -/
import Derived.Test.YtignanmmgaldeaaGreatDoorYCardCongruenceDividesW1
import Derived.Test.YtignanmmgaldeaaGreatDoorYK
section
set_option linter.unusedVariables false
set_option linter.unusedSimpArgs false
namespace Go.Proofs.YtignanmmgaldeaaGreatDoor.RefP
open Go.RowKit Go.Proofs.YtignanmmgaldeaaGreatDoor.PRefA Go.Proofs.YtignanmmgaldeaaGreatDoorW.PrintWords Go.Proofs.YtignanmmgaldeaaGreatDoorW.PrintLast
theorem nX(x:Int){m:Nat}(hx:Bd m x)(hm:1≤m):bI.f (text x)=some (sgnI x):=by
 unfold bI.f
 by_cases h:x=0
 ·rw[if_pos ((bK x).2 h),h];rfl
 ·rw[if_neg (fun q=>h ((bK x).1 q))]
  obtain⟨s,h1,h2,h3⟩:=qM x;have hne:=mV x.natAbs
  have hsz:0<(text x).size:=by
   rw[Lib.size_eq,h1,List.length_append];have:=List.length_pos_iff.2 hne;omega
  rw[pG _ hsz,Option.bind_some,h1];unfold sgnI;rcases h2 with rfl|rfl
  ·have hx0:¬x<0:=fun q=>by have:=h3.2 q;cases this
   have hp:Lib.hasPrefix ([]++Lib.decDigits x.natAbs) [45]=false:=by
    have hm:=lW x.natAbs;rw[List.nil_append];generalize Lib.decDigits x.natAbs=l at hm hne
    cases l with
    |nil=>exact absurd rfl hne
    |cons c r=>
     by_cases hc:c=45
     ·subst hc;exact absurd rfl (hm r)
     ·simp[Lib.hasPrefix,List.isPrefixOf,Ne.symm hc]
   rw[hp,if_neg aFz,if_neg hx0,if_neg h]
  ·have hx0:x<0:=h3.1 rfl
   have hp:Lib.hasPrefix ([45]++Lib.decDigits x.natAbs) [45]=true:=by simp[Lib.hasPrefix]
   rw[hp,if_pos rfl,if_pos hx0]
end Go.Proofs.YtignanmmgaldeaaGreatDoor.RefP
end
section
set_option linter.unusedVariables false
set_option linter.unusedSimpArgs false
set_option maxHeartbeats 8000000
set_option maxRecDepth 100000
namespace Go.Proofs.YtignanmmgaldeaaGreatDoor.PRefA
open Go.RowKit Go.Proofs.YtignanmmgaldeaaGreatDoor.RefP Go.Proofs.YtignanmmgaldeaaGreatDoorW.PrintWords Go.Proofs.YtignanmmgaldeaaGreatDoorW.PrintLast Go.Proofs.YtignanmmgaldeaaGreatDoorW.PrintMore
attribute [local go_sem] dQ dR eH eP
def aZ.l0:Nat→ByteArray→ByteArray→Option (ByteArray)
 |0,_,_=>none
 |k+1,x5,x6=>if x6.toList=([48]:List UInt8) then(some x5) else((gZ.f x5 x6).bind fun t107=>(aZ.l0 k x6 t107))
def aZ.f(k:Nat)(a0:ByteArray)(a1:ByteArray):Option (ByteArray):=(cZ.f a0).bind fun t105=>((cZ.f a1).bind fun t106=>(aZ.l0 k t105 t106))
theorem aZ.calls(k:Nat)(a0:ByteArray)(a1:ByteArray)(r:ByteArray)(w:World)(h:aZ.f k a0 a1=some r) :
 Calls Tryz.prog 89 #[.string a0,.string a1] w fun e w'=>e= .returned (.string r)∧Below w.heap.size w w':=by
 have HB:=aA.mk (Below.refl w.heap.size w);have H:((cZ.f a0).bind fun o6=>((cZ.f a1).bind fun o5=>(aZ.l0 k o6 o5)))=some r:=h;clear h;replace H:=Option.bind_eq_some_iff.mp H;obtain⟨o6,o9,H⟩:=H;replace H:((cZ.f a1).bind fun o5=>(aZ.l0 k o6 o5))=some r:=H;have A3:=aA.mk o9;clear o9;replace H:=Option.bind_eq_some_iff.mp H;obtain⟨o5,y8,H⟩:=H;replace H:(aZ.l0 k o6 o5)=some r:=H;have A4:=aA.mk y8;clear y8;have H':=aA.mk H;clear H;go_enter Tryz.func89,Tryz.ntmps89
 go_wp2_with(first|((with_reducible refine aC (f:=92) rfl ?_);refine dF (some 8) rfl rfl Tryz.func92 (by kernel_rfl) rfl #[.string a0] rfl (by(try simp only[List.map_toArray,List.map_cons,List.map_nil]);first|done|rfl|(simp only[List.length_drop,List.length_take];rfl)) ?_;(with_reducible refine(cZ.calls a0 o6 _ A3.out).mono ?_);rintro e w' ⟨rfl,⟨nd,rfl⟩⟩;refine⟨_,rfl,?_⟩)|((with_reducible refine aC (f:=92) rfl ?_);refine dF (some 10) rfl rfl Tryz.func92 (by kernel_rfl) rfl #[.string a1] rfl (by(try simp only[List.map_toArray,List.map_cons,List.map_nil]);first|done|rfl|(simp only[List.length_drop,List.length_take];rfl)) ?_;(with_reducible refine(cZ.calls a1 o5 _ A4.out).mono ?_);rintro e w' ⟨rfl,⟨nd,rfl⟩⟩;refine⟨_,rfl,?_⟩))
 go_loopg [5,6] k (fun kq v5 v6 w'=>∃(o7:ByteArray) (l9:ByteArray),v5= .string o7∧v6= .string l9∧aA (aZ.l0 kq o7 l9=some r)∧aA (kq≤k)∧aA (Below w.heap.size w w'))
 case atStart=>exact⟨(o6),(o5),aG1,aG1,H',⟨Nat.le_refl _⟩,⟨by repeat(first|(with_reducible first|exact HB.out|apply aT|apply aI|apply aJ)|exact HB.out)⟩⟩
 case round=>
  clear H';try clear p2
  obtain⟨o7,l9,rfl,rfl,HA,y9,HB⟩:=hrel
  cases gk with
  |zero=>exact absurd HA.out (by simp[aZ.l0])
  |succ k1=>
   have H:=HA.out;clear HA;simp only[aZ.l0] at H
   by_cases c5:l9.toList=([48]:List UInt8)
   ·rw[if_pos c5] at H
    have D5:(l9.toList==([48]:List UInt8))=true:=beq_iff_eq.mpr c5;have D6:(l9.toList != ([48]:List UInt8))=false:=bne_eq_false_iff_eq.mpr c5;clear c5;obtain rfl:=Option.some.inj H;go_wp2
    go_ret
    exact⟨by first|rfl|(simp[dZ,eF] <;> rfl)|(simp[*,dZ,eF] <;> rfl),by repeat(first|(with_reducible first|exact HB.out|apply aT|apply aI|apply aJ)|exact HB.out)⟩
   ·rw[if_neg c5] at H
    have D5:(l9.toList==([48]:List UInt8))=false:=beq_eq_false_iff_ne.mpr c5;have D6:(l9.toList != ([48]:List UInt8))=true:=bne_iff_ne.mpr c5;replace H:=Option.bind_eq_some_iff.mp H;obtain⟨o8,C9,H⟩:=H;replace H:(aZ.l0 k1 l9 o8)=some r:=H;have A6:=aA.mk C9;clear C9;have H':=aA.mk H;clear H
    go_wp2_with(first|((with_reducible refine aC (f:=78) rfl ?_);refine dF (some 16) rfl rfl Tryz.func78 (by kernel_rfl) rfl #[.string o7,.string l9] rfl (by(try simp only[List.map_toArray,List.map_cons,List.map_nil]);first|done|rfl|(simp only[List.length_drop,List.length_take];rfl)) ?_;(with_reducible refine(gZ.calls o7 l9 o8 _ A6.out).mono ?_);rintro e w7 ⟨rfl,hb⟩;refine⟨_,rfl,?_⟩;have n0_:=aA.mk (fM (by repeat(first|(with_reducible first|exact HB.out|apply aT|apply aI|apply aJ)|exact HB.out)) hb);clear HB;have HB:=n0_;clear n0_;(try clear hb);(try clear hb2);(try clear hk);(try clear hi)))
    go_roundg k1
    case measure=>have:=y9.out;omega
    case rel=>exact⟨(l9),(o8),aG1,aG1,H',⟨by have:=y9.out;omega⟩,⟨by repeat(first|(with_reducible first|exact HB.out|apply aT|apply aI|apply aJ)|exact HB.out)⟩⟩
end Go.Proofs.YtignanmmgaldeaaGreatDoor.PRefA
end
section
set_option linter.unusedVariables false
set_option linter.unusedSimpArgs false
namespace Go.Proofs.YtignanmmgaldeaaGreatDoor.RefP
open Go.RowKit Go.Proofs.YtignanmmgaldeaaGreatDoor.PRefA Go.Proofs.YtignanmmgaldeaaGreatDoorW.PrintWords Go.Proofs.YtignanmmgaldeaaGreatDoorW.PrintLast
theorem xM{x y:Int}{m:Nat}(hx:Bd m x)(hy:Bd m y)(hm:1≤m)(h4:m≤9000)(k:Nat)(hk:20000≤k):dX.f k (text x) (text y)=some (sgnI (x-y)):=by
 have lx:(dL x.natAbs).length≤9000:=by rw[rC];exact Nat.le_trans (kK hx hm) h4
 have ly:(dL y.natAbs).length≤9000:=by rw[rC];exact Nat.le_trans (kK hy hm) h4
 unfold dX.f;rw[nX x hx hm,Option.bind_some,nX y hy hm,Option.bind_some];rw[mQ hx hm aFx k aFx,Option.bind_some,xW _ k aFx aFx,Option.bind_some,mQ hy hm aFx k aFx,Option.bind_some,xW _ k aFx aFx,Option.bind_some,aB7 _ _ k aFx aFx aFx,Option.bind_some];unfold sgnI
 by_cases x0:x<0
 ·rw[if_pos x0]
  by_cases y0:y<0
  ·rw[if_pos y0,if_pos rfl]
   by_cases h:x<y
   ·rw[if_neg (show ¬((x.natAbs:Int)-(y.natAbs:Int)<0) by omega),if_neg (show ¬((x.natAbs:Int)-(y.natAbs:Int)=0) by omega),if_pos (show x-y<0 by omega)];(first|rfl|decide +kernel)
   ·by_cases h2:x=y
    ·rw[if_neg (show ¬((x.natAbs:Int)-(y.natAbs:Int)<0) by omega),if_pos (show((x.natAbs:Int)-(y.natAbs:Int)=0) by omega),if_neg (show ¬x-y<0 by omega),if_pos (show x-y=0 by omega)];(first|rfl|decide +kernel)
    ·rw[if_pos (show((x.natAbs:Int)-(y.natAbs:Int)<0) by omega),if_neg (show ¬x-y<0 by omega),if_neg (show ¬x-y=0 by omega)];(first|rfl|decide +kernel)
  ·rw[if_neg y0]
   rw[if_pos (show x-y<0 by omega)]
   by_cases y1:y=0
   ·rw[if_pos y1];(first|rfl|decide +kernel)
   ·rw[if_neg y1];(first|rfl|decide +kernel)
 ·rw[if_neg x0]
  by_cases x1:x=0
  ·rw[if_pos x1]
   by_cases y0:y<0
   ·rw[if_pos y0,if_neg (show ¬x-y<0 by omega),if_neg (show ¬x-y=0 by omega)];(first|rfl|decide +kernel)
   ·rw[if_neg y0]
    by_cases y1:y=0
    ·rw[if_pos y1,if_pos rfl,if_neg (show ¬x-y<0 by omega),if_pos (show x-y=0 by omega),if_neg (show ¬((x.natAbs:Int)-(y.natAbs:Int)<0) by omega),if_pos (show((x.natAbs:Int)-(y.natAbs:Int)=0) by omega)];(first|rfl|decide +kernel)
    ·rw[if_neg y1,if_pos (show x-y<0 by omega)];(first|rfl|decide +kernel)
  ·rw[if_neg x1]
   by_cases y0:y<0
   ·rw[if_pos y0,if_neg (show ¬x-y<0 by omega),if_neg (show ¬x-y=0 by omega)];(first|rfl|decide +kernel)
   ·rw[if_neg y0]
    by_cases y1:y=0
    ·rw[if_pos y1,if_neg (show ¬x-y<0 by omega),if_neg (show ¬x-y=0 by omega)];(first|rfl|decide +kernel)
    ·rw[if_neg y1,if_pos rfl]
     by_cases h:x<y
     ·rw[if_pos (show((x.natAbs:Int)-(y.natAbs:Int)<0) by omega),if_pos (show x-y<0 by omega)];(first|rfl|decide +kernel)
     ·by_cases h2:x=y
      ·rw[if_neg (show ¬((x.natAbs:Int)-(y.natAbs:Int)<0) by omega),if_pos (show((x.natAbs:Int)-(y.natAbs:Int)=0) by omega),if_neg (show ¬x-y<0 by omega),if_pos (show x-y=0 by omega)];(first|rfl|decide +kernel)
      ·rw[if_neg (show ¬((x.natAbs:Int)-(y.natAbs:Int)<0) by omega),if_neg (show ¬((x.natAbs:Int)-(y.natAbs:Int)=0) by omega),if_neg (show ¬x-y<0 by omega),if_neg (show ¬x-y=0 by omega)];(first|rfl|decide +kernel)
theorem rQ{m:Nat}(hm:1≤m)(h4:m≤4400):∀(k:Nat) (r s:Int),0≤r→0≤s→Bd m r→Bd m s→s.toNat<k→aZ.l0 k (text r) (text s)=some (text (gcdI r s))
 |0,r,s,_,_,_,_,hk=>by omega
 |k+1,r,s,hr,hs,br,bs,hk=>by
  rw[aZ.l0]
  by_cases h0:s=0
  ·rw[if_pos ((bK s).2 h0),h0,vO hr]
  ·have hf:Int.fmod r s=r%s:=Int.fmod_eq_emod_of_nonneg _ hs
   have h1:=Int.emod_nonneg r h0;have h2:=Int.emod_lt_of_pos r (show 0<s by omega);rw[if_neg (fun q=>h0 ((bK s).1 q)),aAp h0 br bs hm h4,Option.bind_some,hf];rw[rQ hm h4 k s (r%s) hs h1 bs (bs.of_le aFx) aFx,yU hr aFx]
theorem aA6{x y:Int}{m:Nat}(hx:Bd m x)(hy:Bd m y)(hm:1≤m)(h4:m≤4400):aZ.f (y.natAbs+1) (text x) (text y)=some (text (gcdI x y)):=by
 unfold aZ.f
 rw[nP hx hm aFx,Option.bind_some,nP hy hm aFx,Option.bind_some,
  rQ hm h4 _ _ _ aFx aFx (by unfold Bd at *;simpa using hx) (by unfold Bd at *;simpa using hy) aFx,aAa]
end Go.Proofs.YtignanmmgaldeaaGreatDoor.RefP
namespace Go.Proofs.YtignanmmgaldeaaGreatDoor
open Go.RowKit Go.Proofs.YtignanmmgaldeaaGreatDoor.PRefA Go.Proofs.YtignanmmgaldeaaGreatDoor.RefP Go.Proofs.YtignanmmgaldeaaGreatDoorW.PrintWords Go.Proofs.YtignanmmgaldeaaGreatDoorW.PrintLast
def fZ.f(a0 a1:ByteArray):Option ByteArray:=if okN 4400 a0∧okN 4400 a1 then some (text (gcdI (aV a0) (aV a1))) else none
theorem fZ.calls(a0 a1 r0:ByteArray)(w:World)(h:fZ.f a0 a1=some r0) :
 Calls Tryz.prog 89 #[.string a0,.string a1] w fun e w'=>e= .returned (.string r0)∧Below w.heap.size w w':=by
 unfold fZ.f at h
 split at h
 ·rename_i hs
  obtain⟨x,rfl,bx⟩:=kR hs.1;obtain⟨y,rfl,by'⟩:=kR hs.2;obtain rfl:=Option.some.inj h;rw[bC,bC];exact aZ.calls (y.natAbs+1) _ _ _ w (aA6 bx by' aFx aFx)
 ·cases h
theorem pM{x y:Int}{m:Nat}(hx:Bd m x)(hy:Bd m y)(hm:1≤m)(h4:m≤4400):fZ.f (text x) (text y)=some (text (gcdI x y)):=by
 unfold fZ.f;rw[if_pos ⟨kS hx hm h4,kS hy hm h4⟩,bC,bC]
def jU.f(a0:ByteArray):Option Bool:=if a0.size≤140737488351232 then some (canon a0.data.toList) else none
theorem jU.calls(a0:ByteArray)(r0:Bool)(w:World)(h:jU.f a0=some r0) :
 Calls Tryz.prog 184 #[.string a0] w fun e w'=>e= .returned (.bool r0)∧eQ w w':=by
 unfold jU.f at h
 split at h
 ·rename_i hs
  obtain rfl:=Option.some.inj h;exact bP.calls (a0.size+2+2) _ _ w (aB6 a0 hs _ (Nat.le_refl _))
 ·cases h
def gV.f(a0:ByteArray):Option Int:=if okN 9000 a0 then some (sgnI (aV a0)) else none
theorem gV.calls(a0:ByteArray)(r0:Int)(w:World)(h:gV.f a0=some r0) :
 Calls Tryz.prog 142 #[.string a0] w fun e w'=>e= .returned (.int .i64 r0)∧eQ w w':=by
 unfold gV.f at h
 split at h
 ·rename_i hs
  obtain⟨x,rfl,bx⟩:=kR hs;obtain rfl:=Option.some.inj h;rw[bC];exact bI.calls _ _ w (nX x bx aFx)
 ·cases h
theorem sG{x:Int}{m:Nat}(hx:Bd m x)(hm:1≤m)(h4:m≤9000):gV.f (text x)=some (sgnI x):=by
 unfold gV.f;rw[if_pos (kS hx hm h4),bC]
def jB.f(a0 a1:ByteArray):Option Bool:=if okN 9000 a0∧okN 9000 a1 then some (decide (aV a0<aV a1)) else none
theorem jB.calls(a0 a1:ByteArray)(r0:Bool)(w:World)(h:jB.f a0 a1=some r0) :
 Calls Tryz.prog 143 #[.string a0,.string a1] w fun e w'=>e= .returned (.bool r0)∧Below w.heap.size w w':=by
 unfold jB.f at h
 split at h
 ·rename_i hs
  obtain⟨x,rfl,bx⟩:=kR hs.1;obtain⟨y,rfl,by'⟩:=kR hs.2;obtain rfl:=Option.some.inj h;rw[bC,bC];obtain⟨k,hk⟩:∃k:Nat,k=20000:=⟨_,rfl⟩
  refine iH.calls k _ _ _ w ?_;unfold iH.f;rw[xM bx by' aFx aFx k aFx,Option.bind_some]
  congr 1
  exact decide_eq_decide.2 (by rw[mD];omega)
 ·cases h
theorem zC{x y:Int}{m:Nat}(hx:Bd m x)(hy:Bd m y)(hm:1≤m)(h4:m≤9000):jB.f (text x) (text y)=some (decide (x<y)):=by
 unfold jB.f;rw[if_pos ⟨kS hx hm h4,kS hy hm h4⟩,bC,bC]
end Go.Proofs.YtignanmmgaldeaaGreatDoor
end
section
set_option linter.unusedVariables false
set_option linter.unusedSimpArgs false
namespace Go.Proofs.YtignanmmgaldeaaGreatDoor.CongM
open Go.RowKit Go.Proofs.YtignanmmgaldeaaGreatDoor.RefP Go.Proofs.YtignanmmgaldeaaGreatDoor.PCongI Go.Proofs.YtignanmmgaldeaaGreatDoorW.PrintWords Go.Proofs.YtignanmmgaldeaaGreatDoorW.PrintLast
theorem text_eq(x y:Int):((text x).toList==(text y).toList)=decide (x=y):=by
 by_cases h:x=y
 ·rw[decide_eq_true h,h];exact beq_self_eq_true _
 ·rw[decide_eq_false h]
  simp only[beq_eq_false_iff_ne,ne_eq,toList_data];exact fun q=>h (aC8 (nZ q))
end Go.Proofs.YtignanmmgaldeaaGreatDoor.CongM
end
section
set_option linter.unusedVariables false
set_option linter.unusedSimpArgs false
namespace Go.Proofs.YtignanmmgaldeaaGreatDoor.PLawB
open Go.RowKit Go.Proofs.YtignanmmgaldeaaGreatDoorW.PrintWords Go.Proofs.YtignanmmgaldeaaGreatDoorW.PrintLast Go.Proofs.YtignanmmgaldeaaGreatDoorW.PrintMore
attribute [local go_sem] dQ dR eH eP
theorem oP(w:World)(base:Nat)(ok:Nat→Prop)(x:S36):k36.M w base ok x [.bool x.f0,.string x.f1,.string x.f2]:=⟨[.bool x.f0],[.string x.f1,.string x.f2],rfl,rfl,⟨[.string x.f1],[.string x.f2],rfl,rfl,rfl⟩⟩
end Go.Proofs.YtignanmmgaldeaaGreatDoor.PLawB
end
section
set_option linter.unusedVariables false
set_option linter.unusedSimpArgs false
set_option maxHeartbeats 8000000
set_option maxRecDepth 100000
namespace Go.Proofs.YtignanmmgaldeaaGreatDoor.PLawB
open Go.RowKit Go.Proofs.YtignanmmgaldeaaGreatDoorW.PrintWords Go.Proofs.YtignanmmgaldeaaGreatDoorW.PrintLast Go.Proofs.YtignanmmgaldeaaGreatDoorW.PrintMore
attribute [local go_sem] dQ dR eH eP
def bU.f(a0:ByteArray):Option (Int):=(jU.f a0).bind fun t109=>(if t109=true then((iW.f a0).bind fun t110=>(if t110>100 then(some 10) else(some 0))) else(some 3))
theorem bU.calls(a0:ByteArray)(r:Int)(w:World)(h:bU.f a0=some r) :
 Calls Tryz.prog 141 #[.string a0] w fun e w'=>e= .returned (.int .i64 r)∧eQ w w':=by
 have H:((jU.f a0).bind fun o5=>(if o5=true then((iW.f a0).bind fun l9=>(if l9>100 then(some 10) else(some 0))) else(some 3)))=some r:=h;clear h;obtain⟨o5,A2,H⟩:=bi H;try dsimp only at H
 go_enter Tryz.func141,Tryz.ntmps141
 refine byC (P:=o5=true) (fun c3=> ?a2) (fun c3=> ?b2)
 case' a2=>
  subst c3;rw[if_pos rfl] at H;obtain⟨l9,A4,H⟩:=bi H;try dsimp only at H
  refine byC (P:=l9>100) (fun c5=> ?a3) (fun c5=> ?b3)
  case' a3=>
   rw[if_pos c5] at H;have o6:=decide_eq_true c5;clear c5;obtain rfl:=Option.some.inj H
  case' b3=>
   rw[if_neg c5] at H;have o6:=decide_eq_false c5;clear c5;obtain rfl:=Option.some.inj H
 case' b2=>
  replace c3:=Bool.eq_false_iff.mpr c3;subst c3;rw[if_neg (show ¬(false=true) by decide)] at H;obtain rfl:=Option.some.inj H
 all_goals
  go_wp2_with(first|((with_reducible refine aC (f:=184) rfl ?_);refine gl_ 4 Tryz.func184 #[.string a0] (h:= ?_);(with_reducible refine(jU.calls a0 _ _ A2.out).mono ?_);rintro e w' ⟨rfl,⟨nd,rfl⟩⟩;refine⟨_,rfl,?_⟩)|((with_reducible refine aC (f:=149) rfl ?_);refine gl_ 7 Tryz.func149 #[.string a0] (h:= ?_);(with_reducible refine(iW.calls a0 l9 _ A4.out).mono ?_);rintro e w' ⟨rfl,⟨nd,rfl⟩⟩;refine⟨_,rfl,?_⟩))
  go_ret
  exact dr_
def fH.f(a0_0:Bool)(a0_1:ByteArray)(a0_2:ByteArray):Option (Int):=if a0_0=true then(if a0_1.toList=([]:List UInt8) then(if a0_2.toList=([]:List UInt8) then(some 0) else(some 3)) else(some 3)) else((bU.f a0_1).bind fun t112=>(if t112=0 then((bU.f a0_2).bind fun t113=>(if t113=0 then((gV.f a0_1).bind fun t114=>(if t114<0 then(some 2) else(if a0_1.toList=([48]:List UInt8) then(some 0) else((gV.f a0_2).bind fun t115=>(if t115<0 then(some 2) else((jB.f a0_2 a0_1).bind fun t116=>(if t116=true then(some 0) else(some 2)))))))) else(some t113))) else(some t112)))
theorem fH.calls(D6:Bool)(l9:ByteArray)(o5:ByteArray)(r:Int)(w:World)(h:fH.f D6 l9 o5=some r) :
 Calls Tryz.prog 67 #[.agg #[.bool D6,.string l9,.string o5]] w fun e w'=>e= .returned (.int .i64 r)∧Below w.heap.size w w':=by
 have hu36:=Tryz.underlying36;have HB:=aA.mk (Below.refl w.heap.size w);have H:(if D6=true then(if l9.toList=([]:List UInt8) then(if o5.toList=([]:List UInt8) then(some 0) else(some 3)) else(some 3)) else((bU.f l9).bind fun y9=>(if y9=0 then((bU.f o5).bind fun C9=>(if C9=0 then((gV.f l9).bind fun D7=>(if D7<0 then(some 2) else(if l9.toList=([48]:List UInt8) then(some 0) else((gV.f o5).bind fun D8=>(if D8<0 then(some 2) else((jB.f o5 l9).bind fun D9=>(if D9=true then(some 0) else(some 2)))))))) else(some C9))) else(some y9))))=some r:=h;clear h;go_enter Tryz.func67,Tryz.ntmps67
 refine byC (P:=D6=true) (fun c2=> ?a4) (fun c2=> ?b4)
 case' a4=>
  subst c2;rw[if_pos rfl] at H;refine byC (P:=l9.toList=([]:List UInt8)) (fun c3=> ?a5) (fun c3=> ?b5)
  case' a5=>
   rw[if_pos c3] at H;obtain⟨F6,F7⟩:=bT c3;clear c3;refine byC (P:=o5.toList=([]:List UInt8)) (fun c4=> ?a6) (fun c4=> ?b6)
   case' a6=>
    rw[if_pos c4] at H;obtain⟨F8,F9⟩:=bT c4;clear c4;obtain rfl:=Option.some.inj H
   case' b6=>
    rw[if_neg c4] at H;obtain⟨F8,F9⟩:=bF c4;obtain rfl:=Option.some.inj H
  case' b5=>
   rw[if_neg c3] at H;obtain⟨F6,F7⟩:=bF c3;obtain rfl:=Option.some.inj H
 case' b4=>
  replace c2:=Bool.eq_false_iff.mpr c2;subst c2;rw[if_neg (show ¬(false=true) by decide)] at H;obtain⟨y9,G5,H⟩:=bi H;try dsimp only at H
  refine byC (P:=y9=0) (fun o8=> ?a7) (fun o8=> ?b7)
  case' a7=>
   rw[if_pos o8] at H;obtain⟨G6,G7⟩:=bT o8;clear o8;obtain⟨C9,G8,H⟩:=bi H;try dsimp only at H
   refine byC (P:=C9=0) (fun o9=> ?a8) (fun o9=> ?b8)
   case' a8=>
    rw[if_pos o9] at H;obtain⟨G9,H5⟩:=bT o9;clear o9;obtain⟨D7,H6,H⟩:=bi H;try dsimp only at H
    refine byC (P:=D7<0) (fun o6=> ?a9) (fun o6=> ?b9)
    case' a9=>
     rw[if_pos o6] at H;have H7:=decide_eq_true o6;clear o6;obtain rfl:=Option.some.inj H
    case' b9=>
     rw[if_neg o6] at H;have H7:=decide_eq_false o6;clear o6;refine byC (P:=l9.toList=([48]:List UInt8)) (fun y8=> ?a10) (fun y8=> ?b10)
     case' a10=>
      rw[if_pos y8] at H;obtain⟨H8,H9⟩:=bT y8;clear y8;obtain rfl:=Option.some.inj H
     case' b10=>
      rw[if_neg y8] at H;obtain⟨H8,H9⟩:=bF y8;obtain⟨D8,I4,H⟩:=bi H;try dsimp only at H
      refine byC (P:=D8<0) (fun o7=> ?a11) (fun o7=> ?b11)
      case' a11=>
       rw[if_pos o7] at H;have I5:=decide_eq_true o7;clear o7;obtain rfl:=Option.some.inj H
      case' b11=>
       rw[if_neg o7] at H;have I5:=decide_eq_false o7;clear o7;obtain⟨D9,I7,H⟩:=bi H;try dsimp only at H
       refine byC (P:=D9=true) (fun D5=> ?a12) (fun D5=> ?b12)
       case' a12=>
        subst D5;rw[if_pos rfl] at H;obtain rfl:=Option.some.inj H
       case' b12=>
        replace D5:=Bool.eq_false_iff.mpr D5;subst D5;rw[if_neg (show ¬(false=true) by decide)] at H;obtain rfl:=Option.some.inj H
   case' b8=>
    rw[if_neg o9] at H;obtain⟨G9,H5⟩:=bF o9;obtain rfl:=Option.some.inj H
  case' b7=>
   rw[if_neg o8] at H;obtain⟨G6,G7⟩:=bF o8;obtain rfl:=Option.some.inj H
 all_goals
  go_wp2_with(first|((with_reducible refine aG (N:=1) rfl ?_);refine bx_ 1 36 #[.bool _,.string l9,.string o5] (h:= ?_);intro I9 hg w5 F5 hb;have E8:=aA.mk (F5);have I8:=pkG HB hg;have J3:=I8;replace HB:=pkB HB hb;clear hb F5 hg;obtain⟨⟨J4,J5,J6⟩,J7,J8,J9⟩:=pk3 E8)|((with_reducible refine aC (f:=141) rfl ?_);refine gl_ 17 Tryz.func141 #[.string l9] (h:= ?_);(with_reducible refine(bU.calls l9 y9 _ G5.out).mono ?_);rintro e w' ⟨rfl,⟨nd,rfl⟩⟩;refine⟨_,rfl,?_⟩)|((with_reducible refine aC (f:=141) rfl ?_);refine gl_ 23 Tryz.func141 #[.string o5] (h:= ?_);(with_reducible refine(bU.calls o5 C9 _ G8.out).mono ?_);rintro e w' ⟨rfl,⟨nd,rfl⟩⟩;refine⟨_,rfl,?_⟩)|((with_reducible refine aC (f:=142) rfl ?_);refine gl_ 29 Tryz.func142 #[.string l9] (h:= ?_);(with_reducible refine(gV.calls l9 D7 _ H6.out).mono ?_);rintro e w' ⟨rfl,⟨nd,rfl⟩⟩;refine⟨_,rfl,?_⟩)|(go_at_call 142;(with_reducible refine(gV.calls o5 D8 _ I4.out).mono ?_);rintro e w' ⟨rfl,⟨nd,rfl⟩⟩)|(go_at_call 143;(with_reducible refine(jB.calls o5 l9 _ _ I7.out).mono ?_);rintro e L6 ⟨rfl,hb⟩;replace E8:=pkK E8 hb;replace HB:=pkB HB hb;try clear hb))
  go_ret
  exact pkE HB
end Go.Proofs.YtignanmmgaldeaaGreatDoor.PLawB
end
section
set_option linter.unusedVariables false
set_option linter.unusedSimpArgs false
namespace Go.Proofs.YtignanmmgaldeaaGreatDoor.LawC
open Go.RowKit Go.Proofs.YtignanmmgaldeaaGreatDoor Go.Proofs.YtignanmmgaldeaaGreatDoor.PLawB Go.Proofs.YtignanmmgaldeaaGreatDoor.RefP Go.Proofs.YtignanmmgaldeaaGreatDoor.PCongI Go.Proofs.YtignanmmgaldeaaGreatDoor.CongM Go.Proofs.YtignanmmgaldeaaGreatDoorW.PrintWords
theorem pJ(a:ByteArray)(ha:a.size≤140737488351232):bU.f a=some (numC a):=by
 unfold bU.f jU.f numC;rw[if_pos ha,Option.bind_some]
 by_cases hc:canon a.data.toList=true
 ·rw[if_pos hc,if_pos hc]
  have h0:0<a.size:=by
   rcases Nat.eq_zero_or_pos a.size with h|h
   ·rw[Lib.size_eq] at h
    rw[List.eq_nil_of_length_eq_zero h] at hc;exact absurd hc aG0
   ·exact h
  unfold iW.f;rw[if_pos ⟨h0,ha⟩,Option.bind_some]
  by_cases hd:100<digN a
  ·rw[if_pos hd,if_pos aFx]
  ·rw[if_neg hd,if_neg aFx]
 ·rw[if_neg hc,if_neg hc]
theorem qU(x:Int):((text x).toList=([48]:List UInt8))↔x=0:=by
 have h:=text_eq x 0;rw[show(text 0).toList=([48]:List UInt8) by decide +kernel] at h
 constructor
 ·intro e;rw[e] at h;simpa using h
 ·intro e;subst e;decide +kernel
theorem xN(e:Bool)(m r:ByteArray)(hm:m.size≤140737488351232)(hr:r.size≤140737488351232):fH.f e m r=some (chkC e m r):=by
 unfold fH.f chkC
 by_cases he:e=true
 ·rw[if_pos he,if_pos he]
  split
  ·split <;> rfl
  ·rfl
 ·rw[if_neg he,if_neg he,pJ m hm,Option.bind_some]
  by_cases h1:numC m=0
  ·rw[if_pos h1,if_pos h1,pJ r hr,Option.bind_some]
   by_cases h2:numC r=0
   ·rw[if_pos h2,if_pos h2]
    obtain⟨x,rfl,bx⟩:=sO h1;obtain⟨y,rfl,by'⟩:=sO h2;rw[bC,bC,sG bx aFx aFx,Option.bind_some]
    by_cases hx:x<0
    ·rw[if_pos ((mD x).2 hx),if_pos (show rngC x y from Or.inl hx)]
    ·rw[if_neg (fun q=>hx ((mD x).1 q))]
     by_cases h0:x=0
     ·rw[if_pos ((qU x).2 h0),if_neg (show ¬rngC x y by unfold rngC;omega)]
     ·rw[if_neg (fun q=>h0 ((qU x).1 q)),sG by' aFx aFx,Option.bind_some]
      by_cases hy:y<0
      ·rw[if_pos ((mD y).2 hy),if_pos (show rngC x y by unfold rngC;omega)]
      ·rw[if_neg (fun q=>hy ((mD y).1 q)),zC by' bx aFx aFx,Option.bind_some]
       by_cases hl:y<x
       ·rw[if_pos (decide_eq_true hl),if_neg (show ¬rngC x y by unfold rngC;omega)]
       ·rw[if_neg (by simpa using hl),if_pos (show rngC x y by unfold rngC;omega)]
   ·rw[if_neg h2,if_neg h2]
  ·rw[if_neg h1,if_neg h1]
end Go.Proofs.YtignanmmgaldeaaGreatDoor.LawC
end
section
set_option linter.unusedVariables false
set_option linter.unusedSimpArgs false
namespace Go.Proofs.YtignanmmgaldeaaGreatDoor
open Go.RowKit Go.Proofs.YtignanmmgaldeaaGreatDoor.PLawB Go.Proofs.YtignanmmgaldeaaGreatDoor.LawC Go.Proofs.YtignanmmgaldeaaGreatDoor.RefP Go.Proofs.YtignanmmgaldeaaGreatDoor.PCongI Go.Proofs.YtignanmmgaldeaaGreatDoor.CongM Go.Proofs.YtignanmmgaldeaaGreatDoorW.PrintWords
def dE.f(e:Bool)(m r:ByteArray):Option Int:=if m.size≤1000000∧r.size≤1000000 then some (chkC e m r) else none
theorem dE.calls(o6:Bool)(l9:ByteArray)(o5:ByteArray)(r:Int)(w:World)(h:dE.f o6 l9 o5=some r) :
 Calls Tryz.prog 67 #[.agg #[.bool o6,.string l9,.string o5]] w fun e w'=>e= .returned (.int .i64 r)∧Below w.heap.size w w':=by
 unfold dE.f at h
 by_cases hz:l9.size≤1000000∧o5.size≤1000000
 ·rw[if_pos hz] at h
  exact fH.calls o6 l9 o5 r w (by rw[xN _ _ _ aFx aFx];exact h)
 ·rw[if_neg hz] at h;cases h
end Go.Proofs.YtignanmmgaldeaaGreatDoor
end
section
set_option linter.unusedVariables false
set_option linter.unusedSimpArgs false
set_option maxHeartbeats 8000000
set_option maxRecDepth 100000
namespace Go.Proofs.YtignanmmgaldeaaGreatDoor.PRefQ
open Go.RowKit Go.Proofs.YtignanmmgaldeaaGreatDoorW.PrintWords Go.Proofs.YtignanmmgaldeaaGreatDoorW.PrintLast Go.Proofs.YtignanmmgaldeaaGreatDoorW.PrintMore
attribute [local go_sem] dQ dR eH eP
def jT.f(k:Nat)(a0:ByteArray):Option (Bool×ByteArray×ByteArray):=(bJ.f k (⟨#[48]⟩:ByteArray) a0).bind fun bt115=>(some (bt115.1,bt115.2.1,bt115.2.2))
theorem jT.calls(k:Nat)(a0:ByteArray)(r1:Bool)(r2:ByteArray)(r3:ByteArray)(w:World)(h:jT.f k a0=some (r1,r2,r3)) :
 Calls Tryz.prog 126 #[.string a0] w fun e w'=>e= .returned (.agg #[.bool r1,.string r2,.string r3])∧Below w.heap.size w w':=by
 have hu36:=Tryz.underlying36;have HB:=aA.mk (Below.refl w.heap.size w);have H:((bJ.f k (⟨#[48]⟩:ByteArray) a0).bind fun o5=>(some (o5.1,o5.2.1,o5.2.2)))=some (r1,r2,r3):=h;clear h;obtain⟨⟨o7,o8,o9⟩,A2,H⟩:=bi H;try dsimp only at H
 simp only[Option.some.injEq,Prod.mk.injEq] at H;obtain⟨rfl,rfl,rfl⟩:=H;go_enter Tryz.func126,Tryz.ntmps126
 go_wp2_with(first|((with_reducible refine aG (N:=2) rfl ?_);refine bx_ 2 36 #[.bool false,.string (⟨#[]⟩:ByteArray),.string (⟨#[]⟩:ByteArray)] (h:= ?_);intro y8 hg w3 o6 hb;have l9:=aA.mk (o6);have y9:=pkG HB hg;have C9:=y9;replace HB:=pkB HB hb;clear hb o6 hg)|((with_reducible refine aC (f:=127) rfl ?_);refine gM 4 Tryz.func127 (bJ.calls (w:=_) (h:=A2.out)) (h:= ?_);intro w4 hb;replace l9:=pkK l9 hb;replace HB:=pkB HB hb;try clear hb;obtain⟨⟨D5,D6,D7⟩,D8,D9,E8⟩:=pk3 l9))
 refine bodyPost_ret (results_cell_row rfl _ _ y8 36 #[.bool o7,.string o8,.string o9] (0,0) _ rfl (pkS3 l9) Tryz.underlying36 rfl (by kernel_rfl)) rfl ?_;exact pkE HB
def dN.f(a0:ByteArray)(a1:ByteArray):Option (Bool):=if a0.toList=([48]:List UInt8) then(some (a1.toList==([48]:List UInt8))) else((lT.f a1 a0).bind fun t128=>(some (t128.toList==([48]:List UInt8))))
theorem dN.calls(a0:ByteArray)(a1:ByteArray)(r:Bool)(w:World)(h:dN.f a0 a1=some r) :
 Calls Tryz.prog 180 #[.string a0,.string a1] w fun e w'=>e= .returned (.bool r)∧Below w.heap.size w w':=by
 have HB:=aA.mk (Below.refl w.heap.size w);have H:(if a0.toList=([48]:List UInt8) then(some (a1.toList==([48]:List UInt8))) else((lT.f a1 a0).bind fun l9=>(some (l9.toList==([48]:List UInt8)))))=some r:=h;clear h;go_enter Tryz.func180,Tryz.ntmps180
 refine byC (P:=a0.toList=([48]:List UInt8)) (fun c3=> ?a1) (fun c3=> ?b1)
 case' a1=>
  rw[if_pos c3] at H;obtain⟨o5,o6⟩:=bT c3;clear c3;obtain rfl:=Option.some.inj H
 case' b1=>
  rw[if_neg c3] at H;obtain⟨o5,o6⟩:=bF c3;obtain⟨l9,A4,H⟩:=bi H;try dsimp only at H
  obtain rfl:=Option.some.inj H
 all_goals
  go_wp2_with(first|((with_reducible refine aC (f:=78) rfl ?_);refine gM 11 Tryz.func78 (lT.calls (w:=_) (h:=A4.out)) (h:= ?_);intro w5 hb;replace HB:=pkB HB hb;try clear hb))
  go_ret
  exact pkE HB
def bQ.f(a0_0:Bool)(a0_1:ByteArray)(a0_2:ByteArray)(a1_0:Bool)(a1_1:ByteArray)(a1_2:ByteArray):Option (Int):=(dE.f a0_0 a0_1 a0_2).bind fun t138=>(if t138=0 then((dE.f a1_0 a1_1 a1_2).bind fun t139=>(some t139)) else(some t138))
theorem bQ.calls(o7:Bool)(o8:ByteArray)(o9:ByteArray)(y8:Bool)(y9:ByteArray)(C9:ByteArray)(r:Int)(w:World)(h:bQ.f o7 o8 o9 y8 y9 C9=some r) :
 Calls Tryz.prog 102 #[.agg #[.bool o7,.string o8,.string o9],.agg #[.bool y8,.string y9,.string C9]] w fun e w'=>e= .returned (.int .i64 r)∧Below w.heap.size w w':=by
 have hu36:=Tryz.underlying36;have HB:=aA.mk (Below.refl w.heap.size w);have H:((dE.f o7 o8 o9).bind fun D5=>(if D5=0 then((dE.f y8 y9 C9).bind fun D6=>(some D6)) else(some D5)))=some r:=h;clear h;obtain⟨D5,A3,H⟩:=bi H;try dsimp only at H
 go_enter Tryz.func102,Tryz.ntmps102
 refine byC (P:=D5=0) (fun c4=> ?a4) (fun c4=> ?b4)
 case' a4=>
  rw[if_pos c4] at H;obtain⟨D7,D8⟩:=bT c4;clear c4;obtain⟨D6,A5,H⟩:=bi H;try dsimp only at H
  obtain rfl:=Option.some.inj H
 case' b4=>
  rw[if_neg c4] at H;obtain⟨D7,D8⟩:=bF c4;obtain rfl:=Option.some.inj H
 all_goals
  go_wp2_with(first|((with_reducible refine aG (N:=2) rfl ?_);refine bx_ 2 36 #[.bool o7,.string o8,.string o9] (h:= ?_);intro F7 hg w6 o6 hb;have l9:=aA.mk (o6);have D9:=pkG HB hg;have F8:=D9;replace HB:=pkB HB hb;clear hb o6 hg)|((with_reducible refine aG (N:=3) rfl ?_);refine bx_ 3 36 #[.bool y8,.string y9,.string C9] (h:= ?_);intro F9 hg w7 o6 hb;have o5:=aA.mk (o6);have E8:=pkG HB hg;have G5:=E8;obtain⟨F5,F6,_,_⟩:=pkQ l9 hg;replace l9:=pkK l9 hb;replace HB:=pkB HB hb;clear hb o6 hg;have G6:=F5.out;have G7:=F6.out;obtain⟨⟨G8,G9,H5⟩,H6,H7,H8⟩:=pk3 l9)|(have q_:=A3;(with_reducible refine aC (f:=67) rfl ?_);refine gM 7 Tryz.func67 (dE.calls (w:=_) (h:=A3.out)) (h:= ?_);intro H9 hb;replace l9:=pkK l9 hb;replace o5:=pkK o5 hb;replace HB:=pkB HB hb;try clear hb;clear A3 q_;obtain⟨⟨I4,I5,I7⟩,I8,I9,J3⟩:=pk3 o5)|((with_reducible refine aC (f:=67) rfl ?_);refine gM 12 Tryz.func67 (dE.calls (w:=_) (h:=A5.out)) (h:= ?_);intro J4 hb;replace l9:=pkK l9 hb;replace o5:=pkK o5 hb;replace HB:=pkB HB hb;try clear hb)|((with_reducible refine aC (f:=67) rfl ?_);refine gM 7 Tryz.func67 (dE.calls (w:=_) (h:=A3.out)) (h:= ?_);intro J5 hb;replace l9:=pkK l9 hb;replace o5:=pkK o5 hb;replace HB:=pkB HB hb;try clear hb))
  go_ret
  exact pkE HB
end Go.Proofs.YtignanmmgaldeaaGreatDoor.PRefQ
end
section
set_option linter.unusedVariables false
set_option linter.unusedSimpArgs false
set_option maxHeartbeats 8000000
set_option maxRecDepth 100000
namespace Go.Proofs.YtignanmmgaldeaaGreatDoor.PRefQ
open Go.RowKit Go.Proofs.YtignanmmgaldeaaGreatDoorW.PrintWords Go.Proofs.YtignanmmgaldeaaGreatDoorW.PrintLast Go.Proofs.YtignanmmgaldeaaGreatDoorW.PrintMore
attribute [local go_sem] dQ dR eH eP
def fE.f:Option (Bool×ByteArray×ByteArray):=some (true,(⟨#[]⟩:ByteArray),(⟨#[]⟩:ByteArray))
theorem fE.calls(r1:Bool)(r2:ByteArray)(r3:ByteArray)(w:World)(h:fE.f=some (r1,r2,r3)) :
 Calls Tryz.prog 179 #[] w fun e w'=>e= .returned (.agg #[.bool r1,.string r2,.string r3])∧Below w.heap.size w w':=by
 have hu36:=Tryz.underlying36;have HB:=aA.mk (Below.refl w.heap.size w);have H:(some (true,(⟨#[]⟩:ByteArray),(⟨#[]⟩:ByteArray)))=some (r1,r2,r3):=h;clear h;simp only[Option.some.injEq,Prod.mk.injEq] at H;obtain⟨rfl,rfl,rfl⟩:=H;go_enter Tryz.func179,Tryz.ntmps179
 go_wp2_with(first|((with_reducible refine aG (N:=0) rfl ?_);refine bx_ 0 36 #[.bool false,.string (⟨#[]⟩:ByteArray),.string (⟨#[]⟩:ByteArray)] (h:= ?_);intro o6 hg w1 l9 hb;have o5:=aA.mk (l9);have o7:=pkG HB hg;have o8:=o7;replace HB:=pkB HB hb;clear hb l9 hg;obtain⟨⟨o9,y8,y9⟩,C9,D5,D6⟩:=pk3 o5))
 refine bodyPost_ret (results_cell_row rfl _ _ o6 36 #[.bool true,.string (⟨#[]⟩:ByteArray),.string (⟨#[]⟩:ByteArray)] (0,0) _ rfl (pkS3 o5) Tryz.underlying36 rfl (by kernel_rfl)) rfl ?_;exact pkE HB
end Go.Proofs.YtignanmmgaldeaaGreatDoor.PRefQ
end
section
set_option linter.unusedVariables false
set_option linter.unusedSimpArgs false
set_option maxHeartbeats 8000000
set_option maxRecDepth 100000
namespace Go.Proofs.YtignanmmgaldeaaGreatDoor.PRefQ
open Go.RowKit Go.Proofs.YtignanmmgaldeaaGreatDoorW.PrintWords Go.Proofs.YtignanmmgaldeaaGreatDoorW.PrintLast Go.Proofs.YtignanmmgaldeaaGreatDoorW.PrintMore
attribute [local go_sem] dQ dR eH eP
def jW.f(a0_0:Bool)(a0_1:ByteArray)(a0_2:ByteArray):Option (Bool):=if a0_1.toList=([48]:List UInt8) then(some (a0_2.toList==([48]:List UInt8))) else(some false)
theorem jW.calls(o6:Bool)(l9:ByteArray)(o5:ByteArray)(r:Bool)(w:World)(h:jW.f o6 l9 o5=some r) :
 Calls Tryz.prog 178 #[.agg #[.bool o6,.string l9,.string o5]] w fun e w'=>e= .returned (.bool r)∧Below w.heap.size w w':=by
 have hu36:=Tryz.underlying36;have HB:=aA.mk (Below.refl w.heap.size w);have H:(if l9.toList=([48]:List UInt8) then(some (o5.toList==([48]:List UInt8))) else(some false))=some r:=h;clear h;go_enter Tryz.func178,Tryz.ntmps178
 refine byC (P:=l9.toList=([48]:List UInt8)) (fun c2=> ?a8) (fun c2=> ?b8)
 case' a8=>
  rw[if_pos c2] at H;obtain⟨o8,o9⟩:=bT c2;clear c2;obtain rfl:=Option.some.inj H
 case' b8=>
  rw[if_neg c2] at H;obtain⟨o8,o9⟩:=bF c2;obtain rfl:=Option.some.inj H
 all_goals
  go_wp2_with(first|((with_reducible refine aG (N:=1) rfl ?_);refine bx_ 1 36 #[.bool o6,.string l9,.string o5] (h:= ?_);intro C9 hg w3 o7 hb;have y8:=aA.mk (o7);have y9:=pkG HB hg;have D5:=y9;replace HB:=pkB HB hb;clear hb o7 hg;obtain⟨⟨D6,D7,D8⟩,D9,E8,F5⟩:=pk3 y8))
  go_ret
  exact pkE HB
end Go.Proofs.YtignanmmgaldeaaGreatDoor.PRefQ
end
section
set_option linter.unusedVariables false
set_option linter.unusedSimpArgs false
set_option maxHeartbeats 8000000
set_option maxRecDepth 100000
namespace Go.Proofs.YtignanmmgaldeaaGreatDoor.PRefQ
open Go.RowKit Go.Proofs.YtignanmmgaldeaaGreatDoorW.PrintWords Go.Proofs.YtignanmmgaldeaaGreatDoorW.PrintLast Go.Proofs.YtignanmmgaldeaaGreatDoorW.PrintMore
attribute [local go_sem] dQ dR eH eP
mutual
def dH.j0:Nat→Bool→Bool→ByteArray→ByteArray→Bool→ByteArray→ByteArray→Option (Bool×ByteArray×ByteArray)
 |0,_,_,_,_,_,_,_=>none
 |k+1,x5,x271000,x271001,x271002,x272000,x272001,x272002=>if x5=true then((fE.f).bind fun bt274=>(some (bt274.1,bt274.2.1,bt274.2.2))) else(if x272001.toList=([48]:List UInt8) then((dN.f x272002 x271001).bind fun t277=>(dH.j1 k t277 x271000 x271001 x271002 x272000 x272001 x272002)) else(dH.j1 k false x271000 x271001 x271002 x272000 x272001 x272002))
def dH.j1:Nat→Bool→Bool→ByteArray→ByteArray→Bool→ByteArray→ByteArray→Option (Bool×ByteArray×ByteArray)
 |0,_,_,_,_,_,_,_=>none
 |k+1,x17,x271000,x271001,x271002,x272000,x272001,x272002=>if x17=true then((jR.f x271001 x272002).bind fun t278=>((jR.f x271002 x272002).bind fun t279=>((bJ.f k t278 t279).bind fun bt280=>(some (bt280.1,bt280.2.1,bt280.2.2))))) else(if x272001.toList=([48]:List UInt8) then((kU.f).bind fun bt283=>(some (bt283.1,bt283.2.1,bt283.2.2))) else((jW.f x271000 x271001 x271002).bind fun t286=>(if t286=true then(some (x271000,x271001,x271002)) else((kU.f).bind fun bt287=>(some (bt287.1,bt287.2.1,bt287.2.2))))))
end
def dH.f(k:Nat)(a0_0:Bool)(a0_1:ByteArray)(a0_2:ByteArray)(a1_0:Bool)(a1_1:ByteArray)(a1_2:ByteArray):Option (Bool×ByteArray×ByteArray):=if a0_0=true then(dH.j0 k true a0_0 a0_1 a0_2 a1_0 a1_1 a1_2) else(if a1_0=true then(dH.j0 k true a0_0 a0_1 a0_2 a1_0 a1_1 a1_2) else((jW.f a1_0 a1_1 a1_2).bind fun t273=>(dH.j0 k t273 a0_0 a0_1 a0_2 a1_0 a1_1 a1_2)))
def dH.T4:Bool×List (List Nat×List Nat):=(true,[([],[]),([0],[0]),([],[]),([2],[2]),([1,3],[1,3]),([],[]),([5],[5]),([],[]),([7],[7]),([6,8,4],[6,8]),([4,9,9],[4,9]),([10,10,0,1,2,3,4,5,6,7,8,9,10],[10])])
def dH.B4:List Nat:= [0,1,0,4,15,0,32,0,128,511,1023,2047]
theorem dH.tab4:rtab .any (opsOf Tryz.f103 4)=dH.T4:=by kernel_rfl
theorem dH.bits4:kX dH.T4.2 dH.B4=true:=by kernel_rfl
theorem dH.calls(k:Nat)(y8:Bool)(y9:ByteArray)(D5:ByteArray)(D6:Bool)(C9:ByteArray)(D7:ByteArray)(r1:Bool)(r2:ByteArray)(r3:ByteArray)(w:World)(h:dH.f k y8 y9 D5 D6 C9 D7=some (r1,r2,r3)) :
 Calls Tryz.prog 103 #[.agg #[.bool y8,.string y9,.string D5],.agg #[.bool D6,.string C9,.string D7]] w fun e w'=>e= .returned (.agg #[.bool r1,.string r2,.string r3])∧Below w.heap.size w w':=by
 have hu36:=Tryz.underlying36;have HB:=aA.mk (Below.refl w.heap.size w);have H:(if y8=true then(dH.j0 k true y8 y9 D5 D6 C9 D7) else(if D6=true then(dH.j0 k true y8 y9 D5 D6 C9 D7) else((jW.f D6 C9 D7).bind fun G7=>(dH.j0 k G7 y8 y9 D5 D6 C9 D7))))=some (r1,r2,r3):=h;clear h;have H9:=aA.mk H;clear H;go_enter Tryz.func103,Tryz.ntmps103
 go_upto_region 1 with (first|((with_reducible refine aG (N:=2) rfl ?_);refine bx_ 2 36 #[.bool y8,.string y9,.string D5] (h:= ?_);intro F7 hg w4 E8 hb;have l9:=aA.mk (E8);have J3:=pkG HB hg;have Q5:=J3;replace HB:=pkB HB hb;clear hb E8 hg)|((with_reducible refine aG (N:=3) rfl ?_);refine bx_ 3 36 #[.bool D6,.string C9,.string D7] (h:= ?_);intro F8 hg w5 E8 hb;have o6:=aA.mk (E8);have J4:=pkG HB hg;have Q7:=J4;obtain⟨F5,F6,_,_⟩:=pkQ l9 hg;replace l9:=pkK l9 hb;replace HB:=pkB HB hb;clear hb E8 hg)|((with_reducible refine aG (N:=4) rfl ?_);refine bx_ 4 36 #[.bool false,.string (⟨#[]⟩:ByteArray),.string (⟨#[]⟩:ByteArray)] (h:= ?_);intro o7 hg w6 E8 hb;have o5:=aA.mk (E8);have J5:=pkG HB hg;have Q8:=J5;obtain⟨o8,D8,_,_⟩:=pkQ l9 hg;obtain⟨o9,D9,_,_⟩:=pkQ o6 hg;replace l9:=pkK l9 hb;replace o6:=pkK o6 hb;replace HB:=pkB HB hb;clear hb E8 hg))
 (try simp only[Act.put,List.setIfInBounds_toArray,List.set_cons_zero,List.set_cons_succ])
 go_cut [5] (fun v5 wc=>∃(kq:Nat) (G8:Bool),v5= .bool G8∧aA (dH.j0 kq G8 y8 y9 D5 D6 C9 D7=some (r1,r2,r3))∧aA (kq≤k)∧aA (wc.heap[F7]? =some (.cells #[.bool y8,.string y9,.string D5] 36 (0,0)))∧aA (wc.heap[F8]? =some (.cells #[.bool D6,.string C9,.string D7] 36 (0,0)))∧aA (wc.heap[o7]? =some (.cells #[.bool false,.string (⟨#[]⟩:ByteArray),.string (⟨#[]⟩:ByteArray)] 36 (0,0)))∧aA (Below w.heap.size w wc))
 case first=>
  have H:=H9.out;clear H9
  by_cases c7:y8=true
  ·subst c7
   rw[if_pos rfl] at H;have H':=aA.mk H;clear H;have Q9:=F5.out;have S9:=F6.out;have U3:=o8.out;have U4:=D8.out;obtain⟨⟨U5,U6,U7⟩,U8,U9,V3⟩:=pk3 l9;go_wp2
   go_meet
   case rel=>exact⟨_,(true),aG1,H',le_,⟨pkW l9⟩,⟨pkW o6⟩,⟨pkW o5⟩,⟨pkL HB⟩⟩
  ·replace c7:=Bool.eq_false_iff.mpr c7
   subst c7;rw[if_neg (show ¬(false=true) by decide)] at H
   by_cases G9:D6=true
   ·subst G9
    rw[if_pos rfl] at H;have H':=aA.mk H;clear H;have V4:=F5.out;have V5:=F6.out;have V6:=o8.out;have V7:=D8.out;obtain⟨⟨V8,V9,X4⟩,X5,X7,X8⟩:=pk3 l9;have X9:=o9.out;have Y0:=D9.out;obtain⟨⟨Y4,Y5,Y7⟩,Y8,Y9,Z7⟩:=pk3 o6;go_wp2
    go_meet
    case rel=>exact⟨_,(true),aG1,H',le_,⟨pkW l9⟩,⟨pkW o6⟩,⟨pkW o5⟩,⟨pkL HB⟩⟩
   ·replace G9:=Bool.eq_false_iff.mpr G9
    subst G9;rw[if_neg (show ¬(false=true) by decide)] at H;obtain⟨G7,J6,H⟩:=bi H;try dsimp only at H
    have H':=aA.mk H;clear H;have Z8:=F5.out;have Z9:=F6.out;have ae:=o8.out;have af:=D8.out;obtain⟨⟨ag,ah,ai⟩,aj,ak,au⟩:=pk3 l9;have ax:=o9.out;have ay:=D9.out;obtain⟨⟨az,bn,df⟩,dh,di,dw⟩:=pk3 o6
    go_wp2_with(first|(go_at_call 178;(with_reducible refine(jW.calls false C9 D7 G7 _ J6.out).mono ?_);rintro e eu ⟨rfl,hb⟩;replace l9:=pkK l9 hb;replace o6:=pkK o6 hb;replace o5:=pkK o5 hb;replace HB:=pkB HB hb;try clear hb))
    go_meet
    case rel=>exact⟨_,(G7),aG1,H',le_,⟨pkW l9⟩,⟨pkW o6⟩,⟨pkW o5⟩,⟨pkL HB⟩⟩
 case rest=>
  clear H9;obtain⟨kq,G8,rfl,HA,I7,l9,o6,o5,HB⟩:=hcut
  cases kq with
  |zero=>exact absurd HA.out (by simp[dH.j0])
  |succ kj2=>
   have H:=HA.out;clear HA;simp only[dH.j0] at H
   by_cases H5:G8=true
   ·subst H5
    rw[if_pos rfl] at H;obtain⟨⟨J7,J8,J9⟩,L6,H⟩:=bi H;try dsimp only at H
    simp only[Option.some.injEq,Prod.mk.injEq] at H;obtain⟨rfl,rfl,rfl⟩:=H
    go_wp2_with(first|((with_reducible refine aC (f:=179) rfl ?_);refine gM 16 Tryz.func179 (fE.calls (w:=_) (h:=L6.out)) (h:= ?_);intro gm hb;replace l9:=pkK l9 hb;replace o6:=pkK o6 hb;replace o5:=pkK o5 hb;replace HB:=pkB HB hb;try clear hb;have gp:=D8.out;have gq:=o8.out;have gz:=D9.out;have ig:=o9.out;obtain⟨⟨ik,iq,iw⟩,ja,jb,jc⟩:=pk3 o5))
    refine bodyPost_ret (results_cell_row rfl _ _ o7 36 #[.bool J7,.string J8,.string J9] (0,0) _ rfl (pkS3 o5) Tryz.underlying36 rfl (by kernel_rfl)) rfl ?_;exact pkE HB
   ·replace H5:=Bool.eq_false_iff.mpr H5
    subst H5;rw[if_neg (show ¬(false=true) by decide)] at H;have I4:=aA.mk H;clear H
    go_upto_region 3 with (fail)
    go_cut [17] (fun v17 wc=>∃(kq:Nat) (H6:Bool),v17= .bool H6∧aA (dH.j1 kq H6 y8 y9 D5 D6 C9 D7=some (r1,r2,r3))∧aA (kq≤kj2)∧aA (wc.heap[F7]? =some (.cells #[.bool y8,.string y9,.string D5] 36 (0,0)))∧aA (wc.heap[F8]? =some (.cells #[.bool D6,.string C9,.string D7] 36 (0,0)))∧aA (wc.heap[o7]? =some (.cells #[.bool false,.string (⟨#[]⟩:ByteArray),.string (⟨#[]⟩:ByteArray)] 36 (0,0)))∧aA (Below w.heap.size w wc))
    case first=>
     have H:=I4.out;clear I4
     by_cases F9:C9.toList=([48]:List UInt8)
     ·rw[if_pos F9] at H
      obtain⟨G5,L8⟩:=bT F9;clear F9
      (first|rw[G5]|(simp only[jM,jX];rw[G5])|skip)
      obtain⟨I8,L9,H⟩:=bi H;try dsimp only at H
      have H':=aA.mk H;clear H;have jd:=F6.out;have je:=F5.out;have jf:=o9.out;have jg:=D9.out;obtain⟨⟨jh,ji,jk⟩,jl,jm,jo⟩:=pk3 o6;have jq:=o8.out;have jr:=D8.out;obtain⟨⟨jw,jy,ku⟩,kw,kz,lg⟩:=pk3 l9
      go_wp2_with(first|(go_at_call 180;(with_reducible refine(dN.calls D7 y9 I8 _ L9.out).mono ?_);rintro e lh ⟨rfl,hb⟩;replace l9:=pkK l9 hb;replace o6:=pkK o6 hb;replace o5:=pkK o5 hb;replace HB:=pkB HB hb;try clear hb))
      go_meet
      case rel=>exact⟨_,(I8),aG1,H',⟨by have:=I7.out;first|omega|exact Nat.le_refl _⟩,⟨pkW l9⟩,⟨pkW o6⟩,⟨pkW o5⟩,⟨pkL HB⟩⟩
     ·rw[if_neg F9] at H
      obtain⟨G5,L8⟩:=bF F9
      (first|rw[G5]|(simp only[jM,jX];rw[G5])|skip)
      have H':=aA.mk H;clear H;have lq:=F6.out;have lu:=F5.out;have lw:=o9.out;have mf:=D9.out;obtain⟨⟨mg,mi,mr⟩,ng,ni,nz⟩:=pk3 o6;go_wp2
      go_meet
      case rel=>exact⟨_,(false),aG1,H',⟨by have:=I7.out;first|omega|exact Nat.le_refl _⟩,⟨pkW l9⟩,⟨pkW o6⟩,⟨pkW o5⟩,⟨pkL HB⟩⟩
    case rest=>
     clear I4;obtain⟨kq,H6,rfl,HA,oh,l9,o6,o5,HB⟩:=hcut
     cases kq with
     |zero=>exact absurd HA.out (by simp[dH.j1])
     |succ kj29=>
      have H:=HA.out;clear HA;simp only[dH.j1] at H
      by_cases H7:H6=true
      ·subst H7
       rw[if_pos rfl] at H;obtain⟨oq,N7,H⟩:=bi H;try dsimp only at H
       obtain⟨ou,N8,H⟩:=bi H;try dsimp only at H
       obtain⟨⟨N9,O0,O1⟩,O3,H⟩:=bi H;try dsimp only at H
       simp only[Option.some.injEq,Prod.mk.injEq] at H;obtain⟨rfl,rfl,rfl⟩:=H
       try go_wp2
       replace l9:=aA.mk (aK l9.out);replace o6:=aA.mk (aK o6.out);replace o5:=aA.mk (aK o5.out);replace HB:=aA.mk (aJ HB.out)
       refine kF (n:=12) (S:=fun w'=>w'.cell? ⟨F7,0,none⟩=some (.bool y8)∧w'.cell? ⟨F7,1,none⟩=some (.string y9)∧w'.cell? ⟨F7,2,none⟩=some (.string D5)∧w'.cell? ⟨F8,0,none⟩=some (.bool D6)∧w'.cell? ⟨F8,1,none⟩=some (.string C9)∧w'.cell? ⟨F8,2,none⟩=some (.string D7)) (ds:= []) #[false,false,false,false,false,false,false,false,false,false,false,false] (by kernel_rfl) rfl rfl (pc3 l9 (pcL o6)) (fun hHeld=> ?_);refine jZ dH.tab4 dH.bits4 (fun HT_ HW_=> ?_)
       generalize wc.drew=oz at l9 o6 o5 HB hHeld ⊢;refine pr_ 0 28 (h:= ?_);refine pr_ 2 30 (h:= ?_);refine pr_ 5 33 (h:= ?_);refine pr_ 7 35 (h:= ?_);refine tk_ 1 29 hHeld (hy:=hy6) (h:= ?_);refine tk_ 3 31 hHeld (hy:=hy6) (h:= ?_);refine tk_ 6 34 hHeld (hy:=hy6) (h:= ?_);refine tk_ 8 36 hHeld (hy:=hy6) (h:= ?_);refine on_ 4 32 (h:=fun K hK=> ?_);refine gR Tryz.func77 (jR.calls (w:=_) (h:=N7.out)) (h:= ?_);intro pg hb;replace l9:=pkK l9 hb;replace o6:=pkK o6 hb;replace o5:=pkK o5 hb;replace HB:=pkB HB hb
       clear hb;refine hK.out _ _ (pc3 l9 (pcL o6)) (fun hHeld=> ?_);clear hK K;refine nm_ (h:= ?_);refine on_ 9 37 (h:=fun K hK=> ?_);refine gR Tryz.func77 (jR.calls (w:=_) (h:=N8.out)) (h:= ?_);intro pq hb;replace l9:=pkK l9 hb;replace o6:=pkK o6 hb;replace o5:=pkK o5 hb;replace HB:=pkB HB hb
       clear hb;refine hK.out _ _ (pc3 l9 (pcL o6)) (fun hHeld=> ?_);clear hK K;refine nm_ (h:= ?_);refine on_ 10 38 (h:=fun K hK=> ?_);refine gR Tryz.func127 (bJ.calls (w:=_) (h:=O3.out)) (h:= ?_);intro I5 hb;replace l9:=pkK l9 hb;replace o6:=pkK o6 hb;replace o5:=pkK o5 hb;replace HB:=pkB HB hb
       clear hb;refine hK.out _ _ (pc3 l9 (pcL o6)) (fun hHeld=> ?_);clear hK K;refine nm_ (h:= ?_);refine one_ (i:=11) (N:=none) #[true,true,true,true,true,true,true,true,true,true,true,true] rfl rfl (tH HT_.out (by kernel_rfl)) aG0 (fun K hK=> ?_);have pz:I5.cell? ⟨o7,0,none⟩=some (.bool false):=(fF o5.out 0).trans rfl;have qc:=eG o5.out 0;have qf:=o8.out;have qg:=o9.out;have qh:=D8.out;have qi:=D9.out;have qj:I5.cell? ⟨o7,1,none⟩=some (.string (⟨#[]⟩:ByteArray)):=(fF o5.out 1).trans rfl;have ql:=eG o5.out 1;have qm:=o8.out;have qo:=o9.out;have qp:=D8.out;have qw:=D9.out;have qx:I5.cell? ⟨o7,2,none⟩=some (.string (⟨#[]⟩:ByteArray)):=(fF o5.out 2).trans rfl;have qy:=eG o5.out 2;have rf:=o8.out;have rq:=o9.out;have ru:=D8.out;have ry:=D9.out;refine uQ (w1:= ?_) (by rfl) rfl ?_ ?_
       rotate_left
       ·go_simp
        rfl
       refine hK.out _ _ ⟨((aG2 (p:=⟨o7,_,none⟩) o8.out _).trans (((aG2 (p:=⟨o7,_,none⟩) o8.out _).trans (((aG2 (p:=⟨o7,_,none⟩) o8.out _).trans (hHeld.1)))))),((aG2 (p:=⟨o7,_,none⟩) o8.out _).trans (((aG2 (p:=⟨o7,_,none⟩) o8.out _).trans (((aG2 (p:=⟨o7,_,none⟩) o8.out _).trans (hHeld.2.1)))))),((aG2 (p:=⟨o7,_,none⟩) o8.out _).trans (((aG2 (p:=⟨o7,_,none⟩) o8.out _).trans (((aG2 (p:=⟨o7,_,none⟩) o8.out _).trans (hHeld.2.2.1)))))),((aG2 (p:=⟨o7,_,none⟩) o9.out _).trans (((aG2 (p:=⟨o7,_,none⟩) o9.out _).trans (((aG2 (p:=⟨o7,_,none⟩) o9.out _).trans (hHeld.2.2.2.1)))))),((aG2 (p:=⟨o7,_,none⟩) o9.out _).trans (((aG2 (p:=⟨o7,_,none⟩) o9.out _).trans (((aG2 (p:=⟨o7,_,none⟩) o9.out _).trans (hHeld.2.2.2.2.1)))))),((aG2 (p:=⟨o7,_,none⟩) o9.out _).trans (((aG2 (p:=⟨o7,_,none⟩) o9.out _).trans (((aG2 (p:=⟨o7,_,none⟩) o9.out _).trans (hHeld.2.2.2.2.2))))))⟩ (fun hHeld=> ?_);clear hK K;refine kY (lK HT_.out (by kernel_rfl)) ?_
       try go_wp2
       refine bodyPost_ret (results_cell_row rfl _ _ o7 36 #[.bool N9,.string O0,.string O1] (0,0) _ rfl (pkS3 o5) Tryz.underlying36 rfl (by kernel_rfl)) rfl ?_;exact pkE HB
      ·replace H7:=Bool.eq_false_iff.mpr H7
       subst H7;rw[if_neg (show ¬(false=true) by decide)] at H
       by_cases G6:C9.toList=([48]:List UInt8)
       ·rw[if_pos G6] at H
        obtain⟨O4,O5⟩:=bT G6;clear G6;obtain⟨⟨O6,O7,O8⟩,O9,H⟩:=bi H;try dsimp only at H
        simp only[Option.some.injEq,Prod.mk.injEq] at H;obtain⟨rfl,rfl,rfl⟩:=H;have su:=F6.out;have tq:=F5.out;have tu:=o9.out;have uf:=D9.out;obtain⟨⟨ug,uh,ui⟩,uj,uk,ul⟩:=pk3 o6
        go_wp2_with(first|((with_reducible refine aC (f:=181) rfl ?_);refine gM 48 Tryz.func181 (kU.calls (w:=_) (h:=O9.out)) (h:= ?_);intro um hb;replace l9:=pkK l9 hb;replace o6:=pkK o6 hb;replace o5:=pkK o5 hb;replace HB:=pkB HB hb;try clear hb;have uo:=D8.out;have uq:=o8.out;obtain⟨⟨ut,uu,uw⟩,uy,uz,ve⟩:=pk3 o5))
        refine bodyPost_ret (results_cell_row rfl _ _ o7 36 #[.bool O6,.string O7,.string O8] (0,0) _ rfl (pkS3 o5) Tryz.underlying36 rfl (by kernel_rfl)) rfl ?_;exact pkE HB
       ·rw[if_neg G6] at H
        obtain⟨O4,O5⟩:=bF G6;obtain⟨P7,I9,H⟩:=bi H;try dsimp only at H
        by_cases H8:P7=true
        ·subst H8
         rw[if_pos rfl] at H;simp only[Option.some.injEq,Prod.mk.injEq] at H;obtain⟨rfl,rfl,rfl⟩:=H;have vg:=F6.out;have vk:=F5.out;have vw:=o9.out;have vz:=D9.out;obtain⟨⟨wo,wu,ww⟩,xe,xg,xh⟩:=pk3 o6;have xk:=o8.out;have xm:=D8.out;obtain⟨⟨xn,xq,xu⟩,xw,xx,xy⟩:=pk3 l9
         go_wp2_with(first|(go_at_call 178;(with_reducible refine(jW.calls y8 y9 D5 true _ I9.out).mono ?_);rintro e yf ⟨rfl,hb⟩;replace l9:=pkK l9 hb;replace o6:=pkK o6 hb;replace o5:=pkK o5 hb;replace HB:=pkB HB hb;try clear hb;obtain⟨⟨yg,yh,yj⟩,yl,yt,yu⟩:=pk3 l9;obtain⟨⟨yw,yx,yz⟩,zf,zg,zh⟩:=pk3 o5))
         refine bodyPost_ret (results_cell_row rfl _ _ o7 36 #[.bool y8,.string y9,.string D5] (0,0) _ rfl (pkS3 o5) Tryz.underlying36 rfl (by kernel_rfl)) rfl ?_;exact pkE HB
        ·replace H8:=Bool.eq_false_iff.mpr H8
         subst H8;rw[if_neg (show ¬(false=true) by decide)] at H;obtain⟨⟨P8,P9,Q3⟩,Q4,H⟩:=bi H;try dsimp only at H
         simp only[Option.some.injEq,Prod.mk.injEq] at H;obtain⟨rfl,rfl,rfl⟩:=H;have zi:=F6.out;have zk:=F5.out;have zl:=o9.out;have zn:=D9.out;obtain⟨⟨zo,zq,zt⟩,zu,zx,zy⟩:=pk3 o6;have Aa:=o8.out;have Ac:=D8.out;obtain⟨⟨Ad,Ae,Af⟩,Ag,Ah,Ai⟩:=pk3 l9
         go_wp2_with(first|(go_at_call 178;(with_reducible refine(jW.calls y8 y9 D5 false _ I9.out).mono ?_);rintro e Aj ⟨rfl,hb⟩;replace l9:=pkK l9 hb;replace o6:=pkK o6 hb;replace o5:=pkK o5 hb;replace HB:=pkB HB hb;try clear hb)|((with_reducible refine aC (f:=181) rfl ?_);refine gM 48 Tryz.func181 (kU.calls (w:=_) (h:=Q4.out)) (h:= ?_);intro Ak hb;replace l9:=pkK l9 hb;replace o6:=pkK o6 hb;replace o5:=pkK o5 hb;replace HB:=pkB HB hb;try clear hb;obtain⟨⟨Am,Aq,Aw⟩,Az,Ba,Bc⟩:=pk3 o5))
         refine bodyPost_ret (results_cell_row rfl _ _ o7 36 #[.bool P8,.string P9,.string Q3] (0,0) _ rfl (pkS3 o5) Tryz.underlying36 rfl (by kernel_rfl)) rfl ?_;exact pkE HB
def uX.f(k:Nat)(a0_0:Bool)(a0_1:ByteArray)(a0_2:ByteArray)(a1_0:Bool)(a1_1:ByteArray)(a1_2:ByteArray):Option (Bool×ByteArray×ByteArray×Int):=(bQ.f a0_0 a0_1 a0_2 a1_0 a1_1 a1_2).bind fun t293=>(if t293=0 then((dH.f k a0_0 a0_1 a0_2 a1_0 a1_1 a1_2).bind fun bt294=>(some (bt294.1,bt294.2.1,bt294.2.2,0))) else(some (false,(⟨#[]⟩:ByteArray),(⟨#[]⟩:ByteArray),t293)))
theorem uX.calls(k:Nat)(o8:Bool)(o9:ByteArray)(y8:ByteArray)(y9:Bool)(C9:ByteArray)(D5:ByteArray)(r1:Bool)(r2:ByteArray)(r3:ByteArray)(r4:Int)(w:World)(h:uX.f k o8 o9 y8 y9 C9 D5=some (r1,r2,r3,r4)) :
 Calls Tryz.prog 37 #[.agg #[.bool o8,.string o9,.string y8],.agg #[.bool y9,.string C9,.string D5]] w fun e w'=>e= .returned (.tuple #[.agg #[.bool r1,.string r2,.string r3],.int .i64 r4])∧Below w.heap.size w w':=by
 have hu36:=Tryz.underlying36;have HB:=aA.mk (Below.refl w.heap.size w);have H:((bQ.f o8 o9 y8 y9 C9 D5).bind fun D6=>(if D6=0 then((dH.f k o8 o9 y8 y9 C9 D5).bind fun D7=>(some (D7.1,D7.2.1,D7.2.2,0))) else(some (false,(⟨#[]⟩:ByteArray),(⟨#[]⟩:ByteArray),D6))))=some (r1,r2,r3,r4):=h;clear h;obtain⟨D6,A3,H⟩:=bi H;try dsimp only at H
 go_enter Tryz.func37,Tryz.ntmps37
 by_cases c4:D6=0
 ·rw[if_pos c4] at H
  obtain⟨G7,G8⟩:=bT c4;clear c4;obtain⟨⟨G9,H5,H6⟩,A5,H⟩:=bi H;try dsimp only at H
  simp only[Option.some.injEq,Prod.mk.injEq] at H;obtain⟨rfl,rfl,rfl,rfl⟩:=H
  go_wp2_with(first|((with_reducible refine aG (N:=2) rfl ?_);refine bx_ 2 36 #[.bool o8,.string o9,.string y8] (h:= ?_);intro H7 hg w6 o5 hb;have l9:=aA.mk (o5);have D8:=pkG HB hg;have H8:=D8;replace HB:=pkB HB hb;clear hb o5 hg)|((with_reducible refine aG (N:=3) rfl ?_);refine bx_ 3 36 #[.bool y9,.string C9,.string D5] (h:= ?_);intro H9 hg w7 o5 hb;have o6:=aA.mk (o5);have D9:=pkG HB hg;have I4:=D9;obtain⟨E8,F5,_,_⟩:=pkQ l9 hg;replace l9:=pkK l9 hb;replace HB:=pkB HB hb;clear hb o5 hg)|((with_reducible refine aG (N:=4) rfl ?_);refine bx_ 4 36 #[.bool false,.string (⟨#[]⟩:ByteArray),.string (⟨#[]⟩:ByteArray)] (h:= ?_);intro F6 hg w8 o5 hb;have o7:=aA.mk (o5);have F7:=pkG HB hg;have I5:=F7;obtain⟨F8,F9,_,_⟩:=pkQ l9 hg;obtain⟨G5,G6,_,_⟩:=pkQ o6 hg;replace l9:=pkK l9 hb;replace o6:=pkK o6 hb;replace HB:=pkB HB hb;clear hb o5 hg;have I7:=E8.out;have I8:=F5.out;have I9:=F8.out;have J3:=F9.out;obtain⟨⟨J4,J5,J6⟩,J7,J8,J9⟩:=pk3 l9;have L6:=G5.out;have L8:=G6.out;obtain⟨⟨L9,N7,N8⟩,N9,O0,O1⟩:=pk3 o6)|((with_reducible refine aC (f:=102) rfl ?_);refine gM 9 Tryz.func102 (bQ.calls (w:=_) (h:=A3.out)) (h:= ?_);intro O3 hb;replace l9:=pkK l9 hb;replace o6:=pkK o6 hb;replace o7:=pkK o7 hb;replace HB:=pkB HB hb;try clear hb;obtain⟨⟨O4,O5,O6⟩,O7,O8,O9⟩:=pk3 l9;obtain⟨⟨P7,P8,P9⟩,Q3,Q4,Q5⟩:=pk3 o6)|((with_reducible refine aC (f:=103) rfl ?_);refine gM 16 Tryz.func103 (dH.calls (w:=_) (h:=A5.out)) (h:= ?_);intro Q7 hb;replace l9:=pkK l9 hb;replace o6:=pkK o6 hb;replace o7:=pkK o7 hb;replace HB:=pkB HB hb;try clear hb;obtain⟨⟨Q8,Q9,S9⟩,U3,U4,U5⟩:=pk3 o7))
  refine bodyPost_ret (gW rfl _ _ F6 36 #[.bool G9,.string H5,.string H6] (0,0) _ rfl (pkS3 o7) Tryz.underlying36 rfl (by kernel_rfl)) rfl ?_;exact pkE HB
 ·rw[if_neg c4] at H
  obtain⟨G7,G8⟩:=bF c4;simp only[Option.some.injEq,Prod.mk.injEq] at H;obtain⟨rfl,rfl,rfl,rfl⟩:=H
  go_wp2_with(first|((with_reducible refine aG (N:=2) rfl ?_);refine bx_ 2 36 #[.bool o8,.string o9,.string y8] (h:= ?_);intro H7 hg U6 o5 hb;have l9:=aA.mk (o5);have D8:=pkG HB hg;have H8:=D8;replace HB:=pkB HB hb;clear hb o5 hg)|((with_reducible refine aG (N:=3) rfl ?_);refine bx_ 3 36 #[.bool y9,.string C9,.string D5] (h:= ?_);intro H9 hg U7 o5 hb;have o6:=aA.mk (o5);have D9:=pkG HB hg;have I4:=D9;obtain⟨E8,F5,_,_⟩:=pkQ l9 hg;replace l9:=pkK l9 hb;replace HB:=pkB HB hb;clear hb o5 hg)|((with_reducible refine aG (N:=4) rfl ?_);refine bx_ 4 36 #[.bool false,.string (⟨#[]⟩:ByteArray),.string (⟨#[]⟩:ByteArray)] (h:= ?_);intro F6 hg U8 o5 hb;have o7:=aA.mk (o5);have F7:=pkG HB hg;have I5:=F7;obtain⟨F8,F9,_,_⟩:=pkQ l9 hg;obtain⟨G5,G6,_,_⟩:=pkQ o6 hg;replace l9:=pkK l9 hb;replace o6:=pkK o6 hb;replace HB:=pkB HB hb;clear hb o5 hg;have U9:=E8.out;have V3:=F5.out;have V4:=F8.out;have V5:=F9.out;obtain⟨⟨V6,V7,V8⟩,V9,X4,X5⟩:=pk3 l9;have X7:=G5.out;have X8:=G6.out;obtain⟨⟨X9,Y0,Y4⟩,Y5,Y7,Y8⟩:=pk3 o6)|((with_reducible refine aC (f:=102) rfl ?_);refine gM 9 Tryz.func102 (bQ.calls (w:=_) (h:=A3.out)) (h:= ?_);intro Y9 hb;replace l9:=pkK l9 hb;replace o6:=pkK o6 hb;replace o7:=pkK o7 hb;replace HB:=pkB HB hb;try clear hb;obtain⟨⟨Z7,Z8,Z9⟩,ae,af,ag⟩:=pk3 o7))
  refine bodyPost_ret (gW rfl _ _ F6 36 #[.bool false,.string (⟨#[]⟩:ByteArray),.string (⟨#[]⟩:ByteArray)] (0,0) _ rfl (pkS3 o7) Tryz.underlying36 rfl (by kernel_rfl)) rfl ?_;exact pkE HB
end Go.Proofs.YtignanmmgaldeaaGreatDoor.PRefQ
end
section
set_option linter.unusedVariables false
set_option linter.unusedSimpArgs false
set_option maxHeartbeats 8000000
set_option maxRecDepth 100000
namespace Go.Proofs.YtignanmmgaldeaaGreatDoor.PRefQ
open Go.RowKit Go.Proofs.YtignanmmgaldeaaGreatDoorW.PrintWords Go.Proofs.YtignanmmgaldeaaGreatDoorW.PrintLast Go.Proofs.YtignanmmgaldeaaGreatDoorW.PrintMore
attribute [local go_sem] dQ dR eH eP
mutual
def bZ.j0:Nat→Bool→Bool→ByteArray→ByteArray→Bool→ByteArray→ByteArray→Option (Bool×ByteArray×ByteArray)
 |0,_,_,_,_,_,_,_=>none
 |k+1,x5,x298000,x298001,x298002,x299000,x299001,x299002=>if x5=true then((fE.f).bind fun bt301=>(some (bt301.1,bt301.2.1,bt301.2.2))) else(if x299001.toList=([48]:List UInt8) then((dN.f x299002 x298001).bind fun t304=>(bZ.j1 k t304 x298000 x298001 x298002 x299000 x299001 x299002)) else(bZ.j1 k false x298000 x298001 x298002 x299000 x299001 x299002))
def bZ.j1:Nat→Bool→Bool→ByteArray→ByteArray→Bool→ByteArray→ByteArray→Option (Bool×ByteArray×ByteArray)
 |0,_,_,_,_,_,_,_=>none
 |k+1,x17,x298000,x298001,x298002,x299000,x299001,x299002=>if x17=true then((lT.f x298002 x299002).bind fun t305=>((jT.f k t305).bind fun bt306=>(some (bt306.1,bt306.2.1,bt306.2.2)))) else((fZ.f x299001 x299002).bind fun t309=>((fZ.f x298001 t309).bind fun t310=>((bJ.f k t310 x298002).bind fun bt311=>(some (bt311.1,bt311.2.1,bt311.2.2)))))
end
def bZ.f(k:Nat)(a0_0:Bool)(a0_1:ByteArray)(a0_2:ByteArray)(a1_0:Bool)(a1_1:ByteArray)(a1_2:ByteArray):Option (Bool×ByteArray×ByteArray):=if a0_0=true then(bZ.j0 k true a0_0 a0_1 a0_2 a1_0 a1_1 a1_2) else(if a1_0=true then(bZ.j0 k true a0_0 a0_1 a0_2 a1_0 a1_1 a1_2) else((jW.f a1_0 a1_1 a1_2).bind fun t300=>(bZ.j0 k t300 a0_0 a0_1 a0_2 a1_0 a1_1 a1_2)))
def bZ.T5:Bool×List (List Nat×List Nat):=(true,[([],[]),([0],[0]),([],[]),([2],[2]),([],[]),([4],[4]),([3,5],[3,5]),([1,6,6],[1,6]),([],[]),([8],[8]),([7,9,7],[7,9]),([10,10,0,1,2,3,4,5,6,7,8,9,10],[10])])
def bZ.B5:List Nat:= [0,1,0,4,0,16,60,127,0,256,1023,2047]
theorem bZ.tab5:rtab .any (opsOf Tryz.f105 5)=bZ.T5:=by kernel_rfl
theorem bZ.bits5:kX bZ.T5.2 bZ.B5=true:=by kernel_rfl
theorem bZ.calls(k:Nat)(D5:Bool)(D6:ByteArray)(D7:ByteArray)(y8:Bool)(y9:ByteArray)(C9:ByteArray)(r1:Bool)(r2:ByteArray)(r3:ByteArray)(w:World)(h:bZ.f k D5 D6 D7 y8 y9 C9=some (r1,r2,r3)) :
 Calls Tryz.prog 105 #[.agg #[.bool D5,.string D6,.string D7],.agg #[.bool y8,.string y9,.string C9]] w fun e w'=>e= .returned (.agg #[.bool r1,.string r2,.string r3])∧Below w.heap.size w w':=by
 have hu36:=Tryz.underlying36;have HB:=aA.mk (Below.refl w.heap.size w);have H:(if D5=true then(bZ.j0 k true D5 D6 D7 y8 y9 C9) else(if y8=true then(bZ.j0 k true D5 D6 D7 y8 y9 C9) else((jW.f y8 y9 C9).bind fun G6=>(bZ.j0 k G6 D5 D6 D7 y8 y9 C9))))=some (r1,r2,r3):=h;clear h;have H7:=aA.mk H;clear H;go_enter Tryz.func105,Tryz.ntmps105
 go_upto_region 1 with (first|((with_reducible refine aG (N:=2) rfl ?_);refine bx_ 2 36 #[.bool D5,.string D6,.string D7] (h:= ?_);intro F7 hg w4 E8 hb;have l9:=aA.mk (E8);have I7:=pkG HB hg;have O6:=I7;replace HB:=pkB HB hb;clear hb E8 hg)|((with_reducible refine aG (N:=3) rfl ?_);refine bx_ 3 36 #[.bool y8,.string y9,.string C9] (h:= ?_);intro F8 hg w5 E8 hb;have o5:=aA.mk (E8);have I8:=pkG HB hg;have O7:=I8;obtain⟨F5,F6,_,_⟩:=pkQ l9 hg;replace l9:=pkK l9 hb;replace HB:=pkB HB hb;clear hb E8 hg)|((with_reducible refine aG (N:=4) rfl ?_);refine bx_ 4 36 #[.bool false,.string (⟨#[]⟩:ByteArray),.string (⟨#[]⟩:ByteArray)] (h:= ?_);intro o7 hg w6 E8 hb;have o6:=aA.mk (E8);have I9:=pkG HB hg;have O8:=I9;obtain⟨o8,D8,_,_⟩:=pkQ l9 hg;obtain⟨o9,D9,_,_⟩:=pkQ o5 hg;replace l9:=pkK l9 hb;replace o5:=pkK o5 hb;replace HB:=pkB HB hb;clear hb E8 hg))
 (try simp only[Act.put,List.setIfInBounds_toArray,List.set_cons_zero,List.set_cons_succ])
 go_cut [5] (fun v5 wc=>∃(kq:Nat) (G7:Bool),v5= .bool G7∧aA (bZ.j0 kq G7 D5 D6 D7 y8 y9 C9=some (r1,r2,r3))∧aA (kq≤k)∧aA (wc.heap[F7]? =some (.cells #[.bool D5,.string D6,.string D7] 36 (0,0)))∧aA (wc.heap[F8]? =some (.cells #[.bool y8,.string y9,.string C9] 36 (0,0)))∧aA (wc.heap[o7]? =some (.cells #[.bool false,.string (⟨#[]⟩:ByteArray),.string (⟨#[]⟩:ByteArray)] 36 (0,0)))∧aA (Below w.heap.size w wc))
 case first=>
  have H:=H7.out;clear H7
  by_cases c7:D5=true
  ·subst c7
   rw[if_pos rfl] at H;have H':=aA.mk H;clear H;have O9:=F5.out;have P7:=F6.out;have P8:=o8.out;have P9:=D8.out;obtain⟨⟨Q3,Q4,Q5⟩,Q7,Q8,Q9⟩:=pk3 l9;go_wp2
   go_meet
   case rel=>exact⟨_,(true),aG1,H',le_,⟨pkW l9⟩,⟨pkW o5⟩,⟨pkW o6⟩,⟨pkL HB⟩⟩
  ·replace c7:=Bool.eq_false_iff.mpr c7
   subst c7;rw[if_neg (show ¬(false=true) by decide)] at H
   by_cases G8:y8=true
   ·subst G8
    rw[if_pos rfl] at H;have H':=aA.mk H;clear H;have S9:=F5.out;have U3:=F6.out;have U4:=o8.out;have U5:=D8.out;obtain⟨⟨U6,U7,U8⟩,U9,V3,V4⟩:=pk3 l9;have V5:=o9.out;have V6:=D9.out;obtain⟨⟨V7,V8,V9⟩,X4,X5,X7⟩:=pk3 o5;go_wp2
    go_meet
    case rel=>exact⟨_,(true),aG1,H',le_,⟨pkW l9⟩,⟨pkW o5⟩,⟨pkW o6⟩,⟨pkL HB⟩⟩
   ·replace G8:=Bool.eq_false_iff.mpr G8
    subst G8;rw[if_neg (show ¬(false=true) by decide)] at H;obtain⟨G6,J3,H⟩:=bi H;try dsimp only at H
    have H':=aA.mk H;clear H;have X8:=F5.out;have X9:=F6.out;have Y0:=o8.out;have Y4:=D8.out;obtain⟨⟨Y5,Y7,Y8⟩,Y9,Z7,Z8⟩:=pk3 l9;have Z9:=o9.out;have ae:=D9.out;obtain⟨⟨af,ag,ah⟩,ai,aj,ak⟩:=pk3 o5
    go_wp2_with(first|(go_at_call 178;(with_reducible refine(jW.calls false y9 C9 G6 _ J3.out).mono ?_);rintro e au ⟨rfl,hb⟩;replace l9:=pkK l9 hb;replace o5:=pkK o5 hb;replace o6:=pkK o6 hb;replace HB:=pkB HB hb;try clear hb))
    go_meet
    case rel=>exact⟨_,(G6),aG1,H',le_,⟨pkW l9⟩,⟨pkW o5⟩,⟨pkW o6⟩,⟨pkL HB⟩⟩
 case rest=>
  clear H7;obtain⟨kq,G7,rfl,HA,I4,l9,o5,o6,HB⟩:=hcut
  cases kq with
  |zero=>exact absurd HA.out (by simp[bZ.j0])
  |succ kj2=>
   have H:=HA.out;clear HA;simp only[bZ.j0] at H
   by_cases G9:G7=true
   ·subst G9
    rw[if_pos rfl] at H;obtain⟨⟨J4,J5,J6⟩,J7,H⟩:=bi H;try dsimp only at H
    simp only[Option.some.injEq,Prod.mk.injEq] at H;obtain⟨rfl,rfl,rfl⟩:=H
    go_wp2_with(first|((with_reducible refine aC (f:=179) rfl ?_);refine gM 16 Tryz.func179 (fE.calls (w:=_) (h:=J7.out)) (h:= ?_);intro ax hb;replace l9:=pkK l9 hb;replace o5:=pkK o5 hb;replace o6:=pkK o6 hb;replace HB:=pkB HB hb;try clear hb;have ay:=D8.out;have az:=o8.out;have bn:=D9.out;have df:=o9.out;obtain⟨⟨dh,di,dw⟩,eu,gm,gp⟩:=pk3 o6))
    refine bodyPost_ret (results_cell_row rfl _ _ o7 36 #[.bool J4,.string J5,.string J6] (0,0) _ rfl (pkS3 o6) Tryz.underlying36 rfl (by kernel_rfl)) rfl ?_;exact pkE HB
   ·replace G9:=Bool.eq_false_iff.mpr G9
    subst G9;rw[if_neg (show ¬(false=true) by decide)] at H;have H8:=aA.mk H;clear H
    go_upto_region 3 with (fail)
    go_cut [17] (fun v17 wc=>∃(kq:Nat) (H5:Bool),v17= .bool H5∧aA (bZ.j1 kq H5 D5 D6 D7 y8 y9 C9=some (r1,r2,r3))∧aA (kq≤kj2)∧aA (wc.heap[F7]? =some (.cells #[.bool D5,.string D6,.string D7] 36 (0,0)))∧aA (wc.heap[F8]? =some (.cells #[.bool y8,.string y9,.string C9] 36 (0,0)))∧aA (wc.heap[o7]? =some (.cells #[.bool false,.string (⟨#[]⟩:ByteArray),.string (⟨#[]⟩:ByteArray)] 36 (0,0)))∧aA (Below w.heap.size w wc))
    case first=>
     have H:=H8.out;clear H8
     by_cases F9:y9.toList=([48]:List UInt8)
     ·rw[if_pos F9] at H
      obtain⟨G5,J8⟩:=bT F9;clear F9
      (first|rw[G5]|(simp only[jM,jX];rw[G5])|skip)
      obtain⟨I5,J9,H⟩:=bi H;try dsimp only at H
      have H':=aA.mk H;clear H;have gq:=F6.out;have gz:=F5.out;have ig:=o9.out;have ik:=D9.out;obtain⟨⟨iq,iw,ja⟩,jb,jc,jd⟩:=pk3 o5;have je:=o8.out;have jf:=D8.out;obtain⟨⟨jg,jh,ji⟩,jk,jl,jm⟩:=pk3 l9
      go_wp2_with(first|(go_at_call 180;(with_reducible refine(dN.calls C9 D6 I5 _ J9.out).mono ?_);rintro e jo ⟨rfl,hb⟩;replace l9:=pkK l9 hb;replace o5:=pkK o5 hb;replace o6:=pkK o6 hb;replace HB:=pkB HB hb;try clear hb))
      go_meet
      case rel=>exact⟨_,(I5),aG1,H',⟨by have:=I4.out;first|omega|exact Nat.le_refl _⟩,⟨pkW l9⟩,⟨pkW o5⟩,⟨pkW o6⟩,⟨pkL HB⟩⟩
     ·rw[if_neg F9] at H
      obtain⟨G5,J8⟩:=bF F9
      (first|rw[G5]|(simp only[jM,jX];rw[G5])|skip)
      have H':=aA.mk H;clear H;have jq:=F6.out;have jr:=F5.out;have jw:=o9.out;have jy:=D9.out;obtain⟨⟨ku,kw,kz⟩,lg,lh,lq⟩:=pk3 o5;go_wp2
      go_meet
      case rel=>exact⟨_,(false),aG1,H',⟨by have:=I4.out;first|omega|exact Nat.le_refl _⟩,⟨pkW l9⟩,⟨pkW o5⟩,⟨pkW o6⟩,⟨pkL HB⟩⟩
    case rest=>
     clear H8;obtain⟨kq,H5,rfl,HA,lu,l9,o5,o6,HB⟩:=hcut
     cases kq with
     |zero=>exact absurd HA.out (by simp[bZ.j1])
     |succ kj29=>
      have H:=HA.out;clear HA;simp only[bZ.j1] at H
      by_cases H6:H5=true
      ·subst H6
       rw[if_pos rfl] at H;obtain⟨lw,L6,H⟩:=bi H;try dsimp only at H
       obtain⟨⟨L8,L9,N7⟩,N8,H⟩:=bi H;try dsimp only at H
       simp only[Option.some.injEq,Prod.mk.injEq] at H;obtain⟨rfl,rfl,rfl⟩:=H;have mf:=F5.out;have mg:=F6.out;have mi:=o8.out;have mr:=D8.out;obtain⟨⟨ng,ni,nz⟩,oh,oq,ou⟩:=pk3 l9;have oz:=o9.out;have pg:=D9.out;obtain⟨⟨pq,pz,qc⟩,qf,qg,qh⟩:=pk3 o5
       go_wp2_with(first|((with_reducible refine aC (f:=78) rfl ?_);refine gM 32 Tryz.func78 (lT.calls (w:=_) (h:=L6.out)) (h:= ?_);intro qi hb;replace l9:=pkK l9 hb;replace o5:=pkK o5 hb;replace o6:=pkK o6 hb;replace HB:=pkB HB hb;try clear hb)|((with_reducible refine aC (f:=126) rfl ?_);refine gM 33 Tryz.func126 (jT.calls (w:=_) (h:=N8.out)) (h:= ?_);intro qj hb;replace l9:=pkK l9 hb;replace o5:=pkK o5 hb;replace o6:=pkK o6 hb;replace HB:=pkB HB hb;try clear hb;obtain⟨⟨ql,qm,qo⟩,qp,qw,qx⟩:=pk3 o6))
       refine bodyPost_ret (results_cell_row rfl _ _ o7 36 #[.bool L8,.string L9,.string N7] (0,0) _ rfl (pkS3 o6) Tryz.underlying36 rfl (by kernel_rfl)) rfl ?_;exact pkE HB
      ·replace H6:=Bool.eq_false_iff.mpr H6
       subst H6;rw[if_neg (show ¬(false=true) by decide)] at H;obtain⟨qy,N9,H⟩:=bi H;try dsimp only at H
       obtain⟨rf,O0,H⟩:=bi H;try dsimp only at H
       obtain⟨⟨O1,O3,O4⟩,O5,H⟩:=bi H;try dsimp only at H
       simp only[Option.some.injEq,Prod.mk.injEq] at H;obtain⟨rfl,rfl,rfl⟩:=H
       try go_wp2
       replace l9:=aA.mk (aK l9.out);replace o5:=aA.mk (aK o5.out);replace o6:=aA.mk (aK o6.out);replace HB:=aA.mk (aJ HB.out)
       refine kF (n:=12) (S:=fun w'=>w'.cell? ⟨F7,0,none⟩=some (.bool D5)∧w'.cell? ⟨F7,1,none⟩=some (.string D6)∧w'.cell? ⟨F7,2,none⟩=some (.string D7)∧w'.cell? ⟨F8,0,none⟩=some (.bool y8)∧w'.cell? ⟨F8,1,none⟩=some (.string y9)∧w'.cell? ⟨F8,2,none⟩=some (.string C9)) (ds:= []) #[false,false,false,false,false,false,false,false,false,false,false,false] (by kernel_rfl) rfl rfl (pc3 l9 (pcL o5)) (fun hHeld=> ?_);refine jZ bZ.tab5 bZ.bits5 (fun HT_ HW_=> ?_)
       generalize wc.drew=rq at l9 o5 o6 HB hHeld ⊢;refine pr_ 0 34 (h:= ?_);refine pr_ 2 36 (h:= ?_);refine pr_ 4 38 (h:= ?_);refine pr_ 8 42 (h:= ?_);refine tk_ 1 35 hHeld (hy:=hy6) (h:= ?_);refine tk_ 3 37 hHeld (hy:=hy6) (h:= ?_);refine tk_ 5 39 hHeld (hy:=hy6) (h:= ?_);refine tk_ 9 43 hHeld (hy:=hy6) (h:= ?_);refine on_ 6 40 (h:=fun K hK=> ?_);refine gR Tryz.func89 (fZ.calls (w:=_) (h:=N9.out)) (h:= ?_);intro ru hb;replace l9:=pkK l9 hb;replace o5:=pkK o5 hb;replace o6:=pkK o6 hb;replace HB:=pkB HB hb
       clear hb;refine hK.out _ _ (pc3 l9 (pcL o5)) (fun hHeld=> ?_);clear hK K;refine nm_ (h:= ?_);refine on_ 7 41 (h:=fun K hK=> ?_);refine gR Tryz.func89 (fZ.calls (w:=_) (h:=O0.out)) (h:= ?_);intro ry hb;replace l9:=pkK l9 hb;replace o5:=pkK o5 hb;replace o6:=pkK o6 hb;replace HB:=pkB HB hb
       clear hb;refine hK.out _ _ (pc3 l9 (pcL o5)) (fun hHeld=> ?_);clear hK K;refine nm_ (h:= ?_);refine on_ 10 44 (h:=fun K hK=> ?_);refine gR Tryz.func127 (bJ.calls (w:=_) (h:=O5.out)) (h:= ?_);intro H9 hb;replace l9:=pkK l9 hb;replace o5:=pkK o5 hb;replace o6:=pkK o6 hb;replace HB:=pkB HB hb
       clear hb;refine hK.out _ _ (pc3 l9 (pcL o5)) (fun hHeld=> ?_);clear hK K;refine nm_ (h:= ?_);refine one_ (i:=11) (N:=none) #[true,true,true,true,true,true,true,true,true,true,true,true] rfl rfl (tH HT_.out (by kernel_rfl)) aG0 (fun K hK=> ?_);have su:H9.cell? ⟨o7,0,none⟩=some (.bool false):=(fF o6.out 0).trans rfl;have tq:=eG o6.out 0;have tu:=o8.out;have uf:=o9.out;have ug:=D8.out;have uh:=D9.out;have ui:H9.cell? ⟨o7,1,none⟩=some (.string (⟨#[]⟩:ByteArray)):=(fF o6.out 1).trans rfl;have uj:=eG o6.out 1;have uk:=o8.out;have ul:=o9.out;have um:=D8.out;have uo:=D9.out;have uq:H9.cell? ⟨o7,2,none⟩=some (.string (⟨#[]⟩:ByteArray)):=(fF o6.out 2).trans rfl;have ut:=eG o6.out 2;have uu:=o8.out;have uw:=o9.out;have uy:=D8.out;have uz:=D9.out;refine uQ (w1:= ?_) (by rfl) rfl ?_ ?_
       rotate_left
       ·go_simp
        rfl
       refine hK.out _ _ ⟨((aG2 (p:=⟨o7,_,none⟩) o8.out _).trans (((aG2 (p:=⟨o7,_,none⟩) o8.out _).trans (((aG2 (p:=⟨o7,_,none⟩) o8.out _).trans (hHeld.1)))))),((aG2 (p:=⟨o7,_,none⟩) o8.out _).trans (((aG2 (p:=⟨o7,_,none⟩) o8.out _).trans (((aG2 (p:=⟨o7,_,none⟩) o8.out _).trans (hHeld.2.1)))))),((aG2 (p:=⟨o7,_,none⟩) o8.out _).trans (((aG2 (p:=⟨o7,_,none⟩) o8.out _).trans (((aG2 (p:=⟨o7,_,none⟩) o8.out _).trans (hHeld.2.2.1)))))),((aG2 (p:=⟨o7,_,none⟩) o9.out _).trans (((aG2 (p:=⟨o7,_,none⟩) o9.out _).trans (((aG2 (p:=⟨o7,_,none⟩) o9.out _).trans (hHeld.2.2.2.1)))))),((aG2 (p:=⟨o7,_,none⟩) o9.out _).trans (((aG2 (p:=⟨o7,_,none⟩) o9.out _).trans (((aG2 (p:=⟨o7,_,none⟩) o9.out _).trans (hHeld.2.2.2.2.1)))))),((aG2 (p:=⟨o7,_,none⟩) o9.out _).trans (((aG2 (p:=⟨o7,_,none⟩) o9.out _).trans (((aG2 (p:=⟨o7,_,none⟩) o9.out _).trans (hHeld.2.2.2.2.2))))))⟩ (fun hHeld=> ?_);clear hK K;refine kY (lK HT_.out (by kernel_rfl)) ?_
       try go_wp2
       refine bodyPost_ret (results_cell_row rfl _ _ o7 36 #[.bool O1,.string O3,.string O4] (0,0) _ rfl (pkS3 o6) Tryz.underlying36 rfl (by kernel_rfl)) rfl ?_;exact pkE HB
def uY.f(k:Nat)(a0_0:Bool)(a0_1:ByteArray)(a0_2:ByteArray)(a1_0:Bool)(a1_1:ByteArray)(a1_2:ByteArray):Option (Bool×ByteArray×ByteArray×Int):=(bQ.f a0_0 a0_1 a0_2 a1_0 a1_1 a1_2).bind fun t317=>(if t317=0 then((bZ.f k a0_0 a0_1 a0_2 a1_0 a1_1 a1_2).bind fun bt318=>(some (bt318.1,bt318.2.1,bt318.2.2,0))) else(some (false,(⟨#[]⟩:ByteArray),(⟨#[]⟩:ByteArray),t317)))
theorem uY.calls(k:Nat)(o8:Bool)(o9:ByteArray)(y8:ByteArray)(y9:Bool)(C9:ByteArray)(D5:ByteArray)(r1:Bool)(r2:ByteArray)(r3:ByteArray)(r4:Int)(w:World)(h:uY.f k o8 o9 y8 y9 C9 D5=some (r1,r2,r3,r4)) :
 Calls Tryz.prog 39 #[.agg #[.bool o8,.string o9,.string y8],.agg #[.bool y9,.string C9,.string D5]] w fun e w'=>e= .returned (.tuple #[.agg #[.bool r1,.string r2,.string r3],.int .i64 r4])∧Below w.heap.size w w':=by
 have hu36:=Tryz.underlying36;have HB:=aA.mk (Below.refl w.heap.size w);have H:((bQ.f o8 o9 y8 y9 C9 D5).bind fun D6=>(if D6=0 then((bZ.f k o8 o9 y8 y9 C9 D5).bind fun D7=>(some (D7.1,D7.2.1,D7.2.2,0))) else(some (false,(⟨#[]⟩:ByteArray),(⟨#[]⟩:ByteArray),D6))))=some (r1,r2,r3,r4):=h;clear h;obtain⟨D6,A3,H⟩:=bi H;try dsimp only at H
 go_enter Tryz.func39,Tryz.ntmps39
 by_cases c4:D6=0
 ·rw[if_pos c4] at H
  obtain⟨G7,G8⟩:=bT c4;clear c4;obtain⟨⟨G9,H5,H6⟩,A5,H⟩:=bi H;try dsimp only at H
  simp only[Option.some.injEq,Prod.mk.injEq] at H;obtain⟨rfl,rfl,rfl,rfl⟩:=H
  go_wp2_with(first|((with_reducible refine aG (N:=2) rfl ?_);refine bx_ 2 36 #[.bool o8,.string o9,.string y8] (h:= ?_);intro H7 hg w6 o5 hb;have l9:=aA.mk (o5);have D8:=pkG HB hg;have H8:=D8;replace HB:=pkB HB hb;clear hb o5 hg)|((with_reducible refine aG (N:=3) rfl ?_);refine bx_ 3 36 #[.bool y9,.string C9,.string D5] (h:= ?_);intro H9 hg w7 o5 hb;have o6:=aA.mk (o5);have D9:=pkG HB hg;have I4:=D9;obtain⟨E8,F5,_,_⟩:=pkQ l9 hg;replace l9:=pkK l9 hb;replace HB:=pkB HB hb;clear hb o5 hg)|((with_reducible refine aG (N:=4) rfl ?_);refine bx_ 4 36 #[.bool false,.string (⟨#[]⟩:ByteArray),.string (⟨#[]⟩:ByteArray)] (h:= ?_);intro F6 hg w8 o5 hb;have o7:=aA.mk (o5);have F7:=pkG HB hg;have I5:=F7;obtain⟨F8,F9,_,_⟩:=pkQ l9 hg;obtain⟨G5,G6,_,_⟩:=pkQ o6 hg;replace l9:=pkK l9 hb;replace o6:=pkK o6 hb;replace HB:=pkB HB hb;clear hb o5 hg;have I7:=E8.out;have I8:=F5.out;have I9:=F8.out;have J3:=F9.out;obtain⟨⟨J4,J5,J6⟩,J7,J8,J9⟩:=pk3 l9;have L6:=G5.out;have L8:=G6.out;obtain⟨⟨L9,N7,N8⟩,N9,O0,O1⟩:=pk3 o6)|((with_reducible refine aC (f:=102) rfl ?_);refine gM 9 Tryz.func102 (bQ.calls (w:=_) (h:=A3.out)) (h:= ?_);intro O3 hb;replace l9:=pkK l9 hb;replace o6:=pkK o6 hb;replace o7:=pkK o7 hb;replace HB:=pkB HB hb;try clear hb;obtain⟨⟨O4,O5,O6⟩,O7,O8,O9⟩:=pk3 l9;obtain⟨⟨P7,P8,P9⟩,Q3,Q4,Q5⟩:=pk3 o6)|((with_reducible refine aC (f:=105) rfl ?_);refine gM 16 Tryz.func105 (bZ.calls (w:=_) (h:=A5.out)) (h:= ?_);intro Q7 hb;replace l9:=pkK l9 hb;replace o6:=pkK o6 hb;replace o7:=pkK o7 hb;replace HB:=pkB HB hb;try clear hb;obtain⟨⟨Q8,Q9,S9⟩,U3,U4,U5⟩:=pk3 o7))
  refine bodyPost_ret (gW rfl _ _ F6 36 #[.bool G9,.string H5,.string H6] (0,0) _ rfl (pkS3 o7) Tryz.underlying36 rfl (by kernel_rfl)) rfl ?_;exact pkE HB
 ·rw[if_neg c4] at H
  obtain⟨G7,G8⟩:=bF c4;simp only[Option.some.injEq,Prod.mk.injEq] at H;obtain⟨rfl,rfl,rfl,rfl⟩:=H
  go_wp2_with(first|((with_reducible refine aG (N:=2) rfl ?_);refine bx_ 2 36 #[.bool o8,.string o9,.string y8] (h:= ?_);intro H7 hg U6 o5 hb;have l9:=aA.mk (o5);have D8:=pkG HB hg;have H8:=D8;replace HB:=pkB HB hb;clear hb o5 hg)|((with_reducible refine aG (N:=3) rfl ?_);refine bx_ 3 36 #[.bool y9,.string C9,.string D5] (h:= ?_);intro H9 hg U7 o5 hb;have o6:=aA.mk (o5);have D9:=pkG HB hg;have I4:=D9;obtain⟨E8,F5,_,_⟩:=pkQ l9 hg;replace l9:=pkK l9 hb;replace HB:=pkB HB hb;clear hb o5 hg)|((with_reducible refine aG (N:=4) rfl ?_);refine bx_ 4 36 #[.bool false,.string (⟨#[]⟩:ByteArray),.string (⟨#[]⟩:ByteArray)] (h:= ?_);intro F6 hg U8 o5 hb;have o7:=aA.mk (o5);have F7:=pkG HB hg;have I5:=F7;obtain⟨F8,F9,_,_⟩:=pkQ l9 hg;obtain⟨G5,G6,_,_⟩:=pkQ o6 hg;replace l9:=pkK l9 hb;replace o6:=pkK o6 hb;replace HB:=pkB HB hb;clear hb o5 hg;have U9:=E8.out;have V3:=F5.out;have V4:=F8.out;have V5:=F9.out;obtain⟨⟨V6,V7,V8⟩,V9,X4,X5⟩:=pk3 l9;have X7:=G5.out;have X8:=G6.out;obtain⟨⟨X9,Y0,Y4⟩,Y5,Y7,Y8⟩:=pk3 o6)|((with_reducible refine aC (f:=102) rfl ?_);refine gM 9 Tryz.func102 (bQ.calls (w:=_) (h:=A3.out)) (h:= ?_);intro Y9 hb;replace l9:=pkK l9 hb;replace o6:=pkK o6 hb;replace o7:=pkK o7 hb;replace HB:=pkB HB hb;try clear hb;obtain⟨⟨Z7,Z8,Z9⟩,ae,af,ag⟩:=pk3 o7))
  refine bodyPost_ret (gW rfl _ _ F6 36 #[.bool false,.string (⟨#[]⟩:ByteArray),.string (⟨#[]⟩:ByteArray)] (0,0) _ rfl (pkS3 o7) Tryz.underlying36 rfl (by kernel_rfl)) rfl ?_;exact pkE HB
end Go.Proofs.YtignanmmgaldeaaGreatDoor.PRefQ
end
section
set_option linter.unusedVariables false
set_option linter.unusedSimpArgs false
namespace Go.Proofs.YtignanmmgaldeaaGreatDoor.RefV
open Go.RowKit Go.Proofs.YtignanmmgaldeaaGreatDoor Go.Proofs.YtignanmmgaldeaaGreatDoor.PRefQ Go.Proofs.YtignanmmgaldeaaGreatDoor.RefP Go.Proofs.YtignanmmgaldeaaGreatDoor.CongM Go.Proofs.YtignanmmgaldeaaGreatDoorW.PrintWords
theorem uA{x y:Int}{n:Nat}(hx:Bd n x)(hy:Bd n y)(hn:1≤n)(h4:n≤4400):dN.f (text x) (text y)=some (decide (x∣y)):=by
 unfold dN.f
 have fin:∀{z:Int},(x∣y↔z=0)→some ((text z).toList==([48]:List UInt8))=some (decide (x∣y)):=fun {z} e=>by
  congr 1
  have e2:x∣y↔(text z).toList=([48]:List UInt8):=by rw[e,bK]
  by_cases h:x∣y
  ·rw[decide_eq_true h,e2.1 h];rfl
  ·rw[decide_eq_false h]
   simp only[beq_eq_false_iff_ne,ne_eq];exact fun q=>h (e2.2 q)
 by_cases h0:x=0
 ·rw[if_pos ((bK x).2 h0)]
  exact fin (by rw[h0,Int.zero_dvd])
 ·rw[if_neg (fun q=>h0 ((bK x).1 q)),aB8 hy hx hn h4 h0,Option.bind_some]
  exact fin Int.dvd_iff_fmod_eq_zero
theorem aC1{e1:Bool}{m1 r1:ByteArray}{e2:Bool}{m2 r2:ByteArray}(hz:few4 m1 r1 m2 r2):bQ.f e1 m1 r1 e2 m2 r2=some (mW e1 m1 r1 e2 m2 r2):=by
 have q1:dE.f e1 m1 r1=some (chkC e1 m1 r1):=if_pos ⟨hz.1,hz.2.1⟩;have q2:dE.f e2 m2 r2=some (chkC e2 m2 r2):=if_pos ⟨hz.2.2.1,hz.2.2.2⟩;unfold bQ.f mW;rw[q1,Option.bind_some]
 by_cases h:chkC e1 m1 r1=0
 ·rw[if_pos h,if_pos h,q2,Option.bind_some]
 ·rw[if_neg h,if_neg h]
theorem op_rv{G:Bool→ByteArray→ByteArray→Bool→ByteArray→ByteArray→Option (Bool×ByteArray×ByteArray)}{F:Option (Int×Int)→Option (Int×Int)→Option (Int×Int)}
 (hG:∀c d,jY c→jY d→G (encC c).1 (encC c).2.1 (encC c).2.2 (encC d).1 (encC d).2.1 (encC d).2.2=some (encC (F c d)))
 (e1:Bool) (m1 r1:ByteArray) (e2:Bool) (m2 r2:ByteArray) (hz:few4 m1 r1 m2 r2) :
 ((bQ.f e1 m1 r1 e2 m2 r2).bind fun t=>if t=0 then((G e1 m1 r1 e2 m2 r2).bind fun bt=>some (bt.1,bt.2.1,bt.2.2,(0:Int))) else some (false,(⟨#[]⟩:ByteArray),(⟨#[]⟩:ByteArray),t))=some (resC F e1 m1 r1 e2 m2 r2):=by
 rw[aC1 hz,Option.bind_some];unfold resC
 by_cases h:mW e1 m1 r1 e2 m2 r2=0
 ·obtain⟨c,d,gc,gd,ec,ed⟩:=aAe h
  rw[if_pos h,if_pos h];have hc:=nH c;have hd:=nH d;have hi:=hG c d gc gd;rw[←ec] at hc hi;rw[←ed] at hd hi;simp only at hc hd hi;rw[hc,hd,hi,Option.bind_some]
 ·rw[if_neg h,if_neg h]
theorem zero_rv(c:Int×Int)(e:Bool):jW.f e (text c.1) (text c.2)=some (decide (c.1=0∧c.2=0)):=by
 unfold jW.f
 by_cases h:c.1=0
 ·rw[if_pos ((bK _).2 h)]
  by_cases h2:c.2=0
  ·rw[decide_eq_true ⟨h,h2⟩,beq_iff_eq.2 ((bK _).2 h2)]
  ·rw[decide_eq_false (fun q=>h2 q.2),beq_eq_false_iff_ne.2 (fun q=>h2 ((bK _).1 q))]
 ·rw[if_neg (fun q=>h ((bK _).1 q)),decide_eq_false (fun q=>h q.1)]
theorem aEg(k:Nat)(x0:Bool)(x1 x2:ByteArray)(y0:Bool)(y1 y2:ByteArray):dH.j0 (k+1) true x0 x1 x2 y0 y1 y2=some (encC none):=by
 rw[dH.j0,if_pos rfl];rfl
theorem over_rv{c d:Int×Int}(gc:jY (some c))(gd:jY (some d))(k:Nat):dH.f (k+3) false (text c.1) (text c.2) false (text d.1) (text d.2)=some (encC (quoC 100 c d)):=by
 unfold dH.f quoC;rw[if_neg aFz,if_neg aFz,zero_rv,Option.bind_some]
 by_cases h1:d.1=0∧d.2=0
 ·rw[decide_eq_true h1,if_pos h1];exact aEg _ _ _ _ _ _ _
 ·rw[decide_eq_false h1,if_neg h1,dH.j0,if_neg aFz]
  by_cases h2:d.1=0
  ·have h3:d.2≠0:=fun q=>h1 ⟨h2,q⟩
   rw[if_pos ((bK _).2 h2),if_pos h2,uA gd.2.2 gc.2.1 aFx aFx,Option.bind_some,dH.j1]
   by_cases h4:d.2∣c.1
   ·rw[if_pos (decide_eq_true h4),if_pos h4,vP gc.2.1 gd.2.2 aFx aFx h3,Option.bind_some,vP gc.2.2 gd.2.2 aFx aFx h3,Option.bind_some,qZ (gc.2.1.fdiv h3) (gc.2.2.fdiv h3) aFx aFx,Option.bind_some]
   ·rw[if_neg (by simpa using h4),if_neg h4,if_pos ((bK _).2 h2),top_rv,Option.bind_some]
  ·rw[if_neg (fun q=>h2 ((bK _).1 q)),if_neg h2,dH.j1,if_neg aFz,if_neg (fun q=>h2 ((bK _).1 q)),zero_rv,Option.bind_some]
   by_cases h5:c.1=0∧c.2=0
   ·rw[if_pos (decide_eq_true h5),if_pos h5];rfl
   ·rw[if_neg (by simpa using h5),if_neg h5,top_rv,Option.bind_some]
theorem quo_rv(e1:Bool)(m1 r1:ByteArray)(e2:Bool)(m2 r2:ByteArray)(hz:few4 m1 r1 m2 r2)(k:Nat):uX.f (k+3) e1 m1 r1 e2 m2 r2=some (resC lD.o e1 m1 r1 e2 m2 r2):=
 op_rv (G:=dH.f (k+3)) (F:=lD.o) (fun c d gc gd=>by
  cases c with
  |none=>
   unfold dH.f;rw[if_pos (show(encC none).1=true from rfl)];exact aEg _ _ _ _ _ _ _
  |some c=>
   cases d with
   |none=>
    unfold dH.f;rw[if_neg (show ¬(encC (some c)).1=true from Bool.false_ne_true),if_pos (show(encC none).1=true from rfl)];exact aEg _ _ _ _ _ _ _
   |some d=>exact over_rv gc gd k) e1 m1 r1 e2 m2 r2 hz
theorem aCu(k:Nat)(x0:Bool)(x1 x2:ByteArray)(y0:Bool)(y1 y2:ByteArray):bZ.j0 (k+1) true x0 x1 x2 y0 y1 y2=some (encC none):=by
 rw[bZ.j0,if_pos rfl];rfl
theorem modulo_rv{c d:Int×Int}(gc:jY (some c))(gd:jY (some d))(k:Nat):bZ.f (k+3) false (text c.1) (text c.2) false (text d.1) (text d.2)=some (encC (remC 100 c d)):=by
 have z0:Bd 100 0:=Nat.pow_pos aFx
 have els:bZ.j1 (k+2) false false (text c.1) (text c.2) false (text d.1) (text d.2)=some (encC (some (cls 100 (gcdI c.1 (gcdI d.1 d.2)) c.2))):=by
  rw[bZ.j1,if_neg aFz,pM gd.2.1 gd.2.2 aFx aFx,Option.bind_some,pM (gc.2.1.mono (show 100≤101 by omega)) (zO gd.2.1 gd.2.2) aFx aFx,Option.bind_some,
   qZ (gcd3_bd gc.2.1 (zO gd.2.1 gd.2.2)) (gc.2.2.mono aFx) aFx aFx,Option.bind_some]
 unfold bZ.f remC;rw[if_neg aFz,if_neg aFz,zero_rv,Option.bind_some]
 by_cases h1:d.1=0∧d.2=0
 ·rw[decide_eq_true h1,if_pos h1];exact aCu _ _ _ _ _ _ _
 ·rw[decide_eq_false h1,if_neg h1,bZ.j0,if_neg aFz]
  by_cases h2:d.1=0
  ·have h3:d.2≠0:=fun q=>h1 ⟨h2,q⟩
   rw[if_pos ((bK _).2 h2),uA gd.2.2 gc.2.1 aFx aFx,Option.bind_some]
   by_cases h4:d.2∣c.1
   ·rw[if_pos ⟨h2,h4⟩,decide_eq_true h4,bZ.j1,if_pos rfl,aB8 gc.2.2 gd.2.2 aFx aFx h3,Option.bind_some]
    unfold jT.f;rw[show(⟨#[48]⟩:ByteArray)=text 0 from vC.symm,qZ z0 (gd.2.2.fmod h3) aFx aFx,Option.bind_some,Option.bind_some]
   ·rw[if_neg (fun q=>h4 q.2),decide_eq_false h4];exact els
  ·rw[if_neg (fun q=>h2 ((bK _).1 q)),if_neg (fun q=>h2 q.1)];exact els
theorem rem_rv(e1:Bool)(m1 r1:ByteArray)(e2:Bool)(m2 r2:ByteArray)(hz:few4 m1 r1 m2 r2)(k:Nat):uY.f (k+3) e1 m1 r1 e2 m2 r2=some (resC lF.o e1 m1 r1 e2 m2 r2):=
 op_rv (G:=bZ.f (k+3)) (F:=lF.o) (fun c d gc gd=>by
  cases c with
  |none=>
   unfold bZ.f;rw[if_pos (show(encC none).1=true from rfl)];exact aCu _ _ _ _ _ _ _
  |some c=>
   cases d with
   |none=>
    unfold bZ.f;rw[if_neg (show ¬(encC (some c)).1=true from Bool.false_ne_true),if_pos (show(encC none).1=true from rfl)];exact aCu _ _ _ _ _ _ _
   |some d=>exact modulo_rv gc gd k) e1 m1 r1 e2 m2 r2 hz
end Go.Proofs.YtignanmmgaldeaaGreatDoor.RefV
end
section
set_option linter.unusedVariables false
set_option linter.unusedSimpArgs false
namespace Go.Proofs.YtignanmmgaldeaaGreatDoor
open Go.RowKit Go.Proofs.YtignanmmgaldeaaGreatDoor.PRefQ Go.Proofs.YtignanmmgaldeaaGreatDoor.RefV Go.Proofs.YtignanmmgaldeaaGreatDoor.RefP Go.Proofs.YtignanmmgaldeaaGreatDoor.CongM Go.Proofs.YtignanmmgaldeaaGreatDoorW.PrintWords
def vX.f(a0_0:Bool)(a0_1 a0_2:ByteArray)(a1_0:Bool)(a1_1 a1_2:ByteArray):Option (Bool×ByteArray×ByteArray×Int):=lD.f a0_0 a0_1 a0_2 a1_0 a1_1 a1_2
theorem vX.calls(l9:Bool)(o5 o6:ByteArray)(o7:Bool)(o8 o9:ByteArray)(b1:Bool)(s2 s3:ByteArray)(i4:Int)(w:World)(h:vX.f l9 o5 o6 o7 o8 o9=some (b1,s2,s3,i4)) :
 Calls Tryz.prog 37 #[.agg #[.bool l9,.string o5,.string o6],.agg #[.bool o7,.string o8,.string o9]] w fun e w'=>e= .returned (.tuple #[.agg #[.bool b1,.string s2,.string s3],.int .i64 i4])∧Below w.heap.size w w':=by
 unfold vX.f lD.f at h
 split at h
 ·rename_i hs
  exact uX.calls 5 l9 o5 o6 o7 o8 o9 b1 s2 s3 i4 w (by rw[quo_rv l9 o5 o6 o7 o8 o9 hs 2];exact h)
 ·cases h
def vY.f(a0_0:Bool)(a0_1 a0_2:ByteArray)(a1_0:Bool)(a1_1 a1_2:ByteArray):Option (Bool×ByteArray×ByteArray×Int):=lF.f a0_0 a0_1 a0_2 a1_0 a1_1 a1_2
theorem vY.calls(l9:Bool)(o5 o6:ByteArray)(o7:Bool)(o8 o9:ByteArray)(b1:Bool)(s2 s3:ByteArray)(i4:Int)(w:World)(h:vY.f l9 o5 o6 o7 o8 o9=some (b1,s2,s3,i4)) :
 Calls Tryz.prog 39 #[.agg #[.bool l9,.string o5,.string o6],.agg #[.bool o7,.string o8,.string o9]] w fun e w'=>e= .returned (.tuple #[.agg #[.bool b1,.string s2,.string s3],.int .i64 i4])∧Below w.heap.size w w':=by
 unfold vY.f lF.f at h
 split at h
 ·rename_i hs
  exact uY.calls 5 l9 o5 o6 o7 o8 o9 b1 s2 s3 i4 w (by rw[rem_rv l9 o5 o6 o7 o8 o9 hs 2];exact h)
 ·cases h
end Go.Proofs.YtignanmmgaldeaaGreatDoor
end
section
set_option linter.unusedVariables false
set_option linter.unusedSimpArgs false
namespace Go.Proofs.YtignanmmgaldeaaGreatDoor.PCongruenceDivides
open Go.Proofs.YtignanmmgaldeaaGreatDoor.PLawB
open Go.RowKit Go.Proofs.YtignanmmgaldeaaGreatDoorW.PrintWords Go.Proofs.YtignanmmgaldeaaGreatDoorW.PrintLast Go.Proofs.YtignanmmgaldeaaGreatDoorW.PrintMore
attribute [local go_sem] dQ dR eH eP
def errW:Option Int→Value
 |none=> .nilIface
 |some c=> .iface 0 (.int .i64 c)
theorem dZ:errW none= .nilIface:=rfl
theorem eF(c:Int):errW (some c)= .iface 0 (.int .i64 c):=rfl
end Go.Proofs.YtignanmmgaldeaaGreatDoor.PCongruenceDivides
end
section
set_option linter.unusedVariables false
set_option linter.unusedSimpArgs false
namespace Go.Proofs.YtignanmmgaldeaaGreatDoor.PCongruenceDivides
open Go.Proofs.YtignanmmgaldeaaGreatDoor.PLawB
open Go.RowKit Go.Proofs.YtignanmmgaldeaaGreatDoorW.PrintWords Go.Proofs.YtignanmmgaldeaaGreatDoorW.PrintLast Go.Proofs.YtignanmmgaldeaaGreatDoorW.PrintMore
attribute [local go_sem] dQ dR eH eP
theorem yJ(d:Nat)(w:World)(x0 y0:Bool)(x1 y1:ByteArray)(x2 y2:ByteArray) :
 (Op.equalIn (d+2) 36 (.agg #[.bool x0,.string x1,.string x2]) (.agg #[.bool y0,.string y1,.string y2])).run Tryz.prog w= .ok (x0==y0&&(x1.toList==y1.toList&&(x2.toList==y2.toList))) w:=by
 refine aD5 Tryz.underlying36 (by kernel_rfl) ?_;refine qY (by rfl) (by go_simp;rfl) (by go_simp;rfl) (by go_simp) ?_;refine qY (by rfl) (by go_simp;rfl) (by go_simp;rfl) (by go_simp) ?_;exact aB5 (by rfl) (by go_simp;rfl) (by go_simp;rfl) (by go_simp)
end Go.Proofs.YtignanmmgaldeaaGreatDoor.PCongruenceDivides
end
section
set_option linter.unusedVariables false
set_option linter.unusedSimpArgs false
set_option maxHeartbeats 8000000
set_option maxRecDepth 100000
namespace Go.Proofs.YtignanmmgaldeaaGreatDoor.PCongruenceDivides
open Go.Proofs.YtignanmmgaldeaaGreatDoor.PLawB
open Go.RowKit Go.Proofs.YtignanmmgaldeaaGreatDoorW.PrintWords Go.Proofs.YtignanmmgaldeaaGreatDoorW.PrintLast Go.Proofs.YtignanmmgaldeaaGreatDoorW.PrintMore
attribute [local go_sem] dQ dR eH eP
attribute [local go_sem high] yJ
def lQ.f(a0_0:Bool)(a0_1:ByteArray)(a0_2:ByteArray)(a1_0:Bool)(a1_1:ByteArray)(a1_2:ByteArray):Option (Bool):=(jA.f (([(⟨a0_0,a0_1,a0_2⟩:S36),(⟨a1_0,a1_1,a1_2⟩:S36)]:List (S36))) ([]:List ByteArray)).bind fun t106=>(if t106=true then((lD.f a0_0 a0_1 a0_2 a1_0 a1_1 a1_2).bind fun bt108=>((vX.f a0_0 a0_1 a0_2 a1_0 a1_1 a1_2).bind fun bt113=>((lF.f a0_0 a0_1 a0_2 a1_0 a1_1 a1_2).bind fun bt118=>((vY.f a0_0 a0_1 a0_2 a1_0 a1_1 a1_2).bind fun bt123=>((fC.f).bind fun t128=>(if t128=true then(if(bt108.1==bt113.1&&(bt108.2.1.toList==bt113.2.1.toList&&(bt108.2.2.1.toList==bt113.2.2.1.toList)))=true then(if bt108.2.2.2=bt113.2.2.2 then(if(bt118.1==bt123.1&&(bt118.2.1.toList==bt123.2.1.toList&&(bt118.2.2.1.toList==bt123.2.2.1.toList)))=true then(some (bt118.2.2.2==bt123.2.2.2)) else(some false)) else(some false)) else(some false)) else(some false))))))) else((fC.f).bind fun t107=>(some t107)))
theorem lQ.calls(o7:Bool)(o8:ByteArray)(o9:ByteArray)(y8:Bool)(y9:ByteArray)(C9:ByteArray)(r:Bool)(w:World)(hG:GW w)(hrT:r=true)(h:lQ.f o7 o8 o9 y8 y9 C9=some r) :
 Calls Tryz.prog 6 #[.agg #[.bool o7,.string o8,.string o9],.agg #[.bool y8,.string y9,.string C9]] w fun e w'=>e= .returned (.bool r)∧Below w.heap.size w w':=by
 have HG:=aA.mk hG;clear hG;have hu36:=Tryz.underlying36;have HB:=aA.mk (Below.refl w.heap.size w);have H:((jA.f (([(⟨o7,o8,o9⟩:S36),(⟨y8,y9,C9⟩:S36)]:List (S36))) ([]:List ByteArray)).bind fun J3=>(if J3=true then((lD.f o7 o8 o9 y8 y9 C9).bind fun H7=>((vX.f o7 o8 o9 y8 y9 C9).bind fun H8=>((lF.f o7 o8 o9 y8 y9 C9).bind fun H9=>((vY.f o7 o8 o9 y8 y9 C9).bind fun I4=>((fC.f).bind fun J4=>(if J4=true then(if(H7.1==H8.1&&(H7.2.1.toList==H8.2.1.toList&&(H7.2.2.1.toList==H8.2.2.1.toList)))=true then(if H7.2.2.2=H8.2.2.2 then(if(H9.1==I4.1&&(H9.2.1.toList==I4.2.1.toList&&(H9.2.2.1.toList==I4.2.2.1.toList)))=true then(some (H9.2.2.2==I4.2.2.2)) else(some false)) else(some false)) else(some false)) else(some false))))))) else((fC.f).bind fun L6=>(some L6))))=some r:=h;clear h;obtain⟨J5,J6⟩:∃y_:List (S36),y_=(([(⟨o7,o8,o9⟩:S36),(⟨y8,y9,C9⟩:S36)]:List (S36))):=⟨_,rfl⟩
 replace H:((jA.f J5 ([]:List ByteArray)).bind fun J3=>(if J3=true then((lD.f o7 o8 o9 y8 y9 C9).bind fun H7=>((vX.f o7 o8 o9 y8 y9 C9).bind fun H8=>((lF.f o7 o8 o9 y8 y9 C9).bind fun H9=>((vY.f o7 o8 o9 y8 y9 C9).bind fun I4=>((fC.f).bind fun J4=>(if J4=true then(if(H7.1==H8.1&&(H7.2.1.toList==H8.2.1.toList&&(H7.2.2.1.toList==H8.2.2.1.toList)))=true then(if H7.2.2.2=H8.2.2.2 then(if(H9.1==I4.1&&(H9.2.1.toList==I4.2.1.toList&&(H9.2.2.1.toList==I4.2.2.1.toList)))=true then(some (H9.2.2.2==I4.2.2.2)) else(some false)) else(some false)) else(some false)) else(some false))))))) else((fC.f).bind fun L6=>(some L6))))=some r:=by first|(rw[J6];with_reducible exact H)|(have H2_:=(Option.bind_some _ _).symm.trans H;rw[J6];with_reducible exact H2_)|(have H2_:=(Option.bind_some _ _).symm.trans H;with_reducible exact H2_)|with_reducible exact H|(rw[J6];exact H)|exact H
 have L8:=aA.mk J6;clear J6;obtain⟨J3,A3,H⟩:=bi H;try dsimp only at H
 by_cases c4:J3=true
 ·subst c4
  rw[if_pos rfl] at H;obtain⟨⟨F5,F6,F7,O5⟩,A5,H⟩:=bi H;try dsimp only at H
  obtain⟨⟨F8,F9,G5,O6⟩,A6,H⟩:=bi H;try dsimp only at H
  obtain⟨⟨G6,G7,G8,ai⟩,A7,H⟩:=bi H;try dsimp only at H
  obtain⟨⟨G9,H5,H6,aj⟩,A8,H⟩:=bi H;try dsimp only at H
  obtain⟨J4,A9,H⟩:=bi H;try dsimp only at H
  by_cases L9:J4=true
  ·subst L9
   rw[if_pos rfl] at H
   by_cases D8:(F5==F8&&(F6.toList==F9.toList&&(F7.toList==G5.toList)))=true
   ·rw[if_pos D8] at H
    have O7:(F5==F8&&(F6.toList==F9.toList&&(F7.toList==G5.toList)))=true:=D8
    (try(have O8:decide (F5=F8&&(F6.toList==F9.toList&&(F7.toList==G5.toList)))=true:=by simpa using D8))
    (try(have O9:(F5==F8&&(F6.toList==F9.toList&&(F7.toList==G5.toList)))=true:=by simpa using D8))
    clear D8
    by_cases J7:O5=O6
    ·rw[if_pos J7] at H
     obtain⟨P7,P8⟩:=bT J7;clear J7
     by_cases D9:(G6==G9&&(G7.toList==H5.toList&&(G8.toList==H6.toList)))=true
     ·rw[if_pos D9] at H
      have P9:(G6==G9&&(G7.toList==H5.toList&&(G8.toList==H6.toList)))=true:=D9
      (try(have Q3:decide (G6=G9&&(G7.toList==H5.toList&&(G8.toList==H6.toList)))=true:=by simpa using D9))
      (try(have Q4:(G6==G9&&(G7.toList==H5.toList&&(G8.toList==H6.toList)))=true:=by simpa using D9))
      clear D9;obtain rfl:=Option.some.inj H;go_enter Tryz.func6,Tryz.ntmps6
      go_wp2_with(first|((with_reducible refine aG (N:=2) rfl ?_);refine bx_ 2 36 #[.bool o7,.string o8,.string o9] (h:= ?_);intro N8 hg ak D6 hb;have l9:=aA.mk (D6);have N9:=pkG HB hg;have Q5:=N9;replace HB:=pkB HB hb;clear hb D6 hg)|((with_reducible refine aG (N:=3) rfl ?_);refine bx_ 3 36 #[.bool y8,.string y9,.string C9] (h:= ?_);intro O0 hg au D6 hb;have o5:=aA.mk (D6);have O1:=pkG HB hg;have Q7:=O1;obtain⟨O3,O4,_,_⟩:=pkQ l9 hg;replace l9:=pkK l9 hb;replace HB:=pkB HB hb;clear hb D6 hg;have ax:=O3.out;have ay:=O4.out;obtain⟨⟨az,bn,df⟩,dh,di,dw⟩:=pk3 l9;obtain⟨⟨eu,gm,gp⟩,gq,gz,ig⟩:=pk3 o5)|((with_reducible refine aG (N:=15) rfl ?_);refine Kd.sQ k36 _ 36 ?hg (N:=15) ?hd (xs:=([(⟨o7,o8,o9⟩:S36),(⟨y8,y9,C9⟩:S36)]:List (S36))) (inner:= [.bool o7,.string o8,.string o9,.bool y8,.string y9,.string C9]) (ok:=fun _=>True) (okp:=fun _=>True) ?hr ?hp (fun _ hk=>hk) trivial (Below.refl _ _) (Nat.le_refl _) aFz ?_;(case hd=>rfl);(case hg=>rfl);(case hr=>first|(go_simp;done)|(go_simp;rfl));(case hp=>exact(Reps.c3 (show Kd.M k36 _ _ _ (⟨o7,o8,o9⟩:S36) [.bool o7,.string o8,.string o9] from(oP _ _ _ (⟨o7,o8,o9⟩:S36))) (Reps.c3 (show Kd.M k36 _ _ _ (⟨y8,y9,C9⟩:S36) [.bool y8,.string y9,.string C9] from(oP _ _ _ (⟨y8,y9,C9⟩:S36))) (Reps.none _ _))));intro v104 ik J8 hb hg_ hnew_;clear hg_ hnew_;(first|rw[←L8.out] at J8|(simp only[Int.reduceToNat] at J8;rw[←L8.out] at J8));have o6:=aA.mk (Kd.gU (Kd.qR (Kd.qR J8 (g:=N8) (o:= .cells #[.bool o7,.string o8,.string o9] 36 (0,0)) (pkW l9)) (g:=O0) (o:= .cells #[.bool y8,.string y9,.string C9] 36 (0,0)) (pkW o5)) (dJ (pkL HB)));replace l9:=pkK l9 hb;replace o5:=pkK o5 hb;replace HB:=pkB HB hb;clear hb J8;obtain⟨Q8,Q9,S9⟩:=Kd.fA o6.out;subst S9)|((with_reducible refine aC (f:=34) rfl ?_);refine gl_ 16 Tryz.func34 #[.slice Q8 J5.length Q9,.slice none 0 0] (h:= ?_);(refine(jA.calls _ _ J5 _ _ ([]:List ByteArray) true _ ?side1 ?side2 ?side3 ?side4 A3.out).mono ?_);(case side1=>repeat(first|exact(Kd.dB o6.out).2.2|(with_reducible refine Kd.gI ?_ _)|(with_reducible refine Kd.gJ ?_ _)|(with_reducible refine Kd.iJ ?_)));(case side2=>exact(Kd.dB o6.out).2.1);(case side3=>exact Kd.C_nil _ _);(case side4=>exact Nat.le_refl _);rintro e iq ⟨rfl,hb⟩;refine⟨_,rfl,?_⟩;replace o6:=aA.mk (Kd.dD (by(with_reducible repeat(first|apply Kd.aQ|apply Kd.aN|apply Kd.aW));exact o6.out) hb);replace l9:=pkK l9 hb;replace o5:=pkK o5 hb;replace HB:=pkB HB hb;try clear hb;obtain⟨⟨iw,ja,jb⟩,jc,jd,je⟩:=pk3 l9;obtain⟨⟨jf,jg,jh⟩,ji,jk,jl⟩:=pk3 o5)|((with_reducible refine aC (f:=36) rfl ?_);refine gM 22 Tryz.func36 (lD.calls (hG:=HG.out.below (pkL HB)) (h:=A5.out)) (h:= ?_);intro jm hb;replace o6:=aA.mk (Kd.dD (by(with_reducible repeat(first|apply Kd.aQ|apply Kd.aN|apply Kd.aW));exact o6.out) hb);replace l9:=pkK l9 hb;replace o5:=pkK o5 hb;replace HB:=pkB HB hb;try clear hb)|((with_reducible refine aG (N:=5) rfl ?_);refine bx_ 5 36 #[.bool false,.string (⟨#[]⟩:ByteArray),.string (⟨#[]⟩:ByteArray)] (h:= ?_);intro I5 hg jo D6 hb;have n0_:=aA.mk (Kd.dD (Kd.nG (by(with_reducible repeat(first|apply Kd.aQ|apply Kd.aN|apply Kd.aW));exact o6.out) I5 (Nat.le_of_eq hg.symm)) hb);have n1_:=pkK l9 hb;have n2_:=pkK o5 hb;have n3_:=pkB HB hb;have n4_:=aA.mk (D6);have n5_:=pkG HB hg;have n6_:=pkG HB hg;have n7_:=pkN l9 hg;have n8_:=pkM l9 hg;have n9_:=pkN o5 hg;have n10_:=pkM o5 hg;clear o6;clear l9;clear o5;clear HB;have o6:=n0_;have l9:=n1_;have o5:=n2_;have HB:=n3_;have D5:=n4_;have jq:=n5_;have jr:=n6_;have U3:=n7_;have U4:=n8_;have U5:=n9_;have U6:=n10_;clear n0_ n1_ n2_ n3_ n4_ n5_ n6_ n7_ n8_ n9_ n10_;clear hb D6 hg;have jw:=U4.out;have jy:=U3.out;have ku:=U6.out;have kw:=U5.out;obtain⟨⟨kz,lg,lh⟩,lq,lu,lw⟩:=pk3 D5;obtain⟨⟨mf,mg,mi⟩,mr,ng,ni⟩:=pk3 l9;obtain⟨⟨nz,oh,oq⟩,ou,oz,pg⟩:=pk3 o5)|((with_reducible refine aC (f:=37) rfl ?_);refine gM 28 Tryz.func37 (vX.calls (w:=_) (h:=A6.out)) (h:= ?_);intro pq hb;replace o6:=aA.mk (Kd.dD (by(with_reducible repeat(first|apply Kd.aQ|apply Kd.aN|apply Kd.aW));exact(Kd.dK (Kd.iY (p:=⟨I5,2,none⟩) (Kd.iY (p:=⟨I5,1,none⟩) (Kd.iY (p:=⟨I5,0,none⟩) (Kd.dK o6.out (fun k_ hk=>(⟨hk,hk.2⟩:_∧k_≠I5))) (fun _ hk=>hk.2) (.bool F5)) (fun _ hk=>hk.2) (.string F6)) (fun _ hk=>hk.2) (.string F7)) (fun _ h_=>h_.1))) hb);replace l9:=pkF l9 hb;replace o5:=pkF o5 hb;replace D5:=aA.mk (iT (g:=I5) (o:= .cells #[.bool F5,.string F6,.string F7] 36 (0,0)) (pkS3 D5) hb);replace HB:=pkB HB hb;try clear hb)|((with_reducible refine aG (N:=7) rfl ?_);refine bx_ 7 36 #[.bool false,.string (⟨#[]⟩:ByteArray),.string (⟨#[]⟩:ByteArray)] (h:= ?_);intro I7 hg pz D6 hb;have n0_:=aA.mk (Kd.dD (Kd.nG (by(with_reducible repeat(first|apply Kd.aQ|apply Kd.aN|apply Kd.aW));exact o6.out) I7 (Nat.le_of_eq hg.symm)) hb);have n1_:=pkK l9 hb;have n2_:=pkK o5 hb;have n3_:=pkK D5 hb;have n4_:=pkB HB hb;have n5_:=aA.mk (D6);have n6_:=pkG HB hg;have n7_:=pkG HB hg;have n8_:=pkN l9 hg;have n9_:=pkM l9 hg;have n10_:=pkN o5 hg;have n11_:=pkM o5 hg;have n12_:=pkN D5 hg;have n13_:=pkM D5 hg;clear o6;clear l9;clear o5;clear D5;clear HB;have o6:=n0_;have l9:=n1_;have o5:=n2_;have D5:=n3_;have HB:=n4_;have D7:=n5_;have qc:=n6_;have qf:=n7_;have U7:=n8_;have U8:=n9_;have U9:=n10_;have V3:=n11_;have V4:=n12_;have V5:=n13_;clear n0_ n1_ n2_ n3_ n4_ n5_ n6_ n7_ n8_ n9_ n10_ n11_ n12_ n13_;clear hb D6 hg;have qg:=U8.out;have qh:=U7.out;have qi:=V3.out;have qj:=U9.out;have ql:=V5.out;have qm:=V4.out;obtain⟨⟨qo,qp,qw⟩,qx,qy,rf⟩:=pk3 D7;obtain⟨⟨rq,ru,ry⟩,su,tq,tu⟩:=pk3 l9;obtain⟨⟨uf,ug,uh⟩,ui,uj,uk⟩:=pk3 o5)|((with_reducible refine aC (f:=38) rfl ?_);refine gM 34 Tryz.func38 (lF.calls (hG:=HG.out.below (pkL HB)) (h:=A7.out)) (h:= ?_);intro ul hb;replace o6:=aA.mk (Kd.dD (by(with_reducible repeat(first|apply Kd.aQ|apply Kd.aN|apply Kd.aW));exact(Kd.dK (Kd.iY (p:=⟨I7,2,none⟩) (Kd.iY (p:=⟨I7,1,none⟩) (Kd.iY (p:=⟨I7,0,none⟩) (Kd.dK o6.out (fun k_ hk=>(⟨hk,hk.2⟩:_∧k_≠I7))) (fun _ hk=>hk.2) (.bool F8)) (fun _ hk=>hk.2) (.string F9)) (fun _ hk=>hk.2) (.string G5)) (fun _ h_=>h_.1))) hb);replace l9:=pkF l9 hb;replace o5:=pkF o5 hb;replace D5:=pkF D5 hb;replace D7:=aA.mk (iT (g:=I7) (o:= .cells #[.bool F8,.string F9,.string G5] 36 (0,0)) (pkS3 D7) hb);replace HB:=pkB HB hb;try clear hb)|((with_reducible refine aG (N:=9) rfl ?_);refine bx_ 9 36 #[.bool false,.string (⟨#[]⟩:ByteArray),.string (⟨#[]⟩:ByteArray)] (h:= ?_);intro I8 hg um D6 hb;have n0_:=aA.mk (Kd.dD (Kd.nG (by(with_reducible repeat(first|apply Kd.aQ|apply Kd.aN|apply Kd.aW));exact o6.out) I8 (Nat.le_of_eq hg.symm)) hb);have n1_:=pkK l9 hb;have n2_:=pkK o5 hb;have n3_:=pkK D5 hb;have n4_:=pkK D7 hb;have n5_:=pkB HB hb;have n6_:=aA.mk (D6);have n7_:=pkG HB hg;have n8_:=pkG HB hg;have n9_:=pkN l9 hg;have n10_:=pkM l9 hg;have n11_:=pkN o5 hg;have n12_:=pkM o5 hg;have n13_:=pkN D5 hg;have n14_:=pkM D5 hg;have n15_:=pkN D7 hg;have n16_:=pkM D7 hg;clear o6;clear l9;clear o5;clear D5;clear D7;clear HB;have o6:=n0_;have l9:=n1_;have o5:=n2_;have D5:=n3_;have D7:=n4_;have HB:=n5_;have E8:=n6_;have uo:=n7_;have uq:=n8_;have V6:=n9_;have V7:=n10_;have V8:=n11_;have V9:=n12_;have X4:=n13_;have X5:=n14_;have X7:=n15_;have X8:=n16_;clear n0_ n1_ n2_ n3_ n4_ n5_ n6_ n7_ n8_ n9_ n10_ n11_ n12_ n13_ n14_ n15_ n16_;clear hb D6 hg;have ut:=V7.out;have uu:=V6.out;have uw:=V9.out;have uy:=V8.out;have uz:=X5.out;have ve:=X4.out;have vg:=X8.out;have vk:=X7.out;obtain⟨⟨vw,vz,wo⟩,wu,ww,xe⟩:=pk3 E8;obtain⟨⟨xg,xh,xk⟩,xm,xn,xq⟩:=pk3 l9;obtain⟨⟨xu,xw,xx⟩,xy,yf,yg⟩:=pk3 o5)|((with_reducible refine aC (f:=39) rfl ?_);refine gM 40 Tryz.func39 (vY.calls (w:=_) (h:=A8.out)) (h:= ?_);intro yh hb;replace o6:=aA.mk (Kd.dD (by(with_reducible repeat(first|apply Kd.aQ|apply Kd.aN|apply Kd.aW));exact(Kd.dK (Kd.iY (p:=⟨I8,2,none⟩) (Kd.iY (p:=⟨I8,1,none⟩) (Kd.iY (p:=⟨I8,0,none⟩) (Kd.dK o6.out (fun k_ hk=>(⟨hk,hk.2⟩:_∧k_≠I8))) (fun _ hk=>hk.2) (.bool G6)) (fun _ hk=>hk.2) (.string G7)) (fun _ hk=>hk.2) (.string G8)) (fun _ h_=>h_.1))) hb);replace l9:=pkF l9 hb;replace o5:=pkF o5 hb;replace D5:=pkF D5 hb;replace D7:=pkF D7 hb;replace E8:=aA.mk (iT (g:=I8) (o:= .cells #[.bool G6,.string G7,.string G8] 36 (0,0)) (pkS3 E8) hb);replace HB:=pkB HB hb;try clear hb)|((with_reducible refine aG (N:=11) rfl ?_);refine bx_ 11 36 #[.bool false,.string (⟨#[]⟩:ByteArray),.string (⟨#[]⟩:ByteArray)] (h:= ?_);intro I9 hg yj D6 hb;have n0_:=aA.mk (Kd.dD (Kd.nG (by(with_reducible repeat(first|apply Kd.aQ|apply Kd.aN|apply Kd.aW));exact o6.out) I9 (Nat.le_of_eq hg.symm)) hb);have n1_:=pkK l9 hb;have n2_:=pkK o5 hb;have n3_:=pkK D5 hb;have n4_:=pkK D7 hb;have n5_:=pkK E8 hb;have n6_:=pkB HB hb;have n7_:=aA.mk (D6);have n8_:=pkG HB hg;have n9_:=pkG HB hg;have n10_:=pkN l9 hg;have n11_:=pkM l9 hg;have n12_:=pkN o5 hg;have n13_:=pkM o5 hg;have n14_:=pkN D5 hg;have n15_:=pkM D5 hg;have n16_:=pkN D7 hg;have n17_:=pkM D7 hg;have n18_:=pkN E8 hg;have n19_:=pkM E8 hg;clear o6;clear l9;clear o5;clear D5;clear D7;clear E8;clear HB;have o6:=n0_;have l9:=n1_;have o5:=n2_;have D5:=n3_;have D7:=n4_;have E8:=n5_;have HB:=n6_;have N7:=n7_;have yl:=n8_;have yt:=n9_;have X9:=n10_;have Y0:=n11_;have Y4:=n12_;have Y5:=n13_;have Y7:=n14_;have Y8:=n15_;have Y9:=n16_;have Z7:=n17_;have Z8:=n18_;have Z9:=n19_;clear n0_ n1_ n2_ n3_ n4_ n5_ n6_ n7_ n8_ n9_ n10_ n11_ n12_ n13_ n14_ n15_ n16_ n17_ n18_ n19_;clear hb D6 hg;have yu:=Y0.out;have yw:=X9.out;have yx:=Y5.out;have yz:=Y4.out;have zf:=Y8.out;have zg:=Y7.out;have zh:=Z7.out;have zi:=Y9.out;have zk:=Z9.out;have zl:=Z8.out;obtain⟨⟨zn,zo,zq⟩,zt,zu,zx⟩:=pk3 N7)|((with_reducible refine aC (f:=35) rfl ?_);refine gM 43 Tryz.func35 (fC.calls (hG:=HG.out.below (pkL HB)) (h:=A9.out)) (h:= ?_);intro zy hb;replace o6:=aA.mk (Kd.dD (by(with_reducible repeat(first|apply Kd.aQ|apply Kd.aN|apply Kd.aW));exact(Kd.dK (Kd.iY (p:=⟨I9,2,none⟩) (Kd.iY (p:=⟨I9,1,none⟩) (Kd.iY (p:=⟨I9,0,none⟩) (Kd.dK o6.out (fun k_ hk=>(⟨hk,hk.2⟩:_∧k_≠I9))) (fun _ hk=>hk.2) (.bool G9)) (fun _ hk=>hk.2) (.string H5)) (fun _ hk=>hk.2) (.string H6)) (fun _ h_=>h_.1))) hb);replace l9:=pkF l9 hb;replace o5:=pkF o5 hb;replace D5:=pkF D5 hb;replace D7:=pkF D7 hb;replace E8:=pkF E8 hb;replace N7:=aA.mk (iT (g:=I9) (o:= .cells #[.bool G9,.string H5,.string H6] 36 (0,0)) (pkS3 N7) hb);replace HB:=pkB HB hb;try clear hb;obtain⟨⟨Aa,Ac,Ad⟩,Ae,Af,Ag⟩:=pk3 D5;obtain⟨⟨Ah,Ai,Aj⟩,Ak,Am,Aq⟩:=pk3 D7;obtain⟨⟨Aw,Az,Ba⟩,Bc,Be,Bf⟩:=pk3 E8;obtain⟨⟨Bg,Bh,Bi⟩,Bj,Bl,Bo⟩:=pk3 N7))
      go_ret
      exact pkE HB
     ·rw[if_neg D9] at H
      have P9:(G6==G9&&(G7.toList==H5.toList&&(G8.toList==H6.toList)))=false:=by simpa using D9
      (try(have Q3:decide (G6=G9&&(G7.toList==H5.toList&&(G8.toList==H6.toList)))=false:=by simpa using D9))
      (try(have Q4:(G6==G9&&(G7.toList==H5.toList&&(G8.toList==H6.toList)))=false:=by simpa using D9))
      (try(have Bq:¬(G6=G9&&(G7.toList==H5.toList&&(G8.toList==H6.toList))):=by simpa using D9))
      clear D9;exact absurd (Option.some.inj H) (by rw[hrT];decide)
    ·rw[if_neg J7] at H
     obtain⟨P7,P8⟩:=bF J7;exact absurd (Option.some.inj H) (by rw[hrT];decide)
   ·rw[if_neg D8] at H
    have O7:(F5==F8&&(F6.toList==F9.toList&&(F7.toList==G5.toList)))=false:=by simpa using D8
    (try(have O8:decide (F5=F8&&(F6.toList==F9.toList&&(F7.toList==G5.toList)))=false:=by simpa using D8))
    (try(have O9:(F5==F8&&(F6.toList==F9.toList&&(F7.toList==G5.toList)))=false:=by simpa using D8))
    (try(have Bv:¬(F5=F8&&(F6.toList==F9.toList&&(F7.toList==G5.toList))):=by simpa using D8))
    clear D8;exact absurd (Option.some.inj H) (by rw[hrT];decide)
  ·replace L9:=Bool.eq_false_iff.mpr L9
   subst L9;rw[if_neg (show ¬(false=true) by decide)] at H;exact absurd (Option.some.inj H) (by rw[hrT];decide)
 ·replace c4:=Bool.eq_false_iff.mpr c4
  subst c4;rw[if_neg (show ¬(false=true) by decide)] at H;obtain⟨L6,ae,H⟩:=bi H;try dsimp only at H
  obtain rfl:=Option.some.inj H;go_enter Tryz.func6,Tryz.ntmps6
  go_wp2_with(first|((with_reducible refine aG (N:=2) rfl ?_);refine bx_ 2 36 #[.bool o7,.string o8,.string o9] (h:= ?_);intro N8 hg Bz D6 hb;have l9:=aA.mk (D6);have N9:=pkG HB hg;have Q5:=N9;replace HB:=pkB HB hb;clear hb D6 hg)|((with_reducible refine aG (N:=3) rfl ?_);refine bx_ 3 36 #[.bool y8,.string y9,.string C9] (h:= ?_);intro O0 hg Cb D6 hb;have o5:=aA.mk (D6);have O1:=pkG HB hg;have Q7:=O1;obtain⟨O3,O4,_,_⟩:=pkQ l9 hg;replace l9:=pkK l9 hb;replace HB:=pkB HB hb;clear hb D6 hg;have Cc:=O3.out;have Ce:=O4.out;obtain⟨⟨Cf,Ci,Cj⟩,Cm,Dc,Df⟩:=pk3 l9;obtain⟨⟨Dh,Di,Dj⟩,Dk,Dl,Dn⟩:=pk3 o5)|((with_reducible refine aG (N:=15) rfl ?_);refine Kd.sQ k36 _ 36 ?hg (N:=15) ?hd (xs:=([(⟨o7,o8,o9⟩:S36),(⟨y8,y9,C9⟩:S36)]:List (S36))) (inner:= [.bool o7,.string o8,.string o9,.bool y8,.string y9,.string C9]) (ok:=fun _=>True) (okp:=fun _=>True) ?hr ?hp (fun _ hk=>hk) trivial (Below.refl _ _) (Nat.le_refl _) aFz ?_;(case hd=>rfl);(case hg=>rfl);(case hr=>first|(go_simp;done)|(go_simp;rfl));(case hp=>exact(Reps.c3 (show Kd.M k36 _ _ _ (⟨o7,o8,o9⟩:S36) [.bool o7,.string o8,.string o9] from(oP _ _ _ (⟨o7,o8,o9⟩:S36))) (Reps.c3 (show Kd.M k36 _ _ _ (⟨y8,y9,C9⟩:S36) [.bool y8,.string y9,.string C9] from(oP _ _ _ (⟨y8,y9,C9⟩:S36))) (Reps.none _ _))));intro v104 Dp J9 hb hg_ hnew_;clear hg_ hnew_;(first|rw[←L8.out] at J9|(simp only[Int.reduceToNat] at J9;rw[←L8.out] at J9));have o6:=aA.mk (Kd.gU (Kd.qR (Kd.qR J9 (g:=N8) (o:= .cells #[.bool o7,.string o8,.string o9] 36 (0,0)) (pkW l9)) (g:=O0) (o:= .cells #[.bool y8,.string y9,.string C9] 36 (0,0)) (pkW o5)) (dJ (pkL HB)));replace l9:=pkK l9 hb;replace o5:=pkK o5 hb;replace HB:=pkB HB hb;clear hb J9;obtain⟨af,ag,ah⟩:=Kd.fA o6.out;subst ah)|((with_reducible refine aC (f:=34) rfl ?_);refine gl_ 16 Tryz.func34 #[.slice af J5.length ag,.slice none 0 0] (h:= ?_);(refine(jA.calls _ _ J5 _ _ ([]:List ByteArray) false _ ?side1 ?side2 ?side3 ?side4 A3.out).mono ?_);(case side1=>repeat(first|exact(Kd.dB o6.out).2.2|(with_reducible refine Kd.gI ?_ _)|(with_reducible refine Kd.gJ ?_ _)|(with_reducible refine Kd.iJ ?_)));(case side2=>exact(Kd.dB o6.out).2.1);(case side3=>exact Kd.C_nil _ _);(case side4=>exact Nat.le_refl _);rintro e Dq ⟨rfl,hb⟩;refine⟨_,rfl,?_⟩;replace o6:=aA.mk (Kd.dD (by(with_reducible repeat(first|apply Kd.aQ|apply Kd.aN|apply Kd.aW));exact o6.out) hb);replace l9:=pkK l9 hb;replace o5:=pkK o5 hb;replace HB:=pkB HB hb;try clear hb)|((with_reducible refine aC (f:=35) rfl ?_);refine gM 18 Tryz.func35 (fC.calls (hG:=HG.out.below (pkL HB)) (h:=ae.out)) (h:= ?_);intro Dt hb;replace o6:=aA.mk (Kd.dD (by(with_reducible repeat(first|apply Kd.aQ|apply Kd.aN|apply Kd.aW));exact o6.out) hb);replace l9:=pkK l9 hb;replace o5:=pkK o5 hb;replace HB:=pkB HB hb;try clear hb))
  go_ret
  exact pkE HB
end Go.Proofs.YtignanmmgaldeaaGreatDoor.PCongruenceDivides
end
section
set_option linter.unusedVariables false
set_option linter.unusedSimpArgs false
namespace Go.Proofs.YtignanmmgaldeaaGreatDoor.PureDivides
open Go.RowKit Go.Proofs.YtignanmmgaldeaaGreatDoor Go.Proofs.YtignanmmgaldeaaGreatDoor.PLawB Go.Proofs.YtignanmmgaldeaaGreatDoor.LawC Go.Proofs.YtignanmmgaldeaaGreatDoor.PCongruenceDivides Go.Proofs.YtignanmmgaldeaaGreatDoor.RefP Go.Proofs.YtignanmmgaldeaaGreatDoor.PCongI Go.Proofs.YtignanmmgaldeaaGreatDoor.CongM Go.Proofs.YtignanmmgaldeaaGreatDoorW.PrintWords
theorem law(o8:Bool)(l9 o5:ByteArray)(o9:Bool)(o6 o7:ByteArray)(w0:l9.size≤140737488351232)(w1:o5.size≤140737488351232)(w2:o6.size≤140737488351232)(w3:o7.size≤140737488351232):lQ.f o8 l9 o5 o9 o6 o7=some true:=by
 have hf:jA.f [(⟨o8,l9,o5⟩:S36),(⟨o9,o6,o7⟩:S36)] ([]:List ByteArray)=some (decide (fewP [(⟨o8,l9,o5⟩:S36),(⟨o9,o6,o7⟩:S36)] ([]:List ByteArray))):=if_pos ⟨by simp,by simp⟩;unfold lQ.f;rw[hf,Option.bind_some]
 by_cases hF:fewP [(⟨o8,l9,o5⟩:S36),(⟨o9,o6,o7⟩:S36)] ([]:List ByteArray)
 ·rw[decide_eq_true hF]
  have s1:=hF.1 (⟨o8,l9,o5⟩:S36) aFz;have s2:=hF.1 (⟨o9,o6,o7⟩:S36) aFz;have hz:few4 l9 o5 o6 o7:=⟨Nat.le_trans s1.1 aFx,Nat.le_trans s1.2 aFx,Nat.le_trans s2.1 aFx,Nat.le_trans s2.2 aFx⟩;have e0:lD.f o8 l9 o5 o9 o6 o7=some (resC lD.o o8 l9 o5 o9 o6 o7):=if_pos hz;have e1:vX.f o8 l9 o5 o9 o6 o7=some (resC lD.o o8 l9 o5 o9 o6 o7):=if_pos hz;have e2:lF.f o8 l9 o5 o9 o6 o7=some (resC lF.o o8 l9 o5 o9 o6 o7):=if_pos hz;have e3:vY.f o8 l9 o5 o9 o6 o7=some (resC lF.o o8 l9 o5 o9 o6 o7):=if_pos hz;simp only[if_true,e0,e1,e2,e3,oU,Option.bind_some,beq_self_eq_true,Bool.and_self,if_true]
 ·rw[decide_eq_false hF]
  simp only[Bool.false_eq_true,if_false,oU,Option.bind_some]
end Go.Proofs.YtignanmmgaldeaaGreatDoor.PureDivides
end
