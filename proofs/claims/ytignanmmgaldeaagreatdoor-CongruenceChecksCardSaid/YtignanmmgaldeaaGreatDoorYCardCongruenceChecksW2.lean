/- Lemmas for the proof. -/
import Derived.Test.YtignanmmgaldeaaGreatDoorYCardCongruenceChecksW1
import Derived.Test.YtignanmmgaldeaaGreatDoorYK
section
set_option linter.unusedVariables false
set_option linter.unusedSimpArgs false
namespace Go.Proofs.YtignanmmgaldeaaGreatDoor.RefP
open Go.RowKit Go.Proofs.YtignanmmgaldeaaGreatDoor.PRefA Go.Proofs.YtignanmmgaldeaaGreatDoorW.PrintWords Go.Proofs.YtignanmmgaldeaaGreatDoorW.PrintLast
theorem aBm(a:ByteArray)(h:a.size≤140737488351232)(k:Nat)(hk:a.size+4≤k):iM.f k a=some (chkI a):=by
 obtain⟨k,rfl⟩:∃j,k=j+2:=⟨k-2,by omega⟩
 unfold iM.f chkI;rw[aB6 a h k aFx,Option.bind_some]
 by_cases hc:canon a.data.toList=true
 ·have h0:=rF hc
  rw[if_pos hc,if_pos hc,zK a h h0,Option.bind_some]
  by_cases hd:4096<digN a
  ·rw[if_pos aFx,if_pos hd]
  ·rw[if_neg aFx,if_neg hd]
 ·rw[if_neg hc,if_neg hc]
theorem nX(x:Int){m:Nat}(hx:Bd m x)(hm:1≤m):bI.f (text x)=some (sgnI x):=by
 unfold bI.f
 by_cases h:x=0
 ·rw[if_pos ((bK x).2 h),h];rfl
 ·rw[if_neg (fun q=>h ((bK x).1 q))]
  obtain⟨s,h1,h2,h3⟩:=qM x;have hne:=mV x.natAbs
  have hsz:0<(text x).size:=by
   rw[Lib.size_eq,h1,List.length_append];have:=List.length_pos_iff.2 hne;omega
  rw[pG _ hsz,Option.bind_some,h1];unfold sgnI;rcases h2 with rfl|rfl
  ·have hx0:¬x<0:=fun q=>by have:=h3.2 q;cases this
   have hp:Lib.hasPrefix ([]++Lib.decDigits x.natAbs) [45]=false:=by
    have hm:=lW x.natAbs;rw[List.nil_append];generalize Lib.decDigits x.natAbs=l at hm hne
    cases l with
    |nil=>exact absurd rfl hne
    |cons c r=>
     by_cases hc:c=45
     ·subst hc;exact absurd rfl (hm r)
     ·simp[Lib.hasPrefix,List.isPrefixOf,Ne.symm hc]
   rw[hp,if_neg aFz,if_neg hx0,if_neg h]
  ·have hx0:x<0:=h3.1 rfl
   have hp:Lib.hasPrefix ([45]++Lib.decDigits x.natAbs) [45]=true:=by simp[Lib.hasPrefix]
   rw[hp,if_pos rfl,if_pos hx0]
end Go.Proofs.YtignanmmgaldeaaGreatDoor.RefP
end
section
set_option linter.unusedVariables false
set_option linter.unusedSimpArgs false
namespace Go.Proofs.YtignanmmgaldeaaGreatDoor.RefP
open Go.RowKit Go.Proofs.YtignanmmgaldeaaGreatDoor.PRefA Go.Proofs.YtignanmmgaldeaaGreatDoorW.PrintWords Go.Proofs.YtignanmmgaldeaaGreatDoorW.PrintLast
theorem xM{x y:Int}{m:Nat}(hx:Bd m x)(hy:Bd m y)(hm:1≤m)(h4:m≤9000)(k:Nat)(hk:20000≤k):dX.f k (text x) (text y)=some (sgnI (x-y)):=by
 have lx:(dL x.natAbs).length≤9000:=by rw[rC];exact Nat.le_trans (kK hx hm) h4
 have ly:(dL y.natAbs).length≤9000:=by rw[rC];exact Nat.le_trans (kK hy hm) h4
 unfold dX.f;rw[nX x hx hm,Option.bind_some,nX y hy hm,Option.bind_some];rw[mQ hx hm aFx k aFx,Option.bind_some,xW _ k aFx aFx,Option.bind_some,mQ hy hm aFx k aFx,Option.bind_some,xW _ k aFx aFx,Option.bind_some,aB7 _ _ k aFx aFx aFx,Option.bind_some];unfold sgnI
 by_cases x0:x<0
 ·rw[if_pos x0]
  by_cases y0:y<0
  ·rw[if_pos y0,if_pos rfl]
   by_cases h:x<y
   ·rw[if_neg (show ¬((x.natAbs:Int)-(y.natAbs:Int)<0) by omega),if_neg (show ¬((x.natAbs:Int)-(y.natAbs:Int)=0) by omega),if_pos (show x-y<0 by omega)];(first|rfl|decide +kernel)
   ·by_cases h2:x=y
    ·rw[if_neg (show ¬((x.natAbs:Int)-(y.natAbs:Int)<0) by omega),if_pos (show((x.natAbs:Int)-(y.natAbs:Int)=0) by omega),if_neg (show ¬x-y<0 by omega),if_pos (show x-y=0 by omega)];(first|rfl|decide +kernel)
    ·rw[if_pos (show((x.natAbs:Int)-(y.natAbs:Int)<0) by omega),if_neg (show ¬x-y<0 by omega),if_neg (show ¬x-y=0 by omega)];(first|rfl|decide +kernel)
  ·rw[if_neg y0]
   rw[if_pos (show x-y<0 by omega)]
   by_cases y1:y=0
   ·rw[if_pos y1];(first|rfl|decide +kernel)
   ·rw[if_neg y1];(first|rfl|decide +kernel)
 ·rw[if_neg x0]
  by_cases x1:x=0
  ·rw[if_pos x1]
   by_cases y0:y<0
   ·rw[if_pos y0,if_neg (show ¬x-y<0 by omega),if_neg (show ¬x-y=0 by omega)];(first|rfl|decide +kernel)
   ·rw[if_neg y0]
    by_cases y1:y=0
    ·rw[if_pos y1,if_pos rfl,if_neg (show ¬x-y<0 by omega),if_pos (show x-y=0 by omega),if_neg (show ¬((x.natAbs:Int)-(y.natAbs:Int)<0) by omega),if_pos (show((x.natAbs:Int)-(y.natAbs:Int)=0) by omega)];(first|rfl|decide +kernel)
    ·rw[if_neg y1,if_pos (show x-y<0 by omega)];(first|rfl|decide +kernel)
  ·rw[if_neg x1]
   by_cases y0:y<0
   ·rw[if_pos y0,if_neg (show ¬x-y<0 by omega),if_neg (show ¬x-y=0 by omega)];(first|rfl|decide +kernel)
   ·rw[if_neg y0]
    by_cases y1:y=0
    ·rw[if_pos y1,if_neg (show ¬x-y<0 by omega),if_neg (show ¬x-y=0 by omega)];(first|rfl|decide +kernel)
    ·rw[if_neg y1,if_pos rfl]
     by_cases h:x<y
     ·rw[if_pos (show((x.natAbs:Int)-(y.natAbs:Int)<0) by omega),if_pos (show x-y<0 by omega)];(first|rfl|decide +kernel)
     ·by_cases h2:x=y
      ·rw[if_neg (show ¬((x.natAbs:Int)-(y.natAbs:Int)<0) by omega),if_pos (show((x.natAbs:Int)-(y.natAbs:Int)=0) by omega),if_neg (show ¬x-y<0 by omega),if_pos (show x-y=0 by omega)];(first|rfl|decide +kernel)
      ·rw[if_neg (show ¬((x.natAbs:Int)-(y.natAbs:Int)<0) by omega),if_neg (show ¬((x.natAbs:Int)-(y.natAbs:Int)=0) by omega),if_neg (show ¬x-y<0 by omega),if_neg (show ¬x-y=0 by omega)];(first|rfl|decide +kernel)
end Go.Proofs.YtignanmmgaldeaaGreatDoor.RefP
namespace Go.Proofs.YtignanmmgaldeaaGreatDoor
open Go.RowKit Go.Proofs.YtignanmmgaldeaaGreatDoor.PRefA Go.Proofs.YtignanmmgaldeaaGreatDoor.RefP Go.Proofs.YtignanmmgaldeaaGreatDoorW.PrintWords Go.Proofs.YtignanmmgaldeaaGreatDoorW.PrintLast
def jU.f(a0:ByteArray):Option Bool:=if a0.size≤140737488351232 then some (canon a0.data.toList) else none
theorem jU.calls(a0:ByteArray)(r0:Bool)(w:World)(h:jU.f a0=some r0) :
 Calls Tryz.prog 184 #[.string a0] w fun e w'=>e= .returned (.bool r0)∧eQ w w':=by
 unfold jU.f at h
 split at h
 ·rename_i hs
  obtain rfl:=Option.some.inj h;exact bP.calls (a0.size+2+2) _ _ w (aB6 a0 hs _ (Nat.le_refl _))
 ·cases h
def kM.f(a0:ByteArray):Option Int:=if a0.size≤140737488351232 then some (chkI a0) else none
theorem kM.calls(a0:ByteArray)(r0:Int)(w:World)(h:kM.f a0=some r0) :
 Calls Tryz.prog 115 #[.string a0] w fun e w'=>e= .returned (.int .i64 r0)∧eQ w w':=by
 unfold kM.f at h
 split at h
 ·rename_i hs
  obtain rfl:=Option.some.inj h;exact iM.calls (a0.size+4) _ _ w (aBm a0 hs _ (Nat.le_refl _))
 ·cases h
def gV.f(a0:ByteArray):Option Int:=if okN 9000 a0 then some (sgnI (aV a0)) else none
theorem gV.calls(a0:ByteArray)(r0:Int)(w:World)(h:gV.f a0=some r0) :
 Calls Tryz.prog 142 #[.string a0] w fun e w'=>e= .returned (.int .i64 r0)∧eQ w w':=by
 unfold gV.f at h
 split at h
 ·rename_i hs
  obtain⟨x,rfl,bx⟩:=kR hs;obtain rfl:=Option.some.inj h;rw[bC];exact bI.calls _ _ w (nX x bx aFx)
 ·cases h
theorem sG{x:Int}{m:Nat}(hx:Bd m x)(hm:1≤m)(h4:m≤9000):gV.f (text x)=some (sgnI x):=by
 unfold gV.f;rw[if_pos (kS hx hm h4),bC]
def jB.f(a0 a1:ByteArray):Option Bool:=if okN 9000 a0∧okN 9000 a1 then some (decide (aV a0<aV a1)) else none
theorem jB.calls(a0 a1:ByteArray)(r0:Bool)(w:World)(h:jB.f a0 a1=some r0) :
 Calls Tryz.prog 143 #[.string a0,.string a1] w fun e w'=>e= .returned (.bool r0)∧Below w.heap.size w w':=by
 unfold jB.f at h
 split at h
 ·rename_i hs
  obtain⟨x,rfl,bx⟩:=kR hs.1;obtain⟨y,rfl,by'⟩:=kR hs.2;obtain rfl:=Option.some.inj h;rw[bC,bC];obtain⟨k,hk⟩:∃k:Nat,k=20000:=⟨_,rfl⟩
  refine iH.calls k _ _ _ w ?_;unfold iH.f;rw[xM bx by' aFx aFx k aFx,Option.bind_some]
  congr 1
  exact decide_eq_decide.2 (by rw[mD];omega)
 ·cases h
theorem zC{x y:Int}{m:Nat}(hx:Bd m x)(hy:Bd m y)(hm:1≤m)(h4:m≤9000):jB.f (text x) (text y)=some (decide (x<y)):=by
 unfold jB.f;rw[if_pos ⟨kS hx hm h4,kS hy hm h4⟩,bC,bC]
def jF.f(a0:ByteArray):Option ByteArray:=if okN 9000 a0 then some (text (-aV a0)) else none
theorem jF.calls(a0 r0:ByteArray)(w:World)(h:jF.f a0=some r0) :
 Calls Tryz.prog 163 #[.string a0] w fun e w'=>e= .returned (.string r0)∧eQ w w':=by
 unfold jF.f at h
 split at h
 ·rename_i hs
  obtain⟨x,rfl,bx⟩:=kR hs;obtain rfl:=Option.some.inj h;rw[bC];exact kP.calls _ _ w (aAy bx aFx aFx)
 ·cases h
theorem yF{x:Int}{m:Nat}(hx:Bd m x)(hm:1≤m)(h4:m≤9000):jF.f (text x)=some (text (-x)):=by
 unfold jF.f;rw[if_pos (kS hx hm h4),bC]
end Go.Proofs.YtignanmmgaldeaaGreatDoor
end
section
set_option linter.unusedVariables false
set_option linter.unusedSimpArgs false
set_option maxHeartbeats 8000000
set_option maxRecDepth 100000
namespace Go.Proofs.YtignanmmgaldeaaGreatDoor.PCongI
open Go.RowKit Go.Proofs.YtignanmmgaldeaaGreatDoorW.PrintWords Go.Proofs.YtignanmmgaldeaaGreatDoorW.PrintLast Go.Proofs.YtignanmmgaldeaaGreatDoorW.PrintMore
attribute [local go_sem] dQ dR eH eP
def kD.f(k:Nat)(a0_0:Bool)(a0_1:ByteArray)(a0_2:ByteArray)(a1:ByteArray):Option (Bool×Int):=(dV.f k a0_0 a0_1 a0_2).bind fun t149=>(if t149=0 then((iQ.f a1).bind fun t150=>(if t150=0 then(if a0_0=true then(some (false,0)) else(if a0_1.toList=([48]:List UInt8) then(some ((a1.toList==a0_2.toList),0)) else((jO.f a1 a0_1).bind fun bt151=>((iK.f bt151.1 bt151.2).bind fun t153=>(some ((t153.toList==a0_2.toList),0)))))) else(some (false,t150)))) else(some (false,t149)))
def kD.T11:Bool×List (List Nat×List Nat):=(true,[([],[]),([],[]),([1],[1]),([0,2],[0,2]),([3],[3]),([3],[3]),([4,5,3],[4,5]),([],[]),([7],[7]),([6,8],[6,8]),([9,6,0,1,2,3,4,5,6,7,8,9],[9]),([10,0,1,2,3,4,5,6,7,8,9,10],[])])
def kD.B11:List Nat:= [0,0,2,7,15,15,63,0,128,511,1023,2047]
theorem kD.tab11:rtab .any (opsOf Tryz.f60 11)=kD.T11:=by kernel_rfl
theorem kD.bits11:kX kD.T11.2 kD.B11=true:=by kernel_rfl
theorem kD.calls(k:Nat)(o9:Bool)(o6:ByteArray)(o7:ByteArray)(a1:ByteArray)(r1:Bool)(r2:Int)(w:World)(hG:GW w)(h:kD.f k o9 o6 o7 a1=some (r1,r2)) :
 Calls Tryz.prog 60 #[.agg #[.bool o9,.string o6,.string o7],.string a1] w fun e w'=>e= .returned (.tuple #[.bool r1,.int .i64 r2])∧Below w.heap.size w w':=by
 have HG:=aA.mk hG;clear hG;have hu36:=Tryz.underlying36;have HB:=aA.mk (Below.refl w.heap.size w);have H:((dV.f k o9 o6 o7).bind fun C9=>(if C9=0 then((iQ.f a1).bind fun D5=>(if D5=0 then(if o9=true then(some (false,0)) else(if o6.toList=([48]:List UInt8) then(some ((a1.toList==o7.toList),0)) else((jO.f a1 o6).bind fun D8=>((iK.f D8.1 D8.2).bind fun D7=>(some ((D7.toList==o7.toList),0)))))) else(some (false,D5)))) else(some (false,C9))))=some (r1,r2):=h;clear h;obtain⟨C9,A3,H⟩:=bi H;try dsimp only at H
 go_enter Tryz.func60,Tryz.ntmps60
 by_cases c4:C9=0
 ·rw[if_pos c4] at H
  obtain⟨F5,F6⟩:=bT c4;clear c4;obtain⟨D5,A5,H⟩:=bi H;try dsimp only at H
  by_cases c6:D5=0
  ·rw[if_pos c6] at H
   obtain⟨F7,F8⟩:=bT c6;clear c6
   by_cases c7:o9=true
   ·subst c7
    rw[if_pos rfl] at H;simp only[Option.some.injEq,Prod.mk.injEq] at H;obtain⟨rfl,rfl⟩:=H
    go_wp2_with(first|((with_reducible refine aG (N:=2) rfl ?_);refine bx_ 2 36 #[.bool true,.string o6,.string o7] (h:= ?_);intro y8 hg w8 o5 hb;have l9:=aA.mk (o5);have o8:=pkG HB hg;have D6:=o8;replace HB:=pkB HB hb;clear hb o5 hg;obtain⟨⟨G9,H5,H6⟩,H7,H8,H9⟩:=pk3 l9)|((with_reducible refine aC (f:=66) rfl ?_);refine gM 9 Tryz.func66 (dV.calls (w:=_) (h:=A3.out)) (h:= ?_);intro I4 hb;replace l9:=pkK l9 hb;replace HB:=pkB HB hb;try clear hb)|((with_reducible refine aC (f:=73) rfl ?_);refine gM 14 Tryz.func73 (iQ.calls (w:=_) (h:=A5.out)) (h:= ?_);intro I5 hb;replace l9:=pkK l9 hb;replace HB:=pkB HB hb;try clear hb;obtain⟨⟨I7,I8,I9⟩,J3,J4,J5⟩:=pk3 l9))
    go_ret2
    exact pkE HB
   ·replace c7:=Bool.eq_false_iff.mpr c7
    subst c7;rw[if_neg (show ¬(false=true) by decide)] at H
    by_cases y9:o6.toList=([48]:List UInt8)
    ·rw[if_pos y9] at H
     obtain⟨F9,G5⟩:=bT y9;clear y9;simp only[Option.some.injEq,Prod.mk.injEq] at H;obtain⟨rfl,rfl⟩:=H
     go_wp2_with(first|((with_reducible refine aG (N:=2) rfl ?_);refine bx_ 2 36 #[.bool false,.string o6,.string o7] (h:= ?_);intro y8 hg J6 o5 hb;have l9:=aA.mk (o5);have o8:=pkG HB hg;have D6:=o8;replace HB:=pkB HB hb;clear hb o5 hg;obtain⟨⟨J7,J8,J9⟩,L6,L8,L9⟩:=pk3 l9)|((with_reducible refine aC (f:=66) rfl ?_);refine gM 9 Tryz.func66 (dV.calls (w:=_) (h:=A3.out)) (h:= ?_);intro N7 hb;replace l9:=pkK l9 hb;replace HB:=pkB HB hb;try clear hb)|((with_reducible refine aC (f:=73) rfl ?_);refine gM 14 Tryz.func73 (iQ.calls (w:=_) (h:=A5.out)) (h:= ?_);intro N8 hb;replace l9:=pkK l9 hb;replace HB:=pkB HB hb;try clear hb;obtain⟨⟨N9,O0,O1⟩,O3,O4,O5⟩:=pk3 l9))
     go_ret2
     exact pkE HB
    ·rw[if_neg y9] at H
     obtain⟨F9,G5⟩:=bF y9;obtain⟨⟨D9,E8⟩,G6,H⟩:=bi H;try dsimp only at H
     obtain⟨D7,G7,H⟩:=bi H;try dsimp only at H
     simp only[Option.some.injEq,Prod.mk.injEq] at H;obtain⟨rfl,rfl⟩:=H
     try go_wp2_with(first|((with_reducible refine aG (N:=2) rfl ?_);refine bx_ 2 36 #[.bool false,.string o6,.string o7] (h:= ?_);intro y8 hg O6 o5 hb;have l9:=aA.mk (o5);have o8:=pkG HB hg;have D6:=o8;replace HB:=pkB HB hb;clear hb o5 hg;obtain⟨⟨O7,O8,O9⟩,P7,P8,P9⟩:=pk3 l9)|((with_reducible refine aC (f:=66) rfl ?_);refine gM 9 Tryz.func66 (dV.calls (w:=_) (h:=A3.out)) (h:= ?_);intro Q3 hb;replace l9:=pkK l9 hb;replace HB:=pkB HB hb;try clear hb)|((with_reducible refine aC (f:=73) rfl ?_);refine gM 14 Tryz.func73 (iQ.calls (w:=_) (h:=A5.out)) (h:= ?_);intro G8 hb;replace l9:=pkK l9 hb;replace HB:=pkB HB hb;try clear hb;obtain⟨⟨Q4,Q5,Q7⟩,Q8,Q9,S9⟩:=pk3 l9))
     replace l9:=aA.mk (aK l9.out);replace HB:=aA.mk (aJ HB.out)
     refine kF (n:=12) (S:=fun w'=>w'.cell? ⟨y8,0,none⟩=some (.bool false)∧w'.cell? ⟨y8,1,none⟩=some (.string o6)∧w'.cell? ⟨y8,2,none⟩=some (.string o7)) (ds:= []) #[false,false,false,false,false,false,false,false,false,false,false,false] (by kernel_rfl) rfl rfl (pcL l9) (fun hHeld=> ?_);refine jZ kD.tab11 kD.bits11 (fun HT_ HW_=> ?_)
     generalize G8.drew=U3 at l9 HB hHeld ⊢;refine pr_ 0 27 (h:= ?_);refine pr_ 1 28 (h:= ?_);refine pr_ 7 34 (h:= ?_);refine tk_ 2 29 hHeld (hy:=hy3) (h:= ?_);refine tk_ 8 35 hHeld (hy:=hy3) (h:= ?_);refine on_ 3 30 (h:=fun K hK=> ?_);refine gR Tryz.func20 (jO.calls (hG:=HG.out.below (pkL HB)) (h:=G6.out)) (h:= ?_);intro U4 hb;replace l9:=pkK l9 hb;replace HB:=pkB HB hb
     clear hb;refine hK.out _ _ (pcL l9) (fun hHeld=> ?_);clear hK K;refine nm_ (h:= ?_);refine pr_ 4 31 (h:= ?_);refine pr_ 5 32 (h:= ?_);refine on_ 6 33 (h:=fun K hK=> ?_);refine g1_ Tryz.func128 #[.string D9,.int .i64 E8] (h:= ?_);with_reducible refine(iK.calls D9 E8 D7 _ G7.out).mono ?_
     rintro e w' ⟨rfl,⟨nd,rfl⟩⟩;refine⟨_,rfl,?_⟩;refine hK.out _ _ (pcL l9) (fun hHeld=> ?_);clear hK K;refine nm_ (h:= ?_);refine pr_ 9 36 (h:= ?_);refine pr_ 10 4 (h:= ?_);refine pr_ 11 5 (h:= ?_);refine kY (lK HT_.out (by kernel_rfl)) ?_
     try go_wp2
     go_ret2
     exact pkE HB
  ·rw[if_neg c6] at H
   obtain⟨F7,F8⟩:=bF c6;simp only[Option.some.injEq,Prod.mk.injEq] at H;obtain⟨rfl,rfl⟩:=H
   go_wp2_with(first|((with_reducible refine aG (N:=2) rfl ?_);refine bx_ 2 36 #[.bool o9,.string o6,.string o7] (h:= ?_);intro y8 hg U5 o5 hb;have l9:=aA.mk (o5);have o8:=pkG HB hg;have D6:=o8;replace HB:=pkB HB hb;clear hb o5 hg;obtain⟨⟨U6,U7,U8⟩,U9,V3,V4⟩:=pk3 l9)|((with_reducible refine aC (f:=66) rfl ?_);refine gM 9 Tryz.func66 (dV.calls (w:=_) (h:=A3.out)) (h:= ?_);intro V5 hb;replace l9:=pkK l9 hb;replace HB:=pkB HB hb;try clear hb)|((with_reducible refine aC (f:=73) rfl ?_);refine gM 14 Tryz.func73 (iQ.calls (w:=_) (h:=A5.out)) (h:= ?_);intro V6 hb;replace l9:=pkK l9 hb;replace HB:=pkB HB hb;try clear hb))
   go_ret2
   exact pkE HB
 ·rw[if_neg c4] at H
  obtain⟨F5,F6⟩:=bF c4;simp only[Option.some.injEq,Prod.mk.injEq] at H;obtain⟨rfl,rfl⟩:=H
  go_wp2_with(first|((with_reducible refine aG (N:=2) rfl ?_);refine bx_ 2 36 #[.bool o9,.string o6,.string o7] (h:= ?_);intro y8 hg V7 o5 hb;have l9:=aA.mk (o5);have o8:=pkG HB hg;have D6:=o8;replace HB:=pkB HB hb;clear hb o5 hg;obtain⟨⟨V8,V9,X4⟩,X5,X7,X8⟩:=pk3 l9)|((with_reducible refine aC (f:=66) rfl ?_);refine gM 9 Tryz.func66 (dV.calls (w:=_) (h:=A3.out)) (h:= ?_);intro X9 hb;replace l9:=pkK l9 hb;replace HB:=pkB HB hb;try clear hb))
  go_ret2
  exact pkE HB
end Go.Proofs.YtignanmmgaldeaaGreatDoor.PCongI
end
section
set_option linter.unusedVariables false
set_option linter.unusedSimpArgs false
namespace Go.Proofs.YtignanmmgaldeaaGreatDoor.CongM
open Go.RowKit Go.Proofs.YtignanmmgaldeaaGreatDoor.RefP Go.Proofs.YtignanmmgaldeaaGreatDoor.PCongI Go.Proofs.YtignanmmgaldeaaGreatDoorW.PrintWords Go.Proofs.YtignanmmgaldeaaGreatDoorW.PrintLast
def clsM(c:Int×Int)(a:Int):Prop:=c.1∣a-c.2
theorem aD8(m a:Int):((m.natAbs:Int)∣a)↔m∣a:=Int.natAbs_dvd
theorem yG(r s m:Int):r%m=s%m↔m∣r-s:=by
 rw[Int.emod_eq_emod_iff_emod_sub_eq_zero,Int.dvd_iff_emod_eq_zero]
theorem zD{M:Nat}{m m' r r':Int}(h:m.natAbs=m'.natAbs)(k:m∣r-r'):cls M m r=cls M m' r':=by
 have e:r%(m.natAbs:Int)=r'%(m.natAbs:Int):=(yG _ _ _).2 ((aD8 _ _).2 k);unfold cls;rw[←h,e]
theorem emod_le_abs(r m:Int)(h:m≠0):(r%(m.natAbs:Int)).natAbs<m.natAbs:=by
 have h1:=Int.emod_nonneg r (show(m.natAbs:Int)≠0 by omega);have h2:=Int.emod_lt_of_pos r (show(0:Int)<(m.natAbs:Int) by omega);omega
theorem cls_plain{M:Nat}{m r:Int}(hm:Bd M m)(hr:m=0→Bd M r):cls M m r=((m.natAbs:Int),r%(m.natAbs:Int)):=by
 unfold cls;refine if_pos ⟨hm,?_⟩
 by_cases h:m=0
 ·subst h
  rw[show((0:Int).natAbs:Int)=0 from rfl,Int.emod_zero];exact hr rfl
 ·exact Nat.lt_trans (emod_le_abs r m h) hm
def subC(M:Nat)(c d:Int×Int):Int×Int:=cls M (gcdI c.1 d.1) (c.2+ -d.2)
def memO:Option (Int×Int)→Int→Prop
 |none,_=>False
 |some c,a=>clsM c a
instance (c:Int×Int)(a:Int):Decidable (clsM c a):=inferInstanceAs (Decidable (_∣_))
instance:(o:Option (Int×Int))→(a:Int)→Decidable (memO o a)
 |none,_=> .isFalse id
 |some c,a=>inferInstanceAs (Decidable (clsM c a))
theorem text_eq(x y:Int):((text x).toList==(text y).toList)=decide (x=y):=by
 by_cases h:x=y
 ·rw[decide_eq_true h,h];exact beq_self_eq_true _
 ·rw[decide_eq_false h]
  simp only[beq_eq_false_iff_ne,ne_eq,toList_data];exact fun q=>h (aC8 (nZ q))
theorem clsM_iff{c:Int×Int}(hv:clsV c)(a:Int):clsM c a↔a%c.1=c.2:=by
 unfold clsM;rw[←yG,hv.2]
theorem holds_val(e:Bool)(m r a:ByteArray)(hm:m.size≤1000000)(hr:r.size≤1000000)(ha:a.size≤1000000)(k:Nat)(hk:5≤k):kD.f k e m r a=some (if hldE e m r a=0 then decide (memO (decC e m r) (aV a)) else false,hldE e m r a):=by
 unfold kD.f hldE;rw[aBl e m r hm hr k hk,Option.bind_some]
 by_cases h:chkC e m r=0
 ·obtain⟨o,go,eo⟩:=aAq h
  have hd:=nH o;rw[←eo] at hd;simp only at hd;unfold iQ.f;rw[if_pos h,if_pos h,if_pos (show a.size≤9223372036854775807 by omega),Option.bind_some]
  by_cases h2:chkI a=0
  ·obtain⟨h3,h4⟩:=xU h2
   obtain⟨y,rfl⟩:=lU a h3;have by':Bd 4096 y:=oN _ (by rw[←kV];exact h4)
   rw[if_pos h2,if_pos h2,hd,bC,h2]
   cases o with
   |none=>
    obtain⟨rfl,rfl,rfl⟩:e=true∧m=⟨#[]⟩∧r=⟨#[]⟩:=by simpa[encC] using eo
    rw[if_pos rfl];rfl
   |some c=>
    obtain⟨rfl,rfl,rfl⟩:e=false∧m=text c.1∧r=text c.2:=by simpa[encC] using eo
    rw[if_neg aFz];have ci:=clsM_iff go.1 y
    by_cases h5:c.1=0
    ·rw[if_pos ((bK _).2 h5),text_eq]
     congr 2
     refine decide_eq_decide.2 ?_;show y=c.2↔clsM c y;rw[ci,h5,Int.emod_zero]
    ·have hf:Int.fmod y c.1=y%c.1:=Int.fmod_eq_emod_of_nonneg _ go.1.1
     rw[if_neg (fun q=>h5 ((bK _).1 q)),aCa 4096 by' (go.2.1.mono aFx) aFx aFx,if_neg h5,Option.bind_some];unfold iK.f;rw[Option.bind_some,hf,text_eq]
     congr 2
     exact decide_eq_decide.2 ci.symm
  ·rw[if_neg h2,if_neg h2]
 ·rw[if_neg h,if_neg h,if_neg h]
end Go.Proofs.YtignanmmgaldeaaGreatDoor.CongM
end
section
set_option linter.unusedVariables false
set_option linter.unusedSimpArgs false
namespace Go.Proofs.YtignanmmgaldeaaGreatDoor
open Go.RowKit Go.Proofs.YtignanmmgaldeaaGreatDoor.RefP Go.Proofs.YtignanmmgaldeaaGreatDoor.PCongI Go.Proofs.YtignanmmgaldeaaGreatDoor.CongM Go.Proofs.YtignanmmgaldeaaGreatDoorW.PrintWords Go.Proofs.YtignanmmgaldeaaGreatDoorW.PrintLast
def rH.f(a0_0:Bool)(a0_1 a0_2:ByteArray):Option (Int):=if a0_1.size≤1000000∧a0_2.size≤1000000 then some (chkC a0_0 a0_1 a0_2) else none
theorem rH.calls(l9:Bool)(o5 o6:ByteArray)(i1:Int)(w:World)(h:rH.f l9 o5 o6=some i1) :
 Calls Tryz.prog 66 #[.agg #[.bool l9,.string o5,.string o6]] w fun e w'=>e= .returned (.int .i64 i1)∧Below w.heap.size w w':=by
 unfold rH.f at h
 split at h
 ·rename_i hs
  rw[←aBl l9 o5 o6 hs.1 hs.2 5 (Nat.le_refl _)] at h;exact dV.calls 5 l9 o5 o6 i1 w h
 ·cases h
def pI.f(a0_0:Bool)(a0_1 a0_2:ByteArray)(a1:ByteArray):Option (Bool×Int):=if a0_1.size≤1000000∧a0_2.size≤1000000∧a1.size≤1000000 then some (if hldE a0_0 a0_1 a0_2 a1=0 then decide (memO (decC a0_0 a0_1 a0_2) (aV a1)) else false,hldE a0_0 a0_1 a0_2 a1) else none
theorem pI.calls(l9:Bool)(o5 o6:ByteArray)(a1:ByteArray)(b1:Bool)(i2:Int)(w:World)(hG:GW w)(h:pI.f l9 o5 o6 a1=some (b1,i2)) :
 Calls Tryz.prog 60 #[.agg #[.bool l9,.string o5,.string o6],.string a1] w fun e w'=>e= .returned (.tuple #[.bool b1,.int .i64 i2])∧Below w.heap.size w w':=by
 unfold pI.f at h
 split at h
 ·rename_i hs
  rw[←holds_val l9 o5 o6 a1 hs.1 hs.2.1 hs.2.2 5 (Nat.le_refl _)] at h;exact kD.calls 5 l9 o5 o6 a1 b1 i2 w hG h
 ·cases h
end Go.Proofs.YtignanmmgaldeaaGreatDoor
end
section
set_option linter.unusedVariables false
set_option linter.unusedSimpArgs false
namespace Go.Proofs.YtignanmmgaldeaaGreatDoor.PLawB
open Go.RowKit Go.Proofs.YtignanmmgaldeaaGreatDoorW.PrintWords Go.Proofs.YtignanmmgaldeaaGreatDoorW.PrintLast Go.Proofs.YtignanmmgaldeaaGreatDoorW.PrintMore
attribute [local go_sem] dQ dR eH eP
theorem oP(w:World)(base:Nat)(ok:Nat→Prop)(x:S36):k36.M w base ok x [.bool x.f0,.string x.f1,.string x.f2]:=⟨[.bool x.f0],[.string x.f1,.string x.f2],rfl,rfl,⟨[.string x.f1],[.string x.f2],rfl,rfl,rfl⟩⟩
end Go.Proofs.YtignanmmgaldeaaGreatDoor.PLawB
end
section
set_option linter.unusedVariables false
set_option linter.unusedSimpArgs false
set_option maxHeartbeats 8000000
set_option maxRecDepth 100000
namespace Go.Proofs.YtignanmmgaldeaaGreatDoor.PLawB
open Go.RowKit Go.Proofs.YtignanmmgaldeaaGreatDoorW.PrintWords Go.Proofs.YtignanmmgaldeaaGreatDoorW.PrintLast Go.Proofs.YtignanmmgaldeaaGreatDoorW.PrintMore
attribute [local go_sem] dQ dR eH eP
def bU.f(a0:ByteArray):Option (Int):=(jU.f a0).bind fun t109=>(if t109=true then((iW.f a0).bind fun t110=>(if t110>100 then(some 10) else(some 0))) else(some 3))
theorem bU.calls(a0:ByteArray)(r:Int)(w:World)(h:bU.f a0=some r) :
 Calls Tryz.prog 141 #[.string a0] w fun e w'=>e= .returned (.int .i64 r)∧eQ w w':=by
 have H:((jU.f a0).bind fun o5=>(if o5=true then((iW.f a0).bind fun l9=>(if l9>100 then(some 10) else(some 0))) else(some 3)))=some r:=h;clear h;obtain⟨o5,A2,H⟩:=bi H;try dsimp only at H
 go_enter Tryz.func141,Tryz.ntmps141
 refine byC (P:=o5=true) (fun c3=> ?a2) (fun c3=> ?b2)
 case' a2=>
  subst c3;rw[if_pos rfl] at H;obtain⟨l9,A4,H⟩:=bi H;try dsimp only at H
  refine byC (P:=l9>100) (fun c5=> ?a3) (fun c5=> ?b3)
  case' a3=>
   rw[if_pos c5] at H;have o6:=decide_eq_true c5;clear c5;obtain rfl:=Option.some.inj H
  case' b3=>
   rw[if_neg c5] at H;have o6:=decide_eq_false c5;clear c5;obtain rfl:=Option.some.inj H
 case' b2=>
  replace c3:=Bool.eq_false_iff.mpr c3;subst c3;rw[if_neg (show ¬(false=true) by decide)] at H;obtain rfl:=Option.some.inj H
 all_goals
  go_wp2_with(first|((with_reducible refine aC (f:=184) rfl ?_);refine gl_ 4 Tryz.func184 #[.string a0] (h:= ?_);(with_reducible refine(jU.calls a0 _ _ A2.out).mono ?_);rintro e w' ⟨rfl,⟨nd,rfl⟩⟩;refine⟨_,rfl,?_⟩)|((with_reducible refine aC (f:=149) rfl ?_);refine gl_ 7 Tryz.func149 #[.string a0] (h:= ?_);(with_reducible refine(iW.calls a0 l9 _ A4.out).mono ?_);rintro e w' ⟨rfl,⟨nd,rfl⟩⟩;refine⟨_,rfl,?_⟩))
  go_ret
  exact dr_
def fH.f(a0_0:Bool)(a0_1:ByteArray)(a0_2:ByteArray):Option (Int):=if a0_0=true then(if a0_1.toList=([]:List UInt8) then(if a0_2.toList=([]:List UInt8) then(some 0) else(some 3)) else(some 3)) else((bU.f a0_1).bind fun t112=>(if t112=0 then((bU.f a0_2).bind fun t113=>(if t113=0 then((gV.f a0_1).bind fun t114=>(if t114<0 then(some 2) else(if a0_1.toList=([48]:List UInt8) then(some 0) else((gV.f a0_2).bind fun t115=>(if t115<0 then(some 2) else((jB.f a0_2 a0_1).bind fun t116=>(if t116=true then(some 0) else(some 2)))))))) else(some t113))) else(some t112)))
theorem fH.calls(D6:Bool)(l9:ByteArray)(o5:ByteArray)(r:Int)(w:World)(h:fH.f D6 l9 o5=some r) :
 Calls Tryz.prog 67 #[.agg #[.bool D6,.string l9,.string o5]] w fun e w'=>e= .returned (.int .i64 r)∧Below w.heap.size w w':=by
 have hu36:=Tryz.underlying36;have HB:=aA.mk (Below.refl w.heap.size w);have H:(if D6=true then(if l9.toList=([]:List UInt8) then(if o5.toList=([]:List UInt8) then(some 0) else(some 3)) else(some 3)) else((bU.f l9).bind fun y9=>(if y9=0 then((bU.f o5).bind fun C9=>(if C9=0 then((gV.f l9).bind fun D7=>(if D7<0 then(some 2) else(if l9.toList=([48]:List UInt8) then(some 0) else((gV.f o5).bind fun D8=>(if D8<0 then(some 2) else((jB.f o5 l9).bind fun D9=>(if D9=true then(some 0) else(some 2)))))))) else(some C9))) else(some y9))))=some r:=h;clear h;go_enter Tryz.func67,Tryz.ntmps67
 refine byC (P:=D6=true) (fun c2=> ?a4) (fun c2=> ?b4)
 case' a4=>
  subst c2;rw[if_pos rfl] at H;refine byC (P:=l9.toList=([]:List UInt8)) (fun c3=> ?a5) (fun c3=> ?b5)
  case' a5=>
   rw[if_pos c3] at H;obtain⟨F6,F7⟩:=bT c3;clear c3;refine byC (P:=o5.toList=([]:List UInt8)) (fun c4=> ?a6) (fun c4=> ?b6)
   case' a6=>
    rw[if_pos c4] at H;obtain⟨F8,F9⟩:=bT c4;clear c4;obtain rfl:=Option.some.inj H
   case' b6=>
    rw[if_neg c4] at H;obtain⟨F8,F9⟩:=bF c4;obtain rfl:=Option.some.inj H
  case' b5=>
   rw[if_neg c3] at H;obtain⟨F6,F7⟩:=bF c3;obtain rfl:=Option.some.inj H
 case' b4=>
  replace c2:=Bool.eq_false_iff.mpr c2;subst c2;rw[if_neg (show ¬(false=true) by decide)] at H;obtain⟨y9,G5,H⟩:=bi H;try dsimp only at H
  refine byC (P:=y9=0) (fun o8=> ?a7) (fun o8=> ?b7)
  case' a7=>
   rw[if_pos o8] at H;obtain⟨G6,G7⟩:=bT o8;clear o8;obtain⟨C9,G8,H⟩:=bi H;try dsimp only at H
   refine byC (P:=C9=0) (fun o9=> ?a8) (fun o9=> ?b8)
   case' a8=>
    rw[if_pos o9] at H;obtain⟨G9,H5⟩:=bT o9;clear o9;obtain⟨D7,H6,H⟩:=bi H;try dsimp only at H
    refine byC (P:=D7<0) (fun o6=> ?a9) (fun o6=> ?b9)
    case' a9=>
     rw[if_pos o6] at H;have H7:=decide_eq_true o6;clear o6;obtain rfl:=Option.some.inj H
    case' b9=>
     rw[if_neg o6] at H;have H7:=decide_eq_false o6;clear o6;refine byC (P:=l9.toList=([48]:List UInt8)) (fun y8=> ?a10) (fun y8=> ?b10)
     case' a10=>
      rw[if_pos y8] at H;obtain⟨H8,H9⟩:=bT y8;clear y8;obtain rfl:=Option.some.inj H
     case' b10=>
      rw[if_neg y8] at H;obtain⟨H8,H9⟩:=bF y8;obtain⟨D8,I4,H⟩:=bi H;try dsimp only at H
      refine byC (P:=D8<0) (fun o7=> ?a11) (fun o7=> ?b11)
      case' a11=>
       rw[if_pos o7] at H;have I5:=decide_eq_true o7;clear o7;obtain rfl:=Option.some.inj H
      case' b11=>
       rw[if_neg o7] at H;have I5:=decide_eq_false o7;clear o7;obtain⟨D9,I7,H⟩:=bi H;try dsimp only at H
       refine byC (P:=D9=true) (fun D5=> ?a12) (fun D5=> ?b12)
       case' a12=>
        subst D5;rw[if_pos rfl] at H;obtain rfl:=Option.some.inj H
       case' b12=>
        replace D5:=Bool.eq_false_iff.mpr D5;subst D5;rw[if_neg (show ¬(false=true) by decide)] at H;obtain rfl:=Option.some.inj H
   case' b8=>
    rw[if_neg o9] at H;obtain⟨G9,H5⟩:=bF o9;obtain rfl:=Option.some.inj H
  case' b7=>
   rw[if_neg o8] at H;obtain⟨G6,G7⟩:=bF o8;obtain rfl:=Option.some.inj H
 all_goals
  go_wp2_with(first|((with_reducible refine aG (N:=1) rfl ?_);refine bx_ 1 36 #[.bool _,.string l9,.string o5] (h:= ?_);intro I9 hg w5 F5 hb;have E8:=aA.mk (F5);have I8:=pkG HB hg;have J3:=I8;replace HB:=pkB HB hb;clear hb F5 hg;obtain⟨⟨J4,J5,J6⟩,J7,J8,J9⟩:=pk3 E8)|((with_reducible refine aC (f:=141) rfl ?_);refine gl_ 17 Tryz.func141 #[.string l9] (h:= ?_);(with_reducible refine(bU.calls l9 y9 _ G5.out).mono ?_);rintro e w' ⟨rfl,⟨nd,rfl⟩⟩;refine⟨_,rfl,?_⟩)|((with_reducible refine aC (f:=141) rfl ?_);refine gl_ 23 Tryz.func141 #[.string o5] (h:= ?_);(with_reducible refine(bU.calls o5 C9 _ G8.out).mono ?_);rintro e w' ⟨rfl,⟨nd,rfl⟩⟩;refine⟨_,rfl,?_⟩)|((with_reducible refine aC (f:=142) rfl ?_);refine gl_ 29 Tryz.func142 #[.string l9] (h:= ?_);(with_reducible refine(gV.calls l9 D7 _ H6.out).mono ?_);rintro e w' ⟨rfl,⟨nd,rfl⟩⟩;refine⟨_,rfl,?_⟩)|(go_at_call 142;(with_reducible refine(gV.calls o5 D8 _ I4.out).mono ?_);rintro e w' ⟨rfl,⟨nd,rfl⟩⟩)|(go_at_call 143;(with_reducible refine(jB.calls o5 l9 _ _ I7.out).mono ?_);rintro e L6 ⟨rfl,hb⟩;replace E8:=pkK E8 hb;replace HB:=pkB HB hb;try clear hb))
  go_ret
  exact pkE HB
end Go.Proofs.YtignanmmgaldeaaGreatDoor.PLawB
end
section
set_option linter.unusedVariables false
set_option linter.unusedSimpArgs false
namespace Go.Proofs.YtignanmmgaldeaaGreatDoor.LawC
open Go.RowKit Go.Proofs.YtignanmmgaldeaaGreatDoor Go.Proofs.YtignanmmgaldeaaGreatDoor.PLawB Go.Proofs.YtignanmmgaldeaaGreatDoor.RefP Go.Proofs.YtignanmmgaldeaaGreatDoor.PCongI Go.Proofs.YtignanmmgaldeaaGreatDoor.CongM Go.Proofs.YtignanmmgaldeaaGreatDoorW.PrintWords
theorem pJ(a:ByteArray)(ha:a.size≤140737488351232):bU.f a=some (numC a):=by
 unfold bU.f jU.f numC;rw[if_pos ha,Option.bind_some]
 by_cases hc:canon a.data.toList=true
 ·rw[if_pos hc,if_pos hc]
  have h0:0<a.size:=by
   rcases Nat.eq_zero_or_pos a.size with h|h
   ·rw[Lib.size_eq] at h
    rw[List.eq_nil_of_length_eq_zero h] at hc;exact absurd hc aG0
   ·exact h
  unfold iW.f;rw[if_pos ⟨h0,ha⟩,Option.bind_some]
  by_cases hd:100<digN a
  ·rw[if_pos hd,if_pos aFx]
  ·rw[if_neg hd,if_neg aFx]
 ·rw[if_neg hc,if_neg hc]
theorem qU(x:Int):((text x).toList=([48]:List UInt8))↔x=0:=by
 have h:=text_eq x 0;rw[show(text 0).toList=([48]:List UInt8) by decide +kernel] at h
 constructor
 ·intro e;rw[e] at h;simpa using h
 ·intro e;subst e;decide +kernel
theorem xN(e:Bool)(m r:ByteArray)(hm:m.size≤140737488351232)(hr:r.size≤140737488351232):fH.f e m r=some (chkC e m r):=by
 unfold fH.f chkC
 by_cases he:e=true
 ·rw[if_pos he,if_pos he]
  split
  ·split <;> rfl
  ·rfl
 ·rw[if_neg he,if_neg he,pJ m hm,Option.bind_some]
  by_cases h1:numC m=0
  ·rw[if_pos h1,if_pos h1,pJ r hr,Option.bind_some]
   by_cases h2:numC r=0
   ·rw[if_pos h2,if_pos h2]
    obtain⟨x,rfl,bx⟩:=sO h1;obtain⟨y,rfl,by'⟩:=sO h2;rw[bC,bC,sG bx aFx aFx,Option.bind_some]
    by_cases hx:x<0
    ·rw[if_pos ((mD x).2 hx),if_pos (show rngC x y from Or.inl hx)]
    ·rw[if_neg (fun q=>hx ((mD x).1 q))]
     by_cases h0:x=0
     ·rw[if_pos ((qU x).2 h0),if_neg (show ¬rngC x y by unfold rngC;omega)]
     ·rw[if_neg (fun q=>h0 ((qU x).1 q)),sG by' aFx aFx,Option.bind_some]
      by_cases hy:y<0
      ·rw[if_pos ((mD y).2 hy),if_pos (show rngC x y by unfold rngC;omega)]
      ·rw[if_neg (fun q=>hy ((mD y).1 q)),zC by' bx aFx aFx,Option.bind_some]
       by_cases hl:y<x
       ·rw[if_pos (decide_eq_true hl),if_neg (show ¬rngC x y by unfold rngC;omega)]
       ·rw[if_neg (by simpa using hl),if_pos (show rngC x y by unfold rngC;omega)]
   ·rw[if_neg h2,if_neg h2]
  ·rw[if_neg h1,if_neg h1]
end Go.Proofs.YtignanmmgaldeaaGreatDoor.LawC
end
section
set_option linter.unusedVariables false
set_option linter.unusedSimpArgs false
namespace Go.Proofs.YtignanmmgaldeaaGreatDoor
open Go.RowKit Go.Proofs.YtignanmmgaldeaaGreatDoor.PLawB Go.Proofs.YtignanmmgaldeaaGreatDoor.LawC Go.Proofs.YtignanmmgaldeaaGreatDoor.RefP Go.Proofs.YtignanmmgaldeaaGreatDoor.PCongI Go.Proofs.YtignanmmgaldeaaGreatDoor.CongM Go.Proofs.YtignanmmgaldeaaGreatDoorW.PrintWords
def dE.f(e:Bool)(m r:ByteArray):Option Int:=if m.size≤1000000∧r.size≤1000000 then some (chkC e m r) else none
theorem dE.calls(o6:Bool)(l9:ByteArray)(o5:ByteArray)(r:Int)(w:World)(h:dE.f o6 l9 o5=some r) :
 Calls Tryz.prog 67 #[.agg #[.bool o6,.string l9,.string o5]] w fun e w'=>e= .returned (.int .i64 r)∧Below w.heap.size w w':=by
 unfold dE.f at h
 by_cases hz:l9.size≤1000000∧o5.size≤1000000
 ·rw[if_pos hz] at h
  exact fH.calls o6 l9 o5 r w (by rw[xN _ _ _ aFx aFx];exact h)
 ·rw[if_neg hz] at h;cases h
end Go.Proofs.YtignanmmgaldeaaGreatDoor
end
section
set_option linter.unusedVariables false
set_option linter.unusedSimpArgs false
set_option maxHeartbeats 8000000
set_option maxRecDepth 100000
namespace Go.Proofs.YtignanmmgaldeaaGreatDoor.PRefQ
open Go.RowKit Go.Proofs.YtignanmmgaldeaaGreatDoorW.PrintWords Go.Proofs.YtignanmmgaldeaaGreatDoorW.PrintLast Go.Proofs.YtignanmmgaldeaaGreatDoorW.PrintMore
attribute [local go_sem] dQ dR eH eP
def dN.f(a0:ByteArray)(a1:ByteArray):Option (Bool):=if a0.toList=([48]:List UInt8) then(some (a1.toList==([48]:List UInt8))) else((lT.f a1 a0).bind fun t128=>(some (t128.toList==([48]:List UInt8))))
theorem dN.calls(a0:ByteArray)(a1:ByteArray)(r:Bool)(w:World)(h:dN.f a0 a1=some r) :
 Calls Tryz.prog 180 #[.string a0,.string a1] w fun e w'=>e= .returned (.bool r)∧Below w.heap.size w w':=by
 have HB:=aA.mk (Below.refl w.heap.size w);have H:(if a0.toList=([48]:List UInt8) then(some (a1.toList==([48]:List UInt8))) else((lT.f a1 a0).bind fun l9=>(some (l9.toList==([48]:List UInt8)))))=some r:=h;clear h;go_enter Tryz.func180,Tryz.ntmps180
 refine byC (P:=a0.toList=([48]:List UInt8)) (fun c3=> ?a1) (fun c3=> ?b1)
 case' a1=>
  rw[if_pos c3] at H;obtain⟨o5,o6⟩:=bT c3;clear c3;obtain rfl:=Option.some.inj H
 case' b1=>
  rw[if_neg c3] at H;obtain⟨o5,o6⟩:=bF c3;obtain⟨l9,A4,H⟩:=bi H;try dsimp only at H
  obtain rfl:=Option.some.inj H
 all_goals
  go_wp2_with(first|((with_reducible refine aC (f:=78) rfl ?_);refine gM 11 Tryz.func78 (lT.calls (w:=_) (h:=A4.out)) (h:= ?_);intro w5 hb;replace HB:=pkB HB hb;try clear hb))
  go_ret
  exact pkE HB
def dO.f(a0_0:Bool)(a0_1:ByteArray)(a0_2:ByteArray)(a1:ByteArray):Option (Bool):=if a0_0=true then(some false) else((iE.f a1 a0_2).bind fun t130=>((dN.f a0_1 t130).bind fun t131=>(some t131)))
def dO.T1:Bool×List (List Nat×List Nat):=(true,[([],[]),([0],[0]),([1],[1]),([2],[2]),([3],[3]),([4,3],[3,4]),([3],[3]),([3],[3]),([7,3],[3,7]),([6,8,3,3],[3,6,8]),([5,9,9,3],[3,5,9]),([3,10],[3,10]),([11,10,0,1,2,3,4,5,6,7,8,9,10,11],[11])])
def dO.B1:List Nat:= [0,1,3,7,15,31,15,15,143,463,1023,2047,4095]
theorem dO.tab1:rtab .any (opsOf Tryz.f129 1)=dO.T1:=by kernel_rfl
theorem dO.aAz:kX dO.T1.2 dO.B1=true:=by kernel_rfl
theorem dO.calls(o9:Bool)(o5:ByteArray)(o6:ByteArray)(a1:ByteArray)(r:Bool)(w:World)(h:dO.f o9 o5 o6 a1=some r) :
 Calls Tryz.prog 129 #[.agg #[.bool o9,.string o5,.string o6],.string a1] w fun e w'=>e= .returned (.bool r)∧Below w.heap.size w w':=by
 have hu36:=Tryz.underlying36;have HB:=aA.mk (Below.refl w.heap.size w);have H:(if o9=true then(some false) else((iE.f a1 o6).bind fun y9=>((dN.f o5 y9).bind fun C9=>(some C9))))=some r:=h;clear h;go_enter Tryz.func129,Tryz.ntmps129
 by_cases c3:o9=true
 ·subst c3
  rw[if_pos rfl] at H;obtain rfl:=Option.some.inj H
  try go_wp2_with(first|((with_reducible refine aG (N:=2) rfl ?_);refine bx_ 2 36 #[.bool true,.string o5,.string o6] (h:= ?_);intro o7 hg w4 o8 hb;have l9:=aA.mk (o8);have y8:=pkG HB hg;have D5:=y8;replace HB:=pkB HB hb;clear hb o8 hg))
  replace l9:=aA.mk (aK l9.out);replace HB:=aA.mk (aJ HB.out)
  refine kF (n:=13) (S:=fun w'=>w'.cell? ⟨o7,0,none⟩=some (.bool true)∧w'.cell? ⟨o7,1,none⟩=some (.string o5)∧w'.cell? ⟨o7,2,none⟩=some (.string o6)) (ds:= []) #[false,false,false,false,false,false,false,false,false,false,false,false,false] (by kernel_rfl) rfl rfl (pcL l9) (fun hHeld=> ?_);refine jZ dO.tab1 dO.aAz (fun HT_ HW_=> ?_)
  generalize w4.drew=w5 at l9 HB hHeld ⊢;refine pr_ 0 5 (h:= ?_);refine tk_ 1 6 hHeld (hy:=hy3) (h:= ?_);refine pr_ 2 7 (h:= ?_);refine pr_ 3 8 (h:= ?_);refine oW (i:=4) (N:=some 9) (v:=undef) (a':= ?_) #[true,true,true,true,true,false,false,false,false,false,false,false,false] rfl rfl (nK HT_.out (by kernel_rfl)) (fun _ _ _ h=>h) (Or.inr ⟨by rfl,rfl⟩) ?_ ?_
  rotate_left
  ·simp only[Act.put,List.setIfInBounds_toArray,List.set_cons_zero,List.set_cons_succ,jM,jX]
   rfl
  refine oW (i:=5) (N:=some 10) (v:=undef) (a':= ?_) #[true,true,true,true,true,true,false,false,false,false,false,false,false] rfl rfl (nK HT_.out (by kernel_rfl)) (fun _ _ _ h=>h) (Or.inr ⟨by rfl,rfl⟩) ?_ ?_
  rotate_left
  ·simp only[Act.put,List.setIfInBounds_toArray,List.set_cons_zero,List.set_cons_succ,jM,jX]
   rfl
  refine oW (i:=6) (N:=some 11) (v:=undef) (a':= ?_) #[true,true,true,true,true,true,true,false,false,false,false,false,false] rfl rfl (nK HT_.out (by kernel_rfl)) (fun _ _ _ h=>h) (Or.inr ⟨by rfl,rfl⟩) ?_ ?_
  rotate_left
  ·simp only[Act.put,List.setIfInBounds_toArray,List.set_cons_zero,List.set_cons_succ,jM,jX]
   rfl
  refine oW (i:=7) (N:=some 12) (v:=undef) (a':= ?_) #[true,true,true,true,true,true,true,true,false,false,false,false,false] rfl rfl (nK HT_.out (by kernel_rfl)) (fun _ _ _ h=>h) (Or.inr ⟨by rfl,rfl⟩) ?_ ?_
  rotate_left
  ·simp only[Act.put,List.setIfInBounds_toArray,List.set_cons_zero,List.set_cons_succ,jM,jX]
   rfl
  refine oW (i:=8) (N:=some 13) (v:=undef) (a':= ?_) #[true,true,true,true,true,true,true,true,true,false,false,false,false] rfl rfl (nK HT_.out (by kernel_rfl)) (fun _ _ _ h=>h) (Or.inr ⟨by rfl,rfl⟩) ?_ ?_
  rotate_left
  ·simp only[Act.put,List.setIfInBounds_toArray,List.set_cons_zero,List.set_cons_succ,jM,jX]
   rfl
  refine oW (i:=9) (N:=some 14) (v:=undef) (a':= ?_) #[true,true,true,true,true,true,true,true,true,true,false,false,false] rfl rfl (nK HT_.out (by kernel_rfl)) (fun _ _ _ h=>h) (Or.inr ⟨by rfl,rfl⟩) ?_ ?_
  rotate_left
  ·simp only[Act.put,List.setIfInBounds_toArray,List.set_cons_zero,List.set_cons_succ,jM,jX]
   rfl
  refine oW (i:=10) (N:=some 15) (v:=undef) (a':= ?_) #[true,true,true,true,true,true,true,true,true,true,true,false,false] rfl rfl (nK HT_.out (by kernel_rfl)) (fun _ _ _ h=>h) (Or.inr ⟨by rfl,rfl⟩) ?_ ?_
  rotate_left
  ·simp only[Act.put,List.setIfInBounds_toArray,List.set_cons_zero,List.set_cons_succ,jM,jX]
   rfl
  refine pr_ 11 16 (h:= ?_);refine pr_ 12 4 (h:= ?_);refine kY (lK HT_.out (by kernel_rfl)) ?_
  try go_wp2
  go_ret
  exact pkE HB
 ·replace c3:=Bool.eq_false_iff.mpr c3
  subst c3;rw[if_neg (show ¬(false=true) by decide)] at H;obtain⟨y9,A6,H⟩:=bi H;try dsimp only at H
  obtain⟨C9,A7,H⟩:=bi H;try dsimp only at H
  obtain rfl:=Option.some.inj H
  try go_wp2_with(first|((with_reducible refine aG (N:=2) rfl ?_);refine bx_ 2 36 #[.bool false,.string o5,.string o6] (h:= ?_);intro o7 hg w8 o8 hb;have l9:=aA.mk (o8);have y8:=pkG HB hg;have D5:=y8;replace HB:=pkB HB hb;clear hb o8 hg))
  replace l9:=aA.mk (aK l9.out);replace HB:=aA.mk (aJ HB.out)
  refine kF (n:=13) (S:=fun w'=>w'.cell? ⟨o7,0,none⟩=some (.bool false)∧w'.cell? ⟨o7,1,none⟩=some (.string o5)∧w'.cell? ⟨o7,2,none⟩=some (.string o6)) (ds:= []) #[false,false,false,false,false,false,false,false,false,false,false,false,false] (by kernel_rfl) rfl rfl (pcL l9) (fun hHeld=> ?_);refine jZ dO.tab1 dO.aAz (fun HT_ HW_=> ?_)
  generalize w8.drew=w9 at l9 HB hHeld ⊢;refine pr_ 0 5 (h:= ?_);refine tk_ 1 6 hHeld (hy:=hy3) (h:= ?_);refine pr_ 2 7 (h:= ?_);refine pr_ 3 8 (h:= ?_);refine pr_ 4 9 (h:= ?_);refine pr_ 6 11 (h:= ?_);refine pr_ 7 12 (h:= ?_);refine tk_ 5 10 hHeld (hy:=hy3) (h:= ?_);refine tk_ 8 13 hHeld (hy:=hy3) (h:= ?_);refine on_ 9 14 (h:=fun K hK=> ?_);refine gR Tryz.func84 (iE.calls (w:=_) (h:=A6.out)) (h:= ?_);intro D6 hb;replace l9:=pkK l9 hb;replace HB:=pkB HB hb
  clear hb;refine hK.out _ _ (pcL l9) (fun hHeld=> ?_);clear hK K;refine nm_ (h:= ?_);refine on_ 10 15 (h:=fun K hK=> ?_);refine gR Tryz.func180 (dN.calls (w:=_) (h:=A7.out)) (h:= ?_);intro D7 hb;replace l9:=pkK l9 hb;replace HB:=pkB HB hb
  clear hb;refine hK.out _ _ (pcL l9) (fun hHeld=> ?_);clear hK K;refine nm_ (h:= ?_);refine pr_ 11 16 (h:= ?_);refine pr_ 12 4 (h:= ?_);refine kY (lK HT_.out (by kernel_rfl)) ?_
  try go_wp2
  go_ret
  exact pkE HB
def qB.f(a0_0:Bool)(a0_1:ByteArray)(a0_2:ByteArray)(a1:ByteArray):Option (Bool×Int):=(dE.f a0_0 a0_1 a0_2).bind fun t133=>(if t133=0 then((kM.f a1).bind fun t134=>(if t134=0 then((dO.f a0_0 a0_1 a0_2 a1).bind fun t135=>(some (t135,0))) else(some (false,t134)))) else(some (false,t133)))
theorem qB.calls(o5:Bool)(o6:ByteArray)(o7:ByteArray)(a1:ByteArray)(r1:Bool)(r2:Int)(w:World)(h:qB.f o5 o6 o7 a1=some (r1,r2)) :
 Calls Tryz.prog 61 #[.agg #[.bool o5,.string o6,.string o7],.string a1] w fun e w'=>e= .returned (.tuple #[.bool r1,.int .i64 r2])∧Below w.heap.size w w':=by
 have hu36:=Tryz.underlying36;have HB:=aA.mk (Below.refl w.heap.size w);have H:((dE.f o5 o6 o7).bind fun o9=>(if o9=0 then((kM.f a1).bind fun o8=>(if o8=0 then((dO.f o5 o6 o7 a1).bind fun y8=>(some (y8,0))) else(some (false,o8)))) else(some (false,o9))))=some (r1,r2):=h;clear h;obtain⟨o9,A3,H⟩:=bi H;try dsimp only at H
 go_enter Tryz.func61,Tryz.ntmps61
 refine byC (P:=o9=0) (fun c4=> ?a2) (fun c4=> ?b2)
 case' a2=>
  rw[if_pos c4] at H;obtain⟨C9,D5⟩:=bT c4;clear c4;obtain⟨o8,A5,H⟩:=bi H;try dsimp only at H
  refine byC (P:=o8=0) (fun c6=> ?a3) (fun c6=> ?b3)
  case' a3=>
   rw[if_pos c6] at H;obtain⟨D6,D7⟩:=bT c6;clear c6;obtain⟨y8,A7,H⟩:=bi H;try dsimp only at H
   simp only[Option.some.injEq,Prod.mk.injEq] at H;obtain⟨rfl,rfl⟩:=H
  case' b3=>
   rw[if_neg c6] at H;obtain⟨D6,D7⟩:=bF c6;simp only[Option.some.injEq,Prod.mk.injEq] at H;obtain⟨rfl,rfl⟩:=H
 case' b2=>
  rw[if_neg c4] at H;obtain⟨C9,D5⟩:=bF c4;simp only[Option.some.injEq,Prod.mk.injEq] at H;obtain⟨rfl,rfl⟩:=H
 all_goals
  go_wp2_with(first|((with_reducible refine aG (N:=2) rfl ?_);refine bx_ 2 36 #[.bool o5,.string o6,.string o7] (h:= ?_);intro D9 hg w8 y9 hb;have l9:=aA.mk (y9);have D8:=pkG HB hg;have E8:=D8;replace HB:=pkB HB hb;clear hb y9 hg;obtain⟨⟨F5,F6,F7⟩,F8,F9,G5⟩:=pk3 l9)|((with_reducible refine aC (f:=67) rfl ?_);refine gM 9 Tryz.func67 (dE.calls (w:=_) (h:=A3.out)) (h:= ?_);intro G6 hb;replace l9:=pkK l9 hb;replace HB:=pkB HB hb;try clear hb)|((with_reducible refine aC (f:=115) rfl ?_);refine gl_ 14 Tryz.func115 #[.string a1] (h:= ?_);(with_reducible refine(kM.calls a1 o8 _ A5.out).mono ?_);rintro e w' ⟨rfl,⟨nd,rfl⟩⟩;refine⟨_,rfl,?_⟩;obtain⟨⟨G7,G8,G9⟩,H5,H6,H7⟩:=pk3 l9)|((with_reducible refine aC (f:=129) rfl ?_);refine gM 20 Tryz.func129 (dO.calls (w:=_) (h:=A7.out)) (h:= ?_);intro H8 hb;replace l9:=pkK l9 hb;replace HB:=pkB HB hb;try clear hb))
  go_ret2
  exact pkE HB
end Go.Proofs.YtignanmmgaldeaaGreatDoor.PRefQ
end
section
set_option linter.unusedVariables false
set_option linter.unusedSimpArgs false
set_option maxHeartbeats 8000000
set_option maxRecDepth 100000
namespace Go.Proofs.YtignanmmgaldeaaGreatDoor.PRefQ
open Go.RowKit Go.Proofs.YtignanmmgaldeaaGreatDoorW.PrintWords Go.Proofs.YtignanmmgaldeaaGreatDoorW.PrintLast Go.Proofs.YtignanmmgaldeaaGreatDoorW.PrintMore
attribute [local go_sem] dQ dR eH eP
def iC.f(k:Nat)(a0_0:Bool)(a0_1:ByteArray)(a0_2:ByteArray):Option (Bool×ByteArray×ByteArray):=if a0_0=true then(some (a0_0,a0_1,a0_2)) else((jF.f a0_2).bind fun t201=>((bJ.f k a0_1 t201).bind fun bt202=>(some (bt202.1,bt202.2.1,bt202.2.2))))
theorem iC.calls(k:Nat)(C9:Bool)(y8:ByteArray)(o9:ByteArray)(r1:Bool)(r2:ByteArray)(r3:ByteArray)(w:World)(h:iC.f k C9 y8 o9=some (r1,r2,r3)) :
 Calls Tryz.prog 117 #[.agg #[.bool C9,.string y8,.string o9]] w fun e w'=>e= .returned (.agg #[.bool r1,.string r2,.string r3])∧Below w.heap.size w w':=by
 have hu36:=Tryz.underlying36;have HB:=aA.mk (Below.refl w.heap.size w);have H:(if C9=true then(some (C9,y8,o9)) else((jF.f o9).bind fun D6=>((bJ.f k y8 D6).bind fun D7=>(some (D7.1,D7.2.1,D7.2.2)))))=some (r1,r2,r3):=h;clear h;go_enter Tryz.func117,Tryz.ntmps117
 by_cases c2:C9=true
 ·subst c2
  rw[if_pos rfl] at H;simp only[Option.some.injEq,Prod.mk.injEq] at H;obtain⟨rfl,rfl,rfl⟩:=H
  go_wp2_with(first|((with_reducible refine aG (N:=1) rfl ?_);refine bx_ 1 36 #[.bool true,.string y8,.string o9] (h:= ?_);intro D5 hg w3 o8 hb;have l9:=aA.mk (o8);have D8:=pkG HB hg;have F5:=D8;replace HB:=pkB HB hb;clear hb o8 hg)|((with_reducible refine aG (N:=2) rfl ?_);refine bx_ 2 36 #[.bool false,.string (⟨#[]⟩:ByteArray),.string (⟨#[]⟩:ByteArray)] (h:= ?_);intro o5 hg w4 o8 hb;have o6:=aA.mk (o8);have D9:=pkG HB hg;have F6:=D9;obtain⟨o7,y9,_,_⟩:=pkQ l9 hg;replace l9:=pkK l9 hb;replace HB:=pkB HB hb;clear hb o8 hg;have G6:=o7.out;have G7:=y9.out;obtain⟨⟨G8,G9,H5⟩,H6,H7,H8⟩:=pk3 l9;obtain⟨⟨H9,I4,I5⟩,I7,I8,I9⟩:=pk3 o6))
  refine bodyPost_ret (results_cell_row rfl _ _ o5 36 #[.bool true,.string y8,.string o9] (0,0) _ rfl (pkS3 o6) Tryz.underlying36 rfl (by kernel_rfl)) rfl ?_;exact pkE HB
 ·replace c2:=Bool.eq_false_iff.mpr c2
  subst c2;rw[if_neg (show ¬(false=true) by decide)] at H;obtain⟨D6,A8,H⟩:=bi H;try dsimp only at H
  obtain⟨⟨F7,F8,F9⟩,A9,H⟩:=bi H;try dsimp only at H
  simp only[Option.some.injEq,Prod.mk.injEq] at H;obtain⟨rfl,rfl,rfl⟩:=H
  try go_wp2_with(first|((with_reducible refine aG (N:=1) rfl ?_);refine bx_ 1 36 #[.bool false,.string y8,.string o9] (h:= ?_);intro D5 hg J3 o8 hb;have l9:=aA.mk (o8);have D8:=pkG HB hg;have F5:=D8;replace HB:=pkB HB hb;clear hb o8 hg)|((with_reducible refine aG (N:=2) rfl ?_);refine bx_ 2 36 #[.bool false,.string (⟨#[]⟩:ByteArray),.string (⟨#[]⟩:ByteArray)] (h:= ?_);intro o5 hg G5 o8 hb;have o6:=aA.mk (o8);have D9:=pkG HB hg;have F6:=D9;obtain⟨o7,y9,_,_⟩:=pkQ l9 hg;replace l9:=pkK l9 hb;replace HB:=pkB HB hb;clear hb o8 hg;have J4:=o7.out;have J5:=y9.out;obtain⟨⟨J6,J7,J8⟩,J9,L6,L8⟩:=pk3 l9))
  replace l9:=aA.mk (aK l9.out);replace o6:=aA.mk (aK o6.out);replace HB:=aA.mk (aJ HB.out)
  refine kF (n:=7) (S:=fun w'=>w'.cell? ⟨D5,0,none⟩=some (.bool false)∧w'.cell? ⟨D5,1,none⟩=some (.string y8)∧w'.cell? ⟨D5,2,none⟩=some (.string o9)) (ds:= []) #[false,false,false,false,false,false,false] (by kernel_rfl) rfl rfl (pcL l9) (fun hHeld=> ?_);generalize G5.drew=L9 at l9 o6 HB hHeld ⊢;refine pr_ 0 6 (h:= ?_);refine pr_ 2 8 (h:= ?_);refine tk_ 1 7 hHeld (hy:=hy3) (h:= ?_);refine tk_ 3 9 hHeld (hy:=hy3) (h:= ?_);refine on_ 4 10 (h:=fun K hK=> ?_);refine g1_ Tryz.func163 #[.string o9] (h:= ?_);with_reducible refine(jF.calls o9 D6 _ A8.out).mono ?_
  rintro e w' ⟨rfl,⟨nd,rfl⟩⟩;refine⟨_,rfl,?_⟩;refine hK.out _ _ (pcL l9) (fun hHeld=> ?_);clear hK K;refine nm_ (h:= ?_);refine on_ 5 11 (h:=fun K hK=> ?_);refine gR Tryz.func127 (bJ.calls (w:=_) (h:=A9.out)) (h:= ?_);intro E8 hb;replace l9:=pkK l9 hb;replace o6:=pkK o6 hb;replace HB:=pkB HB hb
  clear hb;refine hK.out _ _ (pcL l9) (fun hHeld=> ?_);clear hK K;refine nm_ (h:= ?_);refine one_ (i:=6) (N:=none) #[true,true,true,true,true,true,true] rfl rfl (by kernel_rfl) aG0 (fun K hK=> ?_);have N7:E8.cell? ⟨o5,0,none⟩=some (.bool false):=(fF o6.out 0).trans rfl;have N8:=eG o6.out 0;have N9:=o7.out;have O0:=y9.out;have O1:E8.cell? ⟨o5,1,none⟩=some (.string (⟨#[]⟩:ByteArray)):=(fF o6.out 1).trans rfl;have O3:=eG o6.out 1;have O4:=o7.out;have O5:=y9.out;have O6:E8.cell? ⟨o5,2,none⟩=some (.string (⟨#[]⟩:ByteArray)):=(fF o6.out 2).trans rfl;have O7:=eG o6.out 2;have O8:=o7.out;have O9:=y9.out;refine uQ (w1:= ?_) (by rfl) rfl ?_ ?_
  rotate_left
  ·go_simp
   rfl
  refine hK.out _ _ ⟨((aG2 (p:=⟨o5,_,none⟩) o7.out _).trans (((aG2 (p:=⟨o5,_,none⟩) o7.out _).trans (((aG2 (p:=⟨o5,_,none⟩) o7.out _).trans (hHeld.1)))))),((aG2 (p:=⟨o5,_,none⟩) o7.out _).trans (((aG2 (p:=⟨o5,_,none⟩) o7.out _).trans (((aG2 (p:=⟨o5,_,none⟩) o7.out _).trans (hHeld.2.1)))))),((aG2 (p:=⟨o5,_,none⟩) o7.out _).trans (((aG2 (p:=⟨o5,_,none⟩) o7.out _).trans (((aG2 (p:=⟨o5,_,none⟩) o7.out _).trans (hHeld.2.2))))))⟩ (fun hHeld=> ?_);clear hK K;refine kY (by kernel_rfl) ?_
  try go_wp2
  refine bodyPost_ret (results_cell_row rfl _ _ o5 36 #[.bool F7,.string F8,.string F9] (0,0) _ rfl (pkS3 o6) Tryz.underlying36 rfl (by kernel_rfl)) rfl ?_;exact pkE HB
end Go.Proofs.YtignanmmgaldeaaGreatDoor.PRefQ
end
section
set_option linter.unusedVariables false
set_option linter.unusedSimpArgs false
set_option maxHeartbeats 8000000
set_option maxRecDepth 100000
namespace Go.Proofs.YtignanmmgaldeaaGreatDoor.PRefQ
open Go.RowKit Go.Proofs.YtignanmmgaldeaaGreatDoorW.PrintWords Go.Proofs.YtignanmmgaldeaaGreatDoorW.PrintLast Go.Proofs.YtignanmmgaldeaaGreatDoorW.PrintMore
attribute [local go_sem] dQ dR eH eP
def gK.f(a0_0:Bool)(a0_1:ByteArray)(a0_2:ByteArray)(a1:ByteArray):Option (ByteArray×Bool):=if a0_1.toList=([48]:List UInt8) then((jB.f a0_2 a1).bind fun t322=>(if t322=true then(some ((⟨#[]⟩:ByteArray),false)) else(some (a0_2,true)))) else((iE.f a0_2 a1).bind fun t323=>((lT.f t323 a0_1).bind fun t324=>((oO.f a1 t324).bind fun t325=>(some (t325,true)))))
def gK.T5:Bool×List (List Nat×List Nat):=(true,[([],[]),([],[]),([1],[1]),([],[]),([2,3],[2,3]),([],[]),([5],[5]),([4,6,4],[4,6]),([0,7,7],[0,7]),([8,8,0,1,2,3,4,5,6,7,8],[8]),([9,0,1,2,3,4,5,6,7,8,9],[])])
def gK.B5:List Nat:= [0,0,2,0,14,0,32,126,255,511,1023]
theorem gK.tab5:rtab .any (opsOf Tryz.f135 5)=gK.T5:=by kernel_rfl
theorem gK.bits5:kX gK.T5.2 gK.B5=true:=by kernel_rfl
theorem gK.calls(o7:Bool)(o5:ByteArray)(o6:ByteArray)(a1:ByteArray)(r1:ByteArray)(r2:Bool)(w:World)(h:gK.f o7 o5 o6 a1=some (r1,r2)) :
 Calls Tryz.prog 135 #[.agg #[.bool o7,.string o5,.string o6],.string a1] w fun e w'=>e= .returned (.tuple #[.string r1,.bool r2])∧Below w.heap.size w w':=by
 have hu36:=Tryz.underlying36;have HB:=aA.mk (Below.refl w.heap.size w);have H:(if o5.toList=([48]:List UInt8) then((jB.f o6 a1).bind fun y8=>(if y8=true then(some ((⟨#[]⟩:ByteArray),false)) else(some (o6,true)))) else((iE.f o6 a1).bind fun C9=>((lT.f C9 o5).bind fun D5=>((oO.f a1 D5).bind fun D6=>(some (D6,true))))))=some (r1,r2):=h;clear h;go_enter Tryz.func135,Tryz.ntmps135
 by_cases c3:o5.toList=([48]:List UInt8)
 ·rw[if_pos c3] at H
  obtain⟨D7,D8⟩:=bT c3;clear c3;obtain⟨y8,A4,H⟩:=bi H;try dsimp only at H
  refine byC (P:=y8=true) (fun c5=> ?a9) (fun c5=> ?b9)
  case' a9=>
   subst c5;rw[if_pos rfl] at H;simp only[Option.some.injEq,Prod.mk.injEq] at H;obtain⟨rfl,rfl⟩:=H
  case' b9=>
   replace c5:=Bool.eq_false_iff.mpr c5;subst c5;rw[if_neg (show ¬(false=true) by decide)] at H;simp only[Option.some.injEq,Prod.mk.injEq] at H;obtain⟨rfl,rfl⟩:=H
  all_goals
   go_wp2_with(first|((with_reducible refine aG (N:=2) rfl ?_);refine bx_ 2 36 #[.bool o7,.string o5,.string o6] (h:= ?_);intro o9 hg w6 o8 hb;have l9:=aA.mk (o8);have y9:=pkG HB hg;have D9:=y9;replace HB:=pkB HB hb;clear hb o8 hg;obtain⟨⟨F8,F9,G5⟩,G6,G7,G8⟩:=pk3 l9)|((with_reducible refine aC (f:=143) rfl ?_);refine gM 12 Tryz.func143 (jB.calls (w:=_) (h:=A4.out)) (h:= ?_);intro w8 hb;replace l9:=pkK l9 hb;replace HB:=pkB HB hb;try clear hb;obtain⟨⟨G9,H5,H6⟩,H7,H8,H9⟩:=pk3 l9))
   go_ret2
   exact pkE HB
 ·rw[if_neg c3] at H
  obtain⟨D7,D8⟩:=bF c3;obtain⟨C9,E8,H⟩:=bi H;try dsimp only at H
  obtain⟨D5,F5,H⟩:=bi H;try dsimp only at H
  obtain⟨D6,F6,H⟩:=bi H;try dsimp only at H
  simp only[Option.some.injEq,Prod.mk.injEq] at H;obtain⟨rfl,rfl⟩:=H
  try go_wp2_with(first|((with_reducible refine aG (N:=2) rfl ?_);refine bx_ 2 36 #[.bool o7,.string o5,.string o6] (h:= ?_);intro o9 hg F7 o8 hb;have l9:=aA.mk (o8);have y9:=pkG HB hg;have D9:=y9;replace HB:=pkB HB hb;clear hb o8 hg;obtain⟨⟨I4,I5,I7⟩,I8,I9,J3⟩:=pk3 l9))
  replace l9:=aA.mk (aK l9.out);replace HB:=aA.mk (aJ HB.out)
  refine kF (n:=11) (S:=fun w'=>w'.cell? ⟨o9,0,none⟩=some (.bool o7)∧w'.cell? ⟨o9,1,none⟩=some (.string o5)∧w'.cell? ⟨o9,2,none⟩=some (.string o6)) (ds:= []) #[false,false,false,false,false,false,false,false,false,false,false] (by kernel_rfl) rfl rfl (pcL l9) (fun hHeld=> ?_);refine jZ gK.tab5 gK.bits5 (fun HT_ HW_=> ?_)
  generalize F7.drew=J4 at l9 HB hHeld ⊢;refine pr_ 0 15 (h:= ?_);refine pr_ 1 16 (h:= ?_);refine pr_ 3 18 (h:= ?_);refine pr_ 5 20 (h:= ?_);refine tk_ 2 17 hHeld (hy:=hy3) (h:= ?_);refine tk_ 6 21 hHeld (hy:=hy3) (h:= ?_);refine on_ 4 19 (h:=fun K hK=> ?_);refine gR Tryz.func84 (iE.calls (w:=_) (h:=E8.out)) (h:= ?_);intro J5 hb;replace l9:=pkK l9 hb;replace HB:=pkB HB hb
  clear hb;refine hK.out _ _ (pcL l9) (fun hHeld=> ?_);clear hK K;refine nm_ (h:= ?_);refine on_ 7 22 (h:=fun K hK=> ?_);refine gR Tryz.func78 (lT.calls (w:=_) (h:=F5.out)) (h:= ?_);intro J6 hb;replace l9:=pkK l9 hb;replace HB:=pkB HB hb
  clear hb;refine hK.out _ _ (pcL l9) (fun hHeld=> ?_);clear hK K;refine nm_ (h:= ?_);refine on_ 8 23 (h:=fun K hK=> ?_);refine gR Tryz.func82 (oO.calls (w:=_) (h:=F6.out)) (h:= ?_);intro J7 hb;replace l9:=pkK l9 hb;replace HB:=pkB HB hb
  clear hb;refine hK.out _ _ (pcL l9) (fun hHeld=> ?_);clear hK K;refine nm_ (h:= ?_);refine pr_ 9 4 (h:= ?_);refine pr_ 10 5 (h:= ?_);refine kY (lK HT_.out (by kernel_rfl)) ?_
  try go_wp2
  go_ret2
  exact pkE HB
def kH.f(a0:ByteArray)(a1:Bool):Option (ByteArray×Int):=if a1=true then((iW.f a0).bind fun t326=>(if t326>4096 then(some ((⟨#[]⟩:ByteArray),10)) else(some (a0,0)))) else(some ((⟨#[]⟩:ByteArray),6))
theorem kH.calls(a0:ByteArray)(a1:Bool)(r1:ByteArray)(r2:Int)(w:World)(h:kH.f a0 a1=some (r1,r2)) :
 Calls Tryz.prog 136 #[.string a0,.bool a1] w fun e w'=>e= .returned (.tuple #[.string r1,.int .i64 r2])∧eQ w w':=by
 have H:(if a1=true then((iW.f a0).bind fun l9=>(if l9>4096 then(some ((⟨#[]⟩:ByteArray),10)) else(some (a0,0)))) else(some ((⟨#[]⟩:ByteArray),6)))=some (r1,r2):=h;clear h;go_enter Tryz.func136,Tryz.ntmps136
 refine byC (P:=a1=true) (fun c3=> ?a10) (fun c3=> ?b10)
 case' a10=>
  subst c3;rw[if_pos rfl] at H;obtain⟨l9,A4,H⟩:=bi H;try dsimp only at H
  refine byC (P:=l9>4096) (fun c5=> ?a11) (fun c5=> ?b11)
  case' a11=>
   rw[if_pos c5] at H;have o5:=decide_eq_true c5;clear c5;simp only[Option.some.injEq,Prod.mk.injEq] at H;obtain⟨rfl,rfl⟩:=H
  case' b11=>
   rw[if_neg c5] at H;have o5:=decide_eq_false c5;clear c5;simp only[Option.some.injEq,Prod.mk.injEq] at H;obtain⟨rfl,rfl⟩:=H
 case' b10=>
  replace c3:=Bool.eq_false_iff.mpr c3;subst c3;rw[if_neg (show ¬(false=true) by decide)] at H;simp only[Option.some.injEq,Prod.mk.injEq] at H;obtain⟨rfl,rfl⟩:=H
 all_goals
  go_wp2_with(first|((with_reducible refine aC (f:=149) rfl ?_);refine gl_ 9 Tryz.func149 #[.string a0] (h:= ?_);(with_reducible refine(iW.calls a0 l9 _ A4.out).mono ?_);rintro e w' ⟨rfl,⟨nd,rfl⟩⟩;refine⟨_,rfl,?_⟩))
  go_ret2
  exact dr_
def qC.f(a0_0:Bool)(a0_1:ByteArray)(a0_2:ByteArray)(a1:ByteArray):Option (ByteArray×Int):=(dE.f a0_0 a0_1 a0_2).bind fun t328=>(if t328=0 then((kM.f a1).bind fun t329=>(if t329=0 then(if a0_0=true then(some ((⟨#[]⟩:ByteArray),16)) else((gK.f a0_0 a0_1 a0_2 a1).bind fun bt330=>((kH.f bt330.1 bt330.2).bind fun bt332=>(some (bt332.1,bt332.2))))) else(some ((⟨#[]⟩:ByteArray),t329)))) else(some ((⟨#[]⟩:ByteArray),t328)))
theorem qC.calls(o5:Bool)(o6:ByteArray)(o7:ByteArray)(a1:ByteArray)(r1:ByteArray)(r2:Int)(w:World)(h:qC.f o5 o6 o7 a1=some (r1,r2)) :
 Calls Tryz.prog 63 #[.agg #[.bool o5,.string o6,.string o7],.string a1] w fun e w'=>e= .returned (.tuple #[.string r1,.int .i64 r2])∧Below w.heap.size w w':=by
 have hu36:=Tryz.underlying36;have HB:=aA.mk (Below.refl w.heap.size w);have H:((dE.f o5 o6 o7).bind fun y8=>(if y8=0 then((kM.f a1).bind fun o8=>(if o8=0 then(if o5=true then(some ((⟨#[]⟩:ByteArray),16)) else((gK.f o5 o6 o7 a1).bind fun C9=>((kH.f C9.1 C9.2).bind fun D5=>(some (D5.1,D5.2))))) else(some ((⟨#[]⟩:ByteArray),o8)))) else(some ((⟨#[]⟩:ByteArray),y8))))=some (r1,r2):=h;clear h;obtain⟨y8,A3,H⟩:=bi H;try dsimp only at H
 go_enter Tryz.func63,Tryz.ntmps63
 refine byC (P:=y8=0) (fun c4=> ?a12) (fun c4=> ?b12)
 case' a12=>
  rw[if_pos c4] at H;obtain⟨D8,D9⟩:=bT c4;clear c4;obtain⟨o8,A5,H⟩:=bi H;try dsimp only at H
  refine byC (P:=o8=0) (fun c6=> ?a13) (fun c6=> ?b13)
  case' a13=>
   rw[if_pos c6] at H;obtain⟨E8,F5⟩:=bT c6;clear c6;refine byC (P:=o5=true) (fun c7=> ?a14) (fun c7=> ?b14)
   case' a14=>
    subst c7;rw[if_pos rfl] at H;simp only[Option.some.injEq,Prod.mk.injEq] at H;obtain⟨rfl,rfl⟩:=H
   case' b14=>
    replace c7:=Bool.eq_false_iff.mpr c7;subst c7;rw[if_neg (show ¬(false=true) by decide)] at H;obtain⟨⟨D6,D7⟩,F6,H⟩:=bi H;try dsimp only at H
    obtain⟨⟨F7,F8⟩,F9,H⟩:=bi H;try dsimp only at H
    simp only[Option.some.injEq,Prod.mk.injEq] at H;obtain⟨rfl,rfl⟩:=H
  case' b13=>
   rw[if_neg c6] at H;obtain⟨E8,F5⟩:=bF c6;simp only[Option.some.injEq,Prod.mk.injEq] at H;obtain⟨rfl,rfl⟩:=H
 case' b12=>
  rw[if_neg c4] at H;obtain⟨D8,D9⟩:=bF c4;simp only[Option.some.injEq,Prod.mk.injEq] at H;obtain⟨rfl,rfl⟩:=H
 all_goals
  go_wp2_with(first|((with_reducible refine aG (N:=2) rfl ?_);refine bx_ 2 36 #[.bool _,.string o6,.string o7] (h:= ?_);intro G5 hg w8 o9 hb;have l9:=aA.mk (o9);have y9:=pkG HB hg;have G6:=y9;replace HB:=pkB HB hb;clear hb o9 hg;obtain⟨⟨G7,G8,G9⟩,H5,H6,H7⟩:=pk3 l9)|((with_reducible refine aC (f:=67) rfl ?_);refine gM 11 Tryz.func67 (dE.calls (w:=_) (h:=A3.out)) (h:= ?_);intro H8 hb;replace l9:=pkK l9 hb;replace HB:=pkB HB hb;try clear hb)|((with_reducible refine aC (f:=115) rfl ?_);refine gl_ 16 Tryz.func115 #[.string a1] (h:= ?_);(with_reducible refine(kM.calls a1 o8 _ A5.out).mono ?_);rintro e w' ⟨rfl,⟨nd,rfl⟩⟩;refine⟨_,rfl,?_⟩;obtain⟨⟨H9,I4,I5⟩,I7,I8,I9⟩:=pk3 l9)|((with_reducible refine aC (f:=135) rfl ?_);refine gM 25 Tryz.func135 (gK.calls (w:=_) (h:=F6.out)) (h:= ?_);intro J3 hb;replace l9:=pkK l9 hb;replace HB:=pkB HB hb;try clear hb)|((with_reducible refine aC (f:=136) rfl ?_);refine gl_ 30 Tryz.func136 #[.string D6,.bool D7] (h:= ?_);(with_reducible refine(kH.calls D6 D7 F7 F8 _ F9.out).mono ?_);rintro e w' ⟨rfl,⟨nd,rfl⟩⟩;refine⟨_,rfl,?_⟩)|((with_reducible refine aG (N:=2) rfl ?_);refine bx_ 2 36 #[.bool o5,.string o6,.string o7] (h:= ?_);intro G5 hg J4 o9 hb;have l9:=aA.mk (o9);have y9:=pkG HB hg;have G6:=y9;replace HB:=pkB HB hb;clear hb o9 hg;obtain⟨⟨J5,J6,J7⟩,J8,J9,L6⟩:=pk3 l9)|((with_reducible refine aC (f:=67) rfl ?_);refine gM 11 Tryz.func67 (dE.calls (w:=_) (h:=A3.out)) (h:= ?_);intro L8 hb;replace l9:=pkK l9 hb;replace HB:=pkB HB hb;try clear hb))
  go_ret2
  exact pkE HB
def nD.f(k:Nat)(a0_0:Bool)(a0_1:ByteArray)(a0_2:ByteArray)(a1:ByteArray):Option (ByteArray×Bool):=(iC.f k a0_0 a0_1 a0_2).bind fun bt335=>((jF.f a1).bind fun t338=>((gK.f bt335.1 bt335.2.1 bt335.2.2 t338).bind fun bt339=>(if bt339.2=true then((jF.f bt339.1).bind fun t341=>(some (t341,true))) else(some ((⟨#[]⟩:ByteArray),false)))))
theorem nD.calls(k:Nat)(o5:Bool)(o6:ByteArray)(o7:ByteArray)(a1:ByteArray)(r1:ByteArray)(r2:Bool)(w:World)(h:nD.f k o5 o6 o7 a1=some (r1,r2)) :
 Calls Tryz.prog 139 #[.agg #[.bool o5,.string o6,.string o7],.string a1] w fun e w'=>e= .returned (.tuple #[.string r1,.bool r2])∧Below w.heap.size w w':=by
 have hu36:=Tryz.underlying36;have HB:=aA.mk (Below.refl w.heap.size w);have H:((iC.f k o5 o6 o7).bind fun o9=>((jF.f a1).bind fun o8=>((gK.f o9.1 o9.2.1 o9.2.2 o8).bind fun y9=>(if y9.2=true then((jF.f y9.1).bind fun y8=>(some (y8,true))) else(some ((⟨#[]⟩:ByteArray),false))))))=some (r1,r2):=h;clear h;obtain⟨⟨D8,D9,E8⟩,A3,H⟩:=bi H;try dsimp only at H
 obtain⟨o8,A4,H⟩:=bi H;try dsimp only at H
 obtain⟨⟨C9,D6⟩,A5,H⟩:=bi H;try dsimp only at H
 go_enter Tryz.func139,Tryz.ntmps139
 refine byC (P:=D6=true) (fun c6=> ?a15) (fun c6=> ?b15)
 case' a15=>
  subst c6;rw[if_pos rfl] at H;obtain⟨y8,A7,H⟩:=bi H;try dsimp only at H
  simp only[Option.some.injEq,Prod.mk.injEq] at H;obtain⟨rfl,rfl⟩:=H
 case' b15=>
  replace c6:=Bool.eq_false_iff.mpr c6;subst c6;rw[if_neg (show ¬(false=true) by decide)] at H;simp only[Option.some.injEq,Prod.mk.injEq] at H;obtain⟨rfl,rfl⟩:=H
 all_goals
  go_wp2_with(first|((with_reducible refine aG (N:=2) rfl ?_);refine bx_ 2 36 #[.bool o5,.string o6,.string o7] (h:= ?_);intro F5 hg w8 D5 hb;have l9:=aA.mk (D5);have D7:=pkG HB hg;have F6:=D7;replace HB:=pkB HB hb;clear hb D5 hg;obtain⟨⟨F7,F8,F9⟩,G5,G6,G7⟩:=pk3 l9)|((with_reducible refine aC (f:=117) rfl ?_);refine gM 10 Tryz.func117 (iC.calls (w:=_) (h:=A3.out)) (h:= ?_);intro G8 hb;replace l9:=pkK l9 hb;replace HB:=pkB HB hb;try clear hb)|(have q_:=A4;(with_reducible refine aC (f:=163) rfl ?_);refine gl_ 12 Tryz.func163 #[.string a1] (h:= ?_);(with_reducible refine(jF.calls a1 o8 _ A4.out).mono ?_);rintro e w' ⟨rfl,⟨nd,rfl⟩⟩;refine⟨_,rfl,?_⟩;clear A4 q_)|((with_reducible refine aC (f:=135) rfl ?_);refine gM 13 Tryz.func135 (gK.calls (w:=_) (h:=A5.out)) (h:= ?_);intro G9 hb;replace l9:=pkK l9 hb;replace HB:=pkB HB hb;try clear hb)|((with_reducible refine aC (f:=163) rfl ?_);refine gl_ 19 Tryz.func163 #[.string C9] (h:= ?_);(with_reducible refine(jF.calls C9 y8 _ A7.out).mono ?_);rintro e w' ⟨rfl,⟨nd,rfl⟩⟩;refine⟨_,rfl,?_⟩)|((with_reducible refine aC (f:=163) rfl ?_);refine gl_ 12 Tryz.func163 #[.string a1] (h:= ?_);(with_reducible refine(jF.calls a1 o8 _ A4.out).mono ?_);rintro e w' ⟨rfl,⟨nd,rfl⟩⟩;refine⟨_,rfl,?_⟩))
  go_ret2
  exact pkE HB
def oH.f(k:Nat)(a0_0:Bool)(a0_1:ByteArray)(a0_2:ByteArray)(a1:ByteArray):Option (ByteArray×Int):=(dE.f a0_0 a0_1 a0_2).bind fun t343=>(if t343=0 then((kM.f a1).bind fun t344=>(if t344=0 then(if a0_0=true then(some ((⟨#[]⟩:ByteArray),16)) else((nD.f k a0_0 a0_1 a0_2 a1).bind fun bt345=>((kH.f bt345.1 bt345.2).bind fun bt347=>(some (bt347.1,bt347.2))))) else(some ((⟨#[]⟩:ByteArray),t344)))) else(some ((⟨#[]⟩:ByteArray),t343)))
theorem oH.calls(k:Nat)(o5:Bool)(o6:ByteArray)(o7:ByteArray)(a1:ByteArray)(r1:ByteArray)(r2:Int)(w:World)(h:oH.f k o5 o6 o7 a1=some (r1,r2)) :
 Calls Tryz.prog 65 #[.agg #[.bool o5,.string o6,.string o7],.string a1] w fun e w'=>e= .returned (.tuple #[.string r1,.int .i64 r2])∧Below w.heap.size w w':=by
 have hu36:=Tryz.underlying36;have HB:=aA.mk (Below.refl w.heap.size w);have H:((dE.f o5 o6 o7).bind fun y8=>(if y8=0 then((kM.f a1).bind fun o8=>(if o8=0 then(if o5=true then(some ((⟨#[]⟩:ByteArray),16)) else((nD.f k o5 o6 o7 a1).bind fun C9=>((kH.f C9.1 C9.2).bind fun D5=>(some (D5.1,D5.2))))) else(some ((⟨#[]⟩:ByteArray),o8)))) else(some ((⟨#[]⟩:ByteArray),y8))))=some (r1,r2):=h;clear h;obtain⟨y8,A3,H⟩:=bi H;try dsimp only at H
 go_enter Tryz.func65,Tryz.ntmps65
 refine byC (P:=y8=0) (fun c4=> ?a16) (fun c4=> ?b16)
 case' a16=>
  rw[if_pos c4] at H;obtain⟨D8,D9⟩:=bT c4;clear c4;obtain⟨o8,A5,H⟩:=bi H;try dsimp only at H
  refine byC (P:=o8=0) (fun c6=> ?a17) (fun c6=> ?b17)
  case' a17=>
   rw[if_pos c6] at H;obtain⟨E8,F5⟩:=bT c6;clear c6;refine byC (P:=o5=true) (fun c7=> ?a18) (fun c7=> ?b18)
   case' a18=>
    subst c7;rw[if_pos rfl] at H;simp only[Option.some.injEq,Prod.mk.injEq] at H;obtain⟨rfl,rfl⟩:=H
   case' b18=>
    replace c7:=Bool.eq_false_iff.mpr c7;subst c7;rw[if_neg (show ¬(false=true) by decide)] at H;obtain⟨⟨D6,D7⟩,F6,H⟩:=bi H;try dsimp only at H
    obtain⟨⟨F7,F8⟩,F9,H⟩:=bi H;try dsimp only at H
    simp only[Option.some.injEq,Prod.mk.injEq] at H;obtain⟨rfl,rfl⟩:=H
  case' b17=>
   rw[if_neg c6] at H;obtain⟨E8,F5⟩:=bF c6;simp only[Option.some.injEq,Prod.mk.injEq] at H;obtain⟨rfl,rfl⟩:=H
 case' b16=>
  rw[if_neg c4] at H;obtain⟨D8,D9⟩:=bF c4;simp only[Option.some.injEq,Prod.mk.injEq] at H;obtain⟨rfl,rfl⟩:=H
 all_goals
  go_wp2_with(first|((with_reducible refine aG (N:=2) rfl ?_);refine bx_ 2 36 #[.bool _,.string o6,.string o7] (h:= ?_);intro G5 hg w8 o9 hb;have l9:=aA.mk (o9);have y9:=pkG HB hg;have G6:=y9;replace HB:=pkB HB hb;clear hb o9 hg;obtain⟨⟨G7,G8,G9⟩,H5,H6,H7⟩:=pk3 l9)|((with_reducible refine aC (f:=67) rfl ?_);refine gM 11 Tryz.func67 (dE.calls (w:=_) (h:=A3.out)) (h:= ?_);intro H8 hb;replace l9:=pkK l9 hb;replace HB:=pkB HB hb;try clear hb)|((with_reducible refine aC (f:=115) rfl ?_);refine gl_ 16 Tryz.func115 #[.string a1] (h:= ?_);(with_reducible refine(kM.calls a1 o8 _ A5.out).mono ?_);rintro e w' ⟨rfl,⟨nd,rfl⟩⟩;refine⟨_,rfl,?_⟩;obtain⟨⟨H9,I4,I5⟩,I7,I8,I9⟩:=pk3 l9)|((with_reducible refine aC (f:=139) rfl ?_);refine gM 25 Tryz.func139 (nD.calls (w:=_) (h:=F6.out)) (h:= ?_);intro J3 hb;replace l9:=pkK l9 hb;replace HB:=pkB HB hb;try clear hb)|((with_reducible refine aC (f:=136) rfl ?_);refine gl_ 30 Tryz.func136 #[.string D6,.bool D7] (h:= ?_);(with_reducible refine(kH.calls D6 D7 F7 F8 _ F9.out).mono ?_);rintro e w' ⟨rfl,⟨nd,rfl⟩⟩;refine⟨_,rfl,?_⟩)|((with_reducible refine aG (N:=2) rfl ?_);refine bx_ 2 36 #[.bool o5,.string o6,.string o7] (h:= ?_);intro G5 hg J4 o9 hb;have l9:=aA.mk (o9);have y9:=pkG HB hg;have G6:=y9;replace HB:=pkB HB hb;clear hb o9 hg;obtain⟨⟨J5,J6,J7⟩,J8,J9,L6⟩:=pk3 l9)|((with_reducible refine aC (f:=67) rfl ?_);refine gM 11 Tryz.func67 (dE.calls (w:=_) (h:=A3.out)) (h:= ?_);intro L8 hb;replace l9:=pkK l9 hb;replace HB:=pkB HB hb;try clear hb))
  go_ret2
  exact pkE HB
end Go.Proofs.YtignanmmgaldeaaGreatDoor.PRefQ
end
section
set_option linter.unusedVariables false
set_option linter.unusedSimpArgs false
namespace Go.Proofs.YtignanmmgaldeaaGreatDoor.RefV
open Go.RowKit Go.Proofs.YtignanmmgaldeaaGreatDoor Go.Proofs.YtignanmmgaldeaaGreatDoor.PRefQ Go.Proofs.YtignanmmgaldeaaGreatDoor.RefP Go.Proofs.YtignanmmgaldeaaGreatDoor.CongM Go.Proofs.YtignanmmgaldeaaGreatDoorW.PrintWords
theorem uA{x y:Int}{n:Nat}(hx:Bd n x)(hy:Bd n y)(hn:1≤n)(h4:n≤4400):dN.f (text x) (text y)=some (decide (x∣y)):=by
 unfold dN.f
 have fin:∀{z:Int},(x∣y↔z=0)→some ((text z).toList==([48]:List UInt8))=some (decide (x∣y)):=fun {z} e=>by
  congr 1
  have e2:x∣y↔(text z).toList=([48]:List UInt8):=by rw[e,bK]
  by_cases h:x∣y
  ·rw[decide_eq_true h,e2.1 h];rfl
  ·rw[decide_eq_false h]
   simp only[beq_eq_false_iff_ne,ne_eq];exact fun q=>h (e2.2 q)
 by_cases h0:x=0
 ·rw[if_pos ((bK x).2 h0)]
  exact fin (by rw[h0,Int.zero_dvd])
 ·rw[if_neg (fun q=>h0 ((bK x).1 q)),aB8 hy hx hn h4 h0,Option.bind_some]
  exact fin Int.dvd_iff_fmod_eq_zero
theorem in_rv{c:Int×Int}(gc:jY (some c)){a:Int}{n:Nat}(ha:Bd n a)(hn:100≤n)(h4:n≤4300):dO.f false (text c.1) (text c.2) (text a)=some (decide (clsM c a)):=by
 have bs:Bd (n+1) (a-c.2):=by rw[Int.sub_eq_add_neg];exact ha.add (gc.2.2.neg.mono hn)
 unfold dO.f;rw[if_neg aFz,uN ha (gc.2.2.mono hn) aFx aFx,Option.bind_some,uA (gc.2.1.mono aFx) bs aFx aFx,Option.bind_some];rfl
theorem enc_some{e:Bool}{m r:ByteArray}{c:Int×Int}(h:(e,m,r)=encC (some c)):e=false∧m=text c.1∧r=text c.2:=by simpa[encC] using h
theorem enc_none{e:Bool}{m r:ByteArray}(h:(e,m,r)=encC none):e=true∧m=⟨#[]⟩∧r=⟨#[]⟩:=by simpa[encC] using h
theorem holds_rv(e:Bool)(m r a:ByteArray)(hm:m.size≤1000000)(hr:r.size≤1000000)(ha:a.size≤1000000):qB.f e m r a=some (if hldE e m r a=0 then decide (memO (decC e m r) (aV a)) else false,hldE e m r a):=by
 have e1:dE.f e m r=some (chkC e m r):=if_pos ⟨hm,hr⟩;have e2:kM.f a=some (chkI a):=if_pos aFx;unfold qB.f hldE;rw[e1,Option.bind_some]
 by_cases h:chkC e m r=0
 ·obtain⟨o,go,eo⟩:=aAq h
  have hd:=nH o;rw[←eo] at hd;simp only at hd;rw[if_pos h,if_pos h,e2,Option.bind_some]
  by_cases h2:chkI a=0
  ·obtain⟨h3,h4⟩:=xU h2
   obtain⟨y,rfl⟩:=lU a h3;have by':Bd 4096 y:=oN _ (by rw[←kV];exact h4)
   rw[if_pos h2,if_pos h2,hd,bC,h2]
   cases o with
   |none=>
    obtain⟨rfl,rfl,rfl⟩:=enc_none eo;rfl
   |some c=>
    obtain⟨rfl,rfl,rfl⟩:=enc_some eo;rw[in_rv go by' aFx aFx,Option.bind_some];rfl
  ·rw[if_neg h2,if_neg h2]
 ·rw[if_neg h,if_neg h,if_neg h]
theorem neg_cls{c:Int×Int}(gc:jY (some c)):cls 100 c.1 (-c.2)=subC 100 (0,0) c:=by
 unfold subC;refine zD ?_ ?_
 ·unfold gcdI;simp
 ·simp
theorem aCt{c:Option (Int×Int)}(gc:jY c)(k:Nat):iC.f (k+1) (encC c).1 (encC c).2.1 (encC c).2.2=some (encC (bothO (fun a b=>some (subC 100 a b)) (some (0,0)) c)):=by
 unfold iC.f
 cases c with
 |none=>rfl
 |some c=>
  show(if false=true then _ else((jF.f (text c.2)).bind fun o5=>((bJ.f (k+1) (text c.1) o5).bind fun l9=>(some (l9.1,l9.2.1,l9.2.2)))))=_;rw[if_neg aFz,yF gc.2.2 aFx aFx,Option.bind_some,qZ gc.2.1 gc.2.2.neg aFx aFx,Option.bind_some,neg_cls gc];rfl
theorem above_rv{c:Int×Int}(gc:jY (some c)){low:Int}(hl:Bd 300 low):gK.f false (text c.1) (text c.2) (text low)=some (if c.1=0 then(if c.2<low then((⟨#[]⟩:ByteArray),false) else(text c.2,true)) else(text (low+(c.2-low)%c.1),true)):=by
 unfold gK.f
 by_cases h:c.1=0
 ·rw[if_pos ((bK _).2 h),if_pos h,zC (gc.2.2.mono aFx) hl aFx aFx,Option.bind_some]
  by_cases h2:c.2<low
  ·rw[if_pos (decide_eq_true h2),if_pos h2]
  ·rw[if_neg (by simpa using h2),if_neg h2]
 ·have bs:Bd 301 (c.2-low):=by rw[Int.sub_eq_add_neg];exact Bd.add (gc.2.2.mono aFx) hl.neg
  have hf:Int.fmod (c.2-low) c.1=(c.2-low)%c.1:=Int.fmod_eq_emod_of_nonneg _ gc.1.1;have bm:Bd 300 ((c.2-low)%c.1):=(aB9 gc.2.1 (by have:=gc.1.1;omega)).mono aFx;rw[if_neg (fun q=>h ((bK _).1 q)),if_neg h,uN (gc.2.2.mono aFx) hl aFx aFx,Option.bind_some,aB8 bs (gc.2.1.mono aFx) aFx aFx h,Option.bind_some,hf,aD6 hl bm aFx aFx,Option.bind_some]
theorem aDr{x:Int}(h:Bd 4096 x):kH.f (text x) true=some (text x,0):=by
 unfold kH.f;have:=kK h aFx;rw[if_pos rfl,aDo h aFx aFx,Option.bind_some,if_neg aFx]
theorem found_no(a:ByteArray):kH.f a false=some (⟨#[]⟩,6):=rfl
theorem least_rv(e:Bool)(m r a:ByteArray)(hm:m.size≤1000000)(hr:r.size≤1000000)(ha:a.size≤300):qC.f e m r a=some (if hldE e m r a=0 then aCe (decC e m r) (aV a) else(⟨#[]⟩,hldE e m r a)):=by
 have e1:dE.f e m r=some (chkC e m r):=if_pos ⟨hm,hr⟩;have e2:kM.f a=some (chkI a):=if_pos aFx;unfold qC.f hldE;rw[e1,Option.bind_some]
 by_cases h:chkC e m r=0
 ·obtain⟨o,go,eo⟩:=aAq h
  have hd:=nH o;rw[←eo] at hd;simp only at hd;rw[if_pos h,if_pos h,e2,Option.bind_some]
  by_cases h2:chkI a=0
  ·obtain⟨h3,h4⟩:=xU h2
   obtain⟨y,ey⟩:=lU a h3;have by':Bd 300 y:=oN _ (by rw[←kV,←ey];exact Nat.le_trans (digN_le _) ha)
   subst ey;rw[if_pos h2,if_pos h2,hd,bC]
   cases o with
   |none=>
    obtain⟨rfl,rfl,rfl⟩:=enc_none eo;rfl
   |some c=>
    obtain⟨rfl,rfl,rfl⟩:=enc_some eo;rw[if_neg aFz,above_rv go by',Option.bind_some];show _=some (if c.1=0 then(if c.2<y then((⟨#[]⟩:ByteArray),(6:Int)) else(text c.2,0)) else(text (y+(c.2-y)%c.1),0))
    by_cases h5:c.1=0
    ·rw[if_pos h5,if_pos h5]
     by_cases h6:c.2<y
     ·rw[if_pos h6,if_pos h6,found_no,Option.bind_some]
     ·rw[if_neg h6,if_neg h6,aDr (go.2.2.mono aFx),Option.bind_some]
    ·have bm:Bd 300 ((c.2-y)%c.1):=(aB9 go.2.1 (by have:=go.1.1;omega)).mono aFx
     rw[if_neg h5,if_neg h5,aDr ((by'.add bm).mono aFx),Option.bind_some]
  ·rw[if_neg h2,if_neg h2]
 ·rw[if_neg h,if_neg h,if_neg h]
theorem below_rv{c:Int×Int}(gc:jY (some c)){hi:Int}(hl:Bd 300 hi)(k:Nat):nD.f (k+1) false (text c.1) (text c.2) (text hi)=some (if c.1=0 then(if hi<c.2 then((⟨#[]⟩:ByteArray),false) else(text c.2,true)) else(text (hi+ -((hi-c.2)%c.1)),true)):=by
 have hn:=aCt (c:=some c) gc k;have hn':iC.f (k+1) false (text c.1) (text c.2)=some (encC (some (cls 100 c.1 (-c.2)))):=by rw[neg_cls gc];exact hn
 have hp:cls 100 c.1 (-c.2)=((c.1.natAbs:Int),(-c.2)%(c.1.natAbs:Int)):=cls_plain gc.2.1 (fun _=>gc.2.2.neg);have ha:(c.1.natAbs:Int)=c.1:=by have:=gc.1.1;omega
 have gd:jY (some (c.1,(-c.2)%c.1)):=by
  refine⟨⟨gc.1.1,Int.emod_emod_of_dvd _ (Int.dvd_refl _)⟩,gc.2.1,?_⟩
  by_cases h:c.1=0
  ·rw[h,Int.emod_zero];exact gc.2.2.neg
  ·exact aB9 gc.2.1 (by have:=gc.1.1;omega)
 unfold nD.f;rw[hn',hp,ha,Option.bind_some,yF hl aFx aFx,Option.bind_some];show((gK.f false (text c.1) (text ((-c.2)%c.1)) (text (-hi))).bind _)=_;rw[above_rv gd hl.neg,Option.bind_some];show(if(if c.1=0 then(if(-c.2)%c.1< -hi then((⟨#[]⟩:ByteArray),false) else(text ((-c.2)%c.1),true)) else(text (-hi+((-c.2)%c.1- -hi)%c.1),true)).2=true then _ else _)=_
 by_cases h:c.1=0
 ·rw[if_pos h,if_pos h,h,Int.emod_zero]
  by_cases h2:hi<c.2
  ·rw[if_pos (show -c.2< -hi by omega),if_pos h2,if_neg aFz]
  ·rw[if_neg (show ¬ -c.2< -hi by omega),if_neg h2,if_pos rfl,yF gc.2.2.neg aFx aFx,Option.bind_some,Int.neg_neg]
 ·have e3:((-c.2)%c.1- -hi)%c.1=(hi-c.2)%c.1:=by
   rw[show(-c.2)%c.1- -hi=(-c.2)%c.1+hi by omega,Int.emod_add_emod,show -c.2+hi=hi-c.2 by omega]
  have bm:Bd 300 ((hi-c.2)%c.1):=(aB9 gc.2.1 (by have:=gc.1.1;omega)).mono aFx;rw[if_neg h,if_neg h,if_pos rfl,e3,yF (hl.neg.add bm) aFx aFx,Option.bind_some,show -(-hi+(hi-c.2)%c.1)=hi+ -((hi-c.2)%c.1) by omega]
theorem greatest_rv(e:Bool)(m r a:ByteArray)(hm:m.size≤1000000)(hr:r.size≤1000000)(ha:a.size≤300)(k:Nat):oH.f (k+1) e m r a=some (if hldE e m r a=0 then zA (decC e m r) (aV a) else(⟨#[]⟩,hldE e m r a)):=by
 have e1:dE.f e m r=some (chkC e m r):=if_pos ⟨hm,hr⟩;have e2:kM.f a=some (chkI a):=if_pos aFx;unfold oH.f hldE;rw[e1,Option.bind_some]
 by_cases h:chkC e m r=0
 ·obtain⟨o,go,eo⟩:=aAq h
  have hd:=nH o;rw[←eo] at hd;simp only at hd;rw[if_pos h,if_pos h,e2,Option.bind_some]
  by_cases h2:chkI a=0
  ·obtain⟨h3,h4⟩:=xU h2
   obtain⟨y,ey⟩:=lU a h3;have by':Bd 300 y:=oN _ (by rw[←kV,←ey];exact Nat.le_trans (digN_le _) ha)
   subst ey;rw[if_pos h2,if_pos h2,hd,bC]
   cases o with
   |none=>
    obtain⟨rfl,rfl,rfl⟩:=enc_none eo;rfl
   |some c=>
    obtain⟨rfl,rfl,rfl⟩:=enc_some eo;rw[if_neg aFz,below_rv go by',Option.bind_some];show _=some (if c.1=0 then(if y<c.2 then((⟨#[]⟩:ByteArray),(6:Int)) else(text c.2,0)) else(text (y+ -((y-c.2)%c.1)),0))
    by_cases h5:c.1=0
    ·rw[if_pos h5,if_pos h5]
     by_cases h6:y<c.2
     ·rw[if_pos h6,if_pos h6,found_no,Option.bind_some]
     ·rw[if_neg h6,if_neg h6,aDr (go.2.2.mono aFx),Option.bind_some]
    ·have bm:Bd 300 ((y-c.2)%c.1):=(aB9 go.2.1 (by have:=go.1.1;omega)).mono aFx
     rw[if_neg h5,if_neg h5,aDr ((by'.add bm.neg).mono aFx),Option.bind_some]
  ·rw[if_neg h2,if_neg h2]
 ·rw[if_neg h,if_neg h,if_neg h]
end Go.Proofs.YtignanmmgaldeaaGreatDoor.RefV
end
section
set_option linter.unusedVariables false
set_option linter.unusedSimpArgs false
namespace Go.Proofs.YtignanmmgaldeaaGreatDoor
open Go.RowKit Go.Proofs.YtignanmmgaldeaaGreatDoor.PRefQ Go.Proofs.YtignanmmgaldeaaGreatDoor.RefV Go.Proofs.YtignanmmgaldeaaGreatDoor.RefP Go.Proofs.YtignanmmgaldeaaGreatDoor.CongM Go.Proofs.YtignanmmgaldeaaGreatDoorW.PrintWords
def qN.f(a0_0:Bool)(a0_1 a0_2:ByteArray)(a1:ByteArray):Option (Bool×Int):=pI.f a0_0 a0_1 a0_2 a1
theorem qN.calls(l9:Bool)(o5 o6:ByteArray)(a1:ByteArray)(b1:Bool)(i2:Int)(w:World)(h:qN.f l9 o5 o6 a1=some (b1,i2)) :
 Calls Tryz.prog 61 #[.agg #[.bool l9,.string o5,.string o6],.string a1] w fun e w'=>e= .returned (.tuple #[.bool b1,.int .i64 i2])∧Below w.heap.size w w':=by
 unfold qN.f pI.f at h
 split at h
 ·rename_i hs
  exact qB.calls l9 o5 o6 a1 b1 i2 w (by rw[holds_rv l9 o5 o6 a1 hs.1 hs.2.1 hs.2.2];exact h)
 ·cases h
def qO.f(a0_0:Bool)(a0_1 a0_2:ByteArray)(a1:ByteArray):Option (ByteArray×Int):=nS.f a0_0 a0_1 a0_2 a1
theorem qO.calls(l9:Bool)(o5 o6:ByteArray)(a1:ByteArray)(s1:ByteArray)(i2:Int)(w:World)(h:qO.f l9 o5 o6 a1=some (s1,i2)) :
 Calls Tryz.prog 63 #[.agg #[.bool l9,.string o5,.string o6],.string a1] w fun e w'=>e= .returned (.tuple #[.string s1,.int .i64 i2])∧Below w.heap.size w w':=by
 unfold qO.f nS.f at h
 split at h
 ·rename_i hs
  exact qC.calls l9 o5 o6 a1 s1 i2 w (by rw[least_rv l9 o5 o6 a1 hs.1 hs.2.1 hs.2.2];exact h)
 ·cases h
def nT.f(a0_0:Bool)(a0_1 a0_2:ByteArray)(a1:ByteArray):Option (ByteArray×Int):=lV.f a0_0 a0_1 a0_2 a1
theorem nT.calls(l9:Bool)(o5 o6:ByteArray)(a1:ByteArray)(s1:ByteArray)(i2:Int)(w:World)(h:nT.f l9 o5 o6 a1=some (s1,i2)) :
 Calls Tryz.prog 65 #[.agg #[.bool l9,.string o5,.string o6],.string a1] w fun e w'=>e= .returned (.tuple #[.string s1,.int .i64 i2])∧Below w.heap.size w w':=by
 unfold nT.f lV.f at h
 split at h
 ·rename_i hs
  exact oH.calls 5 l9 o5 o6 a1 s1 i2 w (by rw[greatest_rv l9 o5 o6 a1 hs.1 hs.2.1 hs.2.2 4];exact h)
 ·cases h
end Go.Proofs.YtignanmmgaldeaaGreatDoor
end
section
set_option linter.unusedVariables false
set_option linter.unusedSimpArgs false
namespace Go.Proofs.YtignanmmgaldeaaGreatDoor.PCongruenceChecks
open Go.Proofs.YtignanmmgaldeaaGreatDoor.PLawB
open Go.RowKit Go.Proofs.YtignanmmgaldeaaGreatDoorW.PrintWords Go.Proofs.YtignanmmgaldeaaGreatDoorW.PrintLast Go.Proofs.YtignanmmgaldeaaGreatDoorW.PrintMore
attribute [local go_sem] dQ dR eH eP
def errW:Option Int→Value
 |none=> .nilIface
 |some c=> .iface 0 (.int .i64 c)
theorem dZ:errW none= .nilIface:=rfl
theorem eF(c:Int):errW (some c)= .iface 0 (.int .i64 c):=rfl
end Go.Proofs.YtignanmmgaldeaaGreatDoor.PCongruenceChecks
end
section
set_option linter.unusedVariables false
set_option linter.unusedSimpArgs false
set_option maxHeartbeats 8000000
set_option maxRecDepth 100000
namespace Go.Proofs.YtignanmmgaldeaaGreatDoor.PCongruenceChecks
open Go.Proofs.YtignanmmgaldeaaGreatDoor.PLawB
open Go.RowKit Go.Proofs.YtignanmmgaldeaaGreatDoorW.PrintWords Go.Proofs.YtignanmmgaldeaaGreatDoorW.PrintLast Go.Proofs.YtignanmmgaldeaaGreatDoorW.PrintMore
attribute [local go_sem] dQ dR eH eP
def fK.f(a0_0:Bool)(a0_1:ByteArray)(a0_2:ByteArray)(a1:ByteArray):Option (Bool):=(jA.f (([(⟨a0_0,a0_1,a0_2⟩:S36)]:List (S36))) (([a1]:List ByteArray))).bind fun t108=>(if t108=true then((pI.f a0_0 a0_1 a0_2 a1).bind fun bt110=>((qN.f a0_0 a0_1 a0_2 a1).bind fun bt112=>((nS.f a0_0 a0_1 a0_2 a1).bind fun bt114=>((qO.f a0_0 a0_1 a0_2 a1).bind fun bt116=>((lV.f a0_0 a0_1 a0_2 a1).bind fun bt118=>((nT.f a0_0 a0_1 a0_2 a1).bind fun bt120=>((fC.f).bind fun t122=>(if t122=true then((rH.f a0_0 a0_1 a0_2).bind fun t123=>((dE.f a0_0 a0_1 a0_2).bind fun t124=>(if t123=t124 then(if(bt110.1==bt112.1)=true then(if bt110.2=bt112.2 then(if bt114.1.toList=bt116.1.toList then(if bt114.2=bt116.2 then(if bt118.1.toList=bt120.1.toList then(some (bt118.2==bt120.2)) else(some false)) else(some false)) else(some false)) else(some false)) else(some false)) else(some false)))) else(some false))))))))) else((fC.f).bind fun t109=>(some t109)))
def fK.T9:Bool×List (List Nat×List Nat):=(true,[([],[]),([0,0],[0]),([1],[1]),([2,1,1],[1,2]),([1],[1]),([4,3,1],[1,4]),([3,5,1],[1,3,5]),([1,6],[1,6]),([7,5],[7]),([8],[8]),([8],[8]),([9,10,8],[8,9,10]),([8,11],[8,11]),([12,8],[12]),([13],[13]),([13],[13]),([14,15,13],[13,14,15]),([13,16],[13,16]),([17,13],[17]),([18],[18]),([18],[18]),([19,20,18],[18,19,20]),([18,21],[18,21]),([22,18],[22]),([23],[23]),([23],[23]),([24,25,23],[23,24,25]),([23,26],[23,26]),([27,23],[27]),([28],[28]),([28],[28]),([29,30,28],[28,29,30]),([28,31],[28,31]),([32,28],[32]),([33],[33]),([33],[33]),([34,35,33],[33,34,35]),([33,36],[33,36]),([37,33,0,1,2,3,4,5,6,7,8,9,10,11,12,13,14,15,16,17,18,19,20,21,22,23,24,25,26,27,28,29,30,31,32,33,34,35,36,37],[37])])
def fK.B9:List Nat:= [0,1,3,7,3,31,63,127,255,511,511,2047,4095,8191,16383,16383,65535,131071,262143,524287,524287,2097151,4194303,8388607,16777215,16777215,67108863,134217727,268435455,536870911,536870911,2147483647,4294967295,8589934591,17179869183,17179869183,68719476735,137438953471,274877906943]
theorem fK.tab9:rtab .any (opsOf Tryz.f12 9)=fK.T9:=by kernel_rfl
theorem fK.bits9:kX fK.T9.2 fK.B9=true:=by kernel_rfl
theorem fK.calls(o5:Bool)(o6:ByteArray)(o7:ByteArray)(a1:ByteArray)(r:Bool)(w:World)(hG:GW w)(hrT:r=true)(h:fK.f o5 o6 o7 a1=some r) :
 Calls Tryz.prog 12 #[.agg #[.bool o5,.string o6,.string o7],.string a1] w fun e w'=>e= .returned (.bool r)∧Below w.heap.size w w':=by
 have HG:=aA.mk hG;clear hG;have hu36:=Tryz.underlying36;have HB:=aA.mk (Below.refl w.heap.size w);have H:((jA.f (([(⟨o5,o6,o7⟩:S36)]:List (S36))) (([a1]:List ByteArray))).bind fun F5=>(if F5=true then((pI.f o5 o6 o7 a1).bind fun y9=>((qN.f o5 o6 o7 a1).bind fun C9=>((nS.f o5 o6 o7 a1).bind fun D5=>((qO.f o5 o6 o7 a1).bind fun D6=>((lV.f o5 o6 o7 a1).bind fun D7=>((nT.f o5 o6 o7 a1).bind fun D8=>((fC.f).bind fun F6=>(if F6=true then((rH.f o5 o6 o7).bind fun F7=>((dE.f o5 o6 o7).bind fun F8=>(if F7=F8 then(if(y9.1==C9.1)=true then(if y9.2=C9.2 then(if D5.1.toList=D6.1.toList then(if D5.2=D6.2 then(if D7.1.toList=D8.1.toList then(some (D7.2==D8.2)) else(some false)) else(some false)) else(some false)) else(some false)) else(some false)) else(some false)))) else(some false))))))))) else((fC.f).bind fun F9=>(some F9))))=some r:=h;clear h;obtain⟨G5,G7⟩:∃y_:List (S36),y_=(([(⟨o5,o6,o7⟩:S36)]:List (S36))):=⟨_,rfl⟩
 replace H:((jA.f G5 (([a1]:List ByteArray))).bind fun F5=>(if F5=true then((pI.f o5 o6 o7 a1).bind fun y9=>((qN.f o5 o6 o7 a1).bind fun C9=>((nS.f o5 o6 o7 a1).bind fun D5=>((qO.f o5 o6 o7 a1).bind fun D6=>((lV.f o5 o6 o7 a1).bind fun D7=>((nT.f o5 o6 o7 a1).bind fun D8=>((fC.f).bind fun F6=>(if F6=true then((rH.f o5 o6 o7).bind fun F7=>((dE.f o5 o6 o7).bind fun F8=>(if F7=F8 then(if(y9.1==C9.1)=true then(if y9.2=C9.2 then(if D5.1.toList=D6.1.toList then(if D5.2=D6.2 then(if D7.1.toList=D8.1.toList then(some (D7.2==D8.2)) else(some false)) else(some false)) else(some false)) else(some false)) else(some false)) else(some false)))) else(some false))))))))) else((fC.f).bind fun F9=>(some F9))))=some r:=by first|(rw[G7];with_reducible exact H)|(have H2_:=(Option.bind_some _ _).symm.trans H;rw[G7];with_reducible exact H2_)|(have H2_:=(Option.bind_some _ _).symm.trans H;with_reducible exact H2_)|with_reducible exact H|(rw[G7];exact H)|exact H
 have J3:=aA.mk G7;clear G7;obtain⟨G8,G9⟩:∃y_:List ByteArray,y_=(([a1]:List ByteArray)):=⟨_,rfl⟩
 replace H:((jA.f G5 G8).bind fun F5=>(if F5=true then((pI.f o5 o6 o7 a1).bind fun y9=>((qN.f o5 o6 o7 a1).bind fun C9=>((nS.f o5 o6 o7 a1).bind fun D5=>((qO.f o5 o6 o7 a1).bind fun D6=>((lV.f o5 o6 o7 a1).bind fun D7=>((nT.f o5 o6 o7 a1).bind fun D8=>((fC.f).bind fun F6=>(if F6=true then((rH.f o5 o6 o7).bind fun F7=>((dE.f o5 o6 o7).bind fun F8=>(if F7=F8 then(if(y9.1==C9.1)=true then(if y9.2=C9.2 then(if D5.1.toList=D6.1.toList then(if D5.2=D6.2 then(if D7.1.toList=D8.1.toList then(some (D7.2==D8.2)) else(some false)) else(some false)) else(some false)) else(some false)) else(some false)) else(some false)))) else(some false))))))))) else((fC.f).bind fun F9=>(some F9))))=some r:=by first|(rw[G9];with_reducible exact H)|(have H2_:=(Option.bind_some _ _).symm.trans H;rw[G9];with_reducible exact H2_)|(have H2_:=(Option.bind_some _ _).symm.trans H;with_reducible exact H2_)|with_reducible exact H|(rw[G9];exact H)|exact H
 have J4:=aA.mk G9;clear G9;obtain⟨F5,A3,H⟩:=bi H;try dsimp only at H
 by_cases c4:F5=true
 ·subst c4
  rw[if_pos rfl] at H;obtain⟨⟨D9,J7⟩,A5,H⟩:=bi H;try dsimp only at H
  obtain⟨⟨E8,J8⟩,A6,H⟩:=bi H;try dsimp only at H
  obtain⟨⟨J9,L6⟩,A7,H⟩:=bi H;try dsimp only at H
  obtain⟨⟨L8,L9⟩,A8,H⟩:=bi H;try dsimp only at H
  obtain⟨⟨N7,V8⟩,A9,H⟩:=bi H;try dsimp only at H
  obtain⟨⟨N8,V9⟩,N9,H⟩:=bi H;try dsimp only at H
  obtain⟨F6,O0,H⟩:=bi H;try dsimp only at H
  by_cases J5:F6=true
  ·subst J5
   rw[if_pos rfl] at H;obtain⟨F7,O1,H⟩:=bi H;try dsimp only at H
   obtain⟨F8,O3,H⟩:=bi H;try dsimp only at H
   by_cases H5:F7=F8
   ·rw[if_pos H5] at H
    obtain⟨O4,O5⟩:=bT H5;clear H5
    by_cases y8:(D9==E8)=true
    ·rw[if_pos y8] at H
     have O6:(D9==E8)=true:=y8
     (try(have O7:decide (D9=E8)=true:=by simpa using y8))
     (try(have O8:(D9==E8)=true:=by simpa using y8))
     clear y8
     by_cases H6:J7=J8
     ·rw[if_pos H6] at H
      obtain⟨O9,P7⟩:=bT H6;clear H6
      by_cases H7:J9.toList=L8.toList
      ·rw[if_pos H7] at H
       obtain⟨P8,P9⟩:=bT H7;clear H7
       by_cases H8:L6=L9
       ·rw[if_pos H8] at H
        obtain⟨Q3,Q4⟩:=bT H8;clear H8
        by_cases H9:N7.toList=N8.toList
        ·rw[if_pos H9] at H
         obtain⟨Q5,Q7⟩:=bT H9;clear H9;obtain rfl:=Option.some.inj H;go_enter Tryz.func12,Tryz.ntmps12
         try go_wp2_with(first|((with_reducible refine aG (N:=2) rfl ?_);refine bx_ 2 36 #[.bool o5,.string o6,.string o7] (h:= ?_);intro G6 hg X4 I4 hb;have l9:=aA.mk (I4);have J6:=pkG HB hg;have Q8:=J6;replace HB:=pkB HB hb;clear hb I4 hg;obtain⟨⟨X5,X7,X8⟩,X9,Y0,Y4⟩:=pk3 l9)|((with_reducible refine aG (N:=18) rfl ?_);refine Kd.sQ k36 _ 36 ?hg (N:=18) ?hd (xs:=([(⟨o5,o6,o7⟩:S36)]:List (S36))) (inner:= [.bool o5,.string o6,.string o7]) (ok:=fun _=>True) (okp:=fun _=>True) ?hr ?hp (fun _ hk=>hk) trivial (Below.refl _ _) (Nat.le_refl _) aFz ?_;(case hd=>rfl);(case hg=>rfl);(case hr=>first|(go_simp;done)|(go_simp;rfl));(case hp=>exact(Reps.c3 (show Kd.M k36 _ _ _ (⟨o5,o6,o7⟩:S36) [.bool o5,.string o6,.string o7] from(oP _ _ _ (⟨o5,o6,o7⟩:S36))) (Reps.none _ _)));intro v103 Y5 I5 hb hg_ hnew_;clear hg_ hnew_;(first|rw[←J3.out] at I5|(simp only[Int.reduceToNat] at I5;rw[←J3.out] at I5));have o8:=aA.mk (Kd.gU (Kd.qR I5 (g:=G6) (o:= .cells #[.bool o5,.string o6,.string o7] 36 (0,0)) (pkW l9)) (dJ (pkL HB)));replace l9:=pkK l9 hb;replace HB:=pkB HB hb;clear hb I5)|((with_reducible refine aG (N:=20) rfl ?_);refine Kd.sQ Kd.string _ 22 ?hg (N:=20) ?hd (xs:=([a1]:List ByteArray)) (inner:= [.string a1]) (ok:=fun _=>True) (okp:=fun _=>True) ?hr ?hp (fun _ hk=>hk) trivial (Below.refl _ _) (Nat.le_refl _) aFz ?_;(case hd=>rfl);(case hg=>rfl);(case hr=>first|(go_simp;done)|(go_simp;rfl));(case hp=>exact(Reps.one (show Kd.M Kd.string _ _ _ a1 [.string a1] from rfl) (Reps.none _ _)));intro v106 Y7 I7 hb hg_ hnew_;clear hg_ hnew_;(first|rw[←J4.out] at I7|(simp only[Int.reduceToNat] at I7;rw[←J4.out] at I7));have n0_:=aA.mk (Kd.dD (by(with_reducible repeat(first|apply Kd.aQ|apply Kd.aN|apply Kd.aW));exact o8.out) hb);have n1_:=aA.mk (Kd.gU I7 (dJ (pkL HB)));have n2_:=pkK l9 hb;have n3_:=pkB HB hb;clear o8;clear l9;clear HB;have o8:=n0_;have o9:=n1_;have l9:=n2_;have HB:=n3_;clear n0_ n1_ n2_ n3_;clear hb I7;obtain⟨Q9,S9,U3⟩:=Kd.fA o8.out;subst U3;obtain⟨U4,U5,U6⟩:=Kd.fA o9.out;subst U6)|((with_reducible refine aC (f:=34) rfl ?_);refine gl_ 21 Tryz.func34 #[.slice Q9 G5.length S9,.slice U4 G8.length U5] (h:= ?_);(with_reducible refine(jA.calls _ _ G5 _ _ G8 true _ ?side1 ?side2 ?side3 ?side4 A3.out).mono ?_);(case side1=>repeat(first|exact(Kd.dB o8.out).2.2|(with_reducible refine Kd.gI ?_ _)|(with_reducible refine Kd.gJ ?_ _)|(with_reducible refine Kd.iJ ?_)));(case side2=>exact(Kd.dB o8.out).2.1);(case side3=>repeat(first|exact(Kd.dB o9.out).2.2|(with_reducible refine Kd.gI ?_ _)|(with_reducible refine Kd.gJ ?_ _)|(with_reducible refine Kd.iJ ?_)));(case side4=>exact(Kd.dB o9.out).2.1);rintro e Y8 ⟨rfl,hb⟩;refine⟨_,rfl,?_⟩;replace o8:=aA.mk (Kd.dD (by(with_reducible repeat(first|apply Kd.aQ|apply Kd.aN|apply Kd.aW));exact o8.out) hb);replace o9:=aA.mk (Kd.dD (by(with_reducible repeat(first|apply Kd.aQ|apply Kd.aN|apply Kd.aW));exact o9.out) hb);replace l9:=pkK l9 hb;replace HB:=pkB HB hb;try clear hb;obtain⟨⟨Y9,Z7,Z8⟩,Z9,ae,af⟩:=pk3 l9)|((with_reducible refine aC (f:=60) rfl ?_);refine gM 27 Tryz.func60 (pI.calls (hG:=HG.out.below (pkL HB)) (h:=A5.out)) (h:= ?_);intro ag hb;replace o8:=aA.mk (Kd.dD (by(with_reducible repeat(first|apply Kd.aQ|apply Kd.aN|apply Kd.aW));exact o8.out) hb);replace o9:=aA.mk (Kd.dD (by(with_reducible repeat(first|apply Kd.aQ|apply Kd.aN|apply Kd.aW));exact o9.out) hb);replace l9:=pkK l9 hb;replace HB:=pkB HB hb;try clear hb;obtain⟨⟨ah,ai,aj⟩,ak,au,ax⟩:=pk3 l9)|((with_reducible refine aC (f:=61) rfl ?_);refine gM 33 Tryz.func61 (qN.calls (w:=_) (h:=A6.out)) (h:= ?_);intro ay hb;replace o8:=aA.mk (Kd.dD (by(with_reducible repeat(first|apply Kd.aQ|apply Kd.aN|apply Kd.aW));exact o8.out) hb);replace o9:=aA.mk (Kd.dD (by(with_reducible repeat(first|apply Kd.aQ|apply Kd.aN|apply Kd.aW));exact o9.out) hb);replace l9:=pkK l9 hb;replace HB:=pkB HB hb;try clear hb;obtain⟨⟨az,bn,df⟩,dh,di,dw⟩:=pk3 l9)|((with_reducible refine aC (f:=62) rfl ?_);refine gM 39 Tryz.func62 (nS.calls (hG:=HG.out.below (pkL HB)) (h:=A7.out)) (h:= ?_);intro eu hb;replace o8:=aA.mk (Kd.dD (by(with_reducible repeat(first|apply Kd.aQ|apply Kd.aN|apply Kd.aW));exact o8.out) hb);replace o9:=aA.mk (Kd.dD (by(with_reducible repeat(first|apply Kd.aQ|apply Kd.aN|apply Kd.aW));exact o9.out) hb);replace l9:=pkK l9 hb;replace HB:=pkB HB hb;try clear hb;obtain⟨⟨gm,gp,gq⟩,gz,ig,ik⟩:=pk3 l9)|((with_reducible refine aC (f:=63) rfl ?_);refine gM 45 Tryz.func63 (qO.calls (w:=_) (h:=A8.out)) (h:= ?_);intro iq hb;replace o8:=aA.mk (Kd.dD (by(with_reducible repeat(first|apply Kd.aQ|apply Kd.aN|apply Kd.aW));exact o8.out) hb);replace o9:=aA.mk (Kd.dD (by(with_reducible repeat(first|apply Kd.aQ|apply Kd.aN|apply Kd.aW));exact o9.out) hb);replace l9:=pkK l9 hb;replace HB:=pkB HB hb;try clear hb;obtain⟨⟨iw,ja,jb⟩,jc,jd,je⟩:=pk3 l9)|((with_reducible refine aC (f:=64) rfl ?_);refine gM 51 Tryz.func64 (lV.calls (hG:=HG.out.below (pkL HB)) (h:=A9.out)) (h:= ?_);intro jf hb;replace o8:=aA.mk (Kd.dD (by(with_reducible repeat(first|apply Kd.aQ|apply Kd.aN|apply Kd.aW));exact o8.out) hb);replace o9:=aA.mk (Kd.dD (by(with_reducible repeat(first|apply Kd.aQ|apply Kd.aN|apply Kd.aW));exact o9.out) hb);replace l9:=pkK l9 hb;replace HB:=pkB HB hb;try clear hb;obtain⟨⟨jg,jh,ji⟩,jk,jl,jm⟩:=pk3 l9)|((with_reducible refine aC (f:=65) rfl ?_);refine gM 57 Tryz.func65 (nT.calls (w:=_) (h:=N9.out)) (h:= ?_);intro U7 hb;replace o8:=aA.mk (Kd.dD (by(with_reducible repeat(first|apply Kd.aQ|apply Kd.aN|apply Kd.aW));exact o8.out) hb);replace o9:=aA.mk (Kd.dD (by(with_reducible repeat(first|apply Kd.aQ|apply Kd.aN|apply Kd.aW));exact o9.out) hb);replace l9:=pkK l9 hb;replace HB:=pkB HB hb;try clear hb))
         replace o8:=aA.mk (Kd.aW o8.out);replace o9:=aA.mk (Kd.aW o9.out);replace l9:=aA.mk (aK l9.out);replace HB:=aA.mk (aJ HB.out)
         refine kF (n:=39) (S:=fun w'=>w'.cell? ⟨G6,0,none⟩=some (.bool o5)∧w'.cell? ⟨G6,1,none⟩=some (.string o6)∧w'.cell? ⟨G6,2,none⟩=some (.string o7)) (ds:= []) #[false,false,false,false,false,false,false,false,false,false,false,false,false,false,false,false,false,false,false,false,false,false,false,false,false,false,false,false,false,false,false,false,false,false,false,false,false,false,false] (by kernel_rfl) rfl rfl (pcL l9) (fun hHeld=> ?_);refine jZ fK.tab9 fK.bits9 (fun HT_ HW_=> ?_)
         generalize U7.drew=jo at o8 o9 l9 HB hHeld ⊢;refine on_ 0 60 (h:=fun K hK=> ?_);refine gR Tryz.func35 (fC.calls (hG:=HG.out.below (pkL HB)) (h:=O0.out)) (h:= ?_);intro jq hb;replace o8:=aA.mk (Kd.dD (by(with_reducible repeat(first|apply Kd.aQ|apply Kd.aN|apply Kd.aW));exact o8.out) hb);replace o9:=aA.mk (Kd.dD (by(with_reducible repeat(first|apply Kd.aQ|apply Kd.aN|apply Kd.aW));exact o9.out) hb);replace l9:=pkK l9 hb;replace HB:=pkB HB hb
         clear hb;refine hK.out _ _ (pcL l9) (fun hHeld=> ?_);clear hK K;refine nm_ (h:= ?_);refine pr_ 1 61 (h:= ?_);refine tk_ 2 62 hHeld (hy:=hy3) (h:= ?_);refine tk_ 4 64 hHeld (hy:=hy3) (h:= ?_);refine on_ 3 63 (h:=fun K hK=> ?_);refine gR Tryz.func66 (rH.calls (w:=_) (h:=O1.out)) (h:= ?_);intro jr hb;replace o8:=aA.mk (Kd.dD (by(with_reducible repeat(first|apply Kd.aQ|apply Kd.aN|apply Kd.aW));exact o8.out) hb);replace o9:=aA.mk (Kd.dD (by(with_reducible repeat(first|apply Kd.aQ|apply Kd.aN|apply Kd.aW));exact o9.out) hb);replace l9:=pkK l9 hb;replace HB:=pkB HB hb
         clear hb;refine hK.out _ _ (pcL l9) (fun hHeld=> ?_);clear hK K;refine nm_ (h:= ?_);refine on_ 5 65 (h:=fun K hK=> ?_);refine gR Tryz.func67 (dE.calls (w:=_) (h:=O3.out)) (h:= ?_);intro jw hb;replace o8:=aA.mk (Kd.dD (by(with_reducible repeat(first|apply Kd.aQ|apply Kd.aN|apply Kd.aW));exact o8.out) hb);replace o9:=aA.mk (Kd.dD (by(with_reducible repeat(first|apply Kd.aQ|apply Kd.aN|apply Kd.aW));exact o9.out) hb);replace l9:=pkK l9 hb;replace HB:=pkB HB hb
         clear hb;refine hK.out _ _ (pcL l9) (fun hHeld=> ?_);clear hK K;refine nm_ (h:= ?_);refine pr_ 6 66 (h:= ?_);refine pr_ 7 67 (h:= ?_);refine pr_ 8 68 (h:= ?_);refine pr_ 9 69 (h:= ?_);refine pr_ 10 70 (h:= ?_);refine pr_ 11 71 (h:= ?_);refine pr_ 12 72 (h:= ?_);refine pr_ 13 73 (h:= ?_);refine pr_ 14 74 (h:= ?_);refine pr_ 15 75 (h:= ?_);refine pr_ 16 76 (h:= ?_);refine pr_ 17 77 (h:= ?_);refine pr_ 18 78 (h:= ?_);refine pr_ 19 79 (h:= ?_);refine pr_ 20 80 (h:= ?_);refine pr_ 21 81 (h:= ?_);refine pr_ 22 82 (h:= ?_);refine pr_ 23 83 (h:= ?_);refine pr_ 24 84 (h:= ?_);refine pr_ 25 85 (h:= ?_);refine pr_ 26 86 (h:= ?_);refine pr_ 27 87 (h:= ?_);refine pr_ 28 88 (h:= ?_);refine pr_ 29 89 (h:= ?_);refine pr_ 30 90 (h:= ?_);refine pr_ 31 91 (h:= ?_);refine pr_ 32 92 (h:= ?_);refine pr_ 33 93 (h:= ?_);refine pr_ 34 94 (h:= ?_);refine pr_ 35 95 (h:= ?_);refine pr_ 36 96 (h:= ?_);refine pr_ 37 97 (h:= ?_);refine pr_ 38 4 (h:= ?_);refine kY (lK HT_.out (by kernel_rfl)) ?_
         try go_wp2
         go_ret
         exact pkE HB
        ·rw[if_neg H9] at H
         obtain⟨Q5,Q7⟩:=bF H9;exact absurd (Option.some.inj H) (by rw[hrT];decide)
       ·rw[if_neg H8] at H
        obtain⟨Q3,Q4⟩:=bF H8;exact absurd (Option.some.inj H) (by rw[hrT];decide)
      ·rw[if_neg H7] at H
       obtain⟨P8,P9⟩:=bF H7;exact absurd (Option.some.inj H) (by rw[hrT];decide)
     ·rw[if_neg H6] at H
      obtain⟨O9,P7⟩:=bF H6;exact absurd (Option.some.inj H) (by rw[hrT];decide)
    ·rw[if_neg y8] at H
     have O6:(D9==E8)=false:=by simpa using y8
     (try(have O7:decide (D9=E8)=false:=by simpa using y8))
     (try(have O8:(D9==E8)=false:=by simpa using y8))
     (try(have jy:¬(D9=E8):=by simpa using y8))
     clear y8;exact absurd (Option.some.inj H) (by rw[hrT];decide)
   ·rw[if_neg H5] at H
    obtain⟨O4,O5⟩:=bF H5;exact absurd (Option.some.inj H) (by rw[hrT];decide)
  ·replace J5:=Bool.eq_false_iff.mpr J5
   subst J5;rw[if_neg (show ¬(false=true) by decide)] at H;exact absurd (Option.some.inj H) (by rw[hrT];decide)
 ·replace c4:=Bool.eq_false_iff.mpr c4
  subst c4;rw[if_neg (show ¬(false=true) by decide)] at H;obtain⟨F9,U8,H⟩:=bi H;try dsimp only at H
  obtain rfl:=Option.some.inj H;go_enter Tryz.func12,Tryz.ntmps12
  go_wp2_with(first|((with_reducible refine aG (N:=2) rfl ?_);refine bx_ 2 36 #[.bool o5,.string o6,.string o7] (h:= ?_);intro G6 hg ku I4 hb;have l9:=aA.mk (I4);have J6:=pkG HB hg;have Q8:=J6;replace HB:=pkB HB hb;clear hb I4 hg;obtain⟨⟨kw,kz,lg⟩,lh,lq,lu⟩:=pk3 l9)|((with_reducible refine aG (N:=18) rfl ?_);refine Kd.sQ k36 _ 36 ?hg (N:=18) ?hd (xs:=([(⟨o5,o6,o7⟩:S36)]:List (S36))) (inner:= [.bool o5,.string o6,.string o7]) (ok:=fun _=>True) (okp:=fun _=>True) ?hr ?hp (fun _ hk=>hk) trivial (Below.refl _ _) (Nat.le_refl _) aFz ?_;(case hd=>rfl);(case hg=>rfl);(case hr=>first|(go_simp;done)|(go_simp;rfl));(case hp=>exact(Reps.c3 (show Kd.M k36 _ _ _ (⟨o5,o6,o7⟩:S36) [.bool o5,.string o6,.string o7] from(oP _ _ _ (⟨o5,o6,o7⟩:S36))) (Reps.none _ _)));intro v103 lw I8 hb hg_ hnew_;clear hg_ hnew_;(first|rw[←J3.out] at I8|(simp only[Int.reduceToNat] at I8;rw[←J3.out] at I8));have o8:=aA.mk (Kd.gU (Kd.qR I8 (g:=G6) (o:= .cells #[.bool o5,.string o6,.string o7] 36 (0,0)) (pkW l9)) (dJ (pkL HB)));replace l9:=pkK l9 hb;replace HB:=pkB HB hb;clear hb I8)|((with_reducible refine aG (N:=20) rfl ?_);refine Kd.sQ Kd.string _ 22 ?hg (N:=20) ?hd (xs:=([a1]:List ByteArray)) (inner:= [.string a1]) (ok:=fun _=>True) (okp:=fun _=>True) ?hr ?hp (fun _ hk=>hk) trivial (Below.refl _ _) (Nat.le_refl _) aFz ?_;(case hd=>rfl);(case hg=>rfl);(case hr=>first|(go_simp;done)|(go_simp;rfl));(case hp=>exact(Reps.one (show Kd.M Kd.string _ _ _ a1 [.string a1] from rfl) (Reps.none _ _)));intro v106 mf I9 hb hg_ hnew_;clear hg_ hnew_;(first|rw[←J4.out] at I9|(simp only[Int.reduceToNat] at I9;rw[←J4.out] at I9));have n0_:=aA.mk (Kd.dD (by(with_reducible repeat(first|apply Kd.aQ|apply Kd.aN|apply Kd.aW));exact o8.out) hb);have n1_:=aA.mk (Kd.gU I9 (dJ (pkL HB)));have n2_:=pkK l9 hb;have n3_:=pkB HB hb;clear o8;clear l9;clear HB;have o8:=n0_;have o9:=n1_;have l9:=n2_;have HB:=n3_;clear n0_ n1_ n2_ n3_;clear hb I9;obtain⟨U9,V3,V4⟩:=Kd.fA o8.out;subst V4;obtain⟨V5,V6,V7⟩:=Kd.fA o9.out;subst V7)|((with_reducible refine aC (f:=34) rfl ?_);refine gl_ 21 Tryz.func34 #[.slice U9 G5.length V3,.slice V5 G8.length V6] (h:= ?_);(with_reducible refine(jA.calls _ _ G5 _ _ G8 false _ ?side1 ?side2 ?side3 ?side4 A3.out).mono ?_);(case side1=>repeat(first|exact(Kd.dB o8.out).2.2|(with_reducible refine Kd.gI ?_ _)|(with_reducible refine Kd.gJ ?_ _)|(with_reducible refine Kd.iJ ?_)));(case side2=>exact(Kd.dB o8.out).2.1);(case side3=>repeat(first|exact(Kd.dB o9.out).2.2|(with_reducible refine Kd.gI ?_ _)|(with_reducible refine Kd.gJ ?_ _)|(with_reducible refine Kd.iJ ?_)));(case side4=>exact(Kd.dB o9.out).2.1);rintro e mg ⟨rfl,hb⟩;refine⟨_,rfl,?_⟩;replace o8:=aA.mk (Kd.dD (by(with_reducible repeat(first|apply Kd.aQ|apply Kd.aN|apply Kd.aW));exact o8.out) hb);replace o9:=aA.mk (Kd.dD (by(with_reducible repeat(first|apply Kd.aQ|apply Kd.aN|apply Kd.aW));exact o9.out) hb);replace l9:=pkK l9 hb;replace HB:=pkB HB hb;try clear hb)|((with_reducible refine aC (f:=35) rfl ?_);refine gM 23 Tryz.func35 (fC.calls (hG:=HG.out.below (pkL HB)) (h:=U8.out)) (h:= ?_);intro mi hb;replace o8:=aA.mk (Kd.dD (by(with_reducible repeat(first|apply Kd.aQ|apply Kd.aN|apply Kd.aW));exact o8.out) hb);replace o9:=aA.mk (Kd.dD (by(with_reducible repeat(first|apply Kd.aQ|apply Kd.aN|apply Kd.aW));exact o9.out) hb);replace l9:=pkK l9 hb;replace HB:=pkB HB hb;try clear hb))
  go_ret
  exact pkE HB
end Go.Proofs.YtignanmmgaldeaaGreatDoor.PCongruenceChecks
end
section
set_option linter.unusedVariables false
set_option linter.unusedSimpArgs false
namespace Go.Proofs.YtignanmmgaldeaaGreatDoor.PureChecks
open Go.RowKit Go.Proofs.YtignanmmgaldeaaGreatDoor Go.Proofs.YtignanmmgaldeaaGreatDoor.PLawB Go.Proofs.YtignanmmgaldeaaGreatDoor.LawC Go.Proofs.YtignanmmgaldeaaGreatDoor.PCongruenceChecks Go.Proofs.YtignanmmgaldeaaGreatDoor.RefP Go.Proofs.YtignanmmgaldeaaGreatDoor.PCongI Go.Proofs.YtignanmmgaldeaaGreatDoor.CongM Go.Proofs.YtignanmmgaldeaaGreatDoorW.PrintWords
theorem law(o6:Bool)(l9 o5:ByteArray)(a1:ByteArray)(w0:l9.size≤140737488351232)(w1:o5.size≤140737488351232)(w2:a1.size≤140737488351232):fK.f o6 l9 o5 a1=some true:=by
 have hf:jA.f [(⟨o6,l9,o5⟩:S36)] [a1]=some (decide (fewP [(⟨o6,l9,o5⟩:S36)] [a1])):=if_pos ⟨by simp,by simp⟩;unfold fK.f;rw[hf,Option.bind_some]
 by_cases hF:fewP [(⟨o6,l9,o5⟩:S36)] [a1]
 ·rw[decide_eq_true hF]
  have s1:=hF.1 (⟨o6,l9,o5⟩:S36) aFz;have s3:=hF.2 a1 aFz;have z1:l9.size≤250:=s1.1;have z2:o5.size≤250:=s1.2;have e0:pI.f o6 l9 o5 a1=some (if hldE o6 l9 o5 a1=0 then decide (memO (decC o6 l9 o5) (aV a1)) else false,hldE o6 l9 o5 a1):=if_pos aFx;have e1:qN.f o6 l9 o5 a1=some (if hldE o6 l9 o5 a1=0 then decide (memO (decC o6 l9 o5) (aV a1)) else false,hldE o6 l9 o5 a1):=e0;have e2:nS.f o6 l9 o5 a1=some (if hldE o6 l9 o5 a1=0 then aCe (decC o6 l9 o5) (aV a1) else(⟨#[]⟩,hldE o6 l9 o5 a1)):=if_pos aFx;have e3:qO.f o6 l9 o5 a1=some (if hldE o6 l9 o5 a1=0 then aCe (decC o6 l9 o5) (aV a1) else(⟨#[]⟩,hldE o6 l9 o5 a1)):=e2;have e4:lV.f o6 l9 o5 a1=some (if hldE o6 l9 o5 a1=0 then zA (decC o6 l9 o5) (aV a1) else(⟨#[]⟩,hldE o6 l9 o5 a1)):=if_pos aFx;have e5:nT.f o6 l9 o5 a1=some (if hldE o6 l9 o5 a1=0 then zA (decC o6 l9 o5) (aV a1) else(⟨#[]⟩,hldE o6 l9 o5 a1)):=e4;have e6:rH.f o6 l9 o5=some (chkC o6 l9 o5):=if_pos aFx;have e7:dE.f o6 l9 o5=some (chkC o6 l9 o5):=if_pos aFx;simp only[if_true,e0,e1,e2,e3,e4,e5,e6,e7,oU,Option.bind_some,beq_self_eq_true,Bool.and_self,if_true]
 ·rw[decide_eq_false hF]
  simp only[Bool.false_eq_true,if_false,oU,Option.bind_some]
end Go.Proofs.YtignanmmgaldeaaGreatDoor.PureChecks
end
