/- Lemmas for the proof. -/
import Derived.Test.YtignanmmgaldeaaGreatDoorYCardCongruenceComputesW1
import Derived.Test.YtignanmmgaldeaaGreatDoorYK
set_option linter.unusedVariables false
set_option linter.unusedSimpArgs false
set_option maxHeartbeats 8000000
set_option maxRecDepth 100000
section
namespace Go.Proofs.YtignanmmgaldeaaGreatDoor.RefP
open Go.RowKit Go.Proofs.YtignanmmgaldeaaGreatDoor.PRefA Go.Proofs.YtignanmmgaldeaaGreatDoorW.PrintWords Go.Proofs.YtignanmmgaldeaaGreatDoorW.PrintLast
theorem nX(x:Int){m:Nat}(hx:Bd m x)(hm:1≤m):bI.f (text x)=some (sgnI x):=by
 unfold bI.f
 by_cases h:x=0
 ·rw[if_pos ((bK x).2 h),h];rfl
 ·rw[if_neg (fun q=>h ((bK x).1 q))]
  obtain⟨s,h1,h2,h3⟩:=qM x;have hne:=mV x.natAbs
  have hsz:0<(text x).size:=by
   rw[Lib.size_eq,h1,List.length_append];have:=List.length_pos_iff.2 hne;omega
  rw[pG _ hsz,Option.bind_some,h1];unfold sgnI;rcases h2 with rfl|rfl
  ·have hx0:¬x<0:=fun q=>by have:=h3.2 q;cases this
   have hp:Lib.hasPrefix ([]++Lib.decDigits x.natAbs) [45]=false:=by
    have hm:=lW x.natAbs;rw[List.nil_append];generalize Lib.decDigits x.natAbs=l at hm hne
    cases l with
    |nil=>exact absurd rfl hne
    |cons c r=>
     by_cases hc:c=45
     ·subst hc;exact absurd rfl (hm r)
     ·simp[Lib.hasPrefix,List.isPrefixOf,Ne.symm hc]
   rw[hp,if_neg aFz,if_neg hx0,if_neg h]
  ·have hx0:x<0:=h3.1 rfl
   have hp:Lib.hasPrefix ([45]++Lib.decDigits x.natAbs) [45]=true:=by simp[Lib.hasPrefix]
   rw[hp,if_pos rfl,if_pos hx0]
end Go.Proofs.YtignanmmgaldeaaGreatDoor.RefP
end
section
namespace Go.Proofs.YtignanmmgaldeaaGreatDoor.PRefA
open Go.RowKit Go.Proofs.YtignanmmgaldeaaGreatDoor.RefP Go.Proofs.YtignanmmgaldeaaGreatDoorW.PrintWords Go.Proofs.YtignanmmgaldeaaGreatDoorW.PrintLast Go.Proofs.YtignanmmgaldeaaGreatDoorW.PrintMore
attribute [local go_sem] dQ dR eH eP
def aZ.l0:Nat→ByteArray→ByteArray→Option (ByteArray)
 |0,_,_=>none
 |k+1,x5,x6=>if x6.toList=([48]:List UInt8) then(some x5) else((gZ.f x5 x6).bind fun t107=>(aZ.l0 k x6 t107))
def aZ.f(k:Nat)(a0 a1:ByteArray):Option (ByteArray):=(cZ.f a0).bind fun t105=>((cZ.f a1).bind fun t106=>(aZ.l0 k t105 t106))
theorem aZ.calls(k:Nat)(a0 a1 r:ByteArray)(w:World)(h:aZ.f k a0 a1=some r) :
 Calls Tryz.prog 89 #[.string a0,.string a1] w fun e w'=>e= .returned (.string r)∧Below w.heap.size w w':=by
 have HB:=aA.mk (Below.refl w.heap.size w);have H:((cZ.f a0).bind fun o6=>((cZ.f a1).bind fun o5=>(aZ.l0 k o6 o5)))=some r:=h;clear h;replace H:=Option.bind_eq_some_iff.mp H;obtain⟨o6,o9,H⟩:=H;replace H:((cZ.f a1).bind fun o5=>(aZ.l0 k o6 o5))=some r:=H;have A3:=aA.mk o9;clear o9;replace H:=Option.bind_eq_some_iff.mp H;obtain⟨o5,y8,H⟩:=H;replace H:(aZ.l0 k o6 o5)=some r:=H;have A4:=aA.mk y8;clear y8;have H':=aA.mk H;clear H;go_enter Tryz.func89,Tryz.ntmps89
 go_wp2_with(first|((with_reducible refine aC (f:=92) rfl ?_);refine gl_ 8 Tryz.func92 #[.string a0] (h:= ?_);(with_reducible refine(cZ.calls a0 o6 _ A3.out).mono ?_);rintro e w' ⟨rfl,⟨nd,rfl⟩⟩;refine⟨_,rfl,?_⟩)|((with_reducible refine aC (f:=92) rfl ?_);refine gl_ 10 Tryz.func92 #[.string a1] (h:= ?_);(with_reducible refine(cZ.calls a1 o5 _ A4.out).mono ?_);rintro e w' ⟨rfl,⟨nd,rfl⟩⟩;refine⟨_,rfl,?_⟩))
 go_loopg [5,6] k (fun kq v5 v6 w'=>∃(o7:ByteArray) (l9:ByteArray),v5= .string o7∧v6= .string l9∧aA (aZ.l0 kq o7 l9=some r)∧aA (kq≤k)∧aA (Below w.heap.size w w'))
 case atStart=>exact⟨(o6),(o5),aG1,aG1,H',⟨Nat.le_refl _⟩,⟨by repeat(first|(with_reducible first|exact HB.out|apply aT|apply aI|apply aJ)|exact HB.out)⟩⟩
 case round=>
  clear H';try clear p2
  obtain⟨o7,l9,rfl,rfl,HA,y9,HB⟩:=hrel
  cases gk with
  |zero=>exact absurd HA.out (by simp[aZ.l0])
  |succ k1=>
   have H:=HA.out;clear HA;simp only[aZ.l0] at H
   by_cases c5:l9.toList=([48]:List UInt8)
   ·rw[if_pos c5] at H
    have D5:(l9.toList==([48]:List UInt8))=true:=beq_iff_eq.mpr c5;have D6:(l9.toList != ([48]:List UInt8))=false:=bne_eq_false_iff_eq.mpr c5;clear c5;obtain rfl:=Option.some.inj H;go_wp2
    go_ret
    exact⟨by first|rfl|(simp[dZ,eF] <;> rfl)|(simp[*,dZ,eF] <;> rfl),by repeat(first|(with_reducible first|exact HB.out|apply aT|apply aI|apply aJ)|exact HB.out)⟩
   ·rw[if_neg c5] at H
    have D5:(l9.toList==([48]:List UInt8))=false:=beq_eq_false_iff_ne.mpr c5;have D6:(l9.toList != ([48]:List UInt8))=true:=bne_iff_ne.mpr c5;replace H:=Option.bind_eq_some_iff.mp H;obtain⟨o8,C9,H⟩:=H;replace H:(aZ.l0 k1 l9 o8)=some r:=H;have A6:=aA.mk C9;clear C9;have H':=aA.mk H;clear H
    go_wp2_with(first|((with_reducible refine aC (f:=78) rfl ?_);refine gM 16 Tryz.func78 (gZ.calls (w:=_) (h:=A6.out)) (h:= ?_);intro w7 hb;replace HB:=pkB HB hb;clear hb))
    go_roundg k1
    case measure=>have:=y9.out;omega
    case rel=>exact⟨(l9),(o8),aG1,aG1,H',⟨by have:=y9.out;omega⟩,⟨by repeat(first|(with_reducible first|exact HB.out|apply aT|apply aI|apply aJ)|exact HB.out)⟩⟩
end Go.Proofs.YtignanmmgaldeaaGreatDoor.PRefA
end
section
namespace Go.Proofs.YtignanmmgaldeaaGreatDoor.RefP
open Go.RowKit Go.Proofs.YtignanmmgaldeaaGreatDoor.PRefA Go.Proofs.YtignanmmgaldeaaGreatDoorW.PrintWords Go.Proofs.YtignanmmgaldeaaGreatDoorW.PrintLast
theorem xM{x y:Int}{m:Nat}(hx:Bd m x)(hy:Bd m y)(hm:1≤m)(h4:m≤9000)(k:Nat)(hk:20000≤k):dX.f k (text x) (text y)=some (sgnI (x-y)):=by
 have lx:(dL x.natAbs).length≤9000:=by rw[rC];exact Nat.le_trans (kK hx hm) h4
 have ly:(dL y.natAbs).length≤9000:=by rw[rC];exact Nat.le_trans (kK hy hm) h4
 unfold dX.f;rw[nX x hx hm,Option.bind_some,nX y hy hm,Option.bind_some];rw[mQ hx hm aFx k aFx,Option.bind_some,xW _ k aFx aFx,Option.bind_some,mQ hy hm aFx k aFx,Option.bind_some,xW _ k aFx aFx,Option.bind_some,aB7 _ _ k aFx aFx aFx,Option.bind_some];unfold sgnI
 by_cases x0:x<0
 ·rw[if_pos x0]
  by_cases y0:y<0
  ·rw[if_pos y0,if_pos rfl]
   by_cases h:x<y
   ·rw[if_neg (show ¬((x.natAbs:Int)-(y.natAbs:Int)<0) by omega),if_neg (show ¬((x.natAbs:Int)-(y.natAbs:Int)=0) by omega),if_pos (show x-y<0 by omega)];(first|rfl|decide +kernel)
   ·by_cases h2:x=y
    ·rw[if_neg (show ¬((x.natAbs:Int)-(y.natAbs:Int)<0) by omega),if_pos (show((x.natAbs:Int)-(y.natAbs:Int)=0) by omega),if_neg (show ¬x-y<0 by omega),if_pos (show x-y=0 by omega)];(first|rfl|decide +kernel)
    ·rw[if_pos (show((x.natAbs:Int)-(y.natAbs:Int)<0) by omega),if_neg (show ¬x-y<0 by omega),if_neg (show ¬x-y=0 by omega)];(first|rfl|decide +kernel)
  ·rw[if_neg y0]
   rw[if_pos (show x-y<0 by omega)]
   by_cases y1:y=0
   ·rw[if_pos y1];(first|rfl|decide +kernel)
   ·rw[if_neg y1];(first|rfl|decide +kernel)
 ·rw[if_neg x0]
  by_cases x1:x=0
  ·rw[if_pos x1]
   by_cases y0:y<0
   ·rw[if_pos y0,if_neg (show ¬x-y<0 by omega),if_neg (show ¬x-y=0 by omega)];(first|rfl|decide +kernel)
   ·rw[if_neg y0]
    by_cases y1:y=0
    ·rw[if_pos y1,if_pos rfl,if_neg (show ¬x-y<0 by omega),if_pos (show x-y=0 by omega),if_neg (show ¬((x.natAbs:Int)-(y.natAbs:Int)<0) by omega),if_pos (show((x.natAbs:Int)-(y.natAbs:Int)=0) by omega)];(first|rfl|decide +kernel)
    ·rw[if_neg y1,if_pos (show x-y<0 by omega)];(first|rfl|decide +kernel)
  ·rw[if_neg x1]
   by_cases y0:y<0
   ·rw[if_pos y0,if_neg (show ¬x-y<0 by omega),if_neg (show ¬x-y=0 by omega)];(first|rfl|decide +kernel)
   ·rw[if_neg y0]
    by_cases y1:y=0
    ·rw[if_pos y1,if_neg (show ¬x-y<0 by omega),if_neg (show ¬x-y=0 by omega)];(first|rfl|decide +kernel)
    ·rw[if_neg y1,if_pos rfl]
     by_cases h:x<y
     ·rw[if_pos (show((x.natAbs:Int)-(y.natAbs:Int)<0) by omega),if_pos (show x-y<0 by omega)];(first|rfl|decide +kernel)
     ·by_cases h2:x=y
      ·rw[if_neg (show ¬((x.natAbs:Int)-(y.natAbs:Int)<0) by omega),if_pos (show((x.natAbs:Int)-(y.natAbs:Int)=0) by omega),if_neg (show ¬x-y<0 by omega),if_pos (show x-y=0 by omega)];(first|rfl|decide +kernel)
      ·rw[if_neg (show ¬((x.natAbs:Int)-(y.natAbs:Int)<0) by omega),if_neg (show ¬((x.natAbs:Int)-(y.natAbs:Int)=0) by omega),if_neg (show ¬x-y<0 by omega),if_neg (show ¬x-y=0 by omega)];(first|rfl|decide +kernel)
theorem rQ{m:Nat}(hm:1≤m)(h4:m≤4400):∀(k:Nat) (r s:Int),0≤r→0≤s→Bd m r→Bd m s→s.toNat<k→aZ.l0 k (text r) (text s)=some (text (gcdI r s))
 |0,r,s,_,_,_,_,hk=>by omega
 |k+1,r,s,hr,hs,br,bs,hk=>by
  rw[aZ.l0]
  by_cases h0:s=0
  ·rw[if_pos ((bK s).2 h0),h0,vO hr]
  ·have hf:Int.fmod r s=r%s:=Int.fmod_eq_emod_of_nonneg _ hs
   have h1:=Int.emod_nonneg r h0;have h2:=Int.emod_lt_of_pos r (show 0<s by omega);rw[if_neg (fun q=>h0 ((bK s).1 q)),aAp h0 br bs hm h4,Option.bind_some,hf];rw[rQ hm h4 k s (r%s) hs h1 bs (bs.of_le aFx) aFx,yU hr aFx]
theorem aA6{x y:Int}{m:Nat}(hx:Bd m x)(hy:Bd m y)(hm:1≤m)(h4:m≤4400):aZ.f (y.natAbs+1) (text x) (text y)=some (text (gcdI x y)):=by
 unfold aZ.f
 rw[nP hx hm aFx,Option.bind_some,nP hy hm aFx,Option.bind_some,
  rQ hm h4 _ _ _ aFx aFx (by unfold Bd at *;simpa using hx) (by unfold Bd at *;simpa using hy) aFx,aAa]
end Go.Proofs.YtignanmmgaldeaaGreatDoor.RefP
namespace Go.Proofs.YtignanmmgaldeaaGreatDoor
open Go.RowKit Go.Proofs.YtignanmmgaldeaaGreatDoor.PRefA Go.Proofs.YtignanmmgaldeaaGreatDoor.RefP Go.Proofs.YtignanmmgaldeaaGreatDoorW.PrintWords Go.Proofs.YtignanmmgaldeaaGreatDoorW.PrintLast
def fZ.f(a0 a1:ByteArray):Option ByteArray:=if okN 4400 a0∧okN 4400 a1 then some (text (gcdI (aV a0) (aV a1))) else none
theorem fZ.calls(a0 a1 r0:ByteArray)(w:World)(h:fZ.f a0 a1=some r0) :
 Calls Tryz.prog 89 #[.string a0,.string a1] w fun e w'=>e= .returned (.string r0)∧Below w.heap.size w w':=by
 unfold fZ.f at h
 split at h
 ·rename_i hs
  obtain⟨x,rfl,bx⟩:=kR hs.1;obtain⟨y,rfl,by'⟩:=kR hs.2;obtain rfl:=Option.some.inj h;rw[bC,bC];exact aZ.calls (y.natAbs+1) _ _ _ w (aA6 bx by' aFx aFx)
 ·cases h
theorem pM{x y:Int}{m:Nat}(hx:Bd m x)(hy:Bd m y)(hm:1≤m)(h4:m≤4400):fZ.f (text x) (text y)=some (text (gcdI x y)):=by
 unfold fZ.f;rw[if_pos ⟨kS hx hm h4,kS hy hm h4⟩,bC,bC]
def jU.f(a0:ByteArray):Option Bool:=if a0.size≤140737488351232 then some (canon a0.data.toList) else none
theorem jU.calls(a0:ByteArray)(r0:Bool)(w:World)(h:jU.f a0=some r0) :
 Calls Tryz.prog 184 #[.string a0] w fun e w'=>e= .returned (.bool r0)∧eQ w w':=by
 unfold jU.f at h
 split at h
 ·rename_i hs
  obtain rfl:=Option.some.inj h;exact bP.calls (a0.size+2+2) _ _ w (aB6 a0 hs _ (Nat.le_refl _))
 ·cases h
def gV.f(a0:ByteArray):Option Int:=if okN 9000 a0 then some (sgnI (aV a0)) else none
theorem gV.calls(a0:ByteArray)(r0:Int)(w:World)(h:gV.f a0=some r0) :
 Calls Tryz.prog 142 #[.string a0] w fun e w'=>e= .returned (.int .i64 r0)∧eQ w w':=by
 unfold gV.f at h
 split at h
 ·rename_i hs
  obtain⟨x,rfl,bx⟩:=kR hs;obtain rfl:=Option.some.inj h;rw[bC];exact bI.calls _ _ w (nX x bx aFx)
 ·cases h
theorem sG{x:Int}{m:Nat}(hx:Bd m x)(hm:1≤m)(h4:m≤9000):gV.f (text x)=some (sgnI x):=by
 unfold gV.f;rw[if_pos (kS hx hm h4),bC]
def jB.f(a0 a1:ByteArray):Option Bool:=if okN 9000 a0∧okN 9000 a1 then some (decide (aV a0<aV a1)) else none
theorem jB.calls(a0 a1:ByteArray)(r0:Bool)(w:World)(h:jB.f a0 a1=some r0) :
 Calls Tryz.prog 143 #[.string a0,.string a1] w fun e w'=>e= .returned (.bool r0)∧Below w.heap.size w w':=by
 unfold jB.f at h
 split at h
 ·rename_i hs
  obtain⟨x,rfl,bx⟩:=kR hs.1;obtain⟨y,rfl,by'⟩:=kR hs.2;obtain rfl:=Option.some.inj h;rw[bC,bC];obtain⟨k,hk⟩:∃k:Nat,k=20000:=⟨_,rfl⟩
  refine iH.calls k _ _ _ w ?_;unfold iH.f;rw[xM bx by' aFx aFx k aFx,Option.bind_some]
  congr 1
  exact decide_eq_decide.2 (by rw[mD];omega)
 ·cases h
theorem zC{x y:Int}{m:Nat}(hx:Bd m x)(hy:Bd m y)(hm:1≤m)(h4:m≤9000):jB.f (text x) (text y)=some (decide (x<y)):=by
 unfold jB.f;rw[if_pos ⟨kS hx hm h4,kS hy hm h4⟩,bC,bC]
def jF.f(a0:ByteArray):Option ByteArray:=if okN 9000 a0 then some (text (-aV a0)) else none
theorem jF.calls(a0 r0:ByteArray)(w:World)(h:jF.f a0=some r0) :
 Calls Tryz.prog 163 #[.string a0] w fun e w'=>e= .returned (.string r0)∧eQ w w':=by
 unfold jF.f at h
 split at h
 ·rename_i hs
  obtain⟨x,rfl,bx⟩:=kR hs;obtain rfl:=Option.some.inj h;rw[bC];exact kP.calls _ _ w (aAy bx aFx aFx)
 ·cases h
theorem yF{x:Int}{m:Nat}(hx:Bd m x)(hm:1≤m)(h4:m≤9000):jF.f (text x)=some (text (-x)):=by
 unfold jF.f;rw[if_pos (kS hx hm h4),bC]
end Go.Proofs.YtignanmmgaldeaaGreatDoor
end
section
namespace Go.Proofs.YtignanmmgaldeaaGreatDoor.PCongI
open Go.RowKit Go.Proofs.YtignanmmgaldeaaGreatDoorW.PrintWords Go.Proofs.YtignanmmgaldeaaGreatDoorW.PrintLast Go.Proofs.YtignanmmgaldeaaGreatDoorW.PrintMore
attribute [local go_sem] dQ dR eH eP
def jK.f(k:Nat)(a0_0:Bool)(a0_1 a0_2:ByteArray)(a1_0:Bool)(a1_1 a1_2:ByteArray):Option (Bool×ByteArray×ByteArray):=(fU.f a0_1 a1_1).bind fun t281=>((jQ.f a0_2 a1_2).bind fun t282=>((dS.f k t281 t282).bind fun bt283=>(some (bt283.1,bt283.2.1,bt283.2.2))))
def jK.T1:Bool×List (List Nat×List Nat):=(true,[([],[]),([0],[0]),([],[]),([2],[2]),([1,3],[1,3]),([],[]),([5],[5]),([],[]),([7],[7]),([6,8,4],[6,8]),([4,9,9],[4,9]),([10,10,0,1,2,3,4,5,6,7,8,9,10],[10])])
def jK.B1:List Nat:= [0,1,0,4,15,0,32,0,128,511,1023,2047]
theorem jK.tab1:rtab .any (opsOf Tryz.f121 1)=jK.T1:=by kernel_rfl
theorem jK.aAz:kX jK.T1.2 jK.B1=true:=by kernel_rfl
theorem jK.calls(k:Nat)(D7:Bool)(y9 C9:ByteArray)(D8:Bool)(D5 D6:ByteArray)(r1:Bool)(r2 r3:ByteArray)(w:World)(hG:GW w)(h:jK.f k D7 y9 C9 D8 D5 D6=some (r1,r2,r3)) :
 Calls Tryz.prog 121 #[.agg #[.bool D7,.string y9,.string C9],.agg #[.bool D8,.string D5,.string D6]] w fun e w'=>e= .returned (.agg #[.bool r1,.string r2,.string r3])∧Below w.heap.size w w':=by
 have HG:=aA.mk hG;clear hG;have hu36:=Tryz.underlying36;have HB:=aA.mk (Below.refl w.heap.size w);have H:((fU.f y9 D5).bind fun F9=>((jQ.f C9 D6).bind fun G5=>((dS.f k F9 G5).bind fun D9=>(some (D9.1,D9.2.1,D9.2.2)))))=some (r1,r2,r3):=h;clear h;obtain⟨F9,A3,H⟩:=bi H;try dsimp only at H
 obtain⟨G5,A4,H⟩:=bi H;try dsimp only at H
 obtain⟨⟨G6,G7,G8⟩,A5,H⟩:=bi H;try dsimp only at H
 simp only[Option.some.injEq,Prod.mk.injEq] at H;obtain⟨rfl,rfl,rfl⟩:=H;go_enter Tryz.func121,Tryz.ntmps121
 try go_wp2_with(first|((with_reducible refine aG (N:=2) rfl ?_);refine bx_ 2 36 #[.bool D7,.string y9,.string C9] (h:= ?_);intro E8 hg w6 y8 hb;have o5:=aA.mk (y8);have G9:=pkG HB hg;have H7:=G9;replace HB:=pkB HB hb;clear hb y8 hg)|((with_reducible refine aG (N:=3) rfl ?_);refine bx_ 3 36 #[.bool D8,.string D5,.string D6] (h:= ?_);intro F5 hg w7 y8 hb;have o6:=aA.mk (y8);have H5:=pkG HB hg;have H8:=H5;obtain⟨H9,I4,_,_⟩:=pkQ o5 hg;replace o5:=pkK o5 hb;replace HB:=pkB HB hb;clear hb y8 hg)|((with_reducible refine aG (N:=4) rfl ?_);refine bx_ 4 36 #[.bool false,.string ⟨#[]⟩,.string ⟨#[]⟩] (h:= ?_);intro l9 hg w8 y8 hb;have o7:=aA.mk (y8);have H6:=pkG HB hg;have I5:=H6;obtain⟨o8,F6,_,_⟩:=pkQ o5 hg;obtain⟨o9,F7,_,_⟩:=pkQ o6 hg;replace o5:=pkK o5 hb;replace o6:=pkK o6 hb;replace HB:=pkB HB hb;clear hb y8 hg))
 replace o5:=aA.mk (aK o5.out);replace o6:=aA.mk (aK o6.out);replace o7:=aA.mk (aK o7.out);replace HB:=aA.mk (aJ HB.out)
 refine kF (n:=12) (S:=fun w'=>w'.cell? ⟨E8,0,none⟩=some (.bool D7)∧w'.cell? ⟨E8,1,none⟩=some (.string y9)∧w'.cell? ⟨E8,2,none⟩=some (.string C9)∧w'.cell? ⟨F5,0,none⟩=some (.bool D8)∧w'.cell? ⟨F5,1,none⟩=some (.string D5)∧w'.cell? ⟨F5,2,none⟩=some (.string D6)) (ds:= []) #[false,false,false,false,false,false,false,false,false,false,false,false] (by kernel_rfl) rfl rfl (pc3 o5 (pcL o6)) (fun hHeld=> ?_);refine jZ jK.tab1 jK.aAz (fun HT_ HW_=> ?_)
 generalize w8.drew=w9 at o5 o6 o7 HB hHeld ⊢;refine pr_ 0 5 (h:= ?_);refine pr_ 2 7 (h:= ?_);refine pr_ 5 10 (h:= ?_);refine pr_ 7 12 (h:= ?_);refine tk_ 1 6 hHeld (hy:=hy6) (h:= ?_);refine tk_ 3 8 hHeld (hy:=hy6) (h:= ?_);refine tk_ 6 11 hHeld (hy:=hy6) (h:= ?_);refine tk_ 8 13 hHeld (hy:=hy6) (h:= ?_);refine on_ 4 9 (h:=fun K hK=> ?_);refine gR Tryz.func110 (fU.calls (hG:=HG.out.below (pkL HB)) (h:=A3.out)) (h:= ?_);intro I7 hb;replace o5:=pkK o5 hb;replace o6:=pkK o6 hb;replace o7:=pkK o7 hb;replace HB:=pkB HB hb
 clear hb;refine hK.out _ _ (pc3 o5 (pcL o6)) (fun hHeld=> ?_);clear hK K;refine nm_ (h:= ?_);refine on_ 9 14 (h:=fun K hK=> ?_);refine gR Tryz.func111 (jQ.calls (hG:=HG.out.below (pkL HB)) (h:=A4.out)) (h:= ?_);intro I8 hb;replace o5:=pkK o5 hb;replace o6:=pkK o6 hb;replace o7:=pkK o7 hb;replace HB:=pkB HB hb
 clear hb;refine hK.out _ _ (pc3 o5 (pcL o6)) (fun hHeld=> ?_);clear hK K;refine nm_ (h:= ?_);refine on_ 10 15 (h:=fun K hK=> ?_);refine gR Tryz.func109 (dS.calls (hG:=HG.out.below (pkL HB)) (h:=A5.out)) (h:= ?_);intro F8 hb;replace o5:=pkK o5 hb;replace o6:=pkK o6 hb;replace o7:=pkK o7 hb;replace HB:=pkB HB hb
 clear hb;refine hK.out _ _ (pc3 o5 (pcL o6)) (fun hHeld=> ?_);clear hK K;refine nm_ (h:= ?_);refine one_ (i:=11) (N:=none) #[true,true,true,true,true,true,true,true,true,true,true,true] rfl rfl (tH HT_.out (by kernel_rfl)) aG0 (fun K hK=> ?_);have I9:F8.cell? ⟨l9,0,none⟩=some (.bool false):=(fF o7.out 0).trans rfl;have J3:=eG o7.out 0;have J4:=o8.out;have J5:=o9.out;have J6:=F6.out;have J7:=F7.out;have J8:F8.cell? ⟨l9,1,none⟩=some (.string ⟨#[]⟩):=(fF o7.out 1).trans rfl;have J9:=eG o7.out 1;have L6:=o8.out;have L8:=o9.out;have L9:=F6.out;have N7:=F7.out;have N8:F8.cell? ⟨l9,2,none⟩=some (.string ⟨#[]⟩):=(fF o7.out 2).trans rfl;have N9:=eG o7.out 2;have O0:=o8.out;have O1:=o9.out;have O3:=F6.out;have O4:=F7.out;refine uQ (w1:= ?_) (by rfl) rfl ?_ ?_
 rotate_left
 ·go_simp
  rfl
 refine hK.out _ _ ⟨((aG2 (p:=⟨l9,_,none⟩) o8.out _).trans (((aG2 (p:=⟨l9,_,none⟩) o8.out _).trans (((aG2 (p:=⟨l9,_,none⟩) o8.out _).trans (hHeld.1)))))),((aG2 (p:=⟨l9,_,none⟩) o8.out _).trans (((aG2 (p:=⟨l9,_,none⟩) o8.out _).trans (((aG2 (p:=⟨l9,_,none⟩) o8.out _).trans (hHeld.2.1)))))),((aG2 (p:=⟨l9,_,none⟩) o8.out _).trans (((aG2 (p:=⟨l9,_,none⟩) o8.out _).trans (((aG2 (p:=⟨l9,_,none⟩) o8.out _).trans (hHeld.2.2.1)))))),((aG2 (p:=⟨l9,_,none⟩) o9.out _).trans (((aG2 (p:=⟨l9,_,none⟩) o9.out _).trans (((aG2 (p:=⟨l9,_,none⟩) o9.out _).trans (hHeld.2.2.2.1)))))),((aG2 (p:=⟨l9,_,none⟩) o9.out _).trans (((aG2 (p:=⟨l9,_,none⟩) o9.out _).trans (((aG2 (p:=⟨l9,_,none⟩) o9.out _).trans (hHeld.2.2.2.2.1)))))),((aG2 (p:=⟨l9,_,none⟩) o9.out _).trans (((aG2 (p:=⟨l9,_,none⟩) o9.out _).trans (((aG2 (p:=⟨l9,_,none⟩) o9.out _).trans (hHeld.2.2.2.2.2))))))⟩ (fun hHeld=> ?_);clear hK K;refine kY (lK HT_.out (by kernel_rfl)) ?_
 try go_wp2
 refine bodyPost_ret (results_cell_row rfl _ _ l9 36 #[.bool G6,.string G7,.string G8] (0,0) _ rfl (pkS3 o7) Tryz.underlying36 rfl (by kernel_rfl)) rfl ?_;exact pkE HB
end Go.Proofs.YtignanmmgaldeaaGreatDoor.PCongI
end
section
namespace Go.Proofs.YtignanmmgaldeaaGreatDoor.PCongI
open Go.RowKit Go.Proofs.YtignanmmgaldeaaGreatDoorW.PrintWords Go.Proofs.YtignanmmgaldeaaGreatDoorW.PrintLast Go.Proofs.YtignanmmgaldeaaGreatDoorW.PrintMore
attribute [local go_sem] dQ dR eH eP
attribute [local go_sem high] yJ
def vM.f(k:Nat)(a0_0:Bool)(a0_1 a0_2:ByteArray)(a1_0:Bool)(a1_1 a1_2:ByteArray):Option (Bool×ByteArray×ByteArray×Int):=(bM.f (jK.f k) k a0_0 a0_1 a0_2 a1_0 a1_1 a1_2).bind fun bt121=>(some (bt121.1,bt121.2.1,bt121.2.2.1,bt121.2.2.2))
theorem vM.calls(k:Nat)(o6:Bool)(o7 o8:ByteArray)(o9:Bool)(y8 y9:ByteArray)(r1:Bool)(r2 r3:ByteArray)(r4:Int)(w:World)(hG:GW w)(h:vM.f k o6 o7 o8 o9 y8 y9=some (r1,r2,r3,r4)) :
 Calls Tryz.prog 52 #[.agg #[.bool o6,.string o7,.string o8],.agg #[.bool o9,.string y8,.string y9]] w fun e w'=>e= .returned (.tuple #[.agg #[.bool r1,.string r2,.string r3],.int .i64 r4])∧Below w.heap.size w w':=by
 have HG:=aA.mk hG;clear hG;have hu36:=Tryz.underlying36;have HB:=aA.mk (Below.refl w.heap.size w);have H:((bM.f (jK.f k) k o6 o7 o8 o9 y8 y9).bind fun D5=>(some (D5.1,D5.2.1,D5.2.2.1,D5.2.2.2)))=some (r1,r2,r3,r4):=h;clear h;obtain⟨⟨D7,D8,D9,E8⟩,A3,H⟩:=bi H;try dsimp only at H
 simp only[Option.some.injEq,Prod.mk.injEq] at H;obtain⟨rfl,rfl,rfl,rfl⟩:=H;go_enter Tryz.func52,Tryz.ntmps52
 go_wp2_with(first|((with_reducible refine aG (N:=2) rfl ?_);refine bx_ 2 36 #[.bool o6,.string o7,.string o8] (h:= ?_);intro H5 hg w4 o5 hb;have l9:=aA.mk (o5);have F5:=pkG HB hg;have H6:=F5;replace HB:=pkB HB hb;clear hb o5 hg)|((with_reducible refine aG (N:=3) rfl ?_);refine bx_ 3 36 #[.bool o9,.string y8,.string y9] (h:= ?_);intro H7 hg w5 o5 hb;have C9:=aA.mk (o5);have F6:=pkG HB hg;have H8:=F6;obtain⟨F7,F8,_,_⟩:=pkQ l9 hg;replace l9:=pkK l9 hb;replace HB:=pkB HB hb;clear hb o5 hg)|((with_reducible refine aG (N:=4) rfl ?_);refine bx_ 4 36 #[.bool false,.string ⟨#[]⟩,.string ⟨#[]⟩] (h:= ?_);intro F9 hg w6 o5 hb;have D6:=aA.mk (o5);have G5:=pkG HB hg;have H9:=G5;obtain⟨G6,G7,_,_⟩:=pkQ l9 hg;obtain⟨G8,G9,_,_⟩:=pkQ C9 hg;replace l9:=pkK l9 hb;replace C9:=pkK C9 hb;replace HB:=pkB HB hb;clear hb o5 hg;have I4:=F7.out;have I5:=F8.out;have I7:=G6.out;have I8:=G7.out;obtain⟨⟨I9,J3,J4⟩,J5,J6,J7⟩:=pk3 l9;have J8:=G8.out;have J9:=G9.out;obtain⟨⟨L6,L8,L9⟩,N7,N8,N9⟩:=pk3 C9)|((with_reducible refine aC (f:=101) rfl ?_);refine gl_ 10 Tryz.func101 #[.func (.func 121) #[] #[],.agg #[.bool o6,.string o7,.string o8],.agg #[.bool o9,.string y8,.string y9]] (h:= ?_);(with_reducible refine(bM.calls (hG:=HG.out.below (pkL HB)) k 121 Tryz.f121 Tryz.func121 (by kernel_rfl) rfl (jK.f k) (fun a0 a1 a2 b0 b1 b2 r1 r2 r3 w hG h=>jK.calls (hG:=hG) k a0 a1 a2 b0 b1 b2 r1 r2 r3 w h) o6 o7 o8 o9 y8 y9 D7 D8 D9 E8 _ A3.out).mono ?_);rintro e O0 ⟨rfl,hb⟩;refine⟨_,rfl,?_⟩;replace l9:=pkK l9 hb;replace C9:=pkK C9 hb;replace D6:=pkK D6 hb;replace HB:=pkB HB hb;try clear hb;obtain⟨⟨O1,O3,O4⟩,O5,O6,O7⟩:=pk3 D6))
 refine bodyPost_ret (gW rfl _ _ F9 36 #[.bool D7,.string D8,.string D9] (0,0) _ rfl (pkS3 D6) Tryz.underlying36 rfl (by kernel_rfl)) rfl ?_;exact pkE HB
end Go.Proofs.YtignanmmgaldeaaGreatDoor.PCongI
end
section
namespace Go.Proofs.YtignanmmgaldeaaGreatDoor.CongM
open Go.RowKit Go.Proofs.YtignanmmgaldeaaGreatDoor.RefP Go.Proofs.YtignanmmgaldeaaGreatDoor.PCongI Go.Proofs.YtignanmmgaldeaaGreatDoorW.PrintWords Go.Proofs.YtignanmmgaldeaaGreatDoorW.PrintLast
theorem aD8(m a:Int):((m.natAbs:Int)∣a)↔m∣a:=Int.natAbs_dvd
theorem yG(r s m:Int):r%m=s%m↔m∣r-s:=by
 rw[Int.emod_eq_emod_iff_emod_sub_eq_zero,Int.dvd_iff_emod_eq_zero]
theorem zD{M:Nat}{m m' r r':Int}(h:m.natAbs=m'.natAbs)(k:m∣r-r'):cls M m r=cls M m' r':=by
 have e:r%(m.natAbs:Int)=r'%(m.natAbs:Int):=(yG _ _ _).2 ((aD8 _ _).2 k);unfold cls;rw[←h,e]
def subC(M:Nat)(c d:Int×Int):Int×Int:=cls M (gcdI c.1 d.1) (c.2+ -d.2)
theorem sub1_val{c d:Int×Int}(hc:jY (some c))(hd:jY (some d))(k:Nat):jK.f (k+1) false (text c.1) (text c.2) false (text d.1) (text d.2)=some (encC (some (subC 100 c d))):=by
 have bg:Bd 101 (gcdI c.1 d.1):=by
  have:=oQ c.1 d.1;have h1:=hc.2.1;have h2:=hd.2.1;unfold Bd at *
  rw[Nat.pow_succ];generalize (10:Nat) ^ 100=P at *
  omega
 unfold jK.f;rw[zN hc.2.1 hd.2.1 aFx aFx,Option.bind_some,aD7 hc.2.2 hd.2.2 aFx aFx,Option.bind_some,tV bg (hc.2.2.add hd.2.2.neg) aFx aFx,Option.bind_some];rfl
theorem text_eq(x y:Int):((text x).toList==(text y).toList)=decide (x=y):=by
 by_cases h:x=y
 ·rw[decide_eq_true h,h];exact beq_self_eq_true _
 ·rw[decide_eq_false h]
  simp only[beq_eq_false_iff_ne,ne_eq,toList_data];exact fun q=>h (aC8 (nZ q))
end Go.Proofs.YtignanmmgaldeaaGreatDoor.CongM
end
section
namespace Go.Proofs.YtignanmmgaldeaaGreatDoor
open Go.RowKit Go.Proofs.YtignanmmgaldeaaGreatDoor.RefP Go.Proofs.YtignanmmgaldeaaGreatDoor.PCongI Go.Proofs.YtignanmmgaldeaaGreatDoor.CongM Go.Proofs.YtignanmmgaldeaaGreatDoorW.PrintWords Go.Proofs.YtignanmmgaldeaaGreatDoorW.PrintLast
def kG.o:Option (Int×Int)→Option (Int×Int)→Option (Int×Int):=bothO fun c d=>some (subC 100 c d)
theorem kG.val(o8:Bool)(l9 o5:ByteArray)(o9:Bool)(o6 o7:ByteArray)(hs:few4 l9 o5 o6 o7):vM.f 5 o8 l9 o5 o9 o6 o7=some (resC kG.o o8 l9 o5 o9 o6 o7):=by
 unfold vM.f;rw[aAs (F:=fun c d=>some (subC 100 c d)) (fun c d gc gd=>sub1_val gc gd 4) o8 l9 o5 o9 o6 o7 hs 5 (Nat.le_refl _),Option.bind_some];rfl
def kG.f(a0_0:Bool)(a0_1 a0_2:ByteArray)(a1_0:Bool)(a1_1 a1_2:ByteArray):Option (Bool×ByteArray×ByteArray×Int):=if few4 a0_1 a0_2 a1_1 a1_2 then some (resC kG.o a0_0 a0_1 a0_2 a1_0 a1_1 a1_2) else none
theorem kG.calls(l9:Bool)(o5 o6:ByteArray)(o7:Bool)(o8 o9:ByteArray)(b1:Bool)(s2 s3:ByteArray)(i4:Int)(w:World)(hG:GW w)(h:kG.f l9 o5 o6 o7 o8 o9=some (b1,s2,s3,i4)) :
 Calls Tryz.prog 52 #[.agg #[.bool l9,.string o5,.string o6],.agg #[.bool o7,.string o8,.string o9]] w fun e w'=>e= .returned (.tuple #[.agg #[.bool b1,.string s2,.string s3],.int .i64 i4])∧Below w.heap.size w w':=by
 unfold kG.f at h
 split at h
 ·rename_i hs
  rw[←kG.val l9 o5 o6 o7 o8 o9 hs] at h;exact vM.calls 5 l9 o5 o6 o7 o8 o9 b1 s2 s3 i4 w hG h
 ·cases h
end Go.Proofs.YtignanmmgaldeaaGreatDoor
end
section
namespace Go.Proofs.YtignanmmgaldeaaGreatDoor.PLawB
open Go.RowKit Go.Proofs.YtignanmmgaldeaaGreatDoorW.PrintWords Go.Proofs.YtignanmmgaldeaaGreatDoorW.PrintLast Go.Proofs.YtignanmmgaldeaaGreatDoorW.PrintMore
attribute [local go_sem] dQ dR eH eP
theorem oP(w:World)(base:Nat)(ok:Nat→Prop)(x:S36):k36.M w base ok x [.bool x.f0,.string x.f1,.string x.f2]:=⟨[.bool x.f0],[.string x.f1,.string x.f2],rfl,rfl,⟨[.string x.f1],[.string x.f2],rfl,rfl,rfl⟩⟩
end Go.Proofs.YtignanmmgaldeaaGreatDoor.PLawB
end
section
namespace Go.Proofs.YtignanmmgaldeaaGreatDoor.PLawB
open Go.RowKit Go.Proofs.YtignanmmgaldeaaGreatDoorW.PrintWords Go.Proofs.YtignanmmgaldeaaGreatDoorW.PrintLast Go.Proofs.YtignanmmgaldeaaGreatDoorW.PrintMore
attribute [local go_sem] dQ dR eH eP
def bU.f(a0:ByteArray):Option (Int):=(jU.f a0).bind fun t109=>(if t109=true then((iW.f a0).bind fun t110=>(if t110>100 then(some 10) else(some 0))) else(some 3))
theorem bU.calls(a0:ByteArray)(r:Int)(w:World)(h:bU.f a0=some r) :
 Calls Tryz.prog 141 #[.string a0] w fun e w'=>e= .returned (.int .i64 r)∧eQ w w':=by
 have H:((jU.f a0).bind fun o5=>(if o5=true then((iW.f a0).bind fun l9=>(if l9>100 then(some 10) else(some 0))) else(some 3)))=some r:=h;clear h;obtain⟨o5,A2,H⟩:=bi H;try dsimp only at H
 go_enter Tryz.func141,Tryz.ntmps141
 refine byC (P:=o5=true) (fun c3=> ?a2) (fun c3=> ?b2)
 case' a2=>
  subst c3;rw[if_pos rfl] at H;obtain⟨l9,A4,H⟩:=bi H;try dsimp only at H
  refine byC (P:=l9>100) (fun c5=> ?a3) (fun c5=> ?b3)
  case' a3=>
   rw[if_pos c5] at H;have o6:=decide_eq_true c5;clear c5;obtain rfl:=Option.some.inj H
  case' b3=>
   rw[if_neg c5] at H;have o6:=decide_eq_false c5;clear c5;obtain rfl:=Option.some.inj H
 case' b2=>
  replace c3:=Bool.eq_false_iff.mpr c3;subst c3;rw[if_neg (show ¬(false=true) by decide)] at H;obtain rfl:=Option.some.inj H
 all_goals
  go_wp2_with(first|((with_reducible refine aC (f:=184) rfl ?_);refine gl_ 4 Tryz.func184 #[.string a0] (h:= ?_);(with_reducible refine(jU.calls a0 _ _ A2.out).mono ?_);rintro e w' ⟨rfl,⟨nd,rfl⟩⟩;refine⟨_,rfl,?_⟩)|((with_reducible refine aC (f:=149) rfl ?_);refine gl_ 7 Tryz.func149 #[.string a0] (h:= ?_);(with_reducible refine(iW.calls a0 l9 _ A4.out).mono ?_);rintro e w' ⟨rfl,⟨nd,rfl⟩⟩;refine⟨_,rfl,?_⟩))
  go_ret
  exact dr_
def fH.f(a0_0:Bool)(a0_1 a0_2:ByteArray):Option (Int):=if a0_0=true then(if a0_1.toList=([]:List UInt8) then(if a0_2.toList=([]:List UInt8) then(some 0) else(some 3)) else(some 3)) else((bU.f a0_1).bind fun t112=>(if t112=0 then((bU.f a0_2).bind fun t113=>(if t113=0 then((gV.f a0_1).bind fun t114=>(if t114<0 then(some 2) else(if a0_1.toList=([48]:List UInt8) then(some 0) else((gV.f a0_2).bind fun t115=>(if t115<0 then(some 2) else((jB.f a0_2 a0_1).bind fun t116=>(if t116=true then(some 0) else(some 2)))))))) else(some t113))) else(some t112)))
theorem fH.calls(D6:Bool)(l9 o5:ByteArray)(r:Int)(w:World)(h:fH.f D6 l9 o5=some r) :
 Calls Tryz.prog 67 #[.agg #[.bool D6,.string l9,.string o5]] w fun e w'=>e= .returned (.int .i64 r)∧Below w.heap.size w w':=by
 have hu36:=Tryz.underlying36;have HB:=aA.mk (Below.refl w.heap.size w);have H:(if D6=true then(if l9.toList=([]:List UInt8) then(if o5.toList=([]:List UInt8) then(some 0) else(some 3)) else(some 3)) else((bU.f l9).bind fun y9=>(if y9=0 then((bU.f o5).bind fun C9=>(if C9=0 then((gV.f l9).bind fun D7=>(if D7<0 then(some 2) else(if l9.toList=([48]:List UInt8) then(some 0) else((gV.f o5).bind fun D8=>(if D8<0 then(some 2) else((jB.f o5 l9).bind fun D9=>(if D9=true then(some 0) else(some 2)))))))) else(some C9))) else(some y9))))=some r:=h;clear h;go_enter Tryz.func67,Tryz.ntmps67
 refine byC (P:=D6=true) (fun c2=> ?a4) (fun c2=> ?b4)
 case' a4=>
  subst c2;rw[if_pos rfl] at H;refine byC (P:=l9.toList=([]:List UInt8)) (fun c3=> ?a5) (fun c3=> ?b5)
  case' a5=>
   rw[if_pos c3] at H;obtain⟨F6,F7⟩:=bT c3;clear c3;refine byC (P:=o5.toList=([]:List UInt8)) (fun c4=> ?a6) (fun c4=> ?b6)
   case' a6=>
    rw[if_pos c4] at H;obtain⟨F8,F9⟩:=bT c4;clear c4;obtain rfl:=Option.some.inj H
   case' b6=>
    rw[if_neg c4] at H;obtain⟨F8,F9⟩:=bF c4;obtain rfl:=Option.some.inj H
  case' b5=>
   rw[if_neg c3] at H;obtain⟨F6,F7⟩:=bF c3;obtain rfl:=Option.some.inj H
 case' b4=>
  replace c2:=Bool.eq_false_iff.mpr c2;subst c2;rw[if_neg (show ¬(false=true) by decide)] at H;obtain⟨y9,G5,H⟩:=bi H;try dsimp only at H
  refine byC (P:=y9=0) (fun o8=> ?a7) (fun o8=> ?b7)
  case' a7=>
   rw[if_pos o8] at H;obtain⟨G6,G7⟩:=bT o8;clear o8;obtain⟨C9,G8,H⟩:=bi H;try dsimp only at H
   refine byC (P:=C9=0) (fun o9=> ?a8) (fun o9=> ?b8)
   case' a8=>
    rw[if_pos o9] at H;obtain⟨G9,H5⟩:=bT o9;clear o9;obtain⟨D7,H6,H⟩:=bi H;try dsimp only at H
    refine byC (P:=D7<0) (fun o6=> ?a9) (fun o6=> ?b9)
    case' a9=>
     rw[if_pos o6] at H;have H7:=decide_eq_true o6;clear o6;obtain rfl:=Option.some.inj H
    case' b9=>
     rw[if_neg o6] at H;have H7:=decide_eq_false o6;clear o6;refine byC (P:=l9.toList=([48]:List UInt8)) (fun y8=> ?a10) (fun y8=> ?b10)
     case' a10=>
      rw[if_pos y8] at H;obtain⟨H8,H9⟩:=bT y8;clear y8;obtain rfl:=Option.some.inj H
     case' b10=>
      rw[if_neg y8] at H;obtain⟨H8,H9⟩:=bF y8;obtain⟨D8,I4,H⟩:=bi H;try dsimp only at H
      refine byC (P:=D8<0) (fun o7=> ?a11) (fun o7=> ?b11)
      case' a11=>
       rw[if_pos o7] at H;have I5:=decide_eq_true o7;clear o7;obtain rfl:=Option.some.inj H
      case' b11=>
       rw[if_neg o7] at H;have I5:=decide_eq_false o7;clear o7;obtain⟨D9,I7,H⟩:=bi H;try dsimp only at H
       refine byC (P:=D9=true) (fun D5=> ?a12) (fun D5=> ?b12)
       case' a12=>
        subst D5;rw[if_pos rfl] at H;obtain rfl:=Option.some.inj H
       case' b12=>
        replace D5:=Bool.eq_false_iff.mpr D5;subst D5;rw[if_neg (show ¬(false=true) by decide)] at H;obtain rfl:=Option.some.inj H
   case' b8=>
    rw[if_neg o9] at H;obtain⟨G9,H5⟩:=bF o9;obtain rfl:=Option.some.inj H
  case' b7=>
   rw[if_neg o8] at H;obtain⟨G6,G7⟩:=bF o8;obtain rfl:=Option.some.inj H
 all_goals
  go_wp2_with(first|((with_reducible refine aG (N:=1) rfl ?_);refine bx_ 1 36 #[.bool _,.string l9,.string o5] (h:= ?_);intro I9 hg w5 F5 hb;have E8:=aA.mk (F5);have I8:=pkG HB hg;have J3:=I8;replace HB:=pkB HB hb;clear hb F5 hg;obtain⟨⟨J4,J5,J6⟩,J7,J8,J9⟩:=pk3 E8)|((with_reducible refine aC (f:=141) rfl ?_);refine gl_ 17 Tryz.func141 #[.string l9] (h:= ?_);(with_reducible refine(bU.calls l9 y9 _ G5.out).mono ?_);rintro e w' ⟨rfl,⟨nd,rfl⟩⟩;refine⟨_,rfl,?_⟩)|((with_reducible refine aC (f:=141) rfl ?_);refine gl_ 23 Tryz.func141 #[.string o5] (h:= ?_);(with_reducible refine(bU.calls o5 C9 _ G8.out).mono ?_);rintro e w' ⟨rfl,⟨nd,rfl⟩⟩;refine⟨_,rfl,?_⟩)|((with_reducible refine aC (f:=142) rfl ?_);refine gl_ 29 Tryz.func142 #[.string l9] (h:= ?_);(with_reducible refine(gV.calls l9 D7 _ H6.out).mono ?_);rintro e w' ⟨rfl,⟨nd,rfl⟩⟩;refine⟨_,rfl,?_⟩)|(go_at_call 142;(with_reducible refine(gV.calls o5 D8 _ I4.out).mono ?_);rintro e w' ⟨rfl,⟨nd,rfl⟩⟩)|(go_at_call 143;(with_reducible refine(jB.calls o5 l9 _ _ I7.out).mono ?_);rintro e L6 ⟨rfl,hb⟩;replace E8:=pkK E8 hb;replace HB:=pkB HB hb;try clear hb))
  go_ret
  exact pkE HB
end Go.Proofs.YtignanmmgaldeaaGreatDoor.PLawB
end
section
namespace Go.Proofs.YtignanmmgaldeaaGreatDoor.LawC
open Go.RowKit Go.Proofs.YtignanmmgaldeaaGreatDoor Go.Proofs.YtignanmmgaldeaaGreatDoor.PLawB Go.Proofs.YtignanmmgaldeaaGreatDoor.RefP Go.Proofs.YtignanmmgaldeaaGreatDoor.PCongI Go.Proofs.YtignanmmgaldeaaGreatDoor.CongM Go.Proofs.YtignanmmgaldeaaGreatDoorW.PrintWords
theorem pJ(a:ByteArray)(ha:a.size≤140737488351232):bU.f a=some (numC a):=by
 unfold bU.f jU.f numC;rw[if_pos ha,Option.bind_some]
 by_cases hc:canon a.data.toList=true
 ·rw[if_pos hc,if_pos hc]
  have h0:0<a.size:=by
   rcases Nat.eq_zero_or_pos a.size with h|h
   ·rw[Lib.size_eq] at h
    rw[List.eq_nil_of_length_eq_zero h] at hc;exact absurd hc aG0
   ·exact h
  unfold iW.f;rw[if_pos ⟨h0,ha⟩,Option.bind_some]
  by_cases hd:100<digN a
  ·rw[if_pos hd,if_pos aFx]
  ·rw[if_neg hd,if_neg aFx]
 ·rw[if_neg hc,if_neg hc]
theorem qU(x:Int):((text x).toList=([48]:List UInt8))↔x=0:=by
 have h:=text_eq x 0;rw[show(text 0).toList=([48]:List UInt8) by decide +kernel] at h
 constructor
 ·intro e;rw[e] at h;simpa using h
 ·intro e;subst e;decide +kernel
theorem xN(e:Bool)(m r:ByteArray)(hm:m.size≤140737488351232)(hr:r.size≤140737488351232):fH.f e m r=some (chkC e m r):=by
 unfold fH.f chkC
 by_cases he:e=true
 ·rw[if_pos he,if_pos he]
  split
  ·split <;> rfl
  ·rfl
 ·rw[if_neg he,if_neg he,pJ m hm,Option.bind_some]
  by_cases h1:numC m=0
  ·rw[if_pos h1,if_pos h1,pJ r hr,Option.bind_some]
   by_cases h2:numC r=0
   ·rw[if_pos h2,if_pos h2]
    obtain⟨x,rfl,bx⟩:=sO h1;obtain⟨y,rfl,by'⟩:=sO h2;rw[bC,bC,sG bx aFx aFx,Option.bind_some]
    by_cases hx:x<0
    ·rw[if_pos ((mD x).2 hx),if_pos (show rngC x y from Or.inl hx)]
    ·rw[if_neg (fun q=>hx ((mD x).1 q))]
     by_cases h0:x=0
     ·rw[if_pos ((qU x).2 h0),if_neg (show ¬rngC x y by unfold rngC;omega)]
     ·rw[if_neg (fun q=>h0 ((qU x).1 q)),sG by' aFx aFx,Option.bind_some]
      by_cases hy:y<0
      ·rw[if_pos ((mD y).2 hy),if_pos (show rngC x y by unfold rngC;omega)]
      ·rw[if_neg (fun q=>hy ((mD y).1 q)),zC by' bx aFx aFx,Option.bind_some]
       by_cases hl:y<x
       ·rw[if_pos (decide_eq_true hl),if_neg (show ¬rngC x y by unfold rngC;omega)]
       ·rw[if_neg (by simpa using hl),if_pos (show rngC x y by unfold rngC;omega)]
   ·rw[if_neg h2,if_neg h2]
  ·rw[if_neg h1,if_neg h1]
end Go.Proofs.YtignanmmgaldeaaGreatDoor.LawC
end
section
namespace Go.Proofs.YtignanmmgaldeaaGreatDoor
open Go.RowKit Go.Proofs.YtignanmmgaldeaaGreatDoor.PLawB Go.Proofs.YtignanmmgaldeaaGreatDoor.LawC Go.Proofs.YtignanmmgaldeaaGreatDoor.RefP Go.Proofs.YtignanmmgaldeaaGreatDoor.PCongI Go.Proofs.YtignanmmgaldeaaGreatDoor.CongM Go.Proofs.YtignanmmgaldeaaGreatDoorW.PrintWords
def dE.f(e:Bool)(m r:ByteArray):Option Int:=if m.size≤1000000∧r.size≤1000000 then some (chkC e m r) else none
theorem dE.calls(o6:Bool)(l9 o5:ByteArray)(r:Int)(w:World)(h:dE.f o6 l9 o5=some r) :
 Calls Tryz.prog 67 #[.agg #[.bool o6,.string l9,.string o5]] w fun e w'=>e= .returned (.int .i64 r)∧Below w.heap.size w w':=by
 unfold dE.f at h
 by_cases hz:l9.size≤1000000∧o5.size≤1000000
 ·rw[if_pos hz] at h
  exact fH.calls o6 l9 o5 r w (by rw[xN _ _ _ aFx aFx];exact h)
 ·rw[if_neg hz] at h;cases h
end Go.Proofs.YtignanmmgaldeaaGreatDoor
end
section
namespace Go.Proofs.YtignanmmgaldeaaGreatDoor.PRefQ
open Go.RowKit Go.Proofs.YtignanmmgaldeaaGreatDoorW.PrintWords Go.Proofs.YtignanmmgaldeaaGreatDoorW.PrintLast Go.Proofs.YtignanmmgaldeaaGreatDoorW.PrintMore
attribute [local go_sem] dQ dR eH eP
def bQ.f(a0_0:Bool)(a0_1 a0_2:ByteArray)(a1_0:Bool)(a1_1 a1_2:ByteArray):Option (Int):=(dE.f a0_0 a0_1 a0_2).bind fun t138=>(if t138=0 then((dE.f a1_0 a1_1 a1_2).bind fun t139=>(some t139)) else(some t138))
theorem bQ.calls(o7:Bool)(o8 o9:ByteArray)(y8:Bool)(y9 C9:ByteArray)(r:Int)(w:World)(h:bQ.f o7 o8 o9 y8 y9 C9=some r) :
 Calls Tryz.prog 102 #[.agg #[.bool o7,.string o8,.string o9],.agg #[.bool y8,.string y9,.string C9]] w fun e w'=>e= .returned (.int .i64 r)∧Below w.heap.size w w':=by
 have hu36:=Tryz.underlying36;have HB:=aA.mk (Below.refl w.heap.size w);have H:((dE.f o7 o8 o9).bind fun D5=>(if D5=0 then((dE.f y8 y9 C9).bind fun D6=>(some D6)) else(some D5)))=some r:=h;clear h;obtain⟨D5,A3,H⟩:=bi H;try dsimp only at H
 go_enter Tryz.func102,Tryz.ntmps102
 refine byC (P:=D5=0) (fun c4=> ?a4) (fun c4=> ?b4)
 case' a4=>
  rw[if_pos c4] at H;obtain⟨D7,D8⟩:=bT c4;clear c4;obtain⟨D6,A5,H⟩:=bi H;try dsimp only at H
  obtain rfl:=Option.some.inj H
 case' b4=>
  rw[if_neg c4] at H;obtain⟨D7,D8⟩:=bF c4;obtain rfl:=Option.some.inj H
 all_goals
  go_wp2_with(first|((with_reducible refine aG (N:=2) rfl ?_);refine bx_ 2 36 #[.bool o7,.string o8,.string o9] (h:= ?_);intro F7 hg w6 o6 hb;have l9:=aA.mk (o6);have D9:=pkG HB hg;have F8:=D9;replace HB:=pkB HB hb;clear hb o6 hg)|((with_reducible refine aG (N:=3) rfl ?_);refine bx_ 3 36 #[.bool y8,.string y9,.string C9] (h:= ?_);intro F9 hg w7 o6 hb;have o5:=aA.mk (o6);have E8:=pkG HB hg;have G5:=E8;obtain⟨F5,F6,_,_⟩:=pkQ l9 hg;replace l9:=pkK l9 hb;replace HB:=pkB HB hb;clear hb o6 hg;have G6:=F5.out;have G7:=F6.out;obtain⟨⟨G8,G9,H5⟩,H6,H7,H8⟩:=pk3 l9)|(have q_:=A3;(with_reducible refine aC (f:=67) rfl ?_);refine gM 7 Tryz.func67 (dE.calls (w:=_) (h:=A3.out)) (h:= ?_);intro H9 hb;replace l9:=pkK l9 hb;replace o5:=pkK o5 hb;replace HB:=pkB HB hb;try clear hb;clear A3 q_;obtain⟨⟨I4,I5,I7⟩,I8,I9,J3⟩:=pk3 o5)|((with_reducible refine aC (f:=67) rfl ?_);refine gM 12 Tryz.func67 (dE.calls (w:=_) (h:=A5.out)) (h:= ?_);intro J4 hb;replace l9:=pkK l9 hb;replace o5:=pkK o5 hb;replace HB:=pkB HB hb;try clear hb)|((with_reducible refine aC (f:=67) rfl ?_);refine gM 7 Tryz.func67 (dE.calls (w:=_) (h:=A3.out)) (h:= ?_);intro J5 hb;replace l9:=pkK l9 hb;replace o5:=pkK o5 hb;replace HB:=pkB HB hb;try clear hb))
  go_ret
  exact pkE HB
end Go.Proofs.YtignanmmgaldeaaGreatDoor.PRefQ
end
section
namespace Go.Proofs.YtignanmmgaldeaaGreatDoor.PRefQ
open Go.RowKit Go.Proofs.YtignanmmgaldeaaGreatDoorW.PrintWords Go.Proofs.YtignanmmgaldeaaGreatDoorW.PrintLast Go.Proofs.YtignanmmgaldeaaGreatDoorW.PrintMore
attribute [local go_sem] dQ dR eH eP
def fE.f:Option (Bool×ByteArray×ByteArray):=some (true,(⟨#[]⟩:ByteArray),(⟨#[]⟩:ByteArray))
theorem fE.calls(r1:Bool)(r2 r3:ByteArray)(w:World)(h:fE.f=some (r1,r2,r3)) :
 Calls Tryz.prog 179 #[] w fun e w'=>e= .returned (.agg #[.bool r1,.string r2,.string r3])∧Below w.heap.size w w':=by
 have hu36:=Tryz.underlying36;have HB:=aA.mk (Below.refl w.heap.size w);have H:(some (true,(⟨#[]⟩:ByteArray),(⟨#[]⟩:ByteArray)))=some (r1,r2,r3):=h;clear h;simp only[Option.some.injEq,Prod.mk.injEq] at H;obtain⟨rfl,rfl,rfl⟩:=H;go_enter Tryz.func179,Tryz.ntmps179
 go_wp2_with(first|((with_reducible refine aG (N:=0) rfl ?_);refine bx_ 0 36 #[.bool false,.string ⟨#[]⟩,.string ⟨#[]⟩] (h:= ?_);intro o6 hg w1 l9 hb;have o5:=aA.mk (l9);have o7:=pkG HB hg;have o8:=o7;replace HB:=pkB HB hb;clear hb l9 hg;obtain⟨⟨o9,y8,y9⟩,C9,D5,D6⟩:=pk3 o5))
 refine bodyPost_ret (results_cell_row rfl _ _ o6 36 #[.bool true,.string ⟨#[]⟩,.string ⟨#[]⟩] (0,0) _ rfl (pkS3 o5) Tryz.underlying36 rfl (by kernel_rfl)) rfl ?_;exact pkE HB
end Go.Proofs.YtignanmmgaldeaaGreatDoor.PRefQ
end
section
namespace Go.Proofs.YtignanmmgaldeaaGreatDoor.PRefQ
open Go.RowKit Go.Proofs.YtignanmmgaldeaaGreatDoorW.PrintWords Go.Proofs.YtignanmmgaldeaaGreatDoorW.PrintLast Go.Proofs.YtignanmmgaldeaaGreatDoorW.PrintMore
attribute [local go_sem] dQ dR eH eP
def eX.j0:Nat→Bool→Bool→ByteArray→ByteArray→Bool→ByteArray→ByteArray→Option (Bool×ByteArray×ByteArray)
 |0,_,_,_,_,_,_,_=>none
 |k+1,x10,x230000,x230001,x230002,x231000,x231001,x231002=>if x10=true then((fE.f).bind fun bt232=>(some (bt232.1,bt232.2.1,bt232.2.2))) else((fZ.f x230001 x231001).bind fun t235=>((iE.f x230002 x231002).bind fun t236=>((bJ.f k t235 t236).bind fun bt237=>(some (bt237.1,bt237.2.1,bt237.2.2)))))
def eX.f(k:Nat)(a0_0:Bool)(a0_1 a0_2:ByteArray)(a1_0:Bool)(a1_1 a1_2:ByteArray):Option (Bool×ByteArray×ByteArray):=if a0_0=true then(eX.j0 k true a0_0 a0_1 a0_2 a1_0 a1_1 a1_2) else(eX.j0 k a1_0 a0_0 a0_1 a0_2 a1_0 a1_1 a1_2)
def eX.T3:Bool×List (List Nat×List Nat):=(true,[([],[]),([0],[0]),([],[]),([2],[2]),([1,3],[1,3]),([],[]),([5],[5]),([],[]),([7],[7]),([6,8,4],[6,8]),([4,9,9],[4,9]),([10,10,0,1,2,3,4,5,6,7,8,9,10],[10])])
def eX.B3:List Nat:= [0,1,0,4,15,0,32,0,128,511,1023,2047]
theorem eX.tab3:rtab .any (opsOf Tryz.f122 3)=eX.T3:=by kernel_rfl
theorem eX.bits3:kX eX.T3.2 eX.B3=true:=by kernel_rfl
theorem eX.calls(k:Nat)(y8:Bool)(C9 D5:ByteArray)(y9:Bool)(D6 D7:ByteArray)(r1:Bool)(r2 r3:ByteArray)(w:World)(h:eX.f k y8 C9 D5 y9 D6 D7=some (r1,r2,r3)) :
 Calls Tryz.prog 122 #[.agg #[.bool y8,.string C9,.string D5],.agg #[.bool y9,.string D6,.string D7]] w fun e w'=>e= .returned (.agg #[.bool r1,.string r2,.string r3])∧Below w.heap.size w w':=by
 have hu36:=Tryz.underlying36;have HB:=aA.mk (Below.refl w.heap.size w);have H:(if y8=true then(eX.j0 k true y8 C9 D5 y9 D6 D7) else(eX.j0 k y9 y8 C9 D5 y9 D6 D7))=some (r1,r2,r3):=h;clear h;have F9:=aA.mk H;clear H;go_enter Tryz.func122,Tryz.ntmps122
 go_upto_region 1 with (first|((with_reducible refine aG (N:=2) rfl ?_);refine bx_ 2 36 #[.bool y8,.string C9,.string D5] (h:= ?_);intro F5 hg w4 D8 hb;have l9:=aA.mk (D8);have G8:=pkG HB hg;have J4:=G8;replace HB:=pkB HB hb;clear hb D8 hg)|((with_reducible refine aG (N:=3) rfl ?_);refine bx_ 3 36 #[.bool y9,.string D6,.string D7] (h:= ?_);intro F6 hg w5 D8 hb;have o7:=aA.mk (D8);have G9:=pkG HB hg;have J5:=G9;obtain⟨G6,G7,_,_⟩:=pkQ l9 hg;replace l9:=pkK l9 hb;replace HB:=pkB HB hb;clear hb D8 hg)|((with_reducible refine aG (N:=4) rfl ?_);refine bx_ 4 36 #[.bool false,.string ⟨#[]⟩,.string ⟨#[]⟩] (h:= ?_);intro o5 hg w6 D8 hb;have o6:=aA.mk (D8);have H5:=pkG HB hg;have J6:=H5;obtain⟨o8,D9,_,_⟩:=pkQ l9 hg;obtain⟨o9,E8,_,_⟩:=pkQ o7 hg;replace l9:=pkK l9 hb;replace o7:=pkK o7 hb;replace HB:=pkB HB hb;clear hb D8 hg))
 (try simp only[Act.put,List.setIfInBounds_toArray,List.set_cons_zero,List.set_cons_succ])
 go_cut [10] (fun v10 wc=>∃(kq:Nat) (F7:Bool),v10= .bool F7∧aA (eX.j0 kq F7 y8 C9 D5 y9 D6 D7=some (r1,r2,r3))∧aA (kq≤k)∧aA (wc.heap[F5]? =some (.cells #[.bool y8,.string C9,.string D5] 36 (0,0)))∧aA (wc.heap[F6]? =some (.cells #[.bool y9,.string D6,.string D7] 36 (0,0)))∧aA (wc.heap[o5]? =some (.cells #[.bool false,.string ⟨#[]⟩,.string ⟨#[]⟩] 36 (0,0)))∧aA (Below w.heap.size w wc))
 case first=>
  have H:=F9.out;clear F9
  by_cases c7:y8=true
  ·subst c7
   rw[if_pos rfl] at H;have H':=aA.mk H;clear H;have J7:=G6.out;have J8:=G7.out;have J9:=o8.out;have L6:=D9.out;obtain⟨⟨L8,L9,N7⟩,N8,N9,O0⟩:=pk3 l9;go_wp2
   go_meet
   case rel=>exact⟨_,(true),aG1,H',le_,⟨pkW l9⟩,⟨pkW o7⟩,⟨pkW o6⟩,⟨pkL HB⟩⟩
  ·replace c7:=Bool.eq_false_iff.mpr c7
   subst c7;rw[if_neg (show ¬(false=true) by decide)] at H;have H':=aA.mk H;clear H;have O1:=G6.out;have O3:=G7.out;have O4:=o8.out;have O5:=D9.out;obtain⟨⟨O6,O7,O8⟩,O9,P7,P8⟩:=pk3 l9;have P9:=o9.out;have Q3:=E8.out;obtain⟨⟨Q4,Q5,Q7⟩,Q8,Q9,S9⟩:=pk3 o7;go_wp2
   go_meet
   case rel=>exact⟨_,(y9),aG1,H',le_,⟨pkW l9⟩,⟨pkW o7⟩,⟨pkW o6⟩,⟨pkL HB⟩⟩
 case rest=>
  clear F9;obtain⟨kq,F7,rfl,HA,U3,l9,o7,o6,HB⟩:=hcut
  cases kq with
  |zero=>exact absurd HA.out (by simp[eX.j0])
  |succ kj2=>
   have H:=HA.out;clear HA;simp only[eX.j0] at H
   by_cases F8:F7=true
   ·subst F8
    rw[if_pos rfl] at H;obtain⟨⟨H6,H7,H8⟩,H9,H⟩:=bi H;try dsimp only at H
    simp only[Option.some.injEq,Prod.mk.injEq] at H;obtain⟨rfl,rfl,rfl⟩:=H
    go_wp2_with(first|((with_reducible refine aC (f:=179) rfl ?_);refine gM 11 Tryz.func179 (fE.calls (w:=_) (h:=H9.out)) (h:= ?_);intro U4 hb;replace l9:=pkK l9 hb;replace o7:=pkK o7 hb;replace o6:=pkK o6 hb;replace HB:=pkB HB hb;try clear hb;have U5:=D9.out;have U6:=o8.out;have U7:=E8.out;have U8:=o9.out;obtain⟨⟨U9,V3,V4⟩,V5,V6,V7⟩:=pk3 o6))
    refine bodyPost_ret (results_cell_row rfl _ _ o5 36 #[.bool H6,.string H7,.string H8] (0,0) _ rfl (pkS3 o6) Tryz.underlying36 rfl (by kernel_rfl)) rfl ?_;exact pkE HB
   ·replace F8:=Bool.eq_false_iff.mpr F8
    subst F8;rw[if_neg (show ¬(false=true) by decide)] at H;obtain⟨V8,I4,H⟩:=bi H;try dsimp only at H
    obtain⟨V9,I5,H⟩:=bi H;try dsimp only at H
    obtain⟨⟨I7,I8,I9⟩,J3,H⟩:=bi H;try dsimp only at H
    simp only[Option.some.injEq,Prod.mk.injEq] at H;obtain⟨rfl,rfl,rfl⟩:=H
    try go_wp2
    replace l9:=aA.mk (aK l9.out);replace o7:=aA.mk (aK o7.out);replace o6:=aA.mk (aK o6.out);replace HB:=aA.mk (aJ HB.out)
    refine kF (n:=12) (S:=fun w'=>w'.cell? ⟨F5,0,none⟩=some (.bool y8)∧w'.cell? ⟨F5,1,none⟩=some (.string C9)∧w'.cell? ⟨F5,2,none⟩=some (.string D5)∧w'.cell? ⟨F6,0,none⟩=some (.bool y9)∧w'.cell? ⟨F6,1,none⟩=some (.string D6)∧w'.cell? ⟨F6,2,none⟩=some (.string D7)) (ds:= []) #[false,false,false,false,false,false,false,false,false,false,false,false] (by kernel_rfl) rfl rfl (pc3 l9 (pcL o7)) (fun hHeld=> ?_);refine jZ eX.tab3 eX.bits3 (fun HT_ HW_=> ?_)
    generalize wc.drew=X4 at l9 o7 o6 HB hHeld ⊢;refine pr_ 0 12 (h:= ?_);refine pr_ 2 14 (h:= ?_);refine pr_ 5 17 (h:= ?_);refine pr_ 7 19 (h:= ?_);refine tk_ 1 13 hHeld (hy:=hy6) (h:= ?_);refine tk_ 3 15 hHeld (hy:=hy6) (h:= ?_);refine tk_ 6 18 hHeld (hy:=hy6) (h:= ?_);refine tk_ 8 20 hHeld (hy:=hy6) (h:= ?_);refine on_ 4 16 (h:=fun K hK=> ?_);refine gR Tryz.func89 (fZ.calls (w:=_) (h:=I4.out)) (h:= ?_);intro X5 hb;replace l9:=pkK l9 hb;replace o7:=pkK o7 hb;replace o6:=pkK o6 hb;replace HB:=pkB HB hb
    clear hb;refine hK.out _ _ (pc3 l9 (pcL o7)) (fun hHeld=> ?_);clear hK K;refine nm_ (h:= ?_);refine on_ 9 21 (h:=fun K hK=> ?_);refine gR Tryz.func84 (iE.calls (w:=_) (h:=I5.out)) (h:= ?_);intro X7 hb;replace l9:=pkK l9 hb;replace o7:=pkK o7 hb;replace o6:=pkK o6 hb;replace HB:=pkB HB hb
    clear hb;refine hK.out _ _ (pc3 l9 (pcL o7)) (fun hHeld=> ?_);clear hK K;refine nm_ (h:= ?_);refine on_ 10 22 (h:=fun K hK=> ?_);refine gR Tryz.func127 (bJ.calls (w:=_) (h:=J3.out)) (h:= ?_);intro G5 hb;replace l9:=pkK l9 hb;replace o7:=pkK o7 hb;replace o6:=pkK o6 hb;replace HB:=pkB HB hb
    clear hb;refine hK.out _ _ (pc3 l9 (pcL o7)) (fun hHeld=> ?_);clear hK K;refine nm_ (h:= ?_);refine one_ (i:=11) (N:=none) #[true,true,true,true,true,true,true,true,true,true,true,true] rfl rfl (tH HT_.out (by kernel_rfl)) aG0 (fun K hK=> ?_);have X8:G5.cell? ⟨o5,0,none⟩=some (.bool false):=(fF o6.out 0).trans rfl;have X9:=eG o6.out 0;have Y0:=o8.out;have Y4:=o9.out;have Y5:=D9.out;have Y7:=E8.out;have Y8:G5.cell? ⟨o5,1,none⟩=some (.string ⟨#[]⟩):=(fF o6.out 1).trans rfl;have Y9:=eG o6.out 1;have Z7:=o8.out;have Z8:=o9.out;have Z9:=D9.out;have ae:=E8.out;have af:G5.cell? ⟨o5,2,none⟩=some (.string ⟨#[]⟩):=(fF o6.out 2).trans rfl;have ag:=eG o6.out 2;have ah:=o8.out;have ai:=o9.out;have aj:=D9.out;have ak:=E8.out;refine uQ (w1:= ?_) (by rfl) rfl ?_ ?_
    rotate_left
    ·go_simp
     rfl
    refine hK.out _ _ ⟨((aG2 (p:=⟨o5,_,none⟩) o8.out _).trans (((aG2 (p:=⟨o5,_,none⟩) o8.out _).trans (((aG2 (p:=⟨o5,_,none⟩) o8.out _).trans (hHeld.1)))))),((aG2 (p:=⟨o5,_,none⟩) o8.out _).trans (((aG2 (p:=⟨o5,_,none⟩) o8.out _).trans (((aG2 (p:=⟨o5,_,none⟩) o8.out _).trans (hHeld.2.1)))))),((aG2 (p:=⟨o5,_,none⟩) o8.out _).trans (((aG2 (p:=⟨o5,_,none⟩) o8.out _).trans (((aG2 (p:=⟨o5,_,none⟩) o8.out _).trans (hHeld.2.2.1)))))),((aG2 (p:=⟨o5,_,none⟩) o9.out _).trans (((aG2 (p:=⟨o5,_,none⟩) o9.out _).trans (((aG2 (p:=⟨o5,_,none⟩) o9.out _).trans (hHeld.2.2.2.1)))))),((aG2 (p:=⟨o5,_,none⟩) o9.out _).trans (((aG2 (p:=⟨o5,_,none⟩) o9.out _).trans (((aG2 (p:=⟨o5,_,none⟩) o9.out _).trans (hHeld.2.2.2.2.1)))))),((aG2 (p:=⟨o5,_,none⟩) o9.out _).trans (((aG2 (p:=⟨o5,_,none⟩) o9.out _).trans (((aG2 (p:=⟨o5,_,none⟩) o9.out _).trans (hHeld.2.2.2.2.2))))))⟩ (fun hHeld=> ?_);clear hK K;refine kY (lK HT_.out (by kernel_rfl)) ?_
    try go_wp2
    refine bodyPost_ret (results_cell_row rfl _ _ o5 36 #[.bool I7,.string I8,.string I9] (0,0) _ rfl (pkS3 o6) Tryz.underlying36 rfl (by kernel_rfl)) rfl ?_;exact pkE HB
def uT.f(k:Nat)(a0_0:Bool)(a0_1 a0_2:ByteArray)(a1_0:Bool)(a1_1 a1_2:ByteArray):Option (Bool×ByteArray×ByteArray×Int):=(bQ.f a0_0 a0_1 a0_2 a1_0 a1_1 a1_2).bind fun t243=>(if t243=0 then((eX.f k a0_0 a0_1 a0_2 a1_0 a1_1 a1_2).bind fun bt244=>(some (bt244.1,bt244.2.1,bt244.2.2,0))) else(some (false,(⟨#[]⟩:ByteArray),(⟨#[]⟩:ByteArray),t243)))
theorem uT.calls(k:Nat)(o8:Bool)(o9 y8:ByteArray)(y9:Bool)(C9 D5:ByteArray)(r1:Bool)(r2 r3:ByteArray)(r4:Int)(w:World)(h:uT.f k o8 o9 y8 y9 C9 D5=some (r1,r2,r3,r4)) :
 Calls Tryz.prog 53 #[.agg #[.bool o8,.string o9,.string y8],.agg #[.bool y9,.string C9,.string D5]] w fun e w'=>e= .returned (.tuple #[.agg #[.bool r1,.string r2,.string r3],.int .i64 r4])∧Below w.heap.size w w':=by
 have hu36:=Tryz.underlying36;have HB:=aA.mk (Below.refl w.heap.size w);have H:((bQ.f o8 o9 y8 y9 C9 D5).bind fun D6=>(if D6=0 then((eX.f k o8 o9 y8 y9 C9 D5).bind fun D7=>(some (D7.1,D7.2.1,D7.2.2,0))) else(some (false,(⟨#[]⟩:ByteArray),(⟨#[]⟩:ByteArray),D6))))=some (r1,r2,r3,r4):=h;clear h;obtain⟨D6,A3,H⟩:=bi H;try dsimp only at H
 go_enter Tryz.func53,Tryz.ntmps53
 by_cases c4:D6=0
 ·rw[if_pos c4] at H
  obtain⟨G7,G8⟩:=bT c4;clear c4;obtain⟨⟨G9,H5,H6⟩,A5,H⟩:=bi H;try dsimp only at H
  simp only[Option.some.injEq,Prod.mk.injEq] at H;obtain⟨rfl,rfl,rfl,rfl⟩:=H
  go_wp2_with(first|((with_reducible refine aG (N:=2) rfl ?_);refine bx_ 2 36 #[.bool o8,.string o9,.string y8] (h:= ?_);intro H7 hg w6 o5 hb;have l9:=aA.mk (o5);have D8:=pkG HB hg;have H8:=D8;replace HB:=pkB HB hb;clear hb o5 hg)|((with_reducible refine aG (N:=3) rfl ?_);refine bx_ 3 36 #[.bool y9,.string C9,.string D5] (h:= ?_);intro H9 hg w7 o5 hb;have o6:=aA.mk (o5);have D9:=pkG HB hg;have I4:=D9;obtain⟨E8,F5,_,_⟩:=pkQ l9 hg;replace l9:=pkK l9 hb;replace HB:=pkB HB hb;clear hb o5 hg)|((with_reducible refine aG (N:=4) rfl ?_);refine bx_ 4 36 #[.bool false,.string ⟨#[]⟩,.string ⟨#[]⟩] (h:= ?_);intro F6 hg w8 o5 hb;have o7:=aA.mk (o5);have F7:=pkG HB hg;have I5:=F7;obtain⟨F8,F9,_,_⟩:=pkQ l9 hg;obtain⟨G5,G6,_,_⟩:=pkQ o6 hg;replace l9:=pkK l9 hb;replace o6:=pkK o6 hb;replace HB:=pkB HB hb;clear hb o5 hg;have I7:=E8.out;have I8:=F5.out;have I9:=F8.out;have J3:=F9.out;obtain⟨⟨J4,J5,J6⟩,J7,J8,J9⟩:=pk3 l9;have L6:=G5.out;have L8:=G6.out;obtain⟨⟨L9,N7,N8⟩,N9,O0,O1⟩:=pk3 o6)|((with_reducible refine aC (f:=102) rfl ?_);refine gM 9 Tryz.func102 (bQ.calls (w:=_) (h:=A3.out)) (h:= ?_);intro O3 hb;replace l9:=pkK l9 hb;replace o6:=pkK o6 hb;replace o7:=pkK o7 hb;replace HB:=pkB HB hb;try clear hb;obtain⟨⟨O4,O5,O6⟩,O7,O8,O9⟩:=pk3 l9;obtain⟨⟨P7,P8,P9⟩,Q3,Q4,Q5⟩:=pk3 o6)|((with_reducible refine aC (f:=122) rfl ?_);refine gM 16 Tryz.func122 (eX.calls (w:=_) (h:=A5.out)) (h:= ?_);intro Q7 hb;replace l9:=pkK l9 hb;replace o6:=pkK o6 hb;replace o7:=pkK o7 hb;replace HB:=pkB HB hb;try clear hb;obtain⟨⟨Q8,Q9,S9⟩,U3,U4,U5⟩:=pk3 o7))
  refine bodyPost_ret (gW rfl _ _ F6 36 #[.bool G9,.string H5,.string H6] (0,0) _ rfl (pkS3 o7) Tryz.underlying36 rfl (by kernel_rfl)) rfl ?_;exact pkE HB
 ·rw[if_neg c4] at H
  obtain⟨G7,G8⟩:=bF c4;simp only[Option.some.injEq,Prod.mk.injEq] at H;obtain⟨rfl,rfl,rfl,rfl⟩:=H
  go_wp2_with(first|((with_reducible refine aG (N:=2) rfl ?_);refine bx_ 2 36 #[.bool o8,.string o9,.string y8] (h:= ?_);intro H7 hg U6 o5 hb;have l9:=aA.mk (o5);have D8:=pkG HB hg;have H8:=D8;replace HB:=pkB HB hb;clear hb o5 hg)|((with_reducible refine aG (N:=3) rfl ?_);refine bx_ 3 36 #[.bool y9,.string C9,.string D5] (h:= ?_);intro H9 hg U7 o5 hb;have o6:=aA.mk (o5);have D9:=pkG HB hg;have I4:=D9;obtain⟨E8,F5,_,_⟩:=pkQ l9 hg;replace l9:=pkK l9 hb;replace HB:=pkB HB hb;clear hb o5 hg)|((with_reducible refine aG (N:=4) rfl ?_);refine bx_ 4 36 #[.bool false,.string ⟨#[]⟩,.string ⟨#[]⟩] (h:= ?_);intro F6 hg U8 o5 hb;have o7:=aA.mk (o5);have F7:=pkG HB hg;have I5:=F7;obtain⟨F8,F9,_,_⟩:=pkQ l9 hg;obtain⟨G5,G6,_,_⟩:=pkQ o6 hg;replace l9:=pkK l9 hb;replace o6:=pkK o6 hb;replace HB:=pkB HB hb;clear hb o5 hg;have U9:=E8.out;have V3:=F5.out;have V4:=F8.out;have V5:=F9.out;obtain⟨⟨V6,V7,V8⟩,V9,X4,X5⟩:=pk3 l9;have X7:=G5.out;have X8:=G6.out;obtain⟨⟨X9,Y0,Y4⟩,Y5,Y7,Y8⟩:=pk3 o6)|((with_reducible refine aC (f:=102) rfl ?_);refine gM 9 Tryz.func102 (bQ.calls (w:=_) (h:=A3.out)) (h:= ?_);intro Y9 hb;replace l9:=pkK l9 hb;replace o6:=pkK o6 hb;replace o7:=pkK o7 hb;replace HB:=pkB HB hb;try clear hb;obtain⟨⟨Z7,Z8,Z9⟩,ae,af,ag⟩:=pk3 o7))
  refine bodyPost_ret (gW rfl _ _ F6 36 #[.bool false,.string ⟨#[]⟩,.string ⟨#[]⟩] (0,0) _ rfl (pkS3 o7) Tryz.underlying36 rfl (by kernel_rfl)) rfl ?_;exact pkE HB
end Go.Proofs.YtignanmmgaldeaaGreatDoor.PRefQ
end
section
namespace Go.Proofs.YtignanmmgaldeaaGreatDoor.PRefQ
open Go.RowKit Go.Proofs.YtignanmmgaldeaaGreatDoorW.PrintWords Go.Proofs.YtignanmmgaldeaaGreatDoorW.PrintLast Go.Proofs.YtignanmmgaldeaaGreatDoorW.PrintMore
attribute [local go_sem] dQ dR eH eP
def dG.j0:Nat→Bool→Bool→ByteArray→ByteArray→Bool→ByteArray→ByteArray→Option (Bool×ByteArray×ByteArray)
 |0,_,_,_,_,_,_,_=>none
 |k+1,x11,x248000,x248001,x248002,x249000,x249001,x249002=>if x11=true then((fE.f).bind fun bt250=>(some (bt250.1,bt250.2.1,bt250.2.2))) else((gG.f x248001 x249001).bind fun t253=>((gG.f x248001 x249002).bind fun t254=>((fZ.f t253 t254).bind fun t255=>((gG.f x249001 x248002).bind fun t256=>((fZ.f t255 t256).bind fun t257=>((gG.f x248002 x249002).bind fun t258=>((bJ.f k t257 t258).bind fun bt259=>(some (bt259.1,bt259.2.1,bt259.2.2)))))))))
def dG.f(k:Nat)(a0_0:Bool)(a0_1 a0_2:ByteArray)(a1_0:Bool)(a1_1 a1_2:ByteArray):Option (Bool×ByteArray×ByteArray):=if a0_0=true then(dG.j0 k true a0_0 a0_1 a0_2 a1_0 a1_1 a1_2) else(dG.j0 k a1_0 a0_0 a0_1 a0_2 a1_0 a1_1 a1_2)
def dG.T3:Bool×List (List Nat×List Nat):=(true,[([],[]),([0],[0]),([],[]),([2],[2]),([1,3],[1,3]),([],[]),([5],[5]),([],[]),([7],[7]),([6,8,4],[6,8]),([4,9,9],[4,9]),([10,10,0,1,2,3,4,5,6,7,8,9,10],[10])])
def dG.B3:List Nat:= [0,1,0,4,15,0,32,0,128,511,1023,2047]
theorem dG.tab3:rtab .any (opsOf Tryz.f125 3)=dG.T3:=by kernel_rfl
theorem dG.bits3:kX dG.T3.2 dG.B3=true:=by kernel_rfl
def dG.T4:Bool×List (List Nat×List Nat):=(true,[([],[]),([],[]),([1],[1]),([],[]),([3],[3]),([2,4],[2,4]),([0,5,5],[0,5]),([],[]),([7],[7]),([],[]),([9],[9]),([8,10,6],[8,10]),([6,11,11],[6,11]),([12,12,0,1,2,3,4,5,6,7,8,9,10,11,12],[12])])
def dG.B4:List Nat:= [0,0,2,0,8,30,63,0,128,0,512,2047,4095,8191]
theorem dG.tab4:rtab .any (opsOf Tryz.f125 4)=dG.T4:=by kernel_rfl
theorem dG.bits4:kX dG.T4.2 dG.B4=true:=by kernel_rfl
theorem dG.calls(k:Nat)(y8:Bool)(C9 D5:ByteArray)(y9:Bool)(D6 D7:ByteArray)(r1:Bool)(r2 r3:ByteArray)(w:World)(h:dG.f k y8 C9 D5 y9 D6 D7=some (r1,r2,r3)) :
 Calls Tryz.prog 125 #[.agg #[.bool y8,.string C9,.string D5],.agg #[.bool y9,.string D6,.string D7]] w fun e w'=>e= .returned (.agg #[.bool r1,.string r2,.string r3])∧Below w.heap.size w w':=by
 have hu36:=Tryz.underlying36;have HB:=aA.mk (Below.refl w.heap.size w);have H:(if y8=true then(dG.j0 k true y8 C9 D5 y9 D6 D7) else(dG.j0 k y9 y8 C9 D5 y9 D6 D7))=some (r1,r2,r3):=h;clear h;have F9:=aA.mk H;clear H;go_enter Tryz.func125,Tryz.ntmps125
 go_upto_region 1 with (first|((with_reducible refine aG (N:=2) rfl ?_);refine bx_ 2 36 #[.bool y8,.string C9,.string D5] (h:= ?_);intro D9 hg w4 D8 hb;have l9:=aA.mk (D8);have G8:=pkG HB hg;have J9:=G8;replace HB:=pkB HB hb;clear hb D8 hg)|((with_reducible refine aG (N:=3) rfl ?_);refine bx_ 3 36 #[.bool y9,.string D6,.string D7] (h:= ?_);intro E8 hg w5 D8 hb;have o5:=aA.mk (D8);have G9:=pkG HB hg;have L6:=G9;obtain⟨G6,G7,_,_⟩:=pkQ l9 hg;replace l9:=pkK l9 hb;replace HB:=pkB HB hb;clear hb D8 hg)|((with_reducible refine aG (N:=4) rfl ?_);refine bx_ 4 36 #[.bool false,.string ⟨#[]⟩,.string ⟨#[]⟩] (h:= ?_);intro o7 hg w6 D8 hb;have o6:=aA.mk (D8);have H5:=pkG HB hg;have L8:=H5;obtain⟨o8,F5,_,_⟩:=pkQ l9 hg;obtain⟨o9,F6,_,_⟩:=pkQ o5 hg;replace l9:=pkK l9 hb;replace o5:=pkK o5 hb;replace HB:=pkB HB hb;clear hb D8 hg))
 (try simp only[Act.put,List.setIfInBounds_toArray,List.set_cons_zero,List.set_cons_succ])
 go_cut [11] (fun v11 wc=>∃(kq:Nat) (F7:Bool),v11= .bool F7∧aA (dG.j0 kq F7 y8 C9 D5 y9 D6 D7=some (r1,r2,r3))∧aA (kq≤k)∧aA (wc.heap[D9]? =some (.cells #[.bool y8,.string C9,.string D5] 36 (0,0)))∧aA (wc.heap[E8]? =some (.cells #[.bool y9,.string D6,.string D7] 36 (0,0)))∧aA (wc.heap[o7]? =some (.cells #[.bool false,.string ⟨#[]⟩,.string ⟨#[]⟩] 36 (0,0)))∧aA (Below w.heap.size w wc))
 case first=>
  have H:=F9.out;clear F9
  by_cases c7:y8=true
  ·subst c7
   rw[if_pos rfl] at H;have H':=aA.mk H;clear H;have L9:=G6.out;have N7:=G7.out;have N8:=o8.out;have N9:=F5.out;obtain⟨⟨O0,O1,O3⟩,O4,O5,O6⟩:=pk3 l9;go_wp2
   go_meet
   case rel=>exact⟨_,(true),aG1,H',le_,⟨pkW l9⟩,⟨pkW o5⟩,⟨pkW o6⟩,⟨pkL HB⟩⟩
  ·replace c7:=Bool.eq_false_iff.mpr c7
   subst c7;rw[if_neg (show ¬(false=true) by decide)] at H;have H':=aA.mk H;clear H;have O7:=G6.out;have O8:=G7.out;have O9:=o8.out;have P7:=F5.out;obtain⟨⟨P8,P9,Q3⟩,Q4,Q5,Q7⟩:=pk3 l9;have Q8:=o9.out;have Q9:=F6.out;obtain⟨⟨S9,U3,U4⟩,U5,U6,U7⟩:=pk3 o5;go_wp2
   go_meet
   case rel=>exact⟨_,(y9),aG1,H',le_,⟨pkW l9⟩,⟨pkW o5⟩,⟨pkW o6⟩,⟨pkL HB⟩⟩
 case rest=>
  clear F9;obtain⟨kq,F7,rfl,HA,U8,l9,o5,o6,HB⟩:=hcut
  cases kq with
  |zero=>exact absurd HA.out (by simp[dG.j0])
  |succ kj2=>
   have H:=HA.out;clear HA;simp only[dG.j0] at H
   by_cases F8:F7=true
   ·subst F8
    rw[if_pos rfl] at H;obtain⟨⟨H6,H7,H8⟩,H9,H⟩:=bi H;try dsimp only at H
    simp only[Option.some.injEq,Prod.mk.injEq] at H;obtain⟨rfl,rfl,rfl⟩:=H
    go_wp2_with(first|((with_reducible refine aC (f:=179) rfl ?_);refine gM 12 Tryz.func179 (fE.calls (w:=_) (h:=H9.out)) (h:= ?_);intro U9 hb;replace l9:=pkK l9 hb;replace o5:=pkK o5 hb;replace o6:=pkK o6 hb;replace HB:=pkB HB hb;try clear hb;have V3:=F5.out;have V4:=o8.out;have V5:=F6.out;have V6:=o9.out;obtain⟨⟨V7,V8,V9⟩,X4,X5,X7⟩:=pk3 o6))
    refine bodyPost_ret (results_cell_row rfl _ _ o7 36 #[.bool H6,.string H7,.string H8] (0,0) _ rfl (pkS3 o6) Tryz.underlying36 rfl (by kernel_rfl)) rfl ?_;exact pkE HB
   ·replace F8:=Bool.eq_false_iff.mpr F8
    subst F8;rw[if_neg (show ¬(false=true) by decide)] at H;obtain⟨X8,I4,H⟩:=bi H;try dsimp only at H
    obtain⟨X9,I5,H⟩:=bi H;try dsimp only at H
    obtain⟨Y0,I7,H⟩:=bi H;try dsimp only at H
    obtain⟨Y4,I8,H⟩:=bi H;try dsimp only at H
    obtain⟨Y5,I9,H⟩:=bi H;try dsimp only at H
    obtain⟨Y7,J3,H⟩:=bi H;try dsimp only at H
    obtain⟨⟨J4,J5,J6⟩,J7,H⟩:=bi H;try dsimp only at H
    simp only[Option.some.injEq,Prod.mk.injEq] at H;obtain⟨rfl,rfl,rfl⟩:=H
    try go_wp2
    replace l9:=aA.mk (aK l9.out);replace o5:=aA.mk (aK o5.out);replace o6:=aA.mk (aK o6.out);replace HB:=aA.mk (aJ HB.out)
    refine kF (n:=12) (S:=fun w'=>w'.cell? ⟨D9,0,none⟩=some (.bool y8)∧w'.cell? ⟨D9,1,none⟩=some (.string C9)∧w'.cell? ⟨D9,2,none⟩=some (.string D5)∧w'.cell? ⟨E8,0,none⟩=some (.bool y9)∧w'.cell? ⟨E8,1,none⟩=some (.string D6)∧w'.cell? ⟨E8,2,none⟩=some (.string D7)) (ds:= []) #[false,false,false,false,false,false,false,false,false,false,false,false] (by kernel_rfl) rfl rfl (pc3 l9 (pcL o5)) (fun hHeld=> ?_);refine jZ dG.tab3 dG.bits3 (fun HT_ HW_=> ?_)
    generalize wc.drew=Y8 at l9 o5 o6 HB hHeld ⊢;refine pr_ 0 13 (h:= ?_);refine pr_ 2 15 (h:= ?_);refine pr_ 5 18 (h:= ?_);refine pr_ 7 20 (h:= ?_);refine tk_ 1 14 hHeld (hy:=hy6) (h:= ?_);refine tk_ 3 16 hHeld (hy:=hy6) (h:= ?_);refine tk_ 6 19 hHeld (hy:=hy6) (h:= ?_);refine tk_ 8 21 hHeld (hy:=hy6) (h:= ?_);refine on_ 4 17 (h:=fun K hK=> ?_);refine gR Tryz.func86 (gG.calls (w:=_) (h:=I4.out)) (h:= ?_);intro Y9 hb;replace l9:=pkK l9 hb;replace o5:=pkK o5 hb;replace o6:=pkK o6 hb;replace HB:=pkB HB hb
    clear hb;refine hK.out _ _ (pc3 l9 (pcL o5)) (fun hHeld=> ?_);clear hK K;refine nm_ (h:= ?_);refine on_ 9 22 (h:=fun K hK=> ?_);refine gR Tryz.func86 (gG.calls (w:=_) (h:=I5.out)) (h:= ?_);intro Z7 hb;replace l9:=pkK l9 hb;replace o5:=pkK o5 hb;replace o6:=pkK o6 hb;replace HB:=pkB HB hb
    clear hb;refine hK.out _ _ (pc3 l9 (pcL o5)) (fun hHeld=> ?_);clear hK K;refine nm_ (h:= ?_);refine on_ 10 23 (h:=fun K hK=> ?_);refine gR Tryz.func89 (fZ.calls (w:=_) (h:=I7.out)) (h:= ?_);intro J8 hb;replace l9:=pkK l9 hb;replace o5:=pkK o5 hb;replace o6:=pkK o6 hb;replace HB:=pkB HB hb
    clear hb;refine hK.out _ _ (pc3 l9 (pcL o5)) (fun hHeld=> ?_);clear hK K;refine nm_ (h:= ?_);refine pr_ 11 5 (h:= ?_);refine kY (lK HT_.out (by kernel_rfl)) ?_
    try go_wp2
    replace l9:=aA.mk (aK l9.out);replace o5:=aA.mk (aK o5.out);replace o6:=aA.mk (aK o6.out);replace HB:=aA.mk (aJ HB.out)
    refine kF (n:=14) (S:=fun w'=>w'.cell? ⟨E8,0,none⟩=some (.bool y9)∧w'.cell? ⟨E8,1,none⟩=some (.string D6)∧w'.cell? ⟨E8,2,none⟩=some (.string D7)∧w'.cell? ⟨D9,0,none⟩=some (.bool y8)∧w'.cell? ⟨D9,1,none⟩=some (.string C9)∧w'.cell? ⟨D9,2,none⟩=some (.string D5)) (ds:= []) #[false,false,false,false,false,false,false,false,false,false,false,false,false,false] (by kernel_rfl) rfl rfl (pc3 o5 (pcL l9)) (fun hHeld=> ?_);refine jZ dG.tab4 dG.bits4 (fun HT_ HW_=> ?_)
    generalize J8.drew=Z8 at l9 o5 o6 HB hHeld ⊢;refine pr_ 0 24 (h:= ?_);refine pr_ 1 25 (h:= ?_);refine pr_ 3 27 (h:= ?_);refine pr_ 7 31 (h:= ?_);refine pr_ 9 33 (h:= ?_);refine tk_ 2 26 hHeld (hy:=hy6) (h:= ?_);refine tk_ 4 28 hHeld (hy:=hy6) (h:= ?_);refine tk_ 8 32 hHeld (hy:=hy6) (h:= ?_);refine tk_ 10 34 hHeld (hy:=hy6) (h:= ?_);refine on_ 5 29 (h:=fun K hK=> ?_);refine gR Tryz.func86 (gG.calls (w:=_) (h:=I8.out)) (h:= ?_);intro Z9 hb;replace l9:=pkK l9 hb;replace o5:=pkK o5 hb;replace o6:=pkK o6 hb;replace HB:=pkB HB hb
    clear hb;refine hK.out _ _ (pc3 o5 (pcL l9)) (fun hHeld=> ?_);clear hK K;refine nm_ (h:= ?_);refine on_ 6 30 (h:=fun K hK=> ?_);refine gR Tryz.func89 (fZ.calls (w:=_) (h:=I9.out)) (h:= ?_);intro ae hb;replace l9:=pkK l9 hb;replace o5:=pkK o5 hb;replace o6:=pkK o6 hb;replace HB:=pkB HB hb
    clear hb;refine hK.out _ _ (pc3 o5 (pcL l9)) (fun hHeld=> ?_);clear hK K;refine nm_ (h:= ?_);refine on_ 11 35 (h:=fun K hK=> ?_);refine gR Tryz.func86 (gG.calls (w:=_) (h:=J3.out)) (h:= ?_);intro af hb;replace l9:=pkK l9 hb;replace o5:=pkK o5 hb;replace o6:=pkK o6 hb;replace HB:=pkB HB hb
    clear hb;refine hK.out _ _ (pc3 o5 (pcL l9)) (fun hHeld=> ?_);clear hK K;refine nm_ (h:= ?_);refine on_ 12 36 (h:=fun K hK=> ?_);refine gR Tryz.func127 (bJ.calls (w:=_) (h:=J7.out)) (h:= ?_);intro G5 hb;replace l9:=pkK l9 hb;replace o5:=pkK o5 hb;replace o6:=pkK o6 hb;replace HB:=pkB HB hb
    clear hb;refine hK.out _ _ (pc3 o5 (pcL l9)) (fun hHeld=> ?_);clear hK K;refine nm_ (h:= ?_);refine one_ (i:=13) (N:=none) #[true,true,true,true,true,true,true,true,true,true,true,true,true,true] rfl rfl (tH HT_.out (by kernel_rfl)) aG0 (fun K hK=> ?_);have ag:G5.cell? ⟨o7,0,none⟩=some (.bool false):=(fF o6.out 0).trans rfl;have ah:=eG o6.out 0;have ai:=o8.out;have aj:=o9.out;have ak:=F5.out;have au:=F6.out;have ax:G5.cell? ⟨o7,1,none⟩=some (.string ⟨#[]⟩):=(fF o6.out 1).trans rfl;have ay:=eG o6.out 1;have az:=o8.out;have bn:=o9.out;have df:=F5.out;have dh:=F6.out;have di:G5.cell? ⟨o7,2,none⟩=some (.string ⟨#[]⟩):=(fF o6.out 2).trans rfl;have dw:=eG o6.out 2;have eu:=o8.out;have gm:=o9.out;have gp:=F5.out;have gq:=F6.out;refine uQ (w1:= ?_) (by rfl) rfl ?_ ?_
    rotate_left
    ·go_simp
     rfl
    refine hK.out _ _ ⟨((aG2 (p:=⟨o7,_,none⟩) o9.out _).trans (((aG2 (p:=⟨o7,_,none⟩) o9.out _).trans (((aG2 (p:=⟨o7,_,none⟩) o9.out _).trans (hHeld.1)))))),((aG2 (p:=⟨o7,_,none⟩) o9.out _).trans (((aG2 (p:=⟨o7,_,none⟩) o9.out _).trans (((aG2 (p:=⟨o7,_,none⟩) o9.out _).trans (hHeld.2.1)))))),((aG2 (p:=⟨o7,_,none⟩) o9.out _).trans (((aG2 (p:=⟨o7,_,none⟩) o9.out _).trans (((aG2 (p:=⟨o7,_,none⟩) o9.out _).trans (hHeld.2.2.1)))))),((aG2 (p:=⟨o7,_,none⟩) o8.out _).trans (((aG2 (p:=⟨o7,_,none⟩) o8.out _).trans (((aG2 (p:=⟨o7,_,none⟩) o8.out _).trans (hHeld.2.2.2.1)))))),((aG2 (p:=⟨o7,_,none⟩) o8.out _).trans (((aG2 (p:=⟨o7,_,none⟩) o8.out _).trans (((aG2 (p:=⟨o7,_,none⟩) o8.out _).trans (hHeld.2.2.2.2.1)))))),((aG2 (p:=⟨o7,_,none⟩) o8.out _).trans (((aG2 (p:=⟨o7,_,none⟩) o8.out _).trans (((aG2 (p:=⟨o7,_,none⟩) o8.out _).trans (hHeld.2.2.2.2.2))))))⟩ (fun hHeld=> ?_);clear hK K;refine kY (lK HT_.out (by kernel_rfl)) ?_
    try go_wp2
    refine bodyPost_ret (results_cell_row rfl _ _ o7 36 #[.bool J4,.string J5,.string J6] (0,0) _ rfl (pkS3 o6) Tryz.underlying36 rfl (by kernel_rfl)) rfl ?_;exact pkE HB
def uU.f(k:Nat)(a0_0:Bool)(a0_1 a0_2:ByteArray)(a1_0:Bool)(a1_1 a1_2:ByteArray):Option (Bool×ByteArray×ByteArray×Int):=(bQ.f a0_0 a0_1 a0_2 a1_0 a1_1 a1_2).bind fun t265=>(if t265=0 then((dG.f k a0_0 a0_1 a0_2 a1_0 a1_1 a1_2).bind fun bt266=>(some (bt266.1,bt266.2.1,bt266.2.2,0))) else(some (false,(⟨#[]⟩:ByteArray),(⟨#[]⟩:ByteArray),t265)))
theorem uU.calls(k:Nat)(o8:Bool)(o9 y8:ByteArray)(y9:Bool)(C9 D5:ByteArray)(r1:Bool)(r2 r3:ByteArray)(r4:Int)(w:World)(h:uU.f k o8 o9 y8 y9 C9 D5=some (r1,r2,r3,r4)) :
 Calls Tryz.prog 55 #[.agg #[.bool o8,.string o9,.string y8],.agg #[.bool y9,.string C9,.string D5]] w fun e w'=>e= .returned (.tuple #[.agg #[.bool r1,.string r2,.string r3],.int .i64 r4])∧Below w.heap.size w w':=by
 have hu36:=Tryz.underlying36;have HB:=aA.mk (Below.refl w.heap.size w);have H:((bQ.f o8 o9 y8 y9 C9 D5).bind fun D6=>(if D6=0 then((dG.f k o8 o9 y8 y9 C9 D5).bind fun D7=>(some (D7.1,D7.2.1,D7.2.2,0))) else(some (false,(⟨#[]⟩:ByteArray),(⟨#[]⟩:ByteArray),D6))))=some (r1,r2,r3,r4):=h;clear h;obtain⟨D6,A3,H⟩:=bi H;try dsimp only at H
 go_enter Tryz.func55,Tryz.ntmps55
 by_cases c4:D6=0
 ·rw[if_pos c4] at H
  obtain⟨G7,G8⟩:=bT c4;clear c4;obtain⟨⟨G9,H5,H6⟩,A5,H⟩:=bi H;try dsimp only at H
  simp only[Option.some.injEq,Prod.mk.injEq] at H;obtain⟨rfl,rfl,rfl,rfl⟩:=H
  go_wp2_with(first|((with_reducible refine aG (N:=2) rfl ?_);refine bx_ 2 36 #[.bool o8,.string o9,.string y8] (h:= ?_);intro H7 hg w6 o5 hb;have l9:=aA.mk (o5);have D8:=pkG HB hg;have H8:=D8;replace HB:=pkB HB hb;clear hb o5 hg)|((with_reducible refine aG (N:=3) rfl ?_);refine bx_ 3 36 #[.bool y9,.string C9,.string D5] (h:= ?_);intro H9 hg w7 o5 hb;have o6:=aA.mk (o5);have D9:=pkG HB hg;have I4:=D9;obtain⟨E8,F5,_,_⟩:=pkQ l9 hg;replace l9:=pkK l9 hb;replace HB:=pkB HB hb;clear hb o5 hg)|((with_reducible refine aG (N:=4) rfl ?_);refine bx_ 4 36 #[.bool false,.string ⟨#[]⟩,.string ⟨#[]⟩] (h:= ?_);intro F6 hg w8 o5 hb;have o7:=aA.mk (o5);have F7:=pkG HB hg;have I5:=F7;obtain⟨F8,F9,_,_⟩:=pkQ l9 hg;obtain⟨G5,G6,_,_⟩:=pkQ o6 hg;replace l9:=pkK l9 hb;replace o6:=pkK o6 hb;replace HB:=pkB HB hb;clear hb o5 hg;have I7:=E8.out;have I8:=F5.out;have I9:=F8.out;have J3:=F9.out;obtain⟨⟨J4,J5,J6⟩,J7,J8,J9⟩:=pk3 l9;have L6:=G5.out;have L8:=G6.out;obtain⟨⟨L9,N7,N8⟩,N9,O0,O1⟩:=pk3 o6)|((with_reducible refine aC (f:=102) rfl ?_);refine gM 9 Tryz.func102 (bQ.calls (w:=_) (h:=A3.out)) (h:= ?_);intro O3 hb;replace l9:=pkK l9 hb;replace o6:=pkK o6 hb;replace o7:=pkK o7 hb;replace HB:=pkB HB hb;try clear hb;obtain⟨⟨O4,O5,O6⟩,O7,O8,O9⟩:=pk3 l9;obtain⟨⟨P7,P8,P9⟩,Q3,Q4,Q5⟩:=pk3 o6)|((with_reducible refine aC (f:=125) rfl ?_);refine gM 16 Tryz.func125 (dG.calls (w:=_) (h:=A5.out)) (h:= ?_);intro Q7 hb;replace l9:=pkK l9 hb;replace o6:=pkK o6 hb;replace o7:=pkK o7 hb;replace HB:=pkB HB hb;try clear hb;obtain⟨⟨Q8,Q9,S9⟩,U3,U4,U5⟩:=pk3 o7))
  refine bodyPost_ret (gW rfl _ _ F6 36 #[.bool G9,.string H5,.string H6] (0,0) _ rfl (pkS3 o7) Tryz.underlying36 rfl (by kernel_rfl)) rfl ?_;exact pkE HB
 ·rw[if_neg c4] at H
  obtain⟨G7,G8⟩:=bF c4;simp only[Option.some.injEq,Prod.mk.injEq] at H;obtain⟨rfl,rfl,rfl,rfl⟩:=H
  go_wp2_with(first|((with_reducible refine aG (N:=2) rfl ?_);refine bx_ 2 36 #[.bool o8,.string o9,.string y8] (h:= ?_);intro H7 hg U6 o5 hb;have l9:=aA.mk (o5);have D8:=pkG HB hg;have H8:=D8;replace HB:=pkB HB hb;clear hb o5 hg)|((with_reducible refine aG (N:=3) rfl ?_);refine bx_ 3 36 #[.bool y9,.string C9,.string D5] (h:= ?_);intro H9 hg U7 o5 hb;have o6:=aA.mk (o5);have D9:=pkG HB hg;have I4:=D9;obtain⟨E8,F5,_,_⟩:=pkQ l9 hg;replace l9:=pkK l9 hb;replace HB:=pkB HB hb;clear hb o5 hg)|((with_reducible refine aG (N:=4) rfl ?_);refine bx_ 4 36 #[.bool false,.string ⟨#[]⟩,.string ⟨#[]⟩] (h:= ?_);intro F6 hg U8 o5 hb;have o7:=aA.mk (o5);have F7:=pkG HB hg;have I5:=F7;obtain⟨F8,F9,_,_⟩:=pkQ l9 hg;obtain⟨G5,G6,_,_⟩:=pkQ o6 hg;replace l9:=pkK l9 hb;replace o6:=pkK o6 hb;replace HB:=pkB HB hb;clear hb o5 hg;have U9:=E8.out;have V3:=F5.out;have V4:=F8.out;have V5:=F9.out;obtain⟨⟨V6,V7,V8⟩,V9,X4,X5⟩:=pk3 l9;have X7:=G5.out;have X8:=G6.out;obtain⟨⟨X9,Y0,Y4⟩,Y5,Y7,Y8⟩:=pk3 o6)|((with_reducible refine aC (f:=102) rfl ?_);refine gM 9 Tryz.func102 (bQ.calls (w:=_) (h:=A3.out)) (h:= ?_);intro Y9 hb;replace l9:=pkK l9 hb;replace o6:=pkK o6 hb;replace o7:=pkK o7 hb;replace HB:=pkB HB hb;try clear hb;obtain⟨⟨Z7,Z8,Z9⟩,ae,af,ag⟩:=pk3 o7))
  refine bodyPost_ret (gW rfl _ _ F6 36 #[.bool false,.string ⟨#[]⟩,.string ⟨#[]⟩] (0,0) _ rfl (pkS3 o7) Tryz.underlying36 rfl (by kernel_rfl)) rfl ?_;exact pkE HB
end Go.Proofs.YtignanmmgaldeaaGreatDoor.PRefQ
end
section
namespace Go.Proofs.YtignanmmgaldeaaGreatDoor.PRefQ
open Go.RowKit Go.Proofs.YtignanmmgaldeaaGreatDoorW.PrintWords Go.Proofs.YtignanmmgaldeaaGreatDoorW.PrintLast Go.Proofs.YtignanmmgaldeaaGreatDoorW.PrintMore
attribute [local go_sem] dQ dR eH eP
def iC.f(k:Nat)(a0_0:Bool)(a0_1 a0_2:ByteArray):Option (Bool×ByteArray×ByteArray):=if a0_0=true then(some (a0_0,a0_1,a0_2)) else((jF.f a0_2).bind fun t201=>((bJ.f k a0_1 t201).bind fun bt202=>(some (bt202.1,bt202.2.1,bt202.2.2))))
theorem iC.calls(k:Nat)(C9:Bool)(y8 o9:ByteArray)(r1:Bool)(r2 r3:ByteArray)(w:World)(h:iC.f k C9 y8 o9=some (r1,r2,r3)) :
 Calls Tryz.prog 117 #[.agg #[.bool C9,.string y8,.string o9]] w fun e w'=>e= .returned (.agg #[.bool r1,.string r2,.string r3])∧Below w.heap.size w w':=by
 have hu36:=Tryz.underlying36;have HB:=aA.mk (Below.refl w.heap.size w);have H:(if C9=true then(some (C9,y8,o9)) else((jF.f o9).bind fun D6=>((bJ.f k y8 D6).bind fun D7=>(some (D7.1,D7.2.1,D7.2.2)))))=some (r1,r2,r3):=h;clear h;go_enter Tryz.func117,Tryz.ntmps117
 by_cases c2:C9=true
 ·subst c2
  rw[if_pos rfl] at H;simp only[Option.some.injEq,Prod.mk.injEq] at H;obtain⟨rfl,rfl,rfl⟩:=H
  go_wp2_with(first|((with_reducible refine aG (N:=1) rfl ?_);refine bx_ 1 36 #[.bool true,.string y8,.string o9] (h:= ?_);intro D5 hg w3 o8 hb;have l9:=aA.mk (o8);have D8:=pkG HB hg;have F5:=D8;replace HB:=pkB HB hb;clear hb o8 hg)|((with_reducible refine aG (N:=2) rfl ?_);refine bx_ 2 36 #[.bool false,.string ⟨#[]⟩,.string ⟨#[]⟩] (h:= ?_);intro o5 hg w4 o8 hb;have o6:=aA.mk (o8);have D9:=pkG HB hg;have F6:=D9;obtain⟨o7,y9,_,_⟩:=pkQ l9 hg;replace l9:=pkK l9 hb;replace HB:=pkB HB hb;clear hb o8 hg;have G6:=o7.out;have G7:=y9.out;obtain⟨⟨G8,G9,H5⟩,H6,H7,H8⟩:=pk3 l9;obtain⟨⟨H9,I4,I5⟩,I7,I8,I9⟩:=pk3 o6))
  refine bodyPost_ret (results_cell_row rfl _ _ o5 36 #[.bool true,.string y8,.string o9] (0,0) _ rfl (pkS3 o6) Tryz.underlying36 rfl (by kernel_rfl)) rfl ?_;exact pkE HB
 ·replace c2:=Bool.eq_false_iff.mpr c2
  subst c2;rw[if_neg (show ¬(false=true) by decide)] at H;obtain⟨D6,A8,H⟩:=bi H;try dsimp only at H
  obtain⟨⟨F7,F8,F9⟩,A9,H⟩:=bi H;try dsimp only at H
  simp only[Option.some.injEq,Prod.mk.injEq] at H;obtain⟨rfl,rfl,rfl⟩:=H
  try go_wp2_with(first|((with_reducible refine aG (N:=1) rfl ?_);refine bx_ 1 36 #[.bool false,.string y8,.string o9] (h:= ?_);intro D5 hg J3 o8 hb;have l9:=aA.mk (o8);have D8:=pkG HB hg;have F5:=D8;replace HB:=pkB HB hb;clear hb o8 hg)|((with_reducible refine aG (N:=2) rfl ?_);refine bx_ 2 36 #[.bool false,.string ⟨#[]⟩,.string ⟨#[]⟩] (h:= ?_);intro o5 hg G5 o8 hb;have o6:=aA.mk (o8);have D9:=pkG HB hg;have F6:=D9;obtain⟨o7,y9,_,_⟩:=pkQ l9 hg;replace l9:=pkK l9 hb;replace HB:=pkB HB hb;clear hb o8 hg;have J4:=o7.out;have J5:=y9.out;obtain⟨⟨J6,J7,J8⟩,J9,L6,L8⟩:=pk3 l9))
  replace l9:=aA.mk (aK l9.out);replace o6:=aA.mk (aK o6.out);replace HB:=aA.mk (aJ HB.out)
  refine kF (n:=7) (S:=fun w'=>w'.cell? ⟨D5,0,none⟩=some (.bool false)∧w'.cell? ⟨D5,1,none⟩=some (.string y8)∧w'.cell? ⟨D5,2,none⟩=some (.string o9)) (ds:= []) #[false,false,false,false,false,false,false] (by kernel_rfl) rfl rfl (pcL l9) (fun hHeld=> ?_);generalize G5.drew=L9 at l9 o6 HB hHeld ⊢;refine pr_ 0 6 (h:= ?_);refine pr_ 2 8 (h:= ?_);refine tk_ 1 7 hHeld (hy:=hy3) (h:= ?_);refine tk_ 3 9 hHeld (hy:=hy3) (h:= ?_);refine on_ 4 10 (h:=fun K hK=> ?_);refine g1_ Tryz.func163 #[.string o9] (h:= ?_);with_reducible refine(jF.calls o9 D6 _ A8.out).mono ?_
  rintro e w' ⟨rfl,⟨nd,rfl⟩⟩;refine⟨_,rfl,?_⟩;refine hK.out _ _ (pcL l9) (fun hHeld=> ?_);clear hK K;refine nm_ (h:= ?_);refine on_ 5 11 (h:=fun K hK=> ?_);refine gR Tryz.func127 (bJ.calls (w:=_) (h:=A9.out)) (h:= ?_);intro E8 hb;replace l9:=pkK l9 hb;replace o6:=pkK o6 hb;replace HB:=pkB HB hb
  clear hb;refine hK.out _ _ (pcL l9) (fun hHeld=> ?_);clear hK K;refine nm_ (h:= ?_);refine one_ (i:=6) (N:=none) #[true,true,true,true,true,true,true] rfl rfl (by kernel_rfl) aG0 (fun K hK=> ?_);have N7:E8.cell? ⟨o5,0,none⟩=some (.bool false):=(fF o6.out 0).trans rfl;have N8:=eG o6.out 0;have N9:=o7.out;have O0:=y9.out;have O1:E8.cell? ⟨o5,1,none⟩=some (.string ⟨#[]⟩):=(fF o6.out 1).trans rfl;have O3:=eG o6.out 1;have O4:=o7.out;have O5:=y9.out;have O6:E8.cell? ⟨o5,2,none⟩=some (.string ⟨#[]⟩):=(fF o6.out 2).trans rfl;have O7:=eG o6.out 2;have O8:=o7.out;have O9:=y9.out;refine uQ (w1:= ?_) (by rfl) rfl ?_ ?_
  rotate_left
  ·go_simp
   rfl
  refine hK.out _ _ ⟨((aG2 (p:=⟨o5,_,none⟩) o7.out _).trans (((aG2 (p:=⟨o5,_,none⟩) o7.out _).trans (((aG2 (p:=⟨o5,_,none⟩) o7.out _).trans (hHeld.1)))))),((aG2 (p:=⟨o5,_,none⟩) o7.out _).trans (((aG2 (p:=⟨o5,_,none⟩) o7.out _).trans (((aG2 (p:=⟨o5,_,none⟩) o7.out _).trans (hHeld.2.1)))))),((aG2 (p:=⟨o5,_,none⟩) o7.out _).trans (((aG2 (p:=⟨o5,_,none⟩) o7.out _).trans (((aG2 (p:=⟨o5,_,none⟩) o7.out _).trans (hHeld.2.2))))))⟩ (fun hHeld=> ?_);clear hK K;refine kY (by kernel_rfl) ?_
  try go_wp2
  refine bodyPost_ret (results_cell_row rfl _ _ o5 36 #[.bool F7,.string F8,.string F9] (0,0) _ rfl (pkS3 o6) Tryz.underlying36 rfl (by kernel_rfl)) rfl ?_;exact pkE HB
def rE.f(k:Nat)(a0_0:Bool)(a0_1 a0_2:ByteArray):Option (Bool×ByteArray×ByteArray×Int):=(dE.f a0_0 a0_1 a0_2).bind fun t207=>(if t207=0 then((iC.f k a0_0 a0_1 a0_2).bind fun bt208=>(some (bt208.1,bt208.2.1,bt208.2.2,0))) else(some (false,(⟨#[]⟩:ByteArray),(⟨#[]⟩:ByteArray),t207)))
theorem rE.calls(k:Nat)(o7:Bool)(o8 o9:ByteArray)(r1:Bool)(r2 r3:ByteArray)(r4:Int)(w:World)(h:rE.f k o7 o8 o9=some (r1,r2,r3,r4)) :
 Calls Tryz.prog 49 #[.agg #[.bool o7,.string o8,.string o9]] w fun e w'=>e= .returned (.tuple #[.agg #[.bool r1,.string r2,.string r3],.int .i64 r4])∧Below w.heap.size w w':=by
 have hu36:=Tryz.underlying36;have HB:=aA.mk (Below.refl w.heap.size w);have H:((dE.f o7 o8 o9).bind fun y8=>(if y8=0 then((iC.f k o7 o8 o9).bind fun y9=>(some (y9.1,y9.2.1,y9.2.2,0))) else(some (false,(⟨#[]⟩:ByteArray),(⟨#[]⟩:ByteArray),y8))))=some (r1,r2,r3,r4):=h;clear h;obtain⟨y8,A2,H⟩:=bi H;try dsimp only at H
 go_enter Tryz.func49,Tryz.ntmps49
 by_cases c3:y8=0
 ·rw[if_pos c3] at H
  obtain⟨D9,E8⟩:=bT c3;clear c3;obtain⟨⟨F5,F6,F7⟩,A4,H⟩:=bi H;try dsimp only at H
  simp only[Option.some.injEq,Prod.mk.injEq] at H;obtain⟨rfl,rfl,rfl,rfl⟩:=H
  go_wp2_with(first|((with_reducible refine aG (N:=1) rfl ?_);refine bx_ 1 36 #[.bool o7,.string o8,.string o9] (h:= ?_);intro F8 hg w5 o5 hb;have l9:=aA.mk (o5);have C9:=pkG HB hg;have F9:=C9;replace HB:=pkB HB hb;clear hb o5 hg)|((with_reducible refine aG (N:=2) rfl ?_);refine bx_ 2 36 #[.bool false,.string ⟨#[]⟩,.string ⟨#[]⟩] (h:= ?_);intro D5 hg w6 o5 hb;have o6:=aA.mk (o5);have D6:=pkG HB hg;have G5:=D6;obtain⟨D7,D8,_,_⟩:=pkQ l9 hg;replace l9:=pkK l9 hb;replace HB:=pkB HB hb;clear hb o5 hg;have G6:=D7.out;have G7:=D8.out;obtain⟨⟨G8,G9,H5⟩,H6,H7,H8⟩:=pk3 l9)|((with_reducible refine aC (f:=67) rfl ?_);refine gM 6 Tryz.func67 (dE.calls (w:=_) (h:=A2.out)) (h:= ?_);intro w9 hb;replace l9:=pkK l9 hb;replace o6:=pkK o6 hb;replace HB:=pkB HB hb;try clear hb;obtain⟨⟨H9,I4,I5⟩,I7,I8,I9⟩:=pk3 l9)|((with_reducible refine aC (f:=117) rfl ?_);refine gM 12 Tryz.func117 (iC.calls (w:=_) (h:=A4.out)) (h:= ?_);intro J3 hb;replace l9:=pkK l9 hb;replace o6:=pkK o6 hb;replace HB:=pkB HB hb;try clear hb;obtain⟨⟨J4,J5,J6⟩,J7,J8,J9⟩:=pk3 o6))
  refine bodyPost_ret (gW rfl _ _ D5 36 #[.bool F5,.string F6,.string F7] (0,0) _ rfl (pkS3 o6) Tryz.underlying36 rfl (by kernel_rfl)) rfl ?_;exact pkE HB
 ·rw[if_neg c3] at H
  obtain⟨D9,E8⟩:=bF c3;simp only[Option.some.injEq,Prod.mk.injEq] at H;obtain⟨rfl,rfl,rfl,rfl⟩:=H
  go_wp2_with(first|((with_reducible refine aG (N:=1) rfl ?_);refine bx_ 1 36 #[.bool o7,.string o8,.string o9] (h:= ?_);intro F8 hg L6 o5 hb;have l9:=aA.mk (o5);have C9:=pkG HB hg;have F9:=C9;replace HB:=pkB HB hb;clear hb o5 hg)|((with_reducible refine aG (N:=2) rfl ?_);refine bx_ 2 36 #[.bool false,.string ⟨#[]⟩,.string ⟨#[]⟩] (h:= ?_);intro D5 hg L8 o5 hb;have o6:=aA.mk (o5);have D6:=pkG HB hg;have G5:=D6;obtain⟨D7,D8,_,_⟩:=pkQ l9 hg;replace l9:=pkK l9 hb;replace HB:=pkB HB hb;clear hb o5 hg;have L9:=D7.out;have N7:=D8.out;obtain⟨⟨N8,N9,O0⟩,O1,O3,O4⟩:=pk3 l9)|((with_reducible refine aC (f:=67) rfl ?_);refine gM 6 Tryz.func67 (dE.calls (w:=_) (h:=A2.out)) (h:= ?_);intro O5 hb;replace l9:=pkK l9 hb;replace o6:=pkK o6 hb;replace HB:=pkB HB hb;try clear hb;obtain⟨⟨O6,O7,O8⟩,O9,P7,P8⟩:=pk3 o6))
  refine bodyPost_ret (gW rfl _ _ D5 36 #[.bool false,.string ⟨#[]⟩,.string ⟨#[]⟩] (0,0) _ rfl (pkS3 o6) Tryz.underlying36 rfl (by kernel_rfl)) rfl ?_;exact pkE HB
def eY.j0:Nat→Bool→Bool→ByteArray→ByteArray→Bool→ByteArray→ByteArray→Option (Bool×ByteArray×ByteArray)
 |0,_,_,_,_,_,_,_=>none
 |k+1,x10,x212000,x212001,x212002,x213000,x213001,x213002=>if x10=true then((fE.f).bind fun bt214=>(some (bt214.1,bt214.2.1,bt214.2.2))) else((fZ.f x212001 x213001).bind fun t217=>((oO.f x212002 x213002).bind fun t218=>((bJ.f k t217 t218).bind fun bt219=>(some (bt219.1,bt219.2.1,bt219.2.2)))))
def eY.f(k:Nat)(a0_0:Bool)(a0_1 a0_2:ByteArray)(a1_0:Bool)(a1_1 a1_2:ByteArray):Option (Bool×ByteArray×ByteArray):=if a0_0=true then(eY.j0 k true a0_0 a0_1 a0_2 a1_0 a1_1 a1_2) else(eY.j0 k a1_0 a0_0 a0_1 a0_2 a1_0 a1_1 a1_2)
def eY.T3:Bool×List (List Nat×List Nat):=(true,[([],[]),([0],[0]),([],[]),([2],[2]),([1,3],[1,3]),([],[]),([5],[5]),([],[]),([7],[7]),([6,8,4],[6,8]),([4,9,9],[4,9]),([10,10,0,1,2,3,4,5,6,7,8,9,10],[10])])
def eY.B3:List Nat:= [0,1,0,4,15,0,32,0,128,511,1023,2047]
theorem eY.tab3:rtab .any (opsOf Tryz.f120 3)=eY.T3:=by kernel_rfl
theorem eY.bits3:kX eY.T3.2 eY.B3=true:=by kernel_rfl
theorem eY.calls(k:Nat)(y8:Bool)(C9 D5:ByteArray)(y9:Bool)(D6 D7:ByteArray)(r1:Bool)(r2 r3:ByteArray)(w:World)(h:eY.f k y8 C9 D5 y9 D6 D7=some (r1,r2,r3)) :
 Calls Tryz.prog 120 #[.agg #[.bool y8,.string C9,.string D5],.agg #[.bool y9,.string D6,.string D7]] w fun e w'=>e= .returned (.agg #[.bool r1,.string r2,.string r3])∧Below w.heap.size w w':=by
 have hu36:=Tryz.underlying36;have HB:=aA.mk (Below.refl w.heap.size w);have H:(if y8=true then(eY.j0 k true y8 C9 D5 y9 D6 D7) else(eY.j0 k y9 y8 C9 D5 y9 D6 D7))=some (r1,r2,r3):=h;clear h;have F9:=aA.mk H;clear H;go_enter Tryz.func120,Tryz.ntmps120
 go_upto_region 1 with (first|((with_reducible refine aG (N:=2) rfl ?_);refine bx_ 2 36 #[.bool y8,.string C9,.string D5] (h:= ?_);intro F5 hg w4 D8 hb;have l9:=aA.mk (D8);have G8:=pkG HB hg;have J4:=G8;replace HB:=pkB HB hb;clear hb D8 hg)|((with_reducible refine aG (N:=3) rfl ?_);refine bx_ 3 36 #[.bool y9,.string D6,.string D7] (h:= ?_);intro F6 hg w5 D8 hb;have o7:=aA.mk (D8);have G9:=pkG HB hg;have J5:=G9;obtain⟨G6,G7,_,_⟩:=pkQ l9 hg;replace l9:=pkK l9 hb;replace HB:=pkB HB hb;clear hb D8 hg)|((with_reducible refine aG (N:=4) rfl ?_);refine bx_ 4 36 #[.bool false,.string ⟨#[]⟩,.string ⟨#[]⟩] (h:= ?_);intro o5 hg w6 D8 hb;have o6:=aA.mk (D8);have H5:=pkG HB hg;have J6:=H5;obtain⟨o8,D9,_,_⟩:=pkQ l9 hg;obtain⟨o9,E8,_,_⟩:=pkQ o7 hg;replace l9:=pkK l9 hb;replace o7:=pkK o7 hb;replace HB:=pkB HB hb;clear hb D8 hg))
 (try simp only[Act.put,List.setIfInBounds_toArray,List.set_cons_zero,List.set_cons_succ])
 go_cut [10] (fun v10 wc=>∃(kq:Nat) (F7:Bool),v10= .bool F7∧aA (eY.j0 kq F7 y8 C9 D5 y9 D6 D7=some (r1,r2,r3))∧aA (kq≤k)∧aA (wc.heap[F5]? =some (.cells #[.bool y8,.string C9,.string D5] 36 (0,0)))∧aA (wc.heap[F6]? =some (.cells #[.bool y9,.string D6,.string D7] 36 (0,0)))∧aA (wc.heap[o5]? =some (.cells #[.bool false,.string ⟨#[]⟩,.string ⟨#[]⟩] 36 (0,0)))∧aA (Below w.heap.size w wc))
 case first=>
  have H:=F9.out;clear F9
  by_cases c7:y8=true
  ·subst c7
   rw[if_pos rfl] at H;have H':=aA.mk H;clear H;have J7:=G6.out;have J8:=G7.out;have J9:=o8.out;have L6:=D9.out;obtain⟨⟨L8,L9,N7⟩,N8,N9,O0⟩:=pk3 l9;go_wp2
   go_meet
   case rel=>exact⟨_,(true),aG1,H',le_,⟨pkW l9⟩,⟨pkW o7⟩,⟨pkW o6⟩,⟨pkL HB⟩⟩
  ·replace c7:=Bool.eq_false_iff.mpr c7
   subst c7;rw[if_neg (show ¬(false=true) by decide)] at H;have H':=aA.mk H;clear H;have O1:=G6.out;have O3:=G7.out;have O4:=o8.out;have O5:=D9.out;obtain⟨⟨O6,O7,O8⟩,O9,P7,P8⟩:=pk3 l9;have P9:=o9.out;have Q3:=E8.out;obtain⟨⟨Q4,Q5,Q7⟩,Q8,Q9,S9⟩:=pk3 o7;go_wp2
   go_meet
   case rel=>exact⟨_,(y9),aG1,H',le_,⟨pkW l9⟩,⟨pkW o7⟩,⟨pkW o6⟩,⟨pkL HB⟩⟩
 case rest=>
  clear F9;obtain⟨kq,F7,rfl,HA,U3,l9,o7,o6,HB⟩:=hcut
  cases kq with
  |zero=>exact absurd HA.out (by simp[eY.j0])
  |succ kj2=>
   have H:=HA.out;clear HA;simp only[eY.j0] at H
   by_cases F8:F7=true
   ·subst F8
    rw[if_pos rfl] at H;obtain⟨⟨H6,H7,H8⟩,H9,H⟩:=bi H;try dsimp only at H
    simp only[Option.some.injEq,Prod.mk.injEq] at H;obtain⟨rfl,rfl,rfl⟩:=H
    go_wp2_with(first|((with_reducible refine aC (f:=179) rfl ?_);refine gM 11 Tryz.func179 (fE.calls (w:=_) (h:=H9.out)) (h:= ?_);intro U4 hb;replace l9:=pkK l9 hb;replace o7:=pkK o7 hb;replace o6:=pkK o6 hb;replace HB:=pkB HB hb;try clear hb;have U5:=D9.out;have U6:=o8.out;have U7:=E8.out;have U8:=o9.out;obtain⟨⟨U9,V3,V4⟩,V5,V6,V7⟩:=pk3 o6))
    refine bodyPost_ret (results_cell_row rfl _ _ o5 36 #[.bool H6,.string H7,.string H8] (0,0) _ rfl (pkS3 o6) Tryz.underlying36 rfl (by kernel_rfl)) rfl ?_;exact pkE HB
   ·replace F8:=Bool.eq_false_iff.mpr F8
    subst F8;rw[if_neg (show ¬(false=true) by decide)] at H;obtain⟨V8,I4,H⟩:=bi H;try dsimp only at H
    obtain⟨V9,I5,H⟩:=bi H;try dsimp only at H
    obtain⟨⟨I7,I8,I9⟩,J3,H⟩:=bi H;try dsimp only at H
    simp only[Option.some.injEq,Prod.mk.injEq] at H;obtain⟨rfl,rfl,rfl⟩:=H
    try go_wp2
    replace l9:=aA.mk (aK l9.out);replace o7:=aA.mk (aK o7.out);replace o6:=aA.mk (aK o6.out);replace HB:=aA.mk (aJ HB.out)
    refine kF (n:=12) (S:=fun w'=>w'.cell? ⟨F5,0,none⟩=some (.bool y8)∧w'.cell? ⟨F5,1,none⟩=some (.string C9)∧w'.cell? ⟨F5,2,none⟩=some (.string D5)∧w'.cell? ⟨F6,0,none⟩=some (.bool y9)∧w'.cell? ⟨F6,1,none⟩=some (.string D6)∧w'.cell? ⟨F6,2,none⟩=some (.string D7)) (ds:= []) #[false,false,false,false,false,false,false,false,false,false,false,false] (by kernel_rfl) rfl rfl (pc3 l9 (pcL o7)) (fun hHeld=> ?_);refine jZ eY.tab3 eY.bits3 (fun HT_ HW_=> ?_)
    generalize wc.drew=X4 at l9 o7 o6 HB hHeld ⊢;refine pr_ 0 12 (h:= ?_);refine pr_ 2 14 (h:= ?_);refine pr_ 5 17 (h:= ?_);refine pr_ 7 19 (h:= ?_);refine tk_ 1 13 hHeld (hy:=hy6) (h:= ?_);refine tk_ 3 15 hHeld (hy:=hy6) (h:= ?_);refine tk_ 6 18 hHeld (hy:=hy6) (h:= ?_);refine tk_ 8 20 hHeld (hy:=hy6) (h:= ?_);refine on_ 4 16 (h:=fun K hK=> ?_);refine gR Tryz.func89 (fZ.calls (w:=_) (h:=I4.out)) (h:= ?_);intro X5 hb;replace l9:=pkK l9 hb;replace o7:=pkK o7 hb;replace o6:=pkK o6 hb;replace HB:=pkB HB hb
    clear hb;refine hK.out _ _ (pc3 l9 (pcL o7)) (fun hHeld=> ?_);clear hK K;refine nm_ (h:= ?_);refine on_ 9 21 (h:=fun K hK=> ?_);refine gR Tryz.func82 (oO.calls (w:=_) (h:=I5.out)) (h:= ?_);intro X7 hb;replace l9:=pkK l9 hb;replace o7:=pkK o7 hb;replace o6:=pkK o6 hb;replace HB:=pkB HB hb
    clear hb;refine hK.out _ _ (pc3 l9 (pcL o7)) (fun hHeld=> ?_);clear hK K;refine nm_ (h:= ?_);refine on_ 10 22 (h:=fun K hK=> ?_);refine gR Tryz.func127 (bJ.calls (w:=_) (h:=J3.out)) (h:= ?_);intro G5 hb;replace l9:=pkK l9 hb;replace o7:=pkK o7 hb;replace o6:=pkK o6 hb;replace HB:=pkB HB hb
    clear hb;refine hK.out _ _ (pc3 l9 (pcL o7)) (fun hHeld=> ?_);clear hK K;refine nm_ (h:= ?_);refine one_ (i:=11) (N:=none) #[true,true,true,true,true,true,true,true,true,true,true,true] rfl rfl (tH HT_.out (by kernel_rfl)) aG0 (fun K hK=> ?_);have X8:G5.cell? ⟨o5,0,none⟩=some (.bool false):=(fF o6.out 0).trans rfl;have X9:=eG o6.out 0;have Y0:=o8.out;have Y4:=o9.out;have Y5:=D9.out;have Y7:=E8.out;have Y8:G5.cell? ⟨o5,1,none⟩=some (.string ⟨#[]⟩):=(fF o6.out 1).trans rfl;have Y9:=eG o6.out 1;have Z7:=o8.out;have Z8:=o9.out;have Z9:=D9.out;have ae:=E8.out;have af:G5.cell? ⟨o5,2,none⟩=some (.string ⟨#[]⟩):=(fF o6.out 2).trans rfl;have ag:=eG o6.out 2;have ah:=o8.out;have ai:=o9.out;have aj:=D9.out;have ak:=E8.out;refine uQ (w1:= ?_) (by rfl) rfl ?_ ?_
    rotate_left
    ·go_simp
     rfl
    refine hK.out _ _ ⟨((aG2 (p:=⟨o5,_,none⟩) o8.out _).trans (((aG2 (p:=⟨o5,_,none⟩) o8.out _).trans (((aG2 (p:=⟨o5,_,none⟩) o8.out _).trans (hHeld.1)))))),((aG2 (p:=⟨o5,_,none⟩) o8.out _).trans (((aG2 (p:=⟨o5,_,none⟩) o8.out _).trans (((aG2 (p:=⟨o5,_,none⟩) o8.out _).trans (hHeld.2.1)))))),((aG2 (p:=⟨o5,_,none⟩) o8.out _).trans (((aG2 (p:=⟨o5,_,none⟩) o8.out _).trans (((aG2 (p:=⟨o5,_,none⟩) o8.out _).trans (hHeld.2.2.1)))))),((aG2 (p:=⟨o5,_,none⟩) o9.out _).trans (((aG2 (p:=⟨o5,_,none⟩) o9.out _).trans (((aG2 (p:=⟨o5,_,none⟩) o9.out _).trans (hHeld.2.2.2.1)))))),((aG2 (p:=⟨o5,_,none⟩) o9.out _).trans (((aG2 (p:=⟨o5,_,none⟩) o9.out _).trans (((aG2 (p:=⟨o5,_,none⟩) o9.out _).trans (hHeld.2.2.2.2.1)))))),((aG2 (p:=⟨o5,_,none⟩) o9.out _).trans (((aG2 (p:=⟨o5,_,none⟩) o9.out _).trans (((aG2 (p:=⟨o5,_,none⟩) o9.out _).trans (hHeld.2.2.2.2.2))))))⟩ (fun hHeld=> ?_);clear hK K;refine kY (lK HT_.out (by kernel_rfl)) ?_
    try go_wp2
    refine bodyPost_ret (results_cell_row rfl _ _ o5 36 #[.bool I7,.string I8,.string I9] (0,0) _ rfl (pkS3 o6) Tryz.underlying36 rfl (by kernel_rfl)) rfl ?_;exact pkE HB
def uV.f(k:Nat)(a0_0:Bool)(a0_1 a0_2:ByteArray)(a1_0:Bool)(a1_1 a1_2:ByteArray):Option (Bool×ByteArray×ByteArray×Int):=(bQ.f a0_0 a0_1 a0_2 a1_0 a1_1 a1_2).bind fun t225=>(if t225=0 then((eY.f k a0_0 a0_1 a0_2 a1_0 a1_1 a1_2).bind fun bt226=>(some (bt226.1,bt226.2.1,bt226.2.2,0))) else(some (false,(⟨#[]⟩:ByteArray),(⟨#[]⟩:ByteArray),t225)))
theorem uV.calls(k:Nat)(o8:Bool)(o9 y8:ByteArray)(y9:Bool)(C9 D5:ByteArray)(r1:Bool)(r2 r3:ByteArray)(r4:Int)(w:World)(h:uV.f k o8 o9 y8 y9 C9 D5=some (r1,r2,r3,r4)) :
 Calls Tryz.prog 51 #[.agg #[.bool o8,.string o9,.string y8],.agg #[.bool y9,.string C9,.string D5]] w fun e w'=>e= .returned (.tuple #[.agg #[.bool r1,.string r2,.string r3],.int .i64 r4])∧Below w.heap.size w w':=by
 have hu36:=Tryz.underlying36;have HB:=aA.mk (Below.refl w.heap.size w);have H:((bQ.f o8 o9 y8 y9 C9 D5).bind fun D6=>(if D6=0 then((eY.f k o8 o9 y8 y9 C9 D5).bind fun D7=>(some (D7.1,D7.2.1,D7.2.2,0))) else(some (false,(⟨#[]⟩:ByteArray),(⟨#[]⟩:ByteArray),D6))))=some (r1,r2,r3,r4):=h;clear h;obtain⟨D6,A3,H⟩:=bi H;try dsimp only at H
 go_enter Tryz.func51,Tryz.ntmps51
 by_cases c4:D6=0
 ·rw[if_pos c4] at H
  obtain⟨G7,G8⟩:=bT c4;clear c4;obtain⟨⟨G9,H5,H6⟩,A5,H⟩:=bi H;try dsimp only at H
  simp only[Option.some.injEq,Prod.mk.injEq] at H;obtain⟨rfl,rfl,rfl,rfl⟩:=H
  go_wp2_with(first|((with_reducible refine aG (N:=2) rfl ?_);refine bx_ 2 36 #[.bool o8,.string o9,.string y8] (h:= ?_);intro H7 hg w6 o5 hb;have l9:=aA.mk (o5);have D8:=pkG HB hg;have H8:=D8;replace HB:=pkB HB hb;clear hb o5 hg)|((with_reducible refine aG (N:=3) rfl ?_);refine bx_ 3 36 #[.bool y9,.string C9,.string D5] (h:= ?_);intro H9 hg w7 o5 hb;have o6:=aA.mk (o5);have D9:=pkG HB hg;have I4:=D9;obtain⟨E8,F5,_,_⟩:=pkQ l9 hg;replace l9:=pkK l9 hb;replace HB:=pkB HB hb;clear hb o5 hg)|((with_reducible refine aG (N:=4) rfl ?_);refine bx_ 4 36 #[.bool false,.string ⟨#[]⟩,.string ⟨#[]⟩] (h:= ?_);intro F6 hg w8 o5 hb;have o7:=aA.mk (o5);have F7:=pkG HB hg;have I5:=F7;obtain⟨F8,F9,_,_⟩:=pkQ l9 hg;obtain⟨G5,G6,_,_⟩:=pkQ o6 hg;replace l9:=pkK l9 hb;replace o6:=pkK o6 hb;replace HB:=pkB HB hb;clear hb o5 hg;have I7:=E8.out;have I8:=F5.out;have I9:=F8.out;have J3:=F9.out;obtain⟨⟨J4,J5,J6⟩,J7,J8,J9⟩:=pk3 l9;have L6:=G5.out;have L8:=G6.out;obtain⟨⟨L9,N7,N8⟩,N9,O0,O1⟩:=pk3 o6)|((with_reducible refine aC (f:=102) rfl ?_);refine gM 9 Tryz.func102 (bQ.calls (w:=_) (h:=A3.out)) (h:= ?_);intro O3 hb;replace l9:=pkK l9 hb;replace o6:=pkK o6 hb;replace o7:=pkK o7 hb;replace HB:=pkB HB hb;try clear hb;obtain⟨⟨O4,O5,O6⟩,O7,O8,O9⟩:=pk3 l9;obtain⟨⟨P7,P8,P9⟩,Q3,Q4,Q5⟩:=pk3 o6)|((with_reducible refine aC (f:=120) rfl ?_);refine gM 16 Tryz.func120 (eY.calls (w:=_) (h:=A5.out)) (h:= ?_);intro Q7 hb;replace l9:=pkK l9 hb;replace o6:=pkK o6 hb;replace o7:=pkK o7 hb;replace HB:=pkB HB hb;try clear hb;obtain⟨⟨Q8,Q9,S9⟩,U3,U4,U5⟩:=pk3 o7))
  refine bodyPost_ret (gW rfl _ _ F6 36 #[.bool G9,.string H5,.string H6] (0,0) _ rfl (pkS3 o7) Tryz.underlying36 rfl (by kernel_rfl)) rfl ?_;exact pkE HB
 ·rw[if_neg c4] at H
  obtain⟨G7,G8⟩:=bF c4;simp only[Option.some.injEq,Prod.mk.injEq] at H;obtain⟨rfl,rfl,rfl,rfl⟩:=H
  go_wp2_with(first|((with_reducible refine aG (N:=2) rfl ?_);refine bx_ 2 36 #[.bool o8,.string o9,.string y8] (h:= ?_);intro H7 hg U6 o5 hb;have l9:=aA.mk (o5);have D8:=pkG HB hg;have H8:=D8;replace HB:=pkB HB hb;clear hb o5 hg)|((with_reducible refine aG (N:=3) rfl ?_);refine bx_ 3 36 #[.bool y9,.string C9,.string D5] (h:= ?_);intro H9 hg U7 o5 hb;have o6:=aA.mk (o5);have D9:=pkG HB hg;have I4:=D9;obtain⟨E8,F5,_,_⟩:=pkQ l9 hg;replace l9:=pkK l9 hb;replace HB:=pkB HB hb;clear hb o5 hg)|((with_reducible refine aG (N:=4) rfl ?_);refine bx_ 4 36 #[.bool false,.string ⟨#[]⟩,.string ⟨#[]⟩] (h:= ?_);intro F6 hg U8 o5 hb;have o7:=aA.mk (o5);have F7:=pkG HB hg;have I5:=F7;obtain⟨F8,F9,_,_⟩:=pkQ l9 hg;obtain⟨G5,G6,_,_⟩:=pkQ o6 hg;replace l9:=pkK l9 hb;replace o6:=pkK o6 hb;replace HB:=pkB HB hb;clear hb o5 hg;have U9:=E8.out;have V3:=F5.out;have V4:=F8.out;have V5:=F9.out;obtain⟨⟨V6,V7,V8⟩,V9,X4,X5⟩:=pk3 l9;have X7:=G5.out;have X8:=G6.out;obtain⟨⟨X9,Y0,Y4⟩,Y5,Y7,Y8⟩:=pk3 o6)|((with_reducible refine aC (f:=102) rfl ?_);refine gM 9 Tryz.func102 (bQ.calls (w:=_) (h:=A3.out)) (h:= ?_);intro Y9 hb;replace l9:=pkK l9 hb;replace o6:=pkK o6 hb;replace o7:=pkK o7 hb;replace HB:=pkB HB hb;try clear hb;obtain⟨⟨Z7,Z8,Z9⟩,ae,af,ag⟩:=pk3 o7))
  refine bodyPost_ret (gW rfl _ _ F6 36 #[.bool false,.string ⟨#[]⟩,.string ⟨#[]⟩] (0,0) _ rfl (pkS3 o7) Tryz.underlying36 rfl (by kernel_rfl)) rfl ?_;exact pkE HB
end Go.Proofs.YtignanmmgaldeaaGreatDoor.PRefQ
end
section
namespace Go.Proofs.YtignanmmgaldeaaGreatDoor.RefV
open Go.RowKit Go.Proofs.YtignanmmgaldeaaGreatDoor Go.Proofs.YtignanmmgaldeaaGreatDoor.PRefQ Go.Proofs.YtignanmmgaldeaaGreatDoor.RefP Go.Proofs.YtignanmmgaldeaaGreatDoor.CongM Go.Proofs.YtignanmmgaldeaaGreatDoorW.PrintWords
theorem aC1{e1:Bool}{m1 r1:ByteArray}{e2:Bool}{m2 r2:ByteArray}(hz:few4 m1 r1 m2 r2):bQ.f e1 m1 r1 e2 m2 r2=some (mW e1 m1 r1 e2 m2 r2):=by
 have q1:dE.f e1 m1 r1=some (chkC e1 m1 r1):=if_pos ⟨hz.1,hz.2.1⟩;have q2:dE.f e2 m2 r2=some (chkC e2 m2 r2):=if_pos ⟨hz.2.2.1,hz.2.2.2⟩;unfold bQ.f mW;rw[q1,Option.bind_some]
 by_cases h:chkC e1 m1 r1=0
 ·rw[if_pos h,if_pos h,q2,Option.bind_some]
 ·rw[if_neg h,if_neg h]
theorem op_rv{G:Bool→ByteArray→ByteArray→Bool→ByteArray→ByteArray→Option (Bool×ByteArray×ByteArray)}{F:Option (Int×Int)→Option (Int×Int)→Option (Int×Int)}
 (hG:∀c d,jY c→jY d→G (encC c).1 (encC c).2.1 (encC c).2.2 (encC d).1 (encC d).2.1 (encC d).2.2=some (encC (F c d)))
 (e1:Bool) (m1 r1:ByteArray) (e2:Bool) (m2 r2:ByteArray) (hz:few4 m1 r1 m2 r2) :
 ((bQ.f e1 m1 r1 e2 m2 r2).bind fun t=>if t=0 then((G e1 m1 r1 e2 m2 r2).bind fun bt=>some (bt.1,bt.2.1,bt.2.2,(0:Int))) else some (false,(⟨#[]⟩:ByteArray),(⟨#[]⟩:ByteArray),t))=some (resC F e1 m1 r1 e2 m2 r2):=by
 rw[aC1 hz,Option.bind_some];unfold resC
 by_cases h:mW e1 m1 r1 e2 m2 r2=0
 ·obtain⟨c,d,gc,gd,ec,ed⟩:=aAe h
  rw[if_pos h,if_pos h];have hc:=nH c;have hd:=nH d;have hi:=hG c d gc gd;rw[←ec] at hc hi;rw[←ed] at hd hi;simp only at hc hd hi;rw[hc,hd,hi,Option.bind_some]
 ·rw[if_neg h,if_neg h]
theorem neg_cls{c:Int×Int}(gc:jY (some c)):cls 100 c.1 (-c.2)=subC 100 (0,0) c:=by
 unfold subC;refine zD ?_ ?_
 ·unfold gcdI;simp
 ·simp
theorem aCt{c:Option (Int×Int)}(gc:jY c)(k:Nat):iC.f (k+1) (encC c).1 (encC c).2.1 (encC c).2.2=some (encC (bothO (fun a b=>some (subC 100 a b)) (some (0,0)) c)):=by
 unfold iC.f
 cases c with
 |none=>rfl
 |some c=>
  show(if false=true then _ else((jF.f (text c.2)).bind fun o5=>((bJ.f (k+1) (text c.1) o5).bind fun l9=>(some (l9.1,l9.2.1,l9.2.2)))))=_;rw[if_neg aFz,yF gc.2.2 aFx aFx,Option.bind_some,qZ gc.2.1 gc.2.2.neg aFx aFx,Option.bind_some,neg_cls gc];rfl
theorem plus_none(k:Nat)(x0:Bool)(x1 x2:ByteArray)(y0:Bool)(y1 y2:ByteArray):eY.j0 (k+1) true x0 x1 x2 y0 y1 y2=some (encC none):=by
 rw[eY.j0,if_pos rfl];rfl
theorem add_rv(e1:Bool)(m1 r1:ByteArray)(e2:Bool)(m2 r2:ByteArray)(hz:few4 m1 r1 m2 r2)(k:Nat):uV.f (k+2) e1 m1 r1 e2 m2 r2=some (resC mF.o e1 m1 r1 e2 m2 r2):=
 op_rv (G:=eY.f (k+2)) (F:=mF.o) (fun c d gc gd=>by
  cases c with
  |none=>
   unfold eY.f;rw[if_pos (show(encC none).1=true from rfl)];exact plus_none _ _ _ _ _ _ _
  |some c=>
   cases d with
   |none=>
    unfold eY.f;rw[if_neg (show ¬(encC (some c)).1=true from Bool.false_ne_true)];exact plus_none _ _ _ _ _ _ _
   |some d=>
    show eY.j0 (k+1+1) false false (text c.1) (text c.2) false (text d.1) (text d.2)=_
    rw[eY.j0,if_neg aFz,pM gc.2.1 gd.2.1 aFx aFx,Option.bind_some,aD6 gc.2.2 gd.2.2 aFx aFx,Option.bind_some,
     qZ (zO gc.2.1 gd.2.1) (gc.2.2.add gd.2.2) aFx aFx,Option.bind_some]
    rfl) e1 m1 r1 e2 m2 r2 hz
theorem aFn(k:Nat)(x0:Bool)(x1 x2:ByteArray)(y0:Bool)(y1 y2:ByteArray):eX.j0 (k+1) true x0 x1 x2 y0 y1 y2=some (encC none):=by
 rw[eX.j0,if_pos rfl];rfl
theorem sub_rv(e1:Bool)(m1 r1:ByteArray)(e2:Bool)(m2 r2:ByteArray)(hz:few4 m1 r1 m2 r2)(k:Nat):uT.f (k+2) e1 m1 r1 e2 m2 r2=some (resC kG.o e1 m1 r1 e2 m2 r2):=
 op_rv (G:=eX.f (k+2)) (F:=kG.o) (fun c d gc gd=>by
  cases c with
  |none=>
   unfold eX.f;rw[if_pos (show(encC none).1=true from rfl)];exact aFn _ _ _ _ _ _ _
  |some c=>
   cases d with
   |none=>
    unfold eX.f;rw[if_neg (show ¬(encC (some c)).1=true from Bool.false_ne_true)];exact aFn _ _ _ _ _ _ _
   |some d=>
    show eX.j0 (k+1+1) false false (text c.1) (text c.2) false (text d.1) (text d.2)=_
    rw[eX.j0,if_neg aFz,pM gc.2.1 gd.2.1 aFx aFx,Option.bind_some,uN gc.2.2 gd.2.2 aFx aFx,Option.bind_some,Int.sub_eq_add_neg,
     qZ (zO gc.2.1 gd.2.1) (gc.2.2.add gd.2.2.neg) aFx aFx,Option.bind_some]
    rfl) e1 m1 r1 e2 m2 r2 hz
theorem aFo(k:Nat)(x0:Bool)(x1 x2:ByteArray)(y0:Bool)(y1 y2:ByteArray):dG.j0 (k+1) true x0 x1 x2 y0 y1 y2=some (encC none):=by
 rw[dG.j0,if_pos rfl];rfl
theorem gcdI_assoc(a b c:Int):gcdI (gcdI a b) c=gcdI a (gcdI b c):=by unfold gcdI;simp only[Int.natAbs_natCast,Nat.gcd_assoc]
theorem gcdI_bd{x y:Int}{n:Nat}(hx:Bd n x)(hy:Bd n y):Bd (n+1) (gcdI x y):=by
 have:=oQ x y;unfold Bd at *
 rw[Nat.pow_succ];generalize (10:Nat) ^ n=P at *
 omega
theorem mul_rv(e1:Bool)(m1 r1:ByteArray)(e2:Bool)(m2 r2:ByteArray)(hz:few4 m1 r1 m2 r2)(k:Nat):uU.f (k+2) e1 m1 r1 e2 m2 r2=some (resC mG.o e1 m1 r1 e2 m2 r2):=
 op_rv (G:=dG.f (k+2)) (F:=mG.o) (fun c d gc gd=>by
  cases c with
  |none=>
   unfold dG.f;rw[if_pos (show(encC none).1=true from rfl)];exact aFo _ _ _ _ _ _ _
  |some c=>
   cases d with
   |none=>
    unfold dG.f;rw[if_neg (show ¬(encC (some c)).1=true from Bool.false_ne_true)];exact aFo _ _ _ _ _ _ _
   |some d=>
    have b1:Bd 200 (c.1*d.1):=(gc.2.1.mul gd.2.1).mono aFx;have b2:Bd 200 (c.1*d.2):=(gc.2.1.mul gd.2.2).mono aFx;have b3:Bd 200 (d.1*c.2):=(gd.2.1.mul gc.2.2).mono aFx;have b4:Bd 200 (c.2*d.2):=(gc.2.2.mul gd.2.2).mono aFx;have b5:Bd 201 (gcdI (c.1*d.1) (c.1*d.2)):=gcdI_bd b1 b2;have b6:Bd 202 (gcdI (gcdI (c.1*d.1) (c.1*d.2)) (d.1*c.2)):=gcdI_bd b5 (b3.mono aFx);show dG.j0 (k+1+1) false false (text c.1) (text c.2) false (text d.1) (text d.2)=_
    rw[dG.j0,if_neg aFz,oG gc.2.1 gd.2.1 aFx aFx,Option.bind_some,oG gc.2.1 gd.2.2 aFx aFx,Option.bind_some,pM b1 b2 aFx aFx,Option.bind_some,
     oG gd.2.1 gc.2.2 aFx aFx,Option.bind_some,pM b5 (b3.mono aFx) aFx aFx,Option.bind_some,oG gc.2.2 gd.2.2 aFx aFx,Option.bind_some,
     qZ b6 (b4.mono aFx) aFx aFx,Option.bind_some,gcdI_assoc]
    rfl) e1 m1 r1 e2 m2 r2 hz
theorem neg_rv(e:Bool)(m r:ByteArray)(hm:m.size≤1000000)(hr:r.size≤1000000)(k:Nat):rE.f (k+1) e m r=some (resC kG.o false ⟨#[48]⟩ ⟨#[48]⟩ e m r):=by
 have e1:dE.f e m r=some (chkC e m r):=if_pos ⟨hm,hr⟩;have z1:chkC false ⟨#[48]⟩ ⟨#[48]⟩=0:=by decide +kernel
 have z2:mW false ⟨#[48]⟩ ⟨#[48]⟩ e m r=chkC e m r:=by unfold mW;rw[if_pos z1]
 unfold rE.f resC;rw[e1,Option.bind_some,z2]
 by_cases h:chkC e m r=0
 ·obtain⟨o,go,eo⟩:=aAq h
  have hd:=nH o;have hi:=aCt go k;rw[←eo] at hd hi;simp only at hd hi;have hz:decC false ⟨#[48]⟩ ⟨#[48]⟩=some (0,0):=by decide +kernel
  rw[if_pos h,if_pos h,hi,Option.bind_some,hd,hz];rfl
 ·rw[if_neg h,if_neg h]
end Go.Proofs.YtignanmmgaldeaaGreatDoor.RefV
end
section
namespace Go.Proofs.YtignanmmgaldeaaGreatDoor.PCongN
open Go.RowKit Go.Proofs.YtignanmmgaldeaaGreatDoorW.PrintWords Go.Proofs.YtignanmmgaldeaaGreatDoorW.PrintLast Go.Proofs.YtignanmmgaldeaaGreatDoorW.PrintMore
attribute [local go_sem] dQ dR eH eP
def aA0.f(a0_0:Bool)(a0_1 a0_2:ByteArray):Option (Bool×ByteArray×ByteArray×Int):=(fG.f (⟨#[48]⟩:ByteArray)).bind fun bt104=>((kG.f bt104.1 bt104.2.1 bt104.2.2 a0_0 a0_1 a0_2).bind fun bt107=>(some (bt107.1,bt107.2.1,bt107.2.2.1,bt107.2.2.2)))
theorem aA0.calls(o8:Bool)(o9 y8:ByteArray)(r1:Bool)(r2 r3:ByteArray)(r4:Int)(w:World)(hG:GW w)(h:aA0.f o8 o9 y8=some (r1,r2,r3,r4)) :
 Calls Tryz.prog 48 #[.agg #[.bool o8,.string o9,.string y8]] w fun e w'=>e= .returned (.tuple #[.agg #[.bool r1,.string r2,.string r3],.int .i64 r4])∧Below w.heap.size w w':=by
 have HG:=aA.mk hG;clear hG;have hu36:=Tryz.underlying36;have HB:=aA.mk (Below.refl w.heap.size w);have H:((fG.f (⟨#[48]⟩:ByteArray)).bind fun D5=>((kG.f D5.1 D5.2.1 D5.2.2 o8 o9 y8).bind fun C9=>(some (C9.1,C9.2.1,C9.2.2.1,C9.2.2.2))))=some (r1,r2,r3,r4):=h;clear h;obtain⟨⟨F7,F8,F9⟩,A2,H⟩:=bi H;try dsimp only at H
 obtain⟨⟨D8,D9,E8,G5⟩,A3,H⟩:=bi H;try dsimp only at H
 simp only[Option.some.injEq,Prod.mk.injEq] at H;obtain⟨rfl,rfl,rfl,rfl⟩:=H;go_enter Tryz.func48,Tryz.ntmps48
 try go_wp2_with(first|((with_reducible refine aG (N:=1) rfl ?_);refine bx_ 1 36 #[.bool o8,.string o9,.string y8] (h:= ?_);intro D6 hg w4 y9 hb;have o5:=aA.mk (y9);have F5:=pkG HB hg;have G6:=F5;replace HB:=pkB HB hb;clear hb y9 hg)|((with_reducible refine aG (N:=2) rfl ?_);refine bx_ 2 36 #[.bool false,.string ⟨#[]⟩,.string ⟨#[]⟩] (h:= ?_);intro o6 hg w5 y9 hb;have l9:=aA.mk (y9);have F6:=pkG HB hg;have G7:=F6;obtain⟨o7,D7,_,_⟩:=pkQ o5 hg;replace o5:=pkK o5 hb;replace HB:=pkB HB hb;clear hb y9 hg))
 replace o5:=aA.mk (aK o5.out);replace l9:=aA.mk (aK l9.out);replace HB:=aA.mk (aJ HB.out)
 refine kF (n:=7) (S:=fun w'=>w'.cell? ⟨D6,0,none⟩=some (.bool o8)∧w'.cell? ⟨D6,1,none⟩=some (.string o9)∧w'.cell? ⟨D6,2,none⟩=some (.string y8)) (ds:= []) #[false,false,false,false,false,false,false] (by kernel_rfl) rfl rfl (pcL o5) (fun hHeld=> ?_);generalize w5.drew=w6 at o5 l9 HB hHeld ⊢;refine tk_ 1 5 hHeld (hy:=hy3) (h:= ?_);refine on_ 0 4 (h:=fun K hK=> ?_);refine gR Tryz.func116 (fG.calls (w:=_) (h:=A2.out)) (h:= ?_);intro w7 hb;replace o5:=pkK o5 hb;replace l9:=pkK l9 hb;replace HB:=pkB HB hb
 (try clear hb)
 (try clear hb2)
 (try clear hk)
 (try clear hi)
 refine hK.out _ _ (pcL o5) (fun hHeld=> ?_);clear hK K;refine nm_ (h:= ?_);refine on_ 2 6 (h:=fun K hK=> ?_);refine gR Tryz.func52 (kG.calls (hG:=HG.out.below (pkL HB)) (h:=A3.out)) (h:= ?_);intro w8 hb;replace o5:=pkK o5 hb;replace l9:=pkK l9 hb;replace HB:=pkB HB hb
 (try clear hb)
 (try clear hb2)
 (try clear hk)
 (try clear hi)
 refine hK.out _ _ (pcL o5) (fun hHeld=> ?_);clear hK K;refine nm_ (h:= ?_);refine pr_ 3 7 (h:= ?_);refine pr_ 4 8 (h:= ?_);refine one_ (i:=5) (N:=none) #[true,true,true,true,true,true,false] rfl rfl (by kernel_rfl) aG0 (fun K hK=> ?_);have G8:w8.cell? ⟨o6,0,none⟩=some (.bool false):=(fF l9.out 0).trans rfl;have G9:=eG l9.out 0;have H5:=o7.out;have H6:=D7.out;have H7:w8.cell? ⟨o6,1,none⟩=some (.string ⟨#[]⟩):=(fF l9.out 1).trans rfl;have H8:=eG l9.out 1;have H9:=o7.out;have I4:=D7.out;have I5:w8.cell? ⟨o6,2,none⟩=some (.string ⟨#[]⟩):=(fF l9.out 2).trans rfl;have I7:=eG l9.out 2;have I8:=o7.out;have I9:=D7.out;refine uQ (w1:= ?_) (by rfl) rfl ?_ ?_
 rotate_left
 ·go_simp
  rfl
 refine hK.out _ _ ⟨((aG2 (p:=⟨o6,_,none⟩) o7.out _).trans (((aG2 (p:=⟨o6,_,none⟩) o7.out _).trans (((aG2 (p:=⟨o6,_,none⟩) o7.out _).trans (hHeld.1)))))),((aG2 (p:=⟨o6,_,none⟩) o7.out _).trans (((aG2 (p:=⟨o6,_,none⟩) o7.out _).trans (((aG2 (p:=⟨o6,_,none⟩) o7.out _).trans (hHeld.2.1)))))),((aG2 (p:=⟨o6,_,none⟩) o7.out _).trans (((aG2 (p:=⟨o6,_,none⟩) o7.out _).trans (((aG2 (p:=⟨o6,_,none⟩) o7.out _).trans (hHeld.2.2))))))⟩ (fun hHeld=> ?_);clear hK K;refine pr_ 6 3 (h:= ?_);refine kY (by kernel_rfl) ?_
 try go_wp2
 refine bodyPost_ret (gW rfl _ _ o6 36 #[.bool D8,.string D9,.string E8] (0,0) _ rfl (pkS3 l9) Tryz.underlying36 rfl (by kernel_rfl)) rfl ?_;exact pkE HB
end Go.Proofs.YtignanmmgaldeaaGreatDoor.PCongN
end
section
namespace Go.Proofs.YtignanmmgaldeaaGreatDoor
open Go.RowKit Go.Proofs.YtignanmmgaldeaaGreatDoor.PRefQ Go.Proofs.YtignanmmgaldeaaGreatDoor.RefV Go.Proofs.YtignanmmgaldeaaGreatDoor.RefP Go.Proofs.YtignanmmgaldeaaGreatDoor.CongM Go.Proofs.YtignanmmgaldeaaGreatDoorW.PrintWords
def vT.f(a0_0:Bool)(a0_1 a0_2:ByteArray)(a1_0:Bool)(a1_1 a1_2:ByteArray):Option (Bool×ByteArray×ByteArray×Int):=mF.f a0_0 a0_1 a0_2 a1_0 a1_1 a1_2
theorem vT.calls(l9:Bool)(o5 o6:ByteArray)(o7:Bool)(o8 o9:ByteArray)(b1:Bool)(s2 s3:ByteArray)(i4:Int)(w:World)(h:vT.f l9 o5 o6 o7 o8 o9=some (b1,s2,s3,i4)) :
 Calls Tryz.prog 51 #[.agg #[.bool l9,.string o5,.string o6],.agg #[.bool o7,.string o8,.string o9]] w fun e w'=>e= .returned (.tuple #[.agg #[.bool b1,.string s2,.string s3],.int .i64 i4])∧Below w.heap.size w w':=by
 unfold vT.f mF.f at h
 split at h
 ·rename_i hs
  exact uV.calls 5 l9 o5 o6 o7 o8 o9 b1 s2 s3 i4 w (by rw[add_rv l9 o5 o6 o7 o8 o9 hs 3];exact h)
 ·cases h
def vU.f(a0_0:Bool)(a0_1 a0_2:ByteArray)(a1_0:Bool)(a1_1 a1_2:ByteArray):Option (Bool×ByteArray×ByteArray×Int):=kG.f a0_0 a0_1 a0_2 a1_0 a1_1 a1_2
theorem vU.calls(l9:Bool)(o5 o6:ByteArray)(o7:Bool)(o8 o9:ByteArray)(b1:Bool)(s2 s3:ByteArray)(i4:Int)(w:World)(h:vU.f l9 o5 o6 o7 o8 o9=some (b1,s2,s3,i4)) :
 Calls Tryz.prog 53 #[.agg #[.bool l9,.string o5,.string o6],.agg #[.bool o7,.string o8,.string o9]] w fun e w'=>e= .returned (.tuple #[.agg #[.bool b1,.string s2,.string s3],.int .i64 i4])∧Below w.heap.size w w':=by
 unfold vU.f kG.f at h
 split at h
 ·rename_i hs
  exact uT.calls 5 l9 o5 o6 o7 o8 o9 b1 s2 s3 i4 w (by rw[sub_rv l9 o5 o6 o7 o8 o9 hs 3];exact h)
 ·cases h
def vV.f(a0_0:Bool)(a0_1 a0_2:ByteArray)(a1_0:Bool)(a1_1 a1_2:ByteArray):Option (Bool×ByteArray×ByteArray×Int):=mG.f a0_0 a0_1 a0_2 a1_0 a1_1 a1_2
theorem vV.calls(l9:Bool)(o5 o6:ByteArray)(o7:Bool)(o8 o9:ByteArray)(b1:Bool)(s2 s3:ByteArray)(i4:Int)(w:World)(h:vV.f l9 o5 o6 o7 o8 o9=some (b1,s2,s3,i4)) :
 Calls Tryz.prog 55 #[.agg #[.bool l9,.string o5,.string o6],.agg #[.bool o7,.string o8,.string o9]] w fun e w'=>e= .returned (.tuple #[.agg #[.bool b1,.string s2,.string s3],.int .i64 i4])∧Below w.heap.size w w':=by
 unfold vV.f mG.f at h
 split at h
 ·rename_i hs
  exact uU.calls 5 l9 o5 o6 o7 o8 o9 b1 s2 s3 i4 w (by rw[mul_rv l9 o5 o6 o7 o8 o9 hs 3];exact h)
 ·cases h
def uP.f(a0_0:Bool)(a0_1 a0_2:ByteArray):Option (Bool×ByteArray×ByteArray×Int):=if a0_1.size≤1000000∧a0_2.size≤1000000 then some (resC kG.o false ⟨#[48]⟩ ⟨#[48]⟩ a0_0 a0_1 a0_2) else none
theorem uP.calls(o6:Bool)(l9 o5:ByteArray)(b1:Bool)(s2 s3:ByteArray)(i4:Int)(w:World)(hG:GW w)(h:uP.f o6 l9 o5=some (b1,s2,s3,i4)) :
 Calls Tryz.prog 48 #[.agg #[.bool o6,.string l9,.string o5]] w fun e w'=>e= .returned (.tuple #[.agg #[.bool b1,.string s2,.string s3],.int .i64 i4])∧Below w.heap.size w w':=by
 unfold uP.f at h
 split at h
 ·rename_i hs
  refine PCongN.aA0.calls o6 l9 o5 b1 s2 s3 i4 w hG ?_;unfold PCongN.aA0.f PCongN.fG.f;have hz:few4 (⟨#[48]⟩:ByteArray) ⟨#[48]⟩ l9 o5:=⟨by decide,by decide,hs.1,hs.2⟩;have e:kG.f false ⟨#[48]⟩ ⟨#[48]⟩ o6 l9 o5=some (resC kG.o false ⟨#[48]⟩ ⟨#[48]⟩ o6 l9 o5):=if_pos hz;rw[Option.bind_some,e,Option.bind_some];exact h
 ·cases h
def vW.f(a0_0:Bool)(a0_1 a0_2:ByteArray):Option (Bool×ByteArray×ByteArray×Int):=uP.f a0_0 a0_1 a0_2
theorem vW.calls(l9:Bool)(o5 o6:ByteArray)(b1:Bool)(s2 s3:ByteArray)(i4:Int)(w:World)(h:vW.f l9 o5 o6=some (b1,s2,s3,i4)) :
 Calls Tryz.prog 49 #[.agg #[.bool l9,.string o5,.string o6]] w fun e w'=>e= .returned (.tuple #[.agg #[.bool b1,.string s2,.string s3],.int .i64 i4])∧Below w.heap.size w w':=by
 unfold vW.f uP.f at h
 split at h
 ·rename_i hs
  exact rE.calls 5 l9 o5 o6 b1 s2 s3 i4 w (by rw[neg_rv l9 o5 o6 hs.1 hs.2 4];exact h)
 ·cases h
end Go.Proofs.YtignanmmgaldeaaGreatDoor
end
section
namespace Go.Proofs.YtignanmmgaldeaaGreatDoor.PCongruenceComputes
open Go.Proofs.YtignanmmgaldeaaGreatDoor.PLawB
open Go.RowKit Go.Proofs.YtignanmmgaldeaaGreatDoorW.PrintWords Go.Proofs.YtignanmmgaldeaaGreatDoorW.PrintLast Go.Proofs.YtignanmmgaldeaaGreatDoorW.PrintMore
attribute [local go_sem] dQ dR eH eP
def errW:Option Int→Value
 |none=> .nilIface
 |some c=> .iface 0 (.int .i64 c)
theorem dZ:errW none= .nilIface:=rfl
theorem eF(c:Int):errW (some c)= .iface 0 (.int .i64 c):=rfl
end Go.Proofs.YtignanmmgaldeaaGreatDoor.PCongruenceComputes
end
section
namespace Go.Proofs.YtignanmmgaldeaaGreatDoor.PCongruenceComputes
open Go.Proofs.YtignanmmgaldeaaGreatDoor.PLawB
open Go.RowKit Go.Proofs.YtignanmmgaldeaaGreatDoorW.PrintWords Go.Proofs.YtignanmmgaldeaaGreatDoorW.PrintLast Go.Proofs.YtignanmmgaldeaaGreatDoorW.PrintMore
attribute [local go_sem] dQ dR eH eP
theorem yJ(d:Nat)(w:World)(x0 y0:Bool)(x1 y1 x2 y2:ByteArray) :
 (Op.equalIn (d+2) 36 (.agg #[.bool x0,.string x1,.string x2]) (.agg #[.bool y0,.string y1,.string y2])).run Tryz.prog w= .ok (x0==y0&&(x1.toList==y1.toList&&(x2.toList==y2.toList))) w:=by
 refine aD5 Tryz.underlying36 (by kernel_rfl) ?_;refine qY (by rfl) (by go_simp;rfl) (by go_simp;rfl) (by go_simp) ?_;refine qY (by rfl) (by go_simp;rfl) (by go_simp;rfl) (by go_simp) ?_;exact aB5 (by rfl) (by go_simp;rfl) (by go_simp;rfl) (by go_simp)
end Go.Proofs.YtignanmmgaldeaaGreatDoor.PCongruenceComputes
end
section
namespace Go.Proofs.YtignanmmgaldeaaGreatDoor.PCongruenceComputes
open Go.Proofs.YtignanmmgaldeaaGreatDoor.PLawB
open Go.RowKit Go.Proofs.YtignanmmgaldeaaGreatDoorW.PrintWords Go.Proofs.YtignanmmgaldeaaGreatDoorW.PrintLast Go.Proofs.YtignanmmgaldeaaGreatDoorW.PrintMore
attribute [local go_sem] dQ dR eH eP
attribute [local go_sem high] yJ
def lH.f(a0_0:Bool)(a0_1 a0_2:ByteArray)(a1_0:Bool)(a1_1 a1_2:ByteArray):Option (Bool):=(jA.f (([(⟨a0_0,a0_1,a0_2⟩:S36),(⟨a1_0,a1_1,a1_2⟩:S36)]:List (S36))) ([]:List ByteArray)).bind fun t106=>(if t106=true then((uP.f a0_0 a0_1 a0_2).bind fun bt108=>((vW.f a0_0 a0_1 a0_2).bind fun bt113=>((mF.f a0_0 a0_1 a0_2 a1_0 a1_1 a1_2).bind fun bt118=>((vT.f a0_0 a0_1 a0_2 a1_0 a1_1 a1_2).bind fun bt123=>((kG.f a0_0 a0_1 a0_2 a1_0 a1_1 a1_2).bind fun bt128=>((vU.f a0_0 a0_1 a0_2 a1_0 a1_1 a1_2).bind fun bt133=>((mG.f a0_0 a0_1 a0_2 a1_0 a1_1 a1_2).bind fun bt138=>((vV.f a0_0 a0_1 a0_2 a1_0 a1_1 a1_2).bind fun bt143=>((fC.f).bind fun t148=>(if t148=true then(if(bt108.1==bt113.1&&(bt108.2.1.toList==bt113.2.1.toList&&(bt108.2.2.1.toList==bt113.2.2.1.toList)))=true then(if bt108.2.2.2=bt113.2.2.2 then(if(bt118.1==bt123.1&&(bt118.2.1.toList==bt123.2.1.toList&&(bt118.2.2.1.toList==bt123.2.2.1.toList)))=true then(if bt118.2.2.2=bt123.2.2.2 then(if(bt128.1==bt133.1&&(bt128.2.1.toList==bt133.2.1.toList&&(bt128.2.2.1.toList==bt133.2.2.1.toList)))=true then(if bt128.2.2.2=bt133.2.2.2 then(if(bt138.1==bt143.1&&(bt138.2.1.toList==bt143.2.1.toList&&(bt138.2.2.1.toList==bt143.2.2.1.toList)))=true then(some (bt138.2.2.2==bt143.2.2.2)) else(some false)) else(some false)) else(some false)) else(some false)) else(some false)) else(some false)) else(some false)) else(some false))))))))))) else((fC.f).bind fun t107=>(some t107)))
theorem lH.calls(y9:Bool)(C9 D5:ByteArray)(D7:Bool)(D8 D9:ByteArray)(r:Bool)(w:World)(hG:GW w)(hrT:r=true)(h:lH.f y9 C9 D5 D7 D8 D9=some r) :
 Calls Tryz.prog 9 #[.agg #[.bool y9,.string C9,.string D5],.agg #[.bool D7,.string D8,.string D9]] w fun e w'=>e= .returned (.bool r)∧Below w.heap.size w w':=by
 have HG:=aA.mk hG;clear hG;have hu36:=Tryz.underlying36;have HB:=aA.mk (Below.refl w.heap.size w);have H:((jA.f (([(⟨y9,C9,D5⟩:S36),(⟨D7,D8,D9⟩:S36)]:List (S36))) ([]:List ByteArray)).bind fun Q4=>(if Q4=true then((uP.f y9 C9 D5).bind fun N7=>((vW.f y9 C9 D5).bind fun N8=>((mF.f y9 C9 D5 D7 D8 D9).bind fun N9=>((vT.f y9 C9 D5 D7 D8 D9).bind fun O0=>((kG.f y9 C9 D5 D7 D8 D9).bind fun O1=>((vU.f y9 C9 D5 D7 D8 D9).bind fun O3=>((mG.f y9 C9 D5 D7 D8 D9).bind fun O4=>((vV.f y9 C9 D5 D7 D8 D9).bind fun O5=>((fC.f).bind fun Q5=>(if Q5=true then(if(N7.1==N8.1&&(N7.2.1.toList==N8.2.1.toList&&(N7.2.2.1.toList==N8.2.2.1.toList)))=true then(if N7.2.2.2=N8.2.2.2 then(if(N9.1==O0.1&&(N9.2.1.toList==O0.2.1.toList&&(N9.2.2.1.toList==O0.2.2.1.toList)))=true then(if N9.2.2.2=O0.2.2.2 then(if(O1.1==O3.1&&(O1.2.1.toList==O3.2.1.toList&&(O1.2.2.1.toList==O3.2.2.1.toList)))=true then(if O1.2.2.2=O3.2.2.2 then(if(O4.1==O5.1&&(O4.2.1.toList==O5.2.1.toList&&(O4.2.2.1.toList==O5.2.2.1.toList)))=true then(some (O4.2.2.2==O5.2.2.2)) else(some false)) else(some false)) else(some false)) else(some false)) else(some false)) else(some false)) else(some false)) else(some false))))))))))) else((fC.f).bind fun U6=>(some U6))))=some r:=h;clear h;obtain⟨Q7,Q8⟩:∃y_:List (S36),y_=(([(⟨y9,C9,D5⟩:S36),(⟨D7,D8,D9⟩:S36)]:List (S36))):=⟨_,rfl⟩
 replace H:((jA.f Q7 ([]:List ByteArray)).bind fun Q4=>(if Q4=true then((uP.f y9 C9 D5).bind fun N7=>((vW.f y9 C9 D5).bind fun N8=>((mF.f y9 C9 D5 D7 D8 D9).bind fun N9=>((vT.f y9 C9 D5 D7 D8 D9).bind fun O0=>((kG.f y9 C9 D5 D7 D8 D9).bind fun O1=>((vU.f y9 C9 D5 D7 D8 D9).bind fun O3=>((mG.f y9 C9 D5 D7 D8 D9).bind fun O4=>((vV.f y9 C9 D5 D7 D8 D9).bind fun O5=>((fC.f).bind fun Q5=>(if Q5=true then(if(N7.1==N8.1&&(N7.2.1.toList==N8.2.1.toList&&(N7.2.2.1.toList==N8.2.2.1.toList)))=true then(if N7.2.2.2=N8.2.2.2 then(if(N9.1==O0.1&&(N9.2.1.toList==O0.2.1.toList&&(N9.2.2.1.toList==O0.2.2.1.toList)))=true then(if N9.2.2.2=O0.2.2.2 then(if(O1.1==O3.1&&(O1.2.1.toList==O3.2.1.toList&&(O1.2.2.1.toList==O3.2.2.1.toList)))=true then(if O1.2.2.2=O3.2.2.2 then(if(O4.1==O5.1&&(O4.2.1.toList==O5.2.1.toList&&(O4.2.2.1.toList==O5.2.2.1.toList)))=true then(some (O4.2.2.2==O5.2.2.2)) else(some false)) else(some false)) else(some false)) else(some false)) else(some false)) else(some false)) else(some false)) else(some false))))))))))) else((fC.f).bind fun U6=>(some U6))))=some r:=by first|(rw[Q8];with_reducible exact H)|(have H2_:=(Option.bind_some _ _).symm.trans H;rw[Q8];with_reducible exact H2_)|(have H2_:=(Option.bind_some _ _).symm.trans H;with_reducible exact H2_)|with_reducible exact H|(rw[Q8];exact H)|exact H
 have U7:=aA.mk Q8;clear Q8;obtain⟨Q4,A3,H⟩:=bi H;try dsimp only at H
 by_cases c4:Q4=true
 ·subst c4
  rw[if_pos rfl] at H;obtain⟨⟨G6,G7,G8,V9⟩,A5,H⟩:=bi H;try dsimp only at H
  obtain⟨⟨G9,H5,H6,X4⟩,A6,H⟩:=bi H;try dsimp only at H
  obtain⟨⟨H7,H8,H9,X5⟩,A7,H⟩:=bi H;try dsimp only at H
  obtain⟨⟨I4,I5,I7,X7⟩,A8,H⟩:=bi H;try dsimp only at H
  obtain⟨⟨I8,I9,J3,X8⟩,A9,H⟩:=bi H;try dsimp only at H
  obtain⟨⟨J4,J5,J6,X9⟩,Y0,H⟩:=bi H;try dsimp only at H
  obtain⟨⟨J7,J8,J9,xk⟩,Y4,H⟩:=bi H;try dsimp only at H
  obtain⟨⟨L6,L8,L9,xm⟩,Y5,H⟩:=bi H;try dsimp only at H
  obtain⟨Q5,Y7,H⟩:=bi H;try dsimp only at H
  by_cases U8:Q5=true
  ·subst U8
   rw[if_pos rfl] at H
   by_cases F6:(G6==G9&&(G7.toList==H5.toList&&(G8.toList==H6.toList)))=true
   ·rw[if_pos F6] at H
    have Y8:(G6==G9&&(G7.toList==H5.toList&&(G8.toList==H6.toList)))=true:=F6
    (try(have Y9:decide (G6=G9&&(G7.toList==H5.toList&&(G8.toList==H6.toList)))=true:=by simpa using F6))
    (try(have Z7:(G6==G9&&(G7.toList==H5.toList&&(G8.toList==H6.toList)))=true:=by simpa using F6))
    clear F6
    by_cases Q9:V9=X4
    ·rw[if_pos Q9] at H
     obtain⟨Z8,Z9⟩:=bT Q9;clear Q9
     by_cases F7:(H7==I4&&(H8.toList==I5.toList&&(H9.toList==I7.toList)))=true
     ·rw[if_pos F7] at H
      have ae:(H7==I4&&(H8.toList==I5.toList&&(H9.toList==I7.toList)))=true:=F7
      (try(have af:decide (H7=I4&&(H8.toList==I5.toList&&(H9.toList==I7.toList)))=true:=by simpa using F7))
      (try(have ag:(H7==I4&&(H8.toList==I5.toList&&(H9.toList==I7.toList)))=true:=by simpa using F7))
      clear F7
      by_cases S9:X5=X7
      ·rw[if_pos S9] at H
       obtain⟨ah,ai⟩:=bT S9;clear S9
       by_cases F8:(I8==J4&&(I9.toList==J5.toList&&(J3.toList==J6.toList)))=true
       ·rw[if_pos F8] at H
        have aj:(I8==J4&&(I9.toList==J5.toList&&(J3.toList==J6.toList)))=true:=F8
        (try(have ak:decide (I8=J4&&(I9.toList==J5.toList&&(J3.toList==J6.toList)))=true:=by simpa using F8))
        (try(have au:(I8==J4&&(I9.toList==J5.toList&&(J3.toList==J6.toList)))=true:=by simpa using F8))
        clear F8
        by_cases U3:X8=X9
        ·rw[if_pos U3] at H
         obtain⟨ax,ay⟩:=bT U3;clear U3
         by_cases F9:(J7==L6&&(J8.toList==L8.toList&&(J9.toList==L9.toList)))=true
         ·rw[if_pos F9] at H
          have az:(J7==L6&&(J8.toList==L8.toList&&(J9.toList==L9.toList)))=true:=F9
          (try(have bn:decide (J7=L6&&(J8.toList==L8.toList&&(J9.toList==L9.toList)))=true:=by simpa using F9))
          (try(have df:(J7==L6&&(J8.toList==L8.toList&&(J9.toList==L9.toList)))=true:=by simpa using F9))
          clear F9;obtain rfl:=Option.some.inj H;go_enter Tryz.func9,Tryz.ntmps9
          go_wp2_with(first|((with_reducible refine aG (N:=2) rfl ?_);refine bx_ 2 36 #[.bool y9,.string C9,.string D5] (h:= ?_);intro V3 hg xn y8 hb;have l9:=aA.mk (y8);have V4:=pkG HB hg;have dh:=V4;replace HB:=pkB HB hb;clear hb y8 hg)|((with_reducible refine aG (N:=3) rfl ?_);refine bx_ 3 36 #[.bool D7,.string D8,.string D9] (h:= ?_);intro V5 hg xq y8 hb;have o5:=aA.mk (y8);have V6:=pkG HB hg;have di:=V6;obtain⟨V7,V8,_,_⟩:=pkQ l9 hg;replace l9:=pkK l9 hb;replace HB:=pkB HB hb;clear hb y8 hg;have xu:=V7.out;have xw:=V8.out;obtain⟨⟨xx,xy,yf⟩,yg,yh,yj⟩:=pk3 l9;obtain⟨⟨yl,yt,yu⟩,yw,yx,yz⟩:=pk3 o5)|((with_reducible refine aG (N:=23) rfl ?_);refine Kd.sQ k36 _ 36 ?hg (N:=23) ?hd (xs:=([(⟨y9,C9,D5⟩:S36),(⟨D7,D8,D9⟩:S36)]:List (S36))) (inner:= [.bool y9,.string C9,.string D5,.bool D7,.string D8,.string D9]) (ok:=fun _=>True) (okp:=fun _=>True) ?hr ?hp (fun _ hk=>hk) trivial (Below.refl _ _) (Nat.le_refl _) aFz ?_;(case hd=>rfl);(case hg=>rfl);(case hr=>first|(go_simp;done)|(go_simp;rfl));(case hp=>exact(Reps.c3 (show Kd.M k36 _ _ _ (⟨y9,C9,D5⟩:S36) [.bool y9,.string C9,.string D5] from(oP _ _ _ (⟨y9,C9,D5⟩:S36))) (Reps.c3 (show Kd.M k36 _ _ _ (⟨D7,D8,D9⟩:S36) [.bool D7,.string D8,.string D9] from(oP _ _ _ (⟨D7,D8,D9⟩:S36))) (Reps.none _ _))));intro v104 zf U4 hb hg_ hnew_;clear hg_ hnew_;(first|rw[←U7.out] at U4|(simp only[Int.reduceToNat] at U4;rw[←U7.out] at U4));have o6:=aA.mk (Kd.gU (Kd.qR (Kd.qR U4 (g:=V3) (o:= .cells #[.bool y9,.string C9,.string D5] 36 (0,0)) (pkW l9)) (g:=V5) (o:= .cells #[.bool D7,.string D8,.string D9] 36 (0,0)) (pkW o5)) (dJ (pkL HB)));replace l9:=pkK l9 hb;replace o5:=pkK o5 hb;replace HB:=pkB HB hb;clear hb U4;obtain⟨dw,eu,gm⟩:=Kd.fA o6.out;subst gm)|((with_reducible refine aC (f:=34) rfl ?_);refine gl_ 24 Tryz.func34 #[.slice dw Q7.length eu,.slice none 0 0] (h:= ?_);(refine(jA.calls _ _ Q7 _ _ ([]:List ByteArray) true _ ?side1 ?side2 ?side3 ?side4 A3.out).mono ?_);(case side1=>repeat(first|exact(Kd.dB o6.out).2.2|(with_reducible refine Kd.gI ?_ _)|(with_reducible refine Kd.gJ ?_ _)|(with_reducible refine Kd.iJ ?_)));(case side2=>exact(Kd.dB o6.out).2.1);(case side3=>exact Kd.C_nil _ _);(case side4=>exact Nat.le_refl _);rintro e zg ⟨rfl,hb⟩;refine⟨_,rfl,?_⟩;replace o6:=aA.mk (Kd.dD (by(with_reducible repeat(first|apply Kd.aQ|apply Kd.aN|apply Kd.aW));exact o6.out) hb);replace l9:=pkK l9 hb;replace o5:=pkK o5 hb;replace HB:=pkB HB hb;try clear hb;obtain⟨⟨zh,zi,zk⟩,zl,zn,zo⟩:=pk3 l9)|((with_reducible refine aC (f:=48) rfl ?_);refine gM 29 Tryz.func48 (uP.calls (hG:=HG.out.below (pkL HB)) (h:=A5.out)) (h:= ?_);intro zq hb;replace o6:=aA.mk (Kd.dD (by(with_reducible repeat(first|apply Kd.aQ|apply Kd.aN|apply Kd.aW));exact o6.out) hb);replace l9:=pkK l9 hb;replace o5:=pkK o5 hb;replace HB:=pkB HB hb;try clear hb)|((with_reducible refine aG (N:=5) rfl ?_);refine bx_ 5 36 #[.bool false,.string ⟨#[]⟩,.string ⟨#[]⟩] (h:= ?_);intro O6 hg zt y8 hb;have n0_:=aA.mk (Kd.dD (Kd.nG (by(with_reducible repeat(first|apply Kd.aQ|apply Kd.aN|apply Kd.aW));exact o6.out) O6 (Nat.le_of_eq hg.symm)) hb);have n1_:=pkK l9 hb;have n2_:=pkK o5 hb;have n3_:=pkB HB hb;have n4_:=aA.mk (y8);have n5_:=pkG HB hg;have n6_:=pkG HB hg;have n7_:=pkN l9 hg;have n8_:=pkM l9 hg;have n9_:=pkN o5 hg;have n10_:=pkM o5 hg;clear o6;clear l9;clear o5;clear HB;have o6:=n0_;have l9:=n1_;have o5:=n2_;have HB:=n3_;have o7:=n4_;have zu:=n5_;have zx:=n6_;have gp:=n7_;have gq:=n8_;have gz:=n9_;have ig:=n10_;clear n0_ n1_ n2_ n3_ n4_ n5_ n6_ n7_ n8_ n9_ n10_;clear hb y8 hg;have zy:=gq.out;have Aa:=gp.out;have Ac:=ig.out;have Ad:=gz.out;obtain⟨⟨Ae,Af,Ag⟩,Ah,Ai,Aj⟩:=pk3 o7;obtain⟨⟨Ak,Am,Aq⟩,Aw,Az,Ba⟩:=pk3 l9)|((with_reducible refine aC (f:=49) rfl ?_);refine gM 34 Tryz.func49 (vW.calls (w:=_) (h:=A6.out)) (h:= ?_);intro Bc hb;replace o6:=aA.mk (Kd.dD (by(with_reducible repeat(first|apply Kd.aQ|apply Kd.aN|apply Kd.aW));exact(Kd.dK (Kd.iY (p:=⟨O6,2,none⟩) (Kd.iY (p:=⟨O6,1,none⟩) (Kd.iY (p:=⟨O6,0,none⟩) (Kd.dK o6.out (fun k_ hk=>(⟨hk,hk.2⟩:_∧k_≠O6))) (fun _ hk=>hk.2) (.bool G6)) (fun _ hk=>hk.2) (.string G7)) (fun _ hk=>hk.2) (.string G8)) (fun _ h_=>h_.1))) hb);replace l9:=pkF l9 hb;replace o5:=pkF o5 hb;replace o7:=aA.mk (iT (g:=O6) (o:= .cells #[.bool G6,.string G7,.string G8] 36 (0,0)) (pkS3 o7) hb);replace HB:=pkB HB hb;try clear hb)|((with_reducible refine aG (N:=7) rfl ?_);refine bx_ 7 36 #[.bool false,.string ⟨#[]⟩,.string ⟨#[]⟩] (h:= ?_);intro O7 hg Be y8 hb;have n0_:=aA.mk (Kd.dD (Kd.nG (by(with_reducible repeat(first|apply Kd.aQ|apply Kd.aN|apply Kd.aW));exact o6.out) O7 (Nat.le_of_eq hg.symm)) hb);have n1_:=pkK l9 hb;have n2_:=pkK o5 hb;have n3_:=pkK o7 hb;have n4_:=pkB HB hb;have n5_:=aA.mk (y8);have n6_:=pkG HB hg;have n7_:=pkG HB hg;have n8_:=pkN l9 hg;have n9_:=pkM l9 hg;have n10_:=pkN o5 hg;have n11_:=pkM o5 hg;have n12_:=pkN o7 hg;have n13_:=pkM o7 hg;clear o6;clear l9;clear o5;clear o7;clear HB;have o6:=n0_;have l9:=n1_;have o5:=n2_;have o7:=n3_;have HB:=n4_;have o8:=n5_;have Bf:=n6_;have Bg:=n7_;have ik:=n8_;have iq:=n9_;have iw:=n10_;have ja:=n11_;have jb:=n12_;have jc:=n13_;clear n0_ n1_ n2_ n3_ n4_ n5_ n6_ n7_ n8_ n9_ n10_ n11_ n12_ n13_;clear hb y8 hg;have Bh:=iq.out;have Bi:=ik.out;have Bj:=ja.out;have Bl:=iw.out;have Bo:=jc.out;have Bq:=jb.out;obtain⟨⟨Bv,Bz,Cb⟩,Cc,Ce,Cf⟩:=pk3 o8;obtain⟨⟨Ci,Cj,Cm⟩,Dc,Df,Dh⟩:=pk3 l9;obtain⟨⟨Di,Dj,Dk⟩,Dl,Dn,Dp⟩:=pk3 o5)|((with_reducible refine aC (f:=50) rfl ?_);refine gM 40 Tryz.func50 (mF.calls (hG:=HG.out.below (pkL HB)) (h:=A7.out)) (h:= ?_);intro Dq hb;replace o6:=aA.mk (Kd.dD (by(with_reducible repeat(first|apply Kd.aQ|apply Kd.aN|apply Kd.aW));exact(Kd.dK (Kd.iY (p:=⟨O7,2,none⟩) (Kd.iY (p:=⟨O7,1,none⟩) (Kd.iY (p:=⟨O7,0,none⟩) (Kd.dK o6.out (fun k_ hk=>(⟨hk,hk.2⟩:_∧k_≠O7))) (fun _ hk=>hk.2) (.bool G9)) (fun _ hk=>hk.2) (.string H5)) (fun _ hk=>hk.2) (.string H6)) (fun _ h_=>h_.1))) hb);replace l9:=pkF l9 hb;replace o5:=pkF o5 hb;replace o7:=pkF o7 hb;replace o8:=aA.mk (iT (g:=O7) (o:= .cells #[.bool G9,.string H5,.string H6] 36 (0,0)) (pkS3 o8) hb);replace HB:=pkB HB hb;try clear hb)|((with_reducible refine aG (N:=9) rfl ?_);refine bx_ 9 36 #[.bool false,.string ⟨#[]⟩,.string ⟨#[]⟩] (h:= ?_);intro O8 hg Dt y8 hb;have n0_:=aA.mk (Kd.dD (Kd.nG (by(with_reducible repeat(first|apply Kd.aQ|apply Kd.aN|apply Kd.aW));exact o6.out) O8 (Nat.le_of_eq hg.symm)) hb);have n1_:=pkK l9 hb;have n2_:=pkK o5 hb;have n3_:=pkK o7 hb;have n4_:=pkK o8 hb;have n5_:=pkB HB hb;have n6_:=aA.mk (y8);have n7_:=pkG HB hg;have n8_:=pkG HB hg;have n9_:=pkN l9 hg;have n10_:=pkM l9 hg;have n11_:=pkN o5 hg;have n12_:=pkM o5 hg;have n13_:=pkN o7 hg;have n14_:=pkM o7 hg;have n15_:=pkN o8 hg;have n16_:=pkM o8 hg;clear o6;clear l9;clear o5;clear o7;clear o8;clear HB;have o6:=n0_;have l9:=n1_;have o5:=n2_;have o7:=n3_;have o8:=n4_;have HB:=n5_;have o9:=n6_;have Du:=n7_;have Dv:=n8_;have jd:=n9_;have je:=n10_;have jf:=n11_;have jg:=n12_;have jh:=n13_;have ji:=n14_;have jk:=n15_;have jl:=n16_;clear n0_ n1_ n2_ n3_ n4_ n5_ n6_ n7_ n8_ n9_ n10_ n11_ n12_ n13_ n14_ n15_ n16_;clear hb y8 hg;have Dw:=je.out;have Dx:=jd.out;have Dy:=jg.out;have Dz:=jf.out;have Ea:=ji.out;have Eb:=jh.out;have Ec:=jl.out;have Ed:=jk.out;obtain⟨⟨Ee,Ef,Eg⟩,Eh,Ei,Ej⟩:=pk3 o9;obtain⟨⟨Em,En,Eo⟩,Ep,Es,Et⟩:=pk3 l9;obtain⟨⟨Eu,Ew,Ey⟩,Ez,Fa,Fb⟩:=pk3 o5)|((with_reducible refine aC (f:=51) rfl ?_);refine gM 46 Tryz.func51 (vT.calls (w:=_) (h:=A8.out)) (h:= ?_);intro Fe hb;replace o6:=aA.mk (Kd.dD (by(with_reducible repeat(first|apply Kd.aQ|apply Kd.aN|apply Kd.aW));exact(Kd.dK (Kd.iY (p:=⟨O8,2,none⟩) (Kd.iY (p:=⟨O8,1,none⟩) (Kd.iY (p:=⟨O8,0,none⟩) (Kd.dK o6.out (fun k_ hk=>(⟨hk,hk.2⟩:_∧k_≠O8))) (fun _ hk=>hk.2) (.bool H7)) (fun _ hk=>hk.2) (.string H8)) (fun _ hk=>hk.2) (.string H9)) (fun _ h_=>h_.1))) hb);replace l9:=pkF l9 hb;replace o5:=pkF o5 hb;replace o7:=pkF o7 hb;replace o8:=pkF o8 hb;replace o9:=aA.mk (iT (g:=O8) (o:= .cells #[.bool H7,.string H8,.string H9] 36 (0,0)) (pkS3 o9) hb);replace HB:=pkB HB hb;try clear hb)|((with_reducible refine aG (N:=11) rfl ?_);refine bx_ 11 36 #[.bool false,.string ⟨#[]⟩,.string ⟨#[]⟩] (h:= ?_);intro O9 hg Ff y8 hb;have n0_:=aA.mk (Kd.dD (Kd.nG (by(with_reducible repeat(first|apply Kd.aQ|apply Kd.aN|apply Kd.aW));exact o6.out) O9 (Nat.le_of_eq hg.symm)) hb);have n1_:=pkK l9 hb;have n2_:=pkK o5 hb;have n3_:=pkK o7 hb;have n4_:=pkK o8 hb;have n5_:=pkK o9 hb;have n6_:=pkB HB hb;have n7_:=aA.mk (y8);have n8_:=pkG HB hg;have n9_:=pkG HB hg;have n10_:=pkN l9 hg;have n11_:=pkM l9 hg;have n12_:=pkN o5 hg;have n13_:=pkM o5 hg;have n14_:=pkN o7 hg;have n15_:=pkM o7 hg;have n16_:=pkN o8 hg;have n17_:=pkM o8 hg;have n18_:=pkN o9 hg;have n19_:=pkM o9 hg;clear o6;clear l9;clear o5;clear o7;clear o8;clear o9;clear HB;have o6:=n0_;have l9:=n1_;have o5:=n2_;have o7:=n3_;have o8:=n4_;have o9:=n5_;have HB:=n6_;have D6:=n7_;have Fg:=n8_;have Fh:=n9_;have jm:=n10_;have jo:=n11_;have jq:=n12_;have jr:=n13_;have jw:=n14_;have jy:=n15_;have ku:=n16_;have kw:=n17_;have kz:=n18_;have lg:=n19_;clear n0_ n1_ n2_ n3_ n4_ n5_ n6_ n7_ n8_ n9_ n10_ n11_ n12_ n13_ n14_ n15_ n16_ n17_ n18_ n19_;clear hb y8 hg;have Fj:=jo.out;have Fp:=jm.out;have Fq:=jr.out;have Fv:=jq.out;have Fz:=jy.out;have Gf:=jw.out;have Gg:=kw.out;have Gh:=ku.out;have Gi:=lg.out;have Gj:=kz.out;obtain⟨⟨Gl,Gm,Gn⟩,Gp,Gq,Gs⟩:=pk3 D6;obtain⟨⟨Gt,Gu,Gv⟩,Gw,Gx,Gy⟩:=pk3 l9;obtain⟨⟨Gz,Ha,Hf⟩,Hg,Hl,Hm⟩:=pk3 o5)|((with_reducible refine aC (f:=52) rfl ?_);refine gM 52 Tryz.func52 (kG.calls (hG:=HG.out.below (pkL HB)) (h:=A9.out)) (h:= ?_);intro Ho hb;replace o6:=aA.mk (Kd.dD (by(with_reducible repeat(first|apply Kd.aQ|apply Kd.aN|apply Kd.aW));exact(Kd.dK (Kd.iY (p:=⟨O9,2,none⟩) (Kd.iY (p:=⟨O9,1,none⟩) (Kd.iY (p:=⟨O9,0,none⟩) (Kd.dK o6.out (fun k_ hk=>(⟨hk,hk.2⟩:_∧k_≠O9))) (fun _ hk=>hk.2) (.bool I4)) (fun _ hk=>hk.2) (.string I5)) (fun _ hk=>hk.2) (.string I7)) (fun _ h_=>h_.1))) hb);replace l9:=pkF l9 hb;replace o5:=pkF o5 hb;replace o7:=pkF o7 hb;replace o8:=pkF o8 hb;replace o9:=pkF o9 hb;replace D6:=aA.mk (iT (g:=O9) (o:= .cells #[.bool I4,.string I5,.string I7] 36 (0,0)) (pkS3 D6) hb);replace HB:=pkB HB hb;try clear hb)|((with_reducible refine aG (N:=13) rfl ?_);refine bx_ 13 36 #[.bool false,.string ⟨#[]⟩,.string ⟨#[]⟩] (h:= ?_);intro P7 hg Hq y8 hb;have n0_:=aA.mk (Kd.dD (Kd.nG (by(with_reducible repeat(first|apply Kd.aQ|apply Kd.aN|apply Kd.aW));exact o6.out) P7 (Nat.le_of_eq hg.symm)) hb);have n1_:=pkK l9 hb;have n2_:=pkK o5 hb;have n3_:=pkK o7 hb;have n4_:=pkK o8 hb;have n5_:=pkK o9 hb;have n6_:=pkK D6 hb;have n7_:=pkB HB hb;have n8_:=aA.mk (y8);have n9_:=pkG HB hg;have n10_:=pkG HB hg;have n11_:=pkN l9 hg;have n12_:=pkM l9 hg;have n13_:=pkN o5 hg;have n14_:=pkM o5 hg;have n15_:=pkN o7 hg;have n16_:=pkM o7 hg;have n17_:=pkN o8 hg;have n18_:=pkM o8 hg;have n19_:=pkN o9 hg;have n20_:=pkM o9 hg;have n21_:=pkN D6 hg;have n22_:=pkM D6 hg;clear o6;clear l9;clear o5;clear o7;clear o8;clear o9;clear D6;clear HB;have o6:=n0_;have l9:=n1_;have o5:=n2_;have o7:=n3_;have o8:=n4_;have o9:=n5_;have D6:=n6_;have HB:=n7_;have E8:=n8_;have Hr:=n9_;have Hu:=n10_;have lh:=n11_;have lq:=n12_;have lu:=n13_;have lw:=n14_;have mf:=n15_;have mg:=n16_;have mi:=n17_;have mr:=n18_;have ng:=n19_;have ni:=n20_;have nz:=n21_;have oh:=n22_;clear n0_ n1_ n2_ n3_ n4_ n5_ n6_ n7_ n8_ n9_ n10_ n11_ n12_ n13_ n14_ n15_ n16_ n17_ n18_ n19_ n20_ n21_ n22_;clear hb y8 hg;have Hw:=lq.out;have Hy:=lh.out;have Ia:=lw.out;have Ib:=lu.out;have Ic:=mg.out;have Ie:=mf.out;have Ig:=mr.out;have Ih:=mi.out;have Ii:=ni.out;have Ij:=ng.out;have Ik:=oh.out;have Il:=nz.out;obtain⟨⟨Io,Ip,Iq⟩,Ir,Iu,Iw⟩:=pk3 E8;obtain⟨⟨Iy,Iz,Ja⟩,Jb,Jc,Jd⟩:=pk3 l9;obtain⟨⟨Je,Jf,Jg⟩,Jh,Ji,Jj⟩:=pk3 o5)|((with_reducible refine aC (f:=53) rfl ?_);refine gM 58 Tryz.func53 (vU.calls (w:=_) (h:=Y0.out)) (h:= ?_);intro Jk hb;replace o6:=aA.mk (Kd.dD (by(with_reducible repeat(first|apply Kd.aQ|apply Kd.aN|apply Kd.aW));exact(Kd.dK (Kd.iY (p:=⟨P7,2,none⟩) (Kd.iY (p:=⟨P7,1,none⟩) (Kd.iY (p:=⟨P7,0,none⟩) (Kd.dK o6.out (fun k_ hk=>(⟨hk,hk.2⟩:_∧k_≠P7))) (fun _ hk=>hk.2) (.bool I8)) (fun _ hk=>hk.2) (.string I9)) (fun _ hk=>hk.2) (.string J3)) (fun _ h_=>h_.1))) hb);replace l9:=pkF l9 hb;replace o5:=pkF o5 hb;replace o7:=pkF o7 hb;replace o8:=pkF o8 hb;replace o9:=pkF o9 hb;replace D6:=pkF D6 hb;replace E8:=aA.mk (iT (g:=P7) (o:= .cells #[.bool I8,.string I9,.string J3] 36 (0,0)) (pkS3 E8) hb);replace HB:=pkB HB hb;try clear hb)|((with_reducible refine aG (N:=15) rfl ?_);refine bx_ 15 36 #[.bool false,.string ⟨#[]⟩,.string ⟨#[]⟩] (h:= ?_);intro P8 hg Jl y8 hb;have n0_:=aA.mk (Kd.dD (Kd.nG (by(with_reducible repeat(first|apply Kd.aQ|apply Kd.aN|apply Kd.aW));exact o6.out) P8 (Nat.le_of_eq hg.symm)) hb);have n1_:=pkK l9 hb;have n2_:=pkK o5 hb;have n3_:=pkK o7 hb;have n4_:=pkK o8 hb;have n5_:=pkK o9 hb;have n6_:=pkK D6 hb;have n7_:=pkK E8 hb;have n8_:=pkB HB hb;have n9_:=aA.mk (y8);have n10_:=pkG HB hg;have n11_:=pkG HB hg;have n12_:=pkN l9 hg;have n13_:=pkM l9 hg;have n14_:=pkN o5 hg;have n15_:=pkM o5 hg;have n16_:=pkN o7 hg;have n17_:=pkM o7 hg;have n18_:=pkN o8 hg;have n19_:=pkM o8 hg;have n20_:=pkN o9 hg;have n21_:=pkM o9 hg;have n22_:=pkN D6 hg;have n23_:=pkM D6 hg;have n24_:=pkN E8 hg;have n25_:=pkM E8 hg;clear o6;clear l9;clear o5;clear o7;clear o8;clear o9;clear D6;clear E8;clear HB;have o6:=n0_;have l9:=n1_;have o5:=n2_;have o7:=n3_;have o8:=n4_;have o9:=n5_;have D6:=n6_;have E8:=n7_;have HB:=n8_;have F5:=n9_;have Jm:=n10_;have Jn:=n11_;have oq:=n12_;have ou:=n13_;have oz:=n14_;have pg:=n15_;have pq:=n16_;have pz:=n17_;have qc:=n18_;have qf:=n19_;have qg:=n20_;have qh:=n21_;have qi:=n22_;have qj:=n23_;have ql:=n24_;have qm:=n25_;clear n0_ n1_ n2_ n3_ n4_ n5_ n6_ n7_ n8_ n9_ n10_ n11_ n12_ n13_ n14_ n15_ n16_ n17_ n18_ n19_ n20_ n21_ n22_ n23_ n24_ n25_;clear hb y8 hg;have Jo:=ou.out;have Jp:=oq.out;have Jq:=pg.out;have Jr:=oz.out;have Js:=pz.out;have Jt:=pq.out;have Ju:=qf.out;have Jv:=qc.out;have Jw:=qh.out;have Jy:=qg.out;have Jz:=qj.out;have Ko:=qi.out;have Kq:=qm.out;have Kr:=ql.out;obtain⟨⟨Kt,Ku,Kv⟩,Kw,Ky,Kz⟩:=pk3 F5;obtain⟨⟨La,Lc,Ld⟩,Le,Lh,Lj⟩:=pk3 l9;obtain⟨⟨Ll,Lp,Lr⟩,Ls,Lt,Lu⟩:=pk3 o5)|((with_reducible refine aC (f:=54) rfl ?_);refine gM 64 Tryz.func54 (mG.calls (hG:=HG.out.below (pkL HB)) (h:=Y4.out)) (h:= ?_);intro Mc hb;replace o6:=aA.mk (Kd.dD (by(with_reducible repeat(first|apply Kd.aQ|apply Kd.aN|apply Kd.aW));exact(Kd.dK (Kd.iY (p:=⟨P8,2,none⟩) (Kd.iY (p:=⟨P8,1,none⟩) (Kd.iY (p:=⟨P8,0,none⟩) (Kd.dK o6.out (fun k_ hk=>(⟨hk,hk.2⟩:_∧k_≠P8))) (fun _ hk=>hk.2) (.bool J4)) (fun _ hk=>hk.2) (.string J5)) (fun _ hk=>hk.2) (.string J6)) (fun _ h_=>h_.1))) hb);replace l9:=pkF l9 hb;replace o5:=pkF o5 hb;replace o7:=pkF o7 hb;replace o8:=pkF o8 hb;replace o9:=pkF o9 hb;replace D6:=pkF D6 hb;replace E8:=pkF E8 hb;replace F5:=aA.mk (iT (g:=P8) (o:= .cells #[.bool J4,.string J5,.string J6] 36 (0,0)) (pkS3 F5) hb);replace HB:=pkB HB hb;try clear hb)|((with_reducible refine aG (N:=17) rfl ?_);refine bx_ 17 36 #[.bool false,.string ⟨#[]⟩,.string ⟨#[]⟩] (h:= ?_);intro P9 hg Md y8 hb;have n0_:=aA.mk (Kd.dD (Kd.nG (by(with_reducible repeat(first|apply Kd.aQ|apply Kd.aN|apply Kd.aW));exact o6.out) P9 (Nat.le_of_eq hg.symm)) hb);have n1_:=pkK l9 hb;have n2_:=pkK o5 hb;have n3_:=pkK o7 hb;have n4_:=pkK o8 hb;have n5_:=pkK o9 hb;have n6_:=pkK D6 hb;have n7_:=pkK E8 hb;have n8_:=pkK F5 hb;have n9_:=pkB HB hb;have n10_:=aA.mk (y8);have n11_:=pkG HB hg;have n12_:=pkG HB hg;have n13_:=pkN l9 hg;have n14_:=pkM l9 hg;have n15_:=pkN o5 hg;have n16_:=pkM o5 hg;have n17_:=pkN o7 hg;have n18_:=pkM o7 hg;have n19_:=pkN o8 hg;have n20_:=pkM o8 hg;have n21_:=pkN o9 hg;have n22_:=pkM o9 hg;have n23_:=pkN D6 hg;have n24_:=pkM D6 hg;have n25_:=pkN E8 hg;have n26_:=pkM E8 hg;have n27_:=pkN F5 hg;have n28_:=pkM F5 hg;clear o6;clear l9;clear o5;clear o7;clear o8;clear o9;clear D6;clear E8;clear F5;clear HB;have o6:=n0_;have l9:=n1_;have o5:=n2_;have o7:=n3_;have o8:=n4_;have o9:=n5_;have D6:=n6_;have E8:=n7_;have F5:=n8_;have HB:=n9_;have G5:=n10_;have Me:=n11_;have Na:=n12_;have qo:=n13_;have qp:=n14_;have qw:=n15_;have qx:=n16_;have qy:=n17_;have rf:=n18_;have rq:=n19_;have ru:=n20_;have ry:=n21_;have su:=n22_;have tq:=n23_;have tu:=n24_;have uf:=n25_;have ug:=n26_;have uh:=n27_;have ui:=n28_;clear n0_ n1_ n2_ n3_ n4_ n5_ n6_ n7_ n8_ n9_ n10_ n11_ n12_ n13_ n14_ n15_ n16_ n17_ n18_ n19_ n20_ n21_ n22_ n23_ n24_ n25_ n26_ n27_ n28_;clear hb y8 hg;have Nb:=qp.out;have Nc:=qo.out;have Nh:=qx.out;have Nj:=qw.out;have Nk:=rf.out;have Nl:=qy.out;have Np:=ru.out;have Nq:=rq.out;have Nr:=su.out;have Ns:=ry.out;have Nu:=tu.out;have Nv:=tq.out;have Nw:=ug.out;have Ny:=uf.out;have Nz:=ui.out;have Oa:=uh.out;obtain⟨⟨Ob,Oc,Oe⟩,Og,Oh,Oi⟩:=pk3 G5;obtain⟨⟨Oj,Ol,Om⟩,Oo,Oq,Ot⟩:=pk3 l9;obtain⟨⟨Ou,Ov,Ox⟩,Oy,Oz,Pe⟩:=pk3 o5)|((with_reducible refine aC (f:=55) rfl ?_);refine gM 70 Tryz.func55 (vV.calls (w:=_) (h:=Y5.out)) (h:= ?_);intro Pg hb;replace o6:=aA.mk (Kd.dD (by(with_reducible repeat(first|apply Kd.aQ|apply Kd.aN|apply Kd.aW));exact(Kd.dK (Kd.iY (p:=⟨P9,2,none⟩) (Kd.iY (p:=⟨P9,1,none⟩) (Kd.iY (p:=⟨P9,0,none⟩) (Kd.dK o6.out (fun k_ hk=>(⟨hk,hk.2⟩:_∧k_≠P9))) (fun _ hk=>hk.2) (.bool J7)) (fun _ hk=>hk.2) (.string J8)) (fun _ hk=>hk.2) (.string J9)) (fun _ h_=>h_.1))) hb);replace l9:=pkF l9 hb;replace o5:=pkF o5 hb;replace o7:=pkF o7 hb;replace o8:=pkF o8 hb;replace o9:=pkF o9 hb;replace D6:=pkF D6 hb;replace E8:=pkF E8 hb;replace F5:=pkF F5 hb;replace G5:=aA.mk (iT (g:=P9) (o:= .cells #[.bool J7,.string J8,.string J9] 36 (0,0)) (pkS3 G5) hb);replace HB:=pkB HB hb;try clear hb)|((with_reducible refine aG (N:=19) rfl ?_);refine bx_ 19 36 #[.bool false,.string ⟨#[]⟩,.string ⟨#[]⟩] (h:= ?_);intro Q3 hg Ph y8 hb;have n0_:=aA.mk (Kd.dD (Kd.nG (by(with_reducible repeat(first|apply Kd.aQ|apply Kd.aN|apply Kd.aW));exact o6.out) Q3 (Nat.le_of_eq hg.symm)) hb);have n1_:=pkK l9 hb;have n2_:=pkK o5 hb;have n3_:=pkK o7 hb;have n4_:=pkK o8 hb;have n5_:=pkK o9 hb;have n6_:=pkK D6 hb;have n7_:=pkK E8 hb;have n8_:=pkK F5 hb;have n9_:=pkK G5 hb;have n10_:=pkB HB hb;have n11_:=aA.mk (y8);have n12_:=pkG HB hg;have n13_:=pkG HB hg;have n14_:=pkN l9 hg;have n15_:=pkM l9 hg;have n16_:=pkN o5 hg;have n17_:=pkM o5 hg;have n18_:=pkN o7 hg;have n19_:=pkM o7 hg;have n20_:=pkN o8 hg;have n21_:=pkM o8 hg;have n22_:=pkN o9 hg;have n23_:=pkM o9 hg;have n24_:=pkN D6 hg;have n25_:=pkM D6 hg;have n26_:=pkN E8 hg;have n27_:=pkM E8 hg;have n28_:=pkN F5 hg;have n29_:=pkM F5 hg;have n30_:=pkN G5 hg;have n31_:=pkM G5 hg;clear o6;clear l9;clear o5;clear o7;clear o8;clear o9;clear D6;clear E8;clear F5;clear G5;clear HB;have o6:=n0_;have l9:=n1_;have o5:=n2_;have o7:=n3_;have o8:=n4_;have o9:=n5_;have D6:=n6_;have E8:=n7_;have F5:=n8_;have G5:=n9_;have HB:=n10_;have U9:=n11_;have Pi:=n12_;have Pj:=n13_;have uj:=n14_;have uk:=n15_;have ul:=n16_;have um:=n17_;have uo:=n18_;have uq:=n19_;have ut:=n20_;have uu:=n21_;have uw:=n22_;have uy:=n23_;have uz:=n24_;have ve:=n25_;have vg:=n26_;have vk:=n27_;have vw:=n28_;have vz:=n29_;have wo:=n30_;have wu:=n31_;clear n0_ n1_ n2_ n3_ n4_ n5_ n6_ n7_ n8_ n9_ n10_ n11_ n12_ n13_ n14_ n15_ n16_ n17_ n18_ n19_ n20_ n21_ n22_ n23_ n24_ n25_ n26_ n27_ n28_ n29_ n30_ n31_;clear hb y8 hg;have Pm:=uk.out;have Pn:=uj.out;have Po:=um.out;have Pq:=ul.out;have Pv:=uq.out;have Px:=uo.out;have Py:=uu.out;have Pz:=ut.out;have Qa:=uy.out;have Qb:=uw.out;have Qc:=ve.out;have Qd:=uz.out;have Qe:=vk.out;have Qg:=vg.out;have Qh:=vz.out;have Qi:=vw.out;have Qj:=wu.out;have Qk:=wo.out;obtain⟨⟨Ql,Qm,Qn⟩,Qo,Qp,Qq⟩:=pk3 U9)|((with_reducible refine aC (f:=35) rfl ?_);refine gM 73 Tryz.func35 (fC.calls (hG:=HG.out.below (pkL HB)) (h:=Y7.out)) (h:= ?_);intro Qr hb;replace o6:=aA.mk (Kd.dD (by(with_reducible repeat(first|apply Kd.aQ|apply Kd.aN|apply Kd.aW));exact(Kd.dK (Kd.iY (p:=⟨Q3,2,none⟩) (Kd.iY (p:=⟨Q3,1,none⟩) (Kd.iY (p:=⟨Q3,0,none⟩) (Kd.dK o6.out (fun k_ hk=>(⟨hk,hk.2⟩:_∧k_≠Q3))) (fun _ hk=>hk.2) (.bool L6)) (fun _ hk=>hk.2) (.string L8)) (fun _ hk=>hk.2) (.string L9)) (fun _ h_=>h_.1))) hb);replace l9:=pkF l9 hb;replace o5:=pkF o5 hb;replace o7:=pkF o7 hb;replace o8:=pkF o8 hb;replace o9:=pkF o9 hb;replace D6:=pkF D6 hb;replace E8:=pkF E8 hb;replace F5:=pkF F5 hb;replace G5:=pkF G5 hb;replace U9:=aA.mk (iT (g:=Q3) (o:= .cells #[.bool L6,.string L8,.string L9] 36 (0,0)) (pkS3 U9) hb);replace HB:=pkB HB hb;try clear hb;obtain⟨⟨Qs,Qu,Qv⟩,Qw,Qx,Qy⟩:=pk3 o7;obtain⟨⟨Qz,Rf,Rh⟩,Ri,Rj,Rk⟩:=pk3 o8;obtain⟨⟨Rl,Rn,Ro⟩,Rq,Rt,Ru⟩:=pk3 o9;obtain⟨⟨Rw,Rx,Ry⟩,Rz,Si,Sj⟩:=pk3 D6;obtain⟨⟨Sl,Sm,Sr⟩,Su,Sv,Sz⟩:=pk3 E8;obtain⟨⟨Tc,Td,Tf⟩,Ti,Tj,Tm⟩:=pk3 F5;obtain⟨⟨Tn,Tq,Tt⟩,Tu,Tv,Tz⟩:=pk3 G5;obtain⟨⟨Ua,Ub,Uc⟩,Ud,Ue,Uf⟩:=pk3 U9))
          go_ret
          exact pkE HB
         ·rw[if_neg F9] at H
          have az:(J7==L6&&(J8.toList==L8.toList&&(J9.toList==L9.toList)))=false:=by simpa using F9
          (try(have bn:decide (J7=L6&&(J8.toList==L8.toList&&(J9.toList==L9.toList)))=false:=by simpa using F9))
          (try(have df:(J7==L6&&(J8.toList==L8.toList&&(J9.toList==L9.toList)))=false:=by simpa using F9))
          (try(have Ug:¬(J7=L6&&(J8.toList==L8.toList&&(J9.toList==L9.toList))):=by simpa using F9))
          clear F9;exact absurd (Option.some.inj H) (by rw[hrT];decide)
        ·rw[if_neg U3] at H
         obtain⟨ax,ay⟩:=bF U3;exact absurd (Option.some.inj H) (by rw[hrT];decide)
       ·rw[if_neg F8] at H
        have aj:(I8==J4&&(I9.toList==J5.toList&&(J3.toList==J6.toList)))=false:=by simpa using F8
        (try(have ak:decide (I8=J4&&(I9.toList==J5.toList&&(J3.toList==J6.toList)))=false:=by simpa using F8))
        (try(have au:(I8==J4&&(I9.toList==J5.toList&&(J3.toList==J6.toList)))=false:=by simpa using F8))
        (try(have Uh:¬(I8=J4&&(I9.toList==J5.toList&&(J3.toList==J6.toList))):=by simpa using F8))
        clear F8;exact absurd (Option.some.inj H) (by rw[hrT];decide)
      ·rw[if_neg S9] at H
       obtain⟨ah,ai⟩:=bF S9;exact absurd (Option.some.inj H) (by rw[hrT];decide)
     ·rw[if_neg F7] at H
      have ae:(H7==I4&&(H8.toList==I5.toList&&(H9.toList==I7.toList)))=false:=by simpa using F7
      (try(have af:decide (H7=I4&&(H8.toList==I5.toList&&(H9.toList==I7.toList)))=false:=by simpa using F7))
      (try(have ag:(H7==I4&&(H8.toList==I5.toList&&(H9.toList==I7.toList)))=false:=by simpa using F7))
      (try(have Ui:¬(H7=I4&&(H8.toList==I5.toList&&(H9.toList==I7.toList))):=by simpa using F7))
      clear F7;exact absurd (Option.some.inj H) (by rw[hrT];decide)
    ·rw[if_neg Q9] at H
     obtain⟨Z8,Z9⟩:=bF Q9;exact absurd (Option.some.inj H) (by rw[hrT];decide)
   ·rw[if_neg F6] at H
    have Y8:(G6==G9&&(G7.toList==H5.toList&&(G8.toList==H6.toList)))=false:=by simpa using F6
    (try(have Y9:decide (G6=G9&&(G7.toList==H5.toList&&(G8.toList==H6.toList)))=false:=by simpa using F6))
    (try(have Z7:(G6==G9&&(G7.toList==H5.toList&&(G8.toList==H6.toList)))=false:=by simpa using F6))
    (try(have Uj:¬(G6=G9&&(G7.toList==H5.toList&&(G8.toList==H6.toList))):=by simpa using F6))
    clear F6;exact absurd (Option.some.inj H) (by rw[hrT];decide)
  ·replace U8:=Bool.eq_false_iff.mpr U8
   subst U8;rw[if_neg (show ¬(false=true) by decide)] at H;exact absurd (Option.some.inj H) (by rw[hrT];decide)
 ·replace c4:=Bool.eq_false_iff.mpr c4
  subst c4;rw[if_neg (show ¬(false=true) by decide)] at H;obtain⟨U6,ww,H⟩:=bi H;try dsimp only at H
  obtain rfl:=Option.some.inj H;go_enter Tryz.func9,Tryz.ntmps9
  go_wp2_with(first|((with_reducible refine aG (N:=2) rfl ?_);refine bx_ 2 36 #[.bool y9,.string C9,.string D5] (h:= ?_);intro V3 hg Uk y8 hb;have l9:=aA.mk (y8);have V4:=pkG HB hg;have dh:=V4;replace HB:=pkB HB hb;clear hb y8 hg)|((with_reducible refine aG (N:=3) rfl ?_);refine bx_ 3 36 #[.bool D7,.string D8,.string D9] (h:= ?_);intro V5 hg Ul y8 hb;have o5:=aA.mk (y8);have V6:=pkG HB hg;have di:=V6;obtain⟨V7,V8,_,_⟩:=pkQ l9 hg;replace l9:=pkK l9 hb;replace HB:=pkB HB hb;clear hb y8 hg;have Um:=V7.out;have Un:=V8.out;obtain⟨⟨Uo,Ur,Us⟩,Ut,Uu,Uw⟩:=pk3 l9;obtain⟨⟨Ux,Uy,Uz⟩,Va,Vb,Vd⟩:=pk3 o5)|((with_reducible refine aG (N:=23) rfl ?_);refine Kd.sQ k36 _ 36 ?hg (N:=23) ?hd (xs:=([(⟨y9,C9,D5⟩:S36),(⟨D7,D8,D9⟩:S36)]:List (S36))) (inner:= [.bool y9,.string C9,.string D5,.bool D7,.string D8,.string D9]) (ok:=fun _=>True) (okp:=fun _=>True) ?hr ?hp (fun _ hk=>hk) trivial (Below.refl _ _) (Nat.le_refl _) aFz ?_;(case hd=>rfl);(case hg=>rfl);(case hr=>first|(go_simp;done)|(go_simp;rfl));(case hp=>exact(Reps.c3 (show Kd.M k36 _ _ _ (⟨y9,C9,D5⟩:S36) [.bool y9,.string C9,.string D5] from(oP _ _ _ (⟨y9,C9,D5⟩:S36))) (Reps.c3 (show Kd.M k36 _ _ _ (⟨D7,D8,D9⟩:S36) [.bool D7,.string D8,.string D9] from(oP _ _ _ (⟨D7,D8,D9⟩:S36))) (Reps.none _ _))));intro v104 Ve U5 hb hg_ hnew_;clear hg_ hnew_;(first|rw[←U7.out] at U5|(simp only[Int.reduceToNat] at U5;rw[←U7.out] at U5));have o6:=aA.mk (Kd.gU (Kd.qR (Kd.qR U5 (g:=V3) (o:= .cells #[.bool y9,.string C9,.string D5] 36 (0,0)) (pkW l9)) (g:=V5) (o:= .cells #[.bool D7,.string D8,.string D9] 36 (0,0)) (pkW o5)) (dJ (pkL HB)));replace l9:=pkK l9 hb;replace o5:=pkK o5 hb;replace HB:=pkB HB hb;clear hb U5;obtain⟨xe,xg,xh⟩:=Kd.fA o6.out;subst xh)|((with_reducible refine aC (f:=34) rfl ?_);refine gl_ 24 Tryz.func34 #[.slice xe Q7.length xg,.slice none 0 0] (h:= ?_);(refine(jA.calls _ _ Q7 _ _ ([]:List ByteArray) false _ ?side1 ?side2 ?side3 ?side4 A3.out).mono ?_);(case side1=>repeat(first|exact(Kd.dB o6.out).2.2|(with_reducible refine Kd.gI ?_ _)|(with_reducible refine Kd.gJ ?_ _)|(with_reducible refine Kd.iJ ?_)));(case side2=>exact(Kd.dB o6.out).2.1);(case side3=>exact Kd.C_nil _ _);(case side4=>exact Nat.le_refl _);rintro e Vf ⟨rfl,hb⟩;refine⟨_,rfl,?_⟩;replace o6:=aA.mk (Kd.dD (by(with_reducible repeat(first|apply Kd.aQ|apply Kd.aN|apply Kd.aW));exact o6.out) hb);replace l9:=pkK l9 hb;replace o5:=pkK o5 hb;replace HB:=pkB HB hb;try clear hb)|((with_reducible refine aC (f:=35) rfl ?_);refine gM 26 Tryz.func35 (fC.calls (hG:=HG.out.below (pkL HB)) (h:=ww.out)) (h:= ?_);intro Vg hb;replace o6:=aA.mk (Kd.dD (by(with_reducible repeat(first|apply Kd.aQ|apply Kd.aN|apply Kd.aW));exact o6.out) hb);replace l9:=pkK l9 hb;replace o5:=pkK o5 hb;replace HB:=pkB HB hb;try clear hb))
  go_ret
  exact pkE HB
end Go.Proofs.YtignanmmgaldeaaGreatDoor.PCongruenceComputes
end
section
namespace Go.Proofs.YtignanmmgaldeaaGreatDoor.PureComputes
open Go.RowKit Go.Proofs.YtignanmmgaldeaaGreatDoor Go.Proofs.YtignanmmgaldeaaGreatDoor.PLawB Go.Proofs.YtignanmmgaldeaaGreatDoor.LawC Go.Proofs.YtignanmmgaldeaaGreatDoor.PCongruenceComputes Go.Proofs.YtignanmmgaldeaaGreatDoor.RefP Go.Proofs.YtignanmmgaldeaaGreatDoor.PCongI Go.Proofs.YtignanmmgaldeaaGreatDoor.CongM Go.Proofs.YtignanmmgaldeaaGreatDoorW.PrintWords
theorem law(o6:Bool)(l9 o5:ByteArray)(o9:Bool)(o7 o8:ByteArray)(w0:l9.size≤140737488351232)(w1:o5.size≤140737488351232)(w2:o7.size≤140737488351232)(w3:o8.size≤140737488351232):lH.f o6 l9 o5 o9 o7 o8=some true:=by
 have hf:jA.f [(⟨o6,l9,o5⟩:S36),(⟨o9,o7,o8⟩:S36)] ([]:List ByteArray)=some (decide (fewP [(⟨o6,l9,o5⟩:S36),(⟨o9,o7,o8⟩:S36)] ([]:List ByteArray))):=if_pos ⟨by simp,by simp⟩;unfold lH.f;rw[hf,Option.bind_some]
 by_cases hF:fewP [(⟨o6,l9,o5⟩:S36),(⟨o9,o7,o8⟩:S36)] ([]:List ByteArray)
 ·rw[decide_eq_true hF]
  have s1:=hF.1 (⟨o6,l9,o5⟩:S36) aFz;have s2:=hF.1 (⟨o9,o7,o8⟩:S36) aFz;have hz:few4 l9 o5 o7 o8:=⟨Nat.le_trans s1.1 aFx,Nat.le_trans s1.2 aFx,Nat.le_trans s2.1 aFx,Nat.le_trans s2.2 aFx⟩;have e0:uP.f o6 l9 o5=some (resC kG.o false ⟨#[48]⟩ ⟨#[48]⟩ o6 l9 o5):=if_pos ⟨hz.1,hz.2.1⟩;have e1:vW.f o6 l9 o5=some (resC kG.o false ⟨#[48]⟩ ⟨#[48]⟩ o6 l9 o5):=e0;have e2:mF.f o6 l9 o5 o9 o7 o8=some (resC mF.o o6 l9 o5 o9 o7 o8):=if_pos hz;have e3:vT.f o6 l9 o5 o9 o7 o8=some (resC mF.o o6 l9 o5 o9 o7 o8):=if_pos hz;have e4:kG.f o6 l9 o5 o9 o7 o8=some (resC kG.o o6 l9 o5 o9 o7 o8):=if_pos hz;have e5:vU.f o6 l9 o5 o9 o7 o8=some (resC kG.o o6 l9 o5 o9 o7 o8):=if_pos hz;have e6:mG.f o6 l9 o5 o9 o7 o8=some (resC mG.o o6 l9 o5 o9 o7 o8):=if_pos hz;have e7:vV.f o6 l9 o5 o9 o7 o8=some (resC mG.o o6 l9 o5 o9 o7 o8):=if_pos hz;simp only[if_true,e0,e1,e2,e3,e4,e5,e6,e7,oU,Option.bind_some,beq_self_eq_true,Bool.and_self,if_true]
 ·rw[decide_eq_false hF]
  simp only[Bool.false_eq_true,if_false,oU,Option.bind_some]
end Go.Proofs.YtignanmmgaldeaaGreatDoor.PureComputes
end
