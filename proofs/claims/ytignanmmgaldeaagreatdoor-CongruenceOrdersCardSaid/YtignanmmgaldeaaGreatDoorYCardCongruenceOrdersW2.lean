/- Lemmas for the proof. -/
import Derived.Test.YtignanmmgaldeaaGreatDoorYCardCongruenceOrdersW1
import Derived.Test.YtignanmmgaldeaaGreatDoorYK
set_option linter.unusedVariables false
set_option linter.unusedSimpArgs false
set_option maxHeartbeats 8000000
set_option maxRecDepth 100000
section
namespace Go.Proofs.YtignanmmgaldeaaGreatDoor.RefP
open Go.RowKit PRefA YtignanmmgaldeaaGreatDoorW.PrintWords YtignanmmgaldeaaGreatDoorW.PrintLast
theorem nX(x:Int){m:Nat}(hx:Bd m x)(hm:1≤m):bI.f (text x)=some (sgnI x):=by
 unfold bI.f
 by_cases h:x=0
 ·rw[if_pos ((bK x).2 h),h];rfl
 ·rw[if_neg (fun q=>h ((bK x).1 q))]
  obtain⟨s,h1,h2,h3⟩:=qM x;have hne:=mV x.natAbs
  have hsz:0<(text x).size:=by
   rw[Lib.size_eq,h1,List.length_append];have:=List.length_pos_iff.2 hne;omega
  rw[pG _ hsz,Option.bind_some,h1];unfold sgnI;rcases h2 with rfl|rfl
  ·have hx0:¬x<0:=fun q=>by have:=h3.2 q;cases this
   have hp:Lib.hasPrefix ([]++Lib.decDigits x.natAbs) [45]=false:=by
    have hm:=lW x.natAbs;rw[List.nil_append];generalize Lib.decDigits x.natAbs=l at hm hne
    cases l with
    |nil=>exact absurd rfl hne
    |cons c r=>
     by_cases hc:c=45
     ·subst hc;exact absurd rfl (hm r)
     ·simp[Lib.hasPrefix,List.isPrefixOf,Ne.symm hc]
   rw[hp,if_neg aFz,if_neg hx0,if_neg h]
  ·have hx0:x<0:=h3.1 rfl
   have hp:Lib.hasPrefix ([45]++Lib.decDigits x.natAbs) [45]=true:=by simp[Lib.hasPrefix]
   rw[hp,if_pos rfl,if_pos hx0]
theorem fmod_congr{x y n:Int}(hn:0≤n)(h:n∣x-y):Int.fmod x n=Int.fmod y n:=by
 rw[Int.fmod_eq_emod_of_nonneg _ hn,Int.fmod_eq_emod_of_nonneg _ hn,Int.emod_eq_emod_iff_emod_sub_eq_zero,←Int.dvd_iff_emod_eq_zero];exact h
theorem bez_unique{a b X:Int}(hb:b≠0)(h:∃t,X*a+t*b=gcdI a b):Int.fmod X ((b.natAbs:Int)/gcdI a b)=bezU a b:=by
 obtain⟨t,ht⟩:=h;obtain⟨u,hu⟩:=bezP_val a b hb;have hg:=aAb (a:=a) hb;obtain⟨n,hn⟩:=qL a b;unfold bezU;rw[if_neg hb];generalize bezP a b=P at hu ⊢;generalize gcdI a b=g at *
 have e:(b.natAbs:Int)/g=(n.natAbs:Int):=by
  rw[hn,Int.natAbs_mul,Int.natCast_mul,show(g.natAbs:Int)=g by omega,Int.mul_ediv_cancel_left _ aFx]
 rw[e];refine fmod_congr (Int.natCast_nonneg _) (Int.natAbs_dvd.2 ?_)
 have h1:g*(X-P)=g*(n*((u-t)*P+(X-P)*u)):=by
  have k1:(X-P)*a=(u-t)*b:=by rw[Int.sub_mul,Int.sub_mul];omega
  have k2:g*(X-P)=(X-P)*(P*a+u*b):=by rw[hu];exact Int.mul_comm _ _
  rw[k2,Int.mul_add,show(X-P)*(P*a)=P*((X-P)*a) by ac_rfl,k1,hn];rw[Int.mul_add,Int.mul_add];have k3:P*((u-t)*(g*n))=g*(n*((u-t)*P)):=by ac_rfl
  have k4:(X-P)*(u*(g*n))=g*(n*((X-P)*u)):=by ac_rfl
  rw[k3,k4]
 have h2:=Int.eq_of_mul_eq_mul_left aFx h1;exact⟨_,h2⟩
theorem coef_step{x z r s q B:Int}(hq:0≤q)(hs:0≤s)(hr:0≤r-q*s)(h:x.natAbs*s.natAbs+z.natAbs*r.natAbs≤B.natAbs):z.natAbs*(r-q*s).natAbs+(x-q*z).natAbs*s.natAbs≤B.natAbs:=by
 have h1:(x-q*z).natAbs≤x.natAbs+q.natAbs*z.natAbs:=by
  have:=Int.natAbs_sub_le x (q*z);rw[Int.natAbs_mul] at this;exact this
 have h2:=Nat.mul_le_mul_right s.natAbs h1
 have h3:(r-q*s).natAbs+q.natAbs*s.natAbs=r.natAbs:=by
  have:(q*s).natAbs=q.natAbs*s.natAbs:=Int.natAbs_mul _ _;have:=Int.mul_nonneg hq hs;omega
 rw[←h3,Nat.mul_add] at h;rw[Nat.add_mul] at h2;have e:z.natAbs*(q.natAbs*s.natAbs)=q.natAbs*z.natAbs*s.natAbs:=by ac_rfl
 omega
theorem aFm{x z r s B:Int}(hr:r≠0)(h:x.natAbs*s.natAbs+z.natAbs*r.natAbs≤B.natAbs):z.natAbs≤B.natAbs:=by
 have:=Nat.le_mul_of_pos_right z.natAbs (show 0<r.natAbs by omega);omega
end Go.Proofs.YtignanmmgaldeaaGreatDoor.RefP
end
section
namespace Go.Proofs.YtignanmmgaldeaaGreatDoor.PRefA
open Go.RowKit RefP YtignanmmgaldeaaGreatDoorW.PrintWords YtignanmmgaldeaaGreatDoorW.PrintLast YtignanmmgaldeaaGreatDoorW.PrintMore
attribute [local go_sem] dQ dR eH eP
def aZ.l0:Nat→ByteArray→ByteArray→Option (ByteArray)
 |0,_,_=>none
 |k+1,x5,x6=>if x6.toList=([48]:List UInt8) then(some x5) else((gZ.f x5 x6).bind fun t107=>(aZ.l0 k x6 t107))
def aZ.f(k:Nat)(a0 a1:ByteArray):Option (ByteArray):=(cZ.f a0).bind fun t105=>((cZ.f a1).bind fun t106=>(aZ.l0 k t105 t106))
theorem aZ.calls(k:Nat)(a0 a1 r:ByteArray)(w:World)(h:aZ.f k a0 a1=some r) :
 Calls Tryz.prog 89 #[.string a0,.string a1] w fun e w'=>e= .returned (.string r)∧Below w.heap.size w w':=by
 have HB:=aA.mk (Below.refl w.heap.size w);have H:((cZ.f a0).bind fun o6=>((cZ.f a1).bind fun o5=>(aZ.l0 k o6 o5)))=some r:=h;clear h;replace H:=Option.bind_eq_some_iff.mp H;obtain⟨o6,o9,H⟩:=H;replace H:((cZ.f a1).bind fun o5=>(aZ.l0 k o6 o5))=some r:=H;have A3:=aA.mk o9;clear o9;replace H:=Option.bind_eq_some_iff.mp H;obtain⟨o5,y8,H⟩:=H;replace H:(aZ.l0 k o6 o5)=some r:=H;have A4:=aA.mk y8;clear y8;have H':=aA.mk H;clear H;go_enter Tryz.func89,Tryz.ntmps89
 go_wp2_with(first|((with_reducible refine aC (f:=92) rfl ?_);refine gl_ 8 Tryz.func92 #[.string a0] (h:= ?_);(with_reducible refine(cZ.calls a0 o6 _ A3.out).mono ?_);rintro e w' ⟨rfl,⟨nd,rfl⟩⟩;refine⟨_,rfl,?_⟩)|((with_reducible refine aC (f:=92) rfl ?_);refine gl_ 10 Tryz.func92 #[.string a1] (h:= ?_);(with_reducible refine(cZ.calls a1 o5 _ A4.out).mono ?_);rintro e w' ⟨rfl,⟨nd,rfl⟩⟩;refine⟨_,rfl,?_⟩))
 go_loopg [5,6] k (fun kq v5 v6 w'=>∃(o7:ByteArray) (l9:ByteArray),v5= .string o7∧v6= .string l9∧aA (aZ.l0 kq o7 l9=some r)∧aA (kq≤k)∧aA (Below w.heap.size w w'))
 case atStart=>exact⟨(o6),(o5),aG1,aG1,H',⟨Nat.le_refl _⟩,⟨by repeat(first|(with_reducible first|exact HB.out|apply aT|apply aI|apply aJ)|exact HB.out)⟩⟩
 case round=>
  clear H';try clear p2
  obtain⟨o7,l9,rfl,rfl,HA,y9,HB⟩:=hrel
  cases gk with
  |zero=>exact absurd HA.out (by simp[aZ.l0])
  |succ k1=>
   have H:=HA.out;clear HA;simp only[aZ.l0] at H
   by_cases c5:l9.toList=([48]:List UInt8)
   ·rw[if_pos c5] at H
    have D5:(l9.toList==([48]:List UInt8))=true:=beq_iff_eq.mpr c5;have D6:(l9.toList != ([48]:List UInt8))=false:=bne_eq_false_iff_eq.mpr c5;clear c5;obtain rfl:=Option.some.inj H;go_wp2
    go_ret
    exact⟨by first|rfl|(simp[dZ,eF] <;> rfl)|(simp[*,dZ,eF] <;> rfl),by repeat(first|(with_reducible first|exact HB.out|apply aT|apply aI|apply aJ)|exact HB.out)⟩
   ·rw[if_neg c5] at H
    have D5:(l9.toList==([48]:List UInt8))=false:=beq_eq_false_iff_ne.mpr c5;have D6:(l9.toList != ([48]:List UInt8))=true:=bne_iff_ne.mpr c5;replace H:=Option.bind_eq_some_iff.mp H;obtain⟨o8,C9,H⟩:=H;replace H:(aZ.l0 k1 l9 o8)=some r:=H;have A6:=aA.mk C9;clear C9;have H':=aA.mk H;clear H
    go_wp2_with(first|((with_reducible refine aC (f:=78) rfl ?_);refine gM 16 Tryz.func78 (gZ.calls (w:=_) (h:=A6.out)) (h:= ?_);intro w7 hb;replace HB:=pkB HB hb;clear hb))
    go_roundg k1
    case measure=>have:=y9.out;omega
    case rel=>exact⟨(l9),(o8),aG1,aG1,H',⟨by have:=y9.out;omega⟩,⟨by repeat(first|(with_reducible first|exact HB.out|apply aT|apply aI|apply aJ)|exact HB.out)⟩⟩
def dY.l0:Nat→ByteArray→ByteArray→ByteArray→ByteArray→ByteArray→ByteArray→Option (ByteArray×ByteArray)
 |0,_,_,_,_,_,_=>none
 |k+1,x0,x1,x6,x7,x8,x9=>if x7.toList=([48]:List UInt8) then((cZ.f x1).bind fun t119=>((jR.f t119 x6).bind fun t120=>((gZ.f x8 t120).bind fun t121=>((gG.f x0 t121).bind fun t122=>((iE.f x6 t122).bind fun t123=>((jR.f t123 x1).bind fun t124=>(some (t121,t124)))))))) else((jR.f x6 x7).bind fun t114=>((gG.f t114 x7).bind fun t115=>((iE.f x6 t115).bind fun t116=>((gG.f t114 x9).bind fun t117=>((iE.f x8 t117).bind fun t118=>(dY.l0 k x0 x1 x7 t116 x9 t118))))))
def dY.f(k:Nat)(a0 a1:ByteArray):Option (ByteArray×ByteArray):=if a1.toList=([48]:List UInt8) then((bI.f a0).bind fun t109=>((dW.f k t109).bind fun t110=>(some (t110,(⟨#[48]⟩:ByteArray))))) else((cZ.f a1).bind fun t111=>((cZ.f a1).bind fun t112=>((gZ.f a0 t112).bind fun t113=>(dY.l0 k a0 a1 t111 t113 (⟨#[48]⟩:ByteArray) (⟨#[49]⟩:ByteArray)))))
theorem dY.calls(k:Nat)(a0 a1 r1 r2:ByteArray)(w:World)(h:dY.f k a0 a1=some (r1,r2)) :
 Calls Tryz.prog 96 #[.string a0,.string a1] w fun e w'=>e= .returned (.tuple #[.string r1,.string r2])∧Below w.heap.size w w':=by
 have HB:=aA.mk (Below.refl w.heap.size w);have H:(if a1.toList=([48]:List UInt8) then((bI.f a0).bind fun F6=>((dW.f k F6).bind fun F7=>(some (F7,(⟨#[48]⟩:ByteArray))))) else((cZ.f a1).bind fun E8=>((cZ.f a1).bind fun D9=>((gZ.f a0 D9).bind fun D6=>(dY.l0 k a0 a1 E8 D6 (⟨#[48]⟩:ByteArray) (⟨#[49]⟩:ByteArray))))))=some (r1,r2):=h;clear h
 by_cases c3:a1.toList=([48]:List UInt8)
 ·rw[if_pos c3] at H
  have G6:(a1.toList==([48]:List UInt8))=true:=beq_iff_eq.mpr c3;have G7:(a1.toList != ([48]:List UInt8))=false:=bne_eq_false_iff_eq.mpr c3;clear c3;replace H:=Option.bind_eq_some_iff.mp H;obtain⟨F6,G8,H⟩:=H;replace H:((dW.f k F6).bind fun F7=>(some (F7,(⟨#[48]⟩:ByteArray))))=some (r1,r2):=H;have A4:=aA.mk G8;clear G8;replace H:=Option.bind_eq_some_iff.mp H;obtain⟨F7,G9,H⟩:=H;replace H:(some (F7,(⟨#[48]⟩:ByteArray)))=some (r1,r2):=H;have A5:=aA.mk G9;clear G9;simp only[Option.some.injEq,Prod.mk.injEq] at H;obtain⟨rfl,rfl⟩:=H;go_enter Tryz.func96,Tryz.ntmps96
  go_wp2_with(first|((with_reducible refine aC (f:=142) rfl ?_);refine gl_ 14 Tryz.func142 #[.string a0] (h:= ?_);(with_reducible refine(bI.calls a0 F6 _ A4.out).mono ?_);rintro e w' ⟨rfl,⟨nd,rfl⟩⟩;refine⟨_,rfl,?_⟩)|((with_reducible refine aC (f:=151) rfl ?_);refine gM 15 Tryz.func151 (dW.calls (w:=_) (h:=A5.out)) (h:= ?_);intro w6 hb;replace HB:=pkB HB hb;clear hb))
  go_ret2
  exact⟨by first|rfl|(simp[dZ,eF] <;> rfl)|(simp[*,dZ,eF] <;> rfl),by repeat(first|(with_reducible first|exact HB.out|apply aT|apply aI|apply aJ)|exact HB.out)⟩
 ·rw[if_neg c3] at H
  have G6:(a1.toList==([48]:List UInt8))=false:=beq_eq_false_iff_ne.mpr c3;have G7:(a1.toList != ([48]:List UInt8))=true:=bne_iff_ne.mpr c3;replace H:=Option.bind_eq_some_iff.mp H;obtain⟨E8,H5,H⟩:=H;replace H:((cZ.f a1).bind fun D9=>((gZ.f a0 D9).bind fun D6=>(dY.l0 k a0 a1 E8 D6 (⟨#[48]⟩:ByteArray) (⟨#[49]⟩:ByteArray))))=some (r1,r2):=H;have A7:=aA.mk H5;clear H5;replace H:=Option.bind_eq_some_iff.mp H;obtain⟨D9,H6,H⟩:=H;replace H:((gZ.f a0 D9).bind fun D6=>(dY.l0 k a0 a1 E8 D6 (⟨#[48]⟩:ByteArray) (⟨#[49]⟩:ByteArray)))=some (r1,r2):=H;have A8:=aA.mk H6;clear H6;replace H:=Option.bind_eq_some_iff.mp H;obtain⟨D6,H7,H⟩:=H;replace H:(dY.l0 k a0 a1 E8 D6 (⟨#[48]⟩:ByteArray) (⟨#[49]⟩:ByteArray))=some (r1,r2):=H;have A9:=aA.mk H7;clear H7;have H':=aA.mk H;clear H;go_enter Tryz.func96,Tryz.ntmps96
  go_wp2_with(first|((with_reducible refine aC (f:=92) rfl ?_);refine gl_ 17 Tryz.func92 #[.string a1] (h:= ?_);(with_reducible refine(cZ.calls a1 E8 _ A7.out).mono ?_);rintro e w' ⟨rfl,⟨nd,rfl⟩⟩;refine⟨_,rfl,?_⟩)|((with_reducible refine aC (f:=92) rfl ?_);refine gl_ 20 Tryz.func92 #[.string a1] (h:= ?_);(with_reducible refine(cZ.calls a1 D9 _ A8.out).mono ?_);rintro e w' ⟨rfl,⟨nd,rfl⟩⟩;refine⟨_,rfl,?_⟩)|((with_reducible refine aC (f:=78) rfl ?_);refine gM 21 Tryz.func78 (gZ.calls (w:=_) (h:=A9.out)) (h:= ?_);intro O6 hb;replace HB:=pkB HB hb;clear hb))
  go_loopg [6,7,8,9] k (fun kq v6 v7 v8 v9 w'=>∃(o5:ByteArray) (l9:ByteArray) (o8:ByteArray) (o6:ByteArray),v6= .string o5∧v7= .string l9∧v8= .string o8∧v9= .string o6∧aA (dY.l0 kq a0 a1 o5 l9 o8 o6=some (r1,r2))∧aA (kq≤k)∧aA (Below w.heap.size w w'))
  case atStart=>exact⟨(E8),(D6),((⟨#[48]⟩:ByteArray)),((⟨#[49]⟩:ByteArray)),aG1,aG1,aG1,aG1,H',⟨Nat.le_refl _⟩,⟨by repeat(first|(with_reducible first|exact HB.out|apply aT|apply aI|apply aJ)|exact HB.out)⟩⟩
  case round=>
   clear H';try clear c1
   try clear p2
   try clear c3
   try clear G6
   try clear G7
   try clear c7
   try clear c9
   obtain⟨o5,l9,o8,o6,rfl,rfl,rfl,rfl,HA,H8,HB⟩:=hrel
   cases gk with
   |zero=>exact absurd HA.out (by simp[dY.l0])
   |succ k1=>
    have H:=HA.out;clear HA;simp only[dY.l0] at H
    by_cases F5:l9.toList=([48]:List UInt8)
    ·rw[if_pos F5] at H
     have J8:(l9.toList==([48]:List UInt8))=true:=beq_iff_eq.mpr F5;have J9:(l9.toList != ([48]:List UInt8))=false:=bne_eq_false_iff_eq.mpr F5;clear F5;replace H:=Option.bind_eq_some_iff.mp H;obtain⟨G5,H9,H⟩:=H;replace H:((jR.f G5 o5).bind fun F8=>((gZ.f o8 F8).bind fun o7=>((gG.f a0 o7).bind fun C9=>((iE.f o5 C9).bind fun o9=>((jR.f o9 a1).bind fun y8=>(some (o7,y8)))))))=some (r1,r2):=H;have L6:=aA.mk H9;clear H9;replace H:=Option.bind_eq_some_iff.mp H;obtain⟨F8,I4,H⟩:=H;replace H:((gZ.f o8 F8).bind fun o7=>((gG.f a0 o7).bind fun C9=>((iE.f o5 C9).bind fun o9=>((jR.f o9 a1).bind fun y8=>(some (o7,y8))))))=some (r1,r2):=H;have L8:=aA.mk I4;clear I4;replace H:=Option.bind_eq_some_iff.mp H;obtain⟨o7,I5,H⟩:=H;replace H:((gG.f a0 o7).bind fun C9=>((iE.f o5 C9).bind fun o9=>((jR.f o9 a1).bind fun y8=>(some (o7,y8)))))=some (r1,r2):=H;have L9:=aA.mk I5;clear I5;replace H:=Option.bind_eq_some_iff.mp H;obtain⟨C9,I7,H⟩:=H;replace H:((iE.f o5 C9).bind fun o9=>((jR.f o9 a1).bind fun y8=>(some (o7,y8))))=some (r1,r2):=H;have N7:=aA.mk I7;clear I7;replace H:=Option.bind_eq_some_iff.mp H;obtain⟨o9,I8,H⟩:=H;replace H:((jR.f o9 a1).bind fun y8=>(some (o7,y8)))=some (r1,r2):=H;have N8:=aA.mk I8;clear I8;replace H:=Option.bind_eq_some_iff.mp H;obtain⟨y8,I9,H⟩:=H;replace H:(some (o7,y8))=some (r1,r2):=H;have N9:=aA.mk I9;clear I9;simp only[Option.some.injEq,Prod.mk.injEq] at H;obtain⟨rfl,rfl⟩:=H
     go_wp2_with(first|((with_reducible refine aC (f:=92) rfl ?_);refine gl_ 41 Tryz.func92 #[.string a1] (h:= ?_);(with_reducible refine(cZ.calls a1 G5 _ L6.out).mono ?_);rintro e w' ⟨rfl,⟨nd,rfl⟩⟩;refine⟨_,rfl,?_⟩)|((with_reducible refine aC (f:=77) rfl ?_);refine gM 43 Tryz.func77 (jR.calls (w:=_) (h:=L8.out)) (h:= ?_);intro O7 hb;replace HB:=pkB HB hb;clear hb)|((with_reducible refine aC (f:=78) rfl ?_);refine gM 44 Tryz.func78 (gZ.calls (w:=_) (h:=L9.out)) (h:= ?_);intro O8 hb;replace HB:=pkB HB hb;clear hb)|((with_reducible refine aC (f:=86) rfl ?_);refine gM 49 Tryz.func86 (gG.calls (w:=_) (h:=N7.out)) (h:= ?_);intro O9 hb;replace HB:=pkB HB hb;clear hb)|((with_reducible refine aC (f:=84) rfl ?_);refine gM 50 Tryz.func84 (iE.calls (w:=_) (h:=N8.out)) (h:= ?_);intro P7 hb;replace HB:=pkB HB hb;clear hb)|((with_reducible refine aC (f:=77) rfl ?_);refine gM 52 Tryz.func77 (jR.calls (w:=_) (h:=N9.out)) (h:= ?_);intro P8 hb;replace HB:=pkB HB hb;clear hb))
     go_ret2
     exact⟨by first|rfl|(simp[dZ,eF] <;> rfl)|(simp[*,dZ,eF] <;> rfl),by repeat(first|(with_reducible first|exact HB.out|apply aT|apply aI|apply aJ)|exact HB.out)⟩
    ·rw[if_neg F5] at H
     have J8:(l9.toList==([48]:List UInt8))=false:=beq_eq_false_iff_ne.mpr F5;have J9:(l9.toList != ([48]:List UInt8))=true:=bne_iff_ne.mpr F5;replace H:=Option.bind_eq_some_iff.mp H;obtain⟨D7,J3,H⟩:=H;replace H:((gG.f D7 l9).bind fun F9=>((iE.f o5 F9).bind fun D8=>((gG.f D7 o6).bind fun D5=>((iE.f o8 D5).bind fun y9=>(dY.l0 k1 a0 a1 l9 D8 o6 y9)))))=some (r1,r2):=H;have O0:=aA.mk J3;clear J3;replace H:=Option.bind_eq_some_iff.mp H;obtain⟨F9,J4,H⟩:=H;replace H:((iE.f o5 F9).bind fun D8=>((gG.f D7 o6).bind fun D5=>((iE.f o8 D5).bind fun y9=>(dY.l0 k1 a0 a1 l9 D8 o6 y9))))=some (r1,r2):=H;have O1:=aA.mk J4;clear J4;replace H:=Option.bind_eq_some_iff.mp H;obtain⟨D8,J5,H⟩:=H;replace H:((gG.f D7 o6).bind fun D5=>((iE.f o8 D5).bind fun y9=>(dY.l0 k1 a0 a1 l9 D8 o6 y9)))=some (r1,r2):=H;have O3:=aA.mk J5;clear J5;replace H:=Option.bind_eq_some_iff.mp H;obtain⟨D5,J6,H⟩:=H;replace H:((iE.f o8 D5).bind fun y9=>(dY.l0 k1 a0 a1 l9 D8 o6 y9))=some (r1,r2):=H;have O4:=aA.mk J6;clear J6;replace H:=Option.bind_eq_some_iff.mp H;obtain⟨y9,J7,H⟩:=H;replace H:(dY.l0 k1 a0 a1 l9 D8 o6 y9)=some (r1,r2):=H;have O5:=aA.mk J7;clear J7;have H':=aA.mk H;clear H
     go_wp2_with(first|((with_reducible refine aC (f:=77) rfl ?_);refine gM 26 Tryz.func77 (jR.calls (w:=_) (h:=O0.out)) (h:= ?_);intro P9 hb;replace HB:=pkB HB hb;clear hb)|((with_reducible refine aC (f:=86) rfl ?_);refine gM 31 Tryz.func86 (gG.calls (w:=_) (h:=O1.out)) (h:= ?_);intro Q3 hb;replace HB:=pkB HB hb;clear hb)|((with_reducible refine aC (f:=84) rfl ?_);refine gM 32 Tryz.func84 (iE.calls (w:=_) (h:=O3.out)) (h:= ?_);intro Q4 hb;replace HB:=pkB HB hb;clear hb)|((with_reducible refine aC (f:=86) rfl ?_);refine gM 37 Tryz.func86 (gG.calls (w:=_) (h:=O4.out)) (h:= ?_);intro Q5 hb;replace HB:=pkB HB hb;clear hb)|((with_reducible refine aC (f:=84) rfl ?_);refine gM 38 Tryz.func84 (iE.calls (w:=_) (h:=O5.out)) (h:= ?_);intro Q7 hb;replace HB:=pkB HB hb;clear hb))
     go_roundg k1
     case measure=>have:=H8.out;omega
     case rel=>exact⟨(l9),(D8),(o6),(y9),aG1,aG1,aG1,aG1,H',⟨by have:=H8.out;omega⟩,⟨by repeat(first|(with_reducible first|exact HB.out|apply aT|apply aI|apply aJ)|exact HB.out)⟩⟩
end Go.Proofs.YtignanmmgaldeaaGreatDoor.PRefA
end
section
namespace Go.Proofs.YtignanmmgaldeaaGreatDoor.RefP
open Go.RowKit PRefA YtignanmmgaldeaaGreatDoorW.PrintWords YtignanmmgaldeaaGreatDoorW.PrintLast
theorem xM{x y:Int}{m:Nat}(hx:Bd m x)(hy:Bd m y)(hm:1≤m)(h4:m≤9000)(k:Nat)(hk:20000≤k):dX.f k (text x) (text y)=some (sgnI (x-y)):=by
 have lx:(dL x.natAbs).length≤9000:=by rw[rC];exact Nat.le_trans (kK hx hm) h4
 have ly:(dL y.natAbs).length≤9000:=by rw[rC];exact Nat.le_trans (kK hy hm) h4
 unfold dX.f;rw[nX x hx hm,Option.bind_some,nX y hy hm,Option.bind_some];rw[mQ hx hm aFx k aFx,Option.bind_some,xW _ k aFx aFx,Option.bind_some,mQ hy hm aFx k aFx,Option.bind_some,xW _ k aFx aFx,Option.bind_some,aB7 _ _ k aFx aFx aFx,Option.bind_some];unfold sgnI
 by_cases x0:x<0
 ·rw[if_pos x0]
  by_cases y0:y<0
  ·rw[if_pos y0,if_pos rfl]
   by_cases h:x<y
   ·rw[if_neg (show ¬((x.natAbs:Int)-(y.natAbs:Int)<0) by omega),if_neg (show ¬((x.natAbs:Int)-(y.natAbs:Int)=0) by omega),if_pos (show x-y<0 by omega)];(first|rfl|decide +kernel)
   ·by_cases h2:x=y
    ·rw[if_neg (show ¬((x.natAbs:Int)-(y.natAbs:Int)<0) by omega),if_pos (show((x.natAbs:Int)-(y.natAbs:Int)=0) by omega),if_neg (show ¬x-y<0 by omega),if_pos (show x-y=0 by omega)];(first|rfl|decide +kernel)
    ·rw[if_pos (show((x.natAbs:Int)-(y.natAbs:Int)<0) by omega),if_neg (show ¬x-y<0 by omega),if_neg (show ¬x-y=0 by omega)];(first|rfl|decide +kernel)
  ·rw[if_neg y0]
   rw[if_pos (show x-y<0 by omega)]
   by_cases y1:y=0
   ·rw[if_pos y1];(first|rfl|decide +kernel)
   ·rw[if_neg y1];(first|rfl|decide +kernel)
 ·rw[if_neg x0]
  by_cases x1:x=0
  ·rw[if_pos x1]
   by_cases y0:y<0
   ·rw[if_pos y0,if_neg (show ¬x-y<0 by omega),if_neg (show ¬x-y=0 by omega)];(first|rfl|decide +kernel)
   ·rw[if_neg y0]
    by_cases y1:y=0
    ·rw[if_pos y1,if_pos rfl,if_neg (show ¬x-y<0 by omega),if_pos (show x-y=0 by omega),if_neg (show ¬((x.natAbs:Int)-(y.natAbs:Int)<0) by omega),if_pos (show((x.natAbs:Int)-(y.natAbs:Int)=0) by omega)];(first|rfl|decide +kernel)
    ·rw[if_neg y1,if_pos (show x-y<0 by omega)];(first|rfl|decide +kernel)
  ·rw[if_neg x1]
   by_cases y0:y<0
   ·rw[if_pos y0,if_neg (show ¬x-y<0 by omega),if_neg (show ¬x-y=0 by omega)];(first|rfl|decide +kernel)
   ·rw[if_neg y0]
    by_cases y1:y=0
    ·rw[if_pos y1,if_neg (show ¬x-y<0 by omega),if_neg (show ¬x-y=0 by omega)];(first|rfl|decide +kernel)
    ·rw[if_neg y1,if_pos rfl]
     by_cases h:x<y
     ·rw[if_pos (show((x.natAbs:Int)-(y.natAbs:Int)<0) by omega),if_pos (show x-y<0 by omega)];(first|rfl|decide +kernel)
     ·by_cases h2:x=y
      ·rw[if_neg (show ¬((x.natAbs:Int)-(y.natAbs:Int)<0) by omega),if_pos (show((x.natAbs:Int)-(y.natAbs:Int)=0) by omega),if_neg (show ¬x-y<0 by omega),if_pos (show x-y=0 by omega)];(first|rfl|decide +kernel)
      ·rw[if_neg (show ¬((x.natAbs:Int)-(y.natAbs:Int)<0) by omega),if_neg (show ¬((x.natAbs:Int)-(y.natAbs:Int)=0) by omega),if_neg (show ¬x-y<0 by omega),if_neg (show ¬x-y=0 by omega)];(first|rfl|decide +kernel)
theorem rQ{m:Nat}(hm:1≤m)(h4:m≤4400):∀(k:Nat) (r s:Int),0≤r→0≤s→Bd m r→Bd m s→s.toNat<k→aZ.l0 k (text r) (text s)=some (text (gcdI r s))
 |0,r,s,_,_,_,_,hk=>by omega
 |k+1,r,s,hr,hs,br,bs,hk=>by
  rw[aZ.l0]
  by_cases h0:s=0
  ·rw[if_pos ((bK s).2 h0),h0,vO hr]
  ·have hf:Int.fmod r s=r%s:=Int.fmod_eq_emod_of_nonneg _ hs
   have h1:=Int.emod_nonneg r h0;have h2:=Int.emod_lt_of_pos r (show 0<s by omega);rw[if_neg (fun q=>h0 ((bK s).1 q)),aAp h0 br bs hm h4,Option.bind_some,hf];rw[rQ hm h4 k s (r%s) hs h1 bs (bs.of_le aFx) aFx,yU hr aFx]
theorem aA6{x y:Int}{m:Nat}(hx:Bd m x)(hy:Bd m y)(hm:1≤m)(h4:m≤4400):aZ.f (y.natAbs+1) (text x) (text y)=some (text (gcdI x y)):=by
 unfold aZ.f
 rw[nP hx hm aFx,Option.bind_some,nP hy hm aFx,Option.bind_some,
  rQ hm h4 _ _ _ aFx aFx (by unfold Bd at *;simpa using hx) (by unfold Bd at *;simpa using hy) aFx,aAa]
theorem coef_loop{a b:Int}(hb:b≠0){m:Nat}(ha:Bd m a)(hbm:Bd m b)(hm:1≤m)(h4:m≤4000):∀(k:Nat) (r s x z:Int),0<r→0≤s→r.natAbs≤b.natAbs→s.natAbs≤b.natAbs→(∃t,x*a+t*b=r)→(∃t,z*a+t*b=s)→x.natAbs*s.natAbs+z.natAbs*r.natAbs≤b.natAbs→x.natAbs≤b.natAbs→gcdI r s=gcdI a b→s.toNat<k →
 dY.l0 k (text a) (text b) (text r) (text s) (text x) (text z)=some (text (bezU a b),text (bezV a b))
 |0,r,s,x,z,_,_,_,_,_,_,_,_,_,hk=>by omega
 |k+1,r,s,x,z,hr,hs,rb,sb,ex,ez,hi,xb,hg,hk=>by
  have br:Bd m r:=hbm.of_le rb;have bs:Bd m s:=hbm.of_le sb;have bx:Bd m x:=hbm.of_le xb;have bz:Bd m z:=hbm.of_le (aFm aFx hi);rw[dY.l0]
  by_cases h0:s=0
  ·rw[h0,vO aFx] at hg
   subst hg;have hB:Bd m (b.natAbs:Int):=by unfold Bd at *;simpa using hbm
   have hgd:=qL a b;have e1:Int.fdiv (b.natAbs:Int) (gcdI a b)=(b.natAbs:Int)/gcdI a b:=Int.fdiv_eq_ediv_of_nonneg _ aFx
   have n0:(b.natAbs:Int)/gcdI a b≠0:=by
    obtain⟨n,hn⟩:gcdI a b∣(b.natAbs:Int):=Int.dvd_natAbs.2 hgd;rw[hn,Int.mul_ediv_cancel_left _ aFx];intro q;rw[q,Int.mul_zero] at hn;omega
   have bq:Bd m ((b.natAbs:Int)/gcdI a b):=by rw[←e1];exact hB.fdiv aFx
   have hu:=bez_unique hb ex;have bu:Bd m (bezU a b):=by rw[←hu];exact bq.fmod n0
   have bp:Bd (m+m) (a*bezU a b):=ha.mul bu;have bd:Bd (m+m+1) (gcdI a b-a*bezU a b):=(br.mono (show m≤m+m by omega)).add bp.neg
   rw[if_pos ((bK s).2 h0),nP hbm hm aFx,Option.bind_some,vP hB br hm aFx aFx,Option.bind_some,e1,aAp n0 bx bq hm aFx,Option.bind_some,hu,
    oG ha bu hm aFx,Option.bind_some,uN (m:=m+m) (br.mono aFx) bp aFx aFx,Option.bind_some,vP (m:=m+m+1) bd (hbm.mono aFx) aFx aFx hb,Option.bind_some]
   unfold bezV;rw[if_neg hb,←Int.sub_eq_add_neg]
  ·have hq:Int.fdiv r s=r/s:=Int.fdiv_eq_ediv_of_nonneg _ hs
   have q0:0≤r/s:=Int.ediv_nonneg aFx hs;have hmod:=Int.emod_add_mul_ediv r s;have h1:=Int.emod_nonneg r h0;have h2:=Int.emod_lt_of_pos r (show 0<s by omega);have bq:Bd m (r/s):=by rw[←hq];exact br.fdiv h0
   have em:r-r/s*s=r%s:=by rw[Int.mul_comm (r/s) s];omega
   have bqs:Bd (m+m) (r/s*s):=bq.mul bs;have bqz:Bd (m+m) (r/s*z):=bq.mul bz;have st:=coef_step (B:=b) q0 hs (by rw[em];exact h1) hi;rw[em] at st;have zb':z.natAbs≤b.natAbs:=aFm aFx hi
   rw[if_neg (fun q=>h0 ((bK s).1 q)),vP br bs hm aFx h0,Option.bind_some,hq,oG bq bs hm aFx,Option.bind_some,uN (m:=m+m) (br.mono aFx) bqs aFx aFx,Option.bind_some,em,
    oG bq bz hm aFx,Option.bind_some,uN (m:=m+m) (bx.mono aFx) bqz aFx aFx,Option.bind_some]
   refine coef_loop hb ha hbm hm h4 k s (r%s) z (x-r/s*z) aFx h1 sb aFx ez ?_ st zb' (by rw[yU aFx aFx];exact hg) aFx;obtain⟨t,ht⟩:=ex;obtain⟨u,hu⟩:=ez;refine⟨t-r/s*u,?_⟩;have e3:r/s*(z*a+u*b)=r/s*s:=by rw[hu]
   rw[Int.mul_add,←Int.mul_assoc,←Int.mul_assoc] at e3;rw[Int.sub_mul,Int.sub_mul];omega
theorem coef_text{a b:Int}{m:Nat}(ha:Bd m a)(hb:Bd m b)(hm:1≤m)(h4:m≤4000)(k:Nat)(hk:b.natAbs+30≤k):dY.f k (text a) (text b)=some (text (bezU a b),text (bezV a b)):=by
 unfold dY.f
 by_cases h0:b=0
 ·have s1: -1≤sgnI a∧sgnI a≤1:=by
   unfold sgnI
   split
   ·omega
   ·split <;> omega
  rw[if_pos ((bK b).2 h0),nX a ha hm,Option.bind_some,aBr _ aFx aFx k aFx,Option.bind_some];unfold bezU bezV;rw[if_pos h0,if_pos h0,vC]
 ·have hB:Bd m (b.natAbs:Int):=by unfold Bd at *;simpa using hb
  have hB0:(b.natAbs:Int)≠0:=by omega
  have hf:Int.fmod a (b.natAbs:Int)=a%(b.natAbs:Int):=Int.fmod_eq_emod_of_nonneg _ aFx;have h1:=Int.emod_nonneg a hB0;have h2:=Int.emod_lt_of_pos a (show 0<(b.natAbs:Int) by omega);have hmod:=Int.emod_add_mul_ediv a (b.natAbs:Int)
  rw[if_neg (fun q=>h0 ((bK b).1 q)),nP hb hm aFx,Option.bind_some,Option.bind_some,aAp hB0 ha hB hm aFx,Option.bind_some,hf,
   show(⟨#[48]⟩:ByteArray)=text 0 from vC.symm,show(⟨#[49]⟩:ByteArray)=text 1 from by decide +kernel]
  refine coef_loop h0 ha hb hm h4 k _ _ 0 1 aFx h1 aFx aFx ?_ ?_ aFz aFz ?_ aFx
  ·refine⟨sgnI b,?_⟩
   unfold sgnI
   split
   ·omega
   ·first|omega|(split <;> omega)
  ·refine⟨-(sgnI b*(a/(b.natAbs:Int))),?_⟩
   have e:sgnI b*(a/(b.natAbs:Int))*b=(b.natAbs:Int)*(a/(b.natAbs:Int)):=by
    rw[Int.mul_right_comm]
    congr 1
    unfold sgnI
    split
    ·omega
    ·first|omega|(split <;> omega)
   rw[Int.neg_mul,e];omega
  ·refine Int.dvd_antisymm (aEt _ _) (aEt _ _) ?_ ?_
   ·have g1:=aCo (b.natAbs:Int) (a%(b.natAbs:Int))
    have g2:=qL (b.natAbs:Int) (a%(b.natAbs:Int));refine Int.dvd_coe_gcd ?_ (Int.dvd_natAbs.1 g1);have:=Int.dvd_add g2 (Int.dvd_trans g1 (Int.dvd_mul_right _ (a/(b.natAbs:Int))))
    rwa [hmod] at this
   ·have g1:=aCo a b
    have g2:gcdI a b∣(b.natAbs:Int):=Int.dvd_natAbs.2 (qL a b);refine Int.dvd_coe_gcd g2 ?_;have:=Int.dvd_sub g1 (Int.dvd_trans g2 (Int.dvd_mul_right _ (a/(b.natAbs:Int))))
    rwa [show a-(b.natAbs:Int)*(a/(b.natAbs:Int))=a%(b.natAbs:Int) by omega] at this
end Go.Proofs.YtignanmmgaldeaaGreatDoor.RefP
namespace Go.Proofs.YtignanmmgaldeaaGreatDoor
open Go.RowKit PRefA RefP YtignanmmgaldeaaGreatDoorW.PrintWords YtignanmmgaldeaaGreatDoorW.PrintLast
def fZ.f(a0 a1:ByteArray):Option ByteArray:=if okN 4400 a0∧okN 4400 a1 then some (text (gcdI (aV a0) (aV a1))) else none
theorem fZ.calls(a0 a1 r0:ByteArray)(w:World)(h:fZ.f a0 a1=some r0) :
 Calls Tryz.prog 89 #[.string a0,.string a1] w fun e w'=>e= .returned (.string r0)∧Below w.heap.size w w':=by
 unfold fZ.f at h
 split at h
 ·rename_i hs
  obtain⟨x,rfl,bx⟩:=kR hs.1;obtain⟨y,rfl,by'⟩:=kR hs.2;obtain rfl:=Option.some.inj h;rw[bC,bC];exact aZ.calls (y.natAbs+1) _ _ _ w (aA6 bx by' aFx aFx)
 ·cases h
theorem pM{x y:Int}{m:Nat}(hx:Bd m x)(hy:Bd m y)(hm:1≤m)(h4:m≤4400):fZ.f (text x) (text y)=some (text (gcdI x y)):=by
 unfold fZ.f;rw[if_pos ⟨kS hx hm h4,kS hy hm h4⟩,bC,bC]
def oI.f(a0 a1:ByteArray):Option (ByteArray×ByteArray):=if okN 4000 a0∧okN 4000 a1 then some (text (bezU (aV a0) (aV a1)),text (bezV (aV a0) (aV a1))) else none
theorem oI.calls(a0 a1 r0 r1:ByteArray)(w:World)(h:oI.f a0 a1=some (r0,r1)) :
 Calls Tryz.prog 96 #[.string a0,.string a1] w fun e w'=>e= .returned (.tuple #[.string r0,.string r1])∧Below w.heap.size w w':=by
 unfold oI.f at h
 split at h
 ·rename_i hs
  obtain⟨x,rfl,bx⟩:=kR hs.1;obtain⟨y,rfl,by'⟩:=kR hs.2;obtain⟨rfl,rfl⟩:=Prod.mk.inj (Option.some.inj h);rw[bC,bC];exact dY.calls (y.natAbs+30) _ _ _ _ w (coef_text bx by' aFx aFx _ (Nat.le_refl _))
 ·cases h
theorem coef_val{x y:Int}{m:Nat}(hx:Bd m x)(hy:Bd m y)(hm:1≤m)(h4:m≤4000):oI.f (text x) (text y)=some (text (bezU x y),text (bezV x y)):=by
 unfold oI.f;rw[if_pos ⟨kS hx hm h4,kS hy hm h4⟩,bC,bC]
def jU.f(a0:ByteArray):Option Bool:=if a0.size≤140737488351232 then some (canon a0.data.toList) else none
theorem jU.calls(a0:ByteArray)(r0:Bool)(w:World)(h:jU.f a0=some r0) :
 Calls Tryz.prog 184 #[.string a0] w fun e w'=>e= .returned (.bool r0)∧eQ w w':=by
 unfold jU.f at h
 split at h
 ·rename_i hs
  obtain rfl:=Option.some.inj h;exact bP.calls (a0.size+2+2) _ _ w (aB6 a0 hs _ (Nat.le_refl _))
 ·cases h
def gV.f(a0:ByteArray):Option Int:=if okN 9000 a0 then some (sgnI (aV a0)) else none
theorem gV.calls(a0:ByteArray)(r0:Int)(w:World)(h:gV.f a0=some r0) :
 Calls Tryz.prog 142 #[.string a0] w fun e w'=>e= .returned (.int .i64 r0)∧eQ w w':=by
 unfold gV.f at h
 split at h
 ·rename_i hs
  obtain⟨x,rfl,bx⟩:=kR hs;obtain rfl:=Option.some.inj h;rw[bC];exact bI.calls _ _ w (nX x bx aFx)
 ·cases h
theorem sG{x:Int}{m:Nat}(hx:Bd m x)(hm:1≤m)(h4:m≤9000):gV.f (text x)=some (sgnI x):=by
 unfold gV.f;rw[if_pos (kS hx hm h4),bC]
def jB.f(a0 a1:ByteArray):Option Bool:=if okN 9000 a0∧okN 9000 a1 then some (decide (aV a0<aV a1)) else none
theorem jB.calls(a0 a1:ByteArray)(r0:Bool)(w:World)(h:jB.f a0 a1=some r0) :
 Calls Tryz.prog 143 #[.string a0,.string a1] w fun e w'=>e= .returned (.bool r0)∧Below w.heap.size w w':=by
 unfold jB.f at h
 split at h
 ·rename_i hs
  obtain⟨x,rfl,bx⟩:=kR hs.1;obtain⟨y,rfl,by'⟩:=kR hs.2;obtain rfl:=Option.some.inj h;rw[bC,bC];obtain⟨k,hk⟩:∃k:Nat,k=20000:=⟨_,rfl⟩
  refine iH.calls k _ _ _ w ?_;unfold iH.f;rw[xM bx by' aFx aFx k aFx,Option.bind_some]
  congr 1
  exact decide_eq_decide.2 (by rw[mD];omega)
 ·cases h
theorem zC{x y:Int}{m:Nat}(hx:Bd m x)(hy:Bd m y)(hm:1≤m)(h4:m≤9000):jB.f (text x) (text y)=some (decide (x<y)):=by
 unfold jB.f;rw[if_pos ⟨kS hx hm h4,kS hy hm h4⟩,bC,bC]
end Go.Proofs.YtignanmmgaldeaaGreatDoor
end
section
namespace Go.Proofs.YtignanmmgaldeaaGreatDoor.PCongI
open Go.RowKit YtignanmmgaldeaaGreatDoorW.PrintWords YtignanmmgaldeaaGreatDoorW.PrintLast YtignanmmgaldeaaGreatDoorW.PrintMore
attribute [local go_sem] dQ dR eH eP
def vK.f(k:Nat)(a0_0:Bool)(a0_1 a0_2:ByteArray)(a1_0:Bool)(a1_1 a1_2:ByteArray):Option (Bool×Int):=(jP.f k a0_0 a0_1 a0_2 a1_0 a1_1 a1_2).bind fun t171=>(if t171=0 then((dI.f k a0_0 a0_1 a0_2 a1_0 a1_1 a1_2).bind fun t172=>(some (t172,t171))) else(some (false,t171)))
theorem vK.calls(k:Nat)(o5:Bool)(o6 o7:ByteArray)(o8:Bool)(o9 y8:ByteArray)(r1:Bool)(r2:Int)(w:World)(hG:GW w)(h:vK.f k o5 o6 o7 o8 o9 y8=some (r1,r2)) :
 Calls Tryz.prog 40 #[.agg #[.bool o5,.string o6,.string o7],.agg #[.bool o8,.string o9,.string y8]] w fun e w'=>e= .returned (.tuple #[.bool r1,.int .i64 r2])∧Below w.heap.size w w':=by
 have HG:=aA.mk hG;clear hG;have hu36:=Tryz.underlying36;have HB:=aA.mk (Below.refl w.heap.size w);have H:((jP.f k o5 o6 o7 o8 o9 y8).bind fun C9=>(if C9=0 then((dI.f k o5 o6 o7 o8 o9 y8).bind fun D6=>(some (D6,C9))) else(some (false,C9))))=some (r1,r2):=h;clear h;obtain⟨C9,A3,H⟩:=bi H;try dsimp only at H
 go_enter Tryz.func40,Tryz.ntmps40
 refine byC (P:=C9=0) (fun c4=> ?a1) (fun c4=> ?b1)
 case' a1=>
  rw[if_pos c4] at H;obtain⟨D7,D8⟩:=bT c4;clear c4;obtain⟨D6,A5,H⟩:=bi H;try dsimp only at H
  simp only[Option.some.injEq,Prod.mk.injEq] at H;obtain⟨rfl,rfl⟩:=H
 case' b1=>
  rw[if_neg c4] at H;obtain⟨D7,D8⟩:=bF c4;simp only[Option.some.injEq,Prod.mk.injEq] at H;obtain⟨rfl,rfl⟩:=H
 all_goals
  go_wp2_with(first|((with_reducible refine aG (N:=2) rfl ?_);refine bx_ 2 36 #[.bool o5,.string o6,.string o7] (h:= ?_);intro F7 hg w6 D5 hb;have l9:=aA.mk (D5);have D9:=pkG HB hg;have F8:=D9;replace HB:=pkB HB hb;clear hb D5 hg)|((with_reducible refine aG (N:=3) rfl ?_);refine bx_ 3 36 #[.bool o8,.string o9,.string y8] (h:= ?_);intro F9 hg w7 D5 hb;have y9:=aA.mk (D5);have E8:=pkG HB hg;have G5:=E8;obtain⟨F5,F6,_,_⟩:=pkQ l9 hg;replace l9:=pkK l9 hb;replace HB:=pkB HB hb;clear hb D5 hg;have G6:=F5.out;have G7:=F6.out;obtain⟨⟨G8,G9,H5⟩,H6,H7,H8⟩:=pk3 l9;obtain⟨⟨H9,I4,I5⟩,I7,I8,I9⟩:=pk3 y9)|((with_reducible refine aC (f:=106) rfl ?_);refine gM 9 Tryz.func106 (jP.calls (w:=_) (h:=A3.out)) (h:= ?_);intro J3 hb;replace l9:=pkK l9 hb;replace y9:=pkK y9 hb;replace HB:=pkB HB hb;try clear hb;obtain⟨⟨J4,J5,J6⟩,J7,J8,J9⟩:=pk3 l9;obtain⟨⟨L6,L8,L9⟩,N7,N8,N9⟩:=pk3 y9)|(go_at_call 107;(with_reducible refine(dI.calls (hG:=HG.out.below (pkL HB)) k o5 o6 o7 o8 o9 y8 D6 _ A5.out).mono ?_);rintro e O0 ⟨rfl,hb⟩;replace l9:=pkK l9 hb;replace y9:=pkK y9 hb;replace HB:=pkB HB hb;try clear hb))
  go_ret2
  exact pkE HB
end Go.Proofs.YtignanmmgaldeaaGreatDoor.PCongI
end
section
namespace Go.Proofs.YtignanmmgaldeaaGreatDoor.CongM
open Go.RowKit RefP PCongI YtignanmmgaldeaaGreatDoorW.PrintWords YtignanmmgaldeaaGreatDoorW.PrintLast
theorem bezU_val(a b:Int)(hb:b≠0):b∣a*bezU a b-gcdI a b:=by
 have:=bez_val a b;refine⟨-bezV a b,?_⟩;rw[Int.mul_neg];omega
def clsM(c:Int×Int)(a:Int):Prop:=c.1∣a-c.2
theorem aD8(m a:Int):((m.natAbs:Int)∣a)↔m∣a:=Int.natAbs_dvd
theorem yG(r s m:Int):r%m=s%m↔m∣r-s:=by
 rw[Int.emod_eq_emod_iff_emod_sub_eq_zero,Int.dvd_iff_emod_eq_zero]
theorem cls_id{M:Nat}{c:Int×Int}(h:clsV c)(h1:Bd M c.1)(h2:Bd M c.2):cls M c.1 c.2=c:=by
 have e:(c.1.natAbs:Int)=c.1:=Int.natAbs_of_nonneg h.1;unfold cls;rw[e,h.2,if_pos ⟨h1,h2⟩]
theorem zD{M:Nat}{m m' r r':Int}(h:m.natAbs=m'.natAbs)(k:m∣r-r'):cls M m r=cls M m' r':=by
 have e:r%(m.natAbs:Int)=r'%(m.natAbs:Int):=(yG _ _ _).2 ((aD8 _ _).2 k);unfold cls;rw[←h,e]
theorem metS_right(c d:Int×Int)(hd:d.1≠0)(hg:gcdI c.1 d.1∣d.2+ -c.2):d.1∣metS c d-d.2:=by
 have hb:=bezU_val c.1 d.1 hd;unfold metS;obtain⟨q,hq⟩:=hg
 have g0:gcdI c.1 d.1≠0:=by
  intro e;have:=qL c.1 d.1;rw[e] at this;exact hd (Int.zero_dvd.1 this)
 rw[hq,Int.mul_fdiv_cancel_left _ g0]
 have e:c.2+bezU c.1 d.1*q*c.1-d.2=q*(c.1*bezU c.1 d.1-gcdI c.1 d.1):=by
  rw[Int.mul_sub];have e1:bezU c.1 d.1*q*c.1=q*(c.1*bezU c.1 d.1):=by ac_rfl
  have e2:q*gcdI c.1 d.1=gcdI c.1 d.1*q:=Int.mul_comm _ _;omega
 rw[e];exact Int.dvd_trans hb (Int.dvd_mul_left _ _)
def metC(M:Nat)(c d:Int×Int):Option (Int×Int):=
 if c.1=0 then(if d.1∣c.2-d.2 then some c else none) else if d.1=0 then(if c.1∣d.2-c.2 then some d else none)
 else if gcdI c.1 d.1∣d.2+ -c.2 then some (cls M (c.1*Int.fdiv d.1 (gcdI c.1 d.1)) (c.2+c.1*(bezU c.1 d.1*Int.fdiv (d.2+ -c.2) (gcdI c.1 d.1)))) else none
theorem aEu{g a b:Int}:g∣a-b↔g∣b-a:=by rw[show b-a= -(a-b) by omega,Int.dvd_neg]
theorem lcm_ref{c d:Int}(hd:d≠0):(c*Int.fdiv d (gcdI c d)).natAbs=(lcmI c d).natAbs:=by
 obtain⟨n,hn⟩:=qL c d
 have g0:gcdI c d≠0:=by
  intro e;rw[e,Int.zero_mul] at hn;exact hd hn
 rw[aDp,Int.natAbs_natCast]
 have e1:Int.fdiv d (gcdI c d)=n:=by
  conv=>lhs;arg 1;rw[hn]
  exact Int.mul_fdiv_cancel_left _ g0
 rw[e1,Int.natAbs_mul];unfold Nat.lcm;have hg:(gcdI c d).natAbs=Nat.gcd c.natAbs d.natAbs:=by unfold gcdI;rw[Int.natAbs_natCast]
 have e2:d.natAbs=Nat.gcd c.natAbs d.natAbs*n.natAbs:=by rw[←hg,←Int.natAbs_mul,←hn]
 have hp:0<Nat.gcd c.natAbs d.natAbs:=by omega
 generalize Nat.gcd c.natAbs d.natAbs=g at e2 hp;rw[e2,show c.natAbs*(g*n.natAbs)=g*(c.natAbs*n.natAbs) by ac_rfl,Nat.mul_div_cancel_left _ hp]
theorem meet_eq_met{M:Nat}{c d:Int×Int}(hc:clsV c)(hd:clsV d)(c1:Bd M c.1)(c2:Bd M c.2)(d1:Bd M d.1)(d2:Bd M d.2):meetC M c d=metC M c d:=by
 unfold meetC metC;have hgs:gcdI c.1 d.1∣d.2+ -c.2↔gcdI c.1 d.1∣d.2-c.2:=by rw[Int.sub_eq_add_neg]
 by_cases h1:d.1∣c.1∧d.1∣c.2-d.2
 ·rw[if_pos h1]
  by_cases z1:c.1=0
  ·rw[if_pos z1,if_pos h1.2]
  ·rw[if_neg z1]
   have z2:d.1≠0:=fun e=>z1 (by have:=h1.1;rw[e] at this;exact Int.zero_dvd.1 this)
   have hg:gcdI c.1 d.1∣d.2+ -c.2:=hgs.2 (Int.dvd_trans (qL _ _) (aEu.1 h1.2));rw[if_neg z2,if_pos hg]
   congr 1
   refine(cls_id hc c1 c2).symm.trans (zD ?_ ?_)
   ·rw[lcm_ref z2,aDp,Int.natAbs_natCast]
    exact(Nat.lcm_eq_left (Int.natAbs_dvd_natAbs.2 h1.1)).symm
   ·rw[show c.2-(c.2+c.1*(bezU c.1 d.1*Int.fdiv (d.2+ -c.2) (gcdI c.1 d.1)))=c.1* -(bezU c.1 d.1*Int.fdiv (d.2+ -c.2) (gcdI c.1 d.1)) by rw[Int.mul_neg];omega]
    exact Int.dvd_mul_right _ _
 ·rw[if_neg h1]
  by_cases h2:c.1∣d.1∧c.1∣d.2-c.2
  ·rw[if_pos h2]
   by_cases z1:c.1=0
   ·exfalso
    have e:d.1=0:=by have:=h2.1;rw[z1] at this;exact Int.zero_dvd.1 this
    have e2:d.2-c.2=0:=by have:=h2.2;rw[z1] at this;exact Int.zero_dvd.1 this
    exact h1 ⟨by rw[e,z1];exact Int.dvd_refl _,by rw[show c.2-d.2=0 by omega];exact Int.dvd_zero _⟩
   ·rw[if_neg z1]
    by_cases z2:d.1=0
    ·rw[if_pos z2,if_pos h2.2]
    ·have hg:gcdI c.1 d.1∣d.2+ -c.2:=hgs.2 (Int.dvd_trans (aCo _ _) h2.2)
     rw[if_neg z2,if_pos hg]
     congr 1
     have hs:=metS_right c d z2 hg;refine(cls_id hd d1 d2).symm.trans (zD ?_ ?_)
     ·rw[lcm_ref z2,aDp,Int.natAbs_natCast]
      exact(Nat.lcm_eq_right (Int.natAbs_dvd_natAbs.2 h2.1)).symm
     ·have e:c.2+c.1*(bezU c.1 d.1*Int.fdiv (d.2+ -c.2) (gcdI c.1 d.1))=metS c d:=by
       unfold metS;rw[Int.mul_comm c.1]
      rw[e];exact aEu.1 hs
  ·rw[if_neg h2]
   by_cases z1:c.1=0
   ·have hn:¬d.1∣c.2-d.2:=fun q=>h1 ⟨by rw[z1];exact Int.dvd_zero _,q⟩
    rw[if_pos (.inl z1),if_pos z1,if_neg hn]
   ·rw[if_neg z1]
    by_cases z2:d.1=0
    ·have hn:¬c.1∣d.2-c.2:=fun q=>h2 ⟨by rw[z2];exact Int.dvd_zero _,q⟩
     rw[if_pos (.inr (.inl z2)),if_pos z2,if_neg hn]
    ·rw[if_neg z2]
     by_cases hg:gcdI c.1 d.1∣d.2+ -c.2
     ·rw[if_neg (by rintro(h|h|h) <;> contradiction),if_pos hg]
      congr 1
      refine zD (lcm_ref z2).symm ?_
      have e:c.2+c.1*(bezU c.1 d.1*Int.fdiv (d.2+ -c.2) (gcdI c.1 d.1))=metS c d:=by
       unfold metS;rw[Int.mul_comm c.1]
      rw[e,Int.sub_self];exact Int.dvd_zero _
     ·rw[if_pos (.inr (.inr hg)),if_neg hg]
theorem leq_val(e1:Bool)(m1 r1:ByteArray)(e2:Bool)(m2 r2:ByteArray)(hz:few4 m1 r1 m2 r2)(k:Nat)(hk:5≤k):vK.f k e1 m1 r1 e2 m2 r2=some (if mW e1 m1 r1 e2 m2 r2=0 then decide (leO (decC e1 m1 r1) (decC e2 m2 r2)) else false,mW e1 m1 r1 e2 m2 r2):=by
 obtain⟨k,rfl⟩:∃j,k=j+1:=⟨k-1,by omega⟩
 unfold vK.f;rw[both_val hz.1 hz.2.1 hz.2.2.1 hz.2.2.2 _ hk,Option.bind_some]
 by_cases h:mW e1 m1 r1 e2 m2 r2=0
 ·obtain⟨c,d,gc,gd,ec,ed⟩:=aAe h
  rw[if_pos h,if_pos h];have hc:=nH c;have hd:=nH d;have hi:=aDq gc gd k;rw[←ec] at hc hi;rw[←ed] at hd hi;simp only at hc hd hi;rw[hc,hd,hi];rfl
 ·rw[if_neg h,if_neg h]
instance (c:Int×Int)(a:Int):Decidable (clsM c a):=inferInstanceAs (Decidable (_∣_))
theorem text_eq(x y:Int):((text x).toList==(text y).toList)=decide (x=y):=by
 by_cases h:x=y
 ·rw[decide_eq_true h,h];exact beq_self_eq_true _
 ·rw[decide_eq_false h]
  simp only[beq_eq_false_iff_ne,ne_eq,toList_data];exact fun q=>h (aC8 (nZ q))
end Go.Proofs.YtignanmmgaldeaaGreatDoor.CongM
end
section
namespace Go.Proofs.YtignanmmgaldeaaGreatDoor
open Go.RowKit RefP PCongI CongM YtignanmmgaldeaaGreatDoorW.PrintWords YtignanmmgaldeaaGreatDoorW.PrintLast
def uO.f(a0_0:Bool)(a0_1 a0_2:ByteArray)(a1_0:Bool)(a1_1 a1_2:ByteArray):Option (Bool×Int):=if few4 a0_1 a0_2 a1_1 a1_2 then some (if mW a0_0 a0_1 a0_2 a1_0 a1_1 a1_2=0 then decide (leO (decC a0_0 a0_1 a0_2) (decC a1_0 a1_1 a1_2)) else false,mW a0_0 a0_1 a0_2 a1_0 a1_1 a1_2) else none
theorem uO.calls(l9:Bool)(o5 o6:ByteArray)(o7:Bool)(o8 o9:ByteArray)(b1:Bool)(i2:Int)(w:World)(hG:GW w)(h:uO.f l9 o5 o6 o7 o8 o9=some (b1,i2)) :
 Calls Tryz.prog 40 #[.agg #[.bool l9,.string o5,.string o6],.agg #[.bool o7,.string o8,.string o9]] w fun e w'=>e= .returned (.tuple #[.bool b1,.int .i64 i2])∧Below w.heap.size w w':=by
 unfold uO.f at h
 split at h
 ·rename_i hs
  rw[←leq_val l9 o5 o6 o7 o8 o9 hs 5 (Nat.le_refl _)] at h;exact vK.calls 5 l9 o5 o6 o7 o8 o9 b1 i2 w hG h
 ·cases h
end Go.Proofs.YtignanmmgaldeaaGreatDoor
end
section
namespace Go.Proofs.YtignanmmgaldeaaGreatDoor.PLawB
open Go.RowKit YtignanmmgaldeaaGreatDoorW.PrintWords YtignanmmgaldeaaGreatDoorW.PrintLast YtignanmmgaldeaaGreatDoorW.PrintMore
attribute [local go_sem] dQ dR eH eP
theorem oP(w:World)(base:Nat)(ok:Nat→Prop)(x:S36):k36.M w base ok x [.bool x.f0,.string x.f1,.string x.f2]:=⟨[.bool x.f0],[.string x.f1,.string x.f2],rfl,rfl,⟨[.string x.f1],[.string x.f2],rfl,rfl,rfl⟩⟩
def bU.f(a0:ByteArray):Option (Int):=(jU.f a0).bind fun t109=>(if t109=true then((iW.f a0).bind fun t110=>(if t110>100 then(some 10) else(some 0))) else(some 3))
theorem bU.calls(a0:ByteArray)(r:Int)(w:World)(h:bU.f a0=some r) :
 Calls Tryz.prog 141 #[.string a0] w fun e w'=>e= .returned (.int .i64 r)∧eQ w w':=by
 have H:((jU.f a0).bind fun o5=>(if o5=true then((iW.f a0).bind fun l9=>(if l9>100 then(some 10) else(some 0))) else(some 3)))=some r:=h;clear h;obtain⟨o5,A2,H⟩:=bi H;try dsimp only at H
 go_enter Tryz.func141,Tryz.ntmps141
 refine byC (P:=o5=true) (fun c3=> ?a2) (fun c3=> ?b2)
 case' a2=>
  subst c3;rw[if_pos rfl] at H;obtain⟨l9,A4,H⟩:=bi H;try dsimp only at H
  refine byC (P:=l9>100) (fun c5=> ?a3) (fun c5=> ?b3)
  case' a3=>
   rw[if_pos c5] at H;have o6:=decide_eq_true c5;clear c5;obtain rfl:=Option.some.inj H
  case' b3=>
   rw[if_neg c5] at H;have o6:=decide_eq_false c5;clear c5;obtain rfl:=Option.some.inj H
 case' b2=>
  replace c3:=Bool.eq_false_iff.mpr c3;subst c3;rw[if_neg (show ¬(false=true) by decide)] at H;obtain rfl:=Option.some.inj H
 all_goals
  go_wp2_with(first|((with_reducible refine aC (f:=184) rfl ?_);refine gl_ 4 Tryz.func184 #[.string a0] (h:= ?_);(with_reducible refine(jU.calls a0 _ _ A2.out).mono ?_);rintro e w' ⟨rfl,⟨nd,rfl⟩⟩;refine⟨_,rfl,?_⟩)|((with_reducible refine aC (f:=149) rfl ?_);refine gl_ 7 Tryz.func149 #[.string a0] (h:= ?_);(with_reducible refine(iW.calls a0 l9 _ A4.out).mono ?_);rintro e w' ⟨rfl,⟨nd,rfl⟩⟩;refine⟨_,rfl,?_⟩))
  go_ret
  exact dr_
def fH.f(a0_0:Bool)(a0_1 a0_2:ByteArray):Option (Int):=if a0_0=true then(if a0_1.toList=([]:List UInt8) then(if a0_2.toList=([]:List UInt8) then(some 0) else(some 3)) else(some 3)) else((bU.f a0_1).bind fun t112=>(if t112=0 then((bU.f a0_2).bind fun t113=>(if t113=0 then((gV.f a0_1).bind fun t114=>(if t114<0 then(some 2) else(if a0_1.toList=([48]:List UInt8) then(some 0) else((gV.f a0_2).bind fun t115=>(if t115<0 then(some 2) else((jB.f a0_2 a0_1).bind fun t116=>(if t116=true then(some 0) else(some 2)))))))) else(some t113))) else(some t112)))
theorem fH.calls(D6:Bool)(l9 o5:ByteArray)(r:Int)(w:World)(h:fH.f D6 l9 o5=some r) :
 Calls Tryz.prog 67 #[.agg #[.bool D6,.string l9,.string o5]] w fun e w'=>e= .returned (.int .i64 r)∧Below w.heap.size w w':=by
 have hu36:=Tryz.underlying36;have HB:=aA.mk (Below.refl w.heap.size w);have H:(if D6=true then(if l9.toList=([]:List UInt8) then(if o5.toList=([]:List UInt8) then(some 0) else(some 3)) else(some 3)) else((bU.f l9).bind fun y9=>(if y9=0 then((bU.f o5).bind fun C9=>(if C9=0 then((gV.f l9).bind fun D7=>(if D7<0 then(some 2) else(if l9.toList=([48]:List UInt8) then(some 0) else((gV.f o5).bind fun D8=>(if D8<0 then(some 2) else((jB.f o5 l9).bind fun D9=>(if D9=true then(some 0) else(some 2)))))))) else(some C9))) else(some y9))))=some r:=h;clear h;go_enter Tryz.func67,Tryz.ntmps67
 refine byC (P:=D6=true) (fun c2=> ?a4) (fun c2=> ?b4)
 case' a4=>
  subst c2;rw[if_pos rfl] at H;refine byC (P:=l9.toList=([]:List UInt8)) (fun c3=> ?a5) (fun c3=> ?b5)
  case' a5=>
   rw[if_pos c3] at H;obtain⟨F6,F7⟩:=bT c3;clear c3;refine byC (P:=o5.toList=([]:List UInt8)) (fun c4=> ?a6) (fun c4=> ?b6)
   case' a6=>
    rw[if_pos c4] at H;obtain⟨F8,F9⟩:=bT c4;clear c4;obtain rfl:=Option.some.inj H
   case' b6=>
    rw[if_neg c4] at H;obtain⟨F8,F9⟩:=bF c4;obtain rfl:=Option.some.inj H
  case' b5=>
   rw[if_neg c3] at H;obtain⟨F6,F7⟩:=bF c3;obtain rfl:=Option.some.inj H
 case' b4=>
  replace c2:=Bool.eq_false_iff.mpr c2;subst c2;rw[if_neg (show ¬(false=true) by decide)] at H;obtain⟨y9,G5,H⟩:=bi H;try dsimp only at H
  refine byC (P:=y9=0) (fun o8=> ?a7) (fun o8=> ?b7)
  case' a7=>
   rw[if_pos o8] at H;obtain⟨G6,G7⟩:=bT o8;clear o8;obtain⟨C9,G8,H⟩:=bi H;try dsimp only at H
   refine byC (P:=C9=0) (fun o9=> ?a8) (fun o9=> ?b8)
   case' a8=>
    rw[if_pos o9] at H;obtain⟨G9,H5⟩:=bT o9;clear o9;obtain⟨D7,H6,H⟩:=bi H;try dsimp only at H
    refine byC (P:=D7<0) (fun o6=> ?a9) (fun o6=> ?b9)
    case' a9=>
     rw[if_pos o6] at H;have H7:=decide_eq_true o6;clear o6;obtain rfl:=Option.some.inj H
    case' b9=>
     rw[if_neg o6] at H;have H7:=decide_eq_false o6;clear o6;refine byC (P:=l9.toList=([48]:List UInt8)) (fun y8=> ?a10) (fun y8=> ?b10)
     case' a10=>
      rw[if_pos y8] at H;obtain⟨H8,H9⟩:=bT y8;clear y8;obtain rfl:=Option.some.inj H
     case' b10=>
      rw[if_neg y8] at H;obtain⟨H8,H9⟩:=bF y8;obtain⟨D8,I4,H⟩:=bi H;try dsimp only at H
      refine byC (P:=D8<0) (fun o7=> ?a11) (fun o7=> ?b11)
      case' a11=>
       rw[if_pos o7] at H;have I5:=decide_eq_true o7;clear o7;obtain rfl:=Option.some.inj H
      case' b11=>
       rw[if_neg o7] at H;have I5:=decide_eq_false o7;clear o7;obtain⟨D9,I7,H⟩:=bi H;try dsimp only at H
       refine byC (P:=D9=true) (fun D5=> ?a12) (fun D5=> ?b12)
       case' a12=>
        subst D5;rw[if_pos rfl] at H;obtain rfl:=Option.some.inj H
       case' b12=>
        replace D5:=Bool.eq_false_iff.mpr D5;subst D5;rw[if_neg (show ¬(false=true) by decide)] at H;obtain rfl:=Option.some.inj H
   case' b8=>
    rw[if_neg o9] at H;obtain⟨G9,H5⟩:=bF o9;obtain rfl:=Option.some.inj H
  case' b7=>
   rw[if_neg o8] at H;obtain⟨G6,G7⟩:=bF o8;obtain rfl:=Option.some.inj H
 all_goals
  go_wp2_with(first|((with_reducible refine aG (N:=1) rfl ?_);refine bx_ 1 36 #[.bool _,.string l9,.string o5] (h:= ?_);intro I9 hg w5 F5 hb;have E8:=aA.mk (F5);have I8:=pkG HB hg;have J3:=I8;replace HB:=pkB HB hb;clear hb F5 hg;obtain⟨⟨J4,J5,J6⟩,J7,J8,J9⟩:=pk3 E8)|((with_reducible refine aC (f:=141) rfl ?_);refine gl_ 17 Tryz.func141 #[.string l9] (h:= ?_);(with_reducible refine(bU.calls l9 y9 _ G5.out).mono ?_);rintro e w' ⟨rfl,⟨nd,rfl⟩⟩;refine⟨_,rfl,?_⟩)|((with_reducible refine aC (f:=141) rfl ?_);refine gl_ 23 Tryz.func141 #[.string o5] (h:= ?_);(with_reducible refine(bU.calls o5 C9 _ G8.out).mono ?_);rintro e w' ⟨rfl,⟨nd,rfl⟩⟩;refine⟨_,rfl,?_⟩)|((with_reducible refine aC (f:=142) rfl ?_);refine gl_ 29 Tryz.func142 #[.string l9] (h:= ?_);(with_reducible refine(gV.calls l9 D7 _ H6.out).mono ?_);rintro e w' ⟨rfl,⟨nd,rfl⟩⟩;refine⟨_,rfl,?_⟩)|(go_at_call 142;(with_reducible refine(gV.calls o5 D8 _ I4.out).mono ?_);rintro e w' ⟨rfl,⟨nd,rfl⟩⟩)|(go_at_call 143;(with_reducible refine(jB.calls o5 l9 _ _ I7.out).mono ?_);rintro e L6 ⟨rfl,hb⟩;replace E8:=pkK E8 hb;replace HB:=pkB HB hb;try clear hb))
  go_ret
  exact pkE HB
end Go.Proofs.YtignanmmgaldeaaGreatDoor.PLawB
end
section
namespace Go.Proofs.YtignanmmgaldeaaGreatDoor.LawC
open Go.RowKit Go.Proofs.YtignanmmgaldeaaGreatDoor PLawB RefP PCongI CongM YtignanmmgaldeaaGreatDoorW.PrintWords
theorem pJ(a:ByteArray)(ha:a.size≤140737488351232):bU.f a=some (numC a):=by
 unfold bU.f jU.f numC;rw[if_pos ha,Option.bind_some]
 by_cases hc:canon a.data.toList=true
 ·rw[if_pos hc,if_pos hc]
  have h0:0<a.size:=by
   rcases Nat.eq_zero_or_pos a.size with h|h
   ·rw[Lib.size_eq] at h
    rw[List.eq_nil_of_length_eq_zero h] at hc;exact absurd hc aG0
   ·exact h
  unfold iW.f;rw[if_pos ⟨h0,ha⟩,Option.bind_some]
  by_cases hd:100<digN a
  ·rw[if_pos hd,if_pos aFx]
  ·rw[if_neg hd,if_neg aFx]
 ·rw[if_neg hc,if_neg hc]
theorem qU(x:Int):((text x).toList=([48]:List UInt8))↔x=0:=by
 have h:=text_eq x 0;rw[show(text 0).toList=([48]:List UInt8) by decide +kernel] at h
 constructor
 ·intro e;rw[e] at h;simpa using h
 ·intro e;subst e;decide +kernel
theorem xN(e:Bool)(m r:ByteArray)(hm:m.size≤140737488351232)(hr:r.size≤140737488351232):fH.f e m r=some (chkC e m r):=by
 unfold fH.f chkC
 by_cases he:e=true
 ·rw[if_pos he,if_pos he]
  split
  ·split <;> rfl
  ·rfl
 ·rw[if_neg he,if_neg he,pJ m hm,Option.bind_some]
  by_cases h1:numC m=0
  ·rw[if_pos h1,if_pos h1,pJ r hr,Option.bind_some]
   by_cases h2:numC r=0
   ·rw[if_pos h2,if_pos h2]
    obtain⟨x,rfl,bx⟩:=sO h1;obtain⟨y,rfl,by'⟩:=sO h2;rw[bC,bC,sG bx aFx aFx,Option.bind_some]
    by_cases hx:x<0
    ·rw[if_pos ((mD x).2 hx),if_pos (show rngC x y from Or.inl hx)]
    ·rw[if_neg (fun q=>hx ((mD x).1 q))]
     by_cases h0:x=0
     ·rw[if_pos ((qU x).2 h0),if_neg (show ¬rngC x y by unfold rngC;omega)]
     ·rw[if_neg (fun q=>h0 ((qU x).1 q)),sG by' aFx aFx,Option.bind_some]
      by_cases hy:y<0
      ·rw[if_pos ((mD y).2 hy),if_pos (show rngC x y by unfold rngC;omega)]
      ·rw[if_neg (fun q=>hy ((mD y).1 q)),zC by' bx aFx aFx,Option.bind_some]
       by_cases hl:y<x
       ·rw[if_pos (decide_eq_true hl),if_neg (show ¬rngC x y by unfold rngC;omega)]
       ·rw[if_neg (by simpa using hl),if_pos (show rngC x y by unfold rngC;omega)]
   ·rw[if_neg h2,if_neg h2]
  ·rw[if_neg h1,if_neg h1]
end Go.Proofs.YtignanmmgaldeaaGreatDoor.LawC
end
section
namespace Go.Proofs.YtignanmmgaldeaaGreatDoor
open Go.RowKit PLawB LawC RefP PCongI CongM YtignanmmgaldeaaGreatDoorW.PrintWords
def dE.f(e:Bool)(m r:ByteArray):Option Int:=if m.size≤1000000∧r.size≤1000000 then some (chkC e m r) else none
theorem dE.calls(o6:Bool)(l9 o5:ByteArray)(r:Int)(w:World)(h:dE.f o6 l9 o5=some r) :
 Calls Tryz.prog 67 #[.agg #[.bool o6,.string l9,.string o5]] w fun e w'=>e= .returned (.int .i64 r)∧Below w.heap.size w w':=by
 unfold dE.f at h
 by_cases hz:l9.size≤1000000∧o5.size≤1000000
 ·rw[if_pos hz] at h
  exact fH.calls o6 l9 o5 r w (by rw[xN _ _ _ aFx aFx];exact h)
 ·rw[if_neg hz] at h;cases h
end Go.Proofs.YtignanmmgaldeaaGreatDoor
end
section
namespace Go.Proofs.YtignanmmgaldeaaGreatDoor.PRefQ
open Go.RowKit YtignanmmgaldeaaGreatDoorW.PrintWords YtignanmmgaldeaaGreatDoorW.PrintLast YtignanmmgaldeaaGreatDoorW.PrintMore
attribute [local go_sem] dQ dR eH eP
def dN.f(a0 a1:ByteArray):Option (Bool):=if a0.toList=([48]:List UInt8) then(some (a1.toList==([48]:List UInt8))) else((lT.f a1 a0).bind fun t128=>(some (t128.toList==([48]:List UInt8))))
theorem dN.calls(a0 a1:ByteArray)(r:Bool)(w:World)(h:dN.f a0 a1=some r) :
 Calls Tryz.prog 180 #[.string a0,.string a1] w fun e w'=>e= .returned (.bool r)∧Below w.heap.size w w':=by
 have HB:=aA.mk (Below.refl w.heap.size w);have H:(if a0.toList=([48]:List UInt8) then(some (a1.toList==([48]:List UInt8))) else((lT.f a1 a0).bind fun l9=>(some (l9.toList==([48]:List UInt8)))))=some r:=h;clear h;go_enter Tryz.func180,Tryz.ntmps180
 refine byC (P:=a0.toList=([48]:List UInt8)) (fun c3=> ?a1) (fun c3=> ?b1)
 case' a1=>
  rw[if_pos c3] at H;obtain⟨o5,o6⟩:=bT c3;clear c3;obtain rfl:=Option.some.inj H
 case' b1=>
  rw[if_neg c3] at H;obtain⟨o5,o6⟩:=bF c3;obtain⟨l9,A4,H⟩:=bi H;try dsimp only at H
  obtain rfl:=Option.some.inj H
 all_goals
  go_wp2_with(first|((with_reducible refine aC (f:=78) rfl ?_);refine gM 11 Tryz.func78 (lT.calls (w:=_) (h:=A4.out)) (h:= ?_);intro w5 hb;replace HB:=pkB HB hb;try clear hb))
  go_ret
  exact pkE HB
def dO.f(a0_0:Bool)(a0_1 a0_2 a1:ByteArray):Option (Bool):=if a0_0=true then(some false) else((iE.f a1 a0_2).bind fun t130=>((dN.f a0_1 t130).bind fun t131=>(some t131)))
def dO.T1:Bool×List (List Nat×List Nat):=(true,[([],[]),([0],[0]),([1],[1]),([2],[2]),([3],[3]),([4,3],[3,4]),([3],[3]),([3],[3]),([7,3],[3,7]),([6,8,3,3],[3,6,8]),([5,9,9,3],[3,5,9]),([3,10],[3,10]),([11,10,0,1,2,3,4,5,6,7,8,9,10,11],[11])])
def dO.B1:List Nat:= [0,1,3,7,15,31,15,15,143,463,1023,2047,4095]
theorem dO.tab1:rtab .any (opsOf Tryz.f129 1)=dO.T1:=by kernel_rfl
theorem dO.aAz:kX dO.T1.2 dO.B1=true:=by kernel_rfl
theorem dO.calls(o9:Bool)(o5 o6 a1:ByteArray)(r:Bool)(w:World)(h:dO.f o9 o5 o6 a1=some r) :
 Calls Tryz.prog 129 #[.agg #[.bool o9,.string o5,.string o6],.string a1] w fun e w'=>e= .returned (.bool r)∧Below w.heap.size w w':=by
 have hu36:=Tryz.underlying36;have HB:=aA.mk (Below.refl w.heap.size w);have H:(if o9=true then(some false) else((iE.f a1 o6).bind fun y9=>((dN.f o5 y9).bind fun C9=>(some C9))))=some r:=h;clear h;go_enter Tryz.func129,Tryz.ntmps129
 by_cases c3:o9=true
 ·subst c3
  rw[if_pos rfl] at H;obtain rfl:=Option.some.inj H
  try go_wp2_with(first|((with_reducible refine aG (N:=2) rfl ?_);refine bx_ 2 36 #[.bool true,.string o5,.string o6] (h:= ?_);intro o7 hg w4 o8 hb;have l9:=aA.mk (o8);have y8:=pkG HB hg;have D5:=y8;replace HB:=pkB HB hb;clear hb o8 hg))
  replace l9:=aA.mk (aK l9.out);replace HB:=aA.mk (aJ HB.out)
  refine kF (n:=13) (S:=fun w'=>w'.cell? ⟨o7,0,none⟩=some (.bool true)∧w'.cell? ⟨o7,1,none⟩=some (.string o5)∧w'.cell? ⟨o7,2,none⟩=some (.string o6)) (ds:= []) #[false,false,false,false,false,false,false,false,false,false,false,false,false] (by kernel_rfl) rfl rfl (pcL l9) (fun hHeld=> ?_);refine jZ dO.tab1 dO.aAz (fun HT_ HW_=> ?_)
  generalize w4.drew=w5 at l9 HB hHeld ⊢;refine pr_ 0 5 (h:= ?_);refine tk_ 1 6 hHeld (hy:=hy3) (h:= ?_);refine pr_ 2 7 (h:= ?_);refine pr_ 3 8 (h:= ?_);refine oW (i:=4) (N:=some 9) (v:=undef) (a':= ?_) #[true,true,true,true,true,false,false,false,false,false,false,false,false] rfl rfl (nK HT_.out (by kernel_rfl)) (fun _ _ _ h=>h) (Or.inr ⟨by rfl,rfl⟩) ?_ ?_
  rotate_left
  ·simp only[Act.put,List.setIfInBounds_toArray,List.set_cons_zero,List.set_cons_succ,jM,jX]
   rfl
  refine oW (i:=5) (N:=some 10) (v:=undef) (a':= ?_) #[true,true,true,true,true,true,false,false,false,false,false,false,false] rfl rfl (nK HT_.out (by kernel_rfl)) (fun _ _ _ h=>h) (Or.inr ⟨by rfl,rfl⟩) ?_ ?_
  rotate_left
  ·simp only[Act.put,List.setIfInBounds_toArray,List.set_cons_zero,List.set_cons_succ,jM,jX]
   rfl
  refine oW (i:=6) (N:=some 11) (v:=undef) (a':= ?_) #[true,true,true,true,true,true,true,false,false,false,false,false,false] rfl rfl (nK HT_.out (by kernel_rfl)) (fun _ _ _ h=>h) (Or.inr ⟨by rfl,rfl⟩) ?_ ?_
  rotate_left
  ·simp only[Act.put,List.setIfInBounds_toArray,List.set_cons_zero,List.set_cons_succ,jM,jX]
   rfl
  refine oW (i:=7) (N:=some 12) (v:=undef) (a':= ?_) #[true,true,true,true,true,true,true,true,false,false,false,false,false] rfl rfl (nK HT_.out (by kernel_rfl)) (fun _ _ _ h=>h) (Or.inr ⟨by rfl,rfl⟩) ?_ ?_
  rotate_left
  ·simp only[Act.put,List.setIfInBounds_toArray,List.set_cons_zero,List.set_cons_succ,jM,jX]
   rfl
  refine oW (i:=8) (N:=some 13) (v:=undef) (a':= ?_) #[true,true,true,true,true,true,true,true,true,false,false,false,false] rfl rfl (nK HT_.out (by kernel_rfl)) (fun _ _ _ h=>h) (Or.inr ⟨by rfl,rfl⟩) ?_ ?_
  rotate_left
  ·simp only[Act.put,List.setIfInBounds_toArray,List.set_cons_zero,List.set_cons_succ,jM,jX]
   rfl
  refine oW (i:=9) (N:=some 14) (v:=undef) (a':= ?_) #[true,true,true,true,true,true,true,true,true,true,false,false,false] rfl rfl (nK HT_.out (by kernel_rfl)) (fun _ _ _ h=>h) (Or.inr ⟨by rfl,rfl⟩) ?_ ?_
  rotate_left
  ·simp only[Act.put,List.setIfInBounds_toArray,List.set_cons_zero,List.set_cons_succ,jM,jX]
   rfl
  refine oW (i:=10) (N:=some 15) (v:=undef) (a':= ?_) #[true,true,true,true,true,true,true,true,true,true,true,false,false] rfl rfl (nK HT_.out (by kernel_rfl)) (fun _ _ _ h=>h) (Or.inr ⟨by rfl,rfl⟩) ?_ ?_
  rotate_left
  ·simp only[Act.put,List.setIfInBounds_toArray,List.set_cons_zero,List.set_cons_succ,jM,jX]
   rfl
  refine pr_ 11 16 (h:= ?_);refine pr_ 12 4 (h:= ?_);refine kY (lK HT_.out (by kernel_rfl)) ?_
  try go_wp2
  go_ret
  exact pkE HB
 ·replace c3:=Bool.eq_false_iff.mpr c3
  subst c3;rw[if_neg (show ¬(false=true) by decide)] at H;obtain⟨y9,A6,H⟩:=bi H;try dsimp only at H
  obtain⟨C9,A7,H⟩:=bi H;try dsimp only at H
  obtain rfl:=Option.some.inj H
  try go_wp2_with(first|((with_reducible refine aG (N:=2) rfl ?_);refine bx_ 2 36 #[.bool false,.string o5,.string o6] (h:= ?_);intro o7 hg w8 o8 hb;have l9:=aA.mk (o8);have y8:=pkG HB hg;have D5:=y8;replace HB:=pkB HB hb;clear hb o8 hg))
  replace l9:=aA.mk (aK l9.out);replace HB:=aA.mk (aJ HB.out)
  refine kF (n:=13) (S:=fun w'=>w'.cell? ⟨o7,0,none⟩=some (.bool false)∧w'.cell? ⟨o7,1,none⟩=some (.string o5)∧w'.cell? ⟨o7,2,none⟩=some (.string o6)) (ds:= []) #[false,false,false,false,false,false,false,false,false,false,false,false,false] (by kernel_rfl) rfl rfl (pcL l9) (fun hHeld=> ?_);refine jZ dO.tab1 dO.aAz (fun HT_ HW_=> ?_)
  generalize w8.drew=w9 at l9 HB hHeld ⊢;refine pr_ 0 5 (h:= ?_);refine tk_ 1 6 hHeld (hy:=hy3) (h:= ?_);refine pr_ 2 7 (h:= ?_);refine pr_ 3 8 (h:= ?_);refine pr_ 4 9 (h:= ?_);refine pr_ 6 11 (h:= ?_);refine pr_ 7 12 (h:= ?_);refine tk_ 5 10 hHeld (hy:=hy3) (h:= ?_);refine tk_ 8 13 hHeld (hy:=hy3) (h:= ?_);refine on_ 9 14 (h:=fun K hK=> ?_);refine gR Tryz.func84 (iE.calls (w:=_) (h:=A6.out)) (h:= ?_);intro D6 hb;replace l9:=pkK l9 hb;replace HB:=pkB HB hb
  clear hb;refine hK.out _ _ (pcL l9) (fun hHeld=> ?_);clear hK K;refine nm_ (h:= ?_);refine on_ 10 15 (h:=fun K hK=> ?_);refine gR Tryz.func180 (dN.calls (w:=_) (h:=A7.out)) (h:= ?_);intro D7 hb;replace l9:=pkK l9 hb;replace HB:=pkB HB hb
  clear hb;refine hK.out _ _ (pcL l9) (fun hHeld=> ?_);clear hK K;refine nm_ (h:= ?_);refine pr_ 11 16 (h:= ?_);refine pr_ 12 4 (h:= ?_);refine kY (lK HT_.out (by kernel_rfl)) ?_
  try go_wp2
  go_ret
  exact pkE HB
def bQ.f(a0_0:Bool)(a0_1 a0_2:ByteArray)(a1_0:Bool)(a1_1 a1_2:ByteArray):Option (Int):=(dE.f a0_0 a0_1 a0_2).bind fun t138=>(if t138=0 then((dE.f a1_0 a1_1 a1_2).bind fun t139=>(some t139)) else(some t138))
theorem bQ.calls(o7:Bool)(o8 o9:ByteArray)(y8:Bool)(y9 C9:ByteArray)(r:Int)(w:World)(h:bQ.f o7 o8 o9 y8 y9 C9=some r) :
 Calls Tryz.prog 102 #[.agg #[.bool o7,.string o8,.string o9],.agg #[.bool y8,.string y9,.string C9]] w fun e w'=>e= .returned (.int .i64 r)∧Below w.heap.size w w':=by
 have hu36:=Tryz.underlying36;have HB:=aA.mk (Below.refl w.heap.size w);have H:((dE.f o7 o8 o9).bind fun D5=>(if D5=0 then((dE.f y8 y9 C9).bind fun D6=>(some D6)) else(some D5)))=some r:=h;clear h;obtain⟨D5,A3,H⟩:=bi H;try dsimp only at H
 go_enter Tryz.func102,Tryz.ntmps102
 refine byC (P:=D5=0) (fun c4=> ?a4) (fun c4=> ?b4)
 case' a4=>
  rw[if_pos c4] at H;obtain⟨D7,D8⟩:=bT c4;clear c4;obtain⟨D6,A5,H⟩:=bi H;try dsimp only at H
  obtain rfl:=Option.some.inj H
 case' b4=>
  rw[if_neg c4] at H;obtain⟨D7,D8⟩:=bF c4;obtain rfl:=Option.some.inj H
 all_goals
  go_wp2_with(first|((with_reducible refine aG (N:=2) rfl ?_);refine bx_ 2 36 #[.bool o7,.string o8,.string o9] (h:= ?_);intro F7 hg w6 o6 hb;have l9:=aA.mk (o6);have D9:=pkG HB hg;have F8:=D9;replace HB:=pkB HB hb;clear hb o6 hg)|((with_reducible refine aG (N:=3) rfl ?_);refine bx_ 3 36 #[.bool y8,.string y9,.string C9] (h:= ?_);intro F9 hg w7 o6 hb;have o5:=aA.mk (o6);have E8:=pkG HB hg;have G5:=E8;obtain⟨F5,F6,_,_⟩:=pkQ l9 hg;replace l9:=pkK l9 hb;replace HB:=pkB HB hb;clear hb o6 hg;have G6:=F5.out;have G7:=F6.out;obtain⟨⟨G8,G9,H5⟩,H6,H7,H8⟩:=pk3 l9)|(have q_:=A3;(with_reducible refine aC (f:=67) rfl ?_);refine gM 7 Tryz.func67 (dE.calls (w:=_) (h:=A3.out)) (h:= ?_);intro H9 hb;replace l9:=pkK l9 hb;replace o5:=pkK o5 hb;replace HB:=pkB HB hb;try clear hb;clear A3 q_;obtain⟨⟨I4,I5,I7⟩,I8,I9,J3⟩:=pk3 o5)|((with_reducible refine aC (f:=67) rfl ?_);refine gM 12 Tryz.func67 (dE.calls (w:=_) (h:=A5.out)) (h:= ?_);intro J4 hb;replace l9:=pkK l9 hb;replace o5:=pkK o5 hb;replace HB:=pkB HB hb;try clear hb)|((with_reducible refine aC (f:=67) rfl ?_);refine gM 7 Tryz.func67 (dE.calls (w:=_) (h:=A3.out)) (h:= ?_);intro J5 hb;replace l9:=pkK l9 hb;replace o5:=pkK o5 hb;replace HB:=pkB HB hb;try clear hb))
  go_ret
  exact pkE HB
def mX.f(a0_0:Bool)(a0_1 a0_2:ByteArray)(a1_0:Bool)(a1_1 a1_2:ByteArray):Option (Bool):=if a0_0=true then(some true) else((dO.f a1_0 a1_1 a1_2 a0_2).bind fun t142=>(if t142=true then((dN.f a1_1 a0_1).bind fun t143=>(some t143)) else(some false)))
theorem mX.calls(C9:Bool)(o7 o8:ByteArray)(o9:Bool)(o5 y8:ByteArray)(r:Bool)(w:World)(h:mX.f C9 o7 o8 o9 o5 y8=some r) :
 Calls Tryz.prog 108 #[.agg #[.bool C9,.string o7,.string o8],.agg #[.bool o9,.string o5,.string y8]] w fun e w'=>e= .returned (.bool r)∧Below w.heap.size w w':=by
 have hu36:=Tryz.underlying36;have HB:=aA.mk (Below.refl w.heap.size w);have H:(if C9=true then(some true) else((dO.f o9 o5 y8 o8).bind fun D5=>(if D5=true then((dN.f o5 o7).bind fun D6=>(some D6)) else(some false))))=some r:=h;clear h;go_enter Tryz.func108,Tryz.ntmps108
 refine byC (P:=C9=true) (fun c3=> ?a5) (fun c3=> ?b5)
 case' a5=>
  subst c3;rw[if_pos rfl] at H;obtain rfl:=Option.some.inj H
 case' b5=>
  replace c3:=Bool.eq_false_iff.mpr c3;subst c3;rw[if_neg (show ¬(false=true) by decide)] at H;obtain⟨D5,A8,H⟩:=bi H;try dsimp only at H
  refine byC (P:=D5=true) (fun c9=> ?a6) (fun c9=> ?b6)
  case' a6=>
   subst c9;rw[if_pos rfl] at H;obtain⟨D6,D7,H⟩:=bi H;try dsimp only at H
   obtain rfl:=Option.some.inj H
  case' b6=>
   replace c9:=Bool.eq_false_iff.mpr c9;subst c9;rw[if_neg (show ¬(false=true) by decide)] at H;obtain rfl:=Option.some.inj H
 all_goals
  go_wp2_with(first|((with_reducible refine aG (N:=2) rfl ?_);refine bx_ 2 36 #[.bool _,.string o7,.string o8] (h:= ?_);intro F6 hg w4 y9 hb;have l9:=aA.mk (y9);have D8:=pkG HB hg;have F7:=D8;replace HB:=pkB HB hb;clear hb y9 hg)|((with_reducible refine aG (N:=3) rfl ?_);refine bx_ 3 36 #[.bool o9,.string o5,.string y8] (h:= ?_);intro F8 hg w5 y9 hb;have o6:=aA.mk (y9);have D9:=pkG HB hg;have F9:=D9;obtain⟨E8,F5,_,_⟩:=pkQ l9 hg;replace l9:=pkK l9 hb;replace HB:=pkB HB hb;clear hb y9 hg;have G5:=E8.out;have G6:=F5.out;obtain⟨⟨G7,G8,G9⟩,H5,H6,H7⟩:=pk3 l9;obtain⟨⟨H8,H9,I4⟩,I5,I7,I8⟩:=pk3 o6)|(go_at_call 129;(with_reducible refine(dO.calls o9 o5 y8 o8 _ _ A8.out).mono ?_);rintro e I9 ⟨rfl,hb⟩;replace l9:=pkK l9 hb;replace o6:=pkK o6 hb;replace HB:=pkB HB hb;try clear hb;obtain⟨⟨J3,J4,J5⟩,J6,J7,J8⟩:=pk3 o6;obtain⟨⟨J9,L6,L8⟩,L9,N7,N8⟩:=pk3 l9)|(go_at_call 180;(with_reducible refine(dN.calls o5 o7 D6 _ D7.out).mono ?_);rintro e N9 ⟨rfl,hb⟩;replace l9:=pkK l9 hb;replace o6:=pkK o6 hb;replace HB:=pkB HB hb;try clear hb))
  go_ret
  exact pkE HB
def rD.f(a0_0:Bool)(a0_1 a0_2:ByteArray)(a1_0:Bool)(a1_1 a1_2:ByteArray):Option (Bool×Int):=(bQ.f a0_0 a0_1 a0_2 a1_0 a1_1 a1_2).bind fun t146=>(if t146=0 then((mX.f a0_0 a0_1 a0_2 a1_0 a1_1 a1_2).bind fun t147=>(some (t147,0))) else(some (false,t146)))
theorem rD.calls(o6:Bool)(o7 o8:ByteArray)(o9:Bool)(y8 y9:ByteArray)(r1:Bool)(r2:Int)(w:World)(h:rD.f o6 o7 o8 o9 y8 y9=some (r1,r2)) :
 Calls Tryz.prog 41 #[.agg #[.bool o6,.string o7,.string o8],.agg #[.bool o9,.string y8,.string y9]] w fun e w'=>e= .returned (.tuple #[.bool r1,.int .i64 r2])∧Below w.heap.size w w':=by
 have hu36:=Tryz.underlying36;have HB:=aA.mk (Below.refl w.heap.size w);have H:((bQ.f o6 o7 o8 o9 y8 y9).bind fun D5=>(if D5=0 then((mX.f o6 o7 o8 o9 y8 y9).bind fun D6=>(some (D6,0))) else(some (false,D5))))=some (r1,r2):=h;clear h;obtain⟨D5,A3,H⟩:=bi H;try dsimp only at H
 go_enter Tryz.func41,Tryz.ntmps41
 refine byC (P:=D5=0) (fun c4=> ?a7) (fun c4=> ?b7)
 case' a7=>
  rw[if_pos c4] at H;obtain⟨D7,D8⟩:=bT c4;clear c4;obtain⟨D6,A5,H⟩:=bi H;try dsimp only at H
  simp only[Option.some.injEq,Prod.mk.injEq] at H;obtain⟨rfl,rfl⟩:=H
 case' b7=>
  rw[if_neg c4] at H;obtain⟨D7,D8⟩:=bF c4;simp only[Option.some.injEq,Prod.mk.injEq] at H;obtain⟨rfl,rfl⟩:=H
 all_goals
  go_wp2_with(first|((with_reducible refine aG (N:=2) rfl ?_);refine bx_ 2 36 #[.bool o6,.string o7,.string o8] (h:= ?_);intro F7 hg w6 C9 hb;have l9:=aA.mk (C9);have D9:=pkG HB hg;have F8:=D9;replace HB:=pkB HB hb;clear hb C9 hg)|((with_reducible refine aG (N:=3) rfl ?_);refine bx_ 3 36 #[.bool o9,.string y8,.string y9] (h:= ?_);intro F9 hg w7 C9 hb;have o5:=aA.mk (C9);have E8:=pkG HB hg;have G5:=E8;obtain⟨F5,F6,_,_⟩:=pkQ l9 hg;replace l9:=pkK l9 hb;replace HB:=pkB HB hb;clear hb C9 hg;have G6:=F5.out;have G7:=F6.out;obtain⟨⟨G8,G9,H5⟩,H6,H7,H8⟩:=pk3 l9;obtain⟨⟨H9,I4,I5⟩,I7,I8,I9⟩:=pk3 o5)|((with_reducible refine aC (f:=102) rfl ?_);refine gM 9 Tryz.func102 (bQ.calls (w:=_) (h:=A3.out)) (h:= ?_);intro J3 hb;replace l9:=pkK l9 hb;replace o5:=pkK o5 hb;replace HB:=pkB HB hb;try clear hb;obtain⟨⟨J4,J5,J6⟩,J7,J8,J9⟩:=pk3 l9;obtain⟨⟨L6,L8,L9⟩,N7,N8,N9⟩:=pk3 o5)|((with_reducible refine aC (f:=108) rfl ?_);refine gM 15 Tryz.func108 (mX.calls (w:=_) (h:=A5.out)) (h:= ?_);intro O0 hb;replace l9:=pkK l9 hb;replace o5:=pkK o5 hb;replace HB:=pkB HB hb;try clear hb))
  go_ret2
  exact pkE HB
def iO.f(k:Nat)(a0_0:Bool)(a0_1 a0_2:ByteArray)(a1_0:Bool)(a1_1 a1_2:ByteArray):Option (Bool×ByteArray×ByteArray):=if a0_0=true then(some (a1_0,a1_1,a1_2)) else(if a1_0=true then(some (a0_0,a0_1,a0_2)) else((fZ.f a0_1 a1_1).bind fun t151=>((iE.f a0_2 a1_2).bind fun t152=>((fZ.f t151 t152).bind fun t153=>((bJ.f k t153 a0_2).bind fun bt154=>(some (bt154.1,bt154.2.1,bt154.2.2)))))))
def iO.T5:Bool×List (List Nat×List Nat):=(true,[([],[]),([0],[0]),([],[]),([2],[2]),([1,3],[1,3]),([],[]),([5],[5]),([],[]),([7],[7]),([6,8,4],[6,8]),([4,9,9],[4,9]),([],[]),([11],[11]),([10,12,10],[10,12]),([13,13,0,1,2,3,4,5,6,7,8,9,10,11,12,13],[13])])
def iO.B5:List Nat:= [0,1,0,4,15,0,32,0,128,511,1023,0,2048,8191,16383]
theorem iO.tab5:rtab .any (opsOf Tryz.f112 5)=iO.T5:=by kernel_rfl
theorem iO.bits5:kX iO.T5.2 iO.B5=true:=by kernel_rfl
theorem iO.calls(k:Nat)(E8:Bool)(C9 y9:ByteArray)(D9:Bool)(D5 D6:ByteArray)(r1:Bool)(r2 r3:ByteArray)(w:World)(h:iO.f k E8 C9 y9 D9 D5 D6=some (r1,r2,r3)) :
 Calls Tryz.prog 112 #[.agg #[.bool E8,.string C9,.string y9],.agg #[.bool D9,.string D5,.string D6]] w fun e w'=>e= .returned (.agg #[.bool r1,.string r2,.string r3])∧Below w.heap.size w w':=by
 have hu36:=Tryz.underlying36;have HB:=aA.mk (Below.refl w.heap.size w);have H:(if E8=true then(some (D9,D5,D6)) else(if D9=true then(some (E8,C9,y9)) else((fZ.f C9 D5).bind fun H5=>((iE.f y9 D6).bind fun H6=>((fZ.f H5 H6).bind fun H7=>((bJ.f k H7 y9).bind fun G8=>(some (G8.1,G8.2.1,G8.2.2))))))))=some (r1,r2,r3):=h;clear h;go_enter Tryz.func112,Tryz.ntmps112
 by_cases c3:E8=true
 ·subst c3
  rw[if_pos rfl] at H;simp only[Option.some.injEq,Prod.mk.injEq] at H;obtain⟨rfl,rfl,rfl⟩:=H
  go_wp2_with(first|((with_reducible refine aG (N:=2) rfl ?_);refine bx_ 2 36 #[.bool true,.string C9,.string y9] (h:= ?_);intro F5 hg w4 o6 hb;have l9:=aA.mk (o6);have F6:=pkG HB hg;have H8:=F6;replace HB:=pkB HB hb;clear hb o6 hg)|((with_reducible refine aG (N:=3) rfl ?_);refine bx_ 3 36 #[.bool D9,.string D5,.string D6] (h:= ?_);intro F7 hg w5 o6 hb;have o5:=aA.mk (o6);have F8:=pkG HB hg;have H9:=F8;obtain⟨F9,G5,_,_⟩:=pkQ l9 hg;replace l9:=pkK l9 hb;replace HB:=pkB HB hb;clear hb o6 hg)|((with_reducible refine aG (N:=4) rfl ?_);refine bx_ 4 36 #[.bool false,.string ⟨#[]⟩,.string ⟨#[]⟩] (h:= ?_);intro o7 hg w6 o6 hb;have o8:=aA.mk (o6);have G6:=pkG HB hg;have I4:=G6;obtain⟨o9,D7,_,_⟩:=pkQ l9 hg;obtain⟨y8,D8,_,_⟩:=pkQ o5 hg;replace l9:=pkK l9 hb;replace o5:=pkK o5 hb;replace HB:=pkB HB hb;clear hb o6 hg;have J7:=F9.out;have J8:=G5.out;have J9:=o9.out;have L6:=D7.out;obtain⟨⟨L8,L9,N7⟩,N8,N9,O0⟩:=pk3 l9;have O1:=y8.out;have O3:=D8.out;obtain⟨⟨O4,O5,O6⟩,O7,O8,O9⟩:=pk3 o5;obtain⟨⟨P7,P8,P9⟩,Q3,Q4,Q5⟩:=pk3 o8))
  refine bodyPost_ret (results_cell_row rfl _ _ o7 36 #[.bool D9,.string D5,.string D6] (0,0) _ rfl (pkS3 o8) Tryz.underlying36 rfl (by kernel_rfl)) rfl ?_;exact pkE HB
 ·replace c3:=Bool.eq_false_iff.mpr c3
  subst c3;rw[if_neg (show ¬(false=true) by decide)] at H
  by_cases G7:D9=true
  ·subst G7
   rw[if_pos rfl] at H;simp only[Option.some.injEq,Prod.mk.injEq] at H;obtain⟨rfl,rfl,rfl⟩:=H
   go_wp2_with(first|((with_reducible refine aG (N:=2) rfl ?_);refine bx_ 2 36 #[.bool false,.string C9,.string y9] (h:= ?_);intro F5 hg Q7 o6 hb;have l9:=aA.mk (o6);have F6:=pkG HB hg;have H8:=F6;replace HB:=pkB HB hb;clear hb o6 hg)|((with_reducible refine aG (N:=3) rfl ?_);refine bx_ 3 36 #[.bool true,.string D5,.string D6] (h:= ?_);intro F7 hg Q8 o6 hb;have o5:=aA.mk (o6);have F8:=pkG HB hg;have H9:=F8;obtain⟨F9,G5,_,_⟩:=pkQ l9 hg;replace l9:=pkK l9 hb;replace HB:=pkB HB hb;clear hb o6 hg)|((with_reducible refine aG (N:=4) rfl ?_);refine bx_ 4 36 #[.bool false,.string ⟨#[]⟩,.string ⟨#[]⟩] (h:= ?_);intro o7 hg Q9 o6 hb;have o8:=aA.mk (o6);have G6:=pkG HB hg;have I4:=G6;obtain⟨o9,D7,_,_⟩:=pkQ l9 hg;obtain⟨y8,D8,_,_⟩:=pkQ o5 hg;replace l9:=pkK l9 hb;replace o5:=pkK o5 hb;replace HB:=pkB HB hb;clear hb o6 hg;have S9:=F9.out;have U3:=G5.out;have U4:=o9.out;have U5:=D7.out;obtain⟨⟨U6,U7,U8⟩,U9,V3,V4⟩:=pk3 l9;have V5:=y8.out;have V6:=D8.out;obtain⟨⟨V7,V8,V9⟩,X4,X5,X7⟩:=pk3 o5;obtain⟨⟨X8,X9,Y0⟩,Y4,Y5,Y7⟩:=pk3 o8))
   refine bodyPost_ret (results_cell_row rfl _ _ o7 36 #[.bool false,.string C9,.string y9] (0,0) _ rfl (pkS3 o8) Tryz.underlying36 rfl (by kernel_rfl)) rfl ?_;exact pkE HB
  ·replace G7:=Bool.eq_false_iff.mpr G7
   subst G7;rw[if_neg (show ¬(false=true) by decide)] at H;obtain⟨H5,I5,H⟩:=bi H;try dsimp only at H
   obtain⟨H6,I7,H⟩:=bi H;try dsimp only at H
   obtain⟨H7,I8,H⟩:=bi H;try dsimp only at H
   obtain⟨⟨I9,J3,J4⟩,J5,H⟩:=bi H;try dsimp only at H
   simp only[Option.some.injEq,Prod.mk.injEq] at H;obtain⟨rfl,rfl,rfl⟩:=H
   try go_wp2_with(first|((with_reducible refine aG (N:=2) rfl ?_);refine bx_ 2 36 #[.bool false,.string C9,.string y9] (h:= ?_);intro F5 hg Y8 o6 hb;have l9:=aA.mk (o6);have F6:=pkG HB hg;have H8:=F6;replace HB:=pkB HB hb;clear hb o6 hg)|((with_reducible refine aG (N:=3) rfl ?_);refine bx_ 3 36 #[.bool false,.string D5,.string D6] (h:= ?_);intro F7 hg Y9 o6 hb;have o5:=aA.mk (o6);have F8:=pkG HB hg;have H9:=F8;obtain⟨F9,G5,_,_⟩:=pkQ l9 hg;replace l9:=pkK l9 hb;replace HB:=pkB HB hb;clear hb o6 hg)|((with_reducible refine aG (N:=4) rfl ?_);refine bx_ 4 36 #[.bool false,.string ⟨#[]⟩,.string ⟨#[]⟩] (h:= ?_);intro o7 hg J6 o6 hb;have o8:=aA.mk (o6);have G6:=pkG HB hg;have I4:=G6;obtain⟨o9,D7,_,_⟩:=pkQ l9 hg;obtain⟨y8,D8,_,_⟩:=pkQ o5 hg;replace l9:=pkK l9 hb;replace o5:=pkK o5 hb;replace HB:=pkB HB hb;clear hb o6 hg;have Z7:=F9.out;have Z8:=G5.out;have Z9:=o9.out;have ae:=D7.out;obtain⟨⟨af,ag,ah⟩,ai,aj,ak⟩:=pk3 l9;have au:=y8.out;have ax:=D8.out;obtain⟨⟨ay,az,bn⟩,df,dh,di⟩:=pk3 o5))
   replace l9:=aA.mk (aK l9.out);replace o5:=aA.mk (aK o5.out);replace o8:=aA.mk (aK o8.out);replace HB:=aA.mk (aJ HB.out)
   refine kF (n:=15) (S:=fun w'=>w'.cell? ⟨F5,0,none⟩=some (.bool false)∧w'.cell? ⟨F5,1,none⟩=some (.string C9)∧w'.cell? ⟨F5,2,none⟩=some (.string y9)∧w'.cell? ⟨F7,0,none⟩=some (.bool false)∧w'.cell? ⟨F7,1,none⟩=some (.string D5)∧w'.cell? ⟨F7,2,none⟩=some (.string D6)) (ds:= []) #[false,false,false,false,false,false,false,false,false,false,false,false,false,false,false] (by kernel_rfl) rfl rfl (pc3 l9 (pcL o5)) (fun hHeld=> ?_);refine jZ iO.tab5 iO.bits5 (fun HT_ HW_=> ?_)
   generalize J6.drew=dw at l9 o5 o8 HB hHeld ⊢;refine pr_ 0 11 (h:= ?_);refine pr_ 2 13 (h:= ?_);refine pr_ 5 16 (h:= ?_);refine pr_ 7 18 (h:= ?_);refine pr_ 11 22 (h:= ?_);refine tk_ 1 12 hHeld (hy:=hy6) (h:= ?_);refine tk_ 3 14 hHeld (hy:=hy6) (h:= ?_);refine tk_ 6 17 hHeld (hy:=hy6) (h:= ?_);refine tk_ 8 19 hHeld (hy:=hy6) (h:= ?_);refine tk_ 12 23 hHeld (hy:=hy6) (h:= ?_);refine on_ 4 15 (h:=fun K hK=> ?_);refine gR Tryz.func89 (fZ.calls (w:=_) (h:=I5.out)) (h:= ?_);intro eu hb;replace l9:=pkK l9 hb;replace o5:=pkK o5 hb;replace o8:=pkK o8 hb;replace HB:=pkB HB hb
   clear hb;refine hK.out _ _ (pc3 l9 (pcL o5)) (fun hHeld=> ?_);clear hK K;refine nm_ (h:= ?_);refine on_ 9 20 (h:=fun K hK=> ?_);refine gR Tryz.func84 (iE.calls (w:=_) (h:=I7.out)) (h:= ?_);intro gm hb;replace l9:=pkK l9 hb;replace o5:=pkK o5 hb;replace o8:=pkK o8 hb;replace HB:=pkB HB hb
   clear hb;refine hK.out _ _ (pc3 l9 (pcL o5)) (fun hHeld=> ?_);clear hK K;refine nm_ (h:= ?_);refine on_ 10 21 (h:=fun K hK=> ?_);refine gR Tryz.func89 (fZ.calls (w:=_) (h:=I8.out)) (h:= ?_);intro gp hb;replace l9:=pkK l9 hb;replace o5:=pkK o5 hb;replace o8:=pkK o8 hb;replace HB:=pkB HB hb
   clear hb;refine hK.out _ _ (pc3 l9 (pcL o5)) (fun hHeld=> ?_);clear hK K;refine nm_ (h:= ?_);refine on_ 13 24 (h:=fun K hK=> ?_);refine gR Tryz.func127 (bJ.calls (w:=_) (h:=J5.out)) (h:= ?_);intro G9 hb;replace l9:=pkK l9 hb;replace o5:=pkK o5 hb;replace o8:=pkK o8 hb;replace HB:=pkB HB hb
   clear hb;refine hK.out _ _ (pc3 l9 (pcL o5)) (fun hHeld=> ?_);clear hK K;refine nm_ (h:= ?_);refine one_ (i:=14) (N:=none) #[true,true,true,true,true,true,true,true,true,true,true,true,true,true,true] rfl rfl (tH HT_.out (by kernel_rfl)) aG0 (fun K hK=> ?_);have gq:G9.cell? ⟨o7,0,none⟩=some (.bool false):=(fF o8.out 0).trans rfl;have gz:=eG o8.out 0;have ig:=o9.out;have ik:=y8.out;have iq:=D7.out;have iw:=D8.out;have ja:G9.cell? ⟨o7,1,none⟩=some (.string ⟨#[]⟩):=(fF o8.out 1).trans rfl;have jb:=eG o8.out 1;have jc:=o9.out;have jd:=y8.out;have je:=D7.out;have jf:=D8.out;have jg:G9.cell? ⟨o7,2,none⟩=some (.string ⟨#[]⟩):=(fF o8.out 2).trans rfl;have jh:=eG o8.out 2;have ji:=o9.out;have jk:=y8.out;have jl:=D7.out;have jm:=D8.out;refine uQ (w1:= ?_) (by rfl) rfl ?_ ?_
   rotate_left
   ·go_simp
    rfl
   refine hK.out _ _ ⟨((aG2 (p:=⟨o7,_,none⟩) o9.out _).trans (((aG2 (p:=⟨o7,_,none⟩) o9.out _).trans (((aG2 (p:=⟨o7,_,none⟩) o9.out _).trans (hHeld.1)))))),((aG2 (p:=⟨o7,_,none⟩) o9.out _).trans (((aG2 (p:=⟨o7,_,none⟩) o9.out _).trans (((aG2 (p:=⟨o7,_,none⟩) o9.out _).trans (hHeld.2.1)))))),((aG2 (p:=⟨o7,_,none⟩) o9.out _).trans (((aG2 (p:=⟨o7,_,none⟩) o9.out _).trans (((aG2 (p:=⟨o7,_,none⟩) o9.out _).trans (hHeld.2.2.1)))))),((aG2 (p:=⟨o7,_,none⟩) y8.out _).trans (((aG2 (p:=⟨o7,_,none⟩) y8.out _).trans (((aG2 (p:=⟨o7,_,none⟩) y8.out _).trans (hHeld.2.2.2.1)))))),((aG2 (p:=⟨o7,_,none⟩) y8.out _).trans (((aG2 (p:=⟨o7,_,none⟩) y8.out _).trans (((aG2 (p:=⟨o7,_,none⟩) y8.out _).trans (hHeld.2.2.2.2.1)))))),((aG2 (p:=⟨o7,_,none⟩) y8.out _).trans (((aG2 (p:=⟨o7,_,none⟩) y8.out _).trans (((aG2 (p:=⟨o7,_,none⟩) y8.out _).trans (hHeld.2.2.2.2.2))))))⟩ (fun hHeld=> ?_);clear hK K;refine kY (lK HT_.out (by kernel_rfl)) ?_
   try go_wp2
   refine bodyPost_ret (results_cell_row rfl _ _ o7 36 #[.bool I9,.string J3,.string J4] (0,0) _ rfl (pkS3 o8) Tryz.underlying36 rfl (by kernel_rfl)) rfl ?_;exact pkE HB
def uB.f(k:Nat)(a0_0:Bool)(a0_1 a0_2:ByteArray)(a1_0:Bool)(a1_1 a1_2:ByteArray):Option (Bool×ByteArray×ByteArray×Int):=(bQ.f a0_0 a0_1 a0_2 a1_0 a1_1 a1_2).bind fun t160=>(if t160=0 then((iO.f k a0_0 a0_1 a0_2 a1_0 a1_1 a1_2).bind fun bt161=>(some (bt161.1,bt161.2.1,bt161.2.2,0))) else(some (false,(⟨#[]⟩:ByteArray),(⟨#[]⟩:ByteArray),t160)))
theorem uB.calls(k:Nat)(o8:Bool)(o9 y8:ByteArray)(y9:Bool)(C9 D5:ByteArray)(r1:Bool)(r2 r3:ByteArray)(r4:Int)(w:World)(h:uB.f k o8 o9 y8 y9 C9 D5=some (r1,r2,r3,r4)) :
 Calls Tryz.prog 43 #[.agg #[.bool o8,.string o9,.string y8],.agg #[.bool y9,.string C9,.string D5]] w fun e w'=>e= .returned (.tuple #[.agg #[.bool r1,.string r2,.string r3],.int .i64 r4])∧Below w.heap.size w w':=by
 have hu36:=Tryz.underlying36;have HB:=aA.mk (Below.refl w.heap.size w);have H:((bQ.f o8 o9 y8 y9 C9 D5).bind fun D6=>(if D6=0 then((iO.f k o8 o9 y8 y9 C9 D5).bind fun D7=>(some (D7.1,D7.2.1,D7.2.2,0))) else(some (false,(⟨#[]⟩:ByteArray),(⟨#[]⟩:ByteArray),D6))))=some (r1,r2,r3,r4):=h;clear h;obtain⟨D6,A3,H⟩:=bi H;try dsimp only at H
 go_enter Tryz.func43,Tryz.ntmps43
 by_cases c4:D6=0
 ·rw[if_pos c4] at H
  obtain⟨G7,G8⟩:=bT c4;clear c4;obtain⟨⟨G9,H5,H6⟩,A5,H⟩:=bi H;try dsimp only at H
  simp only[Option.some.injEq,Prod.mk.injEq] at H;obtain⟨rfl,rfl,rfl,rfl⟩:=H
  go_wp2_with(first|((with_reducible refine aG (N:=2) rfl ?_);refine bx_ 2 36 #[.bool o8,.string o9,.string y8] (h:= ?_);intro H7 hg w6 o5 hb;have l9:=aA.mk (o5);have D8:=pkG HB hg;have H8:=D8;replace HB:=pkB HB hb;clear hb o5 hg)|((with_reducible refine aG (N:=3) rfl ?_);refine bx_ 3 36 #[.bool y9,.string C9,.string D5] (h:= ?_);intro H9 hg w7 o5 hb;have o6:=aA.mk (o5);have D9:=pkG HB hg;have I4:=D9;obtain⟨E8,F5,_,_⟩:=pkQ l9 hg;replace l9:=pkK l9 hb;replace HB:=pkB HB hb;clear hb o5 hg)|((with_reducible refine aG (N:=4) rfl ?_);refine bx_ 4 36 #[.bool false,.string ⟨#[]⟩,.string ⟨#[]⟩] (h:= ?_);intro F6 hg w8 o5 hb;have o7:=aA.mk (o5);have F7:=pkG HB hg;have I5:=F7;obtain⟨F8,F9,_,_⟩:=pkQ l9 hg;obtain⟨G5,G6,_,_⟩:=pkQ o6 hg;replace l9:=pkK l9 hb;replace o6:=pkK o6 hb;replace HB:=pkB HB hb;clear hb o5 hg;have I7:=E8.out;have I8:=F5.out;have I9:=F8.out;have J3:=F9.out;obtain⟨⟨J4,J5,J6⟩,J7,J8,J9⟩:=pk3 l9;have L6:=G5.out;have L8:=G6.out;obtain⟨⟨L9,N7,N8⟩,N9,O0,O1⟩:=pk3 o6)|((with_reducible refine aC (f:=102) rfl ?_);refine gM 9 Tryz.func102 (bQ.calls (w:=_) (h:=A3.out)) (h:= ?_);intro O3 hb;replace l9:=pkK l9 hb;replace o6:=pkK o6 hb;replace o7:=pkK o7 hb;replace HB:=pkB HB hb;try clear hb;obtain⟨⟨O4,O5,O6⟩,O7,O8,O9⟩:=pk3 l9;obtain⟨⟨P7,P8,P9⟩,Q3,Q4,Q5⟩:=pk3 o6)|((with_reducible refine aC (f:=112) rfl ?_);refine gM 16 Tryz.func112 (iO.calls (w:=_) (h:=A5.out)) (h:= ?_);intro Q7 hb;replace l9:=pkK l9 hb;replace o6:=pkK o6 hb;replace o7:=pkK o7 hb;replace HB:=pkB HB hb;try clear hb;obtain⟨⟨Q8,Q9,S9⟩,U3,U4,U5⟩:=pk3 o7))
  refine bodyPost_ret (gW rfl _ _ F6 36 #[.bool G9,.string H5,.string H6] (0,0) _ rfl (pkS3 o7) Tryz.underlying36 rfl (by kernel_rfl)) rfl ?_;exact pkE HB
 ·rw[if_neg c4] at H
  obtain⟨G7,G8⟩:=bF c4;simp only[Option.some.injEq,Prod.mk.injEq] at H;obtain⟨rfl,rfl,rfl,rfl⟩:=H
  go_wp2_with(first|((with_reducible refine aG (N:=2) rfl ?_);refine bx_ 2 36 #[.bool o8,.string o9,.string y8] (h:= ?_);intro H7 hg U6 o5 hb;have l9:=aA.mk (o5);have D8:=pkG HB hg;have H8:=D8;replace HB:=pkB HB hb;clear hb o5 hg)|((with_reducible refine aG (N:=3) rfl ?_);refine bx_ 3 36 #[.bool y9,.string C9,.string D5] (h:= ?_);intro H9 hg U7 o5 hb;have o6:=aA.mk (o5);have D9:=pkG HB hg;have I4:=D9;obtain⟨E8,F5,_,_⟩:=pkQ l9 hg;replace l9:=pkK l9 hb;replace HB:=pkB HB hb;clear hb o5 hg)|((with_reducible refine aG (N:=4) rfl ?_);refine bx_ 4 36 #[.bool false,.string ⟨#[]⟩,.string ⟨#[]⟩] (h:= ?_);intro F6 hg U8 o5 hb;have o7:=aA.mk (o5);have F7:=pkG HB hg;have I5:=F7;obtain⟨F8,F9,_,_⟩:=pkQ l9 hg;obtain⟨G5,G6,_,_⟩:=pkQ o6 hg;replace l9:=pkK l9 hb;replace o6:=pkK o6 hb;replace HB:=pkB HB hb;clear hb o5 hg;have U9:=E8.out;have V3:=F5.out;have V4:=F8.out;have V5:=F9.out;obtain⟨⟨V6,V7,V8⟩,V9,X4,X5⟩:=pk3 l9;have X7:=G5.out;have X8:=G6.out;obtain⟨⟨X9,Y0,Y4⟩,Y5,Y7,Y8⟩:=pk3 o6)|((with_reducible refine aC (f:=102) rfl ?_);refine gM 9 Tryz.func102 (bQ.calls (w:=_) (h:=A3.out)) (h:= ?_);intro Y9 hb;replace l9:=pkK l9 hb;replace o6:=pkK o6 hb;replace o7:=pkK o7 hb;replace HB:=pkB HB hb;try clear hb;obtain⟨⟨Z7,Z8,Z9⟩,ae,af,ag⟩:=pk3 o7))
  refine bodyPost_ret (gW rfl _ _ F6 36 #[.bool false,.string ⟨#[]⟩,.string ⟨#[]⟩] (0,0) _ rfl (pkS3 o7) Tryz.underlying36 rfl (by kernel_rfl)) rfl ?_;exact pkE HB
def fE.f:Option (Bool×ByteArray×ByteArray):=some (true,(⟨#[]⟩:ByteArray),(⟨#[]⟩:ByteArray))
theorem fE.calls(r1:Bool)(r2 r3:ByteArray)(w:World)(h:fE.f=some (r1,r2,r3)) :
 Calls Tryz.prog 179 #[] w fun e w'=>e= .returned (.agg #[.bool r1,.string r2,.string r3])∧Below w.heap.size w w':=by
 have hu36:=Tryz.underlying36;have HB:=aA.mk (Below.refl w.heap.size w);have H:(some (true,(⟨#[]⟩:ByteArray),(⟨#[]⟩:ByteArray)))=some (r1,r2,r3):=h;clear h;simp only[Option.some.injEq,Prod.mk.injEq] at H;obtain⟨rfl,rfl,rfl⟩:=H;go_enter Tryz.func179,Tryz.ntmps179
 go_wp2_with(first|((with_reducible refine aG (N:=0) rfl ?_);refine bx_ 0 36 #[.bool false,.string ⟨#[]⟩,.string ⟨#[]⟩] (h:= ?_);intro o6 hg w1 l9 hb;have o5:=aA.mk (l9);have o7:=pkG HB hg;have o8:=o7;replace HB:=pkB HB hb;clear hb l9 hg;obtain⟨⟨o9,y8,y9⟩,C9,D5,D6⟩:=pk3 o5))
 refine bodyPost_ret (results_cell_row rfl _ _ o6 36 #[.bool true,.string ⟨#[]⟩,.string ⟨#[]⟩] (0,0) _ rfl (pkS3 o5) Tryz.underlying36 rfl (by kernel_rfl)) rfl ?_;exact pkE HB
mutual
def dA.j0:Nat→Bool→Bool→ByteArray→ByteArray→Bool→ByteArray→ByteArray→Option (Bool×ByteArray×ByteArray)
 |0,_,_,_,_,_,_,_=>none
 |k+1,x15,x166000,x166001,x166002,x167000,x167001,x167002=>if x15=true then((fE.f).bind fun bt168=>(some (bt168.1,bt168.2.1,bt168.2.2))) else(if x166001.toList=([48]:List UInt8) then(dA.j1 k true x166000 x166001 x166002 x167000 x167001 x167002) else(dA.j1 k (x167001.toList==([48]:List UInt8)) x166000 x166001 x166002 x167000 x167001 x167002))
def dA.j1:Nat→Bool→Bool→ByteArray→ByteArray→Bool→ByteArray→ByteArray→Option (Bool×ByteArray×ByteArray)
 |0,_,_,_,_,_,_,_=>none
 |k+1,x24,x166000,x166001,x166002,x167000,x167001,x167002=>if x24=true then(if x166001.toList=([48]:List UInt8) then(dA.j2 k x166000 x166001 x166002 x167000 x167001 x167002) else(dA.j2 k x167000 x167001 x167002 x166000 x166001 x166002)) else((fZ.f x166001 x167001).bind fun t175=>((iE.f x167002 x166002).bind fun t176=>((dN.f t175 t176).bind fun t177=>(if t177=true then((oI.f x166001 x167001).bind fun bt181=>((jR.f t176 t175).bind fun t183=>((gG.f bt181.1 t183).bind fun t184=>((jR.f x167001 t175).bind fun t185=>((gG.f x166001 t185).bind fun t186=>((gG.f x166001 t184).bind fun t187=>((oO.f x166002 t187).bind fun t188=>((bJ.f k t186 t188).bind fun bt189=>(some (bt189.1,bt189.2.1,bt189.2.2)))))))))) else((fE.f).bind fun bt178=>(some (bt178.1,bt178.2.1,bt178.2.2)))))))
def dA.j2:Nat→Bool→ByteArray→ByteArray→Bool→ByteArray→ByteArray→Option (Bool×ByteArray×ByteArray)
 |0,_,_,_,_,_,_=>none
 |k+1,x166000,x166001,x166002,x167000,x167001,x167002=>(dO.f x167000 x167001 x167002 x166002).bind fun t171=>(if t171=true then(some (x166000,x166001,x166002)) else((fE.f).bind fun bt172=>(some (bt172.1,bt172.2.1,bt172.2.2))))
end
def dA.f(k:Nat)(a0_0:Bool)(a0_1 a0_2:ByteArray)(a1_0:Bool)(a1_1 a1_2:ByteArray):Option (Bool×ByteArray×ByteArray):=if a0_0=true then(dA.j0 k true a0_0 a0_1 a0_2 a1_0 a1_1 a1_2) else(dA.j0 k a1_0 a0_0 a0_1 a0_2 a1_0 a1_1 a1_2)
def dA.T15:Bool×List (List Nat×List Nat):=(true,[([],[]),([0],[0]),([],[]),([2],[2]),([],[]),([3,4],[3,4]),([1,5,5],[1,5]),([],[]),([7],[7]),([],[]),([9],[9]),([],[]),([10,11,6],[10,11]),([8,12,12],[8,12]),([6,13,13],[6,13]),([14,14,0,1,2,3,4,5,6,7,8,9,10,11,12,13,14],[14])])
def dA.B15:List Nat:= [0,1,0,4,0,28,63,0,128,0,512,0,3711,8191,16383,32767]
theorem dA.tab15:rtab .any (opsOf Tryz.f114 15)=dA.T15:=by kernel_rfl
theorem dA.bits15:kX dA.T15.2 dA.B15=true:=by kernel_rfl
theorem dA.calls(k:Nat)(y8:Bool)(y9 D7:ByteArray)(C9:Bool)(D6 D8:ByteArray)(r1:Bool)(r2 r3:ByteArray)(w:World)(h:dA.f k y8 y9 D7 C9 D6 D8=some (r1,r2,r3)) :
 Calls Tryz.prog 114 #[.agg #[.bool y8,.string y9,.string D7],.agg #[.bool C9,.string D6,.string D8]] w fun e w'=>e= .returned (.agg #[.bool r1,.string r2,.string r3])∧Below w.heap.size w w':=by
 have hu36:=Tryz.underlying36;have HB:=aA.mk (Below.refl w.heap.size w);have H:(if y8=true then(dA.j0 k true y8 y9 D7 C9 D6 D8) else(dA.j0 k C9 y8 y9 D7 C9 D6 D8))=some (r1,r2,r3):=h;clear h;have I8:=aA.mk H;clear H;go_enter Tryz.func114,Tryz.ntmps114
 go_upto_region 1 with (first|((with_reducible refine aG (N:=2) rfl ?_);refine bx_ 2 36 #[.bool y8,.string y9,.string D7] (h:= ?_);intro F7 hg w4 F6 hb;have l9:=aA.mk (F6);have N7:=pkG HB hg;have X5:=N7;replace HB:=pkB HB hb;clear hb F6 hg)|((with_reducible refine aG (N:=3) rfl ?_);refine bx_ 3 36 #[.bool C9,.string D6,.string D8] (h:= ?_);intro F8 hg w5 F6 hb;have o5:=aA.mk (F6);have N8:=pkG HB hg;have X7:=N8;obtain⟨E8,F5,_,_⟩:=pkQ l9 hg;replace l9:=pkK l9 hb;replace HB:=pkB HB hb;clear hb F6 hg)|((with_reducible refine aG (N:=4) rfl ?_);refine bx_ 4 36 #[.bool false,.string ⟨#[]⟩,.string ⟨#[]⟩] (h:= ?_);intro o7 hg w6 F6 hb;have o6:=aA.mk (F6);have N9:=pkG HB hg;have X8:=N9;obtain⟨o8,D5,_,_⟩:=pkQ l9 hg;obtain⟨o9,D9,_,_⟩:=pkQ o5 hg;replace l9:=pkK l9 hb;replace o5:=pkK o5 hb;replace HB:=pkB HB hb;clear hb F6 hg))
 (try simp only[Act.put,List.setIfInBounds_toArray,List.set_cons_zero,List.set_cons_succ])
 go_cut [15] (fun v15 wc=>∃(kq:Nat) (G8:Bool),v15= .bool G8∧aA (dA.j0 kq G8 y8 y9 D7 C9 D6 D8=some (r1,r2,r3))∧aA (kq≤k)∧aA (wc.heap[F7]? =some (.cells #[.bool y8,.string y9,.string D7] 36 (0,0)))∧aA (wc.heap[F8]? =some (.cells #[.bool C9,.string D6,.string D8] 36 (0,0)))∧aA (wc.heap[o7]? =some (.cells #[.bool false,.string ⟨#[]⟩,.string ⟨#[]⟩] 36 (0,0)))∧aA (Below w.heap.size w wc))
 case first=>
  have H:=I8.out;clear I8
  by_cases c7:y8=true
  ·subst c7
   rw[if_pos rfl] at H;have H':=aA.mk H;clear H;have X9:=E8.out;have Y0:=F5.out;have Y4:=o8.out;have Y5:=D5.out;obtain⟨⟨Y7,Y8,Y9⟩,Z7,Z8,Z9⟩:=pk3 l9;go_wp2
   go_meet
   case rel=>exact⟨_,(true),aG1,H',le_,⟨pkW l9⟩,⟨pkW o5⟩,⟨pkW o6⟩,⟨pkL HB⟩⟩
  ·replace c7:=Bool.eq_false_iff.mpr c7
   subst c7;rw[if_neg (show ¬(false=true) by decide)] at H;have H':=aA.mk H;clear H;have ae:=E8.out;have af:=F5.out;have ag:=o8.out;have ah:=D5.out;obtain⟨⟨ai,aj,ak⟩,au,ax,ay⟩:=pk3 l9;have az:=o9.out;have bn:=D9.out;obtain⟨⟨df,dh,di⟩,dw,eu,gm⟩:=pk3 o5;go_wp2
   go_meet
   case rel=>exact⟨_,(C9),aG1,H',le_,⟨pkW l9⟩,⟨pkW o5⟩,⟨pkW o6⟩,⟨pkL HB⟩⟩
 case rest=>
  clear I8;obtain⟨kq,G8,rfl,HA,G9,l9,o5,o6,HB⟩:=hcut
  cases kq with
  |zero=>exact absurd HA.out (by simp[dA.j0])
  |succ kj2=>
   have H:=HA.out;clear HA;simp only[dA.j0] at H
   by_cases H5:G8=true
   ·subst H5
    rw[if_pos rfl] at H;obtain⟨⟨O0,O1,O3⟩,O4,H⟩:=bi H;try dsimp only at H
    simp only[Option.some.injEq,Prod.mk.injEq] at H;obtain⟨rfl,rfl,rfl⟩:=H
    go_wp2_with(first|((with_reducible refine aC (f:=179) rfl ?_);refine gM 16 Tryz.func179 (fE.calls (w:=_) (h:=O4.out)) (h:= ?_);intro gp hb;replace l9:=pkK l9 hb;replace o5:=pkK o5 hb;replace o6:=pkK o6 hb;replace HB:=pkB HB hb;try clear hb;have gq:=D5.out;have gz:=o8.out;have ig:=D9.out;have ik:=o9.out;obtain⟨⟨iq,iw,ja⟩,jb,jc,jd⟩:=pk3 o6))
    refine bodyPost_ret (results_cell_row rfl _ _ o7 36 #[.bool O0,.string O1,.string O3] (0,0) _ rfl (pkS3 o6) Tryz.underlying36 rfl (by kernel_rfl)) rfl ?_;exact pkE HB
   ·replace H5:=Bool.eq_false_iff.mpr H5
    subst H5;rw[if_neg (show ¬(false=true) by decide)] at H;have I9:=aA.mk H;clear H
    go_upto_region 3 with (fail)
    go_cut [24] (fun v24 wc=>∃(kq:Nat) (H6:Bool),v24= .bool H6∧aA (dA.j1 kq H6 y8 y9 D7 C9 D6 D8=some (r1,r2,r3))∧aA (kq≤kj2)∧aA (wc.heap[F7]? =some (.cells #[.bool y8,.string y9,.string D7] 36 (0,0)))∧aA (wc.heap[F8]? =some (.cells #[.bool C9,.string D6,.string D8] 36 (0,0)))∧aA (wc.heap[o7]? =some (.cells #[.bool false,.string ⟨#[]⟩,.string ⟨#[]⟩] 36 (0,0)))∧aA (Below w.heap.size w wc))
    case first=>
     have H:=I9.out;clear I9
     by_cases F9:y9.toList=([48]:List UInt8)
     ·rw[if_pos F9] at H
      obtain⟨G5,O5⟩:=bT F9;clear F9
      (first|rw[G5]|(simp only[jM,jX];rw[G5])|skip)
      have H':=aA.mk H;clear H;have je:=E8.out;have jf:=F5.out;have jg:=o8.out;have jh:=D5.out;obtain⟨⟨ji,jk,jl⟩,jm,jo,jq⟩:=pk3 l9;go_wp2
      go_meet
      case rel=>exact⟨_,(true),aG1,H',⟨by have:=G9.out;first|omega|exact Nat.le_refl _⟩,⟨pkW l9⟩,⟨pkW o5⟩,⟨pkW o6⟩,⟨pkL HB⟩⟩
     ·rw[if_neg F9] at H
      obtain⟨G5,O5⟩:=bF F9
      (first|rw[G5]|(simp only[jM,jX];rw[G5])|skip)
      have H':=aA.mk H;clear H;have jr:=E8.out;have jw:=F5.out;have jy:=o8.out;have ku:=D5.out;obtain⟨⟨kw,kz,lg⟩,lh,lq,lu⟩:=pk3 l9;have lw:=o9.out;have mf:=D9.out;obtain⟨⟨mg,mi,mr⟩,ng,ni,nz⟩:=pk3 o5;go_wp2
      go_meet
      case rel=>exact⟨_,((D6.toList==([48]:List UInt8))),aG1,H',⟨by have:=G9.out;first|omega|exact Nat.le_refl _⟩,⟨pkW l9⟩,⟨pkW o5⟩,⟨pkW o6⟩,⟨pkL HB⟩⟩
    case rest=>
     clear I9;obtain⟨kq,H6,rfl,HA,J8,l9,o5,o6,HB⟩:=hcut
     cases kq with
     |zero=>exact absurd HA.out (by simp[dA.j1])
     |succ kj21=>
      have H:=HA.out;clear HA;simp only[dA.j1] at H
      by_cases H7:H6=true
      ·subst H7
       rw[if_pos rfl] at H;have J3:=aA.mk H;clear H;have oh:=E8.out;have oq:=F5.out;have ou:=o8.out;have oz:=D5.out;obtain⟨⟨O6,O7,O8⟩,O9,P7,P8⟩:=pk3 l9
       go_upto_if 27 with (fail)
       go_cut [] (fun wc=>∃(kq:Nat) (H8:Bool) (H9:ByteArray) (I4:ByteArray) (J4:Bool) (J5:ByteArray) (J6:ByteArray),aA (dA.j2 kq H8 H9 I4 J4 J5 J6=some (r1,r2,r3))∧aA (kq≤kj21)∧aA (wc.heap[F7]? =some (.cells #[.bool H8,.string H9,.string I4] 36 (0,0)))∧aA (wc.heap[F8]? =some (.cells #[.bool J4,.string J5,.string J6] 36 (0,0)))∧aA (wc.heap[o7]? =some (.cells #[.bool false,.string ⟨#[]⟩,.string ⟨#[]⟩] 36 (0,0)))∧aA (Below w.heap.size w wc))
       case first=>
        have H:=J3.out;clear J3
        by_cases G6:y9.toList=([48]:List UInt8)
        ·rw[if_pos G6] at H
         obtain⟨G7,P9⟩:=bT G6;clear G6
         (first|rw[G7]|(simp only[jM,jX];rw[G7])|skip)
         have H':=aA.mk H;clear H;go_wp2
         go_meet
         case rel=>exact⟨_,(y8),(y9),(D7),(C9),(D6),(D8),H',⟨by have:=G9.out;have:=J8.out;first|omega|exact Nat.le_refl _⟩,⟨pkW l9⟩,⟨pkW o5⟩,⟨pkW o6⟩,⟨pkL HB⟩⟩
        ·rw[if_neg G6] at H
         obtain⟨G7,P9⟩:=bF G6
         (first|rw[G7]|(simp only[jM,jX];rw[G7])|skip)
         have H':=aA.mk H;clear H;have pg:=F5.out;have pq:=E8.out;have pz:=o9.out;have qc:=D9.out;obtain⟨⟨qf,qg,qh⟩,qi,qj,ql⟩:=pk3 o5;have qm:=o8.out;have qo:=D5.out;obtain⟨⟨qp,qw,qx⟩,qy,rf,rq⟩:=pk3 l9;go_wp2
         go_meet
         case rel=>exact⟨_,(C9),(D6),(D8),(y8),(y9),(D7),H',⟨by have:=G9.out;have:=J8.out;first|omega|exact Nat.le_refl _⟩,⟨by(with_reducible repeat(first|refine bH ?_ _|refine aK ?_|refine bG ?_ _));refine gX ?_ E8.out _;(with_reducible repeat(first|refine bH ?_ _|refine aK ?_|refine bG ?_ _));refine gX ?_ E8.out _;(with_reducible repeat(first|refine bH ?_ _|refine aK ?_|refine bG ?_ _));refine gX ?_ E8.out _;(with_reducible repeat(first|refine bH ?_ _|refine aK ?_|refine bG ?_ _));refine iR (cs:=#[.bool C9,.string D6,.string D7]) ?_ 2 _ rfl;(with_reducible repeat(first|refine bH ?_ _|refine aK ?_|refine bG ?_ _));refine iR (cs:=#[.bool C9,.string y9,.string D7]) ?_ 1 _ rfl;(with_reducible repeat(first|refine bH ?_ _|refine aK ?_|refine bG ?_ _));refine iR (cs:=#[.bool y8,.string y9,.string D7]) ?_ 0 _ rfl;(with_reducible repeat(first|refine bH ?_ _|refine aK ?_|refine bG ?_ _));exact l9.out⟩,⟨by(with_reducible repeat(first|refine bH ?_ _|refine aK ?_|refine bG ?_ _));refine iR (cs:=#[.bool y8,.string y9,.string D8]) ?_ 2 _ rfl;(with_reducible repeat(first|refine bH ?_ _|refine aK ?_|refine bG ?_ _));refine iR (cs:=#[.bool y8,.string D6,.string D8]) ?_ 1 _ rfl;(with_reducible repeat(first|refine bH ?_ _|refine aK ?_|refine bG ?_ _));refine iR (cs:=#[.bool C9,.string D6,.string D8]) ?_ 0 _ rfl;(with_reducible repeat(first|refine bH ?_ _|refine aK ?_|refine bG ?_ _));refine gX ?_ F5.out _;(with_reducible repeat(first|refine bH ?_ _|refine aK ?_|refine bG ?_ _));refine gX ?_ F5.out _;(with_reducible repeat(first|refine bH ?_ _|refine aK ?_|refine bG ?_ _));refine gX ?_ F5.out _;(with_reducible repeat(first|refine bH ?_ _|refine aK ?_|refine bG ?_ _));exact o5.out⟩,⟨by(with_reducible repeat(first|refine bH ?_ _|refine aK ?_|refine bG ?_ _));refine gX ?_ D9.out _;(with_reducible repeat(first|refine bH ?_ _|refine aK ?_|refine bG ?_ _));refine gX ?_ D9.out _;(with_reducible repeat(first|refine bH ?_ _|refine aK ?_|refine bG ?_ _));refine gX ?_ D9.out _;(with_reducible repeat(first|refine bH ?_ _|refine aK ?_|refine bG ?_ _));refine gX ?_ D5.out _;(with_reducible repeat(first|refine bH ?_ _|refine aK ?_|refine bG ?_ _));refine gX ?_ D5.out _;(with_reducible repeat(first|refine bH ?_ _|refine aK ?_|refine bG ?_ _));refine gX ?_ D5.out _;(with_reducible repeat(first|refine bH ?_ _|refine aK ?_|refine bG ?_ _));exact o6.out⟩,⟨pkL HB⟩⟩
       case rest=>
        clear J3 O6 O7 O8 O9 P7 P8;obtain⟨kq,H8,H9,I4,J4,J5,J6,HA,ru,l9,o5,o6,HB⟩:=hcut
        cases kq with
        |zero=>exact absurd HA.out (by simp[dA.j2])
        |succ kj32=>
         have H:=HA.out;clear HA;simp only[dA.j2] at H;obtain⟨Q3,J9,H⟩:=bi H;try dsimp only at H
         by_cases I5:Q3=true
         ·subst I5
          rw[if_pos rfl] at H;simp only[Option.some.injEq,Prod.mk.injEq] at H;obtain⟨rfl,rfl,rfl⟩:=H;have ry:=F5.out;have su:=E8.out;have tq:=o9.out;have tu:=D9.out;obtain⟨⟨uf,ug,uh⟩,ui,uj,uk⟩:=pk3 o5;have ul:=o8.out;have um:=D5.out;obtain⟨⟨uo,uq,ut⟩,uu,uw,uy⟩:=pk3 l9
          go_wp2_with(first|((with_reducible refine aC (f:=129) rfl ?_);refine gM 33 Tryz.func129 (dO.calls (w:=_) (h:=J9.out)) (h:= ?_);intro uz hb;replace l9:=pkK l9 hb;replace o5:=pkK o5 hb;replace o6:=pkK o6 hb;replace HB:=pkB HB hb;try clear hb;obtain⟨⟨ve,vg,vk⟩,vw,vz,wo⟩:=pk3 l9;obtain⟨⟨wu,ww,xe⟩,xg,xh,xk⟩:=pk3 o6))
          refine bodyPost_ret (results_cell_row rfl _ _ o7 36 #[.bool H8,.string H9,.string I4] (0,0) _ rfl (pkS3 o6) Tryz.underlying36 rfl (by kernel_rfl)) rfl ?_;exact pkE HB
         ·replace I5:=Bool.eq_false_iff.mpr I5
          subst I5;rw[if_neg (show ¬(false=true) by decide)] at H;obtain⟨⟨Q4,Q5,Q7⟩,Q8,H⟩:=bi H;try dsimp only at H
          simp only[Option.some.injEq,Prod.mk.injEq] at H;obtain⟨rfl,rfl,rfl⟩:=H;have xm:=F5.out;have xn:=E8.out;have xq:=o9.out;have xu:=D9.out;obtain⟨⟨xw,xx,xy⟩,yf,yg,yh⟩:=pk3 o5;have yj:=o8.out;have yl:=D5.out;obtain⟨⟨yt,yu,yw⟩,yx,yz,zf⟩:=pk3 l9
          go_wp2_with(first|((with_reducible refine aC (f:=129) rfl ?_);refine gM 33 Tryz.func129 (dO.calls (w:=_) (h:=J9.out)) (h:= ?_);intro zg hb;replace l9:=pkK l9 hb;replace o5:=pkK o5 hb;replace o6:=pkK o6 hb;replace HB:=pkB HB hb;try clear hb)|((with_reducible refine aC (f:=179) rfl ?_);refine gM 35 Tryz.func179 (fE.calls (w:=_) (h:=Q8.out)) (h:= ?_);intro zh hb;replace l9:=pkK l9 hb;replace o5:=pkK o5 hb;replace o6:=pkK o6 hb;replace HB:=pkB HB hb;try clear hb;obtain⟨⟨zi,zk,zl⟩,zn,zo,zq⟩:=pk3 o6))
          refine bodyPost_ret (results_cell_row rfl _ _ o7 36 #[.bool Q4,.string Q5,.string Q7] (0,0) _ rfl (pkS3 o6) Tryz.underlying36 rfl (by kernel_rfl)) rfl ?_;exact pkE HB
      ·replace H7:=Bool.eq_false_iff.mpr H7
       subst H7;rw[if_neg (show ¬(false=true) by decide)] at H;obtain⟨zt,L6,H⟩:=bi H;try dsimp only at H
       obtain⟨zu,L8,H⟩:=bi H;try dsimp only at H
       obtain⟨Q9,L9,H⟩:=bi H;try dsimp only at H
       by_cases I7:Q9=true
       ·subst I7
        rw[if_pos rfl] at H;obtain⟨⟨zx,zy⟩,S9,H⟩:=bi H;try dsimp only at H
        obtain⟨Aa,U3,H⟩:=bi H;try dsimp only at H
        obtain⟨Ac,U4,H⟩:=bi H;try dsimp only at H
        obtain⟨Ad,U5,H⟩:=bi H;try dsimp only at H
        obtain⟨Ae,U6,H⟩:=bi H;try dsimp only at H
        obtain⟨Af,U7,H⟩:=bi H;try dsimp only at H
        obtain⟨Ag,U8,H⟩:=bi H;try dsimp only at H
        obtain⟨⟨U9,V3,V4⟩,V5,H⟩:=bi H;try dsimp only at H
        simp only[Option.some.injEq,Prod.mk.injEq] at H;obtain⟨rfl,rfl,rfl⟩:=H;have Ah:=E8.out;have Ai:=F5.out;have Aj:=o8.out;have Ak:=D5.out;obtain⟨⟨Am,Aq,Aw⟩,Az,Ba,Bc⟩:=pk3 l9;have Be:=o9.out;have Bf:=D9.out;obtain⟨⟨Bg,Bh,Bi⟩,Bj,Bl,Bo⟩:=pk3 o5
        try go_wp2_with(first|((with_reducible refine aC (f:=89) rfl ?_);refine gM 40 Tryz.func89 (fZ.calls (w:=_) (h:=L6.out)) (h:= ?_);intro Bq hb;replace l9:=pkK l9 hb;replace o5:=pkK o5 hb;replace o6:=pkK o6 hb;replace HB:=pkB HB hb;try clear hb;obtain⟨⟨Bv,Bz,Cb⟩,Cc,Ce,Cf⟩:=pk3 o5;obtain⟨⟨Ci,Cj,Cm⟩,Dc,Df,Dh⟩:=pk3 l9)|((with_reducible refine aC (f:=84) rfl ?_);refine gM 45 Tryz.func84 (iE.calls (w:=_) (h:=L8.out)) (h:= ?_);intro Di hb;replace l9:=pkK l9 hb;replace o5:=pkK o5 hb;replace o6:=pkK o6 hb;replace HB:=pkB HB hb;try clear hb)|((with_reducible refine aC (f:=180) rfl ?_);refine gM 48 Tryz.func180 (dN.calls (w:=_) (h:=L9.out)) (h:= ?_);intro Dj hb;replace l9:=pkK l9 hb;replace o5:=pkK o5 hb;replace o6:=pkK o6 hb;replace HB:=pkB HB hb;try clear hb;obtain⟨⟨Dk,Dl,Dn⟩,Dp,Dq,Dt⟩:=pk3 l9;obtain⟨⟨Du,Dv,Dw⟩,Dx,Dy,Dz⟩:=pk3 o5)|((with_reducible refine aC (f:=96) rfl ?_);refine gM 56 Tryz.func96 (oI.calls (w:=_) (h:=S9.out)) (h:= ?_);intro Ea hb;replace l9:=pkK l9 hb;replace o5:=pkK o5 hb;replace o6:=pkK o6 hb;replace HB:=pkB HB hb;try clear hb)|((with_reducible refine aC (f:=77) rfl ?_);refine gM 62 Tryz.func77 (jR.calls (w:=_) (h:=U3.out)) (h:= ?_);intro Eb hb;replace l9:=pkK l9 hb;replace o5:=pkK o5 hb;replace o6:=pkK o6 hb;replace HB:=pkB HB hb;try clear hb)|((with_reducible refine aC (f:=86) rfl ?_);refine gM 63 Tryz.func86 (gG.calls (w:=_) (h:=U4.out)) (h:= ?_);intro V6 hb;replace l9:=pkK l9 hb;replace o5:=pkK o5 hb;replace o6:=pkK o6 hb;replace HB:=pkB HB hb;try clear hb))
        replace l9:=aA.mk (aK l9.out);replace o5:=aA.mk (aK o5.out);replace o6:=aA.mk (aK o6.out);replace HB:=aA.mk (aJ HB.out)
        refine kF (n:=16) (S:=fun w'=>w'.cell? ⟨F7,0,none⟩=some (.bool y8)∧w'.cell? ⟨F7,1,none⟩=some (.string y9)∧w'.cell? ⟨F7,2,none⟩=some (.string D7)∧w'.cell? ⟨F8,0,none⟩=some (.bool C9)∧w'.cell? ⟨F8,1,none⟩=some (.string D6)∧w'.cell? ⟨F8,2,none⟩=some (.string D8)) (ds:= []) #[false,false,false,false,false,false,false,false,false,false,false,false,false,false,false,false] (by kernel_rfl) rfl rfl (pc3 l9 (pcL o5)) (fun hHeld=> ?_);refine jZ dA.tab15 dA.bits15 (fun HT_ HW_=> ?_)
        generalize V6.drew=Ec at l9 o5 o6 HB hHeld ⊢;refine pr_ 0 64 (h:= ?_);refine pr_ 2 66 (h:= ?_);refine pr_ 4 68 (h:= ?_);refine pr_ 7 71 (h:= ?_);refine pr_ 9 73 (h:= ?_);refine pr_ 11 75 (h:= ?_);refine tk_ 1 65 hHeld (hy:=hy6) (h:= ?_);refine tk_ 3 67 hHeld (hy:=hy6) (h:= ?_);refine tk_ 8 72 hHeld (hy:=hy6) (h:= ?_);refine tk_ 10 74 hHeld (hy:=hy6) (h:= ?_);refine on_ 5 69 (h:=fun K hK=> ?_);refine gR Tryz.func77 (jR.calls (w:=_) (h:=U5.out)) (h:= ?_);intro Ed hb;replace l9:=pkK l9 hb;replace o5:=pkK o5 hb;replace o6:=pkK o6 hb;replace HB:=pkB HB hb
        clear hb;refine hK.out _ _ (pc3 l9 (pcL o5)) (fun hHeld=> ?_);clear hK K;refine nm_ (h:= ?_);refine on_ 6 70 (h:=fun K hK=> ?_);refine gR Tryz.func86 (gG.calls (w:=_) (h:=U6.out)) (h:= ?_);intro Ee hb;replace l9:=pkK l9 hb;replace o5:=pkK o5 hb;replace o6:=pkK o6 hb;replace HB:=pkB HB hb
        clear hb;refine hK.out _ _ (pc3 l9 (pcL o5)) (fun hHeld=> ?_);clear hK K;refine nm_ (h:= ?_);refine on_ 12 76 (h:=fun K hK=> ?_);refine gR Tryz.func86 (gG.calls (w:=_) (h:=U7.out)) (h:= ?_);intro Ef hb;replace l9:=pkK l9 hb;replace o5:=pkK o5 hb;replace o6:=pkK o6 hb;replace HB:=pkB HB hb
        clear hb;refine hK.out _ _ (pc3 l9 (pcL o5)) (fun hHeld=> ?_);clear hK K;refine nm_ (h:= ?_);refine on_ 13 77 (h:=fun K hK=> ?_);refine gR Tryz.func82 (oO.calls (w:=_) (h:=U8.out)) (h:= ?_);intro Eg hb;replace l9:=pkK l9 hb;replace o5:=pkK o5 hb;replace o6:=pkK o6 hb;replace HB:=pkB HB hb
        clear hb;refine hK.out _ _ (pc3 l9 (pcL o5)) (fun hHeld=> ?_);clear hK K;refine nm_ (h:= ?_);refine on_ 14 78 (h:=fun K hK=> ?_);refine gR Tryz.func127 (bJ.calls (w:=_) (h:=V5.out)) (h:= ?_);intro J7 hb;replace l9:=pkK l9 hb;replace o5:=pkK o5 hb;replace o6:=pkK o6 hb;replace HB:=pkB HB hb
        clear hb;refine hK.out _ _ (pc3 l9 (pcL o5)) (fun hHeld=> ?_);clear hK K;refine nm_ (h:= ?_);refine one_ (i:=15) (N:=none) #[true,true,true,true,true,true,true,true,true,true,true,true,true,true,true,true] rfl rfl (tH HT_.out (by kernel_rfl)) aG0 (fun K hK=> ?_);have Eh:J7.cell? ⟨o7,0,none⟩=some (.bool false):=(fF o6.out 0).trans rfl;have Ei:=eG o6.out 0;have Ej:=o8.out;have Em:=o9.out;have En:=D5.out;have Eo:=D9.out;have Ep:J7.cell? ⟨o7,1,none⟩=some (.string ⟨#[]⟩):=(fF o6.out 1).trans rfl;have Es:=eG o6.out 1;have Et:=o8.out;have Eu:=o9.out;have Ew:=D5.out;have Ey:=D9.out;have Ez:J7.cell? ⟨o7,2,none⟩=some (.string ⟨#[]⟩):=(fF o6.out 2).trans rfl;have Fa:=eG o6.out 2;have Fb:=o8.out;have Fe:=o9.out;have Ff:=D5.out;have Fg:=D9.out;refine uQ (w1:= ?_) (by rfl) rfl ?_ ?_
        rotate_left
        ·go_simp
         rfl
        refine hK.out _ _ ⟨((aG2 (p:=⟨o7,_,none⟩) o8.out _).trans (((aG2 (p:=⟨o7,_,none⟩) o8.out _).trans (((aG2 (p:=⟨o7,_,none⟩) o8.out _).trans (hHeld.1)))))),((aG2 (p:=⟨o7,_,none⟩) o8.out _).trans (((aG2 (p:=⟨o7,_,none⟩) o8.out _).trans (((aG2 (p:=⟨o7,_,none⟩) o8.out _).trans (hHeld.2.1)))))),((aG2 (p:=⟨o7,_,none⟩) o8.out _).trans (((aG2 (p:=⟨o7,_,none⟩) o8.out _).trans (((aG2 (p:=⟨o7,_,none⟩) o8.out _).trans (hHeld.2.2.1)))))),((aG2 (p:=⟨o7,_,none⟩) o9.out _).trans (((aG2 (p:=⟨o7,_,none⟩) o9.out _).trans (((aG2 (p:=⟨o7,_,none⟩) o9.out _).trans (hHeld.2.2.2.1)))))),((aG2 (p:=⟨o7,_,none⟩) o9.out _).trans (((aG2 (p:=⟨o7,_,none⟩) o9.out _).trans (((aG2 (p:=⟨o7,_,none⟩) o9.out _).trans (hHeld.2.2.2.2.1)))))),((aG2 (p:=⟨o7,_,none⟩) o9.out _).trans (((aG2 (p:=⟨o7,_,none⟩) o9.out _).trans (((aG2 (p:=⟨o7,_,none⟩) o9.out _).trans (hHeld.2.2.2.2.2))))))⟩ (fun hHeld=> ?_);clear hK K;refine kY (lK HT_.out (by kernel_rfl)) ?_
        try go_wp2
        refine bodyPost_ret (results_cell_row rfl _ _ o7 36 #[.bool U9,.string V3,.string V4] (0,0) _ rfl (pkS3 o6) Tryz.underlying36 rfl (by kernel_rfl)) rfl ?_;exact pkE HB
       ·replace I7:=Bool.eq_false_iff.mpr I7
        subst I7;rw[if_neg (show ¬(false=true) by decide)] at H;obtain⟨⟨V7,V8,V9⟩,X4,H⟩:=bi H;try dsimp only at H
        simp only[Option.some.injEq,Prod.mk.injEq] at H;obtain⟨rfl,rfl,rfl⟩:=H;have Fh:=E8.out;have Fj:=F5.out;have Fp:=o8.out;have Fq:=D5.out;obtain⟨⟨Fv,Fz,Gf⟩,Gg,Gh,Gi⟩:=pk3 l9;have Gj:=o9.out;have Gl:=D9.out;obtain⟨⟨Gm,Gn,Gp⟩,Gq,Gs,Gt⟩:=pk3 o5
        go_wp2_with(first|((with_reducible refine aC (f:=89) rfl ?_);refine gM 40 Tryz.func89 (fZ.calls (w:=_) (h:=L6.out)) (h:= ?_);intro Gu hb;replace l9:=pkK l9 hb;replace o5:=pkK o5 hb;replace o6:=pkK o6 hb;replace HB:=pkB HB hb;try clear hb;obtain⟨⟨Gv,Gw,Gx⟩,Gy,Gz,Ha⟩:=pk3 o5;obtain⟨⟨Hf,Hg,Hl⟩,Hm,Ho,Hq⟩:=pk3 l9)|((with_reducible refine aC (f:=84) rfl ?_);refine gM 45 Tryz.func84 (iE.calls (w:=_) (h:=L8.out)) (h:= ?_);intro Hr hb;replace l9:=pkK l9 hb;replace o5:=pkK o5 hb;replace o6:=pkK o6 hb;replace HB:=pkB HB hb;try clear hb)|((with_reducible refine aC (f:=180) rfl ?_);refine gM 48 Tryz.func180 (dN.calls (w:=_) (h:=L9.out)) (h:= ?_);intro Hu hb;replace l9:=pkK l9 hb;replace o5:=pkK o5 hb;replace o6:=pkK o6 hb;replace HB:=pkB HB hb;try clear hb)|((with_reducible refine aC (f:=179) rfl ?_);refine gM 50 Tryz.func179 (fE.calls (w:=_) (h:=X4.out)) (h:= ?_);intro Hw hb;replace l9:=pkK l9 hb;replace o5:=pkK o5 hb;replace o6:=pkK o6 hb;replace HB:=pkB HB hb;try clear hb;obtain⟨⟨Hy,Ia,Ib⟩,Ic,Ie,Ig⟩:=pk3 o6))
        refine bodyPost_ret (results_cell_row rfl _ _ o7 36 #[.bool V7,.string V8,.string V9] (0,0) _ rfl (pkS3 o6) Tryz.underlying36 rfl (by kernel_rfl)) rfl ?_;exact pkE HB
def uC.f(k:Nat)(a0_0:Bool)(a0_1 a0_2:ByteArray)(a1_0:Bool)(a1_1 a1_2:ByteArray):Option (Bool×ByteArray×ByteArray×Int):=(bQ.f a0_0 a0_1 a0_2 a1_0 a1_1 a1_2).bind fun t195=>(if t195=0 then((dA.f k a0_0 a0_1 a0_2 a1_0 a1_1 a1_2).bind fun bt196=>(some (bt196.1,bt196.2.1,bt196.2.2,0))) else(some (false,(⟨#[]⟩:ByteArray),(⟨#[]⟩:ByteArray),t195)))
theorem uC.calls(k:Nat)(o8:Bool)(o9 y8:ByteArray)(y9:Bool)(C9 D5:ByteArray)(r1:Bool)(r2 r3:ByteArray)(r4:Int)(w:World)(h:uC.f k o8 o9 y8 y9 C9 D5=some (r1,r2,r3,r4)) :
 Calls Tryz.prog 45 #[.agg #[.bool o8,.string o9,.string y8],.agg #[.bool y9,.string C9,.string D5]] w fun e w'=>e= .returned (.tuple #[.agg #[.bool r1,.string r2,.string r3],.int .i64 r4])∧Below w.heap.size w w':=by
 have hu36:=Tryz.underlying36;have HB:=aA.mk (Below.refl w.heap.size w);have H:((bQ.f o8 o9 y8 y9 C9 D5).bind fun D6=>(if D6=0 then((dA.f k o8 o9 y8 y9 C9 D5).bind fun D7=>(some (D7.1,D7.2.1,D7.2.2,0))) else(some (false,(⟨#[]⟩:ByteArray),(⟨#[]⟩:ByteArray),D6))))=some (r1,r2,r3,r4):=h;clear h;obtain⟨D6,A3,H⟩:=bi H;try dsimp only at H
 go_enter Tryz.func45,Tryz.ntmps45
 by_cases c4:D6=0
 ·rw[if_pos c4] at H
  obtain⟨G7,G8⟩:=bT c4;clear c4;obtain⟨⟨G9,H5,H6⟩,A5,H⟩:=bi H;try dsimp only at H
  simp only[Option.some.injEq,Prod.mk.injEq] at H;obtain⟨rfl,rfl,rfl,rfl⟩:=H
  go_wp2_with(first|((with_reducible refine aG (N:=2) rfl ?_);refine bx_ 2 36 #[.bool o8,.string o9,.string y8] (h:= ?_);intro H7 hg w6 o5 hb;have l9:=aA.mk (o5);have D8:=pkG HB hg;have H8:=D8;replace HB:=pkB HB hb;clear hb o5 hg)|((with_reducible refine aG (N:=3) rfl ?_);refine bx_ 3 36 #[.bool y9,.string C9,.string D5] (h:= ?_);intro H9 hg w7 o5 hb;have o6:=aA.mk (o5);have D9:=pkG HB hg;have I4:=D9;obtain⟨E8,F5,_,_⟩:=pkQ l9 hg;replace l9:=pkK l9 hb;replace HB:=pkB HB hb;clear hb o5 hg)|((with_reducible refine aG (N:=4) rfl ?_);refine bx_ 4 36 #[.bool false,.string ⟨#[]⟩,.string ⟨#[]⟩] (h:= ?_);intro F6 hg w8 o5 hb;have o7:=aA.mk (o5);have F7:=pkG HB hg;have I5:=F7;obtain⟨F8,F9,_,_⟩:=pkQ l9 hg;obtain⟨G5,G6,_,_⟩:=pkQ o6 hg;replace l9:=pkK l9 hb;replace o6:=pkK o6 hb;replace HB:=pkB HB hb;clear hb o5 hg;have I7:=E8.out;have I8:=F5.out;have I9:=F8.out;have J3:=F9.out;obtain⟨⟨J4,J5,J6⟩,J7,J8,J9⟩:=pk3 l9;have L6:=G5.out;have L8:=G6.out;obtain⟨⟨L9,N7,N8⟩,N9,O0,O1⟩:=pk3 o6)|((with_reducible refine aC (f:=102) rfl ?_);refine gM 9 Tryz.func102 (bQ.calls (w:=_) (h:=A3.out)) (h:= ?_);intro O3 hb;replace l9:=pkK l9 hb;replace o6:=pkK o6 hb;replace o7:=pkK o7 hb;replace HB:=pkB HB hb;try clear hb;obtain⟨⟨O4,O5,O6⟩,O7,O8,O9⟩:=pk3 l9;obtain⟨⟨P7,P8,P9⟩,Q3,Q4,Q5⟩:=pk3 o6)|((with_reducible refine aC (f:=114) rfl ?_);refine gM 16 Tryz.func114 (dA.calls (w:=_) (h:=A5.out)) (h:= ?_);intro Q7 hb;replace l9:=pkK l9 hb;replace o6:=pkK o6 hb;replace o7:=pkK o7 hb;replace HB:=pkB HB hb;try clear hb;obtain⟨⟨Q8,Q9,S9⟩,U3,U4,U5⟩:=pk3 o7))
  refine bodyPost_ret (gW rfl _ _ F6 36 #[.bool G9,.string H5,.string H6] (0,0) _ rfl (pkS3 o7) Tryz.underlying36 rfl (by kernel_rfl)) rfl ?_;exact pkE HB
 ·rw[if_neg c4] at H
  obtain⟨G7,G8⟩:=bF c4;simp only[Option.some.injEq,Prod.mk.injEq] at H;obtain⟨rfl,rfl,rfl,rfl⟩:=H
  go_wp2_with(first|((with_reducible refine aG (N:=2) rfl ?_);refine bx_ 2 36 #[.bool o8,.string o9,.string y8] (h:= ?_);intro H7 hg U6 o5 hb;have l9:=aA.mk (o5);have D8:=pkG HB hg;have H8:=D8;replace HB:=pkB HB hb;clear hb o5 hg)|((with_reducible refine aG (N:=3) rfl ?_);refine bx_ 3 36 #[.bool y9,.string C9,.string D5] (h:= ?_);intro H9 hg U7 o5 hb;have o6:=aA.mk (o5);have D9:=pkG HB hg;have I4:=D9;obtain⟨E8,F5,_,_⟩:=pkQ l9 hg;replace l9:=pkK l9 hb;replace HB:=pkB HB hb;clear hb o5 hg)|((with_reducible refine aG (N:=4) rfl ?_);refine bx_ 4 36 #[.bool false,.string ⟨#[]⟩,.string ⟨#[]⟩] (h:= ?_);intro F6 hg U8 o5 hb;have o7:=aA.mk (o5);have F7:=pkG HB hg;have I5:=F7;obtain⟨F8,F9,_,_⟩:=pkQ l9 hg;obtain⟨G5,G6,_,_⟩:=pkQ o6 hg;replace l9:=pkK l9 hb;replace o6:=pkK o6 hb;replace HB:=pkB HB hb;clear hb o5 hg;have U9:=E8.out;have V3:=F5.out;have V4:=F8.out;have V5:=F9.out;obtain⟨⟨V6,V7,V8⟩,V9,X4,X5⟩:=pk3 l9;have X7:=G5.out;have X8:=G6.out;obtain⟨⟨X9,Y0,Y4⟩,Y5,Y7,Y8⟩:=pk3 o6)|((with_reducible refine aC (f:=102) rfl ?_);refine gM 9 Tryz.func102 (bQ.calls (w:=_) (h:=A3.out)) (h:= ?_);intro Y9 hb;replace l9:=pkK l9 hb;replace o6:=pkK o6 hb;replace o7:=pkK o7 hb;replace HB:=pkB HB hb;try clear hb;obtain⟨⟨Z7,Z8,Z9⟩,ae,af,ag⟩:=pk3 o7))
  refine bodyPost_ret (gW rfl _ _ F6 36 #[.bool false,.string ⟨#[]⟩,.string ⟨#[]⟩] (0,0) _ rfl (pkS3 o7) Tryz.underlying36 rfl (by kernel_rfl)) rfl ?_;exact pkE HB
end Go.Proofs.YtignanmmgaldeaaGreatDoor.PRefQ
end
section
namespace Go.Proofs.YtignanmmgaldeaaGreatDoor.RefV
open Go.RowKit Go.Proofs.YtignanmmgaldeaaGreatDoor PRefQ RefP CongM YtignanmmgaldeaaGreatDoorW.PrintWords
theorem uA{x y:Int}{n:Nat}(hx:Bd n x)(hy:Bd n y)(hn:1≤n)(h4:n≤4400):dN.f (text x) (text y)=some (decide (x∣y)):=by
 unfold dN.f
 have fin:∀{z:Int},(x∣y↔z=0)→some ((text z).toList==([48]:List UInt8))=some (decide (x∣y)):=fun {z} e=>by
  congr 1
  have e2:x∣y↔(text z).toList=([48]:List UInt8):=by rw[e,bK]
  by_cases h:x∣y
  ·rw[decide_eq_true h,e2.1 h];rfl
  ·rw[decide_eq_false h]
   simp only[beq_eq_false_iff_ne,ne_eq];exact fun q=>h (e2.2 q)
 by_cases h0:x=0
 ·rw[if_pos ((bK x).2 h0)]
  exact fin (by rw[h0,Int.zero_dvd])
 ·rw[if_neg (fun q=>h0 ((bK x).1 q)),aB8 hy hx hn h4 h0,Option.bind_some]
  exact fin Int.dvd_iff_fmod_eq_zero
theorem in_rv{c:Int×Int}(gc:jY (some c)){a:Int}{n:Nat}(ha:Bd n a)(hn:100≤n)(h4:n≤4300):dO.f false (text c.1) (text c.2) (text a)=some (decide (clsM c a)):=by
 have bs:Bd (n+1) (a-c.2):=by rw[Int.sub_eq_add_neg];exact ha.add (gc.2.2.neg.mono hn)
 unfold dO.f;rw[if_neg aFz,uN ha (gc.2.2.mono hn) aFx aFx,Option.bind_some,uA (gc.2.1.mono aFx) bs aFx aFx,Option.bind_some];rfl
theorem aC1{e1:Bool}{m1 r1:ByteArray}{e2:Bool}{m2 r2:ByteArray}(hz:few4 m1 r1 m2 r2):bQ.f e1 m1 r1 e2 m2 r2=some (mW e1 m1 r1 e2 m2 r2):=by
 have q1:dE.f e1 m1 r1=some (chkC e1 m1 r1):=if_pos ⟨hz.1,hz.2.1⟩;have q2:dE.f e2 m2 r2=some (chkC e2 m2 r2):=if_pos ⟨hz.2.2.1,hz.2.2.2⟩;unfold bQ.f mW;rw[q1,Option.bind_some]
 by_cases h:chkC e1 m1 r1=0
 ·rw[if_pos h,if_pos h,q2,Option.bind_some]
 ·rw[if_neg h,if_neg h]
theorem inside_rv{c d:Option (Int×Int)}(hc:jY c)(hd:jY d):mX.f (encC c).1 (encC c).2.1 (encC c).2.2 (encC d).1 (encC d).2.1 (encC d).2.2=some (decide (leO c d)):=by
 unfold mX.f
 cases c with
 |none=>rfl
 |some c=>
  show(if false=true then _ else _)=_;rw[if_neg aFz]
  cases d with
  |none=>rfl
  |some d=>
   show((dO.f false (text d.1) (text d.2) (text c.2)).bind fun l9=>if l9=true then((dN.f (text d.1) (text c.1)).bind fun o5=>some o5) else some false)=some (decide (leC c d));rw[in_rv hd hc.2.2 aFx aFx,Option.bind_some]
   by_cases h1:clsM d c.2
   ·rw[if_pos (decide_eq_true h1),uA hd.2.1 hc.2.1 aFx aFx,Option.bind_some]
    congr 1
    exact decide_eq_decide.2 ⟨fun h=>⟨h,h1⟩,fun h=>h.1⟩
   ·rw[if_neg (by simpa using h1)]
    congr 1
    exact(decide_eq_false fun h=>h1 h.2).symm
theorem leq_rv(e1:Bool)(m1 r1:ByteArray)(e2:Bool)(m2 r2:ByteArray)(hz:few4 m1 r1 m2 r2):rD.f e1 m1 r1 e2 m2 r2=some (if mW e1 m1 r1 e2 m2 r2=0 then decide (leO (decC e1 m1 r1) (decC e2 m2 r2)) else false,mW e1 m1 r1 e2 m2 r2):=by
 unfold rD.f;rw[aC1 hz,Option.bind_some]
 by_cases h:mW e1 m1 r1 e2 m2 r2=0
 ·obtain⟨c,d,gc,gd,ec,ed⟩:=aAe h
  rw[if_pos h,if_pos h];have hc:=nH c;have hd:=nH d;have hi:=inside_rv gc gd;rw[←ec] at hc hi;rw[←ed] at hd hi;simp only at hc hd hi;rw[hc,hd,hi,h];rfl
 ·rw[if_neg h,if_neg h]
theorem op_rv{G:Bool→ByteArray→ByteArray→Bool→ByteArray→ByteArray→Option (Bool×ByteArray×ByteArray)}{F:Option (Int×Int)→Option (Int×Int)→Option (Int×Int)}
 (hG:∀c d,jY c→jY d→G (encC c).1 (encC c).2.1 (encC c).2.2 (encC d).1 (encC d).2.1 (encC d).2.2=some (encC (F c d)))
 (e1:Bool) (m1 r1:ByteArray) (e2:Bool) (m2 r2:ByteArray) (hz:few4 m1 r1 m2 r2) :
 ((bQ.f e1 m1 r1 e2 m2 r2).bind fun t=>if t=0 then((G e1 m1 r1 e2 m2 r2).bind fun bt=>some (bt.1,bt.2.1,bt.2.2,(0:Int))) else some (false,(⟨#[]⟩:ByteArray),(⟨#[]⟩:ByteArray),t))=some (resC F e1 m1 r1 e2 m2 r2):=by
 rw[aC1 hz,Option.bind_some];unfold resC
 by_cases h:mW e1 m1 r1 e2 m2 r2=0
 ·obtain⟨c,d,gc,gd,ec,ed⟩:=aAe h
  rw[if_pos h,if_pos h];have hc:=nH c;have hd:=nH d;have hi:=hG c d gc gd;rw[←ec] at hc hi;rw[←ed] at hd hi;simp only at hc hd hi;rw[hc,hd,hi,Option.bind_some]
 ·rw[if_neg h,if_neg h]
theorem join_rv(e1:Bool)(m1 r1:ByteArray)(e2:Bool)(m2 r2:ByteArray)(hz:few4 m1 r1 m2 r2)(k:Nat):uB.f (k+1) e1 m1 r1 e2 m2 r2=some (resC (joinO 100) e1 m1 r1 e2 m2 r2):=
 op_rv (G:=iO.f (k+1)) (fun c d gc gd=>by
  unfold iO.f
  cases c with
  |none=>rfl
  |some c=>
   show(if false=true then _ else _)=_;rw[if_neg aFz]
   cases d with
   |none=>rfl
   |some d=>
    have bg:=zO gc.2.1 gd.2.1;have bs:Bd 101 (c.2-d.2):=by rw[Int.sub_eq_add_neg];exact gc.2.2.add gd.2.2.neg
    have bj:=aEf gc gd;show(if false=true then _ else((fZ.f (text c.1) (text d.1)).bind fun o5=>((iE.f (text c.2) (text d.2)).bind fun o6=>((fZ.f o5 o6).bind fun o7=>((bJ.f (k+1) o7 (text c.2)).bind fun l9=>(some (l9.1,l9.2.1,l9.2.2)))))))=_
    rw[if_neg aFz,pM gc.2.1 gd.2.1 aFx aFx,Option.bind_some,uN gc.2.2 gd.2.2 aFx aFx,Option.bind_some,pM bg bs aFx aFx,Option.bind_some,
     show gcdI (gcdI c.1 d.1) (c.2-d.2)=joinM c d from rfl,qZ bj (gc.2.2.mono aFx) aFx aFx,Option.bind_some]
    rfl) e1 m1 r1 e2 m2 r2 hz
theorem met_none(k:Nat)(x0:Bool)(x1 x2:ByteArray)(y0:Bool)(y1 y2:ByteArray):dA.j0 (k+1) true x0 x1 x2 y0 y1 y2=some (encC none):=by
 rw[dA.j0,if_pos rfl];rfl
theorem met_j2{c d:Int×Int}(gc:jY (some c))(gd:jY (some d))(k:Nat):dA.j2 (k+1) false (text c.1) (text c.2) false (text d.1) (text d.2)=some (encC (if d.1∣c.2-d.2 then some c else none)):=by
 rw[dA.j2,in_rv gd gc.2.2 aFx aFx,Option.bind_some]
 by_cases h:d.1∣c.2-d.2
 ·rw[if_pos (decide_eq_true (show clsM d c.2 from h)),if_pos h];rfl
 ·rw[if_neg (by simpa using(show ¬clsM d c.2 from h)),if_neg h];rfl
theorem met_rv{c d:Int×Int}(gc:jY (some c))(gd:jY (some d))(k:Nat):dA.f (k+3) false (text c.1) (text c.2) false (text d.1) (text d.2)=some (encC (meetC 100 c d)):=by
 rw[meet_eq_met gc.1 gd.1 gc.2.1 gc.2.2 gd.2.1 gd.2.2];unfold dA.f metC;rw[if_neg aFz,dA.j0,if_neg aFz]
 by_cases h1:c.1=0
 ·rw[if_pos ((bK _).2 h1),if_pos h1,dA.j1,if_pos rfl,if_pos ((bK _).2 h1)]
  exact met_j2 gc gd k
 ·rw[if_neg (fun q=>h1 ((bK _).1 q)),if_neg h1]
  by_cases h2:d.1=0
  ·rw[if_pos h2,show((text d.1).toList==([48]:List UInt8))=true from beq_iff_eq.2 ((bK _).2 h2),dA.j1,if_pos rfl,if_neg (fun q=>h1 ((bK _).1 q))]
   exact met_j2 gd gc k
  ·have bg:=zO gc.2.1 gd.2.1
   have bs:Bd 101 (d.2-c.2):=by rw[Int.sub_eq_add_neg];exact gd.2.2.add gc.2.2.neg
   rw[if_neg h2,show((text d.1).toList==([48]:List UInt8))=false from beq_eq_false_iff_ne.2 (fun q=>h2 ((bK _).1 q)),dA.j1,if_neg aFz,pM gc.2.1 gd.2.1 aFx aFx,Option.bind_some,
    uN gd.2.2 gc.2.2 aFx aFx,Option.bind_some,uA bg bs aFx aFx,Option.bind_some,←Int.sub_eq_add_neg]
   by_cases h3:gcdI c.1 d.1∣d.2-c.2
   ·have g0:gcdI c.1 d.1≠0:=by have:=aAb (a:=c.1) h2;omega
    have bu:Bd 101 (bezU c.1 d.1):=(bezU_bd gd.2.1 h2).mono aFx;have bq:Bd 101 (Int.fdiv (d.2-c.2) (gcdI c.1 d.1)):=bs.fdiv g0;have bk:Bd 202 (bezU c.1 d.1*Int.fdiv (d.2-c.2) (gcdI c.1 d.1)):=(bu.mul bq).mono aFx;have bf:Bd 101 (Int.fdiv d.1 (gcdI c.1 d.1)):=(gd.2.1.fdiv g0).mono aFx;have bl:Bd 304 (c.1*Int.fdiv d.1 (gcdI c.1 d.1)):=(gc.2.1.mul bf).mono aFx;have bp:Bd 303 (c.1*(bezU c.1 d.1*Int.fdiv (d.2-c.2) (gcdI c.1 d.1))):=(gc.2.1.mul bk).mono aFx;have bt:Bd 304 (c.2+c.1*(bezU c.1 d.1*Int.fdiv (d.2-c.2) (gcdI c.1 d.1))):=Bd.add (m:=303) (gc.2.2.mono aFx) bp
    rw[if_pos (decide_eq_true h3),if_pos h3,coef_val gc.2.1 gd.2.1 aFx aFx,Option.bind_some,vP bs bg aFx aFx g0,Option.bind_some,oG bu bq aFx aFx,Option.bind_some,
     vP (gd.2.1.mono aFx) bg aFx aFx g0,Option.bind_some,oG (m:=101) (gc.2.1.mono aFx) bf aFx aFx,Option.bind_some,oG (m:=202) (gc.2.1.mono aFx) bk aFx aFx,Option.bind_some,
     aD6 (m:=303) (gc.2.2.mono aFx) bp aFx aFx,Option.bind_some,qZ bl bt aFx aFx,Option.bind_some]
   ·rw[if_neg (by simpa using h3),if_neg h3];rfl
theorem meet_rv(e1:Bool)(m1 r1:ByteArray)(e2:Bool)(m2 r2:ByteArray)(hz:few4 m1 r1 m2 r2)(k:Nat):uC.f (k+3) e1 m1 r1 e2 m2 r2=some (resC kN.o e1 m1 r1 e2 m2 r2):=
 op_rv (G:=dA.f (k+3)) (F:=kN.o) (fun c d gc gd=>by
  cases c with
  |none=>
   unfold dA.f;rw[if_pos (show(encC none).1=true from rfl)];exact met_none _ _ _ _ _ _ _
  |some c=>
   cases d with
   |none=>
    unfold dA.f;rw[if_neg (show ¬(encC (some c)).1=true from Bool.false_ne_true)];exact met_none _ _ _ _ _ _ _
   |some d=>exact met_rv gc gd k) e1 m1 r1 e2 m2 r2 hz
end Go.Proofs.YtignanmmgaldeaaGreatDoor.RefV
end
section
namespace Go.Proofs.YtignanmmgaldeaaGreatDoor
open Go.RowKit PRefQ RefV RefP CongM YtignanmmgaldeaaGreatDoorW.PrintWords
def vS.f(a0_0:Bool)(a0_1 a0_2:ByteArray)(a1_0:Bool)(a1_1 a1_2:ByteArray):Option (Bool×Int):=uO.f a0_0 a0_1 a0_2 a1_0 a1_1 a1_2
theorem vS.calls(l9:Bool)(o5 o6:ByteArray)(o7:Bool)(o8 o9:ByteArray)(b1:Bool)(i2:Int)(w:World)(h:vS.f l9 o5 o6 o7 o8 o9=some (b1,i2)) :
 Calls Tryz.prog 41 #[.agg #[.bool l9,.string o5,.string o6],.agg #[.bool o7,.string o8,.string o9]] w fun e w'=>e= .returned (.tuple #[.bool b1,.int .i64 i2])∧Below w.heap.size w w':=by
 unfold vS.f uO.f at h
 split at h
 ·rename_i hs
  exact rD.calls l9 o5 o6 o7 o8 o9 b1 i2 w (by rw[leq_rv l9 o5 o6 o7 o8 o9 hs];exact h)
 ·cases h
def uD.f(a0_0:Bool)(a0_1 a0_2:ByteArray)(a1_0:Bool)(a1_1 a1_2:ByteArray):Option (Bool×ByteArray×ByteArray×Int):=pW.f a0_0 a0_1 a0_2 a1_0 a1_1 a1_2
theorem uD.calls(l9:Bool)(o5 o6:ByteArray)(o7:Bool)(o8 o9:ByteArray)(b1:Bool)(s2 s3:ByteArray)(i4:Int)(w:World)(h:uD.f l9 o5 o6 o7 o8 o9=some (b1,s2,s3,i4)) :
 Calls Tryz.prog 43 #[.agg #[.bool l9,.string o5,.string o6],.agg #[.bool o7,.string o8,.string o9]] w fun e w'=>e= .returned (.tuple #[.agg #[.bool b1,.string s2,.string s3],.int .i64 i4])∧Below w.heap.size w w':=by
 unfold uD.f pW.f at h
 split at h
 ·rename_i hs
  exact uB.calls 5 l9 o5 o6 o7 o8 o9 b1 s2 s3 i4 w (by rw[join_rv l9 o5 o6 o7 o8 o9 hs 4];exact h)
 ·cases h
def uF.f(a0_0:Bool)(a0_1 a0_2:ByteArray)(a1_0:Bool)(a1_1 a1_2:ByteArray):Option (Bool×ByteArray×ByteArray×Int):=kN.f a0_0 a0_1 a0_2 a1_0 a1_1 a1_2
theorem uF.calls(l9:Bool)(o5 o6:ByteArray)(o7:Bool)(o8 o9:ByteArray)(b1:Bool)(s2 s3:ByteArray)(i4:Int)(w:World)(h:uF.f l9 o5 o6 o7 o8 o9=some (b1,s2,s3,i4)) :
 Calls Tryz.prog 45 #[.agg #[.bool l9,.string o5,.string o6],.agg #[.bool o7,.string o8,.string o9]] w fun e w'=>e= .returned (.tuple #[.agg #[.bool b1,.string s2,.string s3],.int .i64 i4])∧Below w.heap.size w w':=by
 unfold uF.f kN.f at h
 split at h
 ·rename_i hs
  exact uC.calls 5 l9 o5 o6 o7 o8 o9 b1 s2 s3 i4 w (by rw[meet_rv l9 o5 o6 o7 o8 o9 hs 2];exact h)
 ·cases h
end Go.Proofs.YtignanmmgaldeaaGreatDoor
end
section
namespace Go.Proofs.YtignanmmgaldeaaGreatDoor.PCongruenceOrders
open PLawB
open Go.RowKit YtignanmmgaldeaaGreatDoorW.PrintWords YtignanmmgaldeaaGreatDoorW.PrintLast YtignanmmgaldeaaGreatDoorW.PrintMore
attribute [local go_sem] dQ dR eH eP
def errW:Option Int→Value
 |none=> .nilIface
 |some c=> .iface 0 (.int .i64 c)
theorem dZ:errW none= .nilIface:=rfl
theorem eF(c:Int):errW (some c)= .iface 0 (.int .i64 c):=rfl
theorem yJ(d:Nat)(w:World)(x0 y0:Bool)(x1 y1 x2 y2:ByteArray) :
 (Op.equalIn (d+2) 36 (.agg #[.bool x0,.string x1,.string x2]) (.agg #[.bool y0,.string y1,.string y2])).run Tryz.prog w= .ok (x0==y0&&(x1.toList==y1.toList&&(x2.toList==y2.toList))) w:=by
 refine aD5 Tryz.underlying36 (by kernel_rfl) ?_;refine qY (by rfl) (by go_simp;rfl) (by go_simp;rfl) (by go_simp) ?_;refine qY (by rfl) (by go_simp;rfl) (by go_simp;rfl) (by go_simp) ?_;exact aB5 (by rfl) (by go_simp;rfl) (by go_simp;rfl) (by go_simp)
attribute [local go_sem high] yJ
def lX.f(a0_0:Bool)(a0_1 a0_2:ByteArray)(a1_0:Bool)(a1_1 a1_2:ByteArray):Option (Bool):=(jA.f (([(⟨a0_0,a0_1,a0_2⟩:S36),(⟨a1_0,a1_1,a1_2⟩:S36)]:List (S36))) ([]:List ByteArray)).bind fun t106=>(if t106=true then((uO.f a0_0 a0_1 a0_2 a1_0 a1_1 a1_2).bind fun bt108=>((vS.f a0_0 a0_1 a0_2 a1_0 a1_1 a1_2).bind fun bt110=>((pW.f a0_0 a0_1 a0_2 a1_0 a1_1 a1_2).bind fun bt112=>((uD.f a0_0 a0_1 a0_2 a1_0 a1_1 a1_2).bind fun bt117=>((kN.f a0_0 a0_1 a0_2 a1_0 a1_1 a1_2).bind fun bt122=>((uF.f a0_0 a0_1 a0_2 a1_0 a1_1 a1_2).bind fun bt127=>((fC.f).bind fun t132=>(if t132=true then(if(bt108.1==bt110.1)=true then(if bt108.2=bt110.2 then(if(bt112.1==bt117.1&&(bt112.2.1.toList==bt117.2.1.toList&&(bt112.2.2.1.toList==bt117.2.2.1.toList)))=true then(if bt112.2.2.2=bt117.2.2.2 then(if(bt122.1==bt127.1&&(bt122.2.1.toList==bt127.2.1.toList&&(bt122.2.2.1.toList==bt127.2.2.1.toList)))=true then(some (bt122.2.2.2==bt127.2.2.2)) else(some false)) else(some false)) else(some false)) else(some false)) else(some false)) else(some false))))))))) else((fC.f).bind fun t107=>(some t107)))
theorem lX.calls(o7:Bool)(o8 o9:ByteArray)(y8:Bool)(y9 C9:ByteArray)(r:Bool)(w:World)(hG:GW w)(hrT:r=true)(h:lX.f o7 o8 o9 y8 y9 C9=some r) :
 Calls Tryz.prog 7 #[.agg #[.bool o7,.string o8,.string o9],.agg #[.bool y8,.string y9,.string C9]] w fun e w'=>e= .returned (.bool r)∧Below w.heap.size w w':=by
 have HG:=aA.mk hG;clear hG;have hu36:=Tryz.underlying36;have HB:=aA.mk (Below.refl w.heap.size w);have H:((jA.f (([(⟨o7,o8,o9⟩:S36),(⟨y8,y9,C9⟩:S36)]:List (S36))) ([]:List ByteArray)).bind fun J6=>(if J6=true then((uO.f o7 o8 o9 y8 y9 C9).bind fun J7=>((vS.f o7 o8 o9 y8 y9 C9).bind fun J8=>((pW.f o7 o8 o9 y8 y9 C9).bind fun H8=>((uD.f o7 o8 o9 y8 y9 C9).bind fun H9=>((kN.f o7 o8 o9 y8 y9 C9).bind fun I4=>((uF.f o7 o8 o9 y8 y9 C9).bind fun I5=>((fC.f).bind fun J9=>(if J9=true then(if(J7.1==J8.1)=true then(if J7.2=J8.2 then(if(H8.1==H9.1&&(H8.2.1.toList==H9.2.1.toList&&(H8.2.2.1.toList==H9.2.2.1.toList)))=true then(if H8.2.2.2=H9.2.2.2 then(if(I4.1==I5.1&&(I4.2.1.toList==I5.2.1.toList&&(I4.2.2.1.toList==I5.2.2.1.toList)))=true then(some (I4.2.2.2==I5.2.2.2)) else(some false)) else(some false)) else(some false)) else(some false)) else(some false)) else(some false))))))))) else((fC.f).bind fun O0=>(some O0))))=some r:=h;clear h;obtain⟨L6,L8⟩:∃y_:List (S36),y_=(([(⟨o7,o8,o9⟩:S36),(⟨y8,y9,C9⟩:S36)]:List (S36))):=⟨_,rfl⟩
 replace H:((jA.f L6 ([]:List ByteArray)).bind fun J6=>(if J6=true then((uO.f o7 o8 o9 y8 y9 C9).bind fun J7=>((vS.f o7 o8 o9 y8 y9 C9).bind fun J8=>((pW.f o7 o8 o9 y8 y9 C9).bind fun H8=>((uD.f o7 o8 o9 y8 y9 C9).bind fun H9=>((kN.f o7 o8 o9 y8 y9 C9).bind fun I4=>((uF.f o7 o8 o9 y8 y9 C9).bind fun I5=>((fC.f).bind fun J9=>(if J9=true then(if(J7.1==J8.1)=true then(if J7.2=J8.2 then(if(H8.1==H9.1&&(H8.2.1.toList==H9.2.1.toList&&(H8.2.2.1.toList==H9.2.2.1.toList)))=true then(if H8.2.2.2=H9.2.2.2 then(if(I4.1==I5.1&&(I4.2.1.toList==I5.2.1.toList&&(I4.2.2.1.toList==I5.2.2.1.toList)))=true then(some (I4.2.2.2==I5.2.2.2)) else(some false)) else(some false)) else(some false)) else(some false)) else(some false)) else(some false))))))))) else((fC.f).bind fun O0=>(some O0))))=some r:=by first|(rw[L8];with_reducible exact H)|(have H2_:=(Option.bind_some _ _).symm.trans H;rw[L8];with_reducible exact H2_)|(have H2_:=(Option.bind_some _ _).symm.trans H;with_reducible exact H2_)|with_reducible exact H|(rw[L8];exact H)|exact H
 have O1:=aA.mk L8;clear L8;obtain⟨J6,A3,H⟩:=bi H;try dsimp only at H
 by_cases c4:J6=true
 ·subst c4
  rw[if_pos rfl] at H;obtain⟨⟨I7,P8⟩,A5,H⟩:=bi H;try dsimp only at H
  obtain⟨⟨I8,P9⟩,A6,H⟩:=bi H;try dsimp only at H
  obtain⟨⟨F6,F7,F8,Q3⟩,A7,H⟩:=bi H;try dsimp only at H
  obtain⟨⟨F9,G5,G6,Q4⟩,A8,H⟩:=bi H;try dsimp only at H
  obtain⟨⟨G7,G8,G9,gq⟩,A9,H⟩:=bi H;try dsimp only at H
  obtain⟨⟨H5,H6,H7,gz⟩,Q5,H⟩:=bi H;try dsimp only at H
  obtain⟨J9,Q7,H⟩:=bi H;try dsimp only at H
  by_cases O3:J9=true
  ·subst O3
   rw[if_pos rfl] at H
   by_cases D8:(I7==I8)=true
   ·rw[if_pos D8] at H
    have Q8:(I7==I8)=true:=D8
    (try(have Q9:decide (I7=I8)=true:=by simpa using D8))
    (try(have S9:(I7==I8)=true:=by simpa using D8))
    clear D8
    by_cases L9:P8=P9
    ·rw[if_pos L9] at H
     obtain⟨U3,U4⟩:=bT L9;clear L9
     by_cases D9:(F6==F9&&(F7.toList==G5.toList&&(F8.toList==G6.toList)))=true
     ·rw[if_pos D9] at H
      have U5:(F6==F9&&(F7.toList==G5.toList&&(F8.toList==G6.toList)))=true:=D9
      (try(have U6:decide (F6=F9&&(F7.toList==G5.toList&&(F8.toList==G6.toList)))=true:=by simpa using D9))
      (try(have U7:(F6==F9&&(F7.toList==G5.toList&&(F8.toList==G6.toList)))=true:=by simpa using D9))
      clear D9
      by_cases N7:Q3=Q4
      ·rw[if_pos N7] at H
       obtain⟨U8,U9⟩:=bT N7;clear N7
       by_cases E8:(G7==H5&&(G8.toList==H6.toList&&(G9.toList==H7.toList)))=true
       ·rw[if_pos E8] at H
        have V3:(G7==H5&&(G8.toList==H6.toList&&(G9.toList==H7.toList)))=true:=E8
        (try(have V4:decide (G7=H5&&(G8.toList==H6.toList&&(G9.toList==H7.toList)))=true:=by simpa using E8))
        (try(have V5:(G7==H5&&(G8.toList==H6.toList&&(G9.toList==H7.toList)))=true:=by simpa using E8))
        clear E8;obtain rfl:=Option.some.inj H;go_enter Tryz.func7,Tryz.ntmps7
        go_wp2_with(first|((with_reducible refine aG (N:=2) rfl ?_);refine bx_ 2 36 #[.bool o7,.string o8,.string o9] (h:= ?_);intro O5 hg ig D6 hb;have l9:=aA.mk (D6);have O6:=pkG HB hg;have V6:=O6;replace HB:=pkB HB hb;clear hb D6 hg)|((with_reducible refine aG (N:=3) rfl ?_);refine bx_ 3 36 #[.bool y8,.string y9,.string C9] (h:= ?_);intro O7 hg ik D6 hb;have o5:=aA.mk (D6);have O8:=pkG HB hg;have V7:=O8;obtain⟨O9,P7,_,_⟩:=pkQ l9 hg;replace l9:=pkK l9 hb;replace HB:=pkB HB hb;clear hb D6 hg;have iq:=O9.out;have iw:=P7.out;obtain⟨⟨ja,jb,jc⟩,jd,je,jf⟩:=pk3 l9;obtain⟨⟨jg,jh,ji⟩,jk,jl,jm⟩:=pk3 o5)|((with_reducible refine aG (N:=19) rfl ?_);refine Kd.sQ k36 _ 36 ?hg (N:=19) ?hd (xs:=([(⟨o7,o8,o9⟩:S36),(⟨y8,y9,C9⟩:S36)]:List (S36))) (inner:= [.bool o7,.string o8,.string o9,.bool y8,.string y9,.string C9]) (ok:=fun _=>True) (okp:=fun _=>True) ?hr ?hp (fun _ hk=>hk) trivial (Below.refl _ _) (Nat.le_refl _) aFz ?_;(case hd=>rfl);(case hg=>rfl);(case hr=>first|(go_simp;done)|(go_simp;rfl));(case hp=>exact(Reps.c3 (show Kd.M k36 _ _ _ (⟨o7,o8,o9⟩:S36) [.bool o7,.string o8,.string o9] from(oP _ _ _ (⟨o7,o8,o9⟩:S36))) (Reps.c3 (show Kd.M k36 _ _ _ (⟨y8,y9,C9⟩:S36) [.bool y8,.string y9,.string C9] from(oP _ _ _ (⟨y8,y9,C9⟩:S36))) (Reps.none _ _))));intro v104 jo N8 hb hg_ hnew_;clear hg_ hnew_;(first|rw[←O1.out] at N8|(simp only[Int.reduceToNat] at N8;rw[←O1.out] at N8));have o6:=aA.mk (Kd.gU (Kd.qR (Kd.qR N8 (g:=O5) (o:= .cells #[.bool o7,.string o8,.string o9] 36 (0,0)) (pkW l9)) (g:=O7) (o:= .cells #[.bool y8,.string y9,.string C9] 36 (0,0)) (pkW o5)) (dJ (pkL HB)));replace l9:=pkK l9 hb;replace o5:=pkK o5 hb;replace HB:=pkB HB hb;clear hb N8;obtain⟨V8,V9,X4⟩:=Kd.fA o6.out;subst X4)|((with_reducible refine aC (f:=34) rfl ?_);refine gl_ 20 Tryz.func34 #[.slice V8 L6.length V9,.slice none 0 0] (h:= ?_);(refine(jA.calls _ _ L6 _ _ ([]:List ByteArray) true _ ?side1 ?side2 ?side3 ?side4 A3.out).mono ?_);(case side1=>repeat(first|exact(Kd.dB o6.out).2.2|(with_reducible refine Kd.gI ?_ _)|(with_reducible refine Kd.gJ ?_ _)|(with_reducible refine Kd.iJ ?_)));(case side2=>exact(Kd.dB o6.out).2.1);(case side3=>exact Kd.C_nil _ _);(case side4=>exact Nat.le_refl _);rintro e jq ⟨rfl,hb⟩;refine⟨_,rfl,?_⟩;replace o6:=aA.mk (Kd.dD (by(with_reducible repeat(first|apply Kd.aQ|apply Kd.aN|apply Kd.aW));exact o6.out) hb);replace l9:=pkK l9 hb;replace o5:=pkK o5 hb;replace HB:=pkB HB hb;try clear hb;obtain⟨⟨jr,jw,jy⟩,ku,kw,kz⟩:=pk3 l9;obtain⟨⟨lg,lh,lq⟩,lu,lw,mf⟩:=pk3 o5)|((with_reducible refine aC (f:=40) rfl ?_);refine gM 26 Tryz.func40 (uO.calls (hG:=HG.out.below (pkL HB)) (h:=A5.out)) (h:= ?_);intro mg hb;replace o6:=aA.mk (Kd.dD (by(with_reducible repeat(first|apply Kd.aQ|apply Kd.aN|apply Kd.aW));exact o6.out) hb);replace l9:=pkK l9 hb;replace o5:=pkK o5 hb;replace HB:=pkB HB hb;try clear hb;obtain⟨⟨mi,mr,ng⟩,ni,nz,oh⟩:=pk3 l9;obtain⟨⟨oq,ou,oz⟩,pg,pq,pz⟩:=pk3 o5)|((with_reducible refine aC (f:=41) rfl ?_);refine gM 32 Tryz.func41 (vS.calls (w:=_) (h:=A6.out)) (h:= ?_);intro qc hb;replace o6:=aA.mk (Kd.dD (by(with_reducible repeat(first|apply Kd.aQ|apply Kd.aN|apply Kd.aW));exact o6.out) hb);replace l9:=pkK l9 hb;replace o5:=pkK o5 hb;replace HB:=pkB HB hb;try clear hb;obtain⟨⟨qf,qg,qh⟩,qi,qj,ql⟩:=pk3 l9;obtain⟨⟨qm,qo,qp⟩,qw,qx,qy⟩:=pk3 o5)|((with_reducible refine aC (f:=42) rfl ?_);refine gM 38 Tryz.func42 (pW.calls (hG:=HG.out.below (pkL HB)) (h:=A7.out)) (h:= ?_);intro rf hb;replace o6:=aA.mk (Kd.dD (by(with_reducible repeat(first|apply Kd.aQ|apply Kd.aN|apply Kd.aW));exact o6.out) hb);replace l9:=pkK l9 hb;replace o5:=pkK o5 hb;replace HB:=pkB HB hb;try clear hb)|((with_reducible refine aG (N:=9) rfl ?_);refine bx_ 9 36 #[.bool false,.string ⟨#[]⟩,.string ⟨#[]⟩] (h:= ?_);intro I9 hg rq D6 hb;have n0_:=aA.mk (Kd.dD (Kd.nG (by(with_reducible repeat(first|apply Kd.aQ|apply Kd.aN|apply Kd.aW));exact o6.out) I9 (Nat.le_of_eq hg.symm)) hb);have n1_:=pkK l9 hb;have n2_:=pkK o5 hb;have n3_:=pkB HB hb;have n4_:=aA.mk (D6);have n5_:=pkG HB hg;have n6_:=pkG HB hg;have n7_:=pkN l9 hg;have n8_:=pkM l9 hg;have n9_:=pkN o5 hg;have n10_:=pkM o5 hg;clear o6;clear l9;clear o5;clear HB;have o6:=n0_;have l9:=n1_;have o5:=n2_;have HB:=n3_;have D5:=n4_;have ru:=n5_;have ry:=n6_;have X5:=n7_;have X7:=n8_;have X8:=n9_;have X9:=n10_;clear n0_ n1_ n2_ n3_ n4_ n5_ n6_ n7_ n8_ n9_ n10_;clear hb D6 hg;have su:=X7.out;have tq:=X5.out;have tu:=X9.out;have uf:=X8.out;obtain⟨⟨ug,uh,ui⟩,uj,uk,ul⟩:=pk3 D5;obtain⟨⟨um,uo,uq⟩,ut,uu,uw⟩:=pk3 l9;obtain⟨⟨uy,uz,ve⟩,vg,vk,vw⟩:=pk3 o5)|((with_reducible refine aC (f:=43) rfl ?_);refine gM 44 Tryz.func43 (uD.calls (w:=_) (h:=A8.out)) (h:= ?_);intro vz hb;replace o6:=aA.mk (Kd.dD (by(with_reducible repeat(first|apply Kd.aQ|apply Kd.aN|apply Kd.aW));exact(Kd.dK (Kd.iY (p:=⟨I9,2,none⟩) (Kd.iY (p:=⟨I9,1,none⟩) (Kd.iY (p:=⟨I9,0,none⟩) (Kd.dK o6.out (fun k_ hk=>(⟨hk,hk.2⟩:_∧k_≠I9))) (fun _ hk=>hk.2) (.bool F6)) (fun _ hk=>hk.2) (.string F7)) (fun _ hk=>hk.2) (.string F8)) (fun _ h_=>h_.1))) hb);replace l9:=pkF l9 hb;replace o5:=pkF o5 hb;replace D5:=aA.mk (iT (g:=I9) (o:= .cells #[.bool F6,.string F7,.string F8] 36 (0,0)) (pkS3 D5) hb);replace HB:=pkB HB hb;try clear hb)|((with_reducible refine aG (N:=11) rfl ?_);refine bx_ 11 36 #[.bool false,.string ⟨#[]⟩,.string ⟨#[]⟩] (h:= ?_);intro J3 hg wo D6 hb;have n0_:=aA.mk (Kd.dD (Kd.nG (by(with_reducible repeat(first|apply Kd.aQ|apply Kd.aN|apply Kd.aW));exact o6.out) J3 (Nat.le_of_eq hg.symm)) hb);have n1_:=pkK l9 hb;have n2_:=pkK o5 hb;have n3_:=pkK D5 hb;have n4_:=pkB HB hb;have n5_:=aA.mk (D6);have n6_:=pkG HB hg;have n7_:=pkG HB hg;have n8_:=pkN l9 hg;have n9_:=pkM l9 hg;have n10_:=pkN o5 hg;have n11_:=pkM o5 hg;have n12_:=pkN D5 hg;have n13_:=pkM D5 hg;clear o6;clear l9;clear o5;clear D5;clear HB;have o6:=n0_;have l9:=n1_;have o5:=n2_;have D5:=n3_;have HB:=n4_;have D7:=n5_;have wu:=n6_;have ww:=n7_;have Y0:=n8_;have Y4:=n9_;have Y5:=n10_;have Y7:=n11_;have Y8:=n12_;have Y9:=n13_;clear n0_ n1_ n2_ n3_ n4_ n5_ n6_ n7_ n8_ n9_ n10_ n11_ n12_ n13_;clear hb D6 hg;have xe:=Y4.out;have xg:=Y0.out;have xh:=Y7.out;have xk:=Y5.out;have xm:=Y9.out;have xn:=Y8.out;obtain⟨⟨xq,xu,xw⟩,xx,xy,yf⟩:=pk3 D7;obtain⟨⟨yg,yh,yj⟩,yl,yt,yu⟩:=pk3 l9;obtain⟨⟨yw,yx,yz⟩,zf,zg,zh⟩:=pk3 o5)|((with_reducible refine aC (f:=44) rfl ?_);refine gM 50 Tryz.func44 (kN.calls (hG:=HG.out.below (pkL HB)) (h:=A9.out)) (h:= ?_);intro zi hb;replace o6:=aA.mk (Kd.dD (by(with_reducible repeat(first|apply Kd.aQ|apply Kd.aN|apply Kd.aW));exact(Kd.dK (Kd.iY (p:=⟨J3,2,none⟩) (Kd.iY (p:=⟨J3,1,none⟩) (Kd.iY (p:=⟨J3,0,none⟩) (Kd.dK o6.out (fun k_ hk=>(⟨hk,hk.2⟩:_∧k_≠J3))) (fun _ hk=>hk.2) (.bool F9)) (fun _ hk=>hk.2) (.string G5)) (fun _ hk=>hk.2) (.string G6)) (fun _ h_=>h_.1))) hb);replace l9:=pkF l9 hb;replace o5:=pkF o5 hb;replace D5:=pkF D5 hb;replace D7:=aA.mk (iT (g:=J3) (o:= .cells #[.bool F9,.string G5,.string G6] 36 (0,0)) (pkS3 D7) hb);replace HB:=pkB HB hb;try clear hb)|((with_reducible refine aG (N:=13) rfl ?_);refine bx_ 13 36 #[.bool false,.string ⟨#[]⟩,.string ⟨#[]⟩] (h:= ?_);intro J4 hg zk D6 hb;have n0_:=aA.mk (Kd.dD (Kd.nG (by(with_reducible repeat(first|apply Kd.aQ|apply Kd.aN|apply Kd.aW));exact o6.out) J4 (Nat.le_of_eq hg.symm)) hb);have n1_:=pkK l9 hb;have n2_:=pkK o5 hb;have n3_:=pkK D5 hb;have n4_:=pkK D7 hb;have n5_:=pkB HB hb;have n6_:=aA.mk (D6);have n7_:=pkG HB hg;have n8_:=pkG HB hg;have n9_:=pkN l9 hg;have n10_:=pkM l9 hg;have n11_:=pkN o5 hg;have n12_:=pkM o5 hg;have n13_:=pkN D5 hg;have n14_:=pkM D5 hg;have n15_:=pkN D7 hg;have n16_:=pkM D7 hg;clear o6;clear l9;clear o5;clear D5;clear D7;clear HB;have o6:=n0_;have l9:=n1_;have o5:=n2_;have D5:=n3_;have D7:=n4_;have HB:=n5_;have F5:=n6_;have zl:=n7_;have zn:=n8_;have Z7:=n9_;have Z8:=n10_;have Z9:=n11_;have ae:=n12_;have af:=n13_;have ag:=n14_;have ah:=n15_;have ai:=n16_;clear n0_ n1_ n2_ n3_ n4_ n5_ n6_ n7_ n8_ n9_ n10_ n11_ n12_ n13_ n14_ n15_ n16_;clear hb D6 hg;have zo:=Z8.out;have zq:=Z7.out;have zt:=ae.out;have zu:=Z9.out;have zx:=ag.out;have zy:=af.out;have Aa:=ai.out;have Ac:=ah.out;obtain⟨⟨Ad,Ae,Af⟩,Ag,Ah,Ai⟩:=pk3 F5;obtain⟨⟨Aj,Ak,Am⟩,Aq,Aw,Az⟩:=pk3 l9;obtain⟨⟨Ba,Bc,Be⟩,Bf,Bg,Bh⟩:=pk3 o5)|((with_reducible refine aC (f:=45) rfl ?_);refine gM 56 Tryz.func45 (uF.calls (w:=_) (h:=Q5.out)) (h:= ?_);intro Bi hb;replace o6:=aA.mk (Kd.dD (by(with_reducible repeat(first|apply Kd.aQ|apply Kd.aN|apply Kd.aW));exact(Kd.dK (Kd.iY (p:=⟨J4,2,none⟩) (Kd.iY (p:=⟨J4,1,none⟩) (Kd.iY (p:=⟨J4,0,none⟩) (Kd.dK o6.out (fun k_ hk=>(⟨hk,hk.2⟩:_∧k_≠J4))) (fun _ hk=>hk.2) (.bool G7)) (fun _ hk=>hk.2) (.string G8)) (fun _ hk=>hk.2) (.string G9)) (fun _ h_=>h_.1))) hb);replace l9:=pkF l9 hb;replace o5:=pkF o5 hb;replace D5:=pkF D5 hb;replace D7:=pkF D7 hb;replace F5:=aA.mk (iT (g:=J4) (o:= .cells #[.bool G7,.string G8,.string G9] 36 (0,0)) (pkS3 F5) hb);replace HB:=pkB HB hb;try clear hb)|((with_reducible refine aG (N:=15) rfl ?_);refine bx_ 15 36 #[.bool false,.string ⟨#[]⟩,.string ⟨#[]⟩] (h:= ?_);intro J5 hg Bj D6 hb;have n0_:=aA.mk (Kd.dD (Kd.nG (by(with_reducible repeat(first|apply Kd.aQ|apply Kd.aN|apply Kd.aW));exact o6.out) J5 (Nat.le_of_eq hg.symm)) hb);have n1_:=pkK l9 hb;have n2_:=pkK o5 hb;have n3_:=pkK D5 hb;have n4_:=pkK D7 hb;have n5_:=pkK F5 hb;have n6_:=pkB HB hb;have n7_:=aA.mk (D6);have n8_:=pkG HB hg;have n9_:=pkG HB hg;have n10_:=pkN l9 hg;have n11_:=pkM l9 hg;have n12_:=pkN o5 hg;have n13_:=pkM o5 hg;have n14_:=pkN D5 hg;have n15_:=pkM D5 hg;have n16_:=pkN D7 hg;have n17_:=pkM D7 hg;have n18_:=pkN F5 hg;have n19_:=pkM F5 hg;clear o6;clear l9;clear o5;clear D5;clear D7;clear F5;clear HB;have o6:=n0_;have l9:=n1_;have o5:=n2_;have D5:=n3_;have D7:=n4_;have F5:=n5_;have HB:=n6_;have O4:=n7_;have Bl:=n8_;have Bo:=n9_;have aj:=n10_;have ak:=n11_;have au:=n12_;have ax:=n13_;have ay:=n14_;have az:=n15_;have bn:=n16_;have df:=n17_;have dh:=n18_;have di:=n19_;clear n0_ n1_ n2_ n3_ n4_ n5_ n6_ n7_ n8_ n9_ n10_ n11_ n12_ n13_ n14_ n15_ n16_ n17_ n18_ n19_;clear hb D6 hg;have Bq:=ak.out;have Bv:=aj.out;have Bz:=ax.out;have Cb:=au.out;have Cc:=az.out;have Ce:=ay.out;have Cf:=df.out;have Ci:=bn.out;have Cj:=di.out;have Cm:=dh.out;obtain⟨⟨Dc,Df,Dh⟩,Di,Dj,Dk⟩:=pk3 O4)|((with_reducible refine aC (f:=35) rfl ?_);refine gM 59 Tryz.func35 (fC.calls (hG:=HG.out.below (pkL HB)) (h:=Q7.out)) (h:= ?_);intro Dl hb;replace o6:=aA.mk (Kd.dD (by(with_reducible repeat(first|apply Kd.aQ|apply Kd.aN|apply Kd.aW));exact(Kd.dK (Kd.iY (p:=⟨J5,2,none⟩) (Kd.iY (p:=⟨J5,1,none⟩) (Kd.iY (p:=⟨J5,0,none⟩) (Kd.dK o6.out (fun k_ hk=>(⟨hk,hk.2⟩:_∧k_≠J5))) (fun _ hk=>hk.2) (.bool H5)) (fun _ hk=>hk.2) (.string H6)) (fun _ hk=>hk.2) (.string H7)) (fun _ h_=>h_.1))) hb);replace l9:=pkF l9 hb;replace o5:=pkF o5 hb;replace D5:=pkF D5 hb;replace D7:=pkF D7 hb;replace F5:=pkF F5 hb;replace O4:=aA.mk (iT (g:=J5) (o:= .cells #[.bool H5,.string H6,.string H7] 36 (0,0)) (pkS3 O4) hb);replace HB:=pkB HB hb;try clear hb;obtain⟨⟨Dn,Dp,Dq⟩,Dt,Du,Dv⟩:=pk3 D5;obtain⟨⟨Dw,Dx,Dy⟩,Dz,Ea,Eb⟩:=pk3 D7;obtain⟨⟨Ec,Ed,Ee⟩,Ef,Eg,Eh⟩:=pk3 F5;obtain⟨⟨Ei,Ej,Em⟩,En,Eo,Ep⟩:=pk3 O4))
        go_ret
        exact pkE HB
       ·rw[if_neg E8] at H
        have V3:(G7==H5&&(G8.toList==H6.toList&&(G9.toList==H7.toList)))=false:=by simpa using E8
        (try(have V4:decide (G7=H5&&(G8.toList==H6.toList&&(G9.toList==H7.toList)))=false:=by simpa using E8))
        (try(have V5:(G7==H5&&(G8.toList==H6.toList&&(G9.toList==H7.toList)))=false:=by simpa using E8))
        (try(have Es:¬(G7=H5&&(G8.toList==H6.toList&&(G9.toList==H7.toList))):=by simpa using E8))
        clear E8;exact absurd (Option.some.inj H) (by rw[hrT];decide)
      ·rw[if_neg N7] at H
       obtain⟨U8,U9⟩:=bF N7;exact absurd (Option.some.inj H) (by rw[hrT];decide)
     ·rw[if_neg D9] at H
      have U5:(F6==F9&&(F7.toList==G5.toList&&(F8.toList==G6.toList)))=false:=by simpa using D9
      (try(have U6:decide (F6=F9&&(F7.toList==G5.toList&&(F8.toList==G6.toList)))=false:=by simpa using D9))
      (try(have U7:(F6==F9&&(F7.toList==G5.toList&&(F8.toList==G6.toList)))=false:=by simpa using D9))
      (try(have Et:¬(F6=F9&&(F7.toList==G5.toList&&(F8.toList==G6.toList))):=by simpa using D9))
      clear D9;exact absurd (Option.some.inj H) (by rw[hrT];decide)
    ·rw[if_neg L9] at H
     obtain⟨U3,U4⟩:=bF L9;exact absurd (Option.some.inj H) (by rw[hrT];decide)
   ·rw[if_neg D8] at H
    have Q8:(I7==I8)=false:=by simpa using D8
    (try(have Q9:decide (I7=I8)=false:=by simpa using D8))
    (try(have S9:(I7==I8)=false:=by simpa using D8))
    (try(have Eu:¬(I7=I8):=by simpa using D8))
    clear D8;exact absurd (Option.some.inj H) (by rw[hrT];decide)
  ·replace O3:=Bool.eq_false_iff.mpr O3
   subst O3;rw[if_neg (show ¬(false=true) by decide)] at H;exact absurd (Option.some.inj H) (by rw[hrT];decide)
 ·replace c4:=Bool.eq_false_iff.mpr c4
  subst c4;rw[if_neg (show ¬(false=true) by decide)] at H;obtain⟨O0,dw,H⟩:=bi H;try dsimp only at H
  obtain rfl:=Option.some.inj H;go_enter Tryz.func7,Tryz.ntmps7
  go_wp2_with(first|((with_reducible refine aG (N:=2) rfl ?_);refine bx_ 2 36 #[.bool o7,.string o8,.string o9] (h:= ?_);intro O5 hg Ew D6 hb;have l9:=aA.mk (D6);have O6:=pkG HB hg;have V6:=O6;replace HB:=pkB HB hb;clear hb D6 hg)|((with_reducible refine aG (N:=3) rfl ?_);refine bx_ 3 36 #[.bool y8,.string y9,.string C9] (h:= ?_);intro O7 hg Ey D6 hb;have o5:=aA.mk (D6);have O8:=pkG HB hg;have V7:=O8;obtain⟨O9,P7,_,_⟩:=pkQ l9 hg;replace l9:=pkK l9 hb;replace HB:=pkB HB hb;clear hb D6 hg;have Ez:=O9.out;have Fa:=P7.out;obtain⟨⟨Fb,Fe,Ff⟩,Fg,Fh,Fj⟩:=pk3 l9;obtain⟨⟨Fp,Fq,Fv⟩,Fz,Gf,Gg⟩:=pk3 o5)|((with_reducible refine aG (N:=19) rfl ?_);refine Kd.sQ k36 _ 36 ?hg (N:=19) ?hd (xs:=([(⟨o7,o8,o9⟩:S36),(⟨y8,y9,C9⟩:S36)]:List (S36))) (inner:= [.bool o7,.string o8,.string o9,.bool y8,.string y9,.string C9]) (ok:=fun _=>True) (okp:=fun _=>True) ?hr ?hp (fun _ hk=>hk) trivial (Below.refl _ _) (Nat.le_refl _) aFz ?_;(case hd=>rfl);(case hg=>rfl);(case hr=>first|(go_simp;done)|(go_simp;rfl));(case hp=>exact(Reps.c3 (show Kd.M k36 _ _ _ (⟨o7,o8,o9⟩:S36) [.bool o7,.string o8,.string o9] from(oP _ _ _ (⟨o7,o8,o9⟩:S36))) (Reps.c3 (show Kd.M k36 _ _ _ (⟨y8,y9,C9⟩:S36) [.bool y8,.string y9,.string C9] from(oP _ _ _ (⟨y8,y9,C9⟩:S36))) (Reps.none _ _))));intro v104 Gh N9 hb hg_ hnew_;clear hg_ hnew_;(first|rw[←O1.out] at N9|(simp only[Int.reduceToNat] at N9;rw[←O1.out] at N9));have o6:=aA.mk (Kd.gU (Kd.qR (Kd.qR N9 (g:=O5) (o:= .cells #[.bool o7,.string o8,.string o9] 36 (0,0)) (pkW l9)) (g:=O7) (o:= .cells #[.bool y8,.string y9,.string C9] 36 (0,0)) (pkW o5)) (dJ (pkL HB)));replace l9:=pkK l9 hb;replace o5:=pkK o5 hb;replace HB:=pkB HB hb;clear hb N9;obtain⟨eu,gm,gp⟩:=Kd.fA o6.out;subst gp)|((with_reducible refine aC (f:=34) rfl ?_);refine gl_ 20 Tryz.func34 #[.slice eu L6.length gm,.slice none 0 0] (h:= ?_);(refine(jA.calls _ _ L6 _ _ ([]:List ByteArray) false _ ?side1 ?side2 ?side3 ?side4 A3.out).mono ?_);(case side1=>repeat(first|exact(Kd.dB o6.out).2.2|(with_reducible refine Kd.gI ?_ _)|(with_reducible refine Kd.gJ ?_ _)|(with_reducible refine Kd.iJ ?_)));(case side2=>exact(Kd.dB o6.out).2.1);(case side3=>exact Kd.C_nil _ _);(case side4=>exact Nat.le_refl _);rintro e Gi ⟨rfl,hb⟩;refine⟨_,rfl,?_⟩;replace o6:=aA.mk (Kd.dD (by(with_reducible repeat(first|apply Kd.aQ|apply Kd.aN|apply Kd.aW));exact o6.out) hb);replace l9:=pkK l9 hb;replace o5:=pkK o5 hb;replace HB:=pkB HB hb;try clear hb)|((with_reducible refine aC (f:=35) rfl ?_);refine gM 22 Tryz.func35 (fC.calls (hG:=HG.out.below (pkL HB)) (h:=dw.out)) (h:= ?_);intro Gj hb;replace o6:=aA.mk (Kd.dD (by(with_reducible repeat(first|apply Kd.aQ|apply Kd.aN|apply Kd.aW));exact o6.out) hb);replace l9:=pkK l9 hb;replace o5:=pkK o5 hb;replace HB:=pkB HB hb;try clear hb))
  go_ret
  exact pkE HB
end Go.Proofs.YtignanmmgaldeaaGreatDoor.PCongruenceOrders
end
section
namespace Go.Proofs.YtignanmmgaldeaaGreatDoor.PureOrders
open Go.RowKit Go.Proofs.YtignanmmgaldeaaGreatDoor PLawB LawC PCongruenceOrders RefP PCongI CongM YtignanmmgaldeaaGreatDoorW.PrintWords
theorem law(o8:Bool)(l9 o5:ByteArray)(o9:Bool)(o6 o7:ByteArray)(w0:l9.size≤140737488351232)(w1:o5.size≤140737488351232)(w2:o6.size≤140737488351232)(w3:o7.size≤140737488351232):lX.f o8 l9 o5 o9 o6 o7=some true:=by
 have hf:jA.f [(⟨o8,l9,o5⟩:S36),(⟨o9,o6,o7⟩:S36)] ([]:List ByteArray)=some (decide (fewP [(⟨o8,l9,o5⟩:S36),(⟨o9,o6,o7⟩:S36)] ([]:List ByteArray))):=if_pos ⟨by simp,by simp⟩;unfold lX.f;rw[hf,Option.bind_some]
 by_cases hF:fewP [(⟨o8,l9,o5⟩:S36),(⟨o9,o6,o7⟩:S36)] ([]:List ByteArray)
 ·rw[decide_eq_true hF]
  have s1:=hF.1 (⟨o8,l9,o5⟩:S36) aFz;have s2:=hF.1 (⟨o9,o6,o7⟩:S36) aFz;have hz:few4 l9 o5 o6 o7:=⟨Nat.le_trans s1.1 aFx,Nat.le_trans s1.2 aFx,Nat.le_trans s2.1 aFx,Nat.le_trans s2.2 aFx⟩;have e0:uO.f o8 l9 o5 o9 o6 o7=some (if mW o8 l9 o5 o9 o6 o7=0 then decide (leO (decC o8 l9 o5) (decC o9 o6 o7)) else false,mW o8 l9 o5 o9 o6 o7):=if_pos hz;have e1:vS.f o8 l9 o5 o9 o6 o7=some (if mW o8 l9 o5 o9 o6 o7=0 then decide (leO (decC o8 l9 o5) (decC o9 o6 o7)) else false,mW o8 l9 o5 o9 o6 o7):=if_pos hz;have e2:pW.f o8 l9 o5 o9 o6 o7=some (resC (joinO 100) o8 l9 o5 o9 o6 o7):=if_pos hz;have e3:uD.f o8 l9 o5 o9 o6 o7=some (resC (joinO 100) o8 l9 o5 o9 o6 o7):=if_pos hz;have e4:kN.f o8 l9 o5 o9 o6 o7=some (resC kN.o o8 l9 o5 o9 o6 o7):=if_pos hz;have e5:uF.f o8 l9 o5 o9 o6 o7=some (resC kN.o o8 l9 o5 o9 o6 o7):=if_pos hz;simp only[if_true,e0,e1,e2,e3,e4,e5,oU,Option.bind_some,beq_self_eq_true,Bool.and_self,if_true]
 ·rw[decide_eq_false hF]
  simp only[Bool.false_eq_true,if_false,oU,Option.bind_some]
end Go.Proofs.YtignanmmgaldeaaGreatDoor.PureOrders
end
