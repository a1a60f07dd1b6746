/- Lemmas for the proof. -/
import Derived.Test.YtignanmmgaldeaaGreatDoorYCardCongruenceMakesW1
import Derived.Test.YtignanmmgaldeaaGreatDoorYK
section
set_option linter.unusedVariables false
set_option linter.unusedSimpArgs false
namespace Go.Proofs.YtignanmmgaldeaaGreatDoor.RefP
open Go.RowKit Go.Proofs.YtignanmmgaldeaaGreatDoor.PRefA Go.Proofs.YtignanmmgaldeaaGreatDoorW.PrintWords Go.Proofs.YtignanmmgaldeaaGreatDoorW.PrintLast
theorem aBm(a:ByteArray)(h:a.size≤140737488351232)(k:Nat)(hk:a.size+4≤k):iM.f k a=some (chkI a):=by
 obtain⟨k,rfl⟩:∃j,k=j+2:=⟨k-2,by omega⟩
 unfold iM.f chkI;rw[aB6 a h k aFx,Option.bind_some]
 by_cases hc:canon a.data.toList=true
 ·have h0:=rF hc
  rw[if_pos hc,if_pos hc,zK a h h0,Option.bind_some]
  by_cases hd:4096<digN a
  ·rw[if_pos aFx,if_pos hd]
  ·rw[if_neg aFx,if_neg hd]
 ·rw[if_neg hc,if_neg hc]
end Go.Proofs.YtignanmmgaldeaaGreatDoor.RefP
end
section
set_option linter.unusedVariables false
set_option linter.unusedSimpArgs false
namespace Go.Proofs.YtignanmmgaldeaaGreatDoor
open Go.RowKit Go.Proofs.YtignanmmgaldeaaGreatDoor.PRefA Go.Proofs.YtignanmmgaldeaaGreatDoor.RefP Go.Proofs.YtignanmmgaldeaaGreatDoorW.PrintWords Go.Proofs.YtignanmmgaldeaaGreatDoorW.PrintLast
def kM.f(a0:ByteArray):Option Int:=if a0.size≤140737488351232 then some (chkI a0) else none
theorem kM.calls(a0:ByteArray)(r0:Int)(w:World)(h:kM.f a0=some r0) :
 Calls Tryz.prog 115 #[.string a0] w fun e w'=>e= .returned (.int .i64 r0)∧eQ w w':=by
 unfold kM.f at h
 split at h
 ·rename_i hs
  obtain rfl:=Option.some.inj h;exact iM.calls (a0.size+4) _ _ w (aBm a0 hs _ (Nat.le_refl _))
 ·cases h
def tY.f(a0 a1:ByteArray):Option Int:=if a0.size≤140737488351232∧a1.size≤140737488351232 then some (iZ a0 a1) else none
theorem tY.calls(a0 a1:ByteArray)(r0:Int)(w:World)(h:tY.f a0 a1=some r0) :
 Calls Tryz.prog 75 #[.string a0,.string a1] w fun e w'=>e= .returned (.int .i64 r0)∧eQ w w':=by
 unfold tY.f at h
 split at h
 ·rename_i hs
  obtain rfl:=Option.some.inj h;refine rG.calls (a0.size+a1.size+4) _ _ _ w ?_;unfold rG.f iZ;rw[aBm a0 hs.1 _ aFx,Option.bind_some]
  by_cases h0:chkI a0=0
  ·rw[if_pos h0,if_pos h0,aBm a1 hs.2 _ aFx,Option.bind_some]
  ·rw[if_neg h0,if_neg h0]
 ·cases h
end Go.Proofs.YtignanmmgaldeaaGreatDoor
end
section
set_option linter.unusedVariables false
set_option linter.unusedSimpArgs false
set_option maxHeartbeats 8000000
set_option maxRecDepth 100000
namespace Go.Proofs.YtignanmmgaldeaaGreatDoor.PCongI
open Go.RowKit Go.Proofs.YtignanmmgaldeaaGreatDoorW.PrintWords Go.Proofs.YtignanmmgaldeaaGreatDoorW.PrintLast Go.Proofs.YtignanmmgaldeaaGreatDoorW.PrintMore
attribute [local go_sem] dQ dR eH eP
def jE.l0:Nat→ByteArray→ByteArray→List ByteArray→Int→Int→Option (Bool×ByteArray×ByteArray×Int)
 |0,_,_,_,_,_=>none
 |k+1,x0,x1,x11,x12,x13=>if x13<x12 then(if 0≤x13 then(if x13<(x11.length:Int) then((iQ.f (rdOf ByteArray.empty x11 x13)).bind fun t139=>(if t139=0 then(jE.l0 k x0 x1 x11 x12 (wrap64 (x13+1))) else(some (false,(⟨#[]⟩:ByteArray),(⟨#[]⟩:ByteArray),t139)))) else(none)) else(none)) else((dS.f k x0 x1).bind fun bt140=>(some (bt140.1,bt140.2.1,bt140.2.2,0)))
def jE.f(k:Nat)(a0:ByteArray)(a1:ByteArray):Option (Bool×ByteArray×ByteArray×Int):=(some (([a0,a1]:List ByteArray):List ByteArray)).bind fun y135=>(jE.l0 k a0 a1 y135 (y135.length:Int) 0)
theorem jE.calls(k:Nat)(a0:ByteArray)(a1:ByteArray)(r1:Bool)(r2:ByteArray)(r3:ByteArray)(r4:Int)(w:World)(hG:GW w)(h:jE.f k a0 a1=some (r1,r2,r3,r4)) :
 Calls Tryz.prog 58 #[.string a0,.string a1] w fun e w'=>e= .returned (.tuple #[.agg #[.bool r1,.string r2,.string r3],.int .i64 r4])∧Below w.heap.size w w':=by
 have HG:=aA.mk hG;clear hG;have hu36:=Tryz.underlying36;have HB:=aA.mk (Below.refl w.heap.size w);have H:((some (([a0,a1]:List ByteArray):List ByteArray)).bind fun o5=>(jE.l0 k a0 a1 o5 (o5.length:Int) 0))=some (r1,r2,r3,r4):=h;clear h;obtain⟨o5,o7⟩:∃y_:List ByteArray,y_=(([a0,a1]:List ByteArray)):=⟨_,rfl⟩
 replace H:(jE.l0 k a0 a1 o5 (o5.length:Int) 0)=some (r1,r2,r3,r4):=by first|(rw[o7];with_reducible exact H)|(have H2_:=(Option.bind_some _ _).symm.trans H;rw[o7];with_reducible exact H2_)|(have H2_:=(Option.bind_some _ _).symm.trans H;with_reducible exact H2_)|with_reducible exact H|(rw[o7];exact H)|exact H
 have D6:=aA.mk o7;clear o7;have H':=aA.mk H;clear H;go_enter Tryz.func58,Tryz.ntmps58
 go_wp2_with(first|((with_reducible refine aG (N:=4) rfl ?_);refine bx_ 4 36 #[.bool false,.string (⟨#[]⟩:ByteArray),.string (⟨#[]⟩:ByteArray)] (h:= ?_);intro y8 hg w3 D7 hb;have l9:=aA.mk (D7);have F5:=pkG HB hg;have H7:=F5;replace HB:=pkB HB hb;clear hb D7 hg)|((with_reducible refine aG (N:=11) rfl ?_);refine Kd.sQ Kd.string _ 22 ?hg (N:=11) ?hd (xs:=([a0,a1]:List ByteArray)) (inner:= [.string a0,.string a1]) (ok:=fun _=>True) (okp:=fun _=>True) ?hr ?hp (fun _ hk=>hk) trivial (Below.refl _ _) (Nat.le_refl _) aFz ?_;(case hd=>rfl);(case hg=>rfl);(case hr=>first|(go_simp;done)|(go_simp;rfl));(case hp=>exact(Reps.one (show Kd.M Kd.string _ _ _ a0 [.string a0] from rfl) (Reps.one (show Kd.M Kd.string _ _ _ a1 [.string a1] from rfl) (Reps.none _ _))));intro v136 w4 o8 hb hg_ hnew_;clear hg_ hnew_;(first|rw[←D6.out] at o8|(simp only[Int.reduceToNat] at o8;rw[←D6.out] at o8));have D8:=aA.mk (Kd.gU o8 (dJ (pkL HB)));replace l9:=pkK l9 hb;replace HB:=pkB HB hb;clear hb o8;obtain⟨F6,F7,F8⟩:=Kd.fA D8.out;subst F8))
 go_loopg [13] k (fun kq v13 w'=>∃(o6:Int) (y9:Bool) (C9:ByteArray) (D5:ByteArray),v13= .int .i64 o6∧aA (jE.l0 kq a0 a1 o5 (o5.length:Int) o6=some (r1,r2,r3,r4))∧aA (kq≤k)∧aA (Kd.R Kd.string 22 w' w.heap.size (fun _=>True) (.slice F6 o5.length F7) o5)∧aA (w'.heap[y8]? =some (.cells #[.bool y9,.string C9,.string D5] 36 (0,0)))∧aA (Below w.heap.size w w'))
 case atStart=>exact⟨(0),(false),((⟨#[]⟩:ByteArray)),((⟨#[]⟩:ByteArray)),aG1,H',⟨Nat.le_refl _⟩,⟨by(with_reducible repeat(first|apply Kd.aQ|apply Kd.aN|apply Kd.aW));exact D8.out⟩,⟨pkW l9⟩,⟨pkL HB⟩⟩
 case round=>
  clear H';obtain⟨o6,y9,C9,D5,rfl,HA,D9,HO_11,l9,HB⟩:=hrel
  cases gk with
  |zero=>exact absurd HA.out (by simp[jE.l0])
  |succ k1=>
   have H:=HA.out;clear HA;simp only[jE.l0] at H
   by_cases c7:o6<(o5.length:Int)
   ·rw[if_pos c7] at H
    have F9:=decide_eq_true c7;clear c7
    by_cases c8:0≤o6
    ·rw[if_pos c8] at H
     have H8:=decide_eq_true c8;clear c8
     by_cases c9:o6<(o5.length:Int)
     ·rw[if_pos c9] at H
      have H9:=decide_eq_true c9;clear c9;obtain⟨G5,E8,H⟩:=bi H;try dsimp only at H
      by_cases o9:G5=0
      ·rw[if_pos o9] at H
       obtain⟨G6,G7⟩:=bT o9;clear o9;have H':=aA.mk H;clear H;have p138:0≤(o6:Int):=of_decide_eq_true asm_;have q138:o6<(o5.length:Int):=of_decide_eq_true asm_;obtain⟨ad138,e138,hx138_0⟩:=Kd.aAf (Kd.dB HO_11.out).2.2 o6 p138 q138
       cases e138
       replace p138:=eq_true p138;replace q138:=eq_true q138
       go_wp2_with(first|((with_reducible refine aC (f:=73) rfl ?_);refine gM 18 Tryz.func73 (iQ.calls (w:=_) (h:=E8.out)) (h:= ?_);intro I4 hb;replace HO_11:=aA.mk (Kd.dD (by(with_reducible repeat(first|apply Kd.aQ|apply Kd.aN|apply Kd.aW));exact HO_11.out) hb);replace l9:=pkK l9 hb;replace HB:=pkB HB hb;try clear hb))
       go_roundg k1
       case measure=>have:=D9.out;omega
       case rel=>exact⟨(wrap64 (o6+1)),(y9),(C9),(D5),aG1,H',⟨by have:=D9.out;omega⟩,⟨by(with_reducible repeat(first|apply Kd.aQ|apply Kd.aN|apply Kd.aW));exact HO_11.out⟩,⟨pkW l9⟩,⟨pkL HB⟩⟩
      ·rw[if_neg o9] at H
       obtain⟨G6,G7⟩:=bF o9;simp only[Option.some.injEq,Prod.mk.injEq] at H;obtain⟨rfl,rfl,rfl,rfl⟩:=H;have p138:0≤(o6:Int):=of_decide_eq_true asm_;have q138:o6<(o5.length:Int):=of_decide_eq_true asm_;obtain⟨ad138,e138,hx138_0⟩:=Kd.aAf (Kd.dB HO_11.out).2.2 o6 p138 q138
       cases e138
       replace p138:=eq_true p138;replace q138:=eq_true q138
       go_wp2_with(first|((with_reducible refine aC (f:=73) rfl ?_);refine gM 18 Tryz.func73 (iQ.calls (w:=_) (h:=E8.out)) (h:= ?_);intro I5 hb;replace HO_11:=aA.mk (Kd.dD (by(with_reducible repeat(first|apply Kd.aQ|apply Kd.aN|apply Kd.aW));exact HO_11.out) hb);replace l9:=pkK l9 hb;replace HB:=pkB HB hb;try clear hb;obtain⟨⟨I7,I8,I9⟩,J3,J4,J5⟩:=pk3 l9))
       refine bodyPost_ret (gW rfl _ _ y8 36 #[.bool false,.string (⟨#[]⟩:ByteArray),.string (⟨#[]⟩:ByteArray)] (0,0) _ rfl (pkS3 l9) Tryz.underlying36 rfl (by kernel_rfl)) rfl ?_;exact pkE HB
     ·rw[if_neg c9] at H
      exact absurd H aFz
    ·rw[if_neg c8] at H
     exact absurd H aFz
   ·rw[if_neg c7] at H
    have F9:=decide_eq_false c7;clear c7;obtain⟨⟨G8,G9,H5⟩,H6,H⟩:=bi H;try dsimp only at H
    simp only[Option.some.injEq,Prod.mk.injEq] at H;obtain⟨rfl,rfl,rfl,rfl⟩:=H
    go_wp2_with(first|((with_reducible refine aC (f:=109) rfl ?_);refine gM 26 Tryz.func109 (dS.calls (hG:=HG.out.below (pkL HB)) (h:=H6.out)) (h:= ?_);intro J6 hb;replace HO_11:=aA.mk (Kd.dD (by(with_reducible repeat(first|apply Kd.aQ|apply Kd.aN|apply Kd.aW));exact HO_11.out) hb);replace l9:=pkK l9 hb;replace HB:=pkB HB hb;try clear hb;obtain⟨⟨J7,J8,J9⟩,L6,L8,L9⟩:=pk3 l9))
    refine bodyPost_ret (gW rfl _ _ y8 36 #[.bool G8,.string G9,.string H5] (0,0) _ rfl (pkS3 l9) Tryz.underlying36 rfl (by kernel_rfl)) rfl ?_;exact pkE HB
def xX.f(k:Nat)(a0:ByteArray):Option (Bool×ByteArray×ByteArray×Int):=(jE.f k (⟨#[48]⟩:ByteArray) a0).bind fun bt144=>(some (bt144.1,bt144.2.1,bt144.2.2.1,bt144.2.2.2))
theorem xX.calls(k:Nat)(a0:ByteArray)(r1:Bool)(r2:ByteArray)(r3:ByteArray)(r4:Int)(w:World)(hG:GW w)(h:xX.f k a0=some (r1,r2,r3,r4)) :
 Calls Tryz.prog 56 #[.string a0] w fun e w'=>e= .returned (.tuple #[.agg #[.bool r1,.string r2,.string r3],.int .i64 r4])∧Below w.heap.size w w':=by
 have HG:=aA.mk hG;clear hG;have hu36:=Tryz.underlying36;have HB:=aA.mk (Below.refl w.heap.size w);have H:((jE.f k (⟨#[48]⟩:ByteArray) a0).bind fun l9=>(some (l9.1,l9.2.1,l9.2.2.1,l9.2.2.2)))=some (r1,r2,r3,r4):=h;clear h;obtain⟨⟨o7,o8,o9,C9⟩,A2,H⟩:=bi H;try dsimp only at H
 simp only[Option.some.injEq,Prod.mk.injEq] at H;obtain⟨rfl,rfl,rfl,rfl⟩:=H;go_enter Tryz.func56,Tryz.ntmps56
 go_wp2_with(first|((with_reducible refine aG (N:=2) rfl ?_);refine bx_ 2 36 #[.bool false,.string (⟨#[]⟩:ByteArray),.string (⟨#[]⟩:ByteArray)] (h:= ?_);intro y8 hg w3 o6 hb;have o5:=aA.mk (o6);have y9:=pkG HB hg;have D5:=y9;replace HB:=pkB HB hb;clear hb o6 hg)|((with_reducible refine aC (f:=58) rfl ?_);refine gM 5 Tryz.func58 (jE.calls (hG:=HG.out.below (pkL HB)) (h:=A2.out)) (h:= ?_);intro w4 hb;replace o5:=pkK o5 hb;replace HB:=pkB HB hb;try clear hb;obtain⟨⟨D6,D7,D8⟩,D9,E8,F5⟩:=pk3 o5))
 refine bodyPost_ret (gW rfl _ _ y8 36 #[.bool o7,.string o8,.string o9] (0,0) _ rfl (pkS3 o5) Tryz.underlying36 rfl (by kernel_rfl)) rfl ?_;exact pkE HB
end Go.Proofs.YtignanmmgaldeaaGreatDoor.PCongI
end
section
set_option linter.unusedVariables false
set_option linter.unusedSimpArgs false
namespace Go.Proofs.YtignanmmgaldeaaGreatDoor.CongM
open Go.RowKit Go.Proofs.YtignanmmgaldeaaGreatDoor.RefP Go.Proofs.YtignanmmgaldeaaGreatDoor.PCongI Go.Proofs.YtignanmmgaldeaaGreatDoorW.PrintWords Go.Proofs.YtignanmmgaldeaaGreatDoorW.PrintLast
theorem make_val(m r:ByteArray)(hm:m.size≤1000000)(hr:r.size≤1000000)(k:Nat)(hk:5≤k):jE.f k m r=some (if iZ m r=0 then((encC (some (cls 100 (aV m) (aV r)))).1,(encC (some (cls 100 (aV m) (aV r)))).2.1,(encC (some (cls 100 (aV m) (aV r)))).2.2,0) else(false,⟨#[]⟩,⟨#[]⟩,iZ m r)):=by
 obtain⟨k,rfl⟩:∃j,k=j+4:=⟨k-4,by omega⟩
 have b1:iQ.f m=some (chkI m):=if_pos aFx;have b2:iQ.f r=some (chkI r):=if_pos aFx;unfold jE.f iZ;rw[Option.bind_some,show(([m,r]:List ByteArray).length:Int)=2 from rfl,jE.l0,if_pos aG0,if_pos aG0,if_pos (show(0:Int)<(([m,r]:List ByteArray).length:Int) from by simp),show rdOf ByteArray.empty [m,r] 0=m from rfl,b1,Option.bind_some]
 by_cases h1:chkI m=0
 ·rw[if_pos h1,if_pos h1,show wrap64 ((0:Int)+1)=1 from by decide +kernel,jE.l0,if_pos aG0,if_pos aG0,if_pos (show(1:Int)<(([m,r]:List ByteArray).length:Int) from by simp),show rdOf ByteArray.empty [m,r] 1=r from rfl,b2,Option.bind_some]
  by_cases h2:chkI r=0
  ·obtain⟨h3,h4⟩:=xU h1
   obtain⟨h5,h6⟩:=xU h2;obtain⟨x,rfl⟩:=lU m h3;obtain⟨y,rfl⟩:=lU r h5;have bx:Bd 4096 x:=oN _ (by rw[←kV];exact h4);have by':Bd 4096 y:=oN _ (by rw[←kV];exact h6)
   rw[if_pos h2,if_pos h2,show wrap64 ((1:Int)+1)=2 from by decide +kernel,jE.l0,if_neg aG0,tV bx by' aFx aFx,Option.bind_some,bC,bC]
  ·rw[if_neg h2,if_neg h2]
 ·rw[if_neg h1,if_neg h1,if_neg h1]
end Go.Proofs.YtignanmmgaldeaaGreatDoor.CongM
end
section
set_option linter.unusedVariables false
set_option linter.unusedSimpArgs false
namespace Go.Proofs.YtignanmmgaldeaaGreatDoor
open Go.RowKit Go.Proofs.YtignanmmgaldeaaGreatDoor.RefP Go.Proofs.YtignanmmgaldeaaGreatDoor.PCongI Go.Proofs.YtignanmmgaldeaaGreatDoor.CongM Go.Proofs.YtignanmmgaldeaaGreatDoorW.PrintWords Go.Proofs.YtignanmmgaldeaaGreatDoorW.PrintLast
def mkC(m r:ByteArray):Bool×ByteArray×ByteArray×Int:=if iZ m r=0 then((encC (some (cls 100 (aV m) (aV r)))).1,(encC (some (cls 100 (aV m) (aV r)))).2.1,(encC (some (cls 100 (aV m) (aV r)))).2.2,0) else(false,⟨#[]⟩,⟨#[]⟩,iZ m r)
def rP.f(a0 a1:ByteArray):Option (Bool×ByteArray×ByteArray×Int):=if a0.size≤1000000∧a1.size≤1000000 then some (mkC a0 a1) else none
theorem rP.calls(a0 a1:ByteArray)(b1:Bool)(s2:ByteArray)(s3:ByteArray)(i4:Int)(w:World)(hG:GW w)(h:rP.f a0 a1=some (b1,s2,s3,i4)) :
 Calls Tryz.prog 58 #[.string a0,.string a1] w fun e w'=>e= .returned (.tuple #[.agg #[.bool b1,.string s2,.string s3],.int .i64 i4])∧Below w.heap.size w w':=by
 unfold rP.f at h
 split at h
 ·rename_i hs
  unfold mkC at h;rw[←make_val a0 a1 hs.1 hs.2 5 (Nat.le_refl _)] at h;exact jE.calls 5 a0 a1 b1 s2 s3 i4 w hG h
 ·cases h
def yE.f(a0:ByteArray):Option (Bool×ByteArray×ByteArray×Int):=if a0.size≤1000000 then some (mkC ⟨#[48]⟩ a0) else none
theorem yE.calls(a0:ByteArray)(b1:Bool)(s2 s3:ByteArray)(i4:Int)(w:World)(hG:GW w)(h:yE.f a0=some (b1,s2,s3,i4)) :
 Calls Tryz.prog 56 #[.string a0] w fun e w'=>e= .returned (.tuple #[.agg #[.bool b1,.string s2,.string s3],.int .i64 i4])∧Below w.heap.size w w':=by
 unfold yE.f at h
 split at h
 ·rename_i hs
  have e:xX.f 5 a0=some (mkC ⟨#[48]⟩ a0):=by
   unfold xX.f;rw[make_val ⟨#[48]⟩ a0 aG0 hs 5 (Nat.le_refl _),Option.bind_some];rfl
  rw[←e] at h;exact xX.calls 5 a0 b1 s2 s3 i4 w hG h
 ·cases h
end Go.Proofs.YtignanmmgaldeaaGreatDoor
end
section
set_option linter.unusedVariables false
set_option linter.unusedSimpArgs false
set_option maxHeartbeats 8000000
set_option maxRecDepth 100000
namespace Go.Proofs.YtignanmmgaldeaaGreatDoor.PRefQ
open Go.RowKit Go.Proofs.YtignanmmgaldeaaGreatDoorW.PrintWords Go.Proofs.YtignanmmgaldeaaGreatDoorW.PrintLast Go.Proofs.YtignanmmgaldeaaGreatDoorW.PrintMore
attribute [local go_sem] dQ dR eH eP
def jT.f(k:Nat)(a0:ByteArray):Option (Bool×ByteArray×ByteArray):=(bJ.f k (⟨#[48]⟩:ByteArray) a0).bind fun bt115=>(some (bt115.1,bt115.2.1,bt115.2.2))
theorem jT.calls(k:Nat)(a0:ByteArray)(r1:Bool)(r2:ByteArray)(r3:ByteArray)(w:World)(h:jT.f k a0=some (r1,r2,r3)) :
 Calls Tryz.prog 126 #[.string a0] w fun e w'=>e= .returned (.agg #[.bool r1,.string r2,.string r3])∧Below w.heap.size w w':=by
 have hu36:=Tryz.underlying36;have HB:=aA.mk (Below.refl w.heap.size w);have H:((bJ.f k (⟨#[48]⟩:ByteArray) a0).bind fun o5=>(some (o5.1,o5.2.1,o5.2.2)))=some (r1,r2,r3):=h;clear h;obtain⟨⟨o7,o8,o9⟩,A2,H⟩:=bi H;try dsimp only at H
 simp only[Option.some.injEq,Prod.mk.injEq] at H;obtain⟨rfl,rfl,rfl⟩:=H;go_enter Tryz.func126,Tryz.ntmps126
 go_wp2_with(first|((with_reducible refine aG (N:=2) rfl ?_);refine bx_ 2 36 #[.bool false,.string (⟨#[]⟩:ByteArray),.string (⟨#[]⟩:ByteArray)] (h:= ?_);intro y8 hg w3 o6 hb;have l9:=aA.mk (o6);have y9:=pkG HB hg;have C9:=y9;replace HB:=pkB HB hb;clear hb o6 hg)|((with_reducible refine aC (f:=127) rfl ?_);refine gM 4 Tryz.func127 (bJ.calls (w:=_) (h:=A2.out)) (h:= ?_);intro w4 hb;replace l9:=pkK l9 hb;replace HB:=pkB HB hb;try clear hb;obtain⟨⟨D5,D6,D7⟩,D8,D9,E8⟩:=pk3 l9))
 refine bodyPost_ret (results_cell_row rfl _ _ y8 36 #[.bool o7,.string o8,.string o9] (0,0) _ rfl (pkS3 l9) Tryz.underlying36 rfl (by kernel_rfl)) rfl ?_;exact pkE HB
def sF.f(k:Nat)(a0:ByteArray):Option (Bool×ByteArray×ByteArray×Int):=(kM.f a0).bind fun t119=>(if t119=0 then((jT.f k a0).bind fun bt120=>(some (bt120.1,bt120.2.1,bt120.2.2,0))) else(some (false,(⟨#[]⟩:ByteArray),(⟨#[]⟩:ByteArray),t119)))
theorem sF.calls(k:Nat)(a0:ByteArray)(r1:Bool)(r2:ByteArray)(r3:ByteArray)(r4:Int)(w:World)(h:sF.f k a0=some (r1,r2,r3,r4)) :
 Calls Tryz.prog 57 #[.string a0] w fun e w'=>e= .returned (.tuple #[.agg #[.bool r1,.string r2,.string r3],.int .i64 r4])∧Below w.heap.size w w':=by
 have hu36:=Tryz.underlying36;have HB:=aA.mk (Below.refl w.heap.size w);have H:((kM.f a0).bind fun o5=>(if o5=0 then((jT.f k a0).bind fun o8=>(some (o8.1,o8.2.1,o8.2.2,0))) else(some (false,(⟨#[]⟩:ByteArray),(⟨#[]⟩:ByteArray),o5))))=some (r1,r2,r3,r4):=h;clear h;obtain⟨o5,A2,H⟩:=bi H;try dsimp only at H
 go_enter Tryz.func57,Tryz.ntmps57
 by_cases c3:o5=0
 ·rw[if_pos c3] at H
  obtain⟨y8,y9⟩:=bT c3;clear c3;obtain⟨⟨C9,D5,D6⟩,A4,H⟩:=bi H;try dsimp only at H
  simp only[Option.some.injEq,Prod.mk.injEq] at H;obtain⟨rfl,rfl,rfl,rfl⟩:=H
  go_wp2_with(first|((with_reducible refine aG (N:=2) rfl ?_);refine bx_ 2 36 #[.bool false,.string (⟨#[]⟩:ByteArray),.string (⟨#[]⟩:ByteArray)] (h:= ?_);intro o6 hg w5 o7 hb;have l9:=aA.mk (o7);have o9:=pkG HB hg;have D7:=o9;replace HB:=pkB HB hb;clear hb o7 hg)|((with_reducible refine aC (f:=115) rfl ?_);refine gl_ 6 Tryz.func115 #[.string a0] (h:= ?_);(with_reducible refine(kM.calls a0 o5 _ A2.out).mono ?_);rintro e w' ⟨rfl,⟨nd,rfl⟩⟩;refine⟨_,rfl,?_⟩;(try(rw[jS w5];generalize hq_:World.drewN w5 _=w5;have n0_:aA (w5.heap[o6]? =some (.cells #[.bool false,.string (⟨#[]⟩:ByteArray),.string (⟨#[]⟩:ByteArray)] 36 (0,0))):=⟨by rw[←hq_];exact(pkW l9)⟩;have n1_:aA (Below w.heap.size w w5):=⟨by rw[←hq_];exact(pkL HB)⟩;clear l9 HB hq_;have l9:=n0_;have HB:=n1_;clear n0_ n1_)))|((with_reducible refine aC (f:=126) rfl ?_);refine gM 12 Tryz.func126 (jT.calls (w:=_) (h:=A4.out)) (h:= ?_);intro w6 hb;replace l9:=pkK l9 hb;replace HB:=pkB HB hb;try clear hb;obtain⟨⟨D8,D9,E8⟩,F5,F6,F7⟩:=pk3 l9))
  refine bodyPost_ret (gW rfl _ _ o6 36 #[.bool C9,.string D5,.string D6] (0,0) _ rfl (pkS3 l9) Tryz.underlying36 rfl (by kernel_rfl)) rfl ?_;exact pkE HB
 ·rw[if_neg c3] at H
  obtain⟨y8,y9⟩:=bF c3;simp only[Option.some.injEq,Prod.mk.injEq] at H;obtain⟨rfl,rfl,rfl,rfl⟩:=H
  go_wp2_with(first|((with_reducible refine aG (N:=2) rfl ?_);refine bx_ 2 36 #[.bool false,.string (⟨#[]⟩:ByteArray),.string (⟨#[]⟩:ByteArray)] (h:= ?_);intro o6 hg w8 o7 hb;have l9:=aA.mk (o7);have o9:=pkG HB hg;have D7:=o9;replace HB:=pkB HB hb;clear hb o7 hg)|((with_reducible refine aC (f:=115) rfl ?_);refine gl_ 6 Tryz.func115 #[.string a0] (h:= ?_);(with_reducible refine(kM.calls a0 o5 _ A2.out).mono ?_);rintro e w' ⟨rfl,⟨nd,rfl⟩⟩;refine⟨_,rfl,?_⟩;(try(rw[jS w8];generalize hq_:World.drewN w8 _=w8;have n0_:aA (w8.heap[o6]? =some (.cells #[.bool false,.string (⟨#[]⟩:ByteArray),.string (⟨#[]⟩:ByteArray)] 36 (0,0))):=⟨by rw[←hq_];exact(pkW l9)⟩;have n1_:aA (Below w.heap.size w w8):=⟨by rw[←hq_];exact(pkL HB)⟩;clear l9 HB hq_;have l9:=n0_;have HB:=n1_;clear n0_ n1_));obtain⟨⟨F8,F9,G5⟩,G6,G7,G8⟩:=pk3 l9))
  refine bodyPost_ret (gW rfl _ _ o6 36 #[.bool false,.string (⟨#[]⟩:ByteArray),.string (⟨#[]⟩:ByteArray)] (0,0) _ rfl (pkS3 l9) Tryz.underlying36 rfl (by kernel_rfl)) rfl ?_;exact pkE HB
def qQ.f(k:Nat)(a0:ByteArray)(a1:ByteArray):Option (Bool×ByteArray×ByteArray×Int):=(tY.f a0 a1).bind fun t124=>(if t124=0 then((bJ.f k a0 a1).bind fun bt125=>(some (bt125.1,bt125.2.1,bt125.2.2,0))) else(some (false,(⟨#[]⟩:ByteArray),(⟨#[]⟩:ByteArray),t124)))
theorem qQ.calls(k:Nat)(a0:ByteArray)(a1:ByteArray)(r1:Bool)(r2:ByteArray)(r3:ByteArray)(r4:Int)(w:World)(h:qQ.f k a0 a1=some (r1,r2,r3,r4)) :
 Calls Tryz.prog 59 #[.string a0,.string a1] w fun e w'=>e= .returned (.tuple #[.agg #[.bool r1,.string r2,.string r3],.int .i64 r4])∧Below w.heap.size w w':=by
 have hu36:=Tryz.underlying36;have HB:=aA.mk (Below.refl w.heap.size w);have H:((tY.f a0 a1).bind fun o5=>(if o5=0 then((bJ.f k a0 a1).bind fun o8=>(some (o8.1,o8.2.1,o8.2.2,0))) else(some (false,(⟨#[]⟩:ByteArray),(⟨#[]⟩:ByteArray),o5))))=some (r1,r2,r3,r4):=h;clear h;obtain⟨o5,A3,H⟩:=bi H;try dsimp only at H
 go_enter Tryz.func59,Tryz.ntmps59
 by_cases c4:o5=0
 ·rw[if_pos c4] at H
  obtain⟨y8,y9⟩:=bT c4;clear c4;obtain⟨⟨C9,D5,D6⟩,A5,H⟩:=bi H;try dsimp only at H
  simp only[Option.some.injEq,Prod.mk.injEq] at H;obtain⟨rfl,rfl,rfl,rfl⟩:=H
  go_wp2_with(first|((with_reducible refine aG (N:=4) rfl ?_);refine bx_ 4 36 #[.bool false,.string (⟨#[]⟩:ByteArray),.string (⟨#[]⟩:ByteArray)] (h:= ?_);intro o6 hg w6 o7 hb;have l9:=aA.mk (o7);have o9:=pkG HB hg;have D7:=o9;replace HB:=pkB HB hb;clear hb o7 hg)|((with_reducible refine aC (f:=75) rfl ?_);refine gl_ 9 Tryz.func75 #[.string a0,.string a1] (h:= ?_);(with_reducible refine(tY.calls a0 a1 o5 _ A3.out).mono ?_);rintro e w' ⟨rfl,⟨nd,rfl⟩⟩;refine⟨_,rfl,?_⟩;(try(rw[jS w6];generalize hq_:World.drewN w6 _=w6;have n0_:aA (w6.heap[o6]? =some (.cells #[.bool false,.string (⟨#[]⟩:ByteArray),.string (⟨#[]⟩:ByteArray)] 36 (0,0))):=⟨by rw[←hq_];exact(pkW l9)⟩;have n1_:aA (Below w.heap.size w w6):=⟨by rw[←hq_];exact(pkL HB)⟩;clear l9 HB hq_;have l9:=n0_;have HB:=n1_;clear n0_ n1_)))|((with_reducible refine aC (f:=127) rfl ?_);refine gM 16 Tryz.func127 (bJ.calls (w:=_) (h:=A5.out)) (h:= ?_);intro w7 hb;replace l9:=pkK l9 hb;replace HB:=pkB HB hb;try clear hb;obtain⟨⟨D8,D9,E8⟩,F5,F6,F7⟩:=pk3 l9))
  refine bodyPost_ret (gW rfl _ _ o6 36 #[.bool C9,.string D5,.string D6] (0,0) _ rfl (pkS3 l9) Tryz.underlying36 rfl (by kernel_rfl)) rfl ?_;exact pkE HB
 ·rw[if_neg c4] at H
  obtain⟨y8,y9⟩:=bF c4;simp only[Option.some.injEq,Prod.mk.injEq] at H;obtain⟨rfl,rfl,rfl,rfl⟩:=H
  go_wp2_with(first|((with_reducible refine aG (N:=4) rfl ?_);refine bx_ 4 36 #[.bool false,.string (⟨#[]⟩:ByteArray),.string (⟨#[]⟩:ByteArray)] (h:= ?_);intro o6 hg w9 o7 hb;have l9:=aA.mk (o7);have o9:=pkG HB hg;have D7:=o9;replace HB:=pkB HB hb;clear hb o7 hg)|((with_reducible refine aC (f:=75) rfl ?_);refine gl_ 9 Tryz.func75 #[.string a0,.string a1] (h:= ?_);(with_reducible refine(tY.calls a0 a1 o5 _ A3.out).mono ?_);rintro e w' ⟨rfl,⟨nd,rfl⟩⟩;refine⟨_,rfl,?_⟩;(try(rw[jS w9];generalize hq_:World.drewN w9 _=w9;have n0_:aA (w9.heap[o6]? =some (.cells #[.bool false,.string (⟨#[]⟩:ByteArray),.string (⟨#[]⟩:ByteArray)] 36 (0,0))):=⟨by rw[←hq_];exact(pkW l9)⟩;have n1_:aA (Below w.heap.size w w9):=⟨by rw[←hq_];exact(pkL HB)⟩;clear l9 HB hq_;have l9:=n0_;have HB:=n1_;clear n0_ n1_));obtain⟨⟨F8,F9,G5⟩,G6,G7,G8⟩:=pk3 l9))
  refine bodyPost_ret (gW rfl _ _ o6 36 #[.bool false,.string (⟨#[]⟩:ByteArray),.string (⟨#[]⟩:ByteArray)] (0,0) _ rfl (pkS3 l9) Tryz.underlying36 rfl (by kernel_rfl)) rfl ?_;exact pkE HB
end Go.Proofs.YtignanmmgaldeaaGreatDoor.PRefQ
end
section
set_option linter.unusedVariables false
set_option linter.unusedSimpArgs false
namespace Go.Proofs.YtignanmmgaldeaaGreatDoor.RefV
open Go.RowKit Go.Proofs.YtignanmmgaldeaaGreatDoor Go.Proofs.YtignanmmgaldeaaGreatDoor.PRefQ Go.Proofs.YtignanmmgaldeaaGreatDoor.RefP Go.Proofs.YtignanmmgaldeaaGreatDoor.CongM Go.Proofs.YtignanmmgaldeaaGreatDoorW.PrintWords
theorem make_rv(m r:ByteArray)(hm:m.size≤1000000)(hr:r.size≤1000000)(k:Nat):qQ.f (k+1) m r=some (mkC m r):=by
 have e:tY.f m r=some (iZ m r):=if_pos aFx;unfold qQ.f mkC;rw[e,Option.bind_some]
 by_cases h:iZ m r=0
 ·rw[if_pos h,if_pos h]
  unfold iZ at h
  have h1:chkI m=0:=by
   by_cases q:chkI m=0
   ·exact q
   ·rw[if_neg q] at h;exact absurd h q
  have h2:chkI r=0:=by rw[if_pos h1] at h;exact h
  obtain⟨h3,h4⟩:=xU h1;obtain⟨h5,h6⟩:=xU h2;obtain⟨x,rfl⟩:=lU m h3;obtain⟨y,rfl⟩:=lU r h5;have bx:Bd 4096 x:=oN _ (by rw[←kV];exact h4);have by':Bd 4096 y:=oN _ (by rw[←kV];exact h6)
  rw[qZ bx by' aFx aFx,Option.bind_some,bC,bC]
 ·rw[if_neg h,if_neg h]
theorem chk48:chkI (⟨#[48]⟩:ByteArray)=0:=by decide +kernel
theorem of_rv(a:ByteArray)(ha:a.size≤1000000)(k:Nat):sF.f (k+1) a=some (mkC ⟨#[48]⟩ a):=by
 have e:kM.f a=some (chkI a):=if_pos aFx;have e2:iZ ⟨#[48]⟩ a=chkI a:=by unfold iZ;rw[if_pos chk48]
 unfold sF.f mkC;rw[e,Option.bind_some,e2]
 by_cases h:chkI a=0
 ·rw[if_pos h,if_pos h]
  obtain⟨h5,h6⟩:=xU h;obtain⟨y,rfl⟩:=lU a h5;have by':Bd 4096 y:=oN _ (by rw[←kV];exact h6)
  have z0:Bd 4096 0:=(show Bd 1 0 from Nat.pow_pos aFx).mono aFx;unfold jT.f;rw[show(⟨#[48]⟩:ByteArray)=text 0 from vC.symm,qZ z0 by' aFx aFx,Option.bind_some,Option.bind_some,bC,bC]
 ·rw[if_neg h,if_neg h]
end Go.Proofs.YtignanmmgaldeaaGreatDoor.RefV
end
section
set_option linter.unusedVariables false
set_option linter.unusedSimpArgs false
namespace Go.Proofs.YtignanmmgaldeaaGreatDoor
open Go.RowKit Go.Proofs.YtignanmmgaldeaaGreatDoor.PRefQ Go.Proofs.YtignanmmgaldeaaGreatDoor.RefV Go.Proofs.YtignanmmgaldeaaGreatDoor.RefP Go.Proofs.YtignanmmgaldeaaGreatDoor.CongM Go.Proofs.YtignanmmgaldeaaGreatDoorW.PrintWords
def zB.f(a0:ByteArray):Option (Bool×ByteArray×ByteArray×Int):=yE.f a0
theorem zB.calls(a0:ByteArray)(b1:Bool)(s2 s3:ByteArray)(i4:Int)(w:World)(h:zB.f a0=some (b1,s2,s3,i4)) :
 Calls Tryz.prog 57 #[.string a0] w fun e w'=>e= .returned (.tuple #[.agg #[.bool b1,.string s2,.string s3],.int .i64 i4])∧Below w.heap.size w w':=by
 unfold zB.f yE.f at h
 split at h
 ·rename_i hs
  exact sF.calls 5 a0 b1 s2 s3 i4 w (by rw[of_rv a0 hs 4];exact h)
 ·cases h
def tZ.f(a0 a1:ByteArray):Option (Bool×ByteArray×ByteArray×Int):=rP.f a0 a1
theorem tZ.calls(a0 a1:ByteArray)(b1:Bool)(s2 s3:ByteArray)(i4:Int)(w:World)(h:tZ.f a0 a1=some (b1,s2,s3,i4)) :
 Calls Tryz.prog 59 #[.string a0,.string a1] w fun e w'=>e= .returned (.tuple #[.agg #[.bool b1,.string s2,.string s3],.int .i64 i4])∧Below w.heap.size w w':=by
 unfold tZ.f rP.f at h
 split at h
 ·rename_i hs
  exact qQ.calls 5 a0 a1 b1 s2 s3 i4 w (by rw[make_rv a0 a1 hs.1 hs.2 4];exact h)
 ·cases h
end Go.Proofs.YtignanmmgaldeaaGreatDoor
end
section
set_option linter.unusedVariables false
set_option linter.unusedSimpArgs false
namespace Go.Proofs.YtignanmmgaldeaaGreatDoor.PCongruenceMakes
open Go.RowKit Go.Proofs.YtignanmmgaldeaaGreatDoorW.PrintWords Go.Proofs.YtignanmmgaldeaaGreatDoorW.PrintLast Go.Proofs.YtignanmmgaldeaaGreatDoorW.PrintMore
attribute [local go_sem] dQ dR eH eP
def errW:Option Int→Value
 |none=> .nilIface
 |some c=> .iface 0 (.int .i64 c)
theorem dZ:errW none= .nilIface:=rfl
theorem eF(c:Int):errW (some c)= .iface 0 (.int .i64 c):=rfl
end Go.Proofs.YtignanmmgaldeaaGreatDoor.PCongruenceMakes
end
section
set_option linter.unusedVariables false
set_option linter.unusedSimpArgs false
namespace Go.Proofs.YtignanmmgaldeaaGreatDoor.PCongruenceMakes
open Go.RowKit Go.Proofs.YtignanmmgaldeaaGreatDoorW.PrintWords Go.Proofs.YtignanmmgaldeaaGreatDoorW.PrintLast Go.Proofs.YtignanmmgaldeaaGreatDoorW.PrintMore
attribute [local go_sem] dQ dR eH eP
theorem yJ(d:Nat)(w:World)(x0 y0:Bool)(x1 y1:ByteArray)(x2 y2:ByteArray) :
 (Op.equalIn (d+2) 36 (.agg #[.bool x0,.string x1,.string x2]) (.agg #[.bool y0,.string y1,.string y2])).run Tryz.prog w= .ok (x0==y0&&(x1.toList==y1.toList&&(x2.toList==y2.toList))) w:=by
 refine aD5 Tryz.underlying36 (by kernel_rfl) ?_;refine qY (by rfl) (by go_simp;rfl) (by go_simp;rfl) (by go_simp) ?_;refine qY (by rfl) (by go_simp;rfl) (by go_simp;rfl) (by go_simp) ?_;exact aB5 (by rfl) (by go_simp;rfl) (by go_simp;rfl) (by go_simp)
end Go.Proofs.YtignanmmgaldeaaGreatDoor.PCongruenceMakes
end
section
set_option linter.unusedVariables false
set_option linter.unusedSimpArgs false
set_option maxHeartbeats 8000000
set_option maxRecDepth 100000
namespace Go.Proofs.YtignanmmgaldeaaGreatDoor.PCongruenceMakes
open Go.Proofs.YtignanmmgaldeaaGreatDoor.PLawB
open Go.RowKit Go.Proofs.YtignanmmgaldeaaGreatDoorW.PrintWords Go.Proofs.YtignanmmgaldeaaGreatDoorW.PrintLast Go.Proofs.YtignanmmgaldeaaGreatDoorW.PrintMore
attribute [local go_sem] dQ dR eH eP
attribute [local go_sem high] yJ
def mJ.f(a0:ByteArray)(a1:ByteArray):Option (Bool):=(jA.f ([]:List (S36)) (([a0,a1]:List ByteArray))).bind fun t104=>(if t104=true then((yE.f a1).bind fun bt106=>((zB.f a1).bind fun bt111=>((rP.f a0 a1).bind fun bt116=>((tZ.f a0 a1).bind fun bt121=>((fC.f).bind fun t126=>(if t126=true then(if(bt106.1==bt111.1&&(bt106.2.1.toList==bt111.2.1.toList&&(bt106.2.2.1.toList==bt111.2.2.1.toList)))=true then(if bt106.2.2.2=bt111.2.2.2 then(if(bt116.1==bt121.1&&(bt116.2.1.toList==bt121.2.1.toList&&(bt116.2.2.1.toList==bt121.2.2.1.toList)))=true then(some (bt116.2.2.2==bt121.2.2.2)) else(some false)) else(some false)) else(some false)) else(some false))))))) else((fC.f).bind fun t105=>(some t105)))
theorem mJ.calls(a0:ByteArray)(a1:ByteArray)(r:Bool)(w:World)(hG:GW w)(hrT:r=true)(h:mJ.f a0 a1=some r) :
 Calls Tryz.prog 11 #[.string a0,.string a1] w fun e w'=>e= .returned (.bool r)∧Below w.heap.size w w':=by
 have HG:=aA.mk hG;clear hG;have hu36:=Tryz.underlying36;have HB:=aA.mk (Below.refl w.heap.size w);have H:((jA.f ([]:List (S36)) (([a0,a1]:List ByteArray))).bind fun G9=>(if G9=true then((yE.f a1).bind fun F9=>((zB.f a1).bind fun G5=>((rP.f a0 a1).bind fun G6=>((tZ.f a0 a1).bind fun G7=>((fC.f).bind fun H5=>(if H5=true then(if(F9.1==G5.1&&(F9.2.1.toList==G5.2.1.toList&&(F9.2.2.1.toList==G5.2.2.1.toList)))=true then(if F9.2.2.2=G5.2.2.2 then(if(G6.1==G7.1&&(G6.2.1.toList==G7.2.1.toList&&(G6.2.2.1.toList==G7.2.2.1.toList)))=true then(some (G6.2.2.2==G7.2.2.2)) else(some false)) else(some false)) else(some false)) else(some false))))))) else((fC.f).bind fun I5=>(some I5))))=some r:=h;clear h;obtain⟨H6,H7⟩:∃y_:List ByteArray,y_=(([a0,a1]:List ByteArray)):=⟨_,rfl⟩
 replace H:((jA.f ([]:List (S36)) H6).bind fun G9=>(if G9=true then((yE.f a1).bind fun F9=>((zB.f a1).bind fun G5=>((rP.f a0 a1).bind fun G6=>((tZ.f a0 a1).bind fun G7=>((fC.f).bind fun H5=>(if H5=true then(if(F9.1==G5.1&&(F9.2.1.toList==G5.2.1.toList&&(F9.2.2.1.toList==G5.2.2.1.toList)))=true then(if F9.2.2.2=G5.2.2.2 then(if(G6.1==G7.1&&(G6.2.1.toList==G7.2.1.toList&&(G6.2.2.1.toList==G7.2.2.1.toList)))=true then(some (G6.2.2.2==G7.2.2.2)) else(some false)) else(some false)) else(some false)) else(some false))))))) else((fC.f).bind fun I5=>(some I5))))=some r:=by first|(rw[H7];with_reducible exact H)|(have H2_:=(Option.bind_some _ _).symm.trans H;rw[H7];with_reducible exact H2_)|(have H2_:=(Option.bind_some _ _).symm.trans H;with_reducible exact H2_)|with_reducible exact H|(rw[H7];exact H)|exact H
 have I7:=aA.mk H7;clear H7;obtain⟨G9,A3,H⟩:=bi H;try dsimp only at H
 by_cases c4:G9=true
 ·subst c4
  rw[if_pos rfl] at H;obtain⟨⟨y9,C9,D5,J6⟩,A5,H⟩:=bi H;try dsimp only at H
  obtain⟨⟨D6,D7,D8,J7⟩,A6,H⟩:=bi H;try dsimp only at H
  obtain⟨⟨D9,E8,F5,U3⟩,A7,H⟩:=bi H;try dsimp only at H
  obtain⟨⟨F6,F7,F8,U4⟩,A8,H⟩:=bi H;try dsimp only at H
  obtain⟨H5,A9,H⟩:=bi H;try dsimp only at H
  by_cases I8:H5=true
  ·subst I8
   rw[if_pos rfl] at H
   by_cases o8:(y9==D6&&(C9.toList==D7.toList&&(D5.toList==D8.toList)))=true
   ·rw[if_pos o8] at H
    have J8:(y9==D6&&(C9.toList==D7.toList&&(D5.toList==D8.toList)))=true:=o8
    (try(have J9:decide (y9=D6&&(C9.toList==D7.toList&&(D5.toList==D8.toList)))=true:=by simpa using o8))
    (try(have L6:(y9==D6&&(C9.toList==D7.toList&&(D5.toList==D8.toList)))=true:=by simpa using o8))
    clear o8
    by_cases H8:J6=J7
    ·rw[if_pos H8] at H
     obtain⟨L8,L9⟩:=bT H8;clear H8
     by_cases o9:(D9==F6&&(E8.toList==F7.toList&&(F5.toList==F8.toList)))=true
     ·rw[if_pos o9] at H
      have N7:(D9==F6&&(E8.toList==F7.toList&&(F5.toList==F8.toList)))=true:=o9
      (try(have N8:decide (D9=F6&&(E8.toList==F7.toList&&(F5.toList==F8.toList)))=true:=by simpa using o9))
      (try(have N9:(D9==F6&&(E8.toList==F7.toList&&(F5.toList==F8.toList)))=true:=by simpa using o9))
      clear o9;obtain rfl:=Option.some.inj H;go_enter Tryz.func11,Tryz.ntmps11
      go_wp2_with(first|((with_reducible refine aG (N:=15) rfl ?_);refine Kd.sQ Kd.string _ 22 ?hg (N:=15) ?hd (xs:=([a0,a1]:List ByteArray)) (inner:= [.string a0,.string a1]) (ok:=fun _=>True) (okp:=fun _=>True) ?hr ?hp (fun _ hk=>hk) trivial (Below.refl _ _) (Nat.le_refl _) aFz ?_;(case hd=>rfl);(case hg=>rfl);(case hr=>first|(go_simp;done)|(go_simp;rfl));(case hp=>exact(Reps.one (show Kd.M Kd.string _ _ _ a0 [.string a0] from rfl) (Reps.one (show Kd.M Kd.string _ _ _ a1 [.string a1] from rfl) (Reps.none _ _))));intro v102 U5 H9 hb hg_ hnew_;clear hg_ hnew_;(first|rw[←I7.out] at H9|(simp only[Int.reduceToNat] at H9;rw[←I7.out] at H9));have l9:=aA.mk (Kd.gU H9 (dJ (pkL HB)));replace HB:=pkB HB hb;clear hb H9;obtain⟨O0,O1,O3⟩:=Kd.fA l9.out;subst O3)|((with_reducible refine aC (f:=34) rfl ?_);refine gl_ 16 Tryz.func34 #[.slice none 0 0,.slice O0 H6.length O1] (h:= ?_);(refine(jA.calls _ _ ([]:List (S36)) _ _ H6 true _ ?side1 ?side2 ?side3 ?side4 A3.out).mono ?_);(case side1=>exact Kd.C_nil _ _);(case side2=>exact Nat.le_refl _);(case side3=>repeat(first|exact(Kd.dB l9.out).2.2|(with_reducible refine Kd.gI ?_ _)|(with_reducible refine Kd.gJ ?_ _)|(with_reducible refine Kd.iJ ?_)));(case side4=>exact(Kd.dB l9.out).2.1);rintro e U6 ⟨rfl,hb⟩;refine⟨_,rfl,?_⟩;replace l9:=aA.mk (Kd.dD (by(with_reducible repeat(first|apply Kd.aQ|apply Kd.aN|apply Kd.aW));exact l9.out) hb);replace HB:=pkB HB hb;try clear hb)|((with_reducible refine aC (f:=56) rfl ?_);refine gM 21 Tryz.func56 (yE.calls (hG:=HG.out.below (pkL HB)) (h:=A5.out)) (h:= ?_);intro U7 hb;replace l9:=aA.mk (Kd.dD (by(with_reducible repeat(first|apply Kd.aQ|apply Kd.aN|apply Kd.aW));exact l9.out) hb);replace HB:=pkB HB hb;try clear hb)|((with_reducible refine aG (N:=5) rfl ?_);refine bx_ 5 36 #[.bool false,.string (⟨#[]⟩:ByteArray),.string (⟨#[]⟩:ByteArray)] (h:= ?_);intro I9 hg U8 y8 hb;have n0_:=aA.mk (Kd.dD (by(with_reducible repeat(first|apply Kd.aQ|apply Kd.aN|apply Kd.aW));exact l9.out) hb);have n1_:=pkB HB hb;have n2_:=aA.mk (y8);have n3_:=pkG HB hg;have n4_:=pkG HB hg;clear l9;clear HB;have l9:=n0_;have HB:=n1_;have o5:=n2_;have U9:=n3_;have V3:=n4_;clear n0_ n1_ n2_ n3_ n4_;clear hb y8 hg;obtain⟨⟨V4,V5,V6⟩,V7,V8,V9⟩:=pk3 o5)|((with_reducible refine aC (f:=57) rfl ?_);refine gM 26 Tryz.func57 (zB.calls (w:=_) (h:=A6.out)) (h:= ?_);intro X4 hb;have n0_:=aA.mk (Kd.dD (by(with_reducible repeat(first|apply Kd.aQ|apply Kd.aN|apply Kd.aW));exact(Kd.dK (Kd.iY (p:=⟨I9,2,none⟩) (Kd.iY (p:=⟨I9,1,none⟩) (Kd.iY (p:=⟨I9,0,none⟩) (Kd.R_types l9.out o5.out aG0) (fun _ hk=>hk.2) (.bool y9)) (fun _ hk=>hk.2) (.string C9)) (fun _ hk=>hk.2) (.string D5)) (fun _ h_=>h_.1))) hb);have n1_:=aA.mk (iT (g:=I9) (o:= .cells #[.bool y9,.string C9,.string D5] 36 (0,0)) (pkS3 o5) hb);have n2_:=pkB HB hb;clear l9;clear o5;clear HB;have l9:=n0_;have o5:=n1_;have HB:=n2_;clear n0_ n1_ n2_;try clear hb)|((with_reducible refine aG (N:=7) rfl ?_);refine bx_ 7 36 #[.bool false,.string (⟨#[]⟩:ByteArray),.string (⟨#[]⟩:ByteArray)] (h:= ?_);intro J3 hg X5 y8 hb;have n0_:=aA.mk (Kd.dD (by(with_reducible repeat(first|apply Kd.aQ|apply Kd.aN|apply Kd.aW));exact l9.out) hb);have n1_:=pkK o5 hb;have n2_:=pkB HB hb;have n3_:=aA.mk (y8);have n4_:=pkG HB hg;have n5_:=pkG HB hg;have n6_:=pkN o5 hg;have n7_:=pkM o5 hg;clear l9;clear o5;clear HB;have l9:=n0_;have o5:=n1_;have HB:=n2_;have o6:=n3_;have X7:=n4_;have X8:=n5_;have O4:=n6_;have O5:=n7_;clear n0_ n1_ n2_ n3_ n4_ n5_ n6_ n7_;clear hb y8 hg;have X9:=O5.out;have Y0:=O4.out;obtain⟨⟨Y4,Y5,Y7⟩,Y8,Y9,Z7⟩:=pk3 o6)|((with_reducible refine aC (f:=58) rfl ?_);refine gM 32 Tryz.func58 (rP.calls (hG:=HG.out.below (pkL HB)) (h:=A7.out)) (h:= ?_);intro Z8 hb;have n0_:=aA.mk (Kd.dD (by(with_reducible repeat(first|apply Kd.aQ|apply Kd.aN|apply Kd.aW));exact(Kd.dK (Kd.iY (p:=⟨J3,2,none⟩) (Kd.iY (p:=⟨J3,1,none⟩) (Kd.iY (p:=⟨J3,0,none⟩) (Kd.R_types l9.out o6.out aG0) (fun _ hk=>hk.2) (.bool D6)) (fun _ hk=>hk.2) (.string D7)) (fun _ hk=>hk.2) (.string D8)) (fun _ h_=>h_.1))) hb);have n1_:=pkF o5 hb;have n2_:=aA.mk (iT (g:=J3) (o:= .cells #[.bool D6,.string D7,.string D8] 36 (0,0)) (pkS3 o6) hb);have n3_:=pkB HB hb;clear l9;clear o5;clear o6;clear HB;have l9:=n0_;have o5:=n1_;have o6:=n2_;have HB:=n3_;clear n0_ n1_ n2_ n3_;try clear hb)|((with_reducible refine aG (N:=9) rfl ?_);refine bx_ 9 36 #[.bool false,.string (⟨#[]⟩:ByteArray),.string (⟨#[]⟩:ByteArray)] (h:= ?_);intro J4 hg Z9 y8 hb;have n0_:=aA.mk (Kd.dD (by(with_reducible repeat(first|apply Kd.aQ|apply Kd.aN|apply Kd.aW));exact l9.out) hb);have n1_:=pkK o5 hb;have n2_:=pkK o6 hb;have n3_:=pkB HB hb;have n4_:=aA.mk (y8);have n5_:=pkG HB hg;have n6_:=pkG HB hg;have n7_:=pkN o5 hg;have n8_:=pkM o5 hg;have n9_:=pkN o6 hg;have n10_:=pkM o6 hg;clear l9;clear o5;clear o6;clear HB;have l9:=n0_;have o5:=n1_;have o6:=n2_;have HB:=n3_;have o7:=n4_;have ae:=n5_;have af:=n6_;have O6:=n7_;have O7:=n8_;have O8:=n9_;have O9:=n10_;clear n0_ n1_ n2_ n3_ n4_ n5_ n6_ n7_ n8_ n9_ n10_;clear hb y8 hg;have ag:=O7.out;have ah:=O6.out;have ai:=O9.out;have aj:=O8.out;obtain⟨⟨ak,au,ax⟩,ay,az,bn⟩:=pk3 o7)|((with_reducible refine aC (f:=59) rfl ?_);refine gM 38 Tryz.func59 (tZ.calls (w:=_) (h:=A8.out)) (h:= ?_);intro df hb;have n0_:=aA.mk (Kd.dD (by(with_reducible repeat(first|apply Kd.aQ|apply Kd.aN|apply Kd.aW));exact(Kd.dK (Kd.iY (p:=⟨J4,2,none⟩) (Kd.iY (p:=⟨J4,1,none⟩) (Kd.iY (p:=⟨J4,0,none⟩) (Kd.R_types l9.out o7.out aG0) (fun _ hk=>hk.2) (.bool D9)) (fun _ hk=>hk.2) (.string E8)) (fun _ hk=>hk.2) (.string F5)) (fun _ h_=>h_.1))) hb);have n1_:=pkF o5 hb;have n2_:=pkF o6 hb;have n3_:=aA.mk (iT (g:=J4) (o:= .cells #[.bool D9,.string E8,.string F5] 36 (0,0)) (pkS3 o7) hb);have n4_:=pkB HB hb;clear l9;clear o5;clear o6;clear o7;clear HB;have l9:=n0_;have o5:=n1_;have o6:=n2_;have o7:=n3_;have HB:=n4_;clear n0_ n1_ n2_ n3_ n4_;try clear hb)|((with_reducible refine aG (N:=11) rfl ?_);refine bx_ 11 36 #[.bool false,.string (⟨#[]⟩:ByteArray),.string (⟨#[]⟩:ByteArray)] (h:= ?_);intro J5 hg dh y8 hb;have n0_:=aA.mk (Kd.dD (by(with_reducible repeat(first|apply Kd.aQ|apply Kd.aN|apply Kd.aW));exact l9.out) hb);have n1_:=pkK o5 hb;have n2_:=pkK o6 hb;have n3_:=pkK o7 hb;have n4_:=pkB HB hb;have n5_:=aA.mk (y8);have n6_:=pkG HB hg;have n7_:=pkG HB hg;have n8_:=pkN o5 hg;have n9_:=pkM o5 hg;have n10_:=pkN o6 hg;have n11_:=pkM o6 hg;have n12_:=pkN o7 hg;have n13_:=pkM o7 hg;clear l9;clear o5;clear o6;clear o7;clear HB;have l9:=n0_;have o5:=n1_;have o6:=n2_;have o7:=n3_;have HB:=n4_;have G8:=n5_;have di:=n6_;have dw:=n7_;have P7:=n8_;have P8:=n9_;have P9:=n10_;have Q3:=n11_;have Q4:=n12_;have Q5:=n13_;clear n0_ n1_ n2_ n3_ n4_ n5_ n6_ n7_ n8_ n9_ n10_ n11_ n12_ n13_;clear hb y8 hg;have eu:=P8.out;have gm:=P7.out;have gp:=Q3.out;have gq:=P9.out;have gz:=Q5.out;have ig:=Q4.out;obtain⟨⟨ik,iq,iw⟩,ja,jb,jc⟩:=pk3 G8)|((with_reducible refine aC (f:=35) rfl ?_);refine gM 41 Tryz.func35 (fC.calls (hG:=HG.out.below (pkL HB)) (h:=A9.out)) (h:= ?_);intro jd hb;have n0_:=aA.mk (Kd.dD (by(with_reducible repeat(first|apply Kd.aQ|apply Kd.aN|apply Kd.aW));exact(Kd.dK (Kd.iY (p:=⟨J5,2,none⟩) (Kd.iY (p:=⟨J5,1,none⟩) (Kd.iY (p:=⟨J5,0,none⟩) (Kd.R_types l9.out G8.out aG0) (fun _ hk=>hk.2) (.bool F6)) (fun _ hk=>hk.2) (.string F7)) (fun _ hk=>hk.2) (.string F8)) (fun _ h_=>h_.1))) hb);have n1_:=pkF o5 hb;have n2_:=pkF o6 hb;have n3_:=pkF o7 hb;have n4_:=aA.mk (iT (g:=J5) (o:= .cells #[.bool F6,.string F7,.string F8] 36 (0,0)) (pkS3 G8) hb);have n5_:=pkB HB hb;clear l9;clear o5;clear o6;clear o7;clear G8;clear HB;have l9:=n0_;have o5:=n1_;have o6:=n2_;have o7:=n3_;have G8:=n4_;have HB:=n5_;clear n0_ n1_ n2_ n3_ n4_ n5_;try clear hb;obtain⟨⟨je,jf,jg⟩,jh,ji,jk⟩:=pk3 o5;obtain⟨⟨jl,jm,jo⟩,jq,jr,jw⟩:=pk3 o6;obtain⟨⟨jy,ku,kw⟩,kz,lg,lh⟩:=pk3 o7;obtain⟨⟨lq,lu,lw⟩,mf,mg,mi⟩:=pk3 G8))
      go_ret
      exact pkE HB
     ·rw[if_neg o9] at H
      have N7:(D9==F6&&(E8.toList==F7.toList&&(F5.toList==F8.toList)))=false:=by simpa using o9
      (try(have N8:decide (D9=F6&&(E8.toList==F7.toList&&(F5.toList==F8.toList)))=false:=by simpa using o9))
      (try(have N9:(D9==F6&&(E8.toList==F7.toList&&(F5.toList==F8.toList)))=false:=by simpa using o9))
      (try(have mr:¬(D9=F6&&(E8.toList==F7.toList&&(F5.toList==F8.toList))):=by simpa using o9))
      clear o9;exact absurd (Option.some.inj H) (by rw[hrT];decide)
    ·rw[if_neg H8] at H
     obtain⟨L8,L9⟩:=bF H8;exact absurd (Option.some.inj H) (by rw[hrT];decide)
   ·rw[if_neg o8] at H
    have J8:(y9==D6&&(C9.toList==D7.toList&&(D5.toList==D8.toList)))=false:=by simpa using o8
    (try(have J9:decide (y9=D6&&(C9.toList==D7.toList&&(D5.toList==D8.toList)))=false:=by simpa using o8))
    (try(have L6:(y9==D6&&(C9.toList==D7.toList&&(D5.toList==D8.toList)))=false:=by simpa using o8))
    (try(have ng:¬(y9=D6&&(C9.toList==D7.toList&&(D5.toList==D8.toList))):=by simpa using o8))
    clear o8;exact absurd (Option.some.inj H) (by rw[hrT];decide)
  ·replace I8:=Bool.eq_false_iff.mpr I8
   subst I8;rw[if_neg (show ¬(false=true) by decide)] at H;exact absurd (Option.some.inj H) (by rw[hrT];decide)
 ·replace c4:=Bool.eq_false_iff.mpr c4
  subst c4;rw[if_neg (show ¬(false=true) by decide)] at H;obtain⟨I5,Q7,H⟩:=bi H;try dsimp only at H
  obtain rfl:=Option.some.inj H;go_enter Tryz.func11,Tryz.ntmps11
  go_wp2_with(first|((with_reducible refine aG (N:=15) rfl ?_);refine Kd.sQ Kd.string _ 22 ?hg (N:=15) ?hd (xs:=([a0,a1]:List ByteArray)) (inner:= [.string a0,.string a1]) (ok:=fun _=>True) (okp:=fun _=>True) ?hr ?hp (fun _ hk=>hk) trivial (Below.refl _ _) (Nat.le_refl _) aFz ?_;(case hd=>rfl);(case hg=>rfl);(case hr=>first|(go_simp;done)|(go_simp;rfl));(case hp=>exact(Reps.one (show Kd.M Kd.string _ _ _ a0 [.string a0] from rfl) (Reps.one (show Kd.M Kd.string _ _ _ a1 [.string a1] from rfl) (Reps.none _ _))));intro v102 ni I4 hb hg_ hnew_;clear hg_ hnew_;(first|rw[←I7.out] at I4|(simp only[Int.reduceToNat] at I4;rw[←I7.out] at I4));have l9:=aA.mk (Kd.gU I4 (dJ (pkL HB)));replace HB:=pkB HB hb;clear hb I4;obtain⟨Q8,Q9,S9⟩:=Kd.fA l9.out;subst S9)|((with_reducible refine aC (f:=34) rfl ?_);refine gl_ 16 Tryz.func34 #[.slice none 0 0,.slice Q8 H6.length Q9] (h:= ?_);(refine(jA.calls _ _ ([]:List (S36)) _ _ H6 false _ ?side1 ?side2 ?side3 ?side4 A3.out).mono ?_);(case side1=>exact Kd.C_nil _ _);(case side2=>exact Nat.le_refl _);(case side3=>repeat(first|exact(Kd.dB l9.out).2.2|(with_reducible refine Kd.gI ?_ _)|(with_reducible refine Kd.gJ ?_ _)|(with_reducible refine Kd.iJ ?_)));(case side4=>exact(Kd.dB l9.out).2.1);rintro e nz ⟨rfl,hb⟩;refine⟨_,rfl,?_⟩;replace l9:=aA.mk (Kd.dD (by(with_reducible repeat(first|apply Kd.aQ|apply Kd.aN|apply Kd.aW));exact l9.out) hb);replace HB:=pkB HB hb;try clear hb)|((with_reducible refine aC (f:=35) rfl ?_);refine gM 18 Tryz.func35 (fC.calls (hG:=HG.out.below (pkL HB)) (h:=Q7.out)) (h:= ?_);intro oh hb;replace l9:=aA.mk (Kd.dD (by(with_reducible repeat(first|apply Kd.aQ|apply Kd.aN|apply Kd.aW));exact l9.out) hb);replace HB:=pkB HB hb;try clear hb))
  go_ret
  exact pkE HB
end Go.Proofs.YtignanmmgaldeaaGreatDoor.PCongruenceMakes
end
section
set_option linter.unusedVariables false
set_option linter.unusedSimpArgs false
namespace Go.Proofs.YtignanmmgaldeaaGreatDoor.PureMakes
open Go.RowKit Go.Proofs.YtignanmmgaldeaaGreatDoor Go.Proofs.YtignanmmgaldeaaGreatDoor.PLawB Go.Proofs.YtignanmmgaldeaaGreatDoor.LawC Go.Proofs.YtignanmmgaldeaaGreatDoor.PCongruenceMakes Go.Proofs.YtignanmmgaldeaaGreatDoor.RefP Go.Proofs.YtignanmmgaldeaaGreatDoor.PCongI Go.Proofs.YtignanmmgaldeaaGreatDoor.CongM Go.Proofs.YtignanmmgaldeaaGreatDoorW.PrintWords
theorem law(a0 a1:ByteArray)(w0:a0.size≤140737488351232)(w1:a1.size≤140737488351232):mJ.f a0 a1=some true:=by
 have hf:jA.f ([]:List S36) [a0,a1]=some (decide (fewP ([]:List S36) [a0,a1])):=if_pos ⟨by simp,by simp⟩;unfold mJ.f;rw[hf,Option.bind_some]
 by_cases hF:fewP ([]:List S36) [a0,a1]
 ·rw[decide_eq_true hF]
  have s0:=hF.2 a0 aFz;have s1:=hF.2 a1 aFz;have e0:yE.f a1=some (mkC ⟨#[48]⟩ a1):=if_pos aFx;have e1:zB.f a1=some (mkC ⟨#[48]⟩ a1):=e0;have e2:rP.f a0 a1=some (mkC a0 a1):=if_pos aFx;have e3:tZ.f a0 a1=some (mkC a0 a1):=e2;simp only[if_true,e0,e1,e2,e3,oU,Option.bind_some,beq_self_eq_true,Bool.and_self,if_true]
 ·rw[decide_eq_false hF]
  simp only[Bool.false_eq_true,if_false,oU,Option.bind_some]
end Go.Proofs.YtignanmmgaldeaaGreatDoor.PureMakes
end
