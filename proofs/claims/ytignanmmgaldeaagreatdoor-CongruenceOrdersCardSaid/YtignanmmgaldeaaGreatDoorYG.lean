/- Lemmas for the proof. -/
import Derived.Test.YtignanmmgaldeaaGreatDoorYF
section
set_option linter.unusedVariables false
set_option linter.unusedSimpArgs false
set_option maxRecDepth 100000
set_option maxHeartbeats 4000000
namespace Go.Proofs.YtignanmmgaldeaaGreatDoor
open Go.RowKit Go.Shelf Go.Proofs.YtignanmmgaldeaaGreatDoorW.PrintWords
theorem Mag.le{w:World}{u v:Value}{x y:Int}{L M:Nat}(h:Mag w u x L)(k:Mag w v y M)(hxy:x≤y):Mag w u x M:=by
 obtain⟨A,n,c,xs,rfl,h1,h2,h3,h4,h5,h6,rfl⟩:=h;obtain⟨B,m,e,ys,rfl,k1,k2,k3,k4,k5,k6,rfl⟩:=k;have hl:=zG k2 h2 h3 hxy;have a1:=h1.1;have a2:=k1.1;exact⟨A,n,c,xs,rfl,h1,h2,h3,h4,h5,by omega,rfl⟩
def rdW(w:World)(A:Option Addr)(n:Nat):List Int:=(List.range n).map fun i=>match A with
 |some ad=>(match w.cell? (ad.add i) with
  |some (.int _ v)=>v
  |_=>0)
 |none=>0
def magN(w:World)(v:Value):Nat:=match v with
 | .slice A n _=>(lval (rdW w A n)).toNat
 |_=>0
theorem magN_of{w:World}{v:Value}{x:Int}{L:Nat}(h:Mag w v x L):magN w v=x.toNat:=by
 obtain⟨A,n,c,xs,rfl,h1,h2,h3,h4,h5,h6,rfl⟩:=h;show(lval (rdW w A n)).toNat=_;have hl:(rdW w A n).length=n:=by simp[rdW]
 rw[lval,lval,hl,h1.1]
 congr 1
 refine zF n (fun i hi=> ?_);obtain⟨ad,rfl,_,hc⟩:=h1.2.2 aFx;have hci:=hc i hi
 simp[rdW,hi,hci]
theorem aDk(u v:Value)(x y:Int)(L M:Nat)(w:World)(hu:Mag w u x L)(hv:Mag w v y M)(h0:0<y)(hL:L≤100000)(hM:M≤100000) :
 Calls Tryz.prog 90 #[u,v] w fun E w'=>∃A n c B m e,E= .returned (.tuple #[.slice A n c,.slice B m e])∧Mag w' (.slice A n c) (x/y) L∧Mag w' (.slice B m e) (x%y) M∧Below w.heap.size w w':=by
 have hu0:=hu;have hv0:=hv;have hx0:=hu.nonneg;obtain⟨A,n,c,xs,rfl,h1,h2,h3,h4,h5,h6,rfl⟩:=hu;obtain⟨B,m,e,ys,rfl,k1,k2,k3,k4,k5,k6,rfl⟩:=hv;have a1:=h1.1;have a2:=k1.1;refine(div_all h2 k2 h3 k3 aFx aFx h0 A B n m c e w h1 k1 h4 k4).mono ?_;rintro E w' ⟨A',n',c',B',m',c2,rfl,q1,q2,hB⟩;refine⟨_,_,_,_,_,_,rfl,q1.le (hu0.below hB) ?_,q2.le (hv0.below hB) ?_,hB⟩
 ·exact Int.ediv_le_self _ hx0
 ·exact Int.le_of_lt (Int.emod_lt_of_pos _ h0)
def gcdI(x y:Int):Int:=(Nat.gcd x.natAbs y.natAbs:Nat)
theorem vO{x:Int}(h:0≤x):gcdI x 0=x:=by
 unfold gcdI;rw[Int.natAbs_zero,Nat.gcd_zero_right];omega
theorem yU{x y:Int}(hx:0≤x)(hy:0<y):gcdI y (x%y)=gcdI x y:=by
 unfold gcdI
 have e:(x%y).natAbs=x.natAbs%y.natAbs:=by
  obtain⟨a,rfl⟩:=Int.eq_ofNat_of_zero_le hx;obtain⟨b,rfl⟩:=Int.eq_ofNat_of_zero_le (Int.le_of_lt hy);rfl
 rw[e,Nat.gcd_comm y.natAbs,←Nat.gcd_rec y.natAbs x.natAbs,Nat.gcd_comm y.natAbs]
theorem aFe(u v:Value)(x y:Int)(L:Nat)(w:World)(hu:Mag w u x L)(hv:Mag w v y L)(hL:L≤100000) :
 Calls Tryz.prog 87 #[u,v] w fun E w'=>∃A n c,E= .returned (.slice A n c)∧Mag w' (.slice A n c) (gcdI x y) L∧Below w.heap.size w w':=by
 have HU:=Lib.hid hu;have HV:=Lib.hid hv;obtain⟨A0,n0,c0,xs,rfl,_⟩:=hu;obtain⟨B0,m0,e0,ys,rfl,_⟩:=hv;have HD:=Lib.hid (fun(u v:Value) (x y:Int) (w:World) (hu:Mag w u x L) (hv:Mag w v y L) (h0:0<y)=>aDk u v x y L L w hu hv h0 hL hL);go_enter Tryz.func87,Tryz.ntmps87
 go_wp2_with fail
 go_loopw [0,1] (fun xv yv wr=>∃A n c B m e X Y,xv= .slice A n c∧yv= .slice B m e∧Hid (Mag wr (.slice A n c) X L)∧Hid (Mag wr (.slice B m e) Y L)∧Hid (gcdI X Y=gcdI x y)∧Hid (Below w.heap.size w wr)) (fun _ yv wz=>magN wz yv)
 case atStart=>exact⟨A0,n0,c0,B0,m0,e0,x,y,rfl,rfl,HU,HV,Lib.hid rfl,Lib.hid (Below.refl _ _)⟩
 case round=>
  obtain⟨A,n,c,B,m,e,X,Y,rfl,rfl,HX,HY,HE,HB⟩:=hrel;have hX0:=HX.out.nonneg;have hY0:=HY.out.nonneg;have hz:=rZ HY.out
  by_cases h0:m=0
  ·subst h0
   obtain rfl:Y=0:=hz.2 rfl
   go_wp2_with fail
   go_ret
   refine⟨_,_,_,rfl,?_,HB.out⟩;rw[←HE.out,vO hX0];exact HX.out
  ·have hY1:0<Y:=by have:Y≠0:=fun q=>h0 (hz.1 q);omega
   have hm1:decide ((0:Int)<(m:Int))=true:=decide_eq_true aFx;have hm2:(0:Int)<(m:Int):=by omega
   clear hz
   go_wp2_with(go_at_call 90;refine(HD.out _ _ X Y _ HX.out HY.out hY1).mono ?_;rintro E w1 ⟨A1,n1,c1,A2,n2,c2,rfl,q1,q2,hB1⟩;have HQ:=Lib.hid q2;have HY2:=Lib.hid (HY.out.below hB1);have HB2:=Lib.hid (HB.out.trans (hB1.mono HB.out.size));clear q1 q2 hB1)
   refine⟨⟨B,m,e,A2,n2,c2,Y,X%Y,rfl,rfl,HY2,HQ,Lib.hid ?_,HB2⟩,?_⟩
   ·rw[yU hX0 hY1];exact HE.out
   ·rw[magN_of HQ.out,magN_of HY.out]
    have h1:=Int.emod_lt_of_pos X hY1;have h2:=Int.emod_nonneg X (show Y≠0 by omega);omega
end Go.Proofs.YtignanmmgaldeaaGreatDoor
namespace Go.Proofs.YtignanmmgaldeaaGreatDoor
open Go.RowKit
def bezL:Nat→Int→Int→Int→Int→Int
 |0,_,_,p,_=>p
 |k+1,r,s,p,q=>if s=0 then p else bezL k s (r%s) q (p+ -((r/s)*q))
def BezOK(Y r s p q:Int):Prop:=((0≤p∧q≤0∧p*s-q*r=Y)∨(p≤0∧0≤q∧q*r-p*s=Y))∧p.natAbs≤Y.toNat∧q.natAbs≤Y.toNat
theorem bezOK_start{X Y:Int}(hX:0≤X)(hY:0<Y):BezOK Y X Y 1 0:=⟨.inl ⟨by omega,by omega,by omega⟩,by omega,by omega⟩
theorem bezOK_step{Y r s p q:Int}(h:BezOK Y r s p q)(hr:0≤r)(hs:0<s):BezOK Y s (r%s) q (p+ -((r/s)*q)):=by
 obtain⟨h1,h2,h3⟩:=h;have hQ:0≤r/s:=Int.ediv_nonneg hr (Int.le_of_lt hs);have hm:0≤r%s:=Int.emod_nonneg r aFx;have hd:=Int.emod_add_mul_ediv r s;generalize r/s=Q at *
 generalize r%s=m at *
 have e:∀t:Int,(p+ -(Q*q))*s-q*(r-s*Q)=p*s-q*r:=fun _=>by
  rw[Int.add_mul,Int.mul_sub,Int.neg_mul,show Q*q*s=q*(s*Q) from by rw[Int.mul_comm Q q,Int.mul_assoc,Int.mul_comm Q s]];omega
 have e0:=e 0;have em:r-s*Q=m:=by omega
 rw[em] at e0;rcases h1 with ⟨a,b,c⟩|⟨a,b,c⟩
 ·have hq:0≤p+ -(Q*q):=by have:=Int.mul_nonpos_of_nonneg_of_nonpos hQ b;omega
  have hle:(p+ -(Q*q))*1≤(p+ -(Q*q))*s:=Int.mul_le_mul_of_nonneg_left aFx hq;have hn:q*m≤0:=Int.mul_nonpos_of_nonpos_of_nonneg b hm;refine⟨.inr ⟨b,hq,by omega⟩,h3,by omega⟩
 ·have hq:p+ -(Q*q)≤0:=by have:=Int.mul_nonneg hQ b;omega
  have hle:(p+ -(Q*q))*s≤(p+ -(Q*q))*1:=Int.mul_le_mul_of_nonpos_left hq aFx;have hn:0≤q*m:=Int.mul_nonneg b hm;refine⟨.inl ⟨b,hq,by omega⟩,h3,by omega⟩
def bezP(a b:Int):Int:=if a<0 then -bezL b.natAbs a.natAbs b.natAbs 1 0 else bezL b.natAbs a.natAbs b.natAbs 1 0
def bezU(a b:Int):Int:=if b=0 then sgnI a else Int.fmod (bezP a b) ((b.natAbs:Int)/gcdI a b)
def bezV(a b:Int):Int:=if b=0 then 0 else Int.fdiv (gcdI a b+ -(a*bezU a b)) b
theorem aAa(a b:Int):gcdI (a.natAbs:Int) (b.natAbs:Int)=gcdI a b:=by unfold gcdI;simp
theorem aAb{a b:Int}(h:b≠0):0<gcdI a b:=by
 unfold gcdI;have:=Nat.gcd_pos_of_pos_right a.natAbs (show 0<b.natAbs by omega);omega
theorem qL(a b:Int):gcdI a b∣b:=by
 unfold gcdI;exact Int.dvd_natAbs.1 (Int.ofNat_dvd.2 (Nat.gcd_dvd_right _ _))
end Go.Proofs.YtignanmmgaldeaaGreatDoor
namespace Go.Proofs.YtignanmmgaldeaaGreatDoor
open Go.RowKit Go.Shelf Go.Proofs.YtignanmmgaldeaaGreatDoorW.PrintWords
theorem uK{w:World}{d:Bool}{v:Value}{z:Int}{L:Nat}(h:NumV w (.agg #[.bool d,v]) z L):Mag w v (z.natAbs:Int) L:=by
 obtain⟨b,u,x,he,hm,rfl⟩:=h
 simp at he
 obtain⟨rfl,rfl⟩:=he;have:=hm.nonneg;have e:(((if d=true then -x else x):Int).natAbs:Int)=x:=by cases d <;> simp <;> omega
 rw[e];exact hm
theorem yV{w:World}{v:Value}{x:Int}{L:Nat}(h:Mag w v x L):NumV w (.agg #[.bool false,v]) x L:=⟨false,v,x,rfl,h,rfl⟩
theorem Mag.cast{w:World}{v:Value}{x y:Int}{L:Nat}(h:Mag w v x L)(e:x=y):Mag w v y L:=e▸h
theorem times_num(u v:Value)(x y:Int)(L M:Nat)(w:World)(hu:Mag w u x L)(hv:Mag w v y M)(hL:L≤1000000)(hM:M≤1000000) :
 Calls Tryz.prog 91 #[u,v] w fun e w'=>∃A n c,e= .returned (.slice A n c)∧Mag w' (.slice A n c) (x*y) (L+M)∧Below w.heap.size w w':=by
 obtain⟨A,n,c,xs,rfl,h1,h2,h3,h4,h5,h6,rfl⟩:=hu;obtain⟨B,m,e,ys,rfl,k1,k2,k3,k4,k5,k6,rfl⟩:=hv;refine(times_mag A B n m c e xs ys w h1 k1 h2 k2 aFx aFx h4 k4).mono ?_;rintro E w' ⟨A',n',c',rfl,hM,hB⟩;exact⟨_,_,_,rfl,hM.more aFx,hB⟩
theorem gcd_ok(a b:ByteArray)(w:World)(ha0:chkI a=0)(hb0:chkI b=0)(ha:a.size≤9223372036854775807)(hb:b.size≤9223372036854775807)(hG:GW w) :
 Calls Tryz.prog 28 #[.string a,.string b] w fun e w'=>e= .returned (.tuple #[.string (text (gcdI (aV a) (aV b))),.int .i64 0])∧Below w.heap.size w w':=by
 have HP:=Lib.hid (fun w=>oZ a b w ha0 hb0 ha hb);have HG:=Lib.hid hG;go_enter Tryz.func28,Tryz.ntmps28
 clear ha0 hb0 ha hb hG
 go_wp2_with(first
  |(go_at_call 79;refine(HP.out _).mono ?_;rintro e w1 ⟨d,A,n,c,d2,B,m,c2,rfl,hn1,hn2,hB⟩;have HN1:=Lib.hid (uK hn1);have HN2:=Lib.hid (uK hn2);have HB:=Lib.hid hB;clear hn1 hn2 hB HP)
  |(go_at_call 87;refine(aFe _ _ _ _ 456 _ (HN1.out.below (((Below.refl _ w1).alloc (Nat.le_refl _) _).alloc aFz _)) (HN2.out.below (((Below.refl _ w1).alloc (Nat.le_refl _) _).alloc aFz _)) aFx).mono ?_;rintro e w3 ⟨A3,n3,c3,rfl,hr,hB3⟩;have hB4:=HB.out.trans (((((Below.refl _ w1).alloc (Nat.le_refl _) _).alloc aFz _).trans (hB3.mono (by simp;omega))).mono HB.out.size);have hg3:=HG.out.below hB4;have HR:=Lib.hid (yV (hr.cast (aAa _ _)));have HB4:=Lib.hid hB4;have HG3:=Lib.hid hg3;clear hr hB3 hB4 hg3)
  |(go_at_call 88;refine(yS _ _ 456 w3 HR.out aFx HG3.out).mono ?_;rintro e w4 ⟨rfl,hB5⟩;have HB5:=Lib.hid hB5;clear hB5))
 go_ret2
 exact⟨rfl,HB4.out.trans (HB5.out.mono HB4.out.size)⟩
theorem gcd_err(a b:ByteArray)(w:World)(c:Int)(hc:iZ a b=c)(h0:c≠0)(ha:a.size≤9223372036854775807)(hb:b.size≤9223372036854775807) :
 Calls Tryz.prog 28 #[.string a,.string b] w fun e w'=>e= .returned (.tuple #[.string ⟨#[]⟩,.int .i64 c])∧Below w.heap.size w w':=by
 have HP:Hid (∀w:World,Calls Tryz.prog 79 #[.string a,.string b] w fun e w'=>∃d A n c1 d2 B m c2,e= .returned (.tuple #[.agg #[.bool d,.slice A n c1],.agg #[.bool d2,.slice B m c2],.int .i64 c])∧Below w.heap.size w w'):=Lib.hid (fun w=>yQ a b w c hc h0 ha hb);have e1:(c != 0)=true:=by simpa using h0
 go_enter Tryz.func28,Tryz.ntmps28
 clear hc ha hb
 go_wp2_with(go_at_call 79;refine(HP.out _).mono ?_;rintro e w1 ⟨d,A,n,c1,d2,B,m,c2,rfl,hB⟩;have HB:=Lib.hid hB;clear hB HP)
 go_ret2
 exact⟨rfl,HB.out.trans ((((Below.refl _ w1).alloc (Nat.le_refl _) _).alloc aFz _).mono HB.out.size)⟩
def lcmI(x y:Int):Int:=if x=0∨y=0 then 0 else(x.natAbs:Int)/gcdI x y*(y.natAbs:Int)
theorem lcm_err(a b:ByteArray)(w:World)(c:Int)(hc:iZ a b=c)(h0:c≠0)(ha:a.size≤9223372036854775807)(hb:b.size≤9223372036854775807) :
 Calls Tryz.prog 30 #[.string a,.string b] w fun e w'=>e= .returned (.tuple #[.string ⟨#[]⟩,.int .i64 c])∧Below w.heap.size w w':=by
 have HP:Hid (∀w:World,Calls Tryz.prog 79 #[.string a,.string b] w fun e w'=>∃d A n c1 d2 B m c2,e= .returned (.tuple #[.agg #[.bool d,.slice A n c1],.agg #[.bool d2,.slice B m c2],.int .i64 c])∧Below w.heap.size w w'):=Lib.hid (fun w=>yQ a b w c hc h0 ha hb);have e1:(c != 0)=true:=by simpa using h0
 go_enter Tryz.func30,Tryz.ntmps30
 clear hc ha hb
 go_wp2_with(go_at_call 79;refine(HP.out _).mono ?_;rintro e w1 ⟨d,A,n,c1,d2,B,m,c2,rfl,hB⟩;have HB:=Lib.hid hB;clear hB HP)
 go_ret2
 exact⟨rfl,HB.out.trans ((((Below.refl _ w1).alloc (Nat.le_refl _) _).alloc aFz _).mono HB.out.size)⟩
theorem lcm_zero(a b:ByteArray)(w:World)(ha0:chkI a=0)(hb0:chkI b=0)(ha:a.size≤9223372036854775807)(hb:b.size≤9223372036854775807)(hz:aV a=0∨aV b=0) :
 Calls Tryz.prog 30 #[.string a,.string b] w fun e w'=>e= .returned (.tuple #[.string ⟨#[48]⟩,.int .i64 0])∧Below w.heap.size w w':=by
 have HP:=Lib.hid (fun w=>oZ a b w ha0 hb0 ha hb);have HZ:=Lib.hid hz;go_enter Tryz.func30,Tryz.ntmps30
 clear ha0 hb0 ha hb hz
 go_wp2_with fail
 refine(HP.out _).mono ?_;rintro e w1 ⟨d,A,n,c,d2,B,m,c2,rfl,hn1,hn2,hB⟩;have h1:=rZ (uK hn1);have h2:=rZ (uK hn2);have HB:=Lib.hid hB;have hz:=HZ.out;clear hn1 hn2 hB HP HZ
 by_cases hn:n=0
 ·subst hn
  clear h1 h2 hz;go_wp2
  go_ret2
  exact⟨rfl,HB.out.trans ((((Below.refl _ w1).alloc (Nat.le_refl _) _).alloc aFz _).mono HB.out.size)⟩
 ·have hm:m=0:=by
   rcases hz with h|h
   ·exact absurd (h1.1 aFx) hn
   ·exact h2.1 aFx
  subst hm;have e1:((n:Int)==0)=false:=by simpa using hn
  have e2:¬(n:Int)=0:=by omega
  clear h1 h2 hz;go_wp2
  go_ret2
  exact⟨rfl,HB.out.trans ((((Below.refl _ w1).alloc (Nat.le_refl _) _).alloc aFz _).mono HB.out.size)⟩
theorem lcm_ok(a b:ByteArray)(w:World)(ha0:chkI a=0)(hb0:chkI b=0)(ha:a.size≤9223372036854775807)(hb:b.size≤9223372036854775807)(hz1:aV a≠0)(hz2:aV b≠0)(hG:GW w) :
 Calls Tryz.prog 30 #[.string a,.string b] w fun e w'=>e= .returned (.tuple #[.string (wrS (lcmI (aV a) (aV b))),.int .i64 (wrE (lcmI (aV a) (aV b)))])∧Below w.heap.size w w':=by
 have hlcm:lcmI (aV a) (aV b)=((aV a).natAbs:Int)/gcdI ((aV a).natAbs:Int) ((aV b).natAbs:Int)*((aV b).natAbs:Int):=by
  unfold lcmI;rw[if_neg (by simp[hz1,hz2]),aAa]
 rw[hlcm];clear hlcm;have HP:=Lib.hid (fun w=>oZ a b w ha0 hb0 ha hb);have HG:=Lib.hid hG;have hX:0<((aV a).natAbs:Int):=by omega
 have hY:0<((aV b).natAbs:Int):=by omega
 have hg0:0<gcdI ((aV a).natAbs:Int) ((aV b).natAbs:Int):=aAb aFx;have HNM:Hid (∀(w:World) d v L,NumV w (.agg #[.bool d,v]) (aV a) L→Mag w v ((aV a).natAbs:Int) L):=Lib.hid fun w d v L h=>uK h
 have HNM2:Hid (∀(w:World) d v L,NumV w (.agg #[.bool d,v]) (aV b) L→Mag w v ((aV b).natAbs:Int) L):=Lib.hid fun w d v L h=>uK h
 generalize ((aV a).natAbs:Int)=X at *
 generalize ((aV b).natAbs:Int)=Y at *
 go_enter Tryz.func30,Tryz.ntmps30
 clear ha0 hb0 ha hb hG hz1 hz2
 go_wp2_with fail
 refine(HP.out _).mono ?_;rintro e w1 ⟨d,A,n,c,d2,B,m,c2,rfl,hn1,hn2,hB⟩;have hm1:=HNM.out _ _ _ _ hn1;have hm2:=HNM2.out _ _ _ _ hn2;have hn0:n≠0:=fun q=>by have:=(rZ hm1).2 q;omega
 have hm0:m≠0:=fun q=>by have:=(rZ hm2).2 q;omega
 have e1:((n:Int)==0)=false:=by simpa using hn0
 have e2:¬(n:Int)=0:=by omega
 have e3:((m:Int)==0)=false:=by simpa using hm0
 have e4:¬(m:Int)=0:=by omega
 have HN1:=Lib.hid hm1;have HN2:=Lib.hid hm2;have HB:=Lib.hid hB;have hb0:((w1.alloc (.cells #[.bool d,.slice A n c] 81)).alloc (.cells #[.bool d2,.slice B m c2] 81)).heap[w1.heap.size]? =some (.cells #[.bool d,.slice A n c] 81):=(Below.heap_alloc _ _ _ aFz).trans (World.alloc_heap_new w1 _)
 have hb1:((w1.alloc (.cells #[.bool d,.slice A n c] 81)).alloc (.cells #[.bool d2,.slice B m c2] 81)).heap[w1.heap.size+1]? =some (.cells #[.bool d2,.slice B m c2] 81):=by
  have:=World.alloc_heap_new (w1.alloc (.cells #[.bool d,.slice A n c] 81)) (.cells #[.bool d2,.slice B m c2] 81)
  rwa [World.size_alloc] at this
 have hBa:Below w1.heap.size w1 ((w1.alloc (.cells #[.bool d,.slice A n c] 81)).alloc (.cells #[.bool d2,.slice B m c2] 81)):=((Below.refl _ w1).alloc (Nat.le_refl _) _).alloc aFz _;have hsz:((w1.alloc (.cells #[.bool d,.slice A n c] 81)).alloc (.cells #[.bool d2,.slice B m c2] 81)).heap.size=w1.heap.size+2:=by simp
 clear hn1 hn2 hm1 hm2 hB HP HNM HNM2 hn0 hm0
 go_wp2_with fail
 obtain⟨W5,hW5⟩:∃W5,(w1.alloc (.cells #[.bool d,.slice A n c] 81)).alloc (.cells #[.bool d2,.slice B m c2] 81)=W5:=⟨_,rfl⟩
 rw[hW5] at hb0 hb1 hBa hsz ⊢;clear hW5;have kd:W5.drew.cell? ⟨w1.heap.size,1,none⟩=some (.slice A n c)∧W5.drew.cell? ⟨w1.heap.size+1,1,none⟩=some (.slice B m c2):=⟨fJ hb0 1 _ rfl,fJ hb1 1 _ rfl⟩;have HBD:=Lib.hid hBa.drew;have hsd:w1.heap.size+2=W5.drew.heap.size:=hsz.symm
 have HKC:Hid (∀v1 v2:World,w1.heap.size+1<v1.heap.size→Below v1.heap.size v1 v2→(v1.cell? ⟨w1.heap.size,1,none⟩=some (.slice A n c)∧v1.cell? ⟨w1.heap.size+1,1,none⟩=some (.slice B m c2))→v2.cell? ⟨w1.heap.size,1,none⟩=some (.slice A n c)∧v2.cell? ⟨w1.heap.size+1,1,none⟩=some (.slice B m c2)):=Lib.hid fun v1 v2 hl hB ⟨a2,a4⟩=>
  ⟨(hB.cell (p:=⟨w1.heap.size,1,none⟩) (by show w1.heap.size<_;omega)).trans a2,(hB.cell (p:=⟨w1.heap.size+1,1,none⟩) hl).trans a4⟩
 have HCM:=Lib.hid (aFe _ _ _ _ 456 W5.drew (HN1.out.below HBD.out) (HN2.out.below HBD.out) aFx);clear hb0 hb1 hBa hsz
 go_region_held3 (fun w'=>w'.cell? ⟨w1.heap.size,1,none⟩=some (.slice A n c)∧w'.cell? ⟨w1.heap.size+1,1,none⟩=some (.slice B m c2)) (first|assumption) (first
  |(go_at_call 87;refine HCM.out.mono ?_;rintro e w2 ⟨A3,n3,c3,rfl,hr,hB2⟩;have k2:=HKC.out _ _ aFx hB2 kd;have HR:=Lib.hid hr;have HB2:=Lib.hid hB2;have l9:=hB2.size;clear hB2 hr HCM)
  |(go_at_call 90;refine(aDk _ _ X (gcdI X Y) 456 456 w2 (HN1.out.below (HBD.out.trans (HB2.out.mono aFx))) HR.out hg0 aFx aFx).mono ?_;rintro e w3 ⟨A4,n4,c4,A5,n5,c5,rfl,hq,_,hB3⟩;have k3:=HKC.out _ _ aFx hB3 k2;have HQ:=Lib.hid hq;have HB3:=Lib.hid hB3;have o5:=hB3.size;clear hB3 hq))
 all_goals(
  have c1:=k3.1;have c2':=k3.2;have hW3:=HBD.out.trans ((HB2.out.mono aFx).trans (HB3.out.mono aFx));have HW3:=Lib.hid hW3;have HY3:=Lib.hid (HN2.out.below hW3);have HG3:=Lib.hid (HG.out.below (HB.out.trans (hW3.mono HB.out.size)));clear hW3
  go_wp2_with(first
   |(go_at_call 91;refine(times_num _ _ _ _ 456 456 _ HQ.out HY3.out aFx aFx).mono ?_;rintro e w6 ⟨A6,n6,c6,rfl,ht,hB6⟩;have HT:=Lib.hid (yV ht);have HB6:=Lib.hid hB6;have HG6:=Lib.hid (HG3.out.below hB6);clear ht hB6)
   |(go_at_call 80;refine(aBb _ _ (456+456) w6 HT.out aFx HG6.out).mono ?_;rintro e w7 ⟨rfl,hB7⟩;have HB7:=Lib.hid hB7;clear hB7))
  go_ret2
  exact⟨rfl,HB.out.trans ((HW3.out.trans ((HB6.out.mono aFx).trans (HB7.out.mono (by have:=HB6.out.size;omega)))).mono HB.out.size)⟩)
end Go.Proofs.YtignanmmgaldeaaGreatDoor
namespace Go.Proofs.YtignanmmgaldeaaGreatDoor
open Go
section
variable {P:Program} {ops:Array Oper} {Q:Exit→Act→World→Prop} {md:Region.Mode} {S:Array Bool→World→Prop}
def aA3(P:Program)(md:Region.Mode)(ops:Array Oper)(Q:Exit→Act→World→Prop)(S:Array Bool→World→Prop):Nat→Array Bool→Act→World→Prop
 |0,listed,a,w=>Region.ready md ops listed= []∧Q .normal a w
 |fuel+1,listed,a,w=>
  (Region.ready md ops listed= []→Q .normal a w) ∧
  ∀i∈Region.ready md ops listed,wpOp P ops Q i (fun a' w'=>S (listed.setIfInBounds i true) w'∧aA3 P md ops Q S fuel (listed.setIfInBounds i true) a' w') a w
theorem aFf:∀(fuel:Nat) (listed:Array Bool) (a:Act) (w:World),aA3 P md ops Q S fuel listed a w→wpAny P md ops Q fuel listed a w
 |0,_,_,_,h=>h
 |fuel+1,_,_,_,h=>⟨h.1,fun i hi=>wpOp_mono (fun a' w' h'=>aFf fuel _ a' w' h'.2) (h.2 i hi)⟩
theorem wpAnyT_first{i k:Nat}{oi ok:Oper}{v:Value}{Y:World→Prop}(hi:ops[i]? =some oi)(hok:ops[k]? =some ok)(hki:∃e∈ok.after,Region.binds md e=true∧e.on=i)(hik:k≠i)
 (hY:∀L w,L.getD k true=false→S L w→Y w) (hSi:∀(L:Array Bool) w,S (L.setIfInBounds i true) w↔S L w) (hsel:∀(j:Nat) (o:Oper) cs b,ops[j]? =some o→o.op≠ .select cs b)
 (hQ:∀c a w,Q (.panic c) (a.put oi.dst v) w→Q (.panic c) a w) :
 ∀(fuel:Nat) (listed:Array Bool) (a:Act) (w:World),
  (∀j oj,ops[j]? =some oj→j≠i→listed.getD j true=false→(∀e∈oj.after,Region.binds md e=true→e.on≠i)→oi.apart ops oj=true) →
  i∈Region.ready md ops listed→listed.getD k true=false→YieldsIf P ops Y oi v a→S listed w →
  aA3 P md ops Q S fuel (listed.setIfInBounds i true) (a.put oi.dst v) w→aA3 P md ops Q S (fuel+1) listed a w:=by
 intro fuel
 induction fuel with
 |zero=>
  intro listed a w _ hr hlk hy hS H;refine⟨fun h=>(by rw[h] at hr;cases hr),fun j hj=> ?_⟩
  by_cases hji:j=i
  ·subst hji;exact hy.wpOp hi (hY _ _ hlk hS) ⟨(hSi _ _).2 hS,H⟩
  ·have:=ready_mono hj hji
   rw[H.1] at this
   cases this
 |succ fuel ih=>
  intro listed a w hfree hr hlk hy hS H;refine⟨fun h=>(by rw[h] at hr;cases hr),fun j hj=> ?_⟩
  by_cases hji:j=i
  ·subst hji;exact hy.wpOp hi (hY _ _ hlk hS) ⟨(hSi _ _).2 hS,H⟩
  ·have h1:=H.2 j (ready_mono hj hji)
   obtain⟨hjun,oj,hoj,hall⟩:=mem_ready.1 hj
   have hnot:∀e∈oj.after,Region.binds md e=true→e.on≠i:=fun e he hb heq=>by
    have h1:=hall e he hb;have h0:=(mem_ready.1 hr).1;rw[heq] at h1;rcases Nat.lt_or_ge i listed.size with h'|h'
    ·simp[h'] at h0 h1;rw[h0] at h1;cases h1
    ·simp[Array.getElem?_eq_none h'] at h1
   have hjk:j≠k:=fun q=>by
    subst q;obtain⟨e,he,hb,heq⟩:=hki;rw[hok] at hoj
    cases hoj
    exact hnot e he hb heq
   have h2:=wpOp_putIf hoj (hfree j oj hoj hji hjun hnot) (fun cs b=>hsel i oi cs b hi) (fun cs b=>hsel j oj cs b hoj) hQ hy h1
   have hfree':∀k ok,ops[k]? =some ok→k≠i→(listed.setIfInBounds j true).getD k true=false →
    (∀e∈ok.after,Region.binds md e=true→e.on≠i)→oi.apart ops ok=true:=fun k ok hk hki hun hno=>by
    refine hfree k ok hk hki ?_ hno
    by_cases hjk:j=k
    ·subst hjk;exact hjun
    ·rw[getD_set_ne true hjk] at hun;exact hun
   refine wpOp_mono (fun a' w' h3=> ?_) h2;have hc:(listed.setIfInBounds i true).setIfInBounds j true=(listed.setIfInBounds j true).setIfInBounds i true:=Array.setIfInBounds_comm _ _ (Ne.symm hji)
   have hS2:S (listed.setIfInBounds j true) w':=by
    have:=h3.2.1;rw[hc] at this;exact(hSi _ _).1 this
   refine⟨hS2,ih (listed.setIfInBounds j true) a' w' hfree' (ready_mono hr (Ne.symm hji)) ?_ h3.1 hS2 ?_⟩
   ·rw[getD_set_ne true hjk];exact hlk
   ·rw[←hc]
    exact h3.2.2
theorem yA(i k:Nat){oi ok:Oper}{v:Value}(Y:World→Prop){fuel:Nat}{listed:Array Bool}{a:Act}{w:World}(hi:ops[i]? =some oi)(hok:ops[k]? =some ok)(hki:(ok.after.any fun e=>Region.binds md e&&e.on==i)=true)(hik:k≠i)
 (hs:Region.noSelect ops=true) (hf:Region.free md ops listed i=true) (hr:(Region.ready md ops listed).contains i=true) (hlk:listed.getD k true=false)
 (hQ:∀c a w,Q (.panic c) (a.put oi.dst v) w→Q (.panic c) a w) (hSi:∀(L:Array Bool) w,S (L.setIfInBounds i true) w↔S L w) (hY:∀L w,L.getD k true=false→S L w→Y w) (hS:S listed w)
 (hw:Region.wanted oi (yielded ops a.tmps)=true) (hy:∀w,Y w→(execOp a.eval oi).run P w= .ok (.value v) w)
 (h:S (listed.setIfInBounds i true) w→aA3 P md ops Q S fuel (listed.setIfInBounds i true) (a.put oi.dst v) w):aA3 P md ops Q S (fuel+1) listed a w:=by
 have hki':∃e∈ok.after,Region.binds md e=true∧e.on=i:=by
  rw[Array.any_eq_true'] at hki;obtain⟨e,he,hb⟩:=hki;simp only[Bool.and_eq_true,beq_iff_eq] at hb;exact⟨e,he,hb.1,hb.2⟩
 exact wpAnyT_first hi hok hki' hik hY hSi (Region.noSelect_spec hs) hQ fuel listed a w (Region.free_spec hi hf) (by simpa using hr) hlk (Or.inl ⟨hw,hy⟩) hS (h ((hSi _ _).2 hS))
theorem wF(i:Nat){o:Oper}{fuel:Nat}{listed:Array Bool}{a:Act}{w:World}(hr:Region.ready md ops listed= [i])(ho:ops[i]? =some o)
 (h:∀K':Act→World→Prop,Shut (∀a w,S (listed.setIfInBounds i true) w→aA3 P md ops Q S fuel (listed.setIfInBounds i true) a w→K' a w)→if Region.wanted o (yielded ops a.tmps)=true then Oper.wp P o a w K' Q else K' (a.put o.dst undef) w):aA3 P md ops Q S (fuel+1) listed a w:=
 ⟨fun h0=>absurd (hr.symm.trans h0) aFz,fun j hj=>by
   rw[hr] at hj;obtain rfl:j=i:=by simpa using hj
   exact wpOp_step ho (fun K' hK=>h K' (fun a w hS hW=>hK a w ⟨hS,hW⟩))⟩
theorem aEn{listed:Array Bool}{a:Act}{w:World}(hr:Region.ready md ops listed= [])(h:Q .normal a w):∀fuel,aA3 P md ops Q S fuel listed a w
 |0=>⟨hr,h⟩
 |_+1=>⟨fun _=>h,by rw[hr];simp⟩
theorem aEo{id:Nat}{a:Act}{w:World}(hm:P.follows .mixedOrders=true)(h:aA3 P .any ops Q S ops.size (Array.replicate ops.size false) a w.drew):(Code.region id ops true).wp P Q a w:=
 wp_region_any hm (aFf _ _ _ _ h)
end
end Go.Proofs.YtignanmmgaldeaaGreatDoor
namespace Go.Proofs.YtignanmmgaldeaaGreatDoor
open Go
section
variable {P:Program} {ops:Array Oper} {Q:Exit→Act→World→Prop} {a0:Act}
theorem nC{a:Act}{d:Nat}{v:Value}(h:a.eval (.tmp d)=v):a.tmps[d]?.getD undef=v:=by simpa[Act.eval] using h
theorem Agree.congr{vals vals':Nat→Value}{L:Array Bool}{a:Act}(h:Agree ops vals a0 L a)(hv:∀j,L.getD j false=true→vals' j=vals j):Agree ops vals' a0 L a:=
 ⟨h.defers,h.size,fun j d hj hl=>by rw[hv j hl];exact h.done j d hj hl,h.rest⟩
theorem wpAny_J(F:Array Bool→(Nat→Value)→World→Prop)(hsz:∀j d,kT ops j=some d→d<a0.tmps.size)(hdis:∀i j d,kT ops i=some d→kT ops j=some d→i=j)(hac:∀i j,need ops i j=true→j<i)
 (hstep:∀L vals a w i o,ops[i]? =some o→L.getD i false=false→L.size=ops.size→(∀j,need ops i j=true→L.getD j false=true)→Knows ops vals a0 i a→F L vals w→∀K:Act→World→Prop,(∀v w',F (L.setIfInBounds i true) (fun j=>if j=i then v else vals j) w'→K (a.put o.dst v) w')→if Region.wanted o (yielded ops a.tmps)=true then Oper.wp P o a w K Q else K (a.put o.dst undef) w)
 (hend:∀vals a w L,(∀j,j<ops.size→L.getD j false=true)→Agree ops vals a0 L a→F L vals w→Q .normal a w) :
 ∀(n:Nat) (L:Array Bool) (vals:Nat→Value) (a:Act) (w:World),undone L≤n→L.size=ops.size→Agree ops vals a0 L a→F L vals w→wpAny P .any ops Q n L a w
 |0,L,vals,a,w,hn,hs,hA,hF=>by
  have h0:undone L=0:=by omega
  refine⟨?_,hend vals a w L (fun j hj=>xY h0 j aFx) hA hF⟩
  cases hr:Region.ready .any ops L with
  |nil=>rfl
  |cons i r=>
   obtain⟨hu,o,ho,_⟩:=mem_ready.1 (show i∈Region.ready .any ops L by rw[hr];exact List.mem_cons_self);have hlt:i<L.size:=by rw[hs];exact(Array.getElem?_eq_some_iff.1 ho).1
   have h1:=xY h0 i hlt;rw[Array.getD_eq_getD_getElem?,Array.getElem?_eq_getElem hlt] at h1 hu
   simp at h1 hu
   rw[h1] at hu
   cases hu
 |n+1,L,vals,a,w,hn,hs,hA,hF=>by
  refine⟨fun hr=> ?_,fun i hi=> ?_⟩
  ·exact hend vals a w L (fun j hj=>xY (aF2 hs hac hr) j aFx) hA hF
  ·obtain⟨hu,o,ho,hall⟩:=mem_ready.1 hi
   have hlt:i<L.size:=by rw[hs];exact(Array.getElem?_eq_some_iff.1 ho).1
   have hf:L.getD i false=false:=by
    rw[Array.getD_eq_getD_getElem?,Array.getElem?_eq_getElem hlt] at hu ⊢
    simpa using hu
   refine wpOp_step ho (fun K' hK=>hstep L vals a w i o ho hf hs (fun j hj=> ?_) (hA.knows hi) hF K' (fun v w' hF'=>hK _ _ ?_))
   ·obtain⟨e,he,hb,rfl⟩:=(yK ho).1 hj
    exact hall e he hb
   ·have hund:=aF1 hlt hf
    have hA':Agree ops (fun j=>if j=i then v else vals j) a0 L a:=hA.congr (fun j hj=>if_neg (fun e=>by subst e;rw[hf] at hj;cases hj));have hst:=hA'.step ho hlt hf hsz hdis;rw[if_pos rfl] at hst;exact wpAny_J F hsz hdis hac hstep hend n _ _ _ _ aFx (by simp[hs]) hst hF'
theorem region_J{id:Nat}{ls:List Oper}{w:World}(hm:P.follows .mixedOrders=true)(F:Array Bool→(Nat→Value)→World→Prop)(hB:aCy ls a0.tmps.size []=true)(h0:F (Array.replicate ls.length false) (fun _=>undef) w.drew)
 (hstep:∀L vals a w i o,ls[i]? =some o→L.getD i false=false→L.size=ls.length→(∀j,need ls.toArray i j=true→L.getD j false=true)→Knows ls.toArray vals a0 i a→F L vals w→∀K:Act→World→Prop,(∀v w',F (L.setIfInBounds i true) (fun j=>if j=i then v else vals j) w'→K (a.put o.dst v) w')→if Region.wanted o (yielded ls.toArray a.tmps)=true then Oper.wp P o a w K Q else K (a.put o.dst undef) w)
 (hend:∀vals w L,(∀j,j<ls.length→L.getD j false=true)→F L vals w→Q .normal (aAg vals ls 0 a0) w):(Code.region id ls.toArray true).wp P Q a0 w:=by
 have hop:∀i o,ls.toArray[i]? =some o→_:=fun i o ho=>yL hB (i:=i) (o:=o) (by simpa using ho)
 have hsz:∀j d,kT ls.toArray j=some d→d<a0.tmps.size:=fun j d hj=>by
  cases ho:ls.toArray[j]? with
  |none=>simp[kT,ho] at hj
  |some o=>simp only[kT,ho,Option.bind_some] at hj;exact((hop j o ho).2.2.1 d hj).1
 have hdis:∀i j d,kT ls.toArray i=some d→kT ls.toArray j=some d→i=j:=fun i j d hi hj=>by
  cases ho:ls.toArray[i]? with
  |none=>simp[kT,ho] at hi
  |some oi=>
   cases l9:ls.toArray[j]? with
   |none=>simp[kT,l9] at hj
   |some oj=>
    simp only[kT,ho,l9,Option.bind_some] at hi hj;rcases Nat.lt_trichotomy i j with h|h|h
    ·exact absurd hi (((hop j oj l9).2.2.1 d hj).2 i oi h (by simpa using ho))
    ·exact h
    ·exact absurd hj (((hop i oi ho).2.2.1 d hi).2 j oj h (by simpa using l9))
 have hac:∀i j,need ls.toArray i j=true→j<i:=fun i j hn=>by
  cases ho:ls.toArray[i]? with
  |none=>simp[need,ho] at hn
  |some o=>
   obtain⟨e,he,hb,rfl⟩:=(yK ho).1 hn;exact(hop i o ho).2.1 e he hb
 refine wp_region_any hm (wpAny_J F hsz hdis hac (fun L vals a w i o ho hf hs hn hk hF K hK=>hstep L vals a w i o (by simpa using ho) hf (by simpa using hs) hn hk hF K hK) ?_ _ _ (fun _=>undef) _ _ ?_ aFz Agree.init (by simpa using h0))
 ·intro vals a w L hall hA hF
  obtain⟨L',hs',hall',hA'⟩:=aDz (vals:=vals) hsz hdis ls 0 (Array.replicate ls.toArray.size false) a0 (fun j=>by simp) aFz aFz (fun j hj=>by rw[getD_replicate_false];simp) Agree.init
  have:a=aAg vals ls 0 a0:=hA.unique (L:=L) ⟨hA'.defers,hA'.size,fun j d hj hl=>by
   have hlt:j<ls.toArray.size:=by
    cases ho:ls.toArray[j]? with
    |none=>simp[kT,ho] at hj
    |some o=>exact(Array.getElem?_eq_some_iff.1 ho).1
   exact hA'.done j d hj (hall' j hlt),fun d hd=>by
   refine hA'.rest d (fun j hj=> ?_)
   have hlt:j<ls.toArray.size:=by
    cases ho:ls.toArray[j]? with
    |none=>simp[kT,ho] at hj
    |some o=>exact(Array.getElem?_eq_some_iff.1 ho).1
   have:=hd j hj;rw[hall j hlt] at this
   cases this⟩
  rw[this];exact hend vals w L (fun j hj=>hall j (by simpa using hj)) hF
 ·have:undone (Array.replicate ls.toArray.size false)≤(Array.replicate ls.toArray.size false).size:=by
   unfold undone;refine Nat.le_trans List.countP_le_length ?_
   simp
  simpa using this
end
end Go.Proofs.YtignanmmgaldeaaGreatDoor
namespace Go.Proofs.YtignanmmgaldeaaGreatDoor
open Go.RowKit Go.Shelf Go.Proofs.YtignanmmgaldeaaGreatDoorW.PrintWords
theorem NumV.le{w:World}{u v:Value}{z y:Int}{L M:Nat}(h:NumV w u z L)(k:Mag w v y M)(hz:(z.natAbs:Int)≤y):NumV w u z M:=by
 obtain⟨b,u',x,rfl,h1,rfl⟩:=h;refine⟨b,u',x,rfl,h1.le k ?_,rfl⟩;have:=h1.nonneg
 cases b <;> simp at hz <;> omega
theorem quot_mag(u v:Value)(x y:Int)(L M:Nat)(w:World)(hu:Mag w u x L)(hv:Mag w v y M)(h0:0<y)(hL:L≤100000)(hM:M≤100000) :
 Calls Tryz.prog 95 #[.agg #[.bool false,u],.agg #[.bool false,v]] w fun E w'=>∃A1 n1 c1 A2 n2 c2,E= .returned (.tuple #[.agg #[.bool false,.slice A1 n1 c1],.agg #[.bool false,.slice A2 n2 c2]])∧Mag w' (.slice A1 n1 c1) (x/y) L∧Mag w' (.slice A2 n2 c2) (x%y) M∧Below w.heap.size w w':=by
 have hu0:=hu;have hv0:=hv;have hx0:=hu.nonneg;obtain⟨A,n,c,xs,rfl,h1,h2,h3,h4,h5,h6,rfl⟩:=hu;obtain⟨B,m,e,ys,rfl,k1,k2,k3,k4,k5,k6,rfl⟩:=hv;have a1:=h1.1;have a2:=k1.1;refine(quot_same A B n m c e xs ys false (xs.length+1) w h1 k1 h4 k4 (div_all h2 k2 h3 k3 aFx aFx h0)).mono ?_;rintro E w' ⟨A',n',c',B',m',c2,rfl,q1,q2,hB⟩;exact⟨_,_,_,_,_,_,rfl,q1.le (hu0.below hB) (Int.ediv_le_self _ hx0),q2.le (hv0.below hB) (Int.le_of_lt (Int.emod_lt_of_pos _ h0)),hB⟩
theorem quot_numV(u v:Value)(x y:Int)(L M K:Nat)(w:World)(hu:NumV w u x L)(hv:NumV w v y M)(h0:y≠0)(hL:L<K)(hM:M≤K)(hK:K≤99999) :
 Calls Tryz.prog 95 #[u,v] w fun E w'=>∃d1 A1 n1 c1 d2 A2 n2 c2,E= .returned (.tuple #[.agg #[.bool d1,.slice A1 n1 c1],.agg #[.bool d2,.slice A2 n2 c2]])∧NumV w' (.agg #[.bool d1,.slice A1 n1 c1]) (Int.fdiv x y) (K+1)∧NumV w' (.agg #[.bool d2,.slice A2 n2 c2]) (Int.fmod x y) (K+1)∧Below w.heap.size w w':=by
 obtain⟨b,u',x',rfl,⟨A,n,c,xs,rfl,h1,h2,h3,h4,h5,h6,rfl⟩,rfl⟩:=hu;obtain⟨b2,v',y',rfl,⟨B,m,e,ys,rfl,k1,k2,k3,k4,k5,k6,rfl⟩,rfl⟩:=hv;have a1:=h1.1;have a2:=k1.1;have hp:=rJ k2;have hY:0<lval ys:=by cases b2 <;> simp at h0 <;> omega
 exact aEa A B n m c e xs ys b b2 K w h1 k1 h4 k4 ((div_all h2 k2 h3 k3 aFx aFx hY).more aFx) h2 k2 k3 aFx aFx aFx hY
theorem sum_shape(u v:Value)(x y:Int)(L:Nat)(w:World)(hu:NumV w u x L)(hv:NumV w v y L)(hL:L≤1000000) :
 Calls Tryz.prog 81 #[u,v] w fun e w'=>∃d A n c,e= .returned (.agg #[.bool d,.slice A n c])∧NumV w' (.agg #[.bool d,.slice A n c]) (x+y) (L+1)∧Below w.heap.size w w':=by
 refine(sum_num u v x y L w hu hv hL).mono ?_;rintro e w' ⟨r,he,hr,hB⟩;obtain⟨d,A,n,c,rfl,hr⟩:=num_open hr;exact⟨d,A,n,c,he,hr,hB⟩
theorem aDw(u v:Value)(x y:Int)(L M:Nat)(w:World)(hu:NumV w u x L)(hv:NumV w v y M)(hL:L≤1000000)(hM:M≤1000000) :
 Calls Tryz.prog 85 #[u,v] w fun e w'=>∃d A n c,e= .returned (.agg #[.bool d,.slice A n c])∧NumV w' (.agg #[.bool d,.slice A n c]) (x*y) (L+M)∧Below w.heap.size w w':=by
 refine(aEl u v x y L M w hu hv hL hM).mono ?_;rintro e w' ⟨r,he,hr,hB⟩;obtain⟨d,A,n,c,rfl,hr⟩:=num_open hr;exact⟨d,A,n,c,he,hr,hB⟩
theorem numV_sign{w:World}{d:Bool}{v:Value}{z:Int}{L:Nat}(h:NumV w (.agg #[.bool d,v]) z L):if d=true then z≤0 else 0≤z:=by
 obtain⟨b,u,x,he,hm,rfl⟩:=h
 simp at he
 obtain⟨rfl,rfl⟩:=he;have:=hm.nonneg
 cases d <;> simp <;> omega
theorem bezL_none(k:Nat)(Y:Int)(hY:0<Y):bezL (k) 0 Y 1 0=if k=0 then 1 else 0:=by
 cases k with
 |zero=>rfl
 |succ k=>
  rw[bezL,if_neg aFx,if_neg aFx]
  cases k with
  |zero=>rfl
  |succ k=>rw[bezL,Int.zero_emod,if_pos rfl]
def NB(W:World)(g:Nat)(d:Bool)(A:Option Addr)(n c:Nat):Prop:=W.heap[g]? =some (.cells #[.bool d,.slice A n c] 81 (0,0))
theorem NB.c0{W:World}{g:Nat}{d:Bool}{A:Option Addr}{n c:Nat}(h:NB W g d A n c):W.cell? ⟨g,0,none⟩=some (.bool d):=fJ h 0 _ rfl
theorem NB.c1{W:World}{g:Nat}{d:Bool}{A:Option Addr}{n c:Nat}(h:NB W g d A n c):W.cell? ⟨g,1,none⟩=some (.slice A n c):=fJ h 1 _ rfl
theorem NB.f0{W:World}{g:Nat}{d:Bool}{A:Option Addr}{n c:Nat}(h:NB W g d A n c):W.frozen? ⟨g,0,none⟩=false:=gY h 0
theorem NB.f1{W:World}{g:Nat}{d:Bool}{A:Option Addr}{n c:Nat}(h:NB W g d A n c):W.frozen? ⟨g,1,none⟩=false:=gY h 1
theorem NB.lt{W:World}{g:Nat}{d:Bool}{A:Option Addr}{n c:Nat}(h:NB W g d A n c):g<W.heap.size:=(Array.getElem?_eq_some_iff.1 h).1
theorem NB.below{W W':World}{g:Nat}{d:Bool}{A:Option Addr}{n c:Nat}(h:NB W g d A n c)(hB:Below W.heap.size W W'):NB W' g d A n c:=(hB.block g h.lt).trans h
theorem NB.far{W:World}{g k:Nat}{d:Bool}{A:Option Addr}{n c:Nat}(h:NB W g d A n c)(hk:g≠k)(u v:Value):NB ((W.setCell ⟨k,0,none⟩ u).setCell ⟨k,1,none⟩ v) g d A n c:=(wB hk u v).trans h
theorem NB.put{W:World}{g:Nat}{d:Bool}{A:Option Addr}{n c:Nat}(h:NB W g d A n c)(d2:Bool)(B:Option Addr)(m e:Nat):NB ((W.setCell ⟨g,0,none⟩ (.bool d2)).setCell ⟨g,1,none⟩ (.slice B m e)) g d2 B m e:=uI h d2 B m e
theorem NB.vF{W:World}{g:Nat}{d:Bool}{A:Option Addr}{n c:Nat}(h:NB W g d A n c){v:Value}{x:Int}{L:Nat}(hm:Mag W v x L)(d2:Bool)(B:Option Addr)(m e:Nat):Mag ((W.setCell ⟨g,0,none⟩ (.bool d2)).setCell ⟨g,1,none⟩ (.slice B m e)) v x L:=qF hm h d2 B m e
theorem NB.yB{W:World}{g:Nat}{d:Bool}{A:Option Addr}{n c:Nat}(h:NB W g d A n c){v:Value}{x:Int}{L:Nat}(hm:NumV W v x L)(d2:Bool)(B:Option Addr)(m e:Nat):NumV ((W.setCell ⟨g,0,none⟩ (.bool d2)).setCell ⟨g,1,none⟩ (.slice B m e)) v x L:=hm.set2 h d2 B m e
theorem NB.alloc{W:World}{g:Nat}{d:Bool}{A:Option Addr}{n c:Nat}(h:NB W g d A n c)(o:Obj):NB (W.alloc o) g d A n c:=(Below.heap_alloc _ _ _ h.lt).trans h
theorem NB.new(W:World)(d:Bool)(A:Option Addr)(n c:Nat):NB (W.alloc (.cells #[.bool d,.slice A n c] 81)) W.heap.size d A n c:=World.alloc_heap_new W _
theorem aD3(W:World)(d d2:Bool)(A B:Option Addr)(n c m c2:Nat):NB ((W.alloc (.cells #[.bool d,.slice A n c] 81)).alloc (.cells #[.bool d2,.slice B m c2] 81)) W.heap.size d A n c∧NB ((W.alloc (.cells #[.bool d,.slice A n c] 81)).alloc (.cells #[.bool d2,.slice B m c2] 81)) (W.heap.size+1) d2 B m c2∧Below W.heap.size W ((W.alloc (.cells #[.bool d,.slice A n c] 81)).alloc (.cells #[.bool d2,.slice B m c2] 81))∧((W.alloc (.cells #[.bool d,.slice A n c] 81)).alloc (.cells #[.bool d2,.slice B m c2] 81)).heap.size=W.heap.size+2:=
 ⟨(NB.new W d A n c).alloc _,by have:=NB.new (W.alloc (.cells #[.bool d,.slice A n c] 81)) d2 B m c2;rwa [World.size_alloc] at this,((Below.refl _ W).alloc (Nat.le_refl _) _).alloc aFz _,by simp⟩
theorem bez_start(W:World):NB (((W.alloc (.cells #[.int .i64 1] 3)).alloc (.cells #[.bool false,.slice (some ⟨W.heap.size,0,none⟩) 1 1] 81)).alloc (.cells #[.bool false,.slice none 0 0] 81)) (W.heap.size+1) false (some ⟨W.heap.size,0,none⟩) 1 1 ∧
 NB (((W.alloc (.cells #[.int .i64 1] 3)).alloc (.cells #[.bool false,.slice (some ⟨W.heap.size,0,none⟩) 1 1] 81)).alloc (.cells #[.bool false,.slice none 0 0] 81)) (W.heap.size+1+1) false none 0 0 ∧
 Mag (((W.alloc (.cells #[.int .i64 1] 3)).alloc (.cells #[.bool false,.slice (some ⟨W.heap.size,0,none⟩) 1 1] 81)).alloc (.cells #[.bool false,.slice none 0 0] 81)) (.slice (some ⟨W.heap.size,0,none⟩) 1 1) 1 456 ∧
 Below W.heap.size W (((W.alloc (.cells #[.int .i64 1] 3)).alloc (.cells #[.bool false,.slice (some ⟨W.heap.size,0,none⟩) 1 1] 81)).alloc (.cells #[.bool false,.slice none 0 0] 81)):=by
 obtain⟨t1,t2,t3,t4⟩:=aD3 (W.alloc (.cells #[.int .i64 1] 3)) false false (some ⟨W.heap.size,0,none⟩) none 1 1 0 0;rw[World.size_alloc] at t1 t2;exact⟨t1,t2,(mag_one W 456 aFx).below t3,(((Below.refl _ W).alloc (Nat.le_refl _) _).alloc aFz _).alloc (by simp;omega) _⟩
theorem aCb{fn:Func}{t u v x:Tmp}(h:fn.results= #[.tmp t,.tmp u,.tmp v,.tmp x])(tmps:Array Value)(P:Program)(w:World) :
 (results fn tmps).run P w= .ok (.tuple #[tmps.getD t undef,tmps.getD u undef,tmps.getD v undef,tmps.getD x undef]) w:=by
 simp[results,h]
def BG(r x u y:Value)(p s V:Int)(B:Nat):Nat→Value→Bool→World→Prop
 |0,z,_,_=>z=r
 |1,z,_,_=>z=x
 |2,z,_,_=>z=u
 |3,z,_,w=>∃d A n c,z= .agg #[.bool d,.slice A n c]∧NumV w z p 914
 |4,z,_,w=>∃d A n c,z= .agg #[.bool d,.slice A n c]∧NumV w z (-p) 914
 |5,z,_,w=>∃d A n c,z= .agg #[.bool d,.slice A n c]∧NumV w z s 915
 |6,z,_,_=>z=y
 |7,z,_,w=>∃d A n c d2 A2 n2 c2,z= .tuple #[.agg #[.bool d,.slice A n c],.agg #[.bool d2,.slice A2 n2 c2]]∧NumV w (.agg #[.bool d,.slice A n c]) V 917
 |8,z,_,w=>∃d A n c d2 A2 n2 c2,z= .tuple #[.agg #[.bool d,.slice A n c],.agg #[.bool d2,.slice A2 n2 c2]]∧NumV w (.agg #[.bool d,.slice A n c]) V 917
 |9,z,_,w=>∃d A n c,z= .agg #[.bool d,.slice A n c]∧NumV w z V 917
 |10,z,_,w=>∃d A n c,z= .agg #[.bool d,.slice A n c]
 |11,z,t,w=>∃g d A n c,z= .pointer (some ⟨g,0,none⟩)∧NB w g d A n c∧B≤g∧(t=true→NumV w (.agg #[.bool d,.slice A n c]) V 917)
 |12,z,_,w=>∃g d A n c,z= .pointer (some ⟨g,0,none⟩)∧NB w g d A n c∧B≤g
 |_,_,_,_=>True
def BF(r x u y:Value)(p s V:Int)(W9:World)(L:Array Bool)(vals:Nat→Value)(w:World):Prop:=
 Below W9.heap.size W9 w∧(L.getD 11 false=true→L.getD 12 false=true→vals 11≠vals 12)∧(L.getD 13 false=true→L.getD 11 false=true)∧∀j,L.getD j false=true→BG r x u y p s V W9.heap.size j (vals j) (L.getD 13 false) w
theorem BG.below{r x u y:Value}{p s V:Int}{B:Nat}{w w':World}(hB:Below w.heap.size w w'):∀(j:Nat) (z:Value) (t:Bool),BG r x u y p s V B j z t w→BG r x u y p s V B j z t w'
 |0,_,_,h=>h
 |1,_,_,h=>h
 |2,_,_,h=>h
 |3,_,_,⟨d,A,n,c,e,h⟩=>⟨d,A,n,c,e,h.below hB⟩
 |4,_,_,⟨d,A,n,c,e,h⟩=>⟨d,A,n,c,e,h.below hB⟩
 |5,_,_,⟨d,A,n,c,e,h⟩=>⟨d,A,n,c,e,h.below hB⟩
 |6,_,_,h=>h
 |7,_,_,⟨d,A,n,c,d2,A2,n2,c2,e,h⟩=>⟨d,A,n,c,d2,A2,n2,c2,e,h.below hB⟩
 |8,_,_,⟨d,A,n,c,d2,A2,n2,c2,e,h⟩=>⟨d,A,n,c,d2,A2,n2,c2,e,h.below hB⟩
 |9,_,_,⟨d,A,n,c,e,h⟩=>⟨d,A,n,c,e,h.below hB⟩
 |10,_,_,h=>h
 |11,_,_,⟨g,d,A,n,c,e,h,h2,h3⟩=>⟨g,d,A,n,c,e,h.below hB,h2,fun ht=>(h3 ht).below hB⟩
 |12,_,_,⟨g,d,A,n,c,e,h,h2⟩=>⟨g,d,A,n,c,e,h.below hB,h2⟩
 |_+13,_,_,h=>h
theorem BF.step{r x u y:Value}{p s V:Int}{W9:World}{L:Array Bool}{vals:Nat→Value}{w:World}(h:BF r x u y p s V W9 L vals w){i:Nat}(hi:i<L.size)(h13:i≠13){w':World}(hB:Below w.heap.size w w'){v:Value}
 (hG:BG r x u y p s V W9.heap.size i v (L.getD 13 false) w') (hne:(i=11→L.getD 12 false=true→v≠vals 12)∧(i=12→L.getD 11 false=true→vals 11≠v)):BF r x u y p s V W9 (L.setIfInBounds i true) (fun j=>if j=i then v else vals j) w':=by
 refine⟨h.1.trans (hB.mono h.1.size),fun h1 h2=> ?_,fun h1=> ?_,fun j hj=> ?_⟩
 ·rw[lY _ _ _ hi] at h1 h2
  dsimp only
  by_cases e1:11=i
  ·have e2:¬12=i:=by omega
   rw[if_neg e2] at h2;rw[if_pos e1,if_neg e2];exact hne.1 e1.symm h2
  ·rw[if_neg e1] at h1
   by_cases e2:12=i
   ·rw[if_neg e1,if_pos e2]
    exact hne.2 e2.symm h1
   ·rw[if_neg e2] at h2
    rw[if_neg e1,if_neg e2];exact h.2.1 h1 h2
 ·rw[lY _ _ _ hi,if_neg (Ne.symm h13)] at h1
  rw[lY _ _ _ hi]
  split
  ·rfl
  ·exact h.2.2.1 h1
 ·rw[lY _ _ _ hi] at hj
  rw[lY _ _ _ hi,if_neg (Ne.symm h13)]
  dsimp only
  by_cases e:j=i
  ·rw[if_pos e,e];exact hG
  ·rw[if_neg e] at hj ⊢
   exact BG.below hB j _ _ (h.2.2.2 j hj)
theorem BF.store{r x u y:Value}{p s V:Int}{W9:World}{L:Array Bool}{vals:Nat→Value}{w:World}(h:BF r x u y p s V W9 L vals w){i:Nat}(hi:i<L.size){g:Nat}{d0:Bool}{A0:Option Addr}{n0 c0:Nat}(hN:NB w g d0 A0 n0 c0)(hg:W9.heap.size≤g)(d:Bool)(A:Option Addr)(n c:Nat)
 (hc:(i=13∧vals 11= .pointer (some ⟨g,0,none⟩)∧NumV w (.agg #[.bool d,.slice A n c]) V 917∧L.getD 11 false=true)∨(i=14∧vals 12= .pointer (some ⟨g,0,none⟩)∧L.getD 12 false=true)) :
 BF r x u y p s V W9 (L.setIfInBounds i true) (fun j=>if j=i then undef else vals j) ((w.setCell ⟨g,0,none⟩ (.bool d)).setCell ⟨g,1,none⟩ (.slice A n c)):=by
 refine⟨mM h.1 hg _ _,fun h1 h2=> ?_,fun h1=> ?_,fun j hj=> ?_⟩
 ·rw[lY _ _ _ hi,if_neg aFx] at h1 h2
  dsimp only
  rw[if_neg aFx,if_neg aFx];exact h.2.1 h1 h2
 ·rw[lY _ _ _ hi] at h1 ⊢
  rw[if_neg aFx];rcases hc with ⟨q,_,_,hl⟩|⟨q,_,_⟩
  ·exact hl
  ·rw[if_neg aFx] at h1
   exact h.2.2.1 h1
 ·rw[lY _ _ _ hi] at hj
  dsimp only
  have keep:∀{z:Value} {q:Int} {M:Nat},NumV w z q M→NumV ((w.setCell ⟨g,0,none⟩ (.bool d)).setCell ⟨g,1,none⟩ (.slice A n c)) z q M:=fun hz=>hN.yB hz d A n c
  by_cases e:j=i
  ·rw[if_pos e,e]
   rcases hc with ⟨q,_⟩|⟨q,_⟩ <;> subst q <;> trivial
  ·rw[if_neg e] at hj ⊢
   have hk:=h.2.2.2 j hj;have hlt:j<13∨13≤j:=by omega
   rcases hlt with hlt|hlt
   ·obtain rfl|rfl|rfl|rfl|rfl|rfl|rfl|rfl|rfl|rfl|rfl|rfl|rfl:j=0∨j=1∨j=2∨j=3∨j=4∨j=5∨j=6∨j=7∨j=8∨j=9∨j=10∨j=11∨j=12:=by omega
    ·exact hk
    ·exact hk
    ·exact hk
    ·obtain⟨d',A',n',c',e',h'⟩:=hk;exact⟨d',A',n',c',e',keep h'⟩
    ·obtain⟨d',A',n',c',e',h'⟩:=hk;exact⟨d',A',n',c',e',keep h'⟩
    ·obtain⟨d',A',n',c',e',h'⟩:=hk;exact⟨d',A',n',c',e',keep h'⟩
    ·exact hk
    ·obtain⟨d',A',n',c',d2,A2,n2,c2,e',h'⟩:=hk;exact⟨d',A',n',c',d2,A2,n2,c2,e',keep h'⟩
    ·obtain⟨d',A',n',c',d2,A2,n2,c2,e',h'⟩:=hk;exact⟨d',A',n',c',d2,A2,n2,c2,e',keep h'⟩
    ·obtain⟨d',A',n',c',e',h'⟩:=hk;exact⟨d',A',n',c',e',keep h'⟩
    ·exact hk
    ·obtain⟨g',d',A',n',c',e',h',h2,h3⟩:=hk
     rcases hc with ⟨q,hv,hnum,_⟩|⟨q,hv,hl⟩
     ·rw[hv] at e'
      injection e' with e'
      injection e' with e'
      injection e' with e'
      subst e';exact⟨g,d,A,n,c,hv,h'.put d A n c,h2,fun _=>keep hnum⟩
     ·have hne:=h.2.1 hj hl
      rw[hv,e'] at hne;have hne2:g'≠g:=fun q=>hne (by rw[q])
      refine⟨g',d',A',n',c',e',h'.far hne2 _ _,h2,fun ht=>keep (h3 ?_)⟩;rw[lY _ _ _ hi,if_neg aFx] at ht;exact ht
    ·obtain⟨g',d',A',n',c',e',h',h2⟩:=hk
     rcases hc with ⟨q,hv,hnum,hl⟩|⟨q,hv,_⟩
     ·have hne:=h.2.1 hl hj
      rw[hv,e'] at hne;have hne2:g'≠g:=fun q=>hne (by rw[q])
      exact⟨g',d',A',n',c',e',h'.far hne2 _ _,h2⟩
     ·rw[hv] at e'
      injection e' with e'
      injection e' with e'
      injection e' with e'
      subst e';exact⟨g,d,A,n,c,hv,h'.put d A n c,h2⟩
   ·obtain⟨k,rfl⟩:∃k,j=k+13:=⟨j-13,by omega⟩
    trivial
structure BezW(W0:World)(B0 gr gs gb gn:Nat)(Y F g:Int)(R S:Int)(wr:World):Prop where
 h:∃(k:Nat) (P Q:Int) (Ar As:Option Addr) (nr cr ns cs:Nat) (db dn:Bool) (Ab An:Option Addr) (nb cb nn cn:Nat),
  NB wr gr false Ar nr cr∧NB wr gs false As ns cs∧NB wr gb db Ab nb cb∧NB wr gn dn An nn cn ∧
  Mag wr (.slice Ar nr cr) R 456∧Mag wr (.slice As ns cs) S 456∧NumV wr (.agg #[.bool db,.slice Ab nb cb]) P 456∧NumV wr (.agg #[.bool dn,.slice An nn cn]) Q 456 ∧
  BezOK Y R S P Q∧S.toNat≤k∧bezL k R S P Q=F∧gcdI R S=g
 b:Below B0 W0 wr
end Go.Proofs.YtignanmmgaldeaaGreatDoor
end
section
set_option linter.unusedVariables false
set_option linter.unusedSimpArgs false
set_option maxRecDepth 100000
set_option maxHeartbeats 4000000
namespace Go.Proofs.YtignanmmgaldeaaGreatDoor
open Go.RowKit Go.Shelf Go.Proofs.YtignanmmgaldeaaGreatDoorW.PrintWords
theorem sgn_fits(z:Int): -9223372036854775808≤sgnI z∧sgnI z≤9223372036854775807:=by
 unfold sgnI
 split
 ·omega
 ·split <;> omega
theorem bezout_ok(a b:ByteArray)(w:World)(ha0:chkI a=0)(hb0:chkI b=0)(ha:a.size≤9223372036854775807)(hb:b.size≤9223372036854775807)(hz:aV b≠0)(hG:GW w) :
 Calls Tryz.prog 32 #[.string a,.string b] w fun e w'=>e= .returned (.tuple #[.string (text (gcdI (aV a) (aV b))),.string (text (bezU (aV a) (aV b))),.string (text (bezV (aV a) (aV b))),.int .i64 0])∧Below w.heap.size w w':=by
 have HP:=Lib.hid (fun w=>oZ a b w ha0 hb0 ha hb);have HG:=Lib.hid hG;have HZ:=Lib.hid hz;go_enter Tryz.func32,Tryz.ntmps32
 clear ha0 hb0 ha hb hG hz
 go_wp2_with fail
 refine(HP.out _).mono ?_;rintro e w1 ⟨d,A,n,c,d2,B,m,c2,rfl,hn1,hn2,hB⟩;have hm1:=uK hn1;have hm2:=uK hn2;have hm0:m≠0:=fun q=>HZ.out (by have:=(rZ hm2).2 q;omega)
 have e3:((m:Int)==0)=false:=by simpa using hm0
 have e4:¬(m:Int)=0:=by omega
 have hb0:((w1.alloc (.cells #[.bool d,.slice A n c] 81)).alloc (.cells #[.bool d2,.slice B m c2] 81)).heap[w1.heap.size]? =some (.cells #[.bool d,.slice A n c] 81):=(Below.heap_alloc _ _ _ aFz).trans (World.alloc_heap_new w1 _)
 have hb1:((w1.alloc (.cells #[.bool d,.slice A n c] 81)).alloc (.cells #[.bool d2,.slice B m c2] 81)).heap[w1.heap.size+1]? =some (.cells #[.bool d2,.slice B m c2] 81):=by
  have:=World.alloc_heap_new (w1.alloc (.cells #[.bool d,.slice A n c] 81)) (.cells #[.bool d2,.slice B m c2] 81)
  rwa [World.size_alloc] at this
 have hBa:Below w1.heap.size w1 ((w1.alloc (.cells #[.bool d,.slice A n c] 81)).alloc (.cells #[.bool d2,.slice B m c2] 81)):=((Below.refl _ w1).alloc (Nat.le_refl _) _).alloc aFz _;have hsz:((w1.alloc (.cells #[.bool d,.slice A n c] 81)).alloc (.cells #[.bool d2,.slice B m c2] 81)).heap.size=w1.heap.size+2:=by simp
 have HN1:=Lib.hid (hn1.below hBa);have HN2:=Lib.hid (hn2.below hBa);have o5:=Lib.hid (hm1.below hBa);have l9:=Lib.hid (hm2.below hBa);have HB:=Lib.hid (hB.trans (hBa.mono hB.size));have hsw:=hB.size;clear hn1 hn2 hm1 hm2 hB HP hm0
 go_wp2_with fail
 obtain⟨W5,hW5⟩:∃W5,(w1.alloc (.cells #[.bool d,.slice A n c] 81)).alloc (.cells #[.bool d2,.slice B m c2] 81)=W5:=⟨_,rfl⟩
 rw[hW5] at hb0 hb1 hsz HN1 HN2 o5 l9 HB ⊢;clear hW5 hBa;have NX:NB W5 w1.heap.size d A n c:=hb0;have NY:NB W5 (w1.heap.size+1) d2 B m c2:=hb1;clear hb0 hb1;have HS0:=Lib.hid hsz;have HKB:Hid (∀v:World,Below W5.heap.size W5 v→v.cell? ⟨w1.heap.size,1,none⟩=some (.slice A n c)∧v.cell? ⟨w1.heap.size+1,1,none⟩=some (.slice B m c2)):=Lib.hid fun v hB=>⟨(NX.below hB).c1,(NY.below hB).c1⟩
 have HNX:=Lib.hid NX;have HNY:=Lib.hid NY;clear HZ NX NY
 go_upto_region 7 with fail
 go_cut [12,13] (fun s12 s13 wx=>∃(gr gs:Nat) (W7:World),W7=wx∧s12= .pointer (some ⟨gr,0,none⟩)∧s13= .pointer (some ⟨gs,0,none⟩)∧W5.heap.size≤gr∧W5.heap.size≤gs∧gs≠gr∧Hid (NB W7 gr false A n c)∧Hid (NB W7 gs false B m c2)∧Hid (Below W5.heap.size W5 W7))
 case first=>
  go_region_held3 (fun w'=>w'.cell? ⟨w1.heap.size,1,none⟩=some (.slice A n c)∧w'.cell? ⟨w1.heap.size+1,1,none⟩=some (.slice B m c2)) (first|assumption|exact HKB.out _ (by repeat(first|exact Below.refl _ _|apply aT|apply aJ))) (fail)
  all_goals(
   first
    |(obtain⟨t1,t2,t3,t4⟩:=aD3 W5 false false A B n c m c2
      rw[hsz] at t1 t2
      go_wp2_with fail
      go_meet
      exact⟨_,_,_,rfl,rfl,rfl,Nat.le_of_eq hsz,by omega,by omega,Lib.hid t1,Lib.hid t2,Lib.hid t3.drew⟩)
    |(obtain⟨t1,t2,t3,t4⟩:=aD3 W5 false false B A m c2 n c
      rw[hsz] at t1 t2
      go_wp2_with fail
      go_meet
      exact⟨_,_,_,rfl,rfl,rfl,by omega,Nat.le_of_eq hsz,by omega,Lib.hid t2,Lib.hid t1,Lib.hid t3.drew⟩))
 case rest=>
  obtain⟨gr,gs,W7,hW7,rfl,rfl,o1,o2,o3,o6,HS7,HB7⟩:=hcut;subst hW7;clear HKB
  go_wp2_with fail
  obtain⟨l1,l2,l3,l4⟩:=bez_start W7;have l5:=o6.out.lt;have l6:=HS7.out.lt;have hY0:=l9.out.nonneg;have hX0:=o5.out.nonneg
  have hY1:0<((aV b).natAbs:Int):=by
   have:((aV b).natAbs:Int)≠0:=fun q=>e4 (by exact_mod_cast (rZ l9.out).1 q)
   omega
  obtain⟨WL,hWL⟩:∃WL,(((W7.alloc (.cells #[.int .i64 1] 3)).alloc (.cells #[.bool false,.slice (some ⟨W7.heap.size,0,none⟩) 1 1] 81)).alloc (.cells #[.bool false,.slice none 0 0] 81))=WL:=⟨_,rfl⟩
  rw[hWL] at l1 l2 l3 l4 ⊢;have l7:W5.heap.size≤W7.heap.size+1:=by have:=HB7.out.size;omega
  have l8:W5.heap.size≤W7.heap.size+1+1:=by omega
  have d1:gr≠W7.heap.size+1:=by omega
  have d2':gr≠W7.heap.size+1+1:=by omega
  have d3:gs≠W7.heap.size+1:=by omega
  have d4:gs≠W7.heap.size+1+1:=by omega
  have d5:W7.heap.size+1+1≠W7.heap.size+1:=by omega
  have HST:Hid (∃R S,BezW W5 W5.heap.size gr gs (W7.heap.size+1) (W7.heap.size+1+1) (aV b).natAbs (bezL (aV b).natAbs (aV a).natAbs (aV b).natAbs 1 0) (gcdI (aV a).natAbs (aV b).natAbs) R S WL):=
   Lib.hid ⟨_,_,⟨(aV b).natAbs,1,0,_,_,_,_,_,_,_,_,_,_,_,_,_,_,o6.out.below l4,HS7.out.below l4,l1,l2,o5.out.below (HB7.out.trans (l4.mono HB7.out.size)),l9.out.below (HB7.out.trans (l4.mono HB7.out.size)),yV l3,⟨false,_,0,rfl,mag_nil _ _,rfl⟩,bezOK_start hX0 hY1,by omega,rfl,rfl⟩,HB7.out.trans (l4.mono HB7.out.size)⟩
  clear l1 l2 l3 l4 l5 l6 o6 HS7 hWL;generalize W7.heap.size+1+1=gn at l8 d2' d4 d5 HST ⊢;generalize W7.heap.size+1=gb at l7 d1 d3 d5 HST ⊢;clear HB7
  go_loopw [] (fun wr=>Hid (∃R S,BezW W5 W5.heap.size gr gs gb gn (aV b).natAbs (bezL (aV b).natAbs (aV a).natAbs (aV b).natAbs 1 0) (gcdI (aV a).natAbs (aV b).natAbs) R S wr)) (fun wz=>magN wz ((wz.cell? ⟨gs,1,none⟩).getD undef))
  case atStart=>exact HST
  case round=>
   clear HST;obtain⟨R,Z,⟨k,P,Q,Ar,As,nr,cr,ns,cs,db,dn,Ab,An,nb,cb,nn,cn,n1,n2,n3,n4,m1,m2,v1,v2,hok,hk,hF,hg⟩,hBr⟩:=hrel.out;have hS0:=m2.nonneg;have hR0:=m1.nonneg;have hz:=rZ m2
   by_cases h0:ns=0
   ·obtain rfl:Z=0:=hz.2 h0
    subst h0
    have hPF:P=bezL (aV b).natAbs (aV a).natAbs (aV b).natAbs 1 0:=by
     rw[←hF]
     cases k <;> simp[bezL]
    have hRg:R=gcdI (aV a) (aV b):=by rw[vO hR0,aAa] at hg;exact hg
    subst hRg;have hbz:aV b≠0:=by omega
    have hg0:0<gcdI (aV a) (aV b):=aAb hbz;have hq0:0<((aV b).natAbs:Int)/gcdI (aV a) (aV b):=Int.ediv_pos_of_pos_of_dvd hY1 (Int.le_of_lt hg0) (Int.dvd_natAbs.2 (qL _ _));have nx:=HNX.out.below hBr;have ny:=HNY.out.below hBr;have s0:=n2.c0;have s1:=n2.c1;have xa:=nx.c0;have ya:=ny.c1;have ra:=n1.c1;have hxb:w1.heap.size≠gb:=by omega
    have hyb:w1.heap.size+1≠gb:=by omega
    clear hz hok hk hF hg v2 n4 m2 hrel
    go_upto_if 75 with fail
    go_cut [] (fun wx=>∃(wD:World) (db':Bool),wD=wx∧Hid (NB wD gr false Ar nr cr)∧Hid (NB wD gb db' Ab nb cb)∧Hid (NB wD w1.heap.size d A n c)∧Hid (NB wD (w1.heap.size+1) d2 B m c2)∧Hid (Mag wD (.slice Ar nr cr) (gcdI (aV a) (aV b)) 456)∧Hid (NumV wD (.agg #[.bool db',.slice Ab nb cb]) (bezP (aV a) (aV b)) 456)∧Hid (Below W5.heap.size W5 wD))
    case first=>
     cases d with
     |false=>
      have hP:P=bezP (aV a) (aV b):=by
       have h1:=numV_sign HN1.out;unfold bezP;rw[if_neg (by simp at h1;omega)];exact hPF
      subst hP
      go_wp2_with fail
      go_meet
      exact⟨_,_,rfl,Lib.hid n1,Lib.hid n3,Lib.hid nx,Lib.hid ny,Lib.hid m1,Lib.hid v1,Lib.hid hBr⟩
     |true=>
      have hP: -P=bezP (aV a) (aV b):=by
       have h1:=numV_sign HN1.out;unfold bezP
       by_cases ha0:aV a<0
       ·rw[if_pos ha0,hPF]
       ·rw[if_neg ha0,hPF]
        have:aV a=0:=by simp at h1;omega
        rw[this,Int.natAbs_zero,show((0:Nat):Int)=0 from rfl,bezL_none _ _ aFx,if_neg aFx];rfl
      have ba:=n3.c0;have bb:=n3.c1
      go_wp2_with fail
      refine(yR db Ab nb cb wr).mono ?_;rintro e w2 ⟨rfl,hB2⟩;have k3:=n3.below hB2;have bc:=k3.c0;have bd:=k3.c1;have be:=k3.f0;have bf:=k3.f1
      go_wp2_with fail
      go_meet
      refine⟨_,!db,rfl,Lib.hid ((n1.below hB2).far d1 _ _),Lib.hid (k3.put _ _ _ _),Lib.hid ((nx.below hB2).far hxb _ _),Lib.hid ((ny.below hB2).far hyb _ _),Lib.hid (k3.vF (m1.below hB2) _ _ _ _),Lib.hid ?_,Lib.hid (mM (hBr.trans (hB2.mono hBr.size)) l7 _ _)⟩;rw[←hP];exact k3.yB ((v1.neg).below hB2) _ _ _ _
    case rest=>
     obtain⟨wD,db',hwD,G1',G3',GX',GY',MR',NP',BD'⟩:=hcut;subst hwD;clear s0 s1 xa ya ra n1 n3 nx ny m1 v1 hBr hPF;have NX':=Lib.hid (HN1.out.below BD'.out);have NY':=Lib.hid (HN2.out.below BD'.out);have MY':=Lib.hid (l9.out.below BD'.out);have y0:=GY'.out.c1;have y1:=G1'.out.c1
     go_wp2_with fail
     clear y0 y1;refine(aDk _ _ _ _ 456 456 wD MY'.out MR'.out hg0 aFx aFx).mono ?_;rintro e w3 ⟨A3,n3,c3,A4,n4,c4,rfl,hst,_,hB3⟩;have y0:=(G3'.out.below hB3).c0;have y1:=(G3'.out.below hB3).c1;have HST:=Lib.hid hst;have HB3:=Lib.hid hB3;clear hst hB3
     go_wp2_with fail
     refine(quot_numV _ _ _ _ 456 456 457 w3 (NP'.out.below HB3.out) (yV HST.out) aFx aFx aFx aFx).mono ?_;rintro e w4 ⟨d5,A5,n5,c5,d6,A6,n6,c6,rfl,_,hu,hB4⟩;have HU:=Lib.hid hu;have HB4:=Lib.hid (HB3.out.trans (hB4.mono HB3.out.size));clear hu hB4 y0 y1
     go_wp2_with fail
     obtain⟨t1,t2,t3,t4⟩:=aD3 w4 d5 d6 A5 A6 n5 c5 n6 c6;obtain⟨W9,hW9⟩:∃W9,(w4.alloc (.cells #[.bool d5,.slice A5 n5 c5] 81)).alloc (.cells #[.bool d6,.slice A6 n6 c6] 81)=W9:=⟨_,rfl⟩
     rw[hW9] at t1 t2 t3 t4 ⊢;have b9:Below wD.heap.size wD W9.drew:=(HB4.out.trans (t3.mono HB4.out.size)).drew;have g1:NB W9.drew gr false Ar nr cr:=G1'.out.below b9;have gx:NB W9.drew w1.heap.size d A n c:=GX'.out.below b9;have gy:NB W9.drew (w1.heap.size+1) d2 B m c2:=GY'.out.below b9;have gu:NB W9.drew (w4.heap.size+1) d6 A6 n6 c6:=t2;have hU:bezU (aV a) (aV b)=Int.fmod (bezP (aV a) (aV b)) ((aV b).natAbs/gcdI (aV a) (aV b)):=if_neg hbz;have hV:bezV (aV a) (aV b)=Int.fdiv (gcdI (aV a) (aV b)+ -(aV a*bezU (aV a) (aV b))) (aV b):=if_neg hbz;have nu:NumV W9.drew (.agg #[.bool d6,.slice A6 n6 c6]) (bezU (aV a) (aV b)) 458:=by rw[hU];exact HU.out.below t3.drew
     have GU:=Lib.hid gu;have G1:=Lib.hid g1;have NU:=Lib.hid nu;have NX9:=Lib.hid (NX'.out.below b9);have NY9:=Lib.hid (NY'.out.below b9);have MR9:=Lib.hid (MR'.out.below b9);have B9:=Lib.hid (BD'.out.trans (b9.mono BD'.out.size));have HV:=Lib.hid hV;have o7:Hid (∀v:World,Below W9.drew.heap.size W9.drew v→v.cell? ⟨gr,0,none⟩=some (.bool false)∧v.cell? ⟨gr,1,none⟩=some (.slice Ar nr cr)∧v.cell? ⟨w1.heap.size,0,none⟩=some (.bool d)∧v.cell? ⟨w1.heap.size,1,none⟩=some (.slice A n c)∧v.cell? ⟨w4.heap.size+1,0,none⟩=some (.bool d6)∧v.cell? ⟨w4.heap.size+1,1,none⟩=some (.slice A6 n6 c6)∧v.cell? ⟨w1.heap.size+1,0,none⟩=some (.bool d2)∧v.cell? ⟨w1.heap.size+1,1,none⟩=some (.slice B m c2)):=Lib.hid fun v hB=>⟨(g1.below hB).c0,(g1.below hB).c1,(gx.below hB).c0,(gx.below hB).c1,(gu.below hB).c0,(gu.below hB).c1,(gy.below hB).c0,(gy.below hB).c1⟩
     have kd:=o7.out W9.drew (Below.refl _ _);clear g1 gx gy gu nu t1 t2 t3 t4 b9 G1' G3' GX' GY' NX' NY' MY' MR' NP' BD' HST HU HB3 HB4 hU hV hW9;refine region_J (by kernel_rfl) (BF (.agg #[.bool false,.slice Ar nr cr]) (.agg #[.bool d,.slice A n c]) (.agg #[.bool d6,.slice A6 n6 c6]) (.agg #[.bool d2,.slice B m c2]) (aV a*bezU (aV a) (aV b)) (gcdI (aV a) (aV b)+ -(aV a*bezU (aV a) (aV b))) (bezV (aV a) (aV b)) W9.drew) (by kernel_rfl) ⟨Below.refl _ _,fun h=>by(rw[getD_replicate_false] at h;cases h),fun h=>by(rw[getD_replicate_false] at h;cases h),fun j h=>by(rw[getD_replicate_false] at h;cases h)⟩ ?_ ?_
     ·intro L vals ac wv i o ho hf hs hn hk hF K hK
      have hlt:i<15:=(List.getElem?_eq_some_iff.1 ho).1;have hi:i<L.size:=by rw[hs];exact hlt
      have hx:=o7.out wv hF.1;have hall:=Lib.hid hF.2.2.2;have HFF:=Lib.hid hF;clear hF kd;obtain rfl|rfl|rfl|rfl|rfl|rfl|rfl|rfl|rfl|rfl|rfl|rfl|rfl|rfl|rfl:i=0∨i=1∨i=2∨i=3∨i=4∨i=5∨i=6∨i=7∨i=8∨i=9∨i=10∨i=11∨i=12∨i=13∨i=14:=by omega
      all_goals(obtain rfl:=Option.some.inj ho)
      ·have e0:ac.tmps[12]?.getD undef= .pointer (some ⟨gr,0,none⟩):=nC ((hk.rest' 12 (by kernel_rfl)).trans rfl)
       go_simp
       exact hK _ _ (HFF.out.step hi aG0 (Below.refl _ _) rfl ⟨fun e=>absurd e aG0,fun e=>absurd e aG0⟩)
      ·have e0:ac.tmps[8]?.getD undef= .pointer (some ⟨w1.heap.size,0,none⟩):=nC ((hk.rest' 8 (by kernel_rfl)).trans rfl)
       go_simp
       exact hK _ _ (HFF.out.step hi aG0 (Below.refl _ _) rfl ⟨fun e=>absurd e aG0,fun e=>absurd e aG0⟩)
      ·have e0:ac.tmps[21]?.getD undef= .pointer (some ⟨w4.heap.size+1,0,none⟩):=nC ((hk.rest' 21 (by kernel_rfl)).trans rfl)
       go_simp
       exact hK _ _ (HFF.out.step hi aG0 (Below.refl _ _) rfl ⟨fun e=>absurd e aG0,fun e=>absurd e aG0⟩)
      ·have e0:ac.tmps[95]?.getD undef= .agg #[.bool d,.slice A n c]:=nC ((hk.done 1 95 rfl (by kernel_rfl)).trans (hall.out 1 (hn 1 (by kernel_rfl))))
       have e1:ac.tmps[96]?.getD undef= .agg #[.bool d6,.slice A6 n6 c6]:=nC ((hk.done 2 96 rfl (by kernel_rfl)).trans (hall.out 2 (hn 2 (by kernel_rfl))))
       go_simp
       go_at_call 85
       refine(aDw _ _ (aV a) (bezU (aV a) (aV b)) 456 458 wv (NX9.out.below HFF.out.1) (NU.out.below HFF.out.1) aFx aFx).mono ?_;rintro e v1 ⟨dp,Ap,np,cp,rfl,hp,hB5⟩
       dsimp only
       exact hK _ _ (HFF.out.step hi aG0 hB5 ⟨_,_,_,_,rfl,hp⟩ ⟨fun e=>absurd e aG0,fun e=>absurd e aG0⟩)
      ·obtain⟨dp,Ap,np,cp,hv,hp⟩:=hall.out 3 (hn 3 (by kernel_rfl))
       have e0:=nC (hk.done 3 97 rfl (by kernel_rfl));rw[hv] at e0 hp
       go_simp
       go_at_call 83
       refine(yR dp Ap np cp wv).mono ?_;rintro e v1 ⟨rfl,hB5⟩
       dsimp only
       exact hK _ _ (HFF.out.step hi aG0 hB5 ⟨_,_,_,_,rfl,hp.neg.below hB5⟩ ⟨fun e=>absurd e aG0,fun e=>absurd e aG0⟩)
      ·obtain⟨dp,Ap,np,cp,hv,hp⟩:=hall.out 4 (hn 4 (by kernel_rfl))
       have e0:=nC (hk.done 4 98 rfl (by kernel_rfl));rw[hv] at e0 hp;have e1:ac.tmps[94]?.getD undef= .agg #[.bool false,.slice Ar nr cr]:=nC ((hk.done 0 94 rfl (by kernel_rfl)).trans (hall.out 0 (hn 0 (by kernel_rfl))))
       go_simp
       go_at_call 81
       refine(sum_shape _ _ (gcdI (aV a) (aV b)) (-(aV a*bezU (aV a) (aV b))) 914 wv ((yV (MR9.out.below HFF.out.1)).more aFx) hp aFx).mono ?_;rintro e v1 ⟨ds,As,ns,cs,rfl,hs',hB5⟩
       dsimp only
       exact hK _ _ (HFF.out.step hi aG0 hB5 ⟨_,_,_,_,rfl,hs'⟩ ⟨fun e=>absurd e aG0,fun e=>absurd e aG0⟩)
      ·have e0:ac.tmps[9]?.getD undef= .pointer (some ⟨w1.heap.size+1,0,none⟩):=nC ((hk.rest' 9 (by kernel_rfl)).trans rfl)
       go_simp
       exact hK _ _ (HFF.out.step hi aG0 (Below.refl _ _) rfl ⟨fun e=>absurd e aG0,fun e=>absurd e aG0⟩)
      ·obtain⟨dp,Ap,np,cp,hv,hp⟩:=hall.out 5 (hn 5 (by kernel_rfl))
       have e0:=nC (hk.done 5 99 rfl (by kernel_rfl));rw[hv] at e0 hp;have e1:ac.tmps[100]?.getD undef= .agg #[.bool d2,.slice B m c2]:=nC ((hk.done 6 100 rfl (by kernel_rfl)).trans (hall.out 6 (hn 6 (by kernel_rfl))))
       go_simp
       go_at_call 95
       refine(quot_numV _ _ _ (aV b) 915 456 916 wv hp (NY9.out.below HFF.out.1) hbz aFx aFx aFx).mono ?_;rintro e v1 ⟨d7,A7,n7,c7,d8,A8,n8,c8,rfl,hv',_,hB5⟩
       dsimp only
       exact hK _ _ (HFF.out.step hi aG0 hB5 ⟨_,_,_,_,_,_,_,_,rfl,by rw[HV.out];exact hv'⟩ ⟨fun e=>absurd e aG0,fun e=>absurd e aG0⟩)
      ·obtain⟨d7,A7,n7,c7,d8,A8,n8,c8,hv,hp⟩:=hall.out 7 (hn 7 (by kernel_rfl))
       have e0:=nC (hk.done 7 101 rfl (by kernel_rfl));rw[hv] at e0
       go_simp
       exact hK _ _ (HFF.out.step hi aG0 (Below.refl _ _) ⟨_,_,_,_,_,_,_,_,rfl,hp⟩ ⟨fun e=>absurd e aG0,fun e=>absurd e aG0⟩)
      ·obtain⟨d7,A7,n7,c7,d8,A8,n8,c8,hv,hp⟩:=hall.out 8 (hn 8 (by kernel_rfl))
       have e0:=nC (hk.done 8 93 rfl (by kernel_rfl));rw[hv] at e0
       go_simp
       exact hK _ _ (HFF.out.step hi aG0 (Below.refl _ _) ⟨_,_,_,_,rfl,hp⟩ ⟨fun e=>absurd e aG0,fun e=>absurd e aG0⟩)
      ·obtain⟨d7,A7,n7,c7,d8,A8,n8,c8,hv,hp⟩:=hall.out 8 (hn 8 (by kernel_rfl))
       have e0:=nC (hk.done 8 93 rfl (by kernel_rfl));rw[hv] at e0
       go_simp
       exact hK _ _ (HFF.out.step hi aG0 (Below.refl _ _) ⟨_,_,_,_,rfl⟩ ⟨fun e=>absurd e aG0,fun e=>absurd e aG0⟩)
      ·go_simp
       refine hK _ _ (HFF.out.step hi aG0 ((Below.refl _ wv).alloc (Nat.le_refl _) _) ⟨_,_,_,_,_,rfl,NB.new wv _ _ _ _,HFF.out.1.size,fun ht=>absurd (HFF.out.2.2.1 ht) (by rw[hf];decide)⟩ ⟨fun _ hl=> ?_,fun e=>absurd e aG0⟩);obtain⟨g',d',A',n',c',e',h',_⟩:=hall.out 12 hl;rw[e'];intro q
       injection q with q
       injection q with q
       injection q with q
       have:=h'.lt;omega
      ·go_simp
       refine hK _ _ (HFF.out.step hi aG0 ((Below.refl _ wv).alloc (Nat.le_refl _) _) ⟨_,_,_,_,_,rfl,NB.new wv _ _ _ _,HFF.out.1.size⟩ ⟨fun e=>absurd e aG0,fun _ hl=> ?_⟩);obtain⟨g',d',A',n',c',e',h',_⟩:=hall.out 11 hl;rw[e'];intro q
       injection q with q
       injection q with q
       injection q with q
       have:=h'.lt;omega
      ·obtain⟨d7,A7,n7,c7,hv,hp⟩:=hall.out 9 (hn 9 (by kernel_rfl))
       obtain⟨g',d',A',n',c',e',h',hg',_⟩:=hall.out 11 (hn 11 (by kernel_rfl));have e0:=nC (hk.done 9 102 rfl (by kernel_rfl));have e1:=nC (hk.done 11 22 rfl (by kernel_rfl));rw[hv] at e0 hp;rw[e'] at e1;have y0:=h'.c0;have y1:=h'.c1;have y2:=h'.f0;have y3:=h'.f1
       go_simp
       exact hK _ _ (HFF.out.store hi h' hg' d7 A7 n7 c7 (.inl ⟨rfl,e',hp,hn 11 (by kernel_rfl)⟩))
      ·obtain⟨d7,A7,n7,c7,hv⟩:=hall.out 10 (hn 10 (by kernel_rfl))
       obtain⟨g',d',A',n',c',e',h',hg'⟩:=hall.out 12 (hn 12 (by kernel_rfl));have e0:=nC (hk.done 10 103 rfl (by kernel_rfl));have e1:=nC (hk.done 12 23 rfl (by kernel_rfl));rw[hv] at e0;rw[e'] at e1;have y0:=h'.c0;have y1:=h'.c1;have y2:=h'.f0;have y3:=h'.f1
       go_simp
       exact hK _ _ (HFF.out.store hi h' hg' d7 A7 n7 c7 (.inr ⟨rfl,e',hn 12 (by kernel_rfl)⟩))
     ·intro vals wv L hl hF
      obtain⟨gv,dv,Av,nv,cv,e',h',hg',hnum⟩:=hF.2.2.2 11 (hl 11 aG0);have hV9:=hnum (hl 13 aG0);simp only[aAg,Act.put,List.setIfInBounds_toArray,List.set_cons_zero,List.set_cons_succ];rw[e'];have r1:=G1.out.below hF.1;have r2:=GU.out.below hF.1;have hW:=B9.out.trans (hF.1.mono B9.out.size);have HMR:=Lib.hid (yV (MR9.out.below hF.1));have HNU:=Lib.hid (NU.out.below hF.1);have HNV:=Lib.hid hV9;have HWW:=Lib.hid (HB.out.trans (hW.mono HB.out.size));have HGV:=Lib.hid (HG.out.below HWW.out);have HT1:Hid (∀v:World,Below wv.heap.size wv v→Calls Tryz.prog 88 #[.agg #[.bool false,.slice Ar nr cr]] v fun e w'=>e= .returned (.string (text (gcdI (aV a) (aV b))))∧Below v.heap.size v w'):=Lib.hid fun v hv=>yS _ _ 456 v (HMR.out.below hv) aFx (HGV.out.below hv)
      have HT2:Hid (∀v:World,Below wv.heap.size wv v→Calls Tryz.prog 88 #[.agg #[.bool d6,.slice A6 n6 c6]] v fun e w'=>e= .returned (.string (text (bezU (aV a) (aV b))))∧Below v.heap.size v w'):=Lib.hid fun v hv=>yS _ _ 458 v (HNU.out.below hv) aFx (HGV.out.below hv)
      have HT3:Hid (∀v:World,Below wv.heap.size wv v→Calls Tryz.prog 88 #[.agg #[.bool dv,.slice Av nv cv]] v fun e w'=>e= .returned (.string (text (bezV (aV a) (aV b))))∧Below v.heap.size v w'):=Lib.hid fun v hv=>yS _ _ 917 v (HNV.out.below hv) aFx (HGV.out.below hv)
      have HKC:Hid (∀v:World,Below wv.heap.size wv v→v.cell? ⟨gr,0,none⟩=some (.bool false)∧v.cell? ⟨gr,1,none⟩=some (.slice Ar nr cr)∧v.cell? ⟨w4.heap.size+1,0,none⟩=some (.bool d6)∧v.cell? ⟨w4.heap.size+1,1,none⟩=some (.slice A6 n6 c6)∧v.cell? ⟨gv,0,none⟩=some (.bool dv)∧v.cell? ⟨gv,1,none⟩=some (.slice Av nv cv)):=Lib.hid fun v hB=>⟨(r1.below hB).c0,(r1.below hB).c1,(r2.below hB).c0,(r2.below hB).c1,(h'.below hB).c0,(h'.below hB).c1⟩
      have BQ0:=Lib.hid ((Below.refl wv.heap.size wv).drew);have kd0:=HKC.out _ BQ0.out;clear hF hl hnum hV9 hW r1 r2 h' hg' e' kd o7 NX9 NY9 MR9 NU GU G1 B9 HV HN1 HN2 o5 l9 HNX HNY HMR HNU HNV
      go_wp2_with fail
      go_region_held3 (fun v=>v.cell? ⟨gr,0,none⟩=some (.bool false)∧v.cell? ⟨gr,1,none⟩=some (.slice Ar nr cr)∧v.cell? ⟨w4.heap.size+1,0,none⟩=some (.bool d6)∧v.cell? ⟨w4.heap.size+1,1,none⟩=some (.slice A6 n6 c6)∧v.cell? ⟨gv,0,none⟩=some (.bool dv)∧v.cell? ⟨gv,1,none⟩=some (.slice Av nv cv)) (first|assumption) (first
       |(go_at_call 88;refine(HT1.out _ BQ0.out).mono ?_;rintro e v1 ⟨rfl,hb⟩;have hb2:=BQ0.out.trans (hb.mono BQ0.out.size);have kd1:=HKC.out _ hb2;have BQ1:=Lib.hid hb2;clear hb hb2 HT1)
       |(go_at_call 88;refine(HT2.out _ BQ1.out).mono ?_;rintro e v2 ⟨rfl,hb⟩;have hb2:=BQ1.out.trans (hb.mono BQ1.out.size);have kd2:=HKC.out _ hb2;have BQ2:=Lib.hid hb2;clear hb hb2 HT2)
       |(go_at_call 88;refine(HT3.out _ BQ2.out).mono ?_;rintro e v3 ⟨rfl,hb⟩;have hb2:=BQ2.out.trans (hb.mono BQ2.out.size);have kd3:=HKC.out _ hb2;have BQ3:=Lib.hid hb2;clear hb hb2 HT3))
      all_goals(
       go_wp2_with fail
       (try simp only[Exit.inBlock,Exit.then])
       refine bodyPost_ret (aCb rfl _ _ _) rfl ?_
       exact⟨rfl,HWW.out.trans (BQ3.out.mono HWW.out.size)⟩)
   ·have hS1:0<Z:=by have:Z≠0:=fun q=>h0 (hz.1 q);omega
    have e5:decide ((0:Int)<(ns:Int))=true:=decide_eq_true aFx;have e6:(0:Int)<(ns:Int):=by omega
    have r0:=n1.c0;have r1:=n1.c1;have s0:=n2.c0;have s1:=n2.c1;have HMS:Hid (magN wr ((wr.cell? ⟨gs,1,none⟩).getD undef)=Z.toNat):=Lib.hid (by rw[s1];exact magN_of m2);have HQ:=Lib.hid (quot_mag _ _ R Z 456 456 wr m1 m2 hS1 aFx aFx);have N1:=Lib.hid n1;have N2:=Lib.hid n2;have N3:=Lib.hid n3;have N4:=Lib.hid n4;have M1:=Lib.hid m1;have M2:=Lib.hid m2;have V1:=Lib.hid v1;have V2:=Lib.hid v2;have OK:=Lib.hid hok;have HK:=Lib.hid hk;have HF:=Lib.hid hF;have HGC:=Lib.hid hg;have HBR:=Lib.hid hBr;clear n1 n2 n3 n4 m1 m2 v1 v2 hok hk hF hg hBr hz h0 hrel
    go_wp2_with(go_at_call 95;refine HQ.out.mono ?_;rintro E w2 ⟨A1,k1,c1,A2,k2,c2',rfl,q1,q2,hB2⟩;have HQ1:=Lib.hid q1;have HQ2:=Lib.hid q2;have HB2:=Lib.hid hB2;clear q1 q2 hB2 HQ r0 r1 s0 s1)
    obtain⟨t1,t2,t3,t4⟩:=aD3 w2 false false A1 A2 k1 c1 k2 c2';obtain⟨W3,hW3⟩:∃W3,(w2.alloc (.cells #[.bool false,.slice A1 k1 c1] 81)).alloc (.cells #[.bool false,.slice A2 k2 c2'] 81)=W3:=⟨_,rfl⟩
    rw[hW3] at t1 t2 t3 t4 ⊢;have p1:NB W3 gr false Ar nr cr:=(N1.out.below HB2.out).below t3;have p2:NB W3 gs false As ns cs:=(N2.out.below HB2.out).below t3;have p3:NB W3 gb db Ab nb cb:=(N3.out.below HB2.out).below t3;have p4:NB W3 gn dn An nn cn:=(N4.out.below HB2.out).below t3;have p5:NB W3 w2.heap.size false A1 k1 c1:=t1;have p6:NB W3 (w2.heap.size+1) false A2 k2 c2':=t2;have f1:w2.heap.size+1≠gr:=by have:=(N1.out.below HB2.out).lt;omega
    have f2:w2.heap.size+1≠gs:=by have:=(N2.out.below HB2.out).lt;omega
    have f3:w2.heap.size≠gr:=by have:=(N1.out.below HB2.out).lt;omega
    have f4:w2.heap.size≠gs:=by have:=(N2.out.below HB2.out).lt;omega
    have f5:w2.heap.size≠gb:=by have:=(N3.out.below HB2.out).lt;omega
    have f6:w2.heap.size≠gn:=by have:=(N4.out.below HB2.out).lt;omega
    have P2:=Lib.hid p2;have P3:=Lib.hid p3;have P4:=Lib.hid p4;have P5:=Lib.hid p5;have P6:=Lib.hid p6;have P1:=Lib.hid p1;have x0:=p1.c0;have x1:=p1.c1;have x2:=p1.f0;have x3:=p1.f1;have T3:=Lib.hid (HBR.out.trans ((HB2.out.trans (t3.mono HB2.out.size)).mono HBR.out.size)).drew;clear hW3 t1 t2 p1 p2 p3 p4 p5 p6 N1 N2 N3 N4;refine aEo (S:=fun L W=>(L.getD 3 true=false→W.cell? ⟨gs,0,none⟩=some (.bool false)∧W.cell? ⟨gs,1,none⟩=some (.slice As ns cs))∧W.cell? ⟨w2.heap.size+1,0,none⟩=some (.bool false)∧W.cell? ⟨w2.heap.size+1,1,none⟩=some (.slice A2 k2 c2')) (by kernel_rfl) ?_;refine yA 0 3 (fun W=>W.cell? ⟨gs,0,none⟩=some (.bool false)∧W.cell? ⟨gs,1,none⟩=some (.slice As ns cs)) (v:= .agg #[.bool false,.slice As ns cs]) rfl rfl (by kernel_rfl) aG0 (by kernel_rfl) (by kernel_rfl) (by kernel_rfl) (by kernel_rfl) (fun _ _ _ h=>h) (fun L W=>by rw[getD_set_ne true (show(0:Nat)≠3 by decide)]) (fun L W hl h=>h.1 hl) ⟨fun _=>⟨P2.out.c0,P2.out.c1⟩,P6.out.c0,P6.out.c1⟩ rfl (fun W hW=>by obtain⟨y0,y1⟩:=hW;go_simp) (fun hS=> ?_)
    try simp only[Act.put,List.setIfInBounds_toArray,List.set_cons_zero,List.set_cons_succ]
    refine yA 1 3 (fun W=>W.cell? ⟨w2.heap.size+1,0,none⟩=some (.bool false)∧W.cell? ⟨w2.heap.size+1,1,none⟩=some (.slice A2 k2 c2')) (v:= .agg #[.bool false,.slice A2 k2 c2']) rfl rfl (by kernel_rfl) aG0 (by kernel_rfl) (by kernel_rfl) (by kernel_rfl) (by kernel_rfl) (fun _ _ _ h=>h) (fun L W=>by rw[getD_set_ne true (show(1:Nat)≠3 by decide)]) (fun L W hl h=>h.2) hS rfl (fun W hW=>by obtain⟨y0,y1⟩:=hW;go_simp) (fun hS=> ?_)
    try simp only[Act.put,List.setIfInBounds_toArray,List.set_cons_zero,List.set_cons_succ]
    refine wF 2 (by kernel_rfl) rfl (fun K' hK=> ?_)
    go_simp
    refine hK.out _ _ ⟨fun _=>⟨((P2.out.far o3 (.bool false) (.slice As ns cs))).c0,(P2.out.far o3 (.bool false) (.slice As ns cs)).c1⟩,(P6.out.far f1 (.bool false) (.slice As ns cs)).c0,(P6.out.far f1 (.bool false) (.slice As ns cs)).c1⟩ ?_
    try simp only[Act.put,List.setIfInBounds_toArray,List.set_cons_zero,List.set_cons_succ]
    clear hK K' hS;have q1:=P1.out.put false As ns cs;have q2:=P2.out.far o3 (.bool false) (.slice As ns cs);have q3:=P3.out.far (Ne.symm d1) (.bool false) (.slice As ns cs);have q4:=P4.out.far (Ne.symm d2') (.bool false) (.slice As ns cs);have q5:=P5.out.far f3 (.bool false) (.slice As ns cs);have q6:=P6.out.far f1 (.bool false) (.slice As ns cs);have hbt:=HB2.out.trans (t3.mono HB2.out.size);have u2:=P1.out.vF (M2.out.below hbt) false As ns cs;have u3:=P1.out.yB (V1.out.below hbt) false As ns cs;have u4:=P1.out.yB (V2.out.below hbt) false As ns cs;have u5:=P1.out.vF (HQ1.out.below t3) false As ns cs;have u6:=P1.out.vF (HQ2.out.below t3) false As ns cs;have b1:=mM T3.out o1 (.bool false) (.slice As ns cs);obtain⟨W4,hW4⟩:∃W4,(W3.setCell ⟨gr,0,none⟩ (.bool false)).setCell ⟨gr,1,none⟩ (.slice As ns cs)=W4:=⟨_,rfl⟩
    rw[hW4] at q1 q2 q3 q4 q5 q6 u2 u3 u4 u5 u6;have b2:Below W5.heap.size W5 W4:=by rw[←hW4];exact mM (HBR.out.trans (hbt.mono HBR.out.size)) o1 _ _
    try rw[hW4]
    have y0:=q2.c0;have y1:=q2.c1;have y2:=q2.f0;have y3:=q2.f1;clear x0 x1 x2 x3 hW4 T3 b1 P1 P2 P3 P4 P5 P6;refine wF 3 (by kernel_rfl) rfl (fun K' hK=> ?_)
    go_simp
    refine hK.out _ _ ⟨fun h=>absurd (show true=false from h) aG0,(q6.far f2 (.bool false) (.slice A2 k2 c2')).c0,(q6.far f2 (.bool false) (.slice A2 k2 c2')).c1⟩ ?_;clear hK K';refine aEn (by kernel_rfl) ?_ _;have r1:=q1.far (Ne.symm o3) (.bool false) (.slice A2 k2 c2');have r2:=q2.put false A2 k2 c2';have r3:=q3.far (Ne.symm d3) (.bool false) (.slice A2 k2 c2');have r4:=q4.far (Ne.symm d4) (.bool false) (.slice A2 k2 c2');have r5:=q5.far f4 (.bool false) (.slice A2 k2 c2');have v2:=q2.vF u2 false A2 k2 c2';have v3:=q2.yB u3 false A2 k2 c2';have v4:=q2.yB u4 false A2 k2 c2';have v5:=q2.vF u5 false A2 k2 c2';have v6:=q2.vF u6 false A2 k2 c2';have b3:=mM b2 o2 (.bool false) (.slice A2 k2 c2');clear q1 q2 q3 q4 q5 q6 u2 u3 u4 u5 u6 b2 y0 y1 y2 y3 t3 t4 hbt M1 M2 V1 V2 HQ1 HQ2 HBR
    go_wp2_with fail
    obtain⟨W8,hW8⟩:∃W8,((W4.setCell ⟨gs,0,none⟩ (.bool false)).setCell ⟨gs,1,none⟩ (.slice A2 k2 c2')).drew=W8:=⟨_,rfl⟩
    rw[hW8];have e1:NB W8.drew gr false As ns cs:=by rw[←hW8];exact r1
    have e2:NB W8.drew gs false A2 k2 c2':=by rw[←hW8];exact r2
    have e3:NB W8.drew gb db Ab nb cb:=by rw[←hW8];exact r3
    have e4:NB W8.drew gn dn An nn cn:=by rw[←hW8];exact r4
    have e5':NB W8.drew w2.heap.size false A1 k1 c1:=by rw[←hW8];exact r5
    have z2:Mag W8.drew (.slice As ns cs) Z 456:=by rw[←hW8];exact v2
    have z3:NumV W8.drew (.agg #[.bool db,.slice Ab nb cb]) P 456:=by rw[←hW8];exact v3
    have z4:NumV W8.drew (.agg #[.bool dn,.slice An nn cn]) Q 456:=by rw[←hW8];exact v4
    have z5:Mag W8.drew (.slice A1 k1 c1) (R/Z) 456:=by rw[←hW8];exact v5
    have z6:Mag W8.drew (.slice A2 k2 c2') (R%Z) 456:=by rw[←hW8];exact v6
    have b4:Below W5.heap.size W5 W8.drew:=by rw[←hW8];exact b3.drew.drew
    have E1:=Lib.hid e1;have E2:=Lib.hid e2;have E3:=Lib.hid e3;have E4:=Lib.hid e4;have E5:=Lib.hid e5';have Z2:=Lib.hid z2;have Z3:=Lib.hid z3;have Z4:=Lib.hid z4;have Z5:=Lib.hid z5;have Z6:=Lib.hid z6;have B4:=Lib.hid b4;clear r1 r2 r3 r4 r5 v2 v3 v4 v5 v6 b3 hW8 e1 e2 e3 e4 e5' z2 z3 z4 z5 z6 b4;refine aEo (S:=fun L W=>(W.cell? ⟨w2.heap.size,0,none⟩=some (.bool false)∧W.cell? ⟨w2.heap.size,1,none⟩=some (.slice A1 k1 c1))∧(L.getD 7 true=false→W.cell? ⟨gb,0,none⟩=some (.bool db)∧W.cell? ⟨gb,1,none⟩=some (.slice Ab nb cb))∧(L.getD 8 true=false→W.cell? ⟨gn,0,none⟩=some (.bool dn)∧W.cell? ⟨gn,1,none⟩=some (.slice An nn cn))) (by kernel_rfl) ?_;refine yA 0 8 (fun W=>W.cell? ⟨gn,0,none⟩=some (.bool dn)∧W.cell? ⟨gn,1,none⟩=some (.slice An nn cn)) (v:= .agg #[.bool dn,.slice An nn cn]) rfl rfl (by kernel_rfl) aG0 (by kernel_rfl) (by kernel_rfl) (by kernel_rfl) (by kernel_rfl) (fun _ _ _ h=>h) (fun L W=>by rw[getD_set_ne true (show(0:Nat)≠8 by decide),getD_set_ne true (show(0:Nat)≠7 by decide)]) (fun L W hl h=>h.2.2 hl) ⟨⟨E5.out.c0,E5.out.c1⟩,fun _=>⟨E3.out.c0,E3.out.c1⟩,fun _=>⟨E4.out.c0,E4.out.c1⟩⟩ rfl (fun W hW=>by obtain⟨y0,y1⟩:=hW;go_simp) (fun hS=> ?_)
    try simp only[Act.put,List.setIfInBounds_toArray,List.set_cons_zero,List.set_cons_succ]
    refine yA 1 7 (fun W=>W.cell? ⟨gb,0,none⟩=some (.bool db)∧W.cell? ⟨gb,1,none⟩=some (.slice Ab nb cb)) (v:= .agg #[.bool db,.slice Ab nb cb]) rfl rfl (by kernel_rfl) aG0 (by kernel_rfl) (by kernel_rfl) (by kernel_rfl) (by kernel_rfl) (fun _ _ _ h=>h) (fun L W=>by rw[getD_set_ne true (show(1:Nat)≠8 by decide),getD_set_ne true (show(1:Nat)≠7 by decide)]) (fun L W hl h=>h.2.1 hl) hS rfl (fun W hW=>by obtain⟨y0,y1⟩:=hW;go_simp) (fun hS=> ?_)
    try simp only[Act.put,List.setIfInBounds_toArray,List.set_cons_zero,List.set_cons_succ]
    refine yA 2 8 (fun W=>W.cell? ⟨w2.heap.size,0,none⟩=some (.bool false)∧W.cell? ⟨w2.heap.size,1,none⟩=some (.slice A1 k1 c1)) (v:= .agg #[.bool false,.slice A1 k1 c1]) rfl rfl (by kernel_rfl) aG0 (by kernel_rfl) (by kernel_rfl) (by kernel_rfl) (by kernel_rfl) (fun _ _ _ h=>h) (fun L W=>by rw[getD_set_ne true (show(2:Nat)≠8 by decide),getD_set_ne true (show(2:Nat)≠7 by decide)]) (fun L W hl h=>h.1) hS rfl (fun W hW=>by obtain⟨y0,y1⟩:=hW;go_simp) (fun hS=> ?_)
    try simp only[Act.put,List.setIfInBounds_toArray,List.set_cons_zero,List.set_cons_succ]
    refine yA 3 8 (fun W=>W.cell? ⟨gn,0,none⟩=some (.bool dn)∧W.cell? ⟨gn,1,none⟩=some (.slice An nn cn)) (v:= .agg #[.bool dn,.slice An nn cn]) rfl rfl (by kernel_rfl) aG0 (by kernel_rfl) (by kernel_rfl) (by kernel_rfl) (by kernel_rfl) (fun _ _ _ h=>h) (fun L W=>by rw[getD_set_ne true (show(3:Nat)≠8 by decide),getD_set_ne true (show(3:Nat)≠7 by decide)]) (fun L W hl h=>h.2.2 hl) hS rfl (fun W hW=>by obtain⟨y0,y1⟩:=hW;go_simp) (fun hS=> ?_)
    try simp only[Act.put,List.setIfInBounds_toArray,List.set_cons_zero,List.set_cons_succ]
    clear hS;refine wF 4 (by kernel_rfl) rfl (fun K' hK=> ?_)
    go_simp
    go_at_call 85
    refine(aDw _ _ (R/Z) Q 456 456 W8.drew (yV Z5.out) Z4.out aFx aFx).mono ?_;rintro e w5 ⟨dp,Ap,np,cp,rfl,hp,hB5⟩
    dsimp only
    have i1:=E1.out.below hB5;have i2:=E2.out.below hB5;have i3:=E3.out.below hB5;have i4:=E4.out.below hB5;have i5:=E5.out.below hB5;have j2:=Z2.out.below hB5;have j3:=Z3.out.below hB5;have j4:=Z4.out.below hB5;have j6:=Z6.out.below hB5;have b5:=B4.out.trans (hB5.mono B4.out.size);have HNP:=Lib.hid hp.neg;clear hp hB5 E1 E2 E3 E4 E5 Z2 Z3 Z4 Z5 Z6 B4;refine hK.out _ _ ⟨⟨i5.c0,i5.c1⟩,fun _=>⟨i3.c0,i3.c1⟩,fun _=>⟨i4.c0,i4.c1⟩⟩ ?_
    try simp only[Act.put,List.setIfInBounds_toArray,List.set_cons_zero,List.set_cons_succ]
    clear hK K';refine wF 5 (by kernel_rfl) rfl (fun K' hK=> ?_)
    go_simp
    go_at_call 83
    refine(yR dp Ap np cp w5).mono ?_;rintro e w6 ⟨rfl,hB6⟩
    dsimp only
    have k1:=i1.below hB6;have k2':=i2.below hB6;have k3:=i3.below hB6;have k4:=i4.below hB6;have k5:=i5.below hB6;have m2:=j2.below hB6;have m3:=j3.below hB6;have m4:=j4.below hB6;have m6:=j6.below hB6;have m7:=HNP.out.below hB6;have b6:=b5.trans (hB6.mono b5.size);clear i1 i2 i3 i4 i5 j2 j3 j4 j6 b5 hB6 HNP;refine hK.out _ _ ⟨⟨k5.c0,k5.c1⟩,fun _=>⟨k3.c0,k3.c1⟩,fun _=>⟨k4.c0,k4.c1⟩⟩ ?_
    try simp only[Act.put,List.setIfInBounds_toArray,List.set_cons_zero,List.set_cons_succ]
    clear hK K';refine wF 6 (by kernel_rfl) rfl (fun K' hK=> ?_)
    go_simp
    go_at_call 81
    refine(sum_shape _ _ P (-(R/Z*Q)) 912 w6 (m3.more aFx) m7 aFx).mono ?_;rintro e w9 ⟨ds,Au,nu,cu,rfl,hsu,hB9⟩
    dsimp only
    have i1:=k1.below hB9;have i2:=k2'.below hB9;have i3:=k3.below hB9;have i4:=k4.below hB9;have i5:=k5.below hB9;have j2:=m2.below hB9;have j4:=m4.below hB9;have j6:=m6.below hB9;have b9:=b6.trans (hB9.mono b6.size);clear k1 k2' k3 k4 k5 m2 m3 m4 m6 m7 b6 hB9;refine hK.out _ _ ⟨⟨i5.c0,i5.c1⟩,fun _=>⟨i3.c0,i3.c1⟩,fun _=>⟨i4.c0,i4.c1⟩⟩ ?_
    try simp only[Act.put,List.setIfInBounds_toArray,List.set_cons_zero,List.set_cons_succ]
    clear hK K';have y0:=i3.c0;have y1:=i3.c1;have y2:=i3.f0;have y3:=i3.f1;refine wF 7 (by kernel_rfl) rfl (fun K' hK=> ?_)
    go_simp
    have q1:=i1.far d1 (.bool dn) (.slice An nn cn);have q2:=i2.far d3 (.bool dn) (.slice An nn cn);have q3:=i3.put dn An nn cn;have q4:=i4.far d5 (.bool dn) (.slice An nn cn);have q5:=i5.far f5 (.bool dn) (.slice An nn cn);have u2:=i3.vF j2 dn An nn cn;have u4:=i3.yB j4 dn An nn cn;have u6:=i3.vF j6 dn An nn cn;have u7:=i3.yB hsu dn An nn cn;have b10:=mM b9 l7 (.bool dn) (.slice An nn cn);refine hK.out _ _ ⟨⟨q5.c0,q5.c1⟩,fun h=>absurd (show true=false from h) aG0,fun _=>⟨q4.c0,q4.c1⟩⟩ ?_;clear hK K' i1 i2 i3 i4 i5 j2 j4 j6 b9 hsu y0 y1 y2 y3;obtain⟨W10,hW10⟩:∃W10,(w9.setCell ⟨gb,0,none⟩ (.bool dn)).setCell ⟨gb,1,none⟩ (.slice An nn cn)=W10:=⟨_,rfl⟩
    rw[hW10] at q1 q2 q3 q4 q5 u2 u4 u6 u7 b10 ⊢;clear hW10;have y0:=q4.c0;have y1:=q4.c1;have y2:=q4.f0;have y3:=q4.f1;refine wF 8 (by kernel_rfl) rfl (fun K' hK=> ?_)
    go_simp
    refine hK.out _ _ ⟨⟨(q5.far f6 (.bool ds) (.slice Au nu cu)).c0,(q5.far f6 (.bool ds) (.slice Au nu cu)).c1⟩,fun h=>absurd (show true=false from h) aG0,fun h=>absurd (show true=false from h) aG0⟩ ?_;clear hK K';refine aEn (by kernel_rfl) ?_ _;have r1:=q1.far d2' (.bool ds) (.slice Au nu cu);have r2:=q2.far d4 (.bool ds) (.slice Au nu cu);have r3:=q3.far (Ne.symm d5) (.bool ds) (.slice Au nu cu);have r4:=q4.put ds Au nu cu;have v2:=q4.vF u2 ds Au nu cu;have v4:=q4.yB u4 ds Au nu cu;have v6:=q4.vF u6 ds Au nu cu;have v7:=q4.yB u7 ds Au nu cu;have b11:=mM b10 l8 (.bool ds) (.slice Au nu cu);clear q1 q2 q3 q4 q5 u2 u4 u6 u7 b10 y0 y1 y2 y3
    go_wp2_with fail
    have hst:=bezOK_step OK.out hR0 hS1;obtain⟨k',hk'⟩:∃k',k=k'+1:=⟨k-1,by have:=HK.out;omega⟩
    have hlt:=Int.emod_lt_of_pos R hS1;have hnn:=Int.emod_nonneg R (show Z≠0 by omega);have hFF:=HF.out;rw[hk',bezL,if_neg (show ¬Z=0 by omega)] at hFF;refine⟨Lib.hid ⟨Z,R%Z,⟨k',Q,P+ -(R/Z*Q),_,_,_,_,_,_,_,_,_,_,_,_,_,_,r1,r2,r3,r4,v2,v6,v4,v7.le (l9.out.below b11) (by have:=hst.2.2;omega),hst,by have:=HK.out;omega,hFF,by rw[yU hR0 hS1];exact HGC.out⟩,b11⟩,?_⟩;rw[HMS.out,r2.c1];show magN _ (.slice A2 k2 c2')<_;rw[magN_of v6];omega
theorem bezout_err(a b:ByteArray)(w:World)(c:Int)(hc:iZ a b=c)(h0:c≠0)(ha:a.size≤9223372036854775807)(hb:b.size≤9223372036854775807) :
 Calls Tryz.prog 32 #[.string a,.string b] w fun e w'=>e= .returned (.tuple #[.string ⟨#[]⟩,.string ⟨#[]⟩,.string ⟨#[]⟩,.int .i64 c])∧Below w.heap.size w w':=by
 have HP:Hid (∀w:World,Calls Tryz.prog 79 #[.string a,.string b] w fun e w'=>∃d A n c1 d2 B m c2,e= .returned (.tuple #[.agg #[.bool d,.slice A n c1],.agg #[.bool d2,.slice B m c2],.int .i64 c])∧Below w.heap.size w w'):=Lib.hid (fun w=>yQ a b w c hc h0 ha hb);have e1:(c != 0)=true:=by simpa using h0
 go_enter Tryz.func32,Tryz.ntmps32
 clear hc ha hb
 go_wp2_with(go_at_call 79;refine(HP.out _).mono ?_;rintro e w1 ⟨d,A,n,c1,d2,B,m,c2,rfl,hB⟩;have HB:=Lib.hid hB;clear hB HP)
 (try simp only[Exit.inBlock,Exit.then])
 refine bodyPost_ret (aCb rfl _ _ _) rfl ?_;exact⟨rfl,HB.out.trans ((((Below.refl _ w1).alloc (Nat.le_refl _) _).alloc aFz _).mono HB.out.size)⟩
theorem bezout_zero(a b:ByteArray)(w:World)(ha0:chkI a=0)(hb0:chkI b=0)(ha:a.size≤9223372036854775807)(hb:b.size≤9223372036854775807)(hz:aV b=0)(hG:GW w) :
 Calls Tryz.prog 32 #[.string a,.string b] w fun e w'=>e= .returned (.tuple #[.string (text ((aV a).natAbs:Int)),.string (text (sgnI (aV a))),.string ⟨#[48]⟩,.int .i64 0])∧Below w.heap.size w w':=by
 have HP:=Lib.hid (fun w=>oZ a b w ha0 hb0 ha hb);have HG:=Lib.hid hG;have HZ:=Lib.hid hz;go_enter Tryz.func32,Tryz.ntmps32
 clear ha0 hb0 ha hb hG hz
 go_wp2_with fail
 refine(HP.out _).mono ?_;rintro e w1 ⟨d,A,n,c,d2,B,m,c2,rfl,hn1,hn2,hB⟩;obtain rfl:m=0:=(rZ (uK hn2)).1 (by rw[HZ.out];rfl);have HN1:=Lib.hid hn1;have HB:=Lib.hid hB;have hba:Below w1.heap.size w1 ((w1.alloc (.cells #[.bool d,.slice A n c] 81)).alloc (.cells #[.bool d2,.slice B 0 c2] 81)):=((Below.refl _ w1).alloc (Nat.le_refl _) _).alloc aFz _;have HBA:=Lib.hid hba;have hx:NB ((w1.alloc (.cells #[.bool d,.slice A n c] 81)).alloc (.cells #[.bool d2,.slice B 0 c2] 81)) w1.heap.size d A n c:=(NB.new w1 d A n c).alloc _;have HX:=Lib.hid hx;have hsr:=sgn_fits (aV a);clear hn1 hn2 hB hba HP HZ hx
 go_wp2_with fail
 refine(sign_num _ _ 456 _ (HN1.out.below HBA.out)).mono ?_;rintro e w2 ⟨rfl,hB2⟩;have x1:=(HX.out.below hB2).c1;have HB2:=Lib.hid (HBA.out.trans (hB2.mono HBA.out.size));clear hB2
 go_wp2_with fail
 refine(yS _ _ 456 _ (yV ((uK HN1.out).below HB2.out)) aFx (HG.out.below (HB.out.trans (HB2.out.mono HB.out.size)))).mono ?_;rintro e w3 ⟨rfl,hB3⟩;have HB3:=Lib.hid (HB2.out.trans (hB3.mono HB2.out.size));clear hB3 x1
 go_wp2_with fail
 refine(of_walk (sgnI (aV a)) hsr.1 hsr.2 _ (HG.out.below (HB.out.trans (HB3.out.mono HB.out.size)))).mono ?_;rintro e w4 ⟨rfl,hB4⟩
 go_wp2_with fail
 (try simp only[Exit.inBlock,Exit.then])
 refine bodyPost_ret (aCb rfl _ _ _) rfl ?_;exact⟨rfl,HB.out.trans ((HB3.out.trans (hB4.mono HB3.out.size)).mono HB.out.size)⟩
end Go.Proofs.YtignanmmgaldeaaGreatDoor
end
section
set_option linter.unusedVariables false
set_option linter.unusedSimpArgs false
namespace Go.Proofs.YtignanmmgaldeaaGreatDoor
open Go.RowKit Go.Shelf
theorem rO{a b:ByteArray}(h:iZ a b=0):chkI a=0∧chkI b=0:=by
 unfold iZ at h
 split at h
 ·rename_i h1;exact⟨h1,h⟩
 ·rename_i h1;exact absurd h h1
def wG.f(a0 a1:ByteArray):Option (ByteArray×Int):=if two63 a0 a1 then(if iZ a0 a1=0 then some (text (gcdI (aV a0) (aV a1)),0) else some (⟨#[]⟩,iZ a0 a1)) else none
theorem wG.calls(a0 a1:ByteArray)(r0:ByteArray)(r1:Int)(w:World)(hG:GW w)(h:wG.f a0 a1=some (r0,r1)) :
 Calls Tryz.prog 28 #[.string a0,.string a1] w fun e w'=>e= .returned (.tuple #[.string r0,.int .i64 r1])∧Below w.heap.size w w':=by
 unfold wG.f at h
 split at h
 ·rename_i h1
  split at h
  ·rename_i h2
   obtain⟨rfl,rfl⟩:=Prod.mk.inj (Option.some.inj h);exact gcd_ok a0 a1 w (rO h2).1 (rO h2).2 h1.1 h1.2 hG
  ·rename_i h2
   obtain⟨rfl,rfl⟩:=Prod.mk.inj (Option.some.inj h);exact gcd_err a0 a1 w _ rfl h2 h1.1 h1.2
 ·cases h
theorem wr_zero:wrS 0=⟨#[48]⟩∧wrE 0=0:=by
 unfold wrS wrE zI;rw[if_pos rfl,if_neg aFx,if_neg aFx];exact⟨vC,rfl⟩
def wH.f(a0 a1:ByteArray):Option (ByteArray×Int):=if two63 a0 a1 then(if iZ a0 a1=0 then some (wrS (lcmI (aV a0) (aV a1)),wrE (lcmI (aV a0) (aV a1))) else some (⟨#[]⟩,iZ a0 a1)) else none
theorem wH.calls(a0 a1:ByteArray)(r0:ByteArray)(r1:Int)(w:World)(hG:GW w)(h:wH.f a0 a1=some (r0,r1)) :
 Calls Tryz.prog 30 #[.string a0,.string a1] w fun e w'=>e= .returned (.tuple #[.string r0,.int .i64 r1])∧Below w.heap.size w w':=by
 unfold wH.f at h
 split at h
 ·rename_i h1
  split at h
  ·rename_i h2
   obtain⟨rfl,rfl⟩:=Prod.mk.inj (Option.some.inj h)
   by_cases hz:aV a0=0∨aV a1=0
   ·have e:lcmI (aV a0) (aV a1)=0:=if_pos hz
    rw[e,wr_zero.1,wr_zero.2];exact lcm_zero a0 a1 w (rO h2).1 (rO h2).2 h1.1 h1.2 hz
   ·exact lcm_ok a0 a1 w (rO h2).1 (rO h2).2 h1.1 h1.2 (fun e=>hz (.inl e)) (fun e=>hz (.inr e)) hG
  ·rename_i h2
   obtain⟨rfl,rfl⟩:=Prod.mk.inj (Option.some.inj h);exact lcm_err a0 a1 w _ rfl h2 h1.1 h1.2
 ·cases h
def qX.f(a0 a1:ByteArray):Option (ByteArray×ByteArray×ByteArray×Int):=if two63 a0 a1 then(if iZ a0 a1=0 then some (text (gcdI (aV a0) (aV a1)),text (bezU (aV a0) (aV a1)),text (bezV (aV a0) (aV a1)),0) else some (⟨#[]⟩,⟨#[]⟩,⟨#[]⟩,iZ a0 a1)) else none
theorem qX.calls(a0 a1:ByteArray)(r0 r1 r2:ByteArray)(r3:Int)(w:World)(hG:GW w)(h:qX.f a0 a1=some (r0,r1,r2,r3)) :
 Calls Tryz.prog 32 #[.string a0,.string a1] w fun e w'=>e= .returned (.tuple #[.string r0,.string r1,.string r2,.int .i64 r3])∧Below w.heap.size w w':=by
 unfold qX.f at h
 split at h
 ·rename_i h1
  split at h
  ·rename_i h2
   have h3:=Option.some.inj h;simp only[Prod.mk.injEq] at h3;obtain⟨rfl,rfl,rfl,rfl⟩:=h3
   by_cases hz:aV a1=0
   ·have e1:gcdI (aV a0) (aV a1)=((aV a0).natAbs:Int):=by rw[hz];unfold gcdI;simp
    have e2:bezU (aV a0) (aV a1)=sgnI (aV a0):=if_pos hz;have e3:bezV (aV a0) (aV a1)=0:=if_pos hz;rw[e1,e2,e3,vC];exact bezout_zero a0 a1 w (rO h2).1 (rO h2).2 h1.1 h1.2 hz hG
   ·exact bezout_ok a0 a1 w (rO h2).1 (rO h2).2 h1.1 h1.2 hz hG
  ·rename_i h2
   have h3:=Option.some.inj h;simp only[Prod.mk.injEq] at h3;obtain⟨rfl,rfl,rfl,rfl⟩:=h3;exact bezout_err a0 a1 w _ rfl h2 h1.1 h1.2
 ·cases h
end Go.Proofs.YtignanmmgaldeaaGreatDoor
end
section
set_option linter.unusedVariables false
set_option linter.unusedSimpArgs false
set_option maxRecDepth 100000
set_option maxHeartbeats 2000000
namespace Go.Proofs.YtignanmmgaldeaaGreatDoor
open Go.RowKit Go.Shelf Go.Proofs.YtignanmmgaldeaaGreatDoorW.PrintWords
def absS(a:ByteArray):ByteArray:=⟨(Lib.trimPrefix a.data.toList [45]).toArray⟩
theorem abs_walk(a:ByteArray)(w:World)(ha:a.size≤9223372036854775807) :
 Calls Tryz.prog 182 #[.string a] w fun e w'=>e= .returned (.tuple #[.string (if chkI a=0 then absS a else⟨#[]⟩),.int .i64 (chkI a)])∧Below w.heap.size w w':=by
 have HA:=Lib.hid (fun w=>zH a w ha);have ht:=fun w=>aDv a ⟨#[45]⟩ w
 rw[show(ByteArray.mk #[45]).data.toList= [45] from rfl] at ht;have HT:Hid (∀w:World,Calls Tryz.prog 191 #[.string a,.string ⟨#[45]⟩] w fun e w'=>e= .returned (.string (absS a))∧w'=w):=Lib.hid ht;clear ht ha
 by_cases h:chkI a=0
 ·rw[if_pos h,h]
  rw[h] at HA;go_enter Tryz.func182,Tryz.ntmps182
  go_wp2_with(first
   |(go_at_call 73;refine(HA.out _).mono ?_;rintro e w1 ⟨rfl,hB1⟩;have HB1:=Lib.hid hB1;clear hB1 HA)
   |(go_at_call 191;refine(HT.out _).mono ?_;rintro e w2 ⟨rfl,rfl⟩))
  go_ret2
  exact⟨rfl,HB1.out⟩
 ·rw[if_neg h]
  generalize chkI a=c at h HA ⊢;have e1:(c != 0)=true:=by simpa using h
  go_enter Tryz.func182,Tryz.ntmps182
  go_wp2_with(go_at_call 73;refine(HA.out _).mono ?_;rintro e w1 ⟨rfl,hB1⟩;have HB1:=Lib.hid hB1;clear hB1 HA)
  go_ret2
  exact⟨rfl,HB1.out⟩
def tC.f(a0:ByteArray):Option (ByteArray×Int):=if a0.size≤9223372036854775807 then some (if chkI a0=0 then absS a0 else⟨#[]⟩,chkI a0) else none
theorem tC.calls(a0:ByteArray)(r0:ByteArray)(r1:Int)(w:World)(h:tC.f a0=some (r0,r1)) :
 Calls Tryz.prog 182 #[.string a0] w fun e w'=>e= .returned (.tuple #[.string r0,.int .i64 r1])∧Below w.heap.size w w':=by
 unfold tC.f at h
 split at h
 ·rename_i h1
  obtain⟨rfl,rfl⟩:=Prod.mk.inj (Option.some.inj h);exact abs_walk a0 w h1
 ·cases h
theorem abs_text(x:Int):absS (text x)=text (x.natAbs:Int):=by
 unfold absS;rw[sS]
 have e2:text (x.natAbs:Int)=⟨(Lib.decDigits x.natAbs).toArray⟩:=by
  unfold text Lib.itoa;rw[if_neg aFx,show((x.natAbs:Nat):Int).toNat=x.natAbs from by omega]
 rw[e2];unfold Lib.itoa
 split
 ·rename_i h
  have e1:Lib.hasPrefix (45::Lib.decDigits x.natAbs) [45]=true:=by simp[Lib.hasPrefix]
  simp[Lib.trimPrefix,e1]
 ·rename_i h
  have hm:=lW x.toNat;rw[show x.natAbs=x.toNat by omega];generalize Lib.decDigits x.toNat=l at hm
  have e1:Lib.hasPrefix l [45]=false:=by
   cases l with
   |nil=>rfl
   |cons c r=>
    by_cases hc:c=45
    ·subst hc;exact absurd rfl (hm r)
    ·simp[Lib.hasPrefix,List.isPrefixOf,Ne.symm hc]
  simp[Lib.trimPrefix,e1]
theorem aFg(x y:Int)(hy:y≠0):(Int.fmod x y).natAbs<y.natAbs∧(0<y→0≤Int.fmod x y)∧(y<0→Int.fmod x y≤0)∧Int.fmod x y+y*Int.fdiv x y=x:=by
 have main:∀x y:Int,0<y→0≤Int.fmod x y∧Int.fmod x y<y:=by
  intro x y hy;rw[Int.fmod_eq_emod_of_nonneg _ aFx];exact⟨Int.emod_nonneg _ aFx,Int.emod_lt_of_pos _ hy⟩
 have hd:=Int.fmod_add_mul_fdiv x y;rcases Int.lt_or_gt_of_ne hy with h|h
 ·have:=main (-x) (-y) aFx
  rw[Int.neg_fmod_neg] at this;exact⟨by omega,fun e=>by omega,fun _=>by omega,hd⟩
 ·have:=main x y h
  exact⟨by omega,fun _=>this.1,fun e=>by omega,hd⟩
theorem Bd.fmod{m:Nat}{x y:Int}(h:Bd m y)(hy:y≠0):Bd m (Int.fmod x y):=h.of_le (Nat.le_of_lt (aFg x y hy).1)
theorem Bd.fdiv{m:Nat}{x y:Int}(h:Bd m x)(hy:y≠0):Bd m (Int.fdiv x y):=by
 refine h.of_le ?_;obtain⟨h1,_,_,h2⟩:=aFg x y hy;generalize Int.fdiv x y=q at *
 generalize Int.fmod x y=r at *
 by_cases hle:q.natAbs≤x.natAbs
 ·exact hle
 ·exfalso
  have h3:(y*q).natAbs≤x.natAbs+r.natAbs:=by omega
  rw[Int.natAbs_mul] at h3;have h4:y.natAbs*(x.natAbs+1)≤y.natAbs*q.natAbs:=Nat.mul_le_mul_left _ aFx;rw[Nat.mul_add,Nat.mul_one] at h4;have h5:1*x.natAbs≤y.natAbs*x.natAbs:=Nat.mul_le_mul_right _ aFx;omega
end Go.Proofs.YtignanmmgaldeaaGreatDoor
end
section
namespace Go.Proofs.YtignanmmgaldeaaGreatDoorW.PrintLast
open Go.Proofs.YtignanmmgaldeaaGreatDoorW.PrintWords (aA)
def aBy(md:Region.Mode)(o:Oper):List Nat:=(o.after.toList.filter (fun e=>Region.binds md e)).map (fun e=>e.on)
def clashOf(md:Region.Mode)(ops:Array Oper)(i:Nat)(oi:Oper):List Nat:=(List.range ops.size).filter fun j=> !(j==i)&&match ops[j]? with
 |some oj=> !(oj.after.any (fun e=>Region.binds md e&&e.on==i)||oi.apart ops oj)
 |none=>false
def rtab(md:Region.Mode)(ops:Array Oper):Bool×List (List Nat×List Nat):=(Region.noSelect ops,(List.range ops.size).map fun i=>match ops[i]? with
 |some o=>(aBy md o,clashOf md ops i o)
 |none=>([],[]))
def aAo(T:List (List Nat×List Nat))(l:List Bool)(i:Nat):Bool:= !l.getD i true&&match T[i]? with
 |some r=>r.1.all (fun j=>l.getD j false)
 |none=>false
def readyT(T:List (List Nat×List Nat))(l:List Bool):List Nat:=(List.range T.length).filter (aAo T l)
def freeT(T:List (List Nat×List Nat))(l:List Bool)(i:Nat):Bool:=match T[i]? with
 |some r=>r.2.all (fun j=>l.getD j true)
 |none=>false
def closedT(T:List (List Nat×List Nat))(l:List Bool):Bool:=(List.range T.length).all fun j=> !l.getD j false||match T[j]? with
 |some r=>r.1.all (fun k=>l.getD k false)
 |none=>true
def aD4(T:List (List Nat×List Nat))(i:Nat):Nat→Nat→Bool
 |0,_=>false
 |fuel+1,d=>match T[d]? with
  |some r=>r.1.any fun j=>j==i||aD4 T i fuel j
  |none=>false
def lastT(T:List (List Nat×List Nat))(l:List Bool)(ds:List Nat)(i:Nat):Bool:=ds.all fun d=>l.getD d true||aD4 T i T.length d
section
variable {md:Region.Mode} {ops:Array Oper} {T:Bool×List (List Nat×List Nat)} {l l' li lj lk:Array Bool} {ds:List Nat} {i j k:Nat}
theorem gd(l:Array Bool)(j:Nat)(b:Bool):l.getD j b=l.toList.getD j b:=by simp[Array.getD_eq_getD_getElem?,List.getD_eq_getElem?_getD]
theorem needs_all(o:Oper)(p:Nat→Bool):o.after.all (fun e=> !Region.binds md e||p e.on)=(aBy md o).all p:=by
 unfold aBy;rw[←Array.all_toList]
 induction o.after.toList with
 |nil=>rfl
 |cons e r ih=>
  rw[List.all_cons,ih,List.filter_cons]
  cases h:Region.binds md e <;> simp
theorem needs_any(o:Oper)(p:Nat→Bool):o.after.any (fun e=>Region.binds md e&&p e.on)=(aBy md o).any p:=by
 unfold aBy;rw[←Array.any_toList]
 induction o.after.toList with
 |nil=>rfl
 |cons e r ih=>
  rw[List.any_cons,ih,List.filter_cons]
  cases h:Region.binds md e <;> simp
theorem aBc:(rtab md ops).2.length=ops.size:=by simp[rtab]
theorem aCl{o:Oper}(h:ops[i]? =some o):(rtab md ops).2[i]? =some (aBy md o,clashOf md ops i o):=by
 have hi:=(Array.getElem?_eq_some_iff.1 h).1;unfold rtab;rw[List.getElem?_map,List.getElem?_range hi,Option.map_some,h]
theorem aCm(h:ops[i]? =none):(rtab md ops).2[i]? =none:=by
 have hi:ops.size≤i:=Array.getElem?_eq_none_iff.1 h;exact List.getElem?_eq_none (by rw[aBc];exact hi)
theorem readyAt_eq:aAo (rtab md ops).2 l.toList i=(!l.getD i true&&((ops[i]?).map (·.after.all fun e=> !Region.binds md e||l.getD e.on false)).getD false):=by
 unfold aAo;rw[gd]
 cases h:ops[i]? with
 |none=>rw[aCm h];rfl
 |some o=>
  rw[aCl h];simp only[Option.map_some,Option.getD_some];rw[←needs_all];simp only[gd]
theorem ready_eq:Region.ready md ops l=readyT (rtab md ops).2 l.toList:=by
 unfold Region.ready readyT;rw[aBc];refine List.filter_congr (fun i _=> ?_);rw[readyAt_eq]
theorem free_eq:Region.free md ops l i=freeT (rtab md ops).2 l.toList i:=by
 unfold Region.free freeT
 cases h:ops[i]? with
 |none=>rw[aCm h]
 |some oi=>
  rw[aCl h];simp only[clashOf];rw[List.all_filter]
  congr 1
  funext j
  rw[gd]
  cases hj:ops[j]? with
  |none=>cases (j==i) <;> cases (l.toList.getD j true) <;> simp
  |some oj=>
   cases (j==i) <;> cases (l.toList.getD j true) <;> cases (oj.after.any (fun e=>Region.binds md e&&e.on==i)||oi.apart ops oj) <;> simp_all
theorem closed_eq:Region.aCx md ops l=closedT (rtab md ops).2 l.toList:=by
 unfold Region.aCx closedT;rw[aBc]
 congr 1
 funext j
 rw[gd]
 cases h:ops[j]? with
 |none=>rw[aCm h]
 |some o=>
  rw[aCl h];simp only;rw[←needs_all];simp only[gd]
theorem reach_eq:∀(fuel d:Nat),Region.xP md ops i fuel d=aD4 (rtab md ops).2 i fuel d
 |0,_=>rfl
 |fuel+1,d=>by
  unfold Region.xP aD4
  cases h:ops[d]? with
  |none=>rw[aCm h]
  |some o=>
   rw[aCl h];simp only;rw[←needs_any]
   congr 1
   funext e
   rw[reach_eq fuel]
theorem last_eq:Region.lastB md ops l ds i=lastT (rtab md ops).2 l.toList ds i:=by
 unfold Region.lastB lastT;rw[aBc]
 congr 1
 funext d
 rw[gd,reach_eq]
theorem aEp(h:aAo T.2 l.toList i=true)(hT:rtab md ops=T):(Region.ready md ops l).contains i=true:=by
 subst hT;rw[ready_eq];unfold readyT;rw[List.contains_iff_mem,List.mem_filter,List.mem_range];refine⟨?_,h⟩;unfold aAo at h;rw[Bool.and_eq_true] at h
 cases hq:(rtab md ops).2[i]? with
 |none=>rw[hq] at h;simp at h
 |some r=>exact(List.getElem?_eq_some_iff.1 hq).1
theorem set_of(h:(l.toList.set i true==l'.toList)=true):(l.setIfInBounds i true==l')=true:=by
 rw[beq_iff_eq] at h ⊢
 apply Array.ext'
 rw[Array.toList_setIfInBounds];exact h
def anyT(T:Bool×List (List Nat×List Nat))(l l':List Bool)(i:Nat):Bool:=T.1&&freeT T.2 l i&&aAo T.2 l i&&(l.set i true==l')
theorem nK(hT:rtab md ops=T)(h:anyT T l.toList l'.toList i=true):anyB md ops l l' i=true:=by
 simp only[anyT,Bool.and_eq_true] at h;obtain⟨⟨⟨h1,h2⟩,h3⟩,h4⟩:=h;have h5:=aEp h3 hT;have h6:=set_of h4;subst hT;simp only[anyB,Bool.and_eq_true];exact⟨⟨⟨h1,by rw[free_eq];exact h2⟩,h5⟩,h6⟩
def takeT(T:Bool×List (List Nat×List Nat))(ds:List Nat)(l l':List Bool)(i:Nat):Bool:=T.1&&freeT T.2 l i&&aAo T.2 l i&&closedT T.2 l&&lastT T.2 l ds i&&(l.set i true==l')
theorem take_of(hT:rtab md ops=T)(h:takeT T ds l.toList l'.toList i=true):takeB md ops ds l l' i=true:=by
 simp only[takeT,Bool.and_eq_true] at h;obtain⟨⟨⟨⟨⟨h1,h2⟩,h3⟩,h4⟩,h5⟩,h6⟩:=h;have h7:=aEp h3 hT;have h8:=set_of h6;subst hT;simp only[takeB,Bool.and_eq_true];exact⟨⟨⟨⟨⟨h1,by rw[free_eq];exact h2⟩,h7⟩,by rw[closed_eq];exact h4⟩,by rw[last_eq];exact h5⟩,h8⟩
theorem tH(hT:rtab md ops=T)(h:(readyT T.2 l.toList== [i]&&l.toList.set i true==l'.toList)=true):readyB md ops l l' i=true:=by
 simp only[Bool.and_eq_true] at h;obtain⟨h1,h2⟩:=h;subst hT;simp only[readyB,Bool.and_eq_true];exact⟨by rw[ready_eq];exact h1,set_of h2⟩
theorem lK(hT:rtab md ops=T)(h:(readyT T.2 l.toList== [])=true):(Region.ready md ops l== [])=true:=by
 subst hT;rw[ready_eq];exact h
def upM(B:List Nat)(d:Nat):List Nat→Nat
 | []=>0
 |n::r=>(2 ^ n ||| (if n<d then B.getD n 0 else 0)) ||| upM B d r
def kX(T:List (List Nat×List Nat))(B:List Nat):Bool:=(List.range T.length).all fun d=>match T[d]? with
 |some r=>(B.getD d 0 ||| upM B d r.1)==upM B d r.1
 |none=>false
theorem upM_bit{B:List Nat}{d i:Nat}:∀{ns:List Nat},(upM B d ns).testBit i=true→∃n∈ns,n=i∨(n<d∧(B.getD n 0).testBit i=true)
 | [],h=>by simp[upM] at h
 |n::r,h=>by
  unfold upM at h;rw[Nat.testBit_or,Nat.testBit_or,Bool.or_eq_true,Bool.or_eq_true] at h;rcases h with (h|h)|h
  ·rw[Nat.testBit_two_pow] at h
   exact⟨n,List.mem_cons_self,.inl (by simpa using h)⟩
  ·by_cases hn:n<d
   ·rw[if_pos hn] at h
    exact⟨n,List.mem_cons_self,.inr ⟨hn,h⟩⟩
   ·rw[if_neg hn] at h
    simp at h
  ·obtain⟨m,hm,h2⟩:=upM_bit h
   exact⟨m,List.mem_cons_of_mem _ hm,h2⟩
theorem reach_bit{T:List (List Nat×List Nat)}{B:List Nat}(hB:kX T B=true):∀(fuel d:Nat),d<fuel→d<T.length→(B.getD d 0).testBit i=true→aD4 T i fuel d=true
 |0,d,h,_,_=>by omega
 |fuel+1,d,h,hd,hb=>by
  have h1:=List.all_eq_true.1 hB d (List.mem_range.2 hd)
  cases hr:T[d]? with
  |none=>rw[hr] at h1;simp at h1
  |some r=>
   rw[hr] at h1;simp only[beq_iff_eq] at h1;have h2:(upM B d r.1).testBit i=true:=by rw[←h1,Nat.testBit_or,hb,Bool.true_or]
   obtain⟨n,hn,h3⟩:=upM_bit h2;unfold aD4;rw[hr];simp only;rw[List.any_eq_true];refine⟨n,hn,?_⟩;rcases h3 with rfl|⟨h4,h5⟩
   ·simp
   ·rw[reach_bit hB fuel n aFx aFx h5,Bool.or_true]
def lastW(T:List (List Nat×List Nat))(B:List Nat)(l:List Bool)(ds:List Nat)(i:Nat):Bool:=ds.all fun d=>l.getD d true||(decide (d<T.length)&&(B.getD d 0).testBit i)
def takeW(T:Bool×List (List Nat×List Nat))(B:List Nat)(ds:List Nat)(l l':List Bool)(i:Nat):Bool:=T.1&&freeT T.2 l i&&aAo T.2 l i&&closedT T.2 l&&lastW T.2 B l ds i&&(l.set i true==l')
theorem take_ofW{B:List Nat}(hT:rtab md ops=T)(hB:kX T.2 B=true)(h:takeW T B ds l.toList l'.toList i=true):takeB md ops ds l l' i=true:=by
 refine take_of hT ?_;simp only[takeW,takeT,Bool.and_eq_true] at h ⊢;obtain⟨⟨⟨⟨⟨h1,h2⟩,h3⟩,h4⟩,h5⟩,h6⟩:=h;refine⟨⟨⟨⟨⟨h1,h2⟩,h3⟩,h4⟩,?_⟩,h6⟩;unfold lastW at h5;unfold lastT;rw[List.all_eq_true] at h5 ⊢;intro d hd;have h7:=h5 d hd;rw[Bool.or_eq_true,Bool.and_eq_true,decide_eq_true_eq] at h7;rcases h7 with h7|⟨h8,h9⟩
 ·rw[h7,Bool.true_or]
 ·rw[reach_bit hB _ d h8 h8 h9,Bool.or_true]
theorem jZ{P:Program}{Q:Exit→Act→World→Prop}{S:World→Prop}{n:Nat}{a:Act}{w:World}{B:List Nat}(hT:rtab md ops=T)(hB:kX T.2 B=true)(h:aA (rtab md ops=T)→aA (kX T.2 B=true)→iU P md ops Q S ds n l a w):iU P md ops Q S ds n l a w:=h ⟨hT⟩ ⟨hB⟩
end
def aBd:Code→Nat→Option (Array Oper)
 | .region id ops _,k=>if id==k then some ops else none
 | .seq a b,k=>match aBd a k with
   |some o=>some o
   |none=>aBd b k
 | .cond _ a b,k=>match aBd a k with
   |some o=>some o
   |none=>aBd b k
 | .block _ c,k=>aBd c k
 | .loop c,k=>aBd c k
 | .scope c,k=>aBd c k
 | .rangeFunc _ _ a b,k=>match aBd a k with
   |some o=>some o
   |none=>aBd b k
 |_,_=>none
def opsOf(f:Func)(k:Nat):Array Oper:=((f.body.bind fun c=>aBd c k)).getD #[]
end Go.Proofs.YtignanmmgaldeaaGreatDoorW.PrintLast
end
section
namespace Go.Proofs.YtignanmmgaldeaaGreatDoorW.PrintWords
open Go.RowKit
section
variable {w w' u:World} {m B g:Nat} {o:Obj} {row:Option Nat} {S:Nat→Prop} {a:Addr} {v:Value}
theorem aAc(hq:w.drewN m=w')(h:Below B u w):Below B u w':=by subst hq;exact aI h m
theorem uZ(hq:w.drewN m=w')(h:w.cell? a=some v):w'.cell? a=some v:=by subst hq;exact h
end
namespace Kd
section
variable {α:Type} {d:Kd α} {e base n m:Nat} {ok:Nat→Prop} {w w':World} {v:Value} {A:Option Addr} {xs:List α}
theorem R_at(hq:w.drewN m=w')(h:d.R e w base ok v xs):d.R e w' base ok v xs:=by subst hq;exact aN h m
end
end Kd
end Go.Proofs.YtignanmmgaldeaaGreatDoorW.PrintWords
end
section
namespace Go.Proofs.YtignanmmgaldeaaGreatDoorW.PrintWords
open Go.RowKit
section
variable {P:Program} {d:Nat} {xs ys:Array Value} {f:Field} {fs:List Field} {a b:Value} {r s:Bool} {w:World}
theorem aB5(hn:(f.name== "_")=false)(ha:(part f.type xs f.offset).run P w= .ok a w)(hb:(part f.type ys f.offset).run P w= .ok b w)(he:(Op.equalIn d f.type a b).run P w= .ok r w):(Op.eqFields d xs ys [f]).run P w= .ok r w:=by
 have hn':f.name≠ "_" :=by simpa using hn
 simp only[Op.eqFields,if_pos hn',Sem.run_bind,ha,hb,he,Result.andThen_ok]
 cases r <;> simp
theorem qY(hn:(f.name== "_")=false)(ha:(part f.type xs f.offset).run P w= .ok a w)(hb:(part f.type ys f.offset).run P w= .ok b w)(he:(Op.equalIn d f.type a b).run P w= .ok r w)(hr:(Op.eqFields d xs ys fs).run P w= .ok s w):(Op.eqFields d xs ys (f::fs)).run P w= .ok (r&&s) w:=by
 have hn':f.name≠ "_" :=by simpa using hn
 rw[Op.eqFields];simp only[if_pos hn',Sem.run_bind,ha,hb,he,Result.andThen_ok]
 cases r
 ·simp
 ·simpa using hr
theorem aD5{t:TypeId}{fs:Array Field}(hu:P.underlying t=some (.struct fs))(hp:P.stoodInHeld t=false)(h:(Op.eqFields d xs ys fs.toList).run P w= .ok r w):(Op.equalIn (d+1) t (.agg xs) (.agg ys)).run P w= .ok r w:=by
 have hf:P.fieldsOf t=fs:=by simp[Program.fieldsOf,hu]
 rw[run_equalIn_struct (P:=P) w d t xs ys (by rw[hf];exact hu) hp,hf];exact h
end
end Go.Proofs.YtignanmmgaldeaaGreatDoorW.PrintWords
end
section
namespace Go.Proofs.YtignanmmgaldeaaGreatDoorW.PrintWords
theorem Reps.one{α:Type}{R:α→List Value→Prop}{ps:List α}{cs:List Value}{p:α}{v:Value}(hp:R p [v])(h:Reps R 1 ps cs):Reps R 1 (p::ps) (v::cs):=by
 refine⟨by simp[h.1],fun j q hq=> ?_⟩
 cases j with
 |zero=>
  simp only[List.getElem?_cons_zero,Option.some.injEq] at hq;subst hq
  simpa using hp
 |succ j=>
  simp only[List.getElem?_cons_succ] at hq;have h1:=h.2 j q hq
  simpa[Nat.mul_one] using h1
end Go.Proofs.YtignanmmgaldeaaGreatDoorW.PrintWords
end
section
namespace Go.Proofs.YtignanmmgaldeaaGreatDoorW.PrintLast
def up(b:Nat→Bool)(i:Nat):Nat→Bool:=fun j=>if j=i then true else b j
end Go.Proofs.YtignanmmgaldeaaGreatDoorW.PrintLast
end
section
namespace Go.Proofs.YtignanmmgaldeaaGreatDoorW.PrintLast
section
variable {ops:Array Oper} {a:Act} {o og:Oper} {g:Nat} {t:Tmp} {u:Bool}
theorem eval_of{v:Value}(h:a.tmps[t]? =some v):a.eval (.tmp t)=v:=by simp[Act.eval,h]
end
end Go.Proofs.YtignanmmgaldeaaGreatDoorW.PrintLast
end
section
set_option linter.unusedVariables false
set_option linter.unusedSimpArgs false
namespace Go.Proofs.YtignanmmgaldeaaGreatDoor.PRefA
open Go.RowKit Go.Proofs.YtignanmmgaldeaaGreatDoorW.PrintWords Go.Proofs.YtignanmmgaldeaaGreatDoorW.PrintLast Go.Proofs.YtignanmmgaldeaaGreatDoorW.PrintMore
attribute [local go_sem] dQ dR eH eP
def errW:Option Int→Value
 |none=> .nilIface
 |some c=> .iface 0 (.int .i64 c)
theorem dZ:errW none= .nilIface:=rfl
theorem eF(c:Int):errW (some c)= .iface 0 (.int .i64 c):=rfl
theorem info3:(Tryz.prog.info? 3).map (fun i=>(i.zero,i.size,i.bytes))=some (some (.int .i64 0),1,8):=by kernel_rfl
theorem info5:(Tryz.prog.info? 5).map (fun i=>(i.zero,i.size,i.bytes))=some (some (.int .u8 0),1,1):=by kernel_rfl
end Go.Proofs.YtignanmmgaldeaaGreatDoor.PRefA
end
section
set_option linter.unusedVariables false
namespace Go.Proofs.YtignanmmgaldeaaGreatDoorW.PrintWords
open Go.RowKit
theorem pkK{W0 W W':World}{g:Nat}{o:Obj}(B:aA (W0.heap[g]? =some o))(hb:Below W.heap.size W W')(h:W0.heap[g]? =some o→W.heap[g]? =some o:=by intro h_;(with_reducible repeat(first|refine bH ?_ _|refine aK ?_|refine bG ?_ _));exact h_):aA (W'.heap[g]? =some o):=⟨iT (h B.out) hb⟩
theorem pkW{W0 W:World}{g:Nat}{o:Obj}(B:aA (W0.heap[g]? =some o))(h:W0.heap[g]? =some o→W.heap[g]? =some o:=by intro h_;(with_reducible repeat(first|refine bH ?_ _|refine aK ?_|refine bG ?_ _));exact h_):W.heap[g]? =some o:=h B.out
theorem pkL{w W0 W:World}(B:aA (Below w.heap.size w W0))(h:Below w.heap.size w W0→Below w.heap.size w W:=by intro h_;repeat(first|(with_reducible first|exact h_|apply aT|apply aI|apply aJ|refine nY ?_ (aA.out (by assumption)))|exact h_)):Below w.heap.size w W:=h B.out
theorem pkB{w W0 W W':World}(B:aA (Below w.heap.size w W0))(hb:Below W.heap.size W W')(h:Below w.heap.size w W0→Below w.heap.size w W:=by intro h_;repeat(first|(with_reducible first|exact h_|apply aT|apply aI|apply aJ|refine nY ?_ (aA.out (by assumption)))|exact h_)):aA (Below w.heap.size w W'):=⟨fM (h B.out) hb⟩
theorem pkG{w W0 W:World}{g:Nat}(B:aA (Below w.heap.size w W0))(hg:g=W.heap.size)(h:Below w.heap.size w W0→Below w.heap.size w W:=by intro h_;repeat(first|(with_reducible first|exact h_|apply aT|apply aI|apply aJ|refine nY ?_ (aA.out (by assumption)))|exact h_)):aA (w.heap.size≤g):=⟨by rw[hg];exact dJ (h B.out)⟩
theorem pkE{w W0 W:World}{e v:Ending}(B:aA (Below w.heap.size w W0))(h1:e=v:=by first|rfl|(simp[dZ,eF] <;> rfl)|(simp[*,dZ,eF] <;> rfl))(h:Below w.heap.size w W0→Below w.heap.size w W:=by intro h_;repeat(first|(with_reducible first|exact h_|apply aT|apply aI|apply aJ|refine nY ?_ (aA.out (by assumption)))|exact h_)):e=v∧Below w.heap.size w W:=⟨h1,h B.out⟩
theorem pk3{W:World}{g:Nat}{t:TypeId}{a b c:Value}(B:aA (W.heap[g]? =some (.cells #[a,b,c] t (0,0)))):(W.cell? ⟨g,0,none⟩=some a∧W.cell? ⟨g,1,none⟩=some b∧W.cell? ⟨g,2,none⟩=some c)∧W.frozen? ⟨g,0,none⟩=false∧W.frozen? ⟨g,1,none⟩=false∧W.frozen? ⟨g,2,none⟩=false:=
 ⟨⟨(fF B.out 0).trans rfl,(fF B.out 1).trans rfl,(fF B.out 2).trans rfl⟩,eG B.out 0,eG B.out 1,eG B.out 2⟩
theorem blk_p0{w:World}{g:Nat}{t:TypeId}{x a b c:Value}(h:w.heap[g]? =some (.cells #[x,b,c] t (0,0))):(w.setCell ⟨g,0,none⟩ a).heap[g]? =some (.cells #[a,b,c] t (0,0)):=iR h 0 a rfl
theorem blk_p1{w:World}{g:Nat}{t:TypeId}{x a b c:Value}(h:w.heap[g]? =some (.cells #[a,x,c] t (0,0))):(w.setCell ⟨g,1,none⟩ b).heap[g]? =some (.cells #[a,b,c] t (0,0)):=iR h 1 b rfl
theorem blk_p2{w:World}{g:Nat}{t:TypeId}{x a b c:Value}(h:w.heap[g]? =some (.cells #[a,b,x] t (0,0))):(w.setCell ⟨g,2,none⟩ c).heap[g]? =some (.cells #[a,b,c] t (0,0)):=iR h 2 c rfl
theorem pkS3{W0 W:World}{g:Nat}{t:TypeId}{x y z a b c:Value}(B:aA (W0.heap[g]? =some (.cells #[x,y,z] t (0,0))))(h:W0.heap[g]? =some (.cells #[x,y,z] t (0,0))→W.heap[g]? =some (.cells #[a,b,c] t (0,0)):=by intro h_;with_reducible repeat(first|exact h_|apply blk_p2|apply blk_p1|apply blk_p0|refine bH ?_ _|refine aK ?_|refine bG ?_ _)):W.heap[g]? =some (.cells #[a,b,c] t (0,0)):=h B.out
section
variable {P:Program} {ops:Array Oper} {Q:Exit→Act→World→Prop}
theorem aAx{rest:List Oper}{o:Oper}{a:Act}{W:World}{p:Tmp}{aFw:Array Operand}{ts:Array TypeId}(_ho:o.op= .call {callee:= .value (.tmp p),args:=aFw,argTypes:=ts})(h:wpList P ops Q (o::rest) a W):wpList P ops Q (o::rest) a W:=h
theorem goesV_{rest:List Oper}{oi:Oper}{a:Act}{w:World}(N:Option Tmp)(hd:oi.dst=N)(hg:oi.guard=none){f:FuncId}{fn:Func}{c:Operand}{aFw:Array Operand}{ts:Array TypeId}(hf:P.funcs[f]? =some fn)(hname:(fn.name== "runtime.NumGoroutine")=false)(hb:fn.body.isSome=true)(args:Array Value)
 (hop:oi.op= .call {callee:= .value c,args:=aFw,argTypes:=ts}) (hc:a.eval c= .func (.func f) #[] #[]) (hargs:aFw.map a.eval=args)
 (h:Calls P f args w fun e w'=>∃v,e= .returned v∧wpList P ops Q rest (a.put N v) w'):wpList P ops Q (oi::rest) a w:=by
 refine wpList_plain hg fun K hK=> ?_
 have he:=PrintLast.enters_ hf hname hb args w
 have hrun:(execOp a.eval oi).run P w= .ok (.enter f args) w:=by
  unfold execOp
  simp[hop,hc,resolve,Deferred.ofValue,invoke,hargs,he]
 unfold Oper.wp;rw[hrun,Oper.upon_enter];refine h.mono fun e w'' hh=> ?_
 obtain⟨v,rfl,hk⟩:=hh;subst hd;exact hK _ _ hk
end
end Go.Proofs.YtignanmmgaldeaaGreatDoorW.PrintWords
end
section
set_option linter.unusedVariables false
namespace Go.Proofs.YtignanmmgaldeaaGreatDoorW.PrintWords
open Go.RowKit Go.Proofs.YtignanmmgaldeaaGreatDoorW.PrintLast
theorem bi{α β:Type}{o:Option α}{f:α→Option β}{b:β}(h:o.bind f=some b):∃a,aA (o=some a)∧f a=some b:=by
 obtain⟨a,h1,h2⟩:=Option.bind_eq_some_iff.mp h;exact⟨a,⟨h1⟩,h2⟩
section
variable {P:Program} {md:Region.Mode} {ops:Array Oper} {Q:Exit→Act→World→Prop} {S:World→Prop} {ds:List Nat}
theorem pr_(i n:Nat){oi:Oper}{v:Value}{fuel:Nat}{l l':Array Bool}{a a':Act}{w:World}(hi:ops[i]? =some oi:=by exact rfl)(hN:oi.dst=some n:=by exact rfl)(hl:l.setIfInBounds i true=l':=by simp only[List.setIfInBounds_toArray,List.set_cons_zero,List.set_cons_succ];rfl)(hc:anyB md ops l l' i=true:=by first|exact nK (aA.out (by assumption)) (by kernel_rfl)|kernel_rfl)
 (hQ:∀c a w,Q (.panic c) (a.put oi.dst v) w→Q (.panic c) a w:=by exact fun _ _ _ h=>h) (hy:Yields P ops oi v a:=by exact Or.inl ⟨by rfl,by intro w';go_simp;with_reducible rfl⟩) (ha:a.put (some n) v=a':=by simp only[Act.put,List.setIfInBounds_toArray,List.set_cons_zero,List.set_cons_succ,jM,jX];rfl)
 (h:iU P md ops Q S ds fuel l' a' w):iU P md ops Q S ds (fuel+1) l a w:=oW _ hi hN hc hQ hy ha h
theorem tk_(i n:Nat){oi:Oper}{v:Value}{fuel:Nat}{l l':Array Bool}{a a':Act}{w:World}(hS:S w)(hi:ops[i]? =some oi:=by exact rfl)(hN:oi.dst=some n:=by exact rfl)(hl:l.setIfInBounds i true=l':=by simp only[List.setIfInBounds_toArray,List.set_cons_zero,List.set_cons_succ];rfl)(hc:takeB md ops ds l l' i=true:=by first|exact take_ofW (aA.out (by assumption)) (aA.out (by assumption)) (by kernel_rfl)|exact take_of (aA.out (by assumption)) (by kernel_rfl)|kernel_rfl)
 (hQ:∀c a w,Q (.panic c) (a.put oi.dst v) w→Q (.panic c) a w:=by exact fun _ _ _ h=>h) (hb:Region.wanted oi (yielded ops a.tmps)=true:=by rfl) (hy:∀w',S w'→(execOp a.eval oi).run P w'= .ok (.value v) w') (ha:a.put (some n) v=a':=by simp only[Act.put,List.setIfInBounds_toArray,List.set_cons_zero,List.set_cons_succ,jM,jX];rfl)
 (h:iU P md ops Q S ds fuel l' a' w):iU P md ops Q S ds (fuel+1) l a w:=take_ _ hi hN hc hQ (Or.inl ⟨hb,hy⟩) hS ha h
theorem on_(i n:Nat){oi:Oper}{fuel:Nat}{l l':Array Bool}{a:Act}{w:World}(hi:ops[i]? =some oi:=by exact rfl)(hN:oi.dst=some n:=by exact rfl)(hl:l.setIfInBounds i true=l':=by simp only[List.setIfInBounds_toArray,List.set_cons_zero,List.set_cons_succ];rfl)(hc:readyB md ops l l' i=true:=by first|exact tH (aA.out (by assumption)) (by kernel_rfl)|kernel_rfl)(hd:i ∉ ds:=by decide)
 (h:∀K:Act→World→Prop,Shut (∀a' w',S w'→(S w'→iU P md ops Q S ds fuel l' a' w')→K a' w')→if Region.wanted oi (yielded ops a.tmps)=true then Oper.wp P oi a w K Q else K (a.put (some n) undef) w) :
 iU P md ops Q S ds (fuel+1) l a w:=one_ _ hi hN hc hd h
theorem g1_{oi:Oper}{N:Option Tmp}{a:Act}{w:World}{K:Act→World→Prop}{f:FuncId}{fn:Func}{aFw:Array Operand}{ts:Array TypeId}(hf:P.funcs[f]? =some fn)(args:Array Value)(hname:(fn.name== "runtime.NumGoroutine")=false:=by kernel_rfl)(hb:fn.body.isSome=true:=by rfl)
 (hw:Region.wanted oi (yielded ops a.tmps)=true:=by rfl) (hN:oi.dst=N:=by rfl) (hop:oi.op= .call {callee:= .value (.func f),args:=aFw,argTypes:=ts}:=by rfl) (hargs:aFw.map a.eval=args:=by(try simp only[List.map_toArray,List.map_cons,List.map_nil]);first|done|rfl|(simp only[List.length_drop,List.length_take];rfl))
 (h:Calls P f args w fun e w'=>∃v,e= .returned v∧K (a.put N v) w'):if Region.wanted oi (yielded ops a.tmps)=true then Oper.wp P oi a w K Q else K (a.put N undef) w:=goes_ hf hname hb args hw hN hop hargs h
theorem gl_(n:Nat){rest:List Oper}{oi:Oper}{a:Act}{w:World}{f:FuncId}{fn:Func}{aFw:Array Operand}{ts:Array TypeId}(hf:P.funcs[f]? =some fn)(args:Array Value)(hd:oi.dst=some n:=by rfl)(hg:oi.guard=none:=by rfl)(hname:(fn.name== "runtime.NumGoroutine")=false:=by kernel_rfl)(hb:fn.body.isSome=true:=by rfl)
 (hop:oi.op= .call {callee:= .value (.func f),args:=aFw,argTypes:=ts}:=by rfl) (hargs:aFw.map a.eval=args:=by(try simp only[List.map_toArray,List.map_cons,List.map_nil]);first|done|rfl|(simp only[List.length_drop,List.length_take];rfl))
 (h:Calls P f args w fun e w'=>∃v,e= .returned v∧wpList P ops Q rest (a.put (some n) v) w'):wpList P ops Q (oi::rest) a w:=dF (some n) hd hg hf hname hb args hop hargs h
theorem bx_{W:World}{o:Oper}{rest:List Oper}{a:Act}(N:Tmp)(t:TypeId)(cs:Array Value)(hd:o.dst=some N:=by rfl)(hgd:o.guard=none:=by rfl)
 (hrun:(execOp a.eval o).run P W= .ok (.value (.pointer (some ⟨W.heap.size,0,none⟩))) (W.alloc (.cells cs t (0,0))):=by first|(go_simp;done)|(go_simp;rfl))
 (h:∀g,g=W.heap.size→∀w1,w1.heap[g]? =some (.cells cs t (0,0))→Below W.heap.size W w1→wpList P ops Q rest (a.put o.dst (.pointer (some ⟨g,0,none⟩))) w1):wpList P ops Q (o::rest) a W:=qP hgd hd hrun h
end
end Go.Proofs.YtignanmmgaldeaaGreatDoorW.PrintWords
end
section
set_option linter.unusedVariables false
namespace Go.Proofs.YtignanmmgaldeaaGreatDoorW.PrintWords
open Go.RowKit
theorem pkF{W0 W W':World}{g:Nat}{t:TypeId}{cs:Array Value}(B:aA (W0.heap[g]? =some (.cells cs t (0,0))))(hb:Below W.heap.size W W')(h:W0.heap[g]? =some (.cells cs t (0,0))→W.heap[g]? =some (.cells cs t (0,0)):=by intro h_;repeat(first|(with_reducible first|exact h_|refine bH ?_ _|refine aK ?_|refine bG ?_ _)|refine gX ?_ (aA.out (by assumption)) _)):aA (W'.heap[g]? =some (.cells cs t (0,0))):=⟨iT (h B.out) hb⟩
theorem pkQ{W0 W:World}{g g':Nat}{o:Obj}(B:aA (W0.heap[g]? =some o))(hg:g'=W.heap.size)(h:W0.heap[g]? =some o→W.heap[g]? =some o:=by intro h_;(with_reducible repeat(first|refine bH ?_ _|refine aK ?_|refine bG ?_ _));exact h_):aA (g≠g')∧aA (g'≠g)∧g'≠g∧g≠g':=
 ⟨⟨by rw[hg];exact Nat.ne_of_lt (pX (h B.out))⟩,⟨by rw[hg];exact Nat.ne_of_gt (pX (h B.out))⟩,by rw[hg];exact Nat.ne_of_gt (pX (h B.out)),by rw[hg];exact Nat.ne_of_lt (pX (h B.out))⟩
theorem byC{P g:Prop}(h1:P→g)(h2:¬P→g):g:=(Classical.em P).elim h1 h2
end Go.Proofs.YtignanmmgaldeaaGreatDoorW.PrintWords
end
section
set_option linter.unusedVariables false
namespace Go.Proofs.YtignanmmgaldeaaGreatDoorW.PrintWords
open Go.RowKit Go.Proofs.YtignanmmgaldeaaGreatDoorW.PrintLast
section
variable {P:Program} {ops:Array Oper} {Q:Exit→Act→World→Prop}
theorem gM(n:Nat){rest:List Oper}{oi:Oper}{a:Act}{w:World}{f:FuncId}{fn:Func}{aFw:Array Operand}{ts:Array TypeId}{args:Array Value}{v:Value}{m:Nat}(hf:P.funcs[f]? =some fn)
 (hX:Calls P f args w fun e w'=>e= .returned v∧Below m w w') (hop:oi.op= .call {callee:= .value (.func f),args:=aFw,argTypes:=ts}:=by with_reducible rfl) (hd:oi.dst=some n:=by rfl) (hg:oi.guard=none:=by rfl) (hname:(fn.name== "runtime.NumGoroutine")=false:=by kernel_rfl) (hb:fn.body.isSome=true:=by rfl)
 (hargs:aFw.map a.eval=args:=by(try simp only[List.map_toArray,List.map_cons,List.map_nil]);first|done|rfl|(simp only[List.length_drop,List.length_take];rfl))
 (h:∀w',Below m w w'→wpList P ops Q rest (a.put (some n) v) w'):wpList P ops Q (oi::rest) a w:=gl_ n hf args hd hg hname hb hop hargs (hX.mono fun _ w' q=>⟨v,q.1,h w' q.2⟩)
theorem gR{oi:Oper}{N:Option Tmp}{a:Act}{w:World}{K:Act→World→Prop}{f:FuncId}{fn:Func}{aFw:Array Operand}{ts:Array TypeId}{args:Array Value}{v:Value}{m:Nat}(hf:P.funcs[f]? =some fn)
 (hX:Calls P f args w fun e w'=>e= .returned v∧Below m w w') (hname:(fn.name== "runtime.NumGoroutine")=false:=by kernel_rfl) (hb:fn.body.isSome=true:=by rfl)
 (hw:Region.wanted oi (yielded ops a.tmps)=true:=by rfl) (hN:oi.dst=N:=by rfl) (hop:oi.op= .call {callee:= .value (.func f),args:=aFw,argTypes:=ts}:=by rfl) (hargs:aFw.map a.eval=args:=by(try simp only[List.map_toArray,List.map_cons,List.map_nil]);first|done|rfl|(simp only[List.length_drop,List.length_take];rfl))
 (h:∀w',Below m w w'→K (a.put N v) w'):if Region.wanted oi (yielded ops a.tmps)=true then Oper.wp P oi a w K Q else K (a.put N undef) w:=g1_ hf args hname hb hw hN hop hargs (hX.mono fun _ w' q=>⟨v,q.1,h w' q.2⟩)
end
section
variable {P:Program} {md:Region.Mode} {ops:Array Oper} {Q:Exit→Act→World→Prop} {S:World→Prop} {ds:List Nat}
theorem nm_{fuel:Nat}{l:Array Bool}{a a':Act}{w:World}(ha:a=a':=by simp only[Act.put,List.setIfInBounds_toArray,List.set_cons_zero,List.set_cons_succ,jM,jX];rfl)(h:iU P md ops Q S ds fuel l a' w):iU P md ops Q S ds fuel l a w:=norm_ ha h
end
theorem pc3{W:World}{g:Nat}{t:TypeId}{a b c:Value}{R:Prop}(B:aA (W.heap[g]? =some (.cells #[a,b,c] t (0,0))))(r:R):W.cell? ⟨g,0,none⟩=some a∧W.cell? ⟨g,1,none⟩=some b∧W.cell? ⟨g,2,none⟩=some c∧R:=⟨(pk3 B).1.1,(pk3 B).1.2.1,(pk3 B).1.2.2,r⟩
theorem pcL{W:World}{g:Nat}{t:TypeId}{a b c:Value}(B:aA (W.heap[g]? =some (.cells #[a,b,c] t (0,0)))):W.cell? ⟨g,0,none⟩=some a∧W.cell? ⟨g,1,none⟩=some b∧W.cell? ⟨g,2,none⟩=some c:=(pk3 B).1
theorem bT{α:Type}[BEq α][LawfulBEq α]{a b:α}(h:a=b):(a==b)=true∧(a != b)=false:=⟨beq_iff_eq.mpr h,bne_eq_false_iff_eq.mpr h⟩
theorem bF{α:Type}[BEq α][LawfulBEq α]{a b:α}(h:¬a=b):(a==b)=false∧(a != b)=true:=⟨beq_eq_false_iff_ne.mpr h,bne_iff_ne.mpr h⟩
theorem hy6{p:Prop}(h:p:=by rintro w' ⟨s0,s1,s2,s3,s4,s5⟩;go_simp;with_reducible rfl):p:=h
theorem hy3{p:Prop}(h:p:=by rintro w' ⟨s0,s1,s2⟩;go_simp;with_reducible rfl):p:=h
theorem hyc{p:Prop}(h:p:=by rintro w' ⟨s0,s1,s2,s3,s4,s5,s6,s7,s8,s9,s10,s11⟩;go_simp;with_reducible rfl):p:=h
theorem hyf{p:Prop}(h:p:=by rintro w' ⟨s0,s1,s2,s3,s4,s5,s6,s7,s8,s9,s10,s11,s12,s13,s14⟩;go_simp;with_reducible rfl):p:=h
theorem asm_{p:Prop}(h:p:=by first|(with_reducible assumption)|assumption):p:=h
theorem dr_{p q:Prop}(h1:p:=by first|rfl|(simp;done)|(simp[*];done))(h2:q:=by repeat(first|exact eQ.refl _|apply eQ.step)):p∧q:=⟨h1,h2⟩
theorem le_{p:Prop}(h:p:=by first|omega|exact Nat.le_refl _):aA p:=⟨h⟩
end Go.Proofs.YtignanmmgaldeaaGreatDoorW.PrintWords
end
section
set_option linter.unusedVariables false
set_option linter.unusedSimpArgs false
set_option maxHeartbeats 8000000
set_option maxRecDepth 100000
namespace Go.Proofs.YtignanmmgaldeaaGreatDoor.PRefA
open Go.RowKit Go.Proofs.YtignanmmgaldeaaGreatDoorW.PrintWords Go.Proofs.YtignanmmgaldeaaGreatDoorW.PrintLast Go.Proofs.YtignanmmgaldeaaGreatDoorW.PrintMore
attribute [local go_sem] dQ dR eH eP
def aU.l0:Nat→List Int→Int→Option (List Int)
 |0,_,_=>none
 |k+1,x0,x3=>if x3>0 then(if 0≤(wrap64 (x3-1)) then(if(wrap64 (x3-1))<(x0.length:Int) then(if(rd x0 (wrap64 (x3-1)))=0 then(aU.l0 k x0 (wrap64 (x3-1))) else(if 0≤x3 then(if x3≤(x0.length:Int) then(some (x0.take (x3:Int).toNat)) else(none)) else(none))) else(none)) else(none)) else(if 0≤x3 then(if x3≤(x0.length:Int) then(some (x0.take (x3:Int).toNat)) else(none)) else(none))
def aU.f(k:Nat)(l0:List Int):Option (List Int):=aU.l0 k l0 (l0.length:Int)
theorem aU.calls(k:Nat)(P0_:Nat→Prop)(u9000_:Value)(l0:List Int)(r:List Int)(w0 w:World)(hB:Below w0.heap.size w0 w)(D9:Kd.R (Kd.int .i64) 3 w w0.heap.size P0_ u9000_ l0)(h:aU.f k l0=some r) :
 Calls Tryz.prog 155 #[u9000_] w fun e w'=>∃v0_:Value,e= .returned (v0_)∧Kd.R (Kd.int .i64) 3 w' w0.heap.size (fun k_=>(P0_ k_∨w.heap.size≤k_)) v0_ r∧Below w0.heap.size w0 w'∧Kept w w' (fun k_=>P0_ k_):=by
 have y8:=aA.mk (show Kd.R (Kd.int .i64) 3 w w0.heap.size (fun k_=>(P0_ k_∨w.heap.size≤k_)) u9000_ l0 from Kd.dK D9 (fun k_ hk=>(.inl hk)));have HK:=aA.mk (Kept.refl w (fun k_=>P0_ k_));have HW0:=aA.mk hB.size;have HB:=aA.mk hB;clear hB;have H:(aU.l0 k l0 (l0.length:Int))=some r:=h;clear h;have H':=aA.mk H;clear H;obtain⟨y9,o9,E8⟩:=Kd.fA y8.out;subst E8;go_enter Tryz.func155,Tryz.ntmps155
 go_wp2
 go_loopg [3] k (fun kq v3 w'=>∃(l9:Int),v3= .int .i64 l9∧aA (aU.l0 kq l0 l9=some r)∧aA (kq≤k)∧aA (Kd.R (Kd.int .i64) 3 w' w0.heap.size (fun k_=>(P0_ k_∨w.heap.size≤k_)) (.slice y9 l0.length o9) l0)∧aA (Kept w w' (fun k_=>P0_ k_))∧aA (Below w0.heap.size w0 w'))
 case atStart=>exact⟨((l0.length:Int)),aG1,H',⟨Nat.le_refl _⟩,⟨by(with_reducible repeat(first|apply Kd.aQ|apply Kd.aN|apply Kd.aW));exact y8.out⟩,⟨by repeat(first|(with_reducible first|exact HK.out|apply Kept.alloc|apply Kept.drewN|apply Kept.drew)|exact HK.out)⟩,⟨pkL HB⟩⟩
 case round=>
  clear H';obtain⟨l9,rfl,HA,C9,HO_0,HK,HB⟩:=hrel
  cases gk with
  |zero=>exact absurd HA.out (by simp[aU.l0])
  |succ k1=>
   have H:=HA.out;clear HA;simp only[aU.l0] at H
   by_cases c3:l9>0
   ·rw[if_pos c3] at H
    have F5:=decide_eq_true c3;clear c3;obtain⟨ji4,hji4⟩:∃j_:Int,(wrap64 (l9-1))=j_:=⟨_,rfl⟩
    replace H:(if 0≤(ji4) then(if(ji4)<(l0.length:Int) then(if(rd l0 (ji4))=0 then(aU.l0 k1 l0 ji4) else(if 0≤l9 then(if l9≤(l0.length:Int) then(some (l0.take (l9:Int).toNat)) else(none)) else(none))) else(none)) else(none))=some r:=by first|(rw[hji4] at H;exact H)|(simp only[hji4] at H ⊢;exact H)
    have hji4w:(IntKind.i64.wrap (l9-1))=ji4:=(jM _).trans hji4
    by_cases c5:0≤(ji4)
    ·rw[if_pos c5] at H
     have G5:=decide_eq_true c5;clear c5
     by_cases c6:(ji4)<(l0.length:Int)
     ·rw[if_pos c6] at H
      have G6:=decide_eq_true c6;clear c6
      by_cases c7:(rd l0 (ji4))=0
      ·rw[if_pos c7] at H
       obtain⟨F6,F7⟩:=bT c7;clear c7;have H':=aA.mk H;clear H;have p101:0≤((ji4):Int):=of_decide_eq_true asm_;have q101:(ji4)<(l0.length:Int):=of_decide_eq_true asm_;obtain⟨ad101,e101,hx101_0⟩:=Kd.nU (Kd.dB HO_0.out).2.2 (ji4) p101 q101
       cases e101
       replace p101:=eq_true p101;replace q101:=eq_true q101;go_wp2
       go_roundg k1
       case measure=>have:=C9.out;omega
       case rel=>exact⟨(ji4),(by first|rfl|(simp;done)|(simp only[←hji4] <;> (first|rfl|simp))|(simp[*];done)),H',⟨by have:=C9.out;omega⟩,⟨by(with_reducible repeat(first|apply Kd.aQ|apply Kd.aN|apply Kd.aW));exact HO_0.out⟩,⟨by repeat(first|(with_reducible first|exact HK.out|apply Kept.alloc|apply Kept.drewN|apply Kept.drew)|exact HK.out)⟩,⟨pkL HB⟩⟩
      ·rw[if_neg c7] at H
       obtain⟨F6,F7⟩:=bF c7
       by_cases c8:0≤l9
       ·rw[if_pos c8] at H
        have G7:=eq_true c8;have G8:=decide_eq_true c8;clear c8
        by_cases c9:l9≤(l0.length:Int)
        ·rw[if_pos c9] at H
         have G9:=eq_true c9;have H5:=decide_eq_true c9;clear c9;obtain⟨D5,o5⟩:∃y_:List Int,y_=(l0.take (l9:Int).toNat):=⟨_,rfl⟩
         replace H:(some D5)=some r:=by first|(rw[o5];with_reducible exact H)|(have H2_:=(Option.bind_some _ _).symm.trans H;rw[o5];with_reducible exact H2_)|(have H2_:=(Option.bind_some _ _).symm.trans H;with_reducible exact H2_)|with_reducible exact H|(rw[o5];exact H)|exact H
         have D6:=aA.mk o5;clear o5;obtain rfl:=Option.some.inj H;have p101:0≤((ji4):Int):=of_decide_eq_true asm_;have q101:(ji4)<(l0.length:Int):=of_decide_eq_true asm_;obtain⟨ad101,e101,hx101_0⟩:=Kd.nU (Kd.dB HO_0.out).2.2 (ji4) p101 q101
         cases e101
         replace p101:=eq_true p101;replace q101:=eq_true q101;have q10:(l9:Int)≤((l0.length:Int):Int):=of_decide_eq_true asm_;obtain⟨i010,hi010,_,hsz10,_⟩:=info_parts info3;have hcut10:=cut_to (P:=Tryz.prog) 79 3 .i64 Tryz.underlying79 hi010 (some ad101) l0.length o9 l9 (of_decide_eq_true asm_) q10 (Kd.dB HO_0.out).2.1;have hr10:=Kd.aCw (m:=(l9:Int).toNat) HO_0.out aFx;have hy10:D5.length=(l9:Int).toNat:=(by rw[D6.out,List.length_take];omega);rw[←D6.out] at hr10;rw[←hy10] at hr10 hcut10;clear hy10 hi010 hsz10 HO_0;have F8:=aA.mk hr10;clear hr10;replace q10:=eq_true q10;go_wp2
         go_ret
         exact⟨_,by first|rfl|(simp[dZ,eF] <;> rfl)|(simp only[←hji4];first|rfl|(simp[dZ,eF] <;> rfl))|(simp[*,dZ,eF] <;> rfl),by(with_reducible repeat(first|apply Kd.aQ|apply Kd.aN|apply Kd.aW));exact F8.out,by repeat(first|(with_reducible first|exact HB.out|apply aT|apply aI|apply aJ)|exact HB.out),by repeat(first|(with_reducible first|exact HK.out|apply Kept.alloc|apply Kept.drewN|apply Kept.drew)|exact HK.out)⟩
        ·rw[if_neg c9] at H
         exact absurd H aFz
       ·rw[if_neg c8] at H
        exact absurd H aFz
     ·rw[if_neg c6] at H
      exact absurd H aFz
    ·rw[if_neg c5] at H
     exact absurd H aFz
   ·rw[if_neg c3] at H
    have F5:=decide_eq_false c3;clear c3
    by_cases o6:0≤l9
    ·rw[if_pos o6] at H
     have H6:=eq_true o6;have H7:=decide_eq_true o6;clear o6
     by_cases o7:l9≤(l0.length:Int)
     ·rw[if_pos o7] at H
      have H8:=eq_true o7;have H9:=decide_eq_true o7;clear o7;obtain⟨D7,o8⟩:∃y_:List Int,y_=(l0.take (l9:Int).toNat):=⟨_,rfl⟩
      replace H:(some D7)=some r:=by first|(rw[o8];with_reducible exact H)|(have H2_:=(Option.bind_some _ _).symm.trans H;rw[o8];with_reducible exact H2_)|(have H2_:=(Option.bind_some _ _).symm.trans H;with_reducible exact H2_)|with_reducible exact H|(rw[o8];exact H)|exact H
      have D8:=aA.mk o8;clear o8;obtain rfl:=Option.some.inj H;have q13:(l9:Int)≤((l0.length:Int):Int):=of_decide_eq_true asm_;obtain⟨i013,hi013,_,hsz13,_⟩:=info_parts info3;have hcut13:=cut_to (P:=Tryz.prog) 79 3 .i64 Tryz.underlying79 hi013 y9 l0.length o9 l9 (of_decide_eq_true asm_) q13 (Kd.dB HO_0.out).2.1;have hr13:=Kd.aCw (m:=(l9:Int).toNat) HO_0.out aFx;have hy13:D7.length=(l9:Int).toNat:=(by rw[D8.out,List.length_take];omega);rw[←D8.out] at hr13;rw[←hy13] at hr13 hcut13;clear hy13 hi013 hsz13 HO_0;have F9:=aA.mk hr13;clear hr13;replace q13:=eq_true q13;go_wp2
      go_ret
      exact⟨_,by first|rfl|(simp[dZ,eF] <;> rfl)|(simp[*,dZ,eF] <;> rfl),by(with_reducible repeat(first|apply Kd.aQ|apply Kd.aN|apply Kd.aW));exact F9.out,by repeat(first|(with_reducible first|exact HB.out|apply aT|apply aI|apply aJ)|exact HB.out),by repeat(first|(with_reducible first|exact HK.out|apply Kept.alloc|apply Kept.drewN|apply Kept.drew)|exact HK.out)⟩
     ·rw[if_neg o7] at H
      exact absurd H aFz
    ·rw[if_neg o6] at H
     exact absurd H aFz
def iV.f(l0:List Int)(a1:Int):Option (Int):=if a1<(l0.length:Int) then(if 0≤a1 then(some (rd l0 a1)) else(none)) else(some 0)
theorem iV.calls(A0:Option Addr)(c0:Nat)(l0:List Int)(a1:Int)(r:Int)(w:World)(hr0:Kd.C (Kd.int .i64) w A0 l0.length l0)(hc0:l0.length≤c0)(h:iV.f l0 a1=some r) :
 Calls Tryz.prog 195 #[.slice A0 l0.length c0,.int .i64 a1] w fun e w'=>e= .returned (.int .i64 r)∧eQ w w':=by
 have l9:=aA.mk hr0;have o6:=aA.mk hc0;clear hr0 hc0;have H:(if a1<(l0.length:Int) then(if 0≤a1 then(some (rd l0 a1)) else(none)) else(some 0))=some r:=h;clear h
 by_cases c3:a1<(l0.length:Int)
 ·rw[if_pos c3] at H
  have o5:=decide_eq_true c3;clear c3
  by_cases c4:0≤a1
  ·rw[if_pos c4] at H
   have o7:=decide_eq_true c4;clear c4;obtain rfl:=Option.some.inj H;have p108:0≤(a1:Int):=of_decide_eq_true asm_;have q108:a1<(l0.length:Int):=of_decide_eq_true asm_;obtain⟨ad108,e108,hx108_0⟩:=Kd.nU l9.out a1 p108 q108
   cases e108
   replace p108:=eq_true p108;replace q108:=eq_true q108;go_enter Tryz.func195,Tryz.ntmps195
   go_wp2
   go_ret
   exact dr_
  ·rw[if_neg c4] at H
   exact absurd H aFz
 ·rw[if_neg c3] at H
  have o5:=decide_eq_false c3;clear c3;obtain rfl:=Option.some.inj H;go_enter Tryz.func195,Tryz.ntmps195
  go_wp2
  go_ret
  exact dr_
def gQ.l0:Nat→List Int→List Int→List Int→Int→Int→Option (List Int)
 |0,_,_,_,_,_=>none
 |k+1,x0,x1,x5,x6,x7=>if x7<(wrap64 ((mx (x0.length:Int) (x1.length:Int))+1)) then((iV.f x0 x7).bind fun t109=>((iV.f x1 x7).bind fun t110=>(if x5.length<17592186044416 then(gQ.l0 k x0 x1 (x5++ [Int.tmod (wrap64 (x6+(wrap64 (t109+t110)))) 10]) (wrap64 (Int.tdiv (wrap64 (x6+(wrap64 (t109+t110)))) 10)) (wrap64 (x7+1))) else(none)))) else((aU.f k x5).bind fun t114=>(some t114))
def gQ.f(k:Nat)(l0:List Int)(l1:List Int):Option (List Int):=gQ.l0 k l0 l1 ([]:List Int) 0 0
theorem gQ.calls(k:Nat)(A0:Option Addr)(c0:Nat)(l0:List Int)(A1:Option Addr)(c1:Nat)(l1:List Int)(r:List Int)(w:World)(hr0:Kd.C (Kd.int .i64) w A0 l0.length l0)(hc0:l0.length≤c0)(hr1:Kd.C (Kd.int .i64) w A1 l1.length l1)(hc1:l1.length≤c1)(h:gQ.f k l0 l1=some r) :
 Calls Tryz.prog 160 #[.slice A0 l0.length c0,.slice A1 l1.length c1] w fun e w'=>∃v0_:Value,e= .returned (v0_)∧Kd.R (Kd.int .i64) 3 w' w.heap.size (fun _=>True) v0_ r∧Below w.heap.size w w':=by
 have F7:=aA.mk hr0;have F8:=aA.mk hc0;clear hr0 hc0;have F9:=aA.mk hr1;have G5:=aA.mk hc1;clear hr1 hc1;have HB:=aA.mk (Below.refl w.heap.size w);have H:(gQ.l0 k l0 l1 ([]:List Int) 0 0)=some r:=h;clear h;have H':=aA.mk H;clear H;go_enter Tryz.func160,Tryz.ntmps160
 go_wp2
 go_loopg [5,6,7] k (fun kq v5 v6 v7 w'=>∃(o5:List Int) (o8:Int) (l9:Int),v6= .int .i64 o8∧v7= .int .i64 l9∧aA (gQ.l0 kq l0 l1 o5 o8 l9=some r)∧aA (kq≤k)∧aA (Kd.R (Kd.int .i64) 3 w' w.heap.size (fun _=>True) v5 o5)∧aA (Below w.heap.size w w'))
 case atStart=>exact⟨(([]:List Int)),(0),(0),aG1,aG1,H',⟨Nat.le_refl _⟩,⟨by first|exact Kd.R_nil _ _ _ _ _|exact Kd.N_nil _ _ _ _ _|exact Kd.V_nil _ _ _ _ _|exact Kd.Q_nil _ _ _ _ _|exact Kd.S_nil _ _ _ _ _⟩,⟨pkL HB⟩⟩
 case round=>
  clear H';obtain⟨o5,o8,l9,rfl,rfl,HA,D7,HO_5,HB⟩:=hrel
  cases gk with
  |zero=>exact absurd HA.out (by simp[gQ.l0])
  |succ k1=>
   have H:=HA.out;clear HA;simp only[gQ.l0] at H;obtain⟨ji3,hji3⟩:∃j_:Int,(mx (l0.length:Int) (l1.length:Int))=j_:=⟨_,rfl⟩
   replace H:(if l9<(wrap64 ((ji3)+1)) then((iV.f l0 l9).bind fun o6=>((iV.f l1 l9).bind fun o7=>(if o5.length<17592186044416 then(gQ.l0 k1 l0 l1 (o5++ [Int.tmod (wrap64 (o8+(wrap64 (o6+o7)))) 10]) (wrap64 (Int.tdiv (wrap64 (o8+(wrap64 (o6+o7)))) 10)) (wrap64 (l9+1))) else(none)))) else((aU.f k1 o5).bind fun C9=>(some C9)))=some r:=by first|(rw[hji3] at H;exact H)|(simp only[hji3] at H ⊢;exact H)
   have hji3_:(if(l0.length:Int)<(l1.length:Int) then(l1.length:Int) else(l0.length:Int))=ji3:=hji3
   have hmax0_:((l0.length:Int)<(l1.length:Int)∧ji3=(l1.length:Int))∨(¬(l0.length:Int)<(l1.length:Int)∧ji3=(l0.length:Int)):=by
    by_cases hq_:(l0.length:Int)<(l1.length:Int)
    ·exact .inl ⟨hq_,by rw[←hji3_,if_pos hq_]⟩
    ·exact .inr ⟨hq_,by rw[←hji3_,if_neg hq_]⟩
   rcases hmax0_ with ⟨hmax1_,hmax2_⟩|⟨hmax1_,hmax2_⟩
   ·subst hmax2_
    by_cases c4:l9<(wrap64 (((l1.length:Int))+1))
    ·rw[if_pos c4] at H
     have D8:=decide_eq_true c4;clear c4;obtain⟨o6,A5,H⟩:=bi H;try dsimp only at H
     obtain⟨o7,A6,H⟩:=bi H;try dsimp only at H
     by_cases c7:o5.length<17592186044416
     ·rw[if_pos c7] at H
      have LMc7:=aA.mk c7;clear c7;obtain⟨D5,o9⟩:∃y_:List Int,y_=(o5++ [Int.tmod (wrap64 (o8+(wrap64 (o6+o7)))) 10]):=⟨_,rfl⟩
      replace H:(gQ.l0 k1 l0 l1 D5 (wrap64 (Int.tdiv (wrap64 (o8+(wrap64 (o6+o7)))) 10)) (wrap64 (l9+1)))=some r:=by first|(rw[o9];with_reducible exact H)|(have H2_:=(Option.bind_some _ _).symm.trans H;rw[o9];with_reducible exact H2_)|(have H2_:=(Option.bind_some _ _).symm.trans H;with_reducible exact H2_)|with_reducible exact H|(rw[o9];exact H)|exact H
      have D9:=aA.mk o9;clear o9;have H':=aA.mk H;clear H
      go_wp2_with(first|((with_reducible refine aC (f:=195) rfl ?_);refine gl_ 21 Tryz.func195 #[.slice A0 l0.length c0,.int .i64 l9] (h:= ?_);(with_reducible refine(iV.calls _ _ l0 l9 o6 _ ?side1 ?side2 A5.out).mono ?_);(case side1=>repeat(first|exact(Kd.nM F7.out HB.out)|(with_reducible refine Kd.gI ?_ _)|(with_reducible refine Kd.gJ ?_ _)|(with_reducible refine Kd.iJ ?_)));(case side2=>exact F8.out);rintro e w' ⟨rfl,⟨nd,rfl⟩⟩;refine⟨_,rfl,?_⟩)|((with_reducible refine aC (f:=195) rfl ?_);refine gl_ 24 Tryz.func195 #[.slice A1 l1.length c1,.int .i64 l9] (h:= ?_);(with_reducible refine(iV.calls _ _ l1 l9 o7 _ ?side1 ?side2 A6.out).mono ?_);(case side1=>repeat(first|exact(Kd.nM F9.out (pkL HB))|(with_reducible refine Kd.gI ?_ _)|(with_reducible refine Kd.gJ ?_ _)|(with_reducible refine Kd.iJ ?_)));(case side2=>exact G5.out);rintro e w' ⟨rfl,⟨nd,rfl⟩⟩;refine⟨_,rfl,?_⟩)|((with_reducible refine lC (b:= .append) (xs:=#[.tmp 27,.tmp 30]) rfl ?_);at_builtin;refine Kd.rW (Kd.int .i64) (w0:=w) w.heap.size rfl (.tmp 27) (.tmp 30) 79 3 (.int .i64 0) 8 rfl Tryz.underlying79 info3 rfl aG0 aFx u5 o5 (Int.tmod (wrap64 (o8+(wrap64 (o6+o7)))) 10) [.int .i64 (Int.tmod (wrap64 (o8+(wrap64 (o6+o7)))) 10)] (fun _=>True) (fun _=>False) rfl rfl ?aP (fun _ hk=>hk.elim) ?aF ?aO ?aB ?aS ?aL ?_;(case aP=>exact rfl);(case aB=>exact(pkL HB));(case aF=>exact(fun _ _=>trivial));(case aO=>exact(by(with_reducible repeat(first|apply Kd.aQ|apply Kd.aN|apply Kd.aW));exact HO_5.out));(case aS=>exact(dJ (pkL HB)));(case aL=>have:=LMc7.out;omega);intro v112 w8 ho hb hg hat;rw[←D9.out] at ho;have E8:=aA.mk (ho);replace HB:=aA.mk (hb);clear ho hb hg hat))
      go_roundg k1
      case measure=>have:=D7.out;omega
      case rel=>exact⟨(D5),(wrap64 (Int.tdiv (wrap64 (o8+(wrap64 (o6+o7)))) 10)),(wrap64 (l9+1)),aG1,aG1,H',⟨by have:=D7.out;omega⟩,⟨by(with_reducible repeat(first|apply Kd.aQ|apply Kd.aN|apply Kd.aW));exact E8.out⟩,⟨pkL HB⟩⟩
     ·rw[if_neg c7] at H
      exact absurd H aFz
    ·rw[if_neg c4] at H
     have D8:=decide_eq_false c4;clear c4;obtain⟨C9,A9,H⟩:=bi H;try dsimp only at H
     obtain rfl:=Option.some.inj H;obtain⟨y8,y9,F5⟩:=Kd.fA HO_5.out;subst F5
     go_wp2_with(first|((with_reducible refine aC (f:=155) rfl ?_);refine gl_ 35 Tryz.func155 #[.slice y8 o5.length y9] (h:= ?_);(with_reducible refine(aU.calls k1 (fun k_=>some k_=(.slice y8 o5.length y9:Value).ownBlock) (.slice y8 o5.length y9) o5 C9 w _ ?side1 ?side2 A9.out).mono ?_);(case side1=>repeat(first|(with_reducible first|exact HB.out|apply aT|apply aI|apply aJ)|exact HB.out));(case side2=>exact Kd.kE rfl HO_5.out);rintro e G6 ⟨v115,rfl,D6,hb,hkp⟩;refine⟨_,rfl,?_⟩;have F6:=aA.mk (Kd.dK (ok':=fun k_=>True) D6 (fun k_ hk_=>trivial));replace HB:=aA.mk (hb);(try clear hb);(try clear hkp);(try clear D6)))
     go_ret
     exact⟨_,by first|rfl|(simp[dZ,eF] <;> rfl)|(simp only[←hji3];first|rfl|(simp[dZ,eF] <;> rfl))|(simp[*,dZ,eF] <;> rfl),by(with_reducible repeat(first|apply Kd.aQ|apply Kd.aN|apply Kd.aW));exact F6.out,by repeat(first|(with_reducible first|exact HB.out|apply aT|apply aI|apply aJ)|exact HB.out)⟩
   ·subst hmax2_
    by_cases c4:l9<(wrap64 (((l0.length:Int))+1))
    ·rw[if_pos c4] at H
     have D8:=decide_eq_true c4;clear c4;obtain⟨o6,A5,H⟩:=bi H;try dsimp only at H
     obtain⟨o7,A6,H⟩:=bi H;try dsimp only at H
     by_cases c7:o5.length<17592186044416
     ·rw[if_pos c7] at H
      have LMc7:=aA.mk c7;clear c7;obtain⟨D5,o9⟩:∃y_:List Int,y_=(o5++ [Int.tmod (wrap64 (o8+(wrap64 (o6+o7)))) 10]):=⟨_,rfl⟩
      replace H:(gQ.l0 k1 l0 l1 D5 (wrap64 (Int.tdiv (wrap64 (o8+(wrap64 (o6+o7)))) 10)) (wrap64 (l9+1)))=some r:=by first|(rw[o9];with_reducible exact H)|(have H2_:=(Option.bind_some _ _).symm.trans H;rw[o9];with_reducible exact H2_)|(have H2_:=(Option.bind_some _ _).symm.trans H;with_reducible exact H2_)|with_reducible exact H|(rw[o9];exact H)|exact H
      have D9:=aA.mk o9;clear o9;have H':=aA.mk H;clear H
      go_wp2_with(first|((with_reducible refine aC (f:=195) rfl ?_);refine gl_ 21 Tryz.func195 #[.slice A0 l0.length c0,.int .i64 l9] (h:= ?_);(with_reducible refine(iV.calls _ _ l0 l9 o6 _ ?side1 ?side2 A5.out).mono ?_);(case side1=>repeat(first|exact(Kd.nM F7.out HB.out)|(with_reducible refine Kd.gI ?_ _)|(with_reducible refine Kd.gJ ?_ _)|(with_reducible refine Kd.iJ ?_)));(case side2=>exact F8.out);rintro e w' ⟨rfl,⟨nd,rfl⟩⟩;refine⟨_,rfl,?_⟩)|((with_reducible refine aC (f:=195) rfl ?_);refine gl_ 24 Tryz.func195 #[.slice A1 l1.length c1,.int .i64 l9] (h:= ?_);(with_reducible refine(iV.calls _ _ l1 l9 o7 _ ?side1 ?side2 A6.out).mono ?_);(case side1=>repeat(first|exact(Kd.nM F9.out (pkL HB))|(with_reducible refine Kd.gI ?_ _)|(with_reducible refine Kd.gJ ?_ _)|(with_reducible refine Kd.iJ ?_)));(case side2=>exact G5.out);rintro e w' ⟨rfl,⟨nd,rfl⟩⟩;refine⟨_,rfl,?_⟩)|((with_reducible refine lC (b:= .append) (xs:=#[.tmp 27,.tmp 30]) rfl ?_);at_builtin;refine Kd.rW (Kd.int .i64) (w0:=w) w.heap.size rfl (.tmp 27) (.tmp 30) 79 3 (.int .i64 0) 8 rfl Tryz.underlying79 info3 rfl aG0 aFx u5 o5 (Int.tmod (wrap64 (o8+(wrap64 (o6+o7)))) 10) [.int .i64 (Int.tmod (wrap64 (o8+(wrap64 (o6+o7)))) 10)] (fun _=>True) (fun _=>False) rfl rfl ?aP (fun _ hk=>hk.elim) ?aF ?aO ?aB ?aS ?aL ?_;(case aP=>exact rfl);(case aB=>exact(pkL HB));(case aF=>exact(fun _ _=>trivial));(case aO=>exact(by(with_reducible repeat(first|apply Kd.aQ|apply Kd.aN|apply Kd.aW));exact HO_5.out));(case aS=>exact(dJ (pkL HB)));(case aL=>have:=LMc7.out;omega);intro v112 w8 ho hb hg hat;rw[←D9.out] at ho;have E8:=aA.mk (ho);replace HB:=aA.mk (hb);clear ho hb hg hat))
      go_roundg k1
      case measure=>have:=D7.out;omega
      case rel=>exact⟨(D5),(wrap64 (Int.tdiv (wrap64 (o8+(wrap64 (o6+o7)))) 10)),(wrap64 (l9+1)),aG1,aG1,H',⟨by have:=D7.out;omega⟩,⟨by(with_reducible repeat(first|apply Kd.aQ|apply Kd.aN|apply Kd.aW));exact E8.out⟩,⟨pkL HB⟩⟩
     ·rw[if_neg c7] at H
      exact absurd H aFz
    ·rw[if_neg c4] at H
     have D8:=decide_eq_false c4;clear c4;obtain⟨C9,A9,H⟩:=bi H;try dsimp only at H
     obtain rfl:=Option.some.inj H;obtain⟨y8,y9,F5⟩:=Kd.fA HO_5.out;subst F5
     go_wp2_with(first|((with_reducible refine aC (f:=155) rfl ?_);refine gl_ 35 Tryz.func155 #[.slice y8 o5.length y9] (h:= ?_);(with_reducible refine(aU.calls k1 (fun k_=>some k_=(.slice y8 o5.length y9:Value).ownBlock) (.slice y8 o5.length y9) o5 C9 w _ ?side1 ?side2 A9.out).mono ?_);(case side1=>repeat(first|(with_reducible first|exact HB.out|apply aT|apply aI|apply aJ)|exact HB.out));(case side2=>exact Kd.kE rfl HO_5.out);rintro e G6 ⟨v115,rfl,D6,hb,hkp⟩;refine⟨_,rfl,?_⟩;have F6:=aA.mk (Kd.dK (ok':=fun k_=>True) D6 (fun k_ hk_=>trivial));replace HB:=aA.mk (hb);(try clear hb);(try clear hkp);(try clear D6)))
     go_ret
     exact⟨_,by first|rfl|(simp[dZ,eF] <;> rfl)|(simp only[←hji3];first|rfl|(simp[dZ,eF] <;> rfl))|(simp[*,dZ,eF] <;> rfl),by(with_reducible repeat(first|apply Kd.aQ|apply Kd.aN|apply Kd.aW));exact F6.out,by repeat(first|(with_reducible first|exact HB.out|apply aT|apply aI|apply aJ)|exact HB.out)⟩
def fB.l0:Nat→List Int→List Int→List Int→Int→Int→Option (List Int)
 |0,_,_,_,_,_=>none
 |k+1,x0,x1,x5,x6,x7=>if x7<(x0.length:Int) then(if 0≤x7 then((iV.f x1 x7).bind fun t118=>(if(wrap64 ((wrap64 ((rd x0 x7)-t118))-x6))<0 then(if x5.length<17592186044416 then(fB.l0 k x0 x1 (x5++ [wrap64 ((wrap64 ((wrap64 ((rd x0 x7)-t118))-x6))+10)]) 1 (wrap64 (x7+1))) else(none)) else(if x5.length<17592186044416 then(fB.l0 k x0 x1 (x5++ [wrap64 ((wrap64 ((rd x0 x7)-t118))-x6)]) 0 (wrap64 (x7+1))) else(none)))) else(none)) else((aU.f k x5).bind fun t125=>(some t125))
def fB.f(k:Nat)(l0:List Int)(l1:List Int):Option (List Int):=fB.l0 k l0 l1 ([]:List Int) 0 0
theorem fB.calls(k:Nat)(A0:Option Addr)(c0:Nat)(l0:List Int)(A1:Option Addr)(c1:Nat)(l1:List Int)(r:List Int)(w:World)(hr0:Kd.C (Kd.int .i64) w A0 l0.length l0)(hc0:l0.length≤c0)(hr1:Kd.C (Kd.int .i64) w A1 l1.length l1)(hc1:l1.length≤c1)(h:fB.f k l0 l1=some r) :
 Calls Tryz.prog 162 #[.slice A0 l0.length c0,.slice A1 l1.length c1] w fun e w'=>∃v0_:Value,e= .returned (v0_)∧Kd.R (Kd.int .i64) 3 w' w.heap.size (fun _=>True) v0_ r∧Below w.heap.size w w':=by
 have F9:=aA.mk hr0;have H7:=aA.mk hc0;clear hr0 hc0;have o9:=aA.mk hr1;have y8:=aA.mk hc1;clear hr1 hc1;have HB:=aA.mk (Below.refl w.heap.size w);have H:(fB.l0 k l0 l1 ([]:List Int) 0 0)=some r:=h;clear h;have H':=aA.mk H;clear H;go_enter Tryz.func162,Tryz.ntmps162
 go_wp2
 repeat(go_quiet (fail);try go_wp2)
 go_loopg [5,6,7] k (fun kq v5 v6 v7 w'=>∃(o5:List Int) (o7:Int) (l9:Int),v6= .int .i64 o7∧v7= .int .i64 l9∧aA (fB.l0 kq l0 l1 o5 o7 l9=some r)∧aA (kq≤k)∧aA (Kd.R (Kd.int .i64) 3 w' w.heap.size (fun _=>True) v5 o5)∧aA (Below w.heap.size w w'))
 case atStart=>exact⟨(([]:List Int)),(0),(0),aG1,aG1,H',⟨Nat.le_refl _⟩,⟨by first|exact Kd.R_nil _ _ _ _ _|exact Kd.N_nil _ _ _ _ _|exact Kd.V_nil _ _ _ _ _|exact Kd.Q_nil _ _ _ _ _|exact Kd.S_nil _ _ _ _ _⟩,⟨pkL HB⟩⟩
 case round=>
  clear H';obtain⟨o5,o7,l9,rfl,rfl,HA,D7,HO_5,HB⟩:=hrel
  cases gk with
  |zero=>exact absurd HA.out (by simp[fB.l0])
  |succ k1=>
   have H:=HA.out;clear HA;simp only[fB.l0] at H
   by_cases c3:l9<(l0.length:Int)
   ·rw[if_pos c3] at H
    have G9:=decide_eq_true c3;clear c3
    by_cases c4:0≤l9
    ·rw[if_pos c4] at H
     have H8:=decide_eq_true c4;clear c4;obtain⟨o6,A5,H⟩:=bi H;try dsimp only at H
     by_cases c6:(wrap64 ((wrap64 ((rd l0 l9)-o6))-o7))<0
     ·rw[if_pos c6] at H
      have H5:=decide_eq_true c6;clear c6
      by_cases c7:o5.length<17592186044416
      ·rw[if_pos c7] at H
       have LMc7:=aA.mk c7;clear c7;obtain⟨G5,D5⟩:∃y_:List Int,y_=(o5++ [wrap64 ((wrap64 ((wrap64 ((rd l0 l9)-o6))-o7))+10)]):=⟨_,rfl⟩
       replace H:(fB.l0 k1 l0 l1 G5 1 (wrap64 (l9+1)))=some r:=by first|(rw[D5];with_reducible exact H)|(have H2_:=(Option.bind_some _ _).symm.trans H;rw[D5];with_reducible exact H2_)|(have H2_:=(Option.bind_some _ _).symm.trans H;with_reducible exact H2_)|with_reducible exact H|(rw[D5];exact H)|exact H
       have D8:=aA.mk D5;clear D5;have H':=aA.mk H;clear H;have p117:0≤(l9:Int):=of_decide_eq_true asm_;have q117:l9<(l0.length:Int):=of_decide_eq_true asm_;obtain⟨ad117,e117,hx117_0⟩:=Kd.nU F9.out l9 p117 q117
       cases e117
       replace hx117_0:=(HB.out.cell (World.block_lt_of_cell? w _ hx117_0)).trans hx117_0;replace p117:=eq_true p117;replace q117:=eq_true q117
       go_wp2_with(first|(go_at_call 195;(with_reducible refine(iV.calls _ _ l1 l9 o6 _ ?side1 ?side2 A5.out).mono ?_);(case side1=>repeat(first|exact(Kd.nM o9.out HB.out)|(with_reducible refine Kd.gI ?_ _)|(with_reducible refine Kd.gJ ?_ _)|(with_reducible refine Kd.iJ ?_)));(case side2=>exact y8.out);rintro e w' ⟨rfl,⟨nd,rfl⟩⟩;(try first|exact⟨rfl,_,World.drewN_drewN _ _ _⟩|exact⟨rfl,_,Eq.trans (World.drewN_drewN _ _ _) (congrArg (World.drewN _) (Nat.add_assoc _ _ _))⟩))|((with_reducible refine lC (b:= .append) (xs:=#[.tmp 29,.tmp 31]) rfl ?_);at_builtin;refine Kd.rW (Kd.int .i64) (w0:=w) w.heap.size rfl (.tmp 29) (.tmp 31) 79 3 (.int .i64 0) 8 rfl Tryz.underlying79 info3 rfl aG0 aFx u5 o5 (wrap64 ((wrap64 ((wrap64 ((rd l0 l9)-o6))-o7))+10)) [.int .i64 (wrap64 ((wrap64 ((wrap64 ((rd l0 l9)-o6))-o7))+10))] (fun _=>True) (fun _=>False) rfl rfl ?aP (fun _ hk=>hk.elim) ?aF ?aO ?aB ?aS ?aL ?_;(case aP=>exact rfl);(case aB=>exact(pkL HB));(case aF=>exact(fun _ _=>trivial));(case aO=>exact(by(with_reducible repeat(first|apply Kd.aQ|apply Kd.aN|apply Kd.aW));exact HO_5.out));(case aS=>exact(dJ (pkL HB)));(case aL=>have:=LMc7.out;omega);intro v120 w8 ho hb hg hat;rw[←D8.out] at ho;have D9:=aA.mk (ho);replace HB:=aA.mk (hb);clear ho hb hg hat))
       repeat(go_quiet (first|(go_at_call 195;(with_reducible refine(iV.calls _ _ l1 l9 o6 _ ?side1 ?side2 A5.out).mono ?_);(case side1=>repeat(first|exact(Kd.nM o9.out HB.out)|(with_reducible refine Kd.gI ?_ _)|(with_reducible refine Kd.gJ ?_ _)|(with_reducible refine Kd.iJ ?_)));(case side2=>exact y8.out);rintro e w' ⟨rfl,⟨nd,rfl⟩⟩;(try first|exact⟨rfl,_,World.drewN_drewN _ _ _⟩|exact⟨rfl,_,Eq.trans (World.drewN_drewN _ _ _) (congrArg (World.drewN _) (Nat.add_assoc _ _ _))⟩))|((with_reducible refine lC (b:= .append) (xs:=#[.tmp 29,.tmp 31]) rfl ?_);at_builtin;refine Kd.rW (Kd.int .i64) (w0:=w) w.heap.size rfl (.tmp 29) (.tmp 31) 79 3 (.int .i64 0) 8 rfl Tryz.underlying79 info3 rfl aG0 aFx u5 o5 (wrap64 ((wrap64 ((wrap64 ((rd l0 l9)-o6))-o7))+10)) [.int .i64 (wrap64 ((wrap64 ((wrap64 ((rd l0 l9)-o6))-o7))+10))] (fun _=>True) (fun _=>False) rfl rfl ?aP (fun _ hk=>hk.elim) ?aF ?aO ?aB ?aS ?aL ?_;(case aP=>exact rfl);(case aB=>exact(pkL HB));(case aF=>exact(fun _ _=>trivial));(case aO=>exact(by(with_reducible repeat(first|apply Kd.aQ|apply Kd.aN|apply Kd.aW));exact HO_5.out));(case aS=>exact(dJ (pkL HB)));(case aL=>have:=LMc7.out;omega);intro v120 w8 ho hb hg hat;rw[←D8.out] at ho;have D9:=aA.mk (ho);replace HB:=aA.mk (hb);clear ho hb hg hat));try go_wp2_with(first|(go_at_call 195;(with_reducible refine(iV.calls _ _ l1 l9 o6 _ ?side1 ?side2 A5.out).mono ?_);(case side1=>repeat(first|exact(Kd.nM o9.out HB.out)|(with_reducible refine Kd.gI ?_ _)|(with_reducible refine Kd.gJ ?_ _)|(with_reducible refine Kd.iJ ?_)));(case side2=>exact y8.out);rintro e w' ⟨rfl,⟨nd,rfl⟩⟩;(try first|exact⟨rfl,_,World.drewN_drewN _ _ _⟩|exact⟨rfl,_,Eq.trans (World.drewN_drewN _ _ _) (congrArg (World.drewN _) (Nat.add_assoc _ _ _))⟩))|((with_reducible refine lC (b:= .append) (xs:=#[.tmp 29,.tmp 31]) rfl ?_);at_builtin;refine Kd.rW (Kd.int .i64) (w0:=w) w.heap.size rfl (.tmp 29) (.tmp 31) 79 3 (.int .i64 0) 8 rfl Tryz.underlying79 info3 rfl aG0 aFx u5 o5 (wrap64 ((wrap64 ((wrap64 ((rd l0 l9)-o6))-o7))+10)) [.int .i64 (wrap64 ((wrap64 ((wrap64 ((rd l0 l9)-o6))-o7))+10))] (fun _=>True) (fun _=>False) rfl rfl ?aP (fun _ hk=>hk.elim) ?aF ?aO ?aB ?aS ?aL ?_;(case aP=>exact rfl);(case aB=>exact(pkL HB));(case aF=>exact(fun _ _=>trivial));(case aO=>exact(by(with_reducible repeat(first|apply Kd.aQ|apply Kd.aN|apply Kd.aW));exact HO_5.out));(case aS=>exact(dJ (pkL HB)));(case aL=>have:=LMc7.out;omega);intro v120 w8 ho hb hg hat;rw[←D8.out] at ho;have D9:=aA.mk (ho);replace HB:=aA.mk (hb);clear ho hb hg hat)))
       go_roundg k1
       case measure=>have:=D7.out;omega
       case rel=>exact⟨(G5),(1),(wrap64 (l9+1)),aG1,aG1,H',⟨by have:=D7.out;omega⟩,⟨by(with_reducible repeat(first|apply Kd.aQ|apply Kd.aN|apply Kd.aW));exact D9.out⟩,⟨pkL HB⟩⟩
      ·rw[if_neg c7] at H
       exact absurd H aFz
     ·rw[if_neg c6] at H
      have H5:=decide_eq_false c6;clear c6
      by_cases c9:o5.length<17592186044416
      ·rw[if_pos c9] at H
       have LMc9:=aA.mk c9;clear c9;obtain⟨G6,D6⟩:∃y_:List Int,y_=(o5++ [wrap64 ((wrap64 ((rd l0 l9)-o6))-o7)]):=⟨_,rfl⟩
       replace H:(fB.l0 k1 l0 l1 G6 0 (wrap64 (l9+1)))=some r:=by first|(rw[D6];with_reducible exact H)|(have H2_:=(Option.bind_some _ _).symm.trans H;rw[D6];with_reducible exact H2_)|(have H2_:=(Option.bind_some _ _).symm.trans H;with_reducible exact H2_)|with_reducible exact H|(rw[D6];exact H)|exact H
       have E8:=aA.mk D6;clear D6;have H':=aA.mk H;clear H;have p117:0≤(l9:Int):=of_decide_eq_true asm_;have q117:l9<(l0.length:Int):=of_decide_eq_true asm_;obtain⟨ad117,e117,hx117_0⟩:=Kd.nU F9.out l9 p117 q117
       cases e117
       replace hx117_0:=(HB.out.cell (World.block_lt_of_cell? w _ hx117_0)).trans hx117_0;replace p117:=eq_true p117;replace q117:=eq_true q117
       go_wp2_with(first|(go_at_call 195;(with_reducible refine(iV.calls _ _ l1 l9 o6 _ ?side1 ?side2 A5.out).mono ?_);(case side1=>repeat(first|exact(Kd.nM o9.out HB.out)|(with_reducible refine Kd.gI ?_ _)|(with_reducible refine Kd.gJ ?_ _)|(with_reducible refine Kd.iJ ?_)));(case side2=>exact y8.out);rintro e w' ⟨rfl,⟨nd,rfl⟩⟩;(try first|exact⟨rfl,_,World.drewN_drewN _ _ _⟩|exact⟨rfl,_,Eq.trans (World.drewN_drewN _ _ _) (congrArg (World.drewN _) (Nat.add_assoc _ _ _))⟩))|((with_reducible refine lC (b:= .append) (xs:=#[.tmp 29,.tmp 31]) rfl ?_);at_builtin;refine Kd.rW (Kd.int .i64) (w0:=w) w.heap.size rfl (.tmp 29) (.tmp 31) 79 3 (.int .i64 0) 8 rfl Tryz.underlying79 info3 rfl aG0 aFx u5 o5 (wrap64 ((wrap64 ((rd l0 l9)-o6))-o7)) [.int .i64 (wrap64 ((wrap64 ((rd l0 l9)-o6))-o7))] (fun _=>True) (fun _=>False) rfl rfl ?aP (fun _ hk=>hk.elim) ?aF ?aO ?aB ?aS ?aL ?_;(case aP=>exact rfl);(case aB=>exact(pkL HB));(case aF=>exact(fun _ _=>trivial));(case aO=>exact(by(with_reducible repeat(first|apply Kd.aQ|apply Kd.aN|apply Kd.aW));exact HO_5.out));(case aS=>exact(dJ (pkL HB)));(case aL=>have:=LMc9.out;omega);intro v123 G7 ho hb hg hat;rw[←E8.out] at ho;have F5:=aA.mk (ho);replace HB:=aA.mk (hb);clear ho hb hg hat))
       repeat(go_quiet (first|(go_at_call 195;(with_reducible refine(iV.calls _ _ l1 l9 o6 _ ?side1 ?side2 A5.out).mono ?_);(case side1=>repeat(first|exact(Kd.nM o9.out HB.out)|(with_reducible refine Kd.gI ?_ _)|(with_reducible refine Kd.gJ ?_ _)|(with_reducible refine Kd.iJ ?_)));(case side2=>exact y8.out);rintro e w' ⟨rfl,⟨nd,rfl⟩⟩;(try first|exact⟨rfl,_,World.drewN_drewN _ _ _⟩|exact⟨rfl,_,Eq.trans (World.drewN_drewN _ _ _) (congrArg (World.drewN _) (Nat.add_assoc _ _ _))⟩))|((with_reducible refine lC (b:= .append) (xs:=#[.tmp 29,.tmp 31]) rfl ?_);at_builtin;refine Kd.rW (Kd.int .i64) (w0:=w) w.heap.size rfl (.tmp 29) (.tmp 31) 79 3 (.int .i64 0) 8 rfl Tryz.underlying79 info3 rfl aG0 aFx u5 o5 (wrap64 ((wrap64 ((rd l0 l9)-o6))-o7)) [.int .i64 (wrap64 ((wrap64 ((rd l0 l9)-o6))-o7))] (fun _=>True) (fun _=>False) rfl rfl ?aP (fun _ hk=>hk.elim) ?aF ?aO ?aB ?aS ?aL ?_;(case aP=>exact rfl);(case aB=>exact(pkL HB));(case aF=>exact(fun _ _=>trivial));(case aO=>exact(by(with_reducible repeat(first|apply Kd.aQ|apply Kd.aN|apply Kd.aW));exact HO_5.out));(case aS=>exact(dJ (pkL HB)));(case aL=>have:=LMc9.out;omega);intro v123 G7 ho hb hg hat;rw[←E8.out] at ho;have F5:=aA.mk (ho);replace HB:=aA.mk (hb);clear ho hb hg hat));try go_wp2_with(first|(go_at_call 195;(with_reducible refine(iV.calls _ _ l1 l9 o6 _ ?side1 ?side2 A5.out).mono ?_);(case side1=>repeat(first|exact(Kd.nM o9.out HB.out)|(with_reducible refine Kd.gI ?_ _)|(with_reducible refine Kd.gJ ?_ _)|(with_reducible refine Kd.iJ ?_)));(case side2=>exact y8.out);rintro e w' ⟨rfl,⟨nd,rfl⟩⟩;(try first|exact⟨rfl,_,World.drewN_drewN _ _ _⟩|exact⟨rfl,_,Eq.trans (World.drewN_drewN _ _ _) (congrArg (World.drewN _) (Nat.add_assoc _ _ _))⟩))|((with_reducible refine lC (b:= .append) (xs:=#[.tmp 29,.tmp 31]) rfl ?_);at_builtin;refine Kd.rW (Kd.int .i64) (w0:=w) w.heap.size rfl (.tmp 29) (.tmp 31) 79 3 (.int .i64 0) 8 rfl Tryz.underlying79 info3 rfl aG0 aFx u5 o5 (wrap64 ((wrap64 ((rd l0 l9)-o6))-o7)) [.int .i64 (wrap64 ((wrap64 ((rd l0 l9)-o6))-o7))] (fun _=>True) (fun _=>False) rfl rfl ?aP (fun _ hk=>hk.elim) ?aF ?aO ?aB ?aS ?aL ?_;(case aP=>exact rfl);(case aB=>exact(pkL HB));(case aF=>exact(fun _ _=>trivial));(case aO=>exact(by(with_reducible repeat(first|apply Kd.aQ|apply Kd.aN|apply Kd.aW));exact HO_5.out));(case aS=>exact(dJ (pkL HB)));(case aL=>have:=LMc9.out;omega);intro v123 G7 ho hb hg hat;rw[←E8.out] at ho;have F5:=aA.mk (ho);replace HB:=aA.mk (hb);clear ho hb hg hat)))
       go_roundg k1
       case measure=>have:=D7.out;omega
       case rel=>exact⟨(G6),(0),(wrap64 (l9+1)),aG1,aG1,H',⟨by have:=D7.out;omega⟩,⟨by(with_reducible repeat(first|apply Kd.aQ|apply Kd.aN|apply Kd.aW));exact F5.out⟩,⟨pkL HB⟩⟩
      ·rw[if_neg c9] at H
       exact absurd H aFz
    ·rw[if_neg c4] at H
     exact absurd H aFz
   ·rw[if_neg c3] at H
    have G9:=decide_eq_false c3;clear c3;obtain⟨F6,F7,H⟩:=bi H;try dsimp only at H
    obtain rfl:=Option.some.inj H;obtain⟨y9,C9,H6⟩:=Kd.fA HO_5.out;subst H6
    go_wp2_with(first|(go_at_call 155;(with_reducible refine(aU.calls k1 (fun k_=>some k_=(.slice y9 o5.length C9:Value).ownBlock) (.slice y9 o5.length C9) o5 F6 w _ ?side1 ?side2 F7.out).mono ?_);(case side1=>repeat(first|(with_reducible first|exact HB.out|apply aT|apply aI|apply aJ)|exact HB.out));(case side2=>exact Kd.kE rfl HO_5.out);rintro e G8 ⟨v126,rfl,o8,hb,hkp⟩;have F8:=aA.mk (Kd.dK (ok':=fun k_=>True) o8 (fun k_ hk_=>trivial));replace HB:=aA.mk (hb);(try clear hb);(try clear hkp);(try clear o8)))
    repeat(go_quiet (first|(go_at_call 155;(with_reducible refine(aU.calls k1 (fun k_=>some k_=(.slice y9 o5.length C9:Value).ownBlock) (.slice y9 o5.length C9) o5 F6 w _ ?side1 ?side2 F7.out).mono ?_);(case side1=>repeat(first|(with_reducible first|exact HB.out|apply aT|apply aI|apply aJ)|exact HB.out));(case side2=>exact Kd.kE rfl HO_5.out);rintro e G8 ⟨v126,rfl,o8,hb,hkp⟩;have F8:=aA.mk (Kd.dK (ok':=fun k_=>True) o8 (fun k_ hk_=>trivial));replace HB:=aA.mk (hb);(try clear hb);(try clear hkp);(try clear o8)));try go_wp2_with(first|(go_at_call 155;(with_reducible refine(aU.calls k1 (fun k_=>some k_=(.slice y9 o5.length C9:Value).ownBlock) (.slice y9 o5.length C9) o5 F6 w _ ?side1 ?side2 F7.out).mono ?_);(case side1=>repeat(first|(with_reducible first|exact HB.out|apply aT|apply aI|apply aJ)|exact HB.out));(case side2=>exact Kd.kE rfl HO_5.out);rintro e G8 ⟨v126,rfl,o8,hb,hkp⟩;have F8:=aA.mk (Kd.dK (ok':=fun k_=>True) o8 (fun k_ hk_=>trivial));replace HB:=aA.mk (hb);(try clear hb);(try clear hkp);(try clear o8))))
    go_ret
    exact⟨_,by first|rfl|(simp[dZ,eF] <;> rfl)|(simp[*,dZ,eF] <;> rfl),by(with_reducible repeat(first|apply Kd.aQ|apply Kd.aN|apply Kd.aW));exact F8.out,by repeat(first|(with_reducible first|exact HB.out|apply aT|apply aI|apply aJ)|exact HB.out)⟩
mutual
def dU.l0:Nat→List Int→List Int→List Int→Int→Option (List Int)
 |0,_,_,_,_=>none
 |k+1,x0,x1,x5,x6=>if x6<(x0.length:Int) then(dU.l1 k x0 x1 x5 x6 0 0) else((aU.f k x5).bind fun t131=>(some t131))
def dU.l1:Nat→List Int→List Int→List Int→Int→Int→Int→Option (List Int)
 |0,_,_,_,_,_,_=>none
 |k+1,x0,x1,x5,x6,x7,x8=>if x8<(x1.length:Int) then(if 0≤(wrap64 (x6+x8)) then(if(wrap64 (x6+x8))<(x5.length:Int) then(if 0≤x6 then(if x6<(x0.length:Int) then(if 0≤x8 then(dU.l1 k x0 x1 (x5.set ((wrap64 (x6+x8)):Int).toNat (Int.tmod (wrap64 (x7+(wrap64 ((rd x5 (wrap64 (x6+x8)))+(wrap64 ((rd x0 x6)*(rd x1 x8))))))) 10)) x6 (wrap64 (Int.tdiv (wrap64 (x7+(wrap64 ((rd x5 (wrap64 (x6+x8)))+(wrap64 ((rd x0 x6)*(rd x1 x8))))))) 10)) (wrap64 (x8+1))) else(none)) else(none)) else(none)) else(none)) else(none)) else(if 0≤(wrap64 (x6+(x1.length:Int))) then(if(wrap64 (x6+(x1.length:Int)))<(x5.length:Int) then(dU.l0 k x0 x1 (x5.set ((wrap64 (x6+(x1.length:Int))):Int).toNat x7) (wrap64 (x6+1))) else(none)) else(none))
end
def dU.f(k:Nat)(l0:List Int)(l1:List Int):Option (List Int):=if 0≤(wrap64 ((l0.length:Int)+(l1.length:Int))) then(if(wrap64 ((l0.length:Int)+(l1.length:Int)):Int).toNat≤35184372088832 then(dU.l0 k l0 l1 (List.replicate (wrap64 ((l0.length:Int)+(l1.length:Int)):Int).toNat 0) 0) else(none)) else(none)
theorem dU.calls(k:Nat)(A0:Option Addr)(c0:Nat)(l0:List Int)(A1:Option Addr)(c1:Nat)(l1:List Int)(r:List Int)(w:World)(hr0:Kd.C (Kd.int .i64) w A0 l0.length l0)(hc0:l0.length≤c0)(hr1:Kd.C (Kd.int .i64) w A1 l1.length l1)(hc1:l1.length≤c1)(h:dU.f k l0 l1=some r) :
 Calls Tryz.prog 164 #[.slice A0 l0.length c0,.slice A1 l1.length c1] w fun e w'=>∃v0_:Value,e= .returned (v0_)∧Kd.R (Kd.int .i64) 3 w' w.heap.size (fun _=>True) v0_ r∧Below w.heap.size w w':=by
 have J9:=aA.mk hr0;have O3:=aA.mk hc0;clear hr0 hc0;have L6:=aA.mk hr1;have O4:=aA.mk hc1;clear hr1 hc1;have HB:=aA.mk (Below.refl w.heap.size w);have H:(if 0≤(wrap64 ((l0.length:Int)+(l1.length:Int))) then(if(wrap64 ((l0.length:Int)+(l1.length:Int)):Int).toNat≤35184372088832 then(dU.l0 k l0 l1 (List.replicate (wrap64 ((l0.length:Int)+(l1.length:Int)):Int).toNat 0) 0) else(none)) else(none))=some r:=h;clear h;obtain⟨ji3,hji3⟩:∃j_:Int,(wrap64 ((l0.length:Int)+(l1.length:Int)))=j_:=⟨_,rfl⟩
 replace H:(if 0≤(ji3) then(if(ji3:Int).toNat≤35184372088832 then(dU.l0 k l0 l1 (List.replicate (ji3:Int).toNat 0) 0) else(none)) else(none))=some r:=by first|(rw[hji3] at H;exact H)|(simp only[hji3] at H ⊢;exact H)
 have hji3w:(IntKind.i64.wrap ((l0.length:Int)+(l1.length:Int)))=ji3:=(jM _).trans hji3
 by_cases c4:0≤(ji3)
 ·rw[if_pos c4] at H
  have L8:=eq_true c4;have L9:=decide_eq_true c4;clear c4
  by_cases c5:(ji3:Int).toNat≤35184372088832
  ·rw[if_pos c5] at H
   have N7:=eq_true c5;have N8:=decide_eq_true c5;clear c5;obtain⟨I9,D8⟩:∃y_:List Int,y_=(List.replicate (ji3:Int).toNat 0):=⟨_,rfl⟩
   replace H:(dU.l0 k l0 l1 I9 0)=some r:=by first|(rw[D8];with_reducible exact H)|(have H2_:=(Option.bind_some _ _).symm.trans H;rw[D8];with_reducible exact H2_)|(have H2_:=(Option.bind_some _ _).symm.trans H;with_reducible exact H2_)|with_reducible exact H|(rw[D8];exact H)|exact H
   have D5:=aA.mk D8;clear D8;have H':=aA.mk H;clear H;go_enter Tryz.func164,Tryz.ntmps164
   go_wp2_with(first|((with_reducible refine aG (N:=14) rfl ?_);refine Kd.R_make (Kd.int .i64) _ 3 rfl (N:=14) rfl 79 _ _ rfl ji3 rfl rfl Tryz.underlying79 (.int .i64 0) 8 info3 rfl aG0 aFx 0 (ok:=fun _=>True) (okp:=fun _=>True) rfl (fun _ hk=>hk) trivial (of_decide_eq_true asm_) (Nat.le_trans (Nat.mul_le_mul_right _ (of_decide_eq_true asm_:ji3.toNat≤35184372088832)) aFx) (Below.refl _ _) (Nat.le_refl _) ?_;intro v129 w6 o8 hb hg_ hnew_;clear hg_ hnew_;(first|rw[←D5.out] at o8|(simp only[Int.reduceToNat] at o8;rw[←D5.out] at o8));have H7:=aA.mk (Kd.gU o8 (dJ (pkL HB)));replace HB:=pkB HB hb;clear hb o8))
   repeat(go_quiet (first|((with_reducible refine aG (N:=14) rfl ?_);refine Kd.R_make (Kd.int .i64) _ 3 rfl (N:=14) rfl 79 _ _ rfl ji3 rfl rfl Tryz.underlying79 (.int .i64 0) 8 info3 rfl aG0 aFx 0 (ok:=fun _=>True) (okp:=fun _=>True) rfl (fun _ hk=>hk) trivial (of_decide_eq_true asm_) (Nat.le_trans (Nat.mul_le_mul_right _ (of_decide_eq_true asm_:ji3.toNat≤35184372088832)) aFx) (Below.refl _ _) (Nat.le_refl _) ?_;intro v129 w6 o8 hb hg_ hnew_;clear hg_ hnew_;(first|rw[←D5.out] at o8|(simp only[Int.reduceToNat] at o8;rw[←D5.out] at o8));have H7:=aA.mk (Kd.gU o8 (dJ (pkL HB)));replace HB:=pkB HB hb;clear hb o8));try go_wp2_with(first|((with_reducible refine aG (N:=14) rfl ?_);refine Kd.R_make (Kd.int .i64) _ 3 rfl (N:=14) rfl 79 _ _ rfl ji3 rfl rfl Tryz.underlying79 (.int .i64 0) 8 info3 rfl aG0 aFx 0 (ok:=fun _=>True) (okp:=fun _=>True) rfl (fun _ hk=>hk) trivial (of_decide_eq_true asm_) (Nat.le_trans (Nat.mul_le_mul_right _ (of_decide_eq_true asm_:ji3.toNat≤35184372088832)) aFx) (Below.refl _ _) (Nat.le_refl _) ?_;intro v129 w6 o8 hb hg_ hnew_;clear hg_ hnew_;(first|rw[←D5.out] at o8|(simp only[Int.reduceToNat] at o8;rw[←D5.out] at o8));have H7:=aA.mk (Kd.gU o8 (dJ (pkL HB)));replace HB:=pkB HB hb;clear hb o8)))
   go_loopg [6] k (fun kq v6 w'=>∃(o9:List Int) (l9:Int),v6= .int .i64 l9∧aA (dU.l0 kq l0 l1 o9 l9=some r)∧aA (kq≤k)∧aA (Kd.R (Kd.int .i64) 3 w' w.heap.size (fun _=>True) v129 o9)∧aA (Below w.heap.size w w'))
   case atStart=>exact⟨(I9),(0),aG1,H',⟨Nat.le_refl _⟩,⟨by(with_reducible repeat(first|apply Kd.aQ|apply Kd.aN|apply Kd.aW));exact H7.out⟩,⟨pkL HB⟩⟩
   case round=>
    clear H' L8 L9 N7 N8;obtain⟨o9,l9,rfl,HA,F7,HO_5,HB⟩:=hrel
    cases gk with
    |zero=>exact absurd HA.out (by simp[dU.l0])
    |succ k1=>
     have H:=HA.out;clear HA;simp only[dU.l0] at H
     by_cases c8:l9<(l0.length:Int)
     ·rw[if_pos c8] at H
      have J3:=decide_eq_true c8;clear c8;have H':=aA.mk H;clear H;go_wp2
      repeat(go_quiet (fail);try go_wp2)
      go_loopg [7,8] k1 (fun kq v7 v8 w'=>∃(o5:List Int) (o7:Int) (o6:Int),v7= .int .i64 o7∧v8= .int .i64 o6∧aA (dU.l1 kq l0 l1 o5 l9 o7 o6=some r)∧aA (kq≤k1)∧aA (Kd.R (Kd.int .i64) 3 w' w.heap.size (fun _=>True) v129 o5)∧aA (Below w.heap.size w w'))
      case atStart=>exact⟨(o9),(0),(0),aG1,aG1,H',⟨Nat.le_refl _⟩,⟨by(with_reducible repeat(first|apply Kd.aQ|apply Kd.aN|apply Kd.aW));exact HO_5.out⟩,⟨pkL HB⟩⟩
      case round=>
       clear H' J3;obtain⟨o5,o7,o6,rfl,rfl,HA,F8,HO_5,HB⟩:=hrel
       cases gk with
       |zero=>exact absurd HA.out (by simp[dU.l1])
       |succ k2=>
        have H:=HA.out;clear HA;simp only[dU.l1] at H
        by_cases c9:o6<(l1.length:Int)
        ·rw[if_pos c9] at H
         have N9:=decide_eq_true c9;clear c9;obtain⟨ji10,hji10⟩:∃j_:Int,(wrap64 (l9+o6))=j_:=⟨_,rfl⟩
         replace H:(if 0≤(ji10) then(if(ji10)<(o5.length:Int) then(if 0≤l9 then(if l9<(l0.length:Int) then(if 0≤o6 then(dU.l1 k2 l0 l1 (o5.set ((ji10):Int).toNat (Int.tmod (wrap64 (o7+(wrap64 ((rd o5 (ji10))+(wrap64 ((rd l0 l9)*(rd l1 o6))))))) 10)) l9 (wrap64 (Int.tdiv (wrap64 (o7+(wrap64 ((rd o5 (ji10))+(wrap64 ((rd l0 l9)*(rd l1 o6))))))) 10)) (wrap64 (o6+1))) else(none)) else(none)) else(none)) else(none)) else(none))=some r:=by first|(rw[hji10] at H;exact H)|(simp only[hji10] at H ⊢;exact H)
         have hji10w:(IntKind.i64.wrap (l9+o6))=ji10:=(jM _).trans hji10
         by_cases F9:0≤(ji10)
         ·rw[if_pos F9] at H
          have O5:=decide_eq_true F9;clear F9
          by_cases G5:(ji10)<(o5.length:Int)
          ·rw[if_pos G5] at H
           have O6:=decide_eq_true G5;clear G5
           by_cases G6:0≤l9
           ·rw[if_pos G6] at H
            have O7:=decide_eq_true G6;clear G6
            by_cases G7:l9<(l0.length:Int)
            ·rw[if_pos G7] at H
             have O8:=decide_eq_true G7;clear G7
             by_cases G8:0≤o6
             ·rw[if_pos G8] at H
              have O9:=decide_eq_true G8;clear G8;obtain⟨D9,E8⟩:∃y_:List Int,y_=(o5.set ((ji10):Int).toNat (Int.tmod (wrap64 (o7+(wrap64 ((rd o5 (ji10))+(wrap64 ((rd l0 l9)*(rd l1 o6))))))) 10)):=⟨_,rfl⟩
              replace H:(dU.l1 k2 l0 l1 D9 l9 (wrap64 (Int.tdiv (wrap64 (o7+(wrap64 ((rd o5 (ji10))+(wrap64 ((rd l0 l9)*(rd l1 o6))))))) 10)) (wrap64 (o6+1)))=some r:=by first|(rw[E8];with_reducible exact H)|(have H2_:=(Option.bind_some _ _).symm.trans H;rw[E8];with_reducible exact H2_)|(have H2_:=(Option.bind_some _ _).symm.trans H;with_reducible exact H2_)|with_reducible exact H|(rw[E8];exact H)|exact H
              have G9:=aA.mk E8;clear E8;have H':=aA.mk H;clear H;obtain⟨P7,H8,O0⟩:=Kd.fA HO_5.out;subst O0;have p134:0≤((ji10):Int):=of_decide_eq_true asm_;have q134:(ji10)<(o5.length:Int):=of_decide_eq_true asm_;obtain⟨ad134,e134,hx134_0⟩:=Kd.nU (Kd.dB HO_5.out).2.2 (ji10) p134 q134
              cases e134
              replace p134:=eq_true p134;replace q134:=eq_true q134;have p135:0≤(l9:Int):=of_decide_eq_true asm_;have q135:l9<(l0.length:Int):=of_decide_eq_true asm_;obtain⟨ad135,e135,hx135_0⟩:=Kd.nU J9.out l9 p135 q135
              cases e135
              replace hx135_0:=(HB.out.cell (World.block_lt_of_cell? w _ hx135_0)).trans hx135_0;replace p135:=eq_true p135;replace q135:=eq_true q135;have p136:0≤(o6:Int):=of_decide_eq_true asm_;have q136:o6<(l1.length:Int):=of_decide_eq_true asm_;obtain⟨ad136,e136,hx136_0⟩:=Kd.nU L6.out o6 p136 q136
              cases e136
              replace hx136_0:=(HB.out.cell (World.block_lt_of_cell? w _ hx136_0)).trans hx136_0;replace p136:=eq_true p136;replace q136:=eq_true q136;have p16:0≤((ji10):Int):=of_decide_eq_true asm_;have q16:((ji10):Int)<((o5.length:Int):Int):=of_decide_eq_true asm_;obtain⟨go16,P8,J4,J5,gl16,cl16,HG16⟩:=Kd.R_form HO_5.out aFx
              (first|cases J4|(injection J4 with ea_ en_ ec_;(first|subst ea_|(injection ea_ with ea_;subst ea_));subst ec_;clear en_))
              have GB16:=aA.mk J5;have GG16:=aA.mk HG16;clear J5 gl16 HG16
              (first|simp only[add_plain] at hx134_0|skip)
              obtain⟨hx16_0,hf16_0⟩:=Kd.R_celln 0 HO_5.out ((ji10):Int) p16 q16;replace p16:=eq_true p16;replace q16:=eq_true q16;have HP18:=Kd.aA2 HO_5.out ((ji10):Int) (Int.tmod (wrap64 (o7+(wrap64 ((rd o5 (ji10))+(wrap64 ((rd l0 l9)*(rd l1 o6))))))) 10)
              go_wp2_with(first|((with_reducible refine vZ (t:=3) (p:=51) rfl ?_);(try(rw[jS wr];generalize hq_:World.drewN wr _=wr;have n0_:=aA.mk (Kd.R_at hq_ HO_5.out);have n1_:=aA.mk (aAc hq_ HB.out);clear hq_ HO_5 HB;have HO_5:=n0_;have HB:=n1_;clear n0_ n1_;(try(have HP18:=Kd.aA2 HO_5.out ((ji10):Int) (Int.tmod (wrap64 (o7+(wrap64 ((rd o5 (ji10))+(wrap64 ((rd l0 l9)*(rd l1 o6))))))) 10)))));refine uG (t:=3) (p:=51) (v:= ?vo_w19) (w1:=(wr.setCell ⟨go16,((ji10):Int).toNat,none⟩ (.int .i64 (Int.tmod (wrap64 (o7+(wrap64 ((rd o5 (ji10))+(wrap64 ((rd l0 l9)*(rd l1 o6))))))) 10)))) ?hg ?ho ?hn ?hr ?_;(case ho=>rfl);(case hg=>rfl);(case hn=>rfl);(case hr=>first|(go_simp;done)|(go_simp;rfl));intro y8 hw;have hg:wr.grownBy y8 (some go16):=(by rw[hw];exact HP18.2);have hp_:Kd.R (Kd.int .i64) 3 y8 w.heap.size (fun _=>True) (.slice (some ⟨go16,0,none⟩) o5.length H8) D9:=(by rw[hw,G9.out];exact HP18.1);clear HP18;replace HO_5:=aA.mk (hp_);replace HB:=aA.mk ((by rw[hw];exact nY (HB.out) GB16.out:Below w.heap.size w y8));clear hg hw hp_))
              repeat(go_quiet (first|((with_reducible refine vZ (t:=3) (p:=51) rfl ?_);(try(rw[jS wr];generalize hq_:World.drewN wr _=wr;have n0_:=aA.mk (Kd.R_at hq_ HO_5.out);have n1_:=aA.mk (aAc hq_ HB.out);clear hq_ HO_5 HB;have HO_5:=n0_;have HB:=n1_;clear n0_ n1_;(try(have HP18:=Kd.aA2 HO_5.out ((ji10):Int) (Int.tmod (wrap64 (o7+(wrap64 ((rd o5 (ji10))+(wrap64 ((rd l0 l9)*(rd l1 o6))))))) 10)))));refine uG (t:=3) (p:=51) (v:= ?vo_w19) (w1:=(wr.setCell ⟨go16,((ji10):Int).toNat,none⟩ (.int .i64 (Int.tmod (wrap64 (o7+(wrap64 ((rd o5 (ji10))+(wrap64 ((rd l0 l9)*(rd l1 o6))))))) 10)))) ?hg ?ho ?hn ?hr ?_;(case ho=>rfl);(case hg=>rfl);(case hn=>rfl);(case hr=>first|(go_simp;done)|(go_simp;rfl));intro y8 hw;have hg:wr.grownBy y8 (some go16):=(by rw[hw];exact HP18.2);have hp_:Kd.R (Kd.int .i64) 3 y8 w.heap.size (fun _=>True) (.slice (some ⟨go16,0,none⟩) o5.length H8) D9:=(by rw[hw,G9.out];exact HP18.1);clear HP18;have n0_:=aA.mk (hp_);have n1_:=aA.mk ((by rw[hw];exact nY (HB.out) GB16.out:Below w.heap.size w y8));clear HO_5;clear HB;have HO_5:=n0_;have HB:=n1_;clear n0_ n1_;clear hg hw hp_));try go_wp2_with(first|((with_reducible refine vZ (t:=3) (p:=51) rfl ?_);(try(rw[jS wr];generalize hq_:World.drewN wr _=wr;have n0_:=aA.mk (Kd.R_at hq_ HO_5.out);have n1_:=aA.mk (aAc hq_ HB.out);clear hq_ HO_5 HB;have HO_5:=n0_;have HB:=n1_;clear n0_ n1_;(try(have HP18:=Kd.aA2 HO_5.out ((ji10):Int) (Int.tmod (wrap64 (o7+(wrap64 ((rd o5 (ji10))+(wrap64 ((rd l0 l9)*(rd l1 o6))))))) 10)))));refine uG (t:=3) (p:=51) (v:= ?vo_w19) (w1:=(wr.setCell ⟨go16,((ji10):Int).toNat,none⟩ (.int .i64 (Int.tmod (wrap64 (o7+(wrap64 ((rd o5 (ji10))+(wrap64 ((rd l0 l9)*(rd l1 o6))))))) 10)))) ?hg ?ho ?hn ?hr ?_;(case ho=>rfl);(case hg=>rfl);(case hn=>rfl);(case hr=>first|(go_simp;done)|(go_simp;rfl));intro y8 hw;have hg:wr.grownBy y8 (some go16):=(by rw[hw];exact HP18.2);have hp_:Kd.R (Kd.int .i64) 3 y8 w.heap.size (fun _=>True) (.slice (some ⟨go16,0,none⟩) o5.length H8) D9:=(by rw[hw,G9.out];exact HP18.1);clear HP18;have n0_:=aA.mk (hp_);have n1_:=aA.mk ((by rw[hw];exact nY (HB.out) GB16.out:Below w.heap.size w y8));clear HO_5;clear HB;have HO_5:=n0_;have HB:=n1_;clear n0_ n1_;clear hg hw hp_)))
              go_roundg k2
              case measure=>have:=F7.out;have:=F8.out;omega
              case rel=>exact⟨(D9),(wrap64 (Int.tdiv (wrap64 (o7+(wrap64 ((rd o5 (ji10))+(wrap64 ((rd l0 l9)*(rd l1 o6))))))) 10)),(wrap64 (o6+1)),(by first|rfl|(simp;done)|(simp only[←hji10] <;> (first|rfl|simp))|(simp[*];done)),aG1,H',⟨by have:=F7.out;have:=F8.out;omega⟩,⟨by first|(rw[G9.out];exact(Kd.aA2 (Kd.R_at rfl HO_5.out) ((ji10):Int) (Int.tmod (wrap64 (o7+(wrap64 ((rd o5 (ji10))+(wrap64 ((rd l0 l9)*(rd l1 o6))))))) 10)).1)|((with_reducible repeat(first|apply Kd.aQ|apply Kd.aN|apply Kd.aW));exact HO_5.out)⟩,⟨by first|(exact nY (aAc rfl HB.out) GB16.out)|(repeat(first|(with_reducible first|exact HB.out|apply aT|apply aI|apply aJ)|exact HB.out))⟩⟩
             ·rw[if_neg G8] at H
              exact absurd H aFz
            ·rw[if_neg G7] at H
             exact absurd H aFz
           ·rw[if_neg G6] at H
            exact absurd H aFz
          ·rw[if_neg G5] at H
           exact absurd H aFz
         ·rw[if_neg F9] at H
          exact absurd H aFz
        ·rw[if_neg c9] at H
         have N9:=decide_eq_false c9;clear c9;obtain⟨ji20,hji20⟩:∃j_:Int,(wrap64 (l9+(l1.length:Int)))=j_:=⟨_,rfl⟩
         replace H:(if 0≤(ji20) then(if(ji20)<(o5.length:Int) then(dU.l0 k2 l0 l1 (o5.set ((ji20):Int).toNat o7) (wrap64 (l9+1))) else(none)) else(none))=some r:=by first|(rw[hji20] at H;exact H)|(simp only[hji20] at H ⊢;exact H)
         have hji20w:(IntKind.i64.wrap (l9+(l1.length:Int)))=ji20:=(jM _).trans hji20
         by_cases H5:0≤(ji20)
         ·rw[if_pos H5] at H
          have P9:=decide_eq_true H5;clear H5
          by_cases H6:(ji20)<(o5.length:Int)
          ·rw[if_pos H6] at H
           have Q3:=decide_eq_true H6;clear H6;obtain⟨F5,F6⟩:∃y_:List Int,y_=(o5.set ((ji20):Int).toNat o7):=⟨_,rfl⟩
           replace H:(dU.l0 k2 l0 l1 F5 (wrap64 (l9+1)))=some r:=by first|(rw[F6];with_reducible exact H)|(have H2_:=(Option.bind_some _ _).symm.trans H;rw[F6];with_reducible exact H2_)|(have H2_:=(Option.bind_some _ _).symm.trans H;with_reducible exact H2_)|with_reducible exact H|(rw[F6];exact H)|exact H
           have H9:=aA.mk F6;clear F6;have H':=aA.mk H;clear H;have p23:0≤((ji20):Int):=of_decide_eq_true asm_;have q23:((ji20):Int)<((o5.length:Int):Int):=of_decide_eq_true asm_;obtain⟨go23,I4,J6,J7,gl23,cl23,HG23⟩:=Kd.R_form HO_5.out aFx
           (first|cases J6|(injection J6 with ea_ en_ ec_;(first|subst ea_|(injection ea_ with ea_;subst ea_));subst ec_;clear en_))
           have GB23:=aA.mk J7;have GG23:=aA.mk HG23;clear J7 gl23 HG23;obtain⟨hx23_0,hf23_0⟩:=Kd.R_celln 0 HO_5.out ((ji20):Int) p23 q23;replace p23:=eq_true p23;replace q23:=eq_true q23;have HP24:=Kd.aA2 HO_5.out ((ji20):Int) o7
           go_wp2_with(first|((with_reducible refine vZ (t:=3) (p:=60) rfl ?_);(try(rw[jS wr];generalize hq_:World.drewN wr _=wr;have n0_:=aA.mk (Kd.R_at hq_ HO_5.out);have n1_:=aA.mk (aAc hq_ HB.out);clear hq_ HO_5 HB;have HO_5:=n0_;have HB:=n1_;clear n0_ n1_;(try(have HP24:=Kd.aA2 HO_5.out ((ji20):Int) o7))));refine uG (t:=3) (p:=60) (v:= ?vo_w25) (w1:=(wr.setCell ⟨go23,((ji20):Int).toNat,none⟩ (.int .i64 o7))) ?hg ?ho ?hn ?hr ?_;(case ho=>rfl);(case hg=>rfl);(case hn=>rfl);(case hr=>first|(go_simp;done)|(go_simp;rfl));intro y9 hw;have hg:wr.grownBy y9 (some go23):=(by rw[hw];exact HP24.2);have hp_:Kd.R (Kd.int .i64) 3 y9 w.heap.size (fun _=>True) (.slice (some ⟨go23,0,none⟩) o5.length I4) F5:=(by rw[hw,H9.out];exact HP24.1);clear HP24;replace HO_5:=aA.mk (hp_);replace HB:=aA.mk ((by rw[hw];exact nY (HB.out) GB23.out:Below w.heap.size w y9));clear hg hw hp_))
           repeat(go_quiet (first|((with_reducible refine vZ (t:=3) (p:=60) rfl ?_);(try(rw[jS wr];generalize hq_:World.drewN wr _=wr;have n0_:=aA.mk (Kd.R_at hq_ HO_5.out);have n1_:=aA.mk (aAc hq_ HB.out);clear hq_ HO_5 HB;have HO_5:=n0_;have HB:=n1_;clear n0_ n1_;(try(have HP24:=Kd.aA2 HO_5.out ((ji20):Int) o7))));refine uG (t:=3) (p:=60) (v:= ?vo_w25) (w1:=(wr.setCell ⟨go23,((ji20):Int).toNat,none⟩ (.int .i64 o7))) ?hg ?ho ?hn ?hr ?_;(case ho=>rfl);(case hg=>rfl);(case hn=>rfl);(case hr=>first|(go_simp;done)|(go_simp;rfl));intro y9 hw;have hg:wr.grownBy y9 (some go23):=(by rw[hw];exact HP24.2);have hp_:Kd.R (Kd.int .i64) 3 y9 w.heap.size (fun _=>True) (.slice (some ⟨go23,0,none⟩) o5.length I4) F5:=(by rw[hw,H9.out];exact HP24.1);clear HP24;have n0_:=aA.mk (hp_);have n1_:=aA.mk ((by rw[hw];exact nY (HB.out) GB23.out:Below w.heap.size w y9));clear HO_5;clear HB;have HO_5:=n0_;have HB:=n1_;clear n0_ n1_;clear hg hw hp_));try go_wp2_with(first|((with_reducible refine vZ (t:=3) (p:=60) rfl ?_);(try(rw[jS wr];generalize hq_:World.drewN wr _=wr;have n0_:=aA.mk (Kd.R_at hq_ HO_5.out);have n1_:=aA.mk (aAc hq_ HB.out);clear hq_ HO_5 HB;have HO_5:=n0_;have HB:=n1_;clear n0_ n1_;(try(have HP24:=Kd.aA2 HO_5.out ((ji20):Int) o7))));refine uG (t:=3) (p:=60) (v:= ?vo_w25) (w1:=(wr.setCell ⟨go23,((ji20):Int).toNat,none⟩ (.int .i64 o7))) ?hg ?ho ?hn ?hr ?_;(case ho=>rfl);(case hg=>rfl);(case hn=>rfl);(case hr=>first|(go_simp;done)|(go_simp;rfl));intro y9 hw;have hg:wr.grownBy y9 (some go23):=(by rw[hw];exact HP24.2);have hp_:Kd.R (Kd.int .i64) 3 y9 w.heap.size (fun _=>True) (.slice (some ⟨go23,0,none⟩) o5.length I4) F5:=(by rw[hw,H9.out];exact HP24.1);clear HP24;have n0_:=aA.mk (hp_);have n1_:=aA.mk ((by rw[hw];exact nY (HB.out) GB23.out:Below w.heap.size w y9));clear HO_5;clear HB;have HO_5:=n0_;have HB:=n1_;clear n0_ n1_;clear hg hw hp_)))
           go_roundg k2
           case measure=>have:=F7.out;have:=F8.out;omega
           case rel=>exact⟨(F5),(wrap64 (l9+1)),aG1,H',⟨by have:=F7.out;have:=F8.out;omega⟩,⟨by(with_reducible repeat(first|apply Kd.aQ|apply Kd.aN|apply Kd.aW));exact HO_5.out⟩,⟨pkL HB⟩⟩
          ·rw[if_neg H6] at H
           exact absurd H aFz
         ·rw[if_neg H5] at H
          exact absurd H aFz
     ·rw[if_neg c8] at H
      have J3:=decide_eq_false c8;clear c8;obtain⟨I5,I7,H⟩:=bi H;try dsimp only at H
      obtain rfl:=Option.some.inj H;obtain⟨D6,D7,O1⟩:=Kd.fA HO_5.out;subst O1
      go_wp2_with(first|(go_at_call 155;(with_reducible refine(aU.calls k1 (fun k_=>some k_=(.slice D6 o9.length D7:Value).ownBlock) (.slice D6 o9.length D7) o9 I5 w _ ?side1 ?side2 I7.out).mono ?_);(case side1=>repeat(first|(with_reducible first|exact HB.out|apply aT|apply aI|apply aJ)|exact HB.out));(case side2=>exact Kd.kE rfl HO_5.out);rintro e J8 ⟨v132,rfl,C9,hb,hkp⟩;have I8:=aA.mk (Kd.dK (ok':=fun k_=>True) C9 (fun k_ hk_=>trivial));replace HB:=aA.mk (hb);(try clear hb);(try clear hkp);(try clear C9)))
      repeat(go_quiet (first|(go_at_call 155;(with_reducible refine(aU.calls k1 (fun k_=>some k_=(.slice D6 o9.length D7:Value).ownBlock) (.slice D6 o9.length D7) o9 I5 w _ ?side1 ?side2 I7.out).mono ?_);(case side1=>repeat(first|(with_reducible first|exact HB.out|apply aT|apply aI|apply aJ)|exact HB.out));(case side2=>exact Kd.kE rfl HO_5.out);rintro e J8 ⟨v132,rfl,C9,hb,hkp⟩;have I8:=aA.mk (Kd.dK (ok':=fun k_=>True) C9 (fun k_ hk_=>trivial));replace HB:=aA.mk (hb);(try clear hb);(try clear hkp);(try clear C9)));try go_wp2_with(first|(go_at_call 155;(with_reducible refine(aU.calls k1 (fun k_=>some k_=(.slice D6 o9.length D7:Value).ownBlock) (.slice D6 o9.length D7) o9 I5 w _ ?side1 ?side2 I7.out).mono ?_);(case side1=>repeat(first|(with_reducible first|exact HB.out|apply aT|apply aI|apply aJ)|exact HB.out));(case side2=>exact Kd.kE rfl HO_5.out);rintro e J8 ⟨v132,rfl,C9,hb,hkp⟩;have I8:=aA.mk (Kd.dK (ok':=fun k_=>True) C9 (fun k_ hk_=>trivial));replace HB:=aA.mk (hb);(try clear hb);(try clear hkp);(try clear C9))))
      go_ret
      exact⟨_,by first|rfl|(simp[dZ,eF] <;> rfl)|(simp only[←hji3];first|rfl|(simp[dZ,eF] <;> rfl))|(simp[*,dZ,eF] <;> rfl),by(with_reducible repeat(first|apply Kd.aQ|apply Kd.aN|apply Kd.aW));exact I8.out,by repeat(first|(with_reducible first|exact HB.out|apply aT|apply aI|apply aJ)|exact HB.out)⟩
  ·rw[if_neg c5] at H
   exact absurd H aFz
 ·rw[if_neg c4] at H
  exact absurd H aFz
end Go.Proofs.YtignanmmgaldeaaGreatDoor.PRefA
end
section
set_option linter.unusedVariables false
set_option linter.unusedSimpArgs false
set_option maxHeartbeats 8000000
set_option maxRecDepth 100000
namespace Go.Proofs.YtignanmmgaldeaaGreatDoor.PRefA
open Go.RowKit Go.Proofs.YtignanmmgaldeaaGreatDoorW.PrintWords Go.Proofs.YtignanmmgaldeaaGreatDoorW.PrintLast Go.Proofs.YtignanmmgaldeaaGreatDoorW.PrintMore
attribute [local go_sem] dQ dR eH eP
def dP.l0:Nat→List Int→List Int→Int→Option (Int)
 |0,_,_,_=>none
 |k+1,x0,x1,x5=>if x5≥0 then(if 0≤x5 then(if x5<(x0.length:Int) then(if x5<(x1.length:Int) then(if(rd x0 x5)=(rd x1 x5) then(dP.l0 k x0 x1 (wrap64 (x5-1))) else(if(rd x0 x5)<(rd x1 x5) then(some (-1)) else(some 1))) else(none)) else(none)) else(none)) else(some 0)
def dP.f(k:Nat)(l0:List Int)(l1:List Int):Option (Int):=if(l0.length:Int)=(l1.length:Int) then(dP.l0 k l0 l1 (wrap64 ((l0.length:Int)-1))) else(if(l0.length:Int)<(l1.length:Int) then(some (-1)) else(some 1))
theorem dP.calls(k:Nat)(A0:Option Addr)(c0:Nat)(l0:List Int)(A1:Option Addr)(c1:Nat)(l1:List Int)(r:Int)(w:World)(hr0:Kd.C (Kd.int .i64) w A0 l0.length l0)(hc0:l0.length≤c0)(hr1:Kd.C (Kd.int .i64) w A1 l1.length l1)(hc1:l1.length≤c1)(h:dP.f k l0 l1=some r) :
 Calls Tryz.prog 161 #[.slice A0 l0.length c0,.slice A1 l1.length c1] w fun e w'=>e= .returned (.int .i64 r)∧eQ w w':=by
 have o6:=aA.mk hr0;have E8:=aA.mk hc0;clear hr0 hc0;have o7:=aA.mk hr1;have F5:=aA.mk hc1;clear hr1 hc1;have H:(if(l0.length:Int)=(l1.length:Int) then(dP.l0 k l0 l1 (wrap64 ((l0.length:Int)-1))) else(if(l0.length:Int)<(l1.length:Int) then(some (-1)) else(some 1)))=some r:=h;clear h
 by_cases c3:(l0.length:Int)=(l1.length:Int)
 ·rw[if_pos c3] at H
  obtain⟨o8,o9⟩:=bT c3;have y8:(l0.length==l1.length)=true:=by first|simpa using c3|(simp at c3 ⊢;omega)
  clear c3;have H':=aA.mk H;clear H;go_enter Tryz.func161,Tryz.ntmps161
  go_wp2
  repeat(go_quiet (fail);try go_wp2)
  go_loopg [5] k (fun kq v5 w'=>∃(l9:Int),v5= .int .i64 l9∧aA (dP.l0 kq l0 l1 l9=some r)∧aA (kq≤k)∧eQ w w')
  case atStart=>exact⟨(wrap64 ((l0.length:Int)-1)),aG1,H',⟨Nat.le_refl _⟩,by repeat(first|exact eQ.refl _|apply eQ.step)⟩
  case round=>
   clear H' o8 o9 y8;obtain⟨l9,rfl,HA,y9,⟨m1,rfl⟩⟩:=hrel
   cases gk with
   |zero=>exact absurd HA.out (by simp[dP.l0])
   |succ k1=>
    have H:=HA.out;clear HA;simp only[dP.l0] at H
    by_cases c4:l9≥0
    ·rw[if_pos c4] at H
     have C9:=decide_eq_true c4;clear c4
     by_cases c5:0≤l9
     ·rw[if_pos c5] at H
      have F6:=decide_eq_true c5;clear c5
      by_cases c6:l9<(l0.length:Int)
      ·rw[if_pos c6] at H
       have F7:=decide_eq_true c6;clear c6
       by_cases c7:l9<(l1.length:Int)
       ·rw[if_pos c7] at H
        have F8:=decide_eq_true c7;clear c7
        by_cases c8:(rd l0 l9)=(rd l1 l9)
        ·rw[if_pos c8] at H
         obtain⟨D5,D6⟩:=bT c8;clear c8;have H':=aA.mk H;clear H;have p139:0≤(l9:Int):=of_decide_eq_true asm_;have q139:l9<(l0.length:Int):=of_decide_eq_true asm_;obtain⟨ad139,e139,hx139_0⟩:=Kd.nU o6.out l9 p139 q139
         cases e139
         replace p139:=eq_true p139;replace q139:=eq_true q139;have p140:0≤(l9:Int):=of_decide_eq_true asm_;have q140:l9<(l1.length:Int):=of_decide_eq_true asm_;obtain⟨ad140,e140,hx140_0⟩:=Kd.nU o7.out l9 p140 q140
         cases e140
         replace p140:=eq_true p140;replace q140:=eq_true q140;go_wp2
         repeat(go_quiet (fail);try go_wp2)
         go_roundg k1
         case measure=>have:=y9.out;omega
         case rel=>exact⟨(wrap64 (l9-1)),aG1,H',⟨by have:=y9.out;omega⟩,by repeat(first|exact eQ.refl _|apply eQ.step)⟩
        ·rw[if_neg c8] at H
         obtain⟨D5,D6⟩:=bF c8
         by_cases c9:(rd l0 l9)<(rd l1 l9)
         ·rw[if_pos c9] at H
          have D7:=decide_eq_true c9;clear c9;obtain rfl:=Option.some.inj H;have p139:0≤(l9:Int):=of_decide_eq_true asm_;have q139:l9<(l0.length:Int):=of_decide_eq_true asm_;obtain⟨ad139,e139,hx139_0⟩:=Kd.nU o6.out l9 p139 q139
          cases e139
          replace p139:=eq_true p139;replace q139:=eq_true q139;have p140:0≤(l9:Int):=of_decide_eq_true asm_;have q140:l9<(l1.length:Int):=of_decide_eq_true asm_;obtain⟨ad140,e140,hx140_0⟩:=Kd.nU o7.out l9 p140 q140
          cases e140
          replace p140:=eq_true p140;replace q140:=eq_true q140;have p141:0≤(l9:Int):=of_decide_eq_true asm_;have q141:l9<(l0.length:Int):=of_decide_eq_true asm_;obtain⟨ad141,e141,hx141_0⟩:=Kd.nU o6.out l9 p141 q141;obtain rfl:ad139=ad141:=(by injection e141);replace p141:=eq_true p141;replace q141:=eq_true q141;have p142:0≤(l9:Int):=of_decide_eq_true asm_;have q142:l9<(l1.length:Int):=of_decide_eq_true asm_;obtain⟨ad142,e142,hx142_0⟩:=Kd.nU o7.out l9 p142 q142;obtain rfl:ad140=ad142:=(by injection e142);replace p142:=eq_true p142;replace q142:=eq_true q142;go_wp2
          repeat(go_quiet (fail);try go_wp2)
          go_ret
          exact dr_
         ·rw[if_neg c9] at H
          have D7:=decide_eq_false c9;clear c9;obtain rfl:=Option.some.inj H;have p139:0≤(l9:Int):=of_decide_eq_true asm_;have q139:l9<(l0.length:Int):=of_decide_eq_true asm_;obtain⟨ad139,e139,hx139_0⟩:=Kd.nU o6.out l9 p139 q139
          cases e139
          replace p139:=eq_true p139;replace q139:=eq_true q139;have p140:0≤(l9:Int):=of_decide_eq_true asm_;have q140:l9<(l1.length:Int):=of_decide_eq_true asm_;obtain⟨ad140,e140,hx140_0⟩:=Kd.nU o7.out l9 p140 q140
          cases e140
          replace p140:=eq_true p140;replace q140:=eq_true q140;have p141:0≤(l9:Int):=of_decide_eq_true asm_;have q141:l9<(l0.length:Int):=of_decide_eq_true asm_;obtain⟨ad141,e141,hx141_0⟩:=Kd.nU o6.out l9 p141 q141;obtain rfl:ad139=ad141:=(by injection e141);replace p141:=eq_true p141;replace q141:=eq_true q141;have p142:0≤(l9:Int):=of_decide_eq_true asm_;have q142:l9<(l1.length:Int):=of_decide_eq_true asm_;obtain⟨ad142,e142,hx142_0⟩:=Kd.nU o7.out l9 p142 q142;obtain rfl:ad140=ad142:=(by injection e142);replace p142:=eq_true p142;replace q142:=eq_true q142;go_wp2
          repeat(go_quiet (fail);try go_wp2)
          go_ret
          exact dr_
       ·rw[if_neg c7] at H
        exact absurd H aFz
      ·rw[if_neg c6] at H
       exact absurd H aFz
     ·rw[if_neg c5] at H
      exact absurd H aFz
    ·rw[if_neg c4] at H
     have C9:=decide_eq_false c4;clear c4;obtain rfl:=Option.some.inj H;go_wp2
     repeat(go_quiet (fail);try go_wp2)
     go_ret
     exact dr_
 ·rw[if_neg c3] at H
  obtain⟨o8,o9⟩:=bF c3;have y8:(l0.length==l1.length)=false:=by first|simpa using c3|(simp at c3 ⊢;omega)
  go_enter Tryz.func161,Tryz.ntmps161
  refine byC (P:=(l0.length:Int)<(l1.length:Int)) (fun o5=> ?a28) (fun o5=> ?b28)
  case' a28=>
   rw[if_pos o5] at H;have D8:=decide_eq_true o5;have D9:decide (l0.length<l1.length)=true:=decide_eq_true (Int.ofNat_lt.mp o5);clear o5;obtain rfl:=Option.some.inj H
  case' b28=>
   rw[if_neg o5] at H;have D8:=decide_eq_false o5;have D9:decide (l0.length<l1.length)=false:=decide_eq_false (fun h=>o5 (Int.ofNat_lt.mpr h));clear o5;obtain rfl:=Option.some.inj H
  all_goals
   go_wp2
   repeat(go_quiet (fail);try go_wp2)
   go_ret
   exact dr_
mutual
def bV.j0:Nat→List Int→List Int→Option (ByteArray)
 |0,_,_=>none
 |k+1,x0,x5=>bV.l0 k x0 x5 (wrap64 ((x0.length:Int)-1))
def bV.l0:Nat→List Int→List Int→Int→Option (ByteArray)
 |0,_,_,_=>none
 |k+1,x0,x5,x6=>if x6≥0 then(if 0≤x6 then(if x6<(x0.length:Int) then(if x5.length<140737488355328 then(bV.l0 k x0 (x5++ [(wrap64 (48+(rd x0 x6)))%256]) (wrap64 (x6-1))) else(none)) else(none)) else(none)) else(some (strOfNums x5))
end
def bV.f(k:Nat)(l0:List Int)(a1:Bool):Option (ByteArray):=(aU.f k l0).bind fun t143=>(if(t143.length:Int)=0 then(some (⟨#[48]⟩:ByteArray)) else(if a1=true then(if([]:List Int).length<140737488355328 then(bV.j0 k t143 (([]:List Int)++ [45])) else(none)) else(bV.j0 k t143 ([]:List Int))))
theorem bV.calls(k:Nat)(P0_:Nat→Prop)(u9000_:Value)(l0:List Int)(a1:Bool)(r:ByteArray)(w0 w:World)(hB:Below w0.heap.size w0 w)(o7:Kd.R (Kd.int .i64) 3 w w0.heap.size P0_ u9000_ l0)(h:bV.f k l0 a1=some r) :
 Calls Tryz.prog 157 #[u9000_,.bool a1] w fun e w'=>e= .returned (.string r)∧Below w0.heap.size w0 w'∧Kept w w' (fun k_=>P0_ k_):=by
 have o6:=aA.mk (show Kd.R (Kd.int .i64) 3 w w0.heap.size (fun k_=>(P0_ k_∨w.heap.size≤k_)) u9000_ l0 from Kd.dK o7 (fun k_ hk=>(.inl hk)));have HK:=aA.mk (Kept.refl w (fun k_=>P0_ k_));have HW0:=aA.mk hB.size;have HB:=aA.mk hB;clear hB;have H:((aU.f k l0).bind fun l9=>(if(l9.length:Int)=0 then(some (⟨#[48]⟩:ByteArray)) else(if a1=true then(if([]:List Int).length<140737488355328 then(bV.j0 k l9 (([]:List Int)++ [45])) else(none)) else(bV.j0 k l9 ([]:List Int)))))=some r:=h;clear h;obtain⟨l9,A3,H⟩:=bi H;try dsimp only at H
 by_cases c4:(l9.length:Int)=0
 ·rw[if_pos c4] at H
  obtain⟨G5,G6⟩:=bT c4;clear c4;obtain rfl:=Option.some.inj H;obtain⟨F5,F6,H8⟩:=Kd.fA o6.out;subst H8;go_enter Tryz.func157,Tryz.ntmps157
  go_wp2_with(first|((with_reducible refine aC (f:=155) rfl ?_);refine gl_ 8 Tryz.func155 #[.slice F5 l0.length F6] (h:= ?_);(with_reducible refine(aU.calls k (fun k_=>some k_=(.slice F5 l0.length F6:Value).ownBlock) (.slice F5 l0.length F6) l0 l9 w0 _ ?side1 ?side2 A3.out).mono ?_);(case side1=>repeat(first|(with_reducible first|exact HB.out|apply aT|apply aI|apply aJ)|exact HB.out));(case side2=>exact Kd.kE rfl o6.out);rintro e w6 ⟨v144,rfl,o7,hb,hkp⟩;refine⟨_,rfl,?_⟩;have o8:=aA.mk (Kd.dK (ok':=fun k_=>(P0_ k_∨w.heap.size≤k_)) o7 (fun k_ hk_=>Or.elim hk_ (fun hs_=>(o6.out.1 k_ (hs_).symm)) (fun hn_=>(.inr (Nat.le_trans (by first|exact HK.out.1|exact(show Kept w _ (fun k_=>P0_ k_) from by repeat(first|(with_reducible first|exact HK.out|apply Kept.alloc|apply Kept.drewN|apply Kept.drew)|exact HK.out)).1) hn_)))));replace HK:=aA.mk (Kept.then_ (S:=(fun k_=>P0_ k_)) (by repeat(first|(with_reducible first|exact HK.out|apply Kept.alloc|apply Kept.drewN|apply Kept.drew)|exact HK.out)) hkp (fun k_ hs_=>(fun e_=>(o6.out.1 k_ e_.symm)) hs_));replace HB:=aA.mk (hb);(try clear hb);(try clear hkp);(try clear o7);obtain⟨J6,J7,H9⟩:=Kd.fA o8.out;subst H9))
  go_ret
  exact⟨by first|rfl|(simp[dZ,eF] <;> rfl)|(simp[*,dZ,eF] <;> rfl),by repeat(first|(with_reducible first|exact HB.out|apply aT|apply aI|apply aJ)|exact HB.out),by repeat(first|(with_reducible first|exact HK.out|apply Kept.alloc|apply Kept.drewN|apply Kept.drew)|exact HK.out)⟩
 ·rw[if_neg c4] at H
  obtain⟨G5,G6⟩:=bF c4;have I4:¬(l9= []):=fun h_=>c4 (by rw[h_];rfl)
  have F7:=aA.mk H;clear H;obtain⟨F8,F9,I5⟩:=Kd.fA o6.out;subst I5;go_enter Tryz.func157,Tryz.ntmps157
  go_upto_if 12 with (first|((with_reducible refine aC (f:=155) rfl ?_);refine gl_ 8 Tryz.func155 #[.slice F8 l0.length F9] (h:= ?_);(with_reducible refine(aU.calls k (fun k_=>some k_=(.slice F8 l0.length F9:Value).ownBlock) (.slice F8 l0.length F9) l0 l9 w0 _ ?side1 ?side2 A3.out).mono ?_);(case side1=>repeat(first|(with_reducible first|exact HB.out|apply aT|apply aI|apply aJ)|exact HB.out));(case side2=>exact Kd.kE rfl o6.out);rintro e J8 ⟨v144,rfl,o7,hb,hkp⟩;refine⟨_,rfl,?_⟩;have o8:=aA.mk (Kd.dK (ok':=fun k_=>(P0_ k_∨w.heap.size≤k_)) o7 (fun k_ hk_=>Or.elim hk_ (fun hs_=>(o6.out.1 k_ (hs_).symm)) (fun hn_=>(.inr (Nat.le_trans (by first|exact HK.out.1|exact(show Kept w _ (fun k_=>P0_ k_) from by repeat(first|(with_reducible first|exact HK.out|apply Kept.alloc|apply Kept.drewN|apply Kept.drew)|exact HK.out)).1) hn_)))));replace HK:=aA.mk (Kept.then_ (S:=(fun k_=>P0_ k_)) (by repeat(first|(with_reducible first|exact HK.out|apply Kept.alloc|apply Kept.drewN|apply Kept.drew)|exact HK.out)) hkp (fun k_ hs_=>(fun e_=>(o6.out.1 k_ e_.symm)) hs_));replace HB:=aA.mk (hb);(try clear hb);(try clear hkp);(try clear o7);obtain⟨G7,G8,I7⟩:=Kd.fA o8.out;subst I7))
  (try simp only[Act.put,List.setIfInBounds_toArray,List.set_cons_zero,List.set_cons_succ])
  go_cut [5] (fun v5 wc=>∃(kq:Nat) (D5:List Int),aA (bV.j0 kq l9 D5=some r)∧aA (kq≤k)∧aA (Kd.R (Kd.int .i64) 3 wc w0.heap.size (fun k_=>(P0_ k_∨w.heap.size≤k_)) (.slice G7 l9.length G8) l9)∧aA (Kd.R (Kd.int .u8) 5 wc w0.heap.size (fun k_=>(P0_ k_∨w.heap.size≤k_)) v5 D5)∧aA (Kept w wc (fun k_=>P0_ k_))∧aA (Below w0.heap.size w0 wc))
  case first=>
   have H:=F7.out;clear F7
   by_cases D6:a1=true
   ·subst D6
    rw[if_pos rfl] at H
    by_cases D7:([]:List Int).length<140737488355328
    ·rw[if_pos D7] at H
     have LMc13:=aA.mk D7;clear D7;obtain⟨G9,y9⟩:∃y_:List Int,y_=(([]:List Int)++ [45]):=⟨_,rfl⟩
     replace H:(bV.j0 k l9 G9)=some r:=by first|(rw[y9];with_reducible exact H)|(have H2_:=(Option.bind_some _ _).symm.trans H;rw[y9];with_reducible exact H2_)|(have H2_:=(Option.bind_some _ _).symm.trans H;with_reducible exact H2_)|with_reducible exact H|(rw[y9];exact H)|exact H
     have I8:=aA.mk y9;clear y9;have H':=aA.mk H;clear H
     go_wp2_with(first|((with_reducible refine lC (b:= .append) (xs:=#[.tmp 13,.tmp 14]) rfl ?_);at_builtin;refine Kd.rW (Kd.int .u8) (w0:=w0) w0.heap.size rfl (.tmp 13) (.tmp 14) 129 5 (.int .u8 0) 1 rfl Tryz.underlying129 info5 rfl aG0 aFx (.slice none 0 0) ([]:List Int) 45 [.int .u8 45] (fun k_=>(P0_ k_∨w.heap.size≤k_)) (fun _=>False) rfl rfl ?aP (fun _ hk=>hk.elim) ?aF ?aO ?aB ?aS ?aL ?_;(case aP=>exact rfl);(case aB=>exact(pkL HB));(case aF=>exact(fun k_ hk=>(.inr (Nat.le_trans (by first|exact HK.out.1|exact(show Kept w _ (fun k_=>P0_ k_) from by repeat(first|(with_reducible first|exact HK.out|apply Kept.alloc|apply Kept.drewN|apply Kept.drew)|exact HK.out)).1) hk))));(case aO=>exact((Kd.R_nil _ _ _ _ (fun k_=>(P0_ k_∨w.heap.size≤k_)))));(case aS=>exact(dJ (pkL HB)));(case aL=>have:=LMc13.out;omega);intro v147 J9 ho hb hg hat;rw[←I8.out] at ho;have I9:=aA.mk (ho);replace o8:=aA.mk (Kd.R_grown (by(with_reducible repeat(first|apply Kd.aQ|apply Kd.aN|apply Kd.aW));exact o8.out) hg (fun _ _=>by simp[Value.ownBlock]));replace HB:=aA.mk (hb);replace HK:=aA.mk (Kept.of_grown (S:=(fun k_=>P0_ k_)) hg (by repeat(first|(with_reducible first|exact HK.out|apply Kept.alloc|apply Kept.drewN|apply Kept.drew)|exact HK.out)) (fun k_ e_=>by simp[Value.ownBlock] at e_));clear ho hb hg hat))
     go_meet
     case rel=>exact⟨_,(G9),H',le_,⟨by(with_reducible repeat(first|apply Kd.aQ|apply Kd.aN|apply Kd.aW));exact o8.out⟩,⟨by(with_reducible repeat(first|apply Kd.aQ|apply Kd.aN|apply Kd.aW));exact I9.out⟩,⟨by repeat(first|(with_reducible first|exact HK.out|apply Kept.alloc|apply Kept.drewN|apply Kept.drew)|exact HK.out)⟩,⟨pkL HB⟩⟩
    ·rw[if_neg D7] at H
     exact absurd H aFz
   ·replace D6:=Bool.eq_false_iff.mpr D6
    subst D6;rw[if_neg (show ¬(false=true) by decide)] at H;have H':=aA.mk H;clear H;go_wp2
    go_meet
    case rel=>exact⟨_,(([]:List Int)),H',le_,⟨by(with_reducible repeat(first|apply Kd.aQ|apply Kd.aN|apply Kd.aW));exact o8.out⟩,⟨by first|exact Kd.R_nil _ _ _ _ _|exact Kd.N_nil _ _ _ _ _|exact Kd.V_nil _ _ _ _ _|exact Kd.Q_nil _ _ _ _ _|exact Kd.S_nil _ _ _ _ _⟩,⟨by repeat(first|(with_reducible first|exact HK.out|apply Kept.alloc|apply Kept.drewN|apply Kept.drew)|exact HK.out)⟩,⟨pkL HB⟩⟩
  case rest=>
   clear F7 c4 G5 G6 I4;obtain⟨kq,D5,HA,H5,HO_0,HO_5,HK,HB⟩:=hcut
   cases kq with
   |zero=>exact absurd HA.out (by simp[bV.j0])
   |succ kj7=>
    have H:=HA.out;clear HA;simp only[bV.j0] at H;have H':=aA.mk H;clear H;go_wp2
    go_loopg [5,6] kj7 (fun kq v5 v6 w'=>∃(o9:List Int) (o5:Int),v6= .int .i64 o5∧aA (bV.l0 kq l9 o9 o5=some r)∧aA (kq≤kj7)∧aA (Kd.R (Kd.int .i64) 3 w' w0.heap.size (fun k_=>(P0_ k_∨w.heap.size≤k_)) (.slice G7 l9.length G8) l9)∧aA (Kd.R (Kd.int .u8) 5 w' w0.heap.size (fun k_=>(P0_ k_∨w.heap.size≤k_)) v5 o9)∧aA (Kept w w' (fun k_=>P0_ k_))∧aA (Below w0.heap.size w0 w'))
    case atStart=>exact⟨(D5),(wrap64 ((l9.length:Int)-1)),aG1,H',⟨Nat.le_refl _⟩,⟨by(with_reducible repeat(first|apply Kd.aQ|apply Kd.aN|apply Kd.aW));exact HO_0.out⟩,⟨by(with_reducible repeat(first|apply Kd.aQ|apply Kd.aN|apply Kd.aW));exact HO_5.out⟩,⟨by repeat(first|(with_reducible first|exact HK.out|apply Kept.alloc|apply Kept.drewN|apply Kept.drew)|exact HK.out)⟩,⟨pkL HB⟩⟩
    case round=>
     clear H';obtain⟨o9,o5,rfl,HA,H6,HO_0,HO_5,HK,HB⟩:=hrel
     cases gk with
     |zero=>exact absurd HA.out (by simp[bV.l0])
     |succ k2=>
      have H:=HA.out;clear HA;simp only[bV.l0] at H
      by_cases y8:o5≥0
      ·rw[if_pos y8] at H
       have J3:=decide_eq_true y8;clear y8
       by_cases D8:0≤o5
       ·rw[if_pos D8] at H
        have L6:=decide_eq_true D8;clear D8
        by_cases D9:o5<(l9.length:Int)
        ·rw[if_pos D9] at H
         have L8:=decide_eq_true D9;clear D9
         by_cases E8:o9.length<140737488355328
         ·rw[if_pos E8] at H
          have LMc18:=aA.mk E8;clear E8;obtain⟨H7,C9⟩:∃y_:List Int,y_=(o9++ [(wrap64 (48+(rd l9 o5)))%256]):=⟨_,rfl⟩
          replace H:(bV.l0 k2 l9 H7 (wrap64 (o5-1)))=some r:=by first|(rw[C9];with_reducible exact H)|(have H2_:=(Option.bind_some _ _).symm.trans H;rw[C9];with_reducible exact H2_)|(have H2_:=(Option.bind_some _ _).symm.trans H;with_reducible exact H2_)|with_reducible exact H|(rw[C9];exact H)|exact H
          have J4:=aA.mk C9;clear C9;have H':=aA.mk H;clear H;have p149:0≤(o5:Int):=of_decide_eq_true asm_;have q149:o5<(l9.length:Int):=of_decide_eq_true asm_;obtain⟨ad149,e149,hx149_0⟩:=Kd.nU (Kd.dB HO_0.out).2.2 o5 p149 q149
          cases e149
          replace p149:=eq_true p149;replace q149:=eq_true q149
          go_wp2_with(first|((with_reducible refine lC (b:= .append) (xs:=#[.tmp 23,.tmp 30]) rfl ?_);at_builtin;refine Kd.rW (Kd.int .u8) (w0:=w0) w0.heap.size rfl (.tmp 23) (.tmp 30) 129 5 (.int .u8 0) 1 rfl Tryz.underlying129 info5 rfl aG0 aFx u5 o9 ((wrap64 (48+(rd l9 o5)))%256) [.int .u8 ((wrap64 (48+(rd l9 o5)))%256)] (fun k_=>(P0_ k_∨w.heap.size≤k_)) (fun _=>False) rfl rfl ?aP (fun _ hk=>hk.elim) ?aF ?aO ?aB ?aS ?aL ?_;(case aP=>exact rfl);(case aB=>exact(pkL HB));(case aF=>exact(fun k_ hk=>(.inr (Nat.le_trans (by first|exact HK.out.1|exact(show Kept w _ (fun k_=>P0_ k_) from by repeat(first|(with_reducible first|exact HK.out|apply Kept.alloc|apply Kept.drewN|apply Kept.drew)|exact HK.out)).1) hk))));(case aO=>exact(by(with_reducible repeat(first|apply Kd.aQ|apply Kd.aN|apply Kd.aW));exact HO_5.out));(case aS=>exact(dJ (pkL HB)));(case aL=>have:=LMc18.out;omega);intro v151 L9 ho hb hg hat;rw[←J4.out] at ho;have n0_:=aA.mk (Kd.R_over' (by(with_reducible repeat(first|apply Kd.aQ|apply Kd.aN|apply Kd.aW));exact HO_0.out) (Kd.R_typed (by(with_reducible repeat(first|apply Kd.aQ|apply Kd.aN|apply Kd.aW));exact HO_5.out)) aG0 hg);have n1_:=aA.mk (hb);have n2_:=aA.mk (Kept.of_grown (S:=(fun k_=>P0_ k_)) hg (by repeat(first|(with_reducible first|exact HK.out|apply Kept.alloc|apply Kept.drewN|apply Kept.drew)|exact HK.out)) (fun k_ e_=>(HO_5.out.1 k_ e_)));have n3_:=aA.mk (ho);clear HO_0;clear HB;clear HK;clear HO_5;have HO_0:=n0_;have HB:=n1_;have HK:=n2_;have J5:=n3_;clear n0_ n1_ n2_ n3_;clear ho hb hg hat))
          go_roundg k2
          case measure=>have:=H5.out;have:=H6.out;omega
          case rel=>exact⟨(H7),(wrap64 (o5-1)),aG1,H',⟨by have:=H5.out;have:=H6.out;omega⟩,⟨by(with_reducible repeat(first|apply Kd.aQ|apply Kd.aN|apply Kd.aW));exact HO_0.out⟩,⟨by(with_reducible repeat(first|apply Kd.aQ|apply Kd.aN|apply Kd.aW));exact J5.out⟩,⟨by repeat(first|(with_reducible first|exact HK.out|apply Kept.alloc|apply Kept.drewN|apply Kept.drew)|exact HK.out)⟩,⟨pkL HB⟩⟩
         ·rw[if_neg E8] at H
          exact absurd H aFz
        ·rw[if_neg D9] at H
         exact absurd H aFz
       ·rw[if_neg D8] at H
        exact absurd H aFz
      ·rw[if_neg y8] at H
       have J3:=decide_eq_false y8;clear y8;obtain rfl:=Option.some.inj H;have hcv20:=own_string (P:=Tryz.prog) Tryz.underlying129 Tryz.underlying5 Tryz.underlying22 (Kd.own_of_R HO_5.out);go_wp2
       go_ret
       exact⟨by first|rfl|(simp[dZ,eF] <;> rfl)|(simp[*,dZ,eF] <;> rfl),by repeat(first|(with_reducible first|exact HB.out|apply aT|apply aI|apply aJ)|exact HB.out),by repeat(first|(with_reducible first|exact HK.out|apply Kept.alloc|apply Kept.drewN|apply Kept.drew)|exact HK.out)⟩
def aX.l0:Nat→ByteArray→List Int→Int→Option (List Int)
 |0,_,_,_=>none
 |k+1,x0,x3,x4=>if x4≥0 then(if 0≤x4 then(if x4<(x0.size:Int) then(if(bt x0 x4)=45 then(some x3) else(if x3.length<17592186044416 then(aX.l0 k x0 (x3++ [((bt x0 x4)-48)%256]) (wrap64 (x4-1))) else(none))) else(none)) else(none)) else(some x3)
def aX.f(k:Nat)(a0:ByteArray):Option (List Int):=aX.l0 k a0 ([]:List Int) (wrap64 ((a0.size:Int)-1))
theorem aX.calls(k:Nat)(a0:ByteArray)(r:List Int)(w:World)(h:aX.f k a0=some r) :
 Calls Tryz.prog 156 #[.string a0] w fun e w'=>∃v0_:Value,e= .returned (v0_)∧Kd.R (Kd.int .i64) 3 w' w.heap.size (fun _=>True) v0_ r∧Below w.heap.size w w':=by
 have HB:=aA.mk (Below.refl w.heap.size w);have H:(aX.l0 k a0 ([]:List Int) (wrap64 ((a0.size:Int)-1)))=some r:=h;clear h;have H':=aA.mk H;clear H;go_enter Tryz.func156,Tryz.ntmps156
 go_wp2
 go_loopg [3,4] k (fun kq v3 v4 w'=>∃(o5:List Int) (l9:Int),v4= .int .i64 l9∧aA (aX.l0 kq a0 o5 l9=some r)∧aA (kq≤k)∧aA (Kd.R (Kd.int .i64) 3 w' w.heap.size (fun _=>True) v3 o5)∧aA (Below w.heap.size w w'))
 case atStart=>exact⟨(([]:List Int)),(wrap64 ((a0.size:Int)-1)),aG1,H',⟨Nat.le_refl _⟩,⟨by first|exact Kd.R_nil _ _ _ _ _|exact Kd.N_nil _ _ _ _ _|exact Kd.V_nil _ _ _ _ _|exact Kd.Q_nil _ _ _ _ _|exact Kd.S_nil _ _ _ _ _⟩,⟨pkL HB⟩⟩
 case round=>
  clear H';obtain⟨o5,l9,rfl,HA,o7,HO_3,HB⟩:=hrel
  cases gk with
  |zero=>exact absurd HA.out (by simp[aX.l0])
  |succ k1=>
   have H:=HA.out;clear HA;simp only[aX.l0] at H
   by_cases c2:l9≥0
   ·rw[if_pos c2] at H
    have o9:=decide_eq_true c2;clear c2
    by_cases c3:0≤l9
    ·rw[if_pos c3] at H
     have D6:=decide_eq_true c3;clear c3
     by_cases c4:l9<(a0.size:Int)
     ·rw[if_pos c4] at H
      have D7:=decide_eq_true c4;clear c4
      by_cases c6:(bt a0 l9)=45
      ·rw[if_pos c6] at H
       obtain⟨y8,y9⟩:=bT c6;clear c6;obtain rfl:=Option.some.inj H;have p5:0≤(l9:Int):=of_decide_eq_true asm_;have q5:l9<(a0.size:Int):=of_decide_eq_true asm_;have hx5:=yH a0 l9;replace p5:=eq_true p5;replace q5:=eq_true q5;go_wp2
       go_ret
       exact⟨_,by first|rfl|(simp[dZ,eF] <;> rfl)|(simp[*,dZ,eF] <;> rfl),by(with_reducible repeat(first|apply Kd.aQ|apply Kd.aN|apply Kd.aW));exact HO_3.out,by repeat(first|(with_reducible first|exact HB.out|apply aT|apply aI|apply aJ)|exact HB.out)⟩
      ·rw[if_neg c6] at H
       obtain⟨y8,y9⟩:=bF c6
       by_cases c8:o5.length<17592186044416
       ·rw[if_pos c8] at H
        have LMc8:=aA.mk c8;clear c8;obtain⟨o8,o6⟩:∃y_:List Int,y_=(o5++ [((bt a0 l9)-48)%256]):=⟨_,rfl⟩
        replace H:(aX.l0 k1 a0 o8 (wrap64 (l9-1)))=some r:=by first|(rw[o6];with_reducible exact H)|(have H2_:=(Option.bind_some _ _).symm.trans H;rw[o6];with_reducible exact H2_)|(have H2_:=(Option.bind_some _ _).symm.trans H;with_reducible exact H2_)|with_reducible exact H|(rw[o6];exact H)|exact H
        have C9:=aA.mk o6;clear o6;have H':=aA.mk H;clear H;have p5:0≤(l9:Int):=of_decide_eq_true asm_;have q5:l9<(a0.size:Int):=of_decide_eq_true asm_;have hx5:=yH a0 l9;replace p5:=eq_true p5;replace q5:=eq_true q5;have p7:0≤(l9:Int):=of_decide_eq_true asm_;have q7:l9<(a0.size:Int):=of_decide_eq_true asm_;have hx7:=yH a0 l9;replace p7:=eq_true p7;replace q7:=eq_true q7
        go_wp2_with(first|((with_reducible refine lC (b:= .append) (xs:=#[.tmp 18,.tmp 24]) rfl ?_);at_builtin;refine Kd.rW (Kd.int .i64) (w0:=w) w.heap.size rfl (.tmp 18) (.tmp 24) 79 3 (.int .i64 0) 8 rfl Tryz.underlying79 info3 rfl aG0 aFx u3 o5 (((bt a0 l9)-48)%256) [.int .i64 (((bt a0 l9)-48)%256)] (fun _=>True) (fun _=>False) rfl rfl ?aP (fun _ hk=>hk.elim) ?aF ?aO ?aB ?aS ?aL ?_;(case aP=>exact rfl);(case aB=>exact(pkL HB));(case aF=>exact(fun _ _=>trivial));(case aO=>exact(by(with_reducible repeat(first|apply Kd.aQ|apply Kd.aN|apply Kd.aW));exact HO_3.out));(case aS=>exact(dJ (pkL HB)));(case aL=>have:=LMc8.out;omega);intro v154 w9 ho hb hg hat;rw[←C9.out] at ho;have D5:=aA.mk (ho);replace HB:=aA.mk (hb);clear ho hb hg hat))
        go_roundg k1
        case measure=>have:=o7.out;omega
        case rel=>exact⟨(o8),(wrap64 (l9-1)),aG1,H',⟨by have:=o7.out;omega⟩,⟨by(with_reducible repeat(first|apply Kd.aQ|apply Kd.aN|apply Kd.aW));exact D5.out⟩,⟨pkL HB⟩⟩
       ·rw[if_neg c8] at H
        exact absurd H aFz
     ·rw[if_neg c4] at H
      exact absurd H aFz
    ·rw[if_neg c3] at H
     exact absurd H aFz
   ·rw[if_neg c2] at H
    have o9:=decide_eq_false c2;clear c2;obtain rfl:=Option.some.inj H;go_wp2
    go_ret
    exact⟨_,by first|rfl|(simp[dZ,eF] <;> rfl)|(simp[*,dZ,eF] <;> rfl),by(with_reducible repeat(first|apply Kd.aQ|apply Kd.aN|apply Kd.aW));exact HO_3.out,by repeat(first|(with_reducible first|exact HB.out|apply aT|apply aI|apply aJ)|exact HB.out)⟩
def aH.f(a0:ByteArray):Option (Bool):=if 0<(a0.size:Int) then(some ((bt a0 0)==45)) else(none)
theorem aH.calls(a0:ByteArray)(r:Bool)(w:World)(h:aH.f a0=some r) :
 Calls Tryz.prog 158 #[.string a0] w fun e w'=>e= .returned (.bool r)∧eQ w w':=by
 have H:(if 0<(a0.size:Int) then(some ((bt a0 0)==45)) else(none))=some r:=h;clear h
 by_cases c2:0<(a0.size:Int)
 ·rw[if_pos c2] at H
  have l9:=decide_eq_true c2;have o5:decide (0<a0.size)=true:=decide_eq_true aFx;clear c2;obtain rfl:=Option.some.inj H;have p3:0≤(0:Int):=aFx;have q3:0<a0.size:=(by have:(0:Int)<(a0.size:Int):=of_decide_eq_true asm_;omega);have hx3:∀h:0<a0.size,((a0[0]'h).toNat:Int)=bt a0 0:=yH a0 0
  clear p3;have qi3:(0<(a0.size:Int))=True:=eq_true (of_decide_eq_true asm_);replace q3:=eq_true q3;go_enter Tryz.func158,Tryz.ntmps158
  go_wp2
  go_ret
  exact dr_
 ·rw[if_neg c2] at H
  exact absurd H aFz
def dM.l0:Nat→ByteArray→Int→Int→Option (Int)
 |0,_,_,_=>none
 |k+1,x0,x3,x4=>if x4<(x0.size:Int) then(if 0≤x4 then(if(bt x0 x4)=45 then(dM.l0 k x0 x3 (wrap64 (x4+1))) else(dM.l0 k x0 (wrap64 ((wrap64 (x3*10))+(((bt x0 x4)-48)%256))) (wrap64 (x4+1)))) else(none)) else((aH.f x0).bind fun t156=>(if t156=true then(some (wrap64 (-x3))) else(some x3)))
def dM.f(k:Nat)(a0:ByteArray):Option (Int):=dM.l0 k a0 0 0
theorem dM.calls(k:Nat)(a0:ByteArray)(r:Int)(w:World)(h:dM.f k a0=some r) :
 Calls Tryz.prog 153 #[.string a0] w fun e w'=>e= .returned (.int .i64 r)∧eQ w w':=by
 have H:(dM.l0 k a0 0 0)=some r:=h;clear h;have H':=aA.mk H;clear H;go_enter Tryz.func153,Tryz.ntmps153
 go_wp2
 go_loopg [3,4] k (fun kq v3 v4 w'=>∃(o5:Int) (l9:Int),v3= .int .i64 o5∧v4= .int .i64 l9∧aA (dM.l0 kq a0 o5 l9=some r)∧aA (kq≤k)∧eQ w w')
 case atStart=>exact⟨(0),(0),aG1,aG1,H',⟨Nat.le_refl _⟩,by repeat(first|exact eQ.refl _|apply eQ.step)⟩
 case round=>
  clear H';obtain⟨o5,l9,rfl,rfl,HA,o6,⟨m1,rfl⟩⟩:=hrel
  cases gk with
  |zero=>exact absurd HA.out (by simp[dM.l0])
  |succ k1=>
   have H:=HA.out;clear HA;simp only[dM.l0] at H
   by_cases c2:l9<(a0.size:Int)
   ·rw[if_pos c2] at H
    have o7:=decide_eq_true c2;clear c2
    by_cases c3:0≤l9
    ·rw[if_pos c3] at H
     have y9:=decide_eq_true c3;clear c3
     by_cases c5:(bt a0 l9)=45
     ·rw[if_pos c5] at H
      obtain⟨o8,o9⟩:=bT c5;clear c5;have H':=aA.mk H;clear H;have p4:0≤(l9:Int):=of_decide_eq_true asm_;have q4:l9<(a0.size:Int):=of_decide_eq_true asm_;have hx4:=yH a0 l9;replace p4:=eq_true p4;replace q4:=eq_true q4;go_wp2
      go_roundg k1
      case measure=>have:=o6.out;omega
      case rel=>exact⟨(o5),(wrap64 (l9+1)),aG1,aG1,H',⟨by have:=o6.out;omega⟩,by repeat(first|exact eQ.refl _|apply eQ.step)⟩
     ·rw[if_neg c5] at H
      obtain⟨o8,o9⟩:=bF c5;have H':=aA.mk H;clear H;have p4:0≤(l9:Int):=of_decide_eq_true asm_;have q4:l9<(a0.size:Int):=of_decide_eq_true asm_;have hx4:=yH a0 l9;replace p4:=eq_true p4;replace q4:=eq_true q4;have p6:0≤(l9:Int):=of_decide_eq_true asm_;have q6:l9<(a0.size:Int):=of_decide_eq_true asm_;have hx6:=yH a0 l9;replace p6:=eq_true p6;replace q6:=eq_true q6;go_wp2
      go_roundg k1
      case measure=>have:=o6.out;omega
      case rel=>exact⟨(wrap64 ((wrap64 (o5*10))+(((bt a0 l9)-48)%256))),(wrap64 (l9+1)),aG1,aG1,H',⟨by have:=o6.out;omega⟩,by repeat(first|exact eQ.refl _|apply eQ.step)⟩
    ·rw[if_neg c3] at H
     exact absurd H aFz
   ·rw[if_neg c2] at H
    have o7:=decide_eq_false c2;clear c2;obtain⟨y8,A7,H⟩:=bi H;try dsimp only at H
    refine byC (P:=y8=true) (fun c8=> ?a29) (fun c8=> ?b29)
    case' a29=>
     subst c8;rw[if_pos rfl] at H;obtain rfl:=Option.some.inj H
    case' b29=>
     replace c8:=Bool.eq_false_iff.mpr c8;subst c8;rw[if_neg (show ¬(false=true) by decide)] at H;obtain rfl:=Option.some.inj H
    all_goals
     go_wp2_with(first|((with_reducible refine aC (f:=158) rfl ?_);refine gl_ 24 Tryz.func158 #[.string a0] (h:= ?_);(with_reducible refine(aH.calls a0 _ _ A7.out).mono ?_);rintro e w' ⟨rfl,⟨nd,rfl⟩⟩;refine⟨_,rfl,?_⟩))
     go_ret
     exact dr_
def dW.l0:Nat→Int→ByteArray→Int→Option (ByteArray)
 |0,_,_,_=>none
 |k+1,x0,x3,x4=>if x4=0 then(if x0<0 then(if 1+x3.size≤9223372036854775807 then(some ((⟨#[45]⟩:ByteArray)++x3)) else(none)) else(some x3)) else(if 0≤(mx (Int.tmod x4 10) (wrap64 (-(Int.tmod x4 10)))) then(if(mx (Int.tmod x4 10) (wrap64 (-(Int.tmod x4 10))))≤(wrap64 ((mx (Int.tmod x4 10) (wrap64 (-(Int.tmod x4 10))))+1)) then(if(wrap64 ((mx (Int.tmod x4 10) (wrap64 (-(Int.tmod x4 10))))+1))≤10 then(if((⟨#[48,49,50,51,52,53,54,55,56,57]⟩:ByteArray).extract ((mx (Int.tmod x4 10) (wrap64 (-(Int.tmod x4 10)))):Int).toNat ((wrap64 ((mx (Int.tmod x4 10) (wrap64 (-(Int.tmod x4 10))))+1)):Int).toNat).size+x3.size≤9223372036854775807 then(dW.l0 k x0 (((⟨#[48,49,50,51,52,53,54,55,56,57]⟩:ByteArray).extract ((mx (Int.tmod x4 10) (wrap64 (-(Int.tmod x4 10)))):Int).toNat ((wrap64 ((mx (Int.tmod x4 10) (wrap64 (-(Int.tmod x4 10))))+1)):Int).toNat)++x3) (wrap64 (Int.tdiv x4 10))) else(none)) else(none)) else(none)) else(none))
def dW.f(k:Nat)(a0:Int):Option (ByteArray):=if a0=0 then(some (⟨#[48]⟩:ByteArray)) else(dW.l0 k a0 (⟨#[]⟩:ByteArray) a0)
theorem dW.calls(k:Nat)(a0:Int)(r:ByteArray)(w:World)(h:dW.f k a0=some r) :
 Calls Tryz.prog 151 #[.int .i64 a0] w fun e w'=>e= .returned (.string r)∧Below w.heap.size w w':=by
 have HB:=aA.mk (Below.refl w.heap.size w);have H:(if a0=0 then(some (⟨#[48]⟩:ByteArray)) else(dW.l0 k a0 (⟨#[]⟩:ByteArray) a0))=some r:=h;clear h
 by_cases c2:a0=0
 ·rw[if_pos c2] at H
  obtain⟨o7,o8⟩:=bT c2;clear c2;obtain rfl:=Option.some.inj H;go_enter Tryz.func151,Tryz.ntmps151
  go_wp2
  go_ret
  exact pkE HB
 ·rw[if_neg c2] at H
  obtain⟨o7,o8⟩:=bF c2;have H':=aA.mk H;clear H;go_enter Tryz.func151,Tryz.ntmps151
  go_wp2
  go_loopg [3,4] k (fun kq v3 v4 w'=>∃(o5:ByteArray) (l9:Int),v3= .string o5∧v4= .int .i64 l9∧aA (dW.l0 kq a0 o5 l9=some r)∧aA (kq≤k)∧aA (Below w.heap.size w w'))
  case atStart=>exact⟨((⟨#[]⟩:ByteArray)),(a0),aG1,aG1,H',⟨Nat.le_refl _⟩,⟨pkL HB⟩⟩
  case round=>
   clear H' c2 o7 o8;obtain⟨o5,l9,rfl,rfl,HA,o9,HB⟩:=hrel
   cases gk with
   |zero=>exact absurd HA.out (by simp[dW.l0])
   |succ k1=>
    have H:=HA.out;clear HA;simp only[dW.l0] at H
    by_cases c3:l9=0
    ·rw[if_pos c3] at H
     obtain⟨y8,y9⟩:=bT c3;clear c3
     by_cases c4:a0<0
     ·rw[if_pos c4] at H
      have C9:=decide_eq_true c4;clear c4
      by_cases c5:1+o5.size≤9223372036854775807
      ·rw[if_pos c5] at H
       have D5:=eq_true c5;have D6:=decide_eq_true c5
       try have D7:(9223372036854775807<1+o5.size)=False:=eq_false (Nat.not_lt.2 c5)
       obtain rfl:=Option.some.inj H;go_wp2
       go_ret
       exact pkE HB
      ·rw[if_neg c5] at H
       exact absurd H aFz
     ·rw[if_neg c4] at H
      have C9:=decide_eq_false c4;clear c4;obtain rfl:=Option.some.inj H;go_wp2
      go_ret
      exact pkE HB
    ·rw[if_neg c3] at H
     obtain⟨y8,y9⟩:=bF c3;obtain⟨ji6,hji6⟩:∃j_:Int,(mx (Int.tmod l9 10) (wrap64 (-(Int.tmod l9 10))))=j_:=⟨_,rfl⟩
     replace H:(if 0≤(ji6) then(if(ji6)≤(wrap64 ((ji6)+1)) then(if(wrap64 ((ji6)+1))≤10 then(if((⟨#[48,49,50,51,52,53,54,55,56,57]⟩:ByteArray).extract ((ji6):Int).toNat ((wrap64 ((ji6)+1)):Int).toNat).size+o5.size≤9223372036854775807 then(dW.l0 k1 a0 (((⟨#[48,49,50,51,52,53,54,55,56,57]⟩:ByteArray).extract ((ji6):Int).toNat ((wrap64 ((ji6)+1)):Int).toNat)++o5) (wrap64 (Int.tdiv l9 10))) else(none)) else(none)) else(none)) else(none))=some r:=by first|(rw[hji6] at H;exact H)|(simp only[hji6] at H ⊢;exact H)
     have hji6_:(if(Int.tmod l9 10)<(wrap64 (-(Int.tmod l9 10))) then(wrap64 (-(Int.tmod l9 10))) else(Int.tmod l9 10))=ji6:=hji6
     by_cases c7:0≤(ji6)
     ·rw[if_pos c7] at H
      have D8:=eq_true c7;have D9:=decide_eq_true c7;clear c7
      by_cases c8:(ji6)≤(wrap64 ((ji6)+1))
      ·rw[if_pos c8] at H
       have E8:=eq_true c8;have F5:=decide_eq_true c8
       by_cases c9:(wrap64 ((ji6)+1))≤10
       ·rw[if_pos c9] at H
        have F6:=eq_true c9;have F7:=decide_eq_true c9
        by_cases o6:((⟨#[48,49,50,51,52,53,54,55,56,57]⟩:ByteArray).extract ((ji6):Int).toNat ((wrap64 ((ji6)+1)):Int).toNat).size+o5.size≤9223372036854775807
        ·rw[if_pos o6] at H
         have F8:=eq_true o6;have F9:=decide_eq_true o6
         try have G5:(9223372036854775807<((⟨#[48,49,50,51,52,53,54,55,56,57]⟩:ByteArray).extract ((ji6):Int).toNat ((wrap64 ((ji6)+1)):Int).toNat).size+o5.size)=False:=eq_false (Nat.not_lt.2 o6)
         have H':=aA.mk H;clear H;go_wp2
         go_roundg k1
         case measure=>have:=o9.out;omega
         case rel=>exact⟨(((⟨#[48,49,50,51,52,53,54,55,56,57]⟩:ByteArray).extract ((ji6):Int).toNat ((wrap64 ((ji6)+1)):Int).toNat)++o5),(wrap64 (Int.tdiv l9 10)),(by first|rfl|(simp;done)|(simp only[←hji6] <;> (first|rfl|simp))|(simp[*];done)),aG1,H',⟨by have:=o9.out;omega⟩,⟨pkL HB⟩⟩
        ·rw[if_neg o6] at H
         exact absurd H aFz
       ·rw[if_neg c9] at H
        exact absurd H aFz
      ·rw[if_neg c8] at H
       exact absurd H aFz
     ·rw[if_neg c7] at H
      exact absurd H aFz
end Go.Proofs.YtignanmmgaldeaaGreatDoor.PRefA
end
