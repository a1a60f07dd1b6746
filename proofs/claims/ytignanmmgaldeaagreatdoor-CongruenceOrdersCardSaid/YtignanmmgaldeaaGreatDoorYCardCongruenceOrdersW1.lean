/- Lemmas for the proof. -/
import Derived.Test.YtignanmmgaldeaaGreatDoorYCardCongruenceOrdersW
import Derived.Test.YtignanmmgaldeaaGreatDoorYH
section
set_option linter.unusedVariables false
set_option linter.unusedSimpArgs false
namespace Go.Proofs.YtignanmmgaldeaaGreatDoor
open Go.RowKit
theorem bezL_val(X Y:Int):∀(k:Nat) (r s p q:Int),0≤r→0≤s→s.toNat≤k→(∃t,p*X+t*Y=r)→(∃t,q*X+t*Y=s)→∃t,bezL k r s p q*X+t*Y=gcdI r s
 |0,r,s,p,q,hr,hs,hk,h1,h2=>by
  obtain rfl:s=0:=by omega
  rw[vO hr];exact h1
 |k+1,r,s,p,q,hr,hs,hk,h1,h2=>by
  unfold bezL
  split
  ·rename_i h0
   subst h0;rw[vO hr];exact h1
  ·rename_i h0
   have hlt:=Int.emod_lt_of_pos r (show 0<s by omega);have hnn:=Int.emod_nonneg r h0;rw[←yU hr (show 0<s by omega)];refine bezL_val X Y k s (r%s) q _ hs hnn aFx h2 ?_;obtain⟨t,h1⟩:=h1;obtain⟨u,h2⟩:=h2;refine⟨t+ -((r/s)*u),?_⟩;have hd:=Int.emod_add_mul_ediv r s;have e:(r/s)*(q*X+u*Y)=(r/s)*q*X+(r/s)*u*Y:=by rw[Int.mul_add,Int.mul_assoc,Int.mul_assoc]
   rw[h2,Int.mul_comm] at e;rw[Int.add_mul,Int.add_mul,Int.neg_mul,Int.neg_mul];omega
theorem aEt(a b:Int):0≤gcdI a b:=by unfold gcdI;omega
theorem aCo(a b:Int):gcdI a b∣a:=by
 unfold gcdI;exact Int.dvd_natAbs.1 (Int.ofNat_dvd.2 (Nat.gcd_dvd_left _ _))
theorem bezP_val(a b:Int)(hb:b≠0):∃t,bezP a b*a+t*b=gcdI a b:=by
 obtain⟨t,h⟩:=bezL_val (a.natAbs:Int) (b.natAbs:Int) b.natAbs a.natAbs b.natAbs 1 0 aFx aFx aFx ⟨0,by omega⟩ ⟨1,by omega⟩;rw[aAa] at h
 have hs:∃u,u*b=t*(b.natAbs:Int):=by
  rcases Int.lt_or_le b 0 with hneg|hneg
  ·exact⟨-t,by rw[show(b.natAbs:Int)= -b by omega,Int.neg_mul,Int.mul_neg]⟩
  ·exact⟨t,by rw[show(b.natAbs:Int)=b by omega]⟩
 obtain⟨u,hu⟩:=hs;refine⟨u,?_⟩;rw[hu];unfold bezP
 split
 ·rename_i ha
  rw[show(a.natAbs:Int)= -a by omega] at h ⊢;rw[Int.mul_neg] at h;rw[Int.neg_mul];exact h
 ·rename_i ha
  rw[show(a.natAbs:Int)=a by omega] at h ⊢;exact h
theorem bez_val(a b:Int):a*bezU a b+b*bezV a b=gcdI a b:=by
 unfold bezV bezU
 by_cases hb:b=0
 ·subst hb
  rw[if_pos rfl,if_pos rfl];unfold gcdI sgnI
  split
  ·rw[Int.natAbs_zero,Nat.gcd_zero_right];omega
  ·split
   ·rename_i h;rw[h];decide
   ·rw[Int.natAbs_zero,Nat.gcd_zero_right];omega
 ·rw[if_neg hb,if_neg hb]
  obtain⟨t,ht⟩:=bezP_val a b hb;have hg:=aAb (a:=a) hb;obtain⟨x,hx⟩:=aCo a b;have hab:gcdI a b∣(b.natAbs:Int):=Int.dvd_natAbs.2 (qL a b);obtain⟨y,hy⟩:=hab;have hq:(b.natAbs:Int)/gcdI a b=y:=by rw[hy];exact Int.mul_ediv_cancel_left _ aFx
  rw[hq];have hm:=Int.fmod_add_mul_fdiv (bezP a b) y;generalize Int.fmod (bezP a b) y=u at *
  generalize Int.fdiv (bezP a b) y=f at *
  generalize gcdI a b=g at *
  have hb2:b∣(b.natAbs:Int):=Int.dvd_natAbs.2 (Int.dvd_refl b);obtain⟨s,hs⟩:=hb2
  have key:b∣g+ -(a*u):=by
   refine⟨t+s*x*f,?_⟩;have e1:bezP a b*a=a*u+a*(y*f):=by rw[←hm,Int.add_mul,Int.mul_comm u a,Int.mul_comm (y*f) a]
   have e2:a*(y*f)=b*(s*x*f):=by
    rw[show a*(y*f)=(g*y)*(x*f) from by rw[hx];simp only[Int.mul_comm,Int.mul_assoc,Int.mul_left_comm],←hy,hs];simp only[Int.mul_comm,Int.mul_assoc,Int.mul_left_comm]
   rw[Int.mul_add,←e2,Int.mul_comm b t];omega
  obtain⟨v,hv⟩:=key;rw[hv,Int.mul_fdiv_cancel_left _ hb];omega
end Go.Proofs.YtignanmmgaldeaaGreatDoor
end
section
namespace Go.Proofs.YtignanmmgaldeaaGreatDoorW.PrintWords
theorem Reps.front{α:Type}{R:α→List Value→Prop}{size:Nat}{ps:List α}{cs c all:List Value}{p:α}(hp:R p c)(hc:c.length=size)(h:Reps R size ps cs)(ha:c++cs=all):Reps R size (p::ps) all:=by
 subst ha;refine⟨by rw[List.length_append,hc,h.1,List.length_cons,Nat.succ_mul,Nat.add_comm],fun j q hq=> ?_⟩
 cases j with
 |zero=>
  simp only[List.getElem?_cons_zero,Option.some.injEq] at hq;subst hq;rw[Nat.zero_mul,List.drop_zero,List.take_append_of_le_length aFx,List.take_of_length_le aFx];exact hp
 |succ j=>
  simp only[List.getElem?_cons_succ] at hq;have h1:=h.2 j q hq;rw[Nat.succ_mul,List.drop_append,List.drop_of_length_le (by rw[hc];exact Nat.le_add_left _ _),List.nil_append,hc,Nat.add_sub_cancel];exact h1
theorem Reps.c3{α:Type}{R:α→List Value→Prop}{ps:List α}{cs:List Value}{p:α}{va vb vc:Value}(hp:R p [va,vb,vc])(h:Reps R 3 ps cs):Reps R 3 (p::ps) (va::vb::vc::cs):=Reps.front hp rfl h rfl
end Go.Proofs.YtignanmmgaldeaaGreatDoorW.PrintWords
end
section
set_option linter.unusedVariables false
namespace Go.Proofs.YtignanmmgaldeaaGreatDoorW.PrintWords
open Go.RowKit
theorem pkN{W0 W:World}{g g':Nat}{o:Obj}(B:aA (W0.heap[g]? =some o))(hg:g'=W.heap.size)(h:W0.heap[g]? =some o→W.heap[g]? =some o:=by intro h_;(with_reducible repeat(first|refine bH ?_ _|refine aK ?_|refine bG ?_ _));exact h_):aA (g≠g'):=⟨by rw[hg];exact Nat.ne_of_lt (pX (h B.out))⟩
theorem pkM{W0 W:World}{g g':Nat}{o:Obj}(B:aA (W0.heap[g]? =some o))(hg:g'=W.heap.size)(h:W0.heap[g]? =some o→W.heap[g]? =some o:=by intro h_;(with_reducible repeat(first|refine bH ?_ _|refine aK ?_|refine bG ?_ _));exact h_):aA (g'≠g):=⟨by rw[hg];exact Nat.ne_of_gt (pX (h B.out))⟩
end Go.Proofs.YtignanmmgaldeaaGreatDoorW.PrintWords
end
section
set_option linter.unusedVariables false
set_option linter.unusedSimpArgs false
set_option maxHeartbeats 8000000
set_option maxRecDepth 100000
namespace Go.Proofs.YtignanmmgaldeaaGreatDoor.PRefA
open Go.RowKit Go.Proofs.YtignanmmgaldeaaGreatDoorW.PrintWords Go.Proofs.YtignanmmgaldeaaGreatDoorW.PrintLast Go.Proofs.YtignanmmgaldeaaGreatDoorW.PrintMore
attribute [local go_sem] dQ dR eH eP
def bI.f(a0:ByteArray):Option (Int):=if a0.toList=([48]:List UInt8) then(some 0) else((aH.f a0).bind fun t192=>(if t192=true then(some (-1)) else(some 1)))
theorem bI.calls(a0:ByteArray)(r:Int)(w:World)(h:bI.f a0=some r) :
 Calls Tryz.prog 142 #[.string a0] w fun e w'=>e= .returned (.int .i64 r)∧eQ w w':=by
 have H:(if a0.toList=([48]:List UInt8) then(some 0) else((aH.f a0).bind fun l9=>(if l9=true then(some (-1)) else(some 1))))=some r:=h;clear h;go_enter Tryz.func142,Tryz.ntmps142
 refine byC (P:=a0.toList=([48]:List UInt8)) (fun c2=> ?a36) (fun c2=> ?b36)
 case' a36=>
  rw[if_pos c2] at H;obtain⟨o5,o6⟩:=bT c2;clear c2;obtain rfl:=Option.some.inj H
 case' b36=>
  rw[if_neg c2] at H;obtain⟨o5,o6⟩:=bF c2;obtain⟨l9,A3,H⟩:=bi H;try dsimp only at H
  refine byC (P:=l9=true) (fun c4=> ?a37) (fun c4=> ?b37)
  case' a37=>
   subst c4;rw[if_pos rfl] at H;obtain rfl:=Option.some.inj H
  case' b37=>
   replace c4:=Bool.eq_false_iff.mpr c4;subst c4;rw[if_neg (show ¬(false=true) by decide)] at H;obtain rfl:=Option.some.inj H
 all_goals
  go_wp2_with(first|((with_reducible refine aC (f:=158) rfl ?_);refine gl_ 6 Tryz.func158 #[.string a0] (h:= ?_);(with_reducible refine(aH.calls a0 _ _ A3.out).mono ?_);rintro e w' ⟨rfl,⟨nd,rfl⟩⟩;refine⟨_,rfl,?_⟩))
  go_ret
  exact dr_
def dX.f(k:Nat)(a0:ByteArray)(a1:ByteArray):Option (Int):=(bI.f a0).bind fun t193=>((bI.f a1).bind fun t194=>(if t193=t194 then((aX.f k a0).bind fun t195=>((aU.f k t195).bind fun t198=>((aX.f k a1).bind fun t201=>((aU.f k t201).bind fun t204=>((dP.f k t198 t204).bind fun t207=>(some (wrap64 (t193*t207)))))))) else(if t193<t194 then(some (-1)) else(some 1))))
theorem dX.calls(k:Nat)(a0:ByteArray)(a1:ByteArray)(r:Int)(w:World)(h:dX.f k a0 a1=some r) :
 Calls Tryz.prog 186 #[.string a0,.string a1] w fun e w'=>e= .returned (.int .i64 r)∧Below w.heap.size w w':=by
 have HB:=aA.mk (Below.refl w.heap.size w);have H:((bI.f a0).bind fun o6=>((bI.f a1).bind fun y8=>(if o6=y8 then((aX.f k a0).bind fun o7=>((aU.f k o7).bind fun y9=>((aX.f k a1).bind fun o8=>((aU.f k o8).bind fun C9=>((dP.f k y9 C9).bind fun D5=>(some (wrap64 (o6*D5)))))))) else(if o6<y8 then(some (-1)) else(some 1)))))=some r:=h;clear h;obtain⟨o6,A3,H⟩:=bi H;try dsimp only at H
 obtain⟨y8,A4,H⟩:=bi H;try dsimp only at H
 go_enter Tryz.func186,Tryz.ntmps186
 refine byC (P:=o6=y8) (fun c5=> ?a38) (fun c5=> ?b38)
 case' a38=>
  rw[if_pos c5] at H;obtain⟨F7,F8⟩:=bT c5;clear c5;obtain⟨o7,A6,H⟩:=bi H;try dsimp only at H
  obtain⟨y9,A7,H⟩:=bi H;try dsimp only at H
  obtain⟨o8,A8,H⟩:=bi H;try dsimp only at H
  obtain⟨C9,A9,H⟩:=bi H;try dsimp only at H
  obtain⟨D5,F9,H⟩:=bi H;try dsimp only at H
  obtain rfl:=Option.some.inj H
 case' b38=>
  rw[if_neg c5] at H;obtain⟨F7,F8⟩:=bF c5;refine byC (P:=o6<y8) (fun o9=> ?a39) (fun o9=> ?b39)
  case' a39=>
   rw[if_pos o9] at H;have G5:=decide_eq_true o9;clear o9;obtain rfl:=Option.some.inj H
  case' b39=>
   rw[if_neg o9] at H;have G5:=decide_eq_false o9;clear o9;obtain rfl:=Option.some.inj H
 all_goals
  go_wp2_with(first|((with_reducible refine aC (f:=142) rfl ?_);refine gl_ 8 Tryz.func142 #[.string a0] (h:= ?_);(with_reducible refine(bI.calls a0 o6 _ A3.out).mono ?_);rintro e w' ⟨rfl,⟨nd,rfl⟩⟩;refine⟨_,rfl,?_⟩)|((with_reducible refine aC (f:=142) rfl ?_);refine gl_ 10 Tryz.func142 #[.string a1] (h:= ?_);(with_reducible refine(bI.calls a1 y8 _ A4.out).mono ?_);rintro e w' ⟨rfl,⟨nd,rfl⟩⟩;refine⟨_,rfl,?_⟩)|((with_reducible refine aC (f:=156) rfl ?_);refine gl_ 19 Tryz.func156 #[.string a0] (h:= ?_);(with_reducible refine(aX.calls k a0 o7 _ A6.out).mono ?_);rintro e H9 ⟨v196,rfl,l9,hb⟩;refine⟨_,rfl,?_⟩;have F6:=aA.mk (Kd.gU l9 (dJ (pkL HB)));replace HB:=pkB HB hb;try clear hb;(try clear l9);obtain⟨D6,D7,G6⟩:=Kd.fA F6.out;subst G6)|((with_reducible refine aC (f:=155) rfl ?_);refine gl_ 20 Tryz.func155 #[.slice D6 o7.length D7] (h:= ?_);(with_reducible refine(aU.calls k (fun k_=>some k_=(.slice D6 o7.length D7:Value).ownBlock) (.slice D6 o7.length D7) o7 y9 w _ ?side1 ?side2 A7.out).mono ?_);(case side1=>repeat(first|(with_reducible first|exact HB.out|apply aT|apply aI|apply aJ)|exact HB.out));(case side2=>exact Kd.kE rfl F6.out);rintro e I4 ⟨v199,rfl,l9,hb,hkp⟩;refine⟨_,rfl,?_⟩;have o5:=aA.mk (Kd.dK (ok':=fun k_=>True) l9 (fun k_ hk_=>trivial));replace HB:=aA.mk (hb);(try clear hb);(try clear hkp);(try clear l9))|((with_reducible refine aC (f:=156) rfl ?_);refine gl_ 22 Tryz.func156 #[.string a1] (h:= ?_);(with_reducible refine(aX.calls k a1 o8 _ A8.out).mono ?_);rintro e I5 ⟨v202,rfl,l9,hb⟩;refine⟨_,rfl,?_⟩;have n0_:=aA.mk (Kd.mZ (by(with_reducible repeat(first|apply Kd.aQ|apply Kd.aN|apply Kd.aW));exact o5.out) (Kd.lM l9) hb);have n1_:=aA.mk (Kd.gU (Kd.lN l9 (Kd.R_lt (by(with_reducible repeat(first|apply Kd.aQ|apply Kd.aN|apply Kd.aW));exact o5.out))) (dJ (pkL HB)));have n2_:=pkB HB hb;clear o5;clear HB;have o5:=n0_;have D8:=n1_;have HB:=n2_;clear n0_ n1_ n2_;try clear hb;(try clear l9);obtain⟨D9,E8,G7⟩:=Kd.fA D8.out;subst G7)|((with_reducible refine aC (f:=155) rfl ?_);refine gl_ 23 Tryz.func155 #[.slice D9 o8.length E8] (h:= ?_);(with_reducible refine(aU.calls k (fun k_=>some k_=(.slice D9 o8.length E8:Value).ownBlock) (.slice D9 o8.length E8) o8 C9 w _ ?side1 ?side2 A9.out).mono ?_);(case side1=>repeat(first|(with_reducible first|exact HB.out|apply aT|apply aI|apply aJ)|exact HB.out));(case side2=>exact Kd.kE rfl D8.out);rintro e I7 ⟨v205,rfl,l9,hb,hkp⟩;refine⟨_,rfl,?_⟩;have n0_:=aA.mk (Kd.dK (ok':=fun k_=>some k_≠(v205:Value).ownBlock) (Kd.mY (o5.out) hkp (fun k_ hk_ hs_=>(hk_.2) hs_)) (fun k_ hk_=>fun e_=>Or.elim (l9.1 k_ e_.symm) (fun hs_=>hk_.2.1 hs_) (fun hn_=>Nat.not_le.2 hk_.2.2 hn_)));have n1_:=aA.mk (Kd.dK (ok':=fun k_=>some k_≠(v199:Value).ownBlock) l9 (fun k_ hk_=>Or.elim hk_ (fun hs_=>fun e_=>(((o5.out).1 k_ e_.symm).2) hs_) (fun hn_=>(Kd.fresh' (Kd.R_lt (by(with_reducible repeat(first|apply Kd.aQ|apply Kd.aN|apply Kd.aW));exact o5.out)) k_ hn_))));have n2_:=aA.mk (hb);clear o5;clear HB;clear D8;have o5:=n0_;have F5:=n1_;have HB:=n2_;clear n0_ n1_ n2_;(try clear hb);(try clear hkp);(try clear l9);obtain⟨G8,G9,H5⟩:=Kd.fA o5.out;subst H5;obtain⟨H6,H7,H8⟩:=Kd.fA F5.out;subst H8)|((with_reducible refine aC (f:=161) rfl ?_);refine gl_ 24 Tryz.func161 #[.slice G8 y9.length G9,.slice H6 C9.length H7] (h:= ?_);(with_reducible refine(dP.calls k _ _ y9 _ _ C9 D5 _ ?side1 ?side2 ?side3 ?side4 F9.out).mono ?_);(case side1=>repeat(first|exact(Kd.dB o5.out).2.2|(with_reducible refine Kd.gI ?_ _)|(with_reducible refine Kd.gJ ?_ _)|(with_reducible refine Kd.iJ ?_)));(case side2=>exact(Kd.dB o5.out).2.1);(case side3=>repeat(first|exact(Kd.dB F5.out).2.2|(with_reducible refine Kd.gI ?_ _)|(with_reducible refine Kd.gJ ?_ _)|(with_reducible refine Kd.iJ ?_)));(case side4=>exact(Kd.dB F5.out).2.1);rintro e w' ⟨rfl,⟨nd,rfl⟩⟩;refine⟨_,rfl,?_⟩))
  go_ret
  exact pkE HB
def iH.f(k:Nat)(a0:ByteArray)(a1:ByteArray):Option (Bool):=(dX.f k a0 a1).bind fun t208=>(some (decide (t208<0)))
theorem iH.calls(k:Nat)(a0:ByteArray)(a1:ByteArray)(r:Bool)(w:World)(h:iH.f k a0 a1=some r) :
 Calls Tryz.prog 143 #[.string a0,.string a1] w fun e w'=>e= .returned (.bool r)∧Below w.heap.size w w':=by
 have HB:=aA.mk (Below.refl w.heap.size w);have H:((dX.f k a0 a1).bind fun l9=>(some (decide (l9<0))))=some r:=h;clear h;obtain⟨l9,A3,H⟩:=bi H;try dsimp only at H
 obtain rfl:=Option.some.inj H;go_enter Tryz.func143,Tryz.ntmps143
 go_wp2_with(first|(refine gM 7 Tryz.func186 (dX.calls (w:=_) (h:=A3.out)) (h:= ?_);intro w4 hb;replace HB:=pkB HB hb;try clear hb))
 go_ret
 exact pkE HB
end Go.Proofs.YtignanmmgaldeaaGreatDoor.PRefA
end
