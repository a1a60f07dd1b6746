/- Lemmas for the proof. -/
import Derived.Test.YtignanmmgaldeaaGreatDoorYK
section
set_option linter.unusedVariables false
set_option linter.unusedSimpArgs false
namespace Go.Proofs.YtignanmmgaldeaaGreatDoor.PCongruenceMeets
open Go.Proofs.YtignanmmgaldeaaGreatDoor.PLawB
open Go.RowKit Go.Proofs.YtignanmmgaldeaaGreatDoorW.PrintWords Go.Proofs.YtignanmmgaldeaaGreatDoorW.PrintLast Go.Proofs.YtignanmmgaldeaaGreatDoorW.PrintMore
attribute [local go_sem] gI gJ iE iF
def errW:Option Int→Value
 |none=> .nilIface
 |some c=> .iface 0 (.int .i64 c)
theorem dW:errW none= .nilIface:=rfl
theorem dX(c:Int):errW (some c)= .iface 0 (.int .i64 c):=rfl
end Go.Proofs.YtignanmmgaldeaaGreatDoor.PCongruenceMeets
end
section
set_option linter.unusedVariables false
set_option linter.unusedSimpArgs false
set_option maxHeartbeats 8000000
set_option maxRecDepth 100000
namespace Go.Proofs.YtignanmmgaldeaaGreatDoor.PCongruenceMeets
open Go.Proofs.YtignanmmgaldeaaGreatDoor.PLawB
open Go.RowKit Go.Proofs.YtignanmmgaldeaaGreatDoorW.PrintWords Go.Proofs.YtignanmmgaldeaaGreatDoorW.PrintLast Go.Proofs.YtignanmmgaldeaaGreatDoorW.PrintMore
attribute [local go_sem] gI gJ iE iF
mutual
def aK.j0:Nat→ByteArray→Bool→Bool→ByteArray→ByteArray→Bool→ByteArray→ByteArray→Bool→ByteArray→ByteArray→Bool→ByteArray→ByteArray→Option (Bool)
 |0,_,_,_,_,_,_,_,_,_,_,_,_,_,_=>none
 |k+1,x2,x68,x102000,x102001,x102002,x103000,x103001,x103002,x116000,x116001,x116002,x121000,x121001,x121002=>if x68=true then(some false) else((dJ.f x102000 x102001 x102002 x2).bind fun t125=>((dJ.f x103000 x103001 x103002 x2).bind fun t126=>(if t125=true then((dJ.f x121000 x121001 x121002 x2).bind fun t127=>(if t127=true then(if t126=true then((dJ.f x116000 x116001 x116002 x2).bind fun t128=>(aK.j1 k x2 t125 t126 (!t128) x102000 x102001 x102002 x103000 x103001 x103002 x116000 x116001 x116002 x121000 x121001 x121002)) else(aK.j1 k x2 t125 t126 false x102000 x102001 x102002 x103000 x103001 x103002 x116000 x116001 x116002 x121000 x121001 x121002)) else(aK.j1 k x2 t125 t126 true x102000 x102001 x102002 x103000 x103001 x103002 x116000 x116001 x116002 x121000 x121001 x121002))) else(if t126=true then((dJ.f x121000 x121001 x121002 x2).bind fun t129=>(if t129=true then(aK.j1 k x2 t125 t126 false x102000 x102001 x102002 x103000 x103001 x103002 x116000 x116001 x116002 x121000 x121001 x121002) else(aK.j1 k x2 t125 t126 true x102000 x102001 x102002 x103000 x103001 x103002 x116000 x116001 x116002 x121000 x121001 x121002))) else(aK.j1 k x2 t125 t126 false x102000 x102001 x102002 x103000 x103001 x103002 x116000 x116001 x116002 x121000 x121001 x121002)))))
def aK.j1:Nat→ByteArray→Bool→Bool→Bool→Bool→ByteArray→ByteArray→Bool→ByteArray→ByteArray→Bool→ByteArray→ByteArray→Bool→ByteArray→ByteArray→Option (Bool)
 |0,_,_,_,_,_,_,_,_,_,_,_,_,_,_,_,_=>none
 |k+1,x2,x15,x16,x96,x102000,x102001,x102002,x103000,x103001,x103002,x116000,x116001,x116002,x121000,x121001,x121002=>if x96=true then(some false) else((iI.f (([(⟨x102000,x102001,x102002⟩:S36),(⟨x103000,x103001,x103002⟩:S36)]:List (S36)))).bind fun t133=>(if t133=true then((dP.f).bind fun t134=>(some t134)) else((dJ.f x116000 x116001 x116002 x2).bind fun t135=>(if x15=true then(aK.j2 k x2 (t135 != x16) x102000 x102001 x102002 x103000 x103001 x103002 x121000 x121001 x121002) else(aK.j2 k x2 (t135 != false) x102000 x102001 x102002 x103000 x103001 x103002 x121000 x121001 x121002)))))
def aK.j2:Nat→ByteArray→Bool→Bool→ByteArray→ByteArray→Bool→ByteArray→ByteArray→Bool→ByteArray→ByteArray→Option (Bool)
 |0,_,_,_,_,_,_,_,_,_,_,_=>none
 |k+1,x2,x109,x102000,x102001,x102002,x103000,x103001,x103002,x121000,x121001,x121002=>if x109=true then(some false) else((vU.f x2).bind fun bt136=>((dZ.f bt136.1 bt136.2.1 bt136.2.2.1 x102000 x102001 x102002).bind fun bt141=>((dZ.f bt141.1 bt141.2.1 bt141.2.2.1 x103000 x103001 x103002).bind fun bt146=>((fD.f x121000 x121001 x121002 bt146.1 bt146.2.1 bt146.2.2.1).bind fun bt151=>(if(wrap64 ((wrap64 ((wrap64 (bt136.2.2.2+bt141.2.2.2))+bt146.2.2.2))+bt151.2))=0 then(if bt151.1=true then((dP.f).bind fun t153=>(some t153)) else(some false)) else(some false))))))
end
def aK.f(k:Nat)(a0_0:Bool)(a0_1:ByteArray)(a0_2:ByteArray)(a1_0:Bool)(a1_1:ByteArray)(a1_2:ByteArray)(a2:ByteArray):Option (Bool):=(eY.f (([(⟨a0_0,a0_1,a0_2⟩:S36),(⟨a1_0,a1_1,a1_2⟩:S36)]:List (S36))) (([a2]:List ByteArray))).bind fun t109=>(if t109=true then((eX.f a0_0 a0_1 a0_2 a1_0 a1_1 a1_2).bind fun bt111=>((dZ.f a0_0 a0_1 a0_2 a1_0 a1_1 a1_2).bind fun bt116=>((fD.f a0_0 a0_1 a0_2 bt116.1 bt116.2.1 bt116.2.2.1).bind fun bt121=>((fD.f a1_0 a1_1 a1_2 bt116.1 bt116.2.1 bt116.2.2.1).bind fun bt123=>(if(wrap64 ((wrap64 ((wrap64 (bt111.2.2.2+bt116.2.2.2))+bt121.2))+bt123.2))=0 then(if bt121.1=true then(aK.j0 k a2 (!bt123.1) a0_0 a0_1 a0_2 a1_0 a1_1 a1_2 bt111.1 bt111.2.1 bt111.2.2.1 bt116.1 bt116.2.1 bt116.2.2.1) else(aK.j0 k a2 true a0_0 a0_1 a0_2 a1_0 a1_1 a1_2 bt111.1 bt111.2.1 bt111.2.2.1 bt116.1 bt116.2.1 bt116.2.2.1)) else(aK.j0 k a2 true a0_0 a0_1 a0_2 a1_0 a1_1 a1_2 bt111.1 bt111.2.1 bt111.2.2.1 bt116.1 bt116.2.1 bt116.2.2.1)))))) else((dP.f).bind fun t110=>(some t110)))
def aK.T9:Bool×List (List Nat×List Nat):=(true,[([],[]),([],[]),([0,1],[0,1]),([],[]),([],[]),([3,4,2],[3,4]),([2,5,0,1,2],[2]),([5,6,0,1,2,3,4,5,6],[5])])
def aK.B9:List Nat:= [0,0,3,0,0,31,63,127]
theorem aK.tab9:rtab .any (opsOf Tryz.f15 9)=aK.T9:=by kernel_rfl
theorem aK.bits9:kV aK.T9.2 aK.B9=true:=by kernel_rfl
theorem aK.calls(k:Nat)(a0_0:Bool)(a0_1:ByteArray)(a0_2:ByteArray)(a1_0:Bool)(a1_1:ByteArray)(a1_2:ByteArray)(a2:ByteArray)(r:Bool)(w:World)(hG:GW w)(hrT:r=true)(h:aK.f k a0_0 a0_1 a0_2 a1_0 a1_1 a1_2 a2=some r) :
 Calls Tryz.prog 15 #[.agg #[.bool a0_0,.string a0_1,.string a0_2],.agg #[.bool a1_0,.string a1_1,.string a1_2],.string a2] w fun e w'=>e= .returned (.bool r)∧Below w.heap.size w w':=by
 have HG:=aA.mk hG;clear hG;have hu36:=Tryz.underlying36;have HB:=aA.mk (Below.refl w.heap.size w);have H:((eY.f (([(⟨a0_0,a0_1,a0_2⟩:S36),(⟨a1_0,a1_1,a1_2⟩:S36)]:List (S36))) (([a2]:List ByteArray))).bind fun t109=>(if t109=true then((eX.f a0_0 a0_1 a0_2 a1_0 a1_1 a1_2).bind fun bt111=>((dZ.f a0_0 a0_1 a0_2 a1_0 a1_1 a1_2).bind fun bt116=>((fD.f a0_0 a0_1 a0_2 bt116.1 bt116.2.1 bt116.2.2.1).bind fun bt121=>((fD.f a1_0 a1_1 a1_2 bt116.1 bt116.2.1 bt116.2.2.1).bind fun bt123=>(if(wrap64 ((wrap64 ((wrap64 (bt111.2.2.2+bt116.2.2.2))+bt121.2))+bt123.2))=0 then(if bt121.1=true then(aK.j0 k a2 (!bt123.1) a0_0 a0_1 a0_2 a1_0 a1_1 a1_2 bt111.1 bt111.2.1 bt111.2.2.1 bt116.1 bt116.2.1 bt116.2.2.1) else(aK.j0 k a2 true a0_0 a0_1 a0_2 a1_0 a1_1 a1_2 bt111.1 bt111.2.1 bt111.2.2.1 bt116.1 bt116.2.1 bt116.2.2.1)) else(aK.j0 k a2 true a0_0 a0_1 a0_2 a1_0 a1_1 a1_2 bt111.1 bt111.2.1 bt111.2.2.1 bt116.1 bt116.2.1 bt116.2.2.1)))))) else((dP.f).bind fun t110=>(some t110))))=some r:=h;clear h;obtain⟨y103,hy103⟩:∃y_:List (S36),y_=(([(⟨a0_0,a0_1,a0_2⟩:S36),(⟨a1_0,a1_1,a1_2⟩:S36)]:List (S36))):=⟨_,rfl⟩
 replace H:((eY.f y103 (([a2]:List ByteArray))).bind fun t109=>(if t109=true then((eX.f a0_0 a0_1 a0_2 a1_0 a1_1 a1_2).bind fun bt111=>((dZ.f a0_0 a0_1 a0_2 a1_0 a1_1 a1_2).bind fun bt116=>((fD.f a0_0 a0_1 a0_2 bt116.1 bt116.2.1 bt116.2.2.1).bind fun bt121=>((fD.f a1_0 a1_1 a1_2 bt116.1 bt116.2.1 bt116.2.2.1).bind fun bt123=>(if(wrap64 ((wrap64 ((wrap64 (bt111.2.2.2+bt116.2.2.2))+bt121.2))+bt123.2))=0 then(if bt121.1=true then(aK.j0 k a2 (!bt123.1) a0_0 a0_1 a0_2 a1_0 a1_1 a1_2 bt111.1 bt111.2.1 bt111.2.2.1 bt116.1 bt116.2.1 bt116.2.2.1) else(aK.j0 k a2 true a0_0 a0_1 a0_2 a1_0 a1_1 a1_2 bt111.1 bt111.2.1 bt111.2.2.1 bt116.1 bt116.2.1 bt116.2.2.1)) else(aK.j0 k a2 true a0_0 a0_1 a0_2 a1_0 a1_1 a1_2 bt111.1 bt111.2.1 bt111.2.2.1 bt116.1 bt116.2.1 bt116.2.2.1)))))) else((dP.f).bind fun t110=>(some t110))))=some r:=by first|(rw[hy103];with_reducible exact H)|(have H2_:=(Option.bind_some _ _).symm.trans H;rw[hy103];with_reducible exact H2_)|(have H2_:=(Option.bind_some _ _).symm.trans H;with_reducible exact H2_)|with_reducible exact H|(rw[hy103];exact H)|exact H
 have Ny103:=aA.mk hy103;clear hy103;obtain⟨y106,hy106⟩:∃y_:List ByteArray,y_=(([a2]:List ByteArray)):=⟨_,rfl⟩
 replace H:((eY.f y103 y106).bind fun t109=>(if t109=true then((eX.f a0_0 a0_1 a0_2 a1_0 a1_1 a1_2).bind fun bt111=>((dZ.f a0_0 a0_1 a0_2 a1_0 a1_1 a1_2).bind fun bt116=>((fD.f a0_0 a0_1 a0_2 bt116.1 bt116.2.1 bt116.2.2.1).bind fun bt121=>((fD.f a1_0 a1_1 a1_2 bt116.1 bt116.2.1 bt116.2.2.1).bind fun bt123=>(if(wrap64 ((wrap64 ((wrap64 (bt111.2.2.2+bt116.2.2.2))+bt121.2))+bt123.2))=0 then(if bt121.1=true then(aK.j0 k a2 (!bt123.1) a0_0 a0_1 a0_2 a1_0 a1_1 a1_2 bt111.1 bt111.2.1 bt111.2.2.1 bt116.1 bt116.2.1 bt116.2.2.1) else(aK.j0 k a2 true a0_0 a0_1 a0_2 a1_0 a1_1 a1_2 bt111.1 bt111.2.1 bt111.2.2.1 bt116.1 bt116.2.1 bt116.2.2.1)) else(aK.j0 k a2 true a0_0 a0_1 a0_2 a1_0 a1_1 a1_2 bt111.1 bt111.2.1 bt111.2.2.1 bt116.1 bt116.2.1 bt116.2.2.1)))))) else((dP.f).bind fun t110=>(some t110))))=some r:=by first|(rw[hy106];with_reducible exact H)|(have H2_:=(Option.bind_some _ _).symm.trans H;rw[hy106];with_reducible exact H2_)|(have H2_:=(Option.bind_some _ _).symm.trans H;with_reducible exact H2_)|with_reducible exact H|(rw[hy106];exact H)|exact H
 have Ny106:=aA.mk hy106;clear hy106;obtain⟨t109,A4,H⟩:=bi H;try dsimp only at H
 by_cases c5:t109=true
 ·subst c5
  rw[if_pos rfl] at H;obtain⟨⟨t111,t112,t113,t114⟩,A6,H⟩:=bi H;try dsimp only at H
  obtain⟨⟨t116,t117,t118,t119⟩,A7,H⟩:=bi H;try dsimp only at H
  obtain⟨⟨t121,t122⟩,A8,H⟩:=bi H;try dsimp only at H
  obtain⟨⟨t123,t124⟩,A9,H⟩:=bi H;try dsimp only at H
  have HC10:=aA.mk H;clear H;go_enter Tryz.func15,Tryz.ntmps15
  go_upto_region 7 with (first|((with_reducible refine aJ (N:=3) rfl ?_);refine bx_ 3 36 #[.bool a0_0,.string a0_1,.string a0_2] (h:= ?_);intro gb101 hg w11 hbox hb;have BK101:=aA.mk (hbox);have GW101:=pkG HB hg;have GE101:=GW101;replace HB:=pkB HB hb;clear hb hbox hg)|((with_reducible refine aJ (N:=4) rfl ?_);refine bx_ 4 36 #[.bool a1_0,.string a1_1,.string a1_2] (h:= ?_);intro gb102 hg w12 hbox hb;have BK102:=aA.mk (hbox);have GW102:=pkG HB hg;have GE102:=GW102;obtain⟨NB101_102,NB102_101,_,_⟩:=pkQ BK101 hg;replace BK101:=pkK BK101 hb;replace HB:=pkB HB hb;clear hb hbox hg;have hnb13:=NB101_102.out;have hnc13:=NB102_101.out;obtain⟨⟨hcz14_0,hcz14_1,hcz14_2⟩,hfz14_0,hfz14_1,hfz14_2⟩:=pk3 BK101;obtain⟨⟨hcz15_0,hcz15_1,hcz15_2⟩,hfz15_0,hfz15_1,hfz15_2⟩:=pk3 BK102)|((with_reducible refine aJ (N:=23) rfl ?_);refine Kd.lV k36 _ 36 ?hg (N:=23) ?hd (xs:=([(⟨a0_0,a0_1,a0_2⟩:S36),(⟨a1_0,a1_1,a1_2⟩:S36)]:List (S36))) (inner:= [.bool a0_0,.string a0_1,.string a0_2,.bool a1_0,.string a1_1,.string a1_2]) (ok:=fun _=>True) (okp:=fun _=>True) ?hr ?hp (fun _ hk=>hk) trivial (Below.refl _ _) (Nat.le_refl _) aCq ?_;(case hd=>rfl);(case hg=>rfl);(case hr=>first|(go_simp;done)|(go_simp;rfl));(case hp=>exact(Reps.c3 (show Kd.M k36 _ _ _ (⟨a0_0,a0_1,a0_2⟩:S36) [.bool a0_0,.string a0_1,.string a0_2] from(iO _ _ _ (⟨a0_0,a0_1,a0_2⟩:S36))) (Reps.c3 (show Kd.M k36 _ _ _ (⟨a1_0,a1_1,a1_2⟩:S36) [.bool a1_0,.string a1_1,.string a1_2] from(iO _ _ _ (⟨a1_0,a1_1,a1_2⟩:S36))) (Reps.none _ _))));intro v104 w16 ho17 hb hg_ hnew_;clear hg_ hnew_;(first|rw[←Ny103.out] at ho17|(simp only[Int.reduceToNat] at ho17;rw[←Ny103.out] at ho17));have HO105:=aA.mk (Kd.jF (Kd.jD (Kd.jD ho17 (g:=gb101) (o:= .cells #[.bool a0_0,.string a0_1,.string a0_2] 36 (0,0)) (pkW BK101)) (g:=gb102) (o:= .cells #[.bool a1_0,.string a1_1,.string a1_2] 36 (0,0)) (pkW BK102)) (dU (pkL HB)));replace BK101:=pkK BK101 hb;replace BK102:=pkK BK102 hb;replace HB:=pkB HB hb;clear hb ho17)|((with_reducible refine aJ (N:=25) rfl ?_);refine Kd.lV Kd.string _ 22 ?hg (N:=25) ?hd (xs:=([a2]:List ByteArray)) (inner:= [.string a2]) (ok:=fun _=>True) (okp:=fun _=>True) ?hr ?hp (fun _ hk=>hk) trivial (Below.refl _ _) (Nat.le_refl _) aCq ?_;(case hd=>rfl);(case hg=>rfl);(case hr=>first|(go_simp;done)|(go_simp;rfl));(case hp=>exact(Reps.one (show Kd.M Kd.string _ _ _ a2 [.string a2] from rfl) (Reps.none _ _)));intro v107 w18 ho19 hb hg_ hnew_;clear hg_ hnew_;(first|rw[←Ny106.out] at ho19|(simp only[Int.reduceToNat] at ho19;rw[←Ny106.out] at ho19));have n0_:=aA.mk (Kd.dD (by(with_reducible repeat(first|apply Kd.aX|apply Kd.aY|apply Kd.bP));exact HO105.out) hb);have n1_:=aA.mk (Kd.jF ho19 (dU (pkL HB)));have n2_:=pkK BK101 hb;have n3_:=pkK BK102 hb;have n4_:=pkB HB hb;clear HO105;clear BK101;clear BK102;clear HB;have HO105:=n0_;have HO108:=n1_;have BK101:=n2_;have BK102:=n3_;have HB:=n4_;clear n0_ n1_ n2_ n3_ n4_;clear hb ho19;obtain⟨Ao20,co20,eo20⟩:=Kd.gY HO105.out;subst eo20;obtain⟨Ao21,co21,eo21⟩:=Kd.gY HO108.out;subst eo21)|((with_reducible refine aG (f:=46) rfl ?_);refine gl_ 26 Tryz.func46 #[.slice Ao20 y103.length co20,.slice Ao21 y106.length co21] (h:= ?_);(with_reducible refine(eY.calls _ _ y103 _ _ y106 true _ ?side1 ?side2 ?side3 ?side4 A4.out).mono ?_);(case side1=>repeat(first|exact(Kd.dH HO105.out).2.2|(with_reducible refine Kd.iZ ?_ _)|(with_reducible refine Kd.jA ?_ _)|(with_reducible refine Kd.jR ?_)));(case side2=>exact(Kd.dH HO105.out).2.1);(case side3=>repeat(first|exact(Kd.dH HO108.out).2.2|(with_reducible refine Kd.iZ ?_ _)|(with_reducible refine Kd.jA ?_ _)|(with_reducible refine Kd.jR ?_)));(case side4=>exact(Kd.dH HO108.out).2.1);rintro e w22 ⟨rfl,hb⟩;refine⟨_,rfl,?_⟩;replace HO105:=aA.mk (Kd.dD (by(with_reducible repeat(first|apply Kd.aX|apply Kd.aY|apply Kd.bP));exact HO105.out) hb);replace HO108:=aA.mk (Kd.dD (by(with_reducible repeat(first|apply Kd.aX|apply Kd.aY|apply Kd.bP));exact HO108.out) hb);replace BK101:=pkK BK101 hb;replace BK102:=pkK BK102 hb;replace HB:=pkB HB hb;try clear hb;obtain⟨⟨hcz23_0,hcz23_1,hcz23_2⟩,hfz23_0,hfz23_1,hfz23_2⟩:=pk3 BK101;obtain⟨⟨hcz24_0,hcz24_1,hcz24_2⟩,hfz24_0,hfz24_1,hfz24_2⟩:=pk3 BK102)|((with_reducible refine aG (f:=44) rfl ?_);refine gl_ 32 Tryz.func44 #[.agg #[.bool a0_0,.string a0_1,.string a0_2],.agg #[.bool a1_0,.string a1_1,.string a1_2]] (h:= ?_);(with_reducible refine(eX.calls (hG:=HG.out.below (pkL HB)) a0_0 a0_1 a0_2 a1_0 a1_1 a1_2 t111 t112 t113 t114 _ A6.out).mono ?_);rintro e w25 ⟨rfl,hb⟩;refine⟨_,rfl,?_⟩;replace HO105:=aA.mk (Kd.dD (by(with_reducible repeat(first|apply Kd.aX|apply Kd.aY|apply Kd.bP));exact HO105.out) hb);replace HO108:=aA.mk (Kd.dD (by(with_reducible repeat(first|apply Kd.aX|apply Kd.aY|apply Kd.bP));exact HO108.out) hb);replace BK101:=pkK BK101 hb;replace BK102:=pkK BK102 hb;replace HB:=pkB HB hb;try clear hb)|((with_reducible refine aJ (N:=7) rfl ?_);refine bx_ 7 36 #[.bool false,.string (⟨#[]⟩:ByteArray),.string (⟨#[]⟩:ByteArray)] (h:= ?_);intro gb115 hg w26 hbox hb;have n0_:=aA.mk (Kd.dD (Kd.R_elderB (by(with_reducible repeat(first|apply Kd.aX|apply Kd.aY|apply Kd.bP));exact HO105.out) gb115 (Nat.le_of_eq hg.symm)) hb);have n1_:=aA.mk (Kd.dD (by(with_reducible repeat(first|apply Kd.aX|apply Kd.aY|apply Kd.bP));exact HO108.out) hb);have n2_:=pkK BK101 hb;have n3_:=pkK BK102 hb;have n4_:=pkB HB hb;have n5_:=aA.mk (hbox);have n6_:=pkG HB hg;have n7_:=pkG HB hg;have n8_:=pkN BK101 hg;have n9_:=pkM BK101 hg;have n10_:=pkN BK102 hg;have n11_:=pkM BK102 hg;clear HO105;clear HO108;clear BK101;clear BK102;clear HB;have HO105:=n0_;have HO108:=n1_;have BK101:=n2_;have BK102:=n3_;have HB:=n4_;have BK115:=n5_;have GW115:=n6_;have GE115:=n7_;have NB101_115:=n8_;have NB115_101:=n9_;have NB102_115:=n10_;have NB115_102:=n11_;clear n0_ n1_ n2_ n3_ n4_ n5_ n6_ n7_ n8_ n9_ n10_ n11_;clear hb hbox hg;have hnb27:=NB115_101.out;have hnc27:=NB101_115.out;have hnb28:=NB115_102.out;have hnc28:=NB102_115.out;obtain⟨⟨hcz29_0,hcz29_1,hcz29_2⟩,hfz29_0,hfz29_1,hfz29_2⟩:=pk3 BK115;obtain⟨⟨hcz30_0,hcz30_1,hcz30_2⟩,hfz30_0,hfz30_1,hfz30_2⟩:=pk3 BK101;obtain⟨⟨hcz31_0,hcz31_1,hcz31_2⟩,hfz31_0,hfz31_1,hfz31_2⟩:=pk3 BK102)|((with_reducible refine aG (f:=42) rfl ?_);refine gl_ 38 Tryz.func42 #[.agg #[.bool a0_0,.string a0_1,.string a0_2],.agg #[.bool a1_0,.string a1_1,.string a1_2]] (h:= ?_);(with_reducible refine(dZ.calls (hG:=HG.out.below (pkL HB)) a0_0 a0_1 a0_2 a1_0 a1_1 a1_2 t116 t117 t118 t119 _ A7.out).mono ?_);rintro e w32 ⟨rfl,hb⟩;refine⟨_,rfl,?_⟩;have n0_:=aA.mk (Kd.dD (by(with_reducible repeat(first|apply Kd.aX|apply Kd.aY|apply Kd.bP));exact(Kd.jO (Kd.sF (p:=⟨gb115,2,none⟩) (Kd.sF (p:=⟨gb115,1,none⟩) (Kd.sF (p:=⟨gb115,0,none⟩) (Kd.jO HO105.out (fun k_ hk=>(⟨hk,hk.2⟩:_∧k_≠gb115))) (fun _ hk=>hk.2) (.bool t111)) (fun _ hk=>hk.2) (.string t112)) (fun _ hk=>hk.2) (.string t113)) (fun _ h_=>h_.1))) hb);have n1_:=aA.mk (Kd.dD (by(with_reducible repeat(first|apply Kd.aX|apply Kd.aY|apply Kd.bP));exact(Kd.jO (Kd.sF (p:=⟨gb115,2,none⟩) (Kd.sF (p:=⟨gb115,1,none⟩) (Kd.sF (p:=⟨gb115,0,none⟩) (Kd.R_types HO108.out BK115.out aCr) (fun _ hk=>hk.2) (.bool t111)) (fun _ hk=>hk.2) (.string t112)) (fun _ hk=>hk.2) (.string t113)) (fun _ h_=>h_.1))) hb);have n2_:=pkF BK101 hb;have n3_:=pkF BK102 hb;have n4_:=aA.mk (dF (g:=gb115) (o:= .cells #[.bool t111,.string t112,.string t113] 36 (0,0)) (pkS3 BK115) hb);have n5_:=pkB HB hb;clear HO105;clear HO108;clear BK101;clear BK102;clear BK115;clear HB;have HO105:=n0_;have HO108:=n1_;have BK101:=n2_;have BK102:=n3_;have BK115:=n4_;have HB:=n5_;clear n0_ n1_ n2_ n3_ n4_ n5_;try clear hb)|((with_reducible refine aJ (N:=9) rfl ?_);refine bx_ 9 36 #[.bool false,.string (⟨#[]⟩:ByteArray),.string (⟨#[]⟩:ByteArray)] (h:= ?_);intro gb120 hg w33 hbox hb;have n0_:=aA.mk (Kd.dD (Kd.R_elderB (by(with_reducible repeat(first|apply Kd.aX|apply Kd.aY|apply Kd.bP));exact HO105.out) gb120 (Nat.le_of_eq hg.symm)) hb);have n1_:=aA.mk (Kd.dD (by(with_reducible repeat(first|apply Kd.aX|apply Kd.aY|apply Kd.bP));exact HO108.out) hb);have n2_:=pkK BK101 hb;have n3_:=pkK BK102 hb;have n4_:=pkK BK115 hb;have n5_:=pkB HB hb;have n6_:=aA.mk (hbox);have n7_:=pkG HB hg;have n8_:=pkG HB hg;have n9_:=pkN BK101 hg;have n10_:=pkM BK101 hg;have n11_:=pkN BK102 hg;have n12_:=pkM BK102 hg;have n13_:=pkN BK115 hg;have n14_:=pkM BK115 hg;clear HO105;clear HO108;clear BK101;clear BK102;clear BK115;clear HB;have HO105:=n0_;have HO108:=n1_;have BK101:=n2_;have BK102:=n3_;have BK115:=n4_;have HB:=n5_;have BK120:=n6_;have GW120:=n7_;have GE120:=n8_;have NB101_120:=n9_;have NB120_101:=n10_;have NB102_120:=n11_;have NB120_102:=n12_;have NB115_120:=n13_;have NB120_115:=n14_;clear n0_ n1_ n2_ n3_ n4_ n5_ n6_ n7_ n8_ n9_ n10_ n11_ n12_ n13_ n14_;clear hb hbox hg;have hnb34:=NB120_101.out;have hnc34:=NB101_120.out;have hnb35:=NB120_102.out;have hnc35:=NB102_120.out;have hnb36:=NB120_115.out;have hnc36:=NB115_120.out;obtain⟨⟨hcz37_0,hcz37_1,hcz37_2⟩,hfz37_0,hfz37_1,hfz37_2⟩:=pk3 BK120;obtain⟨⟨hcz38_0,hcz38_1,hcz38_2⟩,hfz38_0,hfz38_1,hfz38_2⟩:=pk3 BK101)|((with_reducible refine aG (f:=40) rfl ?_);refine gl_ 44 Tryz.func40 #[.agg #[.bool a0_0,.string a0_1,.string a0_2],.agg #[.bool t116,.string t117,.string t118]] (h:= ?_);(with_reducible refine(fD.calls (hG:=HG.out.below (pkL HB)) a0_0 a0_1 a0_2 t116 t117 t118 t121 t122 _ A8.out).mono ?_);rintro e w39 ⟨rfl,hb⟩;refine⟨_,rfl,?_⟩;have n0_:=aA.mk (Kd.dD (by(with_reducible repeat(first|apply Kd.aX|apply Kd.aY|apply Kd.bP));exact(Kd.jO (Kd.sF (p:=⟨gb120,2,none⟩) (Kd.sF (p:=⟨gb120,1,none⟩) (Kd.sF (p:=⟨gb120,0,none⟩) (Kd.jO HO105.out (fun k_ hk=>(⟨hk,hk.2⟩:_∧k_≠gb120))) (fun _ hk=>hk.2) (.bool t116)) (fun _ hk=>hk.2) (.string t117)) (fun _ hk=>hk.2) (.string t118)) (fun _ h_=>h_.1))) hb);have n1_:=aA.mk (Kd.dD (by(with_reducible repeat(first|apply Kd.aX|apply Kd.aY|apply Kd.bP));exact(Kd.jO (Kd.sF (p:=⟨gb120,2,none⟩) (Kd.sF (p:=⟨gb120,1,none⟩) (Kd.sF (p:=⟨gb120,0,none⟩) (Kd.R_types HO108.out BK120.out aCr) (fun _ hk=>hk.2) (.bool t116)) (fun _ hk=>hk.2) (.string t117)) (fun _ hk=>hk.2) (.string t118)) (fun _ h_=>h_.1))) hb);have n2_:=pkF BK101 hb;have n3_:=pkF BK102 hb;have n4_:=pkF BK115 hb;have n5_:=aA.mk (dF (g:=gb120) (o:= .cells #[.bool t116,.string t117,.string t118] 36 (0,0)) (pkS3 BK120) hb);have n6_:=pkB HB hb;clear HO105;clear HO108;clear BK101;clear BK102;clear BK115;clear BK120;clear HB;have HO105:=n0_;have HO108:=n1_;have BK101:=n2_;have BK102:=n3_;have BK115:=n4_;have BK120:=n5_;have HB:=n6_;clear n0_ n1_ n2_ n3_ n4_ n5_ n6_;try clear hb;obtain⟨⟨hcz40_0,hcz40_1,hcz40_2⟩,hfz40_0,hfz40_1,hfz40_2⟩:=pk3 BK102;obtain⟨⟨hcz41_0,hcz41_1,hcz41_2⟩,hfz41_0,hfz41_1,hfz41_2⟩:=pk3 BK120)|((with_reducible refine aG (f:=40) rfl ?_);refine gl_ 50 Tryz.func40 #[.agg #[.bool a1_0,.string a1_1,.string a1_2],.agg #[.bool t116,.string t117,.string t118]] (h:= ?_);(with_reducible refine(fD.calls (hG:=HG.out.below (pkL HB)) a1_0 a1_1 a1_2 t116 t117 t118 t123 t124 _ A9.out).mono ?_);rintro e w42 ⟨rfl,hb⟩;refine⟨_,rfl,?_⟩;replace HO105:=aA.mk (Kd.dD (by(with_reducible repeat(first|apply Kd.aX|apply Kd.aY|apply Kd.bP));exact HO105.out) hb);replace HO108:=aA.mk (Kd.dD (by(with_reducible repeat(first|apply Kd.aX|apply Kd.aY|apply Kd.bP));exact HO108.out) hb);replace BK101:=pkK BK101 hb;replace BK102:=pkK BK102 hb;replace BK115:=pkK BK115 hb;replace BK120:=pkK BK120 hb;replace HB:=pkB HB hb;try clear hb))
  (try simp only[Act.put,List.setIfInBounds_toArray,List.set_cons_zero,List.set_cons_succ])
  go_cut [68] (fun v68 wc=>∃(kq:Nat) (x68_9:Bool),v68= .bool x68_9∧aA (aK.j0 kq a2 x68_9 a0_0 a0_1 a0_2 a1_0 a1_1 a1_2 t111 t112 t113 t116 t117 t118=some r)∧aA (kq≤k)∧aA (wc.heap[gb101]? =some (.cells #[.bool a0_0,.string a0_1,.string a0_2] 36 (0,0)))∧aA (wc.heap[gb102]? =some (.cells #[.bool a1_0,.string a1_1,.string a1_2] 36 (0,0)))∧aA (wc.heap[gb115]? =some (.cells #[.bool t111,.string t112,.string t113] 36 (0,0)))∧aA (wc.heap[gb120]? =some (.cells #[.bool t116,.string t117,.string t118] 36 (0,0)))∧aA (Below w.heap.size w wc))
  case first=>
   have H:=HC10.out;clear HC10
   by_cases c43:(wrap64 ((wrap64 ((wrap64 (t114+t119))+t122))+t124))=0
   ·rw[if_pos c43] at H
    have c43b0:((wrap64 ((wrap64 ((wrap64 (t114+t119))+t122))+t124))==0)=true:=beq_iff_eq.mpr c43;have c43b1:((wrap64 ((wrap64 ((wrap64 (t114+t119))+t122))+t124)) != 0)=false:=bne_eq_false_iff_eq.mpr c43;clear c43
    (first|rw[c43b0]|(simp only[dE,dM];rw[c43b0])|skip)
    by_cases c44:t121=true
    ·subst c44
     rw[if_pos rfl] at H;have H':=aA.mk H;clear H;go_wp2
     go_meet
     case rel=>exact⟨_,(!t123),aCs,H',⟨by first|omega|exact Nat.le_refl _⟩,⟨pkW BK101⟩,⟨pkW BK102⟩,⟨pkW BK115⟩,⟨pkW BK120⟩,⟨pkL HB⟩⟩
    ·replace c44:=Bool.eq_false_iff.mpr c44
     subst c44;rw[if_neg (show ¬(false=true) by decide)] at H;have H':=aA.mk H;clear H;go_wp2
     go_meet
     case rel=>exact⟨_,(true),aCs,H',⟨by first|omega|exact Nat.le_refl _⟩,⟨pkW BK101⟩,⟨pkW BK102⟩,⟨pkW BK115⟩,⟨pkW BK120⟩,⟨pkL HB⟩⟩
   ·rw[if_neg c43] at H
    have c43b0:((wrap64 ((wrap64 ((wrap64 (t114+t119))+t122))+t124))==0)=false:=beq_eq_false_iff_ne.mpr c43;have c43b1:((wrap64 ((wrap64 ((wrap64 (t114+t119))+t122))+t124)) != 0)=true:=bne_iff_ne.mpr c43
    (first|rw[c43b0]|(simp only[dE,dM];rw[c43b0])|skip)
    have H':=aA.mk H;clear H;go_wp2
    go_meet
    case rel=>exact⟨_,(true),aCs,H',⟨by first|omega|exact Nat.le_refl _⟩,⟨pkW BK101⟩,⟨pkW BK102⟩,⟨pkW BK115⟩,⟨pkW BK120⟩,⟨pkL HB⟩⟩
  case rest=>
   clear HC10;try clear c5
   try clear c43
   try clear c43b0
   try clear c43b1
   try clear c44
   try clear hcz14_0
   try clear hcz14_1
   try clear hcz14_2
   try clear hcz15_0
   try clear hcz15_1
   try clear hcz15_2
   try clear hcz23_0
   try clear hcz23_1
   try clear hcz23_2
   try clear hcz24_0
   try clear hcz24_1
   try clear hcz24_2
   try clear hcz29_0
   try clear hcz29_1
   try clear hcz29_2
   try clear hcz30_0
   try clear hcz30_1
   try clear hcz30_2
   try clear hcz31_0
   try clear hcz31_1
   try clear hcz31_2
   try clear hcz37_0
   try clear hcz37_1
   try clear hcz37_2
   try clear hcz38_0
   try clear hcz38_1
   try clear hcz38_2
   try clear hcz40_0
   try clear hcz40_1
   try clear hcz40_2
   try clear hcz41_0
   try clear hcz41_1
   try clear hcz41_2
   try clear hfz14_0
   try clear hfz14_1
   try clear hfz14_2
   try clear hfz15_0
   try clear hfz15_1
   try clear hfz15_2
   try clear hfz23_0
   try clear hfz23_1
   try clear hfz23_2
   try clear hfz24_0
   try clear hfz24_1
   try clear hfz24_2
   try clear hfz29_0
   try clear hfz29_1
   try clear hfz29_2
   try clear hfz30_0
   try clear hfz30_1
   try clear hfz30_2
   try clear hfz31_0
   try clear hfz31_1
   try clear hfz31_2
   try clear hfz37_0
   try clear hfz37_1
   try clear hfz37_2
   try clear hfz38_0
   try clear hfz38_1
   try clear hfz38_2
   try clear hfz40_0
   try clear hfz40_1
   try clear hfz40_2
   try clear hfz41_0
   try clear hfz41_1
   try clear hfz41_2
   obtain⟨kq,x68_9,rfl,HA,HJ9,BK101,BK102,BK115,BK120,HB⟩:=hcut
   cases kq with
   |zero=>exact absurd HA.out (by simp[aK.j0])
   |succ kj9=>
    have H:=HA.out;clear HA;simp only[aK.j0] at H
    by_cases c45:x68_9=true
    ·subst c45
     rw[if_pos rfl] at H;exact absurd (Option.some.inj H) (by rw[hrT];decide)
    ·replace c45:=Bool.eq_false_iff.mpr c45
     subst c45;rw[if_neg (show ¬(false=true) by decide)] at H;obtain⟨t125,A46,H⟩:=bi H;try dsimp only at H
     obtain⟨t126,A47,H⟩:=bi H;try dsimp only at H
     have HC48:=aA.mk H;clear H
     try go_wp2
     replace BK101:=aA.mk (aQ BK101.out);replace BK102:=aA.mk (aQ BK102.out);replace BK115:=aA.mk (aQ BK115.out);replace BK120:=aA.mk (aQ BK120.out);replace HB:=aA.mk (bG HB.out)
     refine jY (n:=8) (S:=fun w'=>w'.cell? ⟨gb101,0,none⟩=some (.bool a0_0)∧w'.cell? ⟨gb101,1,none⟩=some (.string a0_1)∧w'.cell? ⟨gb101,2,none⟩=some (.string a0_2)∧w'.cell? ⟨gb102,0,none⟩=some (.bool a1_0)∧w'.cell? ⟨gb102,1,none⟩=some (.string a1_1)∧w'.cell? ⟨gb102,2,none⟩=some (.string a1_2)) (ds:= []) #[false,false,false,false,false,false,false,false] (by kernel_rfl) rfl rfl ⟨(aC BK101.out 0).trans rfl,(aC BK101.out 1).trans rfl,(aC BK101.out 2).trans rfl,(aC BK102.out 0).trans rfl,(aC BK102.out 1).trans rfl,(aC BK102.out 2).trans rfl⟩ (fun hHeld=> ?_);refine kP aK.tab9 aK.bits9 (fun HT_ HW_=> ?_)
     generalize wc.drew=w49 at BK101 BK102 BK115 BK120 HB hHeld ⊢;refine pr_ 1 70 (h:= ?_);refine pr_ 4 73 (h:= ?_);refine tk_ 0 69 hHeld (hy:=by rintro w' ⟨s0,s1,s2,s3,s4,s5⟩;go_simp;with_reducible rfl) (h:= ?_);refine tk_ 3 72 hHeld (hy:=by rintro w' ⟨s0,s1,s2,s3,s4,s5⟩;go_simp;with_reducible rfl) (h:= ?_);refine on_ 2 71 (h:=fun K hK=> ?_);refine g1_ Tryz.func68 #[.agg #[.bool a0_0,.string a0_1,.string a0_2],.string a2] (h:= ?_);with_reducible refine(dJ.calls (hG:=HG.out.below (pkL HB)) a0_0 a0_1 a0_2 a2 t125 _ A46.out).mono ?_
     rintro e w50 ⟨rfl,hb⟩;refine⟨_,rfl,?_⟩;replace BK101:=pkK BK101 hb;replace BK102:=pkK BK102 hb;replace BK115:=pkK BK115 hb;replace BK120:=pkK BK120 hb;replace HB:=pkB HB hb
     (try clear hb)
     (try clear hb2)
     (try clear hk)
     (try clear hi)
     refine hK.out _ _ ⟨(aC BK101.out 0).trans rfl,(aC BK101.out 1).trans rfl,(aC BK101.out 2).trans rfl,(aC BK102.out 0).trans rfl,(aC BK102.out 1).trans rfl,(aC BK102.out 2).trans rfl⟩ (fun hHeld=> ?_);clear hK K;refine gG (a':= ?_) ?_ ?_
     rotate_left
     ·show Act.put _ (some 71) _=_
      simp only[Act.put,List.setIfInBounds_toArray,List.set_cons_zero,List.set_cons_succ,dE,dM];rfl
     refine on_ 5 74 (h:=fun K hK=> ?_);refine g1_ Tryz.func68 #[.agg #[.bool a1_0,.string a1_1,.string a1_2],.string a2] (h:= ?_);with_reducible refine(dJ.calls (hG:=HG.out.below (pkL HB)) a1_0 a1_1 a1_2 a2 t126 _ A47.out).mono ?_
     rintro e w51 ⟨rfl,hb⟩;refine⟨_,rfl,?_⟩;replace BK101:=pkK BK101 hb;replace BK102:=pkK BK102 hb;replace BK115:=pkK BK115 hb;replace BK120:=pkK BK120 hb;replace HB:=pkB HB hb
     (try clear hb)
     (try clear hb2)
     (try clear hk)
     (try clear hi)
     refine hK.out _ _ ⟨(aC BK101.out 0).trans rfl,(aC BK101.out 1).trans rfl,(aC BK101.out 2).trans rfl,(aC BK102.out 0).trans rfl,(aC BK102.out 1).trans rfl,(aC BK102.out 2).trans rfl⟩ (fun hHeld=> ?_);clear hK K;refine gG (a':= ?_) ?_ ?_
     rotate_left
     ·show Act.put _ (some 74) _=_
      simp only[Act.put,List.setIfInBounds_toArray,List.set_cons_zero,List.set_cons_succ,dE,dM];rfl
     refine pr_ 6 15 (h:= ?_);refine pr_ 7 16 (h:= ?_);refine kT (mG HT_.out (by kernel_rfl)) ?_
     go_upto_region 10 with (fail)
     go_cut [96] (fun v96 wc=>∃(kq:Nat) (x96_47:Bool),v96= .bool x96_47∧aA (aK.j1 kq a2 t125 t126 x96_47 a0_0 a0_1 a0_2 a1_0 a1_1 a1_2 t111 t112 t113 t116 t117 t118=some r)∧aA (kq≤kj9)∧aA (wc.heap[gb101]? =some (.cells #[.bool a0_0,.string a0_1,.string a0_2] 36 (0,0)))∧aA (wc.heap[gb102]? =some (.cells #[.bool a1_0,.string a1_1,.string a1_2] 36 (0,0)))∧aA (wc.heap[gb115]? =some (.cells #[.bool t111,.string t112,.string t113] 36 (0,0)))∧aA (wc.heap[gb120]? =some (.cells #[.bool t116,.string t117,.string t118] 36 (0,0)))∧aA (Below w.heap.size w wc))
     case first=>
      have H:=HC48.out;clear HC48
      by_cases c52:t125=true
      ·subst c52
       rw[if_pos rfl] at H;obtain⟨t127,A53,H⟩:=bi H;try dsimp only at H
       by_cases c54:t127=true
       ·subst c54
        rw[if_pos rfl] at H
        by_cases c55:t126=true
        ·subst c55
         rw[if_pos rfl] at H;obtain⟨t128,A56,H⟩:=bi H;try dsimp only at H
         have H':=aA.mk H;clear H;have hnb57:=NB120_101.out;have hnc57:=NB101_120.out;have hnb58:=NB120_102.out;have hnc58:=NB102_120.out;have hnb59:=NB120_115.out;have hnc59:=NB115_120.out;obtain⟨⟨hcz60_0,hcz60_1,hcz60_2⟩,hfz60_0,hfz60_1,hfz60_2⟩:=pk3 BK120
         go_wp2_with(first|(go_at_call 68;(with_reducible refine(dJ.calls (hG:=HG.out.below (pkL HB)) t116 t117 t118 a2 true _ A53.out).mono ?_);rintro e w61 ⟨rfl,hb⟩;replace BK101:=pkK BK101 hb;replace BK102:=pkK BK102 hb;replace BK115:=pkK BK115 hb;replace BK120:=pkK BK120 hb;replace HB:=pkB HB hb;try clear hb;have hnb62:=NB115_101.out;have hnc62:=NB101_115.out;have hnb63:=NB115_102.out;have hnc63:=NB102_115.out;obtain⟨⟨hcz64_0,hcz64_1,hcz64_2⟩,hfz64_0,hfz64_1,hfz64_2⟩:=pk3 BK115)|(go_at_call 68;(with_reducible refine(dJ.calls (hG:=HG.out.below (pkL HB)) t111 t112 t113 a2 t128 _ A56.out).mono ?_);rintro e w65 ⟨rfl,hb⟩;replace BK101:=pkK BK101 hb;replace BK102:=pkK BK102 hb;replace BK115:=pkK BK115 hb;replace BK120:=pkK BK120 hb;replace HB:=pkB HB hb;try clear hb))
         go_meet
         case rel=>exact⟨_,(!t128),aCs,H',⟨by have:=HJ9.out;first|omega|exact Nat.le_refl _⟩,⟨pkW BK101⟩,⟨pkW BK102⟩,⟨pkW BK115⟩,⟨pkW BK120⟩,⟨pkL HB⟩⟩
        ·replace c55:=Bool.eq_false_iff.mpr c55
         subst c55;rw[if_neg (show ¬(false=true) by decide)] at H;have H':=aA.mk H;clear H;have hnb66:=NB120_101.out;have hnc66:=NB101_120.out;have hnb67:=NB120_102.out;have hnc67:=NB102_120.out;have hnb68:=NB120_115.out;have hnc68:=NB115_120.out;obtain⟨⟨hcz69_0,hcz69_1,hcz69_2⟩,hfz69_0,hfz69_1,hfz69_2⟩:=pk3 BK120
         go_wp2_with(first|(go_at_call 68;(with_reducible refine(dJ.calls (hG:=HG.out.below (pkL HB)) t116 t117 t118 a2 true _ A53.out).mono ?_);rintro e w70 ⟨rfl,hb⟩;replace BK101:=pkK BK101 hb;replace BK102:=pkK BK102 hb;replace BK115:=pkK BK115 hb;replace BK120:=pkK BK120 hb;replace HB:=pkB HB hb;try clear hb))
         go_meet
         case rel=>exact⟨_,(false),aCs,H',⟨by have:=HJ9.out;first|omega|exact Nat.le_refl _⟩,⟨pkW BK101⟩,⟨pkW BK102⟩,⟨pkW BK115⟩,⟨pkW BK120⟩,⟨pkL HB⟩⟩
       ·replace c54:=Bool.eq_false_iff.mpr c54
        subst c54;rw[if_neg (show ¬(false=true) by decide)] at H;have H':=aA.mk H;clear H;have hnb71:=NB120_101.out;have hnc71:=NB101_120.out;have hnb72:=NB120_102.out;have hnc72:=NB102_120.out;have hnb73:=NB120_115.out;have hnc73:=NB115_120.out;obtain⟨⟨hcz74_0,hcz74_1,hcz74_2⟩,hfz74_0,hfz74_1,hfz74_2⟩:=pk3 BK120
        go_wp2_with(first|(go_at_call 68;(with_reducible refine(dJ.calls (hG:=HG.out.below (pkL HB)) t116 t117 t118 a2 false _ A53.out).mono ?_);rintro e w75 ⟨rfl,hb⟩;replace BK101:=pkK BK101 hb;replace BK102:=pkK BK102 hb;replace BK115:=pkK BK115 hb;replace BK120:=pkK BK120 hb;replace HB:=pkB HB hb;try clear hb))
        go_meet
        case rel=>exact⟨_,(true),aCs,H',⟨by have:=HJ9.out;first|omega|exact Nat.le_refl _⟩,⟨pkW BK101⟩,⟨pkW BK102⟩,⟨pkW BK115⟩,⟨pkW BK120⟩,⟨pkL HB⟩⟩
      ·replace c52:=Bool.eq_false_iff.mpr c52
       subst c52;rw[if_neg (show ¬(false=true) by decide)] at H
       by_cases c76:t126=true
       ·subst c76
        rw[if_pos rfl] at H;obtain⟨t129,A77,H⟩:=bi H;try dsimp only at H
        by_cases c78:t129=true
        ·subst c78
         rw[if_pos rfl] at H;have H':=aA.mk H;clear H;have hnb79:=NB120_101.out;have hnc79:=NB101_120.out;have hnb80:=NB120_102.out;have hnc80:=NB102_120.out;have hnb81:=NB120_115.out;have hnc81:=NB115_120.out;obtain⟨⟨hcz82_0,hcz82_1,hcz82_2⟩,hfz82_0,hfz82_1,hfz82_2⟩:=pk3 BK120
         go_wp2_with(first|(go_at_call 68;(with_reducible refine(dJ.calls (hG:=HG.out.below (pkL HB)) t116 t117 t118 a2 true _ A77.out).mono ?_);rintro e w83 ⟨rfl,hb⟩;replace BK101:=pkK BK101 hb;replace BK102:=pkK BK102 hb;replace BK115:=pkK BK115 hb;replace BK120:=pkK BK120 hb;replace HB:=pkB HB hb;try clear hb))
         go_meet
         case rel=>exact⟨_,(false),aCs,H',⟨by have:=HJ9.out;first|omega|exact Nat.le_refl _⟩,⟨pkW BK101⟩,⟨pkW BK102⟩,⟨pkW BK115⟩,⟨pkW BK120⟩,⟨pkL HB⟩⟩
        ·replace c78:=Bool.eq_false_iff.mpr c78
         subst c78;rw[if_neg (show ¬(false=true) by decide)] at H;have H':=aA.mk H;clear H;have hnb84:=NB120_101.out;have hnc84:=NB101_120.out;have hnb85:=NB120_102.out;have hnc85:=NB102_120.out;have hnb86:=NB120_115.out;have hnc86:=NB115_120.out;obtain⟨⟨hcz87_0,hcz87_1,hcz87_2⟩,hfz87_0,hfz87_1,hfz87_2⟩:=pk3 BK120
         go_wp2_with(first|(go_at_call 68;(with_reducible refine(dJ.calls (hG:=HG.out.below (pkL HB)) t116 t117 t118 a2 false _ A77.out).mono ?_);rintro e w88 ⟨rfl,hb⟩;replace BK101:=pkK BK101 hb;replace BK102:=pkK BK102 hb;replace BK115:=pkK BK115 hb;replace BK120:=pkK BK120 hb;replace HB:=pkB HB hb;try clear hb))
         go_meet
         case rel=>exact⟨_,(true),aCs,H',⟨by have:=HJ9.out;first|omega|exact Nat.le_refl _⟩,⟨pkW BK101⟩,⟨pkW BK102⟩,⟨pkW BK115⟩,⟨pkW BK120⟩,⟨pkL HB⟩⟩
       ·replace c76:=Bool.eq_false_iff.mpr c76
        subst c76;rw[if_neg (show ¬(false=true) by decide)] at H;have H':=aA.mk H;clear H;go_wp2
        go_meet
        case rel=>exact⟨_,(false),aCs,H',⟨by have:=HJ9.out;first|omega|exact Nat.le_refl _⟩,⟨pkW BK101⟩,⟨pkW BK102⟩,⟨pkW BK115⟩,⟨pkW BK120⟩,⟨pkL HB⟩⟩
     case rest=>
      clear HC48;try clear c5
      try clear c43
      try clear c43b0
      try clear c43b1
      try clear c44
      try clear c45
      try clear c52
      try clear c54
      try clear c55
      try clear c76
      try clear c78
      try clear hcz14_0
      try clear hcz14_1
      try clear hcz14_2
      try clear hcz15_0
      try clear hcz15_1
      try clear hcz15_2
      try clear hcz23_0
      try clear hcz23_1
      try clear hcz23_2
      try clear hcz24_0
      try clear hcz24_1
      try clear hcz24_2
      try clear hcz29_0
      try clear hcz29_1
      try clear hcz29_2
      try clear hcz30_0
      try clear hcz30_1
      try clear hcz30_2
      try clear hcz31_0
      try clear hcz31_1
      try clear hcz31_2
      try clear hcz37_0
      try clear hcz37_1
      try clear hcz37_2
      try clear hcz38_0
      try clear hcz38_1
      try clear hcz38_2
      try clear hcz40_0
      try clear hcz40_1
      try clear hcz40_2
      try clear hcz41_0
      try clear hcz41_1
      try clear hcz41_2
      try clear hcz60_0
      try clear hcz60_1
      try clear hcz60_2
      try clear hcz64_0
      try clear hcz64_1
      try clear hcz64_2
      try clear hcz69_0
      try clear hcz69_1
      try clear hcz69_2
      try clear hcz74_0
      try clear hcz74_1
      try clear hcz74_2
      try clear hcz82_0
      try clear hcz82_1
      try clear hcz82_2
      try clear hcz87_0
      try clear hcz87_1
      try clear hcz87_2
      try clear hfz14_0
      try clear hfz14_1
      try clear hfz14_2
      try clear hfz15_0
      try clear hfz15_1
      try clear hfz15_2
      try clear hfz23_0
      try clear hfz23_1
      try clear hfz23_2
      try clear hfz24_0
      try clear hfz24_1
      try clear hfz24_2
      try clear hfz29_0
      try clear hfz29_1
      try clear hfz29_2
      try clear hfz30_0
      try clear hfz30_1
      try clear hfz30_2
      try clear hfz31_0
      try clear hfz31_1
      try clear hfz31_2
      try clear hfz37_0
      try clear hfz37_1
      try clear hfz37_2
      try clear hfz38_0
      try clear hfz38_1
      try clear hfz38_2
      try clear hfz40_0
      try clear hfz40_1
      try clear hfz40_2
      try clear hfz41_0
      try clear hfz41_1
      try clear hfz41_2
      try clear hfz60_0
      try clear hfz60_1
      try clear hfz60_2
      try clear hfz64_0
      try clear hfz64_1
      try clear hfz64_2
      try clear hfz69_0
      try clear hfz69_1
      try clear hfz69_2
      try clear hfz74_0
      try clear hfz74_1
      try clear hfz74_2
      try clear hfz82_0
      try clear hfz82_1
      try clear hfz82_2
      try clear hfz87_0
      try clear hfz87_1
      try clear hfz87_2
      obtain⟨kq,x96_47,rfl,HA,HJ47,BK101,BK102,BK115,BK120,HB⟩:=hcut
      cases kq with
      |zero=>exact absurd HA.out (by simp[aK.j1])
      |succ kj47=>
       have H:=HA.out;clear HA;simp only[aK.j1] at H
       by_cases c89:x96_47=true
       ·subst c89
        rw[if_pos rfl] at H;exact absurd (Option.some.inj H) (by rw[hrT];decide)
       ·replace c89:=Bool.eq_false_iff.mpr c89
        subst c89;rw[if_neg (show ¬(false=true) by decide)] at H;obtain⟨y130,hy130⟩:∃y_:List (S36),y_=(([(⟨a0_0,a0_1,a0_2⟩:S36),(⟨a1_0,a1_1,a1_2⟩:S36)]:List (S36))):=⟨_,rfl⟩
        replace H:((iI.f y130).bind fun t133=>(if t133=true then((dP.f).bind fun t134=>(some t134)) else((dJ.f t111 t112 t113 a2).bind fun t135=>(if t125=true then(aK.j2 kj47 a2 (t135 != t126) a0_0 a0_1 a0_2 a1_0 a1_1 a1_2 t116 t117 t118) else(aK.j2 kj47 a2 (t135 != false) a0_0 a0_1 a0_2 a1_0 a1_1 a1_2 t116 t117 t118)))))=some r:=by first|(rw[hy130];with_reducible exact H)|(have H2_:=(Option.bind_some _ _).symm.trans H;rw[hy130];with_reducible exact H2_)|(have H2_:=(Option.bind_some _ _).symm.trans H;with_reducible exact H2_)|with_reducible exact H|(rw[hy130];exact H)|exact H
        have Ny130:=aA.mk hy130;clear hy130;obtain⟨t133,A90,H⟩:=bi H;try dsimp only at H
        by_cases c91:t133=true
        ·subst c91
         rw[if_pos rfl] at H;obtain⟨t134,A92,H⟩:=bi H;try dsimp only at H
         obtain rfl:=Option.some.inj H;have hnb93:=NB101_102.out;have hnc93:=NB102_101.out;have hnb94:=NB101_115.out;have hnc94:=NB115_101.out;have hnb95:=NB101_120.out;have hnc95:=NB120_101.out;obtain⟨⟨hcz96_0,hcz96_1,hcz96_2⟩,hfz96_0,hfz96_1,hfz96_2⟩:=pk3 BK101;have hnb97:=NB102_115.out;have hnc97:=NB115_102.out;have hnb98:=NB102_120.out;have hnc98:=NB120_102.out;obtain⟨⟨hcz99_0,hcz99_1,hcz99_2⟩,hfz99_0,hfz99_1,hfz99_2⟩:=pk3 BK102
         go_wp2_with(first|((with_reducible refine aJ (N:=99) rfl ?_);refine Kd.lV k36 _ 36 ?hg (N:=99) ?hd (xs:=([(⟨a0_0,a0_1,a0_2⟩:S36),(⟨a1_0,a1_1,a1_2⟩:S36)]:List (S36))) (inner:= [.bool a0_0,.string a0_1,.string a0_2,.bool a1_0,.string a1_1,.string a1_2]) (ok:=fun _=>True) (okp:=fun _=>True) ?hr ?hp (fun _ hk=>hk) trivial (Below.refl _ _) (Nat.le_refl _) aCq ?_;(case hd=>rfl);(case hg=>rfl);(case hr=>first|(go_simp;done)|(go_simp;rfl));(case hp=>exact(Reps.c3 (show Kd.M k36 _ _ _ (⟨a0_0,a0_1,a0_2⟩:S36) [.bool a0_0,.string a0_1,.string a0_2] from(iO _ _ _ (⟨a0_0,a0_1,a0_2⟩:S36))) (Reps.c3 (show Kd.M k36 _ _ _ (⟨a1_0,a1_1,a1_2⟩:S36) [.bool a1_0,.string a1_1,.string a1_2] from(iO _ _ _ (⟨a1_0,a1_1,a1_2⟩:S36))) (Reps.none _ _))));intro v131 w100 ho101 hb hg_ hnew_;clear hg_ hnew_;(first|rw[←Ny130.out] at ho101|(simp only[Int.reduceToNat] at ho101;rw[←Ny130.out] at ho101));have HO132:=aA.mk (Kd.jF (Kd.jD (Kd.jD (Kd.jD (Kd.jD ho101 (g:=gb101) (o:= .cells #[.bool a0_0,.string a0_1,.string a0_2] 36 (0,0)) (pkW BK101)) (g:=gb102) (o:= .cells #[.bool a1_0,.string a1_1,.string a1_2] 36 (0,0)) (pkW BK102)) (g:=gb115) (o:= .cells #[.bool t111,.string t112,.string t113] 36 (0,0)) (pkW BK115)) (g:=gb120) (o:= .cells #[.bool t116,.string t117,.string t118] 36 (0,0)) (pkW BK120)) (dU (pkL HB)));replace BK101:=pkK BK101 hb;replace BK102:=pkK BK102 hb;replace BK115:=pkK BK115 hb;replace BK120:=pkK BK120 hb;replace HB:=pkB HB hb;clear hb ho101;obtain⟨Ao102,co102,eo102⟩:=Kd.gY HO132.out;subst eo102)|((with_reducible refine aG (f:=47) rfl ?_);refine gl_ 100 Tryz.func47 #[.slice Ao102 y130.length co102] (h:= ?_);(with_reducible refine(iI.calls _ _ y130 true _ ?side1 ?side2 A90.out).mono ?_);(case side1=>repeat(first|exact(Kd.dH HO132.out).2.2|(with_reducible refine Kd.iZ ?_ _)|(with_reducible refine Kd.jA ?_ _)|(with_reducible refine Kd.jR ?_)));(case side2=>exact(Kd.dH HO132.out).2.1);rintro e w103 ⟨rfl,hb⟩;refine⟨_,rfl,?_⟩;replace HO132:=aA.mk (Kd.dD (by(with_reducible repeat(first|apply Kd.aX|apply Kd.aY|apply Kd.bP));exact HO132.out) hb);replace BK101:=pkK BK101 hb;replace BK102:=pkK BK102 hb;replace BK115:=pkK BK115 hb;replace BK120:=pkK BK120 hb;replace HB:=pkB HB hb;try clear hb)|((with_reducible refine aG (f:=35) rfl ?_);refine gl_ 101 Tryz.func35 #[] (h:= ?_);(with_reducible refine(dP.calls (hG:=HG.out.below (pkL HB)) t134 _ A92.out).mono ?_);rintro e w104 ⟨rfl,hb⟩;refine⟨_,rfl,?_⟩;replace HO132:=aA.mk (Kd.dD (by(with_reducible repeat(first|apply Kd.aX|apply Kd.aY|apply Kd.bP));exact HO132.out) hb);replace BK101:=pkK BK101 hb;replace BK102:=pkK BK102 hb;replace BK115:=pkK BK115 hb;replace BK120:=pkK BK120 hb;replace HB:=pkB HB hb;try clear hb))
         go_ret
         exact pkE HB
        ·replace c91:=Bool.eq_false_iff.mpr c91
         subst c91;rw[if_neg (show ¬(false=true) by decide)] at H;have HC105:=aA.mk H;clear H;have hnb106:=NB101_102.out;have hnc106:=NB102_101.out;have hnb107:=NB101_115.out;have hnc107:=NB115_101.out;have hnb108:=NB101_120.out;have hnc108:=NB120_101.out;obtain⟨⟨hcz109_0,hcz109_1,hcz109_2⟩,hfz109_0,hfz109_1,hfz109_2⟩:=pk3 BK101;have hnb110:=NB102_115.out;have hnc110:=NB115_102.out;have hnb111:=NB102_120.out;have hnc111:=NB120_102.out;obtain⟨⟨hcz112_0,hcz112_1,hcz112_2⟩,hfz112_0,hfz112_1,hfz112_2⟩:=pk3 BK102
         go_upto_region 14 with (first|((with_reducible refine aJ (N:=99) rfl ?_);refine Kd.lV k36 _ 36 ?hg (N:=99) ?hd (xs:=([(⟨a0_0,a0_1,a0_2⟩:S36),(⟨a1_0,a1_1,a1_2⟩:S36)]:List (S36))) (inner:= [.bool a0_0,.string a0_1,.string a0_2,.bool a1_0,.string a1_1,.string a1_2]) (ok:=fun _=>True) (okp:=fun _=>True) ?hr ?hp (fun _ hk=>hk) trivial (Below.refl _ _) (Nat.le_refl _) aCq ?_;(case hd=>rfl);(case hg=>rfl);(case hr=>first|(go_simp;done)|(go_simp;rfl));(case hp=>exact(Reps.c3 (show Kd.M k36 _ _ _ (⟨a0_0,a0_1,a0_2⟩:S36) [.bool a0_0,.string a0_1,.string a0_2] from(iO _ _ _ (⟨a0_0,a0_1,a0_2⟩:S36))) (Reps.c3 (show Kd.M k36 _ _ _ (⟨a1_0,a1_1,a1_2⟩:S36) [.bool a1_0,.string a1_1,.string a1_2] from(iO _ _ _ (⟨a1_0,a1_1,a1_2⟩:S36))) (Reps.none _ _))));intro v131 w113 ho114 hb hg_ hnew_;clear hg_ hnew_;(first|rw[←Ny130.out] at ho114|(simp only[Int.reduceToNat] at ho114;rw[←Ny130.out] at ho114));have HO132:=aA.mk (Kd.jF (Kd.jD (Kd.jD (Kd.jD (Kd.jD ho114 (g:=gb101) (o:= .cells #[.bool a0_0,.string a0_1,.string a0_2] 36 (0,0)) (pkW BK101)) (g:=gb102) (o:= .cells #[.bool a1_0,.string a1_1,.string a1_2] 36 (0,0)) (pkW BK102)) (g:=gb115) (o:= .cells #[.bool t111,.string t112,.string t113] 36 (0,0)) (pkW BK115)) (g:=gb120) (o:= .cells #[.bool t116,.string t117,.string t118] 36 (0,0)) (pkW BK120)) (dU (pkL HB)));replace BK101:=pkK BK101 hb;replace BK102:=pkK BK102 hb;replace BK115:=pkK BK115 hb;replace BK120:=pkK BK120 hb;replace HB:=pkB HB hb;clear hb ho114;obtain⟨Ao115,co115,eo115⟩:=Kd.gY HO132.out;subst eo115)|((with_reducible refine aG (f:=47) rfl ?_);refine gl_ 100 Tryz.func47 #[.slice Ao115 y130.length co115] (h:= ?_);(with_reducible refine(iI.calls _ _ y130 false _ ?side1 ?side2 A90.out).mono ?_);(case side1=>repeat(first|exact(Kd.dH HO132.out).2.2|(with_reducible refine Kd.iZ ?_ _)|(with_reducible refine Kd.jA ?_ _)|(with_reducible refine Kd.jR ?_)));(case side2=>exact(Kd.dH HO132.out).2.1);rintro e w116 ⟨rfl,hb⟩;refine⟨_,rfl,?_⟩;replace HO132:=aA.mk (Kd.dD (by(with_reducible repeat(first|apply Kd.aX|apply Kd.aY|apply Kd.bP));exact HO132.out) hb);replace BK101:=pkK BK101 hb;replace BK102:=pkK BK102 hb;replace BK115:=pkK BK115 hb;replace BK120:=pkK BK120 hb;replace HB:=pkB HB hb;try clear hb))
         (try simp only[Act.put,List.setIfInBounds_toArray,List.set_cons_zero,List.set_cons_succ])
         go_cut [109] (fun v109 wc=>∃(kq:Nat) (x109_104:Bool),v109= .bool x109_104∧aA (aK.j2 kq a2 x109_104 a0_0 a0_1 a0_2 a1_0 a1_1 a1_2 t116 t117 t118=some r)∧aA (kq≤kj47)∧aA (wc.heap[gb101]? =some (.cells #[.bool a0_0,.string a0_1,.string a0_2] 36 (0,0)))∧aA (wc.heap[gb102]? =some (.cells #[.bool a1_0,.string a1_1,.string a1_2] 36 (0,0)))∧aA (wc.heap[gb115]? =some (.cells #[.bool t111,.string t112,.string t113] 36 (0,0)))∧aA (wc.heap[gb120]? =some (.cells #[.bool t116,.string t117,.string t118] 36 (0,0)))∧aA (Below w.heap.size w wc))
         case first=>
          have H:=HC105.out;clear HC105;obtain⟨t135,A117,H⟩:=bi H;try dsimp only at H
          by_cases c118:t125=true
          ·subst c118
           rw[if_pos rfl] at H;have H':=aA.mk H;clear H;have hnb119:=NB115_101.out;have hnc119:=NB101_115.out;have hnb120:=NB115_102.out;have hnc120:=NB102_115.out;have hnb121:=NB115_120.out;have hnc121:=NB120_115.out;obtain⟨⟨hcz122_0,hcz122_1,hcz122_2⟩,hfz122_0,hfz122_1,hfz122_2⟩:=pk3 BK115
           go_wp2_with(first|((with_reducible refine aG (f:=68) rfl ?_);refine gl_ 104 Tryz.func68 #[.agg #[.bool t111,.string t112,.string t113],.string a2] (h:= ?_);(with_reducible refine(dJ.calls (hG:=HG.out.below (pkL HB)) t111 t112 t113 a2 t135 _ A117.out).mono ?_);rintro e w123 ⟨rfl,hb⟩;refine⟨_,rfl,?_⟩;replace HO132:=aA.mk (Kd.dD (by(with_reducible repeat(first|apply Kd.aX|apply Kd.aY|apply Kd.bP));exact HO132.out) hb);replace BK101:=pkK BK101 hb;replace BK102:=pkK BK102 hb;replace BK115:=pkK BK115 hb;replace BK120:=pkK BK120 hb;replace HB:=pkB HB hb;try clear hb))
           go_meet
           case rel=>exact⟨_,((t135 != t126)),aCs,H',⟨by have:=HJ9.out;have:=HJ47.out;first|omega|exact Nat.le_refl _⟩,⟨pkW BK101⟩,⟨pkW BK102⟩,⟨pkW BK115⟩,⟨pkW BK120⟩,⟨pkL HB⟩⟩
          ·replace c118:=Bool.eq_false_iff.mpr c118
           subst c118;rw[if_neg (show ¬(false=true) by decide)] at H;have H':=aA.mk H;clear H;have hnb124:=NB115_101.out;have hnc124:=NB101_115.out;have hnb125:=NB115_102.out;have hnc125:=NB102_115.out;have hnb126:=NB115_120.out;have hnc126:=NB120_115.out;obtain⟨⟨hcz127_0,hcz127_1,hcz127_2⟩,hfz127_0,hfz127_1,hfz127_2⟩:=pk3 BK115
           go_wp2_with(first|((with_reducible refine aG (f:=68) rfl ?_);refine gl_ 104 Tryz.func68 #[.agg #[.bool t111,.string t112,.string t113],.string a2] (h:= ?_);(with_reducible refine(dJ.calls (hG:=HG.out.below (pkL HB)) t111 t112 t113 a2 t135 _ A117.out).mono ?_);rintro e w128 ⟨rfl,hb⟩;refine⟨_,rfl,?_⟩;replace HO132:=aA.mk (Kd.dD (by(with_reducible repeat(first|apply Kd.aX|apply Kd.aY|apply Kd.bP));exact HO132.out) hb);replace BK101:=pkK BK101 hb;replace BK102:=pkK BK102 hb;replace BK115:=pkK BK115 hb;replace BK120:=pkK BK120 hb;replace HB:=pkB HB hb;try clear hb))
           go_meet
           case rel=>exact⟨_,((t135 != false)),aCs,H',⟨by have:=HJ9.out;have:=HJ47.out;first|omega|exact Nat.le_refl _⟩,⟨pkW BK101⟩,⟨pkW BK102⟩,⟨pkW BK115⟩,⟨pkW BK120⟩,⟨pkL HB⟩⟩
         case rest=>
          clear HC105;try clear c5
          try clear c43
          try clear c43b0
          try clear c43b1
          try clear c44
          try clear c45
          try clear c52
          try clear c54
          try clear c55
          try clear c76
          try clear c78
          try clear c89
          try clear c91
          try clear c118
          try clear hcz109_0
          try clear hcz109_1
          try clear hcz109_2
          try clear hcz112_0
          try clear hcz112_1
          try clear hcz112_2
          try clear hcz122_0
          try clear hcz122_1
          try clear hcz122_2
          try clear hcz127_0
          try clear hcz127_1
          try clear hcz127_2
          try clear hcz14_0
          try clear hcz14_1
          try clear hcz14_2
          try clear hcz15_0
          try clear hcz15_1
          try clear hcz15_2
          try clear hcz23_0
          try clear hcz23_1
          try clear hcz23_2
          try clear hcz24_0
          try clear hcz24_1
          try clear hcz24_2
          try clear hcz29_0
          try clear hcz29_1
          try clear hcz29_2
          try clear hcz30_0
          try clear hcz30_1
          try clear hcz30_2
          try clear hcz31_0
          try clear hcz31_1
          try clear hcz31_2
          try clear hcz37_0
          try clear hcz37_1
          try clear hcz37_2
          try clear hcz38_0
          try clear hcz38_1
          try clear hcz38_2
          try clear hcz40_0
          try clear hcz40_1
          try clear hcz40_2
          try clear hcz41_0
          try clear hcz41_1
          try clear hcz41_2
          try clear hcz60_0
          try clear hcz60_1
          try clear hcz60_2
          try clear hcz64_0
          try clear hcz64_1
          try clear hcz64_2
          try clear hcz69_0
          try clear hcz69_1
          try clear hcz69_2
          try clear hcz74_0
          try clear hcz74_1
          try clear hcz74_2
          try clear hcz82_0
          try clear hcz82_1
          try clear hcz82_2
          try clear hcz87_0
          try clear hcz87_1
          try clear hcz87_2
          try clear hcz96_0
          try clear hcz96_1
          try clear hcz96_2
          try clear hcz99_0
          try clear hcz99_1
          try clear hcz99_2
          try clear hfz109_0
          try clear hfz109_1
          try clear hfz109_2
          try clear hfz112_0
          try clear hfz112_1
          try clear hfz112_2
          try clear hfz122_0
          try clear hfz122_1
          try clear hfz122_2
          try clear hfz127_0
          try clear hfz127_1
          try clear hfz127_2
          try clear hfz14_0
          try clear hfz14_1
          try clear hfz14_2
          try clear hfz15_0
          try clear hfz15_1
          try clear hfz15_2
          try clear hfz23_0
          try clear hfz23_1
          try clear hfz23_2
          try clear hfz24_0
          try clear hfz24_1
          try clear hfz24_2
          try clear hfz29_0
          try clear hfz29_1
          try clear hfz29_2
          try clear hfz30_0
          try clear hfz30_1
          try clear hfz30_2
          try clear hfz31_0
          try clear hfz31_1
          try clear hfz31_2
          try clear hfz37_0
          try clear hfz37_1
          try clear hfz37_2
          try clear hfz38_0
          try clear hfz38_1
          try clear hfz38_2
          try clear hfz40_0
          try clear hfz40_1
          try clear hfz40_2
          try clear hfz41_0
          try clear hfz41_1
          try clear hfz41_2
          try clear hfz60_0
          try clear hfz60_1
          try clear hfz60_2
          try clear hfz64_0
          try clear hfz64_1
          try clear hfz64_2
          try clear hfz69_0
          try clear hfz69_1
          try clear hfz69_2
          try clear hfz74_0
          try clear hfz74_1
          try clear hfz74_2
          try clear hfz82_0
          try clear hfz82_1
          try clear hfz82_2
          try clear hfz87_0
          try clear hfz87_1
          try clear hfz87_2
          try clear hfz96_0
          try clear hfz96_1
          try clear hfz96_2
          try clear hfz99_0
          try clear hfz99_1
          try clear hfz99_2
          obtain⟨kq,x109_104,rfl,HA,HJ104,BK101,BK102,BK115,BK120,HB⟩:=hcut
          cases kq with
          |zero=>exact absurd HA.out (by simp[aK.j2])
          |succ kj104=>
           have H:=HA.out;clear HA;simp only[aK.j2] at H
           by_cases c129:x109_104=true
           ·subst c129
            rw[if_pos rfl] at H;exact absurd (Option.some.inj H) (by rw[hrT];decide)
           ·replace c129:=Bool.eq_false_iff.mpr c129
            subst c129;rw[if_neg (show ¬(false=true) by decide)] at H;obtain⟨⟨t136,t137,t138,t139⟩,A130,H⟩:=bi H;try dsimp only at H
            obtain⟨⟨t141,t142,t143,t144⟩,A131,H⟩:=bi H;try dsimp only at H
            obtain⟨⟨t146,t147,t148,t149⟩,A132,H⟩:=bi H;try dsimp only at H
            obtain⟨⟨t151,t152⟩,A133,H⟩:=bi H;try dsimp only at H
            by_cases c134:(wrap64 ((wrap64 ((wrap64 (t139+t144))+t149))+t152))=0
            ·rw[if_pos c134] at H
             have c134b0:((wrap64 ((wrap64 ((wrap64 (t139+t144))+t149))+t152))==0)=true:=beq_iff_eq.mpr c134;have c134b1:((wrap64 ((wrap64 ((wrap64 (t139+t144))+t149))+t152)) != 0)=false:=bne_eq_false_iff_eq.mpr c134;clear c134
             by_cases c135:t151=true
             ·subst c135
              rw[if_pos rfl] at H;obtain⟨t153,A136,H⟩:=bi H;try dsimp only at H
              obtain rfl:=Option.some.inj H
              go_wp2_with(first|((with_reducible refine aG (f:=56) rfl ?_);refine gl_ 112 Tryz.func56 #[.string a2] (h:= ?_);(with_reducible refine(vU.calls (hG:=HG.out.below (pkL HB)) a2 t136 t137 t138 t139 _ A130.out).mono ?_);rintro e w137 ⟨rfl,hb⟩;refine⟨_,rfl,?_⟩;replace BK101:=pkK BK101 hb;replace BK102:=pkK BK102 hb;replace BK115:=pkK BK115 hb;replace BK120:=pkK BK120 hb;replace HB:=pkB HB hb;try clear hb)|((with_reducible refine aJ (N:=17) rfl ?_);refine bx_ 17 36 #[.bool false,.string (⟨#[]⟩:ByteArray),.string (⟨#[]⟩:ByteArray)] (h:= ?_);intro gb140 hg w138 hbox hb;have BK140:=aA.mk (hbox);have GW140:=pkG HB hg;have GE140:=GW140;obtain⟨NB101_140,NB140_101,hnb139,hnc139⟩:=pkQ BK101 hg;obtain⟨NB102_140,NB140_102,hnb140,hnc140⟩:=pkQ BK102 hg;obtain⟨NB115_140,NB140_115,hnb141,hnc141⟩:=pkQ BK115 hg;obtain⟨NB120_140,NB140_120,hnb142,hnc142⟩:=pkQ BK120 hg;replace BK101:=pkK BK101 hb;replace BK102:=pkK BK102 hb;replace BK115:=pkK BK115 hb;replace BK120:=pkK BK120 hb;replace HB:=pkB HB hb;clear hb hbox hg;obtain⟨⟨hcz143_0,hcz143_1,hcz143_2⟩,hfz143_0,hfz143_1,hfz143_2⟩:=pk3 BK140;have hnb144:=NB101_102.out;have hnc144:=NB102_101.out;have hnb145:=NB101_115.out;have hnc145:=NB115_101.out;have hnb146:=NB101_120.out;have hnc146:=NB120_101.out;obtain⟨⟨hcz147_0,hcz147_1,hcz147_2⟩,hfz147_0,hfz147_1,hfz147_2⟩:=pk3 BK101)|((with_reducible refine aG (f:=42) rfl ?_);refine gl_ 118 Tryz.func42 #[.agg #[.bool t136,.string t137,.string t138],.agg #[.bool a0_0,.string a0_1,.string a0_2]] (h:= ?_);(with_reducible refine(dZ.calls (hG:=HG.out.below (pkL HB)) t136 t137 t138 a0_0 a0_1 a0_2 t141 t142 t143 t144 _ A131.out).mono ?_);rintro e w148 ⟨rfl,hb⟩;refine⟨_,rfl,?_⟩;replace BK101:=pkF BK101 hb;replace BK102:=pkF BK102 hb;replace BK115:=pkF BK115 hb;replace BK120:=pkF BK120 hb;replace BK140:=aA.mk (dF (g:=gb140) (o:= .cells #[.bool t136,.string t137,.string t138] 36 (0,0)) (pkS3 BK140) hb);replace HB:=pkB HB hb;try clear hb)|((with_reducible refine aJ (N:=18) rfl ?_);refine bx_ 18 36 #[.bool false,.string (⟨#[]⟩:ByteArray),.string (⟨#[]⟩:ByteArray)] (h:= ?_);intro gb145 hg w149 hbox hb;have BK145:=aA.mk (hbox);have GW145:=pkG HB hg;have GE145:=GW145;obtain⟨NB101_145,NB145_101,hnb150,hnc150⟩:=pkQ BK101 hg;obtain⟨NB102_145,NB145_102,hnb151,hnc151⟩:=pkQ BK102 hg;obtain⟨NB115_145,NB145_115,hnb152,hnc152⟩:=pkQ BK115 hg;obtain⟨NB120_145,NB145_120,hnb153,hnc153⟩:=pkQ BK120 hg;obtain⟨NB140_145,NB145_140,hnb154,hnc154⟩:=pkQ BK140 hg;replace BK101:=pkK BK101 hb;replace BK102:=pkK BK102 hb;replace BK115:=pkK BK115 hb;replace BK120:=pkK BK120 hb;replace BK140:=pkK BK140 hb;replace HB:=pkB HB hb;clear hb hbox hg;obtain⟨⟨hcz155_0,hcz155_1,hcz155_2⟩,hfz155_0,hfz155_1,hfz155_2⟩:=pk3 BK145;have hnb156:=NB102_115.out;have hnc156:=NB115_102.out;have hnb157:=NB102_120.out;have hnc157:=NB120_102.out;obtain⟨⟨hcz158_0,hcz158_1,hcz158_2⟩,hfz158_0,hfz158_1,hfz158_2⟩:=pk3 BK102)|((with_reducible refine aG (f:=42) rfl ?_);refine gl_ 124 Tryz.func42 #[.agg #[.bool t141,.string t142,.string t143],.agg #[.bool a1_0,.string a1_1,.string a1_2]] (h:= ?_);(with_reducible refine(dZ.calls (hG:=HG.out.below (pkL HB)) t141 t142 t143 a1_0 a1_1 a1_2 t146 t147 t148 t149 _ A132.out).mono ?_);rintro e w159 ⟨rfl,hb⟩;refine⟨_,rfl,?_⟩;replace BK101:=pkF BK101 hb;replace BK102:=pkF BK102 hb;replace BK115:=pkF BK115 hb;replace BK120:=pkF BK120 hb;replace BK140:=pkF BK140 hb;replace BK145:=aA.mk (dF (g:=gb145) (o:= .cells #[.bool t141,.string t142,.string t143] 36 (0,0)) (pkS3 BK145) hb);replace HB:=pkB HB hb;try clear hb)|((with_reducible refine aJ (N:=19) rfl ?_);refine bx_ 19 36 #[.bool false,.string (⟨#[]⟩:ByteArray),.string (⟨#[]⟩:ByteArray)] (h:= ?_);intro gb150 hg w160 hbox hb;have BK150:=aA.mk (hbox);have GW150:=pkG HB hg;have GE150:=GW150;obtain⟨NB101_150,NB150_101,hnb161,hnc161⟩:=pkQ BK101 hg;obtain⟨NB102_150,NB150_102,hnb162,hnc162⟩:=pkQ BK102 hg;obtain⟨NB115_150,NB150_115,hnb163,hnc163⟩:=pkQ BK115 hg;obtain⟨NB120_150,NB150_120,hnb164,hnc164⟩:=pkQ BK120 hg;obtain⟨NB140_150,NB150_140,hnb165,hnc165⟩:=pkQ BK140 hg;obtain⟨NB145_150,NB150_145,hnb166,hnc166⟩:=pkQ BK145 hg;replace BK101:=pkK BK101 hb;replace BK102:=pkK BK102 hb;replace BK115:=pkK BK115 hb;replace BK120:=pkK BK120 hb;replace BK140:=pkK BK140 hb;replace BK145:=pkK BK145 hb;replace HB:=pkB HB hb;clear hb hbox hg;obtain⟨⟨hcz167_0,hcz167_1,hcz167_2⟩,hfz167_0,hfz167_1,hfz167_2⟩:=pk3 BK150;have hnb168:=NB120_115.out;have hnc168:=NB115_120.out;obtain⟨⟨hcz169_0,hcz169_1,hcz169_2⟩,hfz169_0,hfz169_1,hfz169_2⟩:=pk3 BK120)|((with_reducible refine aG (f:=40) rfl ?_);refine gl_ 130 Tryz.func40 #[.agg #[.bool t116,.string t117,.string t118],.agg #[.bool t146,.string t147,.string t148]] (h:= ?_);(with_reducible refine(fD.calls (hG:=HG.out.below (pkL HB)) t116 t117 t118 t146 t147 t148 true t152 _ A133.out).mono ?_);rintro e w170 ⟨rfl,hb⟩;refine⟨_,rfl,?_⟩;replace BK101:=pkF BK101 hb;replace BK102:=pkF BK102 hb;replace BK115:=pkF BK115 hb;replace BK120:=pkF BK120 hb;replace BK140:=pkF BK140 hb;replace BK145:=pkF BK145 hb;replace BK150:=aA.mk (dF (g:=gb150) (o:= .cells #[.bool t146,.string t147,.string t148] 36 (0,0)) (pkS3 BK150) hb);replace HB:=pkB HB hb;try clear hb)|(go_at_call 35;(with_reducible refine(dP.calls (hG:=HG.out.below (pkL HB)) t153 _ A136.out).mono ?_);rintro e w171 ⟨rfl,hb⟩;replace BK101:=pkK BK101 hb;replace BK102:=pkK BK102 hb;replace BK115:=pkK BK115 hb;replace BK120:=pkK BK120 hb;replace BK140:=pkK BK140 hb;replace BK145:=pkK BK145 hb;replace BK150:=pkK BK150 hb;replace HB:=pkB HB hb;try clear hb))
              go_ret
              exact pkE HB
             ·replace c135:=Bool.eq_false_iff.mpr c135
              subst c135;rw[if_neg (show ¬(false=true) by decide)] at H;exact absurd (Option.some.inj H) (by rw[hrT];decide)
            ·rw[if_neg c134] at H
             have c134b0:((wrap64 ((wrap64 ((wrap64 (t139+t144))+t149))+t152))==0)=false:=beq_eq_false_iff_ne.mpr c134;have c134b1:((wrap64 ((wrap64 ((wrap64 (t139+t144))+t149))+t152)) != 0)=true:=bne_iff_ne.mpr c134;exact absurd (Option.some.inj H) (by rw[hrT];decide)
 ·replace c5:=Bool.eq_false_iff.mpr c5
  subst c5;rw[if_neg (show ¬(false=true) by decide)] at H;obtain⟨t110,A240,H⟩:=bi H;try dsimp only at H
  obtain rfl:=Option.some.inj H;go_enter Tryz.func15,Tryz.ntmps15
  go_wp2_with(first|((with_reducible refine aJ (N:=3) rfl ?_);refine bx_ 3 36 #[.bool a0_0,.string a0_1,.string a0_2] (h:= ?_);intro gb101 hg w241 hbox hb;have BK101:=aA.mk (hbox);have GW101:=pkG HB hg;have GE101:=GW101;replace HB:=pkB HB hb;clear hb hbox hg)|((with_reducible refine aJ (N:=4) rfl ?_);refine bx_ 4 36 #[.bool a1_0,.string a1_1,.string a1_2] (h:= ?_);intro gb102 hg w242 hbox hb;have BK102:=aA.mk (hbox);have GW102:=pkG HB hg;have GE102:=GW102;obtain⟨NB101_102,NB102_101,_,_⟩:=pkQ BK101 hg;replace BK101:=pkK BK101 hb;replace HB:=pkB HB hb;clear hb hbox hg;have hnb243:=NB101_102.out;have hnc243:=NB102_101.out;obtain⟨⟨hcz244_0,hcz244_1,hcz244_2⟩,hfz244_0,hfz244_1,hfz244_2⟩:=pk3 BK101;obtain⟨⟨hcz245_0,hcz245_1,hcz245_2⟩,hfz245_0,hfz245_1,hfz245_2⟩:=pk3 BK102)|((with_reducible refine aJ (N:=23) rfl ?_);refine Kd.lV k36 _ 36 ?hg (N:=23) ?hd (xs:=([(⟨a0_0,a0_1,a0_2⟩:S36),(⟨a1_0,a1_1,a1_2⟩:S36)]:List (S36))) (inner:= [.bool a0_0,.string a0_1,.string a0_2,.bool a1_0,.string a1_1,.string a1_2]) (ok:=fun _=>True) (okp:=fun _=>True) ?hr ?hp (fun _ hk=>hk) trivial (Below.refl _ _) (Nat.le_refl _) aCq ?_;(case hd=>rfl);(case hg=>rfl);(case hr=>first|(go_simp;done)|(go_simp;rfl));(case hp=>exact(Reps.c3 (show Kd.M k36 _ _ _ (⟨a0_0,a0_1,a0_2⟩:S36) [.bool a0_0,.string a0_1,.string a0_2] from(iO _ _ _ (⟨a0_0,a0_1,a0_2⟩:S36))) (Reps.c3 (show Kd.M k36 _ _ _ (⟨a1_0,a1_1,a1_2⟩:S36) [.bool a1_0,.string a1_1,.string a1_2] from(iO _ _ _ (⟨a1_0,a1_1,a1_2⟩:S36))) (Reps.none _ _))));intro v104 w246 ho247 hb hg_ hnew_;clear hg_ hnew_;(first|rw[←Ny103.out] at ho247|(simp only[Int.reduceToNat] at ho247;rw[←Ny103.out] at ho247));have HO105:=aA.mk (Kd.jF (Kd.jD (Kd.jD ho247 (g:=gb101) (o:= .cells #[.bool a0_0,.string a0_1,.string a0_2] 36 (0,0)) (pkW BK101)) (g:=gb102) (o:= .cells #[.bool a1_0,.string a1_1,.string a1_2] 36 (0,0)) (pkW BK102)) (dU (pkL HB)));replace BK101:=pkK BK101 hb;replace BK102:=pkK BK102 hb;replace HB:=pkB HB hb;clear hb ho247)|((with_reducible refine aJ (N:=25) rfl ?_);refine Kd.lV Kd.string _ 22 ?hg (N:=25) ?hd (xs:=([a2]:List ByteArray)) (inner:= [.string a2]) (ok:=fun _=>True) (okp:=fun _=>True) ?hr ?hp (fun _ hk=>hk) trivial (Below.refl _ _) (Nat.le_refl _) aCq ?_;(case hd=>rfl);(case hg=>rfl);(case hr=>first|(go_simp;done)|(go_simp;rfl));(case hp=>exact(Reps.one (show Kd.M Kd.string _ _ _ a2 [.string a2] from rfl) (Reps.none _ _)));intro v107 w248 ho249 hb hg_ hnew_;clear hg_ hnew_;(first|rw[←Ny106.out] at ho249|(simp only[Int.reduceToNat] at ho249;rw[←Ny106.out] at ho249));have n0_:=aA.mk (Kd.dD (by(with_reducible repeat(first|apply Kd.aX|apply Kd.aY|apply Kd.bP));exact HO105.out) hb);have n1_:=aA.mk (Kd.jF ho249 (dU (pkL HB)));have n2_:=pkK BK101 hb;have n3_:=pkK BK102 hb;have n4_:=pkB HB hb;clear HO105;clear BK101;clear BK102;clear HB;have HO105:=n0_;have HO108:=n1_;have BK101:=n2_;have BK102:=n3_;have HB:=n4_;clear n0_ n1_ n2_ n3_ n4_;clear hb ho249;obtain⟨Ao250,co250,eo250⟩:=Kd.gY HO105.out;subst eo250;obtain⟨Ao251,co251,eo251⟩:=Kd.gY HO108.out;subst eo251)|((with_reducible refine aG (f:=46) rfl ?_);refine gl_ 26 Tryz.func46 #[.slice Ao250 y103.length co250,.slice Ao251 y106.length co251] (h:= ?_);(with_reducible refine(eY.calls _ _ y103 _ _ y106 false _ ?side1 ?side2 ?side3 ?side4 A4.out).mono ?_);(case side1=>repeat(first|exact(Kd.dH HO105.out).2.2|(with_reducible refine Kd.iZ ?_ _)|(with_reducible refine Kd.jA ?_ _)|(with_reducible refine Kd.jR ?_)));(case side2=>exact(Kd.dH HO105.out).2.1);(case side3=>repeat(first|exact(Kd.dH HO108.out).2.2|(with_reducible refine Kd.iZ ?_ _)|(with_reducible refine Kd.jA ?_ _)|(with_reducible refine Kd.jR ?_)));(case side4=>exact(Kd.dH HO108.out).2.1);rintro e w252 ⟨rfl,hb⟩;refine⟨_,rfl,?_⟩;replace HO105:=aA.mk (Kd.dD (by(with_reducible repeat(first|apply Kd.aX|apply Kd.aY|apply Kd.bP));exact HO105.out) hb);replace HO108:=aA.mk (Kd.dD (by(with_reducible repeat(first|apply Kd.aX|apply Kd.aY|apply Kd.bP));exact HO108.out) hb);replace BK101:=pkK BK101 hb;replace BK102:=pkK BK102 hb;replace HB:=pkB HB hb;try clear hb)|((with_reducible refine aG (f:=35) rfl ?_);refine gl_ 28 Tryz.func35 #[] (h:= ?_);(with_reducible refine(dP.calls (hG:=HG.out.below (pkL HB)) t110 _ A240.out).mono ?_);rintro e w253 ⟨rfl,hb⟩;refine⟨_,rfl,?_⟩;replace HO105:=aA.mk (Kd.dD (by(with_reducible repeat(first|apply Kd.aX|apply Kd.aY|apply Kd.bP));exact HO105.out) hb);replace HO108:=aA.mk (Kd.dD (by(with_reducible repeat(first|apply Kd.aX|apply Kd.aY|apply Kd.bP));exact HO108.out) hb);replace BK101:=pkK BK101 hb;replace BK102:=pkK BK102 hb;replace HB:=pkB HB hb;try clear hb))
  go_ret
  exact pkE HB
end Go.Proofs.YtignanmmgaldeaaGreatDoor.PCongruenceMeets
end
section
set_option linter.unusedVariables false
set_option linter.unusedSimpArgs false
namespace Go.Proofs.YtignanmmgaldeaaGreatDoor.PureMeets
open Go.RowKit Go.Proofs.YtignanmmgaldeaaGreatDoor Go.Proofs.YtignanmmgaldeaaGreatDoor.PCongruenceMeets Go.Proofs.YtignanmmgaldeaaGreatDoor.PLawB Go.Proofs.YtignanmmgaldeaaGreatDoor.LawC Go.Proofs.YtignanmmgaldeaaGreatDoor.RefP Go.Proofs.YtignanmmgaldeaaGreatDoor.PCongI Go.Proofs.YtignanmmgaldeaaGreatDoor.CongM Go.Proofs.YtignanmmgaldeaaGreatDoorW.PrintWords
theorem w0:wrap64 (wrap64 (wrap64 (0+0)+0)+0)=0:=by decide +kernel
theorem j2_val{c d:Option (Int×Int)}{z:Int}(hc:bV c)(hd:bV d)(hz:Bd 250 z)(hs:¬90<lW [sC c,sC d])(k:Nat) :
 aK.j2 (k+1) (text z) false (E0 c) (E1 c) (E2 c) (E0 d) (E1 d) (E2 d) (E0 (jU 100 c d)) (E1 (jU 100 c d)) (E2 (jU 100 c d))=some true:=by
 have go:=qA 0 z;have gk:=nV go hc;have gp:=nV gk hd;have hl:leO (jU 100 c d) (jU 100 (jU 100 (some (cls 100 0 z)) c) d):=join_least hs (leO_trans (yZ _ c) (yY _ d)) (yZ _ d);unfold aK.j2
 dsimp only
 rw[if_neg aCq,v_of hz aCo aCo,Option.bind_some]
 dsimp only
 rw[vK go hc,Option.bind_some]
 dsimp only
 rw[vK gk hd,Option.bind_some]
 dsimp only
 rw[wL (nV hc hd) gp,Option.bind_some,if_pos w0,if_pos (decide_eq_true hl),jC,Option.bind_some]
theorem j1_val{c d:Option (Int×Int)}{z:Int}(hc:bV c)(hd:bV d)(hz:Bd 250 z)(k:Nat) :
 aK.j1 (k+2) (text z) (decide (memO c z)) (decide (memO d z)) false (E0 c) (E1 c) (E2 c) (E0 d) (E1 d) (E2 d) (E0 (eX.o c d)) (E1 (eX.o c d)) (E2 (eX.o c d)) (E0 (jU 100 c d)) (E1 (jU 100 c d)) (E2 (jU 100 c d))=some true:=by
 unfold aK.j1
 dsimp only
 have hp:longP [sC c,sC d]:=by
  have a:=vV hc;have b:=vV hd;refine⟨by show 2≤8;omega,?_⟩;simp only[List.forall_mem_cons,sC];exact⟨⟨by omega,by omega⟩,⟨by omega,by omega⟩,fun x hx=>by cases hx⟩
 have hlong:iI.f [⟨E0 c,E1 c,E2 c⟩,⟨E0 d,E1 d,E2 d⟩]=some (decide (90<lW [sC c,sC d])):=by
  show iI.f [sC c,sC d]=_;unfold iI.f;rw[if_pos hp]
 rw[if_neg aCq,hlong,Option.bind_some]
 by_cases hs:90<lW [sC c,sC d]
 ·rw[if_pos (decide_eq_true hs),jC,Option.bind_some]
 ·rw[if_neg (by rw[decide_eq_false hs];simp),v_in (good_meet hc hd) hz aCo aCo,Option.bind_some]
  by_cases hi:memO c z
  ·rw[if_pos (decide_eq_true hi),dec_bne (show memO (eX.o c d) z↔memO d z from⟨fun q=>(meet_snd hs q).2,fun q=>meet_mem hi q⟩)]
   exact j2_val hc hd hz hs k
  ·rw[if_neg (by simpa using hi),show(decide (memO (eX.o c d) z) != false)=false by rw[decide_eq_false (fun q=>hi (meet_snd hs q).1)];rfl]
   exact j2_val hc hd hz hs k
theorem j0_val{c d:Option (Int×Int)}{z:Int}(hc:bV c)(hd:bV d)(hz:Bd 250 z)(k:Nat) :
 aK.j0 (k+3) (text z) false (E0 c) (E1 c) (E2 c) (E0 d) (E1 d) (E2 d) (E0 (eX.o c d)) (E1 (eX.o c d)) (E2 (eX.o c d)) (E0 (jU 100 c d)) (E1 (jU 100 c d)) (E2 (jU 100 c d))=some true:=by
 have gj:=nV hc hd;have gm:=good_meet hc hd;have J1:=j1_val (z:=z) hc hd hz k;unfold aK.j0
 dsimp only
 rw[if_neg aCq,v_in hc hz aCo aCo,Option.bind_some,v_in hd hz aCo aCo,Option.bind_some]
 by_cases hi:memO c z
 ·have hj:memO (jU 100 c d) z:=leO_mem (yY c d) hi
  rw[if_pos (decide_eq_true hi),v_in gj hz aCo aCo,Option.bind_some,if_pos (decide_eq_true hj)]
  by_cases hs:memO d z
  ·rw[if_pos (decide_eq_true hs),v_in gm hz aCo aCo,Option.bind_some,decide_eq_true (meet_mem hi hs)]
   exact J1
  ·rw[if_neg (by simpa using hs)]
   exact J1
 ·rw[if_neg (by simpa using hi)]
  by_cases hs:memO d z
  ·have hj:memO (jU 100 c d) z:=leO_mem (yZ c d) hs
   rw[if_pos (decide_eq_true hs),v_in gj hz aCo aCo,Option.bind_some,if_pos (decide_eq_true hj)];exact J1
  ·rw[if_neg (by simpa using hs)]
   exact J1
theorem law(e1:Bool)(m1 r1:ByteArray)(e2:Bool)(m2 r2 a:ByteArray)(h1:m1.size≤140737488351232)(h2:r1.size≤140737488351232)(h3:m2.size≤140737488351232)(h4:r2.size≤140737488351232)(h5:a.size≤140737488351232) :
 aK.f 8 e1 m1 r1 e2 m2 r2 a=some true:=by
 have hz:szP [⟨e1,m1,r1⟩,⟨e2,m2,r2⟩] [a]:=⟨by show 2≤8;omega,by show 1≤8;omega,by simp only[List.forall_mem_cons];exact⟨⟨h1,h2⟩,⟨h3,h4⟩,fun x hx=>by cases hx⟩,by simp only[List.forall_mem_cons];exact⟨h5,fun x hx=>by cases hx⟩⟩;unfold aK.f eY.f;rw[if_pos hz,Option.bind_some]
 by_cases hr:yI [⟨e1,m1,r1⟩,⟨e2,m2,r2⟩] [a]
 ·rw[if_pos (decide_eq_true hr)]
  obtain⟨⟨hC,hI⟩,hF,hG⟩:=hr;obtain⟨c,gc,ec⟩:=rC (hC _ (List.mem_cons_self));obtain⟨d,gd,ed⟩:=rC (hC _ (List.mem_cons_of_mem _ (List.mem_cons_self)));obtain⟨z,rfl,bz⟩:=aB1 (hI _ (List.mem_cons_self)) (hG _ (List.mem_cons_self));obtain⟨rfl,rfl,rfl⟩:=S36.mk.inj ec;obtain⟨rfl,rfl,rfl⟩:=S36.mk.inj ed;rw[v_meet gc gd,Option.bind_some,vK gc gd,Option.bind_some]
  dsimp only
  rw[wL gc (nV gc gd),Option.bind_some,wL gd (nV gc gd),Option.bind_some,if_pos w0,if_pos (decide_eq_true (yY c d)),decide_eq_true (yZ c d)];exact j0_val gc gd bz 5
 ·rw[if_neg (by simpa using hr),jC,Option.bind_some]
end Go.Proofs.YtignanmmgaldeaaGreatDoor.PureMeets
end
