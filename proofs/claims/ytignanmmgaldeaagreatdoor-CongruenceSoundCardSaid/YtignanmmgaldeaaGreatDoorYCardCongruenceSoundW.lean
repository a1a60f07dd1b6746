/- Lemmas for the proof. -/
import Derived.Test.YtignanmmgaldeaaGreatDoorYK
section
set_option linter.unusedVariables false
set_option linter.unusedSimpArgs false
namespace Go.Proofs.YtignanmmgaldeaaGreatDoor.PCongruenceSound
open Go.Proofs.YtignanmmgaldeaaGreatDoor.PLawB
open Go.RowKit Go.Proofs.YtignanmmgaldeaaGreatDoorW.PrintWords Go.Proofs.YtignanmmgaldeaaGreatDoorW.PrintLast Go.Proofs.YtignanmmgaldeaaGreatDoorW.PrintMore
attribute [local go_sem] gI gJ iE iF
def errW:Option Int→Value
 |none=> .nilIface
 |some c=> .iface 0 (.int .i64 c)
theorem dW:errW none= .nilIface:=rfl
theorem dX(c:Int):errW (some c)= .iface 0 (.int .i64 c):=rfl
end Go.Proofs.YtignanmmgaldeaaGreatDoor.PCongruenceSound
end
section
set_option linter.unusedVariables false
set_option linter.unusedSimpArgs false
set_option maxHeartbeats 8000000
set_option maxRecDepth 100000
namespace Go.Proofs.YtignanmmgaldeaaGreatDoor.PCongruenceSound
open Go.Proofs.YtignanmmgaldeaaGreatDoor.PLawB
open Go.RowKit Go.Proofs.YtignanmmgaldeaaGreatDoorW.PrintWords Go.Proofs.YtignanmmgaldeaaGreatDoorW.PrintLast Go.Proofs.YtignanmmgaldeaaGreatDoorW.PrintMore
attribute [local go_sem] gI gJ iE iF
def dB.f(a0:ByteArray):Option (Bool×ByteArray×ByteArray):=some (false,(⟨#[48]⟩:ByteArray),a0)
theorem dB.calls(a0:ByteArray)(r1:Bool)(r2:ByteArray)(r3:ByteArray)(w:World)(h:dB.f a0=some (r1,r2,r3)) :
 Calls Tryz.prog 116 #[.string a0] w fun e w'=>e= .returned (.agg #[.bool r1,.string r2,.string r3])∧Below w.heap.size w w':=by
 have hu36:=Tryz.underlying36;have HB:=aA.mk (Below.refl w.heap.size w);have H:(some (false,(⟨#[48]⟩:ByteArray),a0))=some (r1,r2,r3):=h;clear h;simp only[Option.some.injEq,Prod.mk.injEq] at H;obtain⟨rfl,rfl,rfl⟩:=H;go_enter Tryz.func116,Tryz.ntmps116
 go_wp2_with(first|((with_reducible refine aJ (N:=2) rfl ?_);refine bx_ 2 36 #[.bool false,.string (⟨#[]⟩:ByteArray),.string (⟨#[]⟩:ByteArray)] (h:= ?_);intro gb101 hg w2 hbox hb;have BK101:=aA.mk (hbox);have GW101:=pkG HB hg;have GE101:=GW101;replace HB:=pkB HB hb;clear hb hbox hg;obtain⟨⟨hcz3_0,hcz3_1,hcz3_2⟩,hfz3_0,hfz3_1,hfz3_2⟩:=pk3 BK101))
 refine bodyPost_ret (results_cell_row rfl _ _ gb101 36 #[.bool false,.string (⟨#[48]⟩:ByteArray),.string a0] (0,0) _ rfl (pkS3 BK101) Tryz.underlying36 rfl (by kernel_rfl)) rfl ?_;exact pkE HB
def mO.f(a0_0:Bool)(a0_1:ByteArray)(a0_2:ByteArray):Option (Bool×ByteArray×ByteArray×Int):=(dB.f (⟨#[48]⟩:ByteArray)).bind fun bt104=>((iD.f bt104.1 bt104.2.1 bt104.2.2 a0_0 a0_1 a0_2).bind fun bt107=>(some (bt107.1,bt107.2.1,bt107.2.2.1,bt107.2.2.2)))
theorem mO.calls(a0_0:Bool)(a0_1:ByteArray)(a0_2:ByteArray)(r1:Bool)(r2:ByteArray)(r3:ByteArray)(r4:Int)(w:World)(hG:GW w)(h:mO.f a0_0 a0_1 a0_2=some (r1,r2,r3,r4)) :
 Calls Tryz.prog 48 #[.agg #[.bool a0_0,.string a0_1,.string a0_2]] w fun e w'=>e= .returned (.tuple #[.agg #[.bool r1,.string r2,.string r3],.int .i64 r4])∧Below w.heap.size w w':=by
 have HG:=aA.mk hG;clear hG;have hu36:=Tryz.underlying36;have HB:=aA.mk (Below.refl w.heap.size w);have H:((dB.f (⟨#[48]⟩:ByteArray)).bind fun bt104=>((iD.f bt104.1 bt104.2.1 bt104.2.2 a0_0 a0_1 a0_2).bind fun bt107=>(some (bt107.1,bt107.2.1,bt107.2.2.1,bt107.2.2.2))))=some (r1,r2,r3,r4):=h;clear h;obtain⟨⟨t104,t105,t106⟩,A2,H⟩:=bi H;try dsimp only at H
 obtain⟨⟨t107,t108,t109,t110⟩,A3,H⟩:=bi H;try dsimp only at H
 simp only[Option.some.injEq,Prod.mk.injEq] at H;obtain⟨rfl,rfl,rfl,rfl⟩:=H;go_enter Tryz.func48,Tryz.ntmps48
 try go_wp2_with(first|((with_reducible refine aJ (N:=1) rfl ?_);refine bx_ 1 36 #[.bool a0_0,.string a0_1,.string a0_2] (h:= ?_);intro gb102 hg w4 hbox hb;have BK102:=aA.mk (hbox);have GW102:=pkG HB hg;have GE102:=GW102;replace HB:=pkB HB hb;clear hb hbox hg)|((with_reducible refine aJ (N:=2) rfl ?_);refine bx_ 2 36 #[.bool false,.string (⟨#[]⟩:ByteArray),.string (⟨#[]⟩:ByteArray)] (h:= ?_);intro gb103 hg w5 hbox hb;have BK103:=aA.mk (hbox);have GW103:=pkG HB hg;have GE103:=GW103;obtain⟨NB102_103,NB103_102,_,_⟩:=pkQ BK102 hg;replace BK102:=pkK BK102 hb;replace HB:=pkB HB hb;clear hb hbox hg))
 replace BK102:=aA.mk (aQ BK102.out);replace BK103:=aA.mk (aQ BK103.out);replace HB:=aA.mk (bG HB.out)
 refine jY (n:=7) (S:=fun w'=>w'.cell? ⟨gb102,0,none⟩=some (.bool a0_0)∧w'.cell? ⟨gb102,1,none⟩=some (.string a0_1)∧w'.cell? ⟨gb102,2,none⟩=some (.string a0_2)) (ds:= []) #[false,false,false,false,false,false,false] (by kernel_rfl) rfl rfl ⟨(aC BK102.out 0).trans rfl,(aC BK102.out 1).trans rfl,(aC BK102.out 2).trans rfl⟩ (fun hHeld=> ?_);generalize w5.drew=w6 at BK102 BK103 HB hHeld ⊢;refine tk_ 1 5 hHeld (hy:=by rintro w' ⟨s0,s1,s2⟩;go_simp;with_reducible rfl) (h:= ?_);refine on_ 0 4 (h:=fun K hK=> ?_);refine g1_ Tryz.func116 #[.string (⟨#[48]⟩:ByteArray)] (h:= ?_);with_reducible refine(dB.calls (⟨#[48]⟩:ByteArray) t104 t105 t106 _ A2.out).mono ?_
 rintro e w7 ⟨rfl,hb⟩;refine⟨_,rfl,?_⟩;replace BK102:=pkK BK102 hb;replace BK103:=pkK BK103 hb;replace HB:=pkB HB hb
 (try clear hb)
 (try clear hb2)
 (try clear hk)
 (try clear hi)
 refine hK.out _ _ ⟨(aC BK102.out 0).trans rfl,(aC BK102.out 1).trans rfl,(aC BK102.out 2).trans rfl⟩ (fun hHeld=> ?_);clear hK K;refine gG (a':= ?_) ?_ ?_
 rotate_left
 ·show Act.put _ (some 4) _=_
  simp only[Act.put,List.setIfInBounds_toArray,List.set_cons_zero,List.set_cons_succ,dE,dM];rfl
 refine on_ 2 6 (h:=fun K hK=> ?_);refine g1_ Tryz.func52 #[.agg #[.bool t104,.string t105,.string t106],.agg #[.bool a0_0,.string a0_1,.string a0_2]] (h:= ?_);with_reducible refine(iD.calls (hG:=HG.out.below (pkL HB)) t104 t105 t106 a0_0 a0_1 a0_2 t107 t108 t109 t110 _ A3.out).mono ?_
 rintro e w8 ⟨rfl,hb⟩;refine⟨_,rfl,?_⟩;replace BK102:=pkK BK102 hb;replace BK103:=pkK BK103 hb;replace HB:=pkB HB hb
 (try clear hb)
 (try clear hb2)
 (try clear hk)
 (try clear hi)
 refine hK.out _ _ ⟨(aC BK102.out 0).trans rfl,(aC BK102.out 1).trans rfl,(aC BK102.out 2).trans rfl⟩ (fun hHeld=> ?_);clear hK K;refine gG (a':= ?_) ?_ ?_
 rotate_left
 ·show Act.put _ (some 6) _=_
  simp only[Act.put,List.setIfInBounds_toArray,List.set_cons_zero,List.set_cons_succ,dE,dM];rfl
 refine pr_ 3 7 (h:= ?_);refine pr_ 4 8 (h:= ?_);refine one_ (i:=5) (N:=none) #[true,true,true,true,true,true,false] rfl rfl (by kernel_rfl) aCr (fun K hK=> ?_);have hs9:w8.cell? ⟨gb103,0,none⟩=some (.bool false):=(aC BK103.out 0).trans rfl;have hfs9:=aI BK103.out 0;have hns9_0:=NB102_103.out;have hms9_0:=NB103_102.out;have hs10:w8.cell? ⟨gb103,1,none⟩=some (.string (⟨#[]⟩:ByteArray)):=(aC BK103.out 1).trans rfl;have hfs10:=aI BK103.out 1;have hns10_0:=NB102_103.out;have hms10_0:=NB103_102.out;have hs11:w8.cell? ⟨gb103,2,none⟩=some (.string (⟨#[]⟩:ByteArray)):=(aC BK103.out 2).trans rfl;have hfs11:=aI BK103.out 2;have hns11_0:=NB102_103.out;have hms11_0:=NB103_102.out;refine skip_ (w1:= ?_) (by rfl) rfl ?_ ?_
 rotate_left
 ·go_simp
  rfl
 refine hK.out _ _ ⟨((aCt (p:=⟨gb103,_,none⟩) NB102_103.out _).trans (((aCt (p:=⟨gb103,_,none⟩) NB102_103.out _).trans (((aCt (p:=⟨gb103,_,none⟩) NB102_103.out _).trans (hHeld.1)))))),((aCt (p:=⟨gb103,_,none⟩) NB102_103.out _).trans (((aCt (p:=⟨gb103,_,none⟩) NB102_103.out _).trans (((aCt (p:=⟨gb103,_,none⟩) NB102_103.out _).trans (hHeld.2.1)))))),((aCt (p:=⟨gb103,_,none⟩) NB102_103.out _).trans (((aCt (p:=⟨gb103,_,none⟩) NB102_103.out _).trans (((aCt (p:=⟨gb103,_,none⟩) NB102_103.out _).trans (hHeld.2.2))))))⟩ (fun hHeld=> ?_);clear hK K;refine pr_ 6 3 (h:= ?_);refine kT (by kernel_rfl) ?_
 try go_wp2
 refine bodyPost_ret (jG rfl _ _ gb103 36 #[.bool t107,.string t108,.string t109] (0,0) _ rfl (pkS3 BK103) Tryz.underlying36 rfl (by kernel_rfl)) rfl ?_;exact pkE HB
def rW.f(a0:ByteArray):Option (ByteArray×Int):=(jS.f (⟨#[48]⟩:ByteArray) a0).bind fun bt111=>(some (bt111.1,bt111.2))
theorem rW.calls(a0:ByteArray)(r1:ByteArray)(r2:Int)(w:World)(hG:GW w)(h:rW.f a0=some (r1,r2)) :
 Calls Tryz.prog 70 #[.string a0] w fun e w'=>e= .returned (.tuple #[.string r1,.int .i64 r2])∧Below w.heap.size w w':=by
 have HG:=aA.mk hG;clear hG;have HB:=aA.mk (Below.refl w.heap.size w);have H:((jS.f (⟨#[48]⟩:ByteArray) a0).bind fun bt111=>(some (bt111.1,bt111.2)))=some (r1,r2):=h;clear h;obtain⟨⟨t111,t112⟩,A2,H⟩:=bi H;try dsimp only at H
 simp only[Option.some.injEq,Prod.mk.injEq] at H;obtain⟨rfl,rfl⟩:=H;go_enter Tryz.func70,Tryz.ntmps70
 go_wp2_with(first|((with_reducible refine aG (f:=24) rfl ?_);refine gl_ 5 Tryz.func24 #[.string (⟨#[48]⟩:ByteArray),.string a0] (h:= ?_);(with_reducible refine(jS.calls (hG:=HG.out.below (pkL HB)) (⟨#[48]⟩:ByteArray) a0 t111 t112 _ A2.out).mono ?_);rintro e w3 ⟨rfl,hb⟩;refine⟨_,rfl,?_⟩;replace HB:=pkB HB hb;try clear hb))
 go_ret2
 exact pkE HB
end Go.Proofs.YtignanmmgaldeaaGreatDoor.PCongruenceSound
end
section
set_option linter.unusedVariables false
set_option linter.unusedSimpArgs false
set_option maxHeartbeats 8000000
set_option maxRecDepth 100000
namespace Go.Proofs.YtignanmmgaldeaaGreatDoor.PCongruenceSound
open Go.Proofs.YtignanmmgaldeaaGreatDoor.PLawB
open Go.RowKit Go.Proofs.YtignanmmgaldeaaGreatDoorW.PrintWords Go.Proofs.YtignanmmgaldeaaGreatDoorW.PrintLast Go.Proofs.YtignanmmgaldeaaGreatDoorW.PrintMore
attribute [local go_sem] gI gJ iE iF
mutual
def aT.j0:Nat→Bool→Bool→Bool→Bool→ByteArray→ByteArray→Bool→ByteArray→ByteArray→ByteArray→ByteArray→Option (Bool)
 |0,_,_,_,_,_,_,_,_,_,_,_=>none
 |k+1,x3,x5,x57,x114000,x114001,x114002,x114003,x114004,x114005,x114006,x114007=>if x57=true then(some false) else(if x3=true then(aT.j1 k (!x5) x114000 x114001 x114002 x114003 x114004 x114005 x114006 x114007) else(aT.j1 k true x114000 x114001 x114002 x114003 x114004 x114005 x114006 x114007))
def aT.j1:Nat→Bool→Bool→ByteArray→ByteArray→Bool→ByteArray→ByteArray→ByteArray→ByteArray→Option (Bool)
 |0,_,_,_,_,_,_,_,_,_=>none
 |k+1,x63,x114000,x114001,x114002,x114003,x114004,x114005,x114006,x114007=>if x63=true then((dP.f).bind fun t126=>(some t126)) else((iL.f x114000 x114001 x114002 x114003 x114004 x114005).bind fun bt127=>((iD.f x114000 x114001 x114002 x114003 x114004 x114005).bind fun bt132=>((iM.f x114000 x114001 x114002 x114003 x114004 x114005).bind fun bt137=>((iP.f x114000 x114001 x114002 x114003 x114004 x114005).bind fun bt142=>((iQ.f x114000 x114001 x114002 x114003 x114004 x114005).bind fun bt147=>((mO.f x114000 x114001 x114002).bind fun bt152=>(if(wrap64 ((wrap64 ((wrap64 ((wrap64 ((wrap64 (bt127.2.2.2+bt132.2.2.2))+bt137.2.2.2))+bt142.2.2.2))+bt147.2.2.2))+bt152.2.2.2))=0 then((kM.f x114006 x114007).bind fun bt157=>((jS.f x114006 x114007).bind fun bt159=>((lK.f x114006 x114007).bind fun bt161=>((rW.f x114006).bind fun bt163=>(if(wrap64 ((wrap64 ((wrap64 (bt157.2+bt159.2))+bt161.2))+bt163.2))=0 then((dJ.f bt127.1 bt127.2.1 bt127.2.2.1 bt157.1).bind fun t165=>(if t165=true then((dJ.f bt132.1 bt132.2.1 bt132.2.2.1 bt159.1).bind fun t166=>(if t166=true then((dJ.f bt137.1 bt137.2.1 bt137.2.2.1 bt161.1).bind fun t167=>(if t167=true then((dJ.f bt152.1 bt152.2.1 bt152.2.2.1 bt163.1).bind fun t168=>(aT.j2 k (!t168) x114000 x114001 x114002 x114003 x114004 x114005 x114006 x114007 bt142.1 bt142.2.1 bt142.2.2.1 bt147.1 bt147.2.1 bt147.2.2.1)) else(aT.j2 k true x114000 x114001 x114002 x114003 x114004 x114005 x114006 x114007 bt142.1 bt142.2.1 bt142.2.2.1 bt147.1 bt147.2.1 bt147.2.2.1))) else(aT.j2 k true x114000 x114001 x114002 x114003 x114004 x114005 x114006 x114007 bt142.1 bt142.2.1 bt142.2.2.1 bt147.1 bt147.2.1 bt147.2.2.1))) else(aT.j2 k true x114000 x114001 x114002 x114003 x114004 x114005 x114006 x114007 bt142.1 bt142.2.1 bt142.2.2.1 bt147.1 bt147.2.1 bt147.2.2.1))) else(aT.j2 k true x114000 x114001 x114002 x114003 x114004 x114005 x114006 x114007 bt142.1 bt142.2.1 bt142.2.2.1 bt147.1 bt147.2.1 bt147.2.2.1)))))) else(some false))))))))
def aT.j2:Nat→Bool→Bool→ByteArray→ByteArray→Bool→ByteArray→ByteArray→ByteArray→ByteArray→Bool→ByteArray→ByteArray→Bool→ByteArray→ByteArray→Option (Bool)
 |0,_,_,_,_,_,_,_,_,_,_,_,_,_,_,_=>none
 |k+1,x184,x114000,x114001,x114002,x114003,x114004,x114005,x114006,x114007,x147000,x147001,x147002,x152000,x152001,x152002=>if x184=true then(some false) else(if x114007.toList=([48]:List UInt8) then((dP.f).bind fun t169=>(some t169)) else((jT.f x114006 x114007).bind fun bt170=>((fC.f x114006 x114007).bind fun bt172=>(if bt170.2=0 then(if bt172.2=0 then((dJ.f x147000 x147001 x147002 bt170.1).bind fun t174=>(if t174=true then((dJ.f x152000 x152001 x152002 bt172.1).bind fun t175=>(if t175=true then((dP.f).bind fun t176=>(some t176)) else(some false))) else(some false))) else(some false)) else(some false)))))
end
def aT.f(k:Nat)(a0_0:Bool)(a0_1:ByteArray)(a0_2:ByteArray)(a0_3:Bool)(a0_4:ByteArray)(a0_5:ByteArray)(a0_6:ByteArray)(a0_7:ByteArray):Option (Bool):=(eY.f (([(⟨a0_0,a0_1,a0_2⟩:S36),(⟨a0_3,a0_4,a0_5⟩:S36)]:List (S36))) (([a0_6,a0_7]:List ByteArray))).bind fun t120=>(if t120=true then((iU.f a0_0 a0_1 a0_2 a0_6).bind fun bt122=>((iU.f a0_3 a0_4 a0_5 a0_7).bind fun bt124=>(if bt122.2=0 then(aT.j0 k bt122.1 bt124.1 (bt124.2 != 0) a0_0 a0_1 a0_2 a0_3 a0_4 a0_5 a0_6 a0_7) else(aT.j0 k bt122.1 bt124.1 true a0_0 a0_1 a0_2 a0_3 a0_4 a0_5 a0_6 a0_7)))) else((dP.f).bind fun t121=>(some t121)))
theorem aT.calls(k:Nat)(a0_0:Bool)(a0_1:ByteArray)(a0_2:ByteArray)(a0_3:Bool)(a0_4:ByteArray)(a0_5:ByteArray)(a0_6:ByteArray)(a0_7:ByteArray)(r:Bool)(w:World)(hG:GW w)(hrT:r=true)(h:aT.f k a0_0 a0_1 a0_2 a0_3 a0_4 a0_5 a0_6 a0_7=some r) :
 Calls Tryz.prog 14 #[.agg #[.bool a0_0,.string a0_1,.string a0_2,.bool a0_3,.string a0_4,.string a0_5,.string a0_6,.string a0_7]] w fun e w'=>e= .returned (.bool r)∧Below w.heap.size w w':=by
 have HG:=aA.mk hG;clear hG;have hu66:=Tryz.underlying66;have hu36:=Tryz.underlying36;have HB:=aA.mk (Below.refl w.heap.size w);have H:((eY.f (([(⟨a0_0,a0_1,a0_2⟩:S36),(⟨a0_3,a0_4,a0_5⟩:S36)]:List (S36))) (([a0_6,a0_7]:List ByteArray))).bind fun t120=>(if t120=true then((iU.f a0_0 a0_1 a0_2 a0_6).bind fun bt122=>((iU.f a0_3 a0_4 a0_5 a0_7).bind fun bt124=>(if bt122.2=0 then(aT.j0 k bt122.1 bt124.1 (bt124.2 != 0) a0_0 a0_1 a0_2 a0_3 a0_4 a0_5 a0_6 a0_7) else(aT.j0 k bt122.1 bt124.1 true a0_0 a0_1 a0_2 a0_3 a0_4 a0_5 a0_6 a0_7)))) else((dP.f).bind fun t121=>(some t121))))=some r:=h;clear h;obtain⟨y114,hy114⟩:∃y_:List (S36),y_=(([(⟨a0_0,a0_1,a0_2⟩:S36),(⟨a0_3,a0_4,a0_5⟩:S36)]:List (S36))):=⟨_,rfl⟩
 replace H:((eY.f y114 (([a0_6,a0_7]:List ByteArray))).bind fun t120=>(if t120=true then((iU.f a0_0 a0_1 a0_2 a0_6).bind fun bt122=>((iU.f a0_3 a0_4 a0_5 a0_7).bind fun bt124=>(if bt122.2=0 then(aT.j0 k bt122.1 bt124.1 (bt124.2 != 0) a0_0 a0_1 a0_2 a0_3 a0_4 a0_5 a0_6 a0_7) else(aT.j0 k bt122.1 bt124.1 true a0_0 a0_1 a0_2 a0_3 a0_4 a0_5 a0_6 a0_7)))) else((dP.f).bind fun t121=>(some t121))))=some r:=by first|(rw[hy114];with_reducible exact H)|(have H2_:=(Option.bind_some _ _).symm.trans H;rw[hy114];with_reducible exact H2_)|(have H2_:=(Option.bind_some _ _).symm.trans H;with_reducible exact H2_)|with_reducible exact H|(rw[hy114];exact H)|exact H
 have Ny114:=aA.mk hy114;clear hy114;obtain⟨y117,hy117⟩:∃y_:List ByteArray,y_=(([a0_6,a0_7]:List ByteArray)):=⟨_,rfl⟩
 replace H:((eY.f y114 y117).bind fun t120=>(if t120=true then((iU.f a0_0 a0_1 a0_2 a0_6).bind fun bt122=>((iU.f a0_3 a0_4 a0_5 a0_7).bind fun bt124=>(if bt122.2=0 then(aT.j0 k bt122.1 bt124.1 (bt124.2 != 0) a0_0 a0_1 a0_2 a0_3 a0_4 a0_5 a0_6 a0_7) else(aT.j0 k bt122.1 bt124.1 true a0_0 a0_1 a0_2 a0_3 a0_4 a0_5 a0_6 a0_7)))) else((dP.f).bind fun t121=>(some t121))))=some r:=by first|(rw[hy117];with_reducible exact H)|(have H2_:=(Option.bind_some _ _).symm.trans H;rw[hy117];with_reducible exact H2_)|(have H2_:=(Option.bind_some _ _).symm.trans H;with_reducible exact H2_)|with_reducible exact H|(rw[hy117];exact H)|exact H
 have Ny117:=aA.mk hy117;clear hy117;obtain⟨t120,A2,H⟩:=bi H;try dsimp only at H
 by_cases c3:t120=true
 ·subst c3
  rw[if_pos rfl] at H;obtain⟨⟨t122,t123⟩,A4,H⟩:=bi H;try dsimp only at H
  obtain⟨⟨t124,t125⟩,A5,H⟩:=bi H;try dsimp only at H
  have HC6:=aA.mk H;clear H;go_enter Tryz.func14,Tryz.ntmps14
  go_upto_region 5 with (first|((with_reducible refine aJ (N:=1) rfl ?_);refine bx_ 1 66 #[.bool a0_0,.string a0_1,.string a0_2,.bool a0_3,.string a0_4,.string a0_5,.string a0_6,.string a0_7] (h:= ?_);intro gb113 hg w7 hbox hb;have BK113:=aA.mk (hbox);have GW113:=pkG HB hg;have GE113:=GW113;replace HB:=pkB HB hb;clear hb hbox hg;have hcz8_0:w7.cell? ⟨gb113,0,none⟩=some (.bool a0_0):=(aC BK113.out 0).trans rfl;have hcz8_1:w7.cell? ⟨gb113,1,none⟩=some (.string a0_1):=(aC BK113.out 1).trans rfl;have hcz8_2:w7.cell? ⟨gb113,2,none⟩=some (.string a0_2):=(aC BK113.out 2).trans rfl;have hcz8_3:w7.cell? ⟨gb113,3,none⟩=some (.bool a0_3):=(aC BK113.out 3).trans rfl;have hcz8_4:w7.cell? ⟨gb113,4,none⟩=some (.string a0_4):=(aC BK113.out 4).trans rfl;have hcz8_5:w7.cell? ⟨gb113,5,none⟩=some (.string a0_5):=(aC BK113.out 5).trans rfl;have hcz8_6:w7.cell? ⟨gb113,6,none⟩=some (.string a0_6):=(aC BK113.out 6).trans rfl;have hcz8_7:w7.cell? ⟨gb113,7,none⟩=some (.string a0_7):=(aC BK113.out 7).trans rfl;have hfz8_0:=aI BK113.out 0;have hfz8_1:=aI BK113.out 1;have hfz8_2:=aI BK113.out 2;have hfz8_3:=aI BK113.out 3;have hfz8_4:=aI BK113.out 4;have hfz8_5:=aI BK113.out 5;have hfz8_6:=aI BK113.out 6;have hfz8_7:=aI BK113.out 7)|((with_reducible refine aJ (N:=27) rfl ?_);refine Kd.lV k36 _ 36 ?hg (N:=27) ?hd (xs:=([(⟨a0_0,a0_1,a0_2⟩:S36),(⟨a0_3,a0_4,a0_5⟩:S36)]:List (S36))) (inner:= [.bool a0_0,.string a0_1,.string a0_2,.bool a0_3,.string a0_4,.string a0_5]) (ok:=fun _=>True) (okp:=fun _=>True) ?hr ?hp (fun _ hk=>hk) trivial (Below.refl _ _) (Nat.le_refl _) aCq ?_;(case hd=>rfl);(case hg=>rfl);(case hr=>first|(go_simp;done)|(go_simp;rfl));(case hp=>exact(Reps.c3 (show Kd.M k36 _ _ _ (⟨a0_0,a0_1,a0_2⟩:S36) [.bool a0_0,.string a0_1,.string a0_2] from(iO _ _ _ (⟨a0_0,a0_1,a0_2⟩:S36))) (Reps.c3 (show Kd.M k36 _ _ _ (⟨a0_3,a0_4,a0_5⟩:S36) [.bool a0_3,.string a0_4,.string a0_5] from(iO _ _ _ (⟨a0_3,a0_4,a0_5⟩:S36))) (Reps.none _ _))));intro v115 w9 ho10 hb hg_ hnew_;clear hg_ hnew_;(first|rw[←Ny114.out] at ho10|(simp only[Int.reduceToNat] at ho10;rw[←Ny114.out] at ho10));have HO116:=aA.mk (Kd.jF ho10 (dU (pkL HB)));replace BK113:=pkK BK113 hb;replace HB:=pkB HB hb;clear hb ho10;have hcz11_0:w9.cell? ⟨gb113,0,none⟩=some (.bool a0_0):=(aC BK113.out 0).trans rfl;have hcz11_1:w9.cell? ⟨gb113,1,none⟩=some (.string a0_1):=(aC BK113.out 1).trans rfl;have hcz11_2:w9.cell? ⟨gb113,2,none⟩=some (.string a0_2):=(aC BK113.out 2).trans rfl;have hcz11_3:w9.cell? ⟨gb113,3,none⟩=some (.bool a0_3):=(aC BK113.out 3).trans rfl;have hcz11_4:w9.cell? ⟨gb113,4,none⟩=some (.string a0_4):=(aC BK113.out 4).trans rfl;have hcz11_5:w9.cell? ⟨gb113,5,none⟩=some (.string a0_5):=(aC BK113.out 5).trans rfl;have hcz11_6:w9.cell? ⟨gb113,6,none⟩=some (.string a0_6):=(aC BK113.out 6).trans rfl;have hcz11_7:w9.cell? ⟨gb113,7,none⟩=some (.string a0_7):=(aC BK113.out 7).trans rfl;have hfz11_0:=aI BK113.out 0;have hfz11_1:=aI BK113.out 1;have hfz11_2:=aI BK113.out 2;have hfz11_3:=aI BK113.out 3;have hfz11_4:=aI BK113.out 4;have hfz11_5:=aI BK113.out 5;have hfz11_6:=aI BK113.out 6;have hfz11_7:=aI BK113.out 7)|((with_reducible refine aJ (N:=32) rfl ?_);refine Kd.lV Kd.string _ 22 ?hg (N:=32) ?hd (xs:=([a0_6,a0_7]:List ByteArray)) (inner:= [.string a0_6,.string a0_7]) (ok:=fun _=>True) (okp:=fun _=>True) ?hr ?hp (fun _ hk=>hk) trivial (Below.refl _ _) (Nat.le_refl _) aCq ?_;(case hd=>rfl);(case hg=>rfl);(case hr=>first|(go_simp;done)|(go_simp;rfl));(case hp=>exact(Reps.one (show Kd.M Kd.string _ _ _ a0_6 [.string a0_6] from rfl) (Reps.one (show Kd.M Kd.string _ _ _ a0_7 [.string a0_7] from rfl) (Reps.none _ _))));intro v118 w12 ho13 hb hg_ hnew_;clear hg_ hnew_;(first|rw[←Ny117.out] at ho13|(simp only[Int.reduceToNat] at ho13;rw[←Ny117.out] at ho13));have n0_:=aA.mk (Kd.dD (by(with_reducible repeat(first|apply Kd.aX|apply Kd.aY|apply Kd.bP));exact HO116.out) hb);have n1_:=aA.mk (Kd.jF ho13 (dU (pkL HB)));have n2_:=pkK BK113 hb;have n3_:=pkB HB hb;clear HO116;clear BK113;clear HB;have HO116:=n0_;have HO119:=n1_;have BK113:=n2_;have HB:=n3_;clear n0_ n1_ n2_ n3_;clear hb ho13;obtain⟨Ao14,co14,eo14⟩:=Kd.gY HO116.out;subst eo14;obtain⟨Ao15,co15,eo15⟩:=Kd.gY HO119.out;subst eo15)|((with_reducible refine aG (f:=46) rfl ?_);refine gl_ 33 Tryz.func46 #[.slice Ao14 y114.length co14,.slice Ao15 y117.length co15] (h:= ?_);(with_reducible refine(eY.calls _ _ y114 _ _ y117 true _ ?side1 ?side2 ?side3 ?side4 A2.out).mono ?_);(case side1=>repeat(first|exact(Kd.dH HO116.out).2.2|(with_reducible refine Kd.iZ ?_ _)|(with_reducible refine Kd.jA ?_ _)|(with_reducible refine Kd.jR ?_)));(case side2=>exact(Kd.dH HO116.out).2.1);(case side3=>repeat(first|exact(Kd.dH HO119.out).2.2|(with_reducible refine Kd.iZ ?_ _)|(with_reducible refine Kd.jA ?_ _)|(with_reducible refine Kd.jR ?_)));(case side4=>exact(Kd.dH HO119.out).2.1);rintro e w16 ⟨rfl,hb⟩;refine⟨_,rfl,?_⟩;replace HO116:=aA.mk (Kd.dD (by(with_reducible repeat(first|apply Kd.aX|apply Kd.aY|apply Kd.bP));exact HO116.out) hb);replace HO119:=aA.mk (Kd.dD (by(with_reducible repeat(first|apply Kd.aX|apply Kd.aY|apply Kd.bP));exact HO119.out) hb);replace BK113:=pkK BK113 hb;replace HB:=pkB HB hb;try clear hb;have hcz17_0:w16.cell? ⟨gb113,0,none⟩=some (.bool a0_0):=(aC BK113.out 0).trans rfl;have hcz17_1:w16.cell? ⟨gb113,1,none⟩=some (.string a0_1):=(aC BK113.out 1).trans rfl;have hcz17_2:w16.cell? ⟨gb113,2,none⟩=some (.string a0_2):=(aC BK113.out 2).trans rfl;have hcz17_3:w16.cell? ⟨gb113,3,none⟩=some (.bool a0_3):=(aC BK113.out 3).trans rfl;have hcz17_4:w16.cell? ⟨gb113,4,none⟩=some (.string a0_4):=(aC BK113.out 4).trans rfl;have hcz17_5:w16.cell? ⟨gb113,5,none⟩=some (.string a0_5):=(aC BK113.out 5).trans rfl;have hcz17_6:w16.cell? ⟨gb113,6,none⟩=some (.string a0_6):=(aC BK113.out 6).trans rfl;have hcz17_7:w16.cell? ⟨gb113,7,none⟩=some (.string a0_7):=(aC BK113.out 7).trans rfl;have hfz17_0:=aI BK113.out 0;have hfz17_1:=aI BK113.out 1;have hfz17_2:=aI BK113.out 2;have hfz17_3:=aI BK113.out 3;have hfz17_4:=aI BK113.out 4;have hfz17_5:=aI BK113.out 5;have hfz17_6:=aI BK113.out 6;have hfz17_7:=aI BK113.out 7)|((with_reducible refine aG (f:=60) rfl ?_);refine gl_ 41 Tryz.func60 #[.agg #[.bool a0_0,.string a0_1,.string a0_2],.string a0_6] (h:= ?_);(with_reducible refine(iU.calls (hG:=HG.out.below (pkL HB)) a0_0 a0_1 a0_2 a0_6 t122 t123 _ A4.out).mono ?_);rintro e w18 ⟨rfl,hb⟩;refine⟨_,rfl,?_⟩;replace HO116:=aA.mk (Kd.dD (by(with_reducible repeat(first|apply Kd.aX|apply Kd.aY|apply Kd.bP));exact HO116.out) hb);replace HO119:=aA.mk (Kd.dD (by(with_reducible repeat(first|apply Kd.aX|apply Kd.aY|apply Kd.bP));exact HO119.out) hb);replace BK113:=pkK BK113 hb;replace HB:=pkB HB hb;try clear hb;have hcz19_0:w18.cell? ⟨gb113,0,none⟩=some (.bool a0_0):=(aC BK113.out 0).trans rfl;have hcz19_1:w18.cell? ⟨gb113,1,none⟩=some (.string a0_1):=(aC BK113.out 1).trans rfl;have hcz19_2:w18.cell? ⟨gb113,2,none⟩=some (.string a0_2):=(aC BK113.out 2).trans rfl;have hcz19_3:w18.cell? ⟨gb113,3,none⟩=some (.bool a0_3):=(aC BK113.out 3).trans rfl;have hcz19_4:w18.cell? ⟨gb113,4,none⟩=some (.string a0_4):=(aC BK113.out 4).trans rfl;have hcz19_5:w18.cell? ⟨gb113,5,none⟩=some (.string a0_5):=(aC BK113.out 5).trans rfl;have hcz19_6:w18.cell? ⟨gb113,6,none⟩=some (.string a0_6):=(aC BK113.out 6).trans rfl;have hcz19_7:w18.cell? ⟨gb113,7,none⟩=some (.string a0_7):=(aC BK113.out 7).trans rfl;have hfz19_0:=aI BK113.out 0;have hfz19_1:=aI BK113.out 1;have hfz19_2:=aI BK113.out 2;have hfz19_3:=aI BK113.out 3;have hfz19_4:=aI BK113.out 4;have hfz19_5:=aI BK113.out 5;have hfz19_6:=aI BK113.out 6;have hfz19_7:=aI BK113.out 7)|((with_reducible refine aG (f:=60) rfl ?_);refine gl_ 49 Tryz.func60 #[.agg #[.bool a0_3,.string a0_4,.string a0_5],.string a0_7] (h:= ?_);(with_reducible refine(iU.calls (hG:=HG.out.below (pkL HB)) a0_3 a0_4 a0_5 a0_7 t124 t125 _ A5.out).mono ?_);rintro e w20 ⟨rfl,hb⟩;refine⟨_,rfl,?_⟩;replace HO116:=aA.mk (Kd.dD (by(with_reducible repeat(first|apply Kd.aX|apply Kd.aY|apply Kd.bP));exact HO116.out) hb);replace HO119:=aA.mk (Kd.dD (by(with_reducible repeat(first|apply Kd.aX|apply Kd.aY|apply Kd.bP));exact HO119.out) hb);replace BK113:=pkK BK113 hb;replace HB:=pkB HB hb;try clear hb))
  (try simp only[Act.put,List.setIfInBounds_toArray,List.set_cons_zero,List.set_cons_succ])
  go_cut [57] (fun v57 wc=>∃(kq:Nat) (x57_5:Bool),v57= .bool x57_5∧aA (aT.j0 kq t122 t124 x57_5 a0_0 a0_1 a0_2 a0_3 a0_4 a0_5 a0_6 a0_7=some r)∧aA (kq≤k)∧aA (wc.heap[gb113]? =some (.cells #[.bool a0_0,.string a0_1,.string a0_2,.bool a0_3,.string a0_4,.string a0_5,.string a0_6,.string a0_7] 66 (0,0)))∧aA (Below w.heap.size w wc))
  case first=>as_aux_lemma=>
   have H:=HC6.out;clear HC6
   by_cases c21:t123=0
   ·rw[if_pos c21] at H
    have c21b0:(t123==0)=true:=beq_iff_eq.mpr c21;have c21b1:(t123 != 0)=false:=bne_eq_false_iff_eq.mpr c21;clear c21
    (first|rw[c21b0]|(simp only[dE,dM];rw[c21b0])|skip)
    have H':=aA.mk H;clear H;go_wp2
    go_meet
    case rel=>exact⟨_,((t125 != 0)),aCs,H',⟨by first|omega|exact Nat.le_refl _⟩,⟨pkW BK113⟩,⟨pkL HB⟩⟩
   ·rw[if_neg c21] at H
    have c21b0:(t123==0)=false:=beq_eq_false_iff_ne.mpr c21;have c21b1:(t123 != 0)=true:=bne_iff_ne.mpr c21
    (first|rw[c21b0]|(simp only[dE,dM];rw[c21b0])|skip)
    have H':=aA.mk H;clear H;go_wp2
    go_meet
    case rel=>exact⟨_,(true),aCs,H',⟨by first|omega|exact Nat.le_refl _⟩,⟨pkW BK113⟩,⟨pkL HB⟩⟩
  case rest=>as_aux_lemma=>
   clear HC6;try clear c3
   try clear c21
   try clear c21b0
   try clear c21b1
   try clear hcz11_0
   try clear hcz11_1
   try clear hcz11_2
   try clear hcz11_3
   try clear hcz11_4
   try clear hcz11_5
   try clear hcz11_6
   try clear hcz11_7
   try clear hcz17_0
   try clear hcz17_1
   try clear hcz17_2
   try clear hcz17_3
   try clear hcz17_4
   try clear hcz17_5
   try clear hcz17_6
   try clear hcz17_7
   try clear hcz19_0
   try clear hcz19_1
   try clear hcz19_2
   try clear hcz19_3
   try clear hcz19_4
   try clear hcz19_5
   try clear hcz19_6
   try clear hcz19_7
   try clear hcz8_0
   try clear hcz8_1
   try clear hcz8_2
   try clear hcz8_3
   try clear hcz8_4
   try clear hcz8_5
   try clear hcz8_6
   try clear hcz8_7
   try clear hfz11_0
   try clear hfz11_1
   try clear hfz11_2
   try clear hfz11_3
   try clear hfz11_4
   try clear hfz11_5
   try clear hfz11_6
   try clear hfz11_7
   try clear hfz17_0
   try clear hfz17_1
   try clear hfz17_2
   try clear hfz17_3
   try clear hfz17_4
   try clear hfz17_5
   try clear hfz17_6
   try clear hfz17_7
   try clear hfz19_0
   try clear hfz19_1
   try clear hfz19_2
   try clear hfz19_3
   try clear hfz19_4
   try clear hfz19_5
   try clear hfz19_6
   try clear hfz19_7
   try clear hfz8_0
   try clear hfz8_1
   try clear hfz8_2
   try clear hfz8_3
   try clear hfz8_4
   try clear hfz8_5
   try clear hfz8_6
   try clear hfz8_7
   obtain⟨kq,x57_5,rfl,HA,HJ5,BK113,HB⟩:=hcut
   cases kq with
   |zero=>exact absurd HA.out (by simp[aT.j0])
   |succ kj5=>
    have H:=HA.out;clear HA;simp only[aT.j0] at H
    by_cases c22:x57_5=true
    ·subst c22
     rw[if_pos rfl] at H;exact absurd (Option.some.inj H) (by rw[hrT];decide)
    ·replace c22:=Bool.eq_false_iff.mpr c22
     subst c22;rw[if_neg (show ¬(false=true) by decide)] at H;have HC23:=aA.mk H;clear H
     go_upto_region 7 with (fail)
     go_cut [63] (fun v63 wc=>∃(kq:Nat) (x63_22:Bool),v63= .bool x63_22∧aA (aT.j1 kq x63_22 a0_0 a0_1 a0_2 a0_3 a0_4 a0_5 a0_6 a0_7=some r)∧aA (kq≤kj5)∧aA (wc.heap[gb113]? =some (.cells #[.bool a0_0,.string a0_1,.string a0_2,.bool a0_3,.string a0_4,.string a0_5,.string a0_6,.string a0_7] 66 (0,0)))∧aA (Below w.heap.size w wc))
     case first=>as_aux_lemma=>
      have H:=HC23.out;clear HC23
      by_cases c24:t122=true
      ·subst c24
       rw[if_pos rfl] at H;have H':=aA.mk H;clear H;go_wp2
       go_meet
       case rel=>exact⟨_,(!t124),aCs,H',⟨by have:=HJ5.out;first|omega|exact Nat.le_refl _⟩,⟨pkW BK113⟩,⟨pkL HB⟩⟩
      ·replace c24:=Bool.eq_false_iff.mpr c24
       subst c24;rw[if_neg (show ¬(false=true) by decide)] at H;have H':=aA.mk H;clear H;go_wp2
       go_meet
       case rel=>exact⟨_,(true),aCs,H',⟨by have:=HJ5.out;first|omega|exact Nat.le_refl _⟩,⟨pkW BK113⟩,⟨pkL HB⟩⟩
     case rest=>as_aux_lemma=>
      clear HC23;try clear c3
      try clear c21
      try clear c21b0
      try clear c21b1
      try clear c22
      try clear c24
      try clear hcz11_0
      try clear hcz11_1
      try clear hcz11_2
      try clear hcz11_3
      try clear hcz11_4
      try clear hcz11_5
      try clear hcz11_6
      try clear hcz11_7
      try clear hcz17_0
      try clear hcz17_1
      try clear hcz17_2
      try clear hcz17_3
      try clear hcz17_4
      try clear hcz17_5
      try clear hcz17_6
      try clear hcz17_7
      try clear hcz19_0
      try clear hcz19_1
      try clear hcz19_2
      try clear hcz19_3
      try clear hcz19_4
      try clear hcz19_5
      try clear hcz19_6
      try clear hcz19_7
      try clear hcz8_0
      try clear hcz8_1
      try clear hcz8_2
      try clear hcz8_3
      try clear hcz8_4
      try clear hcz8_5
      try clear hcz8_6
      try clear hcz8_7
      try clear hfz11_0
      try clear hfz11_1
      try clear hfz11_2
      try clear hfz11_3
      try clear hfz11_4
      try clear hfz11_5
      try clear hfz11_6
      try clear hfz11_7
      try clear hfz17_0
      try clear hfz17_1
      try clear hfz17_2
      try clear hfz17_3
      try clear hfz17_4
      try clear hfz17_5
      try clear hfz17_6
      try clear hfz17_7
      try clear hfz19_0
      try clear hfz19_1
      try clear hfz19_2
      try clear hfz19_3
      try clear hfz19_4
      try clear hfz19_5
      try clear hfz19_6
      try clear hfz19_7
      try clear hfz8_0
      try clear hfz8_1
      try clear hfz8_2
      try clear hfz8_3
      try clear hfz8_4
      try clear hfz8_5
      try clear hfz8_6
      try clear hfz8_7
      obtain⟨kq,x63_22,rfl,HA,HJ22,BK113,HB⟩:=hcut
      cases kq with
      |zero=>exact absurd HA.out (by simp[aT.j1])
      |succ kj22=>
       have H:=HA.out;clear HA;simp only[aT.j1] at H
       by_cases c25:x63_22=true
       ·subst c25
        rw[if_pos rfl] at H;obtain⟨t126,A26,H⟩:=bi H;try dsimp only at H
        obtain rfl:=Option.some.inj H
        go_wp2_with(first|((with_reducible refine aG (f:=35) rfl ?_);refine gl_ 64 Tryz.func35 #[] (h:= ?_);(with_reducible refine(dP.calls (hG:=HG.out.below (pkL HB)) t126 _ A26.out).mono ?_);rintro e w27 ⟨rfl,hb⟩;refine⟨_,rfl,?_⟩;replace BK113:=pkK BK113 hb;replace HB:=pkB HB hb;try clear hb))
        go_ret
        exact pkE HB
       ·replace c25:=Bool.eq_false_iff.mpr c25
        subst c25;rw[if_neg (show ¬(false=true) by decide)] at H;obtain⟨⟨t127,t128,t129,t130⟩,A28,H⟩:=bi H;try dsimp only at H
        obtain⟨⟨t132,t133,t134,t135⟩,A29,H⟩:=bi H;try dsimp only at H
        obtain⟨⟨t137,t138,t139,t140⟩,A30,H⟩:=bi H;try dsimp only at H
        obtain⟨⟨t142,t143,t144,t145⟩,A31,H⟩:=bi H;try dsimp only at H
        obtain⟨⟨t147,t148,t149,t150⟩,A32,H⟩:=bi H;try dsimp only at H
        obtain⟨⟨t152,t153,t154,t155⟩,A33,H⟩:=bi H;try dsimp only at H
        by_cases c34:(wrap64 ((wrap64 ((wrap64 ((wrap64 ((wrap64 (t130+t135))+t140))+t145))+t150))+t155))=0
        ·rw[if_pos c34] at H
         have c34b0:((wrap64 ((wrap64 ((wrap64 ((wrap64 ((wrap64 (t130+t135))+t140))+t145))+t150))+t155))==0)=true:=beq_iff_eq.mpr c34;have c34b1:((wrap64 ((wrap64 ((wrap64 ((wrap64 ((wrap64 (t130+t135))+t140))+t145))+t150))+t155)) != 0)=false:=bne_eq_false_iff_eq.mpr c34;clear c34;obtain⟨⟨t157,t158⟩,A35,H⟩:=bi H;try dsimp only at H
         obtain⟨⟨t159,t160⟩,A36,H⟩:=bi H;try dsimp only at H
         obtain⟨⟨t161,t162⟩,A37,H⟩:=bi H;try dsimp only at H
         obtain⟨⟨t163,t164⟩,A38,H⟩:=bi H;try dsimp only at H
         have HC39:=aA.mk H;clear H;have hcz40_0:wc.cell? ⟨gb113,0,none⟩=some (.bool a0_0):=(aC BK113.out 0).trans rfl;have hcz40_1:wc.cell? ⟨gb113,1,none⟩=some (.string a0_1):=(aC BK113.out 1).trans rfl;have hcz40_2:wc.cell? ⟨gb113,2,none⟩=some (.string a0_2):=(aC BK113.out 2).trans rfl;have hcz40_3:wc.cell? ⟨gb113,3,none⟩=some (.bool a0_3):=(aC BK113.out 3).trans rfl;have hcz40_4:wc.cell? ⟨gb113,4,none⟩=some (.string a0_4):=(aC BK113.out 4).trans rfl;have hcz40_5:wc.cell? ⟨gb113,5,none⟩=some (.string a0_5):=(aC BK113.out 5).trans rfl;have hcz40_6:wc.cell? ⟨gb113,6,none⟩=some (.string a0_6):=(aC BK113.out 6).trans rfl;have hcz40_7:wc.cell? ⟨gb113,7,none⟩=some (.string a0_7):=(aC BK113.out 7).trans rfl;have hfz40_0:=aI BK113.out 0;have hfz40_1:=aI BK113.out 1;have hfz40_2:=aI BK113.out 2;have hfz40_3:=aI BK113.out 3;have hfz40_4:=aI BK113.out 4;have hfz40_5:=aI BK113.out 5;have hfz40_6:=aI BK113.out 6;have hfz40_7:=aI BK113.out 7
         go_upto_region 21 with (first|((with_reducible refine aG (f:=50) rfl ?_);refine gl_ 70 Tryz.func50 #[.agg #[.bool a0_0,.string a0_1,.string a0_2],.agg #[.bool a0_3,.string a0_4,.string a0_5]] (h:= ?_);(with_reducible refine(iL.calls (hG:=HG.out.below (pkL HB)) a0_0 a0_1 a0_2 a0_3 a0_4 a0_5 t127 t128 t129 t130 _ A28.out).mono ?_);rintro e w41 ⟨rfl,hb⟩;refine⟨_,rfl,?_⟩;replace BK113:=pkK BK113 hb;replace HB:=pkB HB hb;try clear hb)|((with_reducible refine aJ (N:=7) rfl ?_);refine bx_ 7 36 #[.bool false,.string (⟨#[]⟩:ByteArray),.string (⟨#[]⟩:ByteArray)] (h:= ?_);intro gb131 hg w42 hbox hb;have BK131:=aA.mk (hbox);have GW131:=pkG HB hg;have GE131:=GW131;obtain⟨NB113_131,NB131_113,hnb43,hnc43⟩:=pkQ BK113 hg;replace BK113:=pkK BK113 hb;replace HB:=pkB HB hb;clear hb hbox hg;obtain⟨⟨hcz44_0,hcz44_1,hcz44_2⟩,hfz44_0,hfz44_1,hfz44_2⟩:=pk3 BK131;have hcz45_0:w42.cell? ⟨gb113,0,none⟩=some (.bool a0_0):=(aC BK113.out 0).trans rfl;have hcz45_1:w42.cell? ⟨gb113,1,none⟩=some (.string a0_1):=(aC BK113.out 1).trans rfl;have hcz45_2:w42.cell? ⟨gb113,2,none⟩=some (.string a0_2):=(aC BK113.out 2).trans rfl;have hcz45_3:w42.cell? ⟨gb113,3,none⟩=some (.bool a0_3):=(aC BK113.out 3).trans rfl;have hcz45_4:w42.cell? ⟨gb113,4,none⟩=some (.string a0_4):=(aC BK113.out 4).trans rfl;have hcz45_5:w42.cell? ⟨gb113,5,none⟩=some (.string a0_5):=(aC BK113.out 5).trans rfl;have hcz45_6:w42.cell? ⟨gb113,6,none⟩=some (.string a0_6):=(aC BK113.out 6).trans rfl;have hcz45_7:w42.cell? ⟨gb113,7,none⟩=some (.string a0_7):=(aC BK113.out 7).trans rfl;have hfz45_0:=aI BK113.out 0;have hfz45_1:=aI BK113.out 1;have hfz45_2:=aI BK113.out 2;have hfz45_3:=aI BK113.out 3;have hfz45_4:=aI BK113.out 4;have hfz45_5:=aI BK113.out 5;have hfz45_6:=aI BK113.out 6;have hfz45_7:=aI BK113.out 7)|((with_reducible refine aG (f:=52) rfl ?_);refine gl_ 78 Tryz.func52 #[.agg #[.bool a0_0,.string a0_1,.string a0_2],.agg #[.bool a0_3,.string a0_4,.string a0_5]] (h:= ?_);(with_reducible refine(iD.calls (hG:=HG.out.below (pkL HB)) a0_0 a0_1 a0_2 a0_3 a0_4 a0_5 t132 t133 t134 t135 _ A29.out).mono ?_);rintro e w46 ⟨rfl,hb⟩;refine⟨_,rfl,?_⟩;replace BK113:=pkF BK113 hb;replace BK131:=aA.mk (dF (g:=gb131) (o:= .cells #[.bool t127,.string t128,.string t129] 36 (0,0)) (pkS3 BK131) hb);replace HB:=pkB HB hb;try clear hb)|((with_reducible refine aJ (N:=8) rfl ?_);refine bx_ 8 36 #[.bool false,.string (⟨#[]⟩:ByteArray),.string (⟨#[]⟩:ByteArray)] (h:= ?_);intro gb136 hg w47 hbox hb;have BK136:=aA.mk (hbox);have GW136:=pkG HB hg;have GE136:=GW136;obtain⟨NB113_136,NB136_113,hnb48,hnc48⟩:=pkQ BK113 hg;obtain⟨NB131_136,NB136_131,hnb49,hnc49⟩:=pkQ BK131 hg;replace BK113:=pkK BK113 hb;replace BK131:=pkK BK131 hb;replace HB:=pkB HB hb;clear hb hbox hg;obtain⟨⟨hcz50_0,hcz50_1,hcz50_2⟩,hfz50_0,hfz50_1,hfz50_2⟩:=pk3 BK136;have hcz51_0:w47.cell? ⟨gb113,0,none⟩=some (.bool a0_0):=(aC BK113.out 0).trans rfl;have hcz51_1:w47.cell? ⟨gb113,1,none⟩=some (.string a0_1):=(aC BK113.out 1).trans rfl;have hcz51_2:w47.cell? ⟨gb113,2,none⟩=some (.string a0_2):=(aC BK113.out 2).trans rfl;have hcz51_3:w47.cell? ⟨gb113,3,none⟩=some (.bool a0_3):=(aC BK113.out 3).trans rfl;have hcz51_4:w47.cell? ⟨gb113,4,none⟩=some (.string a0_4):=(aC BK113.out 4).trans rfl;have hcz51_5:w47.cell? ⟨gb113,5,none⟩=some (.string a0_5):=(aC BK113.out 5).trans rfl;have hcz51_6:w47.cell? ⟨gb113,6,none⟩=some (.string a0_6):=(aC BK113.out 6).trans rfl;have hcz51_7:w47.cell? ⟨gb113,7,none⟩=some (.string a0_7):=(aC BK113.out 7).trans rfl;have hfz51_0:=aI BK113.out 0;have hfz51_1:=aI BK113.out 1;have hfz51_2:=aI BK113.out 2;have hfz51_3:=aI BK113.out 3;have hfz51_4:=aI BK113.out 4;have hfz51_5:=aI BK113.out 5;have hfz51_6:=aI BK113.out 6;have hfz51_7:=aI BK113.out 7)|((with_reducible refine aG (f:=54) rfl ?_);refine gl_ 86 Tryz.func54 #[.agg #[.bool a0_0,.string a0_1,.string a0_2],.agg #[.bool a0_3,.string a0_4,.string a0_5]] (h:= ?_);(with_reducible refine(iM.calls (hG:=HG.out.below (pkL HB)) a0_0 a0_1 a0_2 a0_3 a0_4 a0_5 t137 t138 t139 t140 _ A30.out).mono ?_);rintro e w52 ⟨rfl,hb⟩;refine⟨_,rfl,?_⟩;replace BK113:=pkF BK113 hb;replace BK131:=pkF BK131 hb;replace BK136:=aA.mk (dF (g:=gb136) (o:= .cells #[.bool t132,.string t133,.string t134] 36 (0,0)) (pkS3 BK136) hb);replace HB:=pkB HB hb;try clear hb)|((with_reducible refine aJ (N:=9) rfl ?_);refine bx_ 9 36 #[.bool false,.string (⟨#[]⟩:ByteArray),.string (⟨#[]⟩:ByteArray)] (h:= ?_);intro gb141 hg w53 hbox hb;have BK141:=aA.mk (hbox);have GW141:=pkG HB hg;have GE141:=GW141;obtain⟨NB113_141,NB141_113,hnb54,hnc54⟩:=pkQ BK113 hg;obtain⟨NB131_141,NB141_131,hnb55,hnc55⟩:=pkQ BK131 hg;obtain⟨NB136_141,NB141_136,hnb56,hnc56⟩:=pkQ BK136 hg;replace BK113:=pkK BK113 hb;replace BK131:=pkK BK131 hb;replace BK136:=pkK BK136 hb;replace HB:=pkB HB hb;clear hb hbox hg;obtain⟨⟨hcz57_0,hcz57_1,hcz57_2⟩,hfz57_0,hfz57_1,hfz57_2⟩:=pk3 BK141;have hcz58_0:w53.cell? ⟨gb113,0,none⟩=some (.bool a0_0):=(aC BK113.out 0).trans rfl;have hcz58_1:w53.cell? ⟨gb113,1,none⟩=some (.string a0_1):=(aC BK113.out 1).trans rfl;have hcz58_2:w53.cell? ⟨gb113,2,none⟩=some (.string a0_2):=(aC BK113.out 2).trans rfl;have hcz58_3:w53.cell? ⟨gb113,3,none⟩=some (.bool a0_3):=(aC BK113.out 3).trans rfl;have hcz58_4:w53.cell? ⟨gb113,4,none⟩=some (.string a0_4):=(aC BK113.out 4).trans rfl;have hcz58_5:w53.cell? ⟨gb113,5,none⟩=some (.string a0_5):=(aC BK113.out 5).trans rfl;have hcz58_6:w53.cell? ⟨gb113,6,none⟩=some (.string a0_6):=(aC BK113.out 6).trans rfl;have hcz58_7:w53.cell? ⟨gb113,7,none⟩=some (.string a0_7):=(aC BK113.out 7).trans rfl;have hfz58_0:=aI BK113.out 0;have hfz58_1:=aI BK113.out 1;have hfz58_2:=aI BK113.out 2;have hfz58_3:=aI BK113.out 3;have hfz58_4:=aI BK113.out 4;have hfz58_5:=aI BK113.out 5;have hfz58_6:=aI BK113.out 6;have hfz58_7:=aI BK113.out 7)|((with_reducible refine aG (f:=36) rfl ?_);refine gl_ 94 Tryz.func36 #[.agg #[.bool a0_0,.string a0_1,.string a0_2],.agg #[.bool a0_3,.string a0_4,.string a0_5]] (h:= ?_);(with_reducible refine(iP.calls (hG:=HG.out.below (pkL HB)) a0_0 a0_1 a0_2 a0_3 a0_4 a0_5 t142 t143 t144 t145 _ A31.out).mono ?_);rintro e w59 ⟨rfl,hb⟩;refine⟨_,rfl,?_⟩;replace BK113:=pkF BK113 hb;replace BK131:=pkF BK131 hb;replace BK136:=pkF BK136 hb;replace BK141:=aA.mk (dF (g:=gb141) (o:= .cells #[.bool t137,.string t138,.string t139] 36 (0,0)) (pkS3 BK141) hb);replace HB:=pkB HB hb;try clear hb)|((with_reducible refine aJ (N:=11) rfl ?_);refine bx_ 11 36 #[.bool false,.string (⟨#[]⟩:ByteArray),.string (⟨#[]⟩:ByteArray)] (h:= ?_);intro gb146 hg w60 hbox hb;have BK146:=aA.mk (hbox);have GW146:=pkG HB hg;have GE146:=GW146;obtain⟨NB113_146,NB146_113,hnb61,hnc61⟩:=pkQ BK113 hg;obtain⟨NB131_146,NB146_131,hnb62,hnc62⟩:=pkQ BK131 hg;obtain⟨NB136_146,NB146_136,hnb63,hnc63⟩:=pkQ BK136 hg;obtain⟨NB141_146,NB146_141,hnb64,hnc64⟩:=pkQ BK141 hg;replace BK113:=pkK BK113 hb;replace BK131:=pkK BK131 hb;replace BK136:=pkK BK136 hb;replace BK141:=pkK BK141 hb;replace HB:=pkB HB hb;clear hb hbox hg;obtain⟨⟨hcz65_0,hcz65_1,hcz65_2⟩,hfz65_0,hfz65_1,hfz65_2⟩:=pk3 BK146;have hcz66_0:w60.cell? ⟨gb113,0,none⟩=some (.bool a0_0):=(aC BK113.out 0).trans rfl;have hcz66_1:w60.cell? ⟨gb113,1,none⟩=some (.string a0_1):=(aC BK113.out 1).trans rfl;have hcz66_2:w60.cell? ⟨gb113,2,none⟩=some (.string a0_2):=(aC BK113.out 2).trans rfl;have hcz66_3:w60.cell? ⟨gb113,3,none⟩=some (.bool a0_3):=(aC BK113.out 3).trans rfl;have hcz66_4:w60.cell? ⟨gb113,4,none⟩=some (.string a0_4):=(aC BK113.out 4).trans rfl;have hcz66_5:w60.cell? ⟨gb113,5,none⟩=some (.string a0_5):=(aC BK113.out 5).trans rfl;have hcz66_6:w60.cell? ⟨gb113,6,none⟩=some (.string a0_6):=(aC BK113.out 6).trans rfl;have hcz66_7:w60.cell? ⟨gb113,7,none⟩=some (.string a0_7):=(aC BK113.out 7).trans rfl;have hfz66_0:=aI BK113.out 0;have hfz66_1:=aI BK113.out 1;have hfz66_2:=aI BK113.out 2;have hfz66_3:=aI BK113.out 3;have hfz66_4:=aI BK113.out 4;have hfz66_5:=aI BK113.out 5;have hfz66_6:=aI BK113.out 6;have hfz66_7:=aI BK113.out 7)|((with_reducible refine aG (f:=38) rfl ?_);refine gl_ 102 Tryz.func38 #[.agg #[.bool a0_0,.string a0_1,.string a0_2],.agg #[.bool a0_3,.string a0_4,.string a0_5]] (h:= ?_);(with_reducible refine(iQ.calls (hG:=HG.out.below (pkL HB)) a0_0 a0_1 a0_2 a0_3 a0_4 a0_5 t147 t148 t149 t150 _ A32.out).mono ?_);rintro e w67 ⟨rfl,hb⟩;refine⟨_,rfl,?_⟩;replace BK113:=pkF BK113 hb;replace BK131:=pkF BK131 hb;replace BK136:=pkF BK136 hb;replace BK141:=pkF BK141 hb;replace BK146:=aA.mk (dF (g:=gb146) (o:= .cells #[.bool t142,.string t143,.string t144] 36 (0,0)) (pkS3 BK146) hb);replace HB:=pkB HB hb;try clear hb)|((with_reducible refine aJ (N:=13) rfl ?_);refine bx_ 13 36 #[.bool false,.string (⟨#[]⟩:ByteArray),.string (⟨#[]⟩:ByteArray)] (h:= ?_);intro gb151 hg w68 hbox hb;have BK151:=aA.mk (hbox);have GW151:=pkG HB hg;have GE151:=GW151;obtain⟨NB113_151,NB151_113,hnb69,hnc69⟩:=pkQ BK113 hg;obtain⟨NB131_151,NB151_131,hnb70,hnc70⟩:=pkQ BK131 hg;obtain⟨NB136_151,NB151_136,hnb71,hnc71⟩:=pkQ BK136 hg;obtain⟨NB141_151,NB151_141,hnb72,hnc72⟩:=pkQ BK141 hg;obtain⟨NB146_151,NB151_146,hnb73,hnc73⟩:=pkQ BK146 hg;replace BK113:=pkK BK113 hb;replace BK131:=pkK BK131 hb;replace BK136:=pkK BK136 hb;replace BK141:=pkK BK141 hb;replace BK146:=pkK BK146 hb;replace HB:=pkB HB hb;clear hb hbox hg;obtain⟨⟨hcz74_0,hcz74_1,hcz74_2⟩,hfz74_0,hfz74_1,hfz74_2⟩:=pk3 BK151;have hcz75_0:w68.cell? ⟨gb113,0,none⟩=some (.bool a0_0):=(aC BK113.out 0).trans rfl;have hcz75_1:w68.cell? ⟨gb113,1,none⟩=some (.string a0_1):=(aC BK113.out 1).trans rfl;have hcz75_2:w68.cell? ⟨gb113,2,none⟩=some (.string a0_2):=(aC BK113.out 2).trans rfl;have hcz75_3:w68.cell? ⟨gb113,3,none⟩=some (.bool a0_3):=(aC BK113.out 3).trans rfl;have hcz75_4:w68.cell? ⟨gb113,4,none⟩=some (.string a0_4):=(aC BK113.out 4).trans rfl;have hcz75_5:w68.cell? ⟨gb113,5,none⟩=some (.string a0_5):=(aC BK113.out 5).trans rfl;have hcz75_6:w68.cell? ⟨gb113,6,none⟩=some (.string a0_6):=(aC BK113.out 6).trans rfl;have hcz75_7:w68.cell? ⟨gb113,7,none⟩=some (.string a0_7):=(aC BK113.out 7).trans rfl;have hfz75_0:=aI BK113.out 0;have hfz75_1:=aI BK113.out 1;have hfz75_2:=aI BK113.out 2;have hfz75_3:=aI BK113.out 3;have hfz75_4:=aI BK113.out 4;have hfz75_5:=aI BK113.out 5;have hfz75_6:=aI BK113.out 6;have hfz75_7:=aI BK113.out 7)|((with_reducible refine aG (f:=48) rfl ?_);refine gl_ 108 Tryz.func48 #[.agg #[.bool a0_0,.string a0_1,.string a0_2]] (h:= ?_);(with_reducible refine(mO.calls (hG:=HG.out.below (pkL HB)) a0_0 a0_1 a0_2 t152 t153 t154 t155 _ A33.out).mono ?_);rintro e w76 ⟨rfl,hb⟩;refine⟨_,rfl,?_⟩;replace BK113:=pkF BK113 hb;replace BK131:=pkF BK131 hb;replace BK136:=pkF BK136 hb;replace BK141:=pkF BK141 hb;replace BK146:=pkF BK146 hb;replace BK151:=aA.mk (dF (g:=gb151) (o:= .cells #[.bool t147,.string t148,.string t149] 36 (0,0)) (pkS3 BK151) hb);replace HB:=pkB HB hb;try clear hb)|((with_reducible refine aJ (N:=15) rfl ?_);refine bx_ 15 36 #[.bool false,.string (⟨#[]⟩:ByteArray),.string (⟨#[]⟩:ByteArray)] (h:= ?_);intro gb156 hg w77 hbox hb;have BK156:=aA.mk (hbox);have GW156:=pkG HB hg;have GE156:=GW156;obtain⟨NB113_156,NB156_113,hnb78,hnc78⟩:=pkQ BK113 hg;obtain⟨NB131_156,NB156_131,hnb79,hnc79⟩:=pkQ BK131 hg;obtain⟨NB136_156,NB156_136,hnb80,hnc80⟩:=pkQ BK136 hg;obtain⟨NB141_156,NB156_141,hnb81,hnc81⟩:=pkQ BK141 hg;obtain⟨NB146_156,NB156_146,hnb82,hnc82⟩:=pkQ BK146 hg;obtain⟨NB151_156,NB156_151,hnb83,hnc83⟩:=pkQ BK151 hg;replace BK113:=pkK BK113 hb;replace BK131:=pkK BK131 hb;replace BK136:=pkK BK136 hb;replace BK141:=pkK BK141 hb;replace BK146:=pkK BK146 hb;replace BK151:=pkK BK151 hb;replace HB:=pkB HB hb;clear hb hbox hg;obtain⟨⟨hcz84_0,hcz84_1,hcz84_2⟩,hfz84_0,hfz84_1,hfz84_2⟩:=pk3 BK156;have hcz85_0:w77.cell? ⟨gb113,0,none⟩=some (.bool a0_0):=(aC BK113.out 0).trans rfl;have hcz85_1:w77.cell? ⟨gb113,1,none⟩=some (.string a0_1):=(aC BK113.out 1).trans rfl;have hcz85_2:w77.cell? ⟨gb113,2,none⟩=some (.string a0_2):=(aC BK113.out 2).trans rfl;have hcz85_3:w77.cell? ⟨gb113,3,none⟩=some (.bool a0_3):=(aC BK113.out 3).trans rfl;have hcz85_4:w77.cell? ⟨gb113,4,none⟩=some (.string a0_4):=(aC BK113.out 4).trans rfl;have hcz85_5:w77.cell? ⟨gb113,5,none⟩=some (.string a0_5):=(aC BK113.out 5).trans rfl;have hcz85_6:w77.cell? ⟨gb113,6,none⟩=some (.string a0_6):=(aC BK113.out 6).trans rfl;have hcz85_7:w77.cell? ⟨gb113,7,none⟩=some (.string a0_7):=(aC BK113.out 7).trans rfl;have hfz85_0:=aI BK113.out 0;have hfz85_1:=aI BK113.out 1;have hfz85_2:=aI BK113.out 2;have hfz85_3:=aI BK113.out 3;have hfz85_4:=aI BK113.out 4;have hfz85_5:=aI BK113.out 5;have hfz85_6:=aI BK113.out 6;have hfz85_7:=aI BK113.out 7)|((with_reducible refine aG (f:=22) rfl ?_);refine gl_ 128 Tryz.func22 #[.string a0_6,.string a0_7] (h:= ?_);(with_reducible refine(kM.calls (hG:=HG.out.below (pkL HB)) a0_6 a0_7 t157 t158 _ A35.out).mono ?_);rintro e w86 ⟨rfl,hb⟩;refine⟨_,rfl,?_⟩;replace BK113:=pkF BK113 hb;replace BK131:=pkF BK131 hb;replace BK136:=pkF BK136 hb;replace BK141:=pkF BK141 hb;replace BK146:=pkF BK146 hb;replace BK151:=pkF BK151 hb;replace BK156:=aA.mk (dF (g:=gb156) (o:= .cells #[.bool t152,.string t153,.string t154] 36 (0,0)) (pkS3 BK156) hb);replace HB:=pkB HB hb;try clear hb;have hcz87_0:w86.cell? ⟨gb113,0,none⟩=some (.bool a0_0):=(aC BK113.out 0).trans rfl;have hcz87_1:w86.cell? ⟨gb113,1,none⟩=some (.string a0_1):=(aC BK113.out 1).trans rfl;have hcz87_2:w86.cell? ⟨gb113,2,none⟩=some (.string a0_2):=(aC BK113.out 2).trans rfl;have hcz87_3:w86.cell? ⟨gb113,3,none⟩=some (.bool a0_3):=(aC BK113.out 3).trans rfl;have hcz87_4:w86.cell? ⟨gb113,4,none⟩=some (.string a0_4):=(aC BK113.out 4).trans rfl;have hcz87_5:w86.cell? ⟨gb113,5,none⟩=some (.string a0_5):=(aC BK113.out 5).trans rfl;have hcz87_6:w86.cell? ⟨gb113,6,none⟩=some (.string a0_6):=(aC BK113.out 6).trans rfl;have hcz87_7:w86.cell? ⟨gb113,7,none⟩=some (.string a0_7):=(aC BK113.out 7).trans rfl;have hfz87_0:=aI BK113.out 0;have hfz87_1:=aI BK113.out 1;have hfz87_2:=aI BK113.out 2;have hfz87_3:=aI BK113.out 3;have hfz87_4:=aI BK113.out 4;have hfz87_5:=aI BK113.out 5;have hfz87_6:=aI BK113.out 6;have hfz87_7:=aI BK113.out 7)|((with_reducible refine aG (f:=24) rfl ?_);refine gl_ 136 Tryz.func24 #[.string a0_6,.string a0_7] (h:= ?_);(with_reducible refine(jS.calls (hG:=HG.out.below (pkL HB)) a0_6 a0_7 t159 t160 _ A36.out).mono ?_);rintro e w88 ⟨rfl,hb⟩;refine⟨_,rfl,?_⟩;replace BK113:=pkK BK113 hb;replace BK131:=pkK BK131 hb;replace BK136:=pkK BK136 hb;replace BK141:=pkK BK141 hb;replace BK146:=pkK BK146 hb;replace BK151:=pkK BK151 hb;replace BK156:=pkK BK156 hb;replace HB:=pkB HB hb;try clear hb;have hcz89_0:w88.cell? ⟨gb113,0,none⟩=some (.bool a0_0):=(aC BK113.out 0).trans rfl;have hcz89_1:w88.cell? ⟨gb113,1,none⟩=some (.string a0_1):=(aC BK113.out 1).trans rfl;have hcz89_2:w88.cell? ⟨gb113,2,none⟩=some (.string a0_2):=(aC BK113.out 2).trans rfl;have hcz89_3:w88.cell? ⟨gb113,3,none⟩=some (.bool a0_3):=(aC BK113.out 3).trans rfl;have hcz89_4:w88.cell? ⟨gb113,4,none⟩=some (.string a0_4):=(aC BK113.out 4).trans rfl;have hcz89_5:w88.cell? ⟨gb113,5,none⟩=some (.string a0_5):=(aC BK113.out 5).trans rfl;have hcz89_6:w88.cell? ⟨gb113,6,none⟩=some (.string a0_6):=(aC BK113.out 6).trans rfl;have hcz89_7:w88.cell? ⟨gb113,7,none⟩=some (.string a0_7):=(aC BK113.out 7).trans rfl;have hfz89_0:=aI BK113.out 0;have hfz89_1:=aI BK113.out 1;have hfz89_2:=aI BK113.out 2;have hfz89_3:=aI BK113.out 3;have hfz89_4:=aI BK113.out 4;have hfz89_5:=aI BK113.out 5;have hfz89_6:=aI BK113.out 6;have hfz89_7:=aI BK113.out 7)|((with_reducible refine aG (f:=26) rfl ?_);refine gl_ 144 Tryz.func26 #[.string a0_6,.string a0_7] (h:= ?_);(with_reducible refine(lK.calls (hG:=HG.out.below (pkL HB)) a0_6 a0_7 t161 t162 _ A37.out).mono ?_);rintro e w90 ⟨rfl,hb⟩;refine⟨_,rfl,?_⟩;replace BK113:=pkK BK113 hb;replace BK131:=pkK BK131 hb;replace BK136:=pkK BK136 hb;replace BK141:=pkK BK141 hb;replace BK146:=pkK BK146 hb;replace BK151:=pkK BK151 hb;replace BK156:=pkK BK156 hb;replace HB:=pkB HB hb;try clear hb;have hcz91_0:w90.cell? ⟨gb113,0,none⟩=some (.bool a0_0):=(aC BK113.out 0).trans rfl;have hcz91_1:w90.cell? ⟨gb113,1,none⟩=some (.string a0_1):=(aC BK113.out 1).trans rfl;have hcz91_2:w90.cell? ⟨gb113,2,none⟩=some (.string a0_2):=(aC BK113.out 2).trans rfl;have hcz91_3:w90.cell? ⟨gb113,3,none⟩=some (.bool a0_3):=(aC BK113.out 3).trans rfl;have hcz91_4:w90.cell? ⟨gb113,4,none⟩=some (.string a0_4):=(aC BK113.out 4).trans rfl;have hcz91_5:w90.cell? ⟨gb113,5,none⟩=some (.string a0_5):=(aC BK113.out 5).trans rfl;have hcz91_6:w90.cell? ⟨gb113,6,none⟩=some (.string a0_6):=(aC BK113.out 6).trans rfl;have hcz91_7:w90.cell? ⟨gb113,7,none⟩=some (.string a0_7):=(aC BK113.out 7).trans rfl;have hfz91_0:=aI BK113.out 0;have hfz91_1:=aI BK113.out 1;have hfz91_2:=aI BK113.out 2;have hfz91_3:=aI BK113.out 3;have hfz91_4:=aI BK113.out 4;have hfz91_5:=aI BK113.out 5;have hfz91_6:=aI BK113.out 6;have hfz91_7:=aI BK113.out 7)|((with_reducible refine aG (f:=70) rfl ?_);refine gl_ 150 Tryz.func70 #[.string a0_6] (h:= ?_);(with_reducible refine(rW.calls (hG:=HG.out.below (pkL HB)) a0_6 t163 t164 _ A38.out).mono ?_);rintro e w92 ⟨rfl,hb⟩;refine⟨_,rfl,?_⟩;replace BK113:=pkK BK113 hb;replace BK131:=pkK BK131 hb;replace BK136:=pkK BK136 hb;replace BK141:=pkK BK141 hb;replace BK146:=pkK BK146 hb;replace BK151:=pkK BK151 hb;replace BK156:=pkK BK156 hb;replace HB:=pkB HB hb;try clear hb))
         (try simp only[Act.put,List.setIfInBounds_toArray,List.set_cons_zero,List.set_cons_succ])
         go_cut [184] (fun v184 wc=>∃(kq:Nat) (x184_38:Bool),v184= .bool x184_38∧aA (aT.j2 kq x184_38 a0_0 a0_1 a0_2 a0_3 a0_4 a0_5 a0_6 a0_7 t142 t143 t144 t147 t148 t149=some r)∧aA (kq≤kj22)∧aA (wc.heap[gb113]? =some (.cells #[.bool a0_0,.string a0_1,.string a0_2,.bool a0_3,.string a0_4,.string a0_5,.string a0_6,.string a0_7] 66 (0,0)))∧aA (wc.heap[gb131]? =some (.cells #[.bool t127,.string t128,.string t129] 36 (0,0)))∧aA (wc.heap[gb136]? =some (.cells #[.bool t132,.string t133,.string t134] 36 (0,0)))∧aA (wc.heap[gb141]? =some (.cells #[.bool t137,.string t138,.string t139] 36 (0,0)))∧aA (wc.heap[gb146]? =some (.cells #[.bool t142,.string t143,.string t144] 36 (0,0)))∧aA (wc.heap[gb151]? =some (.cells #[.bool t147,.string t148,.string t149] 36 (0,0)))∧aA (wc.heap[gb156]? =some (.cells #[.bool t152,.string t153,.string t154] 36 (0,0)))∧aA (Below w.heap.size w wc))
         case first=>as_aux_lemma=>
          have H:=HC39.out;clear HC39
          by_cases c93:(wrap64 ((wrap64 ((wrap64 (t158+t160))+t162))+t164))=0
          ·rw[if_pos c93] at H
           have c93b0:((wrap64 ((wrap64 ((wrap64 (t158+t160))+t162))+t164))==0)=true:=beq_iff_eq.mpr c93;have c93b1:((wrap64 ((wrap64 ((wrap64 (t158+t160))+t162))+t164)) != 0)=false:=bne_eq_false_iff_eq.mpr c93;clear c93
           (first|rw[c93b0]|(simp only[dE,dM];rw[c93b0])|skip)
           obtain⟨t165,A94,H⟩:=bi H;try dsimp only at H
           by_cases c95:t165=true
           ·subst c95
            rw[if_pos rfl] at H;obtain⟨t166,A96,H⟩:=bi H;try dsimp only at H
            by_cases c97:t166=true
            ·subst c97
             rw[if_pos rfl] at H;obtain⟨t167,A98,H⟩:=bi H;try dsimp only at H
             by_cases c99:t167=true
             ·subst c99
              rw[if_pos rfl] at H;obtain⟨t168,A100,H⟩:=bi H;try dsimp only at H
              have H':=aA.mk H;clear H;have hnb101:=NB131_113.out;have hnc101:=NB113_131.out;have hnb102:=NB131_136.out;have hnc102:=NB136_131.out;have hnb103:=NB131_141.out;have hnc103:=NB141_131.out;have hnb104:=NB131_146.out;have hnc104:=NB146_131.out;have hnb105:=NB131_151.out;have hnc105:=NB151_131.out;have hnb106:=NB131_156.out;have hnc106:=NB156_131.out;obtain⟨⟨hcz107_0,hcz107_1,hcz107_2⟩,hfz107_0,hfz107_1,hfz107_2⟩:=pk3 BK131
              go_wp2_with(first|(go_at_call 68;(with_reducible refine(dJ.calls (hG:=HG.out.below (pkL HB)) t127 t128 t129 t157 true _ A94.out).mono ?_);rintro e w108 ⟨rfl,hb⟩;replace BK113:=pkK BK113 hb;replace BK131:=pkK BK131 hb;replace BK136:=pkK BK136 hb;replace BK141:=pkK BK141 hb;replace BK146:=pkK BK146 hb;replace BK151:=pkK BK151 hb;replace BK156:=pkK BK156 hb;replace HB:=pkB HB hb;try clear hb;have hnb109:=NB136_113.out;have hnc109:=NB113_136.out;have hnb110:=NB136_141.out;have hnc110:=NB141_136.out;have hnb111:=NB136_146.out;have hnc111:=NB146_136.out;have hnb112:=NB136_151.out;have hnc112:=NB151_136.out;have hnb113:=NB136_156.out;have hnc113:=NB156_136.out;obtain⟨⟨hcz114_0,hcz114_1,hcz114_2⟩,hfz114_0,hfz114_1,hfz114_2⟩:=pk3 BK136)|(go_at_call 68;(with_reducible refine(dJ.calls (hG:=HG.out.below (pkL HB)) t132 t133 t134 t159 true _ A96.out).mono ?_);rintro e w115 ⟨rfl,hb⟩;replace BK113:=pkK BK113 hb;replace BK131:=pkK BK131 hb;replace BK136:=pkK BK136 hb;replace BK141:=pkK BK141 hb;replace BK146:=pkK BK146 hb;replace BK151:=pkK BK151 hb;replace BK156:=pkK BK156 hb;replace HB:=pkB HB hb;try clear hb;have hnb116:=NB141_113.out;have hnc116:=NB113_141.out;have hnb117:=NB141_146.out;have hnc117:=NB146_141.out;have hnb118:=NB141_151.out;have hnc118:=NB151_141.out;have hnb119:=NB141_156.out;have hnc119:=NB156_141.out;obtain⟨⟨hcz120_0,hcz120_1,hcz120_2⟩,hfz120_0,hfz120_1,hfz120_2⟩:=pk3 BK141)|(go_at_call 68;(with_reducible refine(dJ.calls (hG:=HG.out.below (pkL HB)) t137 t138 t139 t161 true _ A98.out).mono ?_);rintro e w121 ⟨rfl,hb⟩;replace BK113:=pkK BK113 hb;replace BK131:=pkK BK131 hb;replace BK136:=pkK BK136 hb;replace BK141:=pkK BK141 hb;replace BK146:=pkK BK146 hb;replace BK151:=pkK BK151 hb;replace BK156:=pkK BK156 hb;replace HB:=pkB HB hb;try clear hb;have hnb122:=NB156_113.out;have hnc122:=NB113_156.out;have hnb123:=NB156_146.out;have hnc123:=NB146_156.out;have hnb124:=NB156_151.out;have hnc124:=NB151_156.out;obtain⟨⟨hcz125_0,hcz125_1,hcz125_2⟩,hfz125_0,hfz125_1,hfz125_2⟩:=pk3 BK156)|(go_at_call 68;(with_reducible refine(dJ.calls (hG:=HG.out.below (pkL HB)) t152 t153 t154 t163 t168 _ A100.out).mono ?_);rintro e w126 ⟨rfl,hb⟩;replace BK113:=pkK BK113 hb;replace BK131:=pkK BK131 hb;replace BK136:=pkK BK136 hb;replace BK141:=pkK BK141 hb;replace BK146:=pkK BK146 hb;replace BK151:=pkK BK151 hb;replace BK156:=pkK BK156 hb;replace HB:=pkB HB hb;try clear hb))
              go_meet
              case rel=>exact⟨_,(!t168),aCs,H',⟨by have:=HJ5.out;have:=HJ22.out;first|omega|exact Nat.le_refl _⟩,⟨pkW BK113⟩,⟨pkW BK131⟩,⟨pkW BK136⟩,⟨pkW BK141⟩,⟨pkW BK146⟩,⟨pkW BK151⟩,⟨pkW BK156⟩,⟨pkL HB⟩⟩
             ·replace c99:=Bool.eq_false_iff.mpr c99
              subst c99;rw[if_neg (show ¬(false=true) by decide)] at H;have H':=aA.mk H;clear H;have hnb127:=NB131_113.out;have hnc127:=NB113_131.out;have hnb128:=NB131_136.out;have hnc128:=NB136_131.out;have hnb129:=NB131_141.out;have hnc129:=NB141_131.out;have hnb130:=NB131_146.out;have hnc130:=NB146_131.out;have hnb131:=NB131_151.out;have hnc131:=NB151_131.out;have hnb132:=NB131_156.out;have hnc132:=NB156_131.out;obtain⟨⟨hcz133_0,hcz133_1,hcz133_2⟩,hfz133_0,hfz133_1,hfz133_2⟩:=pk3 BK131
              go_wp2_with(first|(go_at_call 68;(with_reducible refine(dJ.calls (hG:=HG.out.below (pkL HB)) t127 t128 t129 t157 true _ A94.out).mono ?_);rintro e w134 ⟨rfl,hb⟩;replace BK113:=pkK BK113 hb;replace BK131:=pkK BK131 hb;replace BK136:=pkK BK136 hb;replace BK141:=pkK BK141 hb;replace BK146:=pkK BK146 hb;replace BK151:=pkK BK151 hb;replace BK156:=pkK BK156 hb;replace HB:=pkB HB hb;try clear hb;have hnb135:=NB136_113.out;have hnc135:=NB113_136.out;have hnb136:=NB136_141.out;have hnc136:=NB141_136.out;have hnb137:=NB136_146.out;have hnc137:=NB146_136.out;have hnb138:=NB136_151.out;have hnc138:=NB151_136.out;have hnb139:=NB136_156.out;have hnc139:=NB156_136.out;obtain⟨⟨hcz140_0,hcz140_1,hcz140_2⟩,hfz140_0,hfz140_1,hfz140_2⟩:=pk3 BK136)|(go_at_call 68;(with_reducible refine(dJ.calls (hG:=HG.out.below (pkL HB)) t132 t133 t134 t159 true _ A96.out).mono ?_);rintro e w141 ⟨rfl,hb⟩;replace BK113:=pkK BK113 hb;replace BK131:=pkK BK131 hb;replace BK136:=pkK BK136 hb;replace BK141:=pkK BK141 hb;replace BK146:=pkK BK146 hb;replace BK151:=pkK BK151 hb;replace BK156:=pkK BK156 hb;replace HB:=pkB HB hb;try clear hb;have hnb142:=NB141_113.out;have hnc142:=NB113_141.out;have hnb143:=NB141_146.out;have hnc143:=NB146_141.out;have hnb144:=NB141_151.out;have hnc144:=NB151_141.out;have hnb145:=NB141_156.out;have hnc145:=NB156_141.out;obtain⟨⟨hcz146_0,hcz146_1,hcz146_2⟩,hfz146_0,hfz146_1,hfz146_2⟩:=pk3 BK141)|(go_at_call 68;(with_reducible refine(dJ.calls (hG:=HG.out.below (pkL HB)) t137 t138 t139 t161 false _ A98.out).mono ?_);rintro e w147 ⟨rfl,hb⟩;replace BK113:=pkK BK113 hb;replace BK131:=pkK BK131 hb;replace BK136:=pkK BK136 hb;replace BK141:=pkK BK141 hb;replace BK146:=pkK BK146 hb;replace BK151:=pkK BK151 hb;replace BK156:=pkK BK156 hb;replace HB:=pkB HB hb;try clear hb))
              go_meet
              case rel=>exact⟨_,(true),aCs,H',⟨by have:=HJ5.out;have:=HJ22.out;first|omega|exact Nat.le_refl _⟩,⟨pkW BK113⟩,⟨pkW BK131⟩,⟨pkW BK136⟩,⟨pkW BK141⟩,⟨pkW BK146⟩,⟨pkW BK151⟩,⟨pkW BK156⟩,⟨pkL HB⟩⟩
            ·replace c97:=Bool.eq_false_iff.mpr c97
             subst c97;rw[if_neg (show ¬(false=true) by decide)] at H;have H':=aA.mk H;clear H;have hnb148:=NB131_113.out;have hnc148:=NB113_131.out;have hnb149:=NB131_136.out;have hnc149:=NB136_131.out;have hnb150:=NB131_141.out;have hnc150:=NB141_131.out;have hnb151:=NB131_146.out;have hnc151:=NB146_131.out;have hnb152:=NB131_151.out;have hnc152:=NB151_131.out;have hnb153:=NB131_156.out;have hnc153:=NB156_131.out;obtain⟨⟨hcz154_0,hcz154_1,hcz154_2⟩,hfz154_0,hfz154_1,hfz154_2⟩:=pk3 BK131
             go_wp2_with(first|(go_at_call 68;(with_reducible refine(dJ.calls (hG:=HG.out.below (pkL HB)) t127 t128 t129 t157 true _ A94.out).mono ?_);rintro e w155 ⟨rfl,hb⟩;replace BK113:=pkK BK113 hb;replace BK131:=pkK BK131 hb;replace BK136:=pkK BK136 hb;replace BK141:=pkK BK141 hb;replace BK146:=pkK BK146 hb;replace BK151:=pkK BK151 hb;replace BK156:=pkK BK156 hb;replace HB:=pkB HB hb;try clear hb;have hnb156:=NB136_113.out;have hnc156:=NB113_136.out;have hnb157:=NB136_141.out;have hnc157:=NB141_136.out;have hnb158:=NB136_146.out;have hnc158:=NB146_136.out;have hnb159:=NB136_151.out;have hnc159:=NB151_136.out;have hnb160:=NB136_156.out;have hnc160:=NB156_136.out;obtain⟨⟨hcz161_0,hcz161_1,hcz161_2⟩,hfz161_0,hfz161_1,hfz161_2⟩:=pk3 BK136)|(go_at_call 68;(with_reducible refine(dJ.calls (hG:=HG.out.below (pkL HB)) t132 t133 t134 t159 false _ A96.out).mono ?_);rintro e w162 ⟨rfl,hb⟩;replace BK113:=pkK BK113 hb;replace BK131:=pkK BK131 hb;replace BK136:=pkK BK136 hb;replace BK141:=pkK BK141 hb;replace BK146:=pkK BK146 hb;replace BK151:=pkK BK151 hb;replace BK156:=pkK BK156 hb;replace HB:=pkB HB hb;try clear hb))
             go_meet
             case rel=>exact⟨_,(true),aCs,H',⟨by have:=HJ5.out;have:=HJ22.out;first|omega|exact Nat.le_refl _⟩,⟨pkW BK113⟩,⟨pkW BK131⟩,⟨pkW BK136⟩,⟨pkW BK141⟩,⟨pkW BK146⟩,⟨pkW BK151⟩,⟨pkW BK156⟩,⟨pkL HB⟩⟩
           ·replace c95:=Bool.eq_false_iff.mpr c95
            subst c95;rw[if_neg (show ¬(false=true) by decide)] at H;have H':=aA.mk H;clear H;have hnb163:=NB131_113.out;have hnc163:=NB113_131.out;have hnb164:=NB131_136.out;have hnc164:=NB136_131.out;have hnb165:=NB131_141.out;have hnc165:=NB141_131.out;have hnb166:=NB131_146.out;have hnc166:=NB146_131.out;have hnb167:=NB131_151.out;have hnc167:=NB151_131.out;have hnb168:=NB131_156.out;have hnc168:=NB156_131.out;obtain⟨⟨hcz169_0,hcz169_1,hcz169_2⟩,hfz169_0,hfz169_1,hfz169_2⟩:=pk3 BK131
            go_wp2_with(first|(go_at_call 68;(with_reducible refine(dJ.calls (hG:=HG.out.below (pkL HB)) t127 t128 t129 t157 false _ A94.out).mono ?_);rintro e w170 ⟨rfl,hb⟩;replace BK113:=pkK BK113 hb;replace BK131:=pkK BK131 hb;replace BK136:=pkK BK136 hb;replace BK141:=pkK BK141 hb;replace BK146:=pkK BK146 hb;replace BK151:=pkK BK151 hb;replace BK156:=pkK BK156 hb;replace HB:=pkB HB hb;try clear hb))
            go_meet
            case rel=>exact⟨_,(true),aCs,H',⟨by have:=HJ5.out;have:=HJ22.out;first|omega|exact Nat.le_refl _⟩,⟨pkW BK113⟩,⟨pkW BK131⟩,⟨pkW BK136⟩,⟨pkW BK141⟩,⟨pkW BK146⟩,⟨pkW BK151⟩,⟨pkW BK156⟩,⟨pkL HB⟩⟩
          ·rw[if_neg c93] at H
           have c93b0:((wrap64 ((wrap64 ((wrap64 (t158+t160))+t162))+t164))==0)=false:=beq_eq_false_iff_ne.mpr c93;have c93b1:((wrap64 ((wrap64 ((wrap64 (t158+t160))+t162))+t164)) != 0)=true:=bne_iff_ne.mpr c93
           (first|rw[c93b0]|(simp only[dE,dM];rw[c93b0])|skip)
           have H':=aA.mk H;clear H;go_wp2
           go_meet
           case rel=>exact⟨_,(true),aCs,H',⟨by have:=HJ5.out;have:=HJ22.out;first|omega|exact Nat.le_refl _⟩,⟨pkW BK113⟩,⟨pkW BK131⟩,⟨pkW BK136⟩,⟨pkW BK141⟩,⟨pkW BK146⟩,⟨pkW BK151⟩,⟨pkW BK156⟩,⟨pkL HB⟩⟩
         case rest=>as_aux_lemma=>
          clear HC39;try clear c3
          try clear c21
          try clear c21b0
          try clear c21b1
          try clear c22
          try clear c24
          try clear c25
          try clear c34
          try clear c34b0
          try clear c34b1
          try clear c93
          try clear c93b0
          try clear c93b1
          try clear c95
          try clear c97
          try clear c99
          try clear hcz107_0
          try clear hcz107_1
          try clear hcz107_2
          try clear hcz114_0
          try clear hcz114_1
          try clear hcz114_2
          try clear hcz11_0
          try clear hcz11_1
          try clear hcz11_2
          try clear hcz11_3
          try clear hcz11_4
          try clear hcz11_5
          try clear hcz11_6
          try clear hcz11_7
          try clear hcz120_0
          try clear hcz120_1
          try clear hcz120_2
          try clear hcz125_0
          try clear hcz125_1
          try clear hcz125_2
          try clear hcz133_0
          try clear hcz133_1
          try clear hcz133_2
          try clear hcz140_0
          try clear hcz140_1
          try clear hcz140_2
          try clear hcz146_0
          try clear hcz146_1
          try clear hcz146_2
          try clear hcz154_0
          try clear hcz154_1
          try clear hcz154_2
          try clear hcz161_0
          try clear hcz161_1
          try clear hcz161_2
          try clear hcz169_0
          try clear hcz169_1
          try clear hcz169_2
          try clear hcz17_0
          try clear hcz17_1
          try clear hcz17_2
          try clear hcz17_3
          try clear hcz17_4
          try clear hcz17_5
          try clear hcz17_6
          try clear hcz17_7
          try clear hcz19_0
          try clear hcz19_1
          try clear hcz19_2
          try clear hcz19_3
          try clear hcz19_4
          try clear hcz19_5
          try clear hcz19_6
          try clear hcz19_7
          try clear hcz40_0
          try clear hcz40_1
          try clear hcz40_2
          try clear hcz40_3
          try clear hcz40_4
          try clear hcz40_5
          try clear hcz40_6
          try clear hcz40_7
          try clear hcz44_0
          try clear hcz44_1
          try clear hcz44_2
          try clear hcz45_0
          try clear hcz45_1
          try clear hcz45_2
          try clear hcz45_3
          try clear hcz45_4
          try clear hcz45_5
          try clear hcz45_6
          try clear hcz45_7
          try clear hcz50_0
          try clear hcz50_1
          try clear hcz50_2
          try clear hcz51_0
          try clear hcz51_1
          try clear hcz51_2
          try clear hcz51_3
          try clear hcz51_4
          try clear hcz51_5
          try clear hcz51_6
          try clear hcz51_7
          try clear hcz57_0
          try clear hcz57_1
          try clear hcz57_2
          try clear hcz58_0
          try clear hcz58_1
          try clear hcz58_2
          try clear hcz58_3
          try clear hcz58_4
          try clear hcz58_5
          try clear hcz58_6
          try clear hcz58_7
          try clear hcz65_0
          try clear hcz65_1
          try clear hcz65_2
          try clear hcz66_0
          try clear hcz66_1
          try clear hcz66_2
          try clear hcz66_3
          try clear hcz66_4
          try clear hcz66_5
          try clear hcz66_6
          try clear hcz66_7
          try clear hcz74_0
          try clear hcz74_1
          try clear hcz74_2
          try clear hcz75_0
          try clear hcz75_1
          try clear hcz75_2
          try clear hcz75_3
          try clear hcz75_4
          try clear hcz75_5
          try clear hcz75_6
          try clear hcz75_7
          try clear hcz84_0
          try clear hcz84_1
          try clear hcz84_2
          try clear hcz85_0
          try clear hcz85_1
          try clear hcz85_2
          try clear hcz85_3
          try clear hcz85_4
          try clear hcz85_5
          try clear hcz85_6
          try clear hcz85_7
          try clear hcz87_0
          try clear hcz87_1
          try clear hcz87_2
          try clear hcz87_3
          try clear hcz87_4
          try clear hcz87_5
          try clear hcz87_6
          try clear hcz87_7
          try clear hcz89_0
          try clear hcz89_1
          try clear hcz89_2
          try clear hcz89_3
          try clear hcz89_4
          try clear hcz89_5
          try clear hcz89_6
          try clear hcz89_7
          try clear hcz8_0
          try clear hcz8_1
          try clear hcz8_2
          try clear hcz8_3
          try clear hcz8_4
          try clear hcz8_5
          try clear hcz8_6
          try clear hcz8_7
          try clear hcz91_0
          try clear hcz91_1
          try clear hcz91_2
          try clear hcz91_3
          try clear hcz91_4
          try clear hcz91_5
          try clear hcz91_6
          try clear hcz91_7
          try clear hfz107_0
          try clear hfz107_1
          try clear hfz107_2
          try clear hfz114_0
          try clear hfz114_1
          try clear hfz114_2
          try clear hfz11_0
          try clear hfz11_1
          try clear hfz11_2
          try clear hfz11_3
          try clear hfz11_4
          try clear hfz11_5
          try clear hfz11_6
          try clear hfz11_7
          try clear hfz120_0
          try clear hfz120_1
          try clear hfz120_2
          try clear hfz125_0
          try clear hfz125_1
          try clear hfz125_2
          try clear hfz133_0
          try clear hfz133_1
          try clear hfz133_2
          try clear hfz140_0
          try clear hfz140_1
          try clear hfz140_2
          try clear hfz146_0
          try clear hfz146_1
          try clear hfz146_2
          try clear hfz154_0
          try clear hfz154_1
          try clear hfz154_2
          try clear hfz161_0
          try clear hfz161_1
          try clear hfz161_2
          try clear hfz169_0
          try clear hfz169_1
          try clear hfz169_2
          try clear hfz17_0
          try clear hfz17_1
          try clear hfz17_2
          try clear hfz17_3
          try clear hfz17_4
          try clear hfz17_5
          try clear hfz17_6
          try clear hfz17_7
          try clear hfz19_0
          try clear hfz19_1
          try clear hfz19_2
          try clear hfz19_3
          try clear hfz19_4
          try clear hfz19_5
          try clear hfz19_6
          try clear hfz19_7
          try clear hfz40_0
          try clear hfz40_1
          try clear hfz40_2
          try clear hfz40_3
          try clear hfz40_4
          try clear hfz40_5
          try clear hfz40_6
          try clear hfz40_7
          try clear hfz44_0
          try clear hfz44_1
          try clear hfz44_2
          try clear hfz45_0
          try clear hfz45_1
          try clear hfz45_2
          try clear hfz45_3
          try clear hfz45_4
          try clear hfz45_5
          try clear hfz45_6
          try clear hfz45_7
          try clear hfz50_0
          try clear hfz50_1
          try clear hfz50_2
          try clear hfz51_0
          try clear hfz51_1
          try clear hfz51_2
          try clear hfz51_3
          try clear hfz51_4
          try clear hfz51_5
          try clear hfz51_6
          try clear hfz51_7
          try clear hfz57_0
          try clear hfz57_1
          try clear hfz57_2
          try clear hfz58_0
          try clear hfz58_1
          try clear hfz58_2
          try clear hfz58_3
          try clear hfz58_4
          try clear hfz58_5
          try clear hfz58_6
          try clear hfz58_7
          try clear hfz65_0
          try clear hfz65_1
          try clear hfz65_2
          try clear hfz66_0
          try clear hfz66_1
          try clear hfz66_2
          try clear hfz66_3
          try clear hfz66_4
          try clear hfz66_5
          try clear hfz66_6
          try clear hfz66_7
          try clear hfz74_0
          try clear hfz74_1
          try clear hfz74_2
          try clear hfz75_0
          try clear hfz75_1
          try clear hfz75_2
          try clear hfz75_3
          try clear hfz75_4
          try clear hfz75_5
          try clear hfz75_6
          try clear hfz75_7
          try clear hfz84_0
          try clear hfz84_1
          try clear hfz84_2
          try clear hfz85_0
          try clear hfz85_1
          try clear hfz85_2
          try clear hfz85_3
          try clear hfz85_4
          try clear hfz85_5
          try clear hfz85_6
          try clear hfz85_7
          try clear hfz87_0
          try clear hfz87_1
          try clear hfz87_2
          try clear hfz87_3
          try clear hfz87_4
          try clear hfz87_5
          try clear hfz87_6
          try clear hfz87_7
          try clear hfz89_0
          try clear hfz89_1
          try clear hfz89_2
          try clear hfz89_3
          try clear hfz89_4
          try clear hfz89_5
          try clear hfz89_6
          try clear hfz89_7
          try clear hfz8_0
          try clear hfz8_1
          try clear hfz8_2
          try clear hfz8_3
          try clear hfz8_4
          try clear hfz8_5
          try clear hfz8_6
          try clear hfz8_7
          try clear hfz91_0
          try clear hfz91_1
          try clear hfz91_2
          try clear hfz91_3
          try clear hfz91_4
          try clear hfz91_5
          try clear hfz91_6
          try clear hfz91_7
          obtain⟨kq,x184_38,rfl,HA,HJ38,BK113,BK131,BK136,BK141,BK146,BK151,BK156,HB⟩:=hcut
          cases kq with
          |zero=>exact absurd HA.out (by simp[aT.j2])
          |succ kj38=>
           have H:=HA.out;clear HA;simp only[aT.j2] at H
           by_cases c171:x184_38=true
           ·subst c171
            rw[if_pos rfl] at H;exact absurd (Option.some.inj H) (by rw[hrT];decide)
           ·replace c171:=Bool.eq_false_iff.mpr c171
            subst c171;rw[if_neg (show ¬(false=true) by decide)] at H
            by_cases c172:a0_7.toList=([48]:List UInt8)
            ·rw[if_pos c172] at H
             have c172b0:(a0_7.toList==([48]:List UInt8))=true:=beq_iff_eq.mpr c172;have c172b1:(a0_7.toList != ([48]:List UInt8))=false:=bne_eq_false_iff_eq.mpr c172;clear c172;obtain⟨t169,A173,H⟩:=bi H;try dsimp only at H
             obtain rfl:=Option.some.inj H;have hnb174:=NB113_131.out;have hnc174:=NB131_113.out;have hnb175:=NB113_136.out;have hnc175:=NB136_113.out;have hnb176:=NB113_141.out;have hnc176:=NB141_113.out;have hnb177:=NB113_146.out;have hnc177:=NB146_113.out;have hnb178:=NB113_151.out;have hnc178:=NB151_113.out;have hnb179:=NB113_156.out;have hnc179:=NB156_113.out;have hcz180_0:wc.cell? ⟨gb113,0,none⟩=some (.bool a0_0):=(aC BK113.out 0).trans rfl;have hcz180_1:wc.cell? ⟨gb113,1,none⟩=some (.string a0_1):=(aC BK113.out 1).trans rfl;have hcz180_2:wc.cell? ⟨gb113,2,none⟩=some (.string a0_2):=(aC BK113.out 2).trans rfl;have hcz180_3:wc.cell? ⟨gb113,3,none⟩=some (.bool a0_3):=(aC BK113.out 3).trans rfl;have hcz180_4:wc.cell? ⟨gb113,4,none⟩=some (.string a0_4):=(aC BK113.out 4).trans rfl;have hcz180_5:wc.cell? ⟨gb113,5,none⟩=some (.string a0_5):=(aC BK113.out 5).trans rfl;have hcz180_6:wc.cell? ⟨gb113,6,none⟩=some (.string a0_6):=(aC BK113.out 6).trans rfl;have hcz180_7:wc.cell? ⟨gb113,7,none⟩=some (.string a0_7):=(aC BK113.out 7).trans rfl;have hfz180_0:=aI BK113.out 0;have hfz180_1:=aI BK113.out 1;have hfz180_2:=aI BK113.out 2;have hfz180_3:=aI BK113.out 3;have hfz180_4:=aI BK113.out 4;have hfz180_5:=aI BK113.out 5;have hfz180_6:=aI BK113.out 6;have hfz180_7:=aI BK113.out 7
             go_wp2_with(first|((with_reducible refine aG (f:=35) rfl ?_);refine gl_ 188 Tryz.func35 #[] (h:= ?_);(with_reducible refine(dP.calls (hG:=HG.out.below (pkL HB)) t169 _ A173.out).mono ?_);rintro e w181 ⟨rfl,hb⟩;refine⟨_,rfl,?_⟩;replace BK113:=pkK BK113 hb;replace BK131:=pkK BK131 hb;replace BK136:=pkK BK136 hb;replace BK141:=pkK BK141 hb;replace BK146:=pkK BK146 hb;replace BK151:=pkK BK151 hb;replace BK156:=pkK BK156 hb;replace HB:=pkB HB hb;try clear hb))
             go_ret
             exact pkE HB
            ·rw[if_neg c172] at H
             have c172b0:(a0_7.toList==([48]:List UInt8))=false:=beq_eq_false_iff_ne.mpr c172;have c172b1:(a0_7.toList != ([48]:List UInt8))=true:=bne_iff_ne.mpr c172;obtain⟨⟨t170,t171⟩,A182,H⟩:=bi H;try dsimp only at H
             obtain⟨⟨t172,t173⟩,A183,H⟩:=bi H;try dsimp only at H
             by_cases c184:t171=0
             ·rw[if_pos c184] at H
              have c184b0:(t171==0)=true:=beq_iff_eq.mpr c184;have c184b1:(t171 != 0)=false:=bne_eq_false_iff_eq.mpr c184;clear c184
              by_cases c185:t173=0
              ·rw[if_pos c185] at H
               have c185b0:(t173==0)=true:=beq_iff_eq.mpr c185;have c185b1:(t173 != 0)=false:=bne_eq_false_iff_eq.mpr c185;clear c185;obtain⟨t174,A186,H⟩:=bi H;try dsimp only at H
               by_cases c187:t174=true
               ·subst c187
                rw[if_pos rfl] at H;obtain⟨t175,A188,H⟩:=bi H;try dsimp only at H
                by_cases c189:t175=true
                ·subst c189
                 rw[if_pos rfl] at H;obtain⟨t176,A190,H⟩:=bi H;try dsimp only at H
                 obtain rfl:=Option.some.inj H;have hnb191:=NB113_131.out;have hnc191:=NB131_113.out;have hnb192:=NB113_136.out;have hnc192:=NB136_113.out;have hnb193:=NB113_141.out;have hnc193:=NB141_113.out;have hnb194:=NB113_146.out;have hnc194:=NB146_113.out;have hnb195:=NB113_151.out;have hnc195:=NB151_113.out;have hnb196:=NB113_156.out;have hnc196:=NB156_113.out;have hcz197_0:wc.cell? ⟨gb113,0,none⟩=some (.bool a0_0):=(aC BK113.out 0).trans rfl;have hcz197_1:wc.cell? ⟨gb113,1,none⟩=some (.string a0_1):=(aC BK113.out 1).trans rfl;have hcz197_2:wc.cell? ⟨gb113,2,none⟩=some (.string a0_2):=(aC BK113.out 2).trans rfl;have hcz197_3:wc.cell? ⟨gb113,3,none⟩=some (.bool a0_3):=(aC BK113.out 3).trans rfl;have hcz197_4:wc.cell? ⟨gb113,4,none⟩=some (.string a0_4):=(aC BK113.out 4).trans rfl;have hcz197_5:wc.cell? ⟨gb113,5,none⟩=some (.string a0_5):=(aC BK113.out 5).trans rfl;have hcz197_6:wc.cell? ⟨gb113,6,none⟩=some (.string a0_6):=(aC BK113.out 6).trans rfl;have hcz197_7:wc.cell? ⟨gb113,7,none⟩=some (.string a0_7):=(aC BK113.out 7).trans rfl;have hfz197_0:=aI BK113.out 0;have hfz197_1:=aI BK113.out 1;have hfz197_2:=aI BK113.out 2;have hfz197_3:=aI BK113.out 3;have hfz197_4:=aI BK113.out 4;have hfz197_5:=aI BK113.out 5;have hfz197_6:=aI BK113.out 6;have hfz197_7:=aI BK113.out 7
                 go_wp2_with(first|((with_reducible refine aG (f:=18) rfl ?_);refine gl_ 194 Tryz.func18 #[.string a0_6,.string a0_7] (h:= ?_);(with_reducible refine(jT.calls (hG:=HG.out.below (pkL HB)) a0_6 a0_7 t170 t171 _ A182.out).mono ?_);rintro e w198 ⟨rfl,hb⟩;refine⟨_,rfl,?_⟩;replace BK113:=pkK BK113 hb;replace BK131:=pkK BK131 hb;replace BK136:=pkK BK136 hb;replace BK141:=pkK BK141 hb;replace BK146:=pkK BK146 hb;replace BK151:=pkK BK151 hb;replace BK156:=pkK BK156 hb;replace HB:=pkB HB hb;try clear hb;have hcz199_0:w198.cell? ⟨gb113,0,none⟩=some (.bool a0_0):=(aC BK113.out 0).trans rfl;have hcz199_1:w198.cell? ⟨gb113,1,none⟩=some (.string a0_1):=(aC BK113.out 1).trans rfl;have hcz199_2:w198.cell? ⟨gb113,2,none⟩=some (.string a0_2):=(aC BK113.out 2).trans rfl;have hcz199_3:w198.cell? ⟨gb113,3,none⟩=some (.bool a0_3):=(aC BK113.out 3).trans rfl;have hcz199_4:w198.cell? ⟨gb113,4,none⟩=some (.string a0_4):=(aC BK113.out 4).trans rfl;have hcz199_5:w198.cell? ⟨gb113,5,none⟩=some (.string a0_5):=(aC BK113.out 5).trans rfl;have hcz199_6:w198.cell? ⟨gb113,6,none⟩=some (.string a0_6):=(aC BK113.out 6).trans rfl;have hcz199_7:w198.cell? ⟨gb113,7,none⟩=some (.string a0_7):=(aC BK113.out 7).trans rfl;have hfz199_0:=aI BK113.out 0;have hfz199_1:=aI BK113.out 1;have hfz199_2:=aI BK113.out 2;have hfz199_3:=aI BK113.out 3;have hfz199_4:=aI BK113.out 4;have hfz199_5:=aI BK113.out 5;have hfz199_6:=aI BK113.out 6;have hfz199_7:=aI BK113.out 7)|((with_reducible refine aG (f:=20) rfl ?_);refine gl_ 202 Tryz.func20 #[.string a0_6,.string a0_7] (h:= ?_);(with_reducible refine(fC.calls (hG:=HG.out.below (pkL HB)) a0_6 a0_7 t172 t173 _ A183.out).mono ?_);rintro e w200 ⟨rfl,hb⟩;refine⟨_,rfl,?_⟩;replace BK113:=pkK BK113 hb;replace BK131:=pkK BK131 hb;replace BK136:=pkK BK136 hb;replace BK141:=pkK BK141 hb;replace BK146:=pkK BK146 hb;replace BK151:=pkK BK151 hb;replace BK156:=pkK BK156 hb;replace HB:=pkB HB hb;try clear hb;have hnb201:=NB146_131.out;have hnc201:=NB131_146.out;have hnb202:=NB146_136.out;have hnc202:=NB136_146.out;have hnb203:=NB146_141.out;have hnc203:=NB141_146.out;have hnb204:=NB146_151.out;have hnc204:=NB151_146.out;have hnb205:=NB146_156.out;have hnc205:=NB156_146.out;obtain⟨⟨hcz206_0,hcz206_1,hcz206_2⟩,hfz206_0,hfz206_1,hfz206_2⟩:=pk3 BK146)|(go_at_call 68;(with_reducible refine(dJ.calls (hG:=HG.out.below (pkL HB)) t142 t143 t144 t170 true _ A186.out).mono ?_);rintro e w207 ⟨rfl,hb⟩;replace BK113:=pkK BK113 hb;replace BK131:=pkK BK131 hb;replace BK136:=pkK BK136 hb;replace BK141:=pkK BK141 hb;replace BK146:=pkK BK146 hb;replace BK151:=pkK BK151 hb;replace BK156:=pkK BK156 hb;replace HB:=pkB HB hb;try clear hb;have hnb208:=NB151_131.out;have hnc208:=NB131_151.out;have hnb209:=NB151_136.out;have hnc209:=NB136_151.out;have hnb210:=NB151_141.out;have hnc210:=NB141_151.out;have hnb211:=NB151_156.out;have hnc211:=NB156_151.out;obtain⟨⟨hcz212_0,hcz212_1,hcz212_2⟩,hfz212_0,hfz212_1,hfz212_2⟩:=pk3 BK151)|(go_at_call 68;(with_reducible refine(dJ.calls (hG:=HG.out.below (pkL HB)) t147 t148 t149 t172 true _ A188.out).mono ?_);rintro e w213 ⟨rfl,hb⟩;replace BK113:=pkK BK113 hb;replace BK131:=pkK BK131 hb;replace BK136:=pkK BK136 hb;replace BK141:=pkK BK141 hb;replace BK146:=pkK BK146 hb;replace BK151:=pkK BK151 hb;replace BK156:=pkK BK156 hb;replace HB:=pkB HB hb;try clear hb)|(go_at_call 35;(with_reducible refine(dP.calls (hG:=HG.out.below (pkL HB)) t176 _ A190.out).mono ?_);rintro e w214 ⟨rfl,hb⟩;replace BK113:=pkK BK113 hb;replace BK131:=pkK BK131 hb;replace BK136:=pkK BK136 hb;replace BK141:=pkK BK141 hb;replace BK146:=pkK BK146 hb;replace BK151:=pkK BK151 hb;replace BK156:=pkK BK156 hb;replace HB:=pkB HB hb;try clear hb))
                 go_ret
                 exact pkE HB
                ·replace c189:=Bool.eq_false_iff.mpr c189
                 subst c189;rw[if_neg (show ¬(false=true) by decide)] at H;exact absurd (Option.some.inj H) (by rw[hrT];decide)
               ·replace c187:=Bool.eq_false_iff.mpr c187
                subst c187;rw[if_neg (show ¬(false=true) by decide)] at H;exact absurd (Option.some.inj H) (by rw[hrT];decide)
              ·rw[if_neg c185] at H
               have c185b0:(t173==0)=false:=beq_eq_false_iff_ne.mpr c185;have c185b1:(t173 != 0)=true:=bne_iff_ne.mpr c185;exact absurd (Option.some.inj H) (by rw[hrT];decide)
             ·rw[if_neg c184] at H
              have c184b0:(t171==0)=false:=beq_eq_false_iff_ne.mpr c184;have c184b1:(t171 != 0)=true:=bne_iff_ne.mpr c184;exact absurd (Option.some.inj H) (by rw[hrT];decide)
        ·rw[if_neg c34] at H
         have c34b0:((wrap64 ((wrap64 ((wrap64 ((wrap64 ((wrap64 (t130+t135))+t140))+t145))+t150))+t155))==0)=false:=beq_eq_false_iff_ne.mpr c34;have c34b1:((wrap64 ((wrap64 ((wrap64 ((wrap64 ((wrap64 (t130+t135))+t140))+t145))+t150))+t155)) != 0)=true:=bne_iff_ne.mpr c34;exact absurd (Option.some.inj H) (by rw[hrT];decide)
 ·replace c3:=Bool.eq_false_iff.mpr c3
  subst c3;rw[if_neg (show ¬(false=true) by decide)] at H;obtain⟨t121,A320,H⟩:=bi H;try dsimp only at H
  obtain rfl:=Option.some.inj H;go_enter Tryz.func14,Tryz.ntmps14
  go_wp2_with(first|((with_reducible refine aJ (N:=1) rfl ?_);refine bx_ 1 66 #[.bool a0_0,.string a0_1,.string a0_2,.bool a0_3,.string a0_4,.string a0_5,.string a0_6,.string a0_7] (h:= ?_);intro gb113 hg w321 hbox hb;have BK113:=aA.mk (hbox);have GW113:=pkG HB hg;have GE113:=GW113;replace HB:=pkB HB hb;clear hb hbox hg;have hcz322_0:w321.cell? ⟨gb113,0,none⟩=some (.bool a0_0):=(aC BK113.out 0).trans rfl;have hcz322_1:w321.cell? ⟨gb113,1,none⟩=some (.string a0_1):=(aC BK113.out 1).trans rfl;have hcz322_2:w321.cell? ⟨gb113,2,none⟩=some (.string a0_2):=(aC BK113.out 2).trans rfl;have hcz322_3:w321.cell? ⟨gb113,3,none⟩=some (.bool a0_3):=(aC BK113.out 3).trans rfl;have hcz322_4:w321.cell? ⟨gb113,4,none⟩=some (.string a0_4):=(aC BK113.out 4).trans rfl;have hcz322_5:w321.cell? ⟨gb113,5,none⟩=some (.string a0_5):=(aC BK113.out 5).trans rfl;have hcz322_6:w321.cell? ⟨gb113,6,none⟩=some (.string a0_6):=(aC BK113.out 6).trans rfl;have hcz322_7:w321.cell? ⟨gb113,7,none⟩=some (.string a0_7):=(aC BK113.out 7).trans rfl;have hfz322_0:=aI BK113.out 0;have hfz322_1:=aI BK113.out 1;have hfz322_2:=aI BK113.out 2;have hfz322_3:=aI BK113.out 3;have hfz322_4:=aI BK113.out 4;have hfz322_5:=aI BK113.out 5;have hfz322_6:=aI BK113.out 6;have hfz322_7:=aI BK113.out 7)|((with_reducible refine aJ (N:=27) rfl ?_);refine Kd.lV k36 _ 36 ?hg (N:=27) ?hd (xs:=([(⟨a0_0,a0_1,a0_2⟩:S36),(⟨a0_3,a0_4,a0_5⟩:S36)]:List (S36))) (inner:= [.bool a0_0,.string a0_1,.string a0_2,.bool a0_3,.string a0_4,.string a0_5]) (ok:=fun _=>True) (okp:=fun _=>True) ?hr ?hp (fun _ hk=>hk) trivial (Below.refl _ _) (Nat.le_refl _) aCq ?_;(case hd=>rfl);(case hg=>rfl);(case hr=>first|(go_simp;done)|(go_simp;rfl));(case hp=>exact(Reps.c3 (show Kd.M k36 _ _ _ (⟨a0_0,a0_1,a0_2⟩:S36) [.bool a0_0,.string a0_1,.string a0_2] from(iO _ _ _ (⟨a0_0,a0_1,a0_2⟩:S36))) (Reps.c3 (show Kd.M k36 _ _ _ (⟨a0_3,a0_4,a0_5⟩:S36) [.bool a0_3,.string a0_4,.string a0_5] from(iO _ _ _ (⟨a0_3,a0_4,a0_5⟩:S36))) (Reps.none _ _))));intro v115 w323 ho324 hb hg_ hnew_;clear hg_ hnew_;(first|rw[←Ny114.out] at ho324|(simp only[Int.reduceToNat] at ho324;rw[←Ny114.out] at ho324));have HO116:=aA.mk (Kd.jF ho324 (dU (pkL HB)));replace BK113:=pkK BK113 hb;replace HB:=pkB HB hb;clear hb ho324;have hcz325_0:w323.cell? ⟨gb113,0,none⟩=some (.bool a0_0):=(aC BK113.out 0).trans rfl;have hcz325_1:w323.cell? ⟨gb113,1,none⟩=some (.string a0_1):=(aC BK113.out 1).trans rfl;have hcz325_2:w323.cell? ⟨gb113,2,none⟩=some (.string a0_2):=(aC BK113.out 2).trans rfl;have hcz325_3:w323.cell? ⟨gb113,3,none⟩=some (.bool a0_3):=(aC BK113.out 3).trans rfl;have hcz325_4:w323.cell? ⟨gb113,4,none⟩=some (.string a0_4):=(aC BK113.out 4).trans rfl;have hcz325_5:w323.cell? ⟨gb113,5,none⟩=some (.string a0_5):=(aC BK113.out 5).trans rfl;have hcz325_6:w323.cell? ⟨gb113,6,none⟩=some (.string a0_6):=(aC BK113.out 6).trans rfl;have hcz325_7:w323.cell? ⟨gb113,7,none⟩=some (.string a0_7):=(aC BK113.out 7).trans rfl;have hfz325_0:=aI BK113.out 0;have hfz325_1:=aI BK113.out 1;have hfz325_2:=aI BK113.out 2;have hfz325_3:=aI BK113.out 3;have hfz325_4:=aI BK113.out 4;have hfz325_5:=aI BK113.out 5;have hfz325_6:=aI BK113.out 6;have hfz325_7:=aI BK113.out 7)|((with_reducible refine aJ (N:=32) rfl ?_);refine Kd.lV Kd.string _ 22 ?hg (N:=32) ?hd (xs:=([a0_6,a0_7]:List ByteArray)) (inner:= [.string a0_6,.string a0_7]) (ok:=fun _=>True) (okp:=fun _=>True) ?hr ?hp (fun _ hk=>hk) trivial (Below.refl _ _) (Nat.le_refl _) aCq ?_;(case hd=>rfl);(case hg=>rfl);(case hr=>first|(go_simp;done)|(go_simp;rfl));(case hp=>exact(Reps.one (show Kd.M Kd.string _ _ _ a0_6 [.string a0_6] from rfl) (Reps.one (show Kd.M Kd.string _ _ _ a0_7 [.string a0_7] from rfl) (Reps.none _ _))));intro v118 w326 ho327 hb hg_ hnew_;clear hg_ hnew_;(first|rw[←Ny117.out] at ho327|(simp only[Int.reduceToNat] at ho327;rw[←Ny117.out] at ho327));have n0_:=aA.mk (Kd.dD (by(with_reducible repeat(first|apply Kd.aX|apply Kd.aY|apply Kd.bP));exact HO116.out) hb);have n1_:=aA.mk (Kd.jF ho327 (dU (pkL HB)));have n2_:=pkK BK113 hb;have n3_:=pkB HB hb;clear HO116;clear BK113;clear HB;have HO116:=n0_;have HO119:=n1_;have BK113:=n2_;have HB:=n3_;clear n0_ n1_ n2_ n3_;clear hb ho327;obtain⟨Ao328,co328,eo328⟩:=Kd.gY HO116.out;subst eo328;obtain⟨Ao329,co329,eo329⟩:=Kd.gY HO119.out;subst eo329)|((with_reducible refine aG (f:=46) rfl ?_);refine gl_ 33 Tryz.func46 #[.slice Ao328 y114.length co328,.slice Ao329 y117.length co329] (h:= ?_);(with_reducible refine(eY.calls _ _ y114 _ _ y117 false _ ?side1 ?side2 ?side3 ?side4 A2.out).mono ?_);(case side1=>repeat(first|exact(Kd.dH HO116.out).2.2|(with_reducible refine Kd.iZ ?_ _)|(with_reducible refine Kd.jA ?_ _)|(with_reducible refine Kd.jR ?_)));(case side2=>exact(Kd.dH HO116.out).2.1);(case side3=>repeat(first|exact(Kd.dH HO119.out).2.2|(with_reducible refine Kd.iZ ?_ _)|(with_reducible refine Kd.jA ?_ _)|(with_reducible refine Kd.jR ?_)));(case side4=>exact(Kd.dH HO119.out).2.1);rintro e w330 ⟨rfl,hb⟩;refine⟨_,rfl,?_⟩;replace HO116:=aA.mk (Kd.dD (by(with_reducible repeat(first|apply Kd.aX|apply Kd.aY|apply Kd.bP));exact HO116.out) hb);replace HO119:=aA.mk (Kd.dD (by(with_reducible repeat(first|apply Kd.aX|apply Kd.aY|apply Kd.bP));exact HO119.out) hb);replace BK113:=pkK BK113 hb;replace HB:=pkB HB hb;try clear hb)|((with_reducible refine aG (f:=35) rfl ?_);refine gl_ 35 Tryz.func35 #[] (h:= ?_);(with_reducible refine(dP.calls (hG:=HG.out.below (pkL HB)) t121 _ A320.out).mono ?_);rintro e w331 ⟨rfl,hb⟩;refine⟨_,rfl,?_⟩;replace HO116:=aA.mk (Kd.dD (by(with_reducible repeat(first|apply Kd.aX|apply Kd.aY|apply Kd.bP));exact HO116.out) hb);replace HO119:=aA.mk (Kd.dD (by(with_reducible repeat(first|apply Kd.aX|apply Kd.aY|apply Kd.bP));exact HO119.out) hb);replace BK113:=pkK BK113 hb;replace HB:=pkB HB hb;try clear hb))
  go_ret
  exact pkE HB
end Go.Proofs.YtignanmmgaldeaaGreatDoor.PCongruenceSound
end
section
set_option linter.unusedVariables false
set_option linter.unusedSimpArgs false
namespace Go.Proofs.YtignanmmgaldeaaGreatDoor.PureSound
open Go.RowKit Go.Proofs.YtignanmmgaldeaaGreatDoor Go.Proofs.YtignanmmgaldeaaGreatDoor.PCongruenceSound Go.Proofs.YtignanmmgaldeaaGreatDoor.PLawB Go.Proofs.YtignanmmgaldeaaGreatDoor.LawC Go.Proofs.YtignanmmgaldeaaGreatDoor.RefP Go.Proofs.YtignanmmgaldeaaGreatDoor.PCongI Go.Proofs.YtignanmmgaldeaaGreatDoor.CongM Go.Proofs.YtignanmmgaldeaaGreatDoorW.PrintWords
theorem neg_at{x:Int}(m:Nat)(hx:Bd m x)(hm:1≤m)(h4:m≤4095):rW.f (text x)=some (text (-x),0):=by
 unfold rW.f;rw[←vH,sub_at m (show Bd m 0 from Nat.pow_pos aCo) hx hm h4,Option.bind_some,Int.zero_add]
theorem good_0:bV (some (0,0)):=⟨⟨by decide,by decide⟩,by show(0:Nat)<10 ^ 100;decide +kernel,by show(0:Nat)<10 ^ 100;decide +kernel⟩
theorem v_neg{c:Option (Int×Int)}(hc:bV c):mO.f (E0 c) (E1 c) (E2 c)=some (E0 (iD.o (some (0,0)) c),E1 (iD.o (some (0,0)) c),E2 (iD.o (some (0,0)) c),0):=by
 unfold mO.f PCongruenceSound.dB.f;rw[Option.bind_some]
 dsimp only
 rw[←vH];have e:=v_sub good_0 hc;rw[show E0 (some ((0:Int),(0:Int)))=false from rfl,show E1 (some ((0:Int),(0:Int)))=text 0 from rfl,show E2 (some ((0:Int),(0:Int)))=text 0 from rfl] at e;rw[e,Option.bind_some]
theorem m_add{c d:Option (Int×Int)}{a b:Int}(h:memO c a)(k:memO d b):memO (iL.o c d) (a+b):=by
 cases c with
 |none=>exact h.elim
 |some c=>cases d with
  |none=>exact k.elim
  |some d=>exact addC_mem 100 h k
theorem m_sub{c d:Option (Int×Int)}{a b:Int}(h:memO c a)(k:memO d b):memO (iD.o c d) (a+ -b):=by
 cases c with
 |none=>exact h.elim
 |some c=>cases d with
  |none=>exact k.elim
  |some d=>exact subC_mem 100 h k
theorem m_mul{c d:Option (Int×Int)}{a b:Int}(h:memO c a)(k:memO d b):memO (iM.o c d) (a*b):=by
 cases c with
 |none=>exact h.elim
 |some c=>cases d with
  |none=>exact k.elim
  |some d=>exact mulC_mem 100 h k
theorem m_neg{c:Option (Int×Int)}{a:Int}(h:memO c a):memO (iD.o (some (0,0)) c) (-a):=by
 cases c with
 |none=>exact h.elim
 |some c=>exact negC_mem 100 h
theorem top_mem(a:Int):clsM topC a:=⟨a-0,by show a-0=1*(a-0);omega⟩
theorem xC{r a:Int}(h:clsM (0,r) a):a=r:=by
 have e:(0:Int)∣a-r:=h;rw[Int.zero_dvd] at e;omega
theorem m_quo{c d:Option (Int×Int)}{a b:Int}(h:memO c a)(k:memO d b)(hb:b≠0):memO (iP.o c d) (Int.fdiv a b):=by
 cases c with
 |none=>exact h.elim
 |some c=>cases d with
  |none=>exact k.elim
  |some d=>
   obtain⟨m,r⟩:=d;show memO (quoC 100 c (m,r)) (Int.fdiv a b);unfold quoC
   dsimp only
   by_cases h1:m=0
   ·subst h1
    have e:=xC k;subst e;rw[if_neg (fun q=>hb q.2),if_pos rfl]
    split
    ·next q=>exact quoC_mem 100 hb q h
    ·exact top_mem _
   ·rw[if_neg (fun q=>h1 q.1),if_neg h1]
    split
    ·next q=>
     obtain⟨m2,r2⟩:=c;obtain⟨q1,q2⟩:=q
     dsimp only at q1 q2
     subst q1;subst q2
     have e:=xC h;subst e;rw[Int.zero_fdiv];exact h
    ·exact top_mem _
theorem m_rem{c d:Option (Int×Int)}{a b:Int}(h:memO c a)(k:memO d b)(hb:b≠0):memO (iQ.o c d) (Int.fmod a b):=by
 cases c with
 |none=>exact h.elim
 |some c=>cases d with
  |none=>exact k.elim
  |some d=>
   obtain⟨m,r⟩:=d;show memO (remC 100 c (m,r)) (Int.fmod a b);unfold remC
   dsimp only
   split
   ·next q=>
    obtain⟨q1,q2⟩:=q;subst q1;subst q2
    exact absurd (xC k) hb
   ·split
    ·next q=>
     obtain⟨q1,q2⟩:=q;subst q1;have e:=xC k;subst e;exact remC_mem 100 q2 h
    ·exact restC_mem 100 h k
theorem w6:wrap64 (wrap64 (wrap64 (wrap64 (wrap64 (0+0)+0)+0)+0)+0)=0:=by decide +kernel
theorem w4:wrap64 (wrap64 (wrap64 (0+0)+0)+0)=0:=by decide +kernel
theorem aCf(x:Int):((text x).toList=([48]:List UInt8))↔x=0:=LawC.aB0 x
theorem j2_val{c d:Option (Int×Int)}{a b:Int}(hc:bV c)(hd:bV d)(ha:Bd 250 a)(hb:Bd 250 b)(h:memO c a)(k:memO d b)(n:Nat) :
 aT.j2 (n+1) false (E0 c) (E1 c) (E2 c) (E0 d) (E1 d) (E2 d) (text a) (text b) (E0 (iP.o c d)) (E1 (iP.o c d)) (E2 (iP.o c d)) (E0 (iQ.o c d)) (E1 (iQ.o c d)) (E2 (iQ.o c d))=some true:=by
 unfold aT.j2
 dsimp only
 rw[if_neg aCq]
 by_cases h0:b=0
 ·rw[if_pos ((aCf b).2 h0),jC,Option.bind_some]
 ·rw[if_neg (fun q=>h0 ((aCf b).1 q)),quo_at 250 ha hb aCo aCo,if_neg h0,Option.bind_some,wR 250 ha hb aCo aCo,if_neg h0,Option.bind_some]
  dsimp only
  rw[if_pos rfl,if_pos rfl,v_in (m:=250) (good_quo hc hd) (ha.fdiv h0) aCo aCo,Option.bind_some,if_pos (decide_eq_true (m_quo h k h0)),
   v_in (m:=250) (good_rem hc hd) (hb.fmod h0) aCo aCo,Option.bind_some,if_pos (decide_eq_true (m_rem h k h0)),jC,Option.bind_some]
theorem j1_val{c d:Option (Int×Int)}{a b:Int}(hc:bV c)(hd:bV d)(ha:Bd 250 a)(hb:Bd 250 b)(h:memO c a)(k:memO d b)(n:Nat) :
 aT.j1 (n+2) false (E0 c) (E1 c) (E2 c) (E0 d) (E1 d) (E2 d) (text a) (text b)=some true:=by
 have J2:=j2_val hc hd ha hb h k n;unfold aT.j1
 dsimp only
 rw[if_neg aCq,v_add hc hd,Option.bind_some,v_sub hc hd,Option.bind_some,v_mul hc hd,Option.bind_some,v_quo hc hd,Option.bind_some,v_rem hc hd,Option.bind_some,v_neg hc,Option.bind_some]
 dsimp only
 rw[if_pos w6,add_at 250 ha hb aCo aCo,Option.bind_some,sub_at 250 ha hb aCo aCo,Option.bind_some,mul_at 250 ha hb aCo aCo,Option.bind_some,neg_at 250 ha aCo aCo,Option.bind_some]
 dsimp only
 rw[if_pos w4,v_in (m:=251) (good_add hc hd) (ha.add hb) aCo aCo,Option.bind_some,if_pos (decide_eq_true (m_add h k)),
  v_in (m:=251) (aAe hc hd) (ha.add hb.neg) aCo aCo,Option.bind_some,if_pos (decide_eq_true (m_sub h k)),
  v_in (m:=500) (good_mul hc hd) (ha.mul hb) aCo aCo,Option.bind_some,if_pos (decide_eq_true (m_mul h k)),
  v_in (m:=250) (aAe good_0 hc) ha.neg aCo aCo,Option.bind_some,decide_eq_true (m_neg h)]
 exact J2
theorem law(e1:Bool)(m1 r1:ByteArray)(e2:Bool)(m2 r2 a b:ByteArray)(h1:m1.size≤140737488351232)(h2:r1.size≤140737488351232)(h3:m2.size≤140737488351232)(h4:r2.size≤140737488351232)(h5:a.size≤140737488351232)(h6:b.size≤140737488351232) :
 aT.f 8 e1 m1 r1 e2 m2 r2 a b=some true:=by
 have hz:szP [⟨e1,m1,r1⟩,⟨e2,m2,r2⟩] [a,b]:=⟨by show 2≤8;omega,by show 2≤8;omega,by simp only[List.forall_mem_cons];exact⟨⟨h1,h2⟩,⟨h3,h4⟩,fun x hx=>by cases hx⟩,by simp only[List.forall_mem_cons];exact⟨h5,h6,fun x hx=>by cases hx⟩⟩;unfold aT.f eY.f;rw[if_pos hz,Option.bind_some]
 by_cases hr:yI [⟨e1,m1,r1⟩,⟨e2,m2,r2⟩] [a,b]
 ·rw[if_pos (decide_eq_true hr)]
  obtain⟨⟨hC,hI⟩,hF,hG⟩:=hr;obtain⟨c,gc,ec⟩:=rC (hC _ (List.mem_cons_self));obtain⟨d,gd,ed⟩:=rC (hC _ (List.mem_cons_of_mem _ (List.mem_cons_self)));obtain⟨y,rfl,bY⟩:=aB1 (hI _ (List.mem_cons_self)) (hG _ (List.mem_cons_self));obtain⟨z,rfl,bz⟩:=aB1 (hI _ (List.mem_cons_of_mem _ (List.mem_cons_self))) (hG _ (List.mem_cons_of_mem _ (List.mem_cons_self)));obtain⟨rfl,rfl,rfl⟩:=S36.mk.inj ec;obtain⟨rfl,rfl,rfl⟩:=S36.mk.inj ed;rw[v_holds gc bY aCo aCo,Option.bind_some,v_holds gd bz aCo aCo,Option.bind_some]
  dsimp only
  rw[if_pos rfl];unfold aT.j0
  dsimp only
  rw[if_neg aCq]
  by_cases h:memO c y
  ·rw[if_pos (decide_eq_true h)]
   by_cases k:memO d z
   ·rw[decide_eq_true k]
    exact j1_val gc gd bY bz h k 5
   ·rw[decide_eq_false k]
    unfold aT.j1
    dsimp only
    rw[if_pos (show(!false)=true from rfl),jC,Option.bind_some]
  ·rw[if_neg (by rw[decide_eq_false h];simp)]
   unfold aT.j1
   dsimp only
   rw[if_pos rfl,jC,Option.bind_some]
 ·rw[if_neg (by rw[decide_eq_false hr];simp),jC,Option.bind_some]
end Go.Proofs.YtignanmmgaldeaaGreatDoor.PureSound
end
