/- Lemmas for the proof. -/
import Derived.Test.YtignanmmgaldeaaGreatDoorYK
section
set_option linter.unusedVariables false
set_option linter.unusedSimpArgs false
namespace Go.Proofs.YtignanmmgaldeaaGreatDoor.PCongruenceGrows
open Go.Proofs.YtignanmmgaldeaaGreatDoor.PLawB
open Go.RowKit Go.Proofs.YtignanmmgaldeaaGreatDoorW.PrintWords Go.Proofs.YtignanmmgaldeaaGreatDoorW.PrintLast Go.Proofs.YtignanmmgaldeaaGreatDoorW.PrintMore
attribute [local go_sem] gI gJ iE iF
def errW:Option Int→Value
 |none=> .nilIface
 |some c=> .iface 0 (.int .i64 c)
theorem dW:errW none= .nilIface:=rfl
theorem dX(c:Int):errW (some c)= .iface 0 (.int .i64 c):=rfl
end Go.Proofs.YtignanmmgaldeaaGreatDoor.PCongruenceGrows
end
section
set_option linter.unusedVariables false
set_option linter.unusedSimpArgs false
set_option maxHeartbeats 8000000
set_option maxRecDepth 100000
namespace Go.Proofs.YtignanmmgaldeaaGreatDoor.PCongruenceGrows
open Go.Proofs.YtignanmmgaldeaaGreatDoor.PLawB
open Go.RowKit Go.Proofs.YtignanmmgaldeaaGreatDoorW.PrintWords Go.Proofs.YtignanmmgaldeaaGreatDoorW.PrintLast Go.Proofs.YtignanmmgaldeaaGreatDoorW.PrintMore
attribute [local go_sem] gI gJ iE iF
def bT.j0:Nat→Bool→Bool→ByteArray→ByteArray→Bool→ByteArray→ByteArray→Bool→ByteArray→ByteArray→Option (Bool)
 |0,_,_,_,_,_,_,_,_,_,_=>none
 |k+1,x35,x102000,x102001,x102002,x103000,x103001,x103002,x104000,x104001,x104002=>if x35=true then((dP.f).bind fun t112=>(some t112)) else((dZ.f x102000 x102001 x102002 x103000 x103001 x103002).bind fun bt113=>(if bt113.2.2.2=0 then((iL.f x102000 x102001 x102002 x104000 x104001 x104002).bind fun bt118=>((iL.f bt113.1 bt113.2.1 bt113.2.2.1 x104000 x104001 x104002).bind fun bt123=>((iD.f x104000 x104001 x104002 x102000 x102001 x102002).bind fun bt128=>((iD.f x104000 x104001 x104002 bt113.1 bt113.2.1 bt113.2.2.1).bind fun bt133=>((iM.f x102000 x102001 x102002 x104000 x104001 x104002).bind fun bt138=>((iM.f bt113.1 bt113.2.1 bt113.2.2.1 x104000 x104001 x104002).bind fun bt143=>(if(wrap64 ((wrap64 ((wrap64 ((wrap64 ((wrap64 (bt118.2.2.2+bt123.2.2.2))+bt128.2.2.2))+bt133.2.2.2))+bt138.2.2.2))+bt143.2.2.2))=0 then((fD.f bt118.1 bt118.2.1 bt118.2.2.1 bt123.1 bt123.2.1 bt123.2.2.1).bind fun bt148=>((fD.f bt128.1 bt128.2.1 bt128.2.2.1 bt133.1 bt133.2.1 bt133.2.2.1).bind fun bt150=>((fD.f bt138.1 bt138.2.1 bt138.2.2.1 bt143.1 bt143.2.1 bt143.2.2.1).bind fun bt152=>(if(wrap64 ((wrap64 (bt148.2+bt150.2))+bt152.2))=0 then(if bt148.1=true then(if bt150.1=true then(if bt152.1=true then((dP.f).bind fun t154=>(some t154)) else(some false)) else(some false)) else(some false)) else(some false))))) else(some false)))))))) else(some false)))
def bT.f(k:Nat)(a0_0:Bool)(a0_1:ByteArray)(a0_2:ByteArray)(a1_0:Bool)(a1_1:ByteArray)(a1_2:ByteArray)(a2_0:Bool)(a2_1:ByteArray)(a2_2:ByteArray):Option (Bool):=(eY.f (([(⟨a0_0,a0_1,a0_2⟩:S36),(⟨a1_0,a1_1,a1_2⟩:S36),(⟨a2_0,a2_1,a2_2⟩:S36)]:List (S36))) ([]:List ByteArray)).bind fun t107=>(if t107=true then((iI.f (([(⟨a0_0,a0_1,a0_2⟩:S36),(⟨a1_0,a1_1,a1_2⟩:S36),(⟨a2_0,a2_1,a2_2⟩:S36)]:List (S36)))).bind fun t111=>(bT.j0 k t111 a0_0 a0_1 a0_2 a1_0 a1_1 a1_2 a2_0 a2_1 a2_2)) else(bT.j0 k true a0_0 a0_1 a0_2 a1_0 a1_1 a1_2 a2_0 a2_1 a2_2))
theorem bT.calls(k:Nat)(a0_0:Bool)(a0_1:ByteArray)(a0_2:ByteArray)(a1_0:Bool)(a1_1:ByteArray)(a1_2:ByteArray)(a2_0:Bool)(a2_1:ByteArray)(a2_2:ByteArray)(r:Bool)(w:World)(hG:GW w)(hrT:r=true)(h:bT.f k a0_0 a0_1 a0_2 a1_0 a1_1 a1_2 a2_0 a2_1 a2_2=some r) :
 Calls Tryz.prog 10 #[.agg #[.bool a0_0,.string a0_1,.string a0_2],.agg #[.bool a1_0,.string a1_1,.string a1_2],.agg #[.bool a2_0,.string a2_1,.string a2_2]] w fun e w'=>e= .returned (.bool r)∧Below w.heap.size w w':=by
 have HG:=aA.mk hG;clear hG;have hu36:=Tryz.underlying36;have HB:=aA.mk (Below.refl w.heap.size w);have H:((eY.f (([(⟨a0_0,a0_1,a0_2⟩:S36),(⟨a1_0,a1_1,a1_2⟩:S36),(⟨a2_0,a2_1,a2_2⟩:S36)]:List (S36))) ([]:List ByteArray)).bind fun t107=>(if t107=true then((iI.f (([(⟨a0_0,a0_1,a0_2⟩:S36),(⟨a1_0,a1_1,a1_2⟩:S36),(⟨a2_0,a2_1,a2_2⟩:S36)]:List (S36)))).bind fun t111=>(bT.j0 k t111 a0_0 a0_1 a0_2 a1_0 a1_1 a1_2 a2_0 a2_1 a2_2)) else(bT.j0 k true a0_0 a0_1 a0_2 a1_0 a1_1 a1_2 a2_0 a2_1 a2_2)))=some r:=h;clear h;have HC4:=aA.mk H;clear H;go_enter Tryz.func10,Tryz.ntmps10
 go_upto_region 1 with (first|((with_reducible refine aJ (N:=3) rfl ?_);(try(refine eP (by rfl) ?_;dsimp only));refine bx_ 3 36 #[.bool a0_0,.string a0_1,.string a0_2] (h:= ?_);intro gb101 hg w5 hbox hb;have BK101:=aA.mk (hbox);have GW101:=pkG HB hg;have GE101:=GW101;replace HB:=pkB HB hb;clear hb hbox hg)|((with_reducible refine aJ (N:=4) rfl ?_);(try(refine eP (by rfl) ?_;dsimp only));refine bx_ 4 36 #[.bool a1_0,.string a1_1,.string a1_2] (h:= ?_);intro gb102 hg w6 hbox hb;have BK102:=aA.mk (hbox);have GW102:=pkG HB hg;have GE102:=GW102;obtain⟨NB101_102,NB102_101,_,_⟩:=pkQ BK101 hg;replace BK101:=pkK BK101 hb;replace HB:=pkB HB hb;clear hb hbox hg)|((with_reducible refine aJ (N:=5) rfl ?_);(try(refine eP (by rfl) ?_;dsimp only));refine bx_ 5 36 #[.bool a2_0,.string a2_1,.string a2_2] (h:= ?_);intro gb103 hg w7 hbox hb;have BK103:=aA.mk (hbox);have GW103:=pkG HB hg;have GE103:=GW103;obtain⟨NB101_103,NB103_101,_,_⟩:=pkQ BK101 hg;obtain⟨NB102_103,NB103_102,_,_⟩:=pkQ BK102 hg;replace BK101:=pkK BK101 hb;replace BK102:=pkK BK102 hb;replace HB:=pkB HB hb;clear hb hbox hg))
 (try simp only[Act.put,List.setIfInBounds_toArray,List.set_cons_zero,List.set_cons_succ])
 go_cut [35] (fun v35 wc=>∃(kq:Nat) (x35_3:Bool),v35= .bool x35_3∧aA (bT.j0 kq x35_3 a0_0 a0_1 a0_2 a1_0 a1_1 a1_2 a2_0 a2_1 a2_2=some r)∧aA (kq≤k)∧aA (wc.heap[gb101]? =some (.cells #[.bool a0_0,.string a0_1,.string a0_2] 36 (0,0)))∧aA (wc.heap[gb102]? =some (.cells #[.bool a1_0,.string a1_1,.string a1_2] 36 (0,0)))∧aA (wc.heap[gb103]? =some (.cells #[.bool a2_0,.string a2_1,.string a2_2] 36 (0,0)))∧aA (Below w.heap.size w wc))
 case first=>
  have H:=HC4.out;clear HC4;obtain⟨y104,hy104⟩:∃y_:List (S36),y_=(([(⟨a0_0,a0_1,a0_2⟩:S36),(⟨a1_0,a1_1,a1_2⟩:S36),(⟨a2_0,a2_1,a2_2⟩:S36)]:List (S36))):=⟨_,rfl⟩
  replace H:((eY.f y104 ([]:List ByteArray)).bind fun t107=>(if t107=true then((iI.f (([(⟨a0_0,a0_1,a0_2⟩:S36),(⟨a1_0,a1_1,a1_2⟩:S36),(⟨a2_0,a2_1,a2_2⟩:S36)]:List (S36)))).bind fun t111=>(bT.j0 k t111 a0_0 a0_1 a0_2 a1_0 a1_1 a1_2 a2_0 a2_1 a2_2)) else(bT.j0 k true a0_0 a0_1 a0_2 a1_0 a1_1 a1_2 a2_0 a2_1 a2_2)))=some r:=by first|(rw[hy104];with_reducible exact H)|(have H2_:=(Option.bind_some _ _).symm.trans H;rw[hy104];with_reducible exact H2_)|(have H2_:=(Option.bind_some _ _).symm.trans H;with_reducible exact H2_)|with_reducible exact H|(rw[hy104];exact H)|exact H
  have Ny104:=aA.mk hy104;clear hy104;obtain⟨t107,A8,H⟩:=bi H;try dsimp only at H
  by_cases c9:t107=true
  ·subst c9
   rw[if_pos rfl] at H;obtain⟨y108,hy108⟩:∃y_:List (S36),y_=(([(⟨a0_0,a0_1,a0_2⟩:S36),(⟨a1_0,a1_1,a1_2⟩:S36),(⟨a2_0,a2_1,a2_2⟩:S36)]:List (S36))):=⟨_,rfl⟩
   replace H:((iI.f y108).bind fun t111=>(bT.j0 k t111 a0_0 a0_1 a0_2 a1_0 a1_1 a1_2 a2_0 a2_1 a2_2))=some r:=by first|(rw[hy108];with_reducible exact H)|(have H2_:=(Option.bind_some _ _).symm.trans H;rw[hy108];with_reducible exact H2_)|(have H2_:=(Option.bind_some _ _).symm.trans H;with_reducible exact H2_)|with_reducible exact H|(rw[hy108];exact H)|exact H
   have Ny108:=aA.mk hy108;clear hy108;obtain⟨t111,A10,H⟩:=bi H;try dsimp only at H
   have H':=aA.mk H;clear H;have hnb11:=NB101_102.out;have hnc11:=NB102_101.out;have hnb12:=NB101_103.out;have hnc12:=NB103_101.out;obtain⟨⟨hcz13_0,hcz13_1,hcz13_2⟩,hfz13_0,hfz13_1,hfz13_2⟩:=pk3 BK101;have hnb14:=NB102_103.out;have hnc14:=NB103_102.out;obtain⟨⟨hcz15_0,hcz15_1,hcz15_2⟩,hfz15_0,hfz15_1,hfz15_2⟩:=pk3 BK102;obtain⟨⟨hcz16_0,hcz16_1,hcz16_2⟩,hfz16_0,hfz16_1,hfz16_2⟩:=pk3 BK103
   go_wp2_with(first|((with_reducible refine aJ (N:=26) rfl ?_);(try(refine eP (by rfl) ?_;dsimp only));refine Kd.lV k36 _ 36 ?hg (N:=26) ?hd (xs:=([(⟨a0_0,a0_1,a0_2⟩:S36),(⟨a1_0,a1_1,a1_2⟩:S36),(⟨a2_0,a2_1,a2_2⟩:S36)]:List (S36))) (inner:= [.bool a0_0,.string a0_1,.string a0_2,.bool a1_0,.string a1_1,.string a1_2,.bool a2_0,.string a2_1,.string a2_2]) (ok:=fun _=>True) (okp:=fun _=>True) ?hr ?hp (fun _ hk=>hk) trivial (Below.refl _ _) (Nat.le_refl _) aCq ?_;(case hd=>rfl);(case hg=>rfl);(case hr=>first|(go_simp;done)|(go_simp;rfl));(case hp=>exact(Reps.c3 (show Kd.M k36 _ _ _ (⟨a0_0,a0_1,a0_2⟩:S36) [.bool a0_0,.string a0_1,.string a0_2] from(iO _ _ _ (⟨a0_0,a0_1,a0_2⟩:S36))) (Reps.c3 (show Kd.M k36 _ _ _ (⟨a1_0,a1_1,a1_2⟩:S36) [.bool a1_0,.string a1_1,.string a1_2] from(iO _ _ _ (⟨a1_0,a1_1,a1_2⟩:S36))) (Reps.c3 (show Kd.M k36 _ _ _ (⟨a2_0,a2_1,a2_2⟩:S36) [.bool a2_0,.string a2_1,.string a2_2] from(iO _ _ _ (⟨a2_0,a2_1,a2_2⟩:S36))) (Reps.none _ _)))));intro v105 w17 ho18 hb hg_ hnew_;clear hg_ hnew_;(first|rw[←Ny104.out] at ho18|(simp only[Int.reduceToNat] at ho18;rw[←Ny104.out] at ho18));have HO106:=aA.mk (Kd.jF (Kd.jD (Kd.jD (Kd.jD ho18 (g:=gb101) (o:= .cells #[.bool a0_0,.string a0_1,.string a0_2] 36 (0,0)) (pkW BK101)) (g:=gb102) (o:= .cells #[.bool a1_0,.string a1_1,.string a1_2] 36 (0,0)) (pkW BK102)) (g:=gb103) (o:= .cells #[.bool a2_0,.string a2_1,.string a2_2] 36 (0,0)) (pkW BK103)) (dU (pkL HB)));replace BK101:=pkK BK101 hb;replace BK102:=pkK BK102 hb;replace BK103:=pkK BK103 hb;replace HB:=pkB HB hb;clear hb ho18;obtain⟨Ao19,co19,eo19⟩:=Kd.gY HO106.out;subst eo19)|((with_reducible refine aG (f:=46) rfl ?_);refine gl_ 27 Tryz.func46 #[.slice Ao19 y104.length co19,.slice none 0 0] (h:= ?_);(refine(eY.calls _ _ y104 _ _ ([]:List ByteArray) true _ ?side1 ?side2 ?side3 ?side4 A8.out).mono ?_);(case side1=>repeat(first|exact(Kd.dH HO106.out).2.2|(with_reducible refine Kd.iZ ?_ _)|(with_reducible refine Kd.jA ?_ _)|(with_reducible refine Kd.jR ?_)));(case side2=>exact(Kd.dH HO106.out).2.1);(case side3=>exact Kd.C_nil _ _);(case side4=>exact Nat.le_refl _);rintro e w20 ⟨rfl,hb⟩;refine⟨_,rfl,?_⟩;replace HO106:=aA.mk (Kd.dD (by(with_reducible repeat(first|apply Kd.aX|apply Kd.aY|apply Kd.bP));exact HO106.out) hb);replace BK101:=pkK BK101 hb;replace BK102:=pkK BK102 hb;replace BK103:=pkK BK103 hb;replace HB:=pkB HB hb;try clear hb;obtain⟨⟨hcz21_0,hcz21_1,hcz21_2⟩,hfz21_0,hfz21_1,hfz21_2⟩:=pk3 BK101;obtain⟨⟨hcz22_0,hcz22_1,hcz22_2⟩,hfz22_0,hfz22_1,hfz22_2⟩:=pk3 BK102;obtain⟨⟨hcz23_0,hcz23_1,hcz23_2⟩,hfz23_0,hfz23_1,hfz23_2⟩:=pk3 BK103)|((with_reducible refine aJ (N:=33) rfl ?_);(try(refine eP (by rfl) ?_;dsimp only));refine Kd.lV k36 _ 36 ?hg (N:=33) ?hd (xs:=([(⟨a0_0,a0_1,a0_2⟩:S36),(⟨a1_0,a1_1,a1_2⟩:S36),(⟨a2_0,a2_1,a2_2⟩:S36)]:List (S36))) (inner:= [.bool a0_0,.string a0_1,.string a0_2,.bool a1_0,.string a1_1,.string a1_2,.bool a2_0,.string a2_1,.string a2_2]) (ok:=fun _=>True) (okp:=fun _=>True) ?hr ?hp (fun _ hk=>hk) trivial (Below.refl _ _) (Nat.le_refl _) aCq ?_;(case hd=>rfl);(case hg=>rfl);(case hr=>first|(go_simp;done)|(go_simp;rfl));(case hp=>exact(Reps.c3 (show Kd.M k36 _ _ _ (⟨a0_0,a0_1,a0_2⟩:S36) [.bool a0_0,.string a0_1,.string a0_2] from(iO _ _ _ (⟨a0_0,a0_1,a0_2⟩:S36))) (Reps.c3 (show Kd.M k36 _ _ _ (⟨a1_0,a1_1,a1_2⟩:S36) [.bool a1_0,.string a1_1,.string a1_2] from(iO _ _ _ (⟨a1_0,a1_1,a1_2⟩:S36))) (Reps.c3 (show Kd.M k36 _ _ _ (⟨a2_0,a2_1,a2_2⟩:S36) [.bool a2_0,.string a2_1,.string a2_2] from(iO _ _ _ (⟨a2_0,a2_1,a2_2⟩:S36))) (Reps.none _ _)))));intro v109 w24 ho25 hb hg_ hnew_;clear hg_ hnew_;(first|rw[←Ny108.out] at ho25|(simp only[Int.reduceToNat] at ho25;rw[←Ny108.out] at ho25));have n0_:=aA.mk (Kd.aA0 (by(with_reducible repeat(first|apply Kd.aX|apply Kd.aY|apply Kd.bP));exact HO106.out) (Kd.R_base ho25) hb);have n1_:=aA.mk (Kd.jF (Kd.jD (Kd.jD (Kd.jD (Kd.R_new' ho25 (Kd.R_lt (by(with_reducible repeat(first|apply Kd.aX|apply Kd.aY|apply Kd.bP));exact HO106.out))) (g:=gb101) (o:= .cells #[.bool a0_0,.string a0_1,.string a0_2] 36 (0,0)) (pkW BK101)) (g:=gb102) (o:= .cells #[.bool a1_0,.string a1_1,.string a1_2] 36 (0,0)) (pkW BK102)) (g:=gb103) (o:= .cells #[.bool a2_0,.string a2_1,.string a2_2] 36 (0,0)) (pkW BK103)) (dU (pkL HB)));have n2_:=pkK BK101 hb;have n3_:=pkK BK102 hb;have n4_:=pkK BK103 hb;have n5_:=pkB HB hb;clear HO106;clear BK101;clear BK102;clear BK103;clear HB;have HO106:=n0_;have HO110:=n1_;have BK101:=n2_;have BK102:=n3_;have BK103:=n4_;have HB:=n5_;clear n0_ n1_ n2_ n3_ n4_ n5_;clear hb ho25;obtain⟨Ao26,co26,eo26⟩:=Kd.gY HO110.out;subst eo26)|(go_at_call 47;(with_reducible refine(iI.calls _ _ y108 t111 _ ?side1 ?side2 A10.out).mono ?_);(case side1=>repeat(first|exact(Kd.dH HO110.out).2.2|(with_reducible refine Kd.iZ ?_ _)|(with_reducible refine Kd.jA ?_ _)|(with_reducible refine Kd.jR ?_)));(case side2=>exact(Kd.dH HO110.out).2.1);rintro e w27 ⟨rfl,hb⟩;replace HO106:=aA.mk (Kd.dD (by(with_reducible repeat(first|apply Kd.aX|apply Kd.aY|apply Kd.bP));exact HO106.out) hb);replace HO110:=aA.mk (Kd.dD (by(with_reducible repeat(first|apply Kd.aX|apply Kd.aY|apply Kd.bP));exact HO110.out) hb);replace BK101:=pkK BK101 hb;replace BK102:=pkK BK102 hb;replace BK103:=pkK BK103 hb;replace HB:=pkB HB hb;try clear hb))
   go_meet
   case rel=>exact⟨_,(t111),aCs,H',⟨by first|omega|exact Nat.le_refl _⟩,⟨pkW BK101⟩,⟨pkW BK102⟩,⟨pkW BK103⟩,⟨pkL HB⟩⟩
  ·replace c9:=Bool.eq_false_iff.mpr c9
   subst c9;rw[if_neg (show ¬(false=true) by decide)] at H;have H':=aA.mk H;clear H;have hnb28:=NB101_102.out;have hnc28:=NB102_101.out;have hnb29:=NB101_103.out;have hnc29:=NB103_101.out;obtain⟨⟨hcz30_0,hcz30_1,hcz30_2⟩,hfz30_0,hfz30_1,hfz30_2⟩:=pk3 BK101;have hnb31:=NB102_103.out;have hnc31:=NB103_102.out;obtain⟨⟨hcz32_0,hcz32_1,hcz32_2⟩,hfz32_0,hfz32_1,hfz32_2⟩:=pk3 BK102;obtain⟨⟨hcz33_0,hcz33_1,hcz33_2⟩,hfz33_0,hfz33_1,hfz33_2⟩:=pk3 BK103
   go_wp2_with(first|((with_reducible refine aJ (N:=26) rfl ?_);(try(refine eP (by rfl) ?_;dsimp only));refine Kd.lV k36 _ 36 ?hg (N:=26) ?hd (xs:=([(⟨a0_0,a0_1,a0_2⟩:S36),(⟨a1_0,a1_1,a1_2⟩:S36),(⟨a2_0,a2_1,a2_2⟩:S36)]:List (S36))) (inner:= [.bool a0_0,.string a0_1,.string a0_2,.bool a1_0,.string a1_1,.string a1_2,.bool a2_0,.string a2_1,.string a2_2]) (ok:=fun _=>True) (okp:=fun _=>True) ?hr ?hp (fun _ hk=>hk) trivial (Below.refl _ _) (Nat.le_refl _) aCq ?_;(case hd=>rfl);(case hg=>rfl);(case hr=>first|(go_simp;done)|(go_simp;rfl));(case hp=>exact(Reps.c3 (show Kd.M k36 _ _ _ (⟨a0_0,a0_1,a0_2⟩:S36) [.bool a0_0,.string a0_1,.string a0_2] from(iO _ _ _ (⟨a0_0,a0_1,a0_2⟩:S36))) (Reps.c3 (show Kd.M k36 _ _ _ (⟨a1_0,a1_1,a1_2⟩:S36) [.bool a1_0,.string a1_1,.string a1_2] from(iO _ _ _ (⟨a1_0,a1_1,a1_2⟩:S36))) (Reps.c3 (show Kd.M k36 _ _ _ (⟨a2_0,a2_1,a2_2⟩:S36) [.bool a2_0,.string a2_1,.string a2_2] from(iO _ _ _ (⟨a2_0,a2_1,a2_2⟩:S36))) (Reps.none _ _)))));intro v105 w34 ho35 hb hg_ hnew_;clear hg_ hnew_;(first|rw[←Ny104.out] at ho35|(simp only[Int.reduceToNat] at ho35;rw[←Ny104.out] at ho35));have HO106:=aA.mk (Kd.jF (Kd.jD (Kd.jD (Kd.jD ho35 (g:=gb101) (o:= .cells #[.bool a0_0,.string a0_1,.string a0_2] 36 (0,0)) (pkW BK101)) (g:=gb102) (o:= .cells #[.bool a1_0,.string a1_1,.string a1_2] 36 (0,0)) (pkW BK102)) (g:=gb103) (o:= .cells #[.bool a2_0,.string a2_1,.string a2_2] 36 (0,0)) (pkW BK103)) (dU (pkL HB)));replace BK101:=pkK BK101 hb;replace BK102:=pkK BK102 hb;replace BK103:=pkK BK103 hb;replace HB:=pkB HB hb;clear hb ho35;obtain⟨Ao36,co36,eo36⟩:=Kd.gY HO106.out;subst eo36)|((with_reducible refine aG (f:=46) rfl ?_);refine gl_ 27 Tryz.func46 #[.slice Ao36 y104.length co36,.slice none 0 0] (h:= ?_);(refine(eY.calls _ _ y104 _ _ ([]:List ByteArray) false _ ?side1 ?side2 ?side3 ?side4 A8.out).mono ?_);(case side1=>repeat(first|exact(Kd.dH HO106.out).2.2|(with_reducible refine Kd.iZ ?_ _)|(with_reducible refine Kd.jA ?_ _)|(with_reducible refine Kd.jR ?_)));(case side2=>exact(Kd.dH HO106.out).2.1);(case side3=>exact Kd.C_nil _ _);(case side4=>exact Nat.le_refl _);rintro e w37 ⟨rfl,hb⟩;refine⟨_,rfl,?_⟩;replace HO106:=aA.mk (Kd.dD (by(with_reducible repeat(first|apply Kd.aX|apply Kd.aY|apply Kd.bP));exact HO106.out) hb);replace BK101:=pkK BK101 hb;replace BK102:=pkK BK102 hb;replace BK103:=pkK BK103 hb;replace HB:=pkB HB hb;try clear hb))
   go_meet
   case rel=>exact⟨_,(true),aCs,H',⟨by first|omega|exact Nat.le_refl _⟩,⟨pkW BK101⟩,⟨pkW BK102⟩,⟨pkW BK103⟩,⟨pkL HB⟩⟩
 case rest=>
  clear HC4;try clear c9
  try clear hcz13_0
  try clear hcz13_1
  try clear hcz13_2
  try clear hcz15_0
  try clear hcz15_1
  try clear hcz15_2
  try clear hcz16_0
  try clear hcz16_1
  try clear hcz16_2
  try clear hcz21_0
  try clear hcz21_1
  try clear hcz21_2
  try clear hcz22_0
  try clear hcz22_1
  try clear hcz22_2
  try clear hcz23_0
  try clear hcz23_1
  try clear hcz23_2
  try clear hcz30_0
  try clear hcz30_1
  try clear hcz30_2
  try clear hcz32_0
  try clear hcz32_1
  try clear hcz32_2
  try clear hcz33_0
  try clear hcz33_1
  try clear hcz33_2
  try clear hfz13_0
  try clear hfz13_1
  try clear hfz13_2
  try clear hfz15_0
  try clear hfz15_1
  try clear hfz15_2
  try clear hfz16_0
  try clear hfz16_1
  try clear hfz16_2
  try clear hfz21_0
  try clear hfz21_1
  try clear hfz21_2
  try clear hfz22_0
  try clear hfz22_1
  try clear hfz22_2
  try clear hfz23_0
  try clear hfz23_1
  try clear hfz23_2
  try clear hfz30_0
  try clear hfz30_1
  try clear hfz30_2
  try clear hfz32_0
  try clear hfz32_1
  try clear hfz32_2
  try clear hfz33_0
  try clear hfz33_1
  try clear hfz33_2
  obtain⟨kq,x35_3,rfl,HA,HJ3,BK101,BK102,BK103,HB⟩:=hcut
  cases kq with
  |zero=>exact absurd HA.out (by simp[bT.j0])
  |succ kj3=>
   have H:=HA.out;clear HA;simp only[bT.j0] at H
   by_cases c38:x35_3=true
   ·subst c38
    rw[if_pos rfl] at H;obtain⟨t112,A39,H⟩:=bi H;try dsimp only at H
    obtain rfl:=Option.some.inj H
    go_wp2_with(first|((with_reducible refine aG (f:=35) rfl ?_);refine gl_ 36 Tryz.func35 #[] (h:= ?_);(with_reducible refine(dP.calls (hG:=HG.out.below (pkL HB)) t112 _ A39.out).mono ?_);rintro e w40 ⟨rfl,hb⟩;refine⟨_,rfl,?_⟩;replace BK101:=pkK BK101 hb;replace BK102:=pkK BK102 hb;replace BK103:=pkK BK103 hb;replace HB:=pkB HB hb;try clear hb))
    go_ret
    exact pkE HB
   ·replace c38:=Bool.eq_false_iff.mpr c38
    subst c38;rw[if_neg (show ¬(false=true) by decide)] at H;obtain⟨⟨t113,t114,t115,t116⟩,A41,H⟩:=bi H;try dsimp only at H
    by_cases c42:t116=0
    ·rw[if_pos c42] at H
     have c42b0:(t116==0)=true:=beq_iff_eq.mpr c42;have c42b1:(t116 != 0)=false:=bne_eq_false_iff_eq.mpr c42;clear c42;obtain⟨⟨t118,t119,t120,t121⟩,A43,H⟩:=bi H;try dsimp only at H
     obtain⟨⟨t123,t124,t125,t126⟩,A44,H⟩:=bi H;try dsimp only at H
     obtain⟨⟨t128,t129,t130,t131⟩,A45,H⟩:=bi H;try dsimp only at H
     obtain⟨⟨t133,t134,t135,t136⟩,A46,H⟩:=bi H;try dsimp only at H
     obtain⟨⟨t138,t139,t140,t141⟩,A47,H⟩:=bi H;try dsimp only at H
     obtain⟨⟨t143,t144,t145,t146⟩,A48,H⟩:=bi H;try dsimp only at H
     by_cases c49:(wrap64 ((wrap64 ((wrap64 ((wrap64 ((wrap64 (t121+t126))+t131))+t136))+t141))+t146))=0
     ·rw[if_pos c49] at H
      have c49b0:((wrap64 ((wrap64 ((wrap64 ((wrap64 ((wrap64 (t121+t126))+t131))+t136))+t141))+t146))==0)=true:=beq_iff_eq.mpr c49;have c49b1:((wrap64 ((wrap64 ((wrap64 ((wrap64 ((wrap64 (t121+t126))+t131))+t136))+t141))+t146)) != 0)=false:=bne_eq_false_iff_eq.mpr c49;clear c49;obtain⟨⟨t148,t149⟩,A50,H⟩:=bi H;try dsimp only at H
      obtain⟨⟨t150,t151⟩,A51,H⟩:=bi H;try dsimp only at H
      obtain⟨⟨t152,t153⟩,A52,H⟩:=bi H;try dsimp only at H
      by_cases c53:(wrap64 ((wrap64 (t149+t151))+t153))=0
      ·rw[if_pos c53] at H
       have c53b0:((wrap64 ((wrap64 (t149+t151))+t153))==0)=true:=beq_iff_eq.mpr c53;have c53b1:((wrap64 ((wrap64 (t149+t151))+t153)) != 0)=false:=bne_eq_false_iff_eq.mpr c53;clear c53
       by_cases c54:t148=true
       ·subst c54
        rw[if_pos rfl] at H
        by_cases c55:t150=true
        ·subst c55
         rw[if_pos rfl] at H
         by_cases c56:t152=true
         ·subst c56
          rw[if_pos rfl] at H;obtain⟨t154,A57,H⟩:=bi H;try dsimp only at H
          obtain rfl:=Option.some.inj H;have hnb58:=NB101_102.out;have hnc58:=NB102_101.out;have hnb59:=NB101_103.out;have hnc59:=NB103_101.out;obtain⟨⟨hcz60_0,hcz60_1,hcz60_2⟩,hfz60_0,hfz60_1,hfz60_2⟩:=pk3 BK101;have hnb61:=NB102_103.out;have hnc61:=NB103_102.out;obtain⟨⟨hcz62_0,hcz62_1,hcz62_2⟩,hfz62_0,hfz62_1,hfz62_2⟩:=pk3 BK102
          go_wp2_with(first|((with_reducible refine aG (f:=42) rfl ?_);refine gl_ 40 Tryz.func42 #[.agg #[.bool a0_0,.string a0_1,.string a0_2],.agg #[.bool a1_0,.string a1_1,.string a1_2]] (h:= ?_);(with_reducible refine(dZ.calls (hG:=HG.out.below (pkL HB)) a0_0 a0_1 a0_2 a1_0 a1_1 a1_2 t113 t114 t115 t116 _ A41.out).mono ?_);rintro e w63 ⟨rfl,hb⟩;refine⟨_,rfl,?_⟩;replace BK101:=pkK BK101 hb;replace BK102:=pkK BK102 hb;replace BK103:=pkK BK103 hb;replace HB:=pkB HB hb;try clear hb)|((with_reducible refine aJ (N:=7) rfl ?_);(try(refine eP (by rfl) ?_;dsimp only));refine bx_ 7 36 #[.bool false,.string (⟨#[]⟩:ByteArray),.string (⟨#[]⟩:ByteArray)] (h:= ?_);intro gb117 hg w64 hbox hb;have BK117:=aA.mk (hbox);have GW117:=pkG HB hg;have GE117:=GW117;obtain⟨NB101_117,NB117_101,hnb65,hnc65⟩:=pkQ BK101 hg;obtain⟨NB102_117,NB117_102,hnb66,hnc66⟩:=pkQ BK102 hg;obtain⟨NB103_117,NB117_103,hnb67,hnc67⟩:=pkQ BK103 hg;replace BK101:=pkK BK101 hb;replace BK102:=pkK BK102 hb;replace BK103:=pkK BK103 hb;replace HB:=pkB HB hb;clear hb hbox hg;obtain⟨⟨hcz68_0,hcz68_1,hcz68_2⟩,hfz68_0,hfz68_1,hfz68_2⟩:=pk3 BK117;obtain⟨⟨hcz69_0,hcz69_1,hcz69_2⟩,hfz69_0,hfz69_1,hfz69_2⟩:=pk3 BK101;obtain⟨⟨hcz70_0,hcz70_1,hcz70_2⟩,hfz70_0,hfz70_1,hfz70_2⟩:=pk3 BK103)|((with_reducible refine aG (f:=50) rfl ?_);refine gl_ 48 Tryz.func50 #[.agg #[.bool a0_0,.string a0_1,.string a0_2],.agg #[.bool a2_0,.string a2_1,.string a2_2]] (h:= ?_);(with_reducible refine(iL.calls (hG:=HG.out.below (pkL HB)) a0_0 a0_1 a0_2 a2_0 a2_1 a2_2 t118 t119 t120 t121 _ A43.out).mono ?_);rintro e w71 ⟨rfl,hb⟩;refine⟨_,rfl,?_⟩;replace BK101:=pkF BK101 hb;replace BK102:=pkF BK102 hb;replace BK103:=pkF BK103 hb;replace BK117:=aA.mk (dF (g:=gb117) (o:= .cells #[.bool t113,.string t114,.string t115] 36 (0,0)) (pkS3 BK117) hb);replace HB:=pkB HB hb;try clear hb)|((with_reducible refine aJ (N:=9) rfl ?_);(try(refine eP (by rfl) ?_;dsimp only));refine bx_ 9 36 #[.bool false,.string (⟨#[]⟩:ByteArray),.string (⟨#[]⟩:ByteArray)] (h:= ?_);intro gb122 hg w72 hbox hb;have BK122:=aA.mk (hbox);have GW122:=pkG HB hg;have GE122:=GW122;obtain⟨NB101_122,NB122_101,hnb73,hnc73⟩:=pkQ BK101 hg;obtain⟨NB102_122,NB122_102,hnb74,hnc74⟩:=pkQ BK102 hg;obtain⟨NB103_122,NB122_103,hnb75,hnc75⟩:=pkQ BK103 hg;obtain⟨NB117_122,NB122_117,hnb76,hnc76⟩:=pkQ BK117 hg;replace BK101:=pkK BK101 hb;replace BK102:=pkK BK102 hb;replace BK103:=pkK BK103 hb;replace BK117:=pkK BK117 hb;replace HB:=pkB HB hb;clear hb hbox hg;obtain⟨⟨hcz77_0,hcz77_1,hcz77_2⟩,hfz77_0,hfz77_1,hfz77_2⟩:=pk3 BK122;obtain⟨⟨hcz78_0,hcz78_1,hcz78_2⟩,hfz78_0,hfz78_1,hfz78_2⟩:=pk3 BK117;obtain⟨⟨hcz79_0,hcz79_1,hcz79_2⟩,hfz79_0,hfz79_1,hfz79_2⟩:=pk3 BK103)|((with_reducible refine aG (f:=50) rfl ?_);refine gl_ 54 Tryz.func50 #[.agg #[.bool t113,.string t114,.string t115],.agg #[.bool a2_0,.string a2_1,.string a2_2]] (h:= ?_);(with_reducible refine(iL.calls (hG:=HG.out.below (pkL HB)) t113 t114 t115 a2_0 a2_1 a2_2 t123 t124 t125 t126 _ A44.out).mono ?_);rintro e w80 ⟨rfl,hb⟩;refine⟨_,rfl,?_⟩;replace BK101:=pkF BK101 hb;replace BK102:=pkF BK102 hb;replace BK103:=pkF BK103 hb;replace BK117:=pkF BK117 hb;replace BK122:=aA.mk (dF (g:=gb122) (o:= .cells #[.bool t118,.string t119,.string t120] 36 (0,0)) (pkS3 BK122) hb);replace HB:=pkB HB hb;try clear hb)|((with_reducible refine aJ (N:=10) rfl ?_);(try(refine eP (by rfl) ?_;dsimp only));refine bx_ 10 36 #[.bool false,.string (⟨#[]⟩:ByteArray),.string (⟨#[]⟩:ByteArray)] (h:= ?_);intro gb127 hg w81 hbox hb;have BK127:=aA.mk (hbox);have GW127:=pkG HB hg;have GE127:=GW127;obtain⟨NB101_127,NB127_101,hnb82,hnc82⟩:=pkQ BK101 hg;obtain⟨NB102_127,NB127_102,hnb83,hnc83⟩:=pkQ BK102 hg;obtain⟨NB103_127,NB127_103,hnb84,hnc84⟩:=pkQ BK103 hg;obtain⟨NB117_127,NB127_117,hnb85,hnc85⟩:=pkQ BK117 hg;obtain⟨NB122_127,NB127_122,hnb86,hnc86⟩:=pkQ BK122 hg;replace BK101:=pkK BK101 hb;replace BK102:=pkK BK102 hb;replace BK103:=pkK BK103 hb;replace BK117:=pkK BK117 hb;replace BK122:=pkK BK122 hb;replace HB:=pkB HB hb;clear hb hbox hg;obtain⟨⟨hcz87_0,hcz87_1,hcz87_2⟩,hfz87_0,hfz87_1,hfz87_2⟩:=pk3 BK127;obtain⟨⟨hcz88_0,hcz88_1,hcz88_2⟩,hfz88_0,hfz88_1,hfz88_2⟩:=pk3 BK103;obtain⟨⟨hcz89_0,hcz89_1,hcz89_2⟩,hfz89_0,hfz89_1,hfz89_2⟩:=pk3 BK101)|((with_reducible refine aG (f:=52) rfl ?_);refine gl_ 60 Tryz.func52 #[.agg #[.bool a2_0,.string a2_1,.string a2_2],.agg #[.bool a0_0,.string a0_1,.string a0_2]] (h:= ?_);(with_reducible refine(iD.calls (hG:=HG.out.below (pkL HB)) a2_0 a2_1 a2_2 a0_0 a0_1 a0_2 t128 t129 t130 t131 _ A45.out).mono ?_);rintro e w90 ⟨rfl,hb⟩;refine⟨_,rfl,?_⟩;replace BK101:=pkF BK101 hb;replace BK102:=pkF BK102 hb;replace BK103:=pkF BK103 hb;replace BK117:=pkF BK117 hb;replace BK122:=pkF BK122 hb;replace BK127:=aA.mk (dF (g:=gb127) (o:= .cells #[.bool t123,.string t124,.string t125] 36 (0,0)) (pkS3 BK127) hb);replace HB:=pkB HB hb;try clear hb)|((with_reducible refine aJ (N:=12) rfl ?_);(try(refine eP (by rfl) ?_;dsimp only));refine bx_ 12 36 #[.bool false,.string (⟨#[]⟩:ByteArray),.string (⟨#[]⟩:ByteArray)] (h:= ?_);intro gb132 hg w91 hbox hb;have BK132:=aA.mk (hbox);have GW132:=pkG HB hg;have GE132:=GW132;obtain⟨NB101_132,NB132_101,hnb92,hnc92⟩:=pkQ BK101 hg;obtain⟨NB102_132,NB132_102,hnb93,hnc93⟩:=pkQ BK102 hg;obtain⟨NB103_132,NB132_103,hnb94,hnc94⟩:=pkQ BK103 hg;obtain⟨NB117_132,NB132_117,hnb95,hnc95⟩:=pkQ BK117 hg;obtain⟨NB122_132,NB132_122,hnb96,hnc96⟩:=pkQ BK122 hg;obtain⟨NB127_132,NB132_127,hnb97,hnc97⟩:=pkQ BK127 hg;replace BK101:=pkK BK101 hb;replace BK102:=pkK BK102 hb;replace BK103:=pkK BK103 hb;replace BK117:=pkK BK117 hb;replace BK122:=pkK BK122 hb;replace BK127:=pkK BK127 hb;replace HB:=pkB HB hb;clear hb hbox hg;obtain⟨⟨hcz98_0,hcz98_1,hcz98_2⟩,hfz98_0,hfz98_1,hfz98_2⟩:=pk3 BK132;obtain⟨⟨hcz99_0,hcz99_1,hcz99_2⟩,hfz99_0,hfz99_1,hfz99_2⟩:=pk3 BK103;obtain⟨⟨hcz100_0,hcz100_1,hcz100_2⟩,hfz100_0,hfz100_1,hfz100_2⟩:=pk3 BK117)|((with_reducible refine aG (f:=52) rfl ?_);refine gl_ 66 Tryz.func52 #[.agg #[.bool a2_0,.string a2_1,.string a2_2],.agg #[.bool t113,.string t114,.string t115]] (h:= ?_);(with_reducible refine(iD.calls (hG:=HG.out.below (pkL HB)) a2_0 a2_1 a2_2 t113 t114 t115 t133 t134 t135 t136 _ A46.out).mono ?_);rintro e w101 ⟨rfl,hb⟩;refine⟨_,rfl,?_⟩;replace BK101:=pkF BK101 hb;replace BK102:=pkF BK102 hb;replace BK103:=pkF BK103 hb;replace BK117:=pkF BK117 hb;replace BK122:=pkF BK122 hb;replace BK127:=pkF BK127 hb;replace BK132:=aA.mk (dF (g:=gb132) (o:= .cells #[.bool t128,.string t129,.string t130] 36 (0,0)) (pkS3 BK132) hb);replace HB:=pkB HB hb;try clear hb)|((with_reducible refine aJ (N:=14) rfl ?_);(try(refine eP (by rfl) ?_;dsimp only));refine bx_ 14 36 #[.bool false,.string (⟨#[]⟩:ByteArray),.string (⟨#[]⟩:ByteArray)] (h:= ?_);intro gb137 hg w102 hbox hb;have BK137:=aA.mk (hbox);have GW137:=pkG HB hg;have GE137:=GW137;obtain⟨NB101_137,NB137_101,hnb103,hnc103⟩:=pkQ BK101 hg;obtain⟨NB102_137,NB137_102,hnb104,hnc104⟩:=pkQ BK102 hg;obtain⟨NB103_137,NB137_103,hnb105,hnc105⟩:=pkQ BK103 hg;obtain⟨NB117_137,NB137_117,hnb106,hnc106⟩:=pkQ BK117 hg;obtain⟨NB122_137,NB137_122,hnb107,hnc107⟩:=pkQ BK122 hg;obtain⟨NB127_137,NB137_127,hnb108,hnc108⟩:=pkQ BK127 hg;obtain⟨NB132_137,NB137_132,hnb109,hnc109⟩:=pkQ BK132 hg;replace BK101:=pkK BK101 hb;replace BK102:=pkK BK102 hb;replace BK103:=pkK BK103 hb;replace BK117:=pkK BK117 hb;replace BK122:=pkK BK122 hb;replace BK127:=pkK BK127 hb;replace BK132:=pkK BK132 hb;replace HB:=pkB HB hb;clear hb hbox hg;obtain⟨⟨hcz110_0,hcz110_1,hcz110_2⟩,hfz110_0,hfz110_1,hfz110_2⟩:=pk3 BK137;obtain⟨⟨hcz111_0,hcz111_1,hcz111_2⟩,hfz111_0,hfz111_1,hfz111_2⟩:=pk3 BK101;obtain⟨⟨hcz112_0,hcz112_1,hcz112_2⟩,hfz112_0,hfz112_1,hfz112_2⟩:=pk3 BK103)|((with_reducible refine aG (f:=54) rfl ?_);refine gl_ 72 Tryz.func54 #[.agg #[.bool a0_0,.string a0_1,.string a0_2],.agg #[.bool a2_0,.string a2_1,.string a2_2]] (h:= ?_);(with_reducible refine(iM.calls (hG:=HG.out.below (pkL HB)) a0_0 a0_1 a0_2 a2_0 a2_1 a2_2 t138 t139 t140 t141 _ A47.out).mono ?_);rintro e w113 ⟨rfl,hb⟩;refine⟨_,rfl,?_⟩;replace BK101:=pkF BK101 hb;replace BK102:=pkF BK102 hb;replace BK103:=pkF BK103 hb;replace BK117:=pkF BK117 hb;replace BK122:=pkF BK122 hb;replace BK127:=pkF BK127 hb;replace BK132:=pkF BK132 hb;replace BK137:=aA.mk (dF (g:=gb137) (o:= .cells #[.bool t133,.string t134,.string t135] 36 (0,0)) (pkS3 BK137) hb);replace HB:=pkB HB hb;try clear hb)|((with_reducible refine aJ (N:=16) rfl ?_);(try(refine eP (by rfl) ?_;dsimp only));refine bx_ 16 36 #[.bool false,.string (⟨#[]⟩:ByteArray),.string (⟨#[]⟩:ByteArray)] (h:= ?_);intro gb142 hg w114 hbox hb;have BK142:=aA.mk (hbox);have GW142:=pkG HB hg;have GE142:=GW142;obtain⟨NB101_142,NB142_101,hnb115,hnc115⟩:=pkQ BK101 hg;obtain⟨NB102_142,NB142_102,hnb116,hnc116⟩:=pkQ BK102 hg;obtain⟨NB103_142,NB142_103,hnb117,hnc117⟩:=pkQ BK103 hg;obtain⟨NB117_142,NB142_117,hnb118,hnc118⟩:=pkQ BK117 hg;obtain⟨NB122_142,NB142_122,hnb119,hnc119⟩:=pkQ BK122 hg;obtain⟨NB127_142,NB142_127,hnb120,hnc120⟩:=pkQ BK127 hg;obtain⟨NB132_142,NB142_132,hnb121,hnc121⟩:=pkQ BK132 hg;obtain⟨NB137_142,NB142_137,hnb122,hnc122⟩:=pkQ BK137 hg;replace BK101:=pkK BK101 hb;replace BK102:=pkK BK102 hb;replace BK103:=pkK BK103 hb;replace BK117:=pkK BK117 hb;replace BK122:=pkK BK122 hb;replace BK127:=pkK BK127 hb;replace BK132:=pkK BK132 hb;replace BK137:=pkK BK137 hb;replace HB:=pkB HB hb;clear hb hbox hg;obtain⟨⟨hcz123_0,hcz123_1,hcz123_2⟩,hfz123_0,hfz123_1,hfz123_2⟩:=pk3 BK142;obtain⟨⟨hcz124_0,hcz124_1,hcz124_2⟩,hfz124_0,hfz124_1,hfz124_2⟩:=pk3 BK117;obtain⟨⟨hcz125_0,hcz125_1,hcz125_2⟩,hfz125_0,hfz125_1,hfz125_2⟩:=pk3 BK103)|((with_reducible refine aG (f:=54) rfl ?_);refine gl_ 78 Tryz.func54 #[.agg #[.bool t113,.string t114,.string t115],.agg #[.bool a2_0,.string a2_1,.string a2_2]] (h:= ?_);(with_reducible refine(iM.calls (hG:=HG.out.below (pkL HB)) t113 t114 t115 a2_0 a2_1 a2_2 t143 t144 t145 t146 _ A48.out).mono ?_);rintro e w126 ⟨rfl,hb⟩;refine⟨_,rfl,?_⟩;replace BK101:=pkF BK101 hb;replace BK102:=pkF BK102 hb;replace BK103:=pkF BK103 hb;replace BK117:=pkF BK117 hb;replace BK122:=pkF BK122 hb;replace BK127:=pkF BK127 hb;replace BK132:=pkF BK132 hb;replace BK137:=pkF BK137 hb;replace BK142:=aA.mk (dF (g:=gb142) (o:= .cells #[.bool t138,.string t139,.string t140] 36 (0,0)) (pkS3 BK142) hb);replace HB:=pkB HB hb;try clear hb)|((with_reducible refine aJ (N:=18) rfl ?_);(try(refine eP (by rfl) ?_;dsimp only));refine bx_ 18 36 #[.bool false,.string (⟨#[]⟩:ByteArray),.string (⟨#[]⟩:ByteArray)] (h:= ?_);intro gb147 hg w127 hbox hb;have BK147:=aA.mk (hbox);have GW147:=pkG HB hg;have GE147:=GW147;obtain⟨NB101_147,NB147_101,hnb128,hnc128⟩:=pkQ BK101 hg;obtain⟨NB102_147,NB147_102,hnb129,hnc129⟩:=pkQ BK102 hg;obtain⟨NB103_147,NB147_103,hnb130,hnc130⟩:=pkQ BK103 hg;obtain⟨NB117_147,NB147_117,hnb131,hnc131⟩:=pkQ BK117 hg;obtain⟨NB122_147,NB147_122,hnb132,hnc132⟩:=pkQ BK122 hg;obtain⟨NB127_147,NB147_127,hnb133,hnc133⟩:=pkQ BK127 hg;obtain⟨NB132_147,NB147_132,hnb134,hnc134⟩:=pkQ BK132 hg;obtain⟨NB137_147,NB147_137,hnb135,hnc135⟩:=pkQ BK137 hg;obtain⟨NB142_147,NB147_142,hnb136,hnc136⟩:=pkQ BK142 hg;replace BK101:=pkK BK101 hb;replace BK102:=pkK BK102 hb;replace BK103:=pkK BK103 hb;replace BK117:=pkK BK117 hb;replace BK122:=pkK BK122 hb;replace BK127:=pkK BK127 hb;replace BK132:=pkK BK132 hb;replace BK137:=pkK BK137 hb;replace BK142:=pkK BK142 hb;replace HB:=pkB HB hb;clear hb hbox hg;obtain⟨⟨hcz137_0,hcz137_1,hcz137_2⟩,hfz137_0,hfz137_1,hfz137_2⟩:=pk3 BK147;obtain⟨⟨hcz138_0,hcz138_1,hcz138_2⟩,hfz138_0,hfz138_1,hfz138_2⟩:=pk3 BK122;obtain⟨⟨hcz139_0,hcz139_1,hcz139_2⟩,hfz139_0,hfz139_1,hfz139_2⟩:=pk3 BK127)|((with_reducible refine aG (f:=40) rfl ?_);refine gl_ 96 Tryz.func40 #[.agg #[.bool t118,.string t119,.string t120],.agg #[.bool t123,.string t124,.string t125]] (h:= ?_);(with_reducible refine(fD.calls (hG:=HG.out.below (pkL HB)) t118 t119 t120 t123 t124 t125 true t149 _ A50.out).mono ?_);rintro e w140 ⟨rfl,hb⟩;refine⟨_,rfl,?_⟩;replace BK101:=pkF BK101 hb;replace BK102:=pkF BK102 hb;replace BK103:=pkF BK103 hb;replace BK117:=pkF BK117 hb;replace BK122:=pkF BK122 hb;replace BK127:=pkF BK127 hb;replace BK132:=pkF BK132 hb;replace BK137:=pkF BK137 hb;replace BK142:=pkF BK142 hb;replace BK147:=aA.mk (dF (g:=gb147) (o:= .cells #[.bool t143,.string t144,.string t145] 36 (0,0)) (pkS3 BK147) hb);replace HB:=pkB HB hb;try clear hb;obtain⟨⟨hcz141_0,hcz141_1,hcz141_2⟩,hfz141_0,hfz141_1,hfz141_2⟩:=pk3 BK132;obtain⟨⟨hcz142_0,hcz142_1,hcz142_2⟩,hfz142_0,hfz142_1,hfz142_2⟩:=pk3 BK137)|((with_reducible refine aG (f:=40) rfl ?_);refine gl_ 102 Tryz.func40 #[.agg #[.bool t128,.string t129,.string t130],.agg #[.bool t133,.string t134,.string t135]] (h:= ?_);(with_reducible refine(fD.calls (hG:=HG.out.below (pkL HB)) t128 t129 t130 t133 t134 t135 true t151 _ A51.out).mono ?_);rintro e w143 ⟨rfl,hb⟩;refine⟨_,rfl,?_⟩;replace BK101:=pkK BK101 hb;replace BK102:=pkK BK102 hb;replace BK103:=pkK BK103 hb;replace BK117:=pkK BK117 hb;replace BK122:=pkK BK122 hb;replace BK127:=pkK BK127 hb;replace BK132:=pkK BK132 hb;replace BK137:=pkK BK137 hb;replace BK142:=pkK BK142 hb;replace BK147:=pkK BK147 hb;replace HB:=pkB HB hb;try clear hb;obtain⟨⟨hcz144_0,hcz144_1,hcz144_2⟩,hfz144_0,hfz144_1,hfz144_2⟩:=pk3 BK142;obtain⟨⟨hcz145_0,hcz145_1,hcz145_2⟩,hfz145_0,hfz145_1,hfz145_2⟩:=pk3 BK147)|((with_reducible refine aG (f:=40) rfl ?_);refine gl_ 108 Tryz.func40 #[.agg #[.bool t138,.string t139,.string t140],.agg #[.bool t143,.string t144,.string t145]] (h:= ?_);(with_reducible refine(fD.calls (hG:=HG.out.below (pkL HB)) t138 t139 t140 t143 t144 t145 true t153 _ A52.out).mono ?_);rintro e w146 ⟨rfl,hb⟩;refine⟨_,rfl,?_⟩;replace BK101:=pkK BK101 hb;replace BK102:=pkK BK102 hb;replace BK103:=pkK BK103 hb;replace BK117:=pkK BK117 hb;replace BK122:=pkK BK122 hb;replace BK127:=pkK BK127 hb;replace BK132:=pkK BK132 hb;replace BK137:=pkK BK137 hb;replace BK142:=pkK BK142 hb;replace BK147:=pkK BK147 hb;replace HB:=pkB HB hb;try clear hb)|(go_at_call 35;(with_reducible refine(dP.calls (hG:=HG.out.below (pkL HB)) t154 _ A57.out).mono ?_);rintro e w147 ⟨rfl,hb⟩;replace BK101:=pkK BK101 hb;replace BK102:=pkK BK102 hb;replace BK103:=pkK BK103 hb;replace BK117:=pkK BK117 hb;replace BK122:=pkK BK122 hb;replace BK127:=pkK BK127 hb;replace BK132:=pkK BK132 hb;replace BK137:=pkK BK137 hb;replace BK142:=pkK BK142 hb;replace BK147:=pkK BK147 hb;replace HB:=pkB HB hb;try clear hb))
          go_ret
          exact pkE HB
         ·replace c56:=Bool.eq_false_iff.mpr c56
          subst c56;rw[if_neg (show ¬(false=true) by decide)] at H;exact absurd (Option.some.inj H) (by rw[hrT];decide)
        ·replace c55:=Bool.eq_false_iff.mpr c55
         subst c55;rw[if_neg (show ¬(false=true) by decide)] at H;exact absurd (Option.some.inj H) (by rw[hrT];decide)
       ·replace c54:=Bool.eq_false_iff.mpr c54
        subst c54;rw[if_neg (show ¬(false=true) by decide)] at H;exact absurd (Option.some.inj H) (by rw[hrT];decide)
      ·rw[if_neg c53] at H
       have c53b0:((wrap64 ((wrap64 (t149+t151))+t153))==0)=false:=beq_eq_false_iff_ne.mpr c53;have c53b1:((wrap64 ((wrap64 (t149+t151))+t153)) != 0)=true:=bne_iff_ne.mpr c53;exact absurd (Option.some.inj H) (by rw[hrT];decide)
     ·rw[if_neg c49] at H
      have c49b0:((wrap64 ((wrap64 ((wrap64 ((wrap64 ((wrap64 (t121+t126))+t131))+t136))+t141))+t146))==0)=false:=beq_eq_false_iff_ne.mpr c49;have c49b1:((wrap64 ((wrap64 ((wrap64 ((wrap64 ((wrap64 (t121+t126))+t131))+t136))+t141))+t146)) != 0)=true:=bne_iff_ne.mpr c49;exact absurd (Option.some.inj H) (by rw[hrT];decide)
    ·rw[if_neg c42] at H
     have c42b0:(t116==0)=false:=beq_eq_false_iff_ne.mpr c42;have c42b1:(t116 != 0)=true:=bne_iff_ne.mpr c42;exact absurd (Option.some.inj H) (by rw[hrT];decide)
end Go.Proofs.YtignanmmgaldeaaGreatDoor.PCongruenceGrows
end
section
set_option linter.unusedVariables false
set_option linter.unusedSimpArgs false
namespace Go.Proofs.YtignanmmgaldeaaGreatDoor.PureGrows
open Go.RowKit Go.Proofs.YtignanmmgaldeaaGreatDoor Go.Proofs.YtignanmmgaldeaaGreatDoor.PCongruenceGrows Go.Proofs.YtignanmmgaldeaaGreatDoor.PLawB Go.Proofs.YtignanmmgaldeaaGreatDoor.LawC Go.Proofs.YtignanmmgaldeaaGreatDoor.RefP Go.Proofs.YtignanmmgaldeaaGreatDoor.PCongI Go.Proofs.YtignanmmgaldeaaGreatDoor.CongM Go.Proofs.YtignanmmgaldeaaGreatDoorW.PrintWords
theorem gcd_bd{K:Nat}{x y:Int}(hx:Bd K x)(hy:Bd K y):Bd (K+1) (gcdI x y):=by
 have:=kE x y;unfold Bd at *
 rw[Nat.pow_succ];generalize (10:Nat) ^ K=P at *
 omega
theorem add_grows{c j x:Option (Int×Int)}(bc:bdO 91 c)(bj:bdO 91 j)(bx:bdO 91 x)(h:leO c j):leO (iL.o c x) (iL.o j x):=by
 cases c with
 |none=>trivial
 |some c=>cases j with
  |none=>exact h.elim
  |some j=>cases x with
   |none=>trivial
   |some x=>exact addC_grows ((gcd_bd bc.1 bx.1).mono aCo) ((bc.2.add bx.2).mono aCo) ((gcd_bd bj.1 bx.1).mono aCo) ((bj.2.add bx.2).mono aCo) h
theorem sub_grows{c j x:Option (Int×Int)}(bc:bdO 91 c)(bj:bdO 91 j)(bx:bdO 91 x)(h:leO c j):leO (iD.o x c) (iD.o x j):=by
 cases x with
 |none=>trivial
 |some x=>cases c with
  |none=>trivial
  |some c=>cases j with
   |none=>exact h.elim
   |some j=>exact subC_grows ((gcd_bd bx.1 bc.1).mono aCo) ((bx.2.add bc.2.neg).mono aCo) ((gcd_bd bx.1 bj.1).mono aCo) ((bx.2.add bj.2.neg).mono aCo) h
theorem mul_grows{c j x:Option (Int×Int)}{K L:Nat}(hKL:K+L+1≤100)(bc:bdO K c)(bj:bdO K j)(bx:bdO L x)(h:leO c j):leO (iM.o c x) (iM.o j x):=by
 cases c with
 |none=>trivial
 |some c=>cases j with
  |none=>exact h.elim
  |some j=>cases x with
   |none=>trivial
   |some x=>exact mulC_grows ((mulM_bd bc.1 bc.2 bx.1 bx.2).mono hKL) ((bc.2.mul bx.2).mono aCo) ((mulM_bd bj.1 bj.2 bx.1 bx.2).mono hKL) ((bj.2.mul bx.2).mono aCo) h
theorem w6:wrap64 (wrap64 (wrap64 (wrap64 (wrap64 (0+0)+0)+0)+0)+0)=0:=by decide +kernel
theorem w3:wrap64 (wrap64 (0+0)+0)=0:=by decide +kernel
theorem j0_val{c d x:Option (Int×Int)}(hc:bV c)(hd:bV d)(hx:bV x)(hs:¬90<lW [sC c,sC d,sC x])(k:Nat) :
 bT.j0 (k+1) false (E0 c) (E1 c) (E2 c) (E0 d) (E1 d) (E2 d) (E0 x) (E1 x) (E2 x)=some true:=by
 rw[long3] at hs;have bc:bdO (szO c+szO d) c:=zX aCo;have bd:bdO (szO c+szO d) d:=zX aCo;have bx:bdO (szO x) x:=zX aCo;have bj:=bdO_join bc bd;have gj:=nV hc hd;have hl:=yY c d;have a1:=add_grows (bc.mono aCo) (bj.mono aCo) (bx.mono aCo) hl;have a2:=sub_grows (bc.mono aCo) (bj.mono aCo) (bx.mono aCo) hl;have a3:=mul_grows (K:=szO c+szO d+1) (L:=szO x) aCo (bc.mono aCo) bj bx hl;unfold bT.j0
 dsimp only
 rw[if_neg aCq,vK hc hd,Option.bind_some]
 dsimp only
 rw[if_pos rfl,v_add hc hx,Option.bind_some,v_add gj hx,Option.bind_some,v_sub hx hc,Option.bind_some,v_sub hx gj,Option.bind_some,v_mul hc hx,Option.bind_some,v_mul gj hx,Option.bind_some]
 dsimp only
 rw[if_pos w6,wL (good_add hc hx) (good_add gj hx),Option.bind_some,wL (aAe hx hc) (aAe hx gj),Option.bind_some,wL (good_mul hc hx) (good_mul gj hx),Option.bind_some]
 dsimp only
 rw[if_pos w3,if_pos (decide_eq_true a1),if_pos (decide_eq_true a2),if_pos (decide_eq_true a3),jC,Option.bind_some]
theorem law(e1:Bool)(m1 r1:ByteArray)(e2:Bool)(m2 r2:ByteArray)(e3:Bool)(m3 r3:ByteArray)(h1:m1.size≤140737488351232)(h2:r1.size≤140737488351232)(h3:m2.size≤140737488351232)(h4:r2.size≤140737488351232)(h5:m3.size≤140737488351232)(h6:r3.size≤140737488351232) :
 bT.f 8 e1 m1 r1 e2 m2 r2 e3 m3 r3=some true:=by
 unfold bT.f;rcases right3 e1 m1 r1 e2 m2 r2 e3 m3 r3 h1 h2 h3 h4 h5 h6 with hr|⟨hr,c,d,x,gc,gd,gx,ec,ed,ex⟩
 ·rw[hr,Option.bind_some,if_neg aCq]
  unfold bT.j0
  dsimp only
  rw[if_pos rfl,jC,Option.bind_some]
 ·rw[hr,Option.bind_some,if_pos rfl,ec,ed,ex,v_long3 gc gd gx,Option.bind_some]
  obtain⟨rfl,rfl,rfl⟩:=S36.mk.inj ec;obtain⟨rfl,rfl,rfl⟩:=S36.mk.inj ed;obtain⟨rfl,rfl,rfl⟩:=S36.mk.inj ex
  by_cases hs:90<lW [sC c,sC d,sC x]
  ·rw[decide_eq_true hs]
   unfold bT.j0
   dsimp only
   rw[if_pos rfl,jC,Option.bind_some]
  ·rw[decide_eq_false hs]
   exact j0_val gc gd gx hs 7
end Go.Proofs.YtignanmmgaldeaaGreatDoor.PureGrows
end
