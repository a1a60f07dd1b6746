/- Lemmas for the proof. -/
import Derived.Test.YtignanmmgaldeaaGreatDoorYI
section
set_option linter.unusedVariables false
set_option linter.unusedSimpArgs false
set_option maxHeartbeats 8000000
set_option maxRecDepth 100000
namespace Go.Proofs.YtignanmmgaldeaaGreatDoor.PCongI
open Go.RowKit Go.Proofs.YtignanmmgaldeaaGreatDoorW.PrintWords Go.Proofs.YtignanmmgaldeaaGreatDoorW.PrintLast Go.Proofs.YtignanmmgaldeaaGreatDoorW.PrintMore
attribute [local go_sem] dQ dR eH eP
def fD.j0:Nat→ByteArray→ByteArray→Bool→Bool→ByteArray→ByteArray→Bool→ByteArray→ByteArray→Option (Bool×ByteArray×ByteArray)
 |0,_,_,_,_,_,_,_,_,_=>none
 |k+1,x5,x6,x43,x194000,x194001,x194002,x195000,x195001,x195002=>if x43=true then((kZ.f).bind fun bt201=>(some (bt201.1,bt201.2.1,bt201.2.2))) else((qX.f x194001 x195001).bind fun bt204=>((nO.f x6 x5).bind fun bt208=>((iK.f bt208.1 bt208.2).bind fun t210=>((jG.f bt204.2.1 t210).bind fun t211=>((wH.f x194001 x195001).bind fun bt212=>((iK.f bt212.1 bt212.2).bind fun t214=>((jG.f t211 x194001).bind fun t215=>((nR.f x194002 t215).bind fun t216=>((dS.f k t214 t216).bind fun bt217=>(some (bt217.1,bt217.2.1,bt217.2.2)))))))))))
def fD.f(k:Nat)(a0_0:Bool)(a0_1:ByteArray)(a0_2:ByteArray)(a1_0:Bool)(a1_1:ByteArray)(a1_2:ByteArray):Option (Bool×ByteArray×ByteArray):=(dI.f k a0_0 a0_1 a0_2 a1_0 a1_1 a1_2).bind fun t196=>(if t196=true then(some (a0_0,a0_1,a0_2)) else((dI.f k a1_0 a1_1 a1_2 a0_0 a0_1 a0_2).bind fun t197=>(if t197=true then(some (a1_0,a1_1,a1_2)) else((fU.f a0_1 a1_1).bind fun t198=>((jQ.f a1_2 a0_2).bind fun t199=>(if a0_1.toList=([48]:List UInt8) then(fD.j0 k t198 t199 true a0_0 a0_1 a0_2 a1_0 a1_1 a1_2) else(if a1_1.toList=([48]:List UInt8) then(fD.j0 k t198 t199 true a0_0 a0_1 a0_2 a1_0 a1_1 a1_2) else((iG.f t198 t199).bind fun t200=>(fD.j0 k t198 t199 (!t200) a0_0 a0_1 a0_2 a1_0 a1_1 a1_2)))))))))
def fD.T11:Bool×List (List Nat×List Nat):=(true,[([],[]),([0],[0]),([],[]),([2],[2]),([1,3],[1,3]),([4],[4]),([4],[4]),([5,6,4],[5,6]),([],[]),([8],[8]),([],[]),([],[]),([11],[11]),([10,12,7],[10,12]),([9,13,13],[9,13]),([7,14,14],[7,14]),([15,15,0,1,2,3,4,5,6,7,8,9,10,11,12,13,14,15],[15])])
def fD.B11:List Nat:= [0,1,0,4,15,31,31,127,0,256,0,0,2048,7423,16383,32767,65535]
theorem fD.tab11:rtab .any (opsOf Tryz.f113 11)=fD.T11:=by kernel_rfl
theorem fD.bits11:kX fD.T11.2 fD.B11=true:=by kernel_rfl
theorem fD.calls(k:Nat)(D7:Bool)(y9:ByteArray)(D5:ByteArray)(D8:Bool)(C9:ByteArray)(D6:ByteArray)(r1:Bool)(r2:ByteArray)(r3:ByteArray)(w:World)(hG:GW w)(h:fD.f k D7 y9 D5 D8 C9 D6=some (r1,r2,r3)) :
 Calls Tryz.prog 113 #[.agg #[.bool D7,.string y9,.string D5],.agg #[.bool D8,.string C9,.string D6]] w fun e w'=>e= .returned (.agg #[.bool r1,.string r2,.string r3])∧Below w.heap.size w w':=by
 have HG:=aA.mk hG;clear hG;have hu36:=Tryz.underlying36;have HB:=aA.mk (Below.refl w.heap.size w);have H:((dI.f k D7 y9 D5 D8 C9 D6).bind fun I7=>(if I7=true then(some (D7,y9,D5)) else((dI.f k D8 C9 D6 D7 y9 D5).bind fun I8=>(if I8=true then(some (D8,C9,D6)) else((fU.f y9 C9).bind fun F7=>((jQ.f D6 D5).bind fun F8=>(if y9.toList=([48]:List UInt8) then(fD.j0 k F7 F8 true D7 y9 D5 D8 C9 D6) else(if C9.toList=([48]:List UInt8) then(fD.j0 k F7 F8 true D7 y9 D5 D8 C9 D6) else((iG.f F7 F8).bind fun H8=>(fD.j0 k F7 F8 (!H8) D7 y9 D5 D8 C9 D6))))))))))=some (r1,r2,r3):=h;clear h;obtain⟨I7,A3,H⟩:=bi H;try dsimp only at H
 by_cases c4:I7=true
 ·subst c4
  rw[if_pos rfl] at H;simp only[Option.some.injEq,Prod.mk.injEq] at H;obtain⟨rfl,rfl,rfl⟩:=H;go_enter Tryz.func113,Tryz.ntmps113
  go_wp2_with(first|((with_reducible refine aG (N:=2) rfl ?_);refine bx_ 2 36 #[.bool D7,.string y9,.string D5] (h:= ?_);intro F9 hg w5 o8 hb;have l9:=aA.mk (o8);have G7:=pkG HB hg;have J4:=G7;replace HB:=pkB HB hb;clear hb o8 hg)|((with_reducible refine aG (N:=3) rfl ?_);refine bx_ 3 36 #[.bool D8,.string C9,.string D6] (h:= ?_);intro G5 hg w6 o8 hb;have o5:=aA.mk (o8);have G8:=pkG HB hg;have J5:=G8;obtain⟨F5,F6,_,_⟩:=pkQ l9 hg;replace l9:=pkK l9 hb;replace HB:=pkB HB hb;clear hb o8 hg)|((with_reducible refine aG (N:=4) rfl ?_);refine bx_ 4 36 #[.bool false,.string (⟨#[]⟩:ByteArray),.string (⟨#[]⟩:ByteArray)] (h:= ?_);intro o7 hg w7 o8 hb;have o6:=aA.mk (o8);have G9:=pkG HB hg;have J6:=G9;obtain⟨o9,D9,_,_⟩:=pkQ l9 hg;obtain⟨y8,E8,_,_⟩:=pkQ o5 hg;replace l9:=pkK l9 hb;replace o5:=pkK o5 hb;replace HB:=pkB HB hb;clear hb o8 hg;have ik:=F5.out;have iq:=F6.out;have iw:=o9.out;have ja:=D9.out;obtain⟨⟨jb,jc,jd⟩,je,jf,jg⟩:=pk3 l9;have jh:=y8.out;have ji:=E8.out;obtain⟨⟨jk,jl,jm⟩,jo,jq,jr⟩:=pk3 o5)|((with_reducible refine aC (f:=107) rfl ?_);refine gM 14 Tryz.func107 (dI.calls (hG:=HG.out.below (pkL HB)) (h:=A3.out)) (h:= ?_);intro jw hb;replace l9:=pkK l9 hb;replace o5:=pkK o5 hb;replace o6:=pkK o6 hb;replace HB:=pkB HB hb;try clear hb;obtain⟨⟨jy,ku,kw⟩,kz,lg,lh⟩:=pk3 l9;obtain⟨⟨lq,lu,lw⟩,mf,mg,mi⟩:=pk3 o6))
  refine bodyPost_ret (results_cell_row rfl _ _ o7 36 #[.bool D7,.string y9,.string D5] (0,0) _ rfl (pkS3 o6) Tryz.underlying36 rfl (by kernel_rfl)) rfl ?_;exact pkE HB
 ·replace c4:=Bool.eq_false_iff.mpr c4
  subst c4;rw[if_neg (show ¬(false=true) by decide)] at H;obtain⟨I8,J7,H⟩:=bi H;try dsimp only at H
  by_cases H9:I8=true
  ·subst H9
   rw[if_pos rfl] at H;simp only[Option.some.injEq,Prod.mk.injEq] at H;obtain⟨rfl,rfl,rfl⟩:=H;go_enter Tryz.func113,Tryz.ntmps113
   go_wp2_with(first|((with_reducible refine aG (N:=2) rfl ?_);refine bx_ 2 36 #[.bool D7,.string y9,.string D5] (h:= ?_);intro F9 hg mr o8 hb;have l9:=aA.mk (o8);have G7:=pkG HB hg;have J4:=G7;replace HB:=pkB HB hb;clear hb o8 hg)|((with_reducible refine aG (N:=3) rfl ?_);refine bx_ 3 36 #[.bool D8,.string C9,.string D6] (h:= ?_);intro G5 hg ng o8 hb;have o5:=aA.mk (o8);have G8:=pkG HB hg;have J5:=G8;obtain⟨F5,F6,_,_⟩:=pkQ l9 hg;replace l9:=pkK l9 hb;replace HB:=pkB HB hb;clear hb o8 hg)|((with_reducible refine aG (N:=4) rfl ?_);refine bx_ 4 36 #[.bool false,.string (⟨#[]⟩:ByteArray),.string (⟨#[]⟩:ByteArray)] (h:= ?_);intro o7 hg ni o8 hb;have o6:=aA.mk (o8);have G9:=pkG HB hg;have J6:=G9;obtain⟨o9,D9,_,_⟩:=pkQ l9 hg;obtain⟨y8,E8,_,_⟩:=pkQ o5 hg;replace l9:=pkK l9 hb;replace o5:=pkK o5 hb;replace HB:=pkB HB hb;clear hb o8 hg;have nz:=F5.out;have oh:=F6.out;have oq:=o9.out;have ou:=D9.out;obtain⟨⟨oz,pg,pq⟩,pz,qc,qf⟩:=pk3 l9;have qg:=y8.out;have qh:=E8.out;obtain⟨⟨qi,qj,ql⟩,qm,qo,qp⟩:=pk3 o5)|((with_reducible refine aC (f:=107) rfl ?_);refine gM 14 Tryz.func107 (dI.calls (hG:=HG.out.below (pkL HB)) (h:=A3.out)) (h:= ?_);intro qw hb;replace l9:=pkK l9 hb;replace o5:=pkK o5 hb;replace o6:=pkK o6 hb;replace HB:=pkB HB hb;try clear hb;obtain⟨⟨qx,qy,rf⟩,rq,ru,ry⟩:=pk3 o5;obtain⟨⟨su,tq,tu⟩,uf,ug,uh⟩:=pk3 l9)|((with_reducible refine aC (f:=107) rfl ?_);refine gM 18 Tryz.func107 (dI.calls (hG:=HG.out.below (pkL HB)) (h:=J7.out)) (h:= ?_);intro ui hb;replace l9:=pkK l9 hb;replace o5:=pkK o5 hb;replace o6:=pkK o6 hb;replace HB:=pkB HB hb;try clear hb;obtain⟨⟨uj,uk,ul⟩,um,uo,uq⟩:=pk3 o5;obtain⟨⟨ut,uu,uw⟩,uy,uz,ve⟩:=pk3 o6))
   refine bodyPost_ret (results_cell_row rfl _ _ o7 36 #[.bool D8,.string C9,.string D6] (0,0) _ rfl (pkS3 o6) Tryz.underlying36 rfl (by kernel_rfl)) rfl ?_;exact pkE HB
  ·replace H9:=Bool.eq_false_iff.mpr H9
   subst H9;rw[if_neg (show ¬(false=true) by decide)] at H;obtain⟨F7,L9,H⟩:=bi H;try dsimp only at H
   obtain⟨F8,N7,H⟩:=bi H;try dsimp only at H
   have I9:=aA.mk H;clear H;go_enter Tryz.func113,Tryz.ntmps113
   go_upto_region 7 with (first|((with_reducible refine aG (N:=2) rfl ?_);refine bx_ 2 36 #[.bool D7,.string y9,.string D5] (h:= ?_);intro F9 hg vg o8 hb;have l9:=aA.mk (o8);have G7:=pkG HB hg;have J4:=G7;replace HB:=pkB HB hb;clear hb o8 hg)|((with_reducible refine aG (N:=3) rfl ?_);refine bx_ 3 36 #[.bool D8,.string C9,.string D6] (h:= ?_);intro G5 hg vk o8 hb;have o5:=aA.mk (o8);have G8:=pkG HB hg;have J5:=G8;obtain⟨F5,F6,_,_⟩:=pkQ l9 hg;replace l9:=pkK l9 hb;replace HB:=pkB HB hb;clear hb o8 hg)|((with_reducible refine aG (N:=4) rfl ?_);refine bx_ 4 36 #[.bool false,.string (⟨#[]⟩:ByteArray),.string (⟨#[]⟩:ByteArray)] (h:= ?_);intro o7 hg vw o8 hb;have o6:=aA.mk (o8);have G9:=pkG HB hg;have J6:=G9;obtain⟨o9,D9,_,_⟩:=pkQ l9 hg;obtain⟨y8,E8,_,_⟩:=pkQ o5 hg;replace l9:=pkK l9 hb;replace o5:=pkK o5 hb;replace HB:=pkB HB hb;clear hb o8 hg;have vz:=F5.out;have wo:=F6.out;have wu:=o9.out;have ww:=D9.out;obtain⟨⟨N8,N9,O0⟩,O1,O3,O4⟩:=pk3 l9;have xe:=y8.out;have xg:=E8.out;obtain⟨⟨O5,O6,O7⟩,O8,O9,P7⟩:=pk3 o5)|((with_reducible refine aC (f:=107) rfl ?_);refine gM 14 Tryz.func107 (dI.calls (hG:=HG.out.below (pkL HB)) (h:=A3.out)) (h:= ?_);intro xh hb;replace l9:=pkK l9 hb;replace o5:=pkK o5 hb;replace o6:=pkK o6 hb;replace HB:=pkB HB hb;try clear hb;obtain⟨⟨P8,P9,Q3⟩,Q4,Q5,Q7⟩:=pk3 o5;obtain⟨⟨Q8,Q9,S9⟩,U3,U4,U5⟩:=pk3 l9)|((with_reducible refine aC (f:=107) rfl ?_);refine gM 18 Tryz.func107 (dI.calls (hG:=HG.out.below (pkL HB)) (h:=J7.out)) (h:= ?_);intro xk hb;replace l9:=pkK l9 hb;replace o5:=pkK o5 hb;replace o6:=pkK o6 hb;replace HB:=pkB HB hb;try clear hb;obtain⟨⟨U6,U7,U8⟩,U9,V3,V4⟩:=pk3 l9;obtain⟨⟨V5,V6,V7⟩,V8,V9,X4⟩:=pk3 o5)|((with_reducible refine aC (f:=110) rfl ?_);refine gM 24 Tryz.func110 (fU.calls (hG:=HG.out.below (pkL HB)) (h:=L9.out)) (h:= ?_);intro xm hb;replace l9:=pkK l9 hb;replace o5:=pkK o5 hb;replace o6:=pkK o6 hb;replace HB:=pkB HB hb;try clear hb;obtain⟨⟨X5,X7,X8⟩,X9,Y0,Y4⟩:=pk3 o5;obtain⟨⟨Y5,Y7,Y8⟩,Y9,Z7,Z8⟩:=pk3 l9)|((with_reducible refine aC (f:=111) rfl ?_);refine gM 29 Tryz.func111 (jQ.calls (hG:=HG.out.below (pkL HB)) (h:=N7.out)) (h:= ?_);intro xn hb;replace l9:=pkK l9 hb;replace o5:=pkK o5 hb;replace o6:=pkK o6 hb;replace HB:=pkB HB hb;try clear hb))
   (try simp only[Act.put,List.setIfInBounds_toArray,List.set_cons_zero,List.set_cons_succ])
   go_cut [43] (fun v43 wc=>∃(kq:Nat) (I4:Bool),v43= .bool I4∧aA (fD.j0 kq F7 F8 I4 D7 y9 D5 D8 C9 D6=some (r1,r2,r3))∧aA (kq≤k)∧aA (wc.heap[F9]? =some (.cells #[.bool D7,.string y9,.string D5] 36 (0,0)))∧aA (wc.heap[G5]? =some (.cells #[.bool D8,.string C9,.string D6] 36 (0,0)))∧aA (wc.heap[o7]? =some (.cells #[.bool false,.string (⟨#[]⟩:ByteArray),.string (⟨#[]⟩:ByteArray)] 36 (0,0)))∧aA (Below w.heap.size w wc))
   case first=>
    have H:=I9.out;clear I9
    by_cases H5:y9.toList=([48]:List UInt8)
    ·rw[if_pos H5] at H
     obtain⟨H6,Z9⟩:=bT H5;clear H5
     (first|rw[H6]|(simp only[jM,jX];rw[H6])|skip)
     have H':=aA.mk H;clear H;have xq:=F5.out;have xu:=F6.out;have xw:=o9.out;have xx:=D9.out;obtain⟨⟨xy,yf,yg⟩,yh,yj,yl⟩:=pk3 l9;go_wp2
     go_meet
     case rel=>exact⟨_,(true),aG1,H',le_,⟨pkW l9⟩,⟨pkW o5⟩,⟨pkW o6⟩,⟨pkL HB⟩⟩
    ·rw[if_neg H5] at H
     obtain⟨H6,Z9⟩:=bF H5
     (first|rw[H6]|(simp only[jM,jX];rw[H6])|skip)
     by_cases H7:C9.toList=([48]:List UInt8)
     ·rw[if_pos H7] at H
      obtain⟨ae,af⟩:=bT H7;clear H7;have H':=aA.mk H;clear H;have yt:=F5.out;have yu:=F6.out;have yw:=o9.out;have yx:=D9.out;obtain⟨⟨yz,zf,zg⟩,zh,zi,zk⟩:=pk3 l9;have zl:=y8.out;have zn:=E8.out;obtain⟨⟨zo,zq,zt⟩,zu,zx,zy⟩:=pk3 o5;go_wp2
      go_meet
      case rel=>exact⟨_,(true),aG1,H',le_,⟨pkW l9⟩,⟨pkW o5⟩,⟨pkW o6⟩,⟨pkL HB⟩⟩
     ·rw[if_neg H7] at H
      obtain⟨ae,af⟩:=bF H7;obtain⟨H8,ag,H⟩:=bi H;try dsimp only at H
      have H':=aA.mk H;clear H;have Aa:=F5.out;have Ac:=F6.out;have Ad:=o9.out;have Ae:=D9.out;obtain⟨⟨Af,Ag,Ah⟩,Ai,Aj,Ak⟩:=pk3 l9;have Am:=y8.out;have Aq:=E8.out;obtain⟨⟨Aw,Az,Ba⟩,Bc,Be,Bf⟩:=pk3 o5
      go_wp2_with(first|(go_at_call 177;(with_reducible refine(iG.calls (hG:=HG.out.below (pkL HB)) F7 F8 H8 _ ag.out).mono ?_);rintro e Bg ⟨rfl,hb⟩;replace l9:=pkK l9 hb;replace o5:=pkK o5 hb;replace o6:=pkK o6 hb;replace HB:=pkB HB hb;try clear hb))
      go_meet
      case rel=>exact⟨_,(!H8),aG1,H',le_,⟨pkW l9⟩,⟨pkW o5⟩,⟨pkW o6⟩,⟨pkL HB⟩⟩
   case rest=>
    clear I9 N8 N9 O0 O5 O6 O7 P8 P9 Q3 Q8 Q9 S9 U6 U7 U8 V5 V6 V7 X5 X7 X8 Y5 Y7 Y8 O1 O3 O4 O8 O9 P7 Q4 Q5 Q7 U3 U4 U5 U9 V3 V4 V8 V9 X4 X9 Y0 Y4 Y9 Z7 Z8;obtain⟨kq,I4,rfl,HA,Bh,l9,o5,o6,HB⟩:=hcut
    cases kq with
    |zero=>exact absurd HA.out (by simp[fD.j0])
    |succ kj33=>
     have H:=HA.out;clear HA;simp only[fD.j0] at H
     by_cases I5:I4=true
     ·subst I5
      rw[if_pos rfl] at H;obtain⟨⟨ah,ai,aj⟩,ak,H⟩:=bi H;try dsimp only at H
      simp only[Option.some.injEq,Prod.mk.injEq] at H;obtain⟨rfl,rfl,rfl⟩:=H
      go_wp2_with(first|((with_reducible refine aC (f:=176) rfl ?_);refine gM 44 Tryz.func176 (kZ.calls (w:=_) (h:=ak.out)) (h:= ?_);intro Bi hb;replace l9:=pkK l9 hb;replace o5:=pkK o5 hb;replace o6:=pkK o6 hb;replace HB:=pkB HB hb;try clear hb;have Bj:=D9.out;have Bl:=o9.out;have Bo:=E8.out;have Bq:=y8.out;obtain⟨⟨Bv,Bz,Cb⟩,Cc,Ce,Cf⟩:=pk3 o6))
      refine bodyPost_ret (results_cell_row rfl _ _ o7 36 #[.bool ah,.string ai,.string aj] (0,0) _ rfl (pkS3 o6) Tryz.underlying36 rfl (by kernel_rfl)) rfl ?_;exact pkE HB
     ·replace I5:=Bool.eq_false_iff.mpr I5
      subst I5;rw[if_neg (show ¬(false=true) by decide)] at H;obtain⟨⟨Ci,Cj,Cm,Dc⟩,au,H⟩:=bi H;try dsimp only at H
      obtain⟨⟨J8,J9⟩,ax,H⟩:=bi H;try dsimp only at H
      obtain⟨ay,az,H⟩:=bi H;try dsimp only at H
      obtain⟨Df,bn,H⟩:=bi H;try dsimp only at H
      obtain⟨⟨L6,L8⟩,df,H⟩:=bi H;try dsimp only at H
      obtain⟨dh,di,H⟩:=bi H;try dsimp only at H
      obtain⟨Dh,dw,H⟩:=bi H;try dsimp only at H
      obtain⟨Di,eu,H⟩:=bi H;try dsimp only at H
      obtain⟨⟨gm,gp,gq⟩,gz,H⟩:=bi H;try dsimp only at H
      simp only[Option.some.injEq,Prod.mk.injEq] at H;obtain⟨rfl,rfl,rfl⟩:=H;have Dj:=F5.out;have Dk:=F6.out;have Dl:=o9.out;have Dn:=D9.out;obtain⟨⟨Dp,Dq,Dt⟩,Du,Dv,Dw⟩:=pk3 l9;have Dx:=y8.out;have Dy:=E8.out;obtain⟨⟨Dz,Ea,Eb⟩,Ec,Ed,Ee⟩:=pk3 o5
      try go_wp2_with(first|((with_reducible refine aC (f:=32) rfl ?_);refine gM 50 Tryz.func32 (qX.calls (hG:=HG.out.below (pkL HB)) (h:=au.out)) (h:= ?_);intro Ef hb;replace l9:=pkK l9 hb;replace o5:=pkK o5 hb;replace o6:=pkK o6 hb;replace HB:=pkB HB hb;try clear hb)|((with_reducible refine aC (f:=18) rfl ?_);refine gM 58 Tryz.func18 (nO.calls (hG:=HG.out.below (pkL HB)) (h:=ax.out)) (h:= ?_);intro G6 hb;replace l9:=pkK l9 hb;replace o5:=pkK o5 hb;replace o6:=pkK o6 hb;replace HB:=pkB HB hb;try clear hb)|((with_reducible refine aC (f:=128) rfl ?_);refine gl_ 61 Tryz.func128 #[.string J8,.int .i64 J9] (h:= ?_);(with_reducible refine(iK.calls J8 J9 ay _ az.out).mono ?_);rintro e w' ⟨rfl,⟨nd,rfl⟩⟩;refine⟨_,rfl,?_⟩;(try(rw[jS G6];generalize hq_:World.drewN G6 _=G6;have n0_:aA (G6.heap[F9]? =some (.cells #[.bool D7,.string y9,.string D5] 36 (0,0))):=⟨by rw[←hq_];exact(pkW l9)⟩;have n1_:aA (G6.heap[G5]? =some (.cells #[.bool D8,.string C9,.string D6] 36 (0,0))):=⟨by rw[←hq_];exact(pkW o5)⟩;have n2_:aA (G6.heap[o7]? =some (.cells #[.bool false,.string (⟨#[]⟩:ByteArray),.string (⟨#[]⟩:ByteArray)] 36 (0,0))):=⟨by rw[←hq_];exact(pkW o6)⟩;have n3_:aA (Below w.heap.size w G6):=⟨by rw[←hq_];exact(pkL HB)⟩;clear l9 o5 o6 HB hq_;have l9:=n0_;have o5:=n1_;have o6:=n2_;have HB:=n3_;clear n0_ n1_ n2_ n3_)))|((with_reducible refine aC (f:=124) rfl ?_);refine gM 62 Tryz.func124 (jG.calls (hG:=HG.out.below (pkL HB)) (h:=bn.out)) (h:= ?_);intro ig hb;replace l9:=pkK l9 hb;replace o5:=pkK o5 hb;replace o6:=pkK o6 hb;replace HB:=pkB HB hb;try clear hb))
      replace l9:=aA.mk (aK l9.out);replace o5:=aA.mk (aK o5.out);replace o6:=aA.mk (aK o6.out);replace HB:=aA.mk (aJ HB.out)
      refine kF (n:=17) (S:=fun w'=>w'.cell? ⟨F9,0,none⟩=some (.bool D7)∧w'.cell? ⟨F9,1,none⟩=some (.string y9)∧w'.cell? ⟨F9,2,none⟩=some (.string D5)∧w'.cell? ⟨G5,0,none⟩=some (.bool D8)∧w'.cell? ⟨G5,1,none⟩=some (.string C9)∧w'.cell? ⟨G5,2,none⟩=some (.string D6)) (ds:= []) #[false,false,false,false,false,false,false,false,false,false,false,false,false,false,false,false,false] (by kernel_rfl) rfl rfl (pc3 l9 (pcL o5)) (fun hHeld=> ?_);refine jZ fD.tab11 fD.bits11 (fun HT_ HW_=> ?_)
      generalize ig.drew=Eg at l9 o5 o6 HB hHeld ⊢;refine pr_ 0 63 (h:= ?_);refine pr_ 2 65 (h:= ?_);refine pr_ 8 71 (h:= ?_);refine pr_ 10 73 (h:= ?_);refine pr_ 11 74 (h:= ?_);refine tk_ 1 64 hHeld (hy:=hy6) (h:= ?_);refine tk_ 3 66 hHeld (hy:=hy6) (h:= ?_);refine tk_ 9 72 hHeld (hy:=hy6) (h:= ?_);refine tk_ 12 75 hHeld (hy:=hy6) (h:= ?_);refine on_ 4 67 (h:=fun K hK=> ?_);refine gR Tryz.func30 (wH.calls (hG:=HG.out.below (pkL HB)) (h:=df.out)) (h:= ?_);intro Eh hb;replace l9:=pkK l9 hb;replace o5:=pkK o5 hb;replace o6:=pkK o6 hb;replace HB:=pkB HB hb
      clear hb;refine hK.out _ _ (pc3 l9 (pcL o5)) (fun hHeld=> ?_);clear hK K;refine nm_ (h:= ?_);refine pr_ 5 68 (h:= ?_);refine pr_ 6 69 (h:= ?_);refine on_ 7 70 (h:=fun K hK=> ?_);refine g1_ Tryz.func128 #[.string L6,.int .i64 L8] (h:= ?_);with_reducible refine(iK.calls L6 L8 dh _ di.out).mono ?_
      rintro e w' ⟨rfl,⟨nd,rfl⟩⟩;refine⟨_,rfl,?_⟩;refine hK.out _ _ (pc3 l9 (pcL o5)) (fun hHeld=> ?_);clear hK K;refine nm_ (h:= ?_);refine on_ 13 76 (h:=fun K hK=> ?_);refine gR Tryz.func124 (jG.calls (hG:=HG.out.below (pkL HB)) (h:=dw.out)) (h:= ?_);intro Ei hb;replace l9:=pkK l9 hb;replace o5:=pkK o5 hb;replace o6:=pkK o6 hb;replace HB:=pkB HB hb
      clear hb;refine hK.out _ _ (pc3 l9 (pcL o5)) (fun hHeld=> ?_);clear hK K;refine nm_ (h:= ?_);refine on_ 14 77 (h:=fun K hK=> ?_);refine gR Tryz.func119 (nR.calls (hG:=HG.out.below (pkL HB)) (h:=eu.out)) (h:= ?_);intro Ej hb;replace l9:=pkK l9 hb;replace o5:=pkK o5 hb;replace o6:=pkK o6 hb;replace HB:=pkB HB hb
      clear hb;refine hK.out _ _ (pc3 l9 (pcL o5)) (fun hHeld=> ?_);clear hK K;refine nm_ (h:= ?_);refine on_ 15 78 (h:=fun K hK=> ?_);refine gR Tryz.func109 (dS.calls (hG:=HG.out.below (pkL HB)) (h:=gz.out)) (h:= ?_);intro J3 hb;replace l9:=pkK l9 hb;replace o5:=pkK o5 hb;replace o6:=pkK o6 hb;replace HB:=pkB HB hb
      clear hb;refine hK.out _ _ (pc3 l9 (pcL o5)) (fun hHeld=> ?_);clear hK K;refine nm_ (h:= ?_);refine one_ (i:=16) (N:=none) #[true,true,true,true,true,true,true,true,true,true,true,true,true,true,true,true,true] rfl rfl (tH HT_.out (by kernel_rfl)) aG0 (fun K hK=> ?_);have Em:J3.cell? ⟨o7,0,none⟩=some (.bool false):=(fF o6.out 0).trans rfl;have En:=eG o6.out 0;have Eo:=o9.out;have Ep:=y8.out;have Es:=D9.out;have Et:=E8.out;have Eu:J3.cell? ⟨o7,1,none⟩=some (.string (⟨#[]⟩:ByteArray)):=(fF o6.out 1).trans rfl;have Ew:=eG o6.out 1;have Ey:=o9.out;have Ez:=y8.out;have Fa:=D9.out;have Fb:=E8.out;have Fe:J3.cell? ⟨o7,2,none⟩=some (.string (⟨#[]⟩:ByteArray)):=(fF o6.out 2).trans rfl;have Ff:=eG o6.out 2;have Fg:=o9.out;have Fh:=y8.out;have Fj:=D9.out;have Fp:=E8.out;refine uQ (w1:= ?_) (by rfl) rfl ?_ ?_
      rotate_left
      ·go_simp
       rfl
      refine hK.out _ _ ⟨((aG2 (p:=⟨o7,_,none⟩) o9.out _).trans (((aG2 (p:=⟨o7,_,none⟩) o9.out _).trans (((aG2 (p:=⟨o7,_,none⟩) o9.out _).trans (hHeld.1)))))),((aG2 (p:=⟨o7,_,none⟩) o9.out _).trans (((aG2 (p:=⟨o7,_,none⟩) o9.out _).trans (((aG2 (p:=⟨o7,_,none⟩) o9.out _).trans (hHeld.2.1)))))),((aG2 (p:=⟨o7,_,none⟩) o9.out _).trans (((aG2 (p:=⟨o7,_,none⟩) o9.out _).trans (((aG2 (p:=⟨o7,_,none⟩) o9.out _).trans (hHeld.2.2.1)))))),((aG2 (p:=⟨o7,_,none⟩) y8.out _).trans (((aG2 (p:=⟨o7,_,none⟩) y8.out _).trans (((aG2 (p:=⟨o7,_,none⟩) y8.out _).trans (hHeld.2.2.2.1)))))),((aG2 (p:=⟨o7,_,none⟩) y8.out _).trans (((aG2 (p:=⟨o7,_,none⟩) y8.out _).trans (((aG2 (p:=⟨o7,_,none⟩) y8.out _).trans (hHeld.2.2.2.2.1)))))),((aG2 (p:=⟨o7,_,none⟩) y8.out _).trans (((aG2 (p:=⟨o7,_,none⟩) y8.out _).trans (((aG2 (p:=⟨o7,_,none⟩) y8.out _).trans (hHeld.2.2.2.2.2))))))⟩ (fun hHeld=> ?_);clear hK K;refine kY (lK HT_.out (by kernel_rfl)) ?_
      try go_wp2
      refine bodyPost_ret (results_cell_row rfl _ _ o7 36 #[.bool gm,.string gp,.string gq] (0,0) _ rfl (pkS3 o6) Tryz.underlying36 rfl (by kernel_rfl)) rfl ?_;exact pkE HB
def fG.f(a0:ByteArray):Option (Bool×ByteArray×ByteArray):=some (false,(⟨#[48]⟩:ByteArray),a0)
theorem fG.calls(a0:ByteArray)(r1:Bool)(r2:ByteArray)(r3:ByteArray)(w:World)(h:fG.f a0=some (r1,r2,r3)) :
 Calls Tryz.prog 116 #[.string a0] w fun e w'=>e= .returned (.agg #[.bool r1,.string r2,.string r3])∧Below w.heap.size w w':=by
 have hu36:=Tryz.underlying36;have HB:=aA.mk (Below.refl w.heap.size w);have H:(some (false,(⟨#[48]⟩:ByteArray),a0))=some (r1,r2,r3):=h;clear h;simp only[Option.some.injEq,Prod.mk.injEq] at H;obtain⟨rfl,rfl,rfl⟩:=H;go_enter Tryz.func116,Tryz.ntmps116
 go_wp2_with(first|((with_reducible refine aG (N:=2) rfl ?_);refine bx_ 2 36 #[.bool false,.string (⟨#[]⟩:ByteArray),.string (⟨#[]⟩:ByteArray)] (h:= ?_);intro o6 hg w2 l9 hb;have o5:=aA.mk (l9);have o7:=pkG HB hg;have o8:=o7;replace HB:=pkB HB hb;clear hb l9 hg;obtain⟨⟨o9,y8,y9⟩,C9,D5,D6⟩:=pk3 o5))
 refine bodyPost_ret (results_cell_row rfl _ _ o6 36 #[.bool false,.string (⟨#[48]⟩:ByteArray),.string a0] (0,0) _ rfl (pkS3 o5) Tryz.underlying36 rfl (by kernel_rfl)) rfl ?_;exact pkE HB
end Go.Proofs.YtignanmmgaldeaaGreatDoor.PCongI
end
section
set_option linter.unusedVariables false
set_option linter.unusedSimpArgs false
set_option maxHeartbeats 8000000
set_option maxRecDepth 100000
namespace Go.Proofs.YtignanmmgaldeaaGreatDoor.PCongI
open Go.RowKit Go.Proofs.YtignanmmgaldeaaGreatDoorW.PrintWords Go.Proofs.YtignanmmgaldeaaGreatDoorW.PrintLast Go.Proofs.YtignanmmgaldeaaGreatDoorW.PrintMore
attribute [local go_sem] dQ dR eH eP
attribute [local go_sem high] yJ
def jV.f(k:Nat)(a0_0:Bool)(a0_1:ByteArray)(a0_2:ByteArray)(a1_0:Bool)(a1_1:ByteArray)(a1_2:ByteArray):Option (Bool×ByteArray×ByteArray):=(fG.f (⟨#[48]⟩:ByteArray)).bind fun bt224=>(if(a1_0==bt224.1&&(a1_1.toList==bt224.2.1.toList&&(a1_2.toList==bt224.2.2.toList)))=true then((kZ.f).bind fun bt227=>(some (bt227.1,bt227.2.1,bt227.2.2))) else(if a1_1.toList=([48]:List UInt8) then((iG.f a1_2 a0_1).bind fun t230=>(if t230=true then((nO.f a0_1 a1_2).bind fun bt231=>((iK.f bt231.1 bt231.2).bind fun t233=>((nO.f a0_2 a1_2).bind fun bt234=>((iK.f bt234.1 bt234.2).bind fun t236=>((dS.f k t233 t236).bind fun bt237=>(some (bt237.1,bt237.2.1,bt237.2.2))))))) else((jC.f).bind fun bt240=>(some (bt240.1,bt240.2.1,bt240.2.2))))) else((fG.f (⟨#[48]⟩:ByteArray)).bind fun bt243=>(if(a0_0==bt243.1&&(a0_1.toList==bt243.2.1.toList&&(a0_2.toList==bt243.2.2.toList)))=true then(some (a0_0,a0_1,a0_2)) else((jC.f).bind fun bt246=>(some (bt246.1,bt246.2.1,bt246.2.2)))))))
def jV.T8:Bool×List (List Nat×List Nat):=(true,[([],[]),([0],[0]),([],[]),([2],[2]),([1,3],[1,3]),([4],[4]),([4],[4]),([5,6,4],[5,6]),([],[]),([8],[8]),([],[]),([10],[10]),([9,11,7],[9,11]),([12],[12]),([12],[12]),([13,14,12],[13,14]),([7,15,15],[7,15]),([16,16,0,1,2,3,4,5,6,7,8,9,10,11,12,13,14,15,16],[16])])
def jV.B8:List Nat:= [0,1,0,4,15,31,31,127,0,256,0,1024,4095,8191,8191,32767,65535,131071]
theorem jV.tab8:rtab .any (opsOf Tryz.f100 8)=jV.T8:=by kernel_rfl
theorem jV.bits8:kX jV.T8.2 jV.B8=true:=by kernel_rfl
theorem jV.calls(k:Nat)(D7:Bool)(y9:ByteArray)(C9:ByteArray)(D5:Bool)(y8:ByteArray)(o9:ByteArray)(r1:Bool)(r2:ByteArray)(r3:ByteArray)(w:World)(hG:GW w)(h:jV.f k D7 y9 C9 D5 y8 o9=some (r1,r2,r3)) :
 Calls Tryz.prog 100 #[.agg #[.bool D7,.string y9,.string C9],.agg #[.bool D5,.string y8,.string o9]] w fun e w'=>e= .returned (.agg #[.bool r1,.string r2,.string r3])∧Below w.heap.size w w':=by
 have HG:=aA.mk hG;clear hG;have hu36:=Tryz.underlying36;have HB:=aA.mk (Below.refl w.heap.size w);have H:((fG.f (⟨#[48]⟩:ByteArray)).bind fun I9=>(if(D5==I9.1&&(y8.toList==I9.2.1.toList&&(o9.toList==I9.2.2.toList)))=true then((kZ.f).bind fun J3=>(some (J3.1,J3.2.1,J3.2.2))) else(if y8.toList=([48]:List UInt8) then((iG.f o9 y9).bind fun J4=>(if J4=true then((nO.f y9 o9).bind fun L9=>((iK.f L9.1 L9.2).bind fun J5=>((nO.f C9 o9).bind fun N7=>((iK.f N7.1 N7.2).bind fun J6=>((dS.f k J5 J6).bind fun J7=>(some (J7.1,J7.2.1,J7.2.2))))))) else((jC.f).bind fun J8=>(some (J8.1,J8.2.1,J8.2.2))))) else((fG.f (⟨#[48]⟩:ByteArray)).bind fun J9=>(if(D7==J9.1&&(y9.toList==J9.2.1.toList&&(C9.toList==J9.2.2.toList)))=true then(some (D7,y9,C9)) else((jC.f).bind fun L6=>(some (L6.1,L6.2.1,L6.2.2))))))))=some (r1,r2,r3):=h;clear h;obtain⟨⟨G6,G7,G8⟩,A3,H⟩:=bi H;try dsimp only at H
 by_cases c4:(D5==G6&&(y8.toList==G7.toList&&(o9.toList==G8.toList)))=true
 ·rw[if_pos c4] at H
  have O5:(D5==G6&&(y8.toList==G7.toList&&(o9.toList==G8.toList)))=true:=c4
  (try(have O6:decide (D5=G6&&(y8.toList==G7.toList&&(o9.toList==G8.toList)))=true:=by simpa using c4))
  (try(have O7:(D5==G6&&(y8.toList==G7.toList&&(o9.toList==G8.toList)))=true:=by simpa using c4))
  clear c4;obtain⟨⟨O8,O9,P7⟩,A5,H⟩:=bi H;try dsimp only at H
  simp only[Option.some.injEq,Prod.mk.injEq] at H;obtain⟨rfl,rfl,rfl⟩:=H;go_enter Tryz.func100,Tryz.ntmps100
  try go_wp2_with(first|((with_reducible refine aG (N:=2) rfl ?_);refine bx_ 2 36 #[.bool D7,.string y9,.string C9] (h:= ?_);intro E8 hg w6 o7 hb;have l9:=aA.mk (o7);have F8:=pkG HB hg;have I4:=F8;replace HB:=pkB HB hb;clear hb o7 hg)|((with_reducible refine aG (N:=3) rfl ?_);refine bx_ 3 36 #[.bool D5,.string y8,.string o9] (h:= ?_);intro D6 hg w7 o7 hb;have o5:=aA.mk (o7);have F9:=pkG HB hg;have I5:=F9;obtain⟨G9,H5,_,_⟩:=pkQ l9 hg;replace l9:=pkK l9 hb;replace HB:=pkB HB hb;clear hb o7 hg)|((with_reducible refine aG (N:=4) rfl ?_);refine bx_ 4 36 #[.bool false,.string (⟨#[]⟩:ByteArray),.string (⟨#[]⟩:ByteArray)] (h:= ?_);intro o8 hg w8 o7 hb;have o6:=aA.mk (o7);have G5:=pkG HB hg;have I7:=G5;obtain⟨D8,F5,_,_⟩:=pkQ l9 hg;obtain⟨D9,F6,_,_⟩:=pkQ o5 hg;replace l9:=pkK l9 hb;replace o5:=pkK o5 hb;replace HB:=pkB HB hb;clear hb o7 hg))
  replace l9:=aA.mk (aK l9.out);replace o5:=aA.mk (aK o5.out);replace o6:=aA.mk (aK o6.out);replace HB:=aA.mk (aJ HB.out)
  refine kF (n:=4) (S:=fun w'=>w'.cell? ⟨D6,0,none⟩=some (.bool D5)∧w'.cell? ⟨D6,1,none⟩=some (.string y8)∧w'.cell? ⟨D6,2,none⟩=some (.string o9)) (ds:= []) #[false,false,false,false] (by kernel_rfl) rfl rfl (pcL o5) (fun hHeld=> ?_);generalize w8.drew=w9 at l9 o5 o6 HB hHeld ⊢;refine tk_ 0 6 hHeld (hy:=hy3) (h:= ?_);refine on_ 1 7 (h:=fun K hK=> ?_);refine gR Tryz.func116 (fG.calls (w:=_) (h:=A3.out)) (h:= ?_);intro Y0 hb;replace l9:=pkK l9 hb;replace o5:=pkK o5 hb;replace o6:=pkK o6 hb;replace HB:=pkB HB hb
  clear hb;refine hK.out _ _ (pcL o5) (fun hHeld=> ?_);clear hK K;refine nm_ (h:= ?_);refine pr_ 2 8 (h:= ?_);refine pr_ 3 5 (h:= ?_);refine kY (by kernel_rfl) ?_
  try go_wp2_with(first|((with_reducible refine aC (f:=176) rfl ?_);refine gM 9 Tryz.func176 (kZ.calls (w:=_) (h:=A5.out)) (h:= ?_);intro Y4 hb;replace l9:=pkK l9 hb;replace o5:=pkK o5 hb;replace o6:=pkK o6 hb;replace HB:=pkB HB hb;try clear hb;have Y5:=F5.out;have Y7:=D8.out;have Y8:=F6.out;have Y9:=D9.out;obtain⟨⟨Z7,Z8,Z9⟩,ae,af,ag⟩:=pk3 o6))
  refine bodyPost_ret (results_cell_row rfl _ _ o8 36 #[.bool O8,.string O9,.string P7] (0,0) _ rfl (pkS3 o6) Tryz.underlying36 rfl (by kernel_rfl)) rfl ?_;exact pkE HB
 ·rw[if_neg c4] at H
  have O5:(D5==G6&&(y8.toList==G7.toList&&(o9.toList==G8.toList)))=false:=by simpa using c4
  (try(have O6:decide (D5=G6&&(y8.toList==G7.toList&&(o9.toList==G8.toList)))=false:=by simpa using c4))
  (try(have O7:(D5==G6&&(y8.toList==G7.toList&&(o9.toList==G8.toList)))=false:=by simpa using c4))
  (try(have ah:¬(D5=G6&&(y8.toList==G7.toList&&(o9.toList==G8.toList))):=by simpa using c4))
  clear c4
  by_cases H9:y8.toList=([48]:List UInt8)
  ·rw[if_pos H9] at H
   obtain⟨P8,P9⟩:=bT H9;clear H9;obtain⟨J4,N8,H⟩:=bi H;try dsimp only at H
   by_cases I8:J4=true
   ·subst I8
    rw[if_pos rfl] at H;obtain⟨⟨N9,O0⟩,Q3,H⟩:=bi H;try dsimp only at H
    obtain⟨J5,Q4,H⟩:=bi H;try dsimp only at H
    obtain⟨⟨O1,O3⟩,Q5,H⟩:=bi H;try dsimp only at H
    obtain⟨J6,Q7,H⟩:=bi H;try dsimp only at H
    obtain⟨⟨Q8,Q9,S9⟩,U3,H⟩:=bi H;try dsimp only at H
    simp only[Option.some.injEq,Prod.mk.injEq] at H;obtain⟨rfl,rfl,rfl⟩:=H;go_enter Tryz.func100,Tryz.ntmps100
    try go_wp2_with(first|((with_reducible refine aG (N:=2) rfl ?_);refine bx_ 2 36 #[.bool D7,.string y9,.string C9] (h:= ?_);intro E8 hg ai o7 hb;have l9:=aA.mk (o7);have F8:=pkG HB hg;have I4:=F8;replace HB:=pkB HB hb;clear hb o7 hg)|((with_reducible refine aG (N:=3) rfl ?_);refine bx_ 3 36 #[.bool D5,.string y8,.string o9] (h:= ?_);intro D6 hg aj o7 hb;have o5:=aA.mk (o7);have F9:=pkG HB hg;have I5:=F9;obtain⟨G9,H5,_,_⟩:=pkQ l9 hg;replace l9:=pkK l9 hb;replace HB:=pkB HB hb;clear hb o7 hg)|((with_reducible refine aG (N:=4) rfl ?_);refine bx_ 4 36 #[.bool false,.string (⟨#[]⟩:ByteArray),.string (⟨#[]⟩:ByteArray)] (h:= ?_);intro o8 hg U4 o7 hb;have o6:=aA.mk (o7);have G5:=pkG HB hg;have I7:=G5;obtain⟨D8,F5,_,_⟩:=pkQ l9 hg;obtain⟨D9,F6,_,_⟩:=pkQ o5 hg;replace l9:=pkK l9 hb;replace o5:=pkK o5 hb;replace HB:=pkB HB hb;clear hb o7 hg))
    replace l9:=aA.mk (aK l9.out);replace o5:=aA.mk (aK o5.out);replace o6:=aA.mk (aK o6.out);replace HB:=aA.mk (aJ HB.out)
    refine kF (n:=4) (S:=fun w'=>w'.cell? ⟨D6,0,none⟩=some (.bool D5)∧w'.cell? ⟨D6,1,none⟩=some (.string y8)∧w'.cell? ⟨D6,2,none⟩=some (.string o9)) (ds:= []) #[false,false,false,false] (by kernel_rfl) rfl rfl (pcL o5) (fun hHeld=> ?_);generalize U4.drew=ak at l9 o5 o6 HB hHeld ⊢;refine tk_ 0 6 hHeld (hy:=hy3) (h:= ?_);refine on_ 1 7 (h:=fun K hK=> ?_);refine gR Tryz.func116 (fG.calls (w:=_) (h:=A3.out)) (h:= ?_);intro au hb;replace l9:=pkK l9 hb;replace o5:=pkK o5 hb;replace o6:=pkK o6 hb;replace HB:=pkB HB hb
    clear hb;refine hK.out _ _ (pcL o5) (fun hHeld=> ?_);clear hK K;refine nm_ (h:= ?_);refine pr_ 2 8 (h:= ?_);refine pr_ 3 5 (h:= ?_);refine kY (by kernel_rfl) ?_;have ax:=H5.out;have ay:=G9.out;have az:=D9.out;have bn:=F6.out;obtain⟨⟨df,dh,di⟩,dw,eu,gm⟩:=pk3 o5;have gp:=D8.out;have gq:=F5.out;obtain⟨⟨gz,ig,ik⟩,iq,iw,ja⟩:=pk3 l9
    try go_wp2_with(first|((with_reducible refine aC (f:=177) rfl ?_);refine gM 24 Tryz.func177 (iG.calls (hG:=HG.out.below (pkL HB)) (h:=N8.out)) (h:= ?_);intro U5 hb;replace l9:=pkK l9 hb;replace o5:=pkK o5 hb;replace o6:=pkK o6 hb;replace HB:=pkB HB hb;try clear hb))
    replace l9:=aA.mk (aK l9.out);replace o5:=aA.mk (aK o5.out);replace o6:=aA.mk (aK o6.out);replace HB:=aA.mk (aJ HB.out)
    refine kF (n:=18) (S:=fun w'=>w'.cell? ⟨E8,0,none⟩=some (.bool D7)∧w'.cell? ⟨E8,1,none⟩=some (.string y9)∧w'.cell? ⟨E8,2,none⟩=some (.string C9)∧w'.cell? ⟨D6,0,none⟩=some (.bool D5)∧w'.cell? ⟨D6,1,none⟩=some (.string y8)∧w'.cell? ⟨D6,2,none⟩=some (.string o9)) (ds:= []) #[false,false,false,false,false,false,false,false,false,false,false,false,false,false,false,false,false,false] (by kernel_rfl) rfl rfl (pc3 l9 (pcL o5)) (fun hHeld=> ?_);refine jZ jV.tab8 jV.bits8 (fun HT_ HW_=> ?_)
    generalize U5.drew=jb at l9 o5 o6 HB hHeld ⊢;refine pr_ 0 25 (h:= ?_);refine pr_ 2 27 (h:= ?_);refine pr_ 8 33 (h:= ?_);refine pr_ 10 35 (h:= ?_);refine tk_ 1 26 hHeld (hy:=hy6) (h:= ?_);refine tk_ 3 28 hHeld (hy:=hy6) (h:= ?_);refine tk_ 9 34 hHeld (hy:=hy6) (h:= ?_);refine tk_ 11 36 hHeld (hy:=hy6) (h:= ?_);refine on_ 4 29 (h:=fun K hK=> ?_);refine gR Tryz.func18 (nO.calls (hG:=HG.out.below (pkL HB)) (h:=Q3.out)) (h:= ?_);intro jc hb;replace l9:=pkK l9 hb;replace o5:=pkK o5 hb;replace o6:=pkK o6 hb;replace HB:=pkB HB hb
    clear hb;refine hK.out _ _ (pc3 l9 (pcL o5)) (fun hHeld=> ?_);clear hK K;refine nm_ (h:= ?_);refine pr_ 5 30 (h:= ?_);refine pr_ 6 31 (h:= ?_);refine on_ 7 32 (h:=fun K hK=> ?_);refine g1_ Tryz.func128 #[.string N9,.int .i64 O0] (h:= ?_);with_reducible refine(iK.calls N9 O0 J5 _ Q4.out).mono ?_
    rintro e w' ⟨rfl,⟨nd,rfl⟩⟩;refine⟨_,rfl,?_⟩;refine hK.out _ _ (pc3 l9 (pcL o5)) (fun hHeld=> ?_);clear hK K;refine nm_ (h:= ?_);refine on_ 12 37 (h:=fun K hK=> ?_);refine gR Tryz.func18 (nO.calls (hG:=HG.out.below (pkL HB)) (h:=Q5.out)) (h:= ?_);intro jd hb;replace l9:=pkK l9 hb;replace o5:=pkK o5 hb;replace o6:=pkK o6 hb;replace HB:=pkB HB hb
    clear hb;refine hK.out _ _ (pc3 l9 (pcL o5)) (fun hHeld=> ?_);clear hK K;refine nm_ (h:= ?_);refine pr_ 13 38 (h:= ?_);refine pr_ 14 39 (h:= ?_);refine on_ 15 40 (h:=fun K hK=> ?_);refine g1_ Tryz.func128 #[.string O1,.int .i64 O3] (h:= ?_);with_reducible refine(iK.calls O1 O3 J6 _ Q7.out).mono ?_
    rintro e w' ⟨rfl,⟨nd,rfl⟩⟩;refine⟨_,rfl,?_⟩;refine hK.out _ _ (pc3 l9 (pcL o5)) (fun hHeld=> ?_);clear hK K;refine nm_ (h:= ?_);refine on_ 16 41 (h:=fun K hK=> ?_);refine gR Tryz.func109 (dS.calls (hG:=HG.out.below (pkL HB)) (h:=U3.out)) (h:= ?_);intro L8 hb;replace l9:=pkK l9 hb;replace o5:=pkK o5 hb;replace o6:=pkK o6 hb;replace HB:=pkB HB hb
    clear hb;refine hK.out _ _ (pc3 l9 (pcL o5)) (fun hHeld=> ?_);clear hK K;refine nm_ (h:= ?_);refine one_ (i:=17) (N:=none) #[true,true,true,true,true,true,true,true,true,true,true,true,true,true,true,true,true,true] rfl rfl (tH HT_.out (by kernel_rfl)) aG0 (fun K hK=> ?_);have je:L8.cell? ⟨o8,0,none⟩=some (.bool false):=(fF o6.out 0).trans rfl;have jf:=eG o6.out 0;have jg:=D8.out;have jh:=D9.out;have ji:=F5.out;have jk:=F6.out;have jl:L8.cell? ⟨o8,1,none⟩=some (.string (⟨#[]⟩:ByteArray)):=(fF o6.out 1).trans rfl;have jm:=eG o6.out 1;have jo:=D8.out;have jq:=D9.out;have jr:=F5.out;have jw:=F6.out;have jy:L8.cell? ⟨o8,2,none⟩=some (.string (⟨#[]⟩:ByteArray)):=(fF o6.out 2).trans rfl;have ku:=eG o6.out 2;have kw:=D8.out;have kz:=D9.out;have lg:=F5.out;have lh:=F6.out;refine uQ (w1:= ?_) (by rfl) rfl ?_ ?_
    rotate_left
    ·go_simp
     rfl
    refine hK.out _ _ ⟨((aG2 (p:=⟨o8,_,none⟩) D8.out _).trans (((aG2 (p:=⟨o8,_,none⟩) D8.out _).trans (((aG2 (p:=⟨o8,_,none⟩) D8.out _).trans (hHeld.1)))))),((aG2 (p:=⟨o8,_,none⟩) D8.out _).trans (((aG2 (p:=⟨o8,_,none⟩) D8.out _).trans (((aG2 (p:=⟨o8,_,none⟩) D8.out _).trans (hHeld.2.1)))))),((aG2 (p:=⟨o8,_,none⟩) D8.out _).trans (((aG2 (p:=⟨o8,_,none⟩) D8.out _).trans (((aG2 (p:=⟨o8,_,none⟩) D8.out _).trans (hHeld.2.2.1)))))),((aG2 (p:=⟨o8,_,none⟩) D9.out _).trans (((aG2 (p:=⟨o8,_,none⟩) D9.out _).trans (((aG2 (p:=⟨o8,_,none⟩) D9.out _).trans (hHeld.2.2.2.1)))))),((aG2 (p:=⟨o8,_,none⟩) D9.out _).trans (((aG2 (p:=⟨o8,_,none⟩) D9.out _).trans (((aG2 (p:=⟨o8,_,none⟩) D9.out _).trans (hHeld.2.2.2.2.1)))))),((aG2 (p:=⟨o8,_,none⟩) D9.out _).trans (((aG2 (p:=⟨o8,_,none⟩) D9.out _).trans (((aG2 (p:=⟨o8,_,none⟩) D9.out _).trans (hHeld.2.2.2.2.2))))))⟩ (fun hHeld=> ?_);clear hK K;refine kY (lK HT_.out (by kernel_rfl)) ?_
    try go_wp2
    refine bodyPost_ret (results_cell_row rfl _ _ o8 36 #[.bool Q8,.string Q9,.string S9] (0,0) _ rfl (pkS3 o6) Tryz.underlying36 rfl (by kernel_rfl)) rfl ?_;exact pkE HB
   ·replace I8:=Bool.eq_false_iff.mpr I8
    subst I8;rw[if_neg (show ¬(false=true) by decide)] at H;obtain⟨⟨U6,U7,U8⟩,U9,H⟩:=bi H;try dsimp only at H
    simp only[Option.some.injEq,Prod.mk.injEq] at H;obtain⟨rfl,rfl,rfl⟩:=H;go_enter Tryz.func100,Tryz.ntmps100
    try go_wp2_with(first|((with_reducible refine aG (N:=2) rfl ?_);refine bx_ 2 36 #[.bool D7,.string y9,.string C9] (h:= ?_);intro E8 hg lq o7 hb;have l9:=aA.mk (o7);have F8:=pkG HB hg;have I4:=F8;replace HB:=pkB HB hb;clear hb o7 hg)|((with_reducible refine aG (N:=3) rfl ?_);refine bx_ 3 36 #[.bool D5,.string y8,.string o9] (h:= ?_);intro D6 hg lu o7 hb;have o5:=aA.mk (o7);have F9:=pkG HB hg;have I5:=F9;obtain⟨G9,H5,_,_⟩:=pkQ l9 hg;replace l9:=pkK l9 hb;replace HB:=pkB HB hb;clear hb o7 hg)|((with_reducible refine aG (N:=4) rfl ?_);refine bx_ 4 36 #[.bool false,.string (⟨#[]⟩:ByteArray),.string (⟨#[]⟩:ByteArray)] (h:= ?_);intro o8 hg V3 o7 hb;have o6:=aA.mk (o7);have G5:=pkG HB hg;have I7:=G5;obtain⟨D8,F5,_,_⟩:=pkQ l9 hg;obtain⟨D9,F6,_,_⟩:=pkQ o5 hg;replace l9:=pkK l9 hb;replace o5:=pkK o5 hb;replace HB:=pkB HB hb;clear hb o7 hg))
    replace l9:=aA.mk (aK l9.out);replace o5:=aA.mk (aK o5.out);replace o6:=aA.mk (aK o6.out);replace HB:=aA.mk (aJ HB.out)
    refine kF (n:=4) (S:=fun w'=>w'.cell? ⟨D6,0,none⟩=some (.bool D5)∧w'.cell? ⟨D6,1,none⟩=some (.string y8)∧w'.cell? ⟨D6,2,none⟩=some (.string o9)) (ds:= []) #[false,false,false,false] (by kernel_rfl) rfl rfl (pcL o5) (fun hHeld=> ?_);generalize V3.drew=lw at l9 o5 o6 HB hHeld ⊢;refine tk_ 0 6 hHeld (hy:=hy3) (h:= ?_);refine on_ 1 7 (h:=fun K hK=> ?_);refine gR Tryz.func116 (fG.calls (w:=_) (h:=A3.out)) (h:= ?_);intro mf hb;replace l9:=pkK l9 hb;replace o5:=pkK o5 hb;replace o6:=pkK o6 hb;replace HB:=pkB HB hb
    clear hb;refine hK.out _ _ (pcL o5) (fun hHeld=> ?_);clear hK K;refine nm_ (h:= ?_);refine pr_ 2 8 (h:= ?_);refine pr_ 3 5 (h:= ?_);refine kY (by kernel_rfl) ?_;have mg:=H5.out;have mi:=G9.out;have mr:=D9.out;have ng:=F6.out;obtain⟨⟨ni,nz,oh⟩,oq,ou,oz⟩:=pk3 o5;have pg:=D8.out;have pq:=F5.out;obtain⟨⟨pz,qc,qf⟩,qg,qh,qi⟩:=pk3 l9
    try go_wp2_with(first|((with_reducible refine aC (f:=177) rfl ?_);refine gM 24 Tryz.func177 (iG.calls (hG:=HG.out.below (pkL HB)) (h:=N8.out)) (h:= ?_);intro qj hb;replace l9:=pkK l9 hb;replace o5:=pkK o5 hb;replace o6:=pkK o6 hb;replace HB:=pkB HB hb;try clear hb)|((with_reducible refine aC (f:=99) rfl ?_);refine gM 42 Tryz.func99 (jC.calls (w:=_) (h:=U9.out)) (h:= ?_);intro ql hb;replace l9:=pkK l9 hb;replace o5:=pkK o5 hb;replace o6:=pkK o6 hb;replace HB:=pkB HB hb;try clear hb;obtain⟨⟨qm,qo,qp⟩,qw,qx,qy⟩:=pk3 o6))
    refine bodyPost_ret (results_cell_row rfl _ _ o8 36 #[.bool U6,.string U7,.string U8] (0,0) _ rfl (pkS3 o6) Tryz.underlying36 rfl (by kernel_rfl)) rfl ?_;exact pkE HB
  ·rw[if_neg H9] at H
   obtain⟨P8,P9⟩:=bF H9;obtain⟨⟨H6,H7,H8⟩,O4,H⟩:=bi H;try dsimp only at H
   by_cases F7:(D7==H6&&(y9.toList==H7.toList&&(C9.toList==H8.toList)))=true
   ·rw[if_pos F7] at H
    have V4:(D7==H6&&(y9.toList==H7.toList&&(C9.toList==H8.toList)))=true:=F7
    (try(have V5:decide (D7=H6&&(y9.toList==H7.toList&&(C9.toList==H8.toList)))=true:=by simpa using F7))
    (try(have V6:(D7==H6&&(y9.toList==H7.toList&&(C9.toList==H8.toList)))=true:=by simpa using F7))
    clear F7;simp only[Option.some.injEq,Prod.mk.injEq] at H;obtain⟨rfl,rfl,rfl⟩:=H;go_enter Tryz.func100,Tryz.ntmps100
    try go_wp2_with(first|((with_reducible refine aG (N:=2) rfl ?_);refine bx_ 2 36 #[.bool D7,.string y9,.string C9] (h:= ?_);intro E8 hg rf o7 hb;have l9:=aA.mk (o7);have F8:=pkG HB hg;have I4:=F8;replace HB:=pkB HB hb;clear hb o7 hg)|((with_reducible refine aG (N:=3) rfl ?_);refine bx_ 3 36 #[.bool D5,.string y8,.string o9] (h:= ?_);intro D6 hg rq o7 hb;have o5:=aA.mk (o7);have F9:=pkG HB hg;have I5:=F9;obtain⟨G9,H5,_,_⟩:=pkQ l9 hg;replace l9:=pkK l9 hb;replace HB:=pkB HB hb;clear hb o7 hg)|((with_reducible refine aG (N:=4) rfl ?_);refine bx_ 4 36 #[.bool false,.string (⟨#[]⟩:ByteArray),.string (⟨#[]⟩:ByteArray)] (h:= ?_);intro o8 hg V7 o7 hb;have o6:=aA.mk (o7);have G5:=pkG HB hg;have I7:=G5;obtain⟨D8,F5,_,_⟩:=pkQ l9 hg;obtain⟨D9,F6,_,_⟩:=pkQ o5 hg;replace l9:=pkK l9 hb;replace o5:=pkK o5 hb;replace HB:=pkB HB hb;clear hb o7 hg))
    replace l9:=aA.mk (aK l9.out);replace o5:=aA.mk (aK o5.out);replace o6:=aA.mk (aK o6.out);replace HB:=aA.mk (aJ HB.out)
    refine kF (n:=4) (S:=fun w'=>w'.cell? ⟨D6,0,none⟩=some (.bool D5)∧w'.cell? ⟨D6,1,none⟩=some (.string y8)∧w'.cell? ⟨D6,2,none⟩=some (.string o9)) (ds:= []) #[false,false,false,false] (by kernel_rfl) rfl rfl (pcL o5) (fun hHeld=> ?_);generalize V7.drew=ru at l9 o5 o6 HB hHeld ⊢;refine tk_ 0 6 hHeld (hy:=hy3) (h:= ?_);refine on_ 1 7 (h:=fun K hK=> ?_);refine gR Tryz.func116 (fG.calls (w:=_) (h:=A3.out)) (h:= ?_);intro V8 hb;replace l9:=pkK l9 hb;replace o5:=pkK o5 hb;replace o6:=pkK o6 hb;replace HB:=pkB HB hb
    clear hb;refine hK.out _ _ (pcL o5) (fun hHeld=> ?_);clear hK K;refine nm_ (h:= ?_);refine pr_ 2 8 (h:= ?_);refine pr_ 3 5 (h:= ?_);refine kY (by kernel_rfl) ?_;have ry:=H5.out;have su:=G9.out;have tq:=D9.out;have tu:=F6.out;obtain⟨⟨uf,ug,uh⟩,ui,uj,uk⟩:=pk3 o5
    try go_wp2
    replace l9:=aA.mk (aK l9.out);replace o5:=aA.mk (aK o5.out);replace o6:=aA.mk (aK o6.out);replace HB:=aA.mk (aJ HB.out)
    refine kF (n:=3) (S:=fun w'=>w'.cell? ⟨E8,0,none⟩=some (.bool D7)∧w'.cell? ⟨E8,1,none⟩=some (.string y9)∧w'.cell? ⟨E8,2,none⟩=some (.string C9)) (ds:= []) #[false,false,false] (by kernel_rfl) rfl rfl (pcL l9) (fun hHeld=> ?_);generalize V8.drew=ul at l9 o5 o6 HB hHeld ⊢;refine tk_ 0 14 hHeld (hy:=hy3) (h:= ?_);refine on_ 1 15 (h:=fun K hK=> ?_);refine gR Tryz.func116 (fG.calls (w:=_) (h:=O4.out)) (h:= ?_);intro um hb;replace l9:=pkK l9 hb;replace o5:=pkK o5 hb;replace o6:=pkK o6 hb;replace HB:=pkB HB hb
    clear hb;refine hK.out _ _ (pcL l9) (fun hHeld=> ?_);clear hK K;refine nm_ (h:= ?_);refine pr_ 2 16 (h:= ?_);refine kY (by kernel_rfl) ?_;have uo:=D8.out;have uq:=F5.out;obtain⟨⟨ut,uu,uw⟩,uy,uz,ve⟩:=pk3 l9;obtain⟨⟨vg,vk,vw⟩,vz,wo,wu⟩:=pk3 o6
    try go_wp2
    refine bodyPost_ret (results_cell_row rfl _ _ o8 36 #[.bool D7,.string y9,.string C9] (0,0) _ rfl (pkS3 o6) Tryz.underlying36 rfl (by kernel_rfl)) rfl ?_;exact pkE HB
   ·rw[if_neg F7] at H
    have V4:(D7==H6&&(y9.toList==H7.toList&&(C9.toList==H8.toList)))=false:=by simpa using F7
    (try(have V5:decide (D7=H6&&(y9.toList==H7.toList&&(C9.toList==H8.toList)))=false:=by simpa using F7))
    (try(have V6:(D7==H6&&(y9.toList==H7.toList&&(C9.toList==H8.toList)))=false:=by simpa using F7))
    (try(have ww:¬(D7=H6&&(y9.toList==H7.toList&&(C9.toList==H8.toList))):=by simpa using F7))
    clear F7;obtain⟨⟨V9,X4,X5⟩,X7,H⟩:=bi H;try dsimp only at H
    simp only[Option.some.injEq,Prod.mk.injEq] at H;obtain⟨rfl,rfl,rfl⟩:=H;go_enter Tryz.func100,Tryz.ntmps100
    try go_wp2_with(first|((with_reducible refine aG (N:=2) rfl ?_);refine bx_ 2 36 #[.bool D7,.string y9,.string C9] (h:= ?_);intro E8 hg xe o7 hb;have l9:=aA.mk (o7);have F8:=pkG HB hg;have I4:=F8;replace HB:=pkB HB hb;clear hb o7 hg)|((with_reducible refine aG (N:=3) rfl ?_);refine bx_ 3 36 #[.bool D5,.string y8,.string o9] (h:= ?_);intro D6 hg xg o7 hb;have o5:=aA.mk (o7);have F9:=pkG HB hg;have I5:=F9;obtain⟨G9,H5,_,_⟩:=pkQ l9 hg;replace l9:=pkK l9 hb;replace HB:=pkB HB hb;clear hb o7 hg)|((with_reducible refine aG (N:=4) rfl ?_);refine bx_ 4 36 #[.bool false,.string (⟨#[]⟩:ByteArray),.string (⟨#[]⟩:ByteArray)] (h:= ?_);intro o8 hg X8 o7 hb;have o6:=aA.mk (o7);have G5:=pkG HB hg;have I7:=G5;obtain⟨D8,F5,_,_⟩:=pkQ l9 hg;obtain⟨D9,F6,_,_⟩:=pkQ o5 hg;replace l9:=pkK l9 hb;replace o5:=pkK o5 hb;replace HB:=pkB HB hb;clear hb o7 hg))
    replace l9:=aA.mk (aK l9.out);replace o5:=aA.mk (aK o5.out);replace o6:=aA.mk (aK o6.out);replace HB:=aA.mk (aJ HB.out)
    refine kF (n:=4) (S:=fun w'=>w'.cell? ⟨D6,0,none⟩=some (.bool D5)∧w'.cell? ⟨D6,1,none⟩=some (.string y8)∧w'.cell? ⟨D6,2,none⟩=some (.string o9)) (ds:= []) #[false,false,false,false] (by kernel_rfl) rfl rfl (pcL o5) (fun hHeld=> ?_);generalize X8.drew=xh at l9 o5 o6 HB hHeld ⊢;refine tk_ 0 6 hHeld (hy:=hy3) (h:= ?_);refine on_ 1 7 (h:=fun K hK=> ?_);refine gR Tryz.func116 (fG.calls (w:=_) (h:=A3.out)) (h:= ?_);intro X9 hb;replace l9:=pkK l9 hb;replace o5:=pkK o5 hb;replace o6:=pkK o6 hb;replace HB:=pkB HB hb
    clear hb;refine hK.out _ _ (pcL o5) (fun hHeld=> ?_);clear hK K;refine nm_ (h:= ?_);refine pr_ 2 8 (h:= ?_);refine pr_ 3 5 (h:= ?_);refine kY (by kernel_rfl) ?_;have xk:=H5.out;have xm:=G9.out;have xn:=D9.out;have xq:=F6.out;obtain⟨⟨xu,xw,xx⟩,xy,yf,yg⟩:=pk3 o5
    try go_wp2
    replace l9:=aA.mk (aK l9.out);replace o5:=aA.mk (aK o5.out);replace o6:=aA.mk (aK o6.out);replace HB:=aA.mk (aJ HB.out)
    refine kF (n:=3) (S:=fun w'=>w'.cell? ⟨E8,0,none⟩=some (.bool D7)∧w'.cell? ⟨E8,1,none⟩=some (.string y9)∧w'.cell? ⟨E8,2,none⟩=some (.string C9)) (ds:= []) #[false,false,false] (by kernel_rfl) rfl rfl (pcL l9) (fun hHeld=> ?_);generalize X9.drew=yh at l9 o5 o6 HB hHeld ⊢;refine tk_ 0 14 hHeld (hy:=hy3) (h:= ?_);refine on_ 1 15 (h:=fun K hK=> ?_);refine gR Tryz.func116 (fG.calls (w:=_) (h:=O4.out)) (h:= ?_);intro yj hb;replace l9:=pkK l9 hb;replace o5:=pkK o5 hb;replace o6:=pkK o6 hb;replace HB:=pkB HB hb
    clear hb;refine hK.out _ _ (pcL l9) (fun hHeld=> ?_);clear hK K;refine nm_ (h:= ?_);refine pr_ 2 16 (h:= ?_);refine kY (by kernel_rfl) ?_
    try go_wp2_with(first|((with_reducible refine aC (f:=99) rfl ?_);refine gM 18 Tryz.func99 (jC.calls (w:=_) (h:=X7.out)) (h:= ?_);intro yl hb;replace l9:=pkK l9 hb;replace o5:=pkK o5 hb;replace o6:=pkK o6 hb;replace HB:=pkB HB hb;try clear hb;have yt:=F5.out;have yu:=D8.out;obtain⟨⟨yw,yx,yz⟩,zf,zg,zh⟩:=pk3 o6))
    refine bodyPost_ret (results_cell_row rfl _ _ o8 36 #[.bool V9,.string X4,.string X5] (0,0) _ rfl (pkS3 o6) Tryz.underlying36 rfl (by kernel_rfl)) rfl ?_;exact pkE HB
end Go.Proofs.YtignanmmgaldeaaGreatDoor.PCongI
end
section
set_option linter.unusedVariables false
set_option linter.unusedSimpArgs false
set_option maxHeartbeats 8000000
set_option maxRecDepth 100000
namespace Go.Proofs.YtignanmmgaldeaaGreatDoor.PCongI
open Go.RowKit Go.Proofs.YtignanmmgaldeaaGreatDoorW.PrintWords Go.Proofs.YtignanmmgaldeaaGreatDoorW.PrintLast Go.Proofs.YtignanmmgaldeaaGreatDoorW.PrintMore
attribute [local go_sem] dQ dR eH eP
attribute [local go_sem high] yJ
def fP.j0:Nat→Bool→Bool→ByteArray→ByteArray→Bool→ByteArray→ByteArray→Option (Bool×ByteArray×ByteArray)
 |0,_,_,_,_,_,_,_=>none
 |k+1,x10,x250000,x250001,x250002,x251000,x251001,x251002=>if x10=true then((jO.f x250002 x251002).bind fun bt259=>((iK.f bt259.1 bt259.2).bind fun t261=>((dS.f k (⟨#[48]⟩:ByteArray) t261).bind fun bt262=>(some (bt262.1,bt262.2.1,bt262.2.2))))) else((fU.f x251001 x251002).bind fun t265=>((fU.f x250001 t265).bind fun t266=>((dS.f k t266 x250002).bind fun bt267=>(some (bt267.1,bt267.2.1,bt267.2.2)))))
def fP.f(k:Nat)(a0_0:Bool)(a0_1:ByteArray)(a0_2:ByteArray)(a1_0:Bool)(a1_1:ByteArray)(a1_2:ByteArray):Option (Bool×ByteArray×ByteArray):=(fG.f (⟨#[48]⟩:ByteArray)).bind fun bt252=>(if(a1_0==bt252.1&&(a1_1.toList==bt252.2.1.toList&&(a1_2.toList==bt252.2.2.toList)))=true then((kZ.f).bind fun bt255=>(some (bt255.1,bt255.2.1,bt255.2.2))) else(if a1_1.toList=([48]:List UInt8) then((iG.f a1_2 a0_1).bind fun t258=>(fP.j0 k t258 a0_0 a0_1 a0_2 a1_0 a1_1 a1_2)) else(fP.j0 k false a0_0 a0_1 a0_2 a1_0 a1_1 a1_2)))
def fP.T5:Bool×List (List Nat×List Nat):=(true,[([],[]),([0],[0]),([],[]),([2],[2]),([],[]),([4],[4]),([3,5],[3,5]),([1,6,6],[1,6]),([],[]),([8],[8]),([7,9,7],[7,9]),([10,10,0,1,2,3,4,5,6,7,8,9,10],[10])])
def fP.B5:List Nat:= [0,1,0,4,0,16,60,127,0,256,1023,2047]
theorem fP.tab5:rtab .any (opsOf Tryz.f104 5)=fP.T5:=by kernel_rfl
theorem fP.bits5:kX fP.T5.2 fP.B5=true:=by kernel_rfl
theorem fP.calls(k:Nat)(D8:Bool)(D6:ByteArray)(D9:ByteArray)(y8:Bool)(o8:ByteArray)(o9:ByteArray)(r1:Bool)(r2:ByteArray)(r3:ByteArray)(w:World)(hG:GW w)(h:fP.f k D8 D6 D9 y8 o8 o9=some (r1,r2,r3)) :
 Calls Tryz.prog 104 #[.agg #[.bool D8,.string D6,.string D9],.agg #[.bool y8,.string o8,.string o9]] w fun e w'=>e= .returned (.agg #[.bool r1,.string r2,.string r3])∧Below w.heap.size w w':=by
 have HG:=aA.mk hG;clear hG;have hu36:=Tryz.underlying36;have HB:=aA.mk (Below.refl w.heap.size w);have H:((fG.f (⟨#[48]⟩:ByteArray)).bind fun H8=>(if(y8==H8.1&&(o8.toList==H8.2.1.toList&&(o9.toList==H8.2.2.toList)))=true then((kZ.f).bind fun H9=>(some (H9.1,H9.2.1,H9.2.2))) else(if o8.toList=([48]:List UInt8) then((iG.f o9 D6).bind fun G8=>(fP.j0 k G8 D8 D6 D9 y8 o8 o9)) else(fP.j0 k false D8 D6 D9 y8 o8 o9))))=some (r1,r2,r3):=h;clear h;obtain⟨⟨E8,F5,F6⟩,A3,H⟩:=bi H;try dsimp only at H
 by_cases c4:(y8==E8&&(o8.toList==F5.toList&&(o9.toList==F6.toList)))=true
 ·rw[if_pos c4] at H
  have J3:(y8==E8&&(o8.toList==F5.toList&&(o9.toList==F6.toList)))=true:=c4
  (try(have J4:decide (y8=E8&&(o8.toList==F5.toList&&(o9.toList==F6.toList)))=true:=by simpa using c4))
  (try(have J5:(y8==E8&&(o8.toList==F5.toList&&(o9.toList==F6.toList)))=true:=by simpa using c4))
  clear c4;obtain⟨⟨J8,J9,L6⟩,A5,H⟩:=bi H;try dsimp only at H
  simp only[Option.some.injEq,Prod.mk.injEq] at H;obtain⟨rfl,rfl,rfl⟩:=H;go_enter Tryz.func104,Tryz.ntmps104
  try go_wp2_with(first|((with_reducible refine aG (N:=2) rfl ?_);refine bx_ 2 36 #[.bool D8,.string D6,.string D9] (h:= ?_);intro G5 hg w6 y9 hb;have l9:=aA.mk (y9);have I4:=pkG HB hg;have L8:=I4;replace HB:=pkB HB hb;clear hb y9 hg)|((with_reducible refine aG (N:=3) rfl ?_);refine bx_ 3 36 #[.bool y8,.string o8,.string o9] (h:= ?_);intro D7 hg w7 y9 hb;have o5:=aA.mk (y9);have I5:=pkG HB hg;have L9:=I5;obtain⟨G9,H5,_,_⟩:=pkQ l9 hg;replace l9:=pkK l9 hb;replace HB:=pkB HB hb;clear hb y9 hg)|((with_reducible refine aG (N:=4) rfl ?_);refine bx_ 4 36 #[.bool false,.string (⟨#[]⟩:ByteArray),.string (⟨#[]⟩:ByteArray)] (h:= ?_);intro o7 hg w8 y9 hb;have o6:=aA.mk (y9);have I7:=pkG HB hg;have N7:=I7;obtain⟨D5,F8,_,_⟩:=pkQ l9 hg;obtain⟨C9,F7,_,_⟩:=pkQ o5 hg;replace l9:=pkK l9 hb;replace o5:=pkK o5 hb;replace HB:=pkB HB hb;clear hb y9 hg))
  replace l9:=aA.mk (aK l9.out);replace o5:=aA.mk (aK o5.out);replace o6:=aA.mk (aK o6.out);replace HB:=aA.mk (aJ HB.out)
  refine kF (n:=4) (S:=fun w'=>w'.cell? ⟨D7,0,none⟩=some (.bool y8)∧w'.cell? ⟨D7,1,none⟩=some (.string o8)∧w'.cell? ⟨D7,2,none⟩=some (.string o9)) (ds:= []) #[false,false,false,false] (by kernel_rfl) rfl rfl (pcL o5) (fun hHeld=> ?_);generalize w8.drew=w9 at l9 o5 o6 HB hHeld ⊢;refine tk_ 0 6 hHeld (hy:=hy3) (h:= ?_);refine on_ 1 7 (h:=fun K hK=> ?_);refine gR Tryz.func116 (fG.calls (w:=_) (h:=A3.out)) (h:= ?_);intro Q5 hb;replace l9:=pkK l9 hb;replace o5:=pkK o5 hb;replace o6:=pkK o6 hb;replace HB:=pkB HB hb
  clear hb;refine hK.out _ _ (pcL o5) (fun hHeld=> ?_);clear hK K;refine nm_ (h:= ?_);refine pr_ 2 8 (h:= ?_);refine pr_ 3 5 (h:= ?_);refine kY (by kernel_rfl) ?_
  try go_wp2_with(first|((with_reducible refine aC (f:=176) rfl ?_);refine gM 9 Tryz.func176 (kZ.calls (w:=_) (h:=A5.out)) (h:= ?_);intro Q7 hb;replace l9:=pkK l9 hb;replace o5:=pkK o5 hb;replace o6:=pkK o6 hb;replace HB:=pkB HB hb;try clear hb;have Q8:=F8.out;have Q9:=D5.out;have S9:=F7.out;have U3:=C9.out;obtain⟨⟨U4,U5,U6⟩,U7,U8,U9⟩:=pk3 o6))
  refine bodyPost_ret (results_cell_row rfl _ _ o7 36 #[.bool J8,.string J9,.string L6] (0,0) _ rfl (pkS3 o6) Tryz.underlying36 rfl (by kernel_rfl)) rfl ?_;exact pkE HB
 ·rw[if_neg c4] at H
  have J3:(y8==E8&&(o8.toList==F5.toList&&(o9.toList==F6.toList)))=false:=by simpa using c4
  (try(have J4:decide (y8=E8&&(o8.toList==F5.toList&&(o9.toList==F6.toList)))=false:=by simpa using c4))
  (try(have J5:(y8==E8&&(o8.toList==F5.toList&&(o9.toList==F6.toList)))=false:=by simpa using c4))
  (try(have V3:¬(y8=E8&&(o8.toList==F5.toList&&(o9.toList==F6.toList))):=by simpa using c4))
  clear c4;have I8:=aA.mk H;clear H;go_enter Tryz.func104,Tryz.ntmps104
  try go_wp2_with(first|((with_reducible refine aG (N:=2) rfl ?_);refine bx_ 2 36 #[.bool D8,.string D6,.string D9] (h:= ?_);intro G5 hg V4 y9 hb;have l9:=aA.mk (y9);have I4:=pkG HB hg;have L8:=I4;replace HB:=pkB HB hb;clear hb y9 hg)|((with_reducible refine aG (N:=3) rfl ?_);refine bx_ 3 36 #[.bool y8,.string o8,.string o9] (h:= ?_);intro D7 hg V5 y9 hb;have o5:=aA.mk (y9);have I5:=pkG HB hg;have L9:=I5;obtain⟨G9,H5,_,_⟩:=pkQ l9 hg;replace l9:=pkK l9 hb;replace HB:=pkB HB hb;clear hb y9 hg)|((with_reducible refine aG (N:=4) rfl ?_);refine bx_ 4 36 #[.bool false,.string (⟨#[]⟩:ByteArray),.string (⟨#[]⟩:ByteArray)] (h:= ?_);intro o7 hg N8 y9 hb;have o6:=aA.mk (y9);have I7:=pkG HB hg;have N7:=I7;obtain⟨D5,F8,_,_⟩:=pkQ l9 hg;obtain⟨C9,F7,_,_⟩:=pkQ o5 hg;replace l9:=pkK l9 hb;replace o5:=pkK o5 hb;replace HB:=pkB HB hb;clear hb y9 hg))
  replace l9:=aA.mk (aK l9.out);replace o5:=aA.mk (aK o5.out);replace o6:=aA.mk (aK o6.out);replace HB:=aA.mk (aJ HB.out)
  refine kF (n:=4) (S:=fun w'=>w'.cell? ⟨D7,0,none⟩=some (.bool y8)∧w'.cell? ⟨D7,1,none⟩=some (.string o8)∧w'.cell? ⟨D7,2,none⟩=some (.string o9)) (ds:= []) #[false,false,false,false] (by kernel_rfl) rfl rfl (pcL o5) (fun hHeld=> ?_);generalize N8.drew=V6 at l9 o5 o6 HB hHeld ⊢;refine tk_ 0 6 hHeld (hy:=hy3) (h:= ?_);refine on_ 1 7 (h:=fun K hK=> ?_);refine gR Tryz.func116 (fG.calls (w:=_) (h:=A3.out)) (h:= ?_);intro V7 hb;replace l9:=pkK l9 hb;replace o5:=pkK o5 hb;replace o6:=pkK o6 hb;replace HB:=pkB HB hb
  clear hb;refine hK.out _ _ (pcL o5) (fun hHeld=> ?_);clear hK K;refine nm_ (h:= ?_);refine pr_ 2 8 (h:= ?_);refine pr_ 3 5 (h:= ?_);refine kY (by kernel_rfl) ?_
  go_upto_region 3 with (fail)
  go_cut [10] (fun v10 wc=>∃(kq:Nat) (H6:Bool),v10= .bool H6∧aA (fP.j0 kq H6 D8 D6 D9 y8 o8 o9=some (r1,r2,r3))∧aA (kq≤k)∧aA (wc.heap[G5]? =some (.cells #[.bool D8,.string D6,.string D9] 36 (0,0)))∧aA (wc.heap[D7]? =some (.cells #[.bool y8,.string o8,.string o9] 36 (0,0)))∧aA (wc.heap[o7]? =some (.cells #[.bool false,.string (⟨#[]⟩:ByteArray),.string (⟨#[]⟩:ByteArray)] 36 (0,0)))∧aA (Below w.heap.size w wc))
  case first=>
   have H:=I8.out;clear I8
   by_cases G6:o8.toList=([48]:List UInt8)
   ·rw[if_pos G6] at H
    obtain⟨G7,N9⟩:=bT G6;clear G6
    (first|rw[G7]|(simp only[jM,jX];rw[G7])|skip)
    obtain⟨G8,O0,H⟩:=bi H;try dsimp only at H
    have H':=aA.mk H;clear H;have V8:=H5.out;have V9:=G9.out;have X4:=C9.out;have X5:=F7.out;obtain⟨⟨X7,X8,X9⟩,Y0,Y4,Y5⟩:=pk3 o5;have Y7:=D5.out;have Y8:=F8.out;obtain⟨⟨Y9,Z7,Z8⟩,Z9,ae,af⟩:=pk3 l9
    go_wp2_with(first|(go_at_call 177;(with_reducible refine(iG.calls (hG:=HG.out.below (pkL HB)) o9 D6 G8 _ O0.out).mono ?_);rintro e ag ⟨rfl,hb⟩;replace l9:=pkK l9 hb;replace o5:=pkK o5 hb;replace o6:=pkK o6 hb;replace HB:=pkB HB hb;try clear hb))
    go_meet
    case rel=>exact⟨_,(G8),aG1,H',le_,⟨pkW l9⟩,⟨pkW o5⟩,⟨pkW o6⟩,⟨pkL HB⟩⟩
   ·rw[if_neg G6] at H
    obtain⟨G7,N9⟩:=bF G6
    (first|rw[G7]|(simp only[jM,jX];rw[G7])|skip)
    have H':=aA.mk H;clear H;have ah:=H5.out;have ai:=G9.out;have aj:=C9.out;have ak:=F7.out;obtain⟨⟨au,ax,ay⟩,az,bn,df⟩:=pk3 o5;go_wp2
    go_meet
    case rel=>exact⟨_,(false),aG1,H',le_,⟨pkW l9⟩,⟨pkW o5⟩,⟨pkW o6⟩,⟨pkL HB⟩⟩
  case rest=>
   clear I8 J3 J4 J5;obtain⟨kq,H6,rfl,HA,dh,l9,o5,o6,HB⟩:=hcut
   cases kq with
   |zero=>exact absurd HA.out (by simp[fP.j0])
   |succ kj14=>
    have H:=HA.out;clear HA;simp only[fP.j0] at H
    by_cases H7:H6=true
    ·subst H7
     rw[if_pos rfl] at H;obtain⟨⟨J6,J7⟩,O1,H⟩:=bi H;try dsimp only at H
     obtain⟨O3,O4,H⟩:=bi H;try dsimp only at H
     obtain⟨⟨O5,O6,O7⟩,O8,H⟩:=bi H;try dsimp only at H
     simp only[Option.some.injEq,Prod.mk.injEq] at H;obtain⟨rfl,rfl,rfl⟩:=H;have di:=G9.out;have dw:=H5.out;have eu:=D5.out;have gm:=F8.out;obtain⟨⟨gp,gq,gz⟩,ig,ik,iq⟩:=pk3 l9;have iw:=C9.out;have ja:=F7.out;obtain⟨⟨jb,jc,jd⟩,je,jf,jg⟩:=pk3 o5
     go_wp2_with(first|((with_reducible refine aC (f:=20) rfl ?_);refine gM 25 Tryz.func20 (jO.calls (hG:=HG.out.below (pkL HB)) (h:=O1.out)) (h:= ?_);intro F9 hb;replace l9:=pkK l9 hb;replace o5:=pkK o5 hb;replace o6:=pkK o6 hb;replace HB:=pkB HB hb;try clear hb)|((with_reducible refine aC (f:=128) rfl ?_);refine gl_ 28 Tryz.func128 #[.string J6,.int .i64 J7] (h:= ?_);(with_reducible refine(iK.calls J6 J7 O3 _ O4.out).mono ?_);rintro e w' ⟨rfl,⟨nd,rfl⟩⟩;refine⟨_,rfl,?_⟩;(try(rw[jS F9];generalize hq_:World.drewN F9 _=F9;have n0_:aA (F9.heap[G5]? =some (.cells #[.bool D8,.string D6,.string D9] 36 (0,0))):=⟨by rw[←hq_];exact(pkW l9)⟩;have n1_:aA (F9.heap[D7]? =some (.cells #[.bool y8,.string o8,.string o9] 36 (0,0))):=⟨by rw[←hq_];exact(pkW o5)⟩;have n2_:aA (F9.heap[o7]? =some (.cells #[.bool false,.string (⟨#[]⟩:ByteArray),.string (⟨#[]⟩:ByteArray)] 36 (0,0))):=⟨by rw[←hq_];exact(pkW o6)⟩;have n3_:aA (Below w.heap.size w F9):=⟨by rw[←hq_];exact(pkL HB)⟩;clear l9 o5 o6 HB hq_;have l9:=n0_;have o5:=n1_;have o6:=n2_;have HB:=n3_;clear n0_ n1_ n2_ n3_)))|((with_reducible refine aC (f:=109) rfl ?_);refine gM 29 Tryz.func109 (dS.calls (hG:=HG.out.below (pkL HB)) (h:=O8.out)) (h:= ?_);intro jh hb;replace l9:=pkK l9 hb;replace o5:=pkK o5 hb;replace o6:=pkK o6 hb;replace HB:=pkB HB hb;try clear hb;obtain⟨⟨ji,jk,jl⟩,jm,jo,jq⟩:=pk3 o6))
     refine bodyPost_ret (results_cell_row rfl _ _ o7 36 #[.bool O5,.string O6,.string O7] (0,0) _ rfl (pkS3 o6) Tryz.underlying36 rfl (by kernel_rfl)) rfl ?_;exact pkE HB
    ·replace H7:=Bool.eq_false_iff.mpr H7
     subst H7;rw[if_neg (show ¬(false=true) by decide)] at H;obtain⟨jr,O9,H⟩:=bi H;try dsimp only at H
     obtain⟨jw,P7,H⟩:=bi H;try dsimp only at H
     obtain⟨⟨P8,P9,Q3⟩,Q4,H⟩:=bi H;try dsimp only at H
     simp only[Option.some.injEq,Prod.mk.injEq] at H;obtain⟨rfl,rfl,rfl⟩:=H
     try go_wp2
     replace l9:=aA.mk (aK l9.out);replace o5:=aA.mk (aK o5.out);replace o6:=aA.mk (aK o6.out);replace HB:=aA.mk (aJ HB.out)
     refine kF (n:=12) (S:=fun w'=>w'.cell? ⟨G5,0,none⟩=some (.bool D8)∧w'.cell? ⟨G5,1,none⟩=some (.string D6)∧w'.cell? ⟨G5,2,none⟩=some (.string D9)∧w'.cell? ⟨D7,0,none⟩=some (.bool y8)∧w'.cell? ⟨D7,1,none⟩=some (.string o8)∧w'.cell? ⟨D7,2,none⟩=some (.string o9)) (ds:= []) #[false,false,false,false,false,false,false,false,false,false,false,false] (by kernel_rfl) rfl rfl (pc3 l9 (pcL o5)) (fun hHeld=> ?_);refine jZ fP.tab5 fP.bits5 (fun HT_ HW_=> ?_)
     generalize wc.drew=jy at l9 o5 o6 HB hHeld ⊢;refine pr_ 0 30 (h:= ?_);refine pr_ 2 32 (h:= ?_);refine pr_ 4 34 (h:= ?_);refine pr_ 8 38 (h:= ?_);refine tk_ 1 31 hHeld (hy:=hy6) (h:= ?_);refine tk_ 3 33 hHeld (hy:=hy6) (h:= ?_);refine tk_ 5 35 hHeld (hy:=hy6) (h:= ?_);refine tk_ 9 39 hHeld (hy:=hy6) (h:= ?_);refine on_ 6 36 (h:=fun K hK=> ?_);refine gR Tryz.func110 (fU.calls (hG:=HG.out.below (pkL HB)) (h:=O9.out)) (h:= ?_);intro ku hb;replace l9:=pkK l9 hb;replace o5:=pkK o5 hb;replace o6:=pkK o6 hb;replace HB:=pkB HB hb
     clear hb;refine hK.out _ _ (pc3 l9 (pcL o5)) (fun hHeld=> ?_);clear hK K;refine nm_ (h:= ?_);refine on_ 7 37 (h:=fun K hK=> ?_);refine gR Tryz.func110 (fU.calls (hG:=HG.out.below (pkL HB)) (h:=P7.out)) (h:= ?_);intro kw hb;replace l9:=pkK l9 hb;replace o5:=pkK o5 hb;replace o6:=pkK o6 hb;replace HB:=pkB HB hb
     clear hb;refine hK.out _ _ (pc3 l9 (pcL o5)) (fun hHeld=> ?_);clear hK K;refine nm_ (h:= ?_);refine on_ 10 40 (h:=fun K hK=> ?_);refine gR Tryz.func109 (dS.calls (hG:=HG.out.below (pkL HB)) (h:=Q4.out)) (h:= ?_);intro I9 hb;replace l9:=pkK l9 hb;replace o5:=pkK o5 hb;replace o6:=pkK o6 hb;replace HB:=pkB HB hb
     clear hb;refine hK.out _ _ (pc3 l9 (pcL o5)) (fun hHeld=> ?_);clear hK K;refine nm_ (h:= ?_);refine one_ (i:=11) (N:=none) #[true,true,true,true,true,true,true,true,true,true,true,true] rfl rfl (tH HT_.out (by kernel_rfl)) aG0 (fun K hK=> ?_);have kz:I9.cell? ⟨o7,0,none⟩=some (.bool false):=(fF o6.out 0).trans rfl;have lg:=eG o6.out 0;have lh:=D5.out;have lq:=C9.out;have lu:=F8.out;have lw:=F7.out;have mf:I9.cell? ⟨o7,1,none⟩=some (.string (⟨#[]⟩:ByteArray)):=(fF o6.out 1).trans rfl;have mg:=eG o6.out 1;have mi:=D5.out;have mr:=C9.out;have ng:=F8.out;have ni:=F7.out;have nz:I9.cell? ⟨o7,2,none⟩=some (.string (⟨#[]⟩:ByteArray)):=(fF o6.out 2).trans rfl;have oh:=eG o6.out 2;have oq:=D5.out;have ou:=C9.out;have oz:=F8.out;have pg:=F7.out;refine uQ (w1:= ?_) (by rfl) rfl ?_ ?_
     rotate_left
     ·go_simp
      rfl
     refine hK.out _ _ ⟨((aG2 (p:=⟨o7,_,none⟩) D5.out _).trans (((aG2 (p:=⟨o7,_,none⟩) D5.out _).trans (((aG2 (p:=⟨o7,_,none⟩) D5.out _).trans (hHeld.1)))))),((aG2 (p:=⟨o7,_,none⟩) D5.out _).trans (((aG2 (p:=⟨o7,_,none⟩) D5.out _).trans (((aG2 (p:=⟨o7,_,none⟩) D5.out _).trans (hHeld.2.1)))))),((aG2 (p:=⟨o7,_,none⟩) D5.out _).trans (((aG2 (p:=⟨o7,_,none⟩) D5.out _).trans (((aG2 (p:=⟨o7,_,none⟩) D5.out _).trans (hHeld.2.2.1)))))),((aG2 (p:=⟨o7,_,none⟩) C9.out _).trans (((aG2 (p:=⟨o7,_,none⟩) C9.out _).trans (((aG2 (p:=⟨o7,_,none⟩) C9.out _).trans (hHeld.2.2.2.1)))))),((aG2 (p:=⟨o7,_,none⟩) C9.out _).trans (((aG2 (p:=⟨o7,_,none⟩) C9.out _).trans (((aG2 (p:=⟨o7,_,none⟩) C9.out _).trans (hHeld.2.2.2.2.1)))))),((aG2 (p:=⟨o7,_,none⟩) C9.out _).trans (((aG2 (p:=⟨o7,_,none⟩) C9.out _).trans (((aG2 (p:=⟨o7,_,none⟩) C9.out _).trans (hHeld.2.2.2.2.2))))))⟩ (fun hHeld=> ?_);clear hK K;refine kY (lK HT_.out (by kernel_rfl)) ?_
     try go_wp2
     refine bodyPost_ret (results_cell_row rfl _ _ o7 36 #[.bool P8,.string P9,.string Q3] (0,0) _ rfl (pkS3 o6) Tryz.underlying36 rfl (by kernel_rfl)) rfl ?_;exact pkE HB
def jI.f(k:Nat)(a0_0:Bool)(a0_1:ByteArray)(a0_2:ByteArray)(a1_0:Bool)(a1_1:ByteArray)(a1_2:ByteArray):Option (Bool×ByteArray×ByteArray):=(fU.f a0_1 a1_1).bind fun t273=>((nR.f a0_2 a1_2).bind fun t274=>((dS.f k t273 t274).bind fun bt275=>(some (bt275.1,bt275.2.1,bt275.2.2))))
def jI.T1:Bool×List (List Nat×List Nat):=(true,[([],[]),([0],[0]),([],[]),([2],[2]),([1,3],[1,3]),([],[]),([5],[5]),([],[]),([7],[7]),([6,8,4],[6,8]),([4,9,9],[4,9]),([10,10,0,1,2,3,4,5,6,7,8,9,10],[10])])
def jI.B1:List Nat:= [0,1,0,4,15,0,32,0,128,511,1023,2047]
theorem jI.tab1:rtab .any (opsOf Tryz.f118 1)=jI.T1:=by kernel_rfl
theorem jI.aAz:kX jI.T1.2 jI.B1=true:=by kernel_rfl
theorem jI.calls(k:Nat)(D7:Bool)(y9:ByteArray)(C9:ByteArray)(D8:Bool)(D5:ByteArray)(D6:ByteArray)(r1:Bool)(r2:ByteArray)(r3:ByteArray)(w:World)(hG:GW w)(h:jI.f k D7 y9 C9 D8 D5 D6=some (r1,r2,r3)) :
 Calls Tryz.prog 118 #[.agg #[.bool D7,.string y9,.string C9],.agg #[.bool D8,.string D5,.string D6]] w fun e w'=>e= .returned (.agg #[.bool r1,.string r2,.string r3])∧Below w.heap.size w w':=by
 have HG:=aA.mk hG;clear hG;have hu36:=Tryz.underlying36;have HB:=aA.mk (Below.refl w.heap.size w);have H:((fU.f y9 D5).bind fun F9=>((nR.f C9 D6).bind fun G5=>((dS.f k F9 G5).bind fun D9=>(some (D9.1,D9.2.1,D9.2.2)))))=some (r1,r2,r3):=h;clear h;obtain⟨F9,A3,H⟩:=bi H;try dsimp only at H
 obtain⟨G5,A4,H⟩:=bi H;try dsimp only at H
 obtain⟨⟨G6,G7,G8⟩,A5,H⟩:=bi H;try dsimp only at H
 simp only[Option.some.injEq,Prod.mk.injEq] at H;obtain⟨rfl,rfl,rfl⟩:=H;go_enter Tryz.func118,Tryz.ntmps118
 try go_wp2_with(first|((with_reducible refine aG (N:=2) rfl ?_);refine bx_ 2 36 #[.bool D7,.string y9,.string C9] (h:= ?_);intro E8 hg w6 y8 hb;have o5:=aA.mk (y8);have G9:=pkG HB hg;have H7:=G9;replace HB:=pkB HB hb;clear hb y8 hg)|((with_reducible refine aG (N:=3) rfl ?_);refine bx_ 3 36 #[.bool D8,.string D5,.string D6] (h:= ?_);intro F5 hg w7 y8 hb;have o6:=aA.mk (y8);have H5:=pkG HB hg;have H8:=H5;obtain⟨H9,I4,_,_⟩:=pkQ o5 hg;replace o5:=pkK o5 hb;replace HB:=pkB HB hb;clear hb y8 hg)|((with_reducible refine aG (N:=4) rfl ?_);refine bx_ 4 36 #[.bool false,.string (⟨#[]⟩:ByteArray),.string (⟨#[]⟩:ByteArray)] (h:= ?_);intro l9 hg w8 y8 hb;have o7:=aA.mk (y8);have H6:=pkG HB hg;have I5:=H6;obtain⟨o8,F6,_,_⟩:=pkQ o5 hg;obtain⟨o9,F7,_,_⟩:=pkQ o6 hg;replace o5:=pkK o5 hb;replace o6:=pkK o6 hb;replace HB:=pkB HB hb;clear hb y8 hg))
 replace o5:=aA.mk (aK o5.out);replace o6:=aA.mk (aK o6.out);replace o7:=aA.mk (aK o7.out);replace HB:=aA.mk (aJ HB.out)
 refine kF (n:=12) (S:=fun w'=>w'.cell? ⟨E8,0,none⟩=some (.bool D7)∧w'.cell? ⟨E8,1,none⟩=some (.string y9)∧w'.cell? ⟨E8,2,none⟩=some (.string C9)∧w'.cell? ⟨F5,0,none⟩=some (.bool D8)∧w'.cell? ⟨F5,1,none⟩=some (.string D5)∧w'.cell? ⟨F5,2,none⟩=some (.string D6)) (ds:= []) #[false,false,false,false,false,false,false,false,false,false,false,false] (by kernel_rfl) rfl rfl (pc3 o5 (pcL o6)) (fun hHeld=> ?_);refine jZ jI.tab1 jI.aAz (fun HT_ HW_=> ?_)
 generalize w8.drew=w9 at o5 o6 o7 HB hHeld ⊢;refine pr_ 0 5 (h:= ?_);refine pr_ 2 7 (h:= ?_);refine pr_ 5 10 (h:= ?_);refine pr_ 7 12 (h:= ?_);refine tk_ 1 6 hHeld (hy:=hy6) (h:= ?_);refine tk_ 3 8 hHeld (hy:=hy6) (h:= ?_);refine tk_ 6 11 hHeld (hy:=hy6) (h:= ?_);refine tk_ 8 13 hHeld (hy:=hy6) (h:= ?_);refine on_ 4 9 (h:=fun K hK=> ?_);refine gR Tryz.func110 (fU.calls (hG:=HG.out.below (pkL HB)) (h:=A3.out)) (h:= ?_);intro I7 hb;replace o5:=pkK o5 hb;replace o6:=pkK o6 hb;replace o7:=pkK o7 hb;replace HB:=pkB HB hb
 clear hb;refine hK.out _ _ (pc3 o5 (pcL o6)) (fun hHeld=> ?_);clear hK K;refine nm_ (h:= ?_);refine on_ 9 14 (h:=fun K hK=> ?_);refine gR Tryz.func119 (nR.calls (hG:=HG.out.below (pkL HB)) (h:=A4.out)) (h:= ?_);intro I8 hb;replace o5:=pkK o5 hb;replace o6:=pkK o6 hb;replace o7:=pkK o7 hb;replace HB:=pkB HB hb
 clear hb;refine hK.out _ _ (pc3 o5 (pcL o6)) (fun hHeld=> ?_);clear hK K;refine nm_ (h:= ?_);refine on_ 10 15 (h:=fun K hK=> ?_);refine gR Tryz.func109 (dS.calls (hG:=HG.out.below (pkL HB)) (h:=A5.out)) (h:= ?_);intro F8 hb;replace o5:=pkK o5 hb;replace o6:=pkK o6 hb;replace o7:=pkK o7 hb;replace HB:=pkB HB hb
 clear hb;refine hK.out _ _ (pc3 o5 (pcL o6)) (fun hHeld=> ?_);clear hK K;refine nm_ (h:= ?_);refine one_ (i:=11) (N:=none) #[true,true,true,true,true,true,true,true,true,true,true,true] rfl rfl (tH HT_.out (by kernel_rfl)) aG0 (fun K hK=> ?_);have I9:F8.cell? ⟨l9,0,none⟩=some (.bool false):=(fF o7.out 0).trans rfl;have J3:=eG o7.out 0;have J4:=o8.out;have J5:=o9.out;have J6:=F6.out;have J7:=F7.out;have J8:F8.cell? ⟨l9,1,none⟩=some (.string (⟨#[]⟩:ByteArray)):=(fF o7.out 1).trans rfl;have J9:=eG o7.out 1;have L6:=o8.out;have L8:=o9.out;have L9:=F6.out;have N7:=F7.out;have N8:F8.cell? ⟨l9,2,none⟩=some (.string (⟨#[]⟩:ByteArray)):=(fF o7.out 2).trans rfl;have N9:=eG o7.out 2;have O0:=o8.out;have O1:=o9.out;have O3:=F6.out;have O4:=F7.out;refine uQ (w1:= ?_) (by rfl) rfl ?_ ?_
 rotate_left
 ·go_simp
  rfl
 refine hK.out _ _ ⟨((aG2 (p:=⟨l9,_,none⟩) o8.out _).trans (((aG2 (p:=⟨l9,_,none⟩) o8.out _).trans (((aG2 (p:=⟨l9,_,none⟩) o8.out _).trans (hHeld.1)))))),((aG2 (p:=⟨l9,_,none⟩) o8.out _).trans (((aG2 (p:=⟨l9,_,none⟩) o8.out _).trans (((aG2 (p:=⟨l9,_,none⟩) o8.out _).trans (hHeld.2.1)))))),((aG2 (p:=⟨l9,_,none⟩) o8.out _).trans (((aG2 (p:=⟨l9,_,none⟩) o8.out _).trans (((aG2 (p:=⟨l9,_,none⟩) o8.out _).trans (hHeld.2.2.1)))))),((aG2 (p:=⟨l9,_,none⟩) o9.out _).trans (((aG2 (p:=⟨l9,_,none⟩) o9.out _).trans (((aG2 (p:=⟨l9,_,none⟩) o9.out _).trans (hHeld.2.2.2.1)))))),((aG2 (p:=⟨l9,_,none⟩) o9.out _).trans (((aG2 (p:=⟨l9,_,none⟩) o9.out _).trans (((aG2 (p:=⟨l9,_,none⟩) o9.out _).trans (hHeld.2.2.2.2.1)))))),((aG2 (p:=⟨l9,_,none⟩) o9.out _).trans (((aG2 (p:=⟨l9,_,none⟩) o9.out _).trans (((aG2 (p:=⟨l9,_,none⟩) o9.out _).trans (hHeld.2.2.2.2.2))))))⟩ (fun hHeld=> ?_);clear hK K;refine kY (lK HT_.out (by kernel_rfl)) ?_
 try go_wp2
 refine bodyPost_ret (results_cell_row rfl _ _ l9 36 #[.bool G6,.string G7,.string G8] (0,0) _ rfl (pkS3 o7) Tryz.underlying36 rfl (by kernel_rfl)) rfl ?_;exact pkE HB
end Go.Proofs.YtignanmmgaldeaaGreatDoor.PCongI
end
section
set_option linter.unusedVariables false
set_option linter.unusedSimpArgs false
set_option maxHeartbeats 8000000
set_option maxRecDepth 100000
namespace Go.Proofs.YtignanmmgaldeaaGreatDoor.PCongI
open Go.RowKit Go.Proofs.YtignanmmgaldeaaGreatDoorW.PrintWords Go.Proofs.YtignanmmgaldeaaGreatDoorW.PrintLast Go.Proofs.YtignanmmgaldeaaGreatDoorW.PrintMore
attribute [local go_sem] dQ dR eH eP
def jJ.f(k:Nat)(a0_0:Bool)(a0_1:ByteArray)(a0_2:ByteArray)(a1_0:Bool)(a1_1:ByteArray)(a1_2:ByteArray):Option (Bool×ByteArray×ByteArray):=(jG.f a0_1 a1_1).bind fun t289=>((jG.f a0_1 a1_2).bind fun t290=>((jG.f a1_1 a0_2).bind fun t291=>((fU.f t290 t291).bind fun t292=>((fU.f t289 t292).bind fun t293=>((jG.f a0_2 a1_2).bind fun t294=>((dS.f k t293 t294).bind fun bt295=>(some (bt295.1,bt295.2.1,bt295.2.2))))))))
def jJ.T1:Bool×List (List Nat×List Nat):=(true,[([],[]),([0],[0]),([],[]),([2],[2]),([1,3],[1,3]),([],[]),([5],[5]),([],[]),([7],[7]),([6,8,4],[6,8]),([],[]),([10],[10]),([],[]),([12],[12]),([11,13,9],[11,13]),([9,14,14],[9,14]),([4,15,15],[4,15]),([16,16,0,1,2,3,4,5,6,7,8,9,10,11,12,13,14,15,16],[16])])
def jJ.B1:List Nat:= [0,1,0,4,15,0,32,0,128,511,0,1024,0,4096,16383,32767,65535,131071]
theorem jJ.tab1:rtab .any (opsOf Tryz.f123 1)=jJ.T1:=by kernel_rfl
theorem jJ.aAz:kX jJ.T1.2 jJ.B1=true:=by kernel_rfl
theorem jJ.calls(k:Nat)(C9:Bool)(o8:ByteArray)(o9:ByteArray)(D5:Bool)(y8:ByteArray)(y9:ByteArray)(r1:Bool)(r2:ByteArray)(r3:ByteArray)(w:World)(hG:GW w)(h:jJ.f k C9 o8 o9 D5 y8 y9=some (r1,r2,r3)) :
 Calls Tryz.prog 123 #[.agg #[.bool C9,.string o8,.string o9],.agg #[.bool D5,.string y8,.string y9]] w fun e w'=>e= .returned (.agg #[.bool r1,.string r2,.string r3])∧Below w.heap.size w w':=by
 have HG:=aA.mk hG;clear hG;have hu36:=Tryz.underlying36;have HB:=aA.mk (Below.refl w.heap.size w);have H:((jG.f o8 y8).bind fun D9=>((jG.f o8 y9).bind fun E8=>((jG.f y8 o9).bind fun F5=>((fU.f E8 F5).bind fun F6=>((fU.f D9 F6).bind fun F7=>((jG.f o9 y9).bind fun F8=>((dS.f k F7 F8).bind fun D6=>(some (D6.1,D6.2.1,D6.2.2)))))))))=some (r1,r2,r3):=h;clear h;obtain⟨D9,A3,H⟩:=bi H;try dsimp only at H
 obtain⟨E8,A4,H⟩:=bi H;try dsimp only at H
 obtain⟨F5,A5,H⟩:=bi H;try dsimp only at H
 obtain⟨F6,A6,H⟩:=bi H;try dsimp only at H
 obtain⟨F7,A7,H⟩:=bi H;try dsimp only at H
 obtain⟨F8,A8,H⟩:=bi H;try dsimp only at H
 obtain⟨⟨F9,G5,G6⟩,A9,H⟩:=bi H;try dsimp only at H
 simp only[Option.some.injEq,Prod.mk.injEq] at H;obtain⟨rfl,rfl,rfl⟩:=H;go_enter Tryz.func123,Tryz.ntmps123
 try go_wp2_with(first|((with_reducible refine aG (N:=2) rfl ?_);refine bx_ 2 36 #[.bool C9,.string o8,.string o9] (h:= ?_);intro D7 hg I8 o7 hb;have l9:=aA.mk (o7);have G7:=pkG HB hg;have I9:=G7;replace HB:=pkB HB hb;clear hb o7 hg)|((with_reducible refine aG (N:=3) rfl ?_);refine bx_ 3 36 #[.bool D5,.string y8,.string y9] (h:= ?_);intro D8 hg J3 o7 hb;have o5:=aA.mk (o7);have G8:=pkG HB hg;have J4:=G8;obtain⟨G9,H5,_,_⟩:=pkQ l9 hg;replace l9:=pkK l9 hb;replace HB:=pkB HB hb;clear hb o7 hg)|((with_reducible refine aG (N:=4) rfl ?_);refine bx_ 4 36 #[.bool false,.string (⟨#[]⟩:ByteArray),.string (⟨#[]⟩:ByteArray)] (h:= ?_);intro H6 hg H7 o7 hb;have o6:=aA.mk (o7);have H8:=pkG HB hg;have J5:=H8;obtain⟨H9,I4,_,_⟩:=pkQ l9 hg;obtain⟨I5,I7,_,_⟩:=pkQ o5 hg;replace l9:=pkK l9 hb;replace o5:=pkK o5 hb;replace HB:=pkB HB hb;clear hb o7 hg))
 replace l9:=aA.mk (aK l9.out);replace o5:=aA.mk (aK o5.out);replace o6:=aA.mk (aK o6.out);replace HB:=aA.mk (aJ HB.out)
 refine kF (n:=18) (S:=fun w'=>w'.cell? ⟨D7,0,none⟩=some (.bool C9)∧w'.cell? ⟨D7,1,none⟩=some (.string o8)∧w'.cell? ⟨D7,2,none⟩=some (.string o9)∧w'.cell? ⟨D8,0,none⟩=some (.bool D5)∧w'.cell? ⟨D8,1,none⟩=some (.string y8)∧w'.cell? ⟨D8,2,none⟩=some (.string y9)) (ds:= []) #[false,false,false,false,false,false,false,false,false,false,false,false,false,false,false,false,false,false] (by kernel_rfl) rfl rfl (pc3 l9 (pcL o5)) (fun hHeld=> ?_);refine jZ jJ.tab1 jJ.aAz (fun HT_ HW_=> ?_)
 generalize H7.drew=J6 at l9 o5 o6 HB hHeld ⊢;refine pr_ 0 6 (h:= ?_);refine pr_ 2 8 (h:= ?_);refine pr_ 5 11 (h:= ?_);refine pr_ 7 13 (h:= ?_);refine pr_ 10 16 (h:= ?_);refine pr_ 12 18 (h:= ?_);refine tk_ 1 7 hHeld (hy:=hy6) (h:= ?_);refine tk_ 3 9 hHeld (hy:=hy6) (h:= ?_);refine tk_ 6 12 hHeld (hy:=hy6) (h:= ?_);refine tk_ 8 14 hHeld (hy:=hy6) (h:= ?_);refine tk_ 11 17 hHeld (hy:=hy6) (h:= ?_);refine tk_ 13 19 hHeld (hy:=hy6) (h:= ?_);refine on_ 4 10 (h:=fun K hK=> ?_);refine gR Tryz.func124 (jG.calls (hG:=HG.out.below (pkL HB)) (h:=A3.out)) (h:= ?_);intro J7 hb;replace l9:=pkK l9 hb;replace o5:=pkK o5 hb;replace o6:=pkK o6 hb;replace HB:=pkB HB hb
 clear hb;refine hK.out _ _ (pc3 l9 (pcL o5)) (fun hHeld=> ?_);clear hK K;refine nm_ (h:= ?_);refine on_ 9 15 (h:=fun K hK=> ?_);refine gR Tryz.func124 (jG.calls (hG:=HG.out.below (pkL HB)) (h:=A4.out)) (h:= ?_);intro J8 hb;replace l9:=pkK l9 hb;replace o5:=pkK o5 hb;replace o6:=pkK o6 hb;replace HB:=pkB HB hb
 clear hb;refine hK.out _ _ (pc3 l9 (pcL o5)) (fun hHeld=> ?_);clear hK K;refine nm_ (h:= ?_);refine on_ 14 20 (h:=fun K hK=> ?_);refine gR Tryz.func124 (jG.calls (hG:=HG.out.below (pkL HB)) (h:=A5.out)) (h:= ?_);intro J9 hb;replace l9:=pkK l9 hb;replace o5:=pkK o5 hb;replace o6:=pkK o6 hb;replace HB:=pkB HB hb
 clear hb;refine hK.out _ _ (pc3 l9 (pcL o5)) (fun hHeld=> ?_);clear hK K;refine nm_ (h:= ?_);refine on_ 15 21 (h:=fun K hK=> ?_);refine gR Tryz.func110 (fU.calls (hG:=HG.out.below (pkL HB)) (h:=A6.out)) (h:= ?_);intro L6 hb;replace l9:=pkK l9 hb;replace o5:=pkK o5 hb;replace o6:=pkK o6 hb;replace HB:=pkB HB hb
 clear hb;refine hK.out _ _ (pc3 l9 (pcL o5)) (fun hHeld=> ?_);clear hK K;refine nm_ (h:= ?_);refine on_ 16 22 (h:=fun K hK=> ?_);refine gR Tryz.func110 (fU.calls (hG:=HG.out.below (pkL HB)) (h:=A7.out)) (h:= ?_);intro L8 hb;replace l9:=pkK l9 hb;replace o5:=pkK o5 hb;replace o6:=pkK o6 hb;replace HB:=pkB HB hb
 clear hb;refine hK.out _ _ (pc3 l9 (pcL o5)) (fun hHeld=> ?_);clear hK K;refine nm_ (h:= ?_);refine pr_ 17 5 (h:= ?_);refine kY (lK HT_.out (by kernel_rfl)) ?_;have L9:=G9.out;have N7:=H5.out;have N8:=H9.out;have N9:=I4.out;obtain⟨⟨O0,O1,O3⟩,O4,O5,O6⟩:=pk3 l9;have O7:=I5.out;have O8:=I7.out;obtain⟨⟨O9,P7,P8⟩,P9,Q3,Q4⟩:=pk3 o5
 try go_wp2_with(first|((with_reducible refine aC (f:=124) rfl ?_);refine gM 28 Tryz.func124 (jG.calls (hG:=HG.out.below (pkL HB)) (h:=A8.out)) (h:= ?_);intro Q5 hb;replace l9:=pkK l9 hb;replace o5:=pkK o5 hb;replace o6:=pkK o6 hb;replace HB:=pkB HB hb;try clear hb)|((with_reducible refine aC (f:=109) rfl ?_);refine gM 29 Tryz.func109 (dS.calls (hG:=HG.out.below (pkL HB)) (h:=A9.out)) (h:= ?_);intro Q7 hb;replace l9:=pkK l9 hb;replace o5:=pkK o5 hb;replace o6:=pkK o6 hb;replace HB:=pkB HB hb;try clear hb;obtain⟨⟨Q8,Q9,S9⟩,U3,U4,U5⟩:=pk3 o6))
 refine bodyPost_ret (results_cell_row rfl _ _ H6 36 #[.bool F9,.string G5,.string G6] (0,0) _ rfl (pkS3 o6) Tryz.underlying36 rfl (by kernel_rfl)) rfl ?_;exact pkE HB
def lL.f(a0:ByteArray)(a1:ByteArray)(a2:ByteArray):Option (ByteArray×Int):=(jO.f a0 a2).bind fun bt298=>(if bt298.2=0 then((jO.f a1 a2).bind fun bt300=>(if bt300.2=0 then((jQ.f bt298.1 bt300.1).bind fun t302=>((jO.f t302 a2).bind fun bt303=>(some (bt303.1,bt303.2)))) else(some ((⟨#[]⟩:ByteArray),bt300.2)))) else(some ((⟨#[]⟩:ByteArray),bt298.2)))
theorem lL.calls(a0:ByteArray)(a1:ByteArray)(a2:ByteArray)(r1:ByteArray)(r2:Int)(w:World)(hG:GW w)(h:lL.f a0 a1 a2=some (r1,r2)) :
 Calls Tryz.prog 132 #[.string a0,.string a1,.string a2] w fun e w'=>e= .returned (.tuple #[.string r1,.int .i64 r2])∧Below w.heap.size w w':=by
 have HG:=aA.mk hG;clear hG;have HB:=aA.mk (Below.refl w.heap.size w);have H:((jO.f a0 a2).bind fun l9=>(if l9.2=0 then((jO.f a1 a2).bind fun o5=>(if o5.2=0 then((jQ.f l9.1 o5.1).bind fun o6=>((jO.f o6 a2).bind fun o7=>(some (o7.1,o7.2)))) else(some ((⟨#[]⟩:ByteArray),o5.2)))) else(some ((⟨#[]⟩:ByteArray),l9.2))))=some (r1,r2):=h;clear h;obtain⟨⟨D6,o8⟩,A4,H⟩:=bi H;try dsimp only at H
 go_enter Tryz.func132,Tryz.ntmps132
 refine byC (P:=o8=0) (fun c5=> ?a1) (fun c5=> ?b1)
 case' a1=>
  rw[if_pos c5] at H;obtain⟨o9,y8⟩:=bT c5;clear c5;obtain⟨⟨D7,y9⟩,A6,H⟩:=bi H;try dsimp only at H
  refine byC (P:=y9=0) (fun c7=> ?a2) (fun c7=> ?b2)
  case' a2=>
   rw[if_pos c7] at H;obtain⟨C9,D5⟩:=bT c7;clear c7;obtain⟨o6,A8,H⟩:=bi H;try dsimp only at H
   obtain⟨⟨D8,D9⟩,A9,H⟩:=bi H;try dsimp only at H
   simp only[Option.some.injEq,Prod.mk.injEq] at H;obtain⟨rfl,rfl⟩:=H
  case' b2=>
   rw[if_neg c7] at H;obtain⟨C9,D5⟩:=bF c7;simp only[Option.some.injEq,Prod.mk.injEq] at H;obtain⟨rfl,rfl⟩:=H
 case' b1=>
  rw[if_neg c5] at H;obtain⟨o9,y8⟩:=bF c5;simp only[Option.some.injEq,Prod.mk.injEq] at H;obtain⟨rfl,rfl⟩:=H
 all_goals
  go_wp2_with(first|((with_reducible refine aC (f:=20) rfl ?_);refine gM 14 Tryz.func20 (jO.calls (hG:=HG.out.below (pkL HB)) (h:=A4.out)) (h:= ?_);intro E8 hb;replace HB:=pkB HB hb;try clear hb)|((with_reducible refine aC (f:=20) rfl ?_);refine gM 23 Tryz.func20 (jO.calls (hG:=HG.out.below (pkL HB)) (h:=A6.out)) (h:= ?_);intro F5 hb;replace HB:=pkB HB hb;try clear hb)|((with_reducible refine aC (f:=111) rfl ?_);refine gM 31 Tryz.func111 (jQ.calls (hG:=HG.out.below (pkL HB)) (h:=A8.out)) (h:= ?_);intro F6 hb;replace HB:=pkB HB hb;try clear hb)|((with_reducible refine aC (f:=20) rfl ?_);refine gM 33 Tryz.func20 (jO.calls (hG:=HG.out.below (pkL HB)) (h:=A9.out)) (h:= ?_);intro F7 hb;replace HB:=pkB HB hb;try clear hb))
  go_ret2
  exact pkE HB
end Go.Proofs.YtignanmmgaldeaaGreatDoor.PCongI
end
section
set_option linter.unusedVariables false
set_option linter.unusedSimpArgs false
set_option maxHeartbeats 8000000
set_option maxRecDepth 100000
namespace Go.Proofs.YtignanmmgaldeaaGreatDoor.PCongI
open Go.RowKit Go.Proofs.YtignanmmgaldeaaGreatDoorW.PrintWords Go.Proofs.YtignanmmgaldeaaGreatDoorW.PrintLast Go.Proofs.YtignanmmgaldeaaGreatDoorW.PrintMore
attribute [local go_sem] dQ dR eH eP
attribute [local go_sem high] yJ
def bM.j0(g:Bool→ByteArray→ByteArray→Bool→ByteArray→ByteArray→Option (Bool×ByteArray×ByteArray)):Nat→Bool→Bool→ByteArray→ByteArray→Bool→ByteArray→ByteArray→Option (Bool×ByteArray×ByteArray×Int)
 |0,_,_,_,_,_,_,_=>none
 |k+1,x21,x102000,x102001,x102002,x103000,x103001,x103002=>if x21=true then((kZ.f).bind fun bt105=>(some (bt105.1,bt105.2.1,bt105.2.2,0))) else((g x102000 x102001 x102002 x103000 x103001 x103002).bind fun bt108=>(some (bt108.1,bt108.2.1,bt108.2.2,0)))
def bM.f(g:Bool→ByteArray→ByteArray→Bool→ByteArray→ByteArray→Option (Bool×ByteArray×ByteArray))(k:Nat)(a1_0:Bool)(a1_1:ByteArray)(a1_2:ByteArray)(a2_0:Bool)(a2_1:ByteArray)(a2_2:ByteArray):Option (Bool×ByteArray×ByteArray×Int):=(jP.f k a1_0 a1_1 a1_2 a2_0 a2_1 a2_2).bind fun t104=>(if t104=0 then(if a1_0=true then(bM.j0 g k true a1_0 a1_1 a1_2 a2_0 a2_1 a2_2) else(bM.j0 g k a2_0 a1_0 a1_1 a1_2 a2_0 a2_1 a2_2)) else(some (false,(⟨#[]⟩:ByteArray),(⟨#[]⟩:ByteArray),t104)))
theorem bM.calls(k:Nat)(F:FuncId)(fn:Func)(hF:Tryz.prog.funcs[F]? =some fn)(hFn:(fn.name== "runtime.NumGoroutine")=false)(hFb:fn.body.isSome=true)(g:Bool→ByteArray→ByteArray→Bool→ByteArray→ByteArray→Option (Bool×ByteArray×ByteArray))(gc:∀(a0:Bool) (a1 a2:ByteArray) (b0:Bool) (b1 b2:ByteArray) (r1:Bool) (r2 r3:ByteArray) (w:World) (hG:GW w) (h:g a0 a1 a2 b0 b1 b2=some (r1,r2,r3)),Calls Tryz.prog F #[.agg #[.bool a0,.string a1,.string a2],.agg #[.bool b0,.string b1,.string b2]] w fun e w'=>e= .returned (.agg #[.bool r1,.string r2,.string r3])∧Below w.heap.size w w')(o8:Bool)(y8:ByteArray)(y9:ByteArray)(o9:Bool)(C9:ByteArray)(D5:ByteArray)(r1:Bool)(r2:ByteArray)(r3:ByteArray)(r4:Int)(w:World)(hG:GW w)(h:bM.f g k o8 y8 y9 o9 C9 D5=some (r1,r2,r3,r4)) :
 Calls Tryz.prog 101 #[.func (.func F) #[] #[],.agg #[.bool o8,.string y8,.string y9],.agg #[.bool o9,.string C9,.string D5]] w fun e w'=>e= .returned (.tuple #[.agg #[.bool r1,.string r2,.string r3],.int .i64 r4])∧Below w.heap.size w w':=by
 have HG:=aA.mk hG;clear hG;have hu36:=Tryz.underlying36;have HB:=aA.mk (Below.refl w.heap.size w);have H:((jP.f k o8 y8 y9 o9 C9 D5).bind fun F7=>(if F7=0 then(if o8=true then(bM.j0 g k true o8 y8 y9 o9 C9 D5) else(bM.j0 g k o9 o8 y8 y9 o9 C9 D5)) else(some (false,(⟨#[]⟩:ByteArray),(⟨#[]⟩:ByteArray),F7))))=some (r1,r2,r3,r4):=h;clear h;obtain⟨F7,A4,H⟩:=bi H;try dsimp only at H
 by_cases c5:F7=0
 ·rw[if_pos c5] at H
  obtain⟨H5,H6⟩:=bT c5;clear c5;have G6:=aA.mk H;clear H;go_enter Tryz.func101,Tryz.ntmps101
  go_upto_region 4 with (first|((with_reducible refine aG (N:=4) rfl ?_);refine bx_ 4 36 #[.bool o8,.string y8,.string y9] (h:= ?_);intro H7 hg w7 o7 hb;have l9:=aA.mk (o7);have G7:=pkG HB hg;have I7:=G7;replace HB:=pkB HB hb;clear hb o7 hg)|((with_reducible refine aG (N:=5) rfl ?_);refine bx_ 5 36 #[.bool o9,.string C9,.string D5] (h:= ?_);intro H8 hg w8 o7 hb;have o5:=aA.mk (o7);have G8:=pkG HB hg;have I8:=G8;obtain⟨D8,D9,_,_⟩:=pkQ l9 hg;replace l9:=pkK l9 hb;replace HB:=pkB HB hb;clear hb o7 hg)|((with_reducible refine aG (N:=6) rfl ?_);refine bx_ 6 36 #[.bool false,.string (⟨#[]⟩:ByteArray),.string (⟨#[]⟩:ByteArray)] (h:= ?_);intro F6 hg w9 o7 hb;have o6:=aA.mk (o7);have G9:=pkG HB hg;have I9:=G9;obtain⟨D6,D7,_,_⟩:=pkQ l9 hg;obtain⟨E8,F5,_,_⟩:=pkQ o5 hg;replace l9:=pkK l9 hb;replace o5:=pkK o5 hb;replace HB:=pkB HB hb;clear hb o7 hg;have O5:=D8.out;have O6:=D9.out;have O7:=D6.out;have O8:=D7.out;obtain⟨⟨J3,J4,J5⟩,J6,J7,J8⟩:=pk3 l9;have O9:=E8.out;have P7:=F5.out;obtain⟨⟨J9,L6,L8⟩,L9,N7,N8⟩:=pk3 o5)|((with_reducible refine aC (f:=106) rfl ?_);refine gM 11 Tryz.func106 (jP.calls (w:=_) (h:=A4.out)) (h:= ?_);intro P8 hb;replace l9:=pkK l9 hb;replace o5:=pkK o5 hb;replace o6:=pkK o6 hb;replace HB:=pkB HB hb;try clear hb))
  (try simp only[Act.put,List.setIfInBounds_toArray,List.set_cons_zero,List.set_cons_succ])
  go_cut [21] (fun v21 wc=>∃(kq:Nat) (F8:Bool),v21= .bool F8∧aA (bM.j0 g kq F8 o8 y8 y9 o9 C9 D5=some (r1,r2,r3,r4))∧aA (kq≤k)∧aA (wc.heap[H7]? =some (.cells #[.bool o8,.string y8,.string y9] 36 (0,0)))∧aA (wc.heap[H8]? =some (.cells #[.bool o9,.string C9,.string D5] 36 (0,0)))∧aA (wc.heap[F6]? =some (.cells #[.bool false,.string (⟨#[]⟩:ByteArray),.string (⟨#[]⟩:ByteArray)] 36 (0,0)))∧aA (Below w.heap.size w wc))
  case first=>
   have H:=G6.out;clear G6
   by_cases F9:o8=true
   ·subst F9
    rw[if_pos rfl] at H;have H':=aA.mk H;clear H;have P9:=D8.out;have Q3:=D9.out;have Q4:=D6.out;have Q5:=D7.out;obtain⟨⟨Q7,Q8,Q9⟩,S9,U3,U4⟩:=pk3 l9;go_wp2
    go_meet
    case rel=>exact⟨_,(true),aG1,H',le_,⟨pkW l9⟩,⟨pkW o5⟩,⟨pkW o6⟩,⟨pkL HB⟩⟩
   ·replace F9:=Bool.eq_false_iff.mpr F9
    subst F9;rw[if_neg (show ¬(false=true) by decide)] at H;have H':=aA.mk H;clear H;have U5:=D8.out;have U6:=D9.out;have U7:=D6.out;have U8:=D7.out;obtain⟨⟨U9,V3,V4⟩,V5,V6,V7⟩:=pk3 l9;have V8:=E8.out;have V9:=F5.out;obtain⟨⟨X4,X5,X7⟩,X8,X9,Y0⟩:=pk3 o5;go_wp2
    go_meet
    case rel=>exact⟨_,(o9),aG1,H',le_,⟨pkW l9⟩,⟨pkW o5⟩,⟨pkW o6⟩,⟨pkL HB⟩⟩
  case rest=>
   clear G6 H5 H6 J3 J4 J5 J9 L6 L8 J6 J7 J8 L9 N7 N8;obtain⟨kq,F8,rfl,HA,Y4,l9,o5,o6,HB⟩:=hcut
   cases kq with
   |zero=>exact absurd HA.out (by simp[bM.j0])
   |succ kj5=>
    have H:=HA.out;clear HA;simp only[bM.j0] at H
    by_cases G5:F8=true
    ·subst G5
     rw[if_pos rfl] at H;obtain⟨⟨N9,O0,O1⟩,O3,H⟩:=bi H;try dsimp only at H
     simp only[Option.some.injEq,Prod.mk.injEq] at H;obtain⟨rfl,rfl,rfl,rfl⟩:=H
     go_wp2_with(first|((with_reducible refine aC (f:=176) rfl ?_);refine gM 22 Tryz.func176 (kZ.calls (w:=_) (h:=O3.out)) (h:= ?_);intro Y5 hb;replace l9:=pkK l9 hb;replace o5:=pkK o5 hb;replace o6:=pkK o6 hb;replace HB:=pkB HB hb;try clear hb;have Y7:=D7.out;have Y8:=D6.out;have Y9:=F5.out;have Z7:=E8.out;obtain⟨⟨Z8,Z9,ae⟩,af,ag,ah⟩:=pk3 o6))
     refine bodyPost_ret (gW rfl _ _ F6 36 #[.bool N9,.string O0,.string O1] (0,0) _ rfl (pkS3 o6) Tryz.underlying36 rfl (by kernel_rfl)) rfl ?_;exact pkE HB
    ·replace G5:=Bool.eq_false_iff.mpr G5
     subst G5;rw[if_neg (show ¬(false=true) by decide)] at H;obtain⟨⟨H9,I4,I5⟩,O4,H⟩:=bi H;try dsimp only at H
     simp only[Option.some.injEq,Prod.mk.injEq] at H;obtain⟨rfl,rfl,rfl,rfl⟩:=H;have ai:=D8.out;have aj:=D9.out;have ak:=D6.out;have au:=D7.out;obtain⟨⟨ax,ay,az⟩,bn,df,dh⟩:=pk3 l9;have di:=E8.out;have dw:=F5.out;obtain⟨⟨eu,gm,gp⟩,gq,gz,ig⟩:=pk3 o5
     go_wp2_with(first|((with_reducible refine aAx (p:=23) rfl ?_);refine goesV_ (some 26) rfl rfl hF hFn hFb #[.agg #[.bool o8,.string y8,.string y9],.agg #[.bool o9,.string C9,.string D5]] rfl rfl (by(try simp only[List.map_toArray,List.map_cons,List.map_nil]);first|done|rfl|(simp only[List.length_drop,List.length_take];rfl)) ?_;(with_reducible refine(gc (hG:=HG.out.below (pkL HB)) o8 y8 y9 o9 C9 D5 H9 I4 I5 _ O4.out).mono ?_);rintro e ik ⟨rfl,hb⟩;refine⟨_,rfl,?_⟩;replace l9:=pkK l9 hb;replace o5:=pkK o5 hb;replace o6:=pkK o6 hb;replace HB:=pkB HB hb;try clear hb;obtain⟨⟨iq,iw,ja⟩,jb,jc,jd⟩:=pk3 o6))
     refine bodyPost_ret (gW rfl _ _ F6 36 #[.bool H9,.string I4,.string I5] (0,0) _ rfl (pkS3 o6) Tryz.underlying36 rfl (by kernel_rfl)) rfl ?_;exact pkE HB
 ·rw[if_neg c5] at H
  obtain⟨H5,H6⟩:=bF c5;simp only[Option.some.injEq,Prod.mk.injEq] at H;obtain⟨rfl,rfl,rfl,rfl⟩:=H;go_enter Tryz.func101,Tryz.ntmps101
  go_wp2_with(first|((with_reducible refine aG (N:=4) rfl ?_);refine bx_ 4 36 #[.bool o8,.string y8,.string y9] (h:= ?_);intro H7 hg je o7 hb;have l9:=aA.mk (o7);have G7:=pkG HB hg;have I7:=G7;replace HB:=pkB HB hb;clear hb o7 hg)|((with_reducible refine aG (N:=5) rfl ?_);refine bx_ 5 36 #[.bool o9,.string C9,.string D5] (h:= ?_);intro H8 hg jf o7 hb;have o5:=aA.mk (o7);have G8:=pkG HB hg;have I8:=G8;obtain⟨D8,D9,_,_⟩:=pkQ l9 hg;replace l9:=pkK l9 hb;replace HB:=pkB HB hb;clear hb o7 hg)|((with_reducible refine aG (N:=6) rfl ?_);refine bx_ 6 36 #[.bool false,.string (⟨#[]⟩:ByteArray),.string (⟨#[]⟩:ByteArray)] (h:= ?_);intro F6 hg jg o7 hb;have o6:=aA.mk (o7);have G9:=pkG HB hg;have I9:=G9;obtain⟨D6,D7,_,_⟩:=pkQ l9 hg;obtain⟨E8,F5,_,_⟩:=pkQ o5 hg;replace l9:=pkK l9 hb;replace o5:=pkK o5 hb;replace HB:=pkB HB hb;clear hb o7 hg;have jh:=D8.out;have ji:=D9.out;have jk:=D6.out;have jl:=D7.out;obtain⟨⟨jm,jo,jq⟩,jr,jw,jy⟩:=pk3 l9;have ku:=E8.out;have kw:=F5.out;obtain⟨⟨kz,lg,lh⟩,lq,lu,lw⟩:=pk3 o5)|((with_reducible refine aC (f:=106) rfl ?_);refine gM 11 Tryz.func106 (jP.calls (w:=_) (h:=A4.out)) (h:= ?_);intro mf hb;replace l9:=pkK l9 hb;replace o5:=pkK o5 hb;replace o6:=pkK o6 hb;replace HB:=pkB HB hb;try clear hb;obtain⟨⟨mg,mi,mr⟩,ng,ni,nz⟩:=pk3 o6))
  refine bodyPost_ret (gW rfl _ _ F6 36 #[.bool false,.string (⟨#[]⟩:ByteArray),.string (⟨#[]⟩:ByteArray)] (0,0) _ rfl (pkS3 o6) Tryz.underlying36 rfl (by kernel_rfl)) rfl ?_;exact pkE HB
def vG.f(k:Nat)(a0_0:Bool)(a0_1:ByteArray)(a0_2:ByteArray)(a1_0:Bool)(a1_1:ByteArray)(a1_2:ByteArray):Option (Bool×ByteArray×ByteArray×Int):=(bM.f (jI.f k) k a0_0 a0_1 a0_2 a1_0 a1_1 a1_2).bind fun bt114=>(some (bt114.1,bt114.2.1,bt114.2.2.1,bt114.2.2.2))
theorem vG.calls(k:Nat)(o6:Bool)(o7:ByteArray)(o8:ByteArray)(o9:Bool)(y8:ByteArray)(y9:ByteArray)(r1:Bool)(r2:ByteArray)(r3:ByteArray)(r4:Int)(w:World)(hG:GW w)(h:vG.f k o6 o7 o8 o9 y8 y9=some (r1,r2,r3,r4)) :
 Calls Tryz.prog 50 #[.agg #[.bool o6,.string o7,.string o8],.agg #[.bool o9,.string y8,.string y9]] w fun e w'=>e= .returned (.tuple #[.agg #[.bool r1,.string r2,.string r3],.int .i64 r4])∧Below w.heap.size w w':=by
 have HG:=aA.mk hG;clear hG;have hu36:=Tryz.underlying36;have HB:=aA.mk (Below.refl w.heap.size w);have H:((bM.f (jI.f k) k o6 o7 o8 o9 y8 y9).bind fun D5=>(some (D5.1,D5.2.1,D5.2.2.1,D5.2.2.2)))=some (r1,r2,r3,r4):=h;clear h;obtain⟨⟨D7,D8,D9,E8⟩,A3,H⟩:=bi H;try dsimp only at H
 simp only[Option.some.injEq,Prod.mk.injEq] at H;obtain⟨rfl,rfl,rfl,rfl⟩:=H;go_enter Tryz.func50,Tryz.ntmps50
 go_wp2_with(first|((with_reducible refine aG (N:=2) rfl ?_);refine bx_ 2 36 #[.bool o6,.string o7,.string o8] (h:= ?_);intro H5 hg w4 o5 hb;have l9:=aA.mk (o5);have F5:=pkG HB hg;have H6:=F5;replace HB:=pkB HB hb;clear hb o5 hg)|((with_reducible refine aG (N:=3) rfl ?_);refine bx_ 3 36 #[.bool o9,.string y8,.string y9] (h:= ?_);intro H7 hg w5 o5 hb;have C9:=aA.mk (o5);have F6:=pkG HB hg;have H8:=F6;obtain⟨F7,F8,_,_⟩:=pkQ l9 hg;replace l9:=pkK l9 hb;replace HB:=pkB HB hb;clear hb o5 hg)|((with_reducible refine aG (N:=4) rfl ?_);refine bx_ 4 36 #[.bool false,.string (⟨#[]⟩:ByteArray),.string (⟨#[]⟩:ByteArray)] (h:= ?_);intro F9 hg w6 o5 hb;have D6:=aA.mk (o5);have G5:=pkG HB hg;have H9:=G5;obtain⟨G6,G7,_,_⟩:=pkQ l9 hg;obtain⟨G8,G9,_,_⟩:=pkQ C9 hg;replace l9:=pkK l9 hb;replace C9:=pkK C9 hb;replace HB:=pkB HB hb;clear hb o5 hg;have I4:=F7.out;have I5:=F8.out;have I7:=G6.out;have I8:=G7.out;obtain⟨⟨I9,J3,J4⟩,J5,J6,J7⟩:=pk3 l9;have J8:=G8.out;have J9:=G9.out;obtain⟨⟨L6,L8,L9⟩,N7,N8,N9⟩:=pk3 C9)|((with_reducible refine aC (f:=101) rfl ?_);refine gl_ 10 Tryz.func101 #[.func (.func 118) #[] #[],.agg #[.bool o6,.string o7,.string o8],.agg #[.bool o9,.string y8,.string y9]] (h:= ?_);(with_reducible refine(bM.calls (hG:=HG.out.below (pkL HB)) k 118 Tryz.f118 Tryz.func118 (by kernel_rfl) rfl (jI.f k) (fun a0 a1 a2 b0 b1 b2 r1 r2 r3 w hG h=>jI.calls (hG:=hG) k a0 a1 a2 b0 b1 b2 r1 r2 r3 w h) o6 o7 o8 o9 y8 y9 D7 D8 D9 E8 _ A3.out).mono ?_);rintro e O0 ⟨rfl,hb⟩;refine⟨_,rfl,?_⟩;replace l9:=pkK l9 hb;replace C9:=pkK C9 hb;replace D6:=pkK D6 hb;replace HB:=pkB HB hb;try clear hb;obtain⟨⟨O1,O3,O4⟩,O5,O6,O7⟩:=pk3 D6))
 refine bodyPost_ret (gW rfl _ _ F9 36 #[.bool D7,.string D8,.string D9] (0,0) _ rfl (pkS3 D6) Tryz.underlying36 rfl (by kernel_rfl)) rfl ?_;exact pkE HB
def vH.f(k:Nat)(a0_0:Bool)(a0_1:ByteArray)(a0_2:ByteArray)(a1_0:Bool)(a1_1:ByteArray)(a1_2:ByteArray):Option (Bool×ByteArray×ByteArray×Int):=(bM.f (jJ.f k) k a0_0 a0_1 a0_2 a1_0 a1_1 a1_2).bind fun bt128=>(some (bt128.1,bt128.2.1,bt128.2.2.1,bt128.2.2.2))
theorem vH.calls(k:Nat)(o6:Bool)(o7:ByteArray)(o8:ByteArray)(o9:Bool)(y8:ByteArray)(y9:ByteArray)(r1:Bool)(r2:ByteArray)(r3:ByteArray)(r4:Int)(w:World)(hG:GW w)(h:vH.f k o6 o7 o8 o9 y8 y9=some (r1,r2,r3,r4)) :
 Calls Tryz.prog 54 #[.agg #[.bool o6,.string o7,.string o8],.agg #[.bool o9,.string y8,.string y9]] w fun e w'=>e= .returned (.tuple #[.agg #[.bool r1,.string r2,.string r3],.int .i64 r4])∧Below w.heap.size w w':=by
 have HG:=aA.mk hG;clear hG;have hu36:=Tryz.underlying36;have HB:=aA.mk (Below.refl w.heap.size w);have H:((bM.f (jJ.f k) k o6 o7 o8 o9 y8 y9).bind fun D5=>(some (D5.1,D5.2.1,D5.2.2.1,D5.2.2.2)))=some (r1,r2,r3,r4):=h;clear h;obtain⟨⟨D7,D8,D9,E8⟩,A3,H⟩:=bi H;try dsimp only at H
 simp only[Option.some.injEq,Prod.mk.injEq] at H;obtain⟨rfl,rfl,rfl,rfl⟩:=H;go_enter Tryz.func54,Tryz.ntmps54
 go_wp2_with(first|((with_reducible refine aG (N:=2) rfl ?_);refine bx_ 2 36 #[.bool o6,.string o7,.string o8] (h:= ?_);intro H5 hg w4 o5 hb;have l9:=aA.mk (o5);have F5:=pkG HB hg;have H6:=F5;replace HB:=pkB HB hb;clear hb o5 hg)|((with_reducible refine aG (N:=3) rfl ?_);refine bx_ 3 36 #[.bool o9,.string y8,.string y9] (h:= ?_);intro H7 hg w5 o5 hb;have C9:=aA.mk (o5);have F6:=pkG HB hg;have H8:=F6;obtain⟨F7,F8,_,_⟩:=pkQ l9 hg;replace l9:=pkK l9 hb;replace HB:=pkB HB hb;clear hb o5 hg)|((with_reducible refine aG (N:=4) rfl ?_);refine bx_ 4 36 #[.bool false,.string (⟨#[]⟩:ByteArray),.string (⟨#[]⟩:ByteArray)] (h:= ?_);intro F9 hg w6 o5 hb;have D6:=aA.mk (o5);have G5:=pkG HB hg;have H9:=G5;obtain⟨G6,G7,_,_⟩:=pkQ l9 hg;obtain⟨G8,G9,_,_⟩:=pkQ C9 hg;replace l9:=pkK l9 hb;replace C9:=pkK C9 hb;replace HB:=pkB HB hb;clear hb o5 hg;have I4:=F7.out;have I5:=F8.out;have I7:=G6.out;have I8:=G7.out;obtain⟨⟨I9,J3,J4⟩,J5,J6,J7⟩:=pk3 l9;have J8:=G8.out;have J9:=G9.out;obtain⟨⟨L6,L8,L9⟩,N7,N8,N9⟩:=pk3 C9)|((with_reducible refine aC (f:=101) rfl ?_);refine gl_ 10 Tryz.func101 #[.func (.func 123) #[] #[],.agg #[.bool o6,.string o7,.string o8],.agg #[.bool o9,.string y8,.string y9]] (h:= ?_);(with_reducible refine(bM.calls (hG:=HG.out.below (pkL HB)) k 123 Tryz.f123 Tryz.func123 (by kernel_rfl) rfl (jJ.f k) (fun a0 a1 a2 b0 b1 b2 r1 r2 r3 w hG h=>jJ.calls (hG:=hG) k a0 a1 a2 b0 b1 b2 r1 r2 r3 w h) o6 o7 o8 o9 y8 y9 D7 D8 D9 E8 _ A3.out).mono ?_);rintro e O0 ⟨rfl,hb⟩;refine⟨_,rfl,?_⟩;replace l9:=pkK l9 hb;replace C9:=pkK C9 hb;replace D6:=pkK D6 hb;replace HB:=pkB HB hb;try clear hb;obtain⟨⟨O1,O3,O4⟩,O5,O6,O7⟩:=pk3 D6))
 refine bodyPost_ret (gW rfl _ _ F9 36 #[.bool D7,.string D8,.string D9] (0,0) _ rfl (pkS3 D6) Tryz.underlying36 rfl (by kernel_rfl)) rfl ?_;exact pkE HB
def tK.f(k:Nat)(a0_0:Bool)(a0_1:ByteArray)(a0_2:ByteArray)(a1_0:Bool)(a1_1:ByteArray)(a1_2:ByteArray):Option (Bool×ByteArray×ByteArray×Int):=(bM.f (fD.f k) k a0_0 a0_1 a0_2 a1_0 a1_1 a1_2).bind fun bt201=>(some (bt201.1,bt201.2.1,bt201.2.2.1,bt201.2.2.2))
theorem tK.calls(k:Nat)(o6:Bool)(o7:ByteArray)(o8:ByteArray)(o9:Bool)(y8:ByteArray)(y9:ByteArray)(r1:Bool)(r2:ByteArray)(r3:ByteArray)(r4:Int)(w:World)(hG:GW w)(h:tK.f k o6 o7 o8 o9 y8 y9=some (r1,r2,r3,r4)) :
 Calls Tryz.prog 44 #[.agg #[.bool o6,.string o7,.string o8],.agg #[.bool o9,.string y8,.string y9]] w fun e w'=>e= .returned (.tuple #[.agg #[.bool r1,.string r2,.string r3],.int .i64 r4])∧Below w.heap.size w w':=by
 have HG:=aA.mk hG;clear hG;have hu36:=Tryz.underlying36;have HB:=aA.mk (Below.refl w.heap.size w);have H:((bM.f (fD.f k) k o6 o7 o8 o9 y8 y9).bind fun D5=>(some (D5.1,D5.2.1,D5.2.2.1,D5.2.2.2)))=some (r1,r2,r3,r4):=h;clear h;obtain⟨⟨D7,D8,D9,E8⟩,A3,H⟩:=bi H;try dsimp only at H
 simp only[Option.some.injEq,Prod.mk.injEq] at H;obtain⟨rfl,rfl,rfl,rfl⟩:=H;go_enter Tryz.func44,Tryz.ntmps44
 go_wp2_with(first|((with_reducible refine aG (N:=2) rfl ?_);refine bx_ 2 36 #[.bool o6,.string o7,.string o8] (h:= ?_);intro H5 hg w4 o5 hb;have l9:=aA.mk (o5);have F5:=pkG HB hg;have H6:=F5;replace HB:=pkB HB hb;clear hb o5 hg)|((with_reducible refine aG (N:=3) rfl ?_);refine bx_ 3 36 #[.bool o9,.string y8,.string y9] (h:= ?_);intro H7 hg w5 o5 hb;have C9:=aA.mk (o5);have F6:=pkG HB hg;have H8:=F6;obtain⟨F7,F8,_,_⟩:=pkQ l9 hg;replace l9:=pkK l9 hb;replace HB:=pkB HB hb;clear hb o5 hg)|((with_reducible refine aG (N:=4) rfl ?_);refine bx_ 4 36 #[.bool false,.string (⟨#[]⟩:ByteArray),.string (⟨#[]⟩:ByteArray)] (h:= ?_);intro F9 hg w6 o5 hb;have D6:=aA.mk (o5);have G5:=pkG HB hg;have H9:=G5;obtain⟨G6,G7,_,_⟩:=pkQ l9 hg;obtain⟨G8,G9,_,_⟩:=pkQ C9 hg;replace l9:=pkK l9 hb;replace C9:=pkK C9 hb;replace HB:=pkB HB hb;clear hb o5 hg;have I4:=F7.out;have I5:=F8.out;have I7:=G6.out;have I8:=G7.out;obtain⟨⟨I9,J3,J4⟩,J5,J6,J7⟩:=pk3 l9;have J8:=G8.out;have J9:=G9.out;obtain⟨⟨L6,L8,L9⟩,N7,N8,N9⟩:=pk3 C9)|((with_reducible refine aC (f:=101) rfl ?_);refine gl_ 8 Tryz.func101 #[.func (.func 113) #[] #[],.agg #[.bool o6,.string o7,.string o8],.agg #[.bool o9,.string y8,.string y9]] (h:= ?_);(with_reducible refine(bM.calls (hG:=HG.out.below (pkL HB)) k 113 Tryz.f113 Tryz.func113 (by kernel_rfl) rfl (fD.f k) (fun a0 a1 a2 b0 b1 b2 r1 r2 r3 w hG h=>fD.calls (hG:=hG) k a0 a1 a2 b0 b1 b2 r1 r2 r3 w h) o6 o7 o8 o9 y8 y9 D7 D8 D9 E8 _ A3.out).mono ?_);rintro e O0 ⟨rfl,hb⟩;refine⟨_,rfl,?_⟩;replace l9:=pkK l9 hb;replace C9:=pkK C9 hb;replace D6:=pkK D6 hb;replace HB:=pkB HB hb;try clear hb;obtain⟨⟨O1,O3,O4⟩,O5,O6,O7⟩:=pk3 D6))
 refine bodyPost_ret (gW rfl _ _ F9 36 #[.bool D7,.string D8,.string D9] (0,0) _ rfl (pkS3 D6) Tryz.underlying36 rfl (by kernel_rfl)) rfl ?_;exact pkE HB
def vI.f(k:Nat)(a0_0:Bool)(a0_1:ByteArray)(a0_2:ByteArray)(a1_0:Bool)(a1_1:ByteArray)(a1_2:ByteArray):Option (Bool×ByteArray×ByteArray×Int):=(bM.f (jV.f k) k a0_0 a0_1 a0_2 a1_0 a1_1 a1_2).bind fun bt237=>(some (bt237.1,bt237.2.1,bt237.2.2.1,bt237.2.2.2))
theorem vI.calls(k:Nat)(o6:Bool)(o7:ByteArray)(o8:ByteArray)(o9:Bool)(y8:ByteArray)(y9:ByteArray)(r1:Bool)(r2:ByteArray)(r3:ByteArray)(r4:Int)(w:World)(hG:GW w)(h:vI.f k o6 o7 o8 o9 y8 y9=some (r1,r2,r3,r4)) :
 Calls Tryz.prog 36 #[.agg #[.bool o6,.string o7,.string o8],.agg #[.bool o9,.string y8,.string y9]] w fun e w'=>e= .returned (.tuple #[.agg #[.bool r1,.string r2,.string r3],.int .i64 r4])∧Below w.heap.size w w':=by
 have HG:=aA.mk hG;clear hG;have hu36:=Tryz.underlying36;have HB:=aA.mk (Below.refl w.heap.size w);have H:((bM.f (jV.f k) k o6 o7 o8 o9 y8 y9).bind fun D5=>(some (D5.1,D5.2.1,D5.2.2.1,D5.2.2.2)))=some (r1,r2,r3,r4):=h;clear h;obtain⟨⟨D7,D8,D9,E8⟩,A3,H⟩:=bi H;try dsimp only at H
 simp only[Option.some.injEq,Prod.mk.injEq] at H;obtain⟨rfl,rfl,rfl,rfl⟩:=H;go_enter Tryz.func36,Tryz.ntmps36
 go_wp2_with(first|((with_reducible refine aG (N:=2) rfl ?_);refine bx_ 2 36 #[.bool o6,.string o7,.string o8] (h:= ?_);intro H5 hg w4 o5 hb;have l9:=aA.mk (o5);have F5:=pkG HB hg;have H6:=F5;replace HB:=pkB HB hb;clear hb o5 hg)|((with_reducible refine aG (N:=3) rfl ?_);refine bx_ 3 36 #[.bool o9,.string y8,.string y9] (h:= ?_);intro H7 hg w5 o5 hb;have C9:=aA.mk (o5);have F6:=pkG HB hg;have H8:=F6;obtain⟨F7,F8,_,_⟩:=pkQ l9 hg;replace l9:=pkK l9 hb;replace HB:=pkB HB hb;clear hb o5 hg)|((with_reducible refine aG (N:=4) rfl ?_);refine bx_ 4 36 #[.bool false,.string (⟨#[]⟩:ByteArray),.string (⟨#[]⟩:ByteArray)] (h:= ?_);intro F9 hg w6 o5 hb;have D6:=aA.mk (o5);have G5:=pkG HB hg;have H9:=G5;obtain⟨G6,G7,_,_⟩:=pkQ l9 hg;obtain⟨G8,G9,_,_⟩:=pkQ C9 hg;replace l9:=pkK l9 hb;replace C9:=pkK C9 hb;replace HB:=pkB HB hb;clear hb o5 hg;have I4:=F7.out;have I5:=F8.out;have I7:=G6.out;have I8:=G7.out;obtain⟨⟨I9,J3,J4⟩,J5,J6,J7⟩:=pk3 l9;have J8:=G8.out;have J9:=G9.out;obtain⟨⟨L6,L8,L9⟩,N7,N8,N9⟩:=pk3 C9)|((with_reducible refine aC (f:=101) rfl ?_);refine gl_ 8 Tryz.func101 #[.func (.func 100) #[] #[],.agg #[.bool o6,.string o7,.string o8],.agg #[.bool o9,.string y8,.string y9]] (h:= ?_);(with_reducible refine(bM.calls (hG:=HG.out.below (pkL HB)) k 100 Tryz.f100 Tryz.func100 (by kernel_rfl) rfl (jV.f k) (fun a0 a1 a2 b0 b1 b2 r1 r2 r3 w hG h=>jV.calls (hG:=hG) k a0 a1 a2 b0 b1 b2 r1 r2 r3 w h) o6 o7 o8 o9 y8 y9 D7 D8 D9 E8 _ A3.out).mono ?_);rintro e O0 ⟨rfl,hb⟩;refine⟨_,rfl,?_⟩;replace l9:=pkK l9 hb;replace C9:=pkK C9 hb;replace D6:=pkK D6 hb;replace HB:=pkB HB hb;try clear hb;obtain⟨⟨O1,O3,O4⟩,O5,O6,O7⟩:=pk3 D6))
 refine bodyPost_ret (gW rfl _ _ F9 36 #[.bool D7,.string D8,.string D9] (0,0) _ rfl (pkS3 D6) Tryz.underlying36 rfl (by kernel_rfl)) rfl ?_;exact pkE HB
def vJ.f(k:Nat)(a0_0:Bool)(a0_1:ByteArray)(a0_2:ByteArray)(a1_0:Bool)(a1_1:ByteArray)(a1_2:ByteArray):Option (Bool×ByteArray×ByteArray×Int):=(bM.f (fP.f k) k a0_0 a0_1 a0_2 a1_0 a1_1 a1_2).bind fun bt265=>(some (bt265.1,bt265.2.1,bt265.2.2.1,bt265.2.2.2))
theorem vJ.calls(k:Nat)(o6:Bool)(o7:ByteArray)(o8:ByteArray)(o9:Bool)(y8:ByteArray)(y9:ByteArray)(r1:Bool)(r2:ByteArray)(r3:ByteArray)(r4:Int)(w:World)(hG:GW w)(h:vJ.f k o6 o7 o8 o9 y8 y9=some (r1,r2,r3,r4)) :
 Calls Tryz.prog 38 #[.agg #[.bool o6,.string o7,.string o8],.agg #[.bool o9,.string y8,.string y9]] w fun e w'=>e= .returned (.tuple #[.agg #[.bool r1,.string r2,.string r3],.int .i64 r4])∧Below w.heap.size w w':=by
 have HG:=aA.mk hG;clear hG;have hu36:=Tryz.underlying36;have HB:=aA.mk (Below.refl w.heap.size w);have H:((bM.f (fP.f k) k o6 o7 o8 o9 y8 y9).bind fun D5=>(some (D5.1,D5.2.1,D5.2.2.1,D5.2.2.2)))=some (r1,r2,r3,r4):=h;clear h;obtain⟨⟨D7,D8,D9,E8⟩,A3,H⟩:=bi H;try dsimp only at H
 simp only[Option.some.injEq,Prod.mk.injEq] at H;obtain⟨rfl,rfl,rfl,rfl⟩:=H;go_enter Tryz.func38,Tryz.ntmps38
 go_wp2_with(first|((with_reducible refine aG (N:=2) rfl ?_);refine bx_ 2 36 #[.bool o6,.string o7,.string o8] (h:= ?_);intro H5 hg w4 o5 hb;have l9:=aA.mk (o5);have F5:=pkG HB hg;have H6:=F5;replace HB:=pkB HB hb;clear hb o5 hg)|((with_reducible refine aG (N:=3) rfl ?_);refine bx_ 3 36 #[.bool o9,.string y8,.string y9] (h:= ?_);intro H7 hg w5 o5 hb;have C9:=aA.mk (o5);have F6:=pkG HB hg;have H8:=F6;obtain⟨F7,F8,_,_⟩:=pkQ l9 hg;replace l9:=pkK l9 hb;replace HB:=pkB HB hb;clear hb o5 hg)|((with_reducible refine aG (N:=4) rfl ?_);refine bx_ 4 36 #[.bool false,.string (⟨#[]⟩:ByteArray),.string (⟨#[]⟩:ByteArray)] (h:= ?_);intro F9 hg w6 o5 hb;have D6:=aA.mk (o5);have G5:=pkG HB hg;have H9:=G5;obtain⟨G6,G7,_,_⟩:=pkQ l9 hg;obtain⟨G8,G9,_,_⟩:=pkQ C9 hg;replace l9:=pkK l9 hb;replace C9:=pkK C9 hb;replace HB:=pkB HB hb;clear hb o5 hg;have I4:=F7.out;have I5:=F8.out;have I7:=G6.out;have I8:=G7.out;obtain⟨⟨I9,J3,J4⟩,J5,J6,J7⟩:=pk3 l9;have J8:=G8.out;have J9:=G9.out;obtain⟨⟨L6,L8,L9⟩,N7,N8,N9⟩:=pk3 C9)|((with_reducible refine aC (f:=101) rfl ?_);refine gl_ 8 Tryz.func101 #[.func (.func 104) #[] #[],.agg #[.bool o6,.string o7,.string o8],.agg #[.bool o9,.string y8,.string y9]] (h:= ?_);(with_reducible refine(bM.calls (hG:=HG.out.below (pkL HB)) k 104 Tryz.f104 Tryz.func104 (by kernel_rfl) rfl (fP.f k) (fun a0 a1 a2 b0 b1 b2 r1 r2 r3 w hG h=>fP.calls (hG:=hG) k a0 a1 a2 b0 b1 b2 r1 r2 r3 w h) o6 o7 o8 o9 y8 y9 D7 D8 D9 E8 _ A3.out).mono ?_);rintro e O0 ⟨rfl,hb⟩;refine⟨_,rfl,?_⟩;replace l9:=pkK l9 hb;replace C9:=pkK C9 hb;replace D6:=pkK D6 hb;replace HB:=pkB HB hb;try clear hb;obtain⟨⟨O1,O3,O4⟩,O5,O6,O7⟩:=pk3 D6))
 refine bodyPost_ret (gW rfl _ _ F9 36 #[.bool D7,.string D8,.string D9] (0,0) _ rfl (pkS3 D6) Tryz.underlying36 rfl (by kernel_rfl)) rfl ?_;exact pkE HB
end Go.Proofs.YtignanmmgaldeaaGreatDoor.PCongI
end
section
set_option linter.unusedVariables false
namespace Go.Proofs.YtignanmmgaldeaaGreatDoorW.PrintWords
open Go.RowKit
section
variable {P:Program} {ops:Array Oper} {Q:Exit→Act→World→Prop}
theorem goesW_{rest:List Oper}{oi:Oper}{a:Act}{w:World}(N:Option Tmp)(hd:oi.dst=N)(hg:oi.guard=none){f:FuncId}{fn:Func}{c:Operand}{aFw:Array Operand}{ts:Array TypeId}{cap:Array Value}(hf:P.funcs[f]? =some fn)(hname:(fn.name== "runtime.NumGoroutine")=false)(hb:fn.body.isSome=true)(args full:Array Value)
 (hop:oi.op= .call {callee:= .value c,args:=aFw,argTypes:=ts}) (hc:a.eval c= .func (.func f) #[] cap) (hargs:aFw.map a.eval=args) (hfull:args++cap=full)
 (h:Calls P f full w fun e w'=>∃v,e= .returned v∧wpList P ops Q rest (a.put N v) w'):wpList P ops Q (oi::rest) a w:=by
 refine wpList_plain hg fun K hK=> ?_
 have he:=PrintLast.enters_ hf hname hb full w
 have hrun:(execOp a.eval oi).run P w= .ok (.enter f full) w:=by
  unfold execOp
  simp[hop,hc,resolve,Deferred.ofValue,invoke,hargs,hfull,he]
 unfold Oper.wp;rw[hrun,Oper.upon_enter];refine h.mono fun e w'' hh=> ?_
 obtain⟨v,rfl,hk⟩:=hh;subst hd;exact hK _ _ hk
end
theorem pk1{W:World}{g:Nat}{t:TypeId}{a:Value}(B:aA (W.heap[g]? =some (.cells #[a] t (0,0)))):W.cell? ⟨g,0,none⟩=some a∧W.frozen? ⟨g,0,none⟩=false:=⟨(fF B.out 0).trans rfl,eG B.out 0⟩
end Go.Proofs.YtignanmmgaldeaaGreatDoorW.PrintWords
end
section
set_option linter.unusedVariables false
set_option linter.unusedSimpArgs false
set_option maxHeartbeats 8000000
set_option maxRecDepth 100000
namespace Go.Proofs.YtignanmmgaldeaaGreatDoor.PCongI
open Go.RowKit Go.Proofs.YtignanmmgaldeaaGreatDoorW.PrintWords Go.Proofs.YtignanmmgaldeaaGreatDoorW.PrintLast Go.Proofs.YtignanmmgaldeaaGreatDoorW.PrintMore
attribute [local go_sem] dQ dR eH eP
def kW.f(k:Nat)(g1:ByteArray→ByteArray→Option (ByteArray×Int))(g2:ByteArray→Option Bool)(a0_0:Bool)(a0_1:ByteArray)(a0_2:ByteArray)(a1:ByteArray):Option (ByteArray×Int):=(dV.f k a0_0 a0_1 a0_2).bind fun t102=>(if t102=0 then((iQ.f a1).bind fun t103=>(if t103=0 then(if a0_0=true then(some ((⟨#[]⟩:ByteArray),16)) else(if a0_1.toList=([48]:List UInt8) then((g2 a0_2).bind fun t104=>(if t104=true then(some ((⟨#[]⟩:ByteArray),6)) else(some (a0_2,0)))) else((g1 a0_1 a0_2).bind fun bt105=>(some (bt105.1,bt105.2))))) else(some ((⟨#[]⟩:ByteArray),t103)))) else(some ((⟨#[]⟩:ByteArray),t102)))
theorem kW.calls(k:Nat)(F1 F2:FuncId)(fn1 fn2:Func)(hF1:Tryz.prog.funcs[F1]? =some fn1)(hF1n:(fn1.name== "runtime.NumGoroutine")=false)(hF1b:fn1.body.isSome=true)(hF2:Tryz.prog.funcs[F2]? =some fn2)(hF2n:(fn2.name== "runtime.NumGoroutine")=false)(hF2b:fn2.body.isSome=true)(gl:Nat)(lo:ByteArray)(g1:ByteArray→ByteArray→Option (ByteArray×Int))(g2:ByteArray→Option Bool)(gc1:∀(m r t:ByteArray) (u:Int) (w:World) (hG:GW w) (hL:w.heap[gl]? =some (.cells #[.string lo] 22 (0,0))) (h:g1 m r=some (t,u)),Calls Tryz.prog F1 #[.string m,.string r,.pointer (some ⟨gl,0,none⟩)] w fun e w'=>e= .returned (.tuple #[.string t,.int .i64 u])∧Below w.heap.size w w')(gc2:∀(r:ByteArray) (b:Bool) (w:World) (hG:GW w) (hL:w.heap[gl]? =some (.cells #[.string lo] 22 (0,0))) (h:g2 r=some b),Calls Tryz.prog F2 #[.string r,.pointer (some ⟨gl,0,none⟩)] w fun e w'=>e= .returned (.bool b)∧Below w.heap.size w w')(o8:Bool)(o6:ByteArray)(o5:ByteArray)(a1:ByteArray)(r1:ByteArray)(r2:Int)(w:World)(hL:w.heap[gl]? =some (.cells #[.string lo] 22 (0,0)))(hG:GW w)(h:kW.f k g1 g2 o8 o6 o5 a1=some (r1,r2)) :
 Calls Tryz.prog 130 #[.agg #[.bool o8,.string o6,.string o5],.string a1,.func (.func F1) #[] #[.pointer (some ⟨gl,0,none⟩)],.func (.func F2) #[] #[.pointer (some ⟨gl,0,none⟩)]] w fun e w'=>e= .returned (.tuple #[.string r1,.int .i64 r2])∧Below w.heap.size w w':=by
 have HG:=aA.mk hG;clear hG;have hu36:=Tryz.underlying36;have HB:=aA.mk (Below.refl w.heap.size w);have H:((dV.f k o8 o6 o5).bind fun o9=>(if o9=0 then((iQ.f a1).bind fun y8=>(if y8=0 then(if o8=true then(some ((⟨#[]⟩:ByteArray),16)) else(if o6.toList=([48]:List UInt8) then((g2 o5).bind fun D8=>(if D8=true then(some ((⟨#[]⟩:ByteArray),6)) else(some (o5,0)))) else((g1 o6 o5).bind fun D9=>(some (D9.1,D9.2))))) else(some ((⟨#[]⟩:ByteArray),y8)))) else(some ((⟨#[]⟩:ByteArray),o9))))=some (r1,r2):=h;clear h;replace H:=Option.bind_eq_some_iff.mp H;obtain⟨o9,E8,H⟩:=H;try dsimp only at H
 have A5:=aA.mk E8;clear E8
 by_cases c6:o9=0
 ·rw[if_pos c6] at H
  obtain⟨F9,G5⟩:=bT c6;clear c6;replace H:=Option.bind_eq_some_iff.mp H;obtain⟨y8,F5,H⟩:=H;try dsimp only at H
  have A7:=aA.mk F5;clear F5
  by_cases c8:y8=0
  ·rw[if_pos c8] at H
   obtain⟨G6,G7⟩:=bT c8;clear c8
   by_cases c9:o8=true
   ·subst c9
    rw[if_pos rfl] at H;simp only[Option.some.injEq,Prod.mk.injEq] at H;obtain⟨rfl,rfl⟩:=H;go_enter Tryz.func130,Tryz.ntmps130
    go_wp2_with(first|((with_reducible refine aG (N:=4) rfl ?_);refine qP ?hg (N:=4) ?hd (cs:=#[.bool true,.string o6,.string o5]) (t:=36) ?hr ?_;(case hd=>rfl);(case hg=>rfl);(case hr=>first|(go_simp;done)|(go_simp;rfl));intro y9 hg H8 o7 hb;have l9:=aA.mk (o7);have C9:=pkG HB hg;have D5:=pkG HB hg;replace HB:=pkB HB hb;clear hb o7 hg;obtain⟨⟨H9,I4,I5⟩,I7,I8,I9⟩:=pk3 l9)|((with_reducible refine aC (f:=66) rfl ?_);refine dF (some 13) rfl rfl Tryz.func66 (by kernel_rfl) rfl #[.agg #[.bool true,.string o6,.string o5]] rfl (by(try simp only[List.map_toArray,List.map_cons,List.map_nil]);first|done|rfl|(simp only[List.length_drop,List.length_take];rfl)) ?_;(with_reducible refine(dV.calls k true o6 o5 o9 _ A5.out).mono ?_);rintro e J3 ⟨rfl,hb⟩;refine⟨_,rfl,?_⟩;replace l9:=pkK l9 hb;replace HB:=pkB HB hb;try clear hb)|((with_reducible refine aC (f:=73) rfl ?_);refine dF (some 18) rfl rfl Tryz.func73 (by kernel_rfl) rfl #[.string a1] rfl (by(try simp only[List.map_toArray,List.map_cons,List.map_nil]);first|done|rfl|(simp only[List.length_drop,List.length_take];rfl)) ?_;(with_reducible refine(iQ.calls a1 y8 _ A7.out).mono ?_);rintro e J4 ⟨rfl,hb⟩;refine⟨_,rfl,?_⟩;replace l9:=pkK l9 hb;replace HB:=pkB HB hb;try clear hb;obtain⟨⟨J5,J6,J7⟩,J8,J9,L6⟩:=pk3 l9))
    go_ret2
    exact pkE HB
   ·replace c9:=Bool.eq_false_iff.mpr c9
    subst c9;rw[if_neg (show ¬(false=true) by decide)] at H
    by_cases D6:o6.toList=([48]:List UInt8)
    ·rw[if_pos D6] at H
     obtain⟨G8,G9⟩:=bT D6;clear D6;replace H:=Option.bind_eq_some_iff.mp H;obtain⟨D8,F6,H⟩:=H;try dsimp only at H
     have F7:=aA.mk F6;clear F6
     by_cases D7:D8=true
     ·subst D7
      rw[if_pos rfl] at H;simp only[Option.some.injEq,Prod.mk.injEq] at H;obtain⟨rfl,rfl⟩:=H;go_enter Tryz.func130,Tryz.ntmps130
      go_wp2_with(first|((with_reducible refine aG (N:=4) rfl ?_);refine qP ?hg (N:=4) ?hd (cs:=#[.bool false,.string o6,.string o5]) (t:=36) ?hr ?_;(case hd=>rfl);(case hg=>rfl);(case hr=>first|(go_simp;done)|(go_simp;rfl));intro y9 hg L8 o7 hb;have l9:=aA.mk (o7);have C9:=pkG HB hg;have D5:=pkG HB hg;replace HB:=pkB HB hb;clear hb o7 hg;obtain⟨⟨L9,N7,N8⟩,N9,O0,O1⟩:=pk3 l9)|((with_reducible refine aC (f:=66) rfl ?_);refine dF (some 13) rfl rfl Tryz.func66 (by kernel_rfl) rfl #[.agg #[.bool false,.string o6,.string o5]] rfl (by(try simp only[List.map_toArray,List.map_cons,List.map_nil]);first|done|rfl|(simp only[List.length_drop,List.length_take];rfl)) ?_;(with_reducible refine(dV.calls k false o6 o5 o9 _ A5.out).mono ?_);rintro e O3 ⟨rfl,hb⟩;refine⟨_,rfl,?_⟩;replace l9:=pkK l9 hb;replace HB:=pkB HB hb;try clear hb)|((with_reducible refine aC (f:=73) rfl ?_);refine dF (some 18) rfl rfl Tryz.func73 (by kernel_rfl) rfl #[.string a1] rfl (by(try simp only[List.map_toArray,List.map_cons,List.map_nil]);first|done|rfl|(simp only[List.length_drop,List.length_take];rfl)) ?_;(with_reducible refine(iQ.calls a1 y8 _ A7.out).mono ?_);rintro e O4 ⟨rfl,hb⟩;refine⟨_,rfl,?_⟩;replace l9:=pkK l9 hb;replace HB:=pkB HB hb;try clear hb;obtain⟨⟨O5,O6,O7⟩,O8,O9,P7⟩:=pk3 l9)|((with_reducible refine aAx (p:=38) rfl ?_);refine goesW_ (some 41) rfl rfl hF2 hF2n hF2b #[.string o5] #[.string o5,.pointer (some ⟨gl,0,none⟩)] rfl rfl (by(try simp only[List.map_toArray,List.map_cons,List.map_nil]);first|done|rfl) rfl ?_;(with_reducible refine(gc2 (hG:=HG.out.below (pkL HB)) (hL:=iT hL (pkL HB)) o5 true _ F7.out).mono ?_);rintro e P8 ⟨rfl,hb⟩;refine⟨_,rfl,?_⟩;replace l9:=pkK l9 hb;replace HB:=pkB HB hb;try clear hb))
      go_ret2
      exact pkE HB
     ·replace D7:=Bool.eq_false_iff.mpr D7
      subst D7;rw[if_neg (show ¬(false=true) by decide)] at H;simp only[Option.some.injEq,Prod.mk.injEq] at H;obtain⟨rfl,rfl⟩:=H;go_enter Tryz.func130,Tryz.ntmps130
      go_wp2_with(first|((with_reducible refine aG (N:=4) rfl ?_);refine qP ?hg (N:=4) ?hd (cs:=#[.bool false,.string o6,.string o5]) (t:=36) ?hr ?_;(case hd=>rfl);(case hg=>rfl);(case hr=>first|(go_simp;done)|(go_simp;rfl));intro y9 hg P9 o7 hb;have l9:=aA.mk (o7);have C9:=pkG HB hg;have D5:=pkG HB hg;replace HB:=pkB HB hb;clear hb o7 hg;obtain⟨⟨Q3,Q4,Q5⟩,Q7,Q8,Q9⟩:=pk3 l9)|((with_reducible refine aC (f:=66) rfl ?_);refine dF (some 13) rfl rfl Tryz.func66 (by kernel_rfl) rfl #[.agg #[.bool false,.string o6,.string o5]] rfl (by(try simp only[List.map_toArray,List.map_cons,List.map_nil]);first|done|rfl|(simp only[List.length_drop,List.length_take];rfl)) ?_;(with_reducible refine(dV.calls k false o6 o5 o9 _ A5.out).mono ?_);rintro e S9 ⟨rfl,hb⟩;refine⟨_,rfl,?_⟩;replace l9:=pkK l9 hb;replace HB:=pkB HB hb;try clear hb)|((with_reducible refine aC (f:=73) rfl ?_);refine dF (some 18) rfl rfl Tryz.func73 (by kernel_rfl) rfl #[.string a1] rfl (by(try simp only[List.map_toArray,List.map_cons,List.map_nil]);first|done|rfl|(simp only[List.length_drop,List.length_take];rfl)) ?_;(with_reducible refine(iQ.calls a1 y8 _ A7.out).mono ?_);rintro e U3 ⟨rfl,hb⟩;refine⟨_,rfl,?_⟩;replace l9:=pkK l9 hb;replace HB:=pkB HB hb;try clear hb;obtain⟨⟨U4,U5,U6⟩,U7,U8,U9⟩:=pk3 l9)|((with_reducible refine aAx (p:=38) rfl ?_);refine goesW_ (some 41) rfl rfl hF2 hF2n hF2b #[.string o5] #[.string o5,.pointer (some ⟨gl,0,none⟩)] rfl rfl (by(try simp only[List.map_toArray,List.map_cons,List.map_nil]);first|done|rfl) rfl ?_;(with_reducible refine(gc2 (hG:=HG.out.below (pkL HB)) (hL:=iT hL (pkL HB)) o5 false _ F7.out).mono ?_);rintro e V3 ⟨rfl,hb⟩;refine⟨_,rfl,?_⟩;replace l9:=pkK l9 hb;replace HB:=pkB HB hb;try clear hb;obtain⟨⟨V4,V5,V6⟩,V7,V8,V9⟩:=pk3 l9))
      go_ret2
      exact pkE HB
    ·rw[if_neg D6] at H
     obtain⟨G8,G9⟩:=bF D6;replace H:=Option.bind_eq_some_iff.mp H;obtain⟨⟨H5,H6⟩,F8,H⟩:=H;try dsimp only at H
     have H7:=aA.mk F8;clear F8;simp only[Option.some.injEq,Prod.mk.injEq] at H;obtain⟨rfl,rfl⟩:=H;go_enter Tryz.func130,Tryz.ntmps130
     go_wp2_with(first|((with_reducible refine aG (N:=4) rfl ?_);refine qP ?hg (N:=4) ?hd (cs:=#[.bool false,.string o6,.string o5]) (t:=36) ?hr ?_;(case hd=>rfl);(case hg=>rfl);(case hr=>first|(go_simp;done)|(go_simp;rfl));intro y9 hg X4 o7 hb;have l9:=aA.mk (o7);have C9:=pkG HB hg;have D5:=pkG HB hg;replace HB:=pkB HB hb;clear hb o7 hg;obtain⟨⟨X5,X7,X8⟩,X9,Y0,Y4⟩:=pk3 l9)|((with_reducible refine aC (f:=66) rfl ?_);refine dF (some 13) rfl rfl Tryz.func66 (by kernel_rfl) rfl #[.agg #[.bool false,.string o6,.string o5]] rfl (by(try simp only[List.map_toArray,List.map_cons,List.map_nil]);first|done|rfl|(simp only[List.length_drop,List.length_take];rfl)) ?_;(with_reducible refine(dV.calls k false o6 o5 o9 _ A5.out).mono ?_);rintro e Y5 ⟨rfl,hb⟩;refine⟨_,rfl,?_⟩;replace l9:=pkK l9 hb;replace HB:=pkB HB hb;try clear hb)|((with_reducible refine aC (f:=73) rfl ?_);refine dF (some 18) rfl rfl Tryz.func73 (by kernel_rfl) rfl #[.string a1] rfl (by(try simp only[List.map_toArray,List.map_cons,List.map_nil]);first|done|rfl|(simp only[List.length_drop,List.length_take];rfl)) ?_;(with_reducible refine(iQ.calls a1 y8 _ A7.out).mono ?_);rintro e Y7 ⟨rfl,hb⟩;refine⟨_,rfl,?_⟩;replace l9:=pkK l9 hb;replace HB:=pkB HB hb;try clear hb;obtain⟨⟨Y8,Y9,Z7⟩,Z8,Z9,ae⟩:=pk3 l9)|((with_reducible refine aAx (p:=29) rfl ?_);refine goesW_ (some 34) rfl rfl hF1 hF1n hF1b #[.string o6,.string o5] #[.string o6,.string o5,.pointer (some ⟨gl,0,none⟩)] rfl rfl (by(try simp only[List.map_toArray,List.map_cons,List.map_nil]);first|done|rfl) rfl ?_;(with_reducible refine(gc1 (hG:=HG.out.below (pkL HB)) (hL:=iT hL (pkL HB)) o6 o5 H5 H6 _ H7.out).mono ?_);rintro e af ⟨rfl,hb⟩;refine⟨_,rfl,?_⟩;replace l9:=pkK l9 hb;replace HB:=pkB HB hb;try clear hb))
     go_ret2
     exact pkE HB
  ·rw[if_neg c8] at H
   obtain⟨G6,G7⟩:=bF c8;simp only[Option.some.injEq,Prod.mk.injEq] at H;obtain⟨rfl,rfl⟩:=H;go_enter Tryz.func130,Tryz.ntmps130
   go_wp2_with(first|((with_reducible refine aG (N:=4) rfl ?_);refine qP ?hg (N:=4) ?hd (cs:=#[.bool o8,.string o6,.string o5]) (t:=36) ?hr ?_;(case hd=>rfl);(case hg=>rfl);(case hr=>first|(go_simp;done)|(go_simp;rfl));intro y9 hg ag o7 hb;have l9:=aA.mk (o7);have C9:=pkG HB hg;have D5:=pkG HB hg;replace HB:=pkB HB hb;clear hb o7 hg;obtain⟨⟨ah,ai,aj⟩,ak,au,ax⟩:=pk3 l9)|((with_reducible refine aC (f:=66) rfl ?_);refine dF (some 13) rfl rfl Tryz.func66 (by kernel_rfl) rfl #[.agg #[.bool o8,.string o6,.string o5]] rfl (by(try simp only[List.map_toArray,List.map_cons,List.map_nil]);first|done|rfl|(simp only[List.length_drop,List.length_take];rfl)) ?_;(with_reducible refine(dV.calls k o8 o6 o5 o9 _ A5.out).mono ?_);rintro e ay ⟨rfl,hb⟩;refine⟨_,rfl,?_⟩;replace l9:=pkK l9 hb;replace HB:=pkB HB hb;try clear hb)|((with_reducible refine aC (f:=73) rfl ?_);refine dF (some 18) rfl rfl Tryz.func73 (by kernel_rfl) rfl #[.string a1] rfl (by(try simp only[List.map_toArray,List.map_cons,List.map_nil]);first|done|rfl|(simp only[List.length_drop,List.length_take];rfl)) ?_;(with_reducible refine(iQ.calls a1 y8 _ A7.out).mono ?_);rintro e az ⟨rfl,hb⟩;refine⟨_,rfl,?_⟩;replace l9:=pkK l9 hb;replace HB:=pkB HB hb;try clear hb))
   go_ret2
   exact pkE HB
 ·rw[if_neg c6] at H
  obtain⟨F9,G5⟩:=bF c6;simp only[Option.some.injEq,Prod.mk.injEq] at H;obtain⟨rfl,rfl⟩:=H;go_enter Tryz.func130,Tryz.ntmps130
  go_wp2_with(first|((with_reducible refine aG (N:=4) rfl ?_);refine qP ?hg (N:=4) ?hd (cs:=#[.bool o8,.string o6,.string o5]) (t:=36) ?hr ?_;(case hd=>rfl);(case hg=>rfl);(case hr=>first|(go_simp;done)|(go_simp;rfl));intro y9 hg bn o7 hb;have l9:=aA.mk (o7);have C9:=pkG HB hg;have D5:=pkG HB hg;replace HB:=pkB HB hb;clear hb o7 hg;obtain⟨⟨df,dh,di⟩,dw,eu,gm⟩:=pk3 l9)|((with_reducible refine aC (f:=66) rfl ?_);refine dF (some 13) rfl rfl Tryz.func66 (by kernel_rfl) rfl #[.agg #[.bool o8,.string o6,.string o5]] rfl (by(try simp only[List.map_toArray,List.map_cons,List.map_nil]);first|done|rfl|(simp only[List.length_drop,List.length_take];rfl)) ?_;(with_reducible refine(dV.calls k o8 o6 o5 o9 _ A5.out).mono ?_);rintro e gp ⟨rfl,hb⟩;refine⟨_,rfl,?_⟩;replace l9:=pkK l9 hb;replace HB:=pkB HB hb;try clear hb))
  go_ret2
  exact pkE HB
def zM(lo m r:ByteArray):Option (ByteArray×Int):=(lL.f r lo m).bind fun p=>if p.2=0 then(qJ.f lo p.1).bind fun c=>some (c.1,c.2) else some ((⟨#[]⟩:ByteArray),p.2)
theorem zM.calls(lo m r t:ByteArray)(u:Int)(gl:Nat)(w:World)(hG:GW w)(hL:w.heap[gl]? =some (.cells #[.string lo] 22 (0,0)))(h:zM lo m r=some (t,u)) :
 Calls Tryz.prog 131 #[.string m,.string r,.pointer (some ⟨gl,0,none⟩)] w fun e w'=>e= .returned (.tuple #[.string t,.int .i64 u])∧Below w.heap.size w w':=by
 have HG:=aA.mk hG;have HB:=aA.mk (Below.refl w.heap.size w);have l9:=aA.mk hL;clear hG hL;unfold zM at h;obtain⟨⟨t1,u1⟩,o5,H⟩:=Option.bind_eq_some_iff.mp h;clear h;try dsimp only at H
 have A1:=aA.mk o5;clear o5;obtain⟨o6,o7⟩:=pk1 l9
 by_cases c1:u1=0
 ·rw[if_pos c1] at H
  obtain⟨o9,y8⟩:=bT c1;obtain⟨⟨t2,u2⟩,o8,H⟩:=Option.bind_eq_some_iff.mp H;try dsimp only at H
  have A2:=aA.mk o8;clear o8 c1;simp only[Option.some.injEq,Prod.mk.injEq] at H;obtain⟨rfl,rfl⟩:=H;go_enter Tryz.func131,Tryz.ntmps131
  go_wp2_with(first|((with_reducible refine aC (f:=132) rfl ?_);refine dF (some 13) rfl rfl Tryz.func132 (by kernel_rfl) rfl #[.string r,.string lo,.string m] rfl (by(try simp only[List.map_toArray,List.map_cons,List.map_nil]);first|done|rfl) ?_;(with_reducible refine(lL.calls (hG:=HG.out.below (pkL HB)) r lo m t1 u1 _ A1.out).mono ?_);rintro e w1 ⟨rfl,hb⟩;refine⟨_,rfl,?_⟩;replace l9:=pkK l9 hb;replace HB:=pkB HB hb;clear hb o6 o7;obtain⟨y9,C9⟩:=pk1 l9)|((with_reducible refine aC (f:=22) rfl ?_);refine dF (some 21) rfl rfl Tryz.func22 (by kernel_rfl) rfl #[.string lo,.string t1] rfl (by(try simp only[List.map_toArray,List.map_cons,List.map_nil]);first|done|rfl) ?_;(with_reducible refine(qJ.calls (hG:=HG.out.below (pkL HB)) lo t1 t2 u2 _ A2.out).mono ?_);rintro e w2 ⟨rfl,hb⟩;refine⟨_,rfl,?_⟩;replace HB:=pkB HB hb;clear hb))
  go_ret2
  exact pkE HB
 ·rw[if_neg c1] at H
  obtain⟨o9,y8⟩:=bF c1;simp only[Option.some.injEq,Prod.mk.injEq] at H;obtain⟨rfl,rfl⟩:=H;go_enter Tryz.func131,Tryz.ntmps131
  go_wp2_with(first|((with_reducible refine aC (f:=132) rfl ?_);refine dF (some 13) rfl rfl Tryz.func132 (by kernel_rfl) rfl #[.string r,.string lo,.string m] rfl (by(try simp only[List.map_toArray,List.map_cons,List.map_nil]);first|done|rfl) ?_;(with_reducible refine(lL.calls (hG:=HG.out.below (pkL HB)) r lo m t1 u1 _ A1.out).mono ?_);rintro e w1 ⟨rfl,hb⟩;refine⟨_,rfl,?_⟩;replace l9:=pkK l9 hb;replace HB:=pkB HB hb;clear hb o6 o7;obtain⟨y9,C9⟩:=pk1 l9))
  go_ret2
  exact pkE HB
def aAd(lo r:ByteArray):Option Bool:=iF.f r lo
theorem aAd.calls(lo r:ByteArray)(b:Bool)(gl:Nat)(w:World)(hG:GW w)(hL:w.heap[gl]? =some (.cells #[.string lo] 22 (0,0)))(h:aAd lo r=some b) :
 Calls Tryz.prog 133 #[.string r,.pointer (some ⟨gl,0,none⟩)] w fun e w'=>e= .returned (.bool b)∧Below w.heap.size w w':=by
 have HB:=aA.mk (Below.refl w.heap.size w);have l9:=aA.mk hL;have A1:aA (iF.f r lo=some b):=aA.mk h;clear hG hL h;obtain⟨o5,o6⟩:=pk1 l9;go_enter Tryz.func133,Tryz.ntmps133
 go_wp2_with(first|((with_reducible refine aC (f:=134) rfl ?_);refine dF (some 6) rfl rfl Tryz.func134 (by kernel_rfl) rfl #[.string r,.string lo] rfl (by(try simp only[List.map_toArray,List.map_cons,List.map_nil]);first|done|rfl) ?_;(with_reducible refine(iF.calls r lo b _ A1.out).mono ?_);rintro e w1 ⟨rfl,hb⟩;refine⟨_,rfl,?_⟩;replace HB:=pkB HB hb;clear hb))
 go_ret
 exact pkE HB
def tN(lo m r:ByteArray):Option (ByteArray×Int):=(lL.f lo r m).bind fun p=>if p.2=0 then(qK.f lo p.1).bind fun c=>some (c.1,c.2) else some ((⟨#[]⟩:ByteArray),p.2)
theorem tN.calls(lo m r t:ByteArray)(u:Int)(gl:Nat)(w:World)(hG:GW w)(hL:w.heap[gl]? =some (.cells #[.string lo] 22 (0,0)))(h:tN lo m r=some (t,u)) :
 Calls Tryz.prog 137 #[.string m,.string r,.pointer (some ⟨gl,0,none⟩)] w fun e w'=>e= .returned (.tuple #[.string t,.int .i64 u])∧Below w.heap.size w w':=by
 have HG:=aA.mk hG;have HB:=aA.mk (Below.refl w.heap.size w);have l9:=aA.mk hL;clear hG hL;unfold tN at h;obtain⟨⟨t1,u1⟩,o5,H⟩:=Option.bind_eq_some_iff.mp h;clear h;try dsimp only at H
 have A1:=aA.mk o5;clear o5;obtain⟨o6,o7⟩:=pk1 l9
 by_cases c1:u1=0
 ·rw[if_pos c1] at H
  obtain⟨o9,y8⟩:=bT c1;obtain⟨⟨t2,u2⟩,o8,H⟩:=Option.bind_eq_some_iff.mp H;try dsimp only at H
  have A2:=aA.mk o8;clear o8 c1;simp only[Option.some.injEq,Prod.mk.injEq] at H;obtain⟨rfl,rfl⟩:=H;go_enter Tryz.func137,Tryz.ntmps137
  go_wp2_with(first|((with_reducible refine aC (f:=132) rfl ?_);refine dF (some 13) rfl rfl Tryz.func132 (by kernel_rfl) rfl #[.string lo,.string r,.string m] rfl (by(try simp only[List.map_toArray,List.map_cons,List.map_nil]);first|done|rfl) ?_;(with_reducible refine(lL.calls (hG:=HG.out.below (pkL HB)) lo r m t1 u1 _ A1.out).mono ?_);rintro e w1 ⟨rfl,hb⟩;refine⟨_,rfl,?_⟩;replace l9:=pkK l9 hb;replace HB:=pkB HB hb;clear hb o6 o7;obtain⟨y9,C9⟩:=pk1 l9)|((with_reducible refine aC (f:=24) rfl ?_);refine dF (some 21) rfl rfl Tryz.func24 (by kernel_rfl) rfl #[.string lo,.string t1] rfl (by(try simp only[List.map_toArray,List.map_cons,List.map_nil]);first|done|rfl) ?_;(with_reducible refine(qK.calls (hG:=HG.out.below (pkL HB)) lo t1 t2 u2 _ A2.out).mono ?_);rintro e w2 ⟨rfl,hb⟩;refine⟨_,rfl,?_⟩;replace HB:=pkB HB hb;clear hb))
  go_ret2
  exact pkE HB
 ·rw[if_neg c1] at H
  obtain⟨o9,y8⟩:=bF c1;simp only[Option.some.injEq,Prod.mk.injEq] at H;obtain⟨rfl,rfl⟩:=H;go_enter Tryz.func137,Tryz.ntmps137
  go_wp2_with(first|((with_reducible refine aC (f:=132) rfl ?_);refine dF (some 13) rfl rfl Tryz.func132 (by kernel_rfl) rfl #[.string lo,.string r,.string m] rfl (by(try simp only[List.map_toArray,List.map_cons,List.map_nil]);first|done|rfl) ?_;(with_reducible refine(lL.calls (hG:=HG.out.below (pkL HB)) lo r m t1 u1 _ A1.out).mono ?_);rintro e w1 ⟨rfl,hb⟩;refine⟨_,rfl,?_⟩;replace l9:=pkK l9 hb;replace HB:=pkB HB hb;clear hb o6 o7;obtain⟨y9,C9⟩:=pk1 l9))
  go_ret2
  exact pkE HB
def wJ(lo r:ByteArray):Option Bool:=iF.f lo r
theorem wJ.calls(lo r:ByteArray)(b:Bool)(gl:Nat)(w:World)(hG:GW w)(hL:w.heap[gl]? =some (.cells #[.string lo] 22 (0,0)))(h:wJ lo r=some b) :
 Calls Tryz.prog 138 #[.string r,.pointer (some ⟨gl,0,none⟩)] w fun e w'=>e= .returned (.bool b)∧Below w.heap.size w w':=by
 have HB:=aA.mk (Below.refl w.heap.size w);have l9:=aA.mk hL;have A1:aA (iF.f lo r=some b):=aA.mk h;clear hG hL h;obtain⟨o5,o6⟩:=pk1 l9;go_enter Tryz.func138,Tryz.ntmps138
 go_wp2_with(first|((with_reducible refine aC (f:=134) rfl ?_);refine dF (some 6) rfl rfl Tryz.func134 (by kernel_rfl) rfl #[.string lo,.string r] rfl (by(try simp only[List.map_toArray,List.map_cons,List.map_nil]);first|done|rfl) ?_;(with_reducible refine(iF.calls lo r b _ A1.out).mono ?_);rintro e w1 ⟨rfl,hb⟩;refine⟨_,rfl,?_⟩;replace HB:=pkB HB hb;clear hb))
 go_ret
 exact pkE HB
def sD.f(k:Nat)(a0_0:Bool)(a0_1 a0_2 a1:ByteArray):Option (ByteArray×Int):=kW.f k (zM a1) (aAd a1) a0_0 a0_1 a0_2 a1
theorem sD.calls(k:Nat)(l9:Bool)(o5 o6 a1 r1:ByteArray)(r2:Int)(w:World)(hG:GW w)(h:sD.f k l9 o5 o6 a1=some (r1,r2)) :
 Calls Tryz.prog 62 #[.agg #[.bool l9,.string o5,.string o6],.string a1] w fun e w'=>e= .returned (.tuple #[.string r1,.int .i64 r2])∧Below w.heap.size w w':=by
 have HG:=aA.mk hG;have HB:=aA.mk (Below.refl w.heap.size w);have A1:aA (kW.f k (zM a1) (aAd a1) l9 o5 o6 a1=some (r1,r2)):=aA.mk h;clear hG h;have hu36:=Tryz.underlying36;go_enter Tryz.func62,Tryz.ntmps62
 go_wp2_with(first|((with_reducible refine aG (N:=2) rfl ?_);refine qP ?hg (N:=2) ?hd (cs:=#[.bool l9,.string o5,.string o6]) (t:=36) ?hr ?_;(case hd=>rfl);(case hg=>rfl);(case hr=>first|(go_simp;done)|(go_simp;rfl));intro y9 hg w1 o7 hb;have o9:=aA.mk (o7);have C9:=pkG HB hg;replace HB:=pkB HB hb;clear hb o7 hg)|((with_reducible refine aG (N:=3) rfl ?_);refine qP ?hg (N:=3) ?hd (cs:=#[.string a1]) (t:=22) ?hr ?_;(case hd=>rfl);(case hg=>rfl);(case hr=>first|(go_simp;done)|(go_simp;rfl));intro o8 hg w2 o7 hb;have y8:=aA.mk (o7);have D5:=pkG HB hg;replace o9:=pkK o9 hb;replace HB:=pkB HB hb;clear hb o7 hg;obtain⟨⟨D6,D7,D8⟩,D9,E8,F5⟩:=pk3 o9;obtain⟨F6,F7⟩:=pk1 y8)|((with_reducible refine aC (f:=130) rfl ?_);refine dF (some 10) rfl rfl Tryz.func130 (by kernel_rfl) rfl #[.agg #[.bool l9,.string o5,.string o6],.string a1,.func (.func 131) #[] #[.pointer (some ⟨o8,0,none⟩)],.func (.func 133) #[] #[.pointer (some ⟨o8,0,none⟩)]] rfl (by(try simp only[List.map_toArray,List.map_cons,List.map_nil]);first|done|rfl) ?_;(with_reducible refine(kW.calls (hG:=HG.out.below (pkL HB)) (hL:=pkW y8) k 131 133 _ _ Tryz.func131 (by kernel_rfl) rfl Tryz.func133 (by kernel_rfl) rfl o8 a1 (zM a1) (aAd a1) (fun m r t u w hG hL h=>zM.calls a1 m r t u o8 w hG hL h) (fun r b w hG hL h=>aAd.calls a1 r b o8 w hG hL h) l9 o5 o6 a1 r1 r2 _ A1.out).mono ?_);rintro e w3 ⟨rfl,hb⟩;refine⟨_,rfl,?_⟩;replace HB:=pkB HB hb;clear hb))
 go_ret2
 exact pkE HB
def qA.f(k:Nat)(a0_0:Bool)(a0_1 a0_2 a1:ByteArray):Option (ByteArray×Int):=kW.f k (tN a1) (wJ a1) a0_0 a0_1 a0_2 a1
theorem qA.calls(k:Nat)(l9:Bool)(o5 o6 a1 r1:ByteArray)(r2:Int)(w:World)(hG:GW w)(h:qA.f k l9 o5 o6 a1=some (r1,r2)) :
 Calls Tryz.prog 64 #[.agg #[.bool l9,.string o5,.string o6],.string a1] w fun e w'=>e= .returned (.tuple #[.string r1,.int .i64 r2])∧Below w.heap.size w w':=by
 have HG:=aA.mk hG;have HB:=aA.mk (Below.refl w.heap.size w);have A1:aA (kW.f k (tN a1) (wJ a1) l9 o5 o6 a1=some (r1,r2)):=aA.mk h;clear hG h;have hu36:=Tryz.underlying36;go_enter Tryz.func64,Tryz.ntmps64
 go_wp2_with(first|((with_reducible refine aG (N:=2) rfl ?_);refine qP ?hg (N:=2) ?hd (cs:=#[.bool l9,.string o5,.string o6]) (t:=36) ?hr ?_;(case hd=>rfl);(case hg=>rfl);(case hr=>first|(go_simp;done)|(go_simp;rfl));intro y9 hg w1 o7 hb;have o9:=aA.mk (o7);have C9:=pkG HB hg;replace HB:=pkB HB hb;clear hb o7 hg)|((with_reducible refine aG (N:=3) rfl ?_);refine qP ?hg (N:=3) ?hd (cs:=#[.string a1]) (t:=22) ?hr ?_;(case hd=>rfl);(case hg=>rfl);(case hr=>first|(go_simp;done)|(go_simp;rfl));intro o8 hg w2 o7 hb;have y8:=aA.mk (o7);have D5:=pkG HB hg;replace o9:=pkK o9 hb;replace HB:=pkB HB hb;clear hb o7 hg;obtain⟨⟨D6,D7,D8⟩,D9,E8,F5⟩:=pk3 o9;obtain⟨F6,F7⟩:=pk1 y8)|((with_reducible refine aC (f:=130) rfl ?_);refine dF (some 10) rfl rfl Tryz.func130 (by kernel_rfl) rfl #[.agg #[.bool l9,.string o5,.string o6],.string a1,.func (.func 137) #[] #[.pointer (some ⟨o8,0,none⟩)],.func (.func 138) #[] #[.pointer (some ⟨o8,0,none⟩)]] rfl (by(try simp only[List.map_toArray,List.map_cons,List.map_nil]);first|done|rfl) ?_;(with_reducible refine(kW.calls (hG:=HG.out.below (pkL HB)) (hL:=pkW y8) k 137 138 _ _ Tryz.func137 (by kernel_rfl) rfl Tryz.func138 (by kernel_rfl) rfl o8 a1 (tN a1) (wJ a1) (fun m r t u w hG hL h=>tN.calls a1 m r t u o8 w hG hL h) (fun r b w hG hL h=>wJ.calls a1 r b o8 w hG hL h) l9 o5 o6 a1 r1 r2 _ A1.out).mono ?_);rintro e w3 ⟨rfl,hb⟩;refine⟨_,rfl,?_⟩;replace HB:=pkB HB hb;clear hb))
 go_ret2
 exact pkE HB
end Go.Proofs.YtignanmmgaldeaaGreatDoor.PCongI
end
section
set_option linter.unusedVariables false
set_option linter.unusedSimpArgs false
namespace Go.Proofs.YtignanmmgaldeaaGreatDoor.CongM
open Go.RowKit Go.Proofs.YtignanmmgaldeaaGreatDoor.RefP Go.Proofs.YtignanmmgaldeaaGreatDoor.PCongI Go.Proofs.YtignanmmgaldeaaGreatDoorW.PrintWords Go.Proofs.YtignanmmgaldeaaGreatDoorW.PrintLast
def clsV(c:Int×Int):Prop:=0≤c.1∧c.2%c.1=c.2
def cls(M:Nat)(m r:Int):Int×Int:=if m.natAbs<10 ^ M∧(r%(m.natAbs:Int)).natAbs<10 ^ M then((m.natAbs:Int),r%(m.natAbs:Int)) else(1,0)
def leC(c d:Int×Int):Prop:=d.1∣c.1∧d.1∣c.2-d.2
def joinM(c d:Int×Int):Int:=gcdI (gcdI c.1 d.1) (c.2-d.2)
def joinC(M:Nat)(c d:Int×Int):Int×Int:=cls M (joinM c d) c.2
def addC(M:Nat)(c d:Int×Int):Int×Int:=cls M (gcdI c.1 d.1) (c.2+d.2)
def mulM(c d:Int×Int):Int:=gcdI (c.1*d.1) (gcdI (c.1*d.2) (d.1*c.2))
def mulC(M:Nat)(c d:Int×Int):Int×Int:=cls M (mulM c d) (c.2*d.2)
theorem oQ(a b:Int):(gcdI a b).natAbs≤a.natAbs+b.natAbs:=by
 unfold gcdI;rw[Int.natAbs_natCast]
 by_cases h:a.natAbs=0
 ·rw[h,Nat.gcd_zero_left];omega
 ·exact Nat.le_trans (Nat.le_of_dvd aFx (Nat.gcd_dvd_left _ _)) aFx
theorem joinM_bd{K:Nat}{c d:Int×Int}(h1:Bd K c.1)(h2:Bd K c.2)(h3:Bd K d.1)(h4:Bd K d.2):Bd (K+1) (joinM c d):=by
 unfold Bd joinM at *
 have a:=oQ (gcdI c.1 d.1) (c.2-d.2);have b:=oQ c.1 d.1;rw[Nat.pow_succ];generalize 10 ^ K=P at *
 omega
theorem aDp(x y:Int):lcmI x y=(Nat.lcm x.natAbs y.natAbs:Nat):=by
 unfold lcmI
 by_cases h:x=0∨y=0
 ·rw[if_pos h]
  rcases h with rfl|rfl
  ·simp
  ·simp
 ·rw[if_neg h]
  unfold gcdI Nat.lcm;obtain⟨n,hn⟩:=Nat.gcd_dvd_left x.natAbs y.natAbs;have hg:0<Nat.gcd x.natAbs y.natAbs:=Nat.gcd_pos_of_pos_left _ aFx;generalize Nat.gcd x.natAbs y.natAbs=g at hn hg;rw[hn,←Int.natCast_ediv,Nat.mul_div_cancel_left n hg,Nat.mul_assoc,Nat.mul_div_cancel_left _ hg,Int.natCast_mul]
def metS(c d:Int×Int):Int:=c.2+bezU c.1 d.1*Int.fdiv (d.2+ -c.2) (gcdI c.1 d.1)*c.1
def meetC(M:Nat)(c d:Int×Int):Option (Int×Int):=if d.1∣c.1∧d.1∣c.2-d.2 then some c else if c.1∣d.1∧c.1∣d.2-c.2 then some d else if c.1=0∨d.1=0∨¬gcdI c.1 d.1∣d.2+ -c.2 then none else some (cls M (lcmI c.1 d.1) (metS c d))
theorem lcmI_le(x y:Int):(lcmI x y).natAbs≤x.natAbs*y.natAbs:=by
 rw[aDp,Int.natAbs_natCast];exact Nat.div_le_self _ _
def encC:Option (Int×Int)→Bool×ByteArray×ByteArray
 |none=>(true,⟨#[]⟩,⟨#[]⟩)
 |some c=>(false,text c.1,text c.2)
def jY:Option (Int×Int)→Prop
 |none=>True
 |some c=>clsV c∧Bd 100 c.1∧Bd 100 c.2
theorem long_val(a:ByteArray)(ha:a.size≤1000000):kC.f a=some (decide (100<digN a)):=by
 have hz:=Lib.size_eq a;unfold kC.f strings_TrimPrefix.f stringslite_TrimPrefix.f stringslite_HasPrefix.f digN;have h1:((⟨#[45]⟩:ByteArray).size:Int)=1:=rfl;rw[h1]
 by_cases h0:a.size=0
 ·have hn:a.data.toList= []:=List.eq_nil_of_length_eq_zero (by rw[←hz];exact h0)
  rw[if_neg aFx,Option.bind_some,if_neg aFz,Option.bind_some,Option.bind_some,hn]
  simp[Lib.trimPrefix,Lib.hasPrefix,h0]
 ·rw[if_pos aFx,if_pos aFx,if_pos aFx,Option.bind_some]
  obtain⟨c,r,hl⟩:∃c r,a.data.toList=c::r:=by
   cases hq:a.data.toList with
   |nil=>rw[hq] at hz;exact absurd hz h0
   |cons c r=>exact⟨c,r,rfl⟩
  have he:(a.extract 0 (Int.toNat 1)).toList= [c]:=by
   rw[toList_data,Lib.extract_data,hl]
   simp
  have hp:(⟨#[45]⟩:ByteArray).toList= [45]:=by rw[toList_data]
  rw[he,hp]
  by_cases hc:c=45
  ·subst hc
   have e1:Lib.hasPrefix a.data.toList [45]=true:=by rw[hl];simp[Lib.hasPrefix]
   rw[if_pos aG0,if_pos aFx,if_pos aFx,Option.bind_some,Option.bind_some,Lib.trimPrefix,if_pos e1,hl]
   congr 1
   refine decide_eq_decide.2 ?_
   have:(a.extract (Int.toNat 1) a.size).size=r.length:=by
    rw[Lib.size_eq,Lib.extract_data,hl];have:a.size=r.length+1:=by rw[hz,hl];rfl
    rw[this]
    simp
   rw[this];show((r.length:Int)>100)↔_
   simp
   omega
  ·have e1:Lib.hasPrefix a.data.toList [45]=false:=by rw[hl];simp[Lib.hasPrefix,List.isPrefixOf,Ne.symm hc]
   rw[if_neg (by simp[hc]),Option.bind_some,Option.bind_some,Lib.trimPrefix,if_neg (by rw[e1];simp),←hz]
   congr 1
   exact decide_eq_decide.2 aFx
def numC(a:ByteArray):Int:=if canon a.data.toList=true then(if 100<digN a then 10 else 0) else 3
theorem aFk(a:ByteArray)(ha:a.size≤1000000)(k:Nat):iI.f (k+1) a=some (numC a):=by
 unfold iI.f numC iQ.f chkI;rw[if_pos aFx,Option.bind_some]
 by_cases hc:canon a.data.toList=true
 ·rw[if_pos hc,if_pos hc]
  by_cases hd:4096<digN a
  ·rw[if_pos hd,if_pos rfl,if_pos aFx,iI.j0,if_pos rfl]
  ·rw[if_neg hd,if_neg aG0,if_pos rfl,long_val a ha,Option.bind_some,iI.j0]
   by_cases h1:100<digN a
   ·rw[if_pos (decide_eq_true h1),if_pos h1]
   ·rw[if_neg (by simpa using h1),if_neg h1,if_pos rfl]
 ·rw[if_neg hc,if_neg hc,if_neg aG0,if_neg aG0,iI.j0,if_neg aFz,if_neg aG0]
theorem sO{a:ByteArray}(h:numC a=0):∃x,a=text x∧Bd 100 x:=by
 unfold numC at h
 by_cases hc:canon a.data.toList=true
 ·rw[if_pos hc] at h
  by_cases hd:100<digN a
  ·rw[if_pos hd] at h;cases h
  ·obtain⟨x,rfl⟩:=lU a hc
   exact⟨x,rfl,oN _ (by rw[←kV];omega)⟩
 ·rw[if_neg hc] at h;cases h
def rngC(m r:Int):Prop:=m<0∨m≠0∧(r<0∨¬r<m)
instance (m r:Int):Decidable (rngC m r):=inferInstanceAs (Decidable (_∨_))
def chkC(e:Bool)(m r:ByteArray):Int:=if e=true then(if m.toList=([]:List UInt8) then(if r.toList=([]:List UInt8) then 0 else 3) else 3) else if numC m=0 then(if numC r=0 then(if rngC (aV m) (aV r) then 2 else 0) else numC r) else numC m
theorem aBk{x y:Int}{m:Nat}(hx:Bd m x)(hy:Bd m y)(hm:1≤m)(h4:m≤4096):iF.f (text x) (text y)=some (decide (x<y)):=by
 unfold iF.f oC.f;rw[compare_at m hx hy hm h4,Option.bind_some,Option.bind_some]
 congr 1
 exact decide_eq_decide.2 (by rw[mD];omega)
theorem check_end(k:Nat)(l:List ByteArray)(n i:Int)(hi:¬i<n)(e:Bool){x y:Int}(hx:Bd 100 x)(hy:Bd 100 y):dV.l0 (k+1) l n i e (text x) (text y)=some (if rngC x y then 2 else 0):=by
 have h0:Bd 100 0:=Nat.pow_pos aFx;have e0:(⟨#[48]⟩:ByteArray)=text 0:=vC.symm;have t0:((text x).toList=([48]:List UInt8))↔x=0:=bK x;rw[dV.l0,if_neg hi,e0,aBk hx h0 aFx aFx,Option.bind_some]
 by_cases h1:x<0
 ·have hr:rngC x y:= .inl h1
  rw[if_pos (decide_eq_true h1),if_pos hr]
 ·rw[if_neg (by simpa using h1)]
  by_cases h2:x=0
  ·have hr:¬rngC x y:=by unfold rngC;omega
   rw[if_pos (t0.2 h2),if_neg hr]
  ·rw[if_neg (fun q=>h2 (t0.1 q)),aBk hy h0 aFx aFx,Option.bind_some]
   by_cases h3:y<0
   ·have hr:rngC x y:= .inr ⟨h2,.inl h3⟩
    rw[if_pos (decide_eq_true h3),if_pos hr]
   ·rw[if_neg (by simpa using h3),aBk hy hx aFx aFx,Option.bind_some]
    by_cases h4:y<x
    ·have hr:¬rngC x y:=by unfold rngC;omega
     rw[if_pos (decide_eq_true h4),if_neg hr]
    ·have hr:rngC x y:= .inr ⟨h2,.inr h4⟩
     rw[if_neg (by simpa using h4),if_pos hr]
theorem aBl(e:Bool)(m r:ByteArray)(hm:m.size≤1000000)(hr:r.size≤1000000)(k:Nat)(hk:5≤k):dV.f k e m r=some (chkC e m r):=by
 obtain⟨k,rfl⟩:∃j,k=j+4:=⟨k-4,by omega⟩
 unfold dV.f chkC
 by_cases he:e=true
 ·rw[if_pos he,if_pos he]
  by_cases h1:m.toList=([]:List UInt8)
  ·rw[if_pos h1,if_pos h1]
   by_cases h2:r.toList=([]:List UInt8)
   ·rw[if_pos h2,if_pos h2]
   ·rw[if_neg h2,if_neg h2]
  ·rw[if_neg h1,if_neg h1]
 ·rw[if_neg he,if_neg he,Option.bind_some]
  rw[show(([m,r]:List ByteArray).length:Int)=2 from rfl,dV.l0,if_pos aG0,if_pos aG0,if_pos (show(0:Int)<(([m,r]:List ByteArray).length:Int) from by simp),show rdOf ByteArray.empty [m,r] 0=m from rfl,aFk m hm,Option.bind_some]
  by_cases h1:numC m=0
  ·rw[if_pos h1,if_pos h1,show wrap64 ((0:Int)+1)=1 from by decide +kernel,dV.l0,if_pos aG0,if_pos aG0,if_pos (show(1:Int)<(([m,r]:List ByteArray).length:Int) from by simp),show rdOf ByteArray.empty [m,r] 1=r from rfl,aFk r hr,Option.bind_some]
   by_cases h2:numC r=0
   ·obtain⟨x,rfl,bx⟩:=sO h1
    obtain⟨y,rfl,by'⟩:=sO h2;rw[if_pos h2,if_pos h2,show wrap64 ((1:Int)+1)=2 from by decide +kernel,check_end _ _ _ _ aG0 _ bx by',bC,bC]
   ·rw[if_neg h2,if_neg h2]
  ·rw[if_neg h1,if_neg h1]
theorem aAq{e:Bool}{m r:ByteArray}(h:chkC e m r=0):∃o,jY o∧(e,m,r)=encC o:=by
 unfold chkC at h
 by_cases he:e=true
 ·rw[if_pos he] at h
  by_cases h1:m.toList=([]:List UInt8)
  ·rw[if_pos h1] at h
   by_cases h2:r.toList=([]:List UInt8)
   ·refine⟨none,trivial,?_⟩
    have e1:m=⟨#[]⟩:=nZ (by rw[←toList_data,h1]);have e2:r=⟨#[]⟩:=nZ (by rw[←toList_data,h2]);rw[he,e1,e2];rfl
   ·rw[if_neg h2] at h;cases h
  ·rw[if_neg h1] at h;cases h
 ·rw[if_neg he] at h
  by_cases h1:numC m=0
  ·rw[if_pos h1] at h
   by_cases h2:numC r=0
   ·rw[if_pos h2] at h
    obtain⟨x,rfl,bx⟩:=sO h1;obtain⟨y,rfl,by'⟩:=sO h2;rw[bC,bC] at h
    by_cases h3:rngC x y
    ·rw[if_pos h3] at h;cases h
    ·refine⟨some (x,y),⟨⟨?_,?_⟩,bx,by'⟩,?_⟩
     ·unfold rngC at h3;show 0≤x;omega
     ·show y%x=y
      by_cases hx:x=0
      ·rw[hx,Int.emod_zero]
      ·unfold rngC at h3
       exact Int.emod_eq_of_lt aFx aFx
     ·have:e=false:=by simpa using he
      rw[this];rfl
   ·rw[if_neg h2] at h;exact absurd h h2
  ·rw[if_neg h1] at h;exact absurd h h1
theorem long_text{x:Int}{m:Nat}(hx:Bd m x)(hm:1≤m)(h4:m≤90000):kC.f (text x)=some (decide (¬x.natAbs<10 ^ 100)):=by
 have:=size_text hx hm;rw[long_val _ aFx,kV]
 congr 1
 refine decide_eq_decide.2 ⟨fun h q=> ?_,fun h=> ?_⟩
 ·have:=kK (m:=100) q aFx
  omega
 ·refine Nat.lt_of_not_le fun q=>h ?_
  exact nJ _ _ q
theorem tV{m r:Int}{n:Nat}(hm:Bd n m)(hr:Bd n r)(hn:1≤n)(h4:n≤4096)(k:Nat):dS.f (k+1) (text m) (text r)=some (encC (some (cls 100 m r))):=by
 have hs:=size_text hm hn;have hA:Bd n (m.natAbs:Int):=by unfold Bd at *;simpa using hm
 have ha:tC.f (text m)=some (text (m.natAbs:Int),0):=by
  unfold tC.f;rw[if_pos aFx,chk_text hm hn h4];simp only[if_true,abs_text]
 have fin:∀{R:Int},Bd n R→R=r%(m.natAbs:Int)→dS.j0 (k+1) (text (m.natAbs:Int)) (text R)=some (encC (some (cls 100 m r))):=fun {R} hR e=>by
  rw[dS.j0,long_text hA hn aFx,Option.bind_some,long_text hR hn aFx,Int.natAbs_natCast];unfold jC.f;have hc:cls 100 m r=if m.natAbs<10 ^ 100∧R.natAbs<10 ^ 100 then((m.natAbs:Int),R) else(1,0):=by unfold cls;rw[e]
  have t1:encC (some (1,0))=(false,⟨#[49]⟩,⟨#[48]⟩):=by decide +kernel
  generalize hP:(10:Nat) ^ 100=P at *
  rw[hc]
  by_cases h1:m.natAbs<P
  ·rw[if_neg (by simpa using h1),Option.bind_some]
   by_cases h2:R.natAbs<P
   ·rw[if_neg (by simpa using h2),if_pos ⟨h1,h2⟩];rfl
   ·rw[if_pos (decide_eq_true h2),if_neg (fun q=>h2 q.2),Option.bind_some,t1]
  ·rw[if_pos (decide_eq_true h1),if_neg (fun q=>h1 q.1),Option.bind_some,t1]
 unfold dS.f iK.f;rw[ha,Option.bind_some,Option.bind_some];show(if(text (m.natAbs:Int)).toList=([48]:List UInt8) then dS.j0 (k+1) (text (m.natAbs:Int)) (text r) else(jO.f (text r) (text (m.natAbs:Int))).bind fun bt=>(some bt.1).bind fun t=>dS.j0 (k+1) (text (m.natAbs:Int)) t)=_
 by_cases h0:m=0
 ·have hz:(m.natAbs:Int)=0:=by omega
  rw[if_pos ((bK _).2 hz)];exact fin hr (by rw[hz,Int.emod_zero])
 ·have hne:(m.natAbs:Int)≠0:=by omega
  have hf:Int.fmod r (m.natAbs:Int)=r%(m.natAbs:Int):=Int.fmod_eq_emod_of_nonneg _ aFx;rw[if_neg (fun q=>hne ((bK _).1 q)),aCa n hr hA hn h4,if_neg hne,Option.bind_some,Option.bind_some,hf];exact fin (by rw[←hf];exact hA.fmod hne) rfl
theorem zN{x y:Int}{n:Nat}(hx:Bd n x)(hy:Bd n y)(hn:1≤n)(h4:n≤4096):fU.f (text x) (text y)=some (text (gcdI x y)):=by
 unfold fU.f wG.f iK.f;rw[if_pos (wE hx hy hn h4),if_pos (sZ hx hy hn h4),bC,bC];rfl
theorem aD7{x y:Int}{n:Nat}(hx:Bd n x)(hy:Bd n y)(hn:1≤n)(h4:n≤4095):jQ.f (text x) (text y)=some (text (x+ -y)):=by
 unfold jQ.f iK.f;rw[sub_at n hx hy hn h4];rfl
theorem add_val{x y:Int}{n:Nat}(hx:Bd n x)(hy:Bd n y)(hn:1≤n)(h4:n≤4095):nR.f (text x) (text y)=some (text (x+y)):=by
 unfold nR.f iK.f;rw[add_at n hx hy hn h4];rfl
theorem aC0{x y:Int}{n:Nat}(hx:Bd n x)(hy:Bd n y)(hn:1≤n)(h4:n≤2048):jG.f (text x) (text y)=some (text (x*y)):=by
 unfold jG.f iK.f;rw[mul_at n hx hy hn h4];rfl
theorem aA4{x y:Int}{n:Nat}(hx:Bd n x)(hy:Bd n y)(hn:1≤n)(h4:n≤4096):iG.f (text x) (text y)=some (decide (x∣y)):=by
 unfold iG.f iK.f
 by_cases h0:x=0
 ·rw[if_pos ((bK x).2 h0)]
  congr 1
  have e:x∣y↔(text y).toList=([48]:List UInt8):=by rw[h0,Int.zero_dvd,bK]
  by_cases h:x∣y
  ·rw[decide_eq_true h,e.1 h];rfl
  ·rw[decide_eq_false h]
   simp only[beq_eq_false_iff_ne,ne_eq];exact fun q=>h (e.2 q)
 ·rw[if_neg (fun q=>h0 ((bK x).1 q)),aCa n hy hx hn h4,if_neg h0,Option.bind_some,Option.bind_some]
  congr 1
  have e:x∣y↔(text (Int.fmod y x)).toList=([48]:List UInt8):=by rw[bK];exact Int.dvd_iff_fmod_eq_zero
  by_cases h:x∣y
  ·rw[decide_eq_true h,e.1 h];rfl
  ·rw[decide_eq_false h]
   simp only[beq_eq_false_iff_ne,ne_eq];exact fun q=>h (e.2 q)
def leO:Option (Int×Int)→Option (Int×Int)→Prop
 |none,_=>True
 |some _,none=>False
 |some c,some d=>leC c d
instance (c d:Int×Int):Decidable (leC c d):=inferInstanceAs (Decidable (_∧_))
instance:(c d:Option (Int×Int))→Decidable (leO c d)
 |none,_=> .isTrue trivial
 |some _,none=> .isFalse id
 |some c,some d=>inferInstanceAs (Decidable (leC c d))
theorem aDq{c d:Option (Int×Int)}(hc:jY c)(hd:jY d)(k:Nat):dI.f (k+1) (encC c).1 (encC c).2.1 (encC c).2.2 (encC d).1 (encC d).2.1 (encC d).2.2=some (decide (leO c d)):=by
 unfold dI.f
 cases c with
 |none=>
  show(if true=true then _ else _)=_;rw[if_pos rfl,dI.j0,if_pos rfl];rfl
 |some c=>
  show(if false=true then _ else _)=_;rw[if_neg aFz]
  cases d with
  |none=>
   show dI.j0 (k+1) true false _ _ _ _ _=_;rw[dI.j0,if_pos rfl];rfl
  |some d=>
   show dI.j0 (k+1) false false (text c.1) (text c.2) false (text d.1) (text d.2)=some (decide (leC c d));have bs:Bd 101 (c.2+ -d.2):=hc.2.2.add hd.2.2.neg;rw[dI.j0,if_neg aFz,aA4 hd.2.1 hc.2.1 aFx aFx,Option.bind_some]
   by_cases h1:d.1∣c.1
   ·rw[if_pos (decide_eq_true h1),aD7 hc.2.2 hd.2.2 aFx aFx,Option.bind_some,aA4 (n:=101) (hd.2.1.mono aFx) bs aFx aFx,Option.bind_some]
    congr 1
    exact decide_eq_decide.2 ⟨fun h=>⟨h1,by rw[Int.sub_eq_add_neg];exact h⟩,fun h=>by have:=h.2;rwa [Int.sub_eq_add_neg] at this⟩
   ·rw[if_neg (by simpa using h1)]
    congr 1
    exact(decide_eq_false fun h=>h1 h.1).symm
theorem add1_val{c d:Int×Int}(hc:jY (some c))(hd:jY (some d))(k:Nat):jI.f (k+1) false (text c.1) (text c.2) false (text d.1) (text d.2)=some (encC (some (addC 100 c d))):=by
 have bg:Bd 101 (gcdI c.1 d.1):=by
  have:=oQ c.1 d.1;have h1:=hc.2.1;have h2:=hd.2.1;unfold Bd at *
  rw[Nat.pow_succ];generalize (10:Nat) ^ 100=P at *
  omega
 unfold jI.f;rw[zN hc.2.1 hd.2.1 aFx aFx,Option.bind_some,add_val hc.2.2 hd.2.2 aFx aFx,Option.bind_some,tV bg (hc.2.2.add hd.2.2) aFx aFx,Option.bind_some];rfl
theorem mul1_val{c d:Int×Int}(hc:jY (some c))(hd:jY (some d))(k:Nat):jJ.f (k+1) false (text c.1) (text c.2) false (text d.1) (text d.2)=some (encC (some (mulC 100 c d))):=by
 have b1:Bd 200 (c.1*d.1):=(hc.2.1.mul hd.2.1).mono aFx;have b2:Bd 200 (c.1*d.2):=(hc.2.1.mul hd.2.2).mono aFx;have b3:Bd 200 (d.1*c.2):=(hd.2.1.mul hc.2.2).mono aFx;have b4:Bd 200 (c.2*d.2):=(hc.2.2.mul hd.2.2).mono aFx
 have bg:Bd 201 (gcdI (c.1*d.2) (d.1*c.2)):=by
  have:=oQ (c.1*d.2) (d.1*c.2);unfold Bd at *
  rw[Nat.pow_succ];generalize (10:Nat) ^ 200=P at *
  omega
 have bm:Bd 202 (mulM c d):=by
  have:=oQ (c.1*d.1) (gcdI (c.1*d.2) (d.1*c.2));have b5:Bd 201 (c.1*d.1):=b1.mono aFx;unfold Bd mulM at *
  rw[Nat.pow_succ];generalize (10:Nat) ^ 201=P at *
  omega
 unfold jJ.f
 rw[aC0 hc.2.1 hd.2.1 aFx aFx,Option.bind_some,aC0 hc.2.1 hd.2.2 aFx aFx,Option.bind_some,aC0 hd.2.1 hc.2.2 aFx aFx,Option.bind_some,zN b2 b3 aFx aFx,Option.bind_some,
  zN (n:=201) (b1.mono aFx) bg aFx aFx,Option.bind_some,aC0 hc.2.2 hd.2.2 aFx aFx,Option.bind_some,show gcdI (c.1*d.1) (gcdI (c.1*d.2) (d.1*c.2))=mulM c d from rfl,tV (n:=202) bm (b4.mono aFx) aFx aFx,Option.bind_some]
 rfl
theorem aEf{c d:Int×Int}(hc:jY (some c))(hd:jY (some d)):Bd 101 (joinM c d):=joinM_bd hc.2.1 hc.2.2 hd.2.1 hd.2.2
theorem lcmI_bd{x y:Int}{m n:Nat}(hx:Bd m x)(hy:Bd n y):Bd (m+n) (lcmI x y):=by
 have:=lcmI_le x y;unfold Bd at *
 rw[Nat.pow_add];exact Nat.lt_of_le_of_lt this (Nat.mul_lt_mul'' hx hy)
theorem bezU_bd{x y:Int}{n:Nat}(hy:Bd n y)(h0:y≠0):Bd n (bezU x y):=by
 have hg:=aAb (a:=x) h0;have hgd:=qL x y;unfold bezU;rw[if_neg h0]
 have n0:(y.natAbs:Int)/gcdI x y≠0:=by
  obtain⟨t,ht⟩:gcdI x y∣(y.natAbs:Int):=Int.dvd_natAbs.2 hgd;rw[ht,Int.mul_ediv_cancel_left _ aFx];intro q;rw[q,Int.mul_zero] at ht;omega
 have e1:Int.fdiv (y.natAbs:Int) (gcdI x y)=(y.natAbs:Int)/gcdI x y:=Int.fdiv_eq_ediv_of_nonneg _ aFx;have bq:Bd n ((y.natAbs:Int)/gcdI x y):=by rw[←e1];exact Bd.fdiv (by unfold Bd at *;simpa using hy) aFx
 exact bq.fmod n0
theorem meet_val{c d:Int×Int}(hc:jY (some c))(hd:jY (some d))(k:Nat):fD.f (k+2) false (text c.1) (text c.2) false (text d.1) (text d.2)=some (encC (meetC 100 c d)):=by
 have i1:=aDq hc hd (k+1);have i2:=aDq hd hc (k+1)
 have bg:Bd 101 (gcdI c.1 d.1):=by
  have:=oQ c.1 d.1;have h1:=hc.2.1;have h2:=hd.2.1;unfold Bd at *
  rw[Nat.pow_succ];generalize (10:Nat) ^ 100=P at *
  omega
 have bs:Bd 101 (d.2+ -c.2):=hd.2.2.add hc.2.2.neg;unfold fD.f meetC;rw[show dI.f (k+2) false (text c.1) (text c.2) false (text d.1) (text d.2)=_ from i1,Option.bind_some]
 by_cases h1:d.1∣c.1∧d.1∣c.2-d.2
 ·rw[if_pos (decide_eq_true (show leO (some c) (some d) from h1)),if_pos h1];rfl
 ·rw[if_neg (by simpa using(show ¬leO (some c) (some d) from h1)),if_neg h1]
  rw[show dI.f (k+2) false (text d.1) (text d.2) false (text c.1) (text c.2)=_ from i2,Option.bind_some]
  by_cases h2:c.1∣d.1∧c.1∣d.2-c.2
  ·rw[if_pos (decide_eq_true (show leO (some d) (some c) from h2)),if_pos h2];rfl
  ·rw[if_neg (by simpa using(show ¬leO (some d) (some c) from h2)),if_neg h2,zN hc.2.1 hd.2.1 aFx aFx,Option.bind_some,aD7 hd.2.2 hc.2.2 aFx aFx,Option.bind_some]
   have e0:fD.j0 (k+2) (text (gcdI c.1 d.1)) (text (d.2+ -c.2)) true false (text c.1) (text c.2) false (text d.1) (text d.2)=some (encC none):=by
    rw[fD.j0,if_pos rfl];rfl
   by_cases h3:c.1=0
   ·rw[if_pos ((bK _).2 h3),if_pos (.inl h3),e0]
   ·rw[if_neg (fun q=>h3 ((bK _).1 q))]
    by_cases h4:d.1=0
    ·rw[if_pos ((bK _).2 h4),if_pos (.inr (.inl h4)),e0]
    ·rw[if_neg (fun q=>h4 ((bK _).1 q)),aA4 bg bs aFx aFx,Option.bind_some]
     by_cases h5:gcdI c.1 d.1∣d.2+ -c.2
     ·have g0:gcdI c.1 d.1≠0:=by have:=aAb (a:=c.1) h4;omega
      have bu:Bd 101 (bezU c.1 d.1):=(bezU_bd hd.2.1 h4).mono aFx;have bq:Bd 101 (Int.fdiv (d.2+ -c.2) (gcdI c.1 d.1)):=bs.fdiv g0;have bk:Bd 202 (bezU c.1 d.1*Int.fdiv (d.2+ -c.2) (gcdI c.1 d.1)):=(bu.mul bq).mono aFx;have bl:Bd 200 (lcmI c.1 d.1):=(lcmI_bd hc.2.1 hd.2.1).mono aFx;have bp:Bd 302 (bezU c.1 d.1*Int.fdiv (d.2+ -c.2) (gcdI c.1 d.1)*c.1):=(bk.mul hc.2.1).mono aFx;have bt:Bd 303 (metS c d):=(Bd.add (m:=302) (hc.2.2.mono aFx) bp)
      have z0:qX.f (text c.1) (text d.1)=some (text (gcdI c.1 d.1),text (bezU c.1 d.1),text (bezV c.1 d.1),0):=by
       unfold qX.f;rw[if_pos (wE hc.2.1 hd.2.1 aFx aFx),if_pos (sZ hc.2.1 hd.2.1 aFx aFx),bC,bC]
      have wl:=wr_ok (m:=200) bl aFx
      have z1:wH.f (text c.1) (text d.1)=some (text (lcmI c.1 d.1),0):=by
       unfold wH.f;rw[if_pos (wE hc.2.1 hd.2.1 aFx aFx),if_pos (sZ hc.2.1 hd.2.1 aFx aFx),bC,bC,wl.1,wl.2]
      rw[decide_eq_true h5,if_neg (by rintro(q|q|q) <;> contradiction)];show fD.j0 (k+1+1) _ _ false _ _ _ _ _ _=_;rw[fD.j0,if_neg aFz,z0,Option.bind_some,quo_at 101 bs bg aFx aFx,if_neg g0,Option.bind_some];unfold iK.f
      rw[Option.bind_some,aC0 bu bq aFx aFx,Option.bind_some,z1,Option.bind_some,Option.bind_some,aC0 (n:=202) bk (hc.2.1.mono aFx) aFx aFx,Option.bind_some,
       add_val (n:=302) (hc.2.2.mono aFx) bp aFx aFx,Option.bind_some]
      show((dS.f (k+1) (text (lcmI c.1 d.1)) (text (metS c d))).bind _)=_;rw[tV (n:=303) (bl.mono aFx) bt aFx aFx,Option.bind_some]
     ·rw[decide_eq_false h5,if_pos (.inr (.inr h5))];exact e0
theorem aAr{c:Int×Int}:((false==false)&&((text c.1).toList==(⟨#[48]⟩:ByteArray).toList&&(text c.2).toList==(⟨#[48]⟩:ByteArray).toList))=true↔c.1=0∧c.2=0:=by
 have e:(⟨#[48]⟩:ByteArray).toList=([48]:List UInt8):=by rw[toList_data]
 rw[e];simp only[BEq.rfl,Bool.true_and,Bool.and_eq_true,beq_iff_eq,bK]
def topC:Int×Int:=(1,0)
theorem top_val:jC.f=some (encC (some topC)):=by
 have t1:encC (some topC)=(false,⟨#[49]⟩,⟨#[48]⟩):=by decide +kernel
 rw[t1];rfl
def quoC(M:Nat)(c d:Int×Int):Option (Int×Int):=if d.1=0∧d.2=0 then none else if d.1=0 then(if d.2∣c.1 then some (cls M (Int.fdiv c.1 d.2) (Int.fdiv c.2 d.2)) else some topC) else if c.1=0∧c.2=0 then some c else some topC
def remC(M:Nat)(c d:Int×Int):Option (Int×Int):=if d.1=0∧d.2=0 then none else if d.1=0∧d.2∣c.1 then some (cls M 0 (Int.fmod c.2 d.2)) else some (cls M (gcdI c.1 (gcdI d.1 d.2)) c.2)
theorem quo1_val{c d:Int×Int}(hc:jY (some c))(hd:jY (some d))(k:Nat):jV.f (k+2) false (text c.1) (text c.2) false (text d.1) (text d.2)=some (encC (quoC 100 c d)):=by
 unfold jV.f quoC fG.f;rw[Option.bind_some]
 by_cases h1:d.1=0∧d.2=0
 ·rw[if_pos (aAr.2 h1),if_pos h1];rfl
 ·rw[if_neg (fun q=>h1 (aAr.1 q)),if_neg h1]
  by_cases h2:d.1=0
  ·have h3:d.2≠0:=fun q=>h1 ⟨h2,q⟩
   rw[if_pos ((bK _).2 h2),if_pos h2,aA4 hd.2.2 hc.2.1 aFx aFx,Option.bind_some]
   by_cases h4:d.2∣c.1
   ·rw[if_pos (decide_eq_true h4),if_pos h4,quo_at 100 hc.2.1 hd.2.2 aFx aFx,if_neg h3,Option.bind_some]
    unfold iK.f;rw[Option.bind_some,quo_at 100 hc.2.2 hd.2.2 aFx aFx,if_neg h3,Option.bind_some,Option.bind_some,tV (hc.2.1.fdiv h3) (hc.2.2.fdiv h3) aFx aFx,Option.bind_some]
   ·rw[if_neg (by simpa using h4),if_neg h4,top_val];rfl
  ·rw[if_neg (fun q=>h2 ((bK _).1 q)),if_neg h2,Option.bind_some]
   by_cases h5:c.1=0∧c.2=0
   ·rw[if_pos (aAr.2 h5),if_pos h5];rfl
   ·rw[if_neg (fun q=>h5 (aAr.1 q)),if_neg h5,top_val];rfl
theorem zO{x y:Int}(hx:Bd 100 x)(hy:Bd 100 y):Bd 101 (gcdI x y):=by
 have:=oQ x y;unfold Bd at *
 rw[Nat.pow_succ];generalize (10:Nat) ^ 100=P at *
 omega
theorem gcd3_bd{x y:Int}(hx:Bd 100 x)(hy:Bd 101 y):Bd 102 (gcdI x y):=by
 have:=oQ x y;have h1:=hx.mono (show 100≤101 by omega);unfold Bd at *
 rw[Nat.pow_succ];generalize (10:Nat) ^ 101=P at *
 omega
theorem rem1_val{c d:Int×Int}(hc:jY (some c))(hd:jY (some d))(k:Nat):fP.f (k+2) false (text c.1) (text c.2) false (text d.1) (text d.2)=some (encC (remC 100 c d)):=by
 have z0:Bd 100 0:=Nat.pow_pos aFx;unfold fP.f remC fG.f;rw[Option.bind_some]
 by_cases h1:d.1=0∧d.2=0
 ·rw[if_pos (aAr.2 h1),if_pos h1];rfl
 ·rw[if_neg (fun q=>h1 (aAr.1 q)),if_neg h1]
  have els:fP.j0 (k+2) false false (text c.1) (text c.2) false (text d.1) (text d.2)=some (encC (some (cls 100 (gcdI c.1 (gcdI d.1 d.2)) c.2))):=by
   rw[fP.j0,if_neg aFz,zN hd.2.1 hd.2.2 aFx aFx,Option.bind_some,zN (n:=101) (hc.2.1.mono aFx) (zO hd.2.1 hd.2.2) aFx aFx,Option.bind_some,tV (n:=102) (gcd3_bd hc.2.1 (zO hd.2.1 hd.2.2)) (hc.2.2.mono aFx) aFx aFx,Option.bind_some]
  by_cases h2:d.1=0
  ·have h3:d.2≠0:=fun q=>h1 ⟨h2,q⟩
   rw[if_pos ((bK _).2 h2),aA4 hd.2.2 hc.2.1 aFx aFx,Option.bind_some]
   by_cases h4:d.2∣c.1
   ·rw[if_pos ⟨h2,h4⟩,decide_eq_true h4,fP.j0,if_pos rfl,aCa 100 hc.2.2 hd.2.2 aFx aFx,if_neg h3,Option.bind_some]
    unfold iK.f;rw[Option.bind_some,show(⟨#[48]⟩:ByteArray)=text 0 from vC.symm,tV z0 (hd.2.2.fmod h3) aFx aFx,Option.bind_some]
   ·rw[if_neg (fun q=>h4 q.2),decide_eq_false h4];exact els
  ·rw[if_neg (fun q=>h2 ((bK _).1 q)),if_neg (fun q=>h2 q.1)];exact els
def bothO(F:Int×Int→Int×Int→Option (Int×Int)):Option (Int×Int)→Option (Int×Int)→Option (Int×Int)
 |some c,some d=>F c d
 |_,_=>none
def mW(e1:Bool)(m1 r1:ByteArray)(e2:Bool)(m2 r2:ByteArray):Int:=if chkC e1 m1 r1=0 then chkC e2 m2 r2 else chkC e1 m1 r1
def decC(e:Bool)(m r:ByteArray):Option (Int×Int):=if e=true then none else some (aV m,aV r)
theorem nH(o:Option (Int×Int)):decC (encC o).1 (encC o).2.1 (encC o).2.2=o:=by
 cases o with
 |none=>rfl
 |some c=>
  show(if false=true then none else some (aV (text c.1),aV (text c.2)))=_;rw[if_neg aFz,bC,bC]
theorem both_val{e1:Bool}{m1 r1:ByteArray}{e2:Bool}{m2 r2:ByteArray}(h1:m1.size≤1000000)(h2:r1.size≤1000000)(h3:m2.size≤1000000)(h4:r2.size≤1000000)(k:Nat)(hk:5≤k):jP.f k e1 m1 r1 e2 m2 r2=some (mW e1 m1 r1 e2 m2 r2):=by
 unfold jP.f mW;rw[aBl e1 m1 r1 h1 h2 k hk,Option.bind_some]
 by_cases h:chkC e1 m1 r1=0
 ·rw[if_pos h,if_pos h,aBl e2 m2 r2 h3 h4 k hk,Option.bind_some]
 ·rw[if_neg h,if_neg h]
def resC(F:Option (Int×Int)→Option (Int×Int)→Option (Int×Int))(e1:Bool)(m1 r1:ByteArray)(e2:Bool)(m2 r2:ByteArray):Bool×ByteArray×ByteArray×Int:=
 if mW e1 m1 r1 e2 m2 r2=0 then((encC (F (decC e1 m1 r1) (decC e2 m2 r2))).1,(encC (F (decC e1 m1 r1) (decC e2 m2 r2))).2.1,(encC (F (decC e1 m1 r1) (decC e2 m2 r2))).2.2,0) else(false,⟨#[]⟩,⟨#[]⟩,mW e1 m1 r1 e2 m2 r2)
theorem aAe{e1:Bool}{m1 r1:ByteArray}{e2:Bool}{m2 r2:ByteArray}(h:mW e1 m1 r1 e2 m2 r2=0):∃c d,jY c∧jY d∧(e1,m1,r1)=encC c∧(e2,m2,r2)=encC d:=by
 unfold mW at h
 by_cases h1:chkC e1 m1 r1=0
 ·rw[if_pos h1] at h
  obtain⟨c,gc,ec⟩:=aAq h1;obtain⟨d,gd,ed⟩:=aAq h;exact⟨c,d,gc,gd,ec,ed⟩
 ·rw[if_neg h1] at h;exact absurd h h1
def few4(m1 r1 m2 r2:ByteArray):Prop:=m1.size≤1000000∧r1.size≤1000000∧m2.size≤1000000∧r2.size≤1000000
instance (m1 r1 m2 r2:ByteArray):Decidable (few4 m1 r1 m2 r2):=inferInstanceAs (Decidable (_∧_))
theorem aAs{G:Bool→ByteArray→ByteArray→Bool→ByteArray→ByteArray→Option (Bool×ByteArray×ByteArray)}{F:Int×Int→Int×Int→Option (Int×Int)}
 (hF:∀c d,jY (some c)→jY (some d)→G false (text c.1) (text c.2) false (text d.1) (text d.2)=some (encC (F c d)))
 (e1:Bool) (m1 r1:ByteArray) (e2:Bool) (m2 r2:ByteArray) (hz:few4 m1 r1 m2 r2) (k:Nat) (hk:5≤k):bM.f G k e1 m1 r1 e2 m2 r2=some (resC (bothO F) e1 m1 r1 e2 m2 r2):=by
 obtain⟨k,rfl⟩:∃j,k=j+1:=⟨k-1,by omega⟩
 unfold bM.f resC;rw[both_val hz.1 hz.2.1 hz.2.2.1 hz.2.2.2 _ hk,Option.bind_some]
 by_cases h:mW e1 m1 r1 e2 m2 r2=0
 ·obtain⟨c,d,gc,gd,ec,ed⟩:=aAe h
  rw[if_pos h,if_pos h];have hc:=nH c;have hd:=nH d;rw[←ec] at hc;rw[←ed] at hd;simp only at hc hd;rw[hc,hd]
  cases c with
  |none=>
   obtain⟨rfl,rfl,rfl⟩:e1=true∧m1=⟨#[]⟩∧r1=⟨#[]⟩:=by simpa[encC] using ec
   rw[if_pos rfl,bM.j0,if_pos rfl];rfl
  |some c=>
   obtain⟨rfl,rfl,rfl⟩:e1=false∧m1=text c.1∧r1=text c.2:=by simpa[encC] using ec
   rw[if_neg aFz]
   cases d with
   |none=>
    obtain⟨rfl,rfl,rfl⟩:e2=true∧m2=⟨#[]⟩∧r2=⟨#[]⟩:=by simpa[encC] using ed
    rw[bM.j0,if_pos rfl];rfl
   |some d=>
    obtain⟨rfl,rfl,rfl⟩:e2=false∧m2=text d.1∧r2=text d.2:=by simpa[encC] using ed
    rw[bM.j0,if_neg aFz,hF c d gc gd,Option.bind_some];rfl
 ·rw[if_neg h,if_neg h]
def joinO(M:Nat):Option (Int×Int)→Option (Int×Int)→Option (Int×Int)
 |none,d=>d
 |some c,none=>some c
 |some c,some d=>some (joinC M c d)
theorem join_val(e1:Bool)(m1 r1:ByteArray)(e2:Bool)(m2 r2:ByteArray)(hz:few4 m1 r1 m2 r2)(k:Nat)(hk:5≤k):kL.f k e1 m1 r1 e2 m2 r2=some (resC (joinO 100) e1 m1 r1 e2 m2 r2):=by
 obtain⟨k,rfl⟩:∃j,k=j+1:=⟨k-1,by omega⟩
 unfold kL.f resC;rw[both_val hz.1 hz.2.1 hz.2.2.1 hz.2.2.2 _ hk,Option.bind_some]
 by_cases h:mW e1 m1 r1 e2 m2 r2=0
 ·obtain⟨c,d,gc,gd,ec,ed⟩:=aAe h
  rw[if_pos h,if_pos h];have hc:=nH c;have hd:=nH d;rw[←ec] at hc;rw[←ed] at hd;simp only at hc hd;rw[hc,hd]
  cases c with
  |none=>
   obtain⟨rfl,rfl,rfl⟩:e1=true∧m1=⟨#[]⟩∧r1=⟨#[]⟩:=by simpa[encC] using ec
   rw[if_pos rfl];show some (e2,m2,r2,(0:Int))=some ((encC d).1,(encC d).2.1,(encC d).2.2,0);rw[←ed]
  |some c=>
   obtain⟨rfl,rfl,rfl⟩:e1=false∧m1=text c.1∧r1=text c.2:=by simpa[encC] using ec
   rw[if_neg aFz]
   cases d with
   |none=>
    obtain⟨rfl,rfl,rfl⟩:e2=true∧m2=⟨#[]⟩∧r2=⟨#[]⟩:=by simpa[encC] using ed
    rw[if_pos rfl];rfl
   |some d=>
    obtain⟨rfl,rfl,rfl⟩:e2=false∧m2=text d.1∧r2=text d.2:=by simpa[encC] using ed
    have bg:=zO gc.2.1 gd.2.1;have bs:Bd 101 (c.2+ -d.2):=gc.2.2.add gd.2.2.neg;have bj:=aEf gc gd
    rw[if_neg aFz,zN gc.2.1 gd.2.1 aFx aFx,Option.bind_some,aD7 gc.2.2 gd.2.2 aFx aFx,Option.bind_some,zN bg bs aFx aFx,Option.bind_some,
     show gcdI (gcdI c.1 d.1) (c.2+ -d.2)=joinM c d from by unfold joinM;rw[Int.sub_eq_add_neg],tV bj (gc.2.2.mono aFx) aFx aFx,Option.bind_some]
    rfl
 ·rw[if_neg h,if_neg h]
def hldE(e:Bool)(m r a:ByteArray):Int:=if chkC e m r=0 then chkI a else chkC e m r
theorem aFl{a b m:Int}{n:Nat}(ha:Bd n a)(hb:Bd n b)(hm:Bd n m)(h0:0<m)(hn:1≤n)(h4:n≤4000):lL.f (text a) (text b) (text m)=some (text ((a-b)%m),0):=by
 have m0:m≠0:=by omega
 have fa:Int.fmod a m=a%m:=Int.fmod_eq_emod_of_nonneg _ aFx;have fb:Int.fmod b m=b%m:=Int.fmod_eq_emod_of_nonneg _ aFx;have ba:=hm.fmod (x:=a) m0;have bb:=hm.fmod (x:=b) m0;have bs:Bd (n+1) (Int.fmod a m+ -Int.fmod b m):=ba.add bb.neg
 have fs:Int.fmod (Int.fmod a m+ -Int.fmod b m) m=(a-b)%m:=by
  rw[Int.fmod_eq_emod_of_nonneg _ aFx,fa,fb,←Int.sub_eq_add_neg,←Int.sub_emod]
 unfold lL.f;rw[aCa n ha hm hn aFx,if_neg m0,Option.bind_some,if_pos rfl,aCa n hb hm hn aFx,if_neg m0,Option.bind_some,if_pos rfl,aD7 ba bb hn aFx,Option.bind_some,aCa (n+1) bs (hm.mono aFx) aFx aFx,if_neg m0,Option.bind_some,fs]
theorem aB9{a m:Int}{n:Nat}(hm:Bd n m)(h0:0<m):Bd n (a%m):=by
 have:=hm.fmod (x:=a) (show m≠0 by omega)
 rwa [Int.fmod_eq_emod_of_nonneg _ aFx] at this
def aCe(o:Option (Int×Int))(low:Int):ByteArray×Int:=match o with
 |none=>(⟨#[]⟩,16)
 |some c=>if c.1=0 then(if c.2<low then(⟨#[]⟩,6) else(text c.2,0)) else(text (low+(c.2-low)%c.1),0)
def zA(o:Option (Int×Int))(high:Int):ByteArray×Int:=match o with
 |none=>(⟨#[]⟩,16)
 |some c=>if c.1=0 then(if high<c.2 then(⟨#[]⟩,6) else(text c.2,0)) else(text (high+ -((high-c.2)%c.1)),0)
theorem up_val{lo m r:Int}(hl:Bd 300 lo)(hm:Bd 100 m)(hr:Bd 100 r)(h0:0<m):zM (text lo) (text m) (text r)=some (text (lo+(r-lo)%m),0):=by
 unfold zM;rw[aFl (n:=300) (hr.mono aFx) hl (hm.mono aFx) h0 aFx aFx,Option.bind_some,if_pos rfl,add_at 300 hl ((aB9 hm h0).mono aFx) aFx aFx,Option.bind_some]
theorem down_val{hi m r:Int}(hl:Bd 300 hi)(hm:Bd 100 m)(hr:Bd 100 r)(h0:0<m):tN (text hi) (text m) (text r)=some (text (hi+ -((hi-r)%m)),0):=by
 unfold tN;rw[aFl (n:=300) hl (hr.mono aFx) (hm.mono aFx) h0 aFx aFx,Option.bind_some,if_pos rfl,sub_at 300 hl ((aB9 hm h0).mono aFx) aFx aFx,Option.bind_some]
theorem aEs{g1:ByteArray→ByteArray→Option (ByteArray×Int)}{g2:ByteArray→Option Bool}{R:Option (Int×Int)→Int→ByteArray×Int}(e:Bool)(m r a:ByteArray)(hm:m.size≤1000000)(hr:r.size≤1000000)(ha:a.size≤300)(k:Nat)(hk:5≤k)
 (hN:∀y,R none y=(⟨#[]⟩,16))
 (h1:∀(c:Int×Int) (y:Int),jY (some c)→Bd 300 y→a=text y→c.1≠0→g1 (text c.1) (text c.2)=some (R (some c) y))
 (h2:∀(c:Int×Int) (y:Int),jY (some c)→Bd 300 y→a=text y→c.1=0→∃b,g2 (text c.2)=some b∧R (some c) y=if b=true then(⟨#[]⟩,6) else(text c.2,0)) :
 kW.f k g1 g2 e m r a=some (if hldE e m r a=0 then R (decC e m r) (aV a) else(⟨#[]⟩,hldE e m r a)):=by
 unfold kW.f hldE;rw[aBl e m r hm hr k hk,Option.bind_some]
 by_cases h:chkC e m r=0
 ·obtain⟨o,go,eo⟩:=aAq h
  have hd:=nH o;rw[←eo] at hd;simp only at hd;unfold iQ.f;rw[if_pos h,if_pos h,if_pos (show a.size≤9223372036854775807 by omega),Option.bind_some]
  by_cases hc:chkI a=0
  ·obtain⟨h3,h4⟩:=xU hc
   obtain⟨y,ey⟩:=lU a h3;have by':Bd 300 y:=oN _ (by rw[←kV,←ey];exact Nat.le_trans (digN_le _) ha)
   have iy:aV a=y:=by rw[ey,bC]
   rw[if_pos hc,if_pos hc,hd,iy]
   cases o with
   |none=>
    obtain⟨rfl,rfl,rfl⟩:e=true∧m=⟨#[]⟩∧r=⟨#[]⟩:=by simpa[encC] using eo
    rw[if_pos rfl,hN]
   |some c=>
    obtain⟨rfl,rfl,rfl⟩:e=false∧m=text c.1∧r=text c.2:=by simpa[encC] using eo
    rw[if_neg aFz]
    by_cases h5:c.1=0
    ·obtain⟨b,hb,hR⟩:=h2 c y go by' ey h5
     rw[if_pos ((bK _).2 h5),hb,Option.bind_some,hR]
     cases b
     ·rw[if_neg aFz,if_neg aFz]
     ·rw[if_pos rfl,if_pos rfl]
    ·rw[if_neg (fun q=>h5 ((bK _).1 q)),h1 c y go by' ey h5,Option.bind_some]
  ·rw[if_neg hc,if_neg hc]
 ·rw[if_neg h,if_neg h,if_neg h]
theorem least_val(e:Bool)(m r a:ByteArray)(hm:m.size≤1000000)(hr:r.size≤1000000)(ha:a.size≤300)(k:Nat)(hk:5≤k):sD.f k e m r a=some (if hldE e m r a=0 then aCe (decC e m r) (aV a) else(⟨#[]⟩,hldE e m r a)):=by
 unfold sD.f;refine aEs e m r a hm hr ha k hk (fun _=>rfl) (fun c y gc by' ey h0=> ?_) (fun c y gc by' ey h0=> ?_)
 ·rw[ey,up_val by' gc.2.1 gc.2.2 (by have:=gc.1.1;omega)]
  unfold aCe;simp only;rw[if_neg h0]
 ·refine⟨decide (c.2<y),?_,?_⟩
  ·unfold aAd
   rw[ey,aBk (gc.2.2.mono aFx) by' aFx aFx]
  ·unfold aCe
   simp only;rw[if_pos h0]
   by_cases h:c.2<y
   ·rw[if_pos h,if_pos (decide_eq_true h)]
   ·rw[if_neg h,if_neg (by simpa using h)]
theorem greatest_val(e:Bool)(m r a:ByteArray)(hm:m.size≤1000000)(hr:r.size≤1000000)(ha:a.size≤300)(k:Nat)(hk:5≤k):qA.f k e m r a=some (if hldE e m r a=0 then zA (decC e m r) (aV a) else(⟨#[]⟩,hldE e m r a)):=by
 unfold qA.f;refine aEs e m r a hm hr ha k hk (fun _=>rfl) (fun c y gc by' ey h0=> ?_) (fun c y gc by' ey h0=> ?_)
 ·rw[ey,down_val by' gc.2.1 gc.2.2 (by have:=gc.1.1;omega)]
  unfold zA;simp only;rw[if_neg h0]
 ·refine⟨decide (y<c.2),?_,?_⟩
  ·unfold wJ
   rw[ey,aBk by' (gc.2.2.mono aFx) aFx aFx]
  ·unfold zA
   simp only;rw[if_pos h0]
   by_cases h:y<c.2
   ·rw[if_pos h,if_pos (decide_eq_true h)]
   ·rw[if_neg h,if_neg (by simpa using h)]
end Go.Proofs.YtignanmmgaldeaaGreatDoor.CongM
end
section
set_option linter.unusedVariables false
set_option linter.unusedSimpArgs false
namespace Go.Proofs.YtignanmmgaldeaaGreatDoor
open Go.RowKit Go.Proofs.YtignanmmgaldeaaGreatDoor.RefP Go.Proofs.YtignanmmgaldeaaGreatDoor.PCongI Go.Proofs.YtignanmmgaldeaaGreatDoor.CongM Go.Proofs.YtignanmmgaldeaaGreatDoorW.PrintWords Go.Proofs.YtignanmmgaldeaaGreatDoorW.PrintLast
def pW.f(a0_0:Bool)(a0_1 a0_2:ByteArray)(a1_0:Bool)(a1_1 a1_2:ByteArray):Option (Bool×ByteArray×ByteArray×Int):=if few4 a0_1 a0_2 a1_1 a1_2 then some (resC (joinO 100) a0_0 a0_1 a0_2 a1_0 a1_1 a1_2) else none
theorem pW.calls(l9:Bool)(o5 o6:ByteArray)(o7:Bool)(o8 o9:ByteArray)(b1:Bool)(s2:ByteArray)(s3:ByteArray)(i4:Int)(w:World)(hG:GW w)(h:pW.f l9 o5 o6 o7 o8 o9=some (b1,s2,s3,i4)) :
 Calls Tryz.prog 42 #[.agg #[.bool l9,.string o5,.string o6],.agg #[.bool o7,.string o8,.string o9]] w fun e w'=>e= .returned (.tuple #[.agg #[.bool b1,.string s2,.string s3],.int .i64 i4])∧Below w.heap.size w w':=by
 unfold pW.f at h
 split at h
 ·rename_i hs
  rw[←join_val l9 o5 o6 o7 o8 o9 hs 5 (Nat.le_refl _)] at h;exact kL.calls 5 l9 o5 o6 o7 o8 o9 b1 s2 s3 i4 w hG h
 ·cases h
def nS.f(a0_0:Bool)(a0_1 a0_2:ByteArray)(a1:ByteArray):Option (ByteArray×Int):=if a0_1.size≤1000000∧a0_2.size≤1000000∧a1.size≤300 then some (if hldE a0_0 a0_1 a0_2 a1=0 then aCe (decC a0_0 a0_1 a0_2) (aV a1) else(⟨#[]⟩,hldE a0_0 a0_1 a0_2 a1)) else none
theorem nS.calls(l9:Bool)(o5 o6:ByteArray)(a1:ByteArray)(s1:ByteArray)(i2:Int)(w:World)(hG:GW w)(h:nS.f l9 o5 o6 a1=some (s1,i2)) :
 Calls Tryz.prog 62 #[.agg #[.bool l9,.string o5,.string o6],.string a1] w fun e w'=>e= .returned (.tuple #[.string s1,.int .i64 i2])∧Below w.heap.size w w':=by
 unfold nS.f at h
 split at h
 ·rename_i hs
  rw[←least_val l9 o5 o6 a1 hs.1 hs.2.1 hs.2.2 5 (Nat.le_refl _)] at h;exact sD.calls 5 l9 o5 o6 a1 s1 i2 w hG h
 ·cases h
def lV.f(a0_0:Bool)(a0_1 a0_2:ByteArray)(a1:ByteArray):Option (ByteArray×Int):=if a0_1.size≤1000000∧a0_2.size≤1000000∧a1.size≤300 then some (if hldE a0_0 a0_1 a0_2 a1=0 then zA (decC a0_0 a0_1 a0_2) (aV a1) else(⟨#[]⟩,hldE a0_0 a0_1 a0_2 a1)) else none
theorem lV.calls(l9:Bool)(o5 o6:ByteArray)(a1:ByteArray)(s1:ByteArray)(i2:Int)(w:World)(hG:GW w)(h:lV.f l9 o5 o6 a1=some (s1,i2)) :
 Calls Tryz.prog 64 #[.agg #[.bool l9,.string o5,.string o6],.string a1] w fun e w'=>e= .returned (.tuple #[.string s1,.int .i64 i2])∧Below w.heap.size w w':=by
 unfold lV.f at h
 split at h
 ·rename_i hs
  rw[←greatest_val l9 o5 o6 a1 hs.1 hs.2.1 hs.2.2 5 (Nat.le_refl _)] at h;exact qA.calls 5 l9 o5 o6 a1 s1 i2 w hG h
 ·cases h
def mF.o:Option (Int×Int)→Option (Int×Int)→Option (Int×Int):=bothO fun c d=>some (addC 100 c d)
theorem mF.val(o8:Bool)(l9 o5:ByteArray)(o9:Bool)(o6 o7:ByteArray)(hs:few4 l9 o5 o6 o7):vG.f 5 o8 l9 o5 o9 o6 o7=some (resC mF.o o8 l9 o5 o9 o6 o7):=by
 unfold vG.f;rw[aAs (F:=fun c d=>some (addC 100 c d)) (fun c d gc gd=>add1_val gc gd 4) o8 l9 o5 o9 o6 o7 hs 5 (Nat.le_refl _),Option.bind_some];rfl
def mF.f(a0_0:Bool)(a0_1 a0_2:ByteArray)(a1_0:Bool)(a1_1 a1_2:ByteArray):Option (Bool×ByteArray×ByteArray×Int):=if few4 a0_1 a0_2 a1_1 a1_2 then some (resC mF.o a0_0 a0_1 a0_2 a1_0 a1_1 a1_2) else none
theorem mF.calls(l9:Bool)(o5 o6:ByteArray)(o7:Bool)(o8 o9:ByteArray)(b1:Bool)(s2:ByteArray)(s3:ByteArray)(i4:Int)(w:World)(hG:GW w)(h:mF.f l9 o5 o6 o7 o8 o9=some (b1,s2,s3,i4)) :
 Calls Tryz.prog 50 #[.agg #[.bool l9,.string o5,.string o6],.agg #[.bool o7,.string o8,.string o9]] w fun e w'=>e= .returned (.tuple #[.agg #[.bool b1,.string s2,.string s3],.int .i64 i4])∧Below w.heap.size w w':=by
 unfold mF.f at h
 split at h
 ·rename_i hs
  rw[←mF.val l9 o5 o6 o7 o8 o9 hs] at h;exact vG.calls 5 l9 o5 o6 o7 o8 o9 b1 s2 s3 i4 w hG h
 ·cases h
def mG.o:Option (Int×Int)→Option (Int×Int)→Option (Int×Int):=bothO fun c d=>some (mulC 100 c d)
theorem mG.val(o8:Bool)(l9 o5:ByteArray)(o9:Bool)(o6 o7:ByteArray)(hs:few4 l9 o5 o6 o7):vH.f 5 o8 l9 o5 o9 o6 o7=some (resC mG.o o8 l9 o5 o9 o6 o7):=by
 unfold vH.f;rw[aAs (F:=fun c d=>some (mulC 100 c d)) (fun c d gc gd=>mul1_val gc gd 4) o8 l9 o5 o9 o6 o7 hs 5 (Nat.le_refl _),Option.bind_some];rfl
def mG.f(a0_0:Bool)(a0_1 a0_2:ByteArray)(a1_0:Bool)(a1_1 a1_2:ByteArray):Option (Bool×ByteArray×ByteArray×Int):=if few4 a0_1 a0_2 a1_1 a1_2 then some (resC mG.o a0_0 a0_1 a0_2 a1_0 a1_1 a1_2) else none
theorem mG.calls(l9:Bool)(o5 o6:ByteArray)(o7:Bool)(o8 o9:ByteArray)(b1:Bool)(s2:ByteArray)(s3:ByteArray)(i4:Int)(w:World)(hG:GW w)(h:mG.f l9 o5 o6 o7 o8 o9=some (b1,s2,s3,i4)) :
 Calls Tryz.prog 54 #[.agg #[.bool l9,.string o5,.string o6],.agg #[.bool o7,.string o8,.string o9]] w fun e w'=>e= .returned (.tuple #[.agg #[.bool b1,.string s2,.string s3],.int .i64 i4])∧Below w.heap.size w w':=by
 unfold mG.f at h
 split at h
 ·rename_i hs
  rw[←mG.val l9 o5 o6 o7 o8 o9 hs] at h;exact vH.calls 5 l9 o5 o6 o7 o8 o9 b1 s2 s3 i4 w hG h
 ·cases h
def kN.o:Option (Int×Int)→Option (Int×Int)→Option (Int×Int):=bothO fun c d=>meetC 100 c d
theorem kN.val(o8:Bool)(l9 o5:ByteArray)(o9:Bool)(o6 o7:ByteArray)(hs:few4 l9 o5 o6 o7):tK.f 5 o8 l9 o5 o9 o6 o7=some (resC kN.o o8 l9 o5 o9 o6 o7):=by
 unfold tK.f;rw[aAs (F:=fun c d=>meetC 100 c d) (fun c d gc gd=>meet_val gc gd 3) o8 l9 o5 o9 o6 o7 hs 5 (Nat.le_refl _),Option.bind_some];rfl
def kN.f(a0_0:Bool)(a0_1 a0_2:ByteArray)(a1_0:Bool)(a1_1 a1_2:ByteArray):Option (Bool×ByteArray×ByteArray×Int):=if few4 a0_1 a0_2 a1_1 a1_2 then some (resC kN.o a0_0 a0_1 a0_2 a1_0 a1_1 a1_2) else none
theorem kN.calls(l9:Bool)(o5 o6:ByteArray)(o7:Bool)(o8 o9:ByteArray)(b1:Bool)(s2:ByteArray)(s3:ByteArray)(i4:Int)(w:World)(hG:GW w)(h:kN.f l9 o5 o6 o7 o8 o9=some (b1,s2,s3,i4)) :
 Calls Tryz.prog 44 #[.agg #[.bool l9,.string o5,.string o6],.agg #[.bool o7,.string o8,.string o9]] w fun e w'=>e= .returned (.tuple #[.agg #[.bool b1,.string s2,.string s3],.int .i64 i4])∧Below w.heap.size w w':=by
 unfold kN.f at h
 split at h
 ·rename_i hs
  rw[←kN.val l9 o5 o6 o7 o8 o9 hs] at h;exact tK.calls 5 l9 o5 o6 o7 o8 o9 b1 s2 s3 i4 w hG h
 ·cases h
def lD.o:Option (Int×Int)→Option (Int×Int)→Option (Int×Int):=bothO fun c d=>quoC 100 c d
theorem lD.val(o8:Bool)(l9 o5:ByteArray)(o9:Bool)(o6 o7:ByteArray)(hs:few4 l9 o5 o6 o7):vI.f 5 o8 l9 o5 o9 o6 o7=some (resC lD.o o8 l9 o5 o9 o6 o7):=by
 unfold vI.f;rw[aAs (F:=fun c d=>quoC 100 c d) (fun c d gc gd=>quo1_val gc gd 3) o8 l9 o5 o9 o6 o7 hs 5 (Nat.le_refl _),Option.bind_some];rfl
def lD.f(a0_0:Bool)(a0_1 a0_2:ByteArray)(a1_0:Bool)(a1_1 a1_2:ByteArray):Option (Bool×ByteArray×ByteArray×Int):=if few4 a0_1 a0_2 a1_1 a1_2 then some (resC lD.o a0_0 a0_1 a0_2 a1_0 a1_1 a1_2) else none
theorem lD.calls(l9:Bool)(o5 o6:ByteArray)(o7:Bool)(o8 o9:ByteArray)(b1:Bool)(s2:ByteArray)(s3:ByteArray)(i4:Int)(w:World)(hG:GW w)(h:lD.f l9 o5 o6 o7 o8 o9=some (b1,s2,s3,i4)) :
 Calls Tryz.prog 36 #[.agg #[.bool l9,.string o5,.string o6],.agg #[.bool o7,.string o8,.string o9]] w fun e w'=>e= .returned (.tuple #[.agg #[.bool b1,.string s2,.string s3],.int .i64 i4])∧Below w.heap.size w w':=by
 unfold lD.f at h
 split at h
 ·rename_i hs
  rw[←lD.val l9 o5 o6 o7 o8 o9 hs] at h;exact vI.calls 5 l9 o5 o6 o7 o8 o9 b1 s2 s3 i4 w hG h
 ·cases h
def lF.o:Option (Int×Int)→Option (Int×Int)→Option (Int×Int):=bothO fun c d=>remC 100 c d
theorem lF.val(o8:Bool)(l9 o5:ByteArray)(o9:Bool)(o6 o7:ByteArray)(hs:few4 l9 o5 o6 o7):vJ.f 5 o8 l9 o5 o9 o6 o7=some (resC lF.o o8 l9 o5 o9 o6 o7):=by
 unfold vJ.f;rw[aAs (F:=fun c d=>remC 100 c d) (fun c d gc gd=>rem1_val gc gd 3) o8 l9 o5 o9 o6 o7 hs 5 (Nat.le_refl _),Option.bind_some];rfl
def lF.f(a0_0:Bool)(a0_1 a0_2:ByteArray)(a1_0:Bool)(a1_1 a1_2:ByteArray):Option (Bool×ByteArray×ByteArray×Int):=if few4 a0_1 a0_2 a1_1 a1_2 then some (resC lF.o a0_0 a0_1 a0_2 a1_0 a1_1 a1_2) else none
theorem lF.calls(l9:Bool)(o5 o6:ByteArray)(o7:Bool)(o8 o9:ByteArray)(b1:Bool)(s2:ByteArray)(s3:ByteArray)(i4:Int)(w:World)(hG:GW w)(h:lF.f l9 o5 o6 o7 o8 o9=some (b1,s2,s3,i4)) :
 Calls Tryz.prog 38 #[.agg #[.bool l9,.string o5,.string o6],.agg #[.bool o7,.string o8,.string o9]] w fun e w'=>e= .returned (.tuple #[.agg #[.bool b1,.string s2,.string s3],.int .i64 i4])∧Below w.heap.size w w':=by
 unfold lF.f at h
 split at h
 ·rename_i hs
  rw[←lF.val l9 o5 o6 o7 o8 o9 hs] at h;exact vJ.calls 5 l9 o5 o6 o7 o8 o9 b1 s2 s3 i4 w hG h
 ·cases h
end Go.Proofs.YtignanmmgaldeaaGreatDoor
end
