/- Lemmas for the proof. -/
import Derived.Test.YtignanmmgaldeaaGreatDoorYJ
section
set_option linter.unusedVariables false
set_option linter.unusedSimpArgs false
set_option maxHeartbeats 8000000
set_option maxRecDepth 100000
namespace Go.Proofs.YtignanmmgaldeaaGreatDoor.PCongW
open Go.RowKit Go.Proofs.YtignanmmgaldeaaGreatDoorW.PrintWords Go.Proofs.YtignanmmgaldeaaGreatDoorW.PrintLast Go.Proofs.YtignanmmgaldeaaGreatDoorW.PrintMore
attribute [local go_sem] dQ dR eH eP
def errW:Option Int→Value
 |none=> .nilIface
 |some c=> .iface 0 (.int .i64 c)
theorem dZ:errW none= .nilIface:=rfl
theorem eF(c:Int):errW (some c)= .iface 0 (.int .i64 c):=rfl
theorem yJ(d:Nat)(w:World)(x0 y0:Bool)(x1 y1:ByteArray)(x2 y2:ByteArray) :
 (Op.equalIn (d+2) 36 (.agg #[.bool x0,.string x1,.string x2]) (.agg #[.bool y0,.string y1,.string y2])).run Tryz.prog w= .ok (x0==y0&&(x1.toList==y1.toList&&(x2.toList==y2.toList))) w:=by
 refine aD5 Tryz.underlying36 (by kernel_rfl) ?_;refine qY (by rfl) (by go_simp;rfl) (by go_simp;rfl) (by go_simp) ?_;refine qY (by rfl) (by go_simp;rfl) (by go_simp;rfl) (by go_simp) ?_;exact aB5 (by rfl) (by go_simp;rfl) (by go_simp;rfl) (by go_simp)
def aY.f(a0:ByteArray)(a1:ByteArray):Option (Bool×ByteArray×ByteArray):=some (false,a0,a1)
theorem aY.calls(a0:ByteArray)(a1:ByteArray)(r1:Bool)(r2:ByteArray)(r3:ByteArray)(w:World)(h:aY.f a0 a1=some (r1,r2,r3)) :
 Calls Tryz.prog 98 #[.string a0,.string a1] w fun e w'=>e= .returned (.agg #[.bool r1,.string r2,.string r3])∧Below w.heap.size w w':=by
 have hu36:=Tryz.underlying36;have HB:=aA.mk (Below.refl w.heap.size w);have H:(some (false,a0,a1))=some (r1,r2,r3):=h;clear h;simp only[Option.some.injEq,Prod.mk.injEq] at H;obtain⟨rfl,rfl,rfl⟩:=H;go_enter Tryz.func98,Tryz.ntmps98
 go_wp2_with(first|((with_reducible refine aG (N:=4) rfl ?_);refine bx_ 4 36 #[.bool false,.string (⟨#[]⟩:ByteArray),.string (⟨#[]⟩:ByteArray)] (h:= ?_);intro o5 hg w3 o6 hb;have n0_:=aA.mk (fM (by repeat(first|(with_reducible first|exact HB.out|apply aT|apply aI|apply aJ)|exact HB.out)) hb);have n1_:=aA.mk (o6);have n2_:=aA.mk ((by rw[hg];exact(dJ (by repeat(first|(with_reducible first|exact HB.out|apply aT|apply aI|apply aJ)|exact HB.out))):w.heap.size≤o5));have n3_:=aA.mk ((by rw[hg];exact(dJ (by repeat(first|(with_reducible first|exact HB.out|apply aT|apply aI|apply aJ)|exact HB.out))):w.heap.size≤o5));clear HB;have HB:=n0_;have l9:=n1_;have o8:=n2_;have o7:=n3_;clear n0_ n1_ n2_ n3_;clear hb o6 hg;have o9:w3.cell? ⟨o5,0,none⟩=some (.bool false):=(fF l9.out 0).trans rfl;have y8:w3.cell? ⟨o5,1,none⟩=some (.string (⟨#[]⟩:ByteArray)):=(fF l9.out 1).trans rfl;have y9:w3.cell? ⟨o5,2,none⟩=some (.string (⟨#[]⟩:ByteArray)):=(fF l9.out 2).trans rfl;have C9:=eG l9.out 0;have D5:=eG l9.out 1;have D6:=eG l9.out 2))
 refine bodyPost_ret (results_cell_row rfl _ _ o5 36 #[.bool false,.string a0,.string a1] (0,0) _ rfl (by(with_reducible repeat(first|refine bH ?_ _|refine aK ?_|refine bG ?_ _));refine iR (cs:=#[.bool false,.string a0,.string (⟨#[]⟩:ByteArray)]) ?_ 2 _ rfl;(with_reducible repeat(first|refine bH ?_ _|refine aK ?_|refine bG ?_ _));refine iR (cs:=#[.bool false,.string (⟨#[]⟩:ByteArray),.string (⟨#[]⟩:ByteArray)]) ?_ 1 _ rfl;(with_reducible repeat(first|refine bH ?_ _|refine aK ?_|refine bG ?_ _));refine iR (cs:=#[.bool false,.string (⟨#[]⟩:ByteArray),.string (⟨#[]⟩:ByteArray)]) ?_ 0 _ rfl;(with_reducible repeat(first|refine bH ?_ _|refine aK ?_|refine bG ?_ _));exact l9.out) Tryz.underlying36 rfl (by kernel_rfl)) rfl ?_;exact⟨by first|rfl|(simp[dZ,eF] <;> rfl)|(simp[*,dZ,eF] <;> rfl),by repeat(first|(with_reducible first|exact HB.out|apply aT|apply aI|apply aJ|refine nY ?_ o7.out)|exact HB.out)⟩
def jC.f:Option (Bool×ByteArray×ByteArray):=some (false,(⟨#[49]⟩:ByteArray),(⟨#[48]⟩:ByteArray))
theorem jC.calls(r1:Bool)(r2:ByteArray)(r3:ByteArray)(w:World)(h:jC.f=some (r1,r2,r3)) :
 Calls Tryz.prog 99 #[] w fun e w'=>e= .returned (.agg #[.bool r1,.string r2,.string r3])∧Below w.heap.size w w':=by
 have hu36:=Tryz.underlying36;have HB:=aA.mk (Below.refl w.heap.size w);have H:(some (false,(⟨#[49]⟩:ByteArray),(⟨#[48]⟩:ByteArray)))=some (r1,r2,r3):=h;clear h;simp only[Option.some.injEq,Prod.mk.injEq] at H;obtain⟨rfl,rfl,rfl⟩:=H;go_enter Tryz.func99,Tryz.ntmps99
 go_wp2_with(first|((with_reducible refine aG (N:=0) rfl ?_);refine bx_ 0 36 #[.bool false,.string (⟨#[]⟩:ByteArray),.string (⟨#[]⟩:ByteArray)] (h:= ?_);intro o5 hg w1 o6 hb;have n0_:=aA.mk (fM (by repeat(first|(with_reducible first|exact HB.out|apply aT|apply aI|apply aJ)|exact HB.out)) hb);have n1_:=aA.mk (o6);have n2_:=aA.mk ((by rw[hg];exact(dJ (by repeat(first|(with_reducible first|exact HB.out|apply aT|apply aI|apply aJ)|exact HB.out))):w.heap.size≤o5));have n3_:=aA.mk ((by rw[hg];exact(dJ (by repeat(first|(with_reducible first|exact HB.out|apply aT|apply aI|apply aJ)|exact HB.out))):w.heap.size≤o5));clear HB;have HB:=n0_;have l9:=n1_;have o8:=n2_;have o7:=n3_;clear n0_ n1_ n2_ n3_;clear hb o6 hg;have o9:w1.cell? ⟨o5,0,none⟩=some (.bool false):=(fF l9.out 0).trans rfl;have y8:w1.cell? ⟨o5,1,none⟩=some (.string (⟨#[]⟩:ByteArray)):=(fF l9.out 1).trans rfl;have y9:w1.cell? ⟨o5,2,none⟩=some (.string (⟨#[]⟩:ByteArray)):=(fF l9.out 2).trans rfl;have C9:=eG l9.out 0;have D5:=eG l9.out 1;have D6:=eG l9.out 2))
 refine bodyPost_ret (results_cell_row rfl _ _ o5 36 #[.bool false,.string (⟨#[49]⟩:ByteArray),.string (⟨#[48]⟩:ByteArray)] (0,0) _ rfl (by(with_reducible repeat(first|refine bH ?_ _|refine aK ?_|refine bG ?_ _));refine iR (cs:=#[.bool false,.string (⟨#[49]⟩:ByteArray),.string (⟨#[]⟩:ByteArray)]) ?_ 2 _ rfl;(with_reducible repeat(first|refine bH ?_ _|refine aK ?_|refine bG ?_ _));refine iR (cs:=#[.bool false,.string (⟨#[]⟩:ByteArray),.string (⟨#[]⟩:ByteArray)]) ?_ 1 _ rfl;(with_reducible repeat(first|refine bH ?_ _|refine aK ?_|refine bG ?_ _));refine iR (cs:=#[.bool false,.string (⟨#[]⟩:ByteArray),.string (⟨#[]⟩:ByteArray)]) ?_ 0 _ rfl;(with_reducible repeat(first|refine bH ?_ _|refine aK ?_|refine bG ?_ _));exact l9.out) Tryz.underlying36 rfl (by kernel_rfl)) rfl ?_;exact⟨by first|rfl|(simp[dZ,eF] <;> rfl)|(simp[*,dZ,eF] <;> rfl),by repeat(first|(with_reducible first|exact HB.out|apply aT|apply aI|apply aJ|refine nY ?_ o7.out)|exact HB.out)⟩
attribute [local go_sem high] yJ
def iL.T6:Bool×List (List Nat×List Nat):=(true,[([],[]),([],[]),([0,1],[0,1]),([],[]),([2,3],[2,3]),([],[]),([4,5],[4,5]),([],[]),([6,7],[6,7]),([8],[8]),([9],[9]),([10],[10]),([10,10],[10]),([11,12,10],[10,11,12]),([10,13],[10,13]),([14,12],[14]),([15],[15]),([16,15],[15,16]),([17,15],[15,17]),([15,18],[15,18]),([19,15],[19]),([20],[20]),([20,20],[20]),([21,22,20],[20,21,22]),([20,23],[20,23]),([24,22],[24]),([25],[25]),([25,25],[25]),([26,27,25],[25,26,27]),([25,28],[25,28]),([29,27],[29]),([30],[30]),([30,30],[30]),([31,32,30],[30,31,32]),([30,33],[30,33])])
def iL.B6:List Nat:= [0,0,3,0,15,0,63,0,255,511,1023,2047,2047,8191,16383,32767,65535,131071,262143,524287,1048575,2097151,2097151,8388607,16777215,33554431,67108863,67108863,268435455,536870911,1073741823,2147483647,2147483647,8589934591,17179869183]
theorem iL.tab6:rtab .any (opsOf Tryz.f35 6)=iL.T6:=by kernel_rfl
theorem iL.bits6:kX iL.T6.2 iL.B6=true:=by kernel_rfl
def iL.T12:Bool×List (List Nat×List Nat):=(true,[([],[]),([],[]),([0,1],[0,1]),([],[]),([2,3],[2,3]),([],[]),([4,5],[4,5]),([6],[6]),([7],[7]),([8],[8]),([8,8],[8]),([9,10,8],[8,9,10]),([8,11],[8,11]),([12,10],[12]),([13],[13]),([13,13],[13]),([14,15,13],[13,14,15]),([13,16],[13,16]),([17,15],[17]),([18],[18]),([18,18],[18]),([19,20,18],[18,19,20]),([18,21],[18,21]),([22,20],[22]),([23],[23]),([23,23],[23]),([24,25,23],[23,24,25]),([23,26],[23,26])])
def iL.B12:List Nat:= [0,0,3,0,15,0,63,127,255,511,511,2047,4095,8191,16383,16383,65535,131071,262143,524287,524287,2097151,4194303,8388607,16777215,16777215,67108863,134217727]
theorem iL.tab12:rtab .any (opsOf Tryz.f35 12)=iL.T12:=by kernel_rfl
theorem iL.bits12:kX iL.T12.2 iL.B12=true:=by kernel_rfl
theorem awake_walk(Q9 S9 F9 U3 U4 U5 U6 G5 U7 U8 G6 U9 V3 E8 V4 V5 V6 V7 V8 V9 J3 X4 X5 J4 X7 X8 J5 X9 Y0 D8 Y4 Y5 Y7 Y8 Y9 Z7 N9 O0:Bool)(Z8 Z9 ae af G7 G8 ag ah ai aj I7 I8 ak au ax ay G9 H5 az bn df dh H6 H7 di dw eu gm F6 F7 gp gq gz ig ik iq iw ja jb jc jd je J6 J7 jf jg jh ji J8 J9 jk jl jm jo L6 L8 jq jr jw jy D9 F5 ku kw kz lg lh lq lu lw mf mg mi mr ng ni O1 O3 O4 O5:ByteArray)(nz oh oq ou oz pg pq pz qc qf qg:Int)
 (A1:aA (aY.f (⟨#[54]⟩:ByteArray) (⟨#[50]⟩:ByteArray)=some (Q9,Z8,Z9)))
 (A2:aA (aY.f (⟨#[57]⟩:ByteArray) (⟨#[53]⟩:ByteArray)=some (S9,ae,af)))
 (A3:aA (kN.f Q9 Z8 Z9 S9 ae af=some (F9,G7,G8,nz)))
 (A4:aA (aY.f (⟨#[52]⟩:ByteArray) (⟨#[48]⟩:ByteArray)=some (U3,ag,ah)))
 (A5:aA (aY.f (⟨#[50]⟩:ByteArray) (⟨#[49]⟩:ByteArray)=some (U4,ai,aj)))
 (A6:aA (kN.f U3 ag ah U4 ai aj=some (true,I7,I8,oh)))
 (A7:aA (aY.f (⟨#[48]⟩:ByteArray) (⟨#[51]⟩:ByteArray)=some (U5,ak,au)))
 (A8:aA (aY.f (⟨#[48]⟩:ByteArray) (⟨#[49,49]⟩:ByteArray)=some (U6,ax,ay)))
 (A9:aA (pW.f U5 ak au U6 ax ay=some (G5,G9,H5,oq)))
 (qx:aA (aY.f (⟨#[50]⟩:ByteArray) (⟨#[49]⟩:ByteArray)=some (U7,az,bn)))
 (qy:aA (aY.f (⟨#[52]⟩:ByteArray) (⟨#[50]⟩:ByteArray)=some (U8,df,dh)))
 (rf:aA (mG.f U7 az bn U8 df dh=some (G6,H6,H7,ou)))
 (rq:aA (aY.f (⟨#[50]⟩:ByteArray) (⟨#[49]⟩:ByteArray)=some (U9,di,dw)))
 (ru:aA (aY.f (⟨#[52]⟩:ByteArray) (⟨#[50]⟩:ByteArray)=some (V3,eu,gm)))
 (ry:aA (mF.f U9 di dw V3 eu gm=some (E8,F6,F7,oz)))
 (qh:(wrap64 ((wrap64 ((wrap64 ((wrap64 (nz+oh))+oq))+ou))+oz))=0)
 (su:aA (aY.f (⟨#[49,56]⟩:ByteArray) (⟨#[49,52]⟩:ByteArray)=some (V4,gp,gq)))
 (yf:(!(F9==V4)||(!(G7.toList==gp.toList)||(!(G8.toList==gq.toList))))=false)
 (tq:aA (aY.f (⟨#[56]⟩:ByteArray) (⟨#[51]⟩:ByteArray)=some (V5,gz,ig)))
 (yg:(!(G5==V5)||(!(G9.toList==gz.toList)||(!(H5.toList==ig.toList))))=false)
 (tu:aA (aY.f (⟨#[52]⟩:ByteArray) (⟨#[50]⟩:ByteArray)=some (V6,ik,iq)))
 (yh:(!(G6==V6)||(!(H6.toList==ik.toList)||(!(H7.toList==iq.toList))))=false)
 (uf:aA (aY.f (⟨#[50]⟩:ByteArray) (⟨#[49]⟩:ByteArray)=some (V7,iw,ja)))
 (e23:((!(E8==V7)||(!(F6.toList==iw.toList)||(!(F7.toList==ja.toList)))))=false)
 (ug:aA (aY.f (⟨#[49,50]⟩:ByteArray) (⟨#[52]⟩:ByteArray)=some (V8,jb,jc)))
 (uh:aA (aY.f (⟨#[48]⟩:ByteArray) (⟨#[52]⟩:ByteArray)=some (V9,jd,je)))
 (ui:aA (lD.f V8 jb jc V9 jd je=some (J3,J6,J7,pg)))
 (uj:aA (aY.f (⟨#[49,50]⟩:ByteArray) (⟨#[52]⟩:ByteArray)=some (X4,jf,jg)))
 (uk:aA (aY.f (⟨#[48]⟩:ByteArray) (⟨#[53]⟩:ByteArray)=some (X5,jh,ji)))
 (ul:aA (lD.f X4 jf jg X5 jh ji=some (J4,J8,J9,pq)))
 (um:aA (aY.f (⟨#[49,50]⟩:ByteArray) (⟨#[52]⟩:ByteArray)=some (X7,jk,jl)))
 (uo:aA (aY.f (⟨#[48]⟩:ByteArray) (⟨#[54]⟩:ByteArray)=some (X8,jm,jo)))
 (uq:aA (lF.f X7 jk jl X8 jm jo=some (J5,L6,L8,pz)))
 (ut:aA (aY.f (⟨#[49,50]⟩:ByteArray) (⟨#[52]⟩:ByteArray)=some (X9,jq,jr)))
 (uu:aA (aY.f (⟨#[48]⟩:ByteArray) (⟨#[56]⟩:ByteArray)=some (Y0,jw,jy)))
 (uw:aA (lF.f X9 jq jr Y0 jw jy=some (D8,D9,F5,qc)))
 (qi:(wrap64 ((wrap64 ((wrap64 (pg+pq))+pz))+qc))=0)
 (uy:aA (aY.f (⟨#[51]⟩:ByteArray) (⟨#[49]⟩:ByteArray)=some (Y4,ku,kw)))
 (yj:(!(J3==Y4)||(!(J6.toList==ku.toList)||(!(J7.toList==kw.toList))))=false)
 (uz:aA (jC.f=some (Y5,kz,lg)))
 (yl:(!(J4==Y5)||(!(J8.toList==kz.toList)||(!(J9.toList==lg.toList))))=false)
 (ve:aA (aY.f (⟨#[48]⟩:ByteArray) (⟨#[52]⟩:ByteArray)=some (Y7,lh,lq)))
 (yt:(!(J5==Y7)||(!(L6.toList==lh.toList)||(!(L8.toList==lq.toList))))=false)
 (vg:aA (aY.f (⟨#[52]⟩:ByteArray) (⟨#[48]⟩:ByteArray)=some (Y8,lu,lw)))
 (e44:((!(D8==Y8)||(!(D9.toList==lu.toList)||(!(F5.toList==lw.toList)))))=false)
 (vk:aA (aY.f (⟨#[54]⟩:ByteArray) (⟨#[50]⟩:ByteArray)=some (Y9,mf,mg)))
 (vw:aA (nS.f Y9 mf mg (⟨#[45,53]⟩:ByteArray)=some (mi,qf)))
 (vz:aA (aY.f (⟨#[54]⟩:ByteArray) (⟨#[50]⟩:ByteArray)=some (Z7,mr,ng)))
 (wo:aA (lV.f Z7 mr ng (⟨#[49]⟩:ByteArray)=some (ni,qg)))
 (qj:qf=0)
 (ql:qg=0)
 (qm:mi.toList=([45,52]:List UInt8))
 (qo:ni.toList=([45,52]:List UInt8))
 (wu:aA (jC.f=some (N9,O1,O3)))
 (ww:aA (aY.f (⟨#[49]⟩:ByteArray) (⟨#[48]⟩:ByteArray)=some (O0,O4,O5)))
 (eZ:(N9==O0&&(O1.toList==O4.toList&&O3.toList==O5.toList))=true) (w:World) (hG:GW w) :
 Calls Tryz.prog 35 #[] w fun e w'=>e= .returned (.bool true)∧Below w.heap.size w w':=by
 obtain⟨qp,yu⟩:=bT qh;clear qh;obtain⟨qw,yw⟩:=bT qi;clear qi;obtain⟨yx,yz⟩:=bT qj;clear qj;obtain⟨zf,zg⟩:=bT ql;clear ql;obtain⟨zh,zi⟩:=bT qm;clear qm;obtain⟨zk,zl⟩:=bT qo;clear qo;have HG:=aA.mk hG;clear hG;have hu36:=Tryz.underlying36;have HB:=aA.mk (Below.refl w.heap.size w);go_enter Tryz.func35,Tryz.ntmps35
 go_upto_region 6 with (first|((with_reducible refine aC (f:=98) rfl ?_);refine gM 18 Tryz.func98 (aY.calls (w:=_) (h:=A1.out)) (h:= ?_);intro zn hb;replace HB:=pkB HB hb;try clear hb)|((with_reducible refine aC (f:=98) rfl ?_);refine gM 19 Tryz.func98 (aY.calls (w:=_) (h:=A2.out)) (h:= ?_);intro zo hb;replace HB:=pkB HB hb;try clear hb)|((with_reducible refine aC (f:=44) rfl ?_);refine gM 20 Tryz.func44 (kN.calls (hG:=HG.out.below (pkL HB)) (h:=A3.out)) (h:= ?_);intro zq hb;replace HB:=pkB HB hb;try clear hb)|((with_reducible refine aG (N:=1) rfl ?_);refine bx_ 1 36 #[.bool false,.string (⟨#[]⟩:ByteArray),.string (⟨#[]⟩:ByteArray)] (h:= ?_);intro H8 hg zt D7 hb;have l9:=aA.mk (D7);have xe:=pkG HB hg;have zu:=xe;replace HB:=pkB HB hb;clear hb D7 hg;obtain⟨⟨zx,zy,Aa⟩,Ac,Ad,Ae⟩:=pk3 l9)|((with_reducible refine aC (f:=98) rfl ?_);refine gM 24 Tryz.func98 (aY.calls (w:=_) (h:=A4.out)) (h:= ?_);intro Af hb;replace l9:=aA.mk (iT (g:=H8) (o:= .cells #[.bool F9,.string G7,.string G8] 36 (0,0)) (pkS3 l9) hb);replace HB:=pkB HB hb;try clear hb)|((with_reducible refine aC (f:=98) rfl ?_);refine gM 25 Tryz.func98 (aY.calls (w:=_) (h:=A5.out)) (h:= ?_);intro Ag hb;replace l9:=pkK l9 hb;replace HB:=pkB HB hb;try clear hb)|((with_reducible refine aC (f:=44) rfl ?_);refine gM 26 Tryz.func44 (kN.calls (hG:=HG.out.below (pkL HB)) (h:=A6.out)) (h:= ?_);intro Ah hb;replace l9:=pkK l9 hb;replace HB:=pkB HB hb;try clear hb)|((with_reducible refine aG (N:=3) rfl ?_);refine bx_ 3 36 #[.bool false,.string (⟨#[]⟩:ByteArray),.string (⟨#[]⟩:ByteArray)] (h:= ?_);intro H9 hg Ai D7 hb;have o5:=aA.mk (D7);have xg:=pkG HB hg;have Aj:=xg;obtain⟨Ak,Am,Aq,Aw⟩:=pkQ l9 hg;replace l9:=pkK l9 hb;replace HB:=pkB HB hb;clear hb D7 hg;obtain⟨⟨Az,Ba,Bc⟩,Be,Bf,Bg⟩:=pk3 o5)|((with_reducible refine aC (f:=98) rfl ?_);refine gM 30 Tryz.func98 (aY.calls (w:=_) (h:=A7.out)) (h:= ?_);intro Bh hb;replace l9:=pkF l9 hb;replace o5:=aA.mk (iT (g:=H9) (o:= .cells #[.bool true,.string I7,.string I8] 36 (0,0)) (pkS3 o5) hb);replace HB:=pkB HB hb;try clear hb)|((with_reducible refine aC (f:=98) rfl ?_);refine gM 31 Tryz.func98 (aY.calls (w:=_) (h:=A8.out)) (h:= ?_);intro Bi hb;replace l9:=pkK l9 hb;replace o5:=pkK o5 hb;replace HB:=pkB HB hb;try clear hb)|((with_reducible refine aC (f:=42) rfl ?_);refine gM 32 Tryz.func42 (pW.calls (hG:=HG.out.below (pkL HB)) (h:=A9.out)) (h:= ?_);intro Bj hb;replace l9:=pkK l9 hb;replace o5:=pkK o5 hb;replace HB:=pkB HB hb;try clear hb)|((with_reducible refine aG (N:=5) rfl ?_);refine bx_ 5 36 #[.bool false,.string (⟨#[]⟩:ByteArray),.string (⟨#[]⟩:ByteArray)] (h:= ?_);intro I4 hg Bl D7 hb;have o6:=aA.mk (D7);have xh:=pkG HB hg;have Bo:=xh;obtain⟨Bq,Bv,Bz,Cb⟩:=pkQ l9 hg;obtain⟨Cc,Ce,Cf,Ci⟩:=pkQ o5 hg;replace l9:=pkK l9 hb;replace o5:=pkK o5 hb;replace HB:=pkB HB hb;clear hb D7 hg;obtain⟨⟨Cj,Cm,Dc⟩,Df,Dh,Di⟩:=pk3 o6)|((with_reducible refine aC (f:=98) rfl ?_);refine gM 36 Tryz.func98 (aY.calls (w:=_) (h:=qx.out)) (h:= ?_);intro Dj hb;replace l9:=pkF l9 hb;replace o5:=pkF o5 hb;replace o6:=aA.mk (iT (g:=I4) (o:= .cells #[.bool G5,.string G9,.string H5] 36 (0,0)) (pkS3 o6) hb);replace HB:=pkB HB hb;try clear hb)|((with_reducible refine aC (f:=98) rfl ?_);refine gM 37 Tryz.func98 (aY.calls (w:=_) (h:=qy.out)) (h:= ?_);intro Dk hb;replace l9:=pkK l9 hb;replace o5:=pkK o5 hb;replace o6:=pkK o6 hb;replace HB:=pkB HB hb;try clear hb)|((with_reducible refine aC (f:=54) rfl ?_);refine gM 38 Tryz.func54 (mG.calls (hG:=HG.out.below (pkL HB)) (h:=rf.out)) (h:= ?_);intro Dl hb;replace l9:=pkK l9 hb;replace o5:=pkK o5 hb;replace o6:=pkK o6 hb;replace HB:=pkB HB hb;try clear hb)|((with_reducible refine aG (N:=7) rfl ?_);refine bx_ 7 36 #[.bool false,.string (⟨#[]⟩:ByteArray),.string (⟨#[]⟩:ByteArray)] (h:= ?_);intro I5 hg Dn D7 hb;have o7:=aA.mk (D7);have xk:=pkG HB hg;have Dp:=xk;obtain⟨Dq,Dt,Du,Dv⟩:=pkQ l9 hg;obtain⟨Dw,Dx,Dy,Dz⟩:=pkQ o5 hg;obtain⟨Ea,Eb,Ec,Ed⟩:=pkQ o6 hg;replace l9:=pkK l9 hb;replace o5:=pkK o5 hb;replace o6:=pkK o6 hb;replace HB:=pkB HB hb;clear hb D7 hg;obtain⟨⟨Ee,Ef,Eg⟩,Eh,Ei,Ej⟩:=pk3 o7)|((with_reducible refine aC (f:=98) rfl ?_);refine gM 42 Tryz.func98 (aY.calls (w:=_) (h:=rq.out)) (h:= ?_);intro Em hb;replace l9:=pkF l9 hb;replace o5:=pkF o5 hb;replace o6:=pkF o6 hb;replace o7:=aA.mk (iT (g:=I5) (o:= .cells #[.bool G6,.string H6,.string H7] 36 (0,0)) (pkS3 o7) hb);replace HB:=pkB HB hb;try clear hb)|((with_reducible refine aC (f:=98) rfl ?_);refine gM 43 Tryz.func98 (aY.calls (w:=_) (h:=ru.out)) (h:= ?_);intro En hb;replace l9:=pkK l9 hb;replace o5:=pkK o5 hb;replace o6:=pkK o6 hb;replace o7:=pkK o7 hb;replace HB:=pkB HB hb;try clear hb)|((with_reducible refine aC (f:=50) rfl ?_);refine gM 44 Tryz.func50 (mF.calls (hG:=HG.out.below (pkL HB)) (h:=ry.out)) (h:= ?_);intro Eo hb;replace l9:=pkK l9 hb;replace o5:=pkK o5 hb;replace o6:=pkK o6 hb;replace o7:=pkK o7 hb;replace HB:=pkB HB hb;try clear hb)|((with_reducible refine aG (N:=9) rfl ?_);refine bx_ 9 36 #[.bool false,.string (⟨#[]⟩:ByteArray),.string (⟨#[]⟩:ByteArray)] (h:= ?_);intro D6 hg I9 D7 hb;have o8:=aA.mk (D7);have xm:=pkG HB hg;have Ep:=xm;obtain⟨O6,Es,Et,Eu⟩:=pkQ l9 hg;obtain⟨O7,Ew,Ey,Ez⟩:=pkQ o5 hg;obtain⟨O8,Fa,Fb,Fe⟩:=pkQ o6 hg;obtain⟨O9,Ff,Fg,Fh⟩:=pkQ o7 hg;replace l9:=pkK l9 hb;replace o5:=pkK o5 hb;replace o6:=pkK o6 hb;replace o7:=pkK o7 hb;replace HB:=pkB HB hb;clear hb D7 hg;obtain⟨⟨Fj,Fp,Fq⟩,Fv,Fz,Gf⟩:=pk3 o8))
 (try simp only[Act.put,List.setIfInBounds_toArray,List.set_cons_zero,List.set_cons_succ])
 go_cut [81] (fun v81 wc=>v81= .bool false∧aA (wc.heap[H8]? =some (.cells #[.bool F9,.string G7,.string G8] 36 (0,0)))∧aA (wc.heap[H9]? =some (.cells #[.bool true,.string I7,.string I8] 36 (0,0)))∧aA (wc.heap[I4]? =some (.cells #[.bool G5,.string G9,.string H5] 36 (0,0)))∧aA (wc.heap[I5]? =some (.cells #[.bool G6,.string H6,.string H7] 36 (0,0)))∧aA (wc.heap[D6]? =some (.cells #[.bool E8,.string F6,.string F7] 36 (0,0)))∧aA (Below w.heap.size w wc))
 case first=>
  (first|rw[qp]|(simp only[jM,jX];rw[qp])|skip)
  try go_wp2
  have n0_:aA ((((I9.setCell ⟨D6,0,none⟩ (.bool E8)).setCell ⟨D6,1,none⟩ (.string F6)).setCell ⟨D6,2,none⟩ (.string F7)).heap[H8]? =some (.cells #[.bool F9,.string G7,.string G8] 36 (0,0))):=⟨by(with_reducible repeat(first|refine bH ?_ _|refine aK ?_|refine bG ?_ _));refine gX ?_ O6.out _;(with_reducible repeat(first|refine bH ?_ _|refine aK ?_|refine bG ?_ _));refine gX ?_ O6.out _;(with_reducible repeat(first|refine bH ?_ _|refine aK ?_|refine bG ?_ _));refine gX ?_ O6.out _;(with_reducible repeat(first|refine bH ?_ _|refine aK ?_|refine bG ?_ _));exact l9.out⟩;have n1_:aA ((((I9.setCell ⟨D6,0,none⟩ (.bool E8)).setCell ⟨D6,1,none⟩ (.string F6)).setCell ⟨D6,2,none⟩ (.string F7)).heap[H9]? =some (.cells #[.bool true,.string I7,.string I8] 36 (0,0))):=⟨by(with_reducible repeat(first|refine bH ?_ _|refine aK ?_|refine bG ?_ _));refine gX ?_ O7.out _;(with_reducible repeat(first|refine bH ?_ _|refine aK ?_|refine bG ?_ _));refine gX ?_ O7.out _;(with_reducible repeat(first|refine bH ?_ _|refine aK ?_|refine bG ?_ _));refine gX ?_ O7.out _;(with_reducible repeat(first|refine bH ?_ _|refine aK ?_|refine bG ?_ _));exact o5.out⟩;have n2_:aA ((((I9.setCell ⟨D6,0,none⟩ (.bool E8)).setCell ⟨D6,1,none⟩ (.string F6)).setCell ⟨D6,2,none⟩ (.string F7)).heap[I4]? =some (.cells #[.bool G5,.string G9,.string H5] 36 (0,0))):=⟨by(with_reducible repeat(first|refine bH ?_ _|refine aK ?_|refine bG ?_ _));refine gX ?_ O8.out _;(with_reducible repeat(first|refine bH ?_ _|refine aK ?_|refine bG ?_ _));refine gX ?_ O8.out _;(with_reducible repeat(first|refine bH ?_ _|refine aK ?_|refine bG ?_ _));refine gX ?_ O8.out _;(with_reducible repeat(first|refine bH ?_ _|refine aK ?_|refine bG ?_ _));exact o6.out⟩;have n3_:aA ((((I9.setCell ⟨D6,0,none⟩ (.bool E8)).setCell ⟨D6,1,none⟩ (.string F6)).setCell ⟨D6,2,none⟩ (.string F7)).heap[I5]? =some (.cells #[.bool G6,.string H6,.string H7] 36 (0,0))):=⟨by(with_reducible repeat(first|refine bH ?_ _|refine aK ?_|refine bG ?_ _));refine gX ?_ O9.out _;(with_reducible repeat(first|refine bH ?_ _|refine aK ?_|refine bG ?_ _));refine gX ?_ O9.out _;(with_reducible repeat(first|refine bH ?_ _|refine aK ?_|refine bG ?_ _));refine gX ?_ O9.out _;(with_reducible repeat(first|refine bH ?_ _|refine aK ?_|refine bG ?_ _));exact o7.out⟩;have n4_:aA ((((I9.setCell ⟨D6,0,none⟩ (.bool E8)).setCell ⟨D6,1,none⟩ (.string F6)).setCell ⟨D6,2,none⟩ (.string F7)).heap[D6]? =some (.cells #[.bool E8,.string F6,.string F7] 36 (0,0))):=⟨by(with_reducible repeat(first|refine bH ?_ _|refine aK ?_|refine bG ?_ _));refine iR (cs:=#[.bool E8,.string F6,.string (⟨#[]⟩:ByteArray)]) ?_ 2 _ rfl;(with_reducible repeat(first|refine bH ?_ _|refine aK ?_|refine bG ?_ _));refine iR (cs:=#[.bool E8,.string (⟨#[]⟩:ByteArray),.string (⟨#[]⟩:ByteArray)]) ?_ 1 _ rfl;(with_reducible repeat(first|refine bH ?_ _|refine aK ?_|refine bG ?_ _));refine iR (cs:=#[.bool false,.string (⟨#[]⟩:ByteArray),.string (⟨#[]⟩:ByteArray)]) ?_ 0 _ rfl;(with_reducible repeat(first|refine bH ?_ _|refine aK ?_|refine bG ?_ _));exact o8.out⟩;have n5_:aA (Below w.heap.size w (((I9.setCell ⟨D6,0,none⟩ (.bool E8)).setCell ⟨D6,1,none⟩ (.string F6)).setCell ⟨D6,2,none⟩ (.string F7))):=⟨pkL HB⟩
  (try clear l9)
  (try clear o5)
  (try clear o6)
  (try clear o7)
  (try clear o8)
  (try clear HB)
  generalize (((I9.setCell ⟨D6,0,none⟩ (.bool E8)).setCell ⟨D6,1,none⟩ (.string F6)).setCell ⟨D6,2,none⟩ (.string F7))=xn at n0_ n1_ n2_ n3_ n4_ n5_ ⊢;have l9:=n0_;have o5:=n1_;have o6:=n2_;have o7:=n3_;have o8:=n4_;have HB:=n5_;clear n0_ n1_ n2_ n3_ n4_ n5_;replace l9:=aA.mk (aK l9.out);replace o5:=aA.mk (aK o5.out);replace o6:=aA.mk (aK o6.out);replace o7:=aA.mk (aK o7.out);replace o8:=aA.mk (aK o8.out);replace HB:=aA.mk (aJ HB.out)
  refine kF (n:=35) (S:=fun w'=>w'.cell? ⟨H8,0,none⟩=some (.bool F9)∧w'.cell? ⟨H8,1,none⟩=some (.string G7)∧w'.cell? ⟨H8,2,none⟩=some (.string G8)∧w'.cell? ⟨H9,0,none⟩=some (.bool true)∧w'.cell? ⟨H9,1,none⟩=some (.string I7)∧w'.cell? ⟨H9,2,none⟩=some (.string I8)∧w'.cell? ⟨I4,0,none⟩=some (.bool G5)∧w'.cell? ⟨I4,1,none⟩=some (.string G9)∧w'.cell? ⟨I4,2,none⟩=some (.string H5)∧w'.cell? ⟨I5,0,none⟩=some (.bool G6)∧w'.cell? ⟨I5,1,none⟩=some (.string H6)∧w'.cell? ⟨I5,2,none⟩=some (.string H7)∧w'.cell? ⟨D6,0,none⟩=some (.bool E8)∧w'.cell? ⟨D6,1,none⟩=some (.string F6)∧w'.cell? ⟨D6,2,none⟩=some (.string F7)) (ds:= []) #[false,false,false,false,false,false,false,false,false,false,false,false,false,false,false,false,false,false,false,false,false,false,false,false,false,false,false,false,false,false,false,false,false,false,false] (by kernel_rfl) rfl rfl (pc3 l9 (pc3 o5 (pc3 o6 (pc3 o7 (pcL o8))))) (fun hHeld=> ?_);refine jZ iL.tab6 iL.bits6 (fun HT_ HW_=> ?_)
  generalize xn.drew=Gg at l9 o5 o6 o7 o8 HB hHeld ⊢;refine pr_ 0 47 (h:= ?_);refine pr_ 1 48 (h:= ?_);refine pr_ 2 49 (h:= ?_);refine pr_ 3 50 (h:= ?_);refine pr_ 4 51 (h:= ?_);refine pr_ 5 52 (h:= ?_);refine pr_ 6 53 (h:= ?_);refine pr_ 7 54 (h:= ?_);refine pr_ 8 55 (h:= ?_);refine pr_ 9 56 (h:= ?_);refine pr_ 10 57 (h:= ?_);refine tk_ 11 58 hHeld (hy:=hyf) (h:= ?_);refine on_ 12 59 (h:=fun K hK=> ?_);refine gR Tryz.func98 (aY.calls (w:=_) (h:=su.out)) (h:= ?_);intro Gh hb;replace l9:=pkK l9 hb;replace o5:=pkK o5 hb;replace o6:=pkK o6 hb;replace o7:=pkK o7 hb;replace o8:=pkK o8 hb;replace HB:=pkB HB hb
  (try clear hb)
  (try clear hb2)
  (try clear hk)
  (try clear hi)
  refine hK.out _ _ (pc3 l9 (pc3 o5 (pc3 o6 (pc3 o7 (pcL o8))))) (fun hHeld=> ?_);clear hK K;refine nm_ (h:= ?_);refine pr_ 13 60 (h:= ?_);refine pr_ 14 61 (h:= ?_);refine pr_ 15 62 (h:= ?_);refine pr_ 16 63 (h:= ?_);refine tk_ 17 64 hHeld (hy:=hyf) (h:= ?_);refine pr_ 18 65 (h:= ?_);refine pr_ 19 66 (h:= ?_);refine pr_ 20 67 (h:= ?_);refine tk_ 21 68 hHeld (hy:=hyf) (h:= ?_);refine on_ 22 69 (h:=fun K hK=> ?_);refine gR Tryz.func98 (aY.calls (w:=_) (h:=tq.out)) (h:= ?_);intro Gi hb;replace l9:=pkK l9 hb;replace o5:=pkK o5 hb;replace o6:=pkK o6 hb;replace o7:=pkK o7 hb;replace o8:=pkK o8 hb;replace HB:=pkB HB hb
  (try clear hb)
  (try clear hb2)
  (try clear hk)
  (try clear hi)
  refine hK.out _ _ (pc3 l9 (pc3 o5 (pc3 o6 (pc3 o7 (pcL o8))))) (fun hHeld=> ?_);clear hK K;refine nm_ (h:= ?_);refine pr_ 23 70 (h:= ?_);refine pr_ 24 71 (h:= ?_);refine pr_ 25 72 (h:= ?_);refine tk_ 26 73 hHeld (hy:=hyf) (h:= ?_);refine on_ 27 74 (h:=fun K hK=> ?_);refine gR Tryz.func98 (aY.calls (w:=_) (h:=tu.out)) (h:= ?_);intro Gj hb;replace l9:=pkK l9 hb;replace o5:=pkK o5 hb;replace o6:=pkK o6 hb;replace o7:=pkK o7 hb;replace o8:=pkK o8 hb;replace HB:=pkB HB hb
  (try clear hb)
  (try clear hb2)
  (try clear hk)
  (try clear hi)
  refine hK.out _ _ (pc3 l9 (pc3 o5 (pc3 o6 (pc3 o7 (pcL o8))))) (fun hHeld=> ?_);clear hK K;refine nm_ (h:= ?_);refine pr_ 28 75 (h:= ?_);refine pr_ 29 76 (h:= ?_);refine pr_ 30 77 (h:= ?_);refine tk_ 31 78 hHeld (hy:=hyf) (h:= ?_);refine on_ 32 79 (h:=fun K hK=> ?_);refine gR Tryz.func98 (aY.calls (w:=_) (h:=uf.out)) (h:= ?_);intro Gl hb;replace l9:=pkK l9 hb;replace o5:=pkK o5 hb;replace o6:=pkK o6 hb;replace o7:=pkK o7 hb;replace o8:=pkK o8 hb;replace HB:=pkB HB hb
  (try clear hb)
  (try clear hb2)
  (try clear hk)
  (try clear hi)
  refine hK.out _ _ (pc3 l9 (pc3 o5 (pc3 o6 (pc3 o7 (pcL o8))))) (fun hHeld=> ?_);clear hK K;refine nm_ (h:= ?_);refine pr_ 33 80 (h:= ?_);refine pr_ 34 81 (h:= ?_);refine kY (lK HT_.out (by kernel_rfl)) ?_
  try go_wp2
  go_meet
  case rel=>exact⟨(by first|rfl|exact congrArg Value.bool e23),⟨pkW l9⟩,⟨pkW o5⟩,⟨pkW o6⟩,⟨pkW o7⟩,⟨pkW o8⟩,⟨pkL HB⟩⟩
 case rest=>
  obtain⟨rfl,l9,o5,o6,o7,o8,HB⟩:=hcut
  go_upto_region 12 with (first|((with_reducible refine aC (f:=98) rfl ?_);refine gM 83 Tryz.func98 (aY.calls (w:=_) (h:=ug.out)) (h:= ?_);intro Gm hb;replace l9:=pkK l9 hb;replace o5:=pkK o5 hb;replace o6:=pkK o6 hb;replace o7:=pkK o7 hb;replace o8:=pkK o8 hb;replace HB:=pkB HB hb;try clear hb)|((with_reducible refine aC (f:=98) rfl ?_);refine gM 84 Tryz.func98 (aY.calls (w:=_) (h:=uh.out)) (h:= ?_);intro Gn hb;replace l9:=pkK l9 hb;replace o5:=pkK o5 hb;replace o6:=pkK o6 hb;replace o7:=pkK o7 hb;replace o8:=pkK o8 hb;replace HB:=pkB HB hb;try clear hb)|((with_reducible refine aC (f:=36) rfl ?_);refine gM 85 Tryz.func36 (lD.calls (hG:=HG.out.below (pkL HB)) (h:=ui.out)) (h:= ?_);intro Gp hb;replace l9:=pkK l9 hb;replace o5:=pkK o5 hb;replace o6:=pkK o6 hb;replace o7:=pkK o7 hb;replace o8:=pkK o8 hb;replace HB:=pkB HB hb;try clear hb)|((with_reducible refine aG (N:=11) rfl ?_);refine bx_ 11 36 #[.bool false,.string (⟨#[]⟩:ByteArray),.string (⟨#[]⟩:ByteArray)] (h:= ?_);intro L9 hg Gq D7 hb;have o9:=aA.mk (D7);have xq:=pkG HB hg;have Gs:=xq;obtain⟨Gt,Gu,Gv,Gw⟩:=pkQ l9 hg;obtain⟨Gx,Gy,Gz,Ha⟩:=pkQ o5 hg;obtain⟨Hf,Hg,Hl,Hm⟩:=pkQ o6 hg;obtain⟨Ho,Hq,Hr,Hu⟩:=pkQ o7 hg;obtain⟨Hw,Hy,Ia,Ib⟩:=pkQ o8 hg;replace l9:=pkK l9 hb;replace o5:=pkK o5 hb;replace o6:=pkK o6 hb;replace o7:=pkK o7 hb;replace o8:=pkK o8 hb;replace HB:=pkB HB hb;clear hb D7 hg;obtain⟨⟨Ic,Ie,Ig⟩,Ih,Ii,Ij⟩:=pk3 o9)|((with_reducible refine aC (f:=98) rfl ?_);refine gM 89 Tryz.func98 (aY.calls (w:=_) (h:=uj.out)) (h:= ?_);intro Ik hb;replace l9:=pkF l9 hb;replace o5:=pkF o5 hb;replace o6:=pkF o6 hb;replace o7:=pkF o7 hb;replace o8:=pkF o8 hb;replace o9:=aA.mk (iT (g:=L9) (o:= .cells #[.bool J3,.string J6,.string J7] 36 (0,0)) (pkS3 o9) hb);replace HB:=pkB HB hb;try clear hb)|((with_reducible refine aC (f:=98) rfl ?_);refine gM 90 Tryz.func98 (aY.calls (w:=_) (h:=uk.out)) (h:= ?_);intro Il hb;replace l9:=pkK l9 hb;replace o5:=pkK o5 hb;replace o6:=pkK o6 hb;replace o7:=pkK o7 hb;replace o8:=pkK o8 hb;replace o9:=pkK o9 hb;replace HB:=pkB HB hb;try clear hb)|((with_reducible refine aC (f:=36) rfl ?_);refine gM 91 Tryz.func36 (lD.calls (hG:=HG.out.below (pkL HB)) (h:=ul.out)) (h:= ?_);intro Io hb;replace l9:=pkK l9 hb;replace o5:=pkK o5 hb;replace o6:=pkK o6 hb;replace o7:=pkK o7 hb;replace o8:=pkK o8 hb;replace o9:=pkK o9 hb;replace HB:=pkB HB hb;try clear hb)|((with_reducible refine aG (N:=12) rfl ?_);refine bx_ 12 36 #[.bool false,.string (⟨#[]⟩:ByteArray),.string (⟨#[]⟩:ByteArray)] (h:= ?_);intro N7 hg Ip D7 hb;have y8:=aA.mk (D7);have xu:=pkG HB hg;have Iq:=xu;obtain⟨Ir,Iu,Iw,Iy⟩:=pkQ l9 hg;obtain⟨Iz,Ja,Jb,Jc⟩:=pkQ o5 hg;obtain⟨Jd,Je,Jf,Jg⟩:=pkQ o6 hg;obtain⟨Jh,Ji,Jj,Jk⟩:=pkQ o7 hg;obtain⟨Jl,Jm,Jn,Jo⟩:=pkQ o8 hg;obtain⟨Jp,Jq,Jr,Js⟩:=pkQ o9 hg;replace l9:=pkK l9 hb;replace o5:=pkK o5 hb;replace o6:=pkK o6 hb;replace o7:=pkK o7 hb;replace o8:=pkK o8 hb;replace o9:=pkK o9 hb;replace HB:=pkB HB hb;clear hb D7 hg;obtain⟨⟨Jt,Ju,Jv⟩,Jw,Jy,Jz⟩:=pk3 y8)|((with_reducible refine aC (f:=98) rfl ?_);refine gM 95 Tryz.func98 (aY.calls (w:=_) (h:=um.out)) (h:= ?_);intro Ko hb;replace l9:=pkF l9 hb;replace o5:=pkF o5 hb;replace o6:=pkF o6 hb;replace o7:=pkF o7 hb;replace o8:=pkF o8 hb;replace o9:=pkF o9 hb;replace y8:=aA.mk (iT (g:=N7) (o:= .cells #[.bool J4,.string J8,.string J9] 36 (0,0)) (pkS3 y8) hb);replace HB:=pkB HB hb;try clear hb)|((with_reducible refine aC (f:=98) rfl ?_);refine gM 96 Tryz.func98 (aY.calls (w:=_) (h:=uo.out)) (h:= ?_);intro Kq hb;replace l9:=pkK l9 hb;replace o5:=pkK o5 hb;replace o6:=pkK o6 hb;replace o7:=pkK o7 hb;replace o8:=pkK o8 hb;replace o9:=pkK o9 hb;replace y8:=pkK y8 hb;replace HB:=pkB HB hb;try clear hb)|((with_reducible refine aC (f:=38) rfl ?_);refine gM 97 Tryz.func38 (lF.calls (hG:=HG.out.below (pkL HB)) (h:=uq.out)) (h:= ?_);intro Kr hb;replace l9:=pkK l9 hb;replace o5:=pkK o5 hb;replace o6:=pkK o6 hb;replace o7:=pkK o7 hb;replace o8:=pkK o8 hb;replace o9:=pkK o9 hb;replace y8:=pkK y8 hb;replace HB:=pkB HB hb;try clear hb)|((with_reducible refine aG (N:=13) rfl ?_);refine bx_ 13 36 #[.bool false,.string (⟨#[]⟩:ByteArray),.string (⟨#[]⟩:ByteArray)] (h:= ?_);intro N8 hg Kt D7 hb;have y9:=aA.mk (D7);have xw:=pkG HB hg;have Ku:=xw;obtain⟨Kv,Kw,Ky,Kz⟩:=pkQ l9 hg;obtain⟨La,Lc,Ld,Le⟩:=pkQ o5 hg;obtain⟨Lh,Lj,Ll,Lp⟩:=pkQ o6 hg;obtain⟨Lr,Ls,Lt,Lu⟩:=pkQ o7 hg;obtain⟨Mc,Md,Me,Na⟩:=pkQ o8 hg;obtain⟨Nb,Nc,Nh,Nj⟩:=pkQ o9 hg;obtain⟨Nk,Nl,Np,Nq⟩:=pkQ y8 hg;replace l9:=pkK l9 hb;replace o5:=pkK o5 hb;replace o6:=pkK o6 hb;replace o7:=pkK o7 hb;replace o8:=pkK o8 hb;replace o9:=pkK o9 hb;replace y8:=pkK y8 hb;replace HB:=pkB HB hb;clear hb D7 hg;obtain⟨⟨Nr,Ns,Nu⟩,Nv,Nw,Ny⟩:=pk3 y9)|((with_reducible refine aC (f:=98) rfl ?_);refine gM 101 Tryz.func98 (aY.calls (w:=_) (h:=ut.out)) (h:= ?_);intro Nz hb;replace l9:=pkF l9 hb;replace o5:=pkF o5 hb;replace o6:=pkF o6 hb;replace o7:=pkF o7 hb;replace o8:=pkF o8 hb;replace o9:=pkF o9 hb;replace y8:=pkF y8 hb;replace y9:=aA.mk (iT (g:=N8) (o:= .cells #[.bool J5,.string L6,.string L8] 36 (0,0)) (pkS3 y9) hb);replace HB:=pkB HB hb;try clear hb)|((with_reducible refine aC (f:=98) rfl ?_);refine gM 102 Tryz.func98 (aY.calls (w:=_) (h:=uu.out)) (h:= ?_);intro Oa hb;replace l9:=pkK l9 hb;replace o5:=pkK o5 hb;replace o6:=pkK o6 hb;replace o7:=pkK o7 hb;replace o8:=pkK o8 hb;replace o9:=pkK o9 hb;replace y8:=pkK y8 hb;replace y9:=pkK y9 hb;replace HB:=pkB HB hb;try clear hb)|((with_reducible refine aC (f:=38) rfl ?_);refine gM 103 Tryz.func38 (lF.calls (hG:=HG.out.below (pkL HB)) (h:=uw.out)) (h:= ?_);intro Ob hb;replace l9:=pkK l9 hb;replace o5:=pkK o5 hb;replace o6:=pkK o6 hb;replace o7:=pkK o7 hb;replace o8:=pkK o8 hb;replace o9:=pkK o9 hb;replace y8:=pkK y8 hb;replace y9:=pkK y9 hb;replace HB:=pkB HB hb;try clear hb)|((with_reducible refine aG (N:=14) rfl ?_);refine bx_ 14 36 #[.bool false,.string (⟨#[]⟩:ByteArray),.string (⟨#[]⟩:ByteArray)] (h:= ?_);intro C9 hg F8 D7 hb;have D5:=aA.mk (D7);have xx:=pkG HB hg;have Oc:=xx;obtain⟨P7,Oe,Og,Oh⟩:=pkQ l9 hg;obtain⟨P8,Oi,Oj,Ol⟩:=pkQ o5 hg;obtain⟨P9,Om,Oo,Oq⟩:=pkQ o6 hg;obtain⟨Q3,Ot,Ou,Ov⟩:=pkQ o7 hg;obtain⟨Q4,Ox,Oy,Oz⟩:=pkQ o8 hg;obtain⟨Q5,Pe,Pg,Ph⟩:=pkQ o9 hg;obtain⟨Q7,Pi,Pj,Pm⟩:=pkQ y8 hg;obtain⟨Q8,Pn,Po,Pq⟩:=pkQ y9 hg;replace l9:=pkK l9 hb;replace o5:=pkK o5 hb;replace o6:=pkK o6 hb;replace o7:=pkK o7 hb;replace o8:=pkK o8 hb;replace o9:=pkK o9 hb;replace y8:=pkK y8 hb;replace y9:=pkK y9 hb;replace HB:=pkB HB hb;clear hb D7 hg;obtain⟨⟨Pv,Px,Py⟩,Pz,Qa,Qb⟩:=pk3 D5))
  (try simp only[Act.put,List.setIfInBounds_toArray,List.set_cons_zero,List.set_cons_succ])
  go_cut [133] (fun v133 wc=>v133= .bool false∧aA (wc.heap[H8]? =some (.cells #[.bool F9,.string G7,.string G8] 36 (0,0)))∧aA (wc.heap[H9]? =some (.cells #[.bool true,.string I7,.string I8] 36 (0,0)))∧aA (wc.heap[I4]? =some (.cells #[.bool G5,.string G9,.string H5] 36 (0,0)))∧aA (wc.heap[I5]? =some (.cells #[.bool G6,.string H6,.string H7] 36 (0,0)))∧aA (wc.heap[D6]? =some (.cells #[.bool E8,.string F6,.string F7] 36 (0,0)))∧aA (wc.heap[L9]? =some (.cells #[.bool J3,.string J6,.string J7] 36 (0,0)))∧aA (wc.heap[N7]? =some (.cells #[.bool J4,.string J8,.string J9] 36 (0,0)))∧aA (wc.heap[N8]? =some (.cells #[.bool J5,.string L6,.string L8] 36 (0,0)))∧aA (wc.heap[C9]? =some (.cells #[.bool D8,.string D9,.string F5] 36 (0,0)))∧aA (Below w.heap.size w wc))
  case first=>
   (first|rw[qw]|(simp only[jM,jX];rw[qw])|skip)
   try go_wp2
   have n0_:aA ((((F8.setCell ⟨C9,0,none⟩ (.bool D8)).setCell ⟨C9,1,none⟩ (.string D9)).setCell ⟨C9,2,none⟩ (.string F5)).heap[H8]? =some (.cells #[.bool F9,.string G7,.string G8] 36 (0,0))):=⟨by(with_reducible repeat(first|refine bH ?_ _|refine aK ?_|refine bG ?_ _));refine gX ?_ P7.out _;(with_reducible repeat(first|refine bH ?_ _|refine aK ?_|refine bG ?_ _));refine gX ?_ P7.out _;(with_reducible repeat(first|refine bH ?_ _|refine aK ?_|refine bG ?_ _));refine gX ?_ P7.out _;(with_reducible repeat(first|refine bH ?_ _|refine aK ?_|refine bG ?_ _));exact l9.out⟩;have n1_:aA ((((F8.setCell ⟨C9,0,none⟩ (.bool D8)).setCell ⟨C9,1,none⟩ (.string D9)).setCell ⟨C9,2,none⟩ (.string F5)).heap[H9]? =some (.cells #[.bool true,.string I7,.string I8] 36 (0,0))):=⟨by(with_reducible repeat(first|refine bH ?_ _|refine aK ?_|refine bG ?_ _));refine gX ?_ P8.out _;(with_reducible repeat(first|refine bH ?_ _|refine aK ?_|refine bG ?_ _));refine gX ?_ P8.out _;(with_reducible repeat(first|refine bH ?_ _|refine aK ?_|refine bG ?_ _));refine gX ?_ P8.out _;(with_reducible repeat(first|refine bH ?_ _|refine aK ?_|refine bG ?_ _));exact o5.out⟩;have n2_:aA ((((F8.setCell ⟨C9,0,none⟩ (.bool D8)).setCell ⟨C9,1,none⟩ (.string D9)).setCell ⟨C9,2,none⟩ (.string F5)).heap[I4]? =some (.cells #[.bool G5,.string G9,.string H5] 36 (0,0))):=⟨by(with_reducible repeat(first|refine bH ?_ _|refine aK ?_|refine bG ?_ _));refine gX ?_ P9.out _;(with_reducible repeat(first|refine bH ?_ _|refine aK ?_|refine bG ?_ _));refine gX ?_ P9.out _;(with_reducible repeat(first|refine bH ?_ _|refine aK ?_|refine bG ?_ _));refine gX ?_ P9.out _;(with_reducible repeat(first|refine bH ?_ _|refine aK ?_|refine bG ?_ _));exact o6.out⟩;have n3_:aA ((((F8.setCell ⟨C9,0,none⟩ (.bool D8)).setCell ⟨C9,1,none⟩ (.string D9)).setCell ⟨C9,2,none⟩ (.string F5)).heap[I5]? =some (.cells #[.bool G6,.string H6,.string H7] 36 (0,0))):=⟨by(with_reducible repeat(first|refine bH ?_ _|refine aK ?_|refine bG ?_ _));refine gX ?_ Q3.out _;(with_reducible repeat(first|refine bH ?_ _|refine aK ?_|refine bG ?_ _));refine gX ?_ Q3.out _;(with_reducible repeat(first|refine bH ?_ _|refine aK ?_|refine bG ?_ _));refine gX ?_ Q3.out _;(with_reducible repeat(first|refine bH ?_ _|refine aK ?_|refine bG ?_ _));exact o7.out⟩;have n4_:aA ((((F8.setCell ⟨C9,0,none⟩ (.bool D8)).setCell ⟨C9,1,none⟩ (.string D9)).setCell ⟨C9,2,none⟩ (.string F5)).heap[D6]? =some (.cells #[.bool E8,.string F6,.string F7] 36 (0,0))):=⟨by(with_reducible repeat(first|refine bH ?_ _|refine aK ?_|refine bG ?_ _));refine gX ?_ Q4.out _;(with_reducible repeat(first|refine bH ?_ _|refine aK ?_|refine bG ?_ _));refine gX ?_ Q4.out _;(with_reducible repeat(first|refine bH ?_ _|refine aK ?_|refine bG ?_ _));refine gX ?_ Q4.out _;(with_reducible repeat(first|refine bH ?_ _|refine aK ?_|refine bG ?_ _));exact o8.out⟩;have n5_:aA ((((F8.setCell ⟨C9,0,none⟩ (.bool D8)).setCell ⟨C9,1,none⟩ (.string D9)).setCell ⟨C9,2,none⟩ (.string F5)).heap[L9]? =some (.cells #[.bool J3,.string J6,.string J7] 36 (0,0))):=⟨by(with_reducible repeat(first|refine bH ?_ _|refine aK ?_|refine bG ?_ _));refine gX ?_ Q5.out _;(with_reducible repeat(first|refine bH ?_ _|refine aK ?_|refine bG ?_ _));refine gX ?_ Q5.out _;(with_reducible repeat(first|refine bH ?_ _|refine aK ?_|refine bG ?_ _));refine gX ?_ Q5.out _;(with_reducible repeat(first|refine bH ?_ _|refine aK ?_|refine bG ?_ _));exact o9.out⟩;have n6_:aA ((((F8.setCell ⟨C9,0,none⟩ (.bool D8)).setCell ⟨C9,1,none⟩ (.string D9)).setCell ⟨C9,2,none⟩ (.string F5)).heap[N7]? =some (.cells #[.bool J4,.string J8,.string J9] 36 (0,0))):=⟨by(with_reducible repeat(first|refine bH ?_ _|refine aK ?_|refine bG ?_ _));refine gX ?_ Q7.out _;(with_reducible repeat(first|refine bH ?_ _|refine aK ?_|refine bG ?_ _));refine gX ?_ Q7.out _;(with_reducible repeat(first|refine bH ?_ _|refine aK ?_|refine bG ?_ _));refine gX ?_ Q7.out _;(with_reducible repeat(first|refine bH ?_ _|refine aK ?_|refine bG ?_ _));exact y8.out⟩
   have n7_:aA ((((F8.setCell ⟨C9,0,none⟩ (.bool D8)).setCell ⟨C9,1,none⟩ (.string D9)).setCell ⟨C9,2,none⟩ (.string F5)).heap[N8]? =some (.cells #[.bool J5,.string L6,.string L8] 36 (0,0))):=⟨by(with_reducible repeat(first|refine bH ?_ _|refine aK ?_|refine bG ?_ _));refine gX ?_ Q8.out _;(with_reducible repeat(first|refine bH ?_ _|refine aK ?_|refine bG ?_ _));refine gX ?_ Q8.out _;(with_reducible repeat(first|refine bH ?_ _|refine aK ?_|refine bG ?_ _));refine gX ?_ Q8.out _;(with_reducible repeat(first|refine bH ?_ _|refine aK ?_|refine bG ?_ _));exact y9.out⟩;have n8_:aA ((((F8.setCell ⟨C9,0,none⟩ (.bool D8)).setCell ⟨C9,1,none⟩ (.string D9)).setCell ⟨C9,2,none⟩ (.string F5)).heap[C9]? =some (.cells #[.bool D8,.string D9,.string F5] 36 (0,0))):=⟨by(with_reducible repeat(first|refine bH ?_ _|refine aK ?_|refine bG ?_ _));refine iR (cs:=#[.bool D8,.string D9,.string (⟨#[]⟩:ByteArray)]) ?_ 2 _ rfl;(with_reducible repeat(first|refine bH ?_ _|refine aK ?_|refine bG ?_ _));refine iR (cs:=#[.bool D8,.string (⟨#[]⟩:ByteArray),.string (⟨#[]⟩:ByteArray)]) ?_ 1 _ rfl;(with_reducible repeat(first|refine bH ?_ _|refine aK ?_|refine bG ?_ _));refine iR (cs:=#[.bool false,.string (⟨#[]⟩:ByteArray),.string (⟨#[]⟩:ByteArray)]) ?_ 0 _ rfl;(with_reducible repeat(first|refine bH ?_ _|refine aK ?_|refine bG ?_ _));exact D5.out⟩;have n9_:aA (Below w.heap.size w (((F8.setCell ⟨C9,0,none⟩ (.bool D8)).setCell ⟨C9,1,none⟩ (.string D9)).setCell ⟨C9,2,none⟩ (.string F5))):=⟨pkL HB⟩
   (try clear l9)
   (try clear o5)
   (try clear o6)
   (try clear o7)
   (try clear o8)
   (try clear o9)
   (try clear y8)
   (try clear y9)
   (try clear D5)
   (try clear HB)
   generalize (((F8.setCell ⟨C9,0,none⟩ (.bool D8)).setCell ⟨C9,1,none⟩ (.string D9)).setCell ⟨C9,2,none⟩ (.string F5))=xy at n0_ n1_ n2_ n3_ n4_ n5_ n6_ n7_ n8_ n9_ ⊢;have l9:=n0_;have o5:=n1_;have o6:=n2_;have o7:=n3_;have o8:=n4_;have o9:=n5_;have y8:=n6_;have y9:=n7_;have D5:=n8_;have HB:=n9_;clear n0_ n1_ n2_ n3_ n4_ n5_ n6_ n7_ n8_ n9_;replace l9:=aA.mk (aK l9.out);replace o5:=aA.mk (aK o5.out);replace o6:=aA.mk (aK o6.out);replace o7:=aA.mk (aK o7.out);replace o8:=aA.mk (aK o8.out);replace o9:=aA.mk (aK o9.out);replace y8:=aA.mk (aK y8.out);replace y9:=aA.mk (aK y9.out);replace D5:=aA.mk (aK D5.out);replace HB:=aA.mk (aJ HB.out)
   refine kF (n:=28) (S:=fun w'=>w'.cell? ⟨L9,0,none⟩=some (.bool J3)∧w'.cell? ⟨L9,1,none⟩=some (.string J6)∧w'.cell? ⟨L9,2,none⟩=some (.string J7)∧w'.cell? ⟨N7,0,none⟩=some (.bool J4)∧w'.cell? ⟨N7,1,none⟩=some (.string J8)∧w'.cell? ⟨N7,2,none⟩=some (.string J9)∧w'.cell? ⟨N8,0,none⟩=some (.bool J5)∧w'.cell? ⟨N8,1,none⟩=some (.string L6)∧w'.cell? ⟨N8,2,none⟩=some (.string L8)∧w'.cell? ⟨C9,0,none⟩=some (.bool D8)∧w'.cell? ⟨C9,1,none⟩=some (.string D9)∧w'.cell? ⟨C9,2,none⟩=some (.string F5)) (ds:= []) #[false,false,false,false,false,false,false,false,false,false,false,false,false,false,false,false,false,false,false,false,false,false,false,false,false,false,false,false] (by kernel_rfl) rfl rfl (pc3 o9 (pc3 y8 (pc3 y9 (pcL D5)))) (fun hHeld=> ?_);refine jZ iL.tab12 iL.bits12 (fun HT_ HW_=> ?_)
   generalize xy.drew=Qc at l9 o5 o6 o7 o8 o9 y8 y9 D5 HB hHeld ⊢;refine pr_ 0 106 (h:= ?_);refine pr_ 1 107 (h:= ?_);refine pr_ 2 108 (h:= ?_);refine pr_ 3 109 (h:= ?_);refine pr_ 4 110 (h:= ?_);refine pr_ 5 111 (h:= ?_);refine pr_ 6 112 (h:= ?_);refine pr_ 7 113 (h:= ?_);refine pr_ 8 114 (h:= ?_);refine tk_ 9 115 hHeld (hy:=hyc) (h:= ?_);refine on_ 10 116 (h:=fun K hK=> ?_);refine gR Tryz.func98 (aY.calls (w:=_) (h:=uy.out)) (h:= ?_);intro Qd hb;replace l9:=pkK l9 hb;replace o5:=pkK o5 hb;replace o6:=pkK o6 hb;replace o7:=pkK o7 hb;replace o8:=pkK o8 hb;replace o9:=pkK o9 hb;replace y8:=pkK y8 hb;replace y9:=pkK y9 hb;replace D5:=pkK D5 hb;replace HB:=pkB HB hb
   (try clear hb)
   (try clear hb2)
   (try clear hk)
   (try clear hi)
   refine hK.out _ _ (pc3 o9 (pc3 y8 (pc3 y9 (pcL D5)))) (fun hHeld=> ?_);clear hK K;refine nm_ (h:= ?_);refine pr_ 11 117 (h:= ?_);refine pr_ 12 118 (h:= ?_);refine pr_ 13 119 (h:= ?_);refine tk_ 14 120 hHeld (hy:=hyc) (h:= ?_);refine on_ 15 121 (h:=fun K hK=> ?_);refine gR Tryz.func99 (jC.calls (w:=_) (h:=uz.out)) (h:= ?_);intro Qe hb;replace l9:=pkK l9 hb;replace o5:=pkK o5 hb;replace o6:=pkK o6 hb;replace o7:=pkK o7 hb;replace o8:=pkK o8 hb;replace o9:=pkK o9 hb;replace y8:=pkK y8 hb;replace y9:=pkK y9 hb;replace D5:=pkK D5 hb;replace HB:=pkB HB hb
   (try clear hb)
   (try clear hb2)
   (try clear hk)
   (try clear hi)
   refine hK.out _ _ (pc3 o9 (pc3 y8 (pc3 y9 (pcL D5)))) (fun hHeld=> ?_);clear hK K;refine nm_ (h:= ?_);refine pr_ 16 122 (h:= ?_);refine pr_ 17 123 (h:= ?_);refine pr_ 18 124 (h:= ?_);refine tk_ 19 125 hHeld (hy:=hyc) (h:= ?_);refine on_ 20 126 (h:=fun K hK=> ?_);refine gR Tryz.func98 (aY.calls (w:=_) (h:=ve.out)) (h:= ?_);intro Qg hb;replace l9:=pkK l9 hb;replace o5:=pkK o5 hb;replace o6:=pkK o6 hb;replace o7:=pkK o7 hb;replace o8:=pkK o8 hb;replace o9:=pkK o9 hb;replace y8:=pkK y8 hb;replace y9:=pkK y9 hb;replace D5:=pkK D5 hb;replace HB:=pkB HB hb
   (try clear hb)
   (try clear hb2)
   (try clear hk)
   (try clear hi)
   refine hK.out _ _ (pc3 o9 (pc3 y8 (pc3 y9 (pcL D5)))) (fun hHeld=> ?_);clear hK K;refine nm_ (h:= ?_);refine pr_ 21 127 (h:= ?_);refine pr_ 22 128 (h:= ?_);refine pr_ 23 129 (h:= ?_);refine tk_ 24 130 hHeld (hy:=hyc) (h:= ?_);refine on_ 25 131 (h:=fun K hK=> ?_);refine gR Tryz.func98 (aY.calls (w:=_) (h:=vg.out)) (h:= ?_);intro Qh hb;replace l9:=pkK l9 hb;replace o5:=pkK o5 hb;replace o6:=pkK o6 hb;replace o7:=pkK o7 hb;replace o8:=pkK o8 hb;replace o9:=pkK o9 hb;replace y8:=pkK y8 hb;replace y9:=pkK y9 hb;replace D5:=pkK D5 hb;replace HB:=pkB HB hb
   (try clear hb)
   (try clear hb2)
   (try clear hk)
   (try clear hi)
   refine hK.out _ _ (pc3 o9 (pc3 y8 (pc3 y9 (pcL D5)))) (fun hHeld=> ?_);clear hK K;refine nm_ (h:= ?_);refine pr_ 26 132 (h:= ?_);refine pr_ 27 133 (h:= ?_);refine kY (lK HT_.out (by kernel_rfl)) ?_
   try go_wp2
   go_meet
   case rel=>exact⟨(by first|rfl|exact congrArg Value.bool e44),⟨pkW l9⟩,⟨pkW o5⟩,⟨pkW o6⟩,⟨pkW o7⟩,⟨pkW o8⟩,⟨pkW o9⟩,⟨pkW y8⟩,⟨pkW y9⟩,⟨pkW D5⟩,⟨pkL HB⟩⟩
  case rest=>
   obtain⟨rfl,l9,o5,o6,o7,o8,o9,y8,y9,D5,HB⟩:=hcut
   go_wp2_with(first|((with_reducible refine aC (f:=98) rfl ?_);refine gM 135 Tryz.func98 (aY.calls (w:=_) (h:=vk.out)) (h:= ?_);intro Qi hb;replace l9:=pkK l9 hb;replace o5:=pkK o5 hb;replace o6:=pkK o6 hb;replace o7:=pkK o7 hb;replace o8:=pkK o8 hb;replace o9:=pkK o9 hb;replace y8:=pkK y8 hb;replace y9:=pkK y9 hb;replace D5:=pkK D5 hb;replace HB:=pkB HB hb;try clear hb)|((with_reducible refine aC (f:=62) rfl ?_);refine gM 136 Tryz.func62 (nS.calls (hG:=HG.out.below (pkL HB)) (h:=vw.out)) (h:= ?_);intro Qj hb;replace l9:=pkK l9 hb;replace o5:=pkK o5 hb;replace o6:=pkK o6 hb;replace o7:=pkK o7 hb;replace o8:=pkK o8 hb;replace o9:=pkK o9 hb;replace y8:=pkK y8 hb;replace y9:=pkK y9 hb;replace D5:=pkK D5 hb;replace HB:=pkB HB hb;try clear hb)|((with_reducible refine aC (f:=98) rfl ?_);refine gM 140 Tryz.func98 (aY.calls (w:=_) (h:=vz.out)) (h:= ?_);intro Qk hb;replace l9:=pkK l9 hb;replace o5:=pkK o5 hb;replace o6:=pkK o6 hb;replace o7:=pkK o7 hb;replace o8:=pkK o8 hb;replace o9:=pkK o9 hb;replace y8:=pkK y8 hb;replace y9:=pkK y9 hb;replace D5:=pkK D5 hb;replace HB:=pkB HB hb;try clear hb)|((with_reducible refine aC (f:=64) rfl ?_);refine gM 141 Tryz.func64 (lV.calls (hG:=HG.out.below (pkL HB)) (h:=wo.out)) (h:= ?_);intro Ql hb;replace l9:=pkK l9 hb;replace o5:=pkK o5 hb;replace o6:=pkK o6 hb;replace o7:=pkK o7 hb;replace o8:=pkK o8 hb;replace o9:=pkK o9 hb;replace y8:=pkK y8 hb;replace y9:=pkK y9 hb;replace D5:=pkK D5 hb;replace HB:=pkB HB hb;try clear hb)|(go_at_call 99;(with_reducible refine(jC.calls N9 O1 O3 _ wu.out).mono ?_);rintro e Qm ⟨rfl,hb⟩;replace l9:=pkK l9 hb;replace o5:=pkK o5 hb;replace o6:=pkK o6 hb;replace o7:=pkK o7 hb;replace o8:=pkK o8 hb;replace o9:=pkK o9 hb;replace y8:=pkK y8 hb;replace y9:=pkK y9 hb;replace D5:=pkK D5 hb;replace HB:=pkB HB hb;try clear hb)|(go_at_call 98;(with_reducible refine(aY.calls (⟨#[49]⟩:ByteArray) (⟨#[48]⟩:ByteArray) O0 O4 O5 _ ww.out).mono ?_);rintro e Qn ⟨rfl,hb⟩;replace l9:=pkK l9 hb;replace o5:=pkK o5 hb;replace o6:=pkK o6 hb;replace o7:=pkK o7 hb;replace o8:=pkK o8 hb;replace o9:=pkK o9 hb;replace y8:=pkK y8 hb;replace y9:=pkK y9 hb;replace D5:=pkK D5 hb;replace HB:=pkB HB hb;try clear hb))
   go_ret
   exact pkE HB
end Go.Proofs.YtignanmmgaldeaaGreatDoor.PCongW
namespace Go.Proofs.YtignanmmgaldeaaGreatDoor
open Go.RowKit Go.Proofs.YtignanmmgaldeaaGreatDoor.PCongW Go.Proofs.YtignanmmgaldeaaGreatDoorW.PrintWords
def fC.f:Option Bool:=some true
theorem fC.calls(r0:Bool)(w:World)(hG:GW w)(h:fC.f=some r0) :
 Calls Tryz.prog 35 #[] w fun e w'=>e= .returned (.bool r0)∧Below w.heap.size w w':=by
 cases h
 exact awake_walk false false false false false false false false false false false false false false false false false false false false false false false false false false false false false false false false false false false false false false (⟨#[54]⟩:ByteArray) (⟨#[50]⟩:ByteArray) (⟨#[57]⟩:ByteArray) (⟨#[53]⟩:ByteArray) (⟨#[49,56]⟩:ByteArray) (⟨#[49,52]⟩:ByteArray) (⟨#[52]⟩:ByteArray) (⟨#[48]⟩:ByteArray) (⟨#[50]⟩:ByteArray) (⟨#[49]⟩:ByteArray) (⟨#[]⟩:ByteArray) (⟨#[]⟩:ByteArray) (⟨#[48]⟩:ByteArray) (⟨#[51]⟩:ByteArray) (⟨#[48]⟩:ByteArray) (⟨#[49,49]⟩:ByteArray) (⟨#[56]⟩:ByteArray) (⟨#[51]⟩:ByteArray) (⟨#[50]⟩:ByteArray) (⟨#[49]⟩:ByteArray) (⟨#[52]⟩:ByteArray) (⟨#[50]⟩:ByteArray) (⟨#[52]⟩:ByteArray) (⟨#[50]⟩:ByteArray) (⟨#[50]⟩:ByteArray) (⟨#[49]⟩:ByteArray) (⟨#[52]⟩:ByteArray) (⟨#[50]⟩:ByteArray) (⟨#[50]⟩:ByteArray) (⟨#[49]⟩:ByteArray) (⟨#[49,56]⟩:ByteArray) (⟨#[49,52]⟩:ByteArray) (⟨#[56]⟩:ByteArray) (⟨#[51]⟩:ByteArray) (⟨#[52]⟩:ByteArray) (⟨#[50]⟩:ByteArray) (⟨#[50]⟩:ByteArray) (⟨#[49]⟩:ByteArray) (⟨#[49,50]⟩:ByteArray) (⟨#[52]⟩:ByteArray) (⟨#[48]⟩:ByteArray) (⟨#[52]⟩:ByteArray) (⟨#[51]⟩:ByteArray) (⟨#[49]⟩:ByteArray) (⟨#[49,50]⟩:ByteArray) (⟨#[52]⟩:ByteArray) (⟨#[48]⟩:ByteArray) (⟨#[53]⟩:ByteArray) (⟨#[49]⟩:ByteArray) (⟨#[48]⟩:ByteArray) (⟨#[49,50]⟩:ByteArray) (⟨#[52]⟩:ByteArray) (⟨#[48]⟩:ByteArray) (⟨#[54]⟩:ByteArray) (⟨#[48]⟩:ByteArray) (⟨#[52]⟩:ByteArray) (⟨#[49,50]⟩:ByteArray) (⟨#[52]⟩:ByteArray) (⟨#[48]⟩:ByteArray) (⟨#[56]⟩:ByteArray) (⟨#[52]⟩:ByteArray) (⟨#[48]⟩:ByteArray) (⟨#[51]⟩:ByteArray) (⟨#[49]⟩:ByteArray) (⟨#[49]⟩:ByteArray) (⟨#[48]⟩:ByteArray) (⟨#[48]⟩:ByteArray) (⟨#[52]⟩:ByteArray) (⟨#[52]⟩:ByteArray) (⟨#[48]⟩:ByteArray) (⟨#[54]⟩:ByteArray) (⟨#[50]⟩:ByteArray) (⟨#[45,52]⟩:ByteArray) (⟨#[54]⟩:ByteArray) (⟨#[50]⟩:ByteArray) (⟨#[45,52]⟩:ByteArray) (⟨#[49]⟩:ByteArray) (⟨#[48]⟩:ByteArray) (⟨#[49]⟩:ByteArray) (⟨#[48]⟩:ByteArray) 0 0 0 0 0 0 0 0 0 0 0 ⟨by decide +kernel⟩ ⟨by decide +kernel⟩ ⟨by decide +kernel⟩ ⟨by decide +kernel⟩ ⟨by decide +kernel⟩ ⟨by decide +kernel⟩ ⟨by decide +kernel⟩ ⟨by decide +kernel⟩ ⟨by decide +kernel⟩ ⟨by decide +kernel⟩ ⟨by decide +kernel⟩ ⟨by decide +kernel⟩ ⟨by decide +kernel⟩ ⟨by decide +kernel⟩ ⟨by decide +kernel⟩ (by decide +kernel) ⟨by decide +kernel⟩ (by decide +kernel) ⟨by decide +kernel⟩ (by decide +kernel) ⟨by decide +kernel⟩ (by decide +kernel) ⟨by decide +kernel⟩ (by decide +kernel) ⟨by decide +kernel⟩ ⟨by decide +kernel⟩ ⟨by decide +kernel⟩ ⟨by decide +kernel⟩ ⟨by decide +kernel⟩ ⟨by decide +kernel⟩ ⟨by decide +kernel⟩ ⟨by decide +kernel⟩ ⟨by decide +kernel⟩ ⟨by decide +kernel⟩ ⟨by decide +kernel⟩ ⟨by decide +kernel⟩ (by decide +kernel) ⟨by decide +kernel⟩ (by decide +kernel) ⟨by decide +kernel⟩ (by decide +kernel) ⟨by decide +kernel⟩ (by decide +kernel) ⟨by decide +kernel⟩ (by decide +kernel) ⟨by decide +kernel⟩ ⟨by decide +kernel⟩ ⟨by decide +kernel⟩ ⟨by decide +kernel⟩ (by decide +kernel) (by decide +kernel) (by decide +kernel) (by decide +kernel) ⟨by decide +kernel⟩ ⟨by decide +kernel⟩ (by decide +kernel) w hG
theorem oU:fC.f=some true:=rfl
end Go.Proofs.YtignanmmgaldeaaGreatDoor
end
section
set_option linter.unusedVariables false
set_option linter.unusedSimpArgs false
namespace Go.Proofs.YtignanmmgaldeaaGreatDoor.PLawB
open Go.RowKit Go.Proofs.YtignanmmgaldeaaGreatDoorW.PrintWords Go.Proofs.YtignanmmgaldeaaGreatDoorW.PrintLast Go.Proofs.YtignanmmgaldeaaGreatDoorW.PrintMore
attribute [local go_sem] dQ dR eH eP
def errW:Option Int→Value
 |none=> .nilIface
 |some c=> .iface 0 (.int .i64 c)
theorem dZ:errW none= .nilIface:=rfl
theorem eF(c:Int):errW (some c)= .iface 0 (.int .i64 c):=rfl
structure S36 where
 f0:Bool
 f1:ByteArray
 f2:ByteArray
def z36:S36:=⟨false,(⟨#[]⟩:ByteArray),(⟨#[]⟩:ByteArray)⟩
def k36:Kd S36:=Kd.iso (Kd.pair Kd.bool (Kd.pair Kd.string Kd.string)) (fun x:S36=>(x.f0,x.f1,x.f2))
theorem k36_open{w:World}{x:S36}{cs:List Value}(h:k36.K w x cs):cs= [.bool x.f0,.string x.f1,.string x.f2]:=by
 obtain⟨_,_,rfl,rfl,⟨_,_,rfl,rfl,rfl⟩⟩:=h;exact rfl
def tX(xs:List S36)(i:Int):S36:=xs.getD i.toNat z36
theorem at_T36{w:World}{A:Option Addr}{n:Nat}{xs:List S36}(h:Kd.C k36 w A n xs)(i:Int)(h0:0≤i)(h1:i<n):∃ad,A=some ad∧w.cell? (ad.add (i.toNat*3))=some (.bool (tX xs i).f0)∧w.cell? ⟨(ad.add (i.toNat*3)).block,(ad.add (i.toNat*3)).off+1,none⟩=some (.string (tX xs i).f1)∧w.cell? ⟨(ad.add (i.toNat*3)).block,(ad.add (i.toNat*3)).off+2,none⟩=some (.string (tX xs i).f2):=by
 obtain⟨ad,c,e,_,hK,hc0⟩:=Kd.C_get h z36 i h0 h1;have hc:∀j u,c[j]? =some u→w.cell? (ad.add (i.toNat*3+j))=some u:=hc0
 obtain rfl:=k36_open hK;exact⟨ad,e,hc 0 _ rfl,by rw[←add_field _ _ 1 aFx];exact hc 1 _ rfl,by rw[←add_field _ _ 2 aFx];exact hc 2 _ rfl⟩
end Go.Proofs.YtignanmmgaldeaaGreatDoor.PLawB
end
section
set_option linter.unusedVariables false
set_option linter.unusedSimpArgs false
set_option maxHeartbeats 8000000
set_option maxRecDepth 100000
namespace Go.Proofs.YtignanmmgaldeaaGreatDoor.PLawB
open Go.RowKit Go.Proofs.YtignanmmgaldeaaGreatDoorW.PrintWords Go.Proofs.YtignanmmgaldeaaGreatDoorW.PrintLast Go.Proofs.YtignanmmgaldeaaGreatDoorW.PrintMore
attribute [local go_sem] dQ dR eH eP
def jH.f(a0:ByteArray):Option (Bool):=some (decide ((a0.size:Int)≤250))
theorem jH.calls(a0:ByteArray)(r:Bool)(w:World)(h:jH.f a0=some r) :
 Calls Tryz.prog 71 #[.string a0] w fun e w'=>e= .returned (.bool r)∧eQ w w':=by
 have H:(some (decide ((a0.size:Int)≤250)))=some r:=h;clear h;obtain rfl:=Option.some.inj H;go_enter Tryz.func71,Tryz.ntmps71
 go_wp2
 go_ret
 exact dr_
def nV.f(a0_0:Bool)(a0_1:ByteArray)(a0_2:ByteArray):Option (Bool):=(jH.f a0_1).bind fun t102=>(if t102=true then((jH.f a0_2).bind fun t103=>(some t103)) else(some false))
theorem nV.calls(o6:Bool)(l9:ByteArray)(o5:ByteArray)(r:Bool)(w:World)(h:nV.f o6 l9 o5=some r) :
 Calls Tryz.prog 97 #[.agg #[.bool o6,.string l9,.string o5]] w fun e w'=>e= .returned (.bool r)∧Below w.heap.size w w':=by
 have hu36:=Tryz.underlying36;have HB:=aA.mk (Below.refl w.heap.size w);have H:((jH.f l9).bind fun o7=>(if o7=true then((jH.f o5).bind fun o8=>(some o8)) else(some false)))=some r:=h;clear h;obtain⟨o7,A2,H⟩:=bi H;try dsimp only at H
 go_enter Tryz.func97,Tryz.ntmps97
 refine byC (P:=o7=true) (fun c3=> ?a1) (fun c3=> ?b1)
 case' a1=>
  subst c3;rw[if_pos rfl] at H;obtain⟨o8,A4,H⟩:=bi H;try dsimp only at H
  obtain rfl:=Option.some.inj H
 case' b1=>
  replace c3:=Bool.eq_false_iff.mpr c3;subst c3;rw[if_neg (show ¬(false=true) by decide)] at H;obtain rfl:=Option.some.inj H
 all_goals
  go_wp2_with(first|((with_reducible refine aG (N:=1) rfl ?_);refine bx_ 1 36 #[.bool o6,.string l9,.string o5] (h:= ?_);intro C9 hg w5 o9 hb;have y8:=aA.mk (o9);have y9:=pkG HB hg;have D5:=y9;replace HB:=pkB HB hb;clear hb o9 hg;obtain⟨⟨D6,D7,D8⟩,D9,E8,F5⟩:=pk3 y8)|((with_reducible refine aC (f:=71) rfl ?_);refine gl_ 5 Tryz.func71 #[.string l9] (h:= ?_);(with_reducible refine(jH.calls l9 _ _ A2.out).mono ?_);rintro e w' ⟨rfl,⟨nd,rfl⟩⟩;refine⟨_,rfl,?_⟩)|(go_at_call 71;(with_reducible refine(jH.calls o5 o8 _ A4.out).mono ?_);rintro e w' ⟨rfl,⟨nd,rfl⟩⟩))
  go_ret
  exact pkE HB
mutual
def gB.l0:Nat→List ByteArray→List (S36)→Int→Int→Option (Bool)
 |0,_,_,_,_=>none
 |k+1,x1,x9,x10,x11=>if x11<x10 then(if 0≤x11 then(if x11<(x9.length:Int) then((nV.f ((tX x9 x11).f0) ((tX x9 x11).f1) ((tX x9 x11).f2)).bind fun t106=>(if t106=true then(gB.l0 k x1 x9 x10 (wrap64 (x11+1))) else(some false))) else(none)) else(none)) else(gB.l1 k x1 (x1.length:Int) 0)
def gB.l1:Nat→List ByteArray→Int→Int→Option (Bool)
 |0,_,_,_=>none
 |k+1,x19,x20,x21=>if x21<x20 then(if 0≤x21 then(if x21<(x19.length:Int) then((jH.f (rdOf ByteArray.empty x19 x21)).bind fun t108=>(if t108=true then(gB.l1 k x19 x20 (wrap64 (x21+1))) else(some false))) else(none)) else(none)) else(some true)
end
def gB.f(k:Nat)(l0:List (S36))(l1:List ByteArray):Option (Bool):=gB.l0 k l1 l0 (l0.length:Int) 0
theorem gB.calls(k:Nat)(A0:Option Addr)(c0:Nat)(l0:List (S36))(A1:Option Addr)(c1:Nat)(l1:List ByteArray)(r:Bool)(w:World)(hr0:Kd.C k36 w A0 l0.length l0)(hc0:l0.length≤c0)(hr1:Kd.C Kd.string w A1 l1.length l1)(hc1:l1.length≤c1)(h:gB.f k l0 l1=some r) :
 Calls Tryz.prog 34 #[.slice A0 l0.length c0,.slice A1 l1.length c1] w fun e w'=>e= .returned (.bool r)∧Below w.heap.size w w':=by
 have hu36:=Tryz.underlying36;have D7:=aA.mk hr0;have G5:=aA.mk hc0;clear hr0 hc0;have D8:=aA.mk hr1;have G6:=aA.mk hc1;clear hr1 hc1;have HB:=aA.mk (Below.refl w.heap.size w);have H:(gB.l0 k l1 l0 (l0.length:Int) 0)=some r:=h;clear h;have H':=aA.mk H;clear H;go_enter Tryz.func34,Tryz.ntmps34
 go_wp2
 go_loopg [11] k (fun kq v11 w'=>∃(l9:Int),v11= .int .i64 l9∧aA (gB.l0 kq l1 l0 (l0.length:Int) l9=some r)∧aA (kq≤k)∧aA (Below w.heap.size w w'))
 case atStart=>exact⟨(0),aG1,H',⟨Nat.le_refl _⟩,⟨pkL HB⟩⟩
 case round=>
  clear H';obtain⟨l9,rfl,HA,o9,HB⟩:=hrel
  cases gk with
  |zero=>exact absurd HA.out (by simp[gB.l0])
  |succ k1=>
   have H:=HA.out;clear HA;simp only[gB.l0] at H
   by_cases c3:l9<(l0.length:Int)
   ·rw[if_pos c3] at H
    have D9:=decide_eq_true c3;clear c3
    by_cases c4:0≤l9
    ·rw[if_pos c4] at H
     have G7:=decide_eq_true c4;clear c4
     by_cases c5:l9<(l0.length:Int)
     ·rw[if_pos c5] at H
      have G8:=decide_eq_true c5;clear c5;obtain⟨F6,A6,H⟩:=bi H;try dsimp only at H
      by_cases c7:F6=true
      ·subst c7
       rw[if_pos rfl] at H;have H':=aA.mk H;clear H;have p104:0≤(l9:Int):=of_decide_eq_true asm_;have q104:l9<(l0.length:Int):=of_decide_eq_true asm_;obtain⟨ad104,e104,hx104_0,hx104_1,hx104_2⟩:=at_T36 D7.out l9 p104 q104
       cases e104
       replace hx104_0:=(HB.out.cell (World.block_lt_of_cell? w _ hx104_0)).trans hx104_0;replace hx104_1:=(HB.out.cell (World.block_lt_of_cell? w _ hx104_1)).trans hx104_1;replace hx104_2:=(HB.out.cell (World.block_lt_of_cell? w _ hx104_2)).trans hx104_2;replace p104:=eq_true p104;replace q104:=eq_true q104
       go_wp2_with(first|((with_reducible refine aG (N:=6) rfl ?_);refine bx_ 6 36 #[.bool false,.string (⟨#[]⟩:ByteArray),.string (⟨#[]⟩:ByteArray)] (h:= ?_);intro D5 hg w8 o8 hb;have o6:=aA.mk (o8);have D6:=pkG HB hg;have F7:=D6;replace HB:=pkB HB hb;clear hb o8 hg;obtain⟨⟨G9,H5,H6⟩,H7,H8,H9⟩:=pk3 o6)|((with_reducible refine aC (f:=97) rfl ?_);refine gM 16 Tryz.func97 (nV.calls (w:=_) (h:=A6.out)) (h:= ?_);intro I4 hb;replace o6:=aA.mk (iT (g:=D5) (o:= .cells #[.bool ((tX l0 l9).f0),.string ((tX l0 l9).f1),.string ((tX l0 l9).f2)] 36 (0,0)) (pkS3 o6) hb);replace HB:=pkB HB hb;try clear hb))
       go_roundg k1
       case measure=>have:=o9.out;omega
       case rel=>exact⟨(wrap64 (l9+1)),aG1,H',⟨by have:=o9.out;omega⟩,⟨pkL HB⟩⟩
      ·replace c7:=Bool.eq_false_iff.mpr c7
       subst c7;rw[if_neg (show ¬(false=true) by decide)] at H;obtain rfl:=Option.some.inj H;have p104:0≤(l9:Int):=of_decide_eq_true asm_;have q104:l9<(l0.length:Int):=of_decide_eq_true asm_;obtain⟨ad104,e104,hx104_0,hx104_1,hx104_2⟩:=at_T36 D7.out l9 p104 q104
       cases e104
       replace hx104_0:=(HB.out.cell (World.block_lt_of_cell? w _ hx104_0)).trans hx104_0;replace hx104_1:=(HB.out.cell (World.block_lt_of_cell? w _ hx104_1)).trans hx104_1;replace hx104_2:=(HB.out.cell (World.block_lt_of_cell? w _ hx104_2)).trans hx104_2;replace p104:=eq_true p104;replace q104:=eq_true q104
       go_wp2_with(first|((with_reducible refine aG (N:=6) rfl ?_);refine bx_ 6 36 #[.bool false,.string (⟨#[]⟩:ByteArray),.string (⟨#[]⟩:ByteArray)] (h:= ?_);intro D5 hg I5 o8 hb;have o6:=aA.mk (o8);have D6:=pkG HB hg;have F7:=D6;replace HB:=pkB HB hb;clear hb o8 hg;obtain⟨⟨I7,I8,I9⟩,J3,J4,J5⟩:=pk3 o6)|((with_reducible refine aC (f:=97) rfl ?_);refine gM 16 Tryz.func97 (nV.calls (w:=_) (h:=A6.out)) (h:= ?_);intro J6 hb;replace o6:=aA.mk (iT (g:=D5) (o:= .cells #[.bool ((tX l0 l9).f0),.string ((tX l0 l9).f1),.string ((tX l0 l9).f2)] 36 (0,0)) (pkS3 o6) hb);replace HB:=pkB HB hb;try clear hb))
       go_ret
       exact pkE HB
     ·rw[if_neg c5] at H
      exact absurd H aFz
    ·rw[if_neg c4] at H
     exact absurd H aFz
   ·rw[if_neg c3] at H
    have D9:=decide_eq_false c3;clear c3;have H':=aA.mk H;clear H;go_wp2
    go_loopg [21] k1 (fun kq v21 w'=>∃(o5:Int),v21= .int .i64 o5∧aA (gB.l1 kq l1 (l1.length:Int) o5=some r)∧aA (kq≤k1)∧aA (Below w.heap.size w w'))
    case atStart=>exact⟨(0),aG1,H',⟨Nat.le_refl _⟩,⟨pkL HB⟩⟩
    case round=>
     clear H' D9;obtain⟨o5,rfl,HA,E8,HB⟩:=hrel
     cases gk with
     |zero=>exact absurd HA.out (by simp[gB.l1])
     |succ k2=>
      have H:=HA.out;clear HA;simp only[gB.l1] at H
      by_cases o7:o5<(l1.length:Int)
      ·rw[if_pos o7] at H
       have F8:=decide_eq_true o7;clear o7
       by_cases y8:0≤o5
       ·rw[if_pos y8] at H
        have J7:=decide_eq_true y8;clear y8
        by_cases y9:o5<(l1.length:Int)
        ·rw[if_pos y9] at H
         have J8:=decide_eq_true y9;clear y9;obtain⟨F9,F5,H⟩:=bi H;try dsimp only at H
         by_cases C9:F9=true
         ·subst C9
          rw[if_pos rfl] at H;have H':=aA.mk H;clear H;have p107:0≤(o5:Int):=of_decide_eq_true asm_;have q107:o5<(l1.length:Int):=of_decide_eq_true asm_;obtain⟨ad107,e107,hx107_0⟩:=Kd.aAf D8.out o5 p107 q107
          cases e107
          replace hx107_0:=(HB.out.cell (World.block_lt_of_cell? w _ hx107_0)).trans hx107_0;replace p107:=eq_true p107;replace q107:=eq_true q107
          go_wp2_with(first|((with_reducible refine aC (f:=71) rfl ?_);refine gl_ 26 Tryz.func71 #[.string (rdOf ByteArray.empty l1 o5)] (h:= ?_);(with_reducible refine(jH.calls (rdOf ByteArray.empty l1 o5) true _ F5.out).mono ?_);rintro e w' ⟨rfl,⟨nd,rfl⟩⟩;refine⟨_,rfl,?_⟩))
          go_roundg k2
          case measure=>have:=o9.out;have:=E8.out;omega
          case rel=>exact⟨(wrap64 (o5+1)),aG1,H',⟨by have:=o9.out;have:=E8.out;omega⟩,⟨pkL HB⟩⟩
         ·replace C9:=Bool.eq_false_iff.mpr C9
          subst C9;rw[if_neg (show ¬(false=true) by decide)] at H;obtain rfl:=Option.some.inj H;have p107:0≤(o5:Int):=of_decide_eq_true asm_;have q107:o5<(l1.length:Int):=of_decide_eq_true asm_;obtain⟨ad107,e107,hx107_0⟩:=Kd.aAf D8.out o5 p107 q107
          cases e107
          replace hx107_0:=(HB.out.cell (World.block_lt_of_cell? w _ hx107_0)).trans hx107_0;replace p107:=eq_true p107;replace q107:=eq_true q107
          go_wp2_with(first|((with_reducible refine aC (f:=71) rfl ?_);refine gl_ 26 Tryz.func71 #[.string (rdOf ByteArray.empty l1 o5)] (h:= ?_);(with_reducible refine(jH.calls (rdOf ByteArray.empty l1 o5) false _ F5.out).mono ?_);rintro e w' ⟨rfl,⟨nd,rfl⟩⟩;refine⟨_,rfl,?_⟩))
          go_ret
          exact pkE HB
        ·rw[if_neg y9] at H
         exact absurd H aFz
       ·rw[if_neg y8] at H
        exact absurd H aFz
      ·rw[if_neg o7] at H
       have F8:=decide_eq_false o7;clear o7;obtain rfl:=Option.some.inj H;go_wp2
       go_ret
       exact pkE HB
end Go.Proofs.YtignanmmgaldeaaGreatDoor.PLawB
end
section
set_option linter.unusedVariables false
set_option linter.unusedSimpArgs false
namespace Go.Proofs.YtignanmmgaldeaaGreatDoor.LawC
open Go.RowKit Go.Proofs.YtignanmmgaldeaaGreatDoor Go.Proofs.YtignanmmgaldeaaGreatDoor.PLawB Go.Proofs.YtignanmmgaldeaaGreatDoor.RefP Go.Proofs.YtignanmmgaldeaaGreatDoor.PCongI Go.Proofs.YtignanmmgaldeaaGreatDoor.CongM Go.Proofs.YtignanmmgaldeaaGreatDoorW.PrintWords
def fewC(c:S36):Prop:=c.f1.size≤250∧c.f2.size≤250
instance (c:S36):Decidable (fewC c):=by unfold fewC;infer_instance
theorem reffew_val(c:S36):nV.f c.f0 c.f1 c.f2=some (decide (fewC c)):=by
 unfold nV.f jH.f fewC;rw[Option.bind_some]
 by_cases h1:c.f1.size≤250
 ·rw[if_pos (by simpa using(by omega:(c.f1.size:Int)≤250)),Option.bind_some]
  congr 1
  exact decide_eq_decide.2 ⟨fun h=>⟨h1,by omega⟩,fun h=>by omega⟩
 ·rw[if_neg (by simpa using(by omega:¬(c.f1.size:Int)≤250))]
  congr 1
  exact(decide_eq_false (fun h=>h1 h.1)).symm
theorem wr1{j:Nat}(h:j≤1000):wrap64 ((j:Int)+1)=((j+1:Nat):Int):=by
 rw[wrap_id ⟨by omega,by omega⟩];rfl
theorem rd36{L:List S36}{j:Nat}(h:j<L.length):tX L (j:Int)=L[j]:=by
 unfold tX;rw[Int.toNat_natCast,List.getD_eq_getElem?_getD,List.getElem?_eq_getElem h];rfl
theorem rdB{L:List ByteArray}{j:Nat}(h:j<L.length):rdOf ByteArray.empty L (j:Int)=L[j]:=by
 unfold rdOf;rw[Int.toNat_natCast,List.getD_eq_getElem?_getD,List.getElem?_eq_getElem h];rfl
theorem few_l1(I:List ByteArray)(hI:I.length≤1000):∀(n j k:Nat),j+n=I.length→n+1≤k→gB.l1 k I (I.length:Int) (j:Int)=some (decide (∀a∈I.drop j,a.size≤250))
 |0,j,k,h,hk=>by
  obtain⟨k,rfl⟩:∃q,k=q+1:=⟨k-1,by omega⟩
  unfold gB.l1;rw[if_neg aFx,List.drop_eq_nil_of_le aFx]
  simp
 |n+1,j,k,h,hk=>by
  obtain⟨k,rfl⟩:∃q,k=q+1:=⟨k-1,by omega⟩
  have hj:j<I.length:=by omega
  unfold gB.l1;rw[if_pos aFx,if_pos aFx,if_pos aFx,rdB hj];unfold jH.f;rw[Option.bind_some,List.drop_eq_getElem_cons hj]
  by_cases ha:I[j].size≤250
  ·rw[if_pos (by simpa using(by omega:(I[j].size:Int)≤250)),wr1 aFx,few_l1 I hI n (j+1) k aFx aFx]
   congr 1
   exact decide_eq_decide.2 (by rw[List.forall_mem_cons];simp only[ha,true_and])
  ·rw[if_neg (by simpa using(by omega:¬(I[j].size:Int)≤250))]
   congr 1
   exact(decide_eq_false (fun q=>ha (q _ (List.mem_cons_self)))).symm
theorem few_l0(L:List S36)(I:List ByteArray)(hL:L.length≤1000)(hI:I.length≤1000):∀(n j k:Nat),j+n=L.length→n+I.length+2≤k→gB.l0 k I L (L.length:Int) (j:Int)=some (decide ((∀c∈L.drop j,fewC c)∧∀a∈I,a.size≤250))
 |0,j,k,h,hk=>by
  obtain⟨k,rfl⟩:∃q,k=q+1:=⟨k-1,by omega⟩
  unfold gB.l0;have e:=few_l1 I hI I.length 0 k aFx aFx;rw[List.drop_zero] at e;rw[if_neg aFx,List.drop_eq_nil_of_le aFx,show(0:Int)=((0:Nat):Int) from rfl,e]
  congr 1
  exact decide_eq_decide.2 aFz
 |n+1,j,k,h,hk=>by
  obtain⟨k,rfl⟩:∃q,k=q+1:=⟨k-1,by omega⟩
  have hj:j<L.length:=by omega
  unfold gB.l0;rw[if_pos aFx,if_pos aFx,if_pos aFx,rd36 hj,reffew_val,Option.bind_some,List.drop_eq_getElem_cons hj]
  by_cases ha:fewC L[j]
  ·rw[if_pos (decide_eq_true ha),wr1 aFx,few_l0 L I hL hI n (j+1) k aFx aFx]
   congr 1
   exact decide_eq_decide.2 (by rw[List.forall_mem_cons];simp only[ha,true_and])
  ·rw[if_neg (by simpa using ha)]
   congr 1
   exact(decide_eq_false (fun q=>ha (q.1 _ (List.mem_cons_self)))).symm
def fewP(L:List S36)(I:List ByteArray):Prop:=(∀c∈L,fewC c)∧∀a∈I,a.size≤250
instance (L:List S36)(I:List ByteArray):Decidable (fewP L I):=by unfold fewP;infer_instance
theorem few_val(L:List S36)(I:List ByteArray)(k:Nat)(hk:L.length+I.length+2≤k)(hL:L.length≤1000)(hI:I.length≤1000):gB.f k L I=some (decide (fewP L I)):=by
 have e:=few_l0 L I hL hI L.length 0 k aFx hk;rw[List.drop_zero] at e;exact e
end Go.Proofs.YtignanmmgaldeaaGreatDoor.LawC
namespace Go.Proofs.YtignanmmgaldeaaGreatDoor
open Go.RowKit Go.Proofs.YtignanmmgaldeaaGreatDoor.PLawB Go.Proofs.YtignanmmgaldeaaGreatDoor.LawC Go.Proofs.YtignanmmgaldeaaGreatDoor.RefP Go.Proofs.YtignanmmgaldeaaGreatDoor.PCongI Go.Proofs.YtignanmmgaldeaaGreatDoor.CongM Go.Proofs.YtignanmmgaldeaaGreatDoorW.PrintWords
def jA.f(L:List S36)(I:List ByteArray):Option Bool:=if L.length≤8∧I.length≤8 then some (decide (fewP L I)) else none
theorem jA.calls(A0:Option Addr)(c0:Nat)(l0:List (S36))(A1:Option Addr)(c1:Nat)(l1:List ByteArray)(r:Bool)(w:World)(hr0:Kd.C k36 w A0 l0.length l0)(hc0:l0.length≤c0)(hr1:Kd.C Kd.string w A1 l1.length l1)(hc1:l1.length≤c1)(h:jA.f l0 l1=some r) :
 Calls Tryz.prog 34 #[.slice A0 l0.length c0,.slice A1 l1.length c1] w fun e w'=>e= .returned (.bool r)∧Below w.heap.size w w':=by
 unfold jA.f at h
 by_cases hz:l0.length≤8∧l1.length≤8
 ·rw[if_pos hz] at h
  exact gB.calls 40 A0 c0 l0 A1 c1 l1 r w hr0 hc0 hr1 hc1 (by rw[few_val l0 l1 40 aFx aFx aFx];exact h)
 ·rw[if_neg hz] at h;cases h
end Go.Proofs.YtignanmmgaldeaaGreatDoor
end
section
set_option linter.unusedVariables false
set_option linter.unusedSimpArgs false
namespace Go.Proofs.YtignanmmgaldeaaGreatDoor.PRefQ
open Go.RowKit Go.Proofs.YtignanmmgaldeaaGreatDoorW.PrintWords Go.Proofs.YtignanmmgaldeaaGreatDoorW.PrintLast Go.Proofs.YtignanmmgaldeaaGreatDoorW.PrintMore
attribute [local go_sem] dQ dR eH eP
def errW:Option Int→Value
 |none=> .nilIface
 |some c=> .iface 0 (.int .i64 c)
theorem dZ:errW none= .nilIface:=rfl
theorem eF(c:Int):errW (some c)= .iface 0 (.int .i64 c):=rfl
end Go.Proofs.YtignanmmgaldeaaGreatDoor.PRefQ
end
section
set_option linter.unusedVariables false
set_option linter.unusedSimpArgs false
set_option maxHeartbeats 8000000
set_option maxRecDepth 100000
namespace Go.Proofs.YtignanmmgaldeaaGreatDoor.PRefQ
open Go.RowKit Go.Proofs.YtignanmmgaldeaaGreatDoorW.PrintWords Go.Proofs.YtignanmmgaldeaaGreatDoorW.PrintLast Go.Proofs.YtignanmmgaldeaaGreatDoorW.PrintMore
attribute [local go_sem] dQ dR eH eP
def kU.f:Option (Bool×ByteArray×ByteArray):=some (false,(⟨#[49]⟩:ByteArray),(⟨#[48]⟩:ByteArray))
theorem kU.calls(r1:Bool)(r2:ByteArray)(r3:ByteArray)(w:World)(h:kU.f=some (r1,r2,r3)) :
 Calls Tryz.prog 181 #[] w fun e w'=>e= .returned (.agg #[.bool r1,.string r2,.string r3])∧Below w.heap.size w w':=by
 have hu36:=Tryz.underlying36;have HB:=aA.mk (Below.refl w.heap.size w);have H:(some (false,(⟨#[49]⟩:ByteArray),(⟨#[48]⟩:ByteArray)))=some (r1,r2,r3):=h;clear h;simp only[Option.some.injEq,Prod.mk.injEq] at H;obtain⟨rfl,rfl,rfl⟩:=H;go_enter Tryz.func181,Tryz.ntmps181
 go_wp2_with(first|((with_reducible refine aG (N:=0) rfl ?_);refine bx_ 0 36 #[.bool false,.string (⟨#[]⟩:ByteArray),.string (⟨#[]⟩:ByteArray)] (h:= ?_);intro o6 hg w1 l9 hb;have o5:=aA.mk (l9);have o7:=pkG HB hg;have o8:=o7;replace HB:=pkB HB hb;clear hb l9 hg;obtain⟨⟨o9,y8,y9⟩,C9,D5,D6⟩:=pk3 o5))
 refine bodyPost_ret (results_cell_row rfl _ _ o6 36 #[.bool false,.string (⟨#[49]⟩:ByteArray),.string (⟨#[48]⟩:ByteArray)] (0,0) _ rfl (pkS3 o5) Tryz.underlying36 rfl (by kernel_rfl)) rfl ?_;exact pkE HB
def bJ.j0:Nat→Bool→ByteArray→ByteArray→Option (Bool×ByteArray×ByteArray)
 |0,_,_,_=>none
 |k+1,x105000,x105001,x105002=>(iW.f x105001).bind fun t106=>(if t106>100 then((kU.f).bind fun bt107=>(some (bt107.1,bt107.2.1,bt107.2.2))) else((iW.f x105002).bind fun t110=>(if t110>100 then((kU.f).bind fun bt111=>(some (bt111.1,bt111.2.1,bt111.2.2))) else(some (x105000,x105001,x105002)))))
def bJ.f(k:Nat)(a0:ByteArray)(a1:ByteArray):Option (Bool×ByteArray×ByteArray):=(pV.f a0).bind fun t103=>(if a0.toList=([48]:List UInt8) then(bJ.j0 k false t103 a1) else((lT.f a1 t103).bind fun t105=>(bJ.j0 k false t103 t105)))
theorem bJ.calls(k:Nat)(a0:ByteArray)(a1:ByteArray)(r1:Bool)(r2:ByteArray)(r3:ByteArray)(w:World)(h:bJ.f k a0 a1=some (r1,r2,r3)) :
 Calls Tryz.prog 127 #[.string a0,.string a1] w fun e w'=>e= .returned (.agg #[.bool r1,.string r2,.string r3])∧Below w.heap.size w w':=by
 have hu36:=Tryz.underlying36;have HB:=aA.mk (Below.refl w.heap.size w);have H:((pV.f a0).bind fun o6=>(if a0.toList=([48]:List UInt8) then(bJ.j0 k false o6 a1) else((lT.f a1 o6).bind fun E8=>(bJ.j0 k false o6 E8))))=some (r1,r2,r3):=h;clear h;obtain⟨o6,A3,H⟩:=bi H;try dsimp only at H
 have F5:=aA.mk H;clear H;go_enter Tryz.func127,Tryz.ntmps127
 go_upto_if 11 with (first|((with_reducible refine aG (N:=4) rfl ?_);refine bx_ 4 36 #[.bool false,.string (⟨#[]⟩:ByteArray),.string (⟨#[]⟩:ByteArray)] (h:= ?_);intro o8 hg w5 D6 hb;have l9:=aA.mk (D6);have F8:=pkG HB hg;have O3:=F8;replace HB:=pkB HB hb;clear hb D6 hg)|((with_reducible refine aC (f:=92) rfl ?_);refine gl_ 7 Tryz.func92 #[.string a0] (h:= ?_);(with_reducible refine(pV.calls a0 o6 _ A3.out).mono ?_);rintro e w' ⟨rfl,⟨nd,rfl⟩⟩;refine⟨_,rfl,?_⟩;(try(rw[jS w5];generalize hq_:World.drewN w5 _=w5;have n0_:aA (w5.heap[o8]? =some (.cells #[.bool false,.string (⟨#[]⟩:ByteArray),.string (⟨#[]⟩:ByteArray)] 36 (0,0))):=⟨by rw[←hq_];exact(pkW l9)⟩;have n1_:aA (Below w.heap.size w w5):=⟨by rw[←hq_];exact(pkL HB)⟩;clear l9 HB hq_;have l9:=n0_;have HB:=n1_;clear n0_ n1_)))|((with_reducible refine aG (N:=5) rfl ?_);refine bx_ 5 36 #[.bool false,.string (⟨#[]⟩:ByteArray),.string (⟨#[]⟩:ByteArray)] (h:= ?_);intro y8 hg w6 D6 hb;have o5:=aA.mk (D6);have F9:=pkG HB hg;have O4:=F9;obtain⟨o9,D8,O5,O6⟩:=pkQ l9 hg;replace l9:=pkK l9 hb;replace HB:=pkB HB hb;clear hb D6 hg;obtain⟨⟨G5,G6,G7⟩,G8,G9,H5⟩:=pk3 o5))
 (try simp only[Act.put,List.setIfInBounds_toArray,List.set_cons_zero,List.set_cons_succ])
 go_cut [] (fun wc=>∃(kq:Nat) (o7:ByteArray),aA (bJ.j0 kq false o6 o7=some (r1,r2,r3))∧aA (kq≤k)∧aA (wc.heap[o8]? =some (.cells #[.bool false,.string (⟨#[]⟩:ByteArray),.string (⟨#[]⟩:ByteArray)] 36 (0,0)))∧aA (wc.heap[y8]? =some (.cells #[.bool false,.string o6,.string o7] 36 (0,0)))∧aA (Below w.heap.size w wc))
 case first=>
  have H:=F5.out;clear F5
  by_cases c9:a0.toList=([48]:List UInt8)
  ·rw[if_pos c9] at H
   obtain⟨D7,H6⟩:=bT c9;clear c9
   (first|rw[D7]|(simp only[jM,jX];rw[D7])|skip)
   have H':=aA.mk H;clear H;go_wp2
   go_meet
   case rel=>exact⟨_,(a1),H',le_,⟨by(with_reducible repeat(first|refine bH ?_ _|refine aK ?_|refine bG ?_ _));refine gX ?_ o9.out _;(with_reducible repeat(first|refine bH ?_ _|refine aK ?_|refine bG ?_ _));refine gX ?_ o9.out _;(with_reducible repeat(first|refine bH ?_ _|refine aK ?_|refine bG ?_ _));refine gX ?_ o9.out _;(with_reducible repeat(first|refine bH ?_ _|refine aK ?_|refine bG ?_ _));exact l9.out⟩,⟨by(with_reducible repeat(first|refine bH ?_ _|refine aK ?_|refine bG ?_ _));refine iR (cs:=#[.bool false,.string o6,.string (⟨#[]⟩:ByteArray)]) ?_ 2 _ rfl;(with_reducible repeat(first|refine bH ?_ _|refine aK ?_|refine bG ?_ _));refine iR (cs:=#[.bool false,.string (⟨#[]⟩:ByteArray),.string (⟨#[]⟩:ByteArray)]) ?_ 1 _ rfl;(with_reducible repeat(first|refine bH ?_ _|refine aK ?_|refine bG ?_ _));refine iR (cs:=#[.bool false,.string (⟨#[]⟩:ByteArray),.string (⟨#[]⟩:ByteArray)]) ?_ 0 _ rfl;(with_reducible repeat(first|refine bH ?_ _|refine aK ?_|refine bG ?_ _));exact o5.out⟩,⟨pkL HB⟩⟩
  ·rw[if_neg c9] at H
   obtain⟨D7,H6⟩:=bF c9
   (first|rw[D7]|(simp only[jM,jX];rw[D7])|skip)
   obtain⟨E8,H7,H⟩:=bi H;try dsimp only at H
   have H':=aA.mk H;clear H;have O7:=D8.out;have O8:=o9.out;obtain⟨⟨O9,P7,P8⟩,P9,Q3,Q4⟩:=pk3 o5
   go_wp2_with(first|((with_reducible refine aC (f:=78) rfl ?_);refine gM 15 Tryz.func78 (lT.calls (w:=_) (h:=H7.out)) (h:= ?_);intro Q5 hb;replace l9:=pkF l9 hb;replace o5:=aA.mk (iT (g:=y8) (o:= .cells #[.bool false,.string o6,.string a1] 36 (0,0)) (pkS3 o5) hb);replace HB:=pkB HB hb;try clear hb;obtain⟨⟨Q7,Q8,Q9⟩,S9,U3,U4⟩:=pk3 o5))
   go_meet
   case rel=>exact⟨_,(E8),H',le_,⟨by(with_reducible repeat(first|refine bH ?_ _|refine aK ?_|refine bG ?_ _));refine gX ?_ o9.out _;(with_reducible repeat(first|refine bH ?_ _|refine aK ?_|refine bG ?_ _));exact l9.out⟩,⟨by(with_reducible repeat(first|refine bH ?_ _|refine aK ?_|refine bG ?_ _));refine iR (cs:=#[.bool false,.string o6,.string a1]) ?_ 2 _ rfl;(with_reducible repeat(first|refine bH ?_ _|refine aK ?_|refine bG ?_ _));exact o5.out⟩,⟨pkL HB⟩⟩
 case rest=>
  clear F5 G5 G6 G7 G8 G9 H5;obtain⟨kq,o7,HA,U5,l9,o5,HB⟩:=hcut
  cases kq with
  |zero=>exact absurd HA.out (by simp[bJ.j0])
  |succ kj3=>
   have H:=HA.out;clear HA;simp only[bJ.j0] at H;obtain⟨D9,y9,H⟩:=bi H;try dsimp only at H
   by_cases C9:D9>100
   ·rw[if_pos C9] at H
    have H8:=decide_eq_true C9;clear C9;obtain⟨⟨H9,I4,I5⟩,I7,H⟩:=bi H;try dsimp only at H
    simp only[Option.some.injEq,Prod.mk.injEq] at H;obtain⟨rfl,rfl,rfl⟩:=H;have U6:=D8.out;have U7:=o9.out;obtain⟨⟨U8,U9,V3⟩,V4,V5,V6⟩:=pk3 o5
    go_wp2_with(first|((with_reducible refine aC (f:=149) rfl ?_);refine gl_ 19 Tryz.func149 #[.string o6] (h:= ?_);(with_reducible refine(iW.calls o6 D9 _ y9.out).mono ?_);rintro e w' ⟨rfl,⟨nd,rfl⟩⟩;refine⟨_,rfl,?_⟩;(try(rw[jS wc];generalize hq_:World.drewN wc _=wc;have n0_:aA (wc.heap[o8]? =some (.cells #[.bool false,.string (⟨#[]⟩:ByteArray),.string (⟨#[]⟩:ByteArray)] 36 (0,0))):=⟨by rw[←hq_];exact(pkW l9)⟩;have n1_:aA (wc.heap[y8]? =some (.cells #[.bool false,.string o6,.string o7] 36 (0,0))):=⟨by rw[←hq_];exact(pkW o5)⟩;have n2_:aA (Below w.heap.size w wc):=⟨by rw[←hq_];exact(pkL HB)⟩;clear l9 o5 HB hq_;have l9:=n0_;have o5:=n1_;have HB:=n2_;clear n0_ n1_ n2_)))|((with_reducible refine aC (f:=181) rfl ?_);refine gM 27 Tryz.func181 (kU.calls (w:=_) (h:=I7.out)) (h:= ?_);intro V7 hb;replace l9:=pkK l9 hb;replace o5:=pkK o5 hb;replace HB:=pkB HB hb;try clear hb;obtain⟨⟨V8,V9,X4⟩,X5,X7,X8⟩:=pk3 l9))
    refine bodyPost_ret (results_cell_row rfl _ _ o8 36 #[.bool H9,.string I4,.string I5] (0,0) _ rfl (pkS3 l9) Tryz.underlying36 rfl (by kernel_rfl)) rfl ?_;exact pkE HB
   ·rw[if_neg C9] at H
    have H8:=decide_eq_false C9;clear C9;obtain⟨F6,F7,H⟩:=bi H;try dsimp only at H
    by_cases D5:F6>100
    ·rw[if_pos D5] at H
     have I8:=decide_eq_true D5;clear D5;obtain⟨⟨I9,J3,J4⟩,J5,H⟩:=bi H;try dsimp only at H
     simp only[Option.some.injEq,Prod.mk.injEq] at H;obtain⟨rfl,rfl,rfl⟩:=H;have X9:=D8.out;have Y0:=o9.out;obtain⟨⟨Y4,Y5,Y7⟩,Y8,Y9,Z7⟩:=pk3 o5
     go_wp2_with(first|(have q_:=y9;(with_reducible refine aC (f:=149) rfl ?_);refine gl_ 19 Tryz.func149 #[.string o6] (h:= ?_);(with_reducible refine(iW.calls o6 D9 _ y9.out).mono ?_);rintro e w' ⟨rfl,⟨nd,rfl⟩⟩;refine⟨_,rfl,?_⟩;(try(rw[jS wc];generalize hq_:World.drewN wc _=wc;have n0_:aA (wc.heap[o8]? =some (.cells #[.bool false,.string (⟨#[]⟩:ByteArray),.string (⟨#[]⟩:ByteArray)] 36 (0,0))):=⟨by rw[←hq_];exact(pkW l9)⟩;have n1_:aA (wc.heap[y8]? =some (.cells #[.bool false,.string o6,.string o7] 36 (0,0))):=⟨by rw[←hq_];exact(pkW o5)⟩;have n2_:aA (Below w.heap.size w wc):=⟨by rw[←hq_];exact(pkL HB)⟩;clear l9 o5 HB hq_;have l9:=n0_;have o5:=n1_;have HB:=n2_;clear n0_ n1_ n2_));clear y9 q_;obtain⟨⟨J6,J7,J8⟩,J9,L6,L8⟩:=pk3 o5)|(go_at_call 149;(with_reducible refine(iW.calls o7 F6 _ F7.out).mono ?_);rintro e w' ⟨rfl,⟨nd,rfl⟩⟩;(try(rw[jS wc];generalize hq_:World.drewN wc _=wc;have n0_:aA (wc.heap[o8]? =some (.cells #[.bool false,.string (⟨#[]⟩:ByteArray),.string (⟨#[]⟩:ByteArray)] 36 (0,0))):=⟨by rw[←hq_];exact(pkW l9)⟩;have n1_:aA (wc.heap[y8]? =some (.cells #[.bool false,.string o6,.string o7] 36 (0,0))):=⟨by rw[←hq_];exact(pkW o5)⟩;have n2_:aA (Below w.heap.size w wc):=⟨by rw[←hq_];exact(pkL HB)⟩;clear l9 o5 HB hq_;have l9:=n0_;have o5:=n1_;have HB:=n2_;clear n0_ n1_ n2_)))|((with_reducible refine aC (f:=181) rfl ?_);refine gM 27 Tryz.func181 (kU.calls (w:=_) (h:=J5.out)) (h:= ?_);intro Z8 hb;replace l9:=pkK l9 hb;replace o5:=pkK o5 hb;replace HB:=pkB HB hb;try clear hb;obtain⟨⟨Z9,ae,af⟩,ag,ah,ai⟩:=pk3 l9;obtain⟨⟨L9,N7,N8⟩,N9,O0,O1⟩:=pk3 o5))
     refine bodyPost_ret (results_cell_row rfl _ _ o8 36 #[.bool I9,.string J3,.string J4] (0,0) _ rfl (pkS3 l9) Tryz.underlying36 rfl (by kernel_rfl)) rfl ?_;exact pkE HB
    ·rw[if_neg D5] at H
     have I8:=decide_eq_false D5;clear D5;simp only[Option.some.injEq,Prod.mk.injEq] at H;obtain⟨rfl,rfl,rfl⟩:=H;have aj:=D8.out;have ak:=o9.out;obtain⟨⟨au,ax,ay⟩,az,bn,df⟩:=pk3 o5
     go_wp2_with(first|(have q_:=y9;(with_reducible refine aC (f:=149) rfl ?_);refine gl_ 19 Tryz.func149 #[.string o6] (h:= ?_);(with_reducible refine(iW.calls o6 D9 _ y9.out).mono ?_);rintro e w' ⟨rfl,⟨nd,rfl⟩⟩;refine⟨_,rfl,?_⟩;(try(rw[jS wc];generalize hq_:World.drewN wc _=wc;have n0_:aA (wc.heap[o8]? =some (.cells #[.bool false,.string (⟨#[]⟩:ByteArray),.string (⟨#[]⟩:ByteArray)] 36 (0,0))):=⟨by rw[←hq_];exact(pkW l9)⟩;have n1_:aA (wc.heap[y8]? =some (.cells #[.bool false,.string o6,.string o7] 36 (0,0))):=⟨by rw[←hq_];exact(pkW o5)⟩;have n2_:aA (Below w.heap.size w wc):=⟨by rw[←hq_];exact(pkL HB)⟩;clear l9 o5 HB hq_;have l9:=n0_;have o5:=n1_;have HB:=n2_;clear n0_ n1_ n2_));clear y9 q_;obtain⟨⟨J6,J7,J8⟩,J9,L6,L8⟩:=pk3 o5)|(go_at_call 149;(with_reducible refine(iW.calls o7 F6 _ F7.out).mono ?_);rintro e w' ⟨rfl,⟨nd,rfl⟩⟩;(try(rw[jS wc];generalize hq_:World.drewN wc _=wc;have n0_:aA (wc.heap[o8]? =some (.cells #[.bool false,.string (⟨#[]⟩:ByteArray),.string (⟨#[]⟩:ByteArray)] 36 (0,0))):=⟨by rw[←hq_];exact(pkW l9)⟩;have n1_:aA (wc.heap[y8]? =some (.cells #[.bool false,.string o6,.string o7] 36 (0,0))):=⟨by rw[←hq_];exact(pkW o5)⟩;have n2_:aA (Below w.heap.size w wc):=⟨by rw[←hq_];exact(pkL HB)⟩;clear l9 o5 HB hq_;have l9:=n0_;have o5:=n1_;have HB:=n2_;clear n0_ n1_ n2_));obtain⟨⟨dh,di,dw⟩,eu,gm,gp⟩:=pk3 l9;obtain⟨⟨L9,N7,N8⟩,N9,O0,O1⟩:=pk3 o5))
     refine bodyPost_ret (results_cell_row rfl _ _ o8 36 #[.bool false,.string o6,.string o7] (0,0) _ rfl (pkS3 l9) Tryz.underlying36 rfl (by kernel_rfl)) rfl ?_;exact pkE HB
end Go.Proofs.YtignanmmgaldeaaGreatDoor.PRefQ
end
section
set_option linter.unusedVariables false
set_option linter.unusedSimpArgs false
namespace Go.Proofs.YtignanmmgaldeaaGreatDoor.RefV
open Go.RowKit Go.Proofs.YtignanmmgaldeaaGreatDoor Go.Proofs.YtignanmmgaldeaaGreatDoor.PRefQ Go.Proofs.YtignanmmgaldeaaGreatDoor.RefP Go.Proofs.YtignanmmgaldeaaGreatDoor.CongM Go.Proofs.YtignanmmgaldeaaGreatDoorW.PrintWords
theorem top_rv:kU.f=some (encC (some topC)):=by
 have t1:encC (some topC)=(false,⟨#[49]⟩,⟨#[48]⟩):=by decide +kernel
 rw[t1];rfl
theorem dg100(z:Int):((Lib.decDigits z.natAbs).length:Int)>100↔¬z.natAbs<10 ^ 100:=
 ⟨fun h q=>by have:=kK (show Bd 100 z from q) aFx;omega,fun h=>by
   have:=Nat.lt_of_not_le (fun q=>h (nJ _ _ q):¬(Lib.decDigits z.natAbs).length≤100)
   omega⟩
theorem qZ{m r:Int}{n:Nat}(hm:Bd n m)(hr:Bd n r)(hn:1≤n)(h4:n≤4400)(k:Nat):bJ.f (k+1) (text m) (text r)=some (encC (some (cls 100 m r))):=by
 have hA:Bd n (m.natAbs:Int):=by unfold Bd at *;simpa using hm
 have fin:∀{R:Int},Bd n R→R=r%(m.natAbs:Int)→bJ.j0 (k+1) false (text (m.natAbs:Int)) (text R)=some (encC (some (cls 100 m r))):=fun {R} hR e=>by
  rw[bJ.j0,aDo hA hn aFx,Option.bind_some,top_rv,aDo hR hn aFx];have d1:=dg100 (m.natAbs:Int);have d2:=dg100 R;have hc:cls 100 m r=if m.natAbs<10 ^ 100∧R.natAbs<10 ^ 100 then((m.natAbs:Int),R) else topC:=by unfold cls;rw[e];rfl
  rw[Int.natAbs_natCast] at d1;rw[Int.natAbs_natCast,hc];generalize hP:(10:Nat) ^ 100=P at *
  by_cases h1:m.natAbs<P
  ·rw[if_neg (fun q=>d1.1 q h1),Option.bind_some]
   by_cases h2:R.natAbs<P
   ·rw[if_neg (fun q=>d2.1 q h2),if_pos ⟨h1,h2⟩];rfl
   ·rw[if_pos (d2.2 h2),if_neg (fun q=>h2 q.2),Option.bind_some]
  ·rw[if_pos (d1.2 h1),if_neg (fun q=>h1 q.1),Option.bind_some]
 unfold bJ.f;rw[magnitude_val hm hn aFx,Option.bind_some]
 by_cases h0:m=0
 ·have hz:(m.natAbs:Int)=0:=by omega
  rw[if_pos ((bK _).2 h0)];exact fin hr (by rw[hz,Int.emod_zero])
 ·have hne:(m.natAbs:Int)≠0:=by omega
  have hf:Int.fmod r (m.natAbs:Int)=r%(m.natAbs:Int):=Int.fmod_eq_emod_of_nonneg _ aFx;rw[if_neg (fun q=>h0 ((bK _).1 q)),aB8 hr hA hn h4 hne,Option.bind_some,hf];exact fin (by rw[←hf];exact hA.fmod hne) rfl
end Go.Proofs.YtignanmmgaldeaaGreatDoor.RefV
end
section
set_option linter.unusedVariables false
set_option linter.unusedSimpArgs false
namespace Go.Proofs.YtignanmmgaldeaaGreatDoor.PCongN
open Go.RowKit Go.Proofs.YtignanmmgaldeaaGreatDoorW.PrintWords Go.Proofs.YtignanmmgaldeaaGreatDoorW.PrintLast Go.Proofs.YtignanmmgaldeaaGreatDoorW.PrintMore
attribute [local go_sem] dQ dR eH eP
def errW:Option Int→Value
 |none=> .nilIface
 |some c=> .iface 0 (.int .i64 c)
theorem dZ:errW none= .nilIface:=rfl
theorem eF(c:Int):errW (some c)= .iface 0 (.int .i64 c):=rfl
end Go.Proofs.YtignanmmgaldeaaGreatDoor.PCongN
end
section
set_option linter.unusedVariables false
set_option linter.unusedSimpArgs false
set_option maxHeartbeats 8000000
set_option maxRecDepth 100000
namespace Go.Proofs.YtignanmmgaldeaaGreatDoor.PCongN
open Go.RowKit Go.Proofs.YtignanmmgaldeaaGreatDoorW.PrintWords Go.Proofs.YtignanmmgaldeaaGreatDoorW.PrintLast Go.Proofs.YtignanmmgaldeaaGreatDoorW.PrintMore
attribute [local go_sem] dQ dR eH eP
def fG.f(a0:ByteArray):Option (Bool×ByteArray×ByteArray):=some (false,(⟨#[48]⟩:ByteArray),a0)
theorem fG.calls(a0:ByteArray)(r1:Bool)(r2:ByteArray)(r3:ByteArray)(w:World)(h:fG.f a0=some (r1,r2,r3)) :
 Calls Tryz.prog 116 #[.string a0] w fun e w'=>e= .returned (.agg #[.bool r1,.string r2,.string r3])∧Below w.heap.size w w':=by
 have hu36:=Tryz.underlying36;have HB:=aA.mk (Below.refl w.heap.size w);have H:(some (false,(⟨#[48]⟩:ByteArray),a0))=some (r1,r2,r3):=h;clear h;simp only[Option.some.injEq,Prod.mk.injEq] at H;obtain⟨rfl,rfl,rfl⟩:=H;go_enter Tryz.func116,Tryz.ntmps116
 go_wp2_with(first|((with_reducible refine aG (N:=2) rfl ?_);refine bx_ 2 36 #[.bool false,.string (⟨#[]⟩:ByteArray),.string (⟨#[]⟩:ByteArray)] (h:= ?_);intro o6 hg w2 l9 hb;have o5:=aA.mk (l9);have o7:=pkG HB hg;have o8:=o7;replace HB:=pkB HB hb;clear hb l9 hg;obtain⟨⟨o9,y8,y9⟩,C9,D5,D6⟩:=pk3 o5))
 refine bodyPost_ret (results_cell_row rfl _ _ o6 36 #[.bool false,.string (⟨#[48]⟩:ByteArray),.string a0] (0,0) _ rfl (pkS3 o5) Tryz.underlying36 rfl (by kernel_rfl)) rfl ?_;exact pkE HB
end Go.Proofs.YtignanmmgaldeaaGreatDoor.PCongN
end
