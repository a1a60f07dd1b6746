/- Lemmas for the proof. -/
import Derived.Test.YtignanmmgaldeaaGreatDoorYI
section
set_option linter.unusedVariables false
set_option linter.unusedSimpArgs false
set_option maxHeartbeats 8000000
set_option maxRecDepth 100000
namespace Go.Proofs.YtignanmmgaldeaaGreatDoor.PCongI
open Go.RowKit Go.Proofs.YtignanmmgaldeaaGreatDoorW.PrintWords Go.Proofs.YtignanmmgaldeaaGreatDoorW.PrintLast Go.Proofs.YtignanmmgaldeaaGreatDoorW.PrintMore
attribute [local go_sem] gI gJ iE iF
attribute [local go_sem high] eqA36
def dK.j0:Nat→Bool→Bool→ByteArray→ByteArray→Bool→ByteArray→ByteArray→Option (Bool×ByteArray×ByteArray)
 |0,_,_,_,_,_,_,_=>none
 |k+1,x10,x250000,x250001,x250002,x251000,x251001,x251002=>if x10=true then((fC.f x250002 x251002).bind fun bt259=>((eQ.f bt259.1 bt259.2).bind fun t261=>((bI.f k (⟨#[48]⟩:ByteArray) t261).bind fun bt262=>(some (bt262.1,bt262.2.1,bt262.2.2))))) else((dO.f x251001 x251002).bind fun t265=>((dO.f x250001 t265).bind fun t266=>((bI.f k t266 x250002).bind fun bt267=>(some (bt267.1,bt267.2.1,bt267.2.2)))))
def dK.f(k:Nat)(a0_0:Bool)(a0_1:ByteArray)(a0_2:ByteArray)(a1_0:Bool)(a1_1:ByteArray)(a1_2:ByteArray):Option (Bool×ByteArray×ByteArray):=(dB.f (⟨#[48]⟩:ByteArray)).bind fun bt252=>(if(a1_0==bt252.1&&(a1_1.toList==bt252.2.1.toList&&(a1_2.toList==bt252.2.2.toList)))=true then((iY.f).bind fun bt255=>(some (bt255.1,bt255.2.1,bt255.2.2))) else(if a1_1.toList=([48]:List UInt8) then((eG.f a1_2 a0_1).bind fun t258=>(dK.j0 k t258 a0_0 a0_1 a0_2 a1_0 a1_1 a1_2)) else(dK.j0 k false a0_0 a0_1 a0_2 a1_0 a1_1 a1_2)))
def dK.T5:Bool×List (List Nat×List Nat):=(true,[([],[]),([0],[0]),([],[]),([2],[2]),([],[]),([4],[4]),([3,5],[3,5]),([1,6,6],[1,6]),([],[]),([8],[8]),([7,9,7],[7,9]),([10,10,0,1,2,3,4,5,6,7,8,9,10],[10])])
def dK.B5:List Nat:= [0,1,0,4,0,16,60,127,0,256,1023,2047]
theorem dK.tab5:rtab .any (opsOf Tryz.f104 5)=dK.T5:=by kernel_rfl
theorem dK.bits5:kV dK.T5.2 dK.B5=true:=by kernel_rfl
theorem dK.calls(k:Nat)(a0_0:Bool)(a0_1:ByteArray)(a0_2:ByteArray)(a1_0:Bool)(a1_1:ByteArray)(a1_2:ByteArray)(r1:Bool)(r2:ByteArray)(r3:ByteArray)(w:World)(hG:GW w)(h:dK.f k a0_0 a0_1 a0_2 a1_0 a1_1 a1_2=some (r1,r2,r3)) :
 Calls Tryz.prog 104 #[.agg #[.bool a0_0,.string a0_1,.string a0_2],.agg #[.bool a1_0,.string a1_1,.string a1_2]] w fun e w'=>e= .returned (.agg #[.bool r1,.string r2,.string r3])∧Below w.heap.size w w':=by
 have HG:=aA.mk hG;clear hG;have hu36:=Tryz.underlying36;have HB:=aA.mk (Below.refl w.heap.size w);have H:((dB.f (⟨#[48]⟩:ByteArray)).bind fun bt252=>(if(a1_0==bt252.1&&(a1_1.toList==bt252.2.1.toList&&(a1_2.toList==bt252.2.2.toList)))=true then((iY.f).bind fun bt255=>(some (bt255.1,bt255.2.1,bt255.2.2))) else(if a1_1.toList=([48]:List UInt8) then((eG.f a1_2 a0_1).bind fun t258=>(dK.j0 k t258 a0_0 a0_1 a0_2 a1_0 a1_1 a1_2)) else(dK.j0 k false a0_0 a0_1 a0_2 a1_0 a1_1 a1_2))))=some (r1,r2,r3):=h;clear h;obtain⟨⟨t252,t253,t254⟩,A3,H⟩:=bi H;try dsimp only at H
 by_cases c4:(a1_0==t252&&(a1_1.toList==t253.toList&&(a1_2.toList==t254.toList)))=true
 ·rw[if_pos c4] at H
  have c4b0:(a1_0==t252&&(a1_1.toList==t253.toList&&(a1_2.toList==t254.toList)))=true:=c4
  (try(have c4b1:decide (a1_0=t252&&(a1_1.toList==t253.toList&&(a1_2.toList==t254.toList)))=true:=by simpa using c4))
  (try(have c4b2:(a1_0==t252&&(a1_1.toList==t253.toList&&(a1_2.toList==t254.toList)))=true:=by simpa using c4))
  clear c4;obtain⟨⟨t255,t256,t257⟩,A5,H⟩:=bi H;try dsimp only at H
  simp only[Option.some.injEq,Prod.mk.injEq] at H;obtain⟨rfl,rfl,rfl⟩:=H;go_enter Tryz.func104,Tryz.ntmps104
  try go_wp2_with(first|((with_reducible refine aJ (N:=2) rfl ?_);refine bx_ 2 36 #[.bool a0_0,.string a0_1,.string a0_2] (h:= ?_);intro gb249 hg w6 hbox hb;have BK249:=aA.mk (hbox);have GW249:=pkG HB hg;have GE249:=GW249;replace HB:=pkB HB hb;clear hb hbox hg)|((with_reducible refine aJ (N:=3) rfl ?_);refine bx_ 3 36 #[.bool a1_0,.string a1_1,.string a1_2] (h:= ?_);intro gb250 hg w7 hbox hb;have BK250:=aA.mk (hbox);have GW250:=pkG HB hg;have GE250:=GW250;obtain⟨NB249_250,NB250_249,_,_⟩:=pkQ BK249 hg;replace BK249:=pkK BK249 hb;replace HB:=pkB HB hb;clear hb hbox hg)|((with_reducible refine aJ (N:=4) rfl ?_);refine bx_ 4 36 #[.bool false,.string (⟨#[]⟩:ByteArray),.string (⟨#[]⟩:ByteArray)] (h:= ?_);intro gb251 hg w8 hbox hb;have BK251:=aA.mk (hbox);have GW251:=pkG HB hg;have GE251:=GW251;obtain⟨NB249_251,NB251_249,_,_⟩:=pkQ BK249 hg;obtain⟨NB250_251,NB251_250,_,_⟩:=pkQ BK250 hg;replace BK249:=pkK BK249 hb;replace BK250:=pkK BK250 hb;replace HB:=pkB HB hb;clear hb hbox hg))
  replace BK249:=aA.mk (aQ BK249.out);replace BK250:=aA.mk (aQ BK250.out);replace BK251:=aA.mk (aQ BK251.out);replace HB:=aA.mk (bG HB.out)
  refine jY (n:=4) (S:=fun w'=>w'.cell? ⟨gb250,0,none⟩=some (.bool a1_0)∧w'.cell? ⟨gb250,1,none⟩=some (.string a1_1)∧w'.cell? ⟨gb250,2,none⟩=some (.string a1_2)) (ds:= []) #[false,false,false,false] (by kernel_rfl) rfl rfl ⟨(aC BK250.out 0).trans rfl,(aC BK250.out 1).trans rfl,(aC BK250.out 2).trans rfl⟩ (fun hHeld=> ?_);generalize w8.drew=w9 at BK249 BK250 BK251 HB hHeld ⊢;refine tk_ 0 6 hHeld (hy:=by rintro w' ⟨s0,s1,s2⟩;go_simp;with_reducible rfl) (h:= ?_);refine on_ 1 7 (h:=fun K hK=> ?_);refine g1_ Tryz.func116 #[.string (⟨#[48]⟩:ByteArray)] (h:= ?_);with_reducible refine(dB.calls (⟨#[48]⟩:ByteArray) t252 t253 t254 _ A3.out).mono ?_
  rintro e w10 ⟨rfl,hb⟩;refine⟨_,rfl,?_⟩;replace BK249:=pkK BK249 hb;replace BK250:=pkK BK250 hb;replace BK251:=pkK BK251 hb;replace HB:=pkB HB hb
  (try clear hb)
  (try clear hb2)
  (try clear hk)
  (try clear hi)
  refine hK.out _ _ ⟨(aC BK250.out 0).trans rfl,(aC BK250.out 1).trans rfl,(aC BK250.out 2).trans rfl⟩ (fun hHeld=> ?_);clear hK K;refine gG (a':= ?_) ?_ ?_
  rotate_left
  ·show Act.put _ (some 7) _=_
   simp only[Act.put,List.setIfInBounds_toArray,List.set_cons_zero,List.set_cons_succ,dE,dM];rfl
  refine pr_ 2 8 (h:= ?_);refine pr_ 3 5 (h:= ?_);refine kT (by kernel_rfl) ?_
  try go_wp2_with(first|((with_reducible refine aG (f:=176) rfl ?_);refine gl_ 9 Tryz.func176 #[] (h:= ?_);(with_reducible refine(iY.calls t255 t256 t257 _ A5.out).mono ?_);rintro e w11 ⟨rfl,hb⟩;refine⟨_,rfl,?_⟩;replace BK249:=pkK BK249 hb;replace BK250:=pkK BK250 hb;replace BK251:=pkK BK251 hb;replace HB:=pkB HB hb;try clear hb;have hnb12:=NB251_249.out;have hnc12:=NB249_251.out;have hnb13:=NB251_250.out;have hnc13:=NB250_251.out;obtain⟨⟨hcz14_0,hcz14_1,hcz14_2⟩,hfz14_0,hfz14_1,hfz14_2⟩:=pk3 BK251))
  refine bodyPost_ret (results_cell_row rfl _ _ gb251 36 #[.bool t255,.string t256,.string t257] (0,0) _ rfl (pkS3 BK251) Tryz.underlying36 rfl (by kernel_rfl)) rfl ?_;exact pkE HB
 ·rw[if_neg c4] at H
  have c4b0:(a1_0==t252&&(a1_1.toList==t253.toList&&(a1_2.toList==t254.toList)))=false:=by simpa using c4
  (try(have c4b1:decide (a1_0=t252&&(a1_1.toList==t253.toList&&(a1_2.toList==t254.toList)))=false:=by simpa using c4))
  (try(have c4b2:(a1_0==t252&&(a1_1.toList==t253.toList&&(a1_2.toList==t254.toList)))=false:=by simpa using c4))
  (try(have c4b3:¬(a1_0=t252&&(a1_1.toList==t253.toList&&(a1_2.toList==t254.toList))):=by simpa using c4))
  clear c4;have HC15:=aA.mk H;clear H;go_enter Tryz.func104,Tryz.ntmps104
  try go_wp2_with(first|((with_reducible refine aJ (N:=2) rfl ?_);refine bx_ 2 36 #[.bool a0_0,.string a0_1,.string a0_2] (h:= ?_);intro gb249 hg w16 hbox hb;have BK249:=aA.mk (hbox);have GW249:=pkG HB hg;have GE249:=GW249;replace HB:=pkB HB hb;clear hb hbox hg)|((with_reducible refine aJ (N:=3) rfl ?_);refine bx_ 3 36 #[.bool a1_0,.string a1_1,.string a1_2] (h:= ?_);intro gb250 hg w17 hbox hb;have BK250:=aA.mk (hbox);have GW250:=pkG HB hg;have GE250:=GW250;obtain⟨NB249_250,NB250_249,_,_⟩:=pkQ BK249 hg;replace BK249:=pkK BK249 hb;replace HB:=pkB HB hb;clear hb hbox hg)|((with_reducible refine aJ (N:=4) rfl ?_);refine bx_ 4 36 #[.bool false,.string (⟨#[]⟩:ByteArray),.string (⟨#[]⟩:ByteArray)] (h:= ?_);intro gb251 hg w18 hbox hb;have BK251:=aA.mk (hbox);have GW251:=pkG HB hg;have GE251:=GW251;obtain⟨NB249_251,NB251_249,_,_⟩:=pkQ BK249 hg;obtain⟨NB250_251,NB251_250,_,_⟩:=pkQ BK250 hg;replace BK249:=pkK BK249 hb;replace BK250:=pkK BK250 hb;replace HB:=pkB HB hb;clear hb hbox hg))
  replace BK249:=aA.mk (aQ BK249.out);replace BK250:=aA.mk (aQ BK250.out);replace BK251:=aA.mk (aQ BK251.out);replace HB:=aA.mk (bG HB.out)
  refine jY (n:=4) (S:=fun w'=>w'.cell? ⟨gb250,0,none⟩=some (.bool a1_0)∧w'.cell? ⟨gb250,1,none⟩=some (.string a1_1)∧w'.cell? ⟨gb250,2,none⟩=some (.string a1_2)) (ds:= []) #[false,false,false,false] (by kernel_rfl) rfl rfl ⟨(aC BK250.out 0).trans rfl,(aC BK250.out 1).trans rfl,(aC BK250.out 2).trans rfl⟩ (fun hHeld=> ?_);generalize w18.drew=w19 at BK249 BK250 BK251 HB hHeld ⊢;refine tk_ 0 6 hHeld (hy:=by rintro w' ⟨s0,s1,s2⟩;go_simp;with_reducible rfl) (h:= ?_);refine on_ 1 7 (h:=fun K hK=> ?_);refine g1_ Tryz.func116 #[.string (⟨#[48]⟩:ByteArray)] (h:= ?_);with_reducible refine(dB.calls (⟨#[48]⟩:ByteArray) t252 t253 t254 _ A3.out).mono ?_
  rintro e w20 ⟨rfl,hb⟩;refine⟨_,rfl,?_⟩;replace BK249:=pkK BK249 hb;replace BK250:=pkK BK250 hb;replace BK251:=pkK BK251 hb;replace HB:=pkB HB hb
  (try clear hb)
  (try clear hb2)
  (try clear hk)
  (try clear hi)
  refine hK.out _ _ ⟨(aC BK250.out 0).trans rfl,(aC BK250.out 1).trans rfl,(aC BK250.out 2).trans rfl⟩ (fun hHeld=> ?_);clear hK K;refine gG (a':= ?_) ?_ ?_
  rotate_left
  ·show Act.put _ (some 7) _=_
   simp only[Act.put,List.setIfInBounds_toArray,List.set_cons_zero,List.set_cons_succ,dE,dM];rfl
  refine pr_ 2 8 (h:= ?_);refine pr_ 3 5 (h:= ?_);refine kT (by kernel_rfl) ?_
  go_upto_region 3 with (fail)
  go_cut [10] (fun v10 wc=>∃(kq:Nat) (x10_14:Bool),v10= .bool x10_14∧aA (dK.j0 kq x10_14 a0_0 a0_1 a0_2 a1_0 a1_1 a1_2=some (r1,r2,r3))∧aA (kq≤k)∧aA (wc.heap[gb249]? =some (.cells #[.bool a0_0,.string a0_1,.string a0_2] 36 (0,0)))∧aA (wc.heap[gb250]? =some (.cells #[.bool a1_0,.string a1_1,.string a1_2] 36 (0,0)))∧aA (wc.heap[gb251]? =some (.cells #[.bool false,.string (⟨#[]⟩:ByteArray),.string (⟨#[]⟩:ByteArray)] 36 (0,0)))∧aA (Below w.heap.size w wc))
  case first=>
   have H:=HC15.out;clear HC15
   by_cases c21:a1_1.toList=([48]:List UInt8)
   ·rw[if_pos c21] at H
    have c21b0:(a1_1.toList==([48]:List UInt8))=true:=beq_iff_eq.mpr c21;have c21b1:(a1_1.toList != ([48]:List UInt8))=false:=bne_eq_false_iff_eq.mpr c21;clear c21
    (first|rw[c21b0]|(simp only[dE,dM];rw[c21b0])|skip)
    obtain⟨t258,A22,H⟩:=bi H;try dsimp only at H
    have H':=aA.mk H;clear H;have hnb23:=NB250_249.out;have hnc23:=NB249_250.out;have hnb24:=NB250_251.out;have hnc24:=NB251_250.out;obtain⟨⟨hcz25_0,hcz25_1,hcz25_2⟩,hfz25_0,hfz25_1,hfz25_2⟩:=pk3 BK250;have hnb26:=NB249_251.out;have hnc26:=NB251_249.out;obtain⟨⟨hcz27_0,hcz27_1,hcz27_2⟩,hfz27_0,hfz27_1,hfz27_2⟩:=pk3 BK249
    go_wp2_with(first|(go_at_call 177;(with_reducible refine(eG.calls (hG:=HG.out.below (pkL HB)) a1_2 a0_1 t258 _ A22.out).mono ?_);rintro e w28 ⟨rfl,hb⟩;replace BK249:=pkK BK249 hb;replace BK250:=pkK BK250 hb;replace BK251:=pkK BK251 hb;replace HB:=pkB HB hb;try clear hb))
    go_meet
    case rel=>exact⟨_,(t258),aCs,H',⟨by first|omega|exact Nat.le_refl _⟩,⟨pkW BK249⟩,⟨pkW BK250⟩,⟨pkW BK251⟩,⟨pkL HB⟩⟩
   ·rw[if_neg c21] at H
    have c21b0:(a1_1.toList==([48]:List UInt8))=false:=beq_eq_false_iff_ne.mpr c21;have c21b1:(a1_1.toList != ([48]:List UInt8))=true:=bne_iff_ne.mpr c21
    (first|rw[c21b0]|(simp only[dE,dM];rw[c21b0])|skip)
    have H':=aA.mk H;clear H;have hnb29:=NB250_249.out;have hnc29:=NB249_250.out;have hnb30:=NB250_251.out;have hnc30:=NB251_250.out;obtain⟨⟨hcz31_0,hcz31_1,hcz31_2⟩,hfz31_0,hfz31_1,hfz31_2⟩:=pk3 BK250;go_wp2
    go_meet
    case rel=>exact⟨_,(false),aCs,H',⟨by first|omega|exact Nat.le_refl _⟩,⟨pkW BK249⟩,⟨pkW BK250⟩,⟨pkW BK251⟩,⟨pkL HB⟩⟩
  case rest=>
   clear HC15;try clear c4
   try clear c4b0
   try clear c4b1
   try clear c4b2
   try clear c21
   try clear c21b0
   try clear c21b1
   try clear hcz14_0
   try clear hcz14_1
   try clear hcz14_2
   try clear hcz25_0
   try clear hcz25_1
   try clear hcz25_2
   try clear hcz27_0
   try clear hcz27_1
   try clear hcz27_2
   try clear hcz31_0
   try clear hcz31_1
   try clear hcz31_2
   try clear hfz14_0
   try clear hfz14_1
   try clear hfz14_2
   try clear hfz25_0
   try clear hfz25_1
   try clear hfz25_2
   try clear hfz27_0
   try clear hfz27_1
   try clear hfz27_2
   try clear hfz31_0
   try clear hfz31_1
   try clear hfz31_2
   obtain⟨kq,x10_14,rfl,HA,HJ14,BK249,BK250,BK251,HB⟩:=hcut
   cases kq with
   |zero=>exact absurd HA.out (by simp[dK.j0])
   |succ kj14=>
    have H:=HA.out;clear HA;simp only[dK.j0] at H
    by_cases c32:x10_14=true
    ·subst c32
     rw[if_pos rfl] at H;obtain⟨⟨t259,t260⟩,A33,H⟩:=bi H;try dsimp only at H
     obtain⟨t261,A34,H⟩:=bi H;try dsimp only at H
     obtain⟨⟨t262,t263,t264⟩,A35,H⟩:=bi H;try dsimp only at H
     simp only[Option.some.injEq,Prod.mk.injEq] at H;obtain⟨rfl,rfl,rfl⟩:=H;have hnb36:=NB249_250.out;have hnc36:=NB250_249.out;have hnb37:=NB249_251.out;have hnc37:=NB251_249.out;obtain⟨⟨hcz38_0,hcz38_1,hcz38_2⟩,hfz38_0,hfz38_1,hfz38_2⟩:=pk3 BK249;have hnb39:=NB250_251.out;have hnc39:=NB251_250.out;obtain⟨⟨hcz40_0,hcz40_1,hcz40_2⟩,hfz40_0,hfz40_1,hfz40_2⟩:=pk3 BK250
     go_wp2_with(first|((with_reducible refine aG (f:=20) rfl ?_);refine gl_ 25 Tryz.func20 #[.string a0_2,.string a1_2] (h:= ?_);(with_reducible refine(fC.calls (hG:=HG.out.below (pkL HB)) a0_2 a1_2 t259 t260 _ A33.out).mono ?_);rintro e w41 ⟨rfl,hb⟩;refine⟨_,rfl,?_⟩;replace BK249:=pkK BK249 hb;replace BK250:=pkK BK250 hb;replace BK251:=pkK BK251 hb;replace HB:=pkB HB hb;try clear hb)|((with_reducible refine aG (f:=128) rfl ?_);refine gl_ 28 Tryz.func128 #[.string t259,.int .i64 t260] (h:= ?_);(with_reducible refine(eQ.calls t259 t260 t261 _ A34.out).mono ?_);rintro e w' ⟨rfl,⟨nd,rfl⟩⟩;refine⟨_,rfl,?_⟩;(try(rw[nI w41];generalize hq_:World.drewN w41 _=w41;have n0_:aA (w41.heap[gb249]? =some (.cells #[.bool a0_0,.string a0_1,.string a0_2] 36 (0,0))):=⟨by rw[←hq_];exact(pkW BK249)⟩;have n1_:aA (w41.heap[gb250]? =some (.cells #[.bool a1_0,.string a1_1,.string a1_2] 36 (0,0))):=⟨by rw[←hq_];exact(pkW BK250)⟩;have n2_:aA (w41.heap[gb251]? =some (.cells #[.bool false,.string (⟨#[]⟩:ByteArray),.string (⟨#[]⟩:ByteArray)] 36 (0,0))):=⟨by rw[←hq_];exact(pkW BK251)⟩;have n3_:aA (Below w.heap.size w w41):=⟨by rw[←hq_];exact(pkL HB)⟩;clear BK249 BK250 BK251 HB hq_;have BK249:=n0_;have BK250:=n1_;have BK251:=n2_;have HB:=n3_;clear n0_ n1_ n2_ n3_)))|((with_reducible refine aG (f:=109) rfl ?_);refine gl_ 29 Tryz.func109 #[.string (⟨#[48]⟩:ByteArray),.string t261] (h:= ?_);(with_reducible refine(bI.calls (hG:=HG.out.below (pkL HB)) kj14 (⟨#[48]⟩:ByteArray) t261 t262 t263 t264 _ A35.out).mono ?_);rintro e w42 ⟨rfl,hb⟩;refine⟨_,rfl,?_⟩;replace BK249:=pkK BK249 hb;replace BK250:=pkK BK250 hb;replace BK251:=pkK BK251 hb;replace HB:=pkB HB hb;try clear hb;obtain⟨⟨hcz43_0,hcz43_1,hcz43_2⟩,hfz43_0,hfz43_1,hfz43_2⟩:=pk3 BK251))
     refine bodyPost_ret (results_cell_row rfl _ _ gb251 36 #[.bool t262,.string t263,.string t264] (0,0) _ rfl (pkS3 BK251) Tryz.underlying36 rfl (by kernel_rfl)) rfl ?_;exact pkE HB
    ·replace c32:=Bool.eq_false_iff.mpr c32
     subst c32;rw[if_neg (show ¬(false=true) by decide)] at H;obtain⟨t265,A44,H⟩:=bi H;try dsimp only at H
     obtain⟨t266,A45,H⟩:=bi H;try dsimp only at H
     obtain⟨⟨t267,t268,t269⟩,A46,H⟩:=bi H;try dsimp only at H
     simp only[Option.some.injEq,Prod.mk.injEq] at H;obtain⟨rfl,rfl,rfl⟩:=H
     try go_wp2
     replace BK249:=aA.mk (aQ BK249.out);replace BK250:=aA.mk (aQ BK250.out);replace BK251:=aA.mk (aQ BK251.out);replace HB:=aA.mk (bG HB.out)
     refine jY (n:=12) (S:=fun w'=>w'.cell? ⟨gb249,0,none⟩=some (.bool a0_0)∧w'.cell? ⟨gb249,1,none⟩=some (.string a0_1)∧w'.cell? ⟨gb249,2,none⟩=some (.string a0_2)∧w'.cell? ⟨gb250,0,none⟩=some (.bool a1_0)∧w'.cell? ⟨gb250,1,none⟩=some (.string a1_1)∧w'.cell? ⟨gb250,2,none⟩=some (.string a1_2)) (ds:= []) #[false,false,false,false,false,false,false,false,false,false,false,false] (by kernel_rfl) rfl rfl ⟨(aC BK249.out 0).trans rfl,(aC BK249.out 1).trans rfl,(aC BK249.out 2).trans rfl,(aC BK250.out 0).trans rfl,(aC BK250.out 1).trans rfl,(aC BK250.out 2).trans rfl⟩ (fun hHeld=> ?_);refine kP dK.tab5 dK.bits5 (fun HT_ HW_=> ?_)
     generalize wc.drew=w47 at BK249 BK250 BK251 HB hHeld ⊢;refine pr_ 0 30 (h:= ?_);refine pr_ 2 32 (h:= ?_);refine pr_ 4 34 (h:= ?_);refine pr_ 8 38 (h:= ?_);refine tk_ 1 31 hHeld (hy:=by rintro w' ⟨s0,s1,s2,s3,s4,s5⟩;go_simp;with_reducible rfl) (h:= ?_);refine tk_ 3 33 hHeld (hy:=by rintro w' ⟨s0,s1,s2,s3,s4,s5⟩;go_simp;with_reducible rfl) (h:= ?_);refine tk_ 5 35 hHeld (hy:=by rintro w' ⟨s0,s1,s2,s3,s4,s5⟩;go_simp;with_reducible rfl) (h:= ?_);refine tk_ 9 39 hHeld (hy:=by rintro w' ⟨s0,s1,s2,s3,s4,s5⟩;go_simp;with_reducible rfl) (h:= ?_);refine on_ 6 36 (h:=fun K hK=> ?_);refine g1_ Tryz.func110 #[.string a1_1,.string a1_2] (h:= ?_);with_reducible refine(dO.calls (hG:=HG.out.below (pkL HB)) a1_1 a1_2 t265 _ A44.out).mono ?_
     rintro e w48 ⟨rfl,hb⟩;refine⟨_,rfl,?_⟩;replace BK249:=pkK BK249 hb;replace BK250:=pkK BK250 hb;replace BK251:=pkK BK251 hb;replace HB:=pkB HB hb
     (try clear hb)
     (try clear hb2)
     (try clear hk)
     (try clear hi)
     refine hK.out _ _ ⟨(aC BK249.out 0).trans rfl,(aC BK249.out 1).trans rfl,(aC BK249.out 2).trans rfl,(aC BK250.out 0).trans rfl,(aC BK250.out 1).trans rfl,(aC BK250.out 2).trans rfl⟩ (fun hHeld=> ?_);clear hK K;refine gG (a':= ?_) ?_ ?_
     rotate_left
     ·show Act.put _ (some 36) _=_
      simp only[Act.put,List.setIfInBounds_toArray,List.set_cons_zero,List.set_cons_succ,dE,dM];rfl
     refine on_ 7 37 (h:=fun K hK=> ?_);refine g1_ Tryz.func110 #[.string a0_1,.string t265] (h:= ?_);with_reducible refine(dO.calls (hG:=HG.out.below (pkL HB)) a0_1 t265 t266 _ A45.out).mono ?_
     rintro e w49 ⟨rfl,hb⟩;refine⟨_,rfl,?_⟩;replace BK249:=pkK BK249 hb;replace BK250:=pkK BK250 hb;replace BK251:=pkK BK251 hb;replace HB:=pkB HB hb
     (try clear hb)
     (try clear hb2)
     (try clear hk)
     (try clear hi)
     refine hK.out _ _ ⟨(aC BK249.out 0).trans rfl,(aC BK249.out 1).trans rfl,(aC BK249.out 2).trans rfl,(aC BK250.out 0).trans rfl,(aC BK250.out 1).trans rfl,(aC BK250.out 2).trans rfl⟩ (fun hHeld=> ?_);clear hK K;refine gG (a':= ?_) ?_ ?_
     rotate_left
     ·show Act.put _ (some 37) _=_
      simp only[Act.put,List.setIfInBounds_toArray,List.set_cons_zero,List.set_cons_succ,dE,dM];rfl
     refine on_ 10 40 (h:=fun K hK=> ?_);refine g1_ Tryz.func109 #[.string t266,.string a0_2] (h:= ?_);with_reducible refine(bI.calls (hG:=HG.out.below (pkL HB)) kj14 t266 a0_2 t267 t268 t269 _ A46.out).mono ?_
     rintro e w50 ⟨rfl,hb⟩;refine⟨_,rfl,?_⟩;replace BK249:=pkK BK249 hb;replace BK250:=pkK BK250 hb;replace BK251:=pkK BK251 hb;replace HB:=pkB HB hb
     (try clear hb)
     (try clear hb2)
     (try clear hk)
     (try clear hi)
     refine hK.out _ _ ⟨(aC BK249.out 0).trans rfl,(aC BK249.out 1).trans rfl,(aC BK249.out 2).trans rfl,(aC BK250.out 0).trans rfl,(aC BK250.out 1).trans rfl,(aC BK250.out 2).trans rfl⟩ (fun hHeld=> ?_);clear hK K;refine gG (a':= ?_) ?_ ?_
     rotate_left
     ·show Act.put _ (some 40) _=_
      simp only[Act.put,List.setIfInBounds_toArray,List.set_cons_zero,List.set_cons_succ,dE,dM];rfl
     refine one_ (i:=11) (N:=none) #[true,true,true,true,true,true,true,true,true,true,true,true] rfl rfl (yA HT_.out (by kernel_rfl)) aCr (fun K hK=> ?_);have hs51:w50.cell? ⟨gb251,0,none⟩=some (.bool false):=(aC BK251.out 0).trans rfl;have hfs51:=aI BK251.out 0;have hns51_0:=NB249_251.out;have hns51_1:=NB250_251.out;have hms51_0:=NB251_249.out;have hms51_1:=NB251_250.out;have hs52:w50.cell? ⟨gb251,1,none⟩=some (.string (⟨#[]⟩:ByteArray)):=(aC BK251.out 1).trans rfl;have hfs52:=aI BK251.out 1;have hns52_0:=NB249_251.out;have hns52_1:=NB250_251.out;have hms52_0:=NB251_249.out;have hms52_1:=NB251_250.out;have hs53:w50.cell? ⟨gb251,2,none⟩=some (.string (⟨#[]⟩:ByteArray)):=(aC BK251.out 2).trans rfl;have hfs53:=aI BK251.out 2;have hns53_0:=NB249_251.out;have hns53_1:=NB250_251.out;have hms53_0:=NB251_249.out;have hms53_1:=NB251_250.out;refine skip_ (w1:= ?_) (by rfl) rfl ?_ ?_
     rotate_left
     ·go_simp
      rfl
     refine hK.out _ _ ⟨((aCt (p:=⟨gb251,_,none⟩) NB249_251.out _).trans (((aCt (p:=⟨gb251,_,none⟩) NB249_251.out _).trans (((aCt (p:=⟨gb251,_,none⟩) NB249_251.out _).trans (hHeld.1)))))),((aCt (p:=⟨gb251,_,none⟩) NB249_251.out _).trans (((aCt (p:=⟨gb251,_,none⟩) NB249_251.out _).trans (((aCt (p:=⟨gb251,_,none⟩) NB249_251.out _).trans (hHeld.2.1)))))),((aCt (p:=⟨gb251,_,none⟩) NB249_251.out _).trans (((aCt (p:=⟨gb251,_,none⟩) NB249_251.out _).trans (((aCt (p:=⟨gb251,_,none⟩) NB249_251.out _).trans (hHeld.2.2.1)))))),((aCt (p:=⟨gb251,_,none⟩) NB250_251.out _).trans (((aCt (p:=⟨gb251,_,none⟩) NB250_251.out _).trans (((aCt (p:=⟨gb251,_,none⟩) NB250_251.out _).trans (hHeld.2.2.2.1)))))),((aCt (p:=⟨gb251,_,none⟩) NB250_251.out _).trans (((aCt (p:=⟨gb251,_,none⟩) NB250_251.out _).trans (((aCt (p:=⟨gb251,_,none⟩) NB250_251.out _).trans (hHeld.2.2.2.2.1)))))),((aCt (p:=⟨gb251,_,none⟩) NB250_251.out _).trans (((aCt (p:=⟨gb251,_,none⟩) NB250_251.out _).trans (((aCt (p:=⟨gb251,_,none⟩) NB250_251.out _).trans (hHeld.2.2.2.2.2))))))⟩ (fun hHeld=> ?_);clear hK K;refine kT (mG HT_.out (by kernel_rfl)) ?_
     try go_wp2
     refine bodyPost_ret (results_cell_row rfl _ _ gb251 36 #[.bool t267,.string t268,.string t269] (0,0) _ rfl (pkS3 BK251) Tryz.underlying36 rfl (by kernel_rfl)) rfl ?_;exact pkE HB
def fQ.f(k:Nat)(a0_0:Bool)(a0_1:ByteArray)(a0_2:ByteArray)(a1_0:Bool)(a1_1:ByteArray)(a1_2:ByteArray):Option (Bool×ByteArray×ByteArray):=(dO.f a0_1 a1_1).bind fun t273=>((kG.f a0_2 a1_2).bind fun t274=>((bI.f k t273 t274).bind fun bt275=>(some (bt275.1,bt275.2.1,bt275.2.2))))
def fQ.T1:Bool×List (List Nat×List Nat):=(true,[([],[]),([0],[0]),([],[]),([2],[2]),([1,3],[1,3]),([],[]),([5],[5]),([],[]),([7],[7]),([6,8,4],[6,8]),([4,9,9],[4,9]),([10,10,0,1,2,3,4,5,6,7,8,9,10],[10])])
def fQ.B1:List Nat:= [0,1,0,4,15,0,32,0,128,511,1023,2047]
theorem fQ.tab1:rtab .any (opsOf Tryz.f118 1)=fQ.T1:=by kernel_rfl
theorem fQ.bits1:kV fQ.T1.2 fQ.B1=true:=by kernel_rfl
theorem fQ.calls(k:Nat)(a0_0:Bool)(a0_1:ByteArray)(a0_2:ByteArray)(a1_0:Bool)(a1_1:ByteArray)(a1_2:ByteArray)(r1:Bool)(r2:ByteArray)(r3:ByteArray)(w:World)(hG:GW w)(h:fQ.f k a0_0 a0_1 a0_2 a1_0 a1_1 a1_2=some (r1,r2,r3)) :
 Calls Tryz.prog 118 #[.agg #[.bool a0_0,.string a0_1,.string a0_2],.agg #[.bool a1_0,.string a1_1,.string a1_2]] w fun e w'=>e= .returned (.agg #[.bool r1,.string r2,.string r3])∧Below w.heap.size w w':=by
 have HG:=aA.mk hG;clear hG;have hu36:=Tryz.underlying36;have HB:=aA.mk (Below.refl w.heap.size w);have H:((dO.f a0_1 a1_1).bind fun t273=>((kG.f a0_2 a1_2).bind fun t274=>((bI.f k t273 t274).bind fun bt275=>(some (bt275.1,bt275.2.1,bt275.2.2)))))=some (r1,r2,r3):=h;clear h;obtain⟨t273,A3,H⟩:=bi H;try dsimp only at H
 obtain⟨t274,A4,H⟩:=bi H;try dsimp only at H
 obtain⟨⟨t275,t276,t277⟩,A5,H⟩:=bi H;try dsimp only at H
 simp only[Option.some.injEq,Prod.mk.injEq] at H;obtain⟨rfl,rfl,rfl⟩:=H;go_enter Tryz.func118,Tryz.ntmps118
 try go_wp2_with(first|((with_reducible refine aJ (N:=2) rfl ?_);refine bx_ 2 36 #[.bool a0_0,.string a0_1,.string a0_2] (h:= ?_);intro gb270 hg w6 hbox hb;have BK270:=aA.mk (hbox);have GW270:=pkG HB hg;have GE270:=GW270;replace HB:=pkB HB hb;clear hb hbox hg)|((with_reducible refine aJ (N:=3) rfl ?_);refine bx_ 3 36 #[.bool a1_0,.string a1_1,.string a1_2] (h:= ?_);intro gb271 hg w7 hbox hb;have BK271:=aA.mk (hbox);have GW271:=pkG HB hg;have GE271:=GW271;obtain⟨NB270_271,NB271_270,_,_⟩:=pkQ BK270 hg;replace BK270:=pkK BK270 hb;replace HB:=pkB HB hb;clear hb hbox hg)|((with_reducible refine aJ (N:=4) rfl ?_);refine bx_ 4 36 #[.bool false,.string (⟨#[]⟩:ByteArray),.string (⟨#[]⟩:ByteArray)] (h:= ?_);intro gb272 hg w8 hbox hb;have BK272:=aA.mk (hbox);have GW272:=pkG HB hg;have GE272:=GW272;obtain⟨NB270_272,NB272_270,_,_⟩:=pkQ BK270 hg;obtain⟨NB271_272,NB272_271,_,_⟩:=pkQ BK271 hg;replace BK270:=pkK BK270 hb;replace BK271:=pkK BK271 hb;replace HB:=pkB HB hb;clear hb hbox hg))
 replace BK270:=aA.mk (aQ BK270.out);replace BK271:=aA.mk (aQ BK271.out);replace BK272:=aA.mk (aQ BK272.out);replace HB:=aA.mk (bG HB.out)
 refine jY (n:=12) (S:=fun w'=>w'.cell? ⟨gb270,0,none⟩=some (.bool a0_0)∧w'.cell? ⟨gb270,1,none⟩=some (.string a0_1)∧w'.cell? ⟨gb270,2,none⟩=some (.string a0_2)∧w'.cell? ⟨gb271,0,none⟩=some (.bool a1_0)∧w'.cell? ⟨gb271,1,none⟩=some (.string a1_1)∧w'.cell? ⟨gb271,2,none⟩=some (.string a1_2)) (ds:= []) #[false,false,false,false,false,false,false,false,false,false,false,false] (by kernel_rfl) rfl rfl ⟨(aC BK270.out 0).trans rfl,(aC BK270.out 1).trans rfl,(aC BK270.out 2).trans rfl,(aC BK271.out 0).trans rfl,(aC BK271.out 1).trans rfl,(aC BK271.out 2).trans rfl⟩ (fun hHeld=> ?_);refine kP fQ.tab1 fQ.bits1 (fun HT_ HW_=> ?_)
 generalize w8.drew=w9 at BK270 BK271 BK272 HB hHeld ⊢;refine pr_ 0 5 (h:= ?_);refine pr_ 2 7 (h:= ?_);refine pr_ 5 10 (h:= ?_);refine pr_ 7 12 (h:= ?_);refine tk_ 1 6 hHeld (hy:=by rintro w' ⟨s0,s1,s2,s3,s4,s5⟩;go_simp;with_reducible rfl) (h:= ?_);refine tk_ 3 8 hHeld (hy:=by rintro w' ⟨s0,s1,s2,s3,s4,s5⟩;go_simp;with_reducible rfl) (h:= ?_);refine tk_ 6 11 hHeld (hy:=by rintro w' ⟨s0,s1,s2,s3,s4,s5⟩;go_simp;with_reducible rfl) (h:= ?_);refine tk_ 8 13 hHeld (hy:=by rintro w' ⟨s0,s1,s2,s3,s4,s5⟩;go_simp;with_reducible rfl) (h:= ?_);refine on_ 4 9 (h:=fun K hK=> ?_);refine g1_ Tryz.func110 #[.string a0_1,.string a1_1] (h:= ?_);with_reducible refine(dO.calls (hG:=HG.out.below (pkL HB)) a0_1 a1_1 t273 _ A3.out).mono ?_
 rintro e w10 ⟨rfl,hb⟩;refine⟨_,rfl,?_⟩;replace BK270:=pkK BK270 hb;replace BK271:=pkK BK271 hb;replace BK272:=pkK BK272 hb;replace HB:=pkB HB hb
 (try clear hb)
 (try clear hb2)
 (try clear hk)
 (try clear hi)
 refine hK.out _ _ ⟨(aC BK270.out 0).trans rfl,(aC BK270.out 1).trans rfl,(aC BK270.out 2).trans rfl,(aC BK271.out 0).trans rfl,(aC BK271.out 1).trans rfl,(aC BK271.out 2).trans rfl⟩ (fun hHeld=> ?_);clear hK K;refine gG (a':= ?_) ?_ ?_
 rotate_left
 ·show Act.put _ (some 9) _=_
  simp only[Act.put,List.setIfInBounds_toArray,List.set_cons_zero,List.set_cons_succ,dE,dM];rfl
 refine on_ 9 14 (h:=fun K hK=> ?_);refine g1_ Tryz.func119 #[.string a0_2,.string a1_2] (h:= ?_);with_reducible refine(kG.calls (hG:=HG.out.below (pkL HB)) a0_2 a1_2 t274 _ A4.out).mono ?_
 rintro e w11 ⟨rfl,hb⟩;refine⟨_,rfl,?_⟩;replace BK270:=pkK BK270 hb;replace BK271:=pkK BK271 hb;replace BK272:=pkK BK272 hb;replace HB:=pkB HB hb
 (try clear hb)
 (try clear hb2)
 (try clear hk)
 (try clear hi)
 refine hK.out _ _ ⟨(aC BK270.out 0).trans rfl,(aC BK270.out 1).trans rfl,(aC BK270.out 2).trans rfl,(aC BK271.out 0).trans rfl,(aC BK271.out 1).trans rfl,(aC BK271.out 2).trans rfl⟩ (fun hHeld=> ?_);clear hK K;refine gG (a':= ?_) ?_ ?_
 rotate_left
 ·show Act.put _ (some 14) _=_
  simp only[Act.put,List.setIfInBounds_toArray,List.set_cons_zero,List.set_cons_succ,dE,dM];rfl
 refine on_ 10 15 (h:=fun K hK=> ?_);refine g1_ Tryz.func109 #[.string t273,.string t274] (h:= ?_);with_reducible refine(bI.calls (hG:=HG.out.below (pkL HB)) k t273 t274 t275 t276 t277 _ A5.out).mono ?_
 rintro e w12 ⟨rfl,hb⟩;refine⟨_,rfl,?_⟩;replace BK270:=pkK BK270 hb;replace BK271:=pkK BK271 hb;replace BK272:=pkK BK272 hb;replace HB:=pkB HB hb
 (try clear hb)
 (try clear hb2)
 (try clear hk)
 (try clear hi)
 refine hK.out _ _ ⟨(aC BK270.out 0).trans rfl,(aC BK270.out 1).trans rfl,(aC BK270.out 2).trans rfl,(aC BK271.out 0).trans rfl,(aC BK271.out 1).trans rfl,(aC BK271.out 2).trans rfl⟩ (fun hHeld=> ?_);clear hK K;refine gG (a':= ?_) ?_ ?_
 rotate_left
 ·show Act.put _ (some 15) _=_
  simp only[Act.put,List.setIfInBounds_toArray,List.set_cons_zero,List.set_cons_succ,dE,dM];rfl
 refine one_ (i:=11) (N:=none) #[true,true,true,true,true,true,true,true,true,true,true,true] rfl rfl (yA HT_.out (by kernel_rfl)) aCr (fun K hK=> ?_);have hs13:w12.cell? ⟨gb272,0,none⟩=some (.bool false):=(aC BK272.out 0).trans rfl;have hfs13:=aI BK272.out 0;have hns13_0:=NB270_272.out;have hns13_1:=NB271_272.out;have hms13_0:=NB272_270.out;have hms13_1:=NB272_271.out;have hs14:w12.cell? ⟨gb272,1,none⟩=some (.string (⟨#[]⟩:ByteArray)):=(aC BK272.out 1).trans rfl;have hfs14:=aI BK272.out 1;have hns14_0:=NB270_272.out;have hns14_1:=NB271_272.out;have hms14_0:=NB272_270.out;have hms14_1:=NB272_271.out;have hs15:w12.cell? ⟨gb272,2,none⟩=some (.string (⟨#[]⟩:ByteArray)):=(aC BK272.out 2).trans rfl;have hfs15:=aI BK272.out 2;have hns15_0:=NB270_272.out;have hns15_1:=NB271_272.out;have hms15_0:=NB272_270.out;have hms15_1:=NB272_271.out;refine skip_ (w1:= ?_) (by rfl) rfl ?_ ?_
 rotate_left
 ·go_simp
  rfl
 refine hK.out _ _ ⟨((aCt (p:=⟨gb272,_,none⟩) NB270_272.out _).trans (((aCt (p:=⟨gb272,_,none⟩) NB270_272.out _).trans (((aCt (p:=⟨gb272,_,none⟩) NB270_272.out _).trans (hHeld.1)))))),((aCt (p:=⟨gb272,_,none⟩) NB270_272.out _).trans (((aCt (p:=⟨gb272,_,none⟩) NB270_272.out _).trans (((aCt (p:=⟨gb272,_,none⟩) NB270_272.out _).trans (hHeld.2.1)))))),((aCt (p:=⟨gb272,_,none⟩) NB270_272.out _).trans (((aCt (p:=⟨gb272,_,none⟩) NB270_272.out _).trans (((aCt (p:=⟨gb272,_,none⟩) NB270_272.out _).trans (hHeld.2.2.1)))))),((aCt (p:=⟨gb272,_,none⟩) NB271_272.out _).trans (((aCt (p:=⟨gb272,_,none⟩) NB271_272.out _).trans (((aCt (p:=⟨gb272,_,none⟩) NB271_272.out _).trans (hHeld.2.2.2.1)))))),((aCt (p:=⟨gb272,_,none⟩) NB271_272.out _).trans (((aCt (p:=⟨gb272,_,none⟩) NB271_272.out _).trans (((aCt (p:=⟨gb272,_,none⟩) NB271_272.out _).trans (hHeld.2.2.2.2.1)))))),((aCt (p:=⟨gb272,_,none⟩) NB271_272.out _).trans (((aCt (p:=⟨gb272,_,none⟩) NB271_272.out _).trans (((aCt (p:=⟨gb272,_,none⟩) NB271_272.out _).trans (hHeld.2.2.2.2.2))))))⟩ (fun hHeld=> ?_);clear hK K;refine kT (mG HT_.out (by kernel_rfl)) ?_
 try go_wp2
 refine bodyPost_ret (results_cell_row rfl _ _ gb272 36 #[.bool t275,.string t276,.string t277] (0,0) _ rfl (pkS3 BK272) Tryz.underlying36 rfl (by kernel_rfl)) rfl ?_;exact pkE HB
end Go.Proofs.YtignanmmgaldeaaGreatDoor.PCongI
end
section
set_option linter.unusedVariables false
set_option linter.unusedSimpArgs false
set_option maxHeartbeats 8000000
set_option maxRecDepth 100000
namespace Go.Proofs.YtignanmmgaldeaaGreatDoor.PCongI
open Go.RowKit Go.Proofs.YtignanmmgaldeaaGreatDoorW.PrintWords Go.Proofs.YtignanmmgaldeaaGreatDoorW.PrintLast Go.Proofs.YtignanmmgaldeaaGreatDoorW.PrintMore
attribute [local go_sem] gI gJ iE iF
def fU.f(k:Nat)(a0_0:Bool)(a0_1:ByteArray)(a0_2:ByteArray)(a1_0:Bool)(a1_1:ByteArray)(a1_2:ByteArray):Option (Bool×ByteArray×ByteArray):=(dO.f a0_1 a1_1).bind fun t281=>((gV.f a0_2 a1_2).bind fun t282=>((bI.f k t281 t282).bind fun bt283=>(some (bt283.1,bt283.2.1,bt283.2.2))))
def fU.T1:Bool×List (List Nat×List Nat):=(true,[([],[]),([0],[0]),([],[]),([2],[2]),([1,3],[1,3]),([],[]),([5],[5]),([],[]),([7],[7]),([6,8,4],[6,8]),([4,9,9],[4,9]),([10,10,0,1,2,3,4,5,6,7,8,9,10],[10])])
def fU.B1:List Nat:= [0,1,0,4,15,0,32,0,128,511,1023,2047]
theorem fU.tab1:rtab .any (opsOf Tryz.f121 1)=fU.T1:=by kernel_rfl
theorem fU.bits1:kV fU.T1.2 fU.B1=true:=by kernel_rfl
theorem fU.calls(k:Nat)(a0_0:Bool)(a0_1:ByteArray)(a0_2:ByteArray)(a1_0:Bool)(a1_1:ByteArray)(a1_2:ByteArray)(r1:Bool)(r2:ByteArray)(r3:ByteArray)(w:World)(hG:GW w)(h:fU.f k a0_0 a0_1 a0_2 a1_0 a1_1 a1_2=some (r1,r2,r3)) :
 Calls Tryz.prog 121 #[.agg #[.bool a0_0,.string a0_1,.string a0_2],.agg #[.bool a1_0,.string a1_1,.string a1_2]] w fun e w'=>e= .returned (.agg #[.bool r1,.string r2,.string r3])∧Below w.heap.size w w':=by
 have HG:=aA.mk hG;clear hG;have hu36:=Tryz.underlying36;have HB:=aA.mk (Below.refl w.heap.size w);have H:((dO.f a0_1 a1_1).bind fun t281=>((gV.f a0_2 a1_2).bind fun t282=>((bI.f k t281 t282).bind fun bt283=>(some (bt283.1,bt283.2.1,bt283.2.2)))))=some (r1,r2,r3):=h;clear h;obtain⟨t281,A3,H⟩:=bi H;try dsimp only at H
 obtain⟨t282,A4,H⟩:=bi H;try dsimp only at H
 obtain⟨⟨t283,t284,t285⟩,A5,H⟩:=bi H;try dsimp only at H
 simp only[Option.some.injEq,Prod.mk.injEq] at H;obtain⟨rfl,rfl,rfl⟩:=H;go_enter Tryz.func121,Tryz.ntmps121
 try go_wp2_with(first|((with_reducible refine aJ (N:=2) rfl ?_);refine bx_ 2 36 #[.bool a0_0,.string a0_1,.string a0_2] (h:= ?_);intro gb278 hg w6 hbox hb;have BK278:=aA.mk (hbox);have GW278:=pkG HB hg;have GE278:=GW278;replace HB:=pkB HB hb;clear hb hbox hg)|((with_reducible refine aJ (N:=3) rfl ?_);refine bx_ 3 36 #[.bool a1_0,.string a1_1,.string a1_2] (h:= ?_);intro gb279 hg w7 hbox hb;have BK279:=aA.mk (hbox);have GW279:=pkG HB hg;have GE279:=GW279;obtain⟨NB278_279,NB279_278,_,_⟩:=pkQ BK278 hg;replace BK278:=pkK BK278 hb;replace HB:=pkB HB hb;clear hb hbox hg)|((with_reducible refine aJ (N:=4) rfl ?_);refine bx_ 4 36 #[.bool false,.string (⟨#[]⟩:ByteArray),.string (⟨#[]⟩:ByteArray)] (h:= ?_);intro gb280 hg w8 hbox hb;have BK280:=aA.mk (hbox);have GW280:=pkG HB hg;have GE280:=GW280;obtain⟨NB278_280,NB280_278,_,_⟩:=pkQ BK278 hg;obtain⟨NB279_280,NB280_279,_,_⟩:=pkQ BK279 hg;replace BK278:=pkK BK278 hb;replace BK279:=pkK BK279 hb;replace HB:=pkB HB hb;clear hb hbox hg))
 replace BK278:=aA.mk (aQ BK278.out);replace BK279:=aA.mk (aQ BK279.out);replace BK280:=aA.mk (aQ BK280.out);replace HB:=aA.mk (bG HB.out)
 refine jY (n:=12) (S:=fun w'=>w'.cell? ⟨gb278,0,none⟩=some (.bool a0_0)∧w'.cell? ⟨gb278,1,none⟩=some (.string a0_1)∧w'.cell? ⟨gb278,2,none⟩=some (.string a0_2)∧w'.cell? ⟨gb279,0,none⟩=some (.bool a1_0)∧w'.cell? ⟨gb279,1,none⟩=some (.string a1_1)∧w'.cell? ⟨gb279,2,none⟩=some (.string a1_2)) (ds:= []) #[false,false,false,false,false,false,false,false,false,false,false,false] (by kernel_rfl) rfl rfl ⟨(aC BK278.out 0).trans rfl,(aC BK278.out 1).trans rfl,(aC BK278.out 2).trans rfl,(aC BK279.out 0).trans rfl,(aC BK279.out 1).trans rfl,(aC BK279.out 2).trans rfl⟩ (fun hHeld=> ?_);refine kP fU.tab1 fU.bits1 (fun HT_ HW_=> ?_)
 generalize w8.drew=w9 at BK278 BK279 BK280 HB hHeld ⊢;refine pr_ 0 5 (h:= ?_);refine pr_ 2 7 (h:= ?_);refine pr_ 5 10 (h:= ?_);refine pr_ 7 12 (h:= ?_);refine tk_ 1 6 hHeld (hy:=by rintro w' ⟨s0,s1,s2,s3,s4,s5⟩;go_simp;with_reducible rfl) (h:= ?_);refine tk_ 3 8 hHeld (hy:=by rintro w' ⟨s0,s1,s2,s3,s4,s5⟩;go_simp;with_reducible rfl) (h:= ?_);refine tk_ 6 11 hHeld (hy:=by rintro w' ⟨s0,s1,s2,s3,s4,s5⟩;go_simp;with_reducible rfl) (h:= ?_);refine tk_ 8 13 hHeld (hy:=by rintro w' ⟨s0,s1,s2,s3,s4,s5⟩;go_simp;with_reducible rfl) (h:= ?_);refine on_ 4 9 (h:=fun K hK=> ?_);refine g1_ Tryz.func110 #[.string a0_1,.string a1_1] (h:= ?_);with_reducible refine(dO.calls (hG:=HG.out.below (pkL HB)) a0_1 a1_1 t281 _ A3.out).mono ?_
 rintro e w10 ⟨rfl,hb⟩;refine⟨_,rfl,?_⟩;replace BK278:=pkK BK278 hb;replace BK279:=pkK BK279 hb;replace BK280:=pkK BK280 hb;replace HB:=pkB HB hb
 (try clear hb)
 (try clear hb2)
 (try clear hk)
 (try clear hi)
 refine hK.out _ _ ⟨(aC BK278.out 0).trans rfl,(aC BK278.out 1).trans rfl,(aC BK278.out 2).trans rfl,(aC BK279.out 0).trans rfl,(aC BK279.out 1).trans rfl,(aC BK279.out 2).trans rfl⟩ (fun hHeld=> ?_);clear hK K;refine gG (a':= ?_) ?_ ?_
 rotate_left
 ·show Act.put _ (some 9) _=_
  simp only[Act.put,List.setIfInBounds_toArray,List.set_cons_zero,List.set_cons_succ,dE,dM];rfl
 refine on_ 9 14 (h:=fun K hK=> ?_);refine g1_ Tryz.func111 #[.string a0_2,.string a1_2] (h:= ?_);with_reducible refine(gV.calls (hG:=HG.out.below (pkL HB)) a0_2 a1_2 t282 _ A4.out).mono ?_
 rintro e w11 ⟨rfl,hb⟩;refine⟨_,rfl,?_⟩;replace BK278:=pkK BK278 hb;replace BK279:=pkK BK279 hb;replace BK280:=pkK BK280 hb;replace HB:=pkB HB hb
 (try clear hb)
 (try clear hb2)
 (try clear hk)
 (try clear hi)
 refine hK.out _ _ ⟨(aC BK278.out 0).trans rfl,(aC BK278.out 1).trans rfl,(aC BK278.out 2).trans rfl,(aC BK279.out 0).trans rfl,(aC BK279.out 1).trans rfl,(aC BK279.out 2).trans rfl⟩ (fun hHeld=> ?_);clear hK K;refine gG (a':= ?_) ?_ ?_
 rotate_left
 ·show Act.put _ (some 14) _=_
  simp only[Act.put,List.setIfInBounds_toArray,List.set_cons_zero,List.set_cons_succ,dE,dM];rfl
 refine on_ 10 15 (h:=fun K hK=> ?_);refine g1_ Tryz.func109 #[.string t281,.string t282] (h:= ?_);with_reducible refine(bI.calls (hG:=HG.out.below (pkL HB)) k t281 t282 t283 t284 t285 _ A5.out).mono ?_
 rintro e w12 ⟨rfl,hb⟩;refine⟨_,rfl,?_⟩;replace BK278:=pkK BK278 hb;replace BK279:=pkK BK279 hb;replace BK280:=pkK BK280 hb;replace HB:=pkB HB hb
 (try clear hb)
 (try clear hb2)
 (try clear hk)
 (try clear hi)
 refine hK.out _ _ ⟨(aC BK278.out 0).trans rfl,(aC BK278.out 1).trans rfl,(aC BK278.out 2).trans rfl,(aC BK279.out 0).trans rfl,(aC BK279.out 1).trans rfl,(aC BK279.out 2).trans rfl⟩ (fun hHeld=> ?_);clear hK K;refine gG (a':= ?_) ?_ ?_
 rotate_left
 ·show Act.put _ (some 15) _=_
  simp only[Act.put,List.setIfInBounds_toArray,List.set_cons_zero,List.set_cons_succ,dE,dM];rfl
 refine one_ (i:=11) (N:=none) #[true,true,true,true,true,true,true,true,true,true,true,true] rfl rfl (yA HT_.out (by kernel_rfl)) aCr (fun K hK=> ?_);have hs13:w12.cell? ⟨gb280,0,none⟩=some (.bool false):=(aC BK280.out 0).trans rfl;have hfs13:=aI BK280.out 0;have hns13_0:=NB278_280.out;have hns13_1:=NB279_280.out;have hms13_0:=NB280_278.out;have hms13_1:=NB280_279.out;have hs14:w12.cell? ⟨gb280,1,none⟩=some (.string (⟨#[]⟩:ByteArray)):=(aC BK280.out 1).trans rfl;have hfs14:=aI BK280.out 1;have hns14_0:=NB278_280.out;have hns14_1:=NB279_280.out;have hms14_0:=NB280_278.out;have hms14_1:=NB280_279.out;have hs15:w12.cell? ⟨gb280,2,none⟩=some (.string (⟨#[]⟩:ByteArray)):=(aC BK280.out 2).trans rfl;have hfs15:=aI BK280.out 2;have hns15_0:=NB278_280.out;have hns15_1:=NB279_280.out;have hms15_0:=NB280_278.out;have hms15_1:=NB280_279.out;refine skip_ (w1:= ?_) (by rfl) rfl ?_ ?_
 rotate_left
 ·go_simp
  rfl
 refine hK.out _ _ ⟨((aCt (p:=⟨gb280,_,none⟩) NB278_280.out _).trans (((aCt (p:=⟨gb280,_,none⟩) NB278_280.out _).trans (((aCt (p:=⟨gb280,_,none⟩) NB278_280.out _).trans (hHeld.1)))))),((aCt (p:=⟨gb280,_,none⟩) NB278_280.out _).trans (((aCt (p:=⟨gb280,_,none⟩) NB278_280.out _).trans (((aCt (p:=⟨gb280,_,none⟩) NB278_280.out _).trans (hHeld.2.1)))))),((aCt (p:=⟨gb280,_,none⟩) NB278_280.out _).trans (((aCt (p:=⟨gb280,_,none⟩) NB278_280.out _).trans (((aCt (p:=⟨gb280,_,none⟩) NB278_280.out _).trans (hHeld.2.2.1)))))),((aCt (p:=⟨gb280,_,none⟩) NB279_280.out _).trans (((aCt (p:=⟨gb280,_,none⟩) NB279_280.out _).trans (((aCt (p:=⟨gb280,_,none⟩) NB279_280.out _).trans (hHeld.2.2.2.1)))))),((aCt (p:=⟨gb280,_,none⟩) NB279_280.out _).trans (((aCt (p:=⟨gb280,_,none⟩) NB279_280.out _).trans (((aCt (p:=⟨gb280,_,none⟩) NB279_280.out _).trans (hHeld.2.2.2.2.1)))))),((aCt (p:=⟨gb280,_,none⟩) NB279_280.out _).trans (((aCt (p:=⟨gb280,_,none⟩) NB279_280.out _).trans (((aCt (p:=⟨gb280,_,none⟩) NB279_280.out _).trans (hHeld.2.2.2.2.2))))))⟩ (fun hHeld=> ?_);clear hK K;refine kT (mG HT_.out (by kernel_rfl)) ?_
 try go_wp2
 refine bodyPost_ret (results_cell_row rfl _ _ gb280 36 #[.bool t283,.string t284,.string t285] (0,0) _ rfl (pkS3 BK280) Tryz.underlying36 rfl (by kernel_rfl)) rfl ?_;exact pkE HB
def fV.f(k:Nat)(a0_0:Bool)(a0_1:ByteArray)(a0_2:ByteArray)(a1_0:Bool)(a1_1:ByteArray)(a1_2:ByteArray):Option (Bool×ByteArray×ByteArray):=(fK.f a0_1 a1_1).bind fun t289=>((fK.f a0_1 a1_2).bind fun t290=>((fK.f a1_1 a0_2).bind fun t291=>((dO.f t290 t291).bind fun t292=>((dO.f t289 t292).bind fun t293=>((fK.f a0_2 a1_2).bind fun t294=>((bI.f k t293 t294).bind fun bt295=>(some (bt295.1,bt295.2.1,bt295.2.2))))))))
def fV.T1:Bool×List (List Nat×List Nat):=(true,[([],[]),([0],[0]),([],[]),([2],[2]),([1,3],[1,3]),([],[]),([5],[5]),([],[]),([7],[7]),([6,8,4],[6,8]),([],[]),([10],[10]),([],[]),([12],[12]),([11,13,9],[11,13]),([9,14,14],[9,14]),([4,15,15],[4,15]),([16,16,0,1,2,3,4,5,6,7,8,9,10,11,12,13,14,15,16],[16])])
def fV.B1:List Nat:= [0,1,0,4,15,0,32,0,128,511,0,1024,0,4096,16383,32767,65535,131071]
theorem fV.tab1:rtab .any (opsOf Tryz.f123 1)=fV.T1:=by kernel_rfl
theorem fV.bits1:kV fV.T1.2 fV.B1=true:=by kernel_rfl
theorem fV.calls(k:Nat)(a0_0:Bool)(a0_1:ByteArray)(a0_2:ByteArray)(a1_0:Bool)(a1_1:ByteArray)(a1_2:ByteArray)(r1:Bool)(r2:ByteArray)(r3:ByteArray)(w:World)(hG:GW w)(h:fV.f k a0_0 a0_1 a0_2 a1_0 a1_1 a1_2=some (r1,r2,r3)) :
 Calls Tryz.prog 123 #[.agg #[.bool a0_0,.string a0_1,.string a0_2],.agg #[.bool a1_0,.string a1_1,.string a1_2]] w fun e w'=>e= .returned (.agg #[.bool r1,.string r2,.string r3])∧Below w.heap.size w w':=by
 have HG:=aA.mk hG;clear hG;have hu36:=Tryz.underlying36;have HB:=aA.mk (Below.refl w.heap.size w);have H:((fK.f a0_1 a1_1).bind fun t289=>((fK.f a0_1 a1_2).bind fun t290=>((fK.f a1_1 a0_2).bind fun t291=>((dO.f t290 t291).bind fun t292=>((dO.f t289 t292).bind fun t293=>((fK.f a0_2 a1_2).bind fun t294=>((bI.f k t293 t294).bind fun bt295=>(some (bt295.1,bt295.2.1,bt295.2.2)))))))))=some (r1,r2,r3):=h;clear h;obtain⟨t289,A3,H⟩:=bi H;try dsimp only at H
 obtain⟨t290,A4,H⟩:=bi H;try dsimp only at H
 obtain⟨t291,A5,H⟩:=bi H;try dsimp only at H
 obtain⟨t292,A6,H⟩:=bi H;try dsimp only at H
 obtain⟨t293,A7,H⟩:=bi H;try dsimp only at H
 obtain⟨t294,A8,H⟩:=bi H;try dsimp only at H
 obtain⟨⟨t295,t296,t297⟩,A9,H⟩:=bi H;try dsimp only at H
 simp only[Option.some.injEq,Prod.mk.injEq] at H;obtain⟨rfl,rfl,rfl⟩:=H;go_enter Tryz.func123,Tryz.ntmps123
 try go_wp2_with(first|((with_reducible refine aJ (N:=2) rfl ?_);refine bx_ 2 36 #[.bool a0_0,.string a0_1,.string a0_2] (h:= ?_);intro gb286 hg w10 hbox hb;have BK286:=aA.mk (hbox);have GW286:=pkG HB hg;have GE286:=GW286;replace HB:=pkB HB hb;clear hb hbox hg)|((with_reducible refine aJ (N:=3) rfl ?_);refine bx_ 3 36 #[.bool a1_0,.string a1_1,.string a1_2] (h:= ?_);intro gb287 hg w11 hbox hb;have BK287:=aA.mk (hbox);have GW287:=pkG HB hg;have GE287:=GW287;obtain⟨NB286_287,NB287_286,_,_⟩:=pkQ BK286 hg;replace BK286:=pkK BK286 hb;replace HB:=pkB HB hb;clear hb hbox hg)|((with_reducible refine aJ (N:=4) rfl ?_);refine bx_ 4 36 #[.bool false,.string (⟨#[]⟩:ByteArray),.string (⟨#[]⟩:ByteArray)] (h:= ?_);intro gb288 hg w12 hbox hb;have BK288:=aA.mk (hbox);have GW288:=pkG HB hg;have GE288:=GW288;obtain⟨NB286_288,NB288_286,_,_⟩:=pkQ BK286 hg;obtain⟨NB287_288,NB288_287,_,_⟩:=pkQ BK287 hg;replace BK286:=pkK BK286 hb;replace BK287:=pkK BK287 hb;replace HB:=pkB HB hb;clear hb hbox hg))
 replace BK286:=aA.mk (aQ BK286.out);replace BK287:=aA.mk (aQ BK287.out);replace BK288:=aA.mk (aQ BK288.out);replace HB:=aA.mk (bG HB.out)
 refine jY (n:=18) (S:=fun w'=>w'.cell? ⟨gb286,0,none⟩=some (.bool a0_0)∧w'.cell? ⟨gb286,1,none⟩=some (.string a0_1)∧w'.cell? ⟨gb286,2,none⟩=some (.string a0_2)∧w'.cell? ⟨gb287,0,none⟩=some (.bool a1_0)∧w'.cell? ⟨gb287,1,none⟩=some (.string a1_1)∧w'.cell? ⟨gb287,2,none⟩=some (.string a1_2)) (ds:= []) #[false,false,false,false,false,false,false,false,false,false,false,false,false,false,false,false,false,false] (by kernel_rfl) rfl rfl ⟨(aC BK286.out 0).trans rfl,(aC BK286.out 1).trans rfl,(aC BK286.out 2).trans rfl,(aC BK287.out 0).trans rfl,(aC BK287.out 1).trans rfl,(aC BK287.out 2).trans rfl⟩ (fun hHeld=> ?_);refine kP fV.tab1 fV.bits1 (fun HT_ HW_=> ?_)
 generalize w12.drew=w13 at BK286 BK287 BK288 HB hHeld ⊢;refine pr_ 0 6 (h:= ?_);refine pr_ 2 8 (h:= ?_);refine pr_ 5 11 (h:= ?_);refine pr_ 7 13 (h:= ?_);refine pr_ 10 16 (h:= ?_);refine pr_ 12 18 (h:= ?_);refine tk_ 1 7 hHeld (hy:=by rintro w' ⟨s0,s1,s2,s3,s4,s5⟩;go_simp;with_reducible rfl) (h:= ?_);refine tk_ 3 9 hHeld (hy:=by rintro w' ⟨s0,s1,s2,s3,s4,s5⟩;go_simp;with_reducible rfl) (h:= ?_);refine tk_ 6 12 hHeld (hy:=by rintro w' ⟨s0,s1,s2,s3,s4,s5⟩;go_simp;with_reducible rfl) (h:= ?_);refine tk_ 8 14 hHeld (hy:=by rintro w' ⟨s0,s1,s2,s3,s4,s5⟩;go_simp;with_reducible rfl) (h:= ?_);refine tk_ 11 17 hHeld (hy:=by rintro w' ⟨s0,s1,s2,s3,s4,s5⟩;go_simp;with_reducible rfl) (h:= ?_);refine tk_ 13 19 hHeld (hy:=by rintro w' ⟨s0,s1,s2,s3,s4,s5⟩;go_simp;with_reducible rfl) (h:= ?_);refine on_ 4 10 (h:=fun K hK=> ?_);refine g1_ Tryz.func124 #[.string a0_1,.string a1_1] (h:= ?_);with_reducible refine(fK.calls (hG:=HG.out.below (pkL HB)) a0_1 a1_1 t289 _ A3.out).mono ?_
 rintro e w14 ⟨rfl,hb⟩;refine⟨_,rfl,?_⟩;replace BK286:=pkK BK286 hb;replace BK287:=pkK BK287 hb;replace BK288:=pkK BK288 hb;replace HB:=pkB HB hb
 (try clear hb)
 (try clear hb2)
 (try clear hk)
 (try clear hi)
 refine hK.out _ _ ⟨(aC BK286.out 0).trans rfl,(aC BK286.out 1).trans rfl,(aC BK286.out 2).trans rfl,(aC BK287.out 0).trans rfl,(aC BK287.out 1).trans rfl,(aC BK287.out 2).trans rfl⟩ (fun hHeld=> ?_);clear hK K;refine gG (a':= ?_) ?_ ?_
 rotate_left
 ·show Act.put _ (some 10) _=_
  simp only[Act.put,List.setIfInBounds_toArray,List.set_cons_zero,List.set_cons_succ,dE,dM];rfl
 refine on_ 9 15 (h:=fun K hK=> ?_);refine g1_ Tryz.func124 #[.string a0_1,.string a1_2] (h:= ?_);with_reducible refine(fK.calls (hG:=HG.out.below (pkL HB)) a0_1 a1_2 t290 _ A4.out).mono ?_
 rintro e w15 ⟨rfl,hb⟩;refine⟨_,rfl,?_⟩;replace BK286:=pkK BK286 hb;replace BK287:=pkK BK287 hb;replace BK288:=pkK BK288 hb;replace HB:=pkB HB hb
 (try clear hb)
 (try clear hb2)
 (try clear hk)
 (try clear hi)
 refine hK.out _ _ ⟨(aC BK286.out 0).trans rfl,(aC BK286.out 1).trans rfl,(aC BK286.out 2).trans rfl,(aC BK287.out 0).trans rfl,(aC BK287.out 1).trans rfl,(aC BK287.out 2).trans rfl⟩ (fun hHeld=> ?_);clear hK K;refine gG (a':= ?_) ?_ ?_
 rotate_left
 ·show Act.put _ (some 15) _=_
  simp only[Act.put,List.setIfInBounds_toArray,List.set_cons_zero,List.set_cons_succ,dE,dM];rfl
 refine on_ 14 20 (h:=fun K hK=> ?_);refine g1_ Tryz.func124 #[.string a1_1,.string a0_2] (h:= ?_);with_reducible refine(fK.calls (hG:=HG.out.below (pkL HB)) a1_1 a0_2 t291 _ A5.out).mono ?_
 rintro e w16 ⟨rfl,hb⟩;refine⟨_,rfl,?_⟩;replace BK286:=pkK BK286 hb;replace BK287:=pkK BK287 hb;replace BK288:=pkK BK288 hb;replace HB:=pkB HB hb
 (try clear hb)
 (try clear hb2)
 (try clear hk)
 (try clear hi)
 refine hK.out _ _ ⟨(aC BK286.out 0).trans rfl,(aC BK286.out 1).trans rfl,(aC BK286.out 2).trans rfl,(aC BK287.out 0).trans rfl,(aC BK287.out 1).trans rfl,(aC BK287.out 2).trans rfl⟩ (fun hHeld=> ?_);clear hK K;refine gG (a':= ?_) ?_ ?_
 rotate_left
 ·show Act.put _ (some 20) _=_
  simp only[Act.put,List.setIfInBounds_toArray,List.set_cons_zero,List.set_cons_succ,dE,dM];rfl
 refine on_ 15 21 (h:=fun K hK=> ?_);refine g1_ Tryz.func110 #[.string t290,.string t291] (h:= ?_);with_reducible refine(dO.calls (hG:=HG.out.below (pkL HB)) t290 t291 t292 _ A6.out).mono ?_
 rintro e w17 ⟨rfl,hb⟩;refine⟨_,rfl,?_⟩;replace BK286:=pkK BK286 hb;replace BK287:=pkK BK287 hb;replace BK288:=pkK BK288 hb;replace HB:=pkB HB hb
 (try clear hb)
 (try clear hb2)
 (try clear hk)
 (try clear hi)
 refine hK.out _ _ ⟨(aC BK286.out 0).trans rfl,(aC BK286.out 1).trans rfl,(aC BK286.out 2).trans rfl,(aC BK287.out 0).trans rfl,(aC BK287.out 1).trans rfl,(aC BK287.out 2).trans rfl⟩ (fun hHeld=> ?_);clear hK K;refine gG (a':= ?_) ?_ ?_
 rotate_left
 ·show Act.put _ (some 21) _=_
  simp only[Act.put,List.setIfInBounds_toArray,List.set_cons_zero,List.set_cons_succ,dE,dM];rfl
 refine on_ 16 22 (h:=fun K hK=> ?_);refine g1_ Tryz.func110 #[.string t289,.string t292] (h:= ?_);with_reducible refine(dO.calls (hG:=HG.out.below (pkL HB)) t289 t292 t293 _ A7.out).mono ?_
 rintro e w18 ⟨rfl,hb⟩;refine⟨_,rfl,?_⟩;replace BK286:=pkK BK286 hb;replace BK287:=pkK BK287 hb;replace BK288:=pkK BK288 hb;replace HB:=pkB HB hb
 (try clear hb)
 (try clear hb2)
 (try clear hk)
 (try clear hi)
 refine hK.out _ _ ⟨(aC BK286.out 0).trans rfl,(aC BK286.out 1).trans rfl,(aC BK286.out 2).trans rfl,(aC BK287.out 0).trans rfl,(aC BK287.out 1).trans rfl,(aC BK287.out 2).trans rfl⟩ (fun hHeld=> ?_);clear hK K;refine gG (a':= ?_) ?_ ?_
 rotate_left
 ·show Act.put _ (some 22) _=_
  simp only[Act.put,List.setIfInBounds_toArray,List.set_cons_zero,List.set_cons_succ,dE,dM];rfl
 refine pr_ 17 5 (h:= ?_);refine kT (mG HT_.out (by kernel_rfl)) ?_;have hnb19:=NB286_287.out;have hnc19:=NB287_286.out;have hnb20:=NB286_288.out;have hnc20:=NB288_286.out;obtain⟨⟨hcz21_0,hcz21_1,hcz21_2⟩,hfz21_0,hfz21_1,hfz21_2⟩:=pk3 BK286;have hnb22:=NB287_288.out;have hnc22:=NB288_287.out;obtain⟨⟨hcz23_0,hcz23_1,hcz23_2⟩,hfz23_0,hfz23_1,hfz23_2⟩:=pk3 BK287
 try go_wp2_with(first|((with_reducible refine aG (f:=124) rfl ?_);refine gl_ 28 Tryz.func124 #[.string a0_2,.string a1_2] (h:= ?_);(with_reducible refine(fK.calls (hG:=HG.out.below (pkL HB)) a0_2 a1_2 t294 _ A8.out).mono ?_);rintro e w24 ⟨rfl,hb⟩;refine⟨_,rfl,?_⟩;replace BK286:=pkK BK286 hb;replace BK287:=pkK BK287 hb;replace BK288:=pkK BK288 hb;replace HB:=pkB HB hb;try clear hb)|((with_reducible refine aG (f:=109) rfl ?_);refine gl_ 29 Tryz.func109 #[.string t293,.string t294] (h:= ?_);(with_reducible refine(bI.calls (hG:=HG.out.below (pkL HB)) k t293 t294 t295 t296 t297 _ A9.out).mono ?_);rintro e w25 ⟨rfl,hb⟩;refine⟨_,rfl,?_⟩;replace BK286:=pkK BK286 hb;replace BK287:=pkK BK287 hb;replace BK288:=pkK BK288 hb;replace HB:=pkB HB hb;try clear hb;obtain⟨⟨hcz26_0,hcz26_1,hcz26_2⟩,hfz26_0,hfz26_1,hfz26_2⟩:=pk3 BK288))
 refine bodyPost_ret (results_cell_row rfl _ _ gb288 36 #[.bool t295,.string t296,.string t297] (0,0) _ rfl (pkS3 BK288) Tryz.underlying36 rfl (by kernel_rfl)) rfl ?_;exact pkE HB
def jB.f(a0:ByteArray)(a1:ByteArray)(a2:ByteArray):Option (ByteArray×Int):=(fC.f a0 a2).bind fun bt298=>(if bt298.2=0 then((fC.f a1 a2).bind fun bt300=>(if bt300.2=0 then((gV.f bt298.1 bt300.1).bind fun t302=>((fC.f t302 a2).bind fun bt303=>(some (bt303.1,bt303.2)))) else(some ((⟨#[]⟩:ByteArray),bt300.2)))) else(some ((⟨#[]⟩:ByteArray),bt298.2)))
theorem jB.calls(a0:ByteArray)(a1:ByteArray)(a2:ByteArray)(r1:ByteArray)(r2:Int)(w:World)(hG:GW w)(h:jB.f a0 a1 a2=some (r1,r2)) :
 Calls Tryz.prog 132 #[.string a0,.string a1,.string a2] w fun e w'=>e= .returned (.tuple #[.string r1,.int .i64 r2])∧Below w.heap.size w w':=by
 have HG:=aA.mk hG;clear hG;have HB:=aA.mk (Below.refl w.heap.size w);have H:((fC.f a0 a2).bind fun bt298=>(if bt298.2=0 then((fC.f a1 a2).bind fun bt300=>(if bt300.2=0 then((gV.f bt298.1 bt300.1).bind fun t302=>((fC.f t302 a2).bind fun bt303=>(some (bt303.1,bt303.2)))) else(some ((⟨#[]⟩:ByteArray),bt300.2)))) else(some ((⟨#[]⟩:ByteArray),bt298.2))))=some (r1,r2):=h;clear h;obtain⟨⟨t298,t299⟩,A4,H⟩:=bi H;try dsimp only at H
 by_cases c5:t299=0
 ·rw[if_pos c5] at H
  have c5b0:(t299==0)=true:=beq_iff_eq.mpr c5;have c5b1:(t299 != 0)=false:=bne_eq_false_iff_eq.mpr c5;clear c5;obtain⟨⟨t300,t301⟩,A6,H⟩:=bi H;try dsimp only at H
  by_cases c7:t301=0
  ·rw[if_pos c7] at H
   have c7b0:(t301==0)=true:=beq_iff_eq.mpr c7;have c7b1:(t301 != 0)=false:=bne_eq_false_iff_eq.mpr c7;clear c7;obtain⟨t302,A8,H⟩:=bi H;try dsimp only at H
   obtain⟨⟨t303,t304⟩,A9,H⟩:=bi H;try dsimp only at H
   simp only[Option.some.injEq,Prod.mk.injEq] at H;obtain⟨rfl,rfl⟩:=H;go_enter Tryz.func132,Tryz.ntmps132
   go_wp2_with(first|((with_reducible refine aG (f:=20) rfl ?_);refine gl_ 14 Tryz.func20 #[.string a0,.string a2] (h:= ?_);(with_reducible refine(fC.calls (hG:=HG.out.below (pkL HB)) a0 a2 t298 t299 _ A4.out).mono ?_);rintro e w10 ⟨rfl,hb⟩;refine⟨_,rfl,?_⟩;replace HB:=pkB HB hb;try clear hb)|((with_reducible refine aG (f:=20) rfl ?_);refine gl_ 23 Tryz.func20 #[.string a1,.string a2] (h:= ?_);(with_reducible refine(fC.calls (hG:=HG.out.below (pkL HB)) a1 a2 t300 t301 _ A6.out).mono ?_);rintro e w11 ⟨rfl,hb⟩;refine⟨_,rfl,?_⟩;replace HB:=pkB HB hb;try clear hb)|((with_reducible refine aG (f:=111) rfl ?_);refine gl_ 31 Tryz.func111 #[.string t298,.string t300] (h:= ?_);(with_reducible refine(gV.calls (hG:=HG.out.below (pkL HB)) t298 t300 t302 _ A8.out).mono ?_);rintro e w12 ⟨rfl,hb⟩;refine⟨_,rfl,?_⟩;replace HB:=pkB HB hb;try clear hb)|((with_reducible refine aG (f:=20) rfl ?_);refine gl_ 33 Tryz.func20 #[.string t302,.string a2] (h:= ?_);(with_reducible refine(fC.calls (hG:=HG.out.below (pkL HB)) t302 a2 t303 t304 _ A9.out).mono ?_);rintro e w13 ⟨rfl,hb⟩;refine⟨_,rfl,?_⟩;replace HB:=pkB HB hb;try clear hb))
   go_ret2
   exact pkE HB
  ·rw[if_neg c7] at H
   have c7b0:(t301==0)=false:=beq_eq_false_iff_ne.mpr c7;have c7b1:(t301 != 0)=true:=bne_iff_ne.mpr c7;simp only[Option.some.injEq,Prod.mk.injEq] at H;obtain⟨rfl,rfl⟩:=H;go_enter Tryz.func132,Tryz.ntmps132
   go_wp2_with(first|((with_reducible refine aG (f:=20) rfl ?_);refine gl_ 14 Tryz.func20 #[.string a0,.string a2] (h:= ?_);(with_reducible refine(fC.calls (hG:=HG.out.below (pkL HB)) a0 a2 t298 t299 _ A4.out).mono ?_);rintro e w14 ⟨rfl,hb⟩;refine⟨_,rfl,?_⟩;replace HB:=pkB HB hb;try clear hb)|((with_reducible refine aG (f:=20) rfl ?_);refine gl_ 23 Tryz.func20 #[.string a1,.string a2] (h:= ?_);(with_reducible refine(fC.calls (hG:=HG.out.below (pkL HB)) a1 a2 t300 t301 _ A6.out).mono ?_);rintro e w15 ⟨rfl,hb⟩;refine⟨_,rfl,?_⟩;replace HB:=pkB HB hb;try clear hb))
   go_ret2
   exact pkE HB
 ·rw[if_neg c5] at H
  have c5b0:(t299==0)=false:=beq_eq_false_iff_ne.mpr c5;have c5b1:(t299 != 0)=true:=bne_iff_ne.mpr c5;simp only[Option.some.injEq,Prod.mk.injEq] at H;obtain⟨rfl,rfl⟩:=H;go_enter Tryz.func132,Tryz.ntmps132
  go_wp2_with(first|((with_reducible refine aG (f:=20) rfl ?_);refine gl_ 14 Tryz.func20 #[.string a0,.string a2] (h:= ?_);(with_reducible refine(fC.calls (hG:=HG.out.below (pkL HB)) a0 a2 t298 t299 _ A4.out).mono ?_);rintro e w16 ⟨rfl,hb⟩;refine⟨_,rfl,?_⟩;replace HB:=pkB HB hb;try clear hb))
  go_ret2
  exact pkE HB
end Go.Proofs.YtignanmmgaldeaaGreatDoor.PCongI
end
section
set_option linter.unusedVariables false
set_option linter.unusedSimpArgs false
set_option maxHeartbeats 8000000
set_option maxRecDepth 100000
namespace Go.Proofs.YtignanmmgaldeaaGreatDoor.PCongI
open Go.RowKit Go.Proofs.YtignanmmgaldeaaGreatDoorW.PrintWords Go.Proofs.YtignanmmgaldeaaGreatDoorW.PrintLast Go.Proofs.YtignanmmgaldeaaGreatDoorW.PrintMore
attribute [local go_sem] gI gJ iE iF
attribute [local go_sem high] eqA36
def aV.j0(g:Bool→ByteArray→ByteArray→Bool→ByteArray→ByteArray→Option (Bool×ByteArray×ByteArray)):Nat→Bool→Bool→ByteArray→ByteArray→Bool→ByteArray→ByteArray→Option (Bool×ByteArray×ByteArray×Int)
 |0,_,_,_,_,_,_,_=>none
 |k+1,x21,x102000,x102001,x102002,x103000,x103001,x103002=>if x21=true then((iY.f).bind fun bt105=>(some (bt105.1,bt105.2.1,bt105.2.2,0))) else((g x102000 x102001 x102002 x103000 x103001 x103002).bind fun bt108=>(some (bt108.1,bt108.2.1,bt108.2.2,0)))
def aV.f(g:Bool→ByteArray→ByteArray→Bool→ByteArray→ByteArray→Option (Bool×ByteArray×ByteArray))(k:Nat)(a1_0:Bool)(a1_1:ByteArray)(a1_2:ByteArray)(a2_0:Bool)(a2_1:ByteArray)(a2_2:ByteArray):Option (Bool×ByteArray×ByteArray×Int):=(gB.f k a1_0 a1_1 a1_2 a2_0 a2_1 a2_2).bind fun t104=>(if t104=0 then(if a1_0=true then(aV.j0 g k true a1_0 a1_1 a1_2 a2_0 a2_1 a2_2) else(aV.j0 g k a2_0 a1_0 a1_1 a1_2 a2_0 a2_1 a2_2)) else(some (false,(⟨#[]⟩:ByteArray),(⟨#[]⟩:ByteArray),t104)))
theorem aV.calls(k:Nat)(F:FuncId)(fn:Func)(hF:Tryz.prog.funcs[F]? =some fn)(hFn:(fn.name== "runtime.NumGoroutine")=false)(hFb:fn.body.isSome=true)(g:Bool→ByteArray→ByteArray→Bool→ByteArray→ByteArray→Option (Bool×ByteArray×ByteArray))(gc:∀(a0:Bool) (a1 a2:ByteArray) (b0:Bool) (b1 b2:ByteArray) (r1:Bool) (r2 r3:ByteArray) (w:World) (hG:GW w) (h:g a0 a1 a2 b0 b1 b2=some (r1,r2,r3)),Calls Tryz.prog F #[.agg #[.bool a0,.string a1,.string a2],.agg #[.bool b0,.string b1,.string b2]] w fun e w'=>e= .returned (.agg #[.bool r1,.string r2,.string r3])∧Below w.heap.size w w')(a1_0:Bool)(a1_1:ByteArray)(a1_2:ByteArray)(a2_0:Bool)(a2_1:ByteArray)(a2_2:ByteArray)(r1:Bool)(r2:ByteArray)(r3:ByteArray)(r4:Int)(w:World)(hG:GW w)(h:aV.f g k a1_0 a1_1 a1_2 a2_0 a2_1 a2_2=some (r1,r2,r3,r4)) :
 Calls Tryz.prog 101 #[.func (.func F) #[] #[],.agg #[.bool a1_0,.string a1_1,.string a1_2],.agg #[.bool a2_0,.string a2_1,.string a2_2]] w fun e w'=>e= .returned (.tuple #[.agg #[.bool r1,.string r2,.string r3],.int .i64 r4])∧Below w.heap.size w w':=by
 have HG:=aA.mk hG;clear hG;have hu36:=Tryz.underlying36;have HB:=aA.mk (Below.refl w.heap.size w);have H:((gB.f k a1_0 a1_1 a1_2 a2_0 a2_1 a2_2).bind fun t104=>(if t104=0 then(if a1_0=true then(aV.j0 g k true a1_0 a1_1 a1_2 a2_0 a2_1 a2_2) else(aV.j0 g k a2_0 a1_0 a1_1 a1_2 a2_0 a2_1 a2_2)) else(some (false,(⟨#[]⟩:ByteArray),(⟨#[]⟩:ByteArray),t104))))=some (r1,r2,r3,r4):=h;clear h;obtain⟨t104,A4,H⟩:=bi H;try dsimp only at H
 by_cases c5:t104=0
 ·rw[if_pos c5] at H
  have c5b0:(t104==0)=true:=beq_iff_eq.mpr c5;have c5b1:(t104 != 0)=false:=bne_eq_false_iff_eq.mpr c5;clear c5;have HC6:=aA.mk H;clear H;go_enter Tryz.func101,Tryz.ntmps101
  go_upto_region 4 with (first|((with_reducible refine aJ (N:=4) rfl ?_);refine bx_ 4 36 #[.bool a1_0,.string a1_1,.string a1_2] (h:= ?_);intro gb101 hg w7 hbox hb;have BK101:=aA.mk (hbox);have GW101:=pkG HB hg;have GE101:=GW101;replace HB:=pkB HB hb;clear hb hbox hg)|((with_reducible refine aJ (N:=5) rfl ?_);refine bx_ 5 36 #[.bool a2_0,.string a2_1,.string a2_2] (h:= ?_);intro gb102 hg w8 hbox hb;have BK102:=aA.mk (hbox);have GW102:=pkG HB hg;have GE102:=GW102;obtain⟨NB101_102,NB102_101,_,_⟩:=pkQ BK101 hg;replace BK101:=pkK BK101 hb;replace HB:=pkB HB hb;clear hb hbox hg)|((with_reducible refine aJ (N:=6) rfl ?_);refine bx_ 6 36 #[.bool false,.string (⟨#[]⟩:ByteArray),.string (⟨#[]⟩:ByteArray)] (h:= ?_);intro gb103 hg w9 hbox hb;have BK103:=aA.mk (hbox);have GW103:=pkG HB hg;have GE103:=GW103;obtain⟨NB101_103,NB103_101,_,_⟩:=pkQ BK101 hg;obtain⟨NB102_103,NB103_102,_,_⟩:=pkQ BK102 hg;replace BK101:=pkK BK101 hb;replace BK102:=pkK BK102 hb;replace HB:=pkB HB hb;clear hb hbox hg;have hnb10:=NB101_102.out;have hnc10:=NB102_101.out;have hnb11:=NB101_103.out;have hnc11:=NB103_101.out;obtain⟨⟨hcz12_0,hcz12_1,hcz12_2⟩,hfz12_0,hfz12_1,hfz12_2⟩:=pk3 BK101;have hnb13:=NB102_103.out;have hnc13:=NB103_102.out;obtain⟨⟨hcz14_0,hcz14_1,hcz14_2⟩,hfz14_0,hfz14_1,hfz14_2⟩:=pk3 BK102)|((with_reducible refine aG (f:=106) rfl ?_);refine gl_ 11 Tryz.func106 #[.agg #[.bool a1_0,.string a1_1,.string a1_2],.agg #[.bool a2_0,.string a2_1,.string a2_2]] (h:= ?_);(with_reducible refine(gB.calls k a1_0 a1_1 a1_2 a2_0 a2_1 a2_2 t104 _ A4.out).mono ?_);rintro e w15 ⟨rfl,hb⟩;refine⟨_,rfl,?_⟩;replace BK101:=pkK BK101 hb;replace BK102:=pkK BK102 hb;replace BK103:=pkK BK103 hb;replace HB:=pkB HB hb;try clear hb))
  (try simp only[Act.put,List.setIfInBounds_toArray,List.set_cons_zero,List.set_cons_succ])
  go_cut [21] (fun v21 wc=>∃(kq:Nat) (x21_5:Bool),v21= .bool x21_5∧aA (aV.j0 g kq x21_5 a1_0 a1_1 a1_2 a2_0 a2_1 a2_2=some (r1,r2,r3,r4))∧aA (kq≤k)∧aA (wc.heap[gb101]? =some (.cells #[.bool a1_0,.string a1_1,.string a1_2] 36 (0,0)))∧aA (wc.heap[gb102]? =some (.cells #[.bool a2_0,.string a2_1,.string a2_2] 36 (0,0)))∧aA (wc.heap[gb103]? =some (.cells #[.bool false,.string (⟨#[]⟩:ByteArray),.string (⟨#[]⟩:ByteArray)] 36 (0,0)))∧aA (Below w.heap.size w wc))
  case first=>
   have H:=HC6.out;clear HC6
   by_cases c16:a1_0=true
   ·subst c16
    rw[if_pos rfl] at H;have H':=aA.mk H;clear H;have hnb17:=NB101_102.out;have hnc17:=NB102_101.out;have hnb18:=NB101_103.out;have hnc18:=NB103_101.out;obtain⟨⟨hcz19_0,hcz19_1,hcz19_2⟩,hfz19_0,hfz19_1,hfz19_2⟩:=pk3 BK101;go_wp2
    go_meet
    case rel=>exact⟨_,(true),aCs,H',⟨by first|omega|exact Nat.le_refl _⟩,⟨pkW BK101⟩,⟨pkW BK102⟩,⟨pkW BK103⟩,⟨pkL HB⟩⟩
   ·replace c16:=Bool.eq_false_iff.mpr c16
    subst c16;rw[if_neg (show ¬(false=true) by decide)] at H;have H':=aA.mk H;clear H;have hnb20:=NB101_102.out;have hnc20:=NB102_101.out;have hnb21:=NB101_103.out;have hnc21:=NB103_101.out;obtain⟨⟨hcz22_0,hcz22_1,hcz22_2⟩,hfz22_0,hfz22_1,hfz22_2⟩:=pk3 BK101;have hnb23:=NB102_103.out;have hnc23:=NB103_102.out;obtain⟨⟨hcz24_0,hcz24_1,hcz24_2⟩,hfz24_0,hfz24_1,hfz24_2⟩:=pk3 BK102;go_wp2
    go_meet
    case rel=>exact⟨_,(a2_0),aCs,H',⟨by first|omega|exact Nat.le_refl _⟩,⟨pkW BK101⟩,⟨pkW BK102⟩,⟨pkW BK103⟩,⟨pkL HB⟩⟩
  case rest=>
   clear HC6;try clear c5
   try clear c5b0
   try clear c5b1
   try clear c16
   try clear hcz12_0
   try clear hcz12_1
   try clear hcz12_2
   try clear hcz14_0
   try clear hcz14_1
   try clear hcz14_2
   try clear hcz19_0
   try clear hcz19_1
   try clear hcz19_2
   try clear hcz22_0
   try clear hcz22_1
   try clear hcz22_2
   try clear hcz24_0
   try clear hcz24_1
   try clear hcz24_2
   try clear hfz12_0
   try clear hfz12_1
   try clear hfz12_2
   try clear hfz14_0
   try clear hfz14_1
   try clear hfz14_2
   try clear hfz19_0
   try clear hfz19_1
   try clear hfz19_2
   try clear hfz22_0
   try clear hfz22_1
   try clear hfz22_2
   try clear hfz24_0
   try clear hfz24_1
   try clear hfz24_2
   obtain⟨kq,x21_5,rfl,HA,HJ5,BK101,BK102,BK103,HB⟩:=hcut
   cases kq with
   |zero=>exact absurd HA.out (by simp[aV.j0])
   |succ kj5=>
    have H:=HA.out;clear HA;simp only[aV.j0] at H
    by_cases c25:x21_5=true
    ·subst c25
     rw[if_pos rfl] at H;obtain⟨⟨t105,t106,t107⟩,A26,H⟩:=bi H;try dsimp only at H
     simp only[Option.some.injEq,Prod.mk.injEq] at H;obtain⟨rfl,rfl,rfl,rfl⟩:=H
     go_wp2_with(first|((with_reducible refine aG (f:=176) rfl ?_);refine gl_ 22 Tryz.func176 #[] (h:= ?_);(with_reducible refine(iY.calls t105 t106 t107 _ A26.out).mono ?_);rintro e w27 ⟨rfl,hb⟩;refine⟨_,rfl,?_⟩;replace BK101:=pkK BK101 hb;replace BK102:=pkK BK102 hb;replace BK103:=pkK BK103 hb;replace HB:=pkB HB hb;try clear hb;have hnb28:=NB103_101.out;have hnc28:=NB101_103.out;have hnb29:=NB103_102.out;have hnc29:=NB102_103.out;obtain⟨⟨hcz30_0,hcz30_1,hcz30_2⟩,hfz30_0,hfz30_1,hfz30_2⟩:=pk3 BK103))
     refine bodyPost_ret (jG rfl _ _ gb103 36 #[.bool t105,.string t106,.string t107] (0,0) _ rfl (pkS3 BK103) Tryz.underlying36 rfl (by kernel_rfl)) rfl ?_;exact pkE HB
    ·replace c25:=Bool.eq_false_iff.mpr c25
     subst c25;rw[if_neg (show ¬(false=true) by decide)] at H;obtain⟨⟨t108,t109,t110⟩,A31,H⟩:=bi H;try dsimp only at H
     simp only[Option.some.injEq,Prod.mk.injEq] at H;obtain⟨rfl,rfl,rfl,rfl⟩:=H;have hnb32:=NB101_102.out;have hnc32:=NB102_101.out;have hnb33:=NB101_103.out;have hnc33:=NB103_101.out;obtain⟨⟨hcz34_0,hcz34_1,hcz34_2⟩,hfz34_0,hfz34_1,hfz34_2⟩:=pk3 BK101;have hnb35:=NB102_103.out;have hnc35:=NB103_102.out;obtain⟨⟨hcz36_0,hcz36_1,hcz36_2⟩,hfz36_0,hfz36_1,hfz36_2⟩:=pk3 BK102
     go_wp2_with(first|((with_reducible refine vJ (p:=23) rfl ?_);refine goesV_ (some 26) rfl rfl hF hFn hFb #[.agg #[.bool a1_0,.string a1_1,.string a1_2],.agg #[.bool a2_0,.string a2_1,.string a2_2]] rfl rfl (by(try simp only[List.map_toArray,List.map_cons,List.map_nil]);first|done|rfl|(simp only[List.length_drop,List.length_take];rfl)) ?_;(with_reducible refine(gc (hG:=HG.out.below (pkL HB)) a1_0 a1_1 a1_2 a2_0 a2_1 a2_2 t108 t109 t110 _ A31.out).mono ?_);rintro e w37 ⟨rfl,hb⟩;refine⟨_,rfl,?_⟩;replace BK101:=pkK BK101 hb;replace BK102:=pkK BK102 hb;replace BK103:=pkK BK103 hb;replace HB:=pkB HB hb;try clear hb;obtain⟨⟨hcz38_0,hcz38_1,hcz38_2⟩,hfz38_0,hfz38_1,hfz38_2⟩:=pk3 BK103))
     refine bodyPost_ret (jG rfl _ _ gb103 36 #[.bool t108,.string t109,.string t110] (0,0) _ rfl (pkS3 BK103) Tryz.underlying36 rfl (by kernel_rfl)) rfl ?_;exact pkE HB
 ·rw[if_neg c5] at H
  have c5b0:(t104==0)=false:=beq_eq_false_iff_ne.mpr c5;have c5b1:(t104 != 0)=true:=bne_iff_ne.mpr c5;simp only[Option.some.injEq,Prod.mk.injEq] at H;obtain⟨rfl,rfl,rfl,rfl⟩:=H;go_enter Tryz.func101,Tryz.ntmps101
  go_wp2_with(first|((with_reducible refine aJ (N:=4) rfl ?_);refine bx_ 4 36 #[.bool a1_0,.string a1_1,.string a1_2] (h:= ?_);intro gb101 hg w39 hbox hb;have BK101:=aA.mk (hbox);have GW101:=pkG HB hg;have GE101:=GW101;replace HB:=pkB HB hb;clear hb hbox hg)|((with_reducible refine aJ (N:=5) rfl ?_);refine bx_ 5 36 #[.bool a2_0,.string a2_1,.string a2_2] (h:= ?_);intro gb102 hg w40 hbox hb;have BK102:=aA.mk (hbox);have GW102:=pkG HB hg;have GE102:=GW102;obtain⟨NB101_102,NB102_101,_,_⟩:=pkQ BK101 hg;replace BK101:=pkK BK101 hb;replace HB:=pkB HB hb;clear hb hbox hg)|((with_reducible refine aJ (N:=6) rfl ?_);refine bx_ 6 36 #[.bool false,.string (⟨#[]⟩:ByteArray),.string (⟨#[]⟩:ByteArray)] (h:= ?_);intro gb103 hg w41 hbox hb;have BK103:=aA.mk (hbox);have GW103:=pkG HB hg;have GE103:=GW103;obtain⟨NB101_103,NB103_101,_,_⟩:=pkQ BK101 hg;obtain⟨NB102_103,NB103_102,_,_⟩:=pkQ BK102 hg;replace BK101:=pkK BK101 hb;replace BK102:=pkK BK102 hb;replace HB:=pkB HB hb;clear hb hbox hg;have hnb42:=NB101_102.out;have hnc42:=NB102_101.out;have hnb43:=NB101_103.out;have hnc43:=NB103_101.out;obtain⟨⟨hcz44_0,hcz44_1,hcz44_2⟩,hfz44_0,hfz44_1,hfz44_2⟩:=pk3 BK101;have hnb45:=NB102_103.out;have hnc45:=NB103_102.out;obtain⟨⟨hcz46_0,hcz46_1,hcz46_2⟩,hfz46_0,hfz46_1,hfz46_2⟩:=pk3 BK102)|((with_reducible refine aG (f:=106) rfl ?_);refine gl_ 11 Tryz.func106 #[.agg #[.bool a1_0,.string a1_1,.string a1_2],.agg #[.bool a2_0,.string a2_1,.string a2_2]] (h:= ?_);(with_reducible refine(gB.calls k a1_0 a1_1 a1_2 a2_0 a2_1 a2_2 t104 _ A4.out).mono ?_);rintro e w47 ⟨rfl,hb⟩;refine⟨_,rfl,?_⟩;replace BK101:=pkK BK101 hb;replace BK102:=pkK BK102 hb;replace BK103:=pkK BK103 hb;replace HB:=pkB HB hb;try clear hb;obtain⟨⟨hcz48_0,hcz48_1,hcz48_2⟩,hfz48_0,hfz48_1,hfz48_2⟩:=pk3 BK103))
  refine bodyPost_ret (jG rfl _ _ gb103 36 #[.bool false,.string (⟨#[]⟩:ByteArray),.string (⟨#[]⟩:ByteArray)] (0,0) _ rfl (pkS3 BK103) Tryz.underlying36 rfl (by kernel_rfl)) rfl ?_;exact pkE HB
def oO.f(k:Nat)(a0_0:Bool)(a0_1:ByteArray)(a0_2:ByteArray)(a1_0:Bool)(a1_1:ByteArray)(a1_2:ByteArray):Option (Bool×ByteArray×ByteArray×Int):=(aV.f (fQ.f k) k a0_0 a0_1 a0_2 a1_0 a1_1 a1_2).bind fun bt114=>(some (bt114.1,bt114.2.1,bt114.2.2.1,bt114.2.2.2))
theorem oO.calls(k:Nat)(a0_0:Bool)(a0_1:ByteArray)(a0_2:ByteArray)(a1_0:Bool)(a1_1:ByteArray)(a1_2:ByteArray)(r1:Bool)(r2:ByteArray)(r3:ByteArray)(r4:Int)(w:World)(hG:GW w)(h:oO.f k a0_0 a0_1 a0_2 a1_0 a1_1 a1_2=some (r1,r2,r3,r4)) :
 Calls Tryz.prog 50 #[.agg #[.bool a0_0,.string a0_1,.string a0_2],.agg #[.bool a1_0,.string a1_1,.string a1_2]] w fun e w'=>e= .returned (.tuple #[.agg #[.bool r1,.string r2,.string r3],.int .i64 r4])∧Below w.heap.size w w':=by
 have HG:=aA.mk hG;clear hG;have hu36:=Tryz.underlying36;have HB:=aA.mk (Below.refl w.heap.size w);have H:((aV.f (fQ.f k) k a0_0 a0_1 a0_2 a1_0 a1_1 a1_2).bind fun bt114=>(some (bt114.1,bt114.2.1,bt114.2.2.1,bt114.2.2.2)))=some (r1,r2,r3,r4):=h;clear h;obtain⟨⟨t114,t115,t116,t117⟩,A3,H⟩:=bi H;try dsimp only at H
 simp only[Option.some.injEq,Prod.mk.injEq] at H;obtain⟨rfl,rfl,rfl,rfl⟩:=H;go_enter Tryz.func50,Tryz.ntmps50
 go_wp2_with(first|((with_reducible refine aJ (N:=2) rfl ?_);refine bx_ 2 36 #[.bool a0_0,.string a0_1,.string a0_2] (h:= ?_);intro gb111 hg w4 hbox hb;have BK111:=aA.mk (hbox);have GW111:=pkG HB hg;have GE111:=GW111;replace HB:=pkB HB hb;clear hb hbox hg)|((with_reducible refine aJ (N:=3) rfl ?_);refine bx_ 3 36 #[.bool a1_0,.string a1_1,.string a1_2] (h:= ?_);intro gb112 hg w5 hbox hb;have BK112:=aA.mk (hbox);have GW112:=pkG HB hg;have GE112:=GW112;obtain⟨NB111_112,NB112_111,_,_⟩:=pkQ BK111 hg;replace BK111:=pkK BK111 hb;replace HB:=pkB HB hb;clear hb hbox hg)|((with_reducible refine aJ (N:=4) rfl ?_);refine bx_ 4 36 #[.bool false,.string (⟨#[]⟩:ByteArray),.string (⟨#[]⟩:ByteArray)] (h:= ?_);intro gb113 hg w6 hbox hb;have BK113:=aA.mk (hbox);have GW113:=pkG HB hg;have GE113:=GW113;obtain⟨NB111_113,NB113_111,_,_⟩:=pkQ BK111 hg;obtain⟨NB112_113,NB113_112,_,_⟩:=pkQ BK112 hg;replace BK111:=pkK BK111 hb;replace BK112:=pkK BK112 hb;replace HB:=pkB HB hb;clear hb hbox hg;have hnb7:=NB111_112.out;have hnc7:=NB112_111.out;have hnb8:=NB111_113.out;have hnc8:=NB113_111.out;obtain⟨⟨hcz9_0,hcz9_1,hcz9_2⟩,hfz9_0,hfz9_1,hfz9_2⟩:=pk3 BK111;have hnb10:=NB112_113.out;have hnc10:=NB113_112.out;obtain⟨⟨hcz11_0,hcz11_1,hcz11_2⟩,hfz11_0,hfz11_1,hfz11_2⟩:=pk3 BK112)|((with_reducible refine aG (f:=101) rfl ?_);refine gl_ 10 Tryz.func101 #[.func (.func 118) #[] #[],.agg #[.bool a0_0,.string a0_1,.string a0_2],.agg #[.bool a1_0,.string a1_1,.string a1_2]] (h:= ?_);(with_reducible refine(aV.calls (hG:=HG.out.below (pkL HB)) k 118 Tryz.f118 Tryz.func118 (by kernel_rfl) rfl (fQ.f k) (fun a0 a1 a2 b0 b1 b2 r1 r2 r3 w hG h=>fQ.calls (hG:=hG) k a0 a1 a2 b0 b1 b2 r1 r2 r3 w h) a0_0 a0_1 a0_2 a1_0 a1_1 a1_2 t114 t115 t116 t117 _ A3.out).mono ?_);rintro e w12 ⟨rfl,hb⟩;refine⟨_,rfl,?_⟩;replace BK111:=pkK BK111 hb;replace BK112:=pkK BK112 hb;replace BK113:=pkK BK113 hb;replace HB:=pkB HB hb;try clear hb;obtain⟨⟨hcz13_0,hcz13_1,hcz13_2⟩,hfz13_0,hfz13_1,hfz13_2⟩:=pk3 BK113))
 refine bodyPost_ret (jG rfl _ _ gb113 36 #[.bool t114,.string t115,.string t116] (0,0) _ rfl (pkS3 BK113) Tryz.underlying36 rfl (by kernel_rfl)) rfl ?_;exact pkE HB
def oP.f(k:Nat)(a0_0:Bool)(a0_1:ByteArray)(a0_2:ByteArray)(a1_0:Bool)(a1_1:ByteArray)(a1_2:ByteArray):Option (Bool×ByteArray×ByteArray×Int):=(aV.f (fU.f k) k a0_0 a0_1 a0_2 a1_0 a1_1 a1_2).bind fun bt121=>(some (bt121.1,bt121.2.1,bt121.2.2.1,bt121.2.2.2))
theorem oP.calls(k:Nat)(a0_0:Bool)(a0_1:ByteArray)(a0_2:ByteArray)(a1_0:Bool)(a1_1:ByteArray)(a1_2:ByteArray)(r1:Bool)(r2:ByteArray)(r3:ByteArray)(r4:Int)(w:World)(hG:GW w)(h:oP.f k a0_0 a0_1 a0_2 a1_0 a1_1 a1_2=some (r1,r2,r3,r4)) :
 Calls Tryz.prog 52 #[.agg #[.bool a0_0,.string a0_1,.string a0_2],.agg #[.bool a1_0,.string a1_1,.string a1_2]] w fun e w'=>e= .returned (.tuple #[.agg #[.bool r1,.string r2,.string r3],.int .i64 r4])∧Below w.heap.size w w':=by
 have HG:=aA.mk hG;clear hG;have hu36:=Tryz.underlying36;have HB:=aA.mk (Below.refl w.heap.size w);have H:((aV.f (fU.f k) k a0_0 a0_1 a0_2 a1_0 a1_1 a1_2).bind fun bt121=>(some (bt121.1,bt121.2.1,bt121.2.2.1,bt121.2.2.2)))=some (r1,r2,r3,r4):=h;clear h;obtain⟨⟨t121,t122,t123,t124⟩,A3,H⟩:=bi H;try dsimp only at H
 simp only[Option.some.injEq,Prod.mk.injEq] at H;obtain⟨rfl,rfl,rfl,rfl⟩:=H;go_enter Tryz.func52,Tryz.ntmps52
 go_wp2_with(first|((with_reducible refine aJ (N:=2) rfl ?_);refine bx_ 2 36 #[.bool a0_0,.string a0_1,.string a0_2] (h:= ?_);intro gb118 hg w4 hbox hb;have BK118:=aA.mk (hbox);have GW118:=pkG HB hg;have GE118:=GW118;replace HB:=pkB HB hb;clear hb hbox hg)|((with_reducible refine aJ (N:=3) rfl ?_);refine bx_ 3 36 #[.bool a1_0,.string a1_1,.string a1_2] (h:= ?_);intro gb119 hg w5 hbox hb;have BK119:=aA.mk (hbox);have GW119:=pkG HB hg;have GE119:=GW119;obtain⟨NB118_119,NB119_118,_,_⟩:=pkQ BK118 hg;replace BK118:=pkK BK118 hb;replace HB:=pkB HB hb;clear hb hbox hg)|((with_reducible refine aJ (N:=4) rfl ?_);refine bx_ 4 36 #[.bool false,.string (⟨#[]⟩:ByteArray),.string (⟨#[]⟩:ByteArray)] (h:= ?_);intro gb120 hg w6 hbox hb;have BK120:=aA.mk (hbox);have GW120:=pkG HB hg;have GE120:=GW120;obtain⟨NB118_120,NB120_118,_,_⟩:=pkQ BK118 hg;obtain⟨NB119_120,NB120_119,_,_⟩:=pkQ BK119 hg;replace BK118:=pkK BK118 hb;replace BK119:=pkK BK119 hb;replace HB:=pkB HB hb;clear hb hbox hg;have hnb7:=NB118_119.out;have hnc7:=NB119_118.out;have hnb8:=NB118_120.out;have hnc8:=NB120_118.out;obtain⟨⟨hcz9_0,hcz9_1,hcz9_2⟩,hfz9_0,hfz9_1,hfz9_2⟩:=pk3 BK118;have hnb10:=NB119_120.out;have hnc10:=NB120_119.out;obtain⟨⟨hcz11_0,hcz11_1,hcz11_2⟩,hfz11_0,hfz11_1,hfz11_2⟩:=pk3 BK119)|((with_reducible refine aG (f:=101) rfl ?_);refine gl_ 10 Tryz.func101 #[.func (.func 121) #[] #[],.agg #[.bool a0_0,.string a0_1,.string a0_2],.agg #[.bool a1_0,.string a1_1,.string a1_2]] (h:= ?_);(with_reducible refine(aV.calls (hG:=HG.out.below (pkL HB)) k 121 Tryz.f121 Tryz.func121 (by kernel_rfl) rfl (fU.f k) (fun a0 a1 a2 b0 b1 b2 r1 r2 r3 w hG h=>fU.calls (hG:=hG) k a0 a1 a2 b0 b1 b2 r1 r2 r3 w h) a0_0 a0_1 a0_2 a1_0 a1_1 a1_2 t121 t122 t123 t124 _ A3.out).mono ?_);rintro e w12 ⟨rfl,hb⟩;refine⟨_,rfl,?_⟩;replace BK118:=pkK BK118 hb;replace BK119:=pkK BK119 hb;replace BK120:=pkK BK120 hb;replace HB:=pkB HB hb;try clear hb;obtain⟨⟨hcz13_0,hcz13_1,hcz13_2⟩,hfz13_0,hfz13_1,hfz13_2⟩:=pk3 BK120))
 refine bodyPost_ret (jG rfl _ _ gb120 36 #[.bool t121,.string t122,.string t123] (0,0) _ rfl (pkS3 BK120) Tryz.underlying36 rfl (by kernel_rfl)) rfl ?_;exact pkE HB
def oQ.f(k:Nat)(a0_0:Bool)(a0_1:ByteArray)(a0_2:ByteArray)(a1_0:Bool)(a1_1:ByteArray)(a1_2:ByteArray):Option (Bool×ByteArray×ByteArray×Int):=(aV.f (fV.f k) k a0_0 a0_1 a0_2 a1_0 a1_1 a1_2).bind fun bt128=>(some (bt128.1,bt128.2.1,bt128.2.2.1,bt128.2.2.2))
theorem oQ.calls(k:Nat)(a0_0:Bool)(a0_1:ByteArray)(a0_2:ByteArray)(a1_0:Bool)(a1_1:ByteArray)(a1_2:ByteArray)(r1:Bool)(r2:ByteArray)(r3:ByteArray)(r4:Int)(w:World)(hG:GW w)(h:oQ.f k a0_0 a0_1 a0_2 a1_0 a1_1 a1_2=some (r1,r2,r3,r4)) :
 Calls Tryz.prog 54 #[.agg #[.bool a0_0,.string a0_1,.string a0_2],.agg #[.bool a1_0,.string a1_1,.string a1_2]] w fun e w'=>e= .returned (.tuple #[.agg #[.bool r1,.string r2,.string r3],.int .i64 r4])∧Below w.heap.size w w':=by
 have HG:=aA.mk hG;clear hG;have hu36:=Tryz.underlying36;have HB:=aA.mk (Below.refl w.heap.size w);have H:((aV.f (fV.f k) k a0_0 a0_1 a0_2 a1_0 a1_1 a1_2).bind fun bt128=>(some (bt128.1,bt128.2.1,bt128.2.2.1,bt128.2.2.2)))=some (r1,r2,r3,r4):=h;clear h;obtain⟨⟨t128,t129,t130,t131⟩,A3,H⟩:=bi H;try dsimp only at H
 simp only[Option.some.injEq,Prod.mk.injEq] at H;obtain⟨rfl,rfl,rfl,rfl⟩:=H;go_enter Tryz.func54,Tryz.ntmps54
 go_wp2_with(first|((with_reducible refine aJ (N:=2) rfl ?_);refine bx_ 2 36 #[.bool a0_0,.string a0_1,.string a0_2] (h:= ?_);intro gb125 hg w4 hbox hb;have BK125:=aA.mk (hbox);have GW125:=pkG HB hg;have GE125:=GW125;replace HB:=pkB HB hb;clear hb hbox hg)|((with_reducible refine aJ (N:=3) rfl ?_);refine bx_ 3 36 #[.bool a1_0,.string a1_1,.string a1_2] (h:= ?_);intro gb126 hg w5 hbox hb;have BK126:=aA.mk (hbox);have GW126:=pkG HB hg;have GE126:=GW126;obtain⟨NB125_126,NB126_125,_,_⟩:=pkQ BK125 hg;replace BK125:=pkK BK125 hb;replace HB:=pkB HB hb;clear hb hbox hg)|((with_reducible refine aJ (N:=4) rfl ?_);refine bx_ 4 36 #[.bool false,.string (⟨#[]⟩:ByteArray),.string (⟨#[]⟩:ByteArray)] (h:= ?_);intro gb127 hg w6 hbox hb;have BK127:=aA.mk (hbox);have GW127:=pkG HB hg;have GE127:=GW127;obtain⟨NB125_127,NB127_125,_,_⟩:=pkQ BK125 hg;obtain⟨NB126_127,NB127_126,_,_⟩:=pkQ BK126 hg;replace BK125:=pkK BK125 hb;replace BK126:=pkK BK126 hb;replace HB:=pkB HB hb;clear hb hbox hg;have hnb7:=NB125_126.out;have hnc7:=NB126_125.out;have hnb8:=NB125_127.out;have hnc8:=NB127_125.out;obtain⟨⟨hcz9_0,hcz9_1,hcz9_2⟩,hfz9_0,hfz9_1,hfz9_2⟩:=pk3 BK125;have hnb10:=NB126_127.out;have hnc10:=NB127_126.out;obtain⟨⟨hcz11_0,hcz11_1,hcz11_2⟩,hfz11_0,hfz11_1,hfz11_2⟩:=pk3 BK126)|((with_reducible refine aG (f:=101) rfl ?_);refine gl_ 10 Tryz.func101 #[.func (.func 123) #[] #[],.agg #[.bool a0_0,.string a0_1,.string a0_2],.agg #[.bool a1_0,.string a1_1,.string a1_2]] (h:= ?_);(with_reducible refine(aV.calls (hG:=HG.out.below (pkL HB)) k 123 Tryz.f123 Tryz.func123 (by kernel_rfl) rfl (fV.f k) (fun a0 a1 a2 b0 b1 b2 r1 r2 r3 w hG h=>fV.calls (hG:=hG) k a0 a1 a2 b0 b1 b2 r1 r2 r3 w h) a0_0 a0_1 a0_2 a1_0 a1_1 a1_2 t128 t129 t130 t131 _ A3.out).mono ?_);rintro e w12 ⟨rfl,hb⟩;refine⟨_,rfl,?_⟩;replace BK125:=pkK BK125 hb;replace BK126:=pkK BK126 hb;replace BK127:=pkK BK127 hb;replace HB:=pkB HB hb;try clear hb;obtain⟨⟨hcz13_0,hcz13_1,hcz13_2⟩,hfz13_0,hfz13_1,hfz13_2⟩:=pk3 BK127))
 refine bodyPost_ret (jG rfl _ _ gb127 36 #[.bool t128,.string t129,.string t130] (0,0) _ rfl (pkS3 BK127) Tryz.underlying36 rfl (by kernel_rfl)) rfl ?_;exact pkE HB
def nR.f(k:Nat)(a0_0:Bool)(a0_1:ByteArray)(a0_2:ByteArray)(a1_0:Bool)(a1_1:ByteArray)(a1_2:ByteArray):Option (Bool×ByteArray×ByteArray×Int):=(aV.f (dA.f k) k a0_0 a0_1 a0_2 a1_0 a1_1 a1_2).bind fun bt201=>(some (bt201.1,bt201.2.1,bt201.2.2.1,bt201.2.2.2))
theorem nR.calls(k:Nat)(a0_0:Bool)(a0_1:ByteArray)(a0_2:ByteArray)(a1_0:Bool)(a1_1:ByteArray)(a1_2:ByteArray)(r1:Bool)(r2:ByteArray)(r3:ByteArray)(r4:Int)(w:World)(hG:GW w)(h:nR.f k a0_0 a0_1 a0_2 a1_0 a1_1 a1_2=some (r1,r2,r3,r4)) :
 Calls Tryz.prog 44 #[.agg #[.bool a0_0,.string a0_1,.string a0_2],.agg #[.bool a1_0,.string a1_1,.string a1_2]] w fun e w'=>e= .returned (.tuple #[.agg #[.bool r1,.string r2,.string r3],.int .i64 r4])∧Below w.heap.size w w':=by
 have HG:=aA.mk hG;clear hG;have hu36:=Tryz.underlying36;have HB:=aA.mk (Below.refl w.heap.size w);have H:((aV.f (dA.f k) k a0_0 a0_1 a0_2 a1_0 a1_1 a1_2).bind fun bt201=>(some (bt201.1,bt201.2.1,bt201.2.2.1,bt201.2.2.2)))=some (r1,r2,r3,r4):=h;clear h;obtain⟨⟨t201,t202,t203,t204⟩,A3,H⟩:=bi H;try dsimp only at H
 simp only[Option.some.injEq,Prod.mk.injEq] at H;obtain⟨rfl,rfl,rfl,rfl⟩:=H;go_enter Tryz.func44,Tryz.ntmps44
 go_wp2_with(first|((with_reducible refine aJ (N:=2) rfl ?_);refine bx_ 2 36 #[.bool a0_0,.string a0_1,.string a0_2] (h:= ?_);intro gb198 hg w4 hbox hb;have BK198:=aA.mk (hbox);have GW198:=pkG HB hg;have GE198:=GW198;replace HB:=pkB HB hb;clear hb hbox hg)|((with_reducible refine aJ (N:=3) rfl ?_);refine bx_ 3 36 #[.bool a1_0,.string a1_1,.string a1_2] (h:= ?_);intro gb199 hg w5 hbox hb;have BK199:=aA.mk (hbox);have GW199:=pkG HB hg;have GE199:=GW199;obtain⟨NB198_199,NB199_198,_,_⟩:=pkQ BK198 hg;replace BK198:=pkK BK198 hb;replace HB:=pkB HB hb;clear hb hbox hg)|((with_reducible refine aJ (N:=4) rfl ?_);refine bx_ 4 36 #[.bool false,.string (⟨#[]⟩:ByteArray),.string (⟨#[]⟩:ByteArray)] (h:= ?_);intro gb200 hg w6 hbox hb;have BK200:=aA.mk (hbox);have GW200:=pkG HB hg;have GE200:=GW200;obtain⟨NB198_200,NB200_198,_,_⟩:=pkQ BK198 hg;obtain⟨NB199_200,NB200_199,_,_⟩:=pkQ BK199 hg;replace BK198:=pkK BK198 hb;replace BK199:=pkK BK199 hb;replace HB:=pkB HB hb;clear hb hbox hg;have hnb7:=NB198_199.out;have hnc7:=NB199_198.out;have hnb8:=NB198_200.out;have hnc8:=NB200_198.out;obtain⟨⟨hcz9_0,hcz9_1,hcz9_2⟩,hfz9_0,hfz9_1,hfz9_2⟩:=pk3 BK198;have hnb10:=NB199_200.out;have hnc10:=NB200_199.out;obtain⟨⟨hcz11_0,hcz11_1,hcz11_2⟩,hfz11_0,hfz11_1,hfz11_2⟩:=pk3 BK199)|((with_reducible refine aG (f:=101) rfl ?_);refine gl_ 8 Tryz.func101 #[.func (.func 113) #[] #[],.agg #[.bool a0_0,.string a0_1,.string a0_2],.agg #[.bool a1_0,.string a1_1,.string a1_2]] (h:= ?_);(with_reducible refine(aV.calls (hG:=HG.out.below (pkL HB)) k 113 Tryz.f113 Tryz.func113 (by kernel_rfl) rfl (dA.f k) (fun a0 a1 a2 b0 b1 b2 r1 r2 r3 w hG h=>dA.calls (hG:=hG) k a0 a1 a2 b0 b1 b2 r1 r2 r3 w h) a0_0 a0_1 a0_2 a1_0 a1_1 a1_2 t201 t202 t203 t204 _ A3.out).mono ?_);rintro e w12 ⟨rfl,hb⟩;refine⟨_,rfl,?_⟩;replace BK198:=pkK BK198 hb;replace BK199:=pkK BK199 hb;replace BK200:=pkK BK200 hb;replace HB:=pkB HB hb;try clear hb;obtain⟨⟨hcz13_0,hcz13_1,hcz13_2⟩,hfz13_0,hfz13_1,hfz13_2⟩:=pk3 BK200))
 refine bodyPost_ret (jG rfl _ _ gb200 36 #[.bool t201,.string t202,.string t203] (0,0) _ rfl (pkS3 BK200) Tryz.underlying36 rfl (by kernel_rfl)) rfl ?_;exact pkE HB
def oU.f(k:Nat)(a0_0:Bool)(a0_1:ByteArray)(a0_2:ByteArray)(a1_0:Bool)(a1_1:ByteArray)(a1_2:ByteArray):Option (Bool×ByteArray×ByteArray×Int):=(aV.f (gZ.f k) k a0_0 a0_1 a0_2 a1_0 a1_1 a1_2).bind fun bt237=>(some (bt237.1,bt237.2.1,bt237.2.2.1,bt237.2.2.2))
theorem oU.calls(k:Nat)(a0_0:Bool)(a0_1:ByteArray)(a0_2:ByteArray)(a1_0:Bool)(a1_1:ByteArray)(a1_2:ByteArray)(r1:Bool)(r2:ByteArray)(r3:ByteArray)(r4:Int)(w:World)(hG:GW w)(h:oU.f k a0_0 a0_1 a0_2 a1_0 a1_1 a1_2=some (r1,r2,r3,r4)) :
 Calls Tryz.prog 36 #[.agg #[.bool a0_0,.string a0_1,.string a0_2],.agg #[.bool a1_0,.string a1_1,.string a1_2]] w fun e w'=>e= .returned (.tuple #[.agg #[.bool r1,.string r2,.string r3],.int .i64 r4])∧Below w.heap.size w w':=by
 have HG:=aA.mk hG;clear hG;have hu36:=Tryz.underlying36;have HB:=aA.mk (Below.refl w.heap.size w);have H:((aV.f (gZ.f k) k a0_0 a0_1 a0_2 a1_0 a1_1 a1_2).bind fun bt237=>(some (bt237.1,bt237.2.1,bt237.2.2.1,bt237.2.2.2)))=some (r1,r2,r3,r4):=h;clear h;obtain⟨⟨t237,t238,t239,t240⟩,A3,H⟩:=bi H;try dsimp only at H
 simp only[Option.some.injEq,Prod.mk.injEq] at H;obtain⟨rfl,rfl,rfl,rfl⟩:=H;go_enter Tryz.func36,Tryz.ntmps36
 go_wp2_with(first|((with_reducible refine aJ (N:=2) rfl ?_);refine bx_ 2 36 #[.bool a0_0,.string a0_1,.string a0_2] (h:= ?_);intro gb234 hg w4 hbox hb;have BK234:=aA.mk (hbox);have GW234:=pkG HB hg;have GE234:=GW234;replace HB:=pkB HB hb;clear hb hbox hg)|((with_reducible refine aJ (N:=3) rfl ?_);refine bx_ 3 36 #[.bool a1_0,.string a1_1,.string a1_2] (h:= ?_);intro gb235 hg w5 hbox hb;have BK235:=aA.mk (hbox);have GW235:=pkG HB hg;have GE235:=GW235;obtain⟨NB234_235,NB235_234,_,_⟩:=pkQ BK234 hg;replace BK234:=pkK BK234 hb;replace HB:=pkB HB hb;clear hb hbox hg)|((with_reducible refine aJ (N:=4) rfl ?_);refine bx_ 4 36 #[.bool false,.string (⟨#[]⟩:ByteArray),.string (⟨#[]⟩:ByteArray)] (h:= ?_);intro gb236 hg w6 hbox hb;have BK236:=aA.mk (hbox);have GW236:=pkG HB hg;have GE236:=GW236;obtain⟨NB234_236,NB236_234,_,_⟩:=pkQ BK234 hg;obtain⟨NB235_236,NB236_235,_,_⟩:=pkQ BK235 hg;replace BK234:=pkK BK234 hb;replace BK235:=pkK BK235 hb;replace HB:=pkB HB hb;clear hb hbox hg;have hnb7:=NB234_235.out;have hnc7:=NB235_234.out;have hnb8:=NB234_236.out;have hnc8:=NB236_234.out;obtain⟨⟨hcz9_0,hcz9_1,hcz9_2⟩,hfz9_0,hfz9_1,hfz9_2⟩:=pk3 BK234;have hnb10:=NB235_236.out;have hnc10:=NB236_235.out;obtain⟨⟨hcz11_0,hcz11_1,hcz11_2⟩,hfz11_0,hfz11_1,hfz11_2⟩:=pk3 BK235)|((with_reducible refine aG (f:=101) rfl ?_);refine gl_ 8 Tryz.func101 #[.func (.func 100) #[] #[],.agg #[.bool a0_0,.string a0_1,.string a0_2],.agg #[.bool a1_0,.string a1_1,.string a1_2]] (h:= ?_);(with_reducible refine(aV.calls (hG:=HG.out.below (pkL HB)) k 100 Tryz.f100 Tryz.func100 (by kernel_rfl) rfl (gZ.f k) (fun a0 a1 a2 b0 b1 b2 r1 r2 r3 w hG h=>gZ.calls (hG:=hG) k a0 a1 a2 b0 b1 b2 r1 r2 r3 w h) a0_0 a0_1 a0_2 a1_0 a1_1 a1_2 t237 t238 t239 t240 _ A3.out).mono ?_);rintro e w12 ⟨rfl,hb⟩;refine⟨_,rfl,?_⟩;replace BK234:=pkK BK234 hb;replace BK235:=pkK BK235 hb;replace BK236:=pkK BK236 hb;replace HB:=pkB HB hb;try clear hb;obtain⟨⟨hcz13_0,hcz13_1,hcz13_2⟩,hfz13_0,hfz13_1,hfz13_2⟩:=pk3 BK236))
 refine bodyPost_ret (jG rfl _ _ gb236 36 #[.bool t237,.string t238,.string t239] (0,0) _ rfl (pkS3 BK236) Tryz.underlying36 rfl (by kernel_rfl)) rfl ?_;exact pkE HB
def oV.f(k:Nat)(a0_0:Bool)(a0_1:ByteArray)(a0_2:ByteArray)(a1_0:Bool)(a1_1:ByteArray)(a1_2:ByteArray):Option (Bool×ByteArray×ByteArray×Int):=(aV.f (dK.f k) k a0_0 a0_1 a0_2 a1_0 a1_1 a1_2).bind fun bt265=>(some (bt265.1,bt265.2.1,bt265.2.2.1,bt265.2.2.2))
theorem oV.calls(k:Nat)(a0_0:Bool)(a0_1:ByteArray)(a0_2:ByteArray)(a1_0:Bool)(a1_1:ByteArray)(a1_2:ByteArray)(r1:Bool)(r2:ByteArray)(r3:ByteArray)(r4:Int)(w:World)(hG:GW w)(h:oV.f k a0_0 a0_1 a0_2 a1_0 a1_1 a1_2=some (r1,r2,r3,r4)) :
 Calls Tryz.prog 38 #[.agg #[.bool a0_0,.string a0_1,.string a0_2],.agg #[.bool a1_0,.string a1_1,.string a1_2]] w fun e w'=>e= .returned (.tuple #[.agg #[.bool r1,.string r2,.string r3],.int .i64 r4])∧Below w.heap.size w w':=by
 have HG:=aA.mk hG;clear hG;have hu36:=Tryz.underlying36;have HB:=aA.mk (Below.refl w.heap.size w);have H:((aV.f (dK.f k) k a0_0 a0_1 a0_2 a1_0 a1_1 a1_2).bind fun bt265=>(some (bt265.1,bt265.2.1,bt265.2.2.1,bt265.2.2.2)))=some (r1,r2,r3,r4):=h;clear h;obtain⟨⟨t265,t266,t267,t268⟩,A3,H⟩:=bi H;try dsimp only at H
 simp only[Option.some.injEq,Prod.mk.injEq] at H;obtain⟨rfl,rfl,rfl,rfl⟩:=H;go_enter Tryz.func38,Tryz.ntmps38
 go_wp2_with(first|((with_reducible refine aJ (N:=2) rfl ?_);refine bx_ 2 36 #[.bool a0_0,.string a0_1,.string a0_2] (h:= ?_);intro gb262 hg w4 hbox hb;have BK262:=aA.mk (hbox);have GW262:=pkG HB hg;have GE262:=GW262;replace HB:=pkB HB hb;clear hb hbox hg)|((with_reducible refine aJ (N:=3) rfl ?_);refine bx_ 3 36 #[.bool a1_0,.string a1_1,.string a1_2] (h:= ?_);intro gb263 hg w5 hbox hb;have BK263:=aA.mk (hbox);have GW263:=pkG HB hg;have GE263:=GW263;obtain⟨NB262_263,NB263_262,_,_⟩:=pkQ BK262 hg;replace BK262:=pkK BK262 hb;replace HB:=pkB HB hb;clear hb hbox hg)|((with_reducible refine aJ (N:=4) rfl ?_);refine bx_ 4 36 #[.bool false,.string (⟨#[]⟩:ByteArray),.string (⟨#[]⟩:ByteArray)] (h:= ?_);intro gb264 hg w6 hbox hb;have BK264:=aA.mk (hbox);have GW264:=pkG HB hg;have GE264:=GW264;obtain⟨NB262_264,NB264_262,_,_⟩:=pkQ BK262 hg;obtain⟨NB263_264,NB264_263,_,_⟩:=pkQ BK263 hg;replace BK262:=pkK BK262 hb;replace BK263:=pkK BK263 hb;replace HB:=pkB HB hb;clear hb hbox hg;have hnb7:=NB262_263.out;have hnc7:=NB263_262.out;have hnb8:=NB262_264.out;have hnc8:=NB264_262.out;obtain⟨⟨hcz9_0,hcz9_1,hcz9_2⟩,hfz9_0,hfz9_1,hfz9_2⟩:=pk3 BK262;have hnb10:=NB263_264.out;have hnc10:=NB264_263.out;obtain⟨⟨hcz11_0,hcz11_1,hcz11_2⟩,hfz11_0,hfz11_1,hfz11_2⟩:=pk3 BK263)|((with_reducible refine aG (f:=101) rfl ?_);refine gl_ 8 Tryz.func101 #[.func (.func 104) #[] #[],.agg #[.bool a0_0,.string a0_1,.string a0_2],.agg #[.bool a1_0,.string a1_1,.string a1_2]] (h:= ?_);(with_reducible refine(aV.calls (hG:=HG.out.below (pkL HB)) k 104 Tryz.f104 Tryz.func104 (by kernel_rfl) rfl (dK.f k) (fun a0 a1 a2 b0 b1 b2 r1 r2 r3 w hG h=>dK.calls (hG:=hG) k a0 a1 a2 b0 b1 b2 r1 r2 r3 w h) a0_0 a0_1 a0_2 a1_0 a1_1 a1_2 t265 t266 t267 t268 _ A3.out).mono ?_);rintro e w12 ⟨rfl,hb⟩;refine⟨_,rfl,?_⟩;replace BK262:=pkK BK262 hb;replace BK263:=pkK BK263 hb;replace BK264:=pkK BK264 hb;replace HB:=pkB HB hb;try clear hb;obtain⟨⟨hcz13_0,hcz13_1,hcz13_2⟩,hfz13_0,hfz13_1,hfz13_2⟩:=pk3 BK264))
 refine bodyPost_ret (jG rfl _ _ gb264 36 #[.bool t265,.string t266,.string t267] (0,0) _ rfl (pkS3 BK264) Tryz.underlying36 rfl (by kernel_rfl)) rfl ?_;exact pkE HB
end Go.Proofs.YtignanmmgaldeaaGreatDoor.PCongI
end
section
set_option linter.unusedVariables false
namespace Go.Proofs.YtignanmmgaldeaaGreatDoorW.PrintWords
open Go.RowKit
section
variable {P:Program} {ops:Array Oper} {Q:Exit→Act→World→Prop}
theorem goesW_{rest:List Oper}{oi:Oper}{a:Act}{w:World}(N:Option Tmp)(hd:oi.dst=N)(hg:oi.guard=none){f:FuncId}{fn:Func}{c:Operand}{aCn:Array Operand}{ts:Array TypeId}{cap:Array Value}(hf:P.funcs[f]? =some fn)(hname:(fn.name== "runtime.NumGoroutine")=false)(hb:fn.body.isSome=true)(args full:Array Value)
 (hop:oi.op= .call {callee:= .value c,args:=aCn,argTypes:=ts}) (hc:a.eval c= .func (.func f) #[] cap) (hargs:aCn.map a.eval=args) (hfull:args++cap=full)
 (h:Calls P f full w fun e w'=>∃v,e= .returned v∧wpList P ops Q rest (a.put N v) w'):wpList P ops Q (oi::rest) a w:=by
 refine wpList_plain hg fun K hK=> ?_
 have he:=PrintLast.enters_ hf hname hb full w
 have hrun:(execOp a.eval oi).run P w= .ok (.enter f full) w:=by
  unfold execOp
  simp[hop,hc,resolve,Deferred.ofValue,invoke,hargs,hfull,he]
 unfold Oper.wp;rw[hrun,Oper.upon_enter];refine h.mono fun e w'' hh=> ?_
 obtain⟨v,rfl,hk⟩:=hh;subst hd;exact hK _ _ hk
end
theorem pk1{W:World}{g:Nat}{t:TypeId}{a:Value}(B:aA (W.heap[g]? =some (.cells #[a] t (0,0)))):W.cell? ⟨g,0,none⟩=some a∧W.frozen? ⟨g,0,none⟩=false:=⟨(aC B.out 0).trans rfl,aI B.out 0⟩
end Go.Proofs.YtignanmmgaldeaaGreatDoorW.PrintWords
end
section
set_option linter.unusedVariables false
set_option linter.unusedSimpArgs false
set_option maxHeartbeats 8000000
set_option maxRecDepth 100000
namespace Go.Proofs.YtignanmmgaldeaaGreatDoor.PCongI
open Go.RowKit Go.Proofs.YtignanmmgaldeaaGreatDoorW.PrintWords Go.Proofs.YtignanmmgaldeaaGreatDoorW.PrintLast Go.Proofs.YtignanmmgaldeaaGreatDoorW.PrintMore
attribute [local go_sem] gI gJ iE iF
def iW.f(k:Nat)(g1:ByteArray→ByteArray→Option (ByteArray×Int))(g2:ByteArray→Option Bool)(a0_0:Bool)(a0_1:ByteArray)(a0_2:ByteArray)(a1:ByteArray):Option (ByteArray×Int):=(bQ.f k a0_0 a0_1 a0_2).bind fun t102=>(if t102=0 then((fA.f a1).bind fun t103=>(if t103=0 then(if a0_0=true then(some ((⟨#[]⟩:ByteArray),16)) else(if a0_1.toList=([48]:List UInt8) then((g2 a0_2).bind fun t104=>(if t104=true then(some ((⟨#[]⟩:ByteArray),6)) else(some (a0_2,0)))) else((g1 a0_1 a0_2).bind fun bt105=>(some (bt105.1,bt105.2))))) else(some ((⟨#[]⟩:ByteArray),t103)))) else(some ((⟨#[]⟩:ByteArray),t102)))
theorem iW.calls(k:Nat)(F1 F2:FuncId)(fn1 fn2:Func)(hF1:Tryz.prog.funcs[F1]? =some fn1)(hF1n:(fn1.name== "runtime.NumGoroutine")=false)(hF1b:fn1.body.isSome=true)(hF2:Tryz.prog.funcs[F2]? =some fn2)(hF2n:(fn2.name== "runtime.NumGoroutine")=false)(hF2b:fn2.body.isSome=true)(gl:Nat)(lo:ByteArray)(g1:ByteArray→ByteArray→Option (ByteArray×Int))(g2:ByteArray→Option Bool)(gc1:∀(m r t:ByteArray) (u:Int) (w:World) (hG:GW w) (hL:w.heap[gl]? =some (.cells #[.string lo] 22 (0,0))) (h:g1 m r=some (t,u)),Calls Tryz.prog F1 #[.string m,.string r,.pointer (some ⟨gl,0,none⟩)] w fun e w'=>e= .returned (.tuple #[.string t,.int .i64 u])∧Below w.heap.size w w')(gc2:∀(r:ByteArray) (b:Bool) (w:World) (hG:GW w) (hL:w.heap[gl]? =some (.cells #[.string lo] 22 (0,0))) (h:g2 r=some b),Calls Tryz.prog F2 #[.string r,.pointer (some ⟨gl,0,none⟩)] w fun e w'=>e= .returned (.bool b)∧Below w.heap.size w w')(a0_0:Bool)(a0_1:ByteArray)(a0_2:ByteArray)(a1:ByteArray)(r1:ByteArray)(r2:Int)(w:World)(hL:w.heap[gl]? =some (.cells #[.string lo] 22 (0,0)))(hG:GW w)(h:iW.f k g1 g2 a0_0 a0_1 a0_2 a1=some (r1,r2)) :
 Calls Tryz.prog 130 #[.agg #[.bool a0_0,.string a0_1,.string a0_2],.string a1,.func (.func F1) #[] #[.pointer (some ⟨gl,0,none⟩)],.func (.func F2) #[] #[.pointer (some ⟨gl,0,none⟩)]] w fun e w'=>e= .returned (.tuple #[.string r1,.int .i64 r2])∧Below w.heap.size w w':=by
 have HG:=aA.mk hG;clear hG;have hu36:=Tryz.underlying36;have HB:=aA.mk (Below.refl w.heap.size w);have H:((bQ.f k a0_0 a0_1 a0_2).bind fun t102=>(if t102=0 then((fA.f a1).bind fun t103=>(if t103=0 then(if a0_0=true then(some ((⟨#[]⟩:ByteArray),16)) else(if a0_1.toList=([48]:List UInt8) then((g2 a0_2).bind fun t104=>(if t104=true then(some ((⟨#[]⟩:ByteArray),6)) else(some (a0_2,0)))) else((g1 a0_1 a0_2).bind fun bt105=>(some (bt105.1,bt105.2))))) else(some ((⟨#[]⟩:ByteArray),t103)))) else(some ((⟨#[]⟩:ByteArray),t102))))=some (r1,r2):=h;clear h;replace H:=Option.bind_eq_some_iff.mp H;obtain⟨t102,A50,H⟩:=H;try dsimp only at H
 have A5:=aA.mk A50;clear A50
 by_cases c6:t102=0
 ·rw[if_pos c6] at H
  have c6b0:(t102==0)=true:=beq_iff_eq.mpr c6;have c6b1:(t102 != 0)=false:=bne_eq_false_iff_eq.mpr c6;clear c6;replace H:=Option.bind_eq_some_iff.mp H;obtain⟨t103,A70,H⟩:=H;try dsimp only at H
  have A7:=aA.mk A70;clear A70
  by_cases c8:t103=0
  ·rw[if_pos c8] at H
   have c8b0:(t103==0)=true:=beq_iff_eq.mpr c8;have c8b1:(t103 != 0)=false:=bne_eq_false_iff_eq.mpr c8;clear c8
   by_cases c9:a0_0=true
   ·subst c9
    rw[if_pos rfl] at H;simp only[Option.some.injEq,Prod.mk.injEq] at H;obtain⟨rfl,rfl⟩:=H;go_enter Tryz.func130,Tryz.ntmps130
    go_wp2_with(first|((with_reducible refine aJ (N:=4) rfl ?_);refine lL ?hg (N:=4) ?hd (cs:=#[.bool true,.string a0_1,.string a0_2]) (t:=36) ?hr ?_;(case hd=>rfl);(case hg=>rfl);(case hr=>first|(go_simp;done)|(go_simp;rfl));intro gb101 hg w10 hbox hb;have BK101:=aA.mk (hbox);have GW101:=pkG HB hg;have GE101:=pkG HB hg;replace HB:=pkB HB hb;clear hb hbox hg;obtain⟨⟨hcz11_0,hcz11_1,hcz11_2⟩,hfz11_0,hfz11_1,hfz11_2⟩:=pk3 BK101)|((with_reducible refine aG (f:=66) rfl ?_);refine jE (some 13) rfl rfl Tryz.func66 (by kernel_rfl) rfl #[.agg #[.bool true,.string a0_1,.string a0_2]] rfl (by(try simp only[List.map_toArray,List.map_cons,List.map_nil]);first|done|rfl|(simp only[List.length_drop,List.length_take];rfl)) ?_;(with_reducible refine(bQ.calls k true a0_1 a0_2 t102 _ A5.out).mono ?_);rintro e w12 ⟨rfl,hb⟩;refine⟨_,rfl,?_⟩;replace BK101:=pkK BK101 hb;replace HB:=pkB HB hb;try clear hb)|((with_reducible refine aG (f:=73) rfl ?_);refine jE (some 18) rfl rfl Tryz.func73 (by kernel_rfl) rfl #[.string a1] rfl (by(try simp only[List.map_toArray,List.map_cons,List.map_nil]);first|done|rfl|(simp only[List.length_drop,List.length_take];rfl)) ?_;(with_reducible refine(fA.calls a1 t103 _ A7.out).mono ?_);rintro e w13 ⟨rfl,hb⟩;refine⟨_,rfl,?_⟩;replace BK101:=pkK BK101 hb;replace HB:=pkB HB hb;try clear hb;obtain⟨⟨hcz14_0,hcz14_1,hcz14_2⟩,hfz14_0,hfz14_1,hfz14_2⟩:=pk3 BK101))
    go_ret2
    exact pkE HB
   ·replace c9:=Bool.eq_false_iff.mpr c9
    subst c9;rw[if_neg (show ¬(false=true) by decide)] at H
    by_cases c15:a0_1.toList=([48]:List UInt8)
    ·rw[if_pos c15] at H
     have c15b0:(a0_1.toList==([48]:List UInt8))=true:=beq_iff_eq.mpr c15;have c15b1:(a0_1.toList != ([48]:List UInt8))=false:=bne_eq_false_iff_eq.mpr c15;clear c15;replace H:=Option.bind_eq_some_iff.mp H;obtain⟨t104,A160,H⟩:=H;try dsimp only at H
     have A16:=aA.mk A160;clear A160
     by_cases c17:t104=true
     ·subst c17
      rw[if_pos rfl] at H;simp only[Option.some.injEq,Prod.mk.injEq] at H;obtain⟨rfl,rfl⟩:=H;go_enter Tryz.func130,Tryz.ntmps130
      go_wp2_with(first|((with_reducible refine aJ (N:=4) rfl ?_);refine lL ?hg (N:=4) ?hd (cs:=#[.bool false,.string a0_1,.string a0_2]) (t:=36) ?hr ?_;(case hd=>rfl);(case hg=>rfl);(case hr=>first|(go_simp;done)|(go_simp;rfl));intro gb101 hg w18 hbox hb;have BK101:=aA.mk (hbox);have GW101:=pkG HB hg;have GE101:=pkG HB hg;replace HB:=pkB HB hb;clear hb hbox hg;obtain⟨⟨hcz19_0,hcz19_1,hcz19_2⟩,hfz19_0,hfz19_1,hfz19_2⟩:=pk3 BK101)|((with_reducible refine aG (f:=66) rfl ?_);refine jE (some 13) rfl rfl Tryz.func66 (by kernel_rfl) rfl #[.agg #[.bool false,.string a0_1,.string a0_2]] rfl (by(try simp only[List.map_toArray,List.map_cons,List.map_nil]);first|done|rfl|(simp only[List.length_drop,List.length_take];rfl)) ?_;(with_reducible refine(bQ.calls k false a0_1 a0_2 t102 _ A5.out).mono ?_);rintro e w20 ⟨rfl,hb⟩;refine⟨_,rfl,?_⟩;replace BK101:=pkK BK101 hb;replace HB:=pkB HB hb;try clear hb)|((with_reducible refine aG (f:=73) rfl ?_);refine jE (some 18) rfl rfl Tryz.func73 (by kernel_rfl) rfl #[.string a1] rfl (by(try simp only[List.map_toArray,List.map_cons,List.map_nil]);first|done|rfl|(simp only[List.length_drop,List.length_take];rfl)) ?_;(with_reducible refine(fA.calls a1 t103 _ A7.out).mono ?_);rintro e w21 ⟨rfl,hb⟩;refine⟨_,rfl,?_⟩;replace BK101:=pkK BK101 hb;replace HB:=pkB HB hb;try clear hb;obtain⟨⟨hcz22_0,hcz22_1,hcz22_2⟩,hfz22_0,hfz22_1,hfz22_2⟩:=pk3 BK101)|((with_reducible refine vJ (p:=38) rfl ?_);refine goesW_ (some 41) rfl rfl hF2 hF2n hF2b #[.string a0_2] #[.string a0_2,.pointer (some ⟨gl,0,none⟩)] rfl rfl (by(try simp only[List.map_toArray,List.map_cons,List.map_nil]);first|done|rfl) rfl ?_;(with_reducible refine(gc2 (hG:=HG.out.below (pkL HB)) (hL:=dF hL (pkL HB)) a0_2 true _ A16.out).mono ?_);rintro e w23 ⟨rfl,hb⟩;refine⟨_,rfl,?_⟩;replace BK101:=pkK BK101 hb;replace HB:=pkB HB hb;try clear hb))
      go_ret2
      exact pkE HB
     ·replace c17:=Bool.eq_false_iff.mpr c17
      subst c17;rw[if_neg (show ¬(false=true) by decide)] at H;simp only[Option.some.injEq,Prod.mk.injEq] at H;obtain⟨rfl,rfl⟩:=H;go_enter Tryz.func130,Tryz.ntmps130
      go_wp2_with(first|((with_reducible refine aJ (N:=4) rfl ?_);refine lL ?hg (N:=4) ?hd (cs:=#[.bool false,.string a0_1,.string a0_2]) (t:=36) ?hr ?_;(case hd=>rfl);(case hg=>rfl);(case hr=>first|(go_simp;done)|(go_simp;rfl));intro gb101 hg w24 hbox hb;have BK101:=aA.mk (hbox);have GW101:=pkG HB hg;have GE101:=pkG HB hg;replace HB:=pkB HB hb;clear hb hbox hg;obtain⟨⟨hcz25_0,hcz25_1,hcz25_2⟩,hfz25_0,hfz25_1,hfz25_2⟩:=pk3 BK101)|((with_reducible refine aG (f:=66) rfl ?_);refine jE (some 13) rfl rfl Tryz.func66 (by kernel_rfl) rfl #[.agg #[.bool false,.string a0_1,.string a0_2]] rfl (by(try simp only[List.map_toArray,List.map_cons,List.map_nil]);first|done|rfl|(simp only[List.length_drop,List.length_take];rfl)) ?_;(with_reducible refine(bQ.calls k false a0_1 a0_2 t102 _ A5.out).mono ?_);rintro e w26 ⟨rfl,hb⟩;refine⟨_,rfl,?_⟩;replace BK101:=pkK BK101 hb;replace HB:=pkB HB hb;try clear hb)|((with_reducible refine aG (f:=73) rfl ?_);refine jE (some 18) rfl rfl Tryz.func73 (by kernel_rfl) rfl #[.string a1] rfl (by(try simp only[List.map_toArray,List.map_cons,List.map_nil]);first|done|rfl|(simp only[List.length_drop,List.length_take];rfl)) ?_;(with_reducible refine(fA.calls a1 t103 _ A7.out).mono ?_);rintro e w27 ⟨rfl,hb⟩;refine⟨_,rfl,?_⟩;replace BK101:=pkK BK101 hb;replace HB:=pkB HB hb;try clear hb;obtain⟨⟨hcz28_0,hcz28_1,hcz28_2⟩,hfz28_0,hfz28_1,hfz28_2⟩:=pk3 BK101)|((with_reducible refine vJ (p:=38) rfl ?_);refine goesW_ (some 41) rfl rfl hF2 hF2n hF2b #[.string a0_2] #[.string a0_2,.pointer (some ⟨gl,0,none⟩)] rfl rfl (by(try simp only[List.map_toArray,List.map_cons,List.map_nil]);first|done|rfl) rfl ?_;(with_reducible refine(gc2 (hG:=HG.out.below (pkL HB)) (hL:=dF hL (pkL HB)) a0_2 false _ A16.out).mono ?_);rintro e w29 ⟨rfl,hb⟩;refine⟨_,rfl,?_⟩;replace BK101:=pkK BK101 hb;replace HB:=pkB HB hb;try clear hb;obtain⟨⟨hcz30_0,hcz30_1,hcz30_2⟩,hfz30_0,hfz30_1,hfz30_2⟩:=pk3 BK101))
      go_ret2
      exact pkE HB
    ·rw[if_neg c15] at H
     have c15b0:(a0_1.toList==([48]:List UInt8))=false:=beq_eq_false_iff_ne.mpr c15;have c15b1:(a0_1.toList != ([48]:List UInt8))=true:=bne_iff_ne.mpr c15;replace H:=Option.bind_eq_some_iff.mp H;obtain⟨⟨t105,t106⟩,A310,H⟩:=H;try dsimp only at H
     have A31:=aA.mk A310;clear A310;simp only[Option.some.injEq,Prod.mk.injEq] at H;obtain⟨rfl,rfl⟩:=H;go_enter Tryz.func130,Tryz.ntmps130
     go_wp2_with(first|((with_reducible refine aJ (N:=4) rfl ?_);refine lL ?hg (N:=4) ?hd (cs:=#[.bool false,.string a0_1,.string a0_2]) (t:=36) ?hr ?_;(case hd=>rfl);(case hg=>rfl);(case hr=>first|(go_simp;done)|(go_simp;rfl));intro gb101 hg w32 hbox hb;have BK101:=aA.mk (hbox);have GW101:=pkG HB hg;have GE101:=pkG HB hg;replace HB:=pkB HB hb;clear hb hbox hg;obtain⟨⟨hcz33_0,hcz33_1,hcz33_2⟩,hfz33_0,hfz33_1,hfz33_2⟩:=pk3 BK101)|((with_reducible refine aG (f:=66) rfl ?_);refine jE (some 13) rfl rfl Tryz.func66 (by kernel_rfl) rfl #[.agg #[.bool false,.string a0_1,.string a0_2]] rfl (by(try simp only[List.map_toArray,List.map_cons,List.map_nil]);first|done|rfl|(simp only[List.length_drop,List.length_take];rfl)) ?_;(with_reducible refine(bQ.calls k false a0_1 a0_2 t102 _ A5.out).mono ?_);rintro e w34 ⟨rfl,hb⟩;refine⟨_,rfl,?_⟩;replace BK101:=pkK BK101 hb;replace HB:=pkB HB hb;try clear hb)|((with_reducible refine aG (f:=73) rfl ?_);refine jE (some 18) rfl rfl Tryz.func73 (by kernel_rfl) rfl #[.string a1] rfl (by(try simp only[List.map_toArray,List.map_cons,List.map_nil]);first|done|rfl|(simp only[List.length_drop,List.length_take];rfl)) ?_;(with_reducible refine(fA.calls a1 t103 _ A7.out).mono ?_);rintro e w35 ⟨rfl,hb⟩;refine⟨_,rfl,?_⟩;replace BK101:=pkK BK101 hb;replace HB:=pkB HB hb;try clear hb;obtain⟨⟨hcz36_0,hcz36_1,hcz36_2⟩,hfz36_0,hfz36_1,hfz36_2⟩:=pk3 BK101)|((with_reducible refine vJ (p:=29) rfl ?_);refine goesW_ (some 34) rfl rfl hF1 hF1n hF1b #[.string a0_1,.string a0_2] #[.string a0_1,.string a0_2,.pointer (some ⟨gl,0,none⟩)] rfl rfl (by(try simp only[List.map_toArray,List.map_cons,List.map_nil]);first|done|rfl) rfl ?_;(with_reducible refine(gc1 (hG:=HG.out.below (pkL HB)) (hL:=dF hL (pkL HB)) a0_1 a0_2 t105 t106 _ A31.out).mono ?_);rintro e w37 ⟨rfl,hb⟩;refine⟨_,rfl,?_⟩;replace BK101:=pkK BK101 hb;replace HB:=pkB HB hb;try clear hb))
     go_ret2
     exact pkE HB
  ·rw[if_neg c8] at H
   have c8b0:(t103==0)=false:=beq_eq_false_iff_ne.mpr c8;have c8b1:(t103 != 0)=true:=bne_iff_ne.mpr c8;simp only[Option.some.injEq,Prod.mk.injEq] at H;obtain⟨rfl,rfl⟩:=H;go_enter Tryz.func130,Tryz.ntmps130
   go_wp2_with(first|((with_reducible refine aJ (N:=4) rfl ?_);refine lL ?hg (N:=4) ?hd (cs:=#[.bool a0_0,.string a0_1,.string a0_2]) (t:=36) ?hr ?_;(case hd=>rfl);(case hg=>rfl);(case hr=>first|(go_simp;done)|(go_simp;rfl));intro gb101 hg w38 hbox hb;have BK101:=aA.mk (hbox);have GW101:=pkG HB hg;have GE101:=pkG HB hg;replace HB:=pkB HB hb;clear hb hbox hg;obtain⟨⟨hcz39_0,hcz39_1,hcz39_2⟩,hfz39_0,hfz39_1,hfz39_2⟩:=pk3 BK101)|((with_reducible refine aG (f:=66) rfl ?_);refine jE (some 13) rfl rfl Tryz.func66 (by kernel_rfl) rfl #[.agg #[.bool a0_0,.string a0_1,.string a0_2]] rfl (by(try simp only[List.map_toArray,List.map_cons,List.map_nil]);first|done|rfl|(simp only[List.length_drop,List.length_take];rfl)) ?_;(with_reducible refine(bQ.calls k a0_0 a0_1 a0_2 t102 _ A5.out).mono ?_);rintro e w40 ⟨rfl,hb⟩;refine⟨_,rfl,?_⟩;replace BK101:=pkK BK101 hb;replace HB:=pkB HB hb;try clear hb)|((with_reducible refine aG (f:=73) rfl ?_);refine jE (some 18) rfl rfl Tryz.func73 (by kernel_rfl) rfl #[.string a1] rfl (by(try simp only[List.map_toArray,List.map_cons,List.map_nil]);first|done|rfl|(simp only[List.length_drop,List.length_take];rfl)) ?_;(with_reducible refine(fA.calls a1 t103 _ A7.out).mono ?_);rintro e w41 ⟨rfl,hb⟩;refine⟨_,rfl,?_⟩;replace BK101:=pkK BK101 hb;replace HB:=pkB HB hb;try clear hb))
   go_ret2
   exact pkE HB
 ·rw[if_neg c6] at H
  have c6b0:(t102==0)=false:=beq_eq_false_iff_ne.mpr c6;have c6b1:(t102 != 0)=true:=bne_iff_ne.mpr c6;simp only[Option.some.injEq,Prod.mk.injEq] at H;obtain⟨rfl,rfl⟩:=H;go_enter Tryz.func130,Tryz.ntmps130
  go_wp2_with(first|((with_reducible refine aJ (N:=4) rfl ?_);refine lL ?hg (N:=4) ?hd (cs:=#[.bool a0_0,.string a0_1,.string a0_2]) (t:=36) ?hr ?_;(case hd=>rfl);(case hg=>rfl);(case hr=>first|(go_simp;done)|(go_simp;rfl));intro gb101 hg w42 hbox hb;have BK101:=aA.mk (hbox);have GW101:=pkG HB hg;have GE101:=pkG HB hg;replace HB:=pkB HB hb;clear hb hbox hg;obtain⟨⟨hcz43_0,hcz43_1,hcz43_2⟩,hfz43_0,hfz43_1,hfz43_2⟩:=pk3 BK101)|((with_reducible refine aG (f:=66) rfl ?_);refine jE (some 13) rfl rfl Tryz.func66 (by kernel_rfl) rfl #[.agg #[.bool a0_0,.string a0_1,.string a0_2]] rfl (by(try simp only[List.map_toArray,List.map_cons,List.map_nil]);first|done|rfl|(simp only[List.length_drop,List.length_take];rfl)) ?_;(with_reducible refine(bQ.calls k a0_0 a0_1 a0_2 t102 _ A5.out).mono ?_);rintro e w44 ⟨rfl,hb⟩;refine⟨_,rfl,?_⟩;replace BK101:=pkK BK101 hb;replace HB:=pkB HB hb;try clear hb))
  go_ret2
  exact pkE HB
def rP(lo m r:ByteArray):Option (ByteArray×Int):=(jB.f r lo m).bind fun p=>if p.2=0 then(kM.f lo p.1).bind fun c=>some (c.1,c.2) else some ((⟨#[]⟩:ByteArray),p.2)
theorem rP.calls(lo m r t:ByteArray)(u:Int)(gl:Nat)(w:World)(hG:GW w)(hL:w.heap[gl]? =some (.cells #[.string lo] 22 (0,0)))(h:rP lo m r=some (t,u)) :
 Calls Tryz.prog 131 #[.string m,.string r,.pointer (some ⟨gl,0,none⟩)] w fun e w'=>e= .returned (.tuple #[.string t,.int .i64 u])∧Below w.heap.size w w':=by
 have HG:=aA.mk hG;have HB:=aA.mk (Below.refl w.heap.size w);have BK1:=aA.mk hL;clear hG hL;unfold rP at h;obtain⟨⟨t1,u1⟩,A10,H⟩:=Option.bind_eq_some_iff.mp h;clear h;try dsimp only at H
 have A1:=aA.mk A10;clear A10;obtain⟨hcz1_0,hfz1_0⟩:=pk1 BK1
 by_cases c1:u1=0
 ·rw[if_pos c1] at H
  have c1b0:(u1==0)=true:=beq_iff_eq.mpr c1;have c1b1:(u1 != 0)=false:=bne_eq_false_iff_eq.mpr c1;obtain⟨⟨t2,u2⟩,A20,H⟩:=Option.bind_eq_some_iff.mp H;try dsimp only at H
  have A2:=aA.mk A20;clear A20 c1;simp only[Option.some.injEq,Prod.mk.injEq] at H;obtain⟨rfl,rfl⟩:=H;go_enter Tryz.func131,Tryz.ntmps131
  go_wp2_with(first|((with_reducible refine aG (f:=132) rfl ?_);refine jE (some 13) rfl rfl Tryz.func132 (by kernel_rfl) rfl #[.string r,.string lo,.string m] rfl (by(try simp only[List.map_toArray,List.map_cons,List.map_nil]);first|done|rfl) ?_;(with_reducible refine(jB.calls (hG:=HG.out.below (pkL HB)) r lo m t1 u1 _ A1.out).mono ?_);rintro e w1 ⟨rfl,hb⟩;refine⟨_,rfl,?_⟩;replace BK1:=pkK BK1 hb;replace HB:=pkB HB hb;clear hb hcz1_0 hfz1_0;obtain⟨hcz2_0,hfz2_0⟩:=pk1 BK1)|((with_reducible refine aG (f:=22) rfl ?_);refine jE (some 21) rfl rfl Tryz.func22 (by kernel_rfl) rfl #[.string lo,.string t1] rfl (by(try simp only[List.map_toArray,List.map_cons,List.map_nil]);first|done|rfl) ?_;(with_reducible refine(kM.calls (hG:=HG.out.below (pkL HB)) lo t1 t2 u2 _ A2.out).mono ?_);rintro e w2 ⟨rfl,hb⟩;refine⟨_,rfl,?_⟩;replace HB:=pkB HB hb;clear hb))
  go_ret2
  exact pkE HB
 ·rw[if_neg c1] at H
  have c1b0:(u1==0)=false:=beq_eq_false_iff_ne.mpr c1;have c1b1:(u1 != 0)=true:=bne_iff_ne.mpr c1;simp only[Option.some.injEq,Prod.mk.injEq] at H;obtain⟨rfl,rfl⟩:=H;go_enter Tryz.func131,Tryz.ntmps131
  go_wp2_with(first|((with_reducible refine aG (f:=132) rfl ?_);refine jE (some 13) rfl rfl Tryz.func132 (by kernel_rfl) rfl #[.string r,.string lo,.string m] rfl (by(try simp only[List.map_toArray,List.map_cons,List.map_nil]);first|done|rfl) ?_;(with_reducible refine(jB.calls (hG:=HG.out.below (pkL HB)) r lo m t1 u1 _ A1.out).mono ?_);rintro e w1 ⟨rfl,hb⟩;refine⟨_,rfl,?_⟩;replace BK1:=pkK BK1 hb;replace HB:=pkB HB hb;clear hb hcz1_0 hfz1_0;obtain⟨hcz2_0,hfz2_0⟩:=pk1 BK1))
  go_ret2
  exact pkE HB
def sK(lo r:ByteArray):Option Bool:=eF.f r lo
theorem sK.calls(lo r:ByteArray)(b:Bool)(gl:Nat)(w:World)(hG:GW w)(hL:w.heap[gl]? =some (.cells #[.string lo] 22 (0,0)))(h:sK lo r=some b) :
 Calls Tryz.prog 133 #[.string r,.pointer (some ⟨gl,0,none⟩)] w fun e w'=>e= .returned (.bool b)∧Below w.heap.size w w':=by
 have HB:=aA.mk (Below.refl w.heap.size w);have BK1:=aA.mk hL;have A1:aA (eF.f r lo=some b):=aA.mk h;clear hG hL h;obtain⟨hcz1_0,hfz1_0⟩:=pk1 BK1;go_enter Tryz.func133,Tryz.ntmps133
 go_wp2_with(first|((with_reducible refine aG (f:=134) rfl ?_);refine jE (some 6) rfl rfl Tryz.func134 (by kernel_rfl) rfl #[.string r,.string lo] rfl (by(try simp only[List.map_toArray,List.map_cons,List.map_nil]);first|done|rfl) ?_;(with_reducible refine(eF.calls r lo b _ A1.out).mono ?_);rintro e w1 ⟨rfl,hb⟩;refine⟨_,rfl,?_⟩;replace HB:=pkB HB hb;clear hb))
 go_ret
 exact pkE HB
def nS(lo m r:ByteArray):Option (ByteArray×Int):=(jB.f lo r m).bind fun p=>if p.2=0 then(jS.f lo p.1).bind fun c=>some (c.1,c.2) else some ((⟨#[]⟩:ByteArray),p.2)
theorem nS.calls(lo m r t:ByteArray)(u:Int)(gl:Nat)(w:World)(hG:GW w)(hL:w.heap[gl]? =some (.cells #[.string lo] 22 (0,0)))(h:nS lo m r=some (t,u)) :
 Calls Tryz.prog 137 #[.string m,.string r,.pointer (some ⟨gl,0,none⟩)] w fun e w'=>e= .returned (.tuple #[.string t,.int .i64 u])∧Below w.heap.size w w':=by
 have HG:=aA.mk hG;have HB:=aA.mk (Below.refl w.heap.size w);have BK1:=aA.mk hL;clear hG hL;unfold nS at h;obtain⟨⟨t1,u1⟩,A10,H⟩:=Option.bind_eq_some_iff.mp h;clear h;try dsimp only at H
 have A1:=aA.mk A10;clear A10;obtain⟨hcz1_0,hfz1_0⟩:=pk1 BK1
 by_cases c1:u1=0
 ·rw[if_pos c1] at H
  have c1b0:(u1==0)=true:=beq_iff_eq.mpr c1;have c1b1:(u1 != 0)=false:=bne_eq_false_iff_eq.mpr c1;obtain⟨⟨t2,u2⟩,A20,H⟩:=Option.bind_eq_some_iff.mp H;try dsimp only at H
  have A2:=aA.mk A20;clear A20 c1;simp only[Option.some.injEq,Prod.mk.injEq] at H;obtain⟨rfl,rfl⟩:=H;go_enter Tryz.func137,Tryz.ntmps137
  go_wp2_with(first|((with_reducible refine aG (f:=132) rfl ?_);refine jE (some 13) rfl rfl Tryz.func132 (by kernel_rfl) rfl #[.string lo,.string r,.string m] rfl (by(try simp only[List.map_toArray,List.map_cons,List.map_nil]);first|done|rfl) ?_;(with_reducible refine(jB.calls (hG:=HG.out.below (pkL HB)) lo r m t1 u1 _ A1.out).mono ?_);rintro e w1 ⟨rfl,hb⟩;refine⟨_,rfl,?_⟩;replace BK1:=pkK BK1 hb;replace HB:=pkB HB hb;clear hb hcz1_0 hfz1_0;obtain⟨hcz2_0,hfz2_0⟩:=pk1 BK1)|((with_reducible refine aG (f:=24) rfl ?_);refine jE (some 21) rfl rfl Tryz.func24 (by kernel_rfl) rfl #[.string lo,.string t1] rfl (by(try simp only[List.map_toArray,List.map_cons,List.map_nil]);first|done|rfl) ?_;(with_reducible refine(jS.calls (hG:=HG.out.below (pkL HB)) lo t1 t2 u2 _ A2.out).mono ?_);rintro e w2 ⟨rfl,hb⟩;refine⟨_,rfl,?_⟩;replace HB:=pkB HB hb;clear hb))
  go_ret2
  exact pkE HB
 ·rw[if_neg c1] at H
  have c1b0:(u1==0)=false:=beq_eq_false_iff_ne.mpr c1;have c1b1:(u1 != 0)=true:=bne_iff_ne.mpr c1;simp only[Option.some.injEq,Prod.mk.injEq] at H;obtain⟨rfl,rfl⟩:=H;go_enter Tryz.func137,Tryz.ntmps137
  go_wp2_with(first|((with_reducible refine aG (f:=132) rfl ?_);refine jE (some 13) rfl rfl Tryz.func132 (by kernel_rfl) rfl #[.string lo,.string r,.string m] rfl (by(try simp only[List.map_toArray,List.map_cons,List.map_nil]);first|done|rfl) ?_;(with_reducible refine(jB.calls (hG:=HG.out.below (pkL HB)) lo r m t1 u1 _ A1.out).mono ?_);rintro e w1 ⟨rfl,hb⟩;refine⟨_,rfl,?_⟩;replace BK1:=pkK BK1 hb;replace HB:=pkB HB hb;clear hb hcz1_0 hfz1_0;obtain⟨hcz2_0,hfz2_0⟩:=pk1 BK1))
  go_ret2
  exact pkE HB
def pW(lo r:ByteArray):Option Bool:=eF.f lo r
theorem pW.calls(lo r:ByteArray)(b:Bool)(gl:Nat)(w:World)(hG:GW w)(hL:w.heap[gl]? =some (.cells #[.string lo] 22 (0,0)))(h:pW lo r=some b) :
 Calls Tryz.prog 138 #[.string r,.pointer (some ⟨gl,0,none⟩)] w fun e w'=>e= .returned (.bool b)∧Below w.heap.size w w':=by
 have HB:=aA.mk (Below.refl w.heap.size w);have BK1:=aA.mk hL;have A1:aA (eF.f lo r=some b):=aA.mk h;clear hG hL h;obtain⟨hcz1_0,hfz1_0⟩:=pk1 BK1;go_enter Tryz.func138,Tryz.ntmps138
 go_wp2_with(first|((with_reducible refine aG (f:=134) rfl ?_);refine jE (some 6) rfl rfl Tryz.func134 (by kernel_rfl) rfl #[.string lo,.string r] rfl (by(try simp only[List.map_toArray,List.map_cons,List.map_nil]);first|done|rfl) ?_;(with_reducible refine(eF.calls lo r b _ A1.out).mono ?_);rintro e w1 ⟨rfl,hb⟩;refine⟨_,rfl,?_⟩;replace HB:=pkB HB hb;clear hb))
 go_ret
 exact pkE HB
def mX.f(k:Nat)(a0_0:Bool)(a0_1 a0_2 a1:ByteArray):Option (ByteArray×Int):=iW.f k (rP a1) (sK a1) a0_0 a0_1 a0_2 a1
theorem mX.calls(k:Nat)(a0_0:Bool)(a0_1 a0_2 a1 r1:ByteArray)(r2:Int)(w:World)(hG:GW w)(h:mX.f k a0_0 a0_1 a0_2 a1=some (r1,r2)) :
 Calls Tryz.prog 62 #[.agg #[.bool a0_0,.string a0_1,.string a0_2],.string a1] w fun e w'=>e= .returned (.tuple #[.string r1,.int .i64 r2])∧Below w.heap.size w w':=by
 have HG:=aA.mk hG;have HB:=aA.mk (Below.refl w.heap.size w);have A1:aA (iW.f k (rP a1) (sK a1) a0_0 a0_1 a0_2 a1=some (r1,r2)):=aA.mk h;clear hG h;have hu36:=Tryz.underlying36;go_enter Tryz.func62,Tryz.ntmps62
 go_wp2_with(first|((with_reducible refine aJ (N:=2) rfl ?_);refine lL ?hg (N:=2) ?hd (cs:=#[.bool a0_0,.string a0_1,.string a0_2]) (t:=36) ?hr ?_;(case hd=>rfl);(case hg=>rfl);(case hr=>first|(go_simp;done)|(go_simp;rfl));intro gb1 hg w1 hbox hb;have BK1:=aA.mk (hbox);have GE1:=pkG HB hg;replace HB:=pkB HB hb;clear hb hbox hg)|((with_reducible refine aJ (N:=3) rfl ?_);refine lL ?hg (N:=3) ?hd (cs:=#[.string a1]) (t:=22) ?hr ?_;(case hd=>rfl);(case hg=>rfl);(case hr=>first|(go_simp;done)|(go_simp;rfl));intro gb2 hg w2 hbox hb;have BK2:=aA.mk (hbox);have GE2:=pkG HB hg;replace BK1:=pkK BK1 hb;replace HB:=pkB HB hb;clear hb hbox hg;obtain⟨⟨hcz1_0,hcz1_1,hcz1_2⟩,hfz1_0,hfz1_1,hfz1_2⟩:=pk3 BK1;obtain⟨hcz2_0,hfz2_0⟩:=pk1 BK2)|((with_reducible refine aG (f:=130) rfl ?_);refine jE (some 10) rfl rfl Tryz.func130 (by kernel_rfl) rfl #[.agg #[.bool a0_0,.string a0_1,.string a0_2],.string a1,.func (.func 131) #[] #[.pointer (some ⟨gb2,0,none⟩)],.func (.func 133) #[] #[.pointer (some ⟨gb2,0,none⟩)]] rfl (by(try simp only[List.map_toArray,List.map_cons,List.map_nil]);first|done|rfl) ?_;(with_reducible refine(iW.calls (hG:=HG.out.below (pkL HB)) (hL:=pkW BK2) k 131 133 _ _ Tryz.func131 (by kernel_rfl) rfl Tryz.func133 (by kernel_rfl) rfl gb2 a1 (rP a1) (sK a1) (fun m r t u w hG hL h=>rP.calls a1 m r t u gb2 w hG hL h) (fun r b w hG hL h=>sK.calls a1 r b gb2 w hG hL h) a0_0 a0_1 a0_2 a1 r1 r2 _ A1.out).mono ?_);rintro e w3 ⟨rfl,hb⟩;refine⟨_,rfl,?_⟩;replace HB:=pkB HB hb;clear hb))
 go_ret2
 exact pkE HB
def kZ.f(k:Nat)(a0_0:Bool)(a0_1 a0_2 a1:ByteArray):Option (ByteArray×Int):=iW.f k (nS a1) (pW a1) a0_0 a0_1 a0_2 a1
theorem kZ.calls(k:Nat)(a0_0:Bool)(a0_1 a0_2 a1 r1:ByteArray)(r2:Int)(w:World)(hG:GW w)(h:kZ.f k a0_0 a0_1 a0_2 a1=some (r1,r2)) :
 Calls Tryz.prog 64 #[.agg #[.bool a0_0,.string a0_1,.string a0_2],.string a1] w fun e w'=>e= .returned (.tuple #[.string r1,.int .i64 r2])∧Below w.heap.size w w':=by
 have HG:=aA.mk hG;have HB:=aA.mk (Below.refl w.heap.size w);have A1:aA (iW.f k (nS a1) (pW a1) a0_0 a0_1 a0_2 a1=some (r1,r2)):=aA.mk h;clear hG h;have hu36:=Tryz.underlying36;go_enter Tryz.func64,Tryz.ntmps64
 go_wp2_with(first|((with_reducible refine aJ (N:=2) rfl ?_);refine lL ?hg (N:=2) ?hd (cs:=#[.bool a0_0,.string a0_1,.string a0_2]) (t:=36) ?hr ?_;(case hd=>rfl);(case hg=>rfl);(case hr=>first|(go_simp;done)|(go_simp;rfl));intro gb1 hg w1 hbox hb;have BK1:=aA.mk (hbox);have GE1:=pkG HB hg;replace HB:=pkB HB hb;clear hb hbox hg)|((with_reducible refine aJ (N:=3) rfl ?_);refine lL ?hg (N:=3) ?hd (cs:=#[.string a1]) (t:=22) ?hr ?_;(case hd=>rfl);(case hg=>rfl);(case hr=>first|(go_simp;done)|(go_simp;rfl));intro gb2 hg w2 hbox hb;have BK2:=aA.mk (hbox);have GE2:=pkG HB hg;replace BK1:=pkK BK1 hb;replace HB:=pkB HB hb;clear hb hbox hg;obtain⟨⟨hcz1_0,hcz1_1,hcz1_2⟩,hfz1_0,hfz1_1,hfz1_2⟩:=pk3 BK1;obtain⟨hcz2_0,hfz2_0⟩:=pk1 BK2)|((with_reducible refine aG (f:=130) rfl ?_);refine jE (some 10) rfl rfl Tryz.func130 (by kernel_rfl) rfl #[.agg #[.bool a0_0,.string a0_1,.string a0_2],.string a1,.func (.func 137) #[] #[.pointer (some ⟨gb2,0,none⟩)],.func (.func 138) #[] #[.pointer (some ⟨gb2,0,none⟩)]] rfl (by(try simp only[List.map_toArray,List.map_cons,List.map_nil]);first|done|rfl) ?_;(with_reducible refine(iW.calls (hG:=HG.out.below (pkL HB)) (hL:=pkW BK2) k 137 138 _ _ Tryz.func137 (by kernel_rfl) rfl Tryz.func138 (by kernel_rfl) rfl gb2 a1 (nS a1) (pW a1) (fun m r t u w hG hL h=>nS.calls a1 m r t u gb2 w hG hL h) (fun r b w hG hL h=>pW.calls a1 r b gb2 w hG hL h) a0_0 a0_1 a0_2 a1 r1 r2 _ A1.out).mono ?_);rintro e w3 ⟨rfl,hb⟩;refine⟨_,rfl,?_⟩;replace HB:=pkB HB hb;clear hb))
 go_ret2
 exact pkE HB
end Go.Proofs.YtignanmmgaldeaaGreatDoor.PCongI
end
section
set_option linter.unusedVariables false
set_option linter.unusedSimpArgs false
namespace Go.Proofs.YtignanmmgaldeaaGreatDoor.CongM
open Go.RowKit Go.Proofs.YtignanmmgaldeaaGreatDoor.RefP Go.Proofs.YtignanmmgaldeaaGreatDoor.PCongI Go.Proofs.YtignanmmgaldeaaGreatDoorW.PrintWords Go.Proofs.YtignanmmgaldeaaGreatDoorW.PrintLast
theorem bezU_val(a b:Int)(hb:b≠0):b∣a*bezU a b-gcdI a b:=by
 have:=bez_val a b;refine⟨-bezV a b,?_⟩;rw[Int.mul_neg];omega
theorem vT{a b c:Int}(h:c∣a)(k:c∣b):c∣gcdI a b:=Int.dvd_coe_gcd h k
def clsV(c:Int×Int):Prop:=0≤c.1∧c.2%c.1=c.2
def clsM(c:Int×Int)(a:Int):Prop:=c.1∣a-c.2
def cls(M:Nat)(m r:Int):Int×Int:=if m.natAbs<10 ^ M∧(r%(m.natAbs:Int)).natAbs<10 ^ M then((m.natAbs:Int),r%(m.natAbs:Int)) else(1,0)
def leC(c d:Int×Int):Prop:=d.1∣c.1∧d.1∣c.2-d.2
theorem qK(m a:Int):((m.natAbs:Int)∣a)↔m∣a:=Int.natAbs_dvd
theorem mY(r m:Int):m∣r-r%m:=Int.dvd_self_sub_emod
theorem zF(r s m:Int):r%m=s%m↔m∣r-s:=by
 rw[Int.emod_eq_emod_iff_emod_sub_eq_zero,Int.dvd_iff_emod_eq_zero]
theorem yT(M:Nat)(m r:Int):clsV (cls M m r):=by
 unfold cls
 split
 ·exact⟨Int.natCast_nonneg _,Int.emod_emod _ _⟩
 ·exact⟨by decide,by decide⟩
theorem cls_congr{M:Nat}{m m' r r':Int}(h:m.natAbs=m'.natAbs)(k:m∣r-r'):cls M m r=cls M m' r':=by
 have e:r%(m.natAbs:Int)=r'%(m.natAbs:Int):=(zF _ _ _).2 ((qK _ _).2 k);unfold cls;rw[←h,e]
theorem uT(M:Nat){m r a:Int}(h:m∣a-r):clsM (cls M m r) a:=by
 unfold cls clsM
 split
 ·have h1:=(qK m _).2 h
  have:=Int.dvd_add h1 (mY r (m.natAbs:Int))
  rwa [show a-r+(r-r%(m.natAbs:Int))=a-r%(m.natAbs:Int) by omega] at this
 ·exact Int.one_dvd _
theorem aBe(r m:Int)(h:m≠0):(r%(m.natAbs:Int)).natAbs<m.natAbs:=by
 have h1:=Int.emod_nonneg r (show(m.natAbs:Int)≠0 by omega);have h2:=Int.emod_lt_of_pos r (show(0:Int)<(m.natAbs:Int) by omega);omega
theorem yU{M:Nat}{m r:Int}(hm:Bd M m)(hr:m=0→Bd M r):cls M m r=((m.natAbs:Int),r%(m.natAbs:Int)):=by
 unfold cls;refine if_pos ⟨hm,?_⟩
 by_cases h:m=0
 ·subst h
  rw[show((0:Int).natAbs:Int)=0 from rfl,Int.emod_zero];exact hr rfl
 ·exact Nat.lt_trans (aBe r m h) hm
theorem cls_leq{M:Nat}{m r m' r':Int}(hm:Bd M m)(hr:m=0→Bd M r)(hm':Bd M m')(hr':m'=0→Bd M r'):leC (cls M m r) (cls M m' r')↔m'∣m∧m'∣r-r':=by
 rw[yU hm hr,yU hm' hr'];unfold leC;show((m'.natAbs:Int)∣(m.natAbs:Int)∧(m'.natAbs:Int)∣_)↔_;rw[qK,qK,Int.dvd_natAbs]
 constructor
 ·rintro⟨a,b⟩
  refine⟨a,?_⟩;have h1:m'∣r-r%(m.natAbs:Int):=Int.dvd_trans a ((qK m _).1 (mY r _));have h2:m'∣r'-r'%(m'.natAbs:Int):=(qK m' _).1 (mY r' _);have:=Int.dvd_sub (Int.dvd_add b h1) h2
  rwa [show r%(m.natAbs:Int)-r'%(m'.natAbs:Int)+(r-r%(m.natAbs:Int))-(r'-r'%(m'.natAbs:Int))=r-r' by omega] at this
 ·rintro⟨a,b⟩
  refine⟨a,?_⟩;have h1:m'∣r-r%(m.natAbs:Int):=Int.dvd_trans a ((qK m _).1 (mY r _));have h2:m'∣r'-r'%(m'.natAbs:Int):=(qK m' _).1 (mY r' _);have:=Int.dvd_add (Int.dvd_sub b h1) h2
  rwa [show r-r'-(r-r%(m.natAbs:Int))+(r'-r'%(m'.natAbs:Int))=r%(m.natAbs:Int)-r'%(m'.natAbs:Int) by omega] at this
theorem aAc(c:Int×Int):leC c c:=⟨Int.dvd_refl _,by rw[Int.sub_self];exact Int.dvd_zero _⟩
theorem wS{c d e:Int×Int}(h:leC c d)(k:leC d e):leC c e:=⟨Int.dvd_trans k.1 h.1,by
 have:=Int.dvd_add (Int.dvd_trans k.1 h.2) k.2
 rwa [show c.2-d.2+(d.2-e.2)=c.2-e.2 by omega] at this⟩
theorem yG{c d:Int×Int}(hc:clsV c)(hd:clsV d)(h:leC c d)(k:leC d c):c=d:=by
 have e:c.1=d.1:=Int.dvd_antisymm hc.1 hd.1 k.1 h.1;have e2:c.2%d.1=d.2%d.1:=(zF _ _ _).2 h.2;rw[←e,hc.2,e,hd.2] at e2;exact Prod.ext e e2
theorem leC_mem{c d:Int×Int}(h:leC c d){a:Int}(k:clsM c a):clsM d a:=by
 have:=Int.dvd_add (Int.dvd_trans h.1 k) h.2
 rwa [show a-c.2+(c.2-d.2)=a-d.2 by omega] at this
def oI(c d:Int×Int):Int:=gcdI (gcdI c.1 d.1) (c.2-d.2)
def nT(M:Nat)(c d:Int×Int):Int×Int:=cls M (oI c d) c.2
theorem wU(c d:Int×Int)(g:Int):g∣oI c d↔g∣c.1∧g∣d.1∧g∣c.2-d.2:=by
 unfold oI
 constructor
 ·intro h
  have h1:=Int.dvd_trans h (kR _ _);exact⟨Int.dvd_trans h1 (kR _ _),Int.dvd_trans h1 (jM _ _),Int.dvd_trans h (jM _ _)⟩
 ·rintro⟨a,b,c⟩
  exact vT (vT a b) c
theorem dvd_unique{x y:Int}(hx:0≤x)(hy:0≤y)(h:∀g,g∣x↔g∣y):x=y:=
 Int.dvd_antisymm hx hy ((h x).1 (Int.dvd_refl _)) ((h y).2 (Int.dvd_refl _))
theorem aAz(c d:Int×Int):0≤oI c d:=gcdI_nonneg _ _
theorem joinM_comm(c d:Int×Int):oI c d=oI d c:=dvd_unique (aAz _ _) (aAz _ _) fun g=>by
 rw[wU,wU];have:g∣c.2-d.2↔g∣d.2-c.2:=by rw[show d.2-c.2= -(c.2-d.2) by omega,Int.dvd_neg]
 rw[this];exact⟨fun⟨a,b,e⟩=>⟨b,a,e⟩,fun⟨a,b,e⟩=>⟨b,a,e⟩⟩
theorem aC7(M:Nat)(c d:Int×Int):nT M c d=nT M d c:=by
 unfold nT;rw[joinM_comm c d];refine cls_congr rfl ?_;have:=((wU d c _).1 (Int.dvd_refl _)).2.2
 rwa [show c.2-d.2= -(d.2-c.2) by omega,Int.dvd_neg]
theorem zU(M:Nat)(c d:Int×Int){a:Int}(h:clsM c a):clsM (nT M c d) a:=
 uT M (Int.dvd_trans ((wU c d _).1 (Int.dvd_refl _)).1 h)
theorem aC8(M:Nat)(c d:Int×Int){a:Int}(h:clsM d a):clsM (nT M c d) a:=by
 rw[aC7];exact zU M d c h
theorem leC_iff{c d:Int×Int}:leC c d↔∀a,clsM c a→clsM d a:=by
 constructor
 ·intro h a k;exact leC_mem h k
 ·intro h
  have h0:d.1∣c.2-d.2:=h c.2 (by unfold clsM;rw[Int.sub_self];exact Int.dvd_zero _);have h1:d.1∣c.2+c.1-d.2:=h (c.2+c.1) (by unfold clsM;rw[show c.2+c.1-c.2=c.1 by omega];exact Int.dvd_refl _);refine⟨?_,h0⟩;have:=Int.dvd_sub h1 h0
  rwa [show c.2+c.1-d.2-(c.2-d.2)=c.1 by omega] at this
theorem pX(M:Nat)(c d:Int×Int):leC c (nT M c d):=leC_iff.2 fun _ h=>zU M c d h
theorem oG(M:Nat)(c d:Int×Int):leC d (nT M c d):=leC_iff.2 fun _ h=>aC8 M c d h
theorem qL{M:Nat}{c d e:Int×Int}(hm:Bd M (oI c d))(hr:Bd M c.2)(h:leC c e)(k:leC d e):leC (nT M c d) e:=by
 unfold nT;rw[yU hm (fun _=>hr)]
 have hj:e.1∣oI c d:=(wU c d _).2 ⟨h.1,k.1,by
  have:=Int.dvd_sub h.2 k.2
  rwa [show c.2-e.2-(d.2-e.2)=c.2-d.2 by omega] at this⟩
 refine⟨by show e.1∣_;rw[Int.dvd_natAbs];exact hj,?_⟩;have h1:e.1∣c.2-c.2%((oI c d).natAbs:Int):=Int.dvd_trans (by rw[Int.dvd_natAbs];exact hj) (mY c.2 _);have:=Int.dvd_sub h.2 h1
 rwa [show c.2-e.2-(c.2-c.2%((oI c d).natAbs:Int))=c.2%((oI c d).natAbs:Int)-e.2 by omega] at this
def addC(M:Nat)(c d:Int×Int):Int×Int:=cls M (gcdI c.1 d.1) (c.2+d.2)
def subC(M:Nat)(c d:Int×Int):Int×Int:=cls M (gcdI c.1 d.1) (c.2+ -d.2)
def mulM(c d:Int×Int):Int:=gcdI (c.1*d.1) (gcdI (c.1*d.2) (d.1*c.2))
def mulC(M:Nat)(c d:Int×Int):Int×Int:=cls M (mulM c d) (c.2*d.2)
theorem addC_mem(M:Nat){c d:Int×Int}{a b:Int}(h:clsM c a)(k:clsM d b):clsM (addC M c d) (a+b):=by
 refine uT M ?_;rw[show a+b-(c.2+d.2)=(a-c.2)+(b-d.2) by omega];exact Int.dvd_add (Int.dvd_trans (kR _ _) h) (Int.dvd_trans (jM _ _) k)
theorem subC_mem(M:Nat){c d:Int×Int}{a b:Int}(h:clsM c a)(k:clsM d b):clsM (subC M c d) (a+ -b):=by
 refine uT M ?_;rw[show a+ -b-(c.2+ -d.2)=(a-c.2)-(b-d.2) by omega];exact Int.dvd_sub (Int.dvd_trans (kR _ _) h) (Int.dvd_trans (jM _ _) k)
theorem mulM_dvd(c d:Int×Int)(g:Int):g∣mulM c d↔g∣c.1*d.1∧g∣c.1*d.2∧g∣d.1*c.2:=by
 unfold mulM
 constructor
 ·intro h
  have h1:=Int.dvd_trans h (jM _ _);exact⟨Int.dvd_trans h (kR _ _),Int.dvd_trans h1 (kR _ _),Int.dvd_trans h1 (jM _ _)⟩
 ·rintro⟨a,b,c⟩
  exact vT a (vT b c)
theorem mul_split{c d:Int×Int}{a b g:Int}(h1:g∣c.1*d.1)(h2:g∣c.1*d.2)(h3:g∣d.1*c.2)(h:clsM c a)(k:clsM d b):g∣a*b-c.2*d.2:=by
 obtain⟨s,hs⟩:=h;obtain⟨t,ht⟩:=k;obtain rfl:a=c.2+c.1*s:=by omega
 obtain rfl:b=d.2+d.1*t:=by omega
 have e:(c.2+c.1*s)*(d.2+d.1*t)-c.2*d.2=c.1*d.1*(s*t)+c.1*d.2*s+d.1*c.2*t:=by
  simp only[Int.add_mul,Int.mul_add];have e1:c.1*s*(d.1*t)=c.1*d.1*(s*t):=by ac_rfl
  have e2:c.1*s*d.2=c.1*d.2*s:=by ac_rfl
  have e3:c.2*(d.1*t)=d.1*c.2*t:=by ac_rfl
  omega
 rw[e];exact Int.dvd_add (Int.dvd_add (Int.dvd_trans h1 (Int.dvd_mul_right _ _)) (Int.dvd_trans h2 (Int.dvd_mul_right _ _))) (Int.dvd_trans h3 (Int.dvd_mul_right _ _))
theorem mulC_mem(M:Nat){c d:Int×Int}{a b:Int}(h:clsM c a)(k:clsM d b):clsM (mulC M c d) (a*b):=by
 obtain⟨h1,h2,h3⟩:=(mulM_dvd c d _).1 (Int.dvd_refl _);exact uT M (mul_split h1 h2 h3 h k)
theorem negC_mem(M:Nat){c:Int×Int}{a:Int}(h:clsM c a):clsM (subC M (0,0) c) (-a):=by
 have:=subC_mem M (c:=(0,0)) (d:=c) (a:=0) (b:=a) (by unfold clsM;exact⟨0,by decide⟩) h
 rwa [Int.zero_add] at this
theorem quoC_mem(M:Nat){c:Int×Int}{s a:Int}(h0:s≠0)(hs:s∣c.1)(h:clsM c a):clsM (cls M (Int.fdiv c.1 s) (Int.fdiv c.2 s)) (Int.fdiv a s):=by
 obtain⟨n,hn⟩:=hs;obtain⟨t,ht⟩:=h;obtain rfl:a=c.2+s*(n*t):=by rw[hn,Int.mul_assoc] at ht;omega
 refine uT M ?_;rw[Int.add_mul_fdiv_left _ _ h0,hn,Int.mul_fdiv_cancel_left _ h0];exact⟨t,by omega⟩
theorem remC_mem(M:Nat){c:Int×Int}{s a:Int}(hs:s∣c.1)(h:clsM c a):clsM (cls M 0 (Int.fmod c.2 s)) (Int.fmod a s):=by
 obtain⟨n,hn⟩:=hs;obtain⟨t,ht⟩:=h;obtain rfl:a=c.2+s*(n*t):=by rw[hn,Int.mul_assoc] at ht;omega
 refine uT M ?_;rw[Int.add_mul_fmod_self_left,Int.sub_self];exact Int.dvd_refl _
theorem fmod_eq(a b:Int):Int.fmod a b=a-b*Int.fdiv a b:=by have:=Int.mul_fdiv_add_fmod a b;omega
theorem restC_mem(M:Nat){c d:Int×Int}{a b:Int}(h:clsM c a)(k:clsM d b):clsM (cls M (gcdI c.1 (gcdI d.1 d.2)) c.2) (Int.fmod a b):=by
 refine uT M ?_;have g1:gcdI c.1 (gcdI d.1 d.2)∣a-c.2:=Int.dvd_trans (kR _ _) h
 have g2:gcdI c.1 (gcdI d.1 d.2)∣b:=by
  have e:=jM c.1 (gcdI d.1 d.2);have e1:=Int.dvd_trans (Int.dvd_trans e (kR _ _)) k;have e2:=Int.dvd_trans e (jM _ _);have:=Int.dvd_add e1 e2
  rwa [show b-d.2+d.2=b by omega] at this
 rw[fmod_eq,show a-b*Int.fdiv a b-c.2=(a-c.2)-b*Int.fdiv a b by omega];exact Int.dvd_sub g1 (Int.dvd_trans g2 (Int.dvd_mul_right _ _))
theorem kE(a b:Int):(gcdI a b).natAbs≤a.natAbs+b.natAbs:=by
 unfold gcdI;rw[Int.natAbs_natCast]
 by_cases h:a.natAbs=0
 ·rw[h,Nat.gcd_zero_left];omega
 ·exact Nat.le_trans (Nat.le_of_dvd aCo (Nat.gcd_dvd_left _ _)) aCo
theorem cls_bd{M K:Nat}{m r:Int}(hK:1≤K)(hm:Bd K m)(hr:m=0→Bd K r):Bd K (cls M m r).1∧Bd K (cls M m r).2:=by
 have h1:Bd K 1:=by
  show(1:Nat)<10 ^ K;exact Nat.one_lt_pow aCo aCo
 have h0:Bd K 0:=by
  show(0:Nat)<10 ^ K;exact Nat.pow_pos aCo
 unfold cls
 split
 ·refine⟨by unfold Bd at *;simpa using hm,?_⟩
  by_cases h:m=0
  ·subst h
   show Bd K (r%((0:Int).natAbs:Int));rw[show((0:Int).natAbs:Int)=0 from rfl,Int.emod_zero];exact hr rfl
  ·exact Nat.lt_trans (aBe r m h) hm
 ·exact⟨h1,h0⟩
theorem qZ{K:Nat}{c d:Int×Int}(h1:Bd K c.1)(h2:Bd K c.2)(h3:Bd K d.1)(h4:Bd K d.2):Bd (K+1) (oI c d):=by
 unfold Bd oI at *
 have a:=kE (gcdI c.1 d.1) (c.2-d.2);have b:=kE c.1 d.1;rw[Nat.pow_succ];generalize 10 ^ K=P at *
 omega
theorem joinC_bd{M K:Nat}{c d:Int×Int}(h1:Bd K c.1)(h2:Bd K c.2)(h3:Bd K d.1)(h4:Bd K d.2):Bd (K+1) (nT M c d).1∧Bd (K+1) (nT M c d).2:=by
 refine cls_bd aCo (qZ h1 h2 h3 h4) fun _=> ?_
 unfold Bd at *
 rw[Nat.pow_succ];omega
theorem joinC_assoc{M K:Nat}(hK:K+2≤M){c d x:Int×Int}(c1:Bd K c.1)(c2:Bd K c.2)(d1:Bd K d.1)(d2:Bd K d.2)(x1:Bd K x.1)(x2:Bd K x.2):nT M (nT M c d) x=nT M c (nT M d x):=by
 have b1:=joinC_bd (M:=M) c1 c2 d1 d2;have b2:=joinC_bd (M:=M) d1 d2 x1 x2;have m1:=qZ c1 c2 d1 d2;have m2:=qZ d1 d2 x1 x2;have m3:=qZ b1.1 b1.2 (x1.mono (Nat.le_succ K)) (x2.mono (Nat.le_succ K));have m4:=qZ (c1.mono (Nat.le_succ K)) (c2.mono (Nat.le_succ K)) b2.1 b2.2;refine yG (yT _ _ _) (yT _ _ _) ?_ ?_
 ·refine qL (m3.mono aCo) (b1.2.mono aCo) (qL (m1.mono aCo) (c2.mono aCo) (pX _ _ _) (wS (pX _ _ _) (oG _ _ _))) (wS (oG M d x) (oG _ _ _))
 ·refine qL (m4.mono aCo) (c2.mono aCo) (wS (pX M c d) (pX _ _ _)) (qL (m2.mono aCo) (d2.mono aCo) (wS (oG M c d) (pX _ _ _)) (oG _ _ _))
theorem leC_join{M K:Nat}(hK:K+1≤M){c d:Int×Int}(hd:clsV d)(c1:Bd K c.1)(c2:Bd K c.2)(d1:Bd K d.1)(d2:Bd K d.2):leC c d↔nT M c d=d:=by
 constructor
 ·intro h
  refine yG (yT _ _ _) hd (qL ((qZ c1 c2 d1 d2).mono hK) (c2.mono aCo) h (aAc d)) (oG _ _ _)
 ·intro h
  have:=pX M c d
  rwa [h] at this
theorem addC_grows{M:Nat}{c d x:Int×Int}(b1:Bd M (gcdI c.1 x.1))(b2:Bd M (c.2+x.2))(b3:Bd M (gcdI d.1 x.1))(b4:Bd M (d.2+x.2))(h:leC c d):leC (addC M c x) (addC M d x):=by
 refine(cls_leq b1 (fun _=>b2) b3 (fun _=>b4)).2 ⟨vT (Int.dvd_trans (kR _ _) h.1) (jM _ _),?_⟩;rw[show c.2+x.2-(d.2+x.2)=c.2-d.2 by omega];exact Int.dvd_trans (kR _ _) h.2
theorem subC_grows{M:Nat}{c d x:Int×Int}(b1:Bd M (gcdI x.1 c.1))(b2:Bd M (x.2+ -c.2))(b3:Bd M (gcdI x.1 d.1))(b4:Bd M (x.2+ -d.2))(h:leC c d):leC (subC M x c) (subC M x d):=by
 refine(cls_leq b1 (fun _=>b2) b3 (fun _=>b4)).2 ⟨vT (kR _ _) (Int.dvd_trans (jM _ _) h.1),?_⟩;rw[show x.2+ -c.2-(x.2+ -d.2)= -(c.2-d.2) by omega,Int.dvd_neg];exact Int.dvd_trans (jM _ _) h.2
theorem mulC_grows{M:Nat}{c d x:Int×Int}(b1:Bd M (mulM c x))(b2:Bd M (c.2*x.2))(b3:Bd M (mulM d x))(b4:Bd M (d.2*x.2))(h:leC c d):leC (mulC M c x) (mulC M d x):=by
 obtain⟨h1,h2,h3⟩:=(mulM_dvd d x _).1 (Int.dvd_refl _);refine(cls_leq b1 (fun _=>b2) b3 (fun _=>b4)).2 ⟨(mulM_dvd c x _).2 ⟨?_,?_,?_⟩,?_⟩
 ·exact Int.dvd_trans h1 (Int.mul_dvd_mul h.1 (Int.dvd_refl _))
 ·exact Int.dvd_trans h2 (Int.mul_dvd_mul h.1 (Int.dvd_refl _))
 ·have e:x.1*c.2=x.1*d.2+x.1*(c.2-d.2):=by rw[←Int.mul_add];congr 1;omega
  rw[e];refine Int.dvd_add h3 (Int.dvd_trans h1 ?_);rw[Int.mul_comm d.1];exact Int.mul_dvd_mul (Int.dvd_refl _) h.2
 ·rw[←Int.sub_mul]
  exact Int.dvd_trans h2 (Int.mul_dvd_mul h.2 (Int.dvd_refl _))
theorem emod_swap{m a:Int}(h:0<m):(a%m+(-a)%m=0∧m∣a)∨(a%m+(-a)%m=m∧¬m∣a):=by
 by_cases k:m∣a
 ·left
  refine⟨?_,k⟩;rw[Int.emod_eq_zero_of_dvd k,Int.emod_eq_zero_of_dvd (Int.dvd_neg.2 k)];rfl
 ·right
  refine⟨?_,k⟩;have h1:=Int.emod_nonneg a (show m≠0 by omega);have h2:=Int.emod_lt_of_pos a h;have h3:=Int.emod_nonneg (-a) (show m≠0 by omega);have h4:=Int.emod_lt_of_pos (-a) h;have h5:m∣(a-a%m)+(-a- -a%m):=Int.dvd_add Int.dvd_self_sub_emod Int.dvd_self_sub_emod;rw[show(a-a%m)+(-a- -a%m)= -(a%m+ -a%m) by omega,Int.dvd_neg] at h5;obtain⟨t,ht⟩:=h5;have h6:a%m≠0:=fun e=>k (Int.dvd_of_emod_eq_zero e)
  have t1:t=1:=by
   have ha:0<m*t:=by omega
   have hb:m*t<m*2:=by omega
   have t0:0<t:=by
    by_cases q:0<t
    ·exact q
    ·have:=Int.mul_le_mul_of_nonneg_left (show t≤0 by omega) (show 0≤m by omega)
     rw[Int.mul_zero] at this;omega
   have t2:=Int.lt_of_mul_lt_mul_left hb (show 0≤m by omega);omega
  rw[ht,t1,Int.mul_one]
theorem yH(x y:Int):lcmI x y=(Nat.lcm x.natAbs y.natAbs:Nat):=by
 unfold lcmI
 by_cases h:x=0∨y=0
 ·rw[if_pos h]
  rcases h with rfl|rfl
  ·simp
  ·simp
 ·rw[if_neg h]
  unfold gcdI Nat.lcm;obtain⟨n,hn⟩:=Nat.gcd_dvd_left x.natAbs y.natAbs;have hg:0<Nat.gcd x.natAbs y.natAbs:=Nat.gcd_pos_of_pos_left _ aCo;generalize Nat.gcd x.natAbs y.natAbs=g at hn hg;rw[hn,←Int.natCast_ediv,Nat.mul_div_cancel_left n hg,Nat.mul_assoc,Nat.mul_div_cancel_left _ hg,Int.natCast_mul]
theorem lcmI_dvd{x y n:Int}(h:x∣n)(k:y∣n):lcmI x y∣n:=by
 rw[yH,←Int.dvd_natAbs,Int.natCast_dvd_natCast];exact Nat.lcm_dvd (Int.natAbs_dvd_natAbs.2 h) (Int.natAbs_dvd_natAbs.2 k)
theorem lcmI_left(x y:Int):x∣lcmI x y:=by
 rw[yH,←Int.natAbs_dvd,Int.natCast_dvd_natCast];exact Nat.dvd_lcm_left _ _
theorem lcmI_right(x y:Int):y∣lcmI x y:=by
 rw[yH,←Int.natAbs_dvd,Int.natCast_dvd_natCast];exact Nat.dvd_lcm_right _ _
def metS(c d:Int×Int):Int:=c.2+bezU c.1 d.1*Int.fdiv (d.2+ -c.2) (gcdI c.1 d.1)*c.1
theorem metS_left(c d:Int×Int):c.1∣metS c d-c.2:=by
 unfold metS;rw[show c.2+bezU c.1 d.1*Int.fdiv (d.2+ -c.2) (gcdI c.1 d.1)*c.1-c.2=bezU c.1 d.1*Int.fdiv (d.2+ -c.2) (gcdI c.1 d.1)*c.1 by omega];exact Int.dvd_mul_left _ _
theorem aC9(c d:Int×Int)(hd:d.1≠0)(hg:gcdI c.1 d.1∣d.2+ -c.2):d.1∣metS c d-d.2:=by
 have hb:=bezU_val c.1 d.1 hd;unfold metS;obtain⟨q,hq⟩:=hg
 have g0:gcdI c.1 d.1≠0:=by
  intro e;have:=jM c.1 d.1;rw[e] at this;exact hd (Int.zero_dvd.1 this)
 rw[hq,Int.mul_fdiv_cancel_left _ g0]
 have e:c.2+bezU c.1 d.1*q*c.1-d.2=q*(c.1*bezU c.1 d.1-gcdI c.1 d.1):=by
  rw[Int.mul_sub];have e1:bezU c.1 d.1*q*c.1=q*(c.1*bezU c.1 d.1):=by ac_rfl
  have e2:q*gcdI c.1 d.1=gcdI c.1 d.1*q:=Int.mul_comm _ _;omega
 rw[e];exact Int.dvd_trans hb (Int.dvd_mul_left _ _)
def rQ(M:Nat)(c d:Int×Int):Option (Int×Int):=if d.1∣c.1∧d.1∣c.2-d.2 then some c else if c.1∣d.1∧c.1∣d.2-c.2 then some d else if c.1=0∨d.1=0∨¬gcdI c.1 d.1∣d.2+ -c.2 then none else some (cls M (lcmI c.1 d.1) (metS c d))
theorem both_gcd{c d:Int×Int}{a:Int}(h:clsM c a)(k:clsM d a):gcdI c.1 d.1∣d.2+ -c.2:=by
 have e1:=Int.dvd_trans (kR c.1 d.1) h;have e2:=Int.dvd_trans (jM c.1 d.1) k;have:=Int.dvd_sub e1 e2
 rwa [show a-c.2-(a-d.2)=d.2+ -c.2 by omega] at this
theorem meetC_mem(M:Nat){c d:Int×Int}{a:Int}(h:clsM c a)(k:clsM d a):∃e,rQ M c d=some e∧clsM e a:=by
 unfold rQ
 by_cases h1:d.1∣c.1∧d.1∣c.2-d.2
 ·exact⟨c,if_pos h1,h⟩
 ·rw[if_neg h1]
  by_cases h2:c.1∣d.1∧c.1∣d.2-c.2
  ·exact⟨d,if_pos h2,k⟩
  ·rw[if_neg h2]
   have hg:=both_gcd h k
   have z1:c.1≠0:=by
    intro z;have e:a-c.2=0:=by have:=h;unfold clsM at this;rw[z] at this;exact Int.zero_dvd.1 this
    refine h1 ⟨by rw[z];exact Int.dvd_zero _,?_⟩;have:=k;unfold clsM at this
    rwa [show a=c.2 by omega] at this
   have z2:d.1≠0:=by
    intro z;have e:a-d.2=0:=by have:=k;unfold clsM at this;rw[z] at this;exact Int.zero_dvd.1 this
    refine h2 ⟨by rw[z];exact Int.dvd_zero _,?_⟩;have:=h;unfold clsM at this
    rwa [show a=d.2 by omega] at this
   refine⟨_,if_neg (by rintro(q|q|q) <;> contradiction),uT M (lcmI_dvd ?_ ?_)⟩
   ·have:=Int.dvd_sub h (metS_left c d)
    rwa [show a-c.2-(metS c d-c.2)=a-metS c d by omega] at this
   ·have:=Int.dvd_sub k (aC9 c d z2 hg)
    rwa [show a-d.2-(metS c d-d.2)=a-metS c d by omega] at this
theorem meetC_sound{M:Nat}{c d e:Int×Int}{a:Int}(hl:Bd M (lcmI c.1 d.1))(h:rQ M c d=some e)(k:clsM e a):clsM c a∧clsM d a:=by
 unfold rQ at h
 by_cases h1:d.1∣c.1∧d.1∣c.2-d.2
 ·rw[if_pos h1] at h
  obtain rfl:=Option.some.inj h;exact⟨k,leC_mem h1 k⟩
 ·rw[if_neg h1] at h
  by_cases h2:c.1∣d.1∧c.1∣d.2-c.2
  ·rw[if_pos h2] at h
   obtain rfl:=Option.some.inj h;exact⟨leC_mem h2 k,k⟩
  ·rw[if_neg h2] at h
   by_cases h3:c.1=0∨d.1=0∨¬gcdI c.1 d.1∣d.2+ -c.2
   ·rw[if_pos h3] at h;cases h
   ·rw[if_neg h3] at h
    obtain rfl:=Option.some.inj h;have z1:c.1≠0:=fun q=>h3 (.inl q)
    have z2:d.1≠0:=fun q=>h3 (.inr (.inl q))
    have hg:gcdI c.1 d.1∣d.2+ -c.2:=Decidable.byContradiction fun q=>h3 (.inr (.inr q))
    have l0:lcmI c.1 d.1≠0:=by
     rw[yH];have:=Nat.lcm_pos (m:=c.1.natAbs) (n:=d.1.natAbs) aCo aCo;omega
    rw[yU hl (fun q=>absurd q l0)] at k
    have k':lcmI c.1 d.1∣a-metS c d:=by
     have k1:((lcmI c.1 d.1).natAbs:Int)∣a-metS c d%((lcmI c.1 d.1).natAbs:Int):=k;have:=Int.dvd_sub ((qK _ _).1 k1) ((qK _ _).1 (mY (metS c d) ((lcmI c.1 d.1).natAbs:Int)))
     rwa [show a-metS c d%((lcmI c.1 d.1).natAbs:Int)-(metS c d-metS c d%((lcmI c.1 d.1).natAbs:Int))=a-metS c d by omega] at this
    constructor
    ·have:=Int.dvd_add (Int.dvd_trans (lcmI_left _ _) k') (metS_left c d)
     rwa [show a-metS c d+(metS c d-c.2)=a-c.2 by omega] at this
    ·have:=Int.dvd_add (Int.dvd_trans (lcmI_right _ _) k') (aC9 c d z2 hg)
     rwa [show a-metS c d+(metS c d-d.2)=a-d.2 by omega] at this
theorem lcmI_le(x y:Int):(lcmI x y).natAbs≤x.natAbs*y.natAbs:=by
 rw[yH,Int.natAbs_natCast];exact Nat.div_le_self _ _
theorem mulM_bd{K:Nat}{c d:Int×Int}{L:Nat}(h1:Bd K c.1)(h2:Bd K c.2)(h3:Bd L d.1)(h4:Bd L d.2):Bd (K+L+1) (mulM c d):=by
 have hm:∀{x y:Int},Bd K x→Bd L y→(x*y).natAbs<10 ^ (K+L):=fun {x y} hx hy=>by
  unfold Bd at *
  rw[Int.natAbs_mul,Nat.pow_add];exact Nat.mul_lt_mul'' hx hy
 unfold Bd mulM;have a:=kE (c.1*d.1) (gcdI (c.1*d.2) (d.1*c.2));have b:=kE (c.1*d.2) (d.1*c.2);have e1:=hm h1 h3;have e2:=hm h1 h4;have e3:=hm h2 h3;rw[Int.mul_comm c.2] at e3;rw[Nat.pow_succ];omega
def encC:Option (Int×Int)→Bool×ByteArray×ByteArray
 |none=>(true,⟨#[]⟩,⟨#[]⟩)
 |some c=>(false,text c.1,text c.2)
def bV:Option (Int×Int)→Prop
 |none=>True
 |some c=>clsV c∧Bd 100 c.1∧Bd 100 c.2
theorem long_val(a:ByteArray)(ha:a.size≤1000000):iG.f a=some (decide (100<digN a)):=by
 have hz:=Lib.size_eq a;unfold iG.f strings_TrimPrefix.f stringslite_TrimPrefix.f stringslite_HasPrefix.f digN;have h1:((⟨#[45]⟩:ByteArray).size:Int)=1:=rfl;rw[h1]
 by_cases h0:a.size=0
 ·have hn:a.data.toList= []:=List.eq_nil_of_length_eq_zero (by rw[←hz];exact h0)
  rw[if_neg aCo,Option.bind_some,if_neg aCq,Option.bind_some,Option.bind_some,hn]
  simp[Lib.trimPrefix,Lib.hasPrefix,h0]
 ·rw[if_pos aCo,if_pos aCo,if_pos aCo,Option.bind_some]
  obtain⟨c,r,hl⟩:∃c r,a.data.toList=c::r:=by
   cases hq:a.data.toList with
   |nil=>rw[hq] at hz;exact absurd hz h0
   |cons c r=>exact⟨c,r,rfl⟩
  have he:(a.extract 0 (Int.toNat 1)).toList= [c]:=by
   rw[toList_data,Lib.extract_data,hl]
   simp
  have hp:(⟨#[45]⟩:ByteArray).toList= [45]:=by rw[toList_data]
  rw[he,hp]
  by_cases hc:c=45
  ·subst hc
   have e1:Lib.hasPrefix a.data.toList [45]=true:=by rw[hl];simp[Lib.hasPrefix]
   rw[if_pos aCr,if_pos aCo,if_pos aCo,Option.bind_some,Option.bind_some,Lib.trimPrefix,if_pos e1,hl]
   congr 1
   refine decide_eq_decide.2 ?_
   have:(a.extract (Int.toNat 1) a.size).size=r.length:=by
    rw[Lib.size_eq,Lib.extract_data,hl];have:a.size=r.length+1:=by rw[hz,hl];rfl
    rw[this]
    simp
   rw[this];show((r.length:Int)>100)↔_
   simp
   omega
  ·have e1:Lib.hasPrefix a.data.toList [45]=false:=by rw[hl];simp[Lib.hasPrefix,List.isPrefixOf,Ne.symm hc]
   rw[if_neg (by simp[hc]),Option.bind_some,Option.bind_some,Lib.trimPrefix,if_neg (by rw[e1];simp),←hz]
   congr 1
   exact decide_eq_decide.2 aCo
def numC(a:ByteArray):Int:=if canon a.data.toList=true then(if 100<digN a then 10 else 0) else 3
theorem aCa(a:ByteArray)(ha:a.size≤1000000)(k:Nat):eH.f (k+1) a=some (numC a):=by
 unfold eH.f numC fA.f chkI;rw[if_pos aCo,Option.bind_some]
 by_cases hc:canon a.data.toList=true
 ·rw[if_pos hc,if_pos hc]
  by_cases hd:4096<digN a
  ·rw[if_pos hd,if_pos rfl,if_pos aCo,eH.j0,if_pos rfl]
  ·rw[if_neg hd,if_neg aCr,if_pos rfl,long_val a ha,Option.bind_some,eH.j0]
   by_cases h1:100<digN a
   ·rw[if_pos (decide_eq_true h1),if_pos h1]
   ·rw[if_neg (by simpa using h1),if_neg h1,if_pos rfl]
 ·rw[if_neg hc,if_neg hc,if_neg aCr,if_neg aCr,eH.j0,if_neg aCq,if_neg aCr]
theorem xN{a:ByteArray}(h:numC a=0):∃x,a=text x∧Bd 100 x:=by
 unfold numC at h
 by_cases hc:canon a.data.toList=true
 ·rw[if_pos hc] at h
  by_cases hd:100<digN a
  ·rw[if_pos hd] at h;cases h
  ·obtain⟨x,rfl⟩:=lQ a hc
   exact⟨x,rfl,pG _ (by rw[←kQ];omega)⟩
 ·rw[if_neg hc] at h;cases h
theorem numC_text{x:Int}(h:Bd 100 x):numC (text x)=0:=by
 unfold numC;have:=lZ h aCo;rw[if_pos (rO x).1,kQ,if_neg aCo]
def rngC(m r:Int):Prop:=m<0∨m≠0∧(r<0∨¬r<m)
instance (m r:Int):Decidable (rngC m r):=inferInstanceAs (Decidable (_∨_))
def chkC(e:Bool)(m r:ByteArray):Int:=if e=true then(if m.toList=([]:List UInt8) then(if r.toList=([]:List UInt8) then 0 else 3) else 3) else if numC m=0 then(if numC r=0 then(if rngC (aN m) (aN r) then 2 else 0) else numC r) else numC m
theorem wV{x y:Int}{m:Nat}(hx:Bd m x)(hy:Bd m y)(hm:1≤m)(h4:m≤4096):eF.f (text x) (text y)=some (decide (x<y)):=by
 unfold eF.f kK.f;rw[compare_at m hx hy hm h4,Option.bind_some,Option.bind_some]
 congr 1
 exact decide_eq_decide.2 (by rw[vS];omega)
theorem check_end(k:Nat)(l:List ByteArray)(n i:Int)(hi:¬i<n)(e:Bool){x y:Int}(hx:Bd 100 x)(hy:Bd 100 y):bQ.l0 (k+1) l n i e (text x) (text y)=some (if rngC x y then 2 else 0):=by
 have h0:Bd 100 0:=Nat.pow_pos aCo;have e0:(⟨#[48]⟩:ByteArray)=text 0:=vH.symm;have t0:((text x).toList=([48]:List UInt8))↔x=0:=fJ x;rw[bQ.l0,if_neg hi,e0,wV hx h0 aCo aCo,Option.bind_some]
 by_cases h1:x<0
 ·have hr:rngC x y:= .inl h1
  rw[if_pos (decide_eq_true h1),if_pos hr]
 ·rw[if_neg (by simpa using h1)]
  by_cases h2:x=0
  ·have hr:¬rngC x y:=by unfold rngC;omega
   rw[if_pos (t0.2 h2),if_neg hr]
  ·rw[if_neg (fun q=>h2 (t0.1 q)),wV hy h0 aCo aCo,Option.bind_some]
   by_cases h3:y<0
   ·have hr:rngC x y:= .inr ⟨h2,.inl h3⟩
    rw[if_pos (decide_eq_true h3),if_pos hr]
   ·rw[if_neg (by simpa using h3),wV hy hx aCo aCo,Option.bind_some]
    by_cases h4:y<x
    ·have hr:¬rngC x y:=by unfold rngC;omega
     rw[if_pos (decide_eq_true h4),if_neg hr]
    ·have hr:rngC x y:= .inr ⟨h2,.inr h4⟩
     rw[if_neg (by simpa using h4),if_pos hr]
theorem yV(e:Bool)(m r:ByteArray)(hm:m.size≤1000000)(hr:r.size≤1000000)(k:Nat)(hk:5≤k):bQ.f k e m r=some (chkC e m r):=by
 obtain⟨k,rfl⟩:∃j,k=j+4:=⟨k-4,by omega⟩
 unfold bQ.f chkC
 by_cases he:e=true
 ·rw[if_pos he,if_pos he]
  by_cases h1:m.toList=([]:List UInt8)
  ·rw[if_pos h1,if_pos h1]
   by_cases h2:r.toList=([]:List UInt8)
   ·rw[if_pos h2,if_pos h2]
   ·rw[if_neg h2,if_neg h2]
  ·rw[if_neg h1,if_neg h1]
 ·rw[if_neg he,if_neg he,Option.bind_some]
  rw[show(([m,r]:List ByteArray).length:Int)=2 from rfl,bQ.l0,if_pos aCr,if_pos aCr,if_pos (show(0:Int)<(([m,r]:List ByteArray).length:Int) from by simp),show rdOf ByteArray.empty [m,r] 0=m from rfl,aCa m hm,Option.bind_some]
  by_cases h1:numC m=0
  ·rw[if_pos h1,if_pos h1,show wrap64 ((0:Int)+1)=1 from by decide +kernel,bQ.l0,if_pos aCr,if_pos aCr,if_pos (show(1:Int)<(([m,r]:List ByteArray).length:Int) from by simp),show rdOf ByteArray.empty [m,r] 1=r from rfl,aCa r hr,Option.bind_some]
   by_cases h2:numC r=0
   ·obtain⟨x,rfl,bx⟩:=xN h1
    obtain⟨y,rfl,by'⟩:=xN h2;rw[if_pos h2,if_pos h2,show wrap64 ((1:Int)+1)=2 from by decide +kernel,check_end _ _ _ _ aCr _ bx by',dQ,dQ]
   ·rw[if_neg h2,if_neg h2]
  ·rw[if_neg h1,if_neg h1]
theorem zV{e:Bool}{m r:ByteArray}(h:chkC e m r=0):∃o,bV o∧(e,m,r)=encC o:=by
 unfold chkC at h
 by_cases he:e=true
 ·rw[if_pos he] at h
  by_cases h1:m.toList=([]:List UInt8)
  ·rw[if_pos h1] at h
   by_cases h2:r.toList=([]:List UInt8)
   ·refine⟨none,trivial,?_⟩
    have e1:m=⟨#[]⟩:=wP (by rw[←toList_data,h1]);have e2:r=⟨#[]⟩:=wP (by rw[←toList_data,h2]);rw[he,e1,e2];rfl
   ·rw[if_neg h2] at h;cases h
  ·rw[if_neg h1] at h;cases h
 ·rw[if_neg he] at h
  by_cases h1:numC m=0
  ·rw[if_pos h1] at h
   by_cases h2:numC r=0
   ·rw[if_pos h2] at h
    obtain⟨x,rfl,bx⟩:=xN h1;obtain⟨y,rfl,by'⟩:=xN h2;rw[dQ,dQ] at h
    by_cases h3:rngC x y
    ·rw[if_pos h3] at h;cases h
    ·refine⟨some (x,y),⟨⟨?_,?_⟩,bx,by'⟩,?_⟩
     ·unfold rngC at h3;show 0≤x;omega
     ·show y%x=y
      by_cases hx:x=0
      ·rw[hx,Int.emod_zero]
      ·unfold rngC at h3
       exact Int.emod_eq_of_lt aCo aCo
     ·have:e=false:=by simpa using he
      rw[this];rfl
   ·rw[if_neg h2] at h;exact absurd h h2
  ·rw[if_neg h1] at h;exact absurd h h1
theorem chkC_enc{o:Option (Int×Int)}(h:bV o):chkC (encC o).1 (encC o).2.1 (encC o).2.2=0:=by
 cases o with
 |none=>
  show chkC true ⟨#[]⟩ ⟨#[]⟩=0;unfold chkC;rw[if_pos rfl,if_pos (by rw[toList_data]),if_pos (by rw[toList_data])]
 |some c=>
  obtain⟨⟨v1,v2⟩,b1,b2⟩:=h;show chkC false (text c.1) (text c.2)=0;unfold chkC;rw[if_neg aCq,if_pos (numC_text b1),if_pos (numC_text b2),dQ,dQ,if_neg];rintro(q|⟨q,r⟩)
  ·omega
  ·have:=Int.emod_nonneg c.2 q
   have:=Int.emod_lt_of_pos c.2 (show 0<c.1 by omega);omega
theorem long_text{x:Int}{m:Nat}(hx:Bd m x)(hm:1≤m)(h4:m≤90000):iG.f (text x)=some (decide (¬x.natAbs<10 ^ 100)):=by
 have:=size_text hx hm;rw[long_val _ aCo,kQ]
 congr 1
 refine decide_eq_decide.2 ⟨fun h q=> ?_,fun h=> ?_⟩
 ·have:=lZ (m:=100) q aCo
  omega
 ·refine Nat.lt_of_not_le fun q=>h ?_
  exact yB _ _ q
theorem nU{m r:Int}{n:Nat}(hm:Bd n m)(hr:Bd n r)(hn:1≤n)(h4:n≤4096)(k:Nat):bI.f (k+1) (text m) (text r)=some (encC (some (cls 100 m r))):=by
 have hs:=size_text hm hn;have hA:Bd n (m.natAbs:Int):=by unfold Bd at *;simpa using hm
 have ha:nN.f (text m)=some (text (m.natAbs:Int),0):=by
  unfold nN.f;rw[if_pos aCo,chk_text hm hn h4];simp only[if_true,abs_text]
 have fin:∀{R:Int},Bd n R→R=r%(m.natAbs:Int)→bI.j0 (k+1) (text (m.natAbs:Int)) (text R)=some (encC (some (cls 100 m r))):=fun {R} hR e=>by
  rw[bI.j0,long_text hA hn aCo,Option.bind_some,long_text hR hn aCo,Int.natAbs_natCast];unfold fB.f;have hc:cls 100 m r=if m.natAbs<10 ^ 100∧R.natAbs<10 ^ 100 then((m.natAbs:Int),R) else(1,0):=by unfold cls;rw[e]
  have t1:encC (some (1,0))=(false,⟨#[49]⟩,⟨#[48]⟩):=by decide +kernel
  generalize hP:(10:Nat) ^ 100=P at *
  rw[hc]
  by_cases h1:m.natAbs<P
  ·rw[if_neg (by simpa using h1),Option.bind_some]
   by_cases h2:R.natAbs<P
   ·rw[if_neg (by simpa using h2),if_pos ⟨h1,h2⟩];rfl
   ·rw[if_pos (decide_eq_true h2),if_neg (fun q=>h2 q.2),Option.bind_some,t1]
  ·rw[if_pos (decide_eq_true h1),if_neg (fun q=>h1 q.1),Option.bind_some,t1]
 unfold bI.f eQ.f;rw[ha,Option.bind_some,Option.bind_some];show(if(text (m.natAbs:Int)).toList=([48]:List UInt8) then bI.j0 (k+1) (text (m.natAbs:Int)) (text r) else(fC.f (text r) (text (m.natAbs:Int))).bind fun bt=>(some bt.1).bind fun t=>bI.j0 (k+1) (text (m.natAbs:Int)) t)=_
 by_cases h0:m=0
 ·have hz:(m.natAbs:Int)=0:=by omega
  rw[if_pos ((fJ _).2 hz)];exact fin hr (by rw[hz,Int.emod_zero])
 ·have hne:(m.natAbs:Int)≠0:=by omega
  have hf:Int.fmod r (m.natAbs:Int)=r%(m.natAbs:Int):=Int.fmod_eq_emod_of_nonneg _ aCo;rw[if_neg (fun q=>hne ((fJ _).1 q)),wR n hr hA hn h4,if_neg hne,Option.bind_some,Option.bind_some,hf];exact fin (by rw[←hf];exact hA.fmod hne) rfl
theorem rU{x y:Int}{n:Nat}(hx:Bd n x)(hy:Bd n y)(hn:1≤n)(h4:n≤4096):dO.f (text x) (text y)=some (text (gcdI x y)):=by
 unfold dO.f pO.f eQ.f;rw[if_pos (pK hx hy hn h4),if_pos (nM hx hy hn h4),dQ,dQ];rfl
theorem zW{x y:Int}{n:Nat}(hx:Bd n x)(hy:Bd n y)(hn:1≤n)(h4:n≤4095):gV.f (text x) (text y)=some (text (x+ -y)):=by
 unfold gV.f eQ.f;rw[sub_at n hx hy hn h4];rfl
theorem add_val{x y:Int}{n:Nat}(hx:Bd n x)(hy:Bd n y)(hn:1≤n)(h4:n≤4095):kG.f (text x) (text y)=some (text (x+y)):=by
 unfold kG.f eQ.f;rw[add_at n hx hy hn h4];rfl
theorem xO{x y:Int}{n:Nat}(hx:Bd n x)(hy:Bd n y)(hn:1≤n)(h4:n≤2048):fK.f (text x) (text y)=some (text (x*y)):=by
 unfold fK.f eQ.f;rw[mul_at n hx hy hn h4];rfl
theorem sD{x y:Int}{n:Nat}(hx:Bd n x)(hy:Bd n y)(hn:1≤n)(h4:n≤4096):eG.f (text x) (text y)=some (decide (x∣y)):=by
 unfold eG.f eQ.f
 by_cases h0:x=0
 ·rw[if_pos ((fJ x).2 h0)]
  congr 1
  have e:x∣y↔(text y).toList=([48]:List UInt8):=by rw[h0,Int.zero_dvd,fJ]
  by_cases h:x∣y
  ·rw[decide_eq_true h,e.1 h];rfl
  ·rw[decide_eq_false h]
   simp only[beq_eq_false_iff_ne,ne_eq];exact fun q=>h (e.2 q)
 ·rw[if_neg (fun q=>h0 ((fJ x).1 q)),wR n hy hx hn h4,if_neg h0,Option.bind_some,Option.bind_some]
  congr 1
  have e:x∣y↔(text (Int.fmod y x)).toList=([48]:List UInt8):=by rw[fJ];exact Int.dvd_iff_fmod_eq_zero
  by_cases h:x∣y
  ·rw[decide_eq_true h,e.1 h];rfl
  ·rw[decide_eq_false h]
   simp only[beq_eq_false_iff_ne,ne_eq];exact fun q=>h (e.2 q)
def leO:Option (Int×Int)→Option (Int×Int)→Prop
 |none,_=>True
 |some _,none=>False
 |some c,some d=>leC c d
instance (c d:Int×Int):Decidable (leC c d):=inferInstanceAs (Decidable (_∧_))
instance:(c d:Option (Int×Int))→Decidable (leO c d)
 |none,_=> .isTrue trivial
 |some _,none=> .isFalse id
 |some c,some d=>inferInstanceAs (Decidable (leC c d))
theorem aAd{c d:Option (Int×Int)}(hc:bV c)(hd:bV d)(k:Nat):bC.f (k+1) (encC c).1 (encC c).2.1 (encC c).2.2 (encC d).1 (encC d).2.1 (encC d).2.2=some (decide (leO c d)):=by
 unfold bC.f
 cases c with
 |none=>
  show(if true=true then _ else _)=_;rw[if_pos rfl,bC.j0,if_pos rfl];rfl
 |some c=>
  show(if false=true then _ else _)=_;rw[if_neg aCq]
  cases d with
  |none=>
   show bC.j0 (k+1) true false _ _ _ _ _=_;rw[bC.j0,if_pos rfl];rfl
  |some d=>
   show bC.j0 (k+1) false false (text c.1) (text c.2) false (text d.1) (text d.2)=some (decide (leC c d));have bs:Bd 101 (c.2+ -d.2):=hc.2.2.add hd.2.2.neg;rw[bC.j0,if_neg aCq,sD hd.2.1 hc.2.1 aCo aCo,Option.bind_some]
   by_cases h1:d.1∣c.1
   ·rw[if_pos (decide_eq_true h1),zW hc.2.2 hd.2.2 aCo aCo,Option.bind_some,sD (n:=101) (hd.2.1.mono aCo) bs aCo aCo,Option.bind_some]
    congr 1
    exact decide_eq_decide.2 ⟨fun h=>⟨h1,by rw[Int.sub_eq_add_neg];exact h⟩,fun h=>by have:=h.2;rwa [Int.sub_eq_add_neg] at this⟩
   ·rw[if_neg (by simpa using h1)]
    congr 1
    exact(decide_eq_false fun h=>h1 h.1).symm
theorem add1_val{c d:Int×Int}(hc:bV (some c))(hd:bV (some d))(k:Nat):fQ.f (k+1) false (text c.1) (text c.2) false (text d.1) (text d.2)=some (encC (some (addC 100 c d))):=by
 have bg:Bd 101 (gcdI c.1 d.1):=by
  have:=kE c.1 d.1;have h1:=hc.2.1;have h2:=hd.2.1;unfold Bd at *
  rw[Nat.pow_succ];generalize (10:Nat) ^ 100=P at *
  omega
 unfold fQ.f;rw[rU hc.2.1 hd.2.1 aCo aCo,Option.bind_some,add_val hc.2.2 hd.2.2 aCo aCo,Option.bind_some,nU bg (hc.2.2.add hd.2.2) aCo aCo,Option.bind_some];rfl
theorem sub1_val{c d:Int×Int}(hc:bV (some c))(hd:bV (some d))(k:Nat):fU.f (k+1) false (text c.1) (text c.2) false (text d.1) (text d.2)=some (encC (some (subC 100 c d))):=by
 have bg:Bd 101 (gcdI c.1 d.1):=by
  have:=kE c.1 d.1;have h1:=hc.2.1;have h2:=hd.2.1;unfold Bd at *
  rw[Nat.pow_succ];generalize (10:Nat) ^ 100=P at *
  omega
 unfold fU.f;rw[rU hc.2.1 hd.2.1 aCo aCo,Option.bind_some,zW hc.2.2 hd.2.2 aCo aCo,Option.bind_some,nU bg (hc.2.2.add hd.2.2.neg) aCo aCo,Option.bind_some];rfl
theorem mul1_val{c d:Int×Int}(hc:bV (some c))(hd:bV (some d))(k:Nat):fV.f (k+1) false (text c.1) (text c.2) false (text d.1) (text d.2)=some (encC (some (mulC 100 c d))):=by
 have b1:Bd 200 (c.1*d.1):=(hc.2.1.mul hd.2.1).mono aCo;have b2:Bd 200 (c.1*d.2):=(hc.2.1.mul hd.2.2).mono aCo;have b3:Bd 200 (d.1*c.2):=(hd.2.1.mul hc.2.2).mono aCo;have b4:Bd 200 (c.2*d.2):=(hc.2.2.mul hd.2.2).mono aCo
 have bg:Bd 201 (gcdI (c.1*d.2) (d.1*c.2)):=by
  have:=kE (c.1*d.2) (d.1*c.2);unfold Bd at *
  rw[Nat.pow_succ];generalize (10:Nat) ^ 200=P at *
  omega
 have bm:Bd 202 (mulM c d):=by
  have:=kE (c.1*d.1) (gcdI (c.1*d.2) (d.1*c.2));have b5:Bd 201 (c.1*d.1):=b1.mono aCo;unfold Bd mulM at *
  rw[Nat.pow_succ];generalize (10:Nat) ^ 201=P at *
  omega
 unfold fV.f
 rw[xO hc.2.1 hd.2.1 aCo aCo,Option.bind_some,xO hc.2.1 hd.2.2 aCo aCo,Option.bind_some,xO hd.2.1 hc.2.2 aCo aCo,Option.bind_some,rU b2 b3 aCo aCo,Option.bind_some,
  rU (n:=201) (b1.mono aCo) bg aCo aCo,Option.bind_some,xO hc.2.2 hd.2.2 aCo aCo,Option.bind_some,show gcdI (c.1*d.1) (gcdI (c.1*d.2) (d.1*c.2))=mulM c d from rfl,nU (n:=202) bm (b4.mono aCo) aCo aCo,Option.bind_some]
 rfl
theorem joinM_goodBd{c d:Int×Int}(hc:bV (some c))(hd:bV (some d)):Bd 101 (oI c d):=qZ hc.2.1 hc.2.2 hd.2.1 hd.2.2
theorem lcmI_bd{x y:Int}{m n:Nat}(hx:Bd m x)(hy:Bd n y):Bd (m+n) (lcmI x y):=by
 have:=lcmI_le x y;unfold Bd at *
 rw[Nat.pow_add];exact Nat.lt_of_le_of_lt this (Nat.mul_lt_mul'' hx hy)
theorem bezU_bd{x y:Int}{n:Nat}(hy:Bd n y)(h0:y≠0):Bd n (bezU x y):=by
 have hg:=yC (a:=x) h0;have hgd:=jM x y;unfold bezU;rw[if_neg h0]
 have n0:(y.natAbs:Int)/gcdI x y≠0:=by
  obtain⟨t,ht⟩:gcdI x y∣(y.natAbs:Int):=Int.dvd_natAbs.2 hgd;rw[ht,Int.mul_ediv_cancel_left _ aCo];intro q;rw[q,Int.mul_zero] at ht;omega
 have e1:Int.fdiv (y.natAbs:Int) (gcdI x y)=(y.natAbs:Int)/gcdI x y:=Int.fdiv_eq_ediv_of_nonneg _ aCo;have bq:Bd n ((y.natAbs:Int)/gcdI x y):=by rw[←e1];exact Bd.fdiv (by unfold Bd at *;simpa using hy) aCo
 exact bq.fmod n0
theorem meet_val{c d:Int×Int}(hc:bV (some c))(hd:bV (some d))(k:Nat):dA.f (k+2) false (text c.1) (text c.2) false (text d.1) (text d.2)=some (encC (rQ 100 c d)):=by
 have i1:=aAd hc hd (k+1);have i2:=aAd hd hc (k+1)
 have bg:Bd 101 (gcdI c.1 d.1):=by
  have:=kE c.1 d.1;have h1:=hc.2.1;have h2:=hd.2.1;unfold Bd at *
  rw[Nat.pow_succ];generalize (10:Nat) ^ 100=P at *
  omega
 have bs:Bd 101 (d.2+ -c.2):=hd.2.2.add hc.2.2.neg;unfold dA.f rQ;rw[show bC.f (k+2) false (text c.1) (text c.2) false (text d.1) (text d.2)=_ from i1,Option.bind_some]
 by_cases h1:d.1∣c.1∧d.1∣c.2-d.2
 ·rw[if_pos (decide_eq_true (show leO (some c) (some d) from h1)),if_pos h1];rfl
 ·rw[if_neg (by simpa using(show ¬leO (some c) (some d) from h1)),if_neg h1]
  rw[show bC.f (k+2) false (text d.1) (text d.2) false (text c.1) (text c.2)=_ from i2,Option.bind_some]
  by_cases h2:c.1∣d.1∧c.1∣d.2-c.2
  ·rw[if_pos (decide_eq_true (show leO (some d) (some c) from h2)),if_pos h2];rfl
  ·rw[if_neg (by simpa using(show ¬leO (some d) (some c) from h2)),if_neg h2,rU hc.2.1 hd.2.1 aCo aCo,Option.bind_some,zW hd.2.2 hc.2.2 aCo aCo,Option.bind_some]
   have e0:dA.j0 (k+2) (text (gcdI c.1 d.1)) (text (d.2+ -c.2)) true false (text c.1) (text c.2) false (text d.1) (text d.2)=some (encC none):=by
    rw[dA.j0,if_pos rfl];rfl
   by_cases h3:c.1=0
   ·rw[if_pos ((fJ _).2 h3),if_pos (.inl h3),e0]
   ·rw[if_neg (fun q=>h3 ((fJ _).1 q))]
    by_cases h4:d.1=0
    ·rw[if_pos ((fJ _).2 h4),if_pos (.inr (.inl h4)),e0]
    ·rw[if_neg (fun q=>h4 ((fJ _).1 q)),sD bg bs aCo aCo,Option.bind_some]
     by_cases h5:gcdI c.1 d.1∣d.2+ -c.2
     ·have g0:gcdI c.1 d.1≠0:=by have:=yC (a:=c.1) h4;omega
      have bu:Bd 101 (bezU c.1 d.1):=(bezU_bd hd.2.1 h4).mono aCo;have bq:Bd 101 (Int.fdiv (d.2+ -c.2) (gcdI c.1 d.1)):=bs.fdiv g0;have bk:Bd 202 (bezU c.1 d.1*Int.fdiv (d.2+ -c.2) (gcdI c.1 d.1)):=(bu.mul bq).mono aCo;have bl:Bd 200 (lcmI c.1 d.1):=(lcmI_bd hc.2.1 hd.2.1).mono aCo;have bp:Bd 302 (bezU c.1 d.1*Int.fdiv (d.2+ -c.2) (gcdI c.1 d.1)*c.1):=(bk.mul hc.2.1).mono aCo;have bt:Bd 303 (metS c d):=(Bd.add (m:=302) (hc.2.2.mono aCo) bp)
      have z0:lU.f (text c.1) (text d.1)=some (text (gcdI c.1 d.1),text (bezU c.1 d.1),text (bezV c.1 d.1),0):=by
       unfold lU.f;rw[if_pos (pK hc.2.1 hd.2.1 aCo aCo),if_pos (nM hc.2.1 hd.2.1 aCo aCo),dQ,dQ]
      have wl:=wr_ok (m:=200) bl aCo
      have z1:pR.f (text c.1) (text d.1)=some (text (lcmI c.1 d.1),0):=by
       unfold pR.f;rw[if_pos (pK hc.2.1 hd.2.1 aCo aCo),if_pos (nM hc.2.1 hd.2.1 aCo aCo),dQ,dQ,wl.1,wl.2]
      rw[decide_eq_true h5,if_neg (by rintro(q|q|q) <;> contradiction)];show dA.j0 (k+1+1) _ _ false _ _ _ _ _ _=_;rw[dA.j0,if_neg aCq,z0,Option.bind_some,quo_at 101 bs bg aCo aCo,if_neg g0,Option.bind_some];unfold eQ.f
      rw[Option.bind_some,xO bu bq aCo aCo,Option.bind_some,z1,Option.bind_some,Option.bind_some,xO (n:=202) bk (hc.2.1.mono aCo) aCo aCo,Option.bind_some,
       add_val (n:=302) (hc.2.2.mono aCo) bp aCo aCo,Option.bind_some]
      show((bI.f (k+1) (text (lcmI c.1 d.1)) (text (metS c d))).bind _)=_;rw[nU (n:=303) (bl.mono aCo) bt aCo aCo,Option.bind_some]
     ·rw[decide_eq_false h5,if_pos (.inr (.inr h5))];exact e0
theorem uU{c:Int×Int}:((false==false)&&((text c.1).toList==(⟨#[48]⟩:ByteArray).toList&&(text c.2).toList==(⟨#[48]⟩:ByteArray).toList))=true↔c.1=0∧c.2=0:=by
 have e:(⟨#[48]⟩:ByteArray).toList=([48]:List UInt8):=by rw[toList_data]
 rw[e];simp only[BEq.rfl,Bool.true_and,Bool.and_eq_true,beq_iff_eq,fJ]
def topC:Int×Int:=(1,0)
theorem top_val:fB.f=some (encC (some topC)):=by
 have t1:encC (some topC)=(false,⟨#[49]⟩,⟨#[48]⟩):=by decide +kernel
 rw[t1];rfl
def quoC(M:Nat)(c d:Int×Int):Option (Int×Int):=if d.1=0∧d.2=0 then none else if d.1=0 then(if d.2∣c.1 then some (cls M (Int.fdiv c.1 d.2) (Int.fdiv c.2 d.2)) else some topC) else if c.1=0∧c.2=0 then some c else some topC
def remC(M:Nat)(c d:Int×Int):Option (Int×Int):=if d.1=0∧d.2=0 then none else if d.1=0∧d.2∣c.1 then some (cls M 0 (Int.fmod c.2 d.2)) else some (cls M (gcdI c.1 (gcdI d.1 d.2)) c.2)
theorem quo1_val{c d:Int×Int}(hc:bV (some c))(hd:bV (some d))(k:Nat):gZ.f (k+2) false (text c.1) (text c.2) false (text d.1) (text d.2)=some (encC (quoC 100 c d)):=by
 unfold gZ.f quoC dB.f;rw[Option.bind_some]
 by_cases h1:d.1=0∧d.2=0
 ·rw[if_pos (uU.2 h1),if_pos h1];rfl
 ·rw[if_neg (fun q=>h1 (uU.1 q)),if_neg h1]
  by_cases h2:d.1=0
  ·have h3:d.2≠0:=fun q=>h1 ⟨h2,q⟩
   rw[if_pos ((fJ _).2 h2),if_pos h2,sD hd.2.2 hc.2.1 aCo aCo,Option.bind_some]
   by_cases h4:d.2∣c.1
   ·rw[if_pos (decide_eq_true h4),if_pos h4,quo_at 100 hc.2.1 hd.2.2 aCo aCo,if_neg h3,Option.bind_some]
    unfold eQ.f;rw[Option.bind_some,quo_at 100 hc.2.2 hd.2.2 aCo aCo,if_neg h3,Option.bind_some,Option.bind_some,nU (hc.2.1.fdiv h3) (hc.2.2.fdiv h3) aCo aCo,Option.bind_some]
   ·rw[if_neg (by simpa using h4),if_neg h4,top_val];rfl
  ·rw[if_neg (fun q=>h2 ((fJ _).1 q)),if_neg h2,Option.bind_some]
   by_cases h5:c.1=0∧c.2=0
   ·rw[if_pos (uU.2 h5),if_pos h5];rfl
   ·rw[if_neg (fun q=>h5 (uU.1 q)),if_neg h5,top_val];rfl
theorem gcd2_bd{x y:Int}(hx:Bd 100 x)(hy:Bd 100 y):Bd 101 (gcdI x y):=by
 have:=kE x y;unfold Bd at *
 rw[Nat.pow_succ];generalize (10:Nat) ^ 100=P at *
 omega
theorem gcd3_bd{x y:Int}(hx:Bd 100 x)(hy:Bd 101 y):Bd 102 (gcdI x y):=by
 have:=kE x y;have h1:=hx.mono (show 100≤101 by omega);unfold Bd at *
 rw[Nat.pow_succ];generalize (10:Nat) ^ 101=P at *
 omega
theorem rem1_val{c d:Int×Int}(hc:bV (some c))(hd:bV (some d))(k:Nat):dK.f (k+2) false (text c.1) (text c.2) false (text d.1) (text d.2)=some (encC (remC 100 c d)):=by
 have z0:Bd 100 0:=Nat.pow_pos aCo;unfold dK.f remC dB.f;rw[Option.bind_some]
 by_cases h1:d.1=0∧d.2=0
 ·rw[if_pos (uU.2 h1),if_pos h1];rfl
 ·rw[if_neg (fun q=>h1 (uU.1 q)),if_neg h1]
  have els:dK.j0 (k+2) false false (text c.1) (text c.2) false (text d.1) (text d.2)=some (encC (some (cls 100 (gcdI c.1 (gcdI d.1 d.2)) c.2))):=by
   rw[dK.j0,if_neg aCq,rU hd.2.1 hd.2.2 aCo aCo,Option.bind_some,rU (n:=101) (hc.2.1.mono aCo) (gcd2_bd hd.2.1 hd.2.2) aCo aCo,Option.bind_some,nU (n:=102) (gcd3_bd hc.2.1 (gcd2_bd hd.2.1 hd.2.2)) (hc.2.2.mono aCo) aCo aCo,Option.bind_some]
  by_cases h2:d.1=0
  ·have h3:d.2≠0:=fun q=>h1 ⟨h2,q⟩
   rw[if_pos ((fJ _).2 h2),sD hd.2.2 hc.2.1 aCo aCo,Option.bind_some]
   by_cases h4:d.2∣c.1
   ·rw[if_pos ⟨h2,h4⟩,decide_eq_true h4,dK.j0,if_pos rfl,wR 100 hc.2.2 hd.2.2 aCo aCo,if_neg h3,Option.bind_some]
    unfold eQ.f;rw[Option.bind_some,show(⟨#[48]⟩:ByteArray)=text 0 from vH.symm,nU z0 (hd.2.2.fmod h3) aCo aCo,Option.bind_some]
   ·rw[if_neg (fun q=>h4 q.2),decide_eq_false h4];exact els
  ·rw[if_neg (fun q=>h2 ((fJ _).1 q)),if_neg (fun q=>h2 q.1)];exact els
def bothO(F:Int×Int→Int×Int→Option (Int×Int)):Option (Int×Int)→Option (Int×Int)→Option (Int×Int)
 |some c,some d=>F c d
 |_,_=>none
def pY(e1:Bool)(m1 r1:ByteArray)(e2:Bool)(m2 r2:ByteArray):Int:=if chkC e1 m1 r1=0 then chkC e2 m2 r2 else chkC e1 m1 r1
def decC(e:Bool)(m r:ByteArray):Option (Int×Int):=if e=true then none else some (aN m,aN r)
theorem mM(o:Option (Int×Int)):decC (encC o).1 (encC o).2.1 (encC o).2.2=o:=by
 cases o with
 |none=>rfl
 |some c=>
  show(if false=true then none else some (aN (text c.1),aN (text c.2)))=_;rw[if_neg aCq,dQ,dQ]
theorem both_val{e1:Bool}{m1 r1:ByteArray}{e2:Bool}{m2 r2:ByteArray}(h1:m1.size≤1000000)(h2:r1.size≤1000000)(h3:m2.size≤1000000)(h4:r2.size≤1000000)(k:Nat)(hk:5≤k):gB.f k e1 m1 r1 e2 m2 r2=some (pY e1 m1 r1 e2 m2 r2):=by
 unfold gB.f pY;rw[yV e1 m1 r1 h1 h2 k hk,Option.bind_some]
 by_cases h:chkC e1 m1 r1=0
 ·rw[if_pos h,if_pos h,yV e2 m2 r2 h3 h4 k hk,Option.bind_some]
 ·rw[if_neg h,if_neg h]
def resC(F:Option (Int×Int)→Option (Int×Int)→Option (Int×Int))(e1:Bool)(m1 r1:ByteArray)(e2:Bool)(m2 r2:ByteArray):Bool×ByteArray×ByteArray×Int:=
 if pY e1 m1 r1 e2 m2 r2=0 then((encC (F (decC e1 m1 r1) (decC e2 m2 r2))).1,(encC (F (decC e1 m1 r1) (decC e2 m2 r2))).2.1,(encC (F (decC e1 m1 r1) (decC e2 m2 r2))).2.2,0) else(false,⟨#[]⟩,⟨#[]⟩,pY e1 m1 r1 e2 m2 r2)
theorem chk2C_ok{e1:Bool}{m1 r1:ByteArray}{e2:Bool}{m2 r2:ByteArray}(h:pY e1 m1 r1 e2 m2 r2=0):∃c d,bV c∧bV d∧(e1,m1,r1)=encC c∧(e2,m2,r2)=encC d:=by
 unfold pY at h
 by_cases h1:chkC e1 m1 r1=0
 ·rw[if_pos h1] at h
  obtain⟨c,gc,ec⟩:=zV h1;obtain⟨d,gd,ed⟩:=zV h;exact⟨c,d,gc,gd,ec,ed⟩
 ·rw[if_neg h1] at h;exact absurd h h1
def few4(m1 r1 m2 r2:ByteArray):Prop:=m1.size≤1000000∧r1.size≤1000000∧m2.size≤1000000∧r2.size≤1000000
instance (m1 r1 m2 r2:ByteArray):Decidable (few4 m1 r1 m2 r2):=inferInstanceAs (Decidable (_∧_))
theorem uV{G:Bool→ByteArray→ByteArray→Bool→ByteArray→ByteArray→Option (Bool×ByteArray×ByteArray)}{F:Int×Int→Int×Int→Option (Int×Int)}
 (hF:∀c d,bV (some c)→bV (some d)→G false (text c.1) (text c.2) false (text d.1) (text d.2)=some (encC (F c d)))
 (e1:Bool) (m1 r1:ByteArray) (e2:Bool) (m2 r2:ByteArray) (hz:few4 m1 r1 m2 r2) (k:Nat) (hk:5≤k):aV.f G k e1 m1 r1 e2 m2 r2=some (resC (bothO F) e1 m1 r1 e2 m2 r2):=by
 obtain⟨k,rfl⟩:∃j,k=j+1:=⟨k-1,by omega⟩
 unfold aV.f resC;rw[both_val hz.1 hz.2.1 hz.2.2.1 hz.2.2.2 _ hk,Option.bind_some]
 by_cases h:pY e1 m1 r1 e2 m2 r2=0
 ·obtain⟨c,d,gc,gd,ec,ed⟩:=chk2C_ok h
  rw[if_pos h,if_pos h];have hc:=mM c;have hd:=mM d;rw[←ec] at hc;rw[←ed] at hd;simp only at hc hd;rw[hc,hd]
  cases c with
  |none=>
   obtain⟨rfl,rfl,rfl⟩:e1=true∧m1=⟨#[]⟩∧r1=⟨#[]⟩:=by simpa[encC] using ec
   rw[if_pos rfl,aV.j0,if_pos rfl];rfl
  |some c=>
   obtain⟨rfl,rfl,rfl⟩:e1=false∧m1=text c.1∧r1=text c.2:=by simpa[encC] using ec
   rw[if_neg aCq]
   cases d with
   |none=>
    obtain⟨rfl,rfl,rfl⟩:e2=true∧m2=⟨#[]⟩∧r2=⟨#[]⟩:=by simpa[encC] using ed
    rw[aV.j0,if_pos rfl];rfl
   |some d=>
    obtain⟨rfl,rfl,rfl⟩:e2=false∧m2=text d.1∧r2=text d.2:=by simpa[encC] using ed
    rw[aV.j0,if_neg aCq,hF c d gc gd,Option.bind_some];rfl
 ·rw[if_neg h,if_neg h]
def jU(M:Nat):Option (Int×Int)→Option (Int×Int)→Option (Int×Int)
 |none,d=>d
 |some c,none=>some c
 |some c,some d=>some (nT M c d)
theorem join_val(e1:Bool)(m1 r1:ByteArray)(e2:Bool)(m2 r2:ByteArray)(hz:few4 m1 r1 m2 r2)(k:Nat)(hk:5≤k):iK.f k e1 m1 r1 e2 m2 r2=some (resC (jU 100) e1 m1 r1 e2 m2 r2):=by
 obtain⟨k,rfl⟩:∃j,k=j+1:=⟨k-1,by omega⟩
 unfold iK.f resC;rw[both_val hz.1 hz.2.1 hz.2.2.1 hz.2.2.2 _ hk,Option.bind_some]
 by_cases h:pY e1 m1 r1 e2 m2 r2=0
 ·obtain⟨c,d,gc,gd,ec,ed⟩:=chk2C_ok h
  rw[if_pos h,if_pos h];have hc:=mM c;have hd:=mM d;rw[←ec] at hc;rw[←ed] at hd;simp only at hc hd;rw[hc,hd]
  cases c with
  |none=>
   obtain⟨rfl,rfl,rfl⟩:e1=true∧m1=⟨#[]⟩∧r1=⟨#[]⟩:=by simpa[encC] using ec
   rw[if_pos rfl];show some (e2,m2,r2,(0:Int))=some ((encC d).1,(encC d).2.1,(encC d).2.2,0);rw[←ed]
  |some c=>
   obtain⟨rfl,rfl,rfl⟩:e1=false∧m1=text c.1∧r1=text c.2:=by simpa[encC] using ec
   rw[if_neg aCq]
   cases d with
   |none=>
    obtain⟨rfl,rfl,rfl⟩:e2=true∧m2=⟨#[]⟩∧r2=⟨#[]⟩:=by simpa[encC] using ed
    rw[if_pos rfl];rfl
   |some d=>
    obtain⟨rfl,rfl,rfl⟩:e2=false∧m2=text d.1∧r2=text d.2:=by simpa[encC] using ed
    have bg:=gcd2_bd gc.2.1 gd.2.1;have bs:Bd 101 (c.2+ -d.2):=gc.2.2.add gd.2.2.neg;have bj:=joinM_goodBd gc gd
    rw[if_neg aCq,rU gc.2.1 gd.2.1 aCo aCo,Option.bind_some,zW gc.2.2 gd.2.2 aCo aCo,Option.bind_some,rU bg bs aCo aCo,Option.bind_some,
     show gcdI (gcdI c.1 d.1) (c.2+ -d.2)=oI c d from by unfold oI;rw[Int.sub_eq_add_neg],nU bj (gc.2.2.mono aCo) aCo aCo,Option.bind_some]
    rfl
 ·rw[if_neg h,if_neg h]
theorem leq_val(e1:Bool)(m1 r1:ByteArray)(e2:Bool)(m2 r2:ByteArray)(hz:few4 m1 r1 m2 r2)(k:Nat)(hk:5≤k):oN.f k e1 m1 r1 e2 m2 r2=some (if pY e1 m1 r1 e2 m2 r2=0 then decide (leO (decC e1 m1 r1) (decC e2 m2 r2)) else false,pY e1 m1 r1 e2 m2 r2):=by
 obtain⟨k,rfl⟩:∃j,k=j+1:=⟨k-1,by omega⟩
 unfold oN.f;rw[both_val hz.1 hz.2.1 hz.2.2.1 hz.2.2.2 _ hk,Option.bind_some]
 by_cases h:pY e1 m1 r1 e2 m2 r2=0
 ·obtain⟨c,d,gc,gd,ec,ed⟩:=chk2C_ok h
  rw[if_pos h,if_pos h];have hc:=mM c;have hd:=mM d;have hi:=aAd gc gd k;rw[←ec] at hc hi;rw[←ed] at hd hi;simp only at hc hd hi;rw[hc,hd,hi];rfl
 ·rw[if_neg h,if_neg h]
def memO:Option (Int×Int)→Int→Prop
 |none,_=>False
 |some c,a=>clsM c a
instance (c:Int×Int)(a:Int):Decidable (clsM c a):=inferInstanceAs (Decidable (_∣_))
instance:(o:Option (Int×Int))→(a:Int)→Decidable (memO o a)
 |none,_=> .isFalse id
 |some c,a=>inferInstanceAs (Decidable (clsM c a))
def hldE(e:Bool)(m r a:ByteArray):Int:=if chkC e m r=0 then chkI a else chkC e m r
theorem text_eq(x y:Int):((text x).toList==(text y).toList)=decide (x=y):=by
 by_cases h:x=y
 ·rw[decide_eq_true h,h];exact beq_self_eq_true _
 ·rw[decide_eq_false h]
  simp only[beq_eq_false_iff_ne,ne_eq,toList_data];exact fun q=>h (text_inj (wP q))
theorem clsM_iff{c:Int×Int}(hv:clsV c)(a:Int):clsM c a↔a%c.1=c.2:=by
 unfold clsM;rw[←zF,hv.2]
theorem holds_val(e:Bool)(m r a:ByteArray)(hm:m.size≤1000000)(hr:r.size≤1000000)(ha:a.size≤1000000)(k:Nat)(hk:5≤k):iH.f k e m r a=some (if hldE e m r a=0 then decide (memO (decC e m r) (aN a)) else false,hldE e m r a):=by
 unfold iH.f hldE;rw[yV e m r hm hr k hk,Option.bind_some]
 by_cases h:chkC e m r=0
 ·obtain⟨o,go,eo⟩:=zV h
  have hd:=mM o;rw[←eo] at hd;simp only at hd;unfold fA.f;rw[if_pos h,if_pos h,if_pos (show a.size≤9223372036854775807 by omega),Option.bind_some]
  by_cases h2:chkI a=0
  ·obtain⟨h3,h4⟩:=zN h2
   obtain⟨y,rfl⟩:=lQ a h3;have by':Bd 4096 y:=pG _ (by rw[←kQ];exact h4)
   rw[if_pos h2,if_pos h2,hd,dQ,h2]
   cases o with
   |none=>
    obtain⟨rfl,rfl,rfl⟩:e=true∧m=⟨#[]⟩∧r=⟨#[]⟩:=by simpa[encC] using eo
    rw[if_pos rfl];rfl
   |some c=>
    obtain⟨rfl,rfl,rfl⟩:e=false∧m=text c.1∧r=text c.2:=by simpa[encC] using eo
    rw[if_neg aCq];have ci:=clsM_iff go.1 y
    by_cases h5:c.1=0
    ·rw[if_pos ((fJ _).2 h5),text_eq]
     congr 2
     refine decide_eq_decide.2 ?_;show y=c.2↔clsM c y;rw[ci,h5,Int.emod_zero]
    ·have hf:Int.fmod y c.1=y%c.1:=Int.fmod_eq_emod_of_nonneg _ go.1.1
     rw[if_neg (fun q=>h5 ((fJ _).1 q)),wR 4096 by' (go.2.1.mono aCo) aCo aCo,if_neg h5,Option.bind_some];unfold eQ.f;rw[Option.bind_some,hf,text_eq]
     congr 2
     exact decide_eq_decide.2 ci.symm
  ·rw[if_neg h2,if_neg h2]
 ·rw[if_neg h,if_neg h,if_neg h]
theorem make_val(m r:ByteArray)(hm:m.size≤1000000)(hr:r.size≤1000000)(k:Nat)(hk:5≤k):fZ.f k m r=some (if fM m r=0 then((encC (some (cls 100 (aN m) (aN r)))).1,(encC (some (cls 100 (aN m) (aN r)))).2.1,(encC (some (cls 100 (aN m) (aN r)))).2.2,0) else(false,⟨#[]⟩,⟨#[]⟩,fM m r)):=by
 obtain⟨k,rfl⟩:∃j,k=j+4:=⟨k-4,by omega⟩
 have b1:fA.f m=some (chkI m):=if_pos aCo;have b2:fA.f r=some (chkI r):=if_pos aCo;unfold fZ.f fM;rw[Option.bind_some,show(([m,r]:List ByteArray).length:Int)=2 from rfl,fZ.l0,if_pos aCr,if_pos aCr,if_pos (show(0:Int)<(([m,r]:List ByteArray).length:Int) from by simp),show rdOf ByteArray.empty [m,r] 0=m from rfl,b1,Option.bind_some]
 by_cases h1:chkI m=0
 ·rw[if_pos h1,if_pos h1,show wrap64 ((0:Int)+1)=1 from by decide +kernel,fZ.l0,if_pos aCr,if_pos aCr,if_pos (show(1:Int)<(([m,r]:List ByteArray).length:Int) from by simp),show rdOf ByteArray.empty [m,r] 1=r from rfl,b2,Option.bind_some]
  by_cases h2:chkI r=0
  ·obtain⟨h3,h4⟩:=zN h1
   obtain⟨h5,h6⟩:=zN h2;obtain⟨x,rfl⟩:=lQ m h3;obtain⟨y,rfl⟩:=lQ r h5;have bx:Bd 4096 x:=pG _ (by rw[←kQ];exact h4);have by':Bd 4096 y:=pG _ (by rw[←kQ];exact h6)
   rw[if_pos h2,if_pos h2,show wrap64 ((1:Int)+1)=2 from by decide +kernel,fZ.l0,if_neg aCr,nU bx by' aCo aCo,Option.bind_some,dQ,dQ]
  ·rw[if_neg h2,if_neg h2]
 ·rw[if_neg h1,if_neg h1,if_neg h1]
theorem aCb{a b m:Int}{n:Nat}(ha:Bd n a)(hb:Bd n b)(hm:Bd n m)(h0:0<m)(hn:1≤n)(h4:n≤4000):jB.f (text a) (text b) (text m)=some (text ((a-b)%m),0):=by
 have m0:m≠0:=by omega
 have fa:Int.fmod a m=a%m:=Int.fmod_eq_emod_of_nonneg _ aCo;have fb:Int.fmod b m=b%m:=Int.fmod_eq_emod_of_nonneg _ aCo;have ba:=hm.fmod (x:=a) m0;have bb:=hm.fmod (x:=b) m0;have bs:Bd (n+1) (Int.fmod a m+ -Int.fmod b m):=ba.add bb.neg
 have fs:Int.fmod (Int.fmod a m+ -Int.fmod b m) m=(a-b)%m:=by
  rw[Int.fmod_eq_emod_of_nonneg _ aCo,fa,fb,←Int.sub_eq_add_neg,←Int.sub_emod]
 unfold jB.f;rw[wR n ha hm hn aCo,if_neg m0,Option.bind_some,if_pos rfl,wR n hb hm hn aCo,if_neg m0,Option.bind_some,if_pos rfl,zW ba bb hn aCo,Option.bind_some,wR (n+1) bs (hm.mono aCo) aCo aCo,if_neg m0,Option.bind_some,fs]
theorem emod_bd{a m:Int}{n:Nat}(hm:Bd n m)(h0:0<m):Bd n (a%m):=by
 have:=hm.fmod (x:=a) (show m≠0 by omega)
 rwa [Int.fmod_eq_emod_of_nonneg _ aCo] at this
def leastO(o:Option (Int×Int))(low:Int):ByteArray×Int:=match o with
 |none=>(⟨#[]⟩,16)
 |some c=>if c.1=0 then(if c.2<low then(⟨#[]⟩,6) else(text c.2,0)) else(text (low+(c.2-low)%c.1),0)
def yX(o:Option (Int×Int))(high:Int):ByteArray×Int:=match o with
 |none=>(⟨#[]⟩,16)
 |some c=>if c.1=0 then(if high<c.2 then(⟨#[]⟩,6) else(text c.2,0)) else(text (high+ -((high-c.2)%c.1)),0)
theorem up_val{lo m r:Int}(hl:Bd 300 lo)(hm:Bd 100 m)(hr:Bd 100 r)(h0:0<m):rP (text lo) (text m) (text r)=some (text (lo+(r-lo)%m),0):=by
 unfold rP;rw[aCb (n:=300) (hr.mono aCo) hl (hm.mono aCo) h0 aCo aCo,Option.bind_some,if_pos rfl,add_at 300 hl ((emod_bd hm h0).mono aCo) aCo aCo,Option.bind_some]
theorem down_val{hi m r:Int}(hl:Bd 300 hi)(hm:Bd 100 m)(hr:Bd 100 r)(h0:0<m):nS (text hi) (text m) (text r)=some (text (hi+ -((hi-r)%m)),0):=by
 unfold nS;rw[aCb (n:=300) hl (hr.mono aCo) (hm.mono aCo) h0 aCo aCo,Option.bind_some,if_pos rfl,sub_at 300 hl ((emod_bd hm h0).mono aCo) aCo aCo,Option.bind_some]
theorem aBf{g1:ByteArray→ByteArray→Option (ByteArray×Int)}{g2:ByteArray→Option Bool}{R:Option (Int×Int)→Int→ByteArray×Int}(e:Bool)(m r a:ByteArray)(hm:m.size≤1000000)(hr:r.size≤1000000)(ha:a.size≤300)(k:Nat)(hk:5≤k)
 (hN:∀y,R none y=(⟨#[]⟩,16))
 (h1:∀(c:Int×Int) (y:Int),bV (some c)→Bd 300 y→a=text y→c.1≠0→g1 (text c.1) (text c.2)=some (R (some c) y))
 (h2:∀(c:Int×Int) (y:Int),bV (some c)→Bd 300 y→a=text y→c.1=0→∃b,g2 (text c.2)=some b∧R (some c) y=if b=true then(⟨#[]⟩,6) else(text c.2,0)) :
 iW.f k g1 g2 e m r a=some (if hldE e m r a=0 then R (decC e m r) (aN a) else(⟨#[]⟩,hldE e m r a)):=by
 unfold iW.f hldE;rw[yV e m r hm hr k hk,Option.bind_some]
 by_cases h:chkC e m r=0
 ·obtain⟨o,go,eo⟩:=zV h
  have hd:=mM o;rw[←eo] at hd;simp only at hd;unfold fA.f;rw[if_pos h,if_pos h,if_pos (show a.size≤9223372036854775807 by omega),Option.bind_some]
  by_cases hc:chkI a=0
  ·obtain⟨h3,h4⟩:=zN hc
   obtain⟨y,ey⟩:=lQ a h3;have by':Bd 300 y:=pG _ (by rw[←kQ,←ey];exact Nat.le_trans (digN_le _) ha)
   have iy:aN a=y:=by rw[ey,dQ]
   rw[if_pos hc,if_pos hc,hd,iy]
   cases o with
   |none=>
    obtain⟨rfl,rfl,rfl⟩:e=true∧m=⟨#[]⟩∧r=⟨#[]⟩:=by simpa[encC] using eo
    rw[if_pos rfl,hN]
   |some c=>
    obtain⟨rfl,rfl,rfl⟩:e=false∧m=text c.1∧r=text c.2:=by simpa[encC] using eo
    rw[if_neg aCq]
    by_cases h5:c.1=0
    ·obtain⟨b,hb,hR⟩:=h2 c y go by' ey h5
     rw[if_pos ((fJ _).2 h5),hb,Option.bind_some,hR]
     cases b
     ·rw[if_neg aCq,if_neg aCq]
     ·rw[if_pos rfl,if_pos rfl]
    ·rw[if_neg (fun q=>h5 ((fJ _).1 q)),h1 c y go by' ey h5,Option.bind_some]
  ·rw[if_neg hc,if_neg hc]
 ·rw[if_neg h,if_neg h,if_neg h]
theorem least_val(e:Bool)(m r a:ByteArray)(hm:m.size≤1000000)(hr:r.size≤1000000)(ha:a.size≤300)(k:Nat)(hk:5≤k):mX.f k e m r a=some (if hldE e m r a=0 then leastO (decC e m r) (aN a) else(⟨#[]⟩,hldE e m r a)):=by
 unfold mX.f;refine aBf e m r a hm hr ha k hk (fun _=>rfl) (fun c y gc by' ey h0=> ?_) (fun c y gc by' ey h0=> ?_)
 ·rw[ey,up_val by' gc.2.1 gc.2.2 (by have:=gc.1.1;omega)]
  unfold leastO;simp only;rw[if_neg h0]
 ·refine⟨decide (c.2<y),?_,?_⟩
  ·unfold sK
   rw[ey,wV (gc.2.2.mono aCo) by' aCo aCo]
  ·unfold leastO
   simp only;rw[if_pos h0]
   by_cases h:c.2<y
   ·rw[if_pos h,if_pos (decide_eq_true h)]
   ·rw[if_neg h,if_neg (by simpa using h)]
theorem greatest_val(e:Bool)(m r a:ByteArray)(hm:m.size≤1000000)(hr:r.size≤1000000)(ha:a.size≤300)(k:Nat)(hk:5≤k):kZ.f k e m r a=some (if hldE e m r a=0 then yX (decC e m r) (aN a) else(⟨#[]⟩,hldE e m r a)):=by
 unfold kZ.f;refine aBf e m r a hm hr ha k hk (fun _=>rfl) (fun c y gc by' ey h0=> ?_) (fun c y gc by' ey h0=> ?_)
 ·rw[ey,down_val by' gc.2.1 gc.2.2 (by have:=gc.1.1;omega)]
  unfold yX;simp only;rw[if_neg h0]
 ·refine⟨decide (y<c.2),?_,?_⟩
  ·unfold pW
   rw[ey,wV by' (gc.2.2.mono aCo) aCo aCo]
  ·unfold yX
   simp only;rw[if_pos h0]
   by_cases h:y<c.2
   ·rw[if_pos h,if_pos (decide_eq_true h)]
   ·rw[if_neg h,if_neg (by simpa using h)]
end Go.Proofs.YtignanmmgaldeaaGreatDoor.CongM
end
section
set_option linter.unusedVariables false
set_option linter.unusedSimpArgs false
namespace Go.Proofs.YtignanmmgaldeaaGreatDoor
open Go.RowKit Go.Proofs.YtignanmmgaldeaaGreatDoor.RefP Go.Proofs.YtignanmmgaldeaaGreatDoor.PCongI Go.Proofs.YtignanmmgaldeaaGreatDoor.CongM Go.Proofs.YtignanmmgaldeaaGreatDoorW.PrintWords Go.Proofs.YtignanmmgaldeaaGreatDoorW.PrintLast
def iU.f(a0_0:Bool)(a0_1 a0_2:ByteArray)(a1:ByteArray):Option (Bool×Int):=if a0_1.size≤1000000∧a0_2.size≤1000000∧a1.size≤1000000 then some (if hldE a0_0 a0_1 a0_2 a1=0 then decide (memO (decC a0_0 a0_1 a0_2) (aN a1)) else false,hldE a0_0 a0_1 a0_2 a1) else none
theorem iU.calls(a0_0:Bool)(a0_1 a0_2:ByteArray)(a1:ByteArray)(b1:Bool)(i2:Int)(w:World)(hG:GW w)(h:iU.f a0_0 a0_1 a0_2 a1=some (b1,i2)) :
 Calls Tryz.prog 60 #[.agg #[.bool a0_0,.string a0_1,.string a0_2],.string a1] w fun e w'=>e= .returned (.tuple #[.bool b1,.int .i64 i2])∧Below w.heap.size w w':=by
 unfold iU.f at h
 split at h
 ·rename_i hs
  rw[←holds_val a0_0 a0_1 a0_2 a1 hs.1 hs.2.1 hs.2.2 5 (Nat.le_refl _)] at h;exact iH.calls 5 a0_0 a0_1 a0_2 a1 b1 i2 w hG h
 ·cases h
def fD.f(a0_0:Bool)(a0_1 a0_2:ByteArray)(a1_0:Bool)(a1_1 a1_2:ByteArray):Option (Bool×Int):=if few4 a0_1 a0_2 a1_1 a1_2 then some (if pY a0_0 a0_1 a0_2 a1_0 a1_1 a1_2=0 then decide (leO (decC a0_0 a0_1 a0_2) (decC a1_0 a1_1 a1_2)) else false,pY a0_0 a0_1 a0_2 a1_0 a1_1 a1_2) else none
theorem fD.calls(a0_0:Bool)(a0_1 a0_2:ByteArray)(a1_0:Bool)(a1_1 a1_2:ByteArray)(b1:Bool)(i2:Int)(w:World)(hG:GW w)(h:fD.f a0_0 a0_1 a0_2 a1_0 a1_1 a1_2=some (b1,i2)) :
 Calls Tryz.prog 40 #[.agg #[.bool a0_0,.string a0_1,.string a0_2],.agg #[.bool a1_0,.string a1_1,.string a1_2]] w fun e w'=>e= .returned (.tuple #[.bool b1,.int .i64 i2])∧Below w.heap.size w w':=by
 unfold fD.f at h
 split at h
 ·rename_i hs
  rw[←leq_val a0_0 a0_1 a0_2 a1_0 a1_1 a1_2 hs 5 (Nat.le_refl _)] at h;exact oN.calls 5 a0_0 a0_1 a0_2 a1_0 a1_1 a1_2 b1 i2 w hG h
 ·cases h
def dZ.f(a0_0:Bool)(a0_1 a0_2:ByteArray)(a1_0:Bool)(a1_1 a1_2:ByteArray):Option (Bool×ByteArray×ByteArray×Int):=if few4 a0_1 a0_2 a1_1 a1_2 then some (resC (jU 100) a0_0 a0_1 a0_2 a1_0 a1_1 a1_2) else none
theorem dZ.calls(a0_0:Bool)(a0_1 a0_2:ByteArray)(a1_0:Bool)(a1_1 a1_2:ByteArray)(b1:Bool)(s2:ByteArray)(s3:ByteArray)(i4:Int)(w:World)(hG:GW w)(h:dZ.f a0_0 a0_1 a0_2 a1_0 a1_1 a1_2=some (b1,s2,s3,i4)) :
 Calls Tryz.prog 42 #[.agg #[.bool a0_0,.string a0_1,.string a0_2],.agg #[.bool a1_0,.string a1_1,.string a1_2]] w fun e w'=>e= .returned (.tuple #[.agg #[.bool b1,.string s2,.string s3],.int .i64 i4])∧Below w.heap.size w w':=by
 unfold dZ.f at h
 split at h
 ·rename_i hs
  rw[←join_val a0_0 a0_1 a0_2 a1_0 a1_1 a1_2 hs 5 (Nat.le_refl _)] at h;exact iK.calls 5 a0_0 a0_1 a0_2 a1_0 a1_1 a1_2 b1 s2 s3 i4 w hG h
 ·cases h
def mkC(m r:ByteArray):Bool×ByteArray×ByteArray×Int:=if fM m r=0 then((encC (some (cls 100 (aN m) (aN r)))).1,(encC (some (cls 100 (aN m) (aN r)))).2.1,(encC (some (cls 100 (aN m) (aN r)))).2.2,0) else(false,⟨#[]⟩,⟨#[]⟩,fM m r)
def rV.f(a0_0:Bool)(a0_1 a0_2:ByteArray)(a1:ByteArray):Option (ByteArray×Int):=if a0_1.size≤1000000∧a0_2.size≤1000000∧a1.size≤300 then some (if hldE a0_0 a0_1 a0_2 a1=0 then leastO (decC a0_0 a0_1 a0_2) (aN a1) else(⟨#[]⟩,hldE a0_0 a0_1 a0_2 a1)) else none
theorem rV.calls(a0_0:Bool)(a0_1 a0_2:ByteArray)(a1:ByteArray)(s1:ByteArray)(i2:Int)(w:World)(hG:GW w)(h:rV.f a0_0 a0_1 a0_2 a1=some (s1,i2)) :
 Calls Tryz.prog 62 #[.agg #[.bool a0_0,.string a0_1,.string a0_2],.string a1] w fun e w'=>e= .returned (.tuple #[.string s1,.int .i64 i2])∧Below w.heap.size w w':=by
 unfold rV.f at h
 split at h
 ·rename_i hs
  rw[←least_val a0_0 a0_1 a0_2 a1 hs.1 hs.2.1 hs.2.2 5 (Nat.le_refl _)] at h;exact mX.calls 5 a0_0 a0_1 a0_2 a1 s1 i2 w hG h
 ·cases h
def nH.f(a0_0:Bool)(a0_1 a0_2:ByteArray)(a1:ByteArray):Option (ByteArray×Int):=if a0_1.size≤1000000∧a0_2.size≤1000000∧a1.size≤300 then some (if hldE a0_0 a0_1 a0_2 a1=0 then yX (decC a0_0 a0_1 a0_2) (aN a1) else(⟨#[]⟩,hldE a0_0 a0_1 a0_2 a1)) else none
theorem nH.calls(a0_0:Bool)(a0_1 a0_2:ByteArray)(a1:ByteArray)(s1:ByteArray)(i2:Int)(w:World)(hG:GW w)(h:nH.f a0_0 a0_1 a0_2 a1=some (s1,i2)) :
 Calls Tryz.prog 64 #[.agg #[.bool a0_0,.string a0_1,.string a0_2],.string a1] w fun e w'=>e= .returned (.tuple #[.string s1,.int .i64 i2])∧Below w.heap.size w w':=by
 unfold nH.f at h
 split at h
 ·rename_i hs
  rw[←greatest_val a0_0 a0_1 a0_2 a1 hs.1 hs.2.1 hs.2.2 5 (Nat.le_refl _)] at h;exact kZ.calls 5 a0_0 a0_1 a0_2 a1 s1 i2 w hG h
 ·cases h
def iL.o:Option (Int×Int)→Option (Int×Int)→Option (Int×Int):=bothO fun c d=>some (addC 100 c d)
theorem iL.val(a0_0:Bool)(a0_1 a0_2:ByteArray)(a1_0:Bool)(a1_1 a1_2:ByteArray)(hs:few4 a0_1 a0_2 a1_1 a1_2):oO.f 5 a0_0 a0_1 a0_2 a1_0 a1_1 a1_2=some (resC iL.o a0_0 a0_1 a0_2 a1_0 a1_1 a1_2):=by
 unfold oO.f;rw[uV (F:=fun c d=>some (addC 100 c d)) (fun c d gc gd=>add1_val gc gd 4) a0_0 a0_1 a0_2 a1_0 a1_1 a1_2 hs 5 (Nat.le_refl _),Option.bind_some];rfl
def iL.f(a0_0:Bool)(a0_1 a0_2:ByteArray)(a1_0:Bool)(a1_1 a1_2:ByteArray):Option (Bool×ByteArray×ByteArray×Int):=if few4 a0_1 a0_2 a1_1 a1_2 then some (resC iL.o a0_0 a0_1 a0_2 a1_0 a1_1 a1_2) else none
theorem iL.calls(a0_0:Bool)(a0_1 a0_2:ByteArray)(a1_0:Bool)(a1_1 a1_2:ByteArray)(b1:Bool)(s2:ByteArray)(s3:ByteArray)(i4:Int)(w:World)(hG:GW w)(h:iL.f a0_0 a0_1 a0_2 a1_0 a1_1 a1_2=some (b1,s2,s3,i4)) :
 Calls Tryz.prog 50 #[.agg #[.bool a0_0,.string a0_1,.string a0_2],.agg #[.bool a1_0,.string a1_1,.string a1_2]] w fun e w'=>e= .returned (.tuple #[.agg #[.bool b1,.string s2,.string s3],.int .i64 i4])∧Below w.heap.size w w':=by
 unfold iL.f at h
 split at h
 ·rename_i hs
  rw[←iL.val a0_0 a0_1 a0_2 a1_0 a1_1 a1_2 hs] at h;exact oO.calls 5 a0_0 a0_1 a0_2 a1_0 a1_1 a1_2 b1 s2 s3 i4 w hG h
 ·cases h
def iD.o:Option (Int×Int)→Option (Int×Int)→Option (Int×Int):=bothO fun c d=>some (subC 100 c d)
theorem iD.val(a0_0:Bool)(a0_1 a0_2:ByteArray)(a1_0:Bool)(a1_1 a1_2:ByteArray)(hs:few4 a0_1 a0_2 a1_1 a1_2):oP.f 5 a0_0 a0_1 a0_2 a1_0 a1_1 a1_2=some (resC iD.o a0_0 a0_1 a0_2 a1_0 a1_1 a1_2):=by
 unfold oP.f;rw[uV (F:=fun c d=>some (subC 100 c d)) (fun c d gc gd=>sub1_val gc gd 4) a0_0 a0_1 a0_2 a1_0 a1_1 a1_2 hs 5 (Nat.le_refl _),Option.bind_some];rfl
def iD.f(a0_0:Bool)(a0_1 a0_2:ByteArray)(a1_0:Bool)(a1_1 a1_2:ByteArray):Option (Bool×ByteArray×ByteArray×Int):=if few4 a0_1 a0_2 a1_1 a1_2 then some (resC iD.o a0_0 a0_1 a0_2 a1_0 a1_1 a1_2) else none
theorem iD.calls(a0_0:Bool)(a0_1 a0_2:ByteArray)(a1_0:Bool)(a1_1 a1_2:ByteArray)(b1:Bool)(s2:ByteArray)(s3:ByteArray)(i4:Int)(w:World)(hG:GW w)(h:iD.f a0_0 a0_1 a0_2 a1_0 a1_1 a1_2=some (b1,s2,s3,i4)) :
 Calls Tryz.prog 52 #[.agg #[.bool a0_0,.string a0_1,.string a0_2],.agg #[.bool a1_0,.string a1_1,.string a1_2]] w fun e w'=>e= .returned (.tuple #[.agg #[.bool b1,.string s2,.string s3],.int .i64 i4])∧Below w.heap.size w w':=by
 unfold iD.f at h
 split at h
 ·rename_i hs
  rw[←iD.val a0_0 a0_1 a0_2 a1_0 a1_1 a1_2 hs] at h;exact oP.calls 5 a0_0 a0_1 a0_2 a1_0 a1_1 a1_2 b1 s2 s3 i4 w hG h
 ·cases h
def iM.o:Option (Int×Int)→Option (Int×Int)→Option (Int×Int):=bothO fun c d=>some (mulC 100 c d)
theorem iM.val(a0_0:Bool)(a0_1 a0_2:ByteArray)(a1_0:Bool)(a1_1 a1_2:ByteArray)(hs:few4 a0_1 a0_2 a1_1 a1_2):oQ.f 5 a0_0 a0_1 a0_2 a1_0 a1_1 a1_2=some (resC iM.o a0_0 a0_1 a0_2 a1_0 a1_1 a1_2):=by
 unfold oQ.f;rw[uV (F:=fun c d=>some (mulC 100 c d)) (fun c d gc gd=>mul1_val gc gd 4) a0_0 a0_1 a0_2 a1_0 a1_1 a1_2 hs 5 (Nat.le_refl _),Option.bind_some];rfl
def iM.f(a0_0:Bool)(a0_1 a0_2:ByteArray)(a1_0:Bool)(a1_1 a1_2:ByteArray):Option (Bool×ByteArray×ByteArray×Int):=if few4 a0_1 a0_2 a1_1 a1_2 then some (resC iM.o a0_0 a0_1 a0_2 a1_0 a1_1 a1_2) else none
theorem iM.calls(a0_0:Bool)(a0_1 a0_2:ByteArray)(a1_0:Bool)(a1_1 a1_2:ByteArray)(b1:Bool)(s2:ByteArray)(s3:ByteArray)(i4:Int)(w:World)(hG:GW w)(h:iM.f a0_0 a0_1 a0_2 a1_0 a1_1 a1_2=some (b1,s2,s3,i4)) :
 Calls Tryz.prog 54 #[.agg #[.bool a0_0,.string a0_1,.string a0_2],.agg #[.bool a1_0,.string a1_1,.string a1_2]] w fun e w'=>e= .returned (.tuple #[.agg #[.bool b1,.string s2,.string s3],.int .i64 i4])∧Below w.heap.size w w':=by
 unfold iM.f at h
 split at h
 ·rename_i hs
  rw[←iM.val a0_0 a0_1 a0_2 a1_0 a1_1 a1_2 hs] at h;exact oQ.calls 5 a0_0 a0_1 a0_2 a1_0 a1_1 a1_2 b1 s2 s3 i4 w hG h
 ·cases h
def eX.o:Option (Int×Int)→Option (Int×Int)→Option (Int×Int):=bothO fun c d=>rQ 100 c d
theorem eX.val(a0_0:Bool)(a0_1 a0_2:ByteArray)(a1_0:Bool)(a1_1 a1_2:ByteArray)(hs:few4 a0_1 a0_2 a1_1 a1_2):nR.f 5 a0_0 a0_1 a0_2 a1_0 a1_1 a1_2=some (resC eX.o a0_0 a0_1 a0_2 a1_0 a1_1 a1_2):=by
 unfold nR.f;rw[uV (F:=fun c d=>rQ 100 c d) (fun c d gc gd=>meet_val gc gd 3) a0_0 a0_1 a0_2 a1_0 a1_1 a1_2 hs 5 (Nat.le_refl _),Option.bind_some];rfl
def eX.f(a0_0:Bool)(a0_1 a0_2:ByteArray)(a1_0:Bool)(a1_1 a1_2:ByteArray):Option (Bool×ByteArray×ByteArray×Int):=if few4 a0_1 a0_2 a1_1 a1_2 then some (resC eX.o a0_0 a0_1 a0_2 a1_0 a1_1 a1_2) else none
theorem eX.calls(a0_0:Bool)(a0_1 a0_2:ByteArray)(a1_0:Bool)(a1_1 a1_2:ByteArray)(b1:Bool)(s2:ByteArray)(s3:ByteArray)(i4:Int)(w:World)(hG:GW w)(h:eX.f a0_0 a0_1 a0_2 a1_0 a1_1 a1_2=some (b1,s2,s3,i4)) :
 Calls Tryz.prog 44 #[.agg #[.bool a0_0,.string a0_1,.string a0_2],.agg #[.bool a1_0,.string a1_1,.string a1_2]] w fun e w'=>e= .returned (.tuple #[.agg #[.bool b1,.string s2,.string s3],.int .i64 i4])∧Below w.heap.size w w':=by
 unfold eX.f at h
 split at h
 ·rename_i hs
  rw[←eX.val a0_0 a0_1 a0_2 a1_0 a1_1 a1_2 hs] at h;exact nR.calls 5 a0_0 a0_1 a0_2 a1_0 a1_1 a1_2 b1 s2 s3 i4 w hG h
 ·cases h
def iP.o:Option (Int×Int)→Option (Int×Int)→Option (Int×Int):=bothO fun c d=>quoC 100 c d
theorem iP.val(a0_0:Bool)(a0_1 a0_2:ByteArray)(a1_0:Bool)(a1_1 a1_2:ByteArray)(hs:few4 a0_1 a0_2 a1_1 a1_2):oU.f 5 a0_0 a0_1 a0_2 a1_0 a1_1 a1_2=some (resC iP.o a0_0 a0_1 a0_2 a1_0 a1_1 a1_2):=by
 unfold oU.f;rw[uV (F:=fun c d=>quoC 100 c d) (fun c d gc gd=>quo1_val gc gd 3) a0_0 a0_1 a0_2 a1_0 a1_1 a1_2 hs 5 (Nat.le_refl _),Option.bind_some];rfl
def iP.f(a0_0:Bool)(a0_1 a0_2:ByteArray)(a1_0:Bool)(a1_1 a1_2:ByteArray):Option (Bool×ByteArray×ByteArray×Int):=if few4 a0_1 a0_2 a1_1 a1_2 then some (resC iP.o a0_0 a0_1 a0_2 a1_0 a1_1 a1_2) else none
theorem iP.calls(a0_0:Bool)(a0_1 a0_2:ByteArray)(a1_0:Bool)(a1_1 a1_2:ByteArray)(b1:Bool)(s2:ByteArray)(s3:ByteArray)(i4:Int)(w:World)(hG:GW w)(h:iP.f a0_0 a0_1 a0_2 a1_0 a1_1 a1_2=some (b1,s2,s3,i4)) :
 Calls Tryz.prog 36 #[.agg #[.bool a0_0,.string a0_1,.string a0_2],.agg #[.bool a1_0,.string a1_1,.string a1_2]] w fun e w'=>e= .returned (.tuple #[.agg #[.bool b1,.string s2,.string s3],.int .i64 i4])∧Below w.heap.size w w':=by
 unfold iP.f at h
 split at h
 ·rename_i hs
  rw[←iP.val a0_0 a0_1 a0_2 a1_0 a1_1 a1_2 hs] at h;exact oU.calls 5 a0_0 a0_1 a0_2 a1_0 a1_1 a1_2 b1 s2 s3 i4 w hG h
 ·cases h
def iQ.o:Option (Int×Int)→Option (Int×Int)→Option (Int×Int):=bothO fun c d=>remC 100 c d
theorem iQ.val(a0_0:Bool)(a0_1 a0_2:ByteArray)(a1_0:Bool)(a1_1 a1_2:ByteArray)(hs:few4 a0_1 a0_2 a1_1 a1_2):oV.f 5 a0_0 a0_1 a0_2 a1_0 a1_1 a1_2=some (resC iQ.o a0_0 a0_1 a0_2 a1_0 a1_1 a1_2):=by
 unfold oV.f;rw[uV (F:=fun c d=>remC 100 c d) (fun c d gc gd=>rem1_val gc gd 3) a0_0 a0_1 a0_2 a1_0 a1_1 a1_2 hs 5 (Nat.le_refl _),Option.bind_some];rfl
def iQ.f(a0_0:Bool)(a0_1 a0_2:ByteArray)(a1_0:Bool)(a1_1 a1_2:ByteArray):Option (Bool×ByteArray×ByteArray×Int):=if few4 a0_1 a0_2 a1_1 a1_2 then some (resC iQ.o a0_0 a0_1 a0_2 a1_0 a1_1 a1_2) else none
theorem iQ.calls(a0_0:Bool)(a0_1 a0_2:ByteArray)(a1_0:Bool)(a1_1 a1_2:ByteArray)(b1:Bool)(s2:ByteArray)(s3:ByteArray)(i4:Int)(w:World)(hG:GW w)(h:iQ.f a0_0 a0_1 a0_2 a1_0 a1_1 a1_2=some (b1,s2,s3,i4)) :
 Calls Tryz.prog 38 #[.agg #[.bool a0_0,.string a0_1,.string a0_2],.agg #[.bool a1_0,.string a1_1,.string a1_2]] w fun e w'=>e= .returned (.tuple #[.agg #[.bool b1,.string s2,.string s3],.int .i64 i4])∧Below w.heap.size w w':=by
 unfold iQ.f at h
 split at h
 ·rename_i hs
  rw[←iQ.val a0_0 a0_1 a0_2 a1_0 a1_1 a1_2 hs] at h;exact oV.calls 5 a0_0 a0_1 a0_2 a1_0 a1_1 a1_2 b1 s2 s3 i4 w hG h
 ·cases h
def vU.f(a0:ByteArray):Option (Bool×ByteArray×ByteArray×Int):=if a0.size≤1000000 then some (mkC ⟨#[48]⟩ a0) else none
theorem vU.calls(a0:ByteArray)(b1:Bool)(s2 s3:ByteArray)(i4:Int)(w:World)(hG:GW w)(h:vU.f a0=some (b1,s2,s3,i4)) :
 Calls Tryz.prog 56 #[.string a0] w fun e w'=>e= .returned (.tuple #[.agg #[.bool b1,.string s2,.string s3],.int .i64 i4])∧Below w.heap.size w w':=by
 unfold vU.f at h
 split at h
 ·rename_i hs
  have e:qE.f 5 a0=some (mkC ⟨#[48]⟩ a0):=by
   unfold qE.f;rw[make_val ⟨#[48]⟩ a0 aCr hs 5 (Nat.le_refl _),Option.bind_some];rfl
  rw[←e] at h;exact qE.calls 5 a0 b1 s2 s3 i4 w hG h
 ·cases h
end Go.Proofs.YtignanmmgaldeaaGreatDoor
end
