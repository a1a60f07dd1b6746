/- Lemmas for the proof. -/
import Derived.Test.YtignanmmgaldeaaGreatDoorZI
section
set_option linter.unusedVariables false
set_option linter.unusedSimpArgs false
set_option maxHeartbeats 8000000
set_option maxRecDepth 100000
namespace Go.Proofs.YtignanmmgaldeaaGreatDoor.PCongI
open Go.RowKit Go.Proofs.YtignanmmgaldeaaGreatDoorW.PrintWords Go.Proofs.YtignanmmgaldeaaGreatDoorW.PrintLast Go.Proofs.YtignanmmgaldeaaGreatDoorW.PrintMore
attribute [local go_sem] gU gV iG iH
attribute [local go_sem high] eqA36
def dE.j0:Nat→Bool→Bool→ByteArray→ByteArray→Bool→ByteArray→ByteArray→Option (Bool×ByteArray×ByteArray)
 |0,_,_,_,_,_,_,_=>none
 |k+1,x10,x250000,x250001,x250002,x251000,x251001,x251002=>if x10=true then((eG.f x250002 x251002).bind fun bt259=>((dO.f bt259.1 bt259.2).bind fun t261=>((bI.f k (⟨#[48]⟩:ByteArray) t261).bind fun bt262=>(some (bt262.1,bt262.2.1,bt262.2.2))))) else((bQ.f x251001 x251002).bind fun t265=>((bQ.f x250001 t265).bind fun t266=>((bI.f k t266 x250002).bind fun bt267=>(some (bt267.1,bt267.2.1,bt267.2.2)))))
def dE.f(k:Nat)(a0_0:Bool)(a0_1:ByteArray)(a0_2:ByteArray)(a1_0:Bool)(a1_1:ByteArray)(a1_2:ByteArray):Option (Bool×ByteArray×ByteArray):=(dY.f (⟨#[48]⟩:ByteArray)).bind fun bt252=>(if(a1_0==bt252.1&&(a1_1.toList==bt252.2.1.toList&&(a1_2.toList==bt252.2.2.toList)))=true then((gG.f).bind fun bt255=>(some (bt255.1,bt255.2.1,bt255.2.2))) else(if a1_1.toList=([48]:List UInt8) then((dB.f a1_2 a0_1).bind fun t258=>(dE.j0 k t258 a0_0 a0_1 a0_2 a1_0 a1_1 a1_2)) else(dE.j0 k false a0_0 a0_1 a0_2 a1_0 a1_1 a1_2)))
def dE.T5:Bool×List (List Nat×List Nat):=(true,[([],[]),([0],[0]),([],[]),([2],[2]),([],[]),([4],[4]),([3,5],[3,5]),([1,6,6],[1,6]),([],[]),([8],[8]),([7,9,7],[7,9]),([10,10,0,1,2,3,4,5,6,7,8,9,10],[10])])
def dE.B5:List Nat:= [0,1,0,4,0,16,60,127,0,256,1023,2047]
theorem dE.tab5:rtab .any (opsOf Tryz.f104 5)=dE.T5:=by kernel_rfl
theorem dE.bits5:kC dE.T5.2 dE.B5=true:=by kernel_rfl
theorem dE.calls(k:Nat)(a0_0:Bool)(a0_1:ByteArray)(a0_2:ByteArray)(a1_0:Bool)(a1_1:ByteArray)(a1_2:ByteArray)(r1:Bool)(r2:ByteArray)(r3:ByteArray)(w:World)(hG:GW w)(h:dE.f k a0_0 a0_1 a0_2 a1_0 a1_1 a1_2=some (r1,r2,r3)) :
 Calls Tryz.prog 104 #[.agg #[.bool a0_0,.string a0_1,.string a0_2],.agg #[.bool a1_0,.string a1_1,.string a1_2]] w fun e w'=>e= .returned (.agg #[.bool r1,.string r2,.string r3])∧Below w.heap.size w w':=by
 have HG:=aA.mk hG
 clear hG
 have hu36:=Tryz.underlying36
 have HB:=aA.mk (Below.refl w.heap.size w)
 have H:((dY.f (⟨#[48]⟩:ByteArray)).bind fun bt252=>(if(a1_0==bt252.1&&(a1_1.toList==bt252.2.1.toList&&(a1_2.toList==bt252.2.2.toList)))=true then((gG.f).bind fun bt255=>(some (bt255.1,bt255.2.1,bt255.2.2))) else(if a1_1.toList=([48]:List UInt8) then((dB.f a1_2 a0_1).bind fun t258=>(dE.j0 k t258 a0_0 a0_1 a0_2 a1_0 a1_1 a1_2)) else(dE.j0 k false a0_0 a0_1 a0_2 a1_0 a1_1 a1_2))))=some (r1,r2,r3):=h
 clear h
 obtain⟨⟨t252,t253,t254⟩,A3,H⟩:=bi H
 try dsimp only at H
 by_cases c4:(a1_0==t252&&(a1_1.toList==t253.toList&&(a1_2.toList==t254.toList)))=true
 ·rw[if_pos c4] at H
  have c4b0:(a1_0==t252&&(a1_1.toList==t253.toList&&(a1_2.toList==t254.toList)))=true:=c4
  (try(have c4b1:decide (a1_0=t252&&(a1_1.toList==t253.toList&&(a1_2.toList==t254.toList)))=true:=by simpa using c4))
  (try(have c4b2:(a1_0==t252&&(a1_1.toList==t253.toList&&(a1_2.toList==t254.toList)))=true:=by simpa using c4))
  clear c4
  obtain⟨⟨t255,t256,t257⟩,A5,H⟩:=bi H
  try dsimp only at H
  simp only[Option.some.injEq,Prod.mk.injEq] at H
  obtain⟨rfl,rfl,rfl⟩:=H
  go_enter Tryz.func104,Tryz.ntmps104
  try go_wp2_with(first|((with_reducible refine aV (N:=2) rfl ?_);refine bx_ 2 36 #[.bool a0_0,.string a0_1,.string a0_2] (h:= ?_);intro gb249 hg w6 hbox hb;have BK249:=aA.mk (hbox);have GW249:=pkG HB hg;have GE249:=GW249;replace HB:=pkB HB hb;clear hb hbox hg)|((with_reducible refine aV (N:=3) rfl ?_);refine bx_ 3 36 #[.bool a1_0,.string a1_1,.string a1_2] (h:= ?_);intro gb250 hg w7 hbox hb;have BK250:=aA.mk (hbox);have GW250:=pkG HB hg;have GE250:=GW250;have NB249_250:=pkN BK249 hg;have NB250_249:=pkM BK249 hg;replace BK249:=pkK BK249 hb;replace HB:=pkB HB hb;clear hb hbox hg)|((with_reducible refine aV (N:=4) rfl ?_);refine bx_ 4 36 #[.bool false,.string (⟨#[]⟩:ByteArray),.string (⟨#[]⟩:ByteArray)] (h:= ?_);intro gb251 hg w8 hbox hb;have BK251:=aA.mk (hbox);have GW251:=pkG HB hg;have GE251:=GW251;have NB249_251:=pkN BK249 hg;have NB251_249:=pkM BK249 hg;have NB250_251:=pkN BK250 hg;have NB251_250:=pkM BK250 hg;replace BK249:=pkK BK249 hb;replace BK250:=pkK BK250 hb;replace HB:=pkB HB hb;clear hb hbox hg))
  replace BK249:=aA.mk (aJ BK249.out);replace BK250:=aA.mk (aJ BK250.out);replace BK251:=aA.mk (aJ BK251.out);replace HB:=aA.mk (aU HB.out)
  refine jI (n:=4) (S:=fun w'=>w'.cell? ⟨gb250,0,none⟩=some (.bool a1_0)∧w'.cell? ⟨gb250,1,none⟩=some (.string a1_1)∧w'.cell? ⟨gb250,2,none⟩=some (.string a1_2)) (ds:= []) #[false,false,false,false] (by kernel_rfl) rfl rfl ⟨(aC BK250.out 0).trans rfl,(aC BK250.out 1).trans rfl,(aC BK250.out 2).trans rfl⟩ (fun hHeld=> ?_)
  generalize w8.drew=w9 at BK249 BK250 BK251 HB hHeld ⊢
  refine tk_ 0 6 hHeld (hy:=by rintro w' ⟨s0,s1,s2⟩;go_simp;with_reducible rfl) (h:= ?_)
  refine on_ 1 7 (h:=fun K hK=> ?_)
  refine g1_ Tryz.func116 #[.string (⟨#[48]⟩:ByteArray)] (h:= ?_)
  with_reducible refine(dY.calls (⟨#[48]⟩:ByteArray) t252 t253 t254 _ A3.out).mono ?_
  rintro e w10 ⟨rfl,hb⟩
  refine⟨_,rfl,?_⟩
  replace BK249:=pkK BK249 hb;replace BK250:=pkK BK250 hb;replace BK251:=pkK BK251 hb;replace HB:=pkB HB hb
  (try clear hb)
  (try clear hb2)
  (try clear hk)
  (try clear hi)
  refine hK.out _ _ ⟨(aC BK250.out 0).trans rfl,(aC BK250.out 1).trans rfl,(aC BK250.out 2).trans rfl⟩ (fun hHeld=> ?_)
  clear hK K
  refine fF (a':= ?_) ?_ ?_
  rotate_left
  ·show Act.put _ (some 7) _=_
   simp only[Act.put,List.setIfInBounds_toArray,List.set_cons_zero,List.set_cons_succ,dD,dI]
   rfl
  refine pr_ 2 8 (h:= ?_)
  refine pr_ 3 5 (h:= ?_)
  refine kF (by kernel_rfl) ?_
  try go_wp2_with(first|((with_reducible refine aG (f:=176) rfl ?_);refine gl_ 9 Tryz.func176 #[] (h:= ?_);(with_reducible refine(gG.calls t255 t256 t257 _ A5.out).mono ?_);rintro e w11 ⟨rfl,hb⟩;refine⟨_,rfl,?_⟩;replace BK249:=pkK BK249 hb;replace BK250:=pkK BK250 hb;replace BK251:=pkK BK251 hb;replace HB:=pkB HB hb;try clear hb;have hnb12:=NB251_249.out;have hnc12:=NB249_251.out;have hnb13:=NB251_250.out;have hnc13:=NB250_251.out;obtain⟨⟨hcz14_0,hcz14_1,hcz14_2⟩,hfz14_0,hfz14_1,hfz14_2⟩:=pk3 BK251))
  refine bodyPost_ret (results_cell_row rfl _ _ gb251 36 #[.bool t255,.string t256,.string t257] (0,0) _ rfl (pkS3 BK251) Tryz.underlying36 rfl (by kernel_rfl)) rfl ?_
  exact pkE HB
 ·rw[if_neg c4] at H
  have c4b0:(a1_0==t252&&(a1_1.toList==t253.toList&&(a1_2.toList==t254.toList)))=false:=by simpa using c4
  (try(have c4b1:decide (a1_0=t252&&(a1_1.toList==t253.toList&&(a1_2.toList==t254.toList)))=false:=by simpa using c4))
  (try(have c4b2:(a1_0==t252&&(a1_1.toList==t253.toList&&(a1_2.toList==t254.toList)))=false:=by simpa using c4))
  (try(have c4b3:¬(a1_0=t252&&(a1_1.toList==t253.toList&&(a1_2.toList==t254.toList))):=by simpa using c4))
  clear c4
  have HC15:=aA.mk H
  clear H
  go_enter Tryz.func104,Tryz.ntmps104
  try go_wp2_with(first|((with_reducible refine aV (N:=2) rfl ?_);refine bx_ 2 36 #[.bool a0_0,.string a0_1,.string a0_2] (h:= ?_);intro gb249 hg w16 hbox hb;have BK249:=aA.mk (hbox);have GW249:=pkG HB hg;have GE249:=GW249;replace HB:=pkB HB hb;clear hb hbox hg)|((with_reducible refine aV (N:=3) rfl ?_);refine bx_ 3 36 #[.bool a1_0,.string a1_1,.string a1_2] (h:= ?_);intro gb250 hg w17 hbox hb;have BK250:=aA.mk (hbox);have GW250:=pkG HB hg;have GE250:=GW250;have NB249_250:=pkN BK249 hg;have NB250_249:=pkM BK249 hg;replace BK249:=pkK BK249 hb;replace HB:=pkB HB hb;clear hb hbox hg)|((with_reducible refine aV (N:=4) rfl ?_);refine bx_ 4 36 #[.bool false,.string (⟨#[]⟩:ByteArray),.string (⟨#[]⟩:ByteArray)] (h:= ?_);intro gb251 hg w18 hbox hb;have BK251:=aA.mk (hbox);have GW251:=pkG HB hg;have GE251:=GW251;have NB249_251:=pkN BK249 hg;have NB251_249:=pkM BK249 hg;have NB250_251:=pkN BK250 hg;have NB251_250:=pkM BK250 hg;replace BK249:=pkK BK249 hb;replace BK250:=pkK BK250 hb;replace HB:=pkB HB hb;clear hb hbox hg))
  replace BK249:=aA.mk (aJ BK249.out);replace BK250:=aA.mk (aJ BK250.out);replace BK251:=aA.mk (aJ BK251.out);replace HB:=aA.mk (aU HB.out)
  refine jI (n:=4) (S:=fun w'=>w'.cell? ⟨gb250,0,none⟩=some (.bool a1_0)∧w'.cell? ⟨gb250,1,none⟩=some (.string a1_1)∧w'.cell? ⟨gb250,2,none⟩=some (.string a1_2)) (ds:= []) #[false,false,false,false] (by kernel_rfl) rfl rfl ⟨(aC BK250.out 0).trans rfl,(aC BK250.out 1).trans rfl,(aC BK250.out 2).trans rfl⟩ (fun hHeld=> ?_)
  generalize w18.drew=w19 at BK249 BK250 BK251 HB hHeld ⊢
  refine tk_ 0 6 hHeld (hy:=by rintro w' ⟨s0,s1,s2⟩;go_simp;with_reducible rfl) (h:= ?_)
  refine on_ 1 7 (h:=fun K hK=> ?_)
  refine g1_ Tryz.func116 #[.string (⟨#[48]⟩:ByteArray)] (h:= ?_)
  with_reducible refine(dY.calls (⟨#[48]⟩:ByteArray) t252 t253 t254 _ A3.out).mono ?_
  rintro e w20 ⟨rfl,hb⟩
  refine⟨_,rfl,?_⟩
  replace BK249:=pkK BK249 hb;replace BK250:=pkK BK250 hb;replace BK251:=pkK BK251 hb;replace HB:=pkB HB hb
  (try clear hb)
  (try clear hb2)
  (try clear hk)
  (try clear hi)
  refine hK.out _ _ ⟨(aC BK250.out 0).trans rfl,(aC BK250.out 1).trans rfl,(aC BK250.out 2).trans rfl⟩ (fun hHeld=> ?_)
  clear hK K
  refine fF (a':= ?_) ?_ ?_
  rotate_left
  ·show Act.put _ (some 7) _=_
   simp only[Act.put,List.setIfInBounds_toArray,List.set_cons_zero,List.set_cons_succ,dD,dI]
   rfl
  refine pr_ 2 8 (h:= ?_)
  refine pr_ 3 5 (h:= ?_)
  refine kF (by kernel_rfl) ?_
  go_upto_region 3 with (fail)
  go_cut [10] (fun v10 wc=>∃(kq:Nat) (x10_14:Bool),v10= .bool x10_14∧aA (dE.j0 kq x10_14 a0_0 a0_1 a0_2 a1_0 a1_1 a1_2=some (r1,r2,r3))∧aA (kq≤k)∧aA (wc.heap[gb249]? =some (.cells #[.bool a0_0,.string a0_1,.string a0_2] 36 (0,0)))∧aA (wc.heap[gb250]? =some (.cells #[.bool a1_0,.string a1_1,.string a1_2] 36 (0,0)))∧aA (wc.heap[gb251]? =some (.cells #[.bool false,.string (⟨#[]⟩:ByteArray),.string (⟨#[]⟩:ByteArray)] 36 (0,0)))∧aA (Below w.heap.size w wc))
  case first=>
   have H:=HC15.out
   clear HC15
   by_cases c21:a1_1.toList=([48]:List UInt8)
   ·rw[if_pos c21] at H
    have c21b0:(a1_1.toList==([48]:List UInt8))=true:=beq_iff_eq.mpr c21
    have c21b1:(a1_1.toList != ([48]:List UInt8))=false:=bne_eq_false_iff_eq.mpr c21
    clear c21
    (first|rw[c21b0]|(simp only[dD,dI];rw[c21b0])|skip)
    obtain⟨t258,A22,H⟩:=bi H
    try dsimp only at H
    have H':=aA.mk H
    clear H
    have hnb23:=NB250_249.out
    have hnc23:=NB249_250.out
    have hnb24:=NB250_251.out
    have hnc24:=NB251_250.out
    obtain⟨⟨hcz25_0,hcz25_1,hcz25_2⟩,hfz25_0,hfz25_1,hfz25_2⟩:=pk3 BK250
    have hnb26:=NB249_251.out
    have hnc26:=NB251_249.out
    obtain⟨⟨hcz27_0,hcz27_1,hcz27_2⟩,hfz27_0,hfz27_1,hfz27_2⟩:=pk3 BK249
    go_wp2_with(first|(go_at_call 177;(with_reducible refine(dB.calls (hG:=HG.out.below (pkL HB)) a1_2 a0_1 t258 _ A22.out).mono ?_);rintro e w28 ⟨rfl,hb⟩;replace BK249:=pkK BK249 hb;replace BK250:=pkK BK250 hb;replace BK251:=pkK BK251 hb;replace HB:=pkB HB hb;try clear hb))
    go_meet
    case rel=>exact⟨_,(t258),(by first|rfl|(simp;done)|(simp[*];done)),H',⟨by first|omega|exact Nat.le_refl _⟩,⟨pkW BK249⟩,⟨pkW BK250⟩,⟨pkW BK251⟩,⟨pkL HB⟩⟩
   ·rw[if_neg c21] at H
    have c21b0:(a1_1.toList==([48]:List UInt8))=false:=beq_eq_false_iff_ne.mpr c21
    have c21b1:(a1_1.toList != ([48]:List UInt8))=true:=bne_iff_ne.mpr c21
    (first|rw[c21b0]|(simp only[dD,dI];rw[c21b0])|skip)
    have H':=aA.mk H
    clear H
    have hnb29:=NB250_249.out
    have hnc29:=NB249_250.out
    have hnb30:=NB250_251.out
    have hnc30:=NB251_250.out
    obtain⟨⟨hcz31_0,hcz31_1,hcz31_2⟩,hfz31_0,hfz31_1,hfz31_2⟩:=pk3 BK250
    go_wp2
    go_meet
    case rel=>exact⟨_,(false),(by first|rfl|(simp;done)|(simp[*];done)),H',⟨by first|omega|exact Nat.le_refl _⟩,⟨pkW BK249⟩,⟨pkW BK250⟩,⟨pkW BK251⟩,⟨pkL HB⟩⟩
  case rest=>
   clear HC15
   try clear c4
   try clear c4b0
   try clear c4b1
   try clear c4b2
   try clear c21
   try clear c21b0
   try clear c21b1
   try clear hcz14_0
   try clear hcz14_1
   try clear hcz14_2
   try clear hcz25_0
   try clear hcz25_1
   try clear hcz25_2
   try clear hcz27_0
   try clear hcz27_1
   try clear hcz27_2
   try clear hcz31_0
   try clear hcz31_1
   try clear hcz31_2
   try clear hfz14_0
   try clear hfz14_1
   try clear hfz14_2
   try clear hfz25_0
   try clear hfz25_1
   try clear hfz25_2
   try clear hfz27_0
   try clear hfz27_1
   try clear hfz27_2
   try clear hfz31_0
   try clear hfz31_1
   try clear hfz31_2
   obtain⟨kq,x10_14,rfl,HA,HJ14,BK249,BK250,BK251,HB⟩:=hcut
   cases kq with
   |zero=>exact absurd HA.out (by simp[dE.j0])
   |succ kj14=>
    have H:=HA.out
    clear HA
    simp only[dE.j0] at H
    by_cases c32:x10_14=true
    ·subst c32
     have H1:((eG.f a0_2 a1_2).bind fun bt259=>((dO.f bt259.1 bt259.2).bind fun t261=>((bI.f kj14 (⟨#[48]⟩:ByteArray) t261).bind fun bt262=>(some (bt262.1,bt262.2.1,bt262.2.2)))))=some (r1,r2,r3):=by rw[if_pos rfl] at H;exact H
     clear H
     have H:=H1
     clear H1
     obtain⟨⟨t259,t260⟩,A33,H⟩:=bi H
     try dsimp only at H
     obtain⟨t261,A34,H⟩:=bi H
     try dsimp only at H
     obtain⟨⟨t262,t263,t264⟩,A35,H⟩:=bi H
     try dsimp only at H
     simp only[Option.some.injEq,Prod.mk.injEq] at H
     obtain⟨rfl,rfl,rfl⟩:=H
     have hnb36:=NB249_250.out
     have hnc36:=NB250_249.out
     have hnb37:=NB249_251.out
     have hnc37:=NB251_249.out
     obtain⟨⟨hcz38_0,hcz38_1,hcz38_2⟩,hfz38_0,hfz38_1,hfz38_2⟩:=pk3 BK249
     have hnb39:=NB250_251.out
     have hnc39:=NB251_250.out
     obtain⟨⟨hcz40_0,hcz40_1,hcz40_2⟩,hfz40_0,hfz40_1,hfz40_2⟩:=pk3 BK250
     go_wp2_with(first|((with_reducible refine aG (f:=20) rfl ?_);refine gl_ 25 Tryz.func20 #[.string a0_2,.string a1_2] (h:= ?_);(with_reducible refine(eG.calls (hG:=HG.out.below (pkL HB)) a0_2 a1_2 t259 t260 _ A33.out).mono ?_);rintro e w41 ⟨rfl,hb⟩;refine⟨_,rfl,?_⟩;replace BK249:=pkK BK249 hb;replace BK250:=pkK BK250 hb;replace BK251:=pkK BK251 hb;replace HB:=pkB HB hb;try clear hb)|((with_reducible refine aG (f:=128) rfl ?_);refine gl_ 28 Tryz.func128 #[.string t259,.int .i64 t260] (h:= ?_);(with_reducible refine(dO.calls t259 t260 t261 _ A34.out).mono ?_);rintro e w' ⟨rfl,⟨nd,rfl⟩⟩;refine⟨_,rfl,?_⟩;(try(rw[lU w41];generalize hq_:World.drewN w41 _=w41;have n0_:aA (w41.heap[gb249]? =some (.cells #[.bool a0_0,.string a0_1,.string a0_2] 36 (0,0))):=⟨by rw[←hq_];exact(pkW BK249)⟩;have n1_:aA (w41.heap[gb250]? =some (.cells #[.bool a1_0,.string a1_1,.string a1_2] 36 (0,0))):=⟨by rw[←hq_];exact(pkW BK250)⟩;have n2_:aA (w41.heap[gb251]? =some (.cells #[.bool false,.string (⟨#[]⟩:ByteArray),.string (⟨#[]⟩:ByteArray)] 36 (0,0))):=⟨by rw[←hq_];exact(pkW BK251)⟩;have n3_:aA (Below w.heap.size w w41):=⟨by rw[←hq_];exact(pkL HB)⟩;clear BK249 BK250 BK251 HB hq_;have BK249:=n0_;have BK250:=n1_;have BK251:=n2_;have HB:=n3_;clear n0_ n1_ n2_ n3_)))|((with_reducible refine aG (f:=109) rfl ?_);refine gl_ 29 Tryz.func109 #[.string (⟨#[48]⟩:ByteArray),.string t261] (h:= ?_);(with_reducible refine(bI.calls (hG:=HG.out.below (pkL HB)) kj14 (⟨#[48]⟩:ByteArray) t261 t262 t263 t264 _ A35.out).mono ?_);rintro e w42 ⟨rfl,hb⟩;refine⟨_,rfl,?_⟩;replace BK249:=pkK BK249 hb;replace BK250:=pkK BK250 hb;replace BK251:=pkK BK251 hb;replace HB:=pkB HB hb;try clear hb;obtain⟨⟨hcz43_0,hcz43_1,hcz43_2⟩,hfz43_0,hfz43_1,hfz43_2⟩:=pk3 BK251))
     refine bodyPost_ret (results_cell_row rfl _ _ gb251 36 #[.bool t262,.string t263,.string t264] (0,0) _ rfl (pkS3 BK251) Tryz.underlying36 rfl (by kernel_rfl)) rfl ?_
     exact pkE HB
    ·replace c32:=Bool.eq_false_iff.mpr c32
     subst c32
     have H1:((bQ.f a1_1 a1_2).bind fun t265=>((bQ.f a0_1 t265).bind fun t266=>((bI.f kj14 t266 a0_2).bind fun bt267=>(some (bt267.1,bt267.2.1,bt267.2.2)))))=some (r1,r2,r3):=by rw[if_neg (show ¬(false=true) by decide)] at H;exact H
     clear H
     have H:=H1
     clear H1
     obtain⟨t265,A44,H⟩:=bi H
     try dsimp only at H
     obtain⟨t266,A45,H⟩:=bi H
     try dsimp only at H
     obtain⟨⟨t267,t268,t269⟩,A46,H⟩:=bi H
     try dsimp only at H
     simp only[Option.some.injEq,Prod.mk.injEq] at H
     obtain⟨rfl,rfl,rfl⟩:=H
     try go_wp2
     replace BK249:=aA.mk (aJ BK249.out);replace BK250:=aA.mk (aJ BK250.out);replace BK251:=aA.mk (aJ BK251.out);replace HB:=aA.mk (aU HB.out)
     refine jI (n:=12) (S:=fun w'=>w'.cell? ⟨gb249,0,none⟩=some (.bool a0_0)∧w'.cell? ⟨gb249,1,none⟩=some (.string a0_1)∧w'.cell? ⟨gb249,2,none⟩=some (.string a0_2)∧w'.cell? ⟨gb250,0,none⟩=some (.bool a1_0)∧w'.cell? ⟨gb250,1,none⟩=some (.string a1_1)∧w'.cell? ⟨gb250,2,none⟩=some (.string a1_2)) (ds:= []) #[false,false,false,false,false,false,false,false,false,false,false,false] (by kernel_rfl) rfl rfl ⟨(aC BK249.out 0).trans rfl,(aC BK249.out 1).trans rfl,(aC BK249.out 2).trans rfl,(aC BK250.out 0).trans rfl,(aC BK250.out 1).trans rfl,(aC BK250.out 2).trans rfl⟩ (fun hHeld=> ?_);refine jQ dE.tab5 dE.bits5 (fun HT_ HW_=> ?_)
     generalize wc.drew=w47 at BK249 BK250 BK251 HB hHeld ⊢
     refine pr_ 0 30 (h:= ?_)
     refine pr_ 2 32 (h:= ?_)
     refine pr_ 4 34 (h:= ?_)
     refine pr_ 8 38 (h:= ?_)
     refine tk_ 1 31 hHeld (hy:=by rintro w' ⟨s0,s1,s2,s3,s4,s5⟩;go_simp;with_reducible rfl) (h:= ?_)
     refine tk_ 3 33 hHeld (hy:=by rintro w' ⟨s0,s1,s2,s3,s4,s5⟩;go_simp;with_reducible rfl) (h:= ?_)
     refine tk_ 5 35 hHeld (hy:=by rintro w' ⟨s0,s1,s2,s3,s4,s5⟩;go_simp;with_reducible rfl) (h:= ?_)
     refine tk_ 9 39 hHeld (hy:=by rintro w' ⟨s0,s1,s2,s3,s4,s5⟩;go_simp;with_reducible rfl) (h:= ?_)
     refine on_ 6 36 (h:=fun K hK=> ?_)
     refine g1_ Tryz.func110 #[.string a1_1,.string a1_2] (h:= ?_)
     with_reducible refine(bQ.calls (hG:=HG.out.below (pkL HB)) a1_1 a1_2 t265 _ A44.out).mono ?_
     rintro e w48 ⟨rfl,hb⟩
     refine⟨_,rfl,?_⟩
     replace BK249:=pkK BK249 hb;replace BK250:=pkK BK250 hb;replace BK251:=pkK BK251 hb;replace HB:=pkB HB hb
     (try clear hb)
     (try clear hb2)
     (try clear hk)
     (try clear hi)
     refine hK.out _ _ ⟨(aC BK249.out 0).trans rfl,(aC BK249.out 1).trans rfl,(aC BK249.out 2).trans rfl,(aC BK250.out 0).trans rfl,(aC BK250.out 1).trans rfl,(aC BK250.out 2).trans rfl⟩ (fun hHeld=> ?_)
     clear hK K
     refine fF (a':= ?_) ?_ ?_
     rotate_left
     ·show Act.put _ (some 36) _=_
      simp only[Act.put,List.setIfInBounds_toArray,List.set_cons_zero,List.set_cons_succ,dD,dI]
      rfl
     refine on_ 7 37 (h:=fun K hK=> ?_)
     refine g1_ Tryz.func110 #[.string a0_1,.string t265] (h:= ?_)
     with_reducible refine(bQ.calls (hG:=HG.out.below (pkL HB)) a0_1 t265 t266 _ A45.out).mono ?_
     rintro e w49 ⟨rfl,hb⟩
     refine⟨_,rfl,?_⟩
     replace BK249:=pkK BK249 hb;replace BK250:=pkK BK250 hb;replace BK251:=pkK BK251 hb;replace HB:=pkB HB hb
     (try clear hb)
     (try clear hb2)
     (try clear hk)
     (try clear hi)
     refine hK.out _ _ ⟨(aC BK249.out 0).trans rfl,(aC BK249.out 1).trans rfl,(aC BK249.out 2).trans rfl,(aC BK250.out 0).trans rfl,(aC BK250.out 1).trans rfl,(aC BK250.out 2).trans rfl⟩ (fun hHeld=> ?_)
     clear hK K
     refine fF (a':= ?_) ?_ ?_
     rotate_left
     ·show Act.put _ (some 37) _=_
      simp only[Act.put,List.setIfInBounds_toArray,List.set_cons_zero,List.set_cons_succ,dD,dI]
      rfl
     refine on_ 10 40 (h:=fun K hK=> ?_)
     refine g1_ Tryz.func109 #[.string t266,.string a0_2] (h:= ?_)
     with_reducible refine(bI.calls (hG:=HG.out.below (pkL HB)) kj14 t266 a0_2 t267 t268 t269 _ A46.out).mono ?_
     rintro e w50 ⟨rfl,hb⟩
     refine⟨_,rfl,?_⟩
     replace BK249:=pkK BK249 hb;replace BK250:=pkK BK250 hb;replace BK251:=pkK BK251 hb;replace HB:=pkB HB hb
     (try clear hb)
     (try clear hb2)
     (try clear hk)
     (try clear hi)
     refine hK.out _ _ ⟨(aC BK249.out 0).trans rfl,(aC BK249.out 1).trans rfl,(aC BK249.out 2).trans rfl,(aC BK250.out 0).trans rfl,(aC BK250.out 1).trans rfl,(aC BK250.out 2).trans rfl⟩ (fun hHeld=> ?_)
     clear hK K
     refine fF (a':= ?_) ?_ ?_
     rotate_left
     ·show Act.put _ (some 40) _=_
      simp only[Act.put,List.setIfInBounds_toArray,List.set_cons_zero,List.set_cons_succ,dD,dI]
      rfl
     refine one_ (i:=11) (N:=none) #[true,true,true,true,true,true,true,true,true,true,true,true] rfl rfl (uB HT_.out (by kernel_rfl)) (by decide) (fun K hK=> ?_)
     have hs51:w50.cell? ⟨gb251,0,none⟩=some (.bool false):=(aC BK251.out 0).trans rfl
     have hfs51:=eY BK251.out 0
     have hns51_0:=NB249_251.out
     have hns51_1:=NB250_251.out
     have hms51_0:=NB251_249.out
     have hms51_1:=NB251_250.out
     have hs52:w50.cell? ⟨gb251,1,none⟩=some (.string (⟨#[]⟩:ByteArray)):=(aC BK251.out 1).trans rfl
     have hfs52:=eY BK251.out 1
     have hns52_0:=NB249_251.out
     have hns52_1:=NB250_251.out
     have hms52_0:=NB251_249.out
     have hms52_1:=NB251_250.out
     have hs53:w50.cell? ⟨gb251,2,none⟩=some (.string (⟨#[]⟩:ByteArray)):=(aC BK251.out 2).trans rfl
     have hfs53:=eY BK251.out 2
     have hns53_0:=NB249_251.out
     have hns53_1:=NB250_251.out
     have hms53_0:=NB251_249.out
     have hms53_1:=NB251_250.out
     refine skip_ (w1:= ?_) (by rfl) rfl ?_ ?_
     rotate_left
     ·go_simp
      rfl
     refine hK.out _ _ ⟨((Go.Proofs.YtignanmmgaldeaaGreatDoorW.PrintWords.cell_far (p:=⟨gb251,_,none⟩) NB249_251.out _).trans (((Go.Proofs.YtignanmmgaldeaaGreatDoorW.PrintWords.cell_far (p:=⟨gb251,_,none⟩) NB249_251.out _).trans (((Go.Proofs.YtignanmmgaldeaaGreatDoorW.PrintWords.cell_far (p:=⟨gb251,_,none⟩) NB249_251.out _).trans (hHeld.1)))))),((Go.Proofs.YtignanmmgaldeaaGreatDoorW.PrintWords.cell_far (p:=⟨gb251,_,none⟩) NB249_251.out _).trans (((Go.Proofs.YtignanmmgaldeaaGreatDoorW.PrintWords.cell_far (p:=⟨gb251,_,none⟩) NB249_251.out _).trans (((Go.Proofs.YtignanmmgaldeaaGreatDoorW.PrintWords.cell_far (p:=⟨gb251,_,none⟩) NB249_251.out _).trans (hHeld.2.1)))))),((Go.Proofs.YtignanmmgaldeaaGreatDoorW.PrintWords.cell_far (p:=⟨gb251,_,none⟩) NB249_251.out _).trans (((Go.Proofs.YtignanmmgaldeaaGreatDoorW.PrintWords.cell_far (p:=⟨gb251,_,none⟩) NB249_251.out _).trans (((Go.Proofs.YtignanmmgaldeaaGreatDoorW.PrintWords.cell_far (p:=⟨gb251,_,none⟩) NB249_251.out _).trans (hHeld.2.2.1)))))),((Go.Proofs.YtignanmmgaldeaaGreatDoorW.PrintWords.cell_far (p:=⟨gb251,_,none⟩) NB250_251.out _).trans (((Go.Proofs.YtignanmmgaldeaaGreatDoorW.PrintWords.cell_far (p:=⟨gb251,_,none⟩) NB250_251.out _).trans (((Go.Proofs.YtignanmmgaldeaaGreatDoorW.PrintWords.cell_far (p:=⟨gb251,_,none⟩) NB250_251.out _).trans (hHeld.2.2.2.1)))))),((Go.Proofs.YtignanmmgaldeaaGreatDoorW.PrintWords.cell_far (p:=⟨gb251,_,none⟩) NB250_251.out _).trans (((Go.Proofs.YtignanmmgaldeaaGreatDoorW.PrintWords.cell_far (p:=⟨gb251,_,none⟩) NB250_251.out _).trans (((Go.Proofs.YtignanmmgaldeaaGreatDoorW.PrintWords.cell_far (p:=⟨gb251,_,none⟩) NB250_251.out _).trans (hHeld.2.2.2.2.1)))))),((Go.Proofs.YtignanmmgaldeaaGreatDoorW.PrintWords.cell_far (p:=⟨gb251,_,none⟩) NB250_251.out _).trans (((Go.Proofs.YtignanmmgaldeaaGreatDoorW.PrintWords.cell_far (p:=⟨gb251,_,none⟩) NB250_251.out _).trans (((Go.Proofs.YtignanmmgaldeaaGreatDoorW.PrintWords.cell_far (p:=⟨gb251,_,none⟩) NB250_251.out _).trans (hHeld.2.2.2.2.2))))))⟩ (fun hHeld=> ?_)
     clear hK K
     refine kF (lM HT_.out (by kernel_rfl)) ?_
     try go_wp2
     refine bodyPost_ret (results_cell_row rfl _ _ gb251 36 #[.bool t267,.string t268,.string t269] (0,0) _ rfl (pkS3 BK251) Tryz.underlying36 rfl (by kernel_rfl)) rfl ?_
     exact pkE HB
def fA.f(k:Nat)(a0_0:Bool)(a0_1:ByteArray)(a0_2:ByteArray)(a1_0:Bool)(a1_1:ByteArray)(a1_2:ByteArray):Option (Bool×ByteArray×ByteArray):=(bQ.f a0_1 a1_1).bind fun t273=>((iR.f a0_2 a1_2).bind fun t274=>((bI.f k t273 t274).bind fun bt275=>(some (bt275.1,bt275.2.1,bt275.2.2))))
def fA.T1:Bool×List (List Nat×List Nat):=(true,[([],[]),([0],[0]),([],[]),([2],[2]),([1,3],[1,3]),([],[]),([5],[5]),([],[]),([7],[7]),([6,8,4],[6,8]),([4,9,9],[4,9]),([10,10,0,1,2,3,4,5,6,7,8,9,10],[10])])
def fA.B1:List Nat:= [0,1,0,4,15,0,32,0,128,511,1023,2047]
theorem fA.tab1:rtab .any (opsOf Tryz.f118 1)=fA.T1:=by kernel_rfl
theorem fA.bits1:kC fA.T1.2 fA.B1=true:=by kernel_rfl
theorem fA.calls(k:Nat)(a0_0:Bool)(a0_1:ByteArray)(a0_2:ByteArray)(a1_0:Bool)(a1_1:ByteArray)(a1_2:ByteArray)(r1:Bool)(r2:ByteArray)(r3:ByteArray)(w:World)(hG:GW w)(h:fA.f k a0_0 a0_1 a0_2 a1_0 a1_1 a1_2=some (r1,r2,r3)) :
 Calls Tryz.prog 118 #[.agg #[.bool a0_0,.string a0_1,.string a0_2],.agg #[.bool a1_0,.string a1_1,.string a1_2]] w fun e w'=>e= .returned (.agg #[.bool r1,.string r2,.string r3])∧Below w.heap.size w w':=by
 have HG:=aA.mk hG
 clear hG
 have hu36:=Tryz.underlying36
 have HB:=aA.mk (Below.refl w.heap.size w)
 have H:((bQ.f a0_1 a1_1).bind fun t273=>((iR.f a0_2 a1_2).bind fun t274=>((bI.f k t273 t274).bind fun bt275=>(some (bt275.1,bt275.2.1,bt275.2.2)))))=some (r1,r2,r3):=h
 clear h
 obtain⟨t273,A3,H⟩:=bi H
 try dsimp only at H
 obtain⟨t274,A4,H⟩:=bi H
 try dsimp only at H
 obtain⟨⟨t275,t276,t277⟩,A5,H⟩:=bi H
 try dsimp only at H
 simp only[Option.some.injEq,Prod.mk.injEq] at H
 obtain⟨rfl,rfl,rfl⟩:=H
 go_enter Tryz.func118,Tryz.ntmps118
 try go_wp2_with(first|((with_reducible refine aV (N:=2) rfl ?_);refine bx_ 2 36 #[.bool a0_0,.string a0_1,.string a0_2] (h:= ?_);intro gb270 hg w6 hbox hb;have BK270:=aA.mk (hbox);have GW270:=pkG HB hg;have GE270:=GW270;replace HB:=pkB HB hb;clear hb hbox hg)|((with_reducible refine aV (N:=3) rfl ?_);refine bx_ 3 36 #[.bool a1_0,.string a1_1,.string a1_2] (h:= ?_);intro gb271 hg w7 hbox hb;have BK271:=aA.mk (hbox);have GW271:=pkG HB hg;have GE271:=GW271;have NB270_271:=pkN BK270 hg;have NB271_270:=pkM BK270 hg;replace BK270:=pkK BK270 hb;replace HB:=pkB HB hb;clear hb hbox hg)|((with_reducible refine aV (N:=4) rfl ?_);refine bx_ 4 36 #[.bool false,.string (⟨#[]⟩:ByteArray),.string (⟨#[]⟩:ByteArray)] (h:= ?_);intro gb272 hg w8 hbox hb;have BK272:=aA.mk (hbox);have GW272:=pkG HB hg;have GE272:=GW272;have NB270_272:=pkN BK270 hg;have NB272_270:=pkM BK270 hg;have NB271_272:=pkN BK271 hg;have NB272_271:=pkM BK271 hg;replace BK270:=pkK BK270 hb;replace BK271:=pkK BK271 hb;replace HB:=pkB HB hb;clear hb hbox hg))
 replace BK270:=aA.mk (aJ BK270.out);replace BK271:=aA.mk (aJ BK271.out);replace BK272:=aA.mk (aJ BK272.out);replace HB:=aA.mk (aU HB.out)
 refine jI (n:=12) (S:=fun w'=>w'.cell? ⟨gb270,0,none⟩=some (.bool a0_0)∧w'.cell? ⟨gb270,1,none⟩=some (.string a0_1)∧w'.cell? ⟨gb270,2,none⟩=some (.string a0_2)∧w'.cell? ⟨gb271,0,none⟩=some (.bool a1_0)∧w'.cell? ⟨gb271,1,none⟩=some (.string a1_1)∧w'.cell? ⟨gb271,2,none⟩=some (.string a1_2)) (ds:= []) #[false,false,false,false,false,false,false,false,false,false,false,false] (by kernel_rfl) rfl rfl ⟨(aC BK270.out 0).trans rfl,(aC BK270.out 1).trans rfl,(aC BK270.out 2).trans rfl,(aC BK271.out 0).trans rfl,(aC BK271.out 1).trans rfl,(aC BK271.out 2).trans rfl⟩ (fun hHeld=> ?_);refine jQ fA.tab1 fA.bits1 (fun HT_ HW_=> ?_)
 generalize w8.drew=w9 at BK270 BK271 BK272 HB hHeld ⊢
 refine pr_ 0 5 (h:= ?_)
 refine pr_ 2 7 (h:= ?_)
 refine pr_ 5 10 (h:= ?_)
 refine pr_ 7 12 (h:= ?_)
 refine tk_ 1 6 hHeld (hy:=by rintro w' ⟨s0,s1,s2,s3,s4,s5⟩;go_simp;with_reducible rfl) (h:= ?_)
 refine tk_ 3 8 hHeld (hy:=by rintro w' ⟨s0,s1,s2,s3,s4,s5⟩;go_simp;with_reducible rfl) (h:= ?_)
 refine tk_ 6 11 hHeld (hy:=by rintro w' ⟨s0,s1,s2,s3,s4,s5⟩;go_simp;with_reducible rfl) (h:= ?_)
 refine tk_ 8 13 hHeld (hy:=by rintro w' ⟨s0,s1,s2,s3,s4,s5⟩;go_simp;with_reducible rfl) (h:= ?_)
 refine on_ 4 9 (h:=fun K hK=> ?_)
 refine g1_ Tryz.func110 #[.string a0_1,.string a1_1] (h:= ?_)
 with_reducible refine(bQ.calls (hG:=HG.out.below (pkL HB)) a0_1 a1_1 t273 _ A3.out).mono ?_
 rintro e w10 ⟨rfl,hb⟩
 refine⟨_,rfl,?_⟩
 replace BK270:=pkK BK270 hb;replace BK271:=pkK BK271 hb;replace BK272:=pkK BK272 hb;replace HB:=pkB HB hb
 (try clear hb)
 (try clear hb2)
 (try clear hk)
 (try clear hi)
 refine hK.out _ _ ⟨(aC BK270.out 0).trans rfl,(aC BK270.out 1).trans rfl,(aC BK270.out 2).trans rfl,(aC BK271.out 0).trans rfl,(aC BK271.out 1).trans rfl,(aC BK271.out 2).trans rfl⟩ (fun hHeld=> ?_)
 clear hK K
 refine fF (a':= ?_) ?_ ?_
 rotate_left
 ·show Act.put _ (some 9) _=_
  simp only[Act.put,List.setIfInBounds_toArray,List.set_cons_zero,List.set_cons_succ,dD,dI]
  rfl
 refine on_ 9 14 (h:=fun K hK=> ?_)
 refine g1_ Tryz.func119 #[.string a0_2,.string a1_2] (h:= ?_)
 with_reducible refine(iR.calls (hG:=HG.out.below (pkL HB)) a0_2 a1_2 t274 _ A4.out).mono ?_
 rintro e w11 ⟨rfl,hb⟩
 refine⟨_,rfl,?_⟩
 replace BK270:=pkK BK270 hb;replace BK271:=pkK BK271 hb;replace BK272:=pkK BK272 hb;replace HB:=pkB HB hb
 (try clear hb)
 (try clear hb2)
 (try clear hk)
 (try clear hi)
 refine hK.out _ _ ⟨(aC BK270.out 0).trans rfl,(aC BK270.out 1).trans rfl,(aC BK270.out 2).trans rfl,(aC BK271.out 0).trans rfl,(aC BK271.out 1).trans rfl,(aC BK271.out 2).trans rfl⟩ (fun hHeld=> ?_)
 clear hK K
 refine fF (a':= ?_) ?_ ?_
 rotate_left
 ·show Act.put _ (some 14) _=_
  simp only[Act.put,List.setIfInBounds_toArray,List.set_cons_zero,List.set_cons_succ,dD,dI]
  rfl
 refine on_ 10 15 (h:=fun K hK=> ?_)
 refine g1_ Tryz.func109 #[.string t273,.string t274] (h:= ?_)
 with_reducible refine(bI.calls (hG:=HG.out.below (pkL HB)) k t273 t274 t275 t276 t277 _ A5.out).mono ?_
 rintro e w12 ⟨rfl,hb⟩
 refine⟨_,rfl,?_⟩
 replace BK270:=pkK BK270 hb;replace BK271:=pkK BK271 hb;replace BK272:=pkK BK272 hb;replace HB:=pkB HB hb
 (try clear hb)
 (try clear hb2)
 (try clear hk)
 (try clear hi)
 refine hK.out _ _ ⟨(aC BK270.out 0).trans rfl,(aC BK270.out 1).trans rfl,(aC BK270.out 2).trans rfl,(aC BK271.out 0).trans rfl,(aC BK271.out 1).trans rfl,(aC BK271.out 2).trans rfl⟩ (fun hHeld=> ?_)
 clear hK K
 refine fF (a':= ?_) ?_ ?_
 rotate_left
 ·show Act.put _ (some 15) _=_
  simp only[Act.put,List.setIfInBounds_toArray,List.set_cons_zero,List.set_cons_succ,dD,dI]
  rfl
 refine one_ (i:=11) (N:=none) #[true,true,true,true,true,true,true,true,true,true,true,true] rfl rfl (uB HT_.out (by kernel_rfl)) (by decide) (fun K hK=> ?_)
 have hs13:w12.cell? ⟨gb272,0,none⟩=some (.bool false):=(aC BK272.out 0).trans rfl
 have hfs13:=eY BK272.out 0
 have hns13_0:=NB270_272.out
 have hns13_1:=NB271_272.out
 have hms13_0:=NB272_270.out
 have hms13_1:=NB272_271.out
 have hs14:w12.cell? ⟨gb272,1,none⟩=some (.string (⟨#[]⟩:ByteArray)):=(aC BK272.out 1).trans rfl
 have hfs14:=eY BK272.out 1
 have hns14_0:=NB270_272.out
 have hns14_1:=NB271_272.out
 have hms14_0:=NB272_270.out
 have hms14_1:=NB272_271.out
 have hs15:w12.cell? ⟨gb272,2,none⟩=some (.string (⟨#[]⟩:ByteArray)):=(aC BK272.out 2).trans rfl
 have hfs15:=eY BK272.out 2
 have hns15_0:=NB270_272.out
 have hns15_1:=NB271_272.out
 have hms15_0:=NB272_270.out
 have hms15_1:=NB272_271.out
 refine skip_ (w1:= ?_) (by rfl) rfl ?_ ?_
 rotate_left
 ·go_simp
  rfl
 refine hK.out _ _ ⟨((Go.Proofs.YtignanmmgaldeaaGreatDoorW.PrintWords.cell_far (p:=⟨gb272,_,none⟩) NB270_272.out _).trans (((Go.Proofs.YtignanmmgaldeaaGreatDoorW.PrintWords.cell_far (p:=⟨gb272,_,none⟩) NB270_272.out _).trans (((Go.Proofs.YtignanmmgaldeaaGreatDoorW.PrintWords.cell_far (p:=⟨gb272,_,none⟩) NB270_272.out _).trans (hHeld.1)))))),((Go.Proofs.YtignanmmgaldeaaGreatDoorW.PrintWords.cell_far (p:=⟨gb272,_,none⟩) NB270_272.out _).trans (((Go.Proofs.YtignanmmgaldeaaGreatDoorW.PrintWords.cell_far (p:=⟨gb272,_,none⟩) NB270_272.out _).trans (((Go.Proofs.YtignanmmgaldeaaGreatDoorW.PrintWords.cell_far (p:=⟨gb272,_,none⟩) NB270_272.out _).trans (hHeld.2.1)))))),((Go.Proofs.YtignanmmgaldeaaGreatDoorW.PrintWords.cell_far (p:=⟨gb272,_,none⟩) NB270_272.out _).trans (((Go.Proofs.YtignanmmgaldeaaGreatDoorW.PrintWords.cell_far (p:=⟨gb272,_,none⟩) NB270_272.out _).trans (((Go.Proofs.YtignanmmgaldeaaGreatDoorW.PrintWords.cell_far (p:=⟨gb272,_,none⟩) NB270_272.out _).trans (hHeld.2.2.1)))))),((Go.Proofs.YtignanmmgaldeaaGreatDoorW.PrintWords.cell_far (p:=⟨gb272,_,none⟩) NB271_272.out _).trans (((Go.Proofs.YtignanmmgaldeaaGreatDoorW.PrintWords.cell_far (p:=⟨gb272,_,none⟩) NB271_272.out _).trans (((Go.Proofs.YtignanmmgaldeaaGreatDoorW.PrintWords.cell_far (p:=⟨gb272,_,none⟩) NB271_272.out _).trans (hHeld.2.2.2.1)))))),((Go.Proofs.YtignanmmgaldeaaGreatDoorW.PrintWords.cell_far (p:=⟨gb272,_,none⟩) NB271_272.out _).trans (((Go.Proofs.YtignanmmgaldeaaGreatDoorW.PrintWords.cell_far (p:=⟨gb272,_,none⟩) NB271_272.out _).trans (((Go.Proofs.YtignanmmgaldeaaGreatDoorW.PrintWords.cell_far (p:=⟨gb272,_,none⟩) NB271_272.out _).trans (hHeld.2.2.2.2.1)))))),((Go.Proofs.YtignanmmgaldeaaGreatDoorW.PrintWords.cell_far (p:=⟨gb272,_,none⟩) NB271_272.out _).trans (((Go.Proofs.YtignanmmgaldeaaGreatDoorW.PrintWords.cell_far (p:=⟨gb272,_,none⟩) NB271_272.out _).trans (((Go.Proofs.YtignanmmgaldeaaGreatDoorW.PrintWords.cell_far (p:=⟨gb272,_,none⟩) NB271_272.out _).trans (hHeld.2.2.2.2.2))))))⟩ (fun hHeld=> ?_)
 clear hK K
 refine kF (lM HT_.out (by kernel_rfl)) ?_
 try go_wp2
 refine bodyPost_ret (results_cell_row rfl _ _ gb272 36 #[.bool t275,.string t276,.string t277] (0,0) _ rfl (pkS3 BK272) Tryz.underlying36 rfl (by kernel_rfl)) rfl ?_
 exact pkE HB
end Go.Proofs.YtignanmmgaldeaaGreatDoor.PCongI
end
section
set_option linter.unusedVariables false
set_option linter.unusedSimpArgs false
set_option maxHeartbeats 8000000
set_option maxRecDepth 100000
namespace Go.Proofs.YtignanmmgaldeaaGreatDoor.PCongI
open Go.RowKit Go.Proofs.YtignanmmgaldeaaGreatDoorW.PrintWords Go.Proofs.YtignanmmgaldeaaGreatDoorW.PrintLast Go.Proofs.YtignanmmgaldeaaGreatDoorW.PrintMore
attribute [local go_sem] gU gV iG iH
def gY.f(k:Nat)(a0_0:Bool)(a0_1:ByteArray)(a0_2:ByteArray)(a1_0:Bool)(a1_1:ByteArray)(a1_2:ByteArray):Option (Bool×ByteArray×ByteArray):=(bQ.f a0_1 a1_1).bind fun t281=>((dV.f a0_2 a1_2).bind fun t282=>((bI.f k t281 t282).bind fun bt283=>(some (bt283.1,bt283.2.1,bt283.2.2))))
def gY.T1:Bool×List (List Nat×List Nat):=(true,[([],[]),([0],[0]),([],[]),([2],[2]),([1,3],[1,3]),([],[]),([5],[5]),([],[]),([7],[7]),([6,8,4],[6,8]),([4,9,9],[4,9]),([10,10,0,1,2,3,4,5,6,7,8,9,10],[10])])
def gY.B1:List Nat:= [0,1,0,4,15,0,32,0,128,511,1023,2047]
theorem gY.tab1:rtab .any (opsOf Tryz.f121 1)=gY.T1:=by kernel_rfl
theorem gY.bits1:kC gY.T1.2 gY.B1=true:=by kernel_rfl
theorem gY.calls(k:Nat)(a0_0:Bool)(a0_1:ByteArray)(a0_2:ByteArray)(a1_0:Bool)(a1_1:ByteArray)(a1_2:ByteArray)(r1:Bool)(r2:ByteArray)(r3:ByteArray)(w:World)(hG:GW w)(h:gY.f k a0_0 a0_1 a0_2 a1_0 a1_1 a1_2=some (r1,r2,r3)) :
 Calls Tryz.prog 121 #[.agg #[.bool a0_0,.string a0_1,.string a0_2],.agg #[.bool a1_0,.string a1_1,.string a1_2]] w fun e w'=>e= .returned (.agg #[.bool r1,.string r2,.string r3])∧Below w.heap.size w w':=by
 have HG:=aA.mk hG
 clear hG
 have hu36:=Tryz.underlying36
 have HB:=aA.mk (Below.refl w.heap.size w)
 have H:((bQ.f a0_1 a1_1).bind fun t281=>((dV.f a0_2 a1_2).bind fun t282=>((bI.f k t281 t282).bind fun bt283=>(some (bt283.1,bt283.2.1,bt283.2.2)))))=some (r1,r2,r3):=h
 clear h
 obtain⟨t281,A3,H⟩:=bi H
 try dsimp only at H
 obtain⟨t282,A4,H⟩:=bi H
 try dsimp only at H
 obtain⟨⟨t283,t284,t285⟩,A5,H⟩:=bi H
 try dsimp only at H
 simp only[Option.some.injEq,Prod.mk.injEq] at H
 obtain⟨rfl,rfl,rfl⟩:=H
 go_enter Tryz.func121,Tryz.ntmps121
 try go_wp2_with(first|((with_reducible refine aV (N:=2) rfl ?_);refine bx_ 2 36 #[.bool a0_0,.string a0_1,.string a0_2] (h:= ?_);intro gb278 hg w6 hbox hb;have BK278:=aA.mk (hbox);have GW278:=pkG HB hg;have GE278:=GW278;replace HB:=pkB HB hb;clear hb hbox hg)|((with_reducible refine aV (N:=3) rfl ?_);refine bx_ 3 36 #[.bool a1_0,.string a1_1,.string a1_2] (h:= ?_);intro gb279 hg w7 hbox hb;have BK279:=aA.mk (hbox);have GW279:=pkG HB hg;have GE279:=GW279;have NB278_279:=pkN BK278 hg;have NB279_278:=pkM BK278 hg;replace BK278:=pkK BK278 hb;replace HB:=pkB HB hb;clear hb hbox hg)|((with_reducible refine aV (N:=4) rfl ?_);refine bx_ 4 36 #[.bool false,.string (⟨#[]⟩:ByteArray),.string (⟨#[]⟩:ByteArray)] (h:= ?_);intro gb280 hg w8 hbox hb;have BK280:=aA.mk (hbox);have GW280:=pkG HB hg;have GE280:=GW280;have NB278_280:=pkN BK278 hg;have NB280_278:=pkM BK278 hg;have NB279_280:=pkN BK279 hg;have NB280_279:=pkM BK279 hg;replace BK278:=pkK BK278 hb;replace BK279:=pkK BK279 hb;replace HB:=pkB HB hb;clear hb hbox hg))
 replace BK278:=aA.mk (aJ BK278.out);replace BK279:=aA.mk (aJ BK279.out);replace BK280:=aA.mk (aJ BK280.out);replace HB:=aA.mk (aU HB.out)
 refine jI (n:=12) (S:=fun w'=>w'.cell? ⟨gb278,0,none⟩=some (.bool a0_0)∧w'.cell? ⟨gb278,1,none⟩=some (.string a0_1)∧w'.cell? ⟨gb278,2,none⟩=some (.string a0_2)∧w'.cell? ⟨gb279,0,none⟩=some (.bool a1_0)∧w'.cell? ⟨gb279,1,none⟩=some (.string a1_1)∧w'.cell? ⟨gb279,2,none⟩=some (.string a1_2)) (ds:= []) #[false,false,false,false,false,false,false,false,false,false,false,false] (by kernel_rfl) rfl rfl ⟨(aC BK278.out 0).trans rfl,(aC BK278.out 1).trans rfl,(aC BK278.out 2).trans rfl,(aC BK279.out 0).trans rfl,(aC BK279.out 1).trans rfl,(aC BK279.out 2).trans rfl⟩ (fun hHeld=> ?_);refine jQ gY.tab1 gY.bits1 (fun HT_ HW_=> ?_)
 generalize w8.drew=w9 at BK278 BK279 BK280 HB hHeld ⊢
 refine pr_ 0 5 (h:= ?_)
 refine pr_ 2 7 (h:= ?_)
 refine pr_ 5 10 (h:= ?_)
 refine pr_ 7 12 (h:= ?_)
 refine tk_ 1 6 hHeld (hy:=by rintro w' ⟨s0,s1,s2,s3,s4,s5⟩;go_simp;with_reducible rfl) (h:= ?_)
 refine tk_ 3 8 hHeld (hy:=by rintro w' ⟨s0,s1,s2,s3,s4,s5⟩;go_simp;with_reducible rfl) (h:= ?_)
 refine tk_ 6 11 hHeld (hy:=by rintro w' ⟨s0,s1,s2,s3,s4,s5⟩;go_simp;with_reducible rfl) (h:= ?_)
 refine tk_ 8 13 hHeld (hy:=by rintro w' ⟨s0,s1,s2,s3,s4,s5⟩;go_simp;with_reducible rfl) (h:= ?_)
 refine on_ 4 9 (h:=fun K hK=> ?_)
 refine g1_ Tryz.func110 #[.string a0_1,.string a1_1] (h:= ?_)
 with_reducible refine(bQ.calls (hG:=HG.out.below (pkL HB)) a0_1 a1_1 t281 _ A3.out).mono ?_
 rintro e w10 ⟨rfl,hb⟩
 refine⟨_,rfl,?_⟩
 replace BK278:=pkK BK278 hb;replace BK279:=pkK BK279 hb;replace BK280:=pkK BK280 hb;replace HB:=pkB HB hb
 (try clear hb)
 (try clear hb2)
 (try clear hk)
 (try clear hi)
 refine hK.out _ _ ⟨(aC BK278.out 0).trans rfl,(aC BK278.out 1).trans rfl,(aC BK278.out 2).trans rfl,(aC BK279.out 0).trans rfl,(aC BK279.out 1).trans rfl,(aC BK279.out 2).trans rfl⟩ (fun hHeld=> ?_)
 clear hK K
 refine fF (a':= ?_) ?_ ?_
 rotate_left
 ·show Act.put _ (some 9) _=_
  simp only[Act.put,List.setIfInBounds_toArray,List.set_cons_zero,List.set_cons_succ,dD,dI]
  rfl
 refine on_ 9 14 (h:=fun K hK=> ?_)
 refine g1_ Tryz.func111 #[.string a0_2,.string a1_2] (h:= ?_)
 with_reducible refine(dV.calls (hG:=HG.out.below (pkL HB)) a0_2 a1_2 t282 _ A4.out).mono ?_
 rintro e w11 ⟨rfl,hb⟩
 refine⟨_,rfl,?_⟩
 replace BK278:=pkK BK278 hb;replace BK279:=pkK BK279 hb;replace BK280:=pkK BK280 hb;replace HB:=pkB HB hb
 (try clear hb)
 (try clear hb2)
 (try clear hk)
 (try clear hi)
 refine hK.out _ _ ⟨(aC BK278.out 0).trans rfl,(aC BK278.out 1).trans rfl,(aC BK278.out 2).trans rfl,(aC BK279.out 0).trans rfl,(aC BK279.out 1).trans rfl,(aC BK279.out 2).trans rfl⟩ (fun hHeld=> ?_)
 clear hK K
 refine fF (a':= ?_) ?_ ?_
 rotate_left
 ·show Act.put _ (some 14) _=_
  simp only[Act.put,List.setIfInBounds_toArray,List.set_cons_zero,List.set_cons_succ,dD,dI]
  rfl
 refine on_ 10 15 (h:=fun K hK=> ?_)
 refine g1_ Tryz.func109 #[.string t281,.string t282] (h:= ?_)
 with_reducible refine(bI.calls (hG:=HG.out.below (pkL HB)) k t281 t282 t283 t284 t285 _ A5.out).mono ?_
 rintro e w12 ⟨rfl,hb⟩
 refine⟨_,rfl,?_⟩
 replace BK278:=pkK BK278 hb;replace BK279:=pkK BK279 hb;replace BK280:=pkK BK280 hb;replace HB:=pkB HB hb
 (try clear hb)
 (try clear hb2)
 (try clear hk)
 (try clear hi)
 refine hK.out _ _ ⟨(aC BK278.out 0).trans rfl,(aC BK278.out 1).trans rfl,(aC BK278.out 2).trans rfl,(aC BK279.out 0).trans rfl,(aC BK279.out 1).trans rfl,(aC BK279.out 2).trans rfl⟩ (fun hHeld=> ?_)
 clear hK K
 refine fF (a':= ?_) ?_ ?_
 rotate_left
 ·show Act.put _ (some 15) _=_
  simp only[Act.put,List.setIfInBounds_toArray,List.set_cons_zero,List.set_cons_succ,dD,dI]
  rfl
 refine one_ (i:=11) (N:=none) #[true,true,true,true,true,true,true,true,true,true,true,true] rfl rfl (uB HT_.out (by kernel_rfl)) (by decide) (fun K hK=> ?_)
 have hs13:w12.cell? ⟨gb280,0,none⟩=some (.bool false):=(aC BK280.out 0).trans rfl
 have hfs13:=eY BK280.out 0
 have hns13_0:=NB278_280.out
 have hns13_1:=NB279_280.out
 have hms13_0:=NB280_278.out
 have hms13_1:=NB280_279.out
 have hs14:w12.cell? ⟨gb280,1,none⟩=some (.string (⟨#[]⟩:ByteArray)):=(aC BK280.out 1).trans rfl
 have hfs14:=eY BK280.out 1
 have hns14_0:=NB278_280.out
 have hns14_1:=NB279_280.out
 have hms14_0:=NB280_278.out
 have hms14_1:=NB280_279.out
 have hs15:w12.cell? ⟨gb280,2,none⟩=some (.string (⟨#[]⟩:ByteArray)):=(aC BK280.out 2).trans rfl
 have hfs15:=eY BK280.out 2
 have hns15_0:=NB278_280.out
 have hns15_1:=NB279_280.out
 have hms15_0:=NB280_278.out
 have hms15_1:=NB280_279.out
 refine skip_ (w1:= ?_) (by rfl) rfl ?_ ?_
 rotate_left
 ·go_simp
  rfl
 refine hK.out _ _ ⟨((Go.Proofs.YtignanmmgaldeaaGreatDoorW.PrintWords.cell_far (p:=⟨gb280,_,none⟩) NB278_280.out _).trans (((Go.Proofs.YtignanmmgaldeaaGreatDoorW.PrintWords.cell_far (p:=⟨gb280,_,none⟩) NB278_280.out _).trans (((Go.Proofs.YtignanmmgaldeaaGreatDoorW.PrintWords.cell_far (p:=⟨gb280,_,none⟩) NB278_280.out _).trans (hHeld.1)))))),((Go.Proofs.YtignanmmgaldeaaGreatDoorW.PrintWords.cell_far (p:=⟨gb280,_,none⟩) NB278_280.out _).trans (((Go.Proofs.YtignanmmgaldeaaGreatDoorW.PrintWords.cell_far (p:=⟨gb280,_,none⟩) NB278_280.out _).trans (((Go.Proofs.YtignanmmgaldeaaGreatDoorW.PrintWords.cell_far (p:=⟨gb280,_,none⟩) NB278_280.out _).trans (hHeld.2.1)))))),((Go.Proofs.YtignanmmgaldeaaGreatDoorW.PrintWords.cell_far (p:=⟨gb280,_,none⟩) NB278_280.out _).trans (((Go.Proofs.YtignanmmgaldeaaGreatDoorW.PrintWords.cell_far (p:=⟨gb280,_,none⟩) NB278_280.out _).trans (((Go.Proofs.YtignanmmgaldeaaGreatDoorW.PrintWords.cell_far (p:=⟨gb280,_,none⟩) NB278_280.out _).trans (hHeld.2.2.1)))))),((Go.Proofs.YtignanmmgaldeaaGreatDoorW.PrintWords.cell_far (p:=⟨gb280,_,none⟩) NB279_280.out _).trans (((Go.Proofs.YtignanmmgaldeaaGreatDoorW.PrintWords.cell_far (p:=⟨gb280,_,none⟩) NB279_280.out _).trans (((Go.Proofs.YtignanmmgaldeaaGreatDoorW.PrintWords.cell_far (p:=⟨gb280,_,none⟩) NB279_280.out _).trans (hHeld.2.2.2.1)))))),((Go.Proofs.YtignanmmgaldeaaGreatDoorW.PrintWords.cell_far (p:=⟨gb280,_,none⟩) NB279_280.out _).trans (((Go.Proofs.YtignanmmgaldeaaGreatDoorW.PrintWords.cell_far (p:=⟨gb280,_,none⟩) NB279_280.out _).trans (((Go.Proofs.YtignanmmgaldeaaGreatDoorW.PrintWords.cell_far (p:=⟨gb280,_,none⟩) NB279_280.out _).trans (hHeld.2.2.2.2.1)))))),((Go.Proofs.YtignanmmgaldeaaGreatDoorW.PrintWords.cell_far (p:=⟨gb280,_,none⟩) NB279_280.out _).trans (((Go.Proofs.YtignanmmgaldeaaGreatDoorW.PrintWords.cell_far (p:=⟨gb280,_,none⟩) NB279_280.out _).trans (((Go.Proofs.YtignanmmgaldeaaGreatDoorW.PrintWords.cell_far (p:=⟨gb280,_,none⟩) NB279_280.out _).trans (hHeld.2.2.2.2.2))))))⟩ (fun hHeld=> ?_)
 clear hK K
 refine kF (lM HT_.out (by kernel_rfl)) ?_
 try go_wp2
 refine bodyPost_ret (results_cell_row rfl _ _ gb280 36 #[.bool t283,.string t284,.string t285] (0,0) _ rfl (pkS3 BK280) Tryz.underlying36 rfl (by kernel_rfl)) rfl ?_
 exact pkE HB
def fB.f(k:Nat)(a0_0:Bool)(a0_1:ByteArray)(a0_2:ByteArray)(a1_0:Bool)(a1_1:ByteArray)(a1_2:ByteArray):Option (Bool×ByteArray×ByteArray):=(eF.f a0_1 a1_1).bind fun t289=>((eF.f a0_1 a1_2).bind fun t290=>((eF.f a1_1 a0_2).bind fun t291=>((bQ.f t290 t291).bind fun t292=>((bQ.f t289 t292).bind fun t293=>((eF.f a0_2 a1_2).bind fun t294=>((bI.f k t293 t294).bind fun bt295=>(some (bt295.1,bt295.2.1,bt295.2.2))))))))
def fB.T1:Bool×List (List Nat×List Nat):=(true,[([],[]),([0],[0]),([],[]),([2],[2]),([1,3],[1,3]),([],[]),([5],[5]),([],[]),([7],[7]),([6,8,4],[6,8]),([],[]),([10],[10]),([],[]),([12],[12]),([11,13,9],[11,13]),([9,14,14],[9,14]),([4,15,15],[4,15]),([16,16,0,1,2,3,4,5,6,7,8,9,10,11,12,13,14,15,16],[16])])
def fB.B1:List Nat:= [0,1,0,4,15,0,32,0,128,511,0,1024,0,4096,16383,32767,65535,131071]
theorem fB.tab1:rtab .any (opsOf Tryz.f123 1)=fB.T1:=by kernel_rfl
theorem fB.bits1:kC fB.T1.2 fB.B1=true:=by kernel_rfl
theorem fB.calls(k:Nat)(a0_0:Bool)(a0_1:ByteArray)(a0_2:ByteArray)(a1_0:Bool)(a1_1:ByteArray)(a1_2:ByteArray)(r1:Bool)(r2:ByteArray)(r3:ByteArray)(w:World)(hG:GW w)(h:fB.f k a0_0 a0_1 a0_2 a1_0 a1_1 a1_2=some (r1,r2,r3)) :
 Calls Tryz.prog 123 #[.agg #[.bool a0_0,.string a0_1,.string a0_2],.agg #[.bool a1_0,.string a1_1,.string a1_2]] w fun e w'=>e= .returned (.agg #[.bool r1,.string r2,.string r3])∧Below w.heap.size w w':=by
 have HG:=aA.mk hG
 clear hG
 have hu36:=Tryz.underlying36
 have HB:=aA.mk (Below.refl w.heap.size w)
 have H:((eF.f a0_1 a1_1).bind fun t289=>((eF.f a0_1 a1_2).bind fun t290=>((eF.f a1_1 a0_2).bind fun t291=>((bQ.f t290 t291).bind fun t292=>((bQ.f t289 t292).bind fun t293=>((eF.f a0_2 a1_2).bind fun t294=>((bI.f k t293 t294).bind fun bt295=>(some (bt295.1,bt295.2.1,bt295.2.2)))))))))=some (r1,r2,r3):=h
 clear h
 obtain⟨t289,A3,H⟩:=bi H
 try dsimp only at H
 obtain⟨t290,A4,H⟩:=bi H
 try dsimp only at H
 obtain⟨t291,A5,H⟩:=bi H
 try dsimp only at H
 obtain⟨t292,A6,H⟩:=bi H
 try dsimp only at H
 obtain⟨t293,A7,H⟩:=bi H
 try dsimp only at H
 obtain⟨t294,A8,H⟩:=bi H
 try dsimp only at H
 obtain⟨⟨t295,t296,t297⟩,A9,H⟩:=bi H
 try dsimp only at H
 simp only[Option.some.injEq,Prod.mk.injEq] at H
 obtain⟨rfl,rfl,rfl⟩:=H
 go_enter Tryz.func123,Tryz.ntmps123
 try go_wp2_with(first|((with_reducible refine aV (N:=2) rfl ?_);refine bx_ 2 36 #[.bool a0_0,.string a0_1,.string a0_2] (h:= ?_);intro gb286 hg w10 hbox hb;have BK286:=aA.mk (hbox);have GW286:=pkG HB hg;have GE286:=GW286;replace HB:=pkB HB hb;clear hb hbox hg)|((with_reducible refine aV (N:=3) rfl ?_);refine bx_ 3 36 #[.bool a1_0,.string a1_1,.string a1_2] (h:= ?_);intro gb287 hg w11 hbox hb;have BK287:=aA.mk (hbox);have GW287:=pkG HB hg;have GE287:=GW287;have NB286_287:=pkN BK286 hg;have NB287_286:=pkM BK286 hg;replace BK286:=pkK BK286 hb;replace HB:=pkB HB hb;clear hb hbox hg)|((with_reducible refine aV (N:=4) rfl ?_);refine bx_ 4 36 #[.bool false,.string (⟨#[]⟩:ByteArray),.string (⟨#[]⟩:ByteArray)] (h:= ?_);intro gb288 hg w12 hbox hb;have BK288:=aA.mk (hbox);have GW288:=pkG HB hg;have GE288:=GW288;have NB286_288:=pkN BK286 hg;have NB288_286:=pkM BK286 hg;have NB287_288:=pkN BK287 hg;have NB288_287:=pkM BK287 hg;replace BK286:=pkK BK286 hb;replace BK287:=pkK BK287 hb;replace HB:=pkB HB hb;clear hb hbox hg))
 replace BK286:=aA.mk (aJ BK286.out);replace BK287:=aA.mk (aJ BK287.out);replace BK288:=aA.mk (aJ BK288.out);replace HB:=aA.mk (aU HB.out)
 refine jI (n:=18) (S:=fun w'=>w'.cell? ⟨gb286,0,none⟩=some (.bool a0_0)∧w'.cell? ⟨gb286,1,none⟩=some (.string a0_1)∧w'.cell? ⟨gb286,2,none⟩=some (.string a0_2)∧w'.cell? ⟨gb287,0,none⟩=some (.bool a1_0)∧w'.cell? ⟨gb287,1,none⟩=some (.string a1_1)∧w'.cell? ⟨gb287,2,none⟩=some (.string a1_2)) (ds:= []) #[false,false,false,false,false,false,false,false,false,false,false,false,false,false,false,false,false,false] (by kernel_rfl) rfl rfl ⟨(aC BK286.out 0).trans rfl,(aC BK286.out 1).trans rfl,(aC BK286.out 2).trans rfl,(aC BK287.out 0).trans rfl,(aC BK287.out 1).trans rfl,(aC BK287.out 2).trans rfl⟩ (fun hHeld=> ?_);refine jQ fB.tab1 fB.bits1 (fun HT_ HW_=> ?_)
 generalize w12.drew=w13 at BK286 BK287 BK288 HB hHeld ⊢
 refine pr_ 0 6 (h:= ?_)
 refine pr_ 2 8 (h:= ?_)
 refine pr_ 5 11 (h:= ?_)
 refine pr_ 7 13 (h:= ?_)
 refine pr_ 10 16 (h:= ?_)
 refine pr_ 12 18 (h:= ?_)
 refine tk_ 1 7 hHeld (hy:=by rintro w' ⟨s0,s1,s2,s3,s4,s5⟩;go_simp;with_reducible rfl) (h:= ?_)
 refine tk_ 3 9 hHeld (hy:=by rintro w' ⟨s0,s1,s2,s3,s4,s5⟩;go_simp;with_reducible rfl) (h:= ?_)
 refine tk_ 6 12 hHeld (hy:=by rintro w' ⟨s0,s1,s2,s3,s4,s5⟩;go_simp;with_reducible rfl) (h:= ?_)
 refine tk_ 8 14 hHeld (hy:=by rintro w' ⟨s0,s1,s2,s3,s4,s5⟩;go_simp;with_reducible rfl) (h:= ?_)
 refine tk_ 11 17 hHeld (hy:=by rintro w' ⟨s0,s1,s2,s3,s4,s5⟩;go_simp;with_reducible rfl) (h:= ?_)
 refine tk_ 13 19 hHeld (hy:=by rintro w' ⟨s0,s1,s2,s3,s4,s5⟩;go_simp;with_reducible rfl) (h:= ?_)
 refine on_ 4 10 (h:=fun K hK=> ?_)
 refine g1_ Tryz.func124 #[.string a0_1,.string a1_1] (h:= ?_)
 with_reducible refine(eF.calls (hG:=HG.out.below (pkL HB)) a0_1 a1_1 t289 _ A3.out).mono ?_
 rintro e w14 ⟨rfl,hb⟩
 refine⟨_,rfl,?_⟩
 replace BK286:=pkK BK286 hb;replace BK287:=pkK BK287 hb;replace BK288:=pkK BK288 hb;replace HB:=pkB HB hb
 (try clear hb)
 (try clear hb2)
 (try clear hk)
 (try clear hi)
 refine hK.out _ _ ⟨(aC BK286.out 0).trans rfl,(aC BK286.out 1).trans rfl,(aC BK286.out 2).trans rfl,(aC BK287.out 0).trans rfl,(aC BK287.out 1).trans rfl,(aC BK287.out 2).trans rfl⟩ (fun hHeld=> ?_)
 clear hK K
 refine fF (a':= ?_) ?_ ?_
 rotate_left
 ·show Act.put _ (some 10) _=_
  simp only[Act.put,List.setIfInBounds_toArray,List.set_cons_zero,List.set_cons_succ,dD,dI]
  rfl
 refine on_ 9 15 (h:=fun K hK=> ?_)
 refine g1_ Tryz.func124 #[.string a0_1,.string a1_2] (h:= ?_)
 with_reducible refine(eF.calls (hG:=HG.out.below (pkL HB)) a0_1 a1_2 t290 _ A4.out).mono ?_
 rintro e w15 ⟨rfl,hb⟩
 refine⟨_,rfl,?_⟩
 replace BK286:=pkK BK286 hb;replace BK287:=pkK BK287 hb;replace BK288:=pkK BK288 hb;replace HB:=pkB HB hb
 (try clear hb)
 (try clear hb2)
 (try clear hk)
 (try clear hi)
 refine hK.out _ _ ⟨(aC BK286.out 0).trans rfl,(aC BK286.out 1).trans rfl,(aC BK286.out 2).trans rfl,(aC BK287.out 0).trans rfl,(aC BK287.out 1).trans rfl,(aC BK287.out 2).trans rfl⟩ (fun hHeld=> ?_)
 clear hK K
 refine fF (a':= ?_) ?_ ?_
 rotate_left
 ·show Act.put _ (some 15) _=_
  simp only[Act.put,List.setIfInBounds_toArray,List.set_cons_zero,List.set_cons_succ,dD,dI]
  rfl
 refine on_ 14 20 (h:=fun K hK=> ?_)
 refine g1_ Tryz.func124 #[.string a1_1,.string a0_2] (h:= ?_)
 with_reducible refine(eF.calls (hG:=HG.out.below (pkL HB)) a1_1 a0_2 t291 _ A5.out).mono ?_
 rintro e w16 ⟨rfl,hb⟩
 refine⟨_,rfl,?_⟩
 replace BK286:=pkK BK286 hb;replace BK287:=pkK BK287 hb;replace BK288:=pkK BK288 hb;replace HB:=pkB HB hb
 (try clear hb)
 (try clear hb2)
 (try clear hk)
 (try clear hi)
 refine hK.out _ _ ⟨(aC BK286.out 0).trans rfl,(aC BK286.out 1).trans rfl,(aC BK286.out 2).trans rfl,(aC BK287.out 0).trans rfl,(aC BK287.out 1).trans rfl,(aC BK287.out 2).trans rfl⟩ (fun hHeld=> ?_)
 clear hK K
 refine fF (a':= ?_) ?_ ?_
 rotate_left
 ·show Act.put _ (some 20) _=_
  simp only[Act.put,List.setIfInBounds_toArray,List.set_cons_zero,List.set_cons_succ,dD,dI]
  rfl
 refine on_ 15 21 (h:=fun K hK=> ?_)
 refine g1_ Tryz.func110 #[.string t290,.string t291] (h:= ?_)
 with_reducible refine(bQ.calls (hG:=HG.out.below (pkL HB)) t290 t291 t292 _ A6.out).mono ?_
 rintro e w17 ⟨rfl,hb⟩
 refine⟨_,rfl,?_⟩
 replace BK286:=pkK BK286 hb;replace BK287:=pkK BK287 hb;replace BK288:=pkK BK288 hb;replace HB:=pkB HB hb
 (try clear hb)
 (try clear hb2)
 (try clear hk)
 (try clear hi)
 refine hK.out _ _ ⟨(aC BK286.out 0).trans rfl,(aC BK286.out 1).trans rfl,(aC BK286.out 2).trans rfl,(aC BK287.out 0).trans rfl,(aC BK287.out 1).trans rfl,(aC BK287.out 2).trans rfl⟩ (fun hHeld=> ?_)
 clear hK K
 refine fF (a':= ?_) ?_ ?_
 rotate_left
 ·show Act.put _ (some 21) _=_
  simp only[Act.put,List.setIfInBounds_toArray,List.set_cons_zero,List.set_cons_succ,dD,dI]
  rfl
 refine on_ 16 22 (h:=fun K hK=> ?_)
 refine g1_ Tryz.func110 #[.string t289,.string t292] (h:= ?_)
 with_reducible refine(bQ.calls (hG:=HG.out.below (pkL HB)) t289 t292 t293 _ A7.out).mono ?_
 rintro e w18 ⟨rfl,hb⟩
 refine⟨_,rfl,?_⟩
 replace BK286:=pkK BK286 hb;replace BK287:=pkK BK287 hb;replace BK288:=pkK BK288 hb;replace HB:=pkB HB hb
 (try clear hb)
 (try clear hb2)
 (try clear hk)
 (try clear hi)
 refine hK.out _ _ ⟨(aC BK286.out 0).trans rfl,(aC BK286.out 1).trans rfl,(aC BK286.out 2).trans rfl,(aC BK287.out 0).trans rfl,(aC BK287.out 1).trans rfl,(aC BK287.out 2).trans rfl⟩ (fun hHeld=> ?_)
 clear hK K
 refine fF (a':= ?_) ?_ ?_
 rotate_left
 ·show Act.put _ (some 22) _=_
  simp only[Act.put,List.setIfInBounds_toArray,List.set_cons_zero,List.set_cons_succ,dD,dI]
  rfl
 refine pr_ 17 5 (h:= ?_)
 refine kF (lM HT_.out (by kernel_rfl)) ?_
 have hnb19:=NB286_287.out
 have hnc19:=NB287_286.out
 have hnb20:=NB286_288.out
 have hnc20:=NB288_286.out
 obtain⟨⟨hcz21_0,hcz21_1,hcz21_2⟩,hfz21_0,hfz21_1,hfz21_2⟩:=pk3 BK286
 have hnb22:=NB287_288.out
 have hnc22:=NB288_287.out
 obtain⟨⟨hcz23_0,hcz23_1,hcz23_2⟩,hfz23_0,hfz23_1,hfz23_2⟩:=pk3 BK287
 try go_wp2_with(first|((with_reducible refine aG (f:=124) rfl ?_);refine gl_ 28 Tryz.func124 #[.string a0_2,.string a1_2] (h:= ?_);(with_reducible refine(eF.calls (hG:=HG.out.below (pkL HB)) a0_2 a1_2 t294 _ A8.out).mono ?_);rintro e w24 ⟨rfl,hb⟩;refine⟨_,rfl,?_⟩;replace BK286:=pkK BK286 hb;replace BK287:=pkK BK287 hb;replace BK288:=pkK BK288 hb;replace HB:=pkB HB hb;try clear hb)|((with_reducible refine aG (f:=109) rfl ?_);refine gl_ 29 Tryz.func109 #[.string t293,.string t294] (h:= ?_);(with_reducible refine(bI.calls (hG:=HG.out.below (pkL HB)) k t293 t294 t295 t296 t297 _ A9.out).mono ?_);rintro e w25 ⟨rfl,hb⟩;refine⟨_,rfl,?_⟩;replace BK286:=pkK BK286 hb;replace BK287:=pkK BK287 hb;replace BK288:=pkK BK288 hb;replace HB:=pkB HB hb;try clear hb;obtain⟨⟨hcz26_0,hcz26_1,hcz26_2⟩,hfz26_0,hfz26_1,hfz26_2⟩:=pk3 BK288))
 refine bodyPost_ret (results_cell_row rfl _ _ gb288 36 #[.bool t295,.string t296,.string t297] (0,0) _ rfl (pkS3 BK288) Tryz.underlying36 rfl (by kernel_rfl)) rfl ?_
 exact pkE HB
def gZ.f(a0:ByteArray)(a1:ByteArray)(a2:ByteArray):Option (ByteArray×Int):=(eG.f a0 a2).bind fun bt298=>(if bt298.2=0 then((eG.f a1 a2).bind fun bt300=>(if bt300.2=0 then((dV.f bt298.1 bt300.1).bind fun t302=>((eG.f t302 a2).bind fun bt303=>(some (bt303.1,bt303.2)))) else(some ((⟨#[]⟩:ByteArray),bt300.2)))) else(some ((⟨#[]⟩:ByteArray),bt298.2)))
theorem gZ.calls(a0:ByteArray)(a1:ByteArray)(a2:ByteArray)(r1:ByteArray)(r2:Int)(w:World)(hG:GW w)(h:gZ.f a0 a1 a2=some (r1,r2)) :
 Calls Tryz.prog 132 #[.string a0,.string a1,.string a2] w fun e w'=>e= .returned (.tuple #[.string r1,.int .i64 r2])∧Below w.heap.size w w':=by
 have HG:=aA.mk hG
 clear hG
 have HB:=aA.mk (Below.refl w.heap.size w)
 have H:((eG.f a0 a2).bind fun bt298=>(if bt298.2=0 then((eG.f a1 a2).bind fun bt300=>(if bt300.2=0 then((dV.f bt298.1 bt300.1).bind fun t302=>((eG.f t302 a2).bind fun bt303=>(some (bt303.1,bt303.2)))) else(some ((⟨#[]⟩:ByteArray),bt300.2)))) else(some ((⟨#[]⟩:ByteArray),bt298.2))))=some (r1,r2):=h
 clear h
 obtain⟨⟨t298,t299⟩,A4,H⟩:=bi H
 try dsimp only at H
 by_cases c5:t299=0
 ·rw[if_pos c5] at H
  have c5b0:(t299==0)=true:=beq_iff_eq.mpr c5
  have c5b1:(t299 != 0)=false:=bne_eq_false_iff_eq.mpr c5
  clear c5
  obtain⟨⟨t300,t301⟩,A6,H⟩:=bi H
  try dsimp only at H
  by_cases c7:t301=0
  ·rw[if_pos c7] at H
   have c7b0:(t301==0)=true:=beq_iff_eq.mpr c7
   have c7b1:(t301 != 0)=false:=bne_eq_false_iff_eq.mpr c7
   clear c7
   obtain⟨t302,A8,H⟩:=bi H
   try dsimp only at H
   obtain⟨⟨t303,t304⟩,A9,H⟩:=bi H
   try dsimp only at H
   simp only[Option.some.injEq,Prod.mk.injEq] at H
   obtain⟨rfl,rfl⟩:=H
   go_enter Tryz.func132,Tryz.ntmps132
   go_wp2_with(first|((with_reducible refine aG (f:=20) rfl ?_);refine gl_ 14 Tryz.func20 #[.string a0,.string a2] (h:= ?_);(with_reducible refine(eG.calls (hG:=HG.out.below (pkL HB)) a0 a2 t298 t299 _ A4.out).mono ?_);rintro e w10 ⟨rfl,hb⟩;refine⟨_,rfl,?_⟩;replace HB:=pkB HB hb;try clear hb)|((with_reducible refine aG (f:=20) rfl ?_);refine gl_ 23 Tryz.func20 #[.string a1,.string a2] (h:= ?_);(with_reducible refine(eG.calls (hG:=HG.out.below (pkL HB)) a1 a2 t300 t301 _ A6.out).mono ?_);rintro e w11 ⟨rfl,hb⟩;refine⟨_,rfl,?_⟩;replace HB:=pkB HB hb;try clear hb)|((with_reducible refine aG (f:=111) rfl ?_);refine gl_ 31 Tryz.func111 #[.string t298,.string t300] (h:= ?_);(with_reducible refine(dV.calls (hG:=HG.out.below (pkL HB)) t298 t300 t302 _ A8.out).mono ?_);rintro e w12 ⟨rfl,hb⟩;refine⟨_,rfl,?_⟩;replace HB:=pkB HB hb;try clear hb)|((with_reducible refine aG (f:=20) rfl ?_);refine gl_ 33 Tryz.func20 #[.string t302,.string a2] (h:= ?_);(with_reducible refine(eG.calls (hG:=HG.out.below (pkL HB)) t302 a2 t303 t304 _ A9.out).mono ?_);rintro e w13 ⟨rfl,hb⟩;refine⟨_,rfl,?_⟩;replace HB:=pkB HB hb;try clear hb))
   go_ret2
   exact pkE HB
  ·rw[if_neg c7] at H
   have c7b0:(t301==0)=false:=beq_eq_false_iff_ne.mpr c7
   have c7b1:(t301 != 0)=true:=bne_iff_ne.mpr c7
   simp only[Option.some.injEq,Prod.mk.injEq] at H
   obtain⟨rfl,rfl⟩:=H
   go_enter Tryz.func132,Tryz.ntmps132
   go_wp2_with(first|((with_reducible refine aG (f:=20) rfl ?_);refine gl_ 14 Tryz.func20 #[.string a0,.string a2] (h:= ?_);(with_reducible refine(eG.calls (hG:=HG.out.below (pkL HB)) a0 a2 t298 t299 _ A4.out).mono ?_);rintro e w14 ⟨rfl,hb⟩;refine⟨_,rfl,?_⟩;replace HB:=pkB HB hb;try clear hb)|((with_reducible refine aG (f:=20) rfl ?_);refine gl_ 23 Tryz.func20 #[.string a1,.string a2] (h:= ?_);(with_reducible refine(eG.calls (hG:=HG.out.below (pkL HB)) a1 a2 t300 t301 _ A6.out).mono ?_);rintro e w15 ⟨rfl,hb⟩;refine⟨_,rfl,?_⟩;replace HB:=pkB HB hb;try clear hb))
   go_ret2
   exact pkE HB
 ·rw[if_neg c5] at H
  have c5b0:(t299==0)=false:=beq_eq_false_iff_ne.mpr c5
  have c5b1:(t299 != 0)=true:=bne_iff_ne.mpr c5
  simp only[Option.some.injEq,Prod.mk.injEq] at H
  obtain⟨rfl,rfl⟩:=H
  go_enter Tryz.func132,Tryz.ntmps132
  go_wp2_with(first|((with_reducible refine aG (f:=20) rfl ?_);refine gl_ 14 Tryz.func20 #[.string a0,.string a2] (h:= ?_);(with_reducible refine(eG.calls (hG:=HG.out.below (pkL HB)) a0 a2 t298 t299 _ A4.out).mono ?_);rintro e w16 ⟨rfl,hb⟩;refine⟨_,rfl,?_⟩;replace HB:=pkB HB hb;try clear hb))
  go_ret2
  exact pkE HB
end Go.Proofs.YtignanmmgaldeaaGreatDoor.PCongI
end
section
set_option linter.unusedVariables false
set_option linter.unusedSimpArgs false
set_option maxHeartbeats 8000000
set_option maxRecDepth 100000
namespace Go.Proofs.YtignanmmgaldeaaGreatDoor.PCongI
open Go.RowKit Go.Proofs.YtignanmmgaldeaaGreatDoorW.PrintWords Go.Proofs.YtignanmmgaldeaaGreatDoorW.PrintLast Go.Proofs.YtignanmmgaldeaaGreatDoorW.PrintMore
attribute [local go_sem] gU gV iG iH
attribute [local go_sem high] eqA36
def aZ.j0(g:Bool→ByteArray→ByteArray→Bool→ByteArray→ByteArray→Option (Bool×ByteArray×ByteArray)):Nat→Bool→Bool→ByteArray→ByteArray→Bool→ByteArray→ByteArray→Option (Bool×ByteArray×ByteArray×Int)
 |0,_,_,_,_,_,_,_=>none
 |k+1,x21,x102000,x102001,x102002,x103000,x103001,x103002=>if x21=true then((gG.f).bind fun bt105=>(some (bt105.1,bt105.2.1,bt105.2.2,0))) else((g x102000 x102001 x102002 x103000 x103001 x103002).bind fun bt108=>(some (bt108.1,bt108.2.1,bt108.2.2,0)))
def aZ.f(g:Bool→ByteArray→ByteArray→Bool→ByteArray→ByteArray→Option (Bool×ByteArray×ByteArray))(k:Nat)(a1_0:Bool)(a1_1:ByteArray)(a1_2:ByteArray)(a2_0:Bool)(a2_1:ByteArray)(a2_2:ByteArray):Option (Bool×ByteArray×ByteArray×Int):=(fZ.f k a1_0 a1_1 a1_2 a2_0 a2_1 a2_2).bind fun t104=>(if t104=0 then(if a1_0=true then(aZ.j0 g k true a1_0 a1_1 a1_2 a2_0 a2_1 a2_2) else(aZ.j0 g k a2_0 a1_0 a1_1 a1_2 a2_0 a2_1 a2_2)) else(some (false,(⟨#[]⟩:ByteArray),(⟨#[]⟩:ByteArray),t104)))
theorem aZ.calls(k:Nat)(F:FuncId)(fn:Func)(hF:Tryz.prog.funcs[F]? =some fn)(hFn:(fn.name== "runtime.NumGoroutine")=false)(hFb:fn.body.isSome=true)(g:Bool→ByteArray→ByteArray→Bool→ByteArray→ByteArray→Option (Bool×ByteArray×ByteArray))(gc:∀(a0:Bool) (a1 a2:ByteArray) (b0:Bool) (b1 b2:ByteArray) (r1:Bool) (r2 r3:ByteArray) (w:World) (hG:GW w) (h:g a0 a1 a2 b0 b1 b2=some (r1,r2,r3)),Calls Tryz.prog F #[.agg #[.bool a0,.string a1,.string a2],.agg #[.bool b0,.string b1,.string b2]] w fun e w'=>e= .returned (.agg #[.bool r1,.string r2,.string r3])∧Below w.heap.size w w')(a1_0:Bool)(a1_1:ByteArray)(a1_2:ByteArray)(a2_0:Bool)(a2_1:ByteArray)(a2_2:ByteArray)(r1:Bool)(r2:ByteArray)(r3:ByteArray)(r4:Int)(w:World)(hG:GW w)(h:aZ.f g k a1_0 a1_1 a1_2 a2_0 a2_1 a2_2=some (r1,r2,r3,r4)) :
 Calls Tryz.prog 101 #[.func (.func F) #[] #[],.agg #[.bool a1_0,.string a1_1,.string a1_2],.agg #[.bool a2_0,.string a2_1,.string a2_2]] w fun e w'=>e= .returned (.tuple #[.agg #[.bool r1,.string r2,.string r3],.int .i64 r4])∧Below w.heap.size w w':=by
 have HG:=aA.mk hG
 clear hG
 have hu36:=Tryz.underlying36
 have HB:=aA.mk (Below.refl w.heap.size w)
 have H:((fZ.f k a1_0 a1_1 a1_2 a2_0 a2_1 a2_2).bind fun t104=>(if t104=0 then(if a1_0=true then(aZ.j0 g k true a1_0 a1_1 a1_2 a2_0 a2_1 a2_2) else(aZ.j0 g k a2_0 a1_0 a1_1 a1_2 a2_0 a2_1 a2_2)) else(some (false,(⟨#[]⟩:ByteArray),(⟨#[]⟩:ByteArray),t104))))=some (r1,r2,r3,r4):=h
 clear h
 obtain⟨t104,A4,H⟩:=bi H
 try dsimp only at H
 by_cases c5:t104=0
 ·rw[if_pos c5] at H
  have c5b0:(t104==0)=true:=beq_iff_eq.mpr c5
  have c5b1:(t104 != 0)=false:=bne_eq_false_iff_eq.mpr c5
  clear c5
  have HC6:=aA.mk H
  clear H
  go_enter Tryz.func101,Tryz.ntmps101
  go_upto_region 4 with (first|((with_reducible refine aV (N:=4) rfl ?_);refine bx_ 4 36 #[.bool a1_0,.string a1_1,.string a1_2] (h:= ?_);intro gb101 hg w7 hbox hb;have BK101:=aA.mk (hbox);have GW101:=pkG HB hg;have GE101:=GW101;replace HB:=pkB HB hb;clear hb hbox hg)|((with_reducible refine aV (N:=5) rfl ?_);refine bx_ 5 36 #[.bool a2_0,.string a2_1,.string a2_2] (h:= ?_);intro gb102 hg w8 hbox hb;have BK102:=aA.mk (hbox);have GW102:=pkG HB hg;have GE102:=GW102;have NB101_102:=pkN BK101 hg;have NB102_101:=pkM BK101 hg;replace BK101:=pkK BK101 hb;replace HB:=pkB HB hb;clear hb hbox hg)|((with_reducible refine aV (N:=6) rfl ?_);refine bx_ 6 36 #[.bool false,.string (⟨#[]⟩:ByteArray),.string (⟨#[]⟩:ByteArray)] (h:= ?_);intro gb103 hg w9 hbox hb;have BK103:=aA.mk (hbox);have GW103:=pkG HB hg;have GE103:=GW103;have NB101_103:=pkN BK101 hg;have NB103_101:=pkM BK101 hg;have NB102_103:=pkN BK102 hg;have NB103_102:=pkM BK102 hg;replace BK101:=pkK BK101 hb;replace BK102:=pkK BK102 hb;replace HB:=pkB HB hb;clear hb hbox hg;have hnb10:=NB101_102.out;have hnc10:=NB102_101.out;have hnb11:=NB101_103.out;have hnc11:=NB103_101.out;obtain⟨⟨hcz12_0,hcz12_1,hcz12_2⟩,hfz12_0,hfz12_1,hfz12_2⟩:=pk3 BK101;have hnb13:=NB102_103.out;have hnc13:=NB103_102.out;obtain⟨⟨hcz14_0,hcz14_1,hcz14_2⟩,hfz14_0,hfz14_1,hfz14_2⟩:=pk3 BK102)|((with_reducible refine aG (f:=106) rfl ?_);refine gl_ 11 Tryz.func106 #[.agg #[.bool a1_0,.string a1_1,.string a1_2],.agg #[.bool a2_0,.string a2_1,.string a2_2]] (h:= ?_);(with_reducible refine(fZ.calls k a1_0 a1_1 a1_2 a2_0 a2_1 a2_2 t104 _ A4.out).mono ?_);rintro e w15 ⟨rfl,hb⟩;refine⟨_,rfl,?_⟩;replace BK101:=pkK BK101 hb;replace BK102:=pkK BK102 hb;replace BK103:=pkK BK103 hb;replace HB:=pkB HB hb;try clear hb))
  (try simp only[Act.put,List.setIfInBounds_toArray,List.set_cons_zero,List.set_cons_succ])
  go_cut [21] (fun v21 wc=>∃(kq:Nat) (x21_5:Bool),v21= .bool x21_5∧aA (aZ.j0 g kq x21_5 a1_0 a1_1 a1_2 a2_0 a2_1 a2_2=some (r1,r2,r3,r4))∧aA (kq≤k)∧aA (wc.heap[gb101]? =some (.cells #[.bool a1_0,.string a1_1,.string a1_2] 36 (0,0)))∧aA (wc.heap[gb102]? =some (.cells #[.bool a2_0,.string a2_1,.string a2_2] 36 (0,0)))∧aA (wc.heap[gb103]? =some (.cells #[.bool false,.string (⟨#[]⟩:ByteArray),.string (⟨#[]⟩:ByteArray)] 36 (0,0)))∧aA (Below w.heap.size w wc))
  case first=>
   have H:=HC6.out
   clear HC6
   by_cases c16:a1_0=true
   ·subst c16
    have H1:(aZ.j0 g k true true a1_1 a1_2 a2_0 a2_1 a2_2)=some (r1,r2,r3,r4):=by rw[if_pos rfl] at H;exact H
    clear H
    have H:=H1
    clear H1
    have H':=aA.mk H
    clear H
    have hnb17:=NB101_102.out
    have hnc17:=NB102_101.out
    have hnb18:=NB101_103.out
    have hnc18:=NB103_101.out
    obtain⟨⟨hcz19_0,hcz19_1,hcz19_2⟩,hfz19_0,hfz19_1,hfz19_2⟩:=pk3 BK101
    go_wp2
    go_meet
    case rel=>exact⟨_,(true),(by first|rfl|(simp;done)|(simp[*];done)),H',⟨by first|omega|exact Nat.le_refl _⟩,⟨pkW BK101⟩,⟨pkW BK102⟩,⟨pkW BK103⟩,⟨pkL HB⟩⟩
   ·replace c16:=Bool.eq_false_iff.mpr c16
    subst c16
    have H1:(aZ.j0 g k a2_0 false a1_1 a1_2 a2_0 a2_1 a2_2)=some (r1,r2,r3,r4):=by rw[if_neg (show ¬(false=true) by decide)] at H;exact H
    clear H
    have H:=H1
    clear H1
    have H':=aA.mk H
    clear H
    have hnb20:=NB101_102.out
    have hnc20:=NB102_101.out
    have hnb21:=NB101_103.out
    have hnc21:=NB103_101.out
    obtain⟨⟨hcz22_0,hcz22_1,hcz22_2⟩,hfz22_0,hfz22_1,hfz22_2⟩:=pk3 BK101
    have hnb23:=NB102_103.out
    have hnc23:=NB103_102.out
    obtain⟨⟨hcz24_0,hcz24_1,hcz24_2⟩,hfz24_0,hfz24_1,hfz24_2⟩:=pk3 BK102
    go_wp2
    go_meet
    case rel=>exact⟨_,(a2_0),(by first|rfl|(simp;done)|(simp[*];done)),H',⟨by first|omega|exact Nat.le_refl _⟩,⟨pkW BK101⟩,⟨pkW BK102⟩,⟨pkW BK103⟩,⟨pkL HB⟩⟩
  case rest=>
   clear HC6
   try clear c5
   try clear c5b0
   try clear c5b1
   try clear c16
   try clear hcz12_0
   try clear hcz12_1
   try clear hcz12_2
   try clear hcz14_0
   try clear hcz14_1
   try clear hcz14_2
   try clear hcz19_0
   try clear hcz19_1
   try clear hcz19_2
   try clear hcz22_0
   try clear hcz22_1
   try clear hcz22_2
   try clear hcz24_0
   try clear hcz24_1
   try clear hcz24_2
   try clear hfz12_0
   try clear hfz12_1
   try clear hfz12_2
   try clear hfz14_0
   try clear hfz14_1
   try clear hfz14_2
   try clear hfz19_0
   try clear hfz19_1
   try clear hfz19_2
   try clear hfz22_0
   try clear hfz22_1
   try clear hfz22_2
   try clear hfz24_0
   try clear hfz24_1
   try clear hfz24_2
   obtain⟨kq,x21_5,rfl,HA,HJ5,BK101,BK102,BK103,HB⟩:=hcut
   cases kq with
   |zero=>exact absurd HA.out (by simp[aZ.j0])
   |succ kj5=>
    have H:=HA.out
    clear HA
    simp only[aZ.j0] at H
    by_cases c25:x21_5=true
    ·subst c25
     have H1:((gG.f).bind fun bt105=>(some (bt105.1,bt105.2.1,bt105.2.2,0)))=some (r1,r2,r3,r4):=by rw[if_pos rfl] at H;exact H
     clear H
     have H:=H1
     clear H1
     obtain⟨⟨t105,t106,t107⟩,A26,H⟩:=bi H
     try dsimp only at H
     simp only[Option.some.injEq,Prod.mk.injEq] at H
     obtain⟨rfl,rfl,rfl,rfl⟩:=H
     go_wp2_with(first|((with_reducible refine aG (f:=176) rfl ?_);refine gl_ 22 Tryz.func176 #[] (h:= ?_);(with_reducible refine(gG.calls t105 t106 t107 _ A26.out).mono ?_);rintro e w27 ⟨rfl,hb⟩;refine⟨_,rfl,?_⟩;replace BK101:=pkK BK101 hb;replace BK102:=pkK BK102 hb;replace BK103:=pkK BK103 hb;replace HB:=pkB HB hb;try clear hb;have hnb28:=NB103_101.out;have hnc28:=NB101_103.out;have hnb29:=NB103_102.out;have hnc29:=NB102_103.out;obtain⟨⟨hcz30_0,hcz30_1,hcz30_2⟩,hfz30_0,hfz30_1,hfz30_2⟩:=pk3 BK103))
     refine bodyPost_ret (jK rfl _ _ gb103 36 #[.bool t105,.string t106,.string t107] (0,0) _ rfl (pkS3 BK103) Tryz.underlying36 rfl (by kernel_rfl)) rfl ?_
     exact pkE HB
    ·replace c25:=Bool.eq_false_iff.mpr c25
     subst c25
     have H1:((g a1_0 a1_1 a1_2 a2_0 a2_1 a2_2).bind fun bt108=>(some (bt108.1,bt108.2.1,bt108.2.2,0)))=some (r1,r2,r3,r4):=by rw[if_neg (show ¬(false=true) by decide)] at H;exact H
     clear H
     have H:=H1
     clear H1
     obtain⟨⟨t108,t109,t110⟩,A31,H⟩:=bi H
     try dsimp only at H
     simp only[Option.some.injEq,Prod.mk.injEq] at H
     obtain⟨rfl,rfl,rfl,rfl⟩:=H
     have hnb32:=NB101_102.out
     have hnc32:=NB102_101.out
     have hnb33:=NB101_103.out
     have hnc33:=NB103_101.out
     obtain⟨⟨hcz34_0,hcz34_1,hcz34_2⟩,hfz34_0,hfz34_1,hfz34_2⟩:=pk3 BK101
     have hnb35:=NB102_103.out
     have hnc35:=NB103_102.out
     obtain⟨⟨hcz36_0,hcz36_1,hcz36_2⟩,hfz36_0,hfz36_1,hfz36_2⟩:=pk3 BK102
     go_wp2_with(first|((with_reducible refine rG (p:=23) rfl ?_);refine goesV_ (some 26) rfl rfl hF hFn hFb #[.agg #[.bool a1_0,.string a1_1,.string a1_2],.agg #[.bool a2_0,.string a2_1,.string a2_2]] rfl rfl (by(try simp only[List.map_toArray,List.map_cons,List.map_nil]);first|done|rfl|(simp only[List.length_drop,List.length_take];rfl)) ?_;(with_reducible refine(gc (hG:=HG.out.below (pkL HB)) a1_0 a1_1 a1_2 a2_0 a2_1 a2_2 t108 t109 t110 _ A31.out).mono ?_);rintro e w37 ⟨rfl,hb⟩;refine⟨_,rfl,?_⟩;replace BK101:=pkK BK101 hb;replace BK102:=pkK BK102 hb;replace BK103:=pkK BK103 hb;replace HB:=pkB HB hb;try clear hb;obtain⟨⟨hcz38_0,hcz38_1,hcz38_2⟩,hfz38_0,hfz38_1,hfz38_2⟩:=pk3 BK103))
     refine bodyPost_ret (jK rfl _ _ gb103 36 #[.bool t108,.string t109,.string t110] (0,0) _ rfl (pkS3 BK103) Tryz.underlying36 rfl (by kernel_rfl)) rfl ?_
     exact pkE HB
 ·rw[if_neg c5] at H
  have c5b0:(t104==0)=false:=beq_eq_false_iff_ne.mpr c5
  have c5b1:(t104 != 0)=true:=bne_iff_ne.mpr c5
  simp only[Option.some.injEq,Prod.mk.injEq] at H
  obtain⟨rfl,rfl,rfl,rfl⟩:=H
  go_enter Tryz.func101,Tryz.ntmps101
  go_wp2_with(first|((with_reducible refine aV (N:=4) rfl ?_);refine bx_ 4 36 #[.bool a1_0,.string a1_1,.string a1_2] (h:= ?_);intro gb101 hg w39 hbox hb;have BK101:=aA.mk (hbox);have GW101:=pkG HB hg;have GE101:=GW101;replace HB:=pkB HB hb;clear hb hbox hg)|((with_reducible refine aV (N:=5) rfl ?_);refine bx_ 5 36 #[.bool a2_0,.string a2_1,.string a2_2] (h:= ?_);intro gb102 hg w40 hbox hb;have BK102:=aA.mk (hbox);have GW102:=pkG HB hg;have GE102:=GW102;have NB101_102:=pkN BK101 hg;have NB102_101:=pkM BK101 hg;replace BK101:=pkK BK101 hb;replace HB:=pkB HB hb;clear hb hbox hg)|((with_reducible refine aV (N:=6) rfl ?_);refine bx_ 6 36 #[.bool false,.string (⟨#[]⟩:ByteArray),.string (⟨#[]⟩:ByteArray)] (h:= ?_);intro gb103 hg w41 hbox hb;have BK103:=aA.mk (hbox);have GW103:=pkG HB hg;have GE103:=GW103;have NB101_103:=pkN BK101 hg;have NB103_101:=pkM BK101 hg;have NB102_103:=pkN BK102 hg;have NB103_102:=pkM BK102 hg;replace BK101:=pkK BK101 hb;replace BK102:=pkK BK102 hb;replace HB:=pkB HB hb;clear hb hbox hg;have hnb42:=NB101_102.out;have hnc42:=NB102_101.out;have hnb43:=NB101_103.out;have hnc43:=NB103_101.out;obtain⟨⟨hcz44_0,hcz44_1,hcz44_2⟩,hfz44_0,hfz44_1,hfz44_2⟩:=pk3 BK101;have hnb45:=NB102_103.out;have hnc45:=NB103_102.out;obtain⟨⟨hcz46_0,hcz46_1,hcz46_2⟩,hfz46_0,hfz46_1,hfz46_2⟩:=pk3 BK102)|((with_reducible refine aG (f:=106) rfl ?_);refine gl_ 11 Tryz.func106 #[.agg #[.bool a1_0,.string a1_1,.string a1_2],.agg #[.bool a2_0,.string a2_1,.string a2_2]] (h:= ?_);(with_reducible refine(fZ.calls k a1_0 a1_1 a1_2 a2_0 a2_1 a2_2 t104 _ A4.out).mono ?_);rintro e w47 ⟨rfl,hb⟩;refine⟨_,rfl,?_⟩;replace BK101:=pkK BK101 hb;replace BK102:=pkK BK102 hb;replace BK103:=pkK BK103 hb;replace HB:=pkB HB hb;try clear hb;obtain⟨⟨hcz48_0,hcz48_1,hcz48_2⟩,hfz48_0,hfz48_1,hfz48_2⟩:=pk3 BK103))
  refine bodyPost_ret (jK rfl _ _ gb103 36 #[.bool false,.string (⟨#[]⟩:ByteArray),.string (⟨#[]⟩:ByteArray)] (0,0) _ rfl (pkS3 BK103) Tryz.underlying36 rfl (by kernel_rfl)) rfl ?_
  exact pkE HB
def nD.f(k:Nat)(a0_0:Bool)(a0_1:ByteArray)(a0_2:ByteArray)(a1_0:Bool)(a1_1:ByteArray)(a1_2:ByteArray):Option (Bool×ByteArray×ByteArray×Int):=(aZ.f (fA.f k) k a0_0 a0_1 a0_2 a1_0 a1_1 a1_2).bind fun bt114=>(some (bt114.1,bt114.2.1,bt114.2.2.1,bt114.2.2.2))
theorem nD.calls(k:Nat)(a0_0:Bool)(a0_1:ByteArray)(a0_2:ByteArray)(a1_0:Bool)(a1_1:ByteArray)(a1_2:ByteArray)(r1:Bool)(r2:ByteArray)(r3:ByteArray)(r4:Int)(w:World)(hG:GW w)(h:nD.f k a0_0 a0_1 a0_2 a1_0 a1_1 a1_2=some (r1,r2,r3,r4)) :
 Calls Tryz.prog 50 #[.agg #[.bool a0_0,.string a0_1,.string a0_2],.agg #[.bool a1_0,.string a1_1,.string a1_2]] w fun e w'=>e= .returned (.tuple #[.agg #[.bool r1,.string r2,.string r3],.int .i64 r4])∧Below w.heap.size w w':=by
 have HG:=aA.mk hG
 clear hG
 have hu36:=Tryz.underlying36
 have HB:=aA.mk (Below.refl w.heap.size w)
 have H:((aZ.f (fA.f k) k a0_0 a0_1 a0_2 a1_0 a1_1 a1_2).bind fun bt114=>(some (bt114.1,bt114.2.1,bt114.2.2.1,bt114.2.2.2)))=some (r1,r2,r3,r4):=h
 clear h
 obtain⟨⟨t114,t115,t116,t117⟩,A3,H⟩:=bi H
 try dsimp only at H
 simp only[Option.some.injEq,Prod.mk.injEq] at H
 obtain⟨rfl,rfl,rfl,rfl⟩:=H
 go_enter Tryz.func50,Tryz.ntmps50
 go_wp2_with(first|((with_reducible refine aV (N:=2) rfl ?_);refine bx_ 2 36 #[.bool a0_0,.string a0_1,.string a0_2] (h:= ?_);intro gb111 hg w4 hbox hb;have BK111:=aA.mk (hbox);have GW111:=pkG HB hg;have GE111:=GW111;replace HB:=pkB HB hb;clear hb hbox hg)|((with_reducible refine aV (N:=3) rfl ?_);refine bx_ 3 36 #[.bool a1_0,.string a1_1,.string a1_2] (h:= ?_);intro gb112 hg w5 hbox hb;have BK112:=aA.mk (hbox);have GW112:=pkG HB hg;have GE112:=GW112;have NB111_112:=pkN BK111 hg;have NB112_111:=pkM BK111 hg;replace BK111:=pkK BK111 hb;replace HB:=pkB HB hb;clear hb hbox hg)|((with_reducible refine aV (N:=4) rfl ?_);refine bx_ 4 36 #[.bool false,.string (⟨#[]⟩:ByteArray),.string (⟨#[]⟩:ByteArray)] (h:= ?_);intro gb113 hg w6 hbox hb;have BK113:=aA.mk (hbox);have GW113:=pkG HB hg;have GE113:=GW113;have NB111_113:=pkN BK111 hg;have NB113_111:=pkM BK111 hg;have NB112_113:=pkN BK112 hg;have NB113_112:=pkM BK112 hg;replace BK111:=pkK BK111 hb;replace BK112:=pkK BK112 hb;replace HB:=pkB HB hb;clear hb hbox hg;have hnb7:=NB111_112.out;have hnc7:=NB112_111.out;have hnb8:=NB111_113.out;have hnc8:=NB113_111.out;obtain⟨⟨hcz9_0,hcz9_1,hcz9_2⟩,hfz9_0,hfz9_1,hfz9_2⟩:=pk3 BK111;have hnb10:=NB112_113.out;have hnc10:=NB113_112.out;obtain⟨⟨hcz11_0,hcz11_1,hcz11_2⟩,hfz11_0,hfz11_1,hfz11_2⟩:=pk3 BK112)|((with_reducible refine aG (f:=101) rfl ?_);refine gl_ 10 Tryz.func101 #[.func (.func 118) #[] #[],.agg #[.bool a0_0,.string a0_1,.string a0_2],.agg #[.bool a1_0,.string a1_1,.string a1_2]] (h:= ?_);(with_reducible refine(aZ.calls (hG:=HG.out.below (pkL HB)) k 118 Tryz.f118 Tryz.func118 (by kernel_rfl) rfl (fA.f k) (fun a0 a1 a2 b0 b1 b2 r1 r2 r3 w hG h=>fA.calls (hG:=hG) k a0 a1 a2 b0 b1 b2 r1 r2 r3 w h) a0_0 a0_1 a0_2 a1_0 a1_1 a1_2 t114 t115 t116 t117 _ A3.out).mono ?_);rintro e w12 ⟨rfl,hb⟩;refine⟨_,rfl,?_⟩;replace BK111:=pkK BK111 hb;replace BK112:=pkK BK112 hb;replace BK113:=pkK BK113 hb;replace HB:=pkB HB hb;try clear hb;obtain⟨⟨hcz13_0,hcz13_1,hcz13_2⟩,hfz13_0,hfz13_1,hfz13_2⟩:=pk3 BK113))
 refine bodyPost_ret (jK rfl _ _ gb113 36 #[.bool t114,.string t115,.string t116] (0,0) _ rfl (pkS3 BK113) Tryz.underlying36 rfl (by kernel_rfl)) rfl ?_
 exact pkE HB
def nG.f(k:Nat)(a0_0:Bool)(a0_1:ByteArray)(a0_2:ByteArray)(a1_0:Bool)(a1_1:ByteArray)(a1_2:ByteArray):Option (Bool×ByteArray×ByteArray×Int):=(aZ.f (fB.f k) k a0_0 a0_1 a0_2 a1_0 a1_1 a1_2).bind fun bt128=>(some (bt128.1,bt128.2.1,bt128.2.2.1,bt128.2.2.2))
theorem nG.calls(k:Nat)(a0_0:Bool)(a0_1:ByteArray)(a0_2:ByteArray)(a1_0:Bool)(a1_1:ByteArray)(a1_2:ByteArray)(r1:Bool)(r2:ByteArray)(r3:ByteArray)(r4:Int)(w:World)(hG:GW w)(h:nG.f k a0_0 a0_1 a0_2 a1_0 a1_1 a1_2=some (r1,r2,r3,r4)) :
 Calls Tryz.prog 54 #[.agg #[.bool a0_0,.string a0_1,.string a0_2],.agg #[.bool a1_0,.string a1_1,.string a1_2]] w fun e w'=>e= .returned (.tuple #[.agg #[.bool r1,.string r2,.string r3],.int .i64 r4])∧Below w.heap.size w w':=by
 have HG:=aA.mk hG
 clear hG
 have hu36:=Tryz.underlying36
 have HB:=aA.mk (Below.refl w.heap.size w)
 have H:((aZ.f (fB.f k) k a0_0 a0_1 a0_2 a1_0 a1_1 a1_2).bind fun bt128=>(some (bt128.1,bt128.2.1,bt128.2.2.1,bt128.2.2.2)))=some (r1,r2,r3,r4):=h
 clear h
 obtain⟨⟨t128,t129,t130,t131⟩,A3,H⟩:=bi H
 try dsimp only at H
 simp only[Option.some.injEq,Prod.mk.injEq] at H
 obtain⟨rfl,rfl,rfl,rfl⟩:=H
 go_enter Tryz.func54,Tryz.ntmps54
 go_wp2_with(first|((with_reducible refine aV (N:=2) rfl ?_);refine bx_ 2 36 #[.bool a0_0,.string a0_1,.string a0_2] (h:= ?_);intro gb125 hg w4 hbox hb;have BK125:=aA.mk (hbox);have GW125:=pkG HB hg;have GE125:=GW125;replace HB:=pkB HB hb;clear hb hbox hg)|((with_reducible refine aV (N:=3) rfl ?_);refine bx_ 3 36 #[.bool a1_0,.string a1_1,.string a1_2] (h:= ?_);intro gb126 hg w5 hbox hb;have BK126:=aA.mk (hbox);have GW126:=pkG HB hg;have GE126:=GW126;have NB125_126:=pkN BK125 hg;have NB126_125:=pkM BK125 hg;replace BK125:=pkK BK125 hb;replace HB:=pkB HB hb;clear hb hbox hg)|((with_reducible refine aV (N:=4) rfl ?_);refine bx_ 4 36 #[.bool false,.string (⟨#[]⟩:ByteArray),.string (⟨#[]⟩:ByteArray)] (h:= ?_);intro gb127 hg w6 hbox hb;have BK127:=aA.mk (hbox);have GW127:=pkG HB hg;have GE127:=GW127;have NB125_127:=pkN BK125 hg;have NB127_125:=pkM BK125 hg;have NB126_127:=pkN BK126 hg;have NB127_126:=pkM BK126 hg;replace BK125:=pkK BK125 hb;replace BK126:=pkK BK126 hb;replace HB:=pkB HB hb;clear hb hbox hg;have hnb7:=NB125_126.out;have hnc7:=NB126_125.out;have hnb8:=NB125_127.out;have hnc8:=NB127_125.out;obtain⟨⟨hcz9_0,hcz9_1,hcz9_2⟩,hfz9_0,hfz9_1,hfz9_2⟩:=pk3 BK125;have hnb10:=NB126_127.out;have hnc10:=NB127_126.out;obtain⟨⟨hcz11_0,hcz11_1,hcz11_2⟩,hfz11_0,hfz11_1,hfz11_2⟩:=pk3 BK126)|((with_reducible refine aG (f:=101) rfl ?_);refine gl_ 10 Tryz.func101 #[.func (.func 123) #[] #[],.agg #[.bool a0_0,.string a0_1,.string a0_2],.agg #[.bool a1_0,.string a1_1,.string a1_2]] (h:= ?_);(with_reducible refine(aZ.calls (hG:=HG.out.below (pkL HB)) k 123 Tryz.f123 Tryz.func123 (by kernel_rfl) rfl (fB.f k) (fun a0 a1 a2 b0 b1 b2 r1 r2 r3 w hG h=>fB.calls (hG:=hG) k a0 a1 a2 b0 b1 b2 r1 r2 r3 w h) a0_0 a0_1 a0_2 a1_0 a1_1 a1_2 t128 t129 t130 t131 _ A3.out).mono ?_);rintro e w12 ⟨rfl,hb⟩;refine⟨_,rfl,?_⟩;replace BK125:=pkK BK125 hb;replace BK126:=pkK BK126 hb;replace BK127:=pkK BK127 hb;replace HB:=pkB HB hb;try clear hb;obtain⟨⟨hcz13_0,hcz13_1,hcz13_2⟩,hfz13_0,hfz13_1,hfz13_2⟩:=pk3 BK127))
 refine bodyPost_ret (jK rfl _ _ gb127 36 #[.bool t128,.string t129,.string t130] (0,0) _ rfl (pkS3 BK127) Tryz.underlying36 rfl (by kernel_rfl)) rfl ?_
 exact pkE HB
def mG.f(k:Nat)(a0_0:Bool)(a0_1:ByteArray)(a0_2:ByteArray)(a1_0:Bool)(a1_1:ByteArray)(a1_2:ByteArray):Option (Bool×ByteArray×ByteArray×Int):=(aZ.f (bP.f k) k a0_0 a0_1 a0_2 a1_0 a1_1 a1_2).bind fun bt201=>(some (bt201.1,bt201.2.1,bt201.2.2.1,bt201.2.2.2))
theorem mG.calls(k:Nat)(a0_0:Bool)(a0_1:ByteArray)(a0_2:ByteArray)(a1_0:Bool)(a1_1:ByteArray)(a1_2:ByteArray)(r1:Bool)(r2:ByteArray)(r3:ByteArray)(r4:Int)(w:World)(hG:GW w)(h:mG.f k a0_0 a0_1 a0_2 a1_0 a1_1 a1_2=some (r1,r2,r3,r4)) :
 Calls Tryz.prog 44 #[.agg #[.bool a0_0,.string a0_1,.string a0_2],.agg #[.bool a1_0,.string a1_1,.string a1_2]] w fun e w'=>e= .returned (.tuple #[.agg #[.bool r1,.string r2,.string r3],.int .i64 r4])∧Below w.heap.size w w':=by
 have HG:=aA.mk hG
 clear hG
 have hu36:=Tryz.underlying36
 have HB:=aA.mk (Below.refl w.heap.size w)
 have H:((aZ.f (bP.f k) k a0_0 a0_1 a0_2 a1_0 a1_1 a1_2).bind fun bt201=>(some (bt201.1,bt201.2.1,bt201.2.2.1,bt201.2.2.2)))=some (r1,r2,r3,r4):=h
 clear h
 obtain⟨⟨t201,t202,t203,t204⟩,A3,H⟩:=bi H
 try dsimp only at H
 simp only[Option.some.injEq,Prod.mk.injEq] at H
 obtain⟨rfl,rfl,rfl,rfl⟩:=H
 go_enter Tryz.func44,Tryz.ntmps44
 go_wp2_with(first|((with_reducible refine aV (N:=2) rfl ?_);refine bx_ 2 36 #[.bool a0_0,.string a0_1,.string a0_2] (h:= ?_);intro gb198 hg w4 hbox hb;have BK198:=aA.mk (hbox);have GW198:=pkG HB hg;have GE198:=GW198;replace HB:=pkB HB hb;clear hb hbox hg)|((with_reducible refine aV (N:=3) rfl ?_);refine bx_ 3 36 #[.bool a1_0,.string a1_1,.string a1_2] (h:= ?_);intro gb199 hg w5 hbox hb;have BK199:=aA.mk (hbox);have GW199:=pkG HB hg;have GE199:=GW199;have NB198_199:=pkN BK198 hg;have NB199_198:=pkM BK198 hg;replace BK198:=pkK BK198 hb;replace HB:=pkB HB hb;clear hb hbox hg)|((with_reducible refine aV (N:=4) rfl ?_);refine bx_ 4 36 #[.bool false,.string (⟨#[]⟩:ByteArray),.string (⟨#[]⟩:ByteArray)] (h:= ?_);intro gb200 hg w6 hbox hb;have BK200:=aA.mk (hbox);have GW200:=pkG HB hg;have GE200:=GW200;have NB198_200:=pkN BK198 hg;have NB200_198:=pkM BK198 hg;have NB199_200:=pkN BK199 hg;have NB200_199:=pkM BK199 hg;replace BK198:=pkK BK198 hb;replace BK199:=pkK BK199 hb;replace HB:=pkB HB hb;clear hb hbox hg;have hnb7:=NB198_199.out;have hnc7:=NB199_198.out;have hnb8:=NB198_200.out;have hnc8:=NB200_198.out;obtain⟨⟨hcz9_0,hcz9_1,hcz9_2⟩,hfz9_0,hfz9_1,hfz9_2⟩:=pk3 BK198;have hnb10:=NB199_200.out;have hnc10:=NB200_199.out;obtain⟨⟨hcz11_0,hcz11_1,hcz11_2⟩,hfz11_0,hfz11_1,hfz11_2⟩:=pk3 BK199)|((with_reducible refine aG (f:=101) rfl ?_);refine gl_ 8 Tryz.func101 #[.func (.func 113) #[] #[],.agg #[.bool a0_0,.string a0_1,.string a0_2],.agg #[.bool a1_0,.string a1_1,.string a1_2]] (h:= ?_);(with_reducible refine(aZ.calls (hG:=HG.out.below (pkL HB)) k 113 Tryz.f113 Tryz.func113 (by kernel_rfl) rfl (bP.f k) (fun a0 a1 a2 b0 b1 b2 r1 r2 r3 w hG h=>bP.calls (hG:=hG) k a0 a1 a2 b0 b1 b2 r1 r2 r3 w h) a0_0 a0_1 a0_2 a1_0 a1_1 a1_2 t201 t202 t203 t204 _ A3.out).mono ?_);rintro e w12 ⟨rfl,hb⟩;refine⟨_,rfl,?_⟩;replace BK198:=pkK BK198 hb;replace BK199:=pkK BK199 hb;replace BK200:=pkK BK200 hb;replace HB:=pkB HB hb;try clear hb;obtain⟨⟨hcz13_0,hcz13_1,hcz13_2⟩,hfz13_0,hfz13_1,hfz13_2⟩:=pk3 BK200))
 refine bodyPost_ret (jK rfl _ _ gb200 36 #[.bool t201,.string t202,.string t203] (0,0) _ rfl (pkS3 BK200) Tryz.underlying36 rfl (by kernel_rfl)) rfl ?_
 exact pkE HB
def nH.f(k:Nat)(a0_0:Bool)(a0_1:ByteArray)(a0_2:ByteArray)(a1_0:Bool)(a1_1:ByteArray)(a1_2:ByteArray):Option (Bool×ByteArray×ByteArray×Int):=(aZ.f (fK.f k) k a0_0 a0_1 a0_2 a1_0 a1_1 a1_2).bind fun bt237=>(some (bt237.1,bt237.2.1,bt237.2.2.1,bt237.2.2.2))
theorem nH.calls(k:Nat)(a0_0:Bool)(a0_1:ByteArray)(a0_2:ByteArray)(a1_0:Bool)(a1_1:ByteArray)(a1_2:ByteArray)(r1:Bool)(r2:ByteArray)(r3:ByteArray)(r4:Int)(w:World)(hG:GW w)(h:nH.f k a0_0 a0_1 a0_2 a1_0 a1_1 a1_2=some (r1,r2,r3,r4)) :
 Calls Tryz.prog 36 #[.agg #[.bool a0_0,.string a0_1,.string a0_2],.agg #[.bool a1_0,.string a1_1,.string a1_2]] w fun e w'=>e= .returned (.tuple #[.agg #[.bool r1,.string r2,.string r3],.int .i64 r4])∧Below w.heap.size w w':=by
 have HG:=aA.mk hG
 clear hG
 have hu36:=Tryz.underlying36
 have HB:=aA.mk (Below.refl w.heap.size w)
 have H:((aZ.f (fK.f k) k a0_0 a0_1 a0_2 a1_0 a1_1 a1_2).bind fun bt237=>(some (bt237.1,bt237.2.1,bt237.2.2.1,bt237.2.2.2)))=some (r1,r2,r3,r4):=h
 clear h
 obtain⟨⟨t237,t238,t239,t240⟩,A3,H⟩:=bi H
 try dsimp only at H
 simp only[Option.some.injEq,Prod.mk.injEq] at H
 obtain⟨rfl,rfl,rfl,rfl⟩:=H
 go_enter Tryz.func36,Tryz.ntmps36
 go_wp2_with(first|((with_reducible refine aV (N:=2) rfl ?_);refine bx_ 2 36 #[.bool a0_0,.string a0_1,.string a0_2] (h:= ?_);intro gb234 hg w4 hbox hb;have BK234:=aA.mk (hbox);have GW234:=pkG HB hg;have GE234:=GW234;replace HB:=pkB HB hb;clear hb hbox hg)|((with_reducible refine aV (N:=3) rfl ?_);refine bx_ 3 36 #[.bool a1_0,.string a1_1,.string a1_2] (h:= ?_);intro gb235 hg w5 hbox hb;have BK235:=aA.mk (hbox);have GW235:=pkG HB hg;have GE235:=GW235;have NB234_235:=pkN BK234 hg;have NB235_234:=pkM BK234 hg;replace BK234:=pkK BK234 hb;replace HB:=pkB HB hb;clear hb hbox hg)|((with_reducible refine aV (N:=4) rfl ?_);refine bx_ 4 36 #[.bool false,.string (⟨#[]⟩:ByteArray),.string (⟨#[]⟩:ByteArray)] (h:= ?_);intro gb236 hg w6 hbox hb;have BK236:=aA.mk (hbox);have GW236:=pkG HB hg;have GE236:=GW236;have NB234_236:=pkN BK234 hg;have NB236_234:=pkM BK234 hg;have NB235_236:=pkN BK235 hg;have NB236_235:=pkM BK235 hg;replace BK234:=pkK BK234 hb;replace BK235:=pkK BK235 hb;replace HB:=pkB HB hb;clear hb hbox hg;have hnb7:=NB234_235.out;have hnc7:=NB235_234.out;have hnb8:=NB234_236.out;have hnc8:=NB236_234.out;obtain⟨⟨hcz9_0,hcz9_1,hcz9_2⟩,hfz9_0,hfz9_1,hfz9_2⟩:=pk3 BK234;have hnb10:=NB235_236.out;have hnc10:=NB236_235.out;obtain⟨⟨hcz11_0,hcz11_1,hcz11_2⟩,hfz11_0,hfz11_1,hfz11_2⟩:=pk3 BK235)|((with_reducible refine aG (f:=101) rfl ?_);refine gl_ 8 Tryz.func101 #[.func (.func 100) #[] #[],.agg #[.bool a0_0,.string a0_1,.string a0_2],.agg #[.bool a1_0,.string a1_1,.string a1_2]] (h:= ?_);(with_reducible refine(aZ.calls (hG:=HG.out.below (pkL HB)) k 100 Tryz.f100 Tryz.func100 (by kernel_rfl) rfl (fK.f k) (fun a0 a1 a2 b0 b1 b2 r1 r2 r3 w hG h=>fK.calls (hG:=hG) k a0 a1 a2 b0 b1 b2 r1 r2 r3 w h) a0_0 a0_1 a0_2 a1_0 a1_1 a1_2 t237 t238 t239 t240 _ A3.out).mono ?_);rintro e w12 ⟨rfl,hb⟩;refine⟨_,rfl,?_⟩;replace BK234:=pkK BK234 hb;replace BK235:=pkK BK235 hb;replace BK236:=pkK BK236 hb;replace HB:=pkB HB hb;try clear hb;obtain⟨⟨hcz13_0,hcz13_1,hcz13_2⟩,hfz13_0,hfz13_1,hfz13_2⟩:=pk3 BK236))
 refine bodyPost_ret (jK rfl _ _ gb236 36 #[.bool t237,.string t238,.string t239] (0,0) _ rfl (pkS3 BK236) Tryz.underlying36 rfl (by kernel_rfl)) rfl ?_
 exact pkE HB
def nI.f(k:Nat)(a0_0:Bool)(a0_1:ByteArray)(a0_2:ByteArray)(a1_0:Bool)(a1_1:ByteArray)(a1_2:ByteArray):Option (Bool×ByteArray×ByteArray×Int):=(aZ.f (dE.f k) k a0_0 a0_1 a0_2 a1_0 a1_1 a1_2).bind fun bt265=>(some (bt265.1,bt265.2.1,bt265.2.2.1,bt265.2.2.2))
theorem nI.calls(k:Nat)(a0_0:Bool)(a0_1:ByteArray)(a0_2:ByteArray)(a1_0:Bool)(a1_1:ByteArray)(a1_2:ByteArray)(r1:Bool)(r2:ByteArray)(r3:ByteArray)(r4:Int)(w:World)(hG:GW w)(h:nI.f k a0_0 a0_1 a0_2 a1_0 a1_1 a1_2=some (r1,r2,r3,r4)) :
 Calls Tryz.prog 38 #[.agg #[.bool a0_0,.string a0_1,.string a0_2],.agg #[.bool a1_0,.string a1_1,.string a1_2]] w fun e w'=>e= .returned (.tuple #[.agg #[.bool r1,.string r2,.string r3],.int .i64 r4])∧Below w.heap.size w w':=by
 have HG:=aA.mk hG
 clear hG
 have hu36:=Tryz.underlying36
 have HB:=aA.mk (Below.refl w.heap.size w)
 have H:((aZ.f (dE.f k) k a0_0 a0_1 a0_2 a1_0 a1_1 a1_2).bind fun bt265=>(some (bt265.1,bt265.2.1,bt265.2.2.1,bt265.2.2.2)))=some (r1,r2,r3,r4):=h
 clear h
 obtain⟨⟨t265,t266,t267,t268⟩,A3,H⟩:=bi H
 try dsimp only at H
 simp only[Option.some.injEq,Prod.mk.injEq] at H
 obtain⟨rfl,rfl,rfl,rfl⟩:=H
 go_enter Tryz.func38,Tryz.ntmps38
 go_wp2_with(first|((with_reducible refine aV (N:=2) rfl ?_);refine bx_ 2 36 #[.bool a0_0,.string a0_1,.string a0_2] (h:= ?_);intro gb262 hg w4 hbox hb;have BK262:=aA.mk (hbox);have GW262:=pkG HB hg;have GE262:=GW262;replace HB:=pkB HB hb;clear hb hbox hg)|((with_reducible refine aV (N:=3) rfl ?_);refine bx_ 3 36 #[.bool a1_0,.string a1_1,.string a1_2] (h:= ?_);intro gb263 hg w5 hbox hb;have BK263:=aA.mk (hbox);have GW263:=pkG HB hg;have GE263:=GW263;have NB262_263:=pkN BK262 hg;have NB263_262:=pkM BK262 hg;replace BK262:=pkK BK262 hb;replace HB:=pkB HB hb;clear hb hbox hg)|((with_reducible refine aV (N:=4) rfl ?_);refine bx_ 4 36 #[.bool false,.string (⟨#[]⟩:ByteArray),.string (⟨#[]⟩:ByteArray)] (h:= ?_);intro gb264 hg w6 hbox hb;have BK264:=aA.mk (hbox);have GW264:=pkG HB hg;have GE264:=GW264;have NB262_264:=pkN BK262 hg;have NB264_262:=pkM BK262 hg;have NB263_264:=pkN BK263 hg;have NB264_263:=pkM BK263 hg;replace BK262:=pkK BK262 hb;replace BK263:=pkK BK263 hb;replace HB:=pkB HB hb;clear hb hbox hg;have hnb7:=NB262_263.out;have hnc7:=NB263_262.out;have hnb8:=NB262_264.out;have hnc8:=NB264_262.out;obtain⟨⟨hcz9_0,hcz9_1,hcz9_2⟩,hfz9_0,hfz9_1,hfz9_2⟩:=pk3 BK262;have hnb10:=NB263_264.out;have hnc10:=NB264_263.out;obtain⟨⟨hcz11_0,hcz11_1,hcz11_2⟩,hfz11_0,hfz11_1,hfz11_2⟩:=pk3 BK263)|((with_reducible refine aG (f:=101) rfl ?_);refine gl_ 8 Tryz.func101 #[.func (.func 104) #[] #[],.agg #[.bool a0_0,.string a0_1,.string a0_2],.agg #[.bool a1_0,.string a1_1,.string a1_2]] (h:= ?_);(with_reducible refine(aZ.calls (hG:=HG.out.below (pkL HB)) k 104 Tryz.f104 Tryz.func104 (by kernel_rfl) rfl (dE.f k) (fun a0 a1 a2 b0 b1 b2 r1 r2 r3 w hG h=>dE.calls (hG:=hG) k a0 a1 a2 b0 b1 b2 r1 r2 r3 w h) a0_0 a0_1 a0_2 a1_0 a1_1 a1_2 t265 t266 t267 t268 _ A3.out).mono ?_);rintro e w12 ⟨rfl,hb⟩;refine⟨_,rfl,?_⟩;replace BK262:=pkK BK262 hb;replace BK263:=pkK BK263 hb;replace BK264:=pkK BK264 hb;replace HB:=pkB HB hb;try clear hb;obtain⟨⟨hcz13_0,hcz13_1,hcz13_2⟩,hfz13_0,hfz13_1,hfz13_2⟩:=pk3 BK264))
 refine bodyPost_ret (jK rfl _ _ gb264 36 #[.bool t265,.string t266,.string t267] (0,0) _ rfl (pkS3 BK264) Tryz.underlying36 rfl (by kernel_rfl)) rfl ?_
 exact pkE HB
end Go.Proofs.YtignanmmgaldeaaGreatDoor.PCongI
end
section
set_option linter.unusedVariables false
namespace Go.Proofs.YtignanmmgaldeaaGreatDoorW.PrintWords
open Go.RowKit
section
variable {P:Program} {ops:Array Oper} {Q:Exit→Act→World→Prop}
theorem goesW_{rest:List Oper}{oi:Oper}{a:Act}{w:World}(N:Option Tmp)(hd:oi.dst=N)(hg:oi.guard=none){f:FuncId}{fn:Func}{c:Operand}{zT:Array Operand}{ts:Array TypeId}{cap:Array Value}(hf:P.funcs[f]? =some fn)(hname:(fn.name== "runtime.NumGoroutine")=false)(hb:fn.body.isSome=true)(args full:Array Value)
 (hop:oi.op= .call {callee:= .value c,args:=zT,argTypes:=ts}) (hc:a.eval c= .func (.func f) #[] cap) (hargs:zT.map a.eval=args) (hfull:args++cap=full)
 (h:Calls P f full w fun e w'=>∃v,e= .returned v∧wpList P ops Q rest (a.put N v) w'):wpList P ops Q (oi::rest) a w:=by
 refine wpList_plain hg fun K hK=> ?_
 have he:=PrintLast.enters_ hf hname hb full w
 have hrun:(execOp a.eval oi).run P w= .ok (.enter f full) w:=by
  unfold execOp
  simp[hop,hc,resolve,Deferred.ofValue,invoke,hargs,hfull,he]
 unfold Oper.wp
 rw[hrun,Oper.upon_enter]
 refine h.mono fun e w'' hh=> ?_
 obtain⟨v,rfl,hk⟩:=hh
 subst hd
 exact hK _ _ hk
end
theorem pk1{W:World}{g:Nat}{t:TypeId}{a:Value}(B:aA (W.heap[g]? =some (.cells #[a] t (0,0)))):W.cell? ⟨g,0,none⟩=some a∧W.frozen? ⟨g,0,none⟩=false:=⟨(aC B.out 0).trans rfl,eY B.out 0⟩
end Go.Proofs.YtignanmmgaldeaaGreatDoorW.PrintWords
end
section
set_option linter.unusedVariables false
set_option linter.unusedSimpArgs false
set_option maxHeartbeats 8000000
set_option maxRecDepth 100000
namespace Go.Proofs.YtignanmmgaldeaaGreatDoor.PCongI
open Go.RowKit Go.Proofs.YtignanmmgaldeaaGreatDoorW.PrintWords Go.Proofs.YtignanmmgaldeaaGreatDoorW.PrintLast Go.Proofs.YtignanmmgaldeaaGreatDoorW.PrintMore
attribute [local go_sem] gU gV iG iH
def gX.f(k:Nat)(g1:ByteArray→ByteArray→Option (ByteArray×Int))(g2:ByteArray→Option Bool)(a0_0:Bool)(a0_1:ByteArray)(a0_2:ByteArray)(a1:ByteArray):Option (ByteArray×Int):=(bM.f k a0_0 a0_1 a0_2).bind fun t102=>(if t102=0 then((fE.f a1).bind fun t103=>(if t103=0 then(if a0_0=true then(some ((⟨#[]⟩:ByteArray),16)) else(if a0_1.toList=([48]:List UInt8) then((g2 a0_2).bind fun t104=>(if t104=true then(some ((⟨#[]⟩:ByteArray),6)) else(some (a0_2,0)))) else((g1 a0_1 a0_2).bind fun bt105=>(some (bt105.1,bt105.2))))) else(some ((⟨#[]⟩:ByteArray),t103)))) else(some ((⟨#[]⟩:ByteArray),t102)))
theorem gX.calls(k:Nat)(F1 F2:FuncId)(fn1 fn2:Func)(hF1:Tryz.prog.funcs[F1]? =some fn1)(hF1n:(fn1.name== "runtime.NumGoroutine")=false)(hF1b:fn1.body.isSome=true)(hF2:Tryz.prog.funcs[F2]? =some fn2)(hF2n:(fn2.name== "runtime.NumGoroutine")=false)(hF2b:fn2.body.isSome=true)(gl:Nat)(lo:ByteArray)(g1:ByteArray→ByteArray→Option (ByteArray×Int))(g2:ByteArray→Option Bool)(gc1:∀(m r t:ByteArray) (u:Int) (w:World) (hG:GW w) (hL:w.heap[gl]? =some (.cells #[.string lo] 22 (0,0))) (h:g1 m r=some (t,u)),Calls Tryz.prog F1 #[.string m,.string r,.pointer (some ⟨gl,0,none⟩)] w fun e w'=>e= .returned (.tuple #[.string t,.int .i64 u])∧Below w.heap.size w w')(gc2:∀(r:ByteArray) (b:Bool) (w:World) (hG:GW w) (hL:w.heap[gl]? =some (.cells #[.string lo] 22 (0,0))) (h:g2 r=some b),Calls Tryz.prog F2 #[.string r,.pointer (some ⟨gl,0,none⟩)] w fun e w'=>e= .returned (.bool b)∧Below w.heap.size w w')(a0_0:Bool)(a0_1:ByteArray)(a0_2:ByteArray)(a1:ByteArray)(r1:ByteArray)(r2:Int)(w:World)(hL:w.heap[gl]? =some (.cells #[.string lo] 22 (0,0)))(hG:GW w)(h:gX.f k g1 g2 a0_0 a0_1 a0_2 a1=some (r1,r2)) :
 Calls Tryz.prog 130 #[.agg #[.bool a0_0,.string a0_1,.string a0_2],.string a1,.func (.func F1) #[] #[.pointer (some ⟨gl,0,none⟩)],.func (.func F2) #[] #[.pointer (some ⟨gl,0,none⟩)]] w fun e w'=>e= .returned (.tuple #[.string r1,.int .i64 r2])∧Below w.heap.size w w':=by
 have HG:=aA.mk hG
 clear hG
 have hu36:=Tryz.underlying36
 have HB:=aA.mk (Below.refl w.heap.size w)
 have H:((bM.f k a0_0 a0_1 a0_2).bind fun t102=>(if t102=0 then((fE.f a1).bind fun t103=>(if t103=0 then(if a0_0=true then(some ((⟨#[]⟩:ByteArray),16)) else(if a0_1.toList=([48]:List UInt8) then((g2 a0_2).bind fun t104=>(if t104=true then(some ((⟨#[]⟩:ByteArray),6)) else(some (a0_2,0)))) else((g1 a0_1 a0_2).bind fun bt105=>(some (bt105.1,bt105.2))))) else(some ((⟨#[]⟩:ByteArray),t103)))) else(some ((⟨#[]⟩:ByteArray),t102))))=some (r1,r2):=h
 clear h
 replace H:=Option.bind_eq_some_iff.mp H
 obtain⟨t102,A50,H⟩:=H
 try dsimp only at H
 have A5:=aA.mk A50
 clear A50
 by_cases c6:t102=0
 ·rw[if_pos c6] at H
  have c6b0:(t102==0)=true:=beq_iff_eq.mpr c6
  have c6b1:(t102 != 0)=false:=bne_eq_false_iff_eq.mpr c6
  clear c6
  replace H:=Option.bind_eq_some_iff.mp H
  obtain⟨t103,A70,H⟩:=H
  try dsimp only at H
  have A7:=aA.mk A70
  clear A70
  by_cases c8:t103=0
  ·rw[if_pos c8] at H
   have c8b0:(t103==0)=true:=beq_iff_eq.mpr c8
   have c8b1:(t103 != 0)=false:=bne_eq_false_iff_eq.mpr c8
   clear c8
   by_cases c9:a0_0=true
   ·subst c9
    have H1:(some ((⟨#[]⟩:ByteArray),16))=some (r1,r2):=by rw[if_pos rfl] at H;exact H
    clear H
    have H:=H1
    clear H1
    simp only[Option.some.injEq,Prod.mk.injEq] at H
    obtain⟨rfl,rfl⟩:=H
    go_enter Tryz.func130,Tryz.ntmps130
    go_wp2_with(first|((with_reducible refine aV (N:=4) rfl ?_);refine kL ?hg (N:=4) ?hd (cs:=#[.bool true,.string a0_1,.string a0_2]) (t:=36) ?hr ?_;(case hd=>rfl);(case hg=>rfl);(case hr=>first|(go_simp;done)|(go_simp;rfl));intro gb101 hg w10 hbox hb;have BK101:=aA.mk (hbox);have GW101:=pkG HB hg;have GE101:=pkG HB hg;replace HB:=pkB HB hb;clear hb hbox hg;obtain⟨⟨hcz11_0,hcz11_1,hcz11_2⟩,hfz11_0,hfz11_1,hfz11_2⟩:=pk3 BK101)|((with_reducible refine aG (f:=66) rfl ?_);refine dR (some 13) rfl rfl Tryz.func66 (by kernel_rfl) rfl #[.agg #[.bool true,.string a0_1,.string a0_2]] rfl (by(try simp only[List.map_toArray,List.map_cons,List.map_nil]);first|done|rfl|(simp only[List.length_drop,List.length_take];rfl)) ?_;(with_reducible refine(bM.calls k true a0_1 a0_2 t102 _ A5.out).mono ?_);rintro e w12 ⟨rfl,hb⟩;refine⟨_,rfl,?_⟩;replace BK101:=pkK BK101 hb;replace HB:=pkB HB hb;try clear hb)|((with_reducible refine aG (f:=73) rfl ?_);refine dR (some 18) rfl rfl Tryz.func73 (by kernel_rfl) rfl #[.string a1] rfl (by(try simp only[List.map_toArray,List.map_cons,List.map_nil]);first|done|rfl|(simp only[List.length_drop,List.length_take];rfl)) ?_;(with_reducible refine(fE.calls a1 t103 _ A7.out).mono ?_);rintro e w13 ⟨rfl,hb⟩;refine⟨_,rfl,?_⟩;replace BK101:=pkK BK101 hb;replace HB:=pkB HB hb;try clear hb;obtain⟨⟨hcz14_0,hcz14_1,hcz14_2⟩,hfz14_0,hfz14_1,hfz14_2⟩:=pk3 BK101))
    go_ret2
    exact pkE HB
   ·replace c9:=Bool.eq_false_iff.mpr c9
    subst c9
    have H1:(if a0_1.toList=([48]:List UInt8) then((g2 a0_2).bind fun t104=>(if t104=true then(some ((⟨#[]⟩:ByteArray),6)) else(some (a0_2,0)))) else((g1 a0_1 a0_2).bind fun bt105=>(some (bt105.1,bt105.2))))=some (r1,r2):=by rw[if_neg (show ¬(false=true) by decide)] at H;exact H
    clear H
    have H:=H1
    clear H1
    by_cases c15:a0_1.toList=([48]:List UInt8)
    ·rw[if_pos c15] at H
     have c15b0:(a0_1.toList==([48]:List UInt8))=true:=beq_iff_eq.mpr c15
     have c15b1:(a0_1.toList != ([48]:List UInt8))=false:=bne_eq_false_iff_eq.mpr c15
     clear c15
     replace H:=Option.bind_eq_some_iff.mp H
     obtain⟨t104,A160,H⟩:=H
     try dsimp only at H
     have A16:=aA.mk A160
     clear A160
     by_cases c17:t104=true
     ·subst c17
      have H1:(some ((⟨#[]⟩:ByteArray),6))=some (r1,r2):=by rw[if_pos rfl] at H;exact H
      clear H
      have H:=H1
      clear H1
      simp only[Option.some.injEq,Prod.mk.injEq] at H
      obtain⟨rfl,rfl⟩:=H
      go_enter Tryz.func130,Tryz.ntmps130
      go_wp2_with(first|((with_reducible refine aV (N:=4) rfl ?_);refine kL ?hg (N:=4) ?hd (cs:=#[.bool false,.string a0_1,.string a0_2]) (t:=36) ?hr ?_;(case hd=>rfl);(case hg=>rfl);(case hr=>first|(go_simp;done)|(go_simp;rfl));intro gb101 hg w18 hbox hb;have BK101:=aA.mk (hbox);have GW101:=pkG HB hg;have GE101:=pkG HB hg;replace HB:=pkB HB hb;clear hb hbox hg;obtain⟨⟨hcz19_0,hcz19_1,hcz19_2⟩,hfz19_0,hfz19_1,hfz19_2⟩:=pk3 BK101)|((with_reducible refine aG (f:=66) rfl ?_);refine dR (some 13) rfl rfl Tryz.func66 (by kernel_rfl) rfl #[.agg #[.bool false,.string a0_1,.string a0_2]] rfl (by(try simp only[List.map_toArray,List.map_cons,List.map_nil]);first|done|rfl|(simp only[List.length_drop,List.length_take];rfl)) ?_;(with_reducible refine(bM.calls k false a0_1 a0_2 t102 _ A5.out).mono ?_);rintro e w20 ⟨rfl,hb⟩;refine⟨_,rfl,?_⟩;replace BK101:=pkK BK101 hb;replace HB:=pkB HB hb;try clear hb)|((with_reducible refine aG (f:=73) rfl ?_);refine dR (some 18) rfl rfl Tryz.func73 (by kernel_rfl) rfl #[.string a1] rfl (by(try simp only[List.map_toArray,List.map_cons,List.map_nil]);first|done|rfl|(simp only[List.length_drop,List.length_take];rfl)) ?_;(with_reducible refine(fE.calls a1 t103 _ A7.out).mono ?_);rintro e w21 ⟨rfl,hb⟩;refine⟨_,rfl,?_⟩;replace BK101:=pkK BK101 hb;replace HB:=pkB HB hb;try clear hb;obtain⟨⟨hcz22_0,hcz22_1,hcz22_2⟩,hfz22_0,hfz22_1,hfz22_2⟩:=pk3 BK101)|((with_reducible refine rG (p:=38) rfl ?_);refine goesW_ (some 41) rfl rfl hF2 hF2n hF2b #[.string a0_2] #[.string a0_2,.pointer (some ⟨gl,0,none⟩)] rfl rfl (by(try simp only[List.map_toArray,List.map_cons,List.map_nil]);first|done|rfl) rfl ?_;(with_reducible refine(gc2 (hG:=HG.out.below (pkL HB)) (hL:=dS hL (pkL HB)) a0_2 true _ A16.out).mono ?_);rintro e w23 ⟨rfl,hb⟩;refine⟨_,rfl,?_⟩;replace BK101:=pkK BK101 hb;replace HB:=pkB HB hb;try clear hb))
      go_ret2
      exact pkE HB
     ·replace c17:=Bool.eq_false_iff.mpr c17
      subst c17
      have H1:(some (a0_2,0))=some (r1,r2):=by rw[if_neg (show ¬(false=true) by decide)] at H;exact H
      clear H
      have H:=H1
      clear H1
      simp only[Option.some.injEq,Prod.mk.injEq] at H
      obtain⟨rfl,rfl⟩:=H
      go_enter Tryz.func130,Tryz.ntmps130
      go_wp2_with(first|((with_reducible refine aV (N:=4) rfl ?_);refine kL ?hg (N:=4) ?hd (cs:=#[.bool false,.string a0_1,.string a0_2]) (t:=36) ?hr ?_;(case hd=>rfl);(case hg=>rfl);(case hr=>first|(go_simp;done)|(go_simp;rfl));intro gb101 hg w24 hbox hb;have BK101:=aA.mk (hbox);have GW101:=pkG HB hg;have GE101:=pkG HB hg;replace HB:=pkB HB hb;clear hb hbox hg;obtain⟨⟨hcz25_0,hcz25_1,hcz25_2⟩,hfz25_0,hfz25_1,hfz25_2⟩:=pk3 BK101)|((with_reducible refine aG (f:=66) rfl ?_);refine dR (some 13) rfl rfl Tryz.func66 (by kernel_rfl) rfl #[.agg #[.bool false,.string a0_1,.string a0_2]] rfl (by(try simp only[List.map_toArray,List.map_cons,List.map_nil]);first|done|rfl|(simp only[List.length_drop,List.length_take];rfl)) ?_;(with_reducible refine(bM.calls k false a0_1 a0_2 t102 _ A5.out).mono ?_);rintro e w26 ⟨rfl,hb⟩;refine⟨_,rfl,?_⟩;replace BK101:=pkK BK101 hb;replace HB:=pkB HB hb;try clear hb)|((with_reducible refine aG (f:=73) rfl ?_);refine dR (some 18) rfl rfl Tryz.func73 (by kernel_rfl) rfl #[.string a1] rfl (by(try simp only[List.map_toArray,List.map_cons,List.map_nil]);first|done|rfl|(simp only[List.length_drop,List.length_take];rfl)) ?_;(with_reducible refine(fE.calls a1 t103 _ A7.out).mono ?_);rintro e w27 ⟨rfl,hb⟩;refine⟨_,rfl,?_⟩;replace BK101:=pkK BK101 hb;replace HB:=pkB HB hb;try clear hb;obtain⟨⟨hcz28_0,hcz28_1,hcz28_2⟩,hfz28_0,hfz28_1,hfz28_2⟩:=pk3 BK101)|((with_reducible refine rG (p:=38) rfl ?_);refine goesW_ (some 41) rfl rfl hF2 hF2n hF2b #[.string a0_2] #[.string a0_2,.pointer (some ⟨gl,0,none⟩)] rfl rfl (by(try simp only[List.map_toArray,List.map_cons,List.map_nil]);first|done|rfl) rfl ?_;(with_reducible refine(gc2 (hG:=HG.out.below (pkL HB)) (hL:=dS hL (pkL HB)) a0_2 false _ A16.out).mono ?_);rintro e w29 ⟨rfl,hb⟩;refine⟨_,rfl,?_⟩;replace BK101:=pkK BK101 hb;replace HB:=pkB HB hb;try clear hb;obtain⟨⟨hcz30_0,hcz30_1,hcz30_2⟩,hfz30_0,hfz30_1,hfz30_2⟩:=pk3 BK101))
      go_ret2
      exact pkE HB
    ·rw[if_neg c15] at H
     have c15b0:(a0_1.toList==([48]:List UInt8))=false:=beq_eq_false_iff_ne.mpr c15
     have c15b1:(a0_1.toList != ([48]:List UInt8))=true:=bne_iff_ne.mpr c15
     replace H:=Option.bind_eq_some_iff.mp H
     obtain⟨⟨t105,t106⟩,A310,H⟩:=H
     try dsimp only at H
     have A31:=aA.mk A310
     clear A310
     simp only[Option.some.injEq,Prod.mk.injEq] at H
     obtain⟨rfl,rfl⟩:=H
     go_enter Tryz.func130,Tryz.ntmps130
     go_wp2_with(first|((with_reducible refine aV (N:=4) rfl ?_);refine kL ?hg (N:=4) ?hd (cs:=#[.bool false,.string a0_1,.string a0_2]) (t:=36) ?hr ?_;(case hd=>rfl);(case hg=>rfl);(case hr=>first|(go_simp;done)|(go_simp;rfl));intro gb101 hg w32 hbox hb;have BK101:=aA.mk (hbox);have GW101:=pkG HB hg;have GE101:=pkG HB hg;replace HB:=pkB HB hb;clear hb hbox hg;obtain⟨⟨hcz33_0,hcz33_1,hcz33_2⟩,hfz33_0,hfz33_1,hfz33_2⟩:=pk3 BK101)|((with_reducible refine aG (f:=66) rfl ?_);refine dR (some 13) rfl rfl Tryz.func66 (by kernel_rfl) rfl #[.agg #[.bool false,.string a0_1,.string a0_2]] rfl (by(try simp only[List.map_toArray,List.map_cons,List.map_nil]);first|done|rfl|(simp only[List.length_drop,List.length_take];rfl)) ?_;(with_reducible refine(bM.calls k false a0_1 a0_2 t102 _ A5.out).mono ?_);rintro e w34 ⟨rfl,hb⟩;refine⟨_,rfl,?_⟩;replace BK101:=pkK BK101 hb;replace HB:=pkB HB hb;try clear hb)|((with_reducible refine aG (f:=73) rfl ?_);refine dR (some 18) rfl rfl Tryz.func73 (by kernel_rfl) rfl #[.string a1] rfl (by(try simp only[List.map_toArray,List.map_cons,List.map_nil]);first|done|rfl|(simp only[List.length_drop,List.length_take];rfl)) ?_;(with_reducible refine(fE.calls a1 t103 _ A7.out).mono ?_);rintro e w35 ⟨rfl,hb⟩;refine⟨_,rfl,?_⟩;replace BK101:=pkK BK101 hb;replace HB:=pkB HB hb;try clear hb;obtain⟨⟨hcz36_0,hcz36_1,hcz36_2⟩,hfz36_0,hfz36_1,hfz36_2⟩:=pk3 BK101)|((with_reducible refine rG (p:=29) rfl ?_);refine goesW_ (some 34) rfl rfl hF1 hF1n hF1b #[.string a0_1,.string a0_2] #[.string a0_1,.string a0_2,.pointer (some ⟨gl,0,none⟩)] rfl rfl (by(try simp only[List.map_toArray,List.map_cons,List.map_nil]);first|done|rfl) rfl ?_;(with_reducible refine(gc1 (hG:=HG.out.below (pkL HB)) (hL:=dS hL (pkL HB)) a0_1 a0_2 t105 t106 _ A31.out).mono ?_);rintro e w37 ⟨rfl,hb⟩;refine⟨_,rfl,?_⟩;replace BK101:=pkK BK101 hb;replace HB:=pkB HB hb;try clear hb))
     go_ret2
     exact pkE HB
  ·rw[if_neg c8] at H
   have c8b0:(t103==0)=false:=beq_eq_false_iff_ne.mpr c8
   have c8b1:(t103 != 0)=true:=bne_iff_ne.mpr c8
   simp only[Option.some.injEq,Prod.mk.injEq] at H
   obtain⟨rfl,rfl⟩:=H
   go_enter Tryz.func130,Tryz.ntmps130
   go_wp2_with(first|((with_reducible refine aV (N:=4) rfl ?_);refine kL ?hg (N:=4) ?hd (cs:=#[.bool a0_0,.string a0_1,.string a0_2]) (t:=36) ?hr ?_;(case hd=>rfl);(case hg=>rfl);(case hr=>first|(go_simp;done)|(go_simp;rfl));intro gb101 hg w38 hbox hb;have BK101:=aA.mk (hbox);have GW101:=pkG HB hg;have GE101:=pkG HB hg;replace HB:=pkB HB hb;clear hb hbox hg;obtain⟨⟨hcz39_0,hcz39_1,hcz39_2⟩,hfz39_0,hfz39_1,hfz39_2⟩:=pk3 BK101)|((with_reducible refine aG (f:=66) rfl ?_);refine dR (some 13) rfl rfl Tryz.func66 (by kernel_rfl) rfl #[.agg #[.bool a0_0,.string a0_1,.string a0_2]] rfl (by(try simp only[List.map_toArray,List.map_cons,List.map_nil]);first|done|rfl|(simp only[List.length_drop,List.length_take];rfl)) ?_;(with_reducible refine(bM.calls k a0_0 a0_1 a0_2 t102 _ A5.out).mono ?_);rintro e w40 ⟨rfl,hb⟩;refine⟨_,rfl,?_⟩;replace BK101:=pkK BK101 hb;replace HB:=pkB HB hb;try clear hb)|((with_reducible refine aG (f:=73) rfl ?_);refine dR (some 18) rfl rfl Tryz.func73 (by kernel_rfl) rfl #[.string a1] rfl (by(try simp only[List.map_toArray,List.map_cons,List.map_nil]);first|done|rfl|(simp only[List.length_drop,List.length_take];rfl)) ?_;(with_reducible refine(fE.calls a1 t103 _ A7.out).mono ?_);rintro e w41 ⟨rfl,hb⟩;refine⟨_,rfl,?_⟩;replace BK101:=pkK BK101 hb;replace HB:=pkB HB hb;try clear hb))
   go_ret2
   exact pkE HB
 ·rw[if_neg c6] at H
  have c6b0:(t102==0)=false:=beq_eq_false_iff_ne.mpr c6
  have c6b1:(t102 != 0)=true:=bne_iff_ne.mpr c6
  simp only[Option.some.injEq,Prod.mk.injEq] at H
  obtain⟨rfl,rfl⟩:=H
  go_enter Tryz.func130,Tryz.ntmps130
  go_wp2_with(first|((with_reducible refine aV (N:=4) rfl ?_);refine kL ?hg (N:=4) ?hd (cs:=#[.bool a0_0,.string a0_1,.string a0_2]) (t:=36) ?hr ?_;(case hd=>rfl);(case hg=>rfl);(case hr=>first|(go_simp;done)|(go_simp;rfl));intro gb101 hg w42 hbox hb;have BK101:=aA.mk (hbox);have GW101:=pkG HB hg;have GE101:=pkG HB hg;replace HB:=pkB HB hb;clear hb hbox hg;obtain⟨⟨hcz43_0,hcz43_1,hcz43_2⟩,hfz43_0,hfz43_1,hfz43_2⟩:=pk3 BK101)|((with_reducible refine aG (f:=66) rfl ?_);refine dR (some 13) rfl rfl Tryz.func66 (by kernel_rfl) rfl #[.agg #[.bool a0_0,.string a0_1,.string a0_2]] rfl (by(try simp only[List.map_toArray,List.map_cons,List.map_nil]);first|done|rfl|(simp only[List.length_drop,List.length_take];rfl)) ?_;(with_reducible refine(bM.calls k a0_0 a0_1 a0_2 t102 _ A5.out).mono ?_);rintro e w44 ⟨rfl,hb⟩;refine⟨_,rfl,?_⟩;replace BK101:=pkK BK101 hb;replace HB:=pkB HB hb;try clear hb))
  go_ret2
  exact pkE HB
def pR(lo m r:ByteArray):Option (ByteArray×Int):=(gZ.f r lo m).bind fun p=>if p.2=0 then(kJ.f lo p.1).bind fun c=>some (c.1,c.2) else some ((⟨#[]⟩:ByteArray),p.2)
theorem pR.calls(lo m r t:ByteArray)(u:Int)(gl:Nat)(w:World)(hG:GW w)(hL:w.heap[gl]? =some (.cells #[.string lo] 22 (0,0)))(h:pR lo m r=some (t,u)) :
 Calls Tryz.prog 131 #[.string m,.string r,.pointer (some ⟨gl,0,none⟩)] w fun e w'=>e= .returned (.tuple #[.string t,.int .i64 u])∧Below w.heap.size w w':=by
 have HG:=aA.mk hG
 have HB:=aA.mk (Below.refl w.heap.size w)
 have BK1:=aA.mk hL
 clear hG hL
 unfold pR at h
 obtain⟨⟨t1,u1⟩,A10,H⟩:=Option.bind_eq_some_iff.mp h
 clear h
 try dsimp only at H
 have A1:=aA.mk A10
 clear A10
 obtain⟨hcz1_0,hfz1_0⟩:=pk1 BK1
 by_cases c1:u1=0
 ·rw[if_pos c1] at H
  have c1b0:(u1==0)=true:=beq_iff_eq.mpr c1
  have c1b1:(u1 != 0)=false:=bne_eq_false_iff_eq.mpr c1
  obtain⟨⟨t2,u2⟩,A20,H⟩:=Option.bind_eq_some_iff.mp H
  try dsimp only at H
  have A2:=aA.mk A20
  clear A20 c1
  simp only[Option.some.injEq,Prod.mk.injEq] at H
  obtain⟨rfl,rfl⟩:=H
  go_enter Tryz.func131,Tryz.ntmps131
  go_wp2_with(first|((with_reducible refine aG (f:=132) rfl ?_);refine dR (some 13) rfl rfl Tryz.func132 (by kernel_rfl) rfl #[.string r,.string lo,.string m] rfl (by(try simp only[List.map_toArray,List.map_cons,List.map_nil]);first|done|rfl) ?_;(with_reducible refine(gZ.calls (hG:=HG.out.below (pkL HB)) r lo m t1 u1 _ A1.out).mono ?_);rintro e w1 ⟨rfl,hb⟩;refine⟨_,rfl,?_⟩;replace BK1:=pkK BK1 hb;replace HB:=pkB HB hb;clear hb hcz1_0 hfz1_0;obtain⟨hcz2_0,hfz2_0⟩:=pk1 BK1)|((with_reducible refine aG (f:=22) rfl ?_);refine dR (some 21) rfl rfl Tryz.func22 (by kernel_rfl) rfl #[.string lo,.string t1] rfl (by(try simp only[List.map_toArray,List.map_cons,List.map_nil]);first|done|rfl) ?_;(with_reducible refine(kJ.calls (hG:=HG.out.below (pkL HB)) lo t1 t2 u2 _ A2.out).mono ?_);rintro e w2 ⟨rfl,hb⟩;refine⟨_,rfl,?_⟩;replace HB:=pkB HB hb;clear hb))
  go_ret2
  exact pkE HB
 ·rw[if_neg c1] at H
  have c1b0:(u1==0)=false:=beq_eq_false_iff_ne.mpr c1
  have c1b1:(u1 != 0)=true:=bne_iff_ne.mpr c1
  simp only[Option.some.injEq,Prod.mk.injEq] at H
  obtain⟨rfl,rfl⟩:=H
  go_enter Tryz.func131,Tryz.ntmps131
  go_wp2_with(first|((with_reducible refine aG (f:=132) rfl ?_);refine dR (some 13) rfl rfl Tryz.func132 (by kernel_rfl) rfl #[.string r,.string lo,.string m] rfl (by(try simp only[List.map_toArray,List.map_cons,List.map_nil]);first|done|rfl) ?_;(with_reducible refine(gZ.calls (hG:=HG.out.below (pkL HB)) r lo m t1 u1 _ A1.out).mono ?_);rintro e w1 ⟨rfl,hb⟩;refine⟨_,rfl,?_⟩;replace BK1:=pkK BK1 hb;replace HB:=pkB HB hb;clear hb hcz1_0 hfz1_0;obtain⟨hcz2_0,hfz2_0⟩:=pk1 BK1))
  go_ret2
  exact pkE HB
def qE(lo r:ByteArray):Option Bool:=dJ.f r lo
theorem qE.calls(lo r:ByteArray)(b:Bool)(gl:Nat)(w:World)(hG:GW w)(hL:w.heap[gl]? =some (.cells #[.string lo] 22 (0,0)))(h:qE lo r=some b) :
 Calls Tryz.prog 133 #[.string r,.pointer (some ⟨gl,0,none⟩)] w fun e w'=>e= .returned (.bool b)∧Below w.heap.size w w':=by
 have HB:=aA.mk (Below.refl w.heap.size w)
 have BK1:=aA.mk hL
 have A1:aA (dJ.f r lo=some b):=aA.mk h
 clear hG hL h
 obtain⟨hcz1_0,hfz1_0⟩:=pk1 BK1
 go_enter Tryz.func133,Tryz.ntmps133
 go_wp2_with(first|((with_reducible refine aG (f:=134) rfl ?_);refine dR (some 6) rfl rfl Tryz.func134 (by kernel_rfl) rfl #[.string r,.string lo] rfl (by(try simp only[List.map_toArray,List.map_cons,List.map_nil]);first|done|rfl) ?_;(with_reducible refine(dJ.calls r lo b _ A1.out).mono ?_);rintro e w1 ⟨rfl,hb⟩;refine⟨_,rfl,?_⟩;replace HB:=pkB HB hb;clear hb))
 go_ret
 exact pkE HB
def mJ(lo m r:ByteArray):Option (ByteArray×Int):=(gZ.f lo r m).bind fun p=>if p.2=0 then(jB.f lo p.1).bind fun c=>some (c.1,c.2) else some ((⟨#[]⟩:ByteArray),p.2)
theorem mJ.calls(lo m r t:ByteArray)(u:Int)(gl:Nat)(w:World)(hG:GW w)(hL:w.heap[gl]? =some (.cells #[.string lo] 22 (0,0)))(h:mJ lo m r=some (t,u)) :
 Calls Tryz.prog 137 #[.string m,.string r,.pointer (some ⟨gl,0,none⟩)] w fun e w'=>e= .returned (.tuple #[.string t,.int .i64 u])∧Below w.heap.size w w':=by
 have HG:=aA.mk hG
 have HB:=aA.mk (Below.refl w.heap.size w)
 have BK1:=aA.mk hL
 clear hG hL
 unfold mJ at h
 obtain⟨⟨t1,u1⟩,A10,H⟩:=Option.bind_eq_some_iff.mp h
 clear h
 try dsimp only at H
 have A1:=aA.mk A10
 clear A10
 obtain⟨hcz1_0,hfz1_0⟩:=pk1 BK1
 by_cases c1:u1=0
 ·rw[if_pos c1] at H
  have c1b0:(u1==0)=true:=beq_iff_eq.mpr c1
  have c1b1:(u1 != 0)=false:=bne_eq_false_iff_eq.mpr c1
  obtain⟨⟨t2,u2⟩,A20,H⟩:=Option.bind_eq_some_iff.mp H
  try dsimp only at H
  have A2:=aA.mk A20
  clear A20 c1
  simp only[Option.some.injEq,Prod.mk.injEq] at H
  obtain⟨rfl,rfl⟩:=H
  go_enter Tryz.func137,Tryz.ntmps137
  go_wp2_with(first|((with_reducible refine aG (f:=132) rfl ?_);refine dR (some 13) rfl rfl Tryz.func132 (by kernel_rfl) rfl #[.string lo,.string r,.string m] rfl (by(try simp only[List.map_toArray,List.map_cons,List.map_nil]);first|done|rfl) ?_;(with_reducible refine(gZ.calls (hG:=HG.out.below (pkL HB)) lo r m t1 u1 _ A1.out).mono ?_);rintro e w1 ⟨rfl,hb⟩;refine⟨_,rfl,?_⟩;replace BK1:=pkK BK1 hb;replace HB:=pkB HB hb;clear hb hcz1_0 hfz1_0;obtain⟨hcz2_0,hfz2_0⟩:=pk1 BK1)|((with_reducible refine aG (f:=24) rfl ?_);refine dR (some 21) rfl rfl Tryz.func24 (by kernel_rfl) rfl #[.string lo,.string t1] rfl (by(try simp only[List.map_toArray,List.map_cons,List.map_nil]);first|done|rfl) ?_;(with_reducible refine(jB.calls (hG:=HG.out.below (pkL HB)) lo t1 t2 u2 _ A2.out).mono ?_);rintro e w2 ⟨rfl,hb⟩;refine⟨_,rfl,?_⟩;replace HB:=pkB HB hb;clear hb))
  go_ret2
  exact pkE HB
 ·rw[if_neg c1] at H
  have c1b0:(u1==0)=false:=beq_eq_false_iff_ne.mpr c1
  have c1b1:(u1 != 0)=true:=bne_iff_ne.mpr c1
  simp only[Option.some.injEq,Prod.mk.injEq] at H
  obtain⟨rfl,rfl⟩:=H
  go_enter Tryz.func137,Tryz.ntmps137
  go_wp2_with(first|((with_reducible refine aG (f:=132) rfl ?_);refine dR (some 13) rfl rfl Tryz.func132 (by kernel_rfl) rfl #[.string lo,.string r,.string m] rfl (by(try simp only[List.map_toArray,List.map_cons,List.map_nil]);first|done|rfl) ?_;(with_reducible refine(gZ.calls (hG:=HG.out.below (pkL HB)) lo r m t1 u1 _ A1.out).mono ?_);rintro e w1 ⟨rfl,hb⟩;refine⟨_,rfl,?_⟩;replace BK1:=pkK BK1 hb;replace HB:=pkB HB hb;clear hb hcz1_0 hfz1_0;obtain⟨hcz2_0,hfz2_0⟩:=pk1 BK1))
  go_ret2
  exact pkE HB
def nU(lo r:ByteArray):Option Bool:=dJ.f lo r
theorem nU.calls(lo r:ByteArray)(b:Bool)(gl:Nat)(w:World)(hG:GW w)(hL:w.heap[gl]? =some (.cells #[.string lo] 22 (0,0)))(h:nU lo r=some b) :
 Calls Tryz.prog 138 #[.string r,.pointer (some ⟨gl,0,none⟩)] w fun e w'=>e= .returned (.bool b)∧Below w.heap.size w w':=by
 have HB:=aA.mk (Below.refl w.heap.size w)
 have BK1:=aA.mk hL
 have A1:aA (dJ.f lo r=some b):=aA.mk h
 clear hG hL h
 obtain⟨hcz1_0,hfz1_0⟩:=pk1 BK1
 go_enter Tryz.func138,Tryz.ntmps138
 go_wp2_with(first|((with_reducible refine aG (f:=134) rfl ?_);refine dR (some 6) rfl rfl Tryz.func134 (by kernel_rfl) rfl #[.string lo,.string r] rfl (by(try simp only[List.map_toArray,List.map_cons,List.map_nil]);first|done|rfl) ?_;(with_reducible refine(dJ.calls lo r b _ A1.out).mono ?_);rintro e w1 ⟨rfl,hb⟩;refine⟨_,rfl,?_⟩;replace HB:=pkB HB hb;clear hb))
 go_ret
 exact pkE HB
def lJ.f(k:Nat)(a0_0:Bool)(a0_1 a0_2 a1:ByteArray):Option (ByteArray×Int):=gX.f k (pR a1) (qE a1) a0_0 a0_1 a0_2 a1
theorem lJ.calls(k:Nat)(a0_0:Bool)(a0_1 a0_2 a1 r1:ByteArray)(r2:Int)(w:World)(hG:GW w)(h:lJ.f k a0_0 a0_1 a0_2 a1=some (r1,r2)) :
 Calls Tryz.prog 62 #[.agg #[.bool a0_0,.string a0_1,.string a0_2],.string a1] w fun e w'=>e= .returned (.tuple #[.string r1,.int .i64 r2])∧Below w.heap.size w w':=by
 have HG:=aA.mk hG
 have HB:=aA.mk (Below.refl w.heap.size w)
 have A1:aA (gX.f k (pR a1) (qE a1) a0_0 a0_1 a0_2 a1=some (r1,r2)):=aA.mk h
 clear hG h
 have hu36:=Tryz.underlying36
 go_enter Tryz.func62,Tryz.ntmps62
 go_wp2_with(first|((with_reducible refine aV (N:=2) rfl ?_);refine kL ?hg (N:=2) ?hd (cs:=#[.bool a0_0,.string a0_1,.string a0_2]) (t:=36) ?hr ?_;(case hd=>rfl);(case hg=>rfl);(case hr=>first|(go_simp;done)|(go_simp;rfl));intro gb1 hg w1 hbox hb;have BK1:=aA.mk (hbox);have GE1:=pkG HB hg;replace HB:=pkB HB hb;clear hb hbox hg)|((with_reducible refine aV (N:=3) rfl ?_);refine kL ?hg (N:=3) ?hd (cs:=#[.string a1]) (t:=22) ?hr ?_;(case hd=>rfl);(case hg=>rfl);(case hr=>first|(go_simp;done)|(go_simp;rfl));intro gb2 hg w2 hbox hb;have BK2:=aA.mk (hbox);have GE2:=pkG HB hg;replace BK1:=pkK BK1 hb;replace HB:=pkB HB hb;clear hb hbox hg;obtain⟨⟨hcz1_0,hcz1_1,hcz1_2⟩,hfz1_0,hfz1_1,hfz1_2⟩:=pk3 BK1;obtain⟨hcz2_0,hfz2_0⟩:=pk1 BK2)|((with_reducible refine aG (f:=130) rfl ?_);refine dR (some 10) rfl rfl Tryz.func130 (by kernel_rfl) rfl #[.agg #[.bool a0_0,.string a0_1,.string a0_2],.string a1,.func (.func 131) #[] #[.pointer (some ⟨gb2,0,none⟩)],.func (.func 133) #[] #[.pointer (some ⟨gb2,0,none⟩)]] rfl (by(try simp only[List.map_toArray,List.map_cons,List.map_nil]);first|done|rfl) ?_;(with_reducible refine(gX.calls (hG:=HG.out.below (pkL HB)) (hL:=pkW BK2) k 131 133 _ _ Tryz.func131 (by kernel_rfl) rfl Tryz.func133 (by kernel_rfl) rfl gb2 a1 (pR a1) (qE a1) (fun m r t u w hG hL h=>pR.calls a1 m r t u gb2 w hG hL h) (fun r b w hG hL h=>qE.calls a1 r b gb2 w hG hL h) a0_0 a0_1 a0_2 a1 r1 r2 _ A1.out).mono ?_);rintro e w3 ⟨rfl,hb⟩;refine⟨_,rfl,?_⟩;replace HB:=pkB HB hb;clear hb))
 go_ret2
 exact pkE HB
def jX.f(k:Nat)(a0_0:Bool)(a0_1 a0_2 a1:ByteArray):Option (ByteArray×Int):=gX.f k (mJ a1) (nU a1) a0_0 a0_1 a0_2 a1
theorem jX.calls(k:Nat)(a0_0:Bool)(a0_1 a0_2 a1 r1:ByteArray)(r2:Int)(w:World)(hG:GW w)(h:jX.f k a0_0 a0_1 a0_2 a1=some (r1,r2)) :
 Calls Tryz.prog 64 #[.agg #[.bool a0_0,.string a0_1,.string a0_2],.string a1] w fun e w'=>e= .returned (.tuple #[.string r1,.int .i64 r2])∧Below w.heap.size w w':=by
 have HG:=aA.mk hG
 have HB:=aA.mk (Below.refl w.heap.size w)
 have A1:aA (gX.f k (mJ a1) (nU a1) a0_0 a0_1 a0_2 a1=some (r1,r2)):=aA.mk h
 clear hG h
 have hu36:=Tryz.underlying36
 go_enter Tryz.func64,Tryz.ntmps64
 go_wp2_with(first|((with_reducible refine aV (N:=2) rfl ?_);refine kL ?hg (N:=2) ?hd (cs:=#[.bool a0_0,.string a0_1,.string a0_2]) (t:=36) ?hr ?_;(case hd=>rfl);(case hg=>rfl);(case hr=>first|(go_simp;done)|(go_simp;rfl));intro gb1 hg w1 hbox hb;have BK1:=aA.mk (hbox);have GE1:=pkG HB hg;replace HB:=pkB HB hb;clear hb hbox hg)|((with_reducible refine aV (N:=3) rfl ?_);refine kL ?hg (N:=3) ?hd (cs:=#[.string a1]) (t:=22) ?hr ?_;(case hd=>rfl);(case hg=>rfl);(case hr=>first|(go_simp;done)|(go_simp;rfl));intro gb2 hg w2 hbox hb;have BK2:=aA.mk (hbox);have GE2:=pkG HB hg;replace BK1:=pkK BK1 hb;replace HB:=pkB HB hb;clear hb hbox hg;obtain⟨⟨hcz1_0,hcz1_1,hcz1_2⟩,hfz1_0,hfz1_1,hfz1_2⟩:=pk3 BK1;obtain⟨hcz2_0,hfz2_0⟩:=pk1 BK2)|((with_reducible refine aG (f:=130) rfl ?_);refine dR (some 10) rfl rfl Tryz.func130 (by kernel_rfl) rfl #[.agg #[.bool a0_0,.string a0_1,.string a0_2],.string a1,.func (.func 137) #[] #[.pointer (some ⟨gb2,0,none⟩)],.func (.func 138) #[] #[.pointer (some ⟨gb2,0,none⟩)]] rfl (by(try simp only[List.map_toArray,List.map_cons,List.map_nil]);first|done|rfl) ?_;(with_reducible refine(gX.calls (hG:=HG.out.below (pkL HB)) (hL:=pkW BK2) k 137 138 _ _ Tryz.func137 (by kernel_rfl) rfl Tryz.func138 (by kernel_rfl) rfl gb2 a1 (mJ a1) (nU a1) (fun m r t u w hG hL h=>mJ.calls a1 m r t u gb2 w hG hL h) (fun r b w hG hL h=>nU.calls a1 r b gb2 w hG hL h) a0_0 a0_1 a0_2 a1 r1 r2 _ A1.out).mono ?_);rintro e w3 ⟨rfl,hb⟩;refine⟨_,rfl,?_⟩;replace HB:=pkB HB hb;clear hb))
 go_ret2
 exact pkE HB
end Go.Proofs.YtignanmmgaldeaaGreatDoor.PCongI
end
section
set_option linter.unusedVariables false
set_option linter.unusedSimpArgs false
namespace Go.Proofs.YtignanmmgaldeaaGreatDoor.CongM
open Go.RowKit Go.Proofs.YtignanmmgaldeaaGreatDoor.RefP Go.Proofs.YtignanmmgaldeaaGreatDoor.PCongI Go.Proofs.YtignanmmgaldeaaGreatDoorW.PrintWords Go.Proofs.YtignanmmgaldeaaGreatDoorW.PrintLast
def clsV(c:Int×Int):Prop:=0≤c.1∧c.2%c.1=c.2
def clsM(c:Int×Int)(a:Int):Prop:=c.1∣a-c.2
def cls(M:Nat)(m r:Int):Int×Int:=if m.natAbs<10 ^ M∧(r%(m.natAbs:Int)).natAbs<10 ^ M then((m.natAbs:Int),r%(m.natAbs:Int)) else(1,0)
def leC(c d:Int×Int):Prop:=d.1∣c.1∧d.1∣c.2-d.2
theorem xI(r m:Int):m∣r-r%m:=Int.dvd_self_sub_emod
theorem emod_eq_iff(r s m:Int):r%m=s%m↔m∣r-s:=by
 rw[Int.emod_eq_emod_iff_emod_sub_eq_zero,Int.dvd_iff_emod_eq_zero]
def joinM(c d:Int×Int):Int:=gcdI (gcdI c.1 d.1) (c.2-d.2)
def joinC(M:Nat)(c d:Int×Int):Int×Int:=cls M (joinM c d) c.2
def addC(M:Nat)(c d:Int×Int):Int×Int:=cls M (gcdI c.1 d.1) (c.2+d.2)
def mulM(c d:Int×Int):Int:=gcdI (c.1*d.1) (gcdI (c.1*d.2) (d.1*c.2))
def mulC(M:Nat)(c d:Int×Int):Int×Int:=cls M (mulM c d) (c.2*d.2)
theorem lC(a b:Int):(gcdI a b).natAbs≤a.natAbs+b.natAbs:=by
 unfold gcdI
 rw[Int.natAbs_natCast]
 by_cases h:a.natAbs=0
 ·rw[h,Nat.gcd_zero_left];omega
 ·exact Nat.le_trans (Nat.le_of_dvd (by omega) (Nat.gcd_dvd_left _ _)) (by omega)
theorem joinM_bd{K:Nat}{c d:Int×Int}(h1:Bd K c.1)(h2:Bd K c.2)(h3:Bd K d.1)(h4:Bd K d.2):Bd (K+1) (joinM c d):=by
 unfold Bd joinM at *
 have a:=lC (gcdI c.1 d.1) (c.2-d.2)
 have b:=lC c.1 d.1
 rw[Nat.pow_succ]
 generalize 10 ^ K=P at *
 omega
theorem emod_swap{m a:Int}(h:0<m):(a%m+(-a)%m=0∧m∣a)∨(a%m+(-a)%m=m∧¬m∣a):=by
 by_cases k:m∣a
 ·left
  refine⟨?_,k⟩
  rw[Int.emod_eq_zero_of_dvd k,Int.emod_eq_zero_of_dvd (Int.dvd_neg.2 k)];rfl
 ·right
  refine⟨?_,k⟩
  have h1:=Int.emod_nonneg a (show m≠0 by omega)
  have h2:=Int.emod_lt_of_pos a h
  have h3:=Int.emod_nonneg (-a) (show m≠0 by omega)
  have h4:=Int.emod_lt_of_pos (-a) h
  have h5:m∣(a-a%m)+(-a- -a%m):=Int.dvd_add Int.dvd_self_sub_emod Int.dvd_self_sub_emod
  rw[show(a-a%m)+(-a- -a%m)= -(a%m+ -a%m) by omega,Int.dvd_neg] at h5
  obtain⟨t,ht⟩:=h5
  have h6:a%m≠0:=fun e=>k (Int.dvd_of_emod_eq_zero e)
  have t1:t=1:=by
   have ha:0<m*t:=by omega
   have hb:m*t<m*2:=by omega
   have t0:0<t:=by
    by_cases q:0<t
    ·exact q
    ·have:=Int.mul_le_mul_of_nonneg_left (show t≤0 by omega) (show 0≤m by omega)
     rw[Int.mul_zero] at this
     omega
   have t2:=Int.lt_of_mul_lt_mul_left hb (show 0≤m by omega)
   omega
  rw[ht,t1,Int.mul_one]
theorem lcmI_nat(x y:Int):lcmI x y=(Nat.lcm x.natAbs y.natAbs:Nat):=by
 unfold lcmI
 by_cases h:x=0∨y=0
 ·rw[if_pos h]
  rcases h with rfl|rfl
  ·simp
  ·simp
 ·rw[if_neg h]
  unfold gcdI Nat.lcm
  obtain⟨n,hn⟩:=Nat.gcd_dvd_left x.natAbs y.natAbs
  have hg:0<Nat.gcd x.natAbs y.natAbs:=Nat.gcd_pos_of_pos_left _ (by omega)
  generalize Nat.gcd x.natAbs y.natAbs=g at hn hg
  rw[hn,←Int.natCast_ediv,Nat.mul_div_cancel_left n hg,Nat.mul_assoc,Nat.mul_div_cancel_left _ hg,Int.natCast_mul]
def metS(c d:Int×Int):Int:=c.2+bezU c.1 d.1*Int.fdiv (d.2+ -c.2) (gcdI c.1 d.1)*c.1
def meetC(M:Nat)(c d:Int×Int):Option (Int×Int):=if d.1∣c.1∧d.1∣c.2-d.2 then some c else if c.1∣d.1∧c.1∣d.2-c.2 then some d else if c.1=0∨d.1=0∨¬gcdI c.1 d.1∣d.2+ -c.2 then none else some (cls M (lcmI c.1 d.1) (metS c d))
theorem lcmI_le(x y:Int):(lcmI x y).natAbs≤x.natAbs*y.natAbs:=by
 rw[lcmI_nat,Int.natAbs_natCast]
 exact Nat.div_le_self _ _
def encC:Option (Int×Int)→Bool×ByteArray×ByteArray
 |none=>(true,⟨#[]⟩,⟨#[]⟩)
 |some c=>(false,text c.1,text c.2)
def kK:Option (Int×Int)→Prop
 |none=>True
 |some c=>clsV c∧Bd 100 c.1∧Bd 100 c.2
theorem long_val(a:ByteArray)(ha:a.size≤1000000):fJ.f a=some (decide (100<digN a)):=by
 have hz:=Lib.size_eq a
 unfold fJ.f strings_TrimPrefix.f stringslite_TrimPrefix.f stringslite_HasPrefix.f digN
 have h1:((⟨#[45]⟩:ByteArray).size:Int)=1:=rfl
 rw[h1]
 by_cases h0:a.size=0
 ·have hn:a.data.toList= []:=List.eq_nil_of_length_eq_zero (by rw[←hz];exact h0)
  rw[if_neg (by omega),Option.bind_some,if_neg (by simp),Option.bind_some,Option.bind_some,hn]
  simp[Lib.trimPrefix,Lib.hasPrefix,h0]
 ·rw[if_pos (by omega),if_pos (by omega),if_pos (by omega),Option.bind_some]
  obtain⟨c,r,hl⟩:∃c r,a.data.toList=c::r:=by
   cases hq:a.data.toList with
   |nil=>rw[hq] at hz;exact absurd hz h0
   |cons c r=>exact⟨c,r,rfl⟩
  have he:(a.extract 0 (Int.toNat 1)).toList= [c]:=by
   rw[toList_data,Lib.extract_data,hl]
   simp
  have hp:(⟨#[45]⟩:ByteArray).toList= [45]:=by rw[toList_data]
  rw[he,hp]
  by_cases hc:c=45
  ·subst hc
   have e1:Lib.hasPrefix a.data.toList [45]=true:=by rw[hl];simp[Lib.hasPrefix]
   rw[if_pos (by decide),if_pos (by omega),if_pos (by omega),Option.bind_some,Option.bind_some,Lib.trimPrefix,if_pos e1,hl]
   congr 1
   refine decide_eq_decide.2 ?_
   have:(a.extract (Int.toNat 1) a.size).size=r.length:=by
    rw[Lib.size_eq,Lib.extract_data,hl]
    have:a.size=r.length+1:=by rw[hz,hl];rfl
    rw[this]
    simp
   rw[this]
   show((r.length:Int)>100)↔_
   simp
   omega
  ·have e1:Lib.hasPrefix a.data.toList [45]=false:=by rw[hl];simp[Lib.hasPrefix,List.isPrefixOf,Ne.symm hc]
   rw[if_neg (by simp[hc]),Option.bind_some,Option.bind_some,Lib.trimPrefix,if_neg (by rw[e1];simp),←hz]
   congr 1
   exact decide_eq_decide.2 (by omega)
def numC(a:ByteArray):Int:=if canon a.data.toList=true then(if 100<digN a then 10 else 0) else 3
theorem zD(a:ByteArray)(ha:a.size≤1000000)(k:Nat):dU.f (k+1) a=some (numC a):=by
 unfold dU.f numC fE.f chkI
 rw[if_pos (by omega),Option.bind_some]
 by_cases hc:canon a.data.toList=true
 ·rw[if_pos hc,if_pos hc]
  by_cases hd:4096<digN a
  ·rw[if_pos hd,if_pos rfl,if_pos (by omega),dU.j0,if_pos rfl]
  ·rw[if_neg hd,if_neg (by decide),if_pos rfl,long_val a ha,Option.bind_some,dU.j0]
   by_cases h1:100<digN a
   ·rw[if_pos (decide_eq_true h1),if_pos h1]
   ·rw[if_neg (by simpa using h1),if_neg h1,if_pos rfl]
 ·rw[if_neg hc,if_neg hc,if_neg (by decide),if_neg (by decide),dU.j0,if_neg (by simp),if_neg (by decide)]
theorem qR{a:ByteArray}(h:numC a=0):∃x,a=text x∧Bd 100 x:=by
 unfold numC at h
 by_cases hc:canon a.data.toList=true
 ·rw[if_pos hc] at h
  by_cases hd:100<digN a
  ·rw[if_pos hd] at h;cases h
  ·obtain⟨x,rfl⟩:=nY a hc
   exact⟨x,rfl,sD _ (by rw[←jT];omega)⟩
 ·rw[if_neg hc] at h;cases h
theorem qU{x:Int}(h:Bd 100 x):numC (text x)=0:=by
 unfold numC
 have:=jS h (by omega)
 rw[if_pos (nO x).1,jT,if_neg (by omega)]
def rngC(m r:Int):Prop:=m<0∨m≠0∧(r<0∨¬r<m)
instance (m r:Int):Decidable (rngC m r):=inferInstanceAs (Decidable (_∨_))
def chkC(e:Bool)(m r:ByteArray):Int:=if e=true then(if m.toList=([]:List UInt8) then(if r.toList=([]:List UInt8) then 0 else 3) else 3) else if numC m=0 then(if numC r=0 then(if rngC (aT m) (aT r) then 2 else 0) else numC r) else numC m
theorem sF{x y:Int}{m:Nat}(hx:Bd m x)(hy:Bd m y)(hm:1≤m)(h4:m≤4096):dJ.f (text x) (text y)=some (decide (x<y)):=by
 unfold dJ.f jH.f
 rw[wH m hx hy hm h4,Option.bind_some,Option.bind_some]
 congr 1
 exact decide_eq_decide.2 (by rw[qC];omega)
theorem check_end(k:Nat)(l:List ByteArray)(n i:Int)(hi:¬i<n)(e:Bool){x y:Int}(hx:Bd 100 x)(hy:Bd 100 y):bM.l0 (k+1) l n i e (text x) (text y)=some (if rngC x y then 2 else 0):=by
 have h0:Bd 100 0:=Nat.pow_pos (by omega)
 have e0:(⟨#[48]⟩:ByteArray)=text 0:=uA.symm
 have t0:((text x).toList=([48]:List UInt8))↔x=0:=eX x
 rw[bM.l0,if_neg hi,e0,sF hx h0 (by omega) (by omega),Option.bind_some]
 by_cases h1:x<0
 ·have hr:rngC x y:= .inl h1
  rw[if_pos (decide_eq_true h1),if_pos hr]
 ·rw[if_neg (by simpa using h1)]
  by_cases h2:x=0
  ·have hr:¬rngC x y:=by unfold rngC;omega
   rw[if_pos (t0.2 h2),if_neg hr]
  ·rw[if_neg (fun q=>h2 (t0.1 q)),sF hy h0 (by omega) (by omega),Option.bind_some]
   by_cases h3:y<0
   ·have hr:rngC x y:= .inr ⟨h2,.inl h3⟩
    rw[if_pos (decide_eq_true h3),if_pos hr]
   ·rw[if_neg (by simpa using h3),sF hy hx (by omega) (by omega),Option.bind_some]
    by_cases h4:y<x
    ·have hr:¬rngC x y:=by unfold rngC;omega
     rw[if_pos (decide_eq_true h4),if_neg hr]
    ·have hr:rngC x y:= .inr ⟨h2,.inr h4⟩
     rw[if_neg (by simpa using h4),if_pos hr]
theorem uT(e:Bool)(m r:ByteArray)(hm:m.size≤1000000)(hr:r.size≤1000000)(k:Nat)(hk:5≤k):bM.f k e m r=some (chkC e m r):=by
 obtain⟨k,rfl⟩:∃j,k=j+4:=⟨k-4,by omega⟩
 unfold bM.f chkC
 by_cases he:e=true
 ·rw[if_pos he,if_pos he]
  by_cases h1:m.toList=([]:List UInt8)
  ·rw[if_pos h1,if_pos h1]
   by_cases h2:r.toList=([]:List UInt8)
   ·rw[if_pos h2,if_pos h2]
   ·rw[if_neg h2,if_neg h2]
  ·rw[if_neg h1,if_neg h1]
 ·rw[if_neg he,if_neg he,Option.bind_some]
  rw[show(([m,r]:List ByteArray).length:Int)=2 from rfl,bM.l0,if_pos (by decide),if_pos (by decide),if_pos (show(0:Int)<(([m,r]:List ByteArray).length:Int) from by simp),show rdOf ByteArray.empty [m,r] 0=m from rfl,zD m hm,Option.bind_some]
  by_cases h1:numC m=0
  ·rw[if_pos h1,if_pos h1,show wrap64 ((0:Int)+1)=1 from by decide +kernel,bM.l0,if_pos (by decide),if_pos (by decide),if_pos (show(1:Int)<(([m,r]:List ByteArray).length:Int) from by simp),show rdOf ByteArray.empty [m,r] 1=r from rfl,zD r hr,Option.bind_some]
   by_cases h2:numC r=0
   ·obtain⟨x,rfl,bx⟩:=qR h1
    obtain⟨y,rfl,by'⟩:=qR h2
    rw[if_pos h2,if_pos h2,show wrap64 ((1:Int)+1)=2 from by decide +kernel,check_end _ _ _ _ (by decide) _ bx by',bU,bU]
   ·rw[if_neg h2,if_neg h2]
  ·rw[if_neg h1,if_neg h1]
theorem chkC_ok{e:Bool}{m r:ByteArray}(h:chkC e m r=0):∃o,kK o∧(e,m,r)=encC o:=by
 unfold chkC at h
 by_cases he:e=true
 ·rw[if_pos he] at h
  by_cases h1:m.toList=([]:List UInt8)
  ·rw[if_pos h1] at h
   by_cases h2:r.toList=([]:List UInt8)
   ·refine⟨none,trivial,?_⟩
    have e1:m=⟨#[]⟩:=rY (by rw[←toList_data,h1])
    have e2:r=⟨#[]⟩:=rY (by rw[←toList_data,h2])
    rw[he,e1,e2];rfl
   ·rw[if_neg h2] at h;cases h
  ·rw[if_neg h1] at h;cases h
 ·rw[if_neg he] at h
  by_cases h1:numC m=0
  ·rw[if_pos h1] at h
   by_cases h2:numC r=0
   ·rw[if_pos h2] at h
    obtain⟨x,rfl,bx⟩:=qR h1
    obtain⟨y,rfl,by'⟩:=qR h2
    rw[bU,bU] at h
    by_cases h3:rngC x y
    ·rw[if_pos h3] at h;cases h
    ·refine⟨some (x,y),⟨⟨?_,?_⟩,bx,by'⟩,?_⟩
     ·unfold rngC at h3;show 0≤x;omega
     ·show y%x=y
      by_cases hx:x=0
      ·rw[hx,Int.emod_zero]
      ·unfold rngC at h3
       exact Int.emod_eq_of_lt (by omega) (by omega)
     ·have:e=false:=by simpa using he
      rw[this];rfl
   ·rw[if_neg h2] at h;exact absurd h h2
  ·rw[if_neg h1] at h;exact absurd h h1
theorem long_text{x:Int}{m:Nat}(hx:Bd m x)(hm:1≤m)(h4:m≤90000):fJ.f (text x)=some (decide (¬x.natAbs<10 ^ 100)):=by
 have:=size_text hx hm
 rw[long_val _ (by omega),jT]
 congr 1
 refine decide_eq_decide.2 ⟨fun h q=> ?_,fun h=> ?_⟩
 ·have:=jS (m:=100) q (by omega)
  omega
 ·refine Nat.lt_of_not_le fun q=>h ?_
  exact uC _ _ q
theorem oZ{m r:Int}{n:Nat}(hm:Bd n m)(hr:Bd n r)(hn:1≤n)(h4:n≤4096)(k:Nat):bI.f (k+1) (text m) (text r)=some (encC (some (cls 100 m r))):=by
 have hs:=size_text hm hn
 have hA:Bd n (m.natAbs:Int):=by unfold Bd at *;simpa using hm
 have ha:mD.f (text m)=some (text (m.natAbs:Int),0):=by
  unfold mD.f
  rw[if_pos (by omega),chk_text hm hn h4]
  simp only[if_true,abs_text]
 have fin:∀{R:Int},Bd n R→R=r%(m.natAbs:Int)→bI.j0 (k+1) (text (m.natAbs:Int)) (text R)=some (encC (some (cls 100 m r))):=fun {R} hR e=>by
  rw[bI.j0,long_text hA hn (by omega),Option.bind_some,long_text hR hn (by omega),Int.natAbs_natCast]
  unfold dF.f
  have hc:cls 100 m r=if m.natAbs<10 ^ 100∧R.natAbs<10 ^ 100 then((m.natAbs:Int),R) else(1,0):=by unfold cls;rw[e]
  have t1:encC (some (1,0))=(false,⟨#[49]⟩,⟨#[48]⟩):=by decide +kernel
  generalize hP:(10:Nat) ^ 100=P at *
  rw[hc]
  by_cases h1:m.natAbs<P
  ·rw[if_neg (by simpa using h1),Option.bind_some]
   by_cases h2:R.natAbs<P
   ·rw[if_neg (by simpa using h2),if_pos ⟨h1,h2⟩];rfl
   ·rw[if_pos (decide_eq_true h2),if_neg (fun q=>h2 q.2),Option.bind_some,t1]
  ·rw[if_pos (decide_eq_true h1),if_neg (fun q=>h1 q.1),Option.bind_some,t1]
 unfold bI.f dO.f
 rw[ha,Option.bind_some,Option.bind_some]
 show(if(text (m.natAbs:Int)).toList=([48]:List UInt8) then bI.j0 (k+1) (text (m.natAbs:Int)) (text r) else(eG.f (text r) (text (m.natAbs:Int))).bind fun bt=>(some bt.1).bind fun t=>bI.j0 (k+1) (text (m.natAbs:Int)) t)=_
 by_cases h0:m=0
 ·have hz:(m.natAbs:Int)=0:=by omega
  rw[if_pos ((eX _).2 hz)]
  exact fin hr (by rw[hz,Int.emod_zero])
 ·have hne:(m.natAbs:Int)≠0:=by omega
  have hf:Int.fmod r (m.natAbs:Int)=r%(m.natAbs:Int):=Int.fmod_eq_emod_of_nonneg _ (by omega)
  rw[if_neg (fun q=>hne ((eX _).1 q)),uD n hr hA hn h4,if_neg hne,Option.bind_some,Option.bind_some,hf]
  exact fin (by rw[←hf];exact hA.fmod hne) rfl
theorem qV{x y:Int}{n:Nat}(hx:Bd n x)(hy:Bd n y)(hn:1≤n)(h4:n≤4096):bQ.f (text x) (text y)=some (text (gcdI x y)):=by
 unfold bQ.f nS.f dO.f
 rw[if_pos (nP hx hy hn h4),if_pos (lY hx hy hn h4),bU,bU]
 rfl
theorem sub_val{x y:Int}{n:Nat}(hx:Bd n x)(hy:Bd n y)(hn:1≤n)(h4:n≤4095):dV.f (text x) (text y)=some (text (x+ -y)):=by
 unfold dV.f dO.f
 rw[sub_at n hx hy hn h4]
 rfl
theorem add_val{x y:Int}{n:Nat}(hx:Bd n x)(hy:Bd n y)(hn:1≤n)(h4:n≤4095):iR.f (text x) (text y)=some (text (x+y)):=by
 unfold iR.f dO.f
 rw[add_at n hx hy hn h4]
 rfl
theorem tC{x y:Int}{n:Nat}(hx:Bd n x)(hy:Bd n y)(hn:1≤n)(h4:n≤2048):eF.f (text x) (text y)=some (text (x*y)):=by
 unfold eF.f dO.f
 rw[mul_at n hx hy hn h4]
 rfl
theorem pX{x y:Int}{n:Nat}(hx:Bd n x)(hy:Bd n y)(hn:1≤n)(h4:n≤4096):dB.f (text x) (text y)=some (decide (x∣y)):=by
 unfold dB.f dO.f
 by_cases h0:x=0
 ·rw[if_pos ((eX x).2 h0)]
  congr 1
  have e:x∣y↔(text y).toList=([48]:List UInt8):=by rw[h0,Int.zero_dvd,eX]
  by_cases h:x∣y
  ·rw[decide_eq_true h,e.1 h];rfl
  ·rw[decide_eq_false h]
   simp only[beq_eq_false_iff_ne,ne_eq]
   exact fun q=>h (e.2 q)
 ·rw[if_neg (fun q=>h0 ((eX x).1 q)),uD n hy hx hn h4,if_neg h0,Option.bind_some,Option.bind_some]
  congr 1
  have e:x∣y↔(text (Int.fmod y x)).toList=([48]:List UInt8):=by rw[eX];exact Int.dvd_iff_fmod_eq_zero
  by_cases h:x∣y
  ·rw[decide_eq_true h,e.1 h];rfl
  ·rw[decide_eq_false h]
   simp only[beq_eq_false_iff_ne,ne_eq]
   exact fun q=>h (e.2 q)
def leO:Option (Int×Int)→Option (Int×Int)→Prop
 |none,_=>True
 |some _,none=>False
 |some c,some d=>leC c d
instance (c d:Int×Int):Decidable (leC c d):=inferInstanceAs (Decidable (_∧_))
instance:(c d:Option (Int×Int))→Decidable (leO c d)
 |none,_=> .isTrue trivial
 |some _,none=> .isFalse id
 |some c,some d=>inferInstanceAs (Decidable (leC c d))
theorem zF{c d:Option (Int×Int)}(hc:kK c)(hd:kK d)(k:Nat):bH.f (k+1) (encC c).1 (encC c).2.1 (encC c).2.2 (encC d).1 (encC d).2.1 (encC d).2.2=some (decide (leO c d)):=by
 unfold bH.f
 cases c with
 |none=>
  show(if true=true then _ else _)=_
  rw[if_pos rfl,bH.j0,if_pos rfl]
  rfl
 |some c=>
  show(if false=true then _ else _)=_
  rw[if_neg (by simp)]
  cases d with
  |none=>
   show bH.j0 (k+1) true false _ _ _ _ _=_
   rw[bH.j0,if_pos rfl]
   rfl
  |some d=>
   show bH.j0 (k+1) false false (text c.1) (text c.2) false (text d.1) (text d.2)=some (decide (leC c d))
   have bs:Bd 101 (c.2+ -d.2):=hc.2.2.add hd.2.2.neg
   rw[bH.j0,if_neg (by simp),pX hd.2.1 hc.2.1 (by omega) (by omega),Option.bind_some]
   by_cases h1:d.1∣c.1
   ·rw[if_pos (decide_eq_true h1),sub_val hc.2.2 hd.2.2 (by omega) (by omega),Option.bind_some,pX (n:=101) (hd.2.1.mono (by omega)) bs (by omega) (by omega),Option.bind_some]
    congr 1
    exact decide_eq_decide.2 ⟨fun h=>⟨h1,by rw[Int.sub_eq_add_neg];exact h⟩,fun h=>by have:=h.2;rwa [Int.sub_eq_add_neg] at this⟩
   ·rw[if_neg (by simpa using h1)]
    congr 1
    exact(decide_eq_false fun h=>h1 h.1).symm
theorem add1_val{c d:Int×Int}(hc:kK (some c))(hd:kK (some d))(k:Nat):fA.f (k+1) false (text c.1) (text c.2) false (text d.1) (text d.2)=some (encC (some (addC 100 c d))):=by
 have bg:Bd 101 (gcdI c.1 d.1):=by
  have:=lC c.1 d.1
  have h1:=hc.2.1
  have h2:=hd.2.1
  unfold Bd at *
  rw[Nat.pow_succ]
  generalize (10:Nat) ^ 100=P at *
  omega
 unfold fA.f
 rw[qV hc.2.1 hd.2.1 (by omega) (by omega),Option.bind_some,add_val hc.2.2 hd.2.2 (by omega) (by omega),Option.bind_some,oZ bg (hc.2.2.add hd.2.2) (by omega) (by omega),Option.bind_some]
 rfl
theorem mul1_val{c d:Int×Int}(hc:kK (some c))(hd:kK (some d))(k:Nat):fB.f (k+1) false (text c.1) (text c.2) false (text d.1) (text d.2)=some (encC (some (mulC 100 c d))):=by
 have b1:Bd 200 (c.1*d.1):=(hc.2.1.mul hd.2.1).mono (by omega)
 have b2:Bd 200 (c.1*d.2):=(hc.2.1.mul hd.2.2).mono (by omega)
 have b3:Bd 200 (d.1*c.2):=(hd.2.1.mul hc.2.2).mono (by omega)
 have b4:Bd 200 (c.2*d.2):=(hc.2.2.mul hd.2.2).mono (by omega)
 have bg:Bd 201 (gcdI (c.1*d.2) (d.1*c.2)):=by
  have:=lC (c.1*d.2) (d.1*c.2)
  unfold Bd at *
  rw[Nat.pow_succ]
  generalize (10:Nat) ^ 200=P at *
  omega
 have bm:Bd 202 (mulM c d):=by
  have:=lC (c.1*d.1) (gcdI (c.1*d.2) (d.1*c.2))
  have b5:Bd 201 (c.1*d.1):=b1.mono (by omega)
  unfold Bd mulM at *
  rw[Nat.pow_succ]
  generalize (10:Nat) ^ 201=P at *
  omega
 unfold fB.f
 rw[tC hc.2.1 hd.2.1 (by omega) (by omega),Option.bind_some,tC hc.2.1 hd.2.2 (by omega) (by omega),Option.bind_some,tC hd.2.1 hc.2.2 (by omega) (by omega),Option.bind_some,qV b2 b3 (by omega) (by omega),Option.bind_some,
  qV (n:=201) (b1.mono (by omega)) bg (by omega) (by omega),Option.bind_some,tC hc.2.2 hd.2.2 (by omega) (by omega),Option.bind_some,show gcdI (c.1*d.1) (gcdI (c.1*d.2) (d.1*c.2))=mulM c d from rfl,oZ (n:=202) bm (b4.mono (by omega)) (by omega) (by omega),Option.bind_some]
 rfl
theorem joinM_goodBd{c d:Int×Int}(hc:kK (some c))(hd:kK (some d)):Bd 101 (joinM c d):=joinM_bd hc.2.1 hc.2.2 hd.2.1 hd.2.2
theorem lcmI_bd{x y:Int}{m n:Nat}(hx:Bd m x)(hy:Bd n y):Bd (m+n) (lcmI x y):=by
 have:=lcmI_le x y
 unfold Bd at *
 rw[Nat.pow_add]
 exact Nat.lt_of_le_of_lt this (Nat.mul_lt_mul'' hx hy)
theorem bezU_bd{x y:Int}{n:Nat}(hy:Bd n y)(h0:y≠0):Bd n (bezU x y):=by
 have hg:=wJ (a:=x) h0
 have hgd:=yV x y
 unfold bezU
 rw[if_neg h0]
 have n0:(y.natAbs:Int)/gcdI x y≠0:=by
  obtain⟨t,ht⟩:gcdI x y∣(y.natAbs:Int):=Int.dvd_natAbs.2 hgd
  rw[ht,Int.mul_ediv_cancel_left _ (by omega)]
  intro q
  rw[q,Int.mul_zero] at ht
  omega
 have e1:Int.fdiv (y.natAbs:Int) (gcdI x y)=(y.natAbs:Int)/gcdI x y:=Int.fdiv_eq_ediv_of_nonneg _ (by omega)
 have bq:Bd n ((y.natAbs:Int)/gcdI x y):=by rw[←e1];exact Bd.fdiv (by unfold Bd at *;simpa using hy) (by omega)
 exact bq.fmod n0
theorem meet_val{c d:Int×Int}(hc:kK (some c))(hd:kK (some d))(k:Nat):bP.f (k+2) false (text c.1) (text c.2) false (text d.1) (text d.2)=some (encC (meetC 100 c d)):=by
 have i1:=zF hc hd (k+1)
 have i2:=zF hd hc (k+1)
 have bg:Bd 101 (gcdI c.1 d.1):=by
  have:=lC c.1 d.1
  have h1:=hc.2.1
  have h2:=hd.2.1
  unfold Bd at *
  rw[Nat.pow_succ]
  generalize (10:Nat) ^ 100=P at *
  omega
 have bs:Bd 101 (d.2+ -c.2):=hd.2.2.add hc.2.2.neg
 unfold bP.f meetC
 rw[show bH.f (k+2) false (text c.1) (text c.2) false (text d.1) (text d.2)=_ from i1,Option.bind_some]
 by_cases h1:d.1∣c.1∧d.1∣c.2-d.2
 ·rw[if_pos (decide_eq_true (show leO (some c) (some d) from h1)),if_pos h1];rfl
 ·rw[if_neg (by simpa using(show ¬leO (some c) (some d) from h1)),if_neg h1]
  rw[show bH.f (k+2) false (text d.1) (text d.2) false (text c.1) (text c.2)=_ from i2,Option.bind_some]
  by_cases h2:c.1∣d.1∧c.1∣d.2-c.2
  ·rw[if_pos (decide_eq_true (show leO (some d) (some c) from h2)),if_pos h2];rfl
  ·rw[if_neg (by simpa using(show ¬leO (some d) (some c) from h2)),if_neg h2,qV hc.2.1 hd.2.1 (by omega) (by omega),Option.bind_some,sub_val hd.2.2 hc.2.2 (by omega) (by omega),Option.bind_some]
   have e0:bP.j0 (k+2) (text (gcdI c.1 d.1)) (text (d.2+ -c.2)) true false (text c.1) (text c.2) false (text d.1) (text d.2)=some (encC none):=by
    rw[bP.j0,if_pos rfl];rfl
   by_cases h3:c.1=0
   ·rw[if_pos ((eX _).2 h3),if_pos (.inl h3),e0]
   ·rw[if_neg (fun q=>h3 ((eX _).1 q))]
    by_cases h4:d.1=0
    ·rw[if_pos ((eX _).2 h4),if_pos (.inr (.inl h4)),e0]
    ·rw[if_neg (fun q=>h4 ((eX _).1 q)),pX bg bs (by omega) (by omega),Option.bind_some]
     by_cases h5:gcdI c.1 d.1∣d.2+ -c.2
     ·have g0:gcdI c.1 d.1≠0:=by have:=wJ (a:=c.1) h4;omega
      have bu:Bd 101 (bezU c.1 d.1):=(bezU_bd hd.2.1 h4).mono (by omega)
      have bq:Bd 101 (Int.fdiv (d.2+ -c.2) (gcdI c.1 d.1)):=bs.fdiv g0
      have bk:Bd 202 (bezU c.1 d.1*Int.fdiv (d.2+ -c.2) (gcdI c.1 d.1)):=(bu.mul bq).mono (by omega)
      have bl:Bd 200 (lcmI c.1 d.1):=(lcmI_bd hc.2.1 hd.2.1).mono (by omega)
      have bp:Bd 302 (bezU c.1 d.1*Int.fdiv (d.2+ -c.2) (gcdI c.1 d.1)*c.1):=(bk.mul hc.2.1).mono (by omega)
      have bt:Bd 303 (metS c d):=(Bd.add (m:=302) (hc.2.2.mono (by omega)) bp)
      have z0:jU.f (text c.1) (text d.1)=some (text (gcdI c.1 d.1),text (bezU c.1 d.1),text (bezV c.1 d.1),0):=by
       unfold jU.f
       rw[if_pos (nP hc.2.1 hd.2.1 (by omega) (by omega)),if_pos (lY hc.2.1 hd.2.1 (by omega) (by omega)),bU,bU]
      have wl:=wr_ok (m:=200) bl (by omega)
      have z1:lZ.f (text c.1) (text d.1)=some (text (lcmI c.1 d.1),0):=by
       unfold lZ.f
       rw[if_pos (nP hc.2.1 hd.2.1 (by omega) (by omega)),if_pos (lY hc.2.1 hd.2.1 (by omega) (by omega)),bU,bU,wl.1,wl.2]
      rw[decide_eq_true h5,if_neg (by rintro(q|q|q) <;> contradiction)]
      show bP.j0 (k+1+1) _ _ false _ _ _ _ _ _=_
      rw[bP.j0,if_neg (by simp),z0,Option.bind_some,quo_at 101 bs bg (by omega) (by omega),if_neg g0,Option.bind_some]
      unfold dO.f
      rw[Option.bind_some,tC bu bq (by omega) (by omega),Option.bind_some,z1,Option.bind_some,Option.bind_some,tC (n:=202) bk (hc.2.1.mono (by omega)) (by omega) (by omega),Option.bind_some,
       add_val (n:=302) (hc.2.2.mono (by omega)) bp (by omega) (by omega),Option.bind_some]
      show((bI.f (k+1) (text (lcmI c.1 d.1)) (text (metS c d))).bind _)=_
      rw[oZ (n:=303) (bl.mono (by omega)) bt (by omega) (by omega),Option.bind_some]
     ·rw[decide_eq_false h5,if_pos (.inr (.inr h5))];exact e0
theorem qW{c:Int×Int}:((false==false)&&((text c.1).toList==(⟨#[48]⟩:ByteArray).toList&&(text c.2).toList==(⟨#[48]⟩:ByteArray).toList))=true↔c.1=0∧c.2=0:=by
 have e:(⟨#[48]⟩:ByteArray).toList=([48]:List UInt8):=by rw[toList_data]
 rw[e]
 simp only[BEq.rfl,Bool.true_and,Bool.and_eq_true,beq_iff_eq,eX]
def topC:Int×Int:=(1,0)
theorem top_val:dF.f=some (encC (some topC)):=by
 have t1:encC (some topC)=(false,⟨#[49]⟩,⟨#[48]⟩):=by decide +kernel
 rw[t1];rfl
def quoC(M:Nat)(c d:Int×Int):Option (Int×Int):=if d.1=0∧d.2=0 then none else if d.1=0 then(if d.2∣c.1 then some (cls M (Int.fdiv c.1 d.2) (Int.fdiv c.2 d.2)) else some topC) else if c.1=0∧c.2=0 then some c else some topC
def remC(M:Nat)(c d:Int×Int):Option (Int×Int):=if d.1=0∧d.2=0 then none else if d.1=0∧d.2∣c.1 then some (cls M 0 (Int.fmod c.2 d.2)) else some (cls M (gcdI c.1 (gcdI d.1 d.2)) c.2)
theorem quo1_val{c d:Int×Int}(hc:kK (some c))(hd:kK (some d))(k:Nat):fK.f (k+2) false (text c.1) (text c.2) false (text d.1) (text d.2)=some (encC (quoC 100 c d)):=by
 unfold fK.f quoC dY.f
 rw[Option.bind_some]
 by_cases h1:d.1=0∧d.2=0
 ·rw[if_pos (qW.2 h1),if_pos h1];rfl
 ·rw[if_neg (fun q=>h1 (qW.1 q)),if_neg h1]
  by_cases h2:d.1=0
  ·have h3:d.2≠0:=fun q=>h1 ⟨h2,q⟩
   rw[if_pos ((eX _).2 h2),if_pos h2,pX hd.2.2 hc.2.1 (by omega) (by omega),Option.bind_some]
   by_cases h4:d.2∣c.1
   ·rw[if_pos (decide_eq_true h4),if_pos h4,quo_at 100 hc.2.1 hd.2.2 (by omega) (by omega),if_neg h3,Option.bind_some]
    unfold dO.f
    rw[Option.bind_some,quo_at 100 hc.2.2 hd.2.2 (by omega) (by omega),if_neg h3,Option.bind_some,Option.bind_some,oZ (hc.2.1.fdiv h3) (hc.2.2.fdiv h3) (by omega) (by omega),Option.bind_some]
   ·rw[if_neg (by simpa using h4),if_neg h4,top_val];rfl
  ·rw[if_neg (fun q=>h2 ((eX _).1 q)),if_neg h2,Option.bind_some]
   by_cases h5:c.1=0∧c.2=0
   ·rw[if_pos (qW.2 h5),if_pos h5];rfl
   ·rw[if_neg (fun q=>h5 (qW.1 q)),if_neg h5,top_val];rfl
theorem gcd2_bd{x y:Int}(hx:Bd 100 x)(hy:Bd 100 y):Bd 101 (gcdI x y):=by
 have:=lC x y
 unfold Bd at *
 rw[Nat.pow_succ]
 generalize (10:Nat) ^ 100=P at *
 omega
theorem gcd3_bd{x y:Int}(hx:Bd 100 x)(hy:Bd 101 y):Bd 102 (gcdI x y):=by
 have:=lC x y
 have h1:=hx.mono (show 100≤101 by omega)
 unfold Bd at *
 rw[Nat.pow_succ]
 generalize (10:Nat) ^ 101=P at *
 omega
theorem rem1_val{c d:Int×Int}(hc:kK (some c))(hd:kK (some d))(k:Nat):dE.f (k+2) false (text c.1) (text c.2) false (text d.1) (text d.2)=some (encC (remC 100 c d)):=by
 have z0:Bd 100 0:=Nat.pow_pos (by omega)
 unfold dE.f remC dY.f
 rw[Option.bind_some]
 by_cases h1:d.1=0∧d.2=0
 ·rw[if_pos (qW.2 h1),if_pos h1];rfl
 ·rw[if_neg (fun q=>h1 (qW.1 q)),if_neg h1]
  have els:dE.j0 (k+2) false false (text c.1) (text c.2) false (text d.1) (text d.2)=some (encC (some (cls 100 (gcdI c.1 (gcdI d.1 d.2)) c.2))):=by
   rw[dE.j0,if_neg (by simp),qV hd.2.1 hd.2.2 (by omega) (by omega),Option.bind_some,qV (n:=101) (hc.2.1.mono (by omega)) (gcd2_bd hd.2.1 hd.2.2) (by omega) (by omega),Option.bind_some,oZ (n:=102) (gcd3_bd hc.2.1 (gcd2_bd hd.2.1 hd.2.2)) (hc.2.2.mono (by omega)) (by omega) (by omega),Option.bind_some]
  by_cases h2:d.1=0
  ·have h3:d.2≠0:=fun q=>h1 ⟨h2,q⟩
   rw[if_pos ((eX _).2 h2),pX hd.2.2 hc.2.1 (by omega) (by omega),Option.bind_some]
   by_cases h4:d.2∣c.1
   ·rw[if_pos ⟨h2,h4⟩,decide_eq_true h4,dE.j0,if_pos rfl,uD 100 hc.2.2 hd.2.2 (by omega) (by omega),if_neg h3,Option.bind_some]
    unfold dO.f
    rw[Option.bind_some,show(⟨#[48]⟩:ByteArray)=text 0 from uA.symm,oZ z0 (hd.2.2.fmod h3) (by omega) (by omega),Option.bind_some]
   ·rw[if_neg (fun q=>h4 q.2),decide_eq_false h4];exact els
  ·rw[if_neg (fun q=>h2 ((eX _).1 q)),if_neg (fun q=>h2 q.1)];exact els
def bothO(F:Int×Int→Int×Int→Option (Int×Int)):Option (Int×Int)→Option (Int×Int)→Option (Int×Int)
 |some c,some d=>F c d
 |_,_=>none
def chk2C(e1:Bool)(m1 r1:ByteArray)(e2:Bool)(m2 r2:ByteArray):Int:=if chkC e1 m1 r1=0 then chkC e2 m2 r2 else chkC e1 m1 r1
def decC(e:Bool)(m r:ByteArray):Option (Int×Int):=if e=true then none else some (aT m,aT r)
theorem tH(o:Option (Int×Int)):decC (encC o).1 (encC o).2.1 (encC o).2.2=o:=by
 cases o with
 |none=>rfl
 |some c=>
  show(if false=true then none else some (aT (text c.1),aT (text c.2)))=_
  rw[if_neg (by simp),bU,bU]
theorem both_val{e1:Bool}{m1 r1:ByteArray}{e2:Bool}{m2 r2:ByteArray}(h1:m1.size≤1000000)(h2:r1.size≤1000000)(h3:m2.size≤1000000)(h4:r2.size≤1000000)(k:Nat)(hk:5≤k):fZ.f k e1 m1 r1 e2 m2 r2=some (chk2C e1 m1 r1 e2 m2 r2):=by
 unfold fZ.f chk2C
 rw[uT e1 m1 r1 h1 h2 k hk,Option.bind_some]
 by_cases h:chkC e1 m1 r1=0
 ·rw[if_pos h,if_pos h,uT e2 m2 r2 h3 h4 k hk,Option.bind_some]
 ·rw[if_neg h,if_neg h]
def resC(F:Option (Int×Int)→Option (Int×Int)→Option (Int×Int))(e1:Bool)(m1 r1:ByteArray)(e2:Bool)(m2 r2:ByteArray):Bool×ByteArray×ByteArray×Int:=
 if chk2C e1 m1 r1 e2 m2 r2=0 then((encC (F (decC e1 m1 r1) (decC e2 m2 r2))).1,(encC (F (decC e1 m1 r1) (decC e2 m2 r2))).2.1,(encC (F (decC e1 m1 r1) (decC e2 m2 r2))).2.2,0) else(false,⟨#[]⟩,⟨#[]⟩,chk2C e1 m1 r1 e2 m2 r2)
theorem chk2C_ok{e1:Bool}{m1 r1:ByteArray}{e2:Bool}{m2 r2:ByteArray}(h:chk2C e1 m1 r1 e2 m2 r2=0):∃c d,kK c∧kK d∧(e1,m1,r1)=encC c∧(e2,m2,r2)=encC d:=by
 unfold chk2C at h
 by_cases h1:chkC e1 m1 r1=0
 ·rw[if_pos h1] at h
  obtain⟨c,gc,ec⟩:=chkC_ok h1
  obtain⟨d,gd,ed⟩:=chkC_ok h
  exact⟨c,d,gc,gd,ec,ed⟩
 ·rw[if_neg h1] at h;exact absurd h h1
def few4(m1 r1 m2 r2:ByteArray):Prop:=m1.size≤1000000∧r1.size≤1000000∧m2.size≤1000000∧r2.size≤1000000
instance (m1 r1 m2 r2:ByteArray):Decidable (few4 m1 r1 m2 r2):=inferInstanceAs (Decidable (_∧_))
theorem sG{G:Bool→ByteArray→ByteArray→Bool→ByteArray→ByteArray→Option (Bool×ByteArray×ByteArray)}{F:Int×Int→Int×Int→Option (Int×Int)}
 (hF:∀c d,kK (some c)→kK (some d)→G false (text c.1) (text c.2) false (text d.1) (text d.2)=some (encC (F c d)))
 (e1:Bool) (m1 r1:ByteArray) (e2:Bool) (m2 r2:ByteArray) (hz:few4 m1 r1 m2 r2) (k:Nat) (hk:5≤k):aZ.f G k e1 m1 r1 e2 m2 r2=some (resC (bothO F) e1 m1 r1 e2 m2 r2):=by
 obtain⟨k,rfl⟩:∃j,k=j+1:=⟨k-1,by omega⟩
 unfold aZ.f resC
 rw[both_val hz.1 hz.2.1 hz.2.2.1 hz.2.2.2 _ hk,Option.bind_some]
 by_cases h:chk2C e1 m1 r1 e2 m2 r2=0
 ·obtain⟨c,d,gc,gd,ec,ed⟩:=chk2C_ok h
  rw[if_pos h,if_pos h]
  have hc:=tH c
  have hd:=tH d
  rw[←ec] at hc
  rw[←ed] at hd
  simp only at hc hd
  rw[hc,hd]
  cases c with
  |none=>
   obtain⟨rfl,rfl,rfl⟩:e1=true∧m1=⟨#[]⟩∧r1=⟨#[]⟩:=by simpa[encC] using ec
   rw[if_pos rfl,aZ.j0,if_pos rfl]
   rfl
  |some c=>
   obtain⟨rfl,rfl,rfl⟩:e1=false∧m1=text c.1∧r1=text c.2:=by simpa[encC] using ec
   rw[if_neg (by simp)]
   cases d with
   |none=>
    obtain⟨rfl,rfl,rfl⟩:e2=true∧m2=⟨#[]⟩∧r2=⟨#[]⟩:=by simpa[encC] using ed
    rw[aZ.j0,if_pos rfl]
    rfl
   |some d=>
    obtain⟨rfl,rfl,rfl⟩:e2=false∧m2=text d.1∧r2=text d.2:=by simpa[encC] using ed
    rw[aZ.j0,if_neg (by simp),hF c d gc gd,Option.bind_some]
    rfl
 ·rw[if_neg h,if_neg h]
def joinO(M:Nat):Option (Int×Int)→Option (Int×Int)→Option (Int×Int)
 |none,d=>d
 |some c,none=>some c
 |some c,some d=>some (joinC M c d)
theorem join_val(e1:Bool)(m1 r1:ByteArray)(e2:Bool)(m2 r2:ByteArray)(hz:few4 m1 r1 m2 r2)(k:Nat)(hk:5≤k):gB.f k e1 m1 r1 e2 m2 r2=some (resC (joinO 100) e1 m1 r1 e2 m2 r2):=by
 obtain⟨k,rfl⟩:∃j,k=j+1:=⟨k-1,by omega⟩
 unfold gB.f resC
 rw[both_val hz.1 hz.2.1 hz.2.2.1 hz.2.2.2 _ hk,Option.bind_some]
 by_cases h:chk2C e1 m1 r1 e2 m2 r2=0
 ·obtain⟨c,d,gc,gd,ec,ed⟩:=chk2C_ok h
  rw[if_pos h,if_pos h]
  have hc:=tH c
  have hd:=tH d
  rw[←ec] at hc
  rw[←ed] at hd
  simp only at hc hd
  rw[hc,hd]
  cases c with
  |none=>
   obtain⟨rfl,rfl,rfl⟩:e1=true∧m1=⟨#[]⟩∧r1=⟨#[]⟩:=by simpa[encC] using ec
   rw[if_pos rfl]
   show some (e2,m2,r2,(0:Int))=some ((encC d).1,(encC d).2.1,(encC d).2.2,0)
   rw[←ed]
  |some c=>
   obtain⟨rfl,rfl,rfl⟩:e1=false∧m1=text c.1∧r1=text c.2:=by simpa[encC] using ec
   rw[if_neg (by simp)]
   cases d with
   |none=>
    obtain⟨rfl,rfl,rfl⟩:e2=true∧m2=⟨#[]⟩∧r2=⟨#[]⟩:=by simpa[encC] using ed
    rw[if_pos rfl]
    rfl
   |some d=>
    obtain⟨rfl,rfl,rfl⟩:e2=false∧m2=text d.1∧r2=text d.2:=by simpa[encC] using ed
    have bg:=gcd2_bd gc.2.1 gd.2.1
    have bs:Bd 101 (c.2+ -d.2):=gc.2.2.add gd.2.2.neg
    have bj:=joinM_goodBd gc gd
    rw[if_neg (by simp),qV gc.2.1 gd.2.1 (by omega) (by omega),Option.bind_some,sub_val gc.2.2 gd.2.2 (by omega) (by omega),Option.bind_some,qV bg bs (by omega) (by omega),Option.bind_some,
     show gcdI (gcdI c.1 d.1) (c.2+ -d.2)=joinM c d from by unfold joinM;rw[Int.sub_eq_add_neg],oZ bj (gc.2.2.mono (by omega)) (by omega) (by omega),Option.bind_some]
    rfl
 ·rw[if_neg h,if_neg h]
def memO:Option (Int×Int)→Int→Prop
 |none,_=>False
 |some c,a=>clsM c a
instance (c:Int×Int)(a:Int):Decidable (clsM c a):=inferInstanceAs (Decidable (_∣_))
instance:(o:Option (Int×Int))→(a:Int)→Decidable (memO o a)
 |none,_=> .isFalse id
 |some c,a=>inferInstanceAs (Decidable (clsM c a))
def hldE(e:Bool)(m r a:ByteArray):Int:=if chkC e m r=0 then chkI a else chkC e m r
theorem text_eq(x y:Int):((text x).toList==(text y).toList)=decide (x=y):=by
 by_cases h:x=y
 ·rw[decide_eq_true h,h];exact beq_self_eq_true _
 ·rw[decide_eq_false h]
  simp only[beq_eq_false_iff_ne,ne_eq,toList_data]
  exact fun q=>h (text_inj (rY q))
theorem clsM_iff{c:Int×Int}(hv:clsV c)(a:Int):clsM c a↔a%c.1=c.2:=by
 unfold clsM
 rw[←emod_eq_iff,hv.2]
theorem holds_val(e:Bool)(m r a:ByteArray)(hm:m.size≤1000000)(hr:r.size≤1000000)(ha:a.size≤1000000)(k:Nat)(hk:5≤k):fQ.f k e m r a=some (if hldE e m r a=0 then decide (memO (decC e m r) (aT a)) else false,hldE e m r a):=by
 unfold fQ.f hldE
 rw[uT e m r hm hr k hk,Option.bind_some]
 by_cases h:chkC e m r=0
 ·obtain⟨o,go,eo⟩:=chkC_ok h
  have hd:=tH o
  rw[←eo] at hd
  simp only at hd
  unfold fE.f
  rw[if_pos h,if_pos h,if_pos (show a.size≤9223372036854775807 by omega),Option.bind_some]
  by_cases h2:chkI a=0
  ·obtain⟨h3,h4⟩:=chk_ok h2
   obtain⟨y,rfl⟩:=nY a h3
   have by':Bd 4096 y:=sD _ (by rw[←jT];exact h4)
   rw[if_pos h2,if_pos h2,hd,bU,h2]
   cases o with
   |none=>
    obtain⟨rfl,rfl,rfl⟩:e=true∧m=⟨#[]⟩∧r=⟨#[]⟩:=by simpa[encC] using eo
    rw[if_pos rfl];rfl
   |some c=>
    obtain⟨rfl,rfl,rfl⟩:e=false∧m=text c.1∧r=text c.2:=by simpa[encC] using eo
    rw[if_neg (by simp)]
    have ci:=clsM_iff go.1 y
    by_cases h5:c.1=0
    ·rw[if_pos ((eX _).2 h5),text_eq]
     congr 2
     refine decide_eq_decide.2 ?_
     show y=c.2↔clsM c y
     rw[ci,h5,Int.emod_zero]
    ·have hf:Int.fmod y c.1=y%c.1:=Int.fmod_eq_emod_of_nonneg _ go.1.1
     rw[if_neg (fun q=>h5 ((eX _).1 q)),uD 4096 by' (go.2.1.mono (by omega)) (by omega) (by omega),if_neg h5,Option.bind_some]
     unfold dO.f
     rw[Option.bind_some,hf,text_eq]
     congr 2
     exact decide_eq_decide.2 ci.symm
  ·rw[if_neg h2,if_neg h2]
 ·rw[if_neg h,if_neg h,if_neg h]
theorem zG{a b m:Int}{n:Nat}(ha:Bd n a)(hb:Bd n b)(hm:Bd n m)(h0:0<m)(hn:1≤n)(h4:n≤4000):gZ.f (text a) (text b) (text m)=some (text ((a-b)%m),0):=by
 have m0:m≠0:=by omega
 have fa:Int.fmod a m=a%m:=Int.fmod_eq_emod_of_nonneg _ (by omega)
 have fb:Int.fmod b m=b%m:=Int.fmod_eq_emod_of_nonneg _ (by omega)
 have ba:=hm.fmod (x:=a) m0
 have bb:=hm.fmod (x:=b) m0
 have bs:Bd (n+1) (Int.fmod a m+ -Int.fmod b m):=ba.add bb.neg
 have fs:Int.fmod (Int.fmod a m+ -Int.fmod b m) m=(a-b)%m:=by
  rw[Int.fmod_eq_emod_of_nonneg _ (by omega),fa,fb,←Int.sub_eq_add_neg,←Int.sub_emod]
 unfold gZ.f
 rw[uD n ha hm hn (by omega),if_neg m0,Option.bind_some,if_pos rfl,uD n hb hm hn (by omega),if_neg m0,Option.bind_some,if_pos rfl,sub_val ba bb hn (by omega),Option.bind_some,uD (n+1) bs (hm.mono (by omega)) (by omega) (by omega),if_neg m0,Option.bind_some,fs]
theorem emod_bd{a m:Int}{n:Nat}(hm:Bd n m)(h0:0<m):Bd n (a%m):=by
 have:=hm.fmod (x:=a) (show m≠0 by omega)
 rwa [Int.fmod_eq_emod_of_nonneg _ (by omega)] at this
def vS(o:Option (Int×Int))(low:Int):ByteArray×Int:=match o with
 |none=>(⟨#[]⟩,16)
 |some c=>if c.1=0 then(if c.2<low then(⟨#[]⟩,6) else(text c.2,0)) else(text (low+(c.2-low)%c.1),0)
def qX(o:Option (Int×Int))(high:Int):ByteArray×Int:=match o with
 |none=>(⟨#[]⟩,16)
 |some c=>if c.1=0 then(if high<c.2 then(⟨#[]⟩,6) else(text c.2,0)) else(text (high+ -((high-c.2)%c.1)),0)
theorem up_val{lo m r:Int}(hl:Bd 300 lo)(hm:Bd 100 m)(hr:Bd 100 r)(h0:0<m):pR (text lo) (text m) (text r)=some (text (lo+(r-lo)%m),0):=by
 unfold pR
 rw[zG (n:=300) (hr.mono (by omega)) hl (hm.mono (by omega)) h0 (by omega) (by omega),Option.bind_some,if_pos rfl,add_at 300 hl ((emod_bd hm h0).mono (by omega)) (by omega) (by omega),Option.bind_some]
theorem down_val{hi m r:Int}(hl:Bd 300 hi)(hm:Bd 100 m)(hr:Bd 100 r)(h0:0<m):mJ (text hi) (text m) (text r)=some (text (hi+ -((hi-r)%m)),0):=by
 unfold mJ
 rw[zG (n:=300) hl (hr.mono (by omega)) (hm.mono (by omega)) h0 (by omega) (by omega),Option.bind_some,if_pos rfl,sub_at 300 hl ((emod_bd hm h0).mono (by omega)) (by omega) (by omega),Option.bind_some]
theorem xZ{g1:ByteArray→ByteArray→Option (ByteArray×Int)}{g2:ByteArray→Option Bool}{R:Option (Int×Int)→Int→ByteArray×Int}(e:Bool)(m r a:ByteArray)(hm:m.size≤1000000)(hr:r.size≤1000000)(ha:a.size≤300)(k:Nat)(hk:5≤k)
 (hN:∀y,R none y=(⟨#[]⟩,16))
 (h1:∀(c:Int×Int) (y:Int),kK (some c)→Bd 300 y→a=text y→c.1≠0→g1 (text c.1) (text c.2)=some (R (some c) y))
 (h2:∀(c:Int×Int) (y:Int),kK (some c)→Bd 300 y→a=text y→c.1=0→∃b,g2 (text c.2)=some b∧R (some c) y=if b=true then(⟨#[]⟩,6) else(text c.2,0)) :
 gX.f k g1 g2 e m r a=some (if hldE e m r a=0 then R (decC e m r) (aT a) else(⟨#[]⟩,hldE e m r a)):=by
 unfold gX.f hldE
 rw[uT e m r hm hr k hk,Option.bind_some]
 by_cases h:chkC e m r=0
 ·obtain⟨o,go,eo⟩:=chkC_ok h
  have hd:=tH o
  rw[←eo] at hd
  simp only at hd
  unfold fE.f
  rw[if_pos h,if_pos h,if_pos (show a.size≤9223372036854775807 by omega),Option.bind_some]
  by_cases hc:chkI a=0
  ·obtain⟨h3,h4⟩:=chk_ok hc
   obtain⟨y,ey⟩:=nY a h3
   have by':Bd 300 y:=sD _ (by rw[←jT,←ey];exact Nat.le_trans (digN_le _) ha)
   have iy:aT a=y:=by rw[ey,bU]
   rw[if_pos hc,if_pos hc,hd,iy]
   cases o with
   |none=>
    obtain⟨rfl,rfl,rfl⟩:e=true∧m=⟨#[]⟩∧r=⟨#[]⟩:=by simpa[encC] using eo
    rw[if_pos rfl,hN]
   |some c=>
    obtain⟨rfl,rfl,rfl⟩:e=false∧m=text c.1∧r=text c.2:=by simpa[encC] using eo
    rw[if_neg (by simp)]
    by_cases h5:c.1=0
    ·obtain⟨b,hb,hR⟩:=h2 c y go by' ey h5
     rw[if_pos ((eX _).2 h5),hb,Option.bind_some,hR]
     cases b
     ·rw[if_neg (by simp),if_neg (by simp)]
     ·rw[if_pos rfl,if_pos rfl]
    ·rw[if_neg (fun q=>h5 ((eX _).1 q)),h1 c y go by' ey h5,Option.bind_some]
  ·rw[if_neg hc,if_neg hc]
 ·rw[if_neg h,if_neg h,if_neg h]
theorem least_val(e:Bool)(m r a:ByteArray)(hm:m.size≤1000000)(hr:r.size≤1000000)(ha:a.size≤300)(k:Nat)(hk:5≤k):lJ.f k e m r a=some (if hldE e m r a=0 then vS (decC e m r) (aT a) else(⟨#[]⟩,hldE e m r a)):=by
 unfold lJ.f
 refine xZ e m r a hm hr ha k hk (fun _=>rfl) (fun c y gc by' ey h0=> ?_) (fun c y gc by' ey h0=> ?_)
 ·rw[ey,up_val by' gc.2.1 gc.2.2 (by have:=gc.1.1;omega)]
  unfold vS
  simp only
  rw[if_neg h0]
 ·refine⟨decide (c.2<y),?_,?_⟩
  ·unfold qE
   rw[ey,sF (gc.2.2.mono (by omega)) by' (by omega) (by omega)]
  ·unfold vS
   simp only
   rw[if_pos h0]
   by_cases h:c.2<y
   ·rw[if_pos h,if_pos (decide_eq_true h)]
   ·rw[if_neg h,if_neg (by simpa using h)]
theorem greatest_val(e:Bool)(m r a:ByteArray)(hm:m.size≤1000000)(hr:r.size≤1000000)(ha:a.size≤300)(k:Nat)(hk:5≤k):jX.f k e m r a=some (if hldE e m r a=0 then qX (decC e m r) (aT a) else(⟨#[]⟩,hldE e m r a)):=by
 unfold jX.f
 refine xZ e m r a hm hr ha k hk (fun _=>rfl) (fun c y gc by' ey h0=> ?_) (fun c y gc by' ey h0=> ?_)
 ·rw[ey,down_val by' gc.2.1 gc.2.2 (by have:=gc.1.1;omega)]
  unfold qX
  simp only
  rw[if_neg h0]
 ·refine⟨decide (y<c.2),?_,?_⟩
  ·unfold nU
   rw[ey,sF by' (gc.2.2.mono (by omega)) (by omega) (by omega)]
  ·unfold qX
   simp only
   rw[if_pos h0]
   by_cases h:y<c.2
   ·rw[if_pos h,if_pos (decide_eq_true h)]
   ·rw[if_neg h,if_neg (by simpa using h)]
end Go.Proofs.YtignanmmgaldeaaGreatDoor.CongM
end
section
set_option linter.unusedVariables false
set_option linter.unusedSimpArgs false
namespace Go.Proofs.YtignanmmgaldeaaGreatDoor
open Go.RowKit Go.Proofs.YtignanmmgaldeaaGreatDoor.RefP Go.Proofs.YtignanmmgaldeaaGreatDoor.PCongI Go.Proofs.YtignanmmgaldeaaGreatDoor.CongM Go.Proofs.YtignanmmgaldeaaGreatDoorW.PrintWords Go.Proofs.YtignanmmgaldeaaGreatDoorW.PrintLast
def kW.f(a0_0:Bool)(a0_1 a0_2:ByteArray)(a1:ByteArray):Option (Bool×Int):=if a0_1.size≤1000000∧a0_2.size≤1000000∧a1.size≤1000000 then some (if hldE a0_0 a0_1 a0_2 a1=0 then decide (memO (decC a0_0 a0_1 a0_2) (aT a1)) else false,hldE a0_0 a0_1 a0_2 a1) else none
theorem kW.calls(a0_0:Bool)(a0_1 a0_2:ByteArray)(a1:ByteArray)(b1:Bool)(i2:Int)(w:World)(hG:GW w)(h:kW.f a0_0 a0_1 a0_2 a1=some (b1,i2)) :
 Calls Tryz.prog 60 #[.agg #[.bool a0_0,.string a0_1,.string a0_2],.string a1] w fun e w'=>e= .returned (.tuple #[.bool b1,.int .i64 i2])∧Below w.heap.size w w':=by
 unfold kW.f at h
 split at h
 ·rename_i hs
  rw[←holds_val a0_0 a0_1 a0_2 a1 hs.1 hs.2.1 hs.2.2 5 (Nat.le_refl _)] at h
  exact fQ.calls 5 a0_0 a0_1 a0_2 a1 b1 i2 w hG h
 ·cases h
def pF.f(a0_0:Bool)(a0_1 a0_2:ByteArray)(a1_0:Bool)(a1_1 a1_2:ByteArray):Option (Bool×ByteArray×ByteArray×Int):=if few4 a0_1 a0_2 a1_1 a1_2 then some (resC (joinO 100) a0_0 a0_1 a0_2 a1_0 a1_1 a1_2) else none
theorem pF.calls(a0_0:Bool)(a0_1 a0_2:ByteArray)(a1_0:Bool)(a1_1 a1_2:ByteArray)(b1:Bool)(s2:ByteArray)(s3:ByteArray)(i4:Int)(w:World)(hG:GW w)(h:pF.f a0_0 a0_1 a0_2 a1_0 a1_1 a1_2=some (b1,s2,s3,i4)) :
 Calls Tryz.prog 42 #[.agg #[.bool a0_0,.string a0_1,.string a0_2],.agg #[.bool a1_0,.string a1_1,.string a1_2]] w fun e w'=>e= .returned (.tuple #[.agg #[.bool b1,.string s2,.string s3],.int .i64 i4])∧Below w.heap.size w w':=by
 unfold pF.f at h
 split at h
 ·rename_i hs
  rw[←join_val a0_0 a0_1 a0_2 a1_0 a1_1 a1_2 hs 5 (Nat.le_refl _)] at h
  exact gB.calls 5 a0_0 a0_1 a0_2 a1_0 a1_1 a1_2 b1 s2 s3 i4 w hG h
 ·cases h
def jC.f(a0_0:Bool)(a0_1 a0_2:ByteArray)(a1:ByteArray):Option (ByteArray×Int):=if a0_1.size≤1000000∧a0_2.size≤1000000∧a1.size≤300 then some (if hldE a0_0 a0_1 a0_2 a1=0 then vS (decC a0_0 a0_1 a0_2) (aT a1) else(⟨#[]⟩,hldE a0_0 a0_1 a0_2 a1)) else none
theorem jC.calls(a0_0:Bool)(a0_1 a0_2:ByteArray)(a1:ByteArray)(s1:ByteArray)(i2:Int)(w:World)(hG:GW w)(h:jC.f a0_0 a0_1 a0_2 a1=some (s1,i2)) :
 Calls Tryz.prog 62 #[.agg #[.bool a0_0,.string a0_1,.string a0_2],.string a1] w fun e w'=>e= .returned (.tuple #[.string s1,.int .i64 i2])∧Below w.heap.size w w':=by
 unfold jC.f at h
 split at h
 ·rename_i hs
  rw[←least_val a0_0 a0_1 a0_2 a1 hs.1 hs.2.1 hs.2.2 5 (Nat.le_refl _)] at h
  exact lJ.calls 5 a0_0 a0_1 a0_2 a1 s1 i2 w hG h
 ·cases h
def iC.f(a0_0:Bool)(a0_1 a0_2:ByteArray)(a1:ByteArray):Option (ByteArray×Int):=if a0_1.size≤1000000∧a0_2.size≤1000000∧a1.size≤300 then some (if hldE a0_0 a0_1 a0_2 a1=0 then qX (decC a0_0 a0_1 a0_2) (aT a1) else(⟨#[]⟩,hldE a0_0 a0_1 a0_2 a1)) else none
theorem iC.calls(a0_0:Bool)(a0_1 a0_2:ByteArray)(a1:ByteArray)(s1:ByteArray)(i2:Int)(w:World)(hG:GW w)(h:iC.f a0_0 a0_1 a0_2 a1=some (s1,i2)) :
 Calls Tryz.prog 64 #[.agg #[.bool a0_0,.string a0_1,.string a0_2],.string a1] w fun e w'=>e= .returned (.tuple #[.string s1,.int .i64 i2])∧Below w.heap.size w w':=by
 unfold iC.f at h
 split at h
 ·rename_i hs
  rw[←greatest_val a0_0 a0_1 a0_2 a1 hs.1 hs.2.1 hs.2.2 5 (Nat.le_refl _)] at h
  exact jX.calls 5 a0_0 a0_1 a0_2 a1 s1 i2 w hG h
 ·cases h
def kT.o:Option (Int×Int)→Option (Int×Int)→Option (Int×Int):=bothO fun c d=>some (addC 100 c d)
theorem kT.val(a0_0:Bool)(a0_1 a0_2:ByteArray)(a1_0:Bool)(a1_1 a1_2:ByteArray)(hs:few4 a0_1 a0_2 a1_1 a1_2):nD.f 5 a0_0 a0_1 a0_2 a1_0 a1_1 a1_2=some (resC kT.o a0_0 a0_1 a0_2 a1_0 a1_1 a1_2):=by
 unfold nD.f
 rw[sG (F:=fun c d=>some (addC 100 c d)) (fun c d gc gd=>add1_val gc gd 4) a0_0 a0_1 a0_2 a1_0 a1_1 a1_2 hs 5 (Nat.le_refl _),Option.bind_some]
 rfl
def kT.f(a0_0:Bool)(a0_1 a0_2:ByteArray)(a1_0:Bool)(a1_1 a1_2:ByteArray):Option (Bool×ByteArray×ByteArray×Int):=if few4 a0_1 a0_2 a1_1 a1_2 then some (resC kT.o a0_0 a0_1 a0_2 a1_0 a1_1 a1_2) else none
theorem kT.calls(a0_0:Bool)(a0_1 a0_2:ByteArray)(a1_0:Bool)(a1_1 a1_2:ByteArray)(b1:Bool)(s2:ByteArray)(s3:ByteArray)(i4:Int)(w:World)(hG:GW w)(h:kT.f a0_0 a0_1 a0_2 a1_0 a1_1 a1_2=some (b1,s2,s3,i4)) :
 Calls Tryz.prog 50 #[.agg #[.bool a0_0,.string a0_1,.string a0_2],.agg #[.bool a1_0,.string a1_1,.string a1_2]] w fun e w'=>e= .returned (.tuple #[.agg #[.bool b1,.string s2,.string s3],.int .i64 i4])∧Below w.heap.size w w':=by
 unfold kT.f at h
 split at h
 ·rename_i hs
  rw[←kT.val a0_0 a0_1 a0_2 a1_0 a1_1 a1_2 hs] at h
  exact nD.calls 5 a0_0 a0_1 a0_2 a1_0 a1_1 a1_2 b1 s2 s3 i4 w hG h
 ·cases h
def kU.o:Option (Int×Int)→Option (Int×Int)→Option (Int×Int):=bothO fun c d=>some (mulC 100 c d)
theorem kU.val(a0_0:Bool)(a0_1 a0_2:ByteArray)(a1_0:Bool)(a1_1 a1_2:ByteArray)(hs:few4 a0_1 a0_2 a1_1 a1_2):nG.f 5 a0_0 a0_1 a0_2 a1_0 a1_1 a1_2=some (resC kU.o a0_0 a0_1 a0_2 a1_0 a1_1 a1_2):=by
 unfold nG.f
 rw[sG (F:=fun c d=>some (mulC 100 c d)) (fun c d gc gd=>mul1_val gc gd 4) a0_0 a0_1 a0_2 a1_0 a1_1 a1_2 hs 5 (Nat.le_refl _),Option.bind_some]
 rfl
def kU.f(a0_0:Bool)(a0_1 a0_2:ByteArray)(a1_0:Bool)(a1_1 a1_2:ByteArray):Option (Bool×ByteArray×ByteArray×Int):=if few4 a0_1 a0_2 a1_1 a1_2 then some (resC kU.o a0_0 a0_1 a0_2 a1_0 a1_1 a1_2) else none
theorem kU.calls(a0_0:Bool)(a0_1 a0_2:ByteArray)(a1_0:Bool)(a1_1 a1_2:ByteArray)(b1:Bool)(s2:ByteArray)(s3:ByteArray)(i4:Int)(w:World)(hG:GW w)(h:kU.f a0_0 a0_1 a0_2 a1_0 a1_1 a1_2=some (b1,s2,s3,i4)) :
 Calls Tryz.prog 54 #[.agg #[.bool a0_0,.string a0_1,.string a0_2],.agg #[.bool a1_0,.string a1_1,.string a1_2]] w fun e w'=>e= .returned (.tuple #[.agg #[.bool b1,.string s2,.string s3],.int .i64 i4])∧Below w.heap.size w w':=by
 unfold kU.f at h
 split at h
 ·rename_i hs
  rw[←kU.val a0_0 a0_1 a0_2 a1_0 a1_1 a1_2 hs] at h
  exact nG.calls 5 a0_0 a0_1 a0_2 a1_0 a1_1 a1_2 b1 s2 s3 i4 w hG h
 ·cases h
def iT.o:Option (Int×Int)→Option (Int×Int)→Option (Int×Int):=bothO fun c d=>meetC 100 c d
theorem iT.val(a0_0:Bool)(a0_1 a0_2:ByteArray)(a1_0:Bool)(a1_1 a1_2:ByteArray)(hs:few4 a0_1 a0_2 a1_1 a1_2):mG.f 5 a0_0 a0_1 a0_2 a1_0 a1_1 a1_2=some (resC iT.o a0_0 a0_1 a0_2 a1_0 a1_1 a1_2):=by
 unfold mG.f
 rw[sG (F:=fun c d=>meetC 100 c d) (fun c d gc gd=>meet_val gc gd 3) a0_0 a0_1 a0_2 a1_0 a1_1 a1_2 hs 5 (Nat.le_refl _),Option.bind_some]
 rfl
def iT.f(a0_0:Bool)(a0_1 a0_2:ByteArray)(a1_0:Bool)(a1_1 a1_2:ByteArray):Option (Bool×ByteArray×ByteArray×Int):=if few4 a0_1 a0_2 a1_1 a1_2 then some (resC iT.o a0_0 a0_1 a0_2 a1_0 a1_1 a1_2) else none
theorem iT.calls(a0_0:Bool)(a0_1 a0_2:ByteArray)(a1_0:Bool)(a1_1 a1_2:ByteArray)(b1:Bool)(s2:ByteArray)(s3:ByteArray)(i4:Int)(w:World)(hG:GW w)(h:iT.f a0_0 a0_1 a0_2 a1_0 a1_1 a1_2=some (b1,s2,s3,i4)) :
 Calls Tryz.prog 44 #[.agg #[.bool a0_0,.string a0_1,.string a0_2],.agg #[.bool a1_0,.string a1_1,.string a1_2]] w fun e w'=>e= .returned (.tuple #[.agg #[.bool b1,.string s2,.string s3],.int .i64 i4])∧Below w.heap.size w w':=by
 unfold iT.f at h
 split at h
 ·rename_i hs
  rw[←iT.val a0_0 a0_1 a0_2 a1_0 a1_1 a1_2 hs] at h
  exact mG.calls 5 a0_0 a0_1 a0_2 a1_0 a1_1 a1_2 b1 s2 s3 i4 w hG h
 ·cases h
def jD.o:Option (Int×Int)→Option (Int×Int)→Option (Int×Int):=bothO fun c d=>quoC 100 c d
theorem jD.val(a0_0:Bool)(a0_1 a0_2:ByteArray)(a1_0:Bool)(a1_1 a1_2:ByteArray)(hs:few4 a0_1 a0_2 a1_1 a1_2):nH.f 5 a0_0 a0_1 a0_2 a1_0 a1_1 a1_2=some (resC jD.o a0_0 a0_1 a0_2 a1_0 a1_1 a1_2):=by
 unfold nH.f
 rw[sG (F:=fun c d=>quoC 100 c d) (fun c d gc gd=>quo1_val gc gd 3) a0_0 a0_1 a0_2 a1_0 a1_1 a1_2 hs 5 (Nat.le_refl _),Option.bind_some]
 rfl
def jD.f(a0_0:Bool)(a0_1 a0_2:ByteArray)(a1_0:Bool)(a1_1 a1_2:ByteArray):Option (Bool×ByteArray×ByteArray×Int):=if few4 a0_1 a0_2 a1_1 a1_2 then some (resC jD.o a0_0 a0_1 a0_2 a1_0 a1_1 a1_2) else none
theorem jD.calls(a0_0:Bool)(a0_1 a0_2:ByteArray)(a1_0:Bool)(a1_1 a1_2:ByteArray)(b1:Bool)(s2:ByteArray)(s3:ByteArray)(i4:Int)(w:World)(hG:GW w)(h:jD.f a0_0 a0_1 a0_2 a1_0 a1_1 a1_2=some (b1,s2,s3,i4)) :
 Calls Tryz.prog 36 #[.agg #[.bool a0_0,.string a0_1,.string a0_2],.agg #[.bool a1_0,.string a1_1,.string a1_2]] w fun e w'=>e= .returned (.tuple #[.agg #[.bool b1,.string s2,.string s3],.int .i64 i4])∧Below w.heap.size w w':=by
 unfold jD.f at h
 split at h
 ·rename_i hs
  rw[←jD.val a0_0 a0_1 a0_2 a1_0 a1_1 a1_2 hs] at h
  exact nH.calls 5 a0_0 a0_1 a0_2 a1_0 a1_1 a1_2 b1 s2 s3 i4 w hG h
 ·cases h
def jE.o:Option (Int×Int)→Option (Int×Int)→Option (Int×Int):=bothO fun c d=>remC 100 c d
theorem jE.val(a0_0:Bool)(a0_1 a0_2:ByteArray)(a1_0:Bool)(a1_1 a1_2:ByteArray)(hs:few4 a0_1 a0_2 a1_1 a1_2):nI.f 5 a0_0 a0_1 a0_2 a1_0 a1_1 a1_2=some (resC jE.o a0_0 a0_1 a0_2 a1_0 a1_1 a1_2):=by
 unfold nI.f
 rw[sG (F:=fun c d=>remC 100 c d) (fun c d gc gd=>rem1_val gc gd 3) a0_0 a0_1 a0_2 a1_0 a1_1 a1_2 hs 5 (Nat.le_refl _),Option.bind_some]
 rfl
def jE.f(a0_0:Bool)(a0_1 a0_2:ByteArray)(a1_0:Bool)(a1_1 a1_2:ByteArray):Option (Bool×ByteArray×ByteArray×Int):=if few4 a0_1 a0_2 a1_1 a1_2 then some (resC jE.o a0_0 a0_1 a0_2 a1_0 a1_1 a1_2) else none
theorem jE.calls(a0_0:Bool)(a0_1 a0_2:ByteArray)(a1_0:Bool)(a1_1 a1_2:ByteArray)(b1:Bool)(s2:ByteArray)(s3:ByteArray)(i4:Int)(w:World)(hG:GW w)(h:jE.f a0_0 a0_1 a0_2 a1_0 a1_1 a1_2=some (b1,s2,s3,i4)) :
 Calls Tryz.prog 38 #[.agg #[.bool a0_0,.string a0_1,.string a0_2],.agg #[.bool a1_0,.string a1_1,.string a1_2]] w fun e w'=>e= .returned (.tuple #[.agg #[.bool b1,.string s2,.string s3],.int .i64 i4])∧Below w.heap.size w w':=by
 unfold jE.f at h
 split at h
 ·rename_i hs
  rw[←jE.val a0_0 a0_1 a0_2 a1_0 a1_1 a1_2 hs] at h
  exact nI.calls 5 a0_0 a0_1 a0_2 a1_0 a1_1 a1_2 b1 s2 s3 i4 w hG h
 ·cases h
end Go.Proofs.YtignanmmgaldeaaGreatDoor
end
