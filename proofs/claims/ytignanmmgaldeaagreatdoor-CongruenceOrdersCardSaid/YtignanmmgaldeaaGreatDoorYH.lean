/- Lemmas for the proof. -/
import Derived.Test.YtignanmmgaldeaaGreatDoorYG
section
set_option linter.unusedVariables false
set_option linter.unusedSimpArgs false
set_option maxHeartbeats 8000000
set_option maxRecDepth 100000
namespace Go.Proofs.YtignanmmgaldeaaGreatDoor.PRefA
open Go.RowKit Go.Proofs.YtignanmmgaldeaaGreatDoorW.PrintWords Go.Proofs.YtignanmmgaldeaaGreatDoorW.PrintLast Go.Proofs.YtignanmmgaldeaaGreatDoorW.PrintMore
attribute [local go_sem] dQ dR eH eP
def fQ.f(a0:ByteArray):Option (Int):=(aH.f a0).bind fun t157=>(if t157=true then(some (wrap64 ((a0.size:Int)-1))) else(some (a0.size:Int)))
theorem fQ.calls(a0:ByteArray)(r:Int)(w:World)(h:fQ.f a0=some r) :
 Calls Tryz.prog 149 #[.string a0] w fun e w'=>e= .returned (.int .i64 r)∧eQ w w':=by
 have H:((aH.f a0).bind fun l9=>(if l9=true then(some (wrap64 ((a0.size:Int)-1))) else(some (a0.size:Int))))=some r:=h;clear h;obtain⟨l9,A2,H⟩:=bi H;try dsimp only at H
 go_enter Tryz.func149,Tryz.ntmps149
 refine byC (P:=l9=true) (fun c3=> ?a30) (fun c3=> ?b30)
 case' a30=>
  subst c3;rw[if_pos rfl] at H;obtain rfl:=Option.some.inj H
 case' b30=>
  replace c3:=Bool.eq_false_iff.mpr c3;subst c3;rw[if_neg (show ¬(false=true) by decide)] at H;obtain rfl:=Option.some.inj H
 all_goals
  go_wp2_with(first|((with_reducible refine aC (f:=158) rfl ?_);refine gl_ 4 Tryz.func158 #[.string a0] (h:= ?_);(with_reducible refine(aH.calls a0 _ _ A2.out).mono ?_);rintro e w' ⟨rfl,⟨nd,rfl⟩⟩;refine⟨_,rfl,?_⟩))
  go_ret
  exact dr_
def eU.f(a0:ByteArray)(a1:Int):Option (Bool):=(fQ.f a0).bind fun t158=>(some (decide (t158≤a1)))
theorem eU.calls(a0:ByteArray)(a1:Int)(r:Bool)(w:World)(h:eU.f a0 a1=some r) :
 Calls Tryz.prog 150 #[.string a0,.int .i64 a1] w fun e w'=>e= .returned (.bool r)∧eQ w w':=by
 have H:((fQ.f a0).bind fun l9=>(some (decide (l9≤a1))))=some r:=h;clear h;obtain⟨l9,A3,H⟩:=bi H;try dsimp only at H
 obtain rfl:=Option.some.inj H;go_enter Tryz.func150,Tryz.ntmps150
 go_wp2_with(first|((with_reducible refine aC (f:=149) rfl ?_);refine gl_ 6 Tryz.func149 #[.string a0] (h:= ?_);(with_reducible refine(fQ.calls a0 l9 _ A3.out).mono ?_);rintro e w' ⟨rfl,⟨nd,rfl⟩⟩;refine⟨_,rfl,?_⟩))
 go_ret
 exact dr_
mutual
def dC.l0:Nat→List Int→List Int→List Int→List Int→Int→Option (List Int×List Int)
 |0,_,_,_,_,_=>none
 |k+1,x0,x1,x7,x8,x9=>if x9≥0 then(if 0≤x9 then(if x9<(x0.length:Int) then((some (([rd x0 x9]:List Int):List Int)).bind fun y173=>(if y173.length+x8.length<17592186044416 then((aU.f k (y173++x8)).bind fun t179=>(dC.l1 k x0 x1 x7 t179 x9)) else(none))) else(none)) else(none)) else((aU.f k x7).bind fun t169=>(some (t169,x8)))
def dC.l1:Nat→List Int→List Int→List Int→List Int→Int→Option (List Int×List Int)
 |0,_,_,_,_,_=>none
 |k+1,x0,x1,x7,x8,x9=>(dP.f k x8 x1).bind fun t182=>(if t182≥0 then((fB.f k x8 x1).bind fun t183=>(if 0≤x9 then(if x9<(x7.length:Int) then(dC.l1 k x0 x1 (x7.set (x9:Int).toNat (wrap64 ((rd x7 x9)+1))) t183 x9) else(none)) else(none))) else(dC.l0 k x0 x1 x7 x8 (wrap64 (x9-1))))
end
def dC.f(k:Nat)(l0:List Int)(l1:List Int):Option (List Int×List Int):=if 0≤(mx 0 (wrap64 ((wrap64 ((l0.length:Int)-(l1.length:Int)))+1))) then(if(mx 0 (wrap64 ((wrap64 ((l0.length:Int)-(l1.length:Int)))+1)):Int).toNat≤35184372088832 then((some (([]:List Int):List Int)).bind fun y162=>(if(mx 0 (wrap64 ((wrap64 ((l0.length:Int)-(l1.length:Int)))+1)))≤(l0.length:Int) then(if y162.length+(l0.drop ((mx 0 (wrap64 ((wrap64 ((l0.length:Int)-(l1.length:Int)))+1))):Int).toNat).length<17592186044416 then(dC.l0 k l0 l1 (List.replicate (mx 0 (wrap64 ((wrap64 ((l0.length:Int)-(l1.length:Int)))+1)):Int).toNat 0) (y162++(l0.drop ((mx 0 (wrap64 ((wrap64 ((l0.length:Int)-(l1.length:Int)))+1))):Int).toNat)) (wrap64 ((mx 0 (wrap64 ((wrap64 ((l0.length:Int)-(l1.length:Int)))+1)))-1))) else(none)) else(none))) else(none)) else(none)
theorem dC.calls(k:Nat)(A0:Option Addr)(c0:Nat)(l0:List Int)(A1:Option Addr)(c1:Nat)(l1:List Int)(r1:List Int)(r2:List Int)(w:World)(hr0:Kd.C (Kd.int .i64) w A0 l0.length l0)(hc0:l0.length≤c0)(hr1:Kd.C (Kd.int .i64) w A1 l1.length l1)(hc1:l1.length≤c1)(h:dC.f k l0 l1=some (r1,r2)) :
 Calls Tryz.prog 154 #[.slice A0 l0.length c0,.slice A1 l1.length c1] w fun e w'=>∃v0_ v1_:Value,e= .returned (.tuple #[v0_,v1_])∧Kd.R (Kd.int .i64) 3 w' w.heap.size (fun k_=>some k_≠(v1_:Value).ownBlock) v0_ r1∧Kd.R (Kd.int .i64) 3 w' w.heap.size (fun k_=>some k_≠(v0_:Value).ownBlock) v1_ r2∧Below w.heap.size w w':=by
 have N9:=aA.mk hr0;have Q3:=aA.mk hc0;clear hr0 hc0;have J3:=aA.mk hr1;have J4:=aA.mk hc1;clear hr1 hc1;have HB:=aA.mk (Below.refl w.heap.size w);have H:(if 0≤(mx 0 (wrap64 ((wrap64 ((l0.length:Int)-(l1.length:Int)))+1))) then(if(mx 0 (wrap64 ((wrap64 ((l0.length:Int)-(l1.length:Int)))+1)):Int).toNat≤35184372088832 then((some (([]:List Int):List Int)).bind fun o7=>(if(mx 0 (wrap64 ((wrap64 ((l0.length:Int)-(l1.length:Int)))+1)))≤(l0.length:Int) then(if o7.length+(l0.drop ((mx 0 (wrap64 ((wrap64 ((l0.length:Int)-(l1.length:Int)))+1))):Int).toNat).length<17592186044416 then(dC.l0 k l0 l1 (List.replicate (mx 0 (wrap64 ((wrap64 ((l0.length:Int)-(l1.length:Int)))+1)):Int).toNat 0) (o7++(l0.drop ((mx 0 (wrap64 ((wrap64 ((l0.length:Int)-(l1.length:Int)))+1))):Int).toNat)) (wrap64 ((mx 0 (wrap64 ((wrap64 ((l0.length:Int)-(l1.length:Int)))+1)))-1))) else(none)) else(none))) else(none)) else(none))=some (r1,r2):=h;clear h;obtain⟨ji3,hji3⟩:∃j_:Int,(mx 0 (wrap64 ((wrap64 ((l0.length:Int)-(l1.length:Int)))+1)))=j_:=⟨_,rfl⟩
 replace H:(if 0≤(ji3) then(if(ji3:Int).toNat≤35184372088832 then((some (([]:List Int):List Int)).bind fun o7=>(if(ji3)≤(l0.length:Int) then(if o7.length+(l0.drop ((ji3):Int).toNat).length<17592186044416 then(dC.l0 k l0 l1 (List.replicate (ji3:Int).toNat 0) (o7++(l0.drop ((ji3):Int).toNat)) (wrap64 ((ji3)-1))) else(none)) else(none))) else(none)) else(none))=some (r1,r2):=by first|(rw[hji3] at H;exact H)|(simp only[hji3] at H ⊢;exact H)
 (try(have hji3l:0≤ji3:=by(rw[←hji3];unfold mx;(repeat' split) <;> omega)))
 (try(have hji3m:0≤ji3:=by omega))
 have hji3_:(if 0<(wrap64 ((wrap64 ((l0.length:Int)-(l1.length:Int)))+1)) then(wrap64 ((wrap64 ((l0.length:Int)-(l1.length:Int)))+1)) else 0)=ji3:=hji3
 by_cases c4:0≤(ji3)
 ·rw[if_pos c4] at H
  have Q4:=eq_true c4;have Q5:=decide_eq_true c4;clear c4
  by_cases c5:(ji3:Int).toNat≤35184372088832
  ·rw[if_pos c5] at H
   have Q7:=eq_true c5;have Q8:=decide_eq_true c5;clear c5;obtain⟨H5,F5⟩:∃y_:List Int,y_=(List.replicate (ji3:Int).toNat 0):=⟨_,rfl⟩
   replace H:((some (([]:List Int):List Int)).bind fun o7=>(if(ji3)≤(l0.length:Int) then(if o7.length+(l0.drop ((ji3):Int).toNat).length<17592186044416 then(dC.l0 k l0 l1 H5 (o7++(l0.drop ((ji3):Int).toNat)) (wrap64 ((ji3)-1))) else(none)) else(none)))=some (r1,r2):=by first|(rw[F5];with_reducible exact H)|(have H2_:=(Option.bind_some _ _).symm.trans H;rw[F5];with_reducible exact H2_)|(have H2_:=(Option.bind_some _ _).symm.trans H;with_reducible exact H2_)|with_reducible exact H|(rw[F5];exact H)|exact H
   have O0:=aA.mk F5;clear F5;obtain⟨o7,F6⟩:∃y_:List Int,y_=(([]:List Int)):=⟨_,rfl⟩
   replace H:(if(ji3)≤(l0.length:Int) then(if o7.length+(l0.drop ((ji3):Int).toNat).length<17592186044416 then(dC.l0 k l0 l1 H5 (o7++(l0.drop ((ji3):Int).toNat)) (wrap64 ((ji3)-1))) else(none)) else(none))=some (r1,r2):=by first|(rw[F6];with_reducible exact H)|(have H2_:=(Option.bind_some _ _).symm.trans H;rw[F6];with_reducible exact H2_)|(have H2_:=(Option.bind_some _ _).symm.trans H;with_reducible exact H2_)|with_reducible exact H|(rw[F6];exact H)|exact H
   have O1:=aA.mk F6;clear F6;have Q9:=eq_true (of_decide_eq_true asm_:0≤(ji3))
   by_cases c7:(ji3)≤(l0.length:Int)
   ·rw[if_pos c7] at H
    have S9:=eq_true c7;have U3:=decide_eq_true c7;clear c7
    by_cases c8:o7.length+(l0.drop ((ji3):Int).toNat).length<17592186044416
    ·rw[if_pos c8] at H
     have LMc8:=aA.mk c8;clear c8;obtain⟨O3,F7⟩:∃y_:List Int,y_=(o7++(l0.drop ((ji3):Int).toNat)):=⟨_,rfl⟩
     replace H:(dC.l0 k l0 l1 H5 O3 (wrap64 ((ji3)-1)))=some (r1,r2):=by first|(rw[F7];with_reducible exact H)|(have H2_:=(Option.bind_some _ _).symm.trans H;rw[F7];with_reducible exact H2_)|(have H2_:=(Option.bind_some _ _).symm.trans H;with_reducible exact H2_)|with_reducible exact H|(rw[F7];exact H)|exact H
     have U4:=aA.mk F7;clear F7;have H':=aA.mk H;clear H;go_enter Tryz.func154,Tryz.ntmps154
     go_wp2_with(first|((with_reducible refine aG (N:=18) rfl ?_);refine Kd.R_make (Kd.int .i64) _ 3 rfl (N:=18) rfl 79 _ _ rfl ji3 rfl rfl Tryz.underlying79 (.int .i64 0) 8 info3 rfl aG0 aFx 0 (ok:=fun _=>True) (okp:=fun _=>True) rfl (fun _ hk=>hk) trivial (of_decide_eq_true asm_) (Nat.le_trans (Nat.mul_le_mul_right _ (of_decide_eq_true asm_:ji3.toNat≤35184372088832)) aFx) (Below.refl _ _) (Nat.le_refl _) ?_;intro v160 w9 F8 hb hg_ hnew_;clear hg_ hnew_;(first|rw[←O0.out] at F8|(simp only[Int.reduceToNat] at F8;rw[←O0.out] at F8));have y9:=aA.mk (Kd.gU F8 (dJ (pkL HB)));replace HB:=pkB HB hb;clear hb F8)|((with_reducible refine aG (N:=19) rfl ?_);refine Kd.sQ (Kd.int .i64) _ 3 ?hg (N:=19) ?hd (xs:=([]:List Int)) (inner:= []) (ok:=fun _=>True) (okp:=fun _=>True) ?hr ?hp (fun _ hk=>hk) trivial (Below.refl _ _) (Nat.le_refl _) aFz ?_;(case hd=>rfl);(case hg=>rfl);(case hr=>first|(go_simp;done)|(go_simp;rfl));(case hp=>exact(Reps.none _ _));intro v163 Y7 D5 hb hg_ hnew_;clear hg_ hnew_;(first|rw[←O1.out] at D5|(simp only[Int.reduceToNat] at D5;rw[←O1.out] at D5));have n0_:=aA.mk (Kd.mZ (by(with_reducible repeat(first|apply Kd.aQ|apply Kd.aN|apply Kd.aW));exact y9.out) (Kd.lM D5) hb);have n1_:=aA.mk (Kd.gU (Kd.lN D5 (Kd.R_lt (by(with_reducible repeat(first|apply Kd.aQ|apply Kd.aN|apply Kd.aW));exact y9.out))) (dJ (pkL HB)));have n2_:=pkB HB hb;clear y9;clear HB;have y9:=n0_;have O4:=n1_;have HB:=n2_;clear n0_ n1_ n2_;clear hb D5;obtain⟨i013,hi013,_,hsz13,_⟩:=info_parts info3;obtain⟨Y8,hcut13,hA13,hC13⟩:=print_drop_of (P:=Tryz.prog) (Value.int .i64) 0 79 3 .i64 Tryz.underlying79 hi013 hsz13 A0 c0 l0 (ji3) (of_decide_eq_true asm_) (of_decide_eq_true asm_) Q3.out;have O5:=aA.mk (Kd.C_of_reads (h1:=fun _=>rfl) (hA13 _ (Kd.aDa N9.out)));have Y9:=aA.mk hC13;clear hA13 hC13 hi013 hsz13)|((with_reducible refine lC (b:= .append) (xs:=#[.tmp 19,.tmp 22]) rfl ?_);at_builtin;refine Kd.aDs (Kd.int .i64) (w0:=w) w.heap.size rfl (.tmp 19) (.tmp 22) 79 3 (.int .i64 0) 8 rfl Tryz.underlying79 info3 rfl aG0 aFx v163 o7 (l0.drop ((ji3):Int).toNat) _ _ _ (fun k_=>some k_≠(v160:Value).ownBlock) (fun _=>False) rfl rfl ?aO ?aR (fun _ _ h=>h) (fun _ h=>h.elim) ?aF ?aB ?aS ?aL ?_;(case aR=>first|(rw[←show(l0.drop ((ji3):Int).toNat).length=(l0.length-(ji3).toNat) from List.length_drop];repeat(first|exact(Kd.nM O5.out HB.out)|(with_reducible refine Kd.gI ?_ _)|(with_reducible refine Kd.gJ ?_ _)|(with_reducible refine Kd.iJ ?_)))|(repeat(first|exact(Kd.nM O5.out HB.out)|(with_reducible refine Kd.gI ?_ _)|(with_reducible refine Kd.gJ ?_ _)|(with_reducible refine Kd.iJ ?_))));(case aB=>exact(pkL HB));(case aF=>exact(fun k_ hk=>Kd.fresh' (Kd.R_lt (by(with_reducible repeat(first|apply Kd.aQ|apply Kd.aN|apply Kd.aW));exact y9.out)) k_ hk));(case aO=>exact(by(with_reducible repeat(first|apply Kd.aQ|apply Kd.aN|apply Kd.aW));exact Kd.dK O4.out (fun _ hk=>hk.2)));(case aS=>exact(dJ (pkL HB)));(case aL=>have:=LMc8.out;have hlx_:=(show(l0.drop ((ji3):Int).toNat).length=(l0.length-(ji3).toNat) from List.length_drop);omega);intro v167 Z7 ho hb hg hat;rw[←U4.out] at ho;have n0_:=aA.mk (Kd.aCv (ok:=(fun _=>True)) (by(with_reducible repeat(first|apply Kd.aQ|apply Kd.aN|apply Kd.aW));exact y9.out) hg hat);have n1_:=aA.mk (hb);have n2_:=aA.mk (ho);clear y9;clear HB;clear O4;have y9:=n0_;have HB:=n1_;have U5:=n2_;clear n0_ n1_ n2_;clear ho hb hg hat))
     go_loopg [8,9] k (fun kq v8 v9 w'=>∃(y8:List Int) (o9:List Int) (l9:Int),v9= .int .i64 l9∧aA (dC.l0 kq l0 l1 y8 o9 l9=some (r1,r2))∧aA (kq≤k)∧aA (Kd.R (Kd.int .i64) 3 w' w.heap.size (fun k_=>some k_≠(v8:Value).ownBlock) v160 y8)∧aA (Kd.R (Kd.int .i64) 3 w' w.heap.size (fun k_=>some k_≠(v160:Value).ownBlock) v8 o9)∧aA (Below w.heap.size w w'))
     case atStart=>exact⟨(H5),(O3),(wrap64 ((ji3)-1)),(by first|rfl|(simp;done)|(simp only[←hji3] <;> (first|rfl|simp))|(simp[*];done)),H',⟨Nat.le_refl _⟩,⟨by(with_reducible repeat(first|apply Kd.aQ|apply Kd.aN|apply Kd.aW));exact Kd.dK y9.out (fun _ hk=>hk.2)⟩,⟨by(with_reducible repeat(first|apply Kd.aQ|apply Kd.aN|apply Kd.aW));exact U5.out⟩,⟨pkL HB⟩⟩
     case round=>
      clear H' Q4 Q5 Q7 Q8 Q9 S9 U3;obtain⟨y8,o9,l9,rfl,HA,H6,HO_7,HO_8,HB⟩:=hrel
      cases gk with
      |zero=>exact absurd HA.out (by simp[dC.l0])
      |succ k1=>
       have H:=HA.out;clear HA;simp only[dC.l0] at H
       by_cases D6:l9≥0
       ·rw[if_pos D6] at H
        have O6:=decide_eq_true D6;clear D6
        by_cases H7:0≤l9
        ·rw[if_pos H7] at H
         have U6:=decide_eq_true H7;clear H7
         by_cases H8:l9<(l0.length:Int)
         ·rw[if_pos H8] at H
          have U7:=decide_eq_true H8;clear H8;obtain⟨F9,G5⟩:∃y_:List Int,y_=(([rd l0 l9]:List Int)):=⟨_,rfl⟩
          replace H:(if F9.length+o9.length<17592186044416 then((aU.f k1 (F9++o9)).bind fun D7=>(dC.l1 k1 l0 l1 y8 D7 l9)) else(none))=some (r1,r2):=by first|(rw[G5];with_reducible exact H)|(have H2_:=(Option.bind_some _ _).symm.trans H;rw[G5];with_reducible exact H2_)|(have H2_:=(Option.bind_some _ _).symm.trans H;with_reducible exact H2_)|with_reducible exact H|(rw[G5];exact H)|exact H
          have O7:=aA.mk G5;clear G5
          by_cases H9:F9.length+o9.length<17592186044416
          ·rw[if_pos H9] at H
           have LMc18:=aA.mk H9;clear H9;obtain⟨G6,G7⟩:∃y_:List Int,y_=(F9++o9):=⟨_,rfl⟩
           replace H:((aU.f k1 G6).bind fun D7=>(dC.l1 k1 l0 l1 y8 D7 l9))=some (r1,r2):=by first|(rw[G7];with_reducible exact H)|(have H2_:=(Option.bind_some _ _).symm.trans H;rw[G7];with_reducible exact H2_)|(have H2_:=(Option.bind_some _ _).symm.trans H;with_reducible exact H2_)|with_reducible exact H|(rw[G7];exact H)|exact H
           have U8:=aA.mk G7;clear G7;obtain⟨D7,U9,H⟩:=bi H;try dsimp only at H
           have H':=aA.mk H;clear H;have p172:0≤(l9:Int):=of_decide_eq_true asm_;have q172:l9<(l0.length:Int):=of_decide_eq_true asm_;obtain⟨ad172,e172,hx172_0⟩:=Kd.nU N9.out l9 p172 q172
           cases e172
           replace hx172_0:=(HB.out.cell (World.block_lt_of_cell? w _ hx172_0)).trans hx172_0;replace p172:=eq_true p172;replace q172:=eq_true q172
           go_wp2_with(first|((with_reducible refine aG (N:=34) rfl ?_);refine Kd.sQ (Kd.int .i64) _ 3 ?hg (N:=34) ?hd (xs:=([rd l0 l9]:List Int)) (inner:= [.int .i64 (rd l0 l9)]) (ok:=fun _=>True) (okp:=fun _=>True) ?hr ?hp (fun _ hk=>hk) trivial (Below.refl _ _) (Nat.le_refl _) aFz ?_;(case hd=>rfl);(case hg=>rfl);(case hr=>first|(go_simp;done)|(go_simp;rfl));(case hp=>exact(Reps.one (show Kd.M (Kd.int .i64) _ _ _ (rd l0 l9) [.int .i64 (rd l0 l9)] from rfl) (Reps.none _ _)));intro v174 Z8 C9 hb hg_ hnew_;clear hg_ hnew_;(first|rw[←O7.out] at C9|(simp only[Int.reduceToNat] at C9;rw[←O7.out] at C9));have n0_:=aA.mk (Kd.mZ (by(with_reducible repeat(first|apply Kd.aQ|apply Kd.aN|apply Kd.aW));exact HO_7.out) (Kd.lM C9) hb);have n1_:=aA.mk (Kd.mZ (by(with_reducible repeat(first|apply Kd.aQ|apply Kd.aN|apply Kd.aW));exact HO_8.out) (Kd.lM C9) hb);have n2_:=aA.mk (Kd.gU (Kd.lN (Kd.lN C9 (Kd.R_lt (by(with_reducible repeat(first|apply Kd.aQ|apply Kd.aN|apply Kd.aW));exact HO_7.out))) (Kd.R_lt (by(with_reducible repeat(first|apply Kd.aQ|apply Kd.aN|apply Kd.aW));exact HO_8.out))) (dJ (pkL HB)));have n3_:=pkB HB hb;clear HO_7;clear HO_8;clear HB;have HO_7:=n0_;have HO_8:=n1_;have O8:=n2_;have HB:=n3_;clear n0_ n1_ n2_ n3_;clear hb C9;obtain⟨I4,I5,V3⟩:=Kd.fA HO_8.out;subst V3)|((with_reducible refine lC (b:= .append) (xs:=#[.tmp 34,.tmp 35]) rfl ?_);at_builtin;refine Kd.aDs (Kd.int .i64) (w0:=w) w.heap.size rfl (.tmp 34) (.tmp 35) 79 3 (.int .i64 0) 8 rfl Tryz.underlying79 info3 rfl aG0 aFx v174 F9 o9 _ _ _ (fun k_=>some k_≠(v160:Value).ownBlock∧some k_≠(.slice I4 o9.length I5:Value).ownBlock) (fun _=>False) rfl rfl ?aO ?aR (fun _ _ h=>h) (fun _ h=>h.elim) ?aF ?aB ?aS ?aL ?_;(case aR=>repeat(first|exact(Kd.dB HO_8.out).2.2|(with_reducible refine Kd.gI ?_ _)|(with_reducible refine Kd.gJ ?_ _)|(with_reducible refine Kd.iJ ?_)));(case aB=>exact(pkL HB));(case aF=>exact(fun k_ hk=>⟨Kd.fresh' (Kd.R_lt (by(with_reducible repeat(first|apply Kd.aQ|apply Kd.aN|apply Kd.aW));exact HO_7.out)) k_ hk,Kd.fresh' (Kd.R_lt (by(with_reducible repeat(first|apply Kd.aQ|apply Kd.aN|apply Kd.aW));exact HO_8.out)) k_ hk⟩));(case aO=>exact(by(with_reducible repeat(first|apply Kd.aQ|apply Kd.aN|apply Kd.aW));exact Kd.dK O8.out (fun _ hk=>⟨hk.1.2,hk.2⟩)));(case aS=>exact(dJ (pkL HB)));(case aL=>have:=LMc18.out;omega);intro v177 Z9 ho hb hg hat;rw[←U8.out] at ho;have n0_:=aA.mk (Kd.aCv (ok:=(fun k_=>some k_≠(.slice I4 o9.length I5:Value).ownBlock)) (by(with_reducible repeat(first|apply Kd.aQ|apply Kd.aN|apply Kd.aW));exact HO_7.out) hg hat);have n1_:=aA.mk (Kd.aCv (ok:=(fun k_=>some k_≠(v160:Value).ownBlock)) (by(with_reducible repeat(first|apply Kd.aQ|apply Kd.aN|apply Kd.aW));exact HO_8.out) hg hat);have n2_:=aA.mk (hb);have n3_:=aA.mk (ho);clear HO_7;clear HO_8;clear HB;clear O8;have HO_7:=n0_;have HO_8:=n1_;have HB:=n2_;have J5:=n3_;clear n0_ n1_ n2_ n3_;clear ho hb hg hat;obtain⟨J6,J7,V4⟩:=Kd.fA J5.out;subst V4)|((with_reducible refine aC (f:=155) rfl ?_);refine gl_ 37 Tryz.func155 #[.slice J6 G6.length J7] (h:= ?_);(with_reducible refine(aU.calls k1 (fun k_=>some k_=(.slice J6 G6.length J7:Value).ownBlock) (.slice J6 G6.length J7) G6 D7 w _ ?side1 ?side2 U9.out).mono ?_);(case side1=>repeat(first|(with_reducible first|exact HB.out|apply aT|apply aI|apply aJ)|exact HB.out));(case side2=>exact Kd.kE rfl J5.out);rintro e ae ⟨v180,rfl,o8,hb,hkp⟩;refine⟨_,rfl,?_⟩;have n0_:=aA.mk (Kd.dK (ok':=fun k_=>some k_≠(.slice I4 o9.length I5:Value).ownBlock∧some k_≠(v180:Value).ownBlock) (Kd.mY (HO_7.out) hkp (fun k_ hk_ hs_=>(hk_.2) hs_)) (fun k_ hk_=>⟨hk_.1.1,fun e_=>Or.elim (o8.1 k_ e_.symm) (fun hs_=>hk_.2.1 hs_) (fun hn_=>Nat.not_le.2 hk_.2.2 hn_)⟩));have n1_:=aA.mk (Kd.dK (ok':=fun k_=>some k_≠(v160:Value).ownBlock∧some k_≠(v180:Value).ownBlock) (Kd.mY (HO_8.out) hkp (fun k_ hk_ hs_=>(hk_.2) hs_)) (fun k_ hk_=>⟨hk_.1.1,fun e_=>Or.elim (o8.1 k_ e_.symm) (fun hs_=>hk_.2.1 hs_) (fun hn_=>Nat.not_le.2 hk_.2.2 hn_)⟩));have n2_:=aA.mk (Kd.dK (ok':=fun k_=>some k_≠(v160:Value).ownBlock∧some k_≠(.slice I4 o9.length I5:Value).ownBlock) o8 (fun k_ hk_=>⟨Or.elim hk_ (fun hs_=>fun e_=>(((HO_7.out).1 k_ e_.symm).2) hs_) (fun hn_=>(Kd.fresh' (Kd.R_lt (by(with_reducible repeat(first|apply Kd.aQ|apply Kd.aN|apply Kd.aW));exact HO_7.out)) k_ hn_)),Or.elim hk_ (fun hs_=>fun e_=>(((HO_8.out).1 k_ e_.symm).2) hs_) (fun hn_=>(Kd.fresh' (Kd.R_lt (by(with_reducible repeat(first|apply Kd.aQ|apply Kd.aN|apply Kd.aW));exact HO_8.out)) k_ hn_))⟩));have n3_:=aA.mk (hb);clear HO_7;clear HO_8;clear HB;clear J5;have HO_7:=n0_;have HO_8:=n1_;have V5:=n2_;have HB:=n3_;clear n0_ n1_ n2_ n3_;(try clear hb);(try clear hkp);(try clear o8)))
           go_loopg [8] k1 (fun kq v8 w'=>∃(o5:List Int) (o6:List Int),aA (dC.l1 kq l0 l1 o5 o6 l9=some (r1,r2))∧aA (kq≤k1)∧aA (Kd.R (Kd.int .i64) 3 w' w.heap.size (fun k_=>some k_≠(v8:Value).ownBlock) v160 o5)∧aA (Kd.R (Kd.int .i64) 3 w' w.heap.size (fun k_=>some k_≠(v160:Value).ownBlock) v8 o6)∧aA (Below w.heap.size w w'))
           case atStart=>exact⟨(y8),(D7),H',⟨Nat.le_refl _⟩,⟨by(with_reducible repeat(first|apply Kd.aQ|apply Kd.aN|apply Kd.aW));exact Kd.dK HO_7.out (fun _ hk=>hk.2)⟩,⟨by(with_reducible repeat(first|apply Kd.aQ|apply Kd.aN|apply Kd.aW));exact Kd.dK V5.out (fun _ hk=>hk.1)⟩,⟨pkL HB⟩⟩
           case round=>
            clear H' O6 U6 U7 hx172_0 p172 q172;obtain⟨o5,o6,HA,I7,HO_7,HO_8,HB⟩:=hrel
            cases gk with
            |zero=>exact absurd HA.out (by simp[dC.l1])
            |succ k2=>
             have H:=HA.out;clear HA;simp only[dC.l1] at H;obtain⟨J8,O9,H⟩:=bi H;try dsimp only at H
             by_cases D8:J8≥0
             ·rw[if_pos D8] at H
              have V6:=decide_eq_true D8;clear D8;obtain⟨J9,V7,H⟩:=bi H;try dsimp only at H
              by_cases I8:0≤l9
              ·rw[if_pos I8] at H
               have af:=decide_eq_true I8;clear I8
               by_cases I9:l9<(o5.length:Int)
               ·rw[if_pos I9] at H
                have ag:=decide_eq_true I9;clear I9;obtain⟨L6,G8⟩:∃y_:List Int,y_=(o5.set (l9:Int).toNat (wrap64 ((rd o5 l9)+1))):=⟨_,rfl⟩
                replace H:(dC.l1 k2 l0 l1 L6 J9 l9)=some (r1,r2):=by first|(rw[G8];with_reducible exact H)|(have H2_:=(Option.bind_some _ _).symm.trans H;rw[G8];with_reducible exact H2_)|(have H2_:=(Option.bind_some _ _).symm.trans H;with_reducible exact H2_)|with_reducible exact H|(rw[G8];exact H)|exact H
                have V8:=aA.mk G8;clear G8;have H':=aA.mk H;clear H;obtain⟨D9,E8,V9⟩:=Kd.fA HO_8.out;subst V9
                go_wp2_with(first|((with_reducible refine aC (f:=161) rfl ?_);refine gl_ 40 Tryz.func161 #[.slice D9 o6.length E8,.slice A1 l1.length c1] (h:= ?_);(with_reducible refine(dP.calls k2 _ _ o6 _ _ l1 J8 _ ?side1 ?side2 ?side3 ?side4 O9.out).mono ?_);(case side1=>repeat(first|exact(Kd.dB HO_8.out).2.2|(with_reducible refine Kd.gI ?_ _)|(with_reducible refine Kd.gJ ?_ _)|(with_reducible refine Kd.iJ ?_)));(case side2=>exact(Kd.dB HO_8.out).2.1);(case side3=>repeat(first|exact(Kd.nM J3.out HB.out)|(with_reducible refine Kd.gI ?_ _)|(with_reducible refine Kd.gJ ?_ _)|(with_reducible refine Kd.iJ ?_)));(case side4=>exact J4.out);rintro e w' ⟨rfl,⟨nd,rfl⟩⟩;refine⟨_,rfl,?_⟩;(try(rw[jS wr];generalize hq_:World.drewN wr _=wr;have n0_:aA (Kd.R (Kd.int .i64) 3 wr w.heap.size (fun k_=>some k_≠(.slice D9 o6.length E8:Value).ownBlock) v160 o5):=⟨by rw[←hq_];exact(by(with_reducible repeat(first|apply Kd.aQ|apply Kd.aN|apply Kd.aW));exact HO_7.out)⟩;have n1_:aA (Kd.R (Kd.int .i64) 3 wr w.heap.size (fun k_=>some k_≠(v160:Value).ownBlock) (.slice D9 o6.length E8) o6):=⟨by rw[←hq_];exact(by(with_reducible repeat(first|apply Kd.aQ|apply Kd.aN|apply Kd.aW));exact HO_8.out)⟩;have n2_:aA (Below w.heap.size w wr):=⟨by rw[←hq_];exact(pkL HB)⟩;clear HO_7 HO_8 HB hq_;have HO_7:=n0_;have HO_8:=n1_;have HB:=n2_;clear n0_ n1_ n2_)))|((with_reducible refine aC (f:=162) rfl ?_);refine gl_ 44 Tryz.func162 #[.slice D9 o6.length E8,.slice A1 l1.length c1] (h:= ?_);(with_reducible refine(fB.calls k2 _ _ o6 _ _ l1 J9 _ ?side1 ?side2 ?side3 ?side4 V7.out).mono ?_);(case side1=>repeat(first|exact(Kd.dB HO_8.out).2.2|(with_reducible refine Kd.gI ?_ _)|(with_reducible refine Kd.gJ ?_ _)|(with_reducible refine Kd.iJ ?_)));(case side2=>exact(Kd.dB HO_8.out).2.1);(case side3=>repeat(first|exact(Kd.nM J3.out HB.out)|(with_reducible refine Kd.gI ?_ _)|(with_reducible refine Kd.gJ ?_ _)|(with_reducible refine Kd.iJ ?_)));(case side4=>exact J4.out);rintro e P7 ⟨v184,rfl,o8,hb⟩;refine⟨_,rfl,?_⟩;have n0_:=aA.mk (Kd.mZ (by(with_reducible repeat(first|apply Kd.aQ|apply Kd.aN|apply Kd.aW));exact HO_7.out) (Kd.lM o8) hb);have n1_:=aA.mk (Kd.mZ (by(with_reducible repeat(first|apply Kd.aQ|apply Kd.aN|apply Kd.aW));exact HO_8.out) (Kd.lM o8) hb);have n2_:=aA.mk (Kd.gU (Kd.lN (Kd.lN o8 (Kd.R_lt (by(with_reducible repeat(first|apply Kd.aQ|apply Kd.aN|apply Kd.aW));exact HO_7.out))) (Kd.R_lt (by(with_reducible repeat(first|apply Kd.aQ|apply Kd.aN|apply Kd.aW));exact HO_8.out))) (dJ (pkL HB)));have n3_:=pkB HB hb;clear HO_7;clear HO_8;clear HB;have HO_7:=n0_;have HO_8:=n1_;have L8:=n2_;have HB:=n3_;clear n0_ n1_ n2_ n3_;try clear hb;(try clear o8);obtain⟨ah,G9,X4⟩:=Kd.fA HO_7.out;subst X4;have p186:0≤(l9:Int):=of_decide_eq_true asm_;have q186:l9<(o5.length:Int):=of_decide_eq_true asm_;obtain⟨ad186,e186,hx186_0⟩:=Kd.nU (Kd.dB HO_7.out).2.2 l9 p186 q186;cases e186;replace p186:=eq_true p186;replace q186:=eq_true q186;have p31:0≤(l9:Int):=of_decide_eq_true asm_;have q31:(l9:Int)<((o5.length:Int):Int):=of_decide_eq_true asm_;obtain⟨go31,ai,P8,P9,gl31,cl31,HG31⟩:=Kd.R_form HO_7.out aFx;(first|cases P8|(injection P8 with ea_ en_ ec_;(first|subst ea_|(injection ea_ with ea_;subst ea_));subst ec_;clear en_));have GB31:=aA.mk P9;have GG31:=aA.mk HG31;clear P9 gl31 HG31;(first|simp only[add_plain] at hx186_0|skip);obtain⟨hx31_0,hf31_0⟩:=Kd.R_celln 0 HO_7.out (l9:Int) p31 q31;replace p31:=eq_true p31;replace q31:=eq_true q31;obtain⟨hy35_,hz35_⟩:=Kd.R_celln 0 HO_7.out (l9:Int) (of_decide_eq_true asm_) (of_decide_eq_true asm_);have HP35:=Kd.aA2 HO_7.out (l9:Int) (wrap64 ((rd o5 l9)+1)))|((with_reducible refine vZ (t:=3) (p:=52) rfl ?_);refine uG (t:=3) (p:=52) (v:= ?vo_w36) (w1:=(P7.setCell ⟨go31,(l9:Int).toNat,none⟩ (.int .i64 (wrap64 ((rd o5 l9)+1))))) ?hg ?ho ?hn ?hr ?_;(case ho=>rfl);(case hg=>rfl);(case hn=>rfl);(case hr=>first|(go_simp;done)|(go_simp;rfl));intro L9 hw;have hg:P7.grownBy L9 (some go31):=(by rw[hw];exact HP35.2);have hp_:Kd.R (Kd.int .i64) 3 L9 w.heap.size (fun k_=>some k_≠(.slice D9 o6.length E8:Value).ownBlock∧some k_≠(v184:Value).ownBlock) (.slice (some ⟨go31,0,none⟩) o5.length G9) L6:=(by rw[hw,V8.out];exact HP35.1);clear HP35;replace HO_7:=aA.mk (hp_);replace HO_8:=aA.mk (Kd.aCv (v:=(.slice (some ⟨go31,0,none⟩) o5.length G9)) (v1:=(.slice (some ⟨go31,0,none⟩) o5.length G9)) (ok:=(fun k_=>some k_≠(v184:Value).ownBlock)) (by(with_reducible repeat(first|apply Kd.aQ|apply Kd.aN|apply Kd.aW));exact Kd.dK HO_8.out (fun _ hk=>⟨hk.2,hk.1⟩)) hg (.inl rfl));replace L8:=aA.mk (Kd.aCv (v:=(.slice (some ⟨go31,0,none⟩) o5.length G9)) (v1:=(.slice (some ⟨go31,0,none⟩) o5.length G9)) (ok:=(fun k_=>some k_≠(.slice D9 o6.length E8:Value).ownBlock)) (by(with_reducible repeat(first|apply Kd.aQ|apply Kd.aN|apply Kd.aW));exact Kd.dK L8.out (fun _ hk=>⟨hk.2,hk.1.2⟩)) hg (.inl rfl));replace HB:=aA.mk ((by rw[hw];exact nY (HB.out) GB31.out:Below w.heap.size w L9));clear hg hw hp_))
                go_roundg k2
                case measure=>have:=H6.out;have:=I7.out;omega
                case rel=>exact⟨(L6),(J9),H',⟨by have:=H6.out;have:=I7.out;omega⟩,⟨by(with_reducible repeat(first|apply Kd.aQ|apply Kd.aN|apply Kd.aW));exact Kd.dK HO_7.out (fun _ hk=>hk.2)⟩,⟨by(with_reducible repeat(first|apply Kd.aQ|apply Kd.aN|apply Kd.aW));exact Kd.dK L8.out (fun _ hk=>hk.2)⟩,⟨pkL HB⟩⟩
               ·rw[if_neg I9] at H
                exact absurd H aFz
              ·rw[if_neg I8] at H
               exact absurd H aFz
             ·rw[if_neg D8] at H
              have V6:=decide_eq_false D8;clear D8;have H':=aA.mk H;clear H;obtain⟨X5,X7,X8⟩:=Kd.fA HO_8.out;subst X8
              go_wp2_with(first|((with_reducible refine aC (f:=161) rfl ?_);refine gl_ 40 Tryz.func161 #[.slice X5 o6.length X7,.slice A1 l1.length c1] (h:= ?_);(with_reducible refine(dP.calls k2 _ _ o6 _ _ l1 J8 _ ?side1 ?side2 ?side3 ?side4 O9.out).mono ?_);(case side1=>repeat(first|exact(Kd.dB HO_8.out).2.2|(with_reducible refine Kd.gI ?_ _)|(with_reducible refine Kd.gJ ?_ _)|(with_reducible refine Kd.iJ ?_)));(case side2=>exact(Kd.dB HO_8.out).2.1);(case side3=>repeat(first|exact(Kd.nM J3.out HB.out)|(with_reducible refine Kd.gI ?_ _)|(with_reducible refine Kd.gJ ?_ _)|(with_reducible refine Kd.iJ ?_)));(case side4=>exact J4.out);rintro e w' ⟨rfl,⟨nd,rfl⟩⟩;refine⟨_,rfl,?_⟩))
              go_roundg k2
              case measure=>have:=H6.out;have:=I7.out;omega
              case rel=>exact⟨(o5),(o6),(wrap64 (l9-1)),aG1,H',⟨by have:=H6.out;have:=I7.out;omega⟩,⟨by(with_reducible repeat(first|apply Kd.aQ|apply Kd.aN|apply Kd.aW));exact HO_7.out⟩,⟨by(with_reducible repeat(first|apply Kd.aQ|apply Kd.aN|apply Kd.aW));exact HO_8.out⟩,⟨pkL HB⟩⟩
          ·rw[if_neg H9] at H
           exact absurd H aFz
         ·rw[if_neg H8] at H
          exact absurd H aFz
        ·rw[if_neg H7] at H
         exact absurd H aFz
       ·rw[if_neg D6] at H
        have O6:=decide_eq_false D6;clear D6;obtain⟨X9,Y0,H⟩:=bi H;try dsimp only at H
        simp only[Option.some.injEq,Prod.mk.injEq] at H;obtain⟨rfl,rfl⟩:=H;obtain⟨N7,N8,Y4⟩:=Kd.fA HO_7.out;subst Y4
        go_wp2_with(first|((with_reducible refine aC (f:=155) rfl ?_);refine gl_ 54 Tryz.func155 #[.slice N7 y8.length N8] (h:= ?_);(with_reducible refine(aU.calls k1 (fun k_=>some k_=(.slice N7 y8.length N8:Value).ownBlock) (.slice N7 y8.length N8) y8 X9 w _ ?side1 ?side2 Y0.out).mono ?_);(case side1=>repeat(first|(with_reducible first|exact HB.out|apply aT|apply aI|apply aJ)|exact HB.out));(case side2=>exact Kd.kE rfl HO_7.out);rintro e aj ⟨v170,rfl,o8,hb,hkp⟩;refine⟨_,rfl,?_⟩;have n0_:=aA.mk (Kd.dK (ok':=fun k_=>some k_≠(v170:Value).ownBlock) (Kd.mY (HO_8.out) hkp (fun k_ hk_ hs_=>(hk_) hs_)) (fun k_ hk_=>fun e_=>Or.elim (o8.1 k_ e_.symm) (fun hs_=>hk_.2.1 hs_) (fun hn_=>Nat.not_le.2 hk_.2.2 hn_)));have n1_:=aA.mk (Kd.dK (ok':=fun k_=>some k_≠(u8:Value).ownBlock) o8 (fun k_ hk_=>Or.elim hk_ (fun hs_=>fun e_=>(((HO_8.out).1 k_ e_.symm)) hs_) (fun hn_=>(Kd.fresh' (Kd.R_lt (by(with_reducible repeat(first|apply Kd.aQ|apply Kd.aN|apply Kd.aW));exact HO_8.out)) k_ hn_))));have n2_:=aA.mk (hb);clear HO_8;clear HB;clear HO_7;have HO_8:=n0_;have Y5:=n1_;have HB:=n2_;clear n0_ n1_ n2_;(try clear hb);(try clear hkp);(try clear o8)))
        go_ret2
        exact⟨_,_,by first|rfl|(simp[dZ,eF] <;> rfl)|(simp only[←hji3];first|rfl|(simp[dZ,eF] <;> rfl))|(simp[*,dZ,eF] <;> rfl),by(with_reducible repeat(first|apply Kd.aQ|apply Kd.aN|apply Kd.aW));exact Y5.out,by(with_reducible repeat(first|apply Kd.aQ|apply Kd.aN|apply Kd.aW));exact HO_8.out,by repeat(first|(with_reducible first|exact HB.out|apply aT|apply aI|apply aJ)|exact HB.out)⟩
    ·rw[if_neg c8] at H
     exact absurd H aFz
   ·rw[if_neg c7] at H
    exact absurd H aFz
  ·rw[if_neg c5] at H
   exact absurd H aFz
 ·rw[if_neg c4] at H
  exact absurd H aFz
def lJ.f(a0:Int)(a1:Int):Option (Int):=if a1=0 then(none) else(if(Int.tmod a0 a1)=0 then(some (wrap64 (Int.tdiv a0 a1))) else(if((decide (a0<0)) != (decide (a1<0)))=true then(some (wrap64 ((wrap64 (Int.tdiv a0 a1))-1))) else(some (wrap64 (Int.tdiv a0 a1)))))
theorem lJ.calls(a0:Int)(a1:Int)(r:Int)(w:World)(h:lJ.f a0 a1=some r) :
 Calls Tryz.prog 152 #[.int .i64 a0,.int .i64 a1] w fun e w'=>e= .returned (.int .i64 r)∧eQ w w':=by
 have H:(if a1=0 then(none) else(if(Int.tmod a0 a1)=0 then(some (wrap64 (Int.tdiv a0 a1))) else(if((decide (a0<0)) != (decide (a1<0)))=true then(some (wrap64 ((wrap64 (Int.tdiv a0 a1))-1))) else(some (wrap64 (Int.tdiv a0 a1))))))=some r:=h;clear h
 by_cases c3:a1=0
 ·rw[if_pos c3] at H
  exact absurd H aFz
 ·rw[if_neg c3] at H
  obtain⟨o9,y8⟩:=bF c3;go_enter Tryz.func152,Tryz.ntmps152
  refine byC (P:=(Int.tmod a0 a1)=0) (fun c4=> ?a31) (fun c4=> ?b31)
  case' a31=>
   rw[if_pos c4] at H;obtain⟨l9,o5⟩:=bT c4;clear c4;obtain rfl:=Option.some.inj H
  case' b31=>
   rw[if_neg c4] at H;obtain⟨l9,o5⟩:=bF c4;refine byC (P:=((decide (a0<0)) != (decide (a1<0)))=true) (fun c5=> ?a32) (fun c5=> ?b32)
   case' a32=>
    rw[if_pos c5] at H;have o6:((decide (a0<0)) != (decide (a1<0)))=true:=c5
    (try(have o7:decide ((decide (a0<0))=(decide (a1<0)))=false:=by simpa using c5))
    (try(have o8:((decide (a0<0))==(decide (a1<0)))=false:=by simpa using c5))
    (try(have y9:¬((decide (a0<0))=(decide (a1<0))):=by simpa using c5))
    clear c5;obtain rfl:=Option.some.inj H
   case' b32=>
    rw[if_neg c5] at H;have o6:((decide (a0<0)) != (decide (a1<0)))=false:=by simpa using c5
    (try(have o7:decide ((decide (a0<0))=(decide (a1<0)))=true:=by simpa using c5))
    (try(have o8:((decide (a0<0))==(decide (a1<0)))=true:=by simpa using c5))
    clear c5;obtain rfl:=Option.some.inj H
  all_goals
   go_wp2
   go_ret
   exact dr_
end Go.Proofs.YtignanmmgaldeaaGreatDoor.PRefA
end
section
set_option linter.unusedVariables false
set_option linter.unusedSimpArgs false
set_option maxHeartbeats 8000000
set_option maxRecDepth 100000
namespace Go.Proofs.YtignanmmgaldeaaGreatDoor.PRefA
open Go.RowKit Go.Proofs.YtignanmmgaldeaaGreatDoorW.PrintWords Go.Proofs.YtignanmmgaldeaaGreatDoorW.PrintLast Go.Proofs.YtignanmmgaldeaaGreatDoorW.PrintMore
attribute [local go_sem] dQ dR eH eP
mutual
def bP.j0:Nat→ByteArray→Int→Bool→Option (Bool)
 |0,_,_,_=>none
 |k+1,x0,x3,x14=>if x14=true then(bP.j1 k x0 1) else(bP.j1 k x0 x3)
def bP.j1:Nat→ByteArray→Int→Option (Bool)
 |0,_,_=>none
 |k+1,x0,x3=>if x3=(x0.size:Int) then(bP.j2 k x0 x3 true) else(if 0≤x3 then(if x3<(x0.size:Int) then(bP.j2 k x0 x3 ((bt x0 x3)==48)) else(none)) else(none))
def bP.j2:Nat→ByteArray→Int→Bool→Option (Bool)
 |0,_,_,_=>none
 |k+1,x0,x3,x24=>if x24=true then(some false) else(bP.l0 k x0 x3)
def bP.l0:Nat→ByteArray→Int→Option (Bool)
 |0,_,_=>none
 |k+1,x0,x4=>if x4<(x0.size:Int) then(if 0≤x4 then(if(bt x0 x4)<48 then(some false) else(if(bt x0 x4)>57 then(some false) else(bP.l0 k x0 (wrap64 (x4+1))))) else(none)) else(some true)
end
def bP.f(k:Nat)(a0:ByteArray):Option (Bool):=if a0.toList=([48]:List UInt8) then(some true) else(if(a0.size:Int)>0 then(if 0<(a0.size:Int) then(bP.j0 k a0 0 ((bt a0 0)==45)) else(none)) else(bP.j0 k a0 0 false))
theorem bP.calls(k:Nat)(a0:ByteArray)(r:Bool)(w:World)(h:bP.f k a0=some r) :
 Calls Tryz.prog 184 #[.string a0] w fun e w'=>e= .returned (.bool r)∧eQ w w':=by
 have H:(if a0.toList=([48]:List UInt8) then(some true) else(if(a0.size:Int)>0 then(if 0<(a0.size:Int) then(bP.j0 k a0 0 ((bt a0 0)==45)) else(none)) else(bP.j0 k a0 0 false)))=some r:=h;clear h
 by_cases c2:a0.toList=([48]:List UInt8)
 ·rw[if_pos c2] at H
  obtain⟨F9,G5⟩:=bT c2;clear c2;obtain rfl:=Option.some.inj H;go_enter Tryz.func184,Tryz.ntmps184
  go_wp2
  go_ret
  exact dr_
 ·rw[if_neg c2] at H
  obtain⟨F9,G5⟩:=bF c2;have F6:=aA.mk H;clear H;go_enter Tryz.func184,Tryz.ntmps184
  go_upto_region 4 with (fail)
  go_cut [14] (fun v14 wc=>∃(kq:Nat) (D5:Bool),v14= .bool D5∧aA (bP.j0 kq a0 0 D5=some r)∧aA (kq≤k)∧eQ w wc)
  case first=>
   have H:=F6.out;clear F6
   by_cases c4:(a0.size:Int)>0
   ·rw[if_pos c4] at H
    have y8:=decide_eq_true c4;have G8:decide (0<a0.size)=true:=decide_eq_true aFx;clear c4
    (first|rw[y8]|(simp only[jM,jX];rw[y8])|skip)
    by_cases c5:0<(a0.size:Int)
    ·rw[if_pos c5] at H
     have H8:=decide_eq_true c5;have H9:decide (0<a0.size)=true:=decide_eq_true aFx;clear c5;have H':=aA.mk H;clear H;have p6:0≤(0:Int):=aFx;have q6:0<a0.size:=(by have:(0:Int)<(a0.size:Int):=of_decide_eq_true asm_;omega);have hx6:∀h:0<a0.size,((a0[0]'h).toNat:Int)=bt a0 0:=yH a0 0
     clear p6;have qi6:(0<(a0.size:Int))=True:=eq_true (of_decide_eq_true asm_);replace q6:=eq_true q6;go_wp2
     go_meet
     case rel=>exact⟨_,(((bt a0 0)==45)),aG1,H',le_,by repeat(first|exact eQ.refl _|apply eQ.step)⟩
    ·rw[if_neg c5] at H
     exact absurd H aFz
   ·rw[if_neg c4] at H
    have y8:=decide_eq_false c4;have G8:decide (0<a0.size)=false:=decide_eq_false aFx;clear c4
    (first|rw[y8]|(simp only[jM,jX];rw[y8])|skip)
    have H':=aA.mk H;clear H;go_wp2
    go_meet
    case rel=>exact⟨_,(false),aG1,H',le_,by repeat(first|exact eQ.refl _|apply eQ.step)⟩
  case rest=>
   clear F6 c2 F9 G5;obtain⟨kq,D5,rfl,HA,o6,⟨mc2,rfl⟩⟩:=hcut
   cases kq with
   |zero=>exact absurd HA.out (by simp[bP.j0])
   |succ kj2=>
    have H:=HA.out;clear HA;simp only[bP.j0] at H;have F7:=aA.mk H;clear H
    go_upto_if 14 with (fail)
    go_cut [3] (fun v3 wc=>∃(kq:Nat) (o5:Int),v3= .int .i64 o5∧aA (bP.j1 kq a0 o5=some r)∧aA (kq≤kj2)∧eQ w wc)
    case first=>
     have H:=F7.out;clear F7
     by_cases c8:D5=true
     ·subst c8
      rw[if_pos rfl] at H;have H':=aA.mk H;clear H;go_wp2
      go_meet
      case rel=>exact⟨_,(1),aG1,H',⟨by have:=o6.out;first|omega|exact Nat.le_refl _⟩,by repeat(first|exact eQ.refl _|apply eQ.step)⟩
     ·replace c8:=Bool.eq_false_iff.mpr c8
      subst c8;rw[if_neg (show ¬(false=true) by decide)] at H;have H':=aA.mk H;clear H;go_wp2
      go_meet
      case rel=>exact⟨_,(0),aG1,H',⟨by have:=o6.out;first|omega|exact Nat.le_refl _⟩,by repeat(first|exact eQ.refl _|apply eQ.step)⟩
    case rest=>
     clear F7;obtain⟨kq,o5,rfl,HA,D6,⟨mc6,rfl⟩⟩:=hcut
     cases kq with
     |zero=>exact absurd HA.out (by simp[bP.j1])
     |succ kj6=>
      have H:=HA.out;clear HA;simp only[bP.j1] at H;have F8:=aA.mk H;clear H
      go_upto_region 6 with (fail)
      go_cut [24] (fun v24 wc=>∃(kq:Nat) (D7:Bool),v24= .bool D7∧aA (bP.j2 kq a0 o5 D7=some r)∧aA (kq≤kj6)∧eQ w wc)
      case first=>
       have H:=F8.out;clear F8
       by_cases y9:o5=(a0.size:Int)
       ·rw[if_pos y9] at H
        obtain⟨C9,G9⟩:=bT y9;clear y9
        (first|rw[C9]|(simp only[jM,jX];rw[C9])|skip)
        have H':=aA.mk H;clear H;go_wp2
        go_meet
        case rel=>exact⟨_,(true),aG1,H',⟨by have:=o6.out;have:=D6.out;first|omega|exact Nat.le_refl _⟩,by repeat(first|exact eQ.refl _|apply eQ.step)⟩
       ·rw[if_neg y9] at H
        obtain⟨C9,G9⟩:=bF y9
        (first|rw[C9]|(simp only[jM,jX];rw[C9])|skip)
        by_cases D8:0≤o5
        ·rw[if_pos D8] at H
         have I4:=decide_eq_true D8;clear D8
         by_cases D9:o5<(a0.size:Int)
         ·rw[if_pos D9] at H
          have I5:=decide_eq_true D9;clear D9;have H':=aA.mk H;clear H;have p13:0≤(o5:Int):=of_decide_eq_true asm_;have q13:o5<(a0.size:Int):=of_decide_eq_true asm_;have hx13:=yH a0 o5;replace p13:=eq_true p13;replace q13:=eq_true q13;go_wp2
          go_meet
          case rel=>exact⟨_,(((bt a0 o5)==48)),aG1,H',⟨by have:=o6.out;have:=D6.out;first|omega|exact Nat.le_refl _⟩,by repeat(first|exact eQ.refl _|apply eQ.step)⟩
         ·rw[if_neg D9] at H
          exact absurd H aFz
        ·rw[if_neg D8] at H
         exact absurd H aFz
      case rest=>
       clear F8;obtain⟨kq,D7,rfl,HA,G6,⟨mc8,rfl⟩⟩:=hcut
       cases kq with
       |zero=>exact absurd HA.out (by simp[bP.j2])
       |succ kj8=>
        have H:=HA.out;clear HA;simp only[bP.j2] at H
        by_cases E8:D7=true
        ·subst E8
         rw[if_pos rfl] at H;obtain rfl:=Option.some.inj H;go_wp2
         go_ret
         exact dr_
        ·replace E8:=Bool.eq_false_iff.mpr E8
         subst E8;rw[if_neg (show ¬(false=true) by decide)] at H;have H':=aA.mk H;clear H;go_wp2
         go_loopg [4] kj8 (fun kq v4 w'=>∃(l9:Int),v4= .int .i64 l9∧aA (bP.l0 kq a0 l9=some r)∧aA (kq≤kj8)∧eQ w w')
         case atStart=>exact⟨(o5),aG1,H',⟨Nat.le_refl _⟩,by repeat(first|exact eQ.refl _|apply eQ.step)⟩
         case round=>
          clear H';obtain⟨l9,rfl,HA,G7,⟨m4,rfl⟩⟩:=hrel
          cases gk with
          |zero=>exact absurd HA.out (by simp[bP.l0])
          |succ k4=>
           have H:=HA.out;clear HA;simp only[bP.l0] at H
           by_cases o7:l9<(a0.size:Int)
           ·rw[if_pos o7] at H
            have H5:=decide_eq_true o7;clear o7
            by_cases F5:0≤l9
            ·rw[if_pos F5] at H
             have I7:=decide_eq_true F5;clear F5
             by_cases o8:(bt a0 l9)<48
             ·rw[if_pos o8] at H
              have H6:=decide_eq_true o8;clear o8;obtain rfl:=Option.some.inj H;have p17:0≤(l9:Int):=of_decide_eq_true asm_;have q17:l9<(a0.size:Int):=of_decide_eq_true asm_;have hx17:=yH a0 l9;replace p17:=eq_true p17;replace q17:=eq_true q17;go_wp2
              go_ret
              exact dr_
             ·rw[if_neg o8] at H
              have H6:=decide_eq_false o8;clear o8
              by_cases o9:(bt a0 l9)>57
              ·rw[if_pos o9] at H
               have H7:=decide_eq_true o9;clear o9;obtain rfl:=Option.some.inj H;have p17:0≤(l9:Int):=of_decide_eq_true asm_;have q17:l9<(a0.size:Int):=of_decide_eq_true asm_;have hx17:=yH a0 l9;replace p17:=eq_true p17;replace q17:=eq_true q17;have p19:0≤(l9:Int):=of_decide_eq_true asm_;have q19:l9<(a0.size:Int):=of_decide_eq_true asm_;have hx19:=yH a0 l9;replace p19:=eq_true p19;replace q19:=eq_true q19;go_wp2
               go_ret
               exact dr_
              ·rw[if_neg o9] at H
               have H7:=decide_eq_false o9;clear o9;have H':=aA.mk H;clear H;have p17:0≤(l9:Int):=of_decide_eq_true asm_;have q17:l9<(a0.size:Int):=of_decide_eq_true asm_;have hx17:=yH a0 l9;replace p17:=eq_true p17;replace q17:=eq_true q17;have p19:0≤(l9:Int):=of_decide_eq_true asm_;have q19:l9<(a0.size:Int):=of_decide_eq_true asm_;have hx19:=yH a0 l9;replace p19:=eq_true p19;replace q19:=eq_true q19;go_wp2
               go_roundg k4
               case measure=>have:=o6.out;have:=D6.out;have:=G6.out;have:=G7.out;omega
               case rel=>exact⟨(wrap64 (l9+1)),aG1,H',⟨by have:=o6.out;have:=D6.out;have:=G6.out;have:=G7.out;omega⟩,by repeat(first|exact eQ.refl _|apply eQ.step)⟩
            ·rw[if_neg F5] at H
             exact absurd H aFz
           ·rw[if_neg o7] at H
            have H5:=decide_eq_false o7;clear o7;obtain rfl:=Option.some.inj H;go_wp2
            go_ret
            exact dr_
def kP.f(a0:ByteArray):Option (ByteArray):=if a0.toList=([48]:List UInt8) then(some a0) else((aH.f a0).bind fun t209=>(if t209=true then(if 1≤(a0.size:Int) then(some (a0.extract 1 a0.size)) else(none)) else(if 1+a0.size≤9223372036854775807 then(some ((⟨#[45]⟩:ByteArray)++a0)) else(none))))
theorem kP.calls(a0:ByteArray)(r:ByteArray)(w:World)(h:kP.f a0=some r) :
 Calls Tryz.prog 163 #[.string a0] w fun e w'=>e= .returned (.string r)∧eQ w w':=by
 have H:(if a0.toList=([48]:List UInt8) then(some a0) else((aH.f a0).bind fun l9=>(if l9=true then(if 1≤(a0.size:Int) then(some (a0.extract 1 a0.size)) else(none)) else(if 1+a0.size≤9223372036854775807 then(some ((⟨#[45]⟩:ByteArray)++a0)) else(none)))))=some r:=h;clear h
 by_cases c2:a0.toList=([48]:List UInt8)
 ·rw[if_pos c2] at H
  obtain⟨o5,o6⟩:=bT c2;clear c2;obtain rfl:=Option.some.inj H;go_enter Tryz.func163,Tryz.ntmps163
  go_wp2
  go_ret
  exact dr_
 ·rw[if_neg c2] at H
  obtain⟨o5,o6⟩:=bF c2;obtain⟨l9,A3,H⟩:=bi H;try dsimp only at H
  by_cases c4:l9=true
  ·subst c4
   rw[if_pos rfl] at H
   by_cases c5:1≤(a0.size:Int)
   ·rw[if_pos c5] at H
    have o7:=eq_true c5;have o8:=decide_eq_true c5;clear c5;obtain rfl:=Option.some.inj H;go_enter Tryz.func163,Tryz.ntmps163
    go_wp2_with(first|((with_reducible refine aC (f:=158) rfl ?_);refine gl_ 7 Tryz.func158 #[.string a0] (h:= ?_);(with_reducible refine(aH.calls a0 true _ A3.out).mono ?_);rintro e w' ⟨rfl,⟨nd,rfl⟩⟩;refine⟨_,rfl,?_⟩))
    go_ret
    exact dr_
   ·rw[if_neg c5] at H
    exact absurd H aFz
  ·replace c4:=Bool.eq_false_iff.mpr c4
   subst c4;rw[if_neg (show ¬(false=true) by decide)] at H
   by_cases c6:1+a0.size≤9223372036854775807
   ·rw[if_pos c6] at H
    have o9:=eq_true c6;have y8:=decide_eq_true c6
    try have y9:(9223372036854775807<1+a0.size)=False:=eq_false (Nat.not_lt.2 c6)
    obtain rfl:=Option.some.inj H;go_enter Tryz.func163,Tryz.ntmps163
    go_wp2_with(first|((with_reducible refine aC (f:=158) rfl ?_);refine gl_ 7 Tryz.func158 #[.string a0] (h:= ?_);(with_reducible refine(aH.calls a0 false _ A3.out).mono ?_);rintro e w' ⟨rfl,⟨nd,rfl⟩⟩;refine⟨_,rfl,?_⟩))
    go_ret
    exact dr_
   ·rw[if_neg c6] at H
    exact absurd H aFz
def cZ.f(a0:ByteArray):Option (ByteArray):=(aH.f a0).bind fun t210=>(if t210=true then(if 1≤(a0.size:Int) then(some (a0.extract 1 a0.size)) else(none)) else(some a0))
theorem cZ.calls(a0:ByteArray)(r:ByteArray)(w:World)(h:cZ.f a0=some r) :
 Calls Tryz.prog 92 #[.string a0] w fun e w'=>e= .returned (.string r)∧eQ w w':=by
 have H:((aH.f a0).bind fun l9=>(if l9=true then(if 1≤(a0.size:Int) then(some (a0.extract 1 a0.size)) else(none)) else(some a0)))=some r:=h;clear h;obtain⟨l9,A2,H⟩:=bi H;try dsimp only at H
 by_cases c3:l9=true
 ·subst c3
  rw[if_pos rfl] at H
  by_cases c4:1≤(a0.size:Int)
  ·rw[if_pos c4] at H
   have o5:=eq_true c4;have o6:=decide_eq_true c4;clear c4;obtain rfl:=Option.some.inj H;go_enter Tryz.func92,Tryz.ntmps92
   go_wp2_with(first|((with_reducible refine aC (f:=158) rfl ?_);refine gl_ 4 Tryz.func158 #[.string a0] (h:= ?_);(with_reducible refine(aH.calls a0 true _ A2.out).mono ?_);rintro e w' ⟨rfl,⟨nd,rfl⟩⟩;refine⟨_,rfl,?_⟩))
   go_ret
   exact dr_
  ·rw[if_neg c4] at H
   exact absurd H aFz
 ·replace c3:=Bool.eq_false_iff.mpr c3
  subst c3;rw[if_neg (show ¬(false=true) by decide)] at H;obtain rfl:=Option.some.inj H;go_enter Tryz.func92,Tryz.ntmps92
  go_wp2_with(first|((with_reducible refine aC (f:=158) rfl ?_);refine gl_ 4 Tryz.func158 #[.string a0] (h:= ?_);(with_reducible refine(aH.calls a0 false _ A2.out).mono ?_);rintro e w' ⟨rfl,⟨nd,rfl⟩⟩;refine⟨_,rfl,?_⟩))
  go_ret
  exact dr_
def jH.f(a0:ByteArray):Option (Bool):=some (decide ((a0.size:Int)≤250))
theorem jH.calls(a0:ByteArray)(r:Bool)(w:World)(h:jH.f a0=some r) :
 Calls Tryz.prog 71 #[.string a0] w fun e w'=>e= .returned (.bool r)∧eQ w w':=by
 have H:(some (decide ((a0.size:Int)≤250)))=some r:=h;clear h;obtain rfl:=Option.some.inj H;go_enter Tryz.func71,Tryz.ntmps71
 go_wp2
 go_ret
 exact dr_
end Go.Proofs.YtignanmmgaldeaaGreatDoor.PRefA
end
section
set_option linter.unusedVariables false
set_option linter.unusedSimpArgs false
set_option maxHeartbeats 8000000
set_option maxRecDepth 100000
namespace Go.Proofs.YtignanmmgaldeaaGreatDoor.PRefA
open Go.RowKit Go.Proofs.YtignanmmgaldeaaGreatDoorW.PrintWords Go.Proofs.YtignanmmgaldeaaGreatDoorW.PrintLast Go.Proofs.YtignanmmgaldeaaGreatDoorW.PrintMore
attribute [local go_sem] dQ dR eH eP
def oM.f(k:Nat)(a0:ByteArray)(a1:ByteArray):Option (ByteArray):=(fQ.f a0).bind fun t211=>((fQ.f a1).bind fun t212=>(if(wrap64 (t211+t212))≤18 then((dM.f k a0).bind fun t213=>((dM.f k a1).bind fun t214=>((dW.f k (wrap64 (t213*t214))).bind fun t215=>(some t215)))) else((aX.f k a0).bind fun t216=>((aX.f k a1).bind fun t219=>((dU.f k t216 t219).bind fun t222=>((aH.f a0).bind fun t225=>((aH.f a1).bind fun t226=>((bV.f k t222 (t225 != t226)).bind fun t227=>(some t227)))))))))
theorem oM.calls(k:Nat)(a0:ByteArray)(a1:ByteArray)(r:ByteArray)(w:World)(h:oM.f k a0 a1=some r) :
 Calls Tryz.prog 86 #[.string a0,.string a1] w fun e w'=>e= .returned (.string r)∧Below w.heap.size w w':=by
 have HB:=aA.mk (Below.refl w.heap.size w);have H:((fQ.f a0).bind fun C9=>((fQ.f a1).bind fun D5=>(if(wrap64 (C9+D5))≤18 then((dM.f k a0).bind fun D6=>((dM.f k a1).bind fun D7=>((dW.f k (wrap64 (D6*D7))).bind fun F5=>(some F5)))) else((aX.f k a0).bind fun o8=>((aX.f k a1).bind fun o9=>((dU.f k o8 o9).bind fun o7=>((aH.f a0).bind fun y8=>((aH.f a1).bind fun y9=>((bV.f k o7 (y8 != y9)).bind fun D8=>(some D8))))))))))=some r:=h;clear h;obtain⟨C9,A3,H⟩:=bi H;try dsimp only at H
 obtain⟨D5,A4,H⟩:=bi H;try dsimp only at H
 go_enter Tryz.func86,Tryz.ntmps86
 refine byC (P:=(wrap64 (C9+D5))≤18) (fun c5=> ?a40) (fun c5=> ?b40)
 case' a40=>
  rw[if_pos c5] at H;have G6:=decide_eq_true c5;clear c5;obtain⟨D6,A6,H⟩:=bi H;try dsimp only at H
  obtain⟨D7,A7,H⟩:=bi H;try dsimp only at H
  obtain⟨F5,A8,H⟩:=bi H;try dsimp only at H
  obtain rfl:=Option.some.inj H
 case' b40=>
  rw[if_neg c5] at H;have G6:=decide_eq_false c5;clear c5;obtain⟨o8,G7,H⟩:=bi H;try dsimp only at H
  obtain⟨o9,G8,H⟩:=bi H;try dsimp only at H
  obtain⟨o7,G9,H⟩:=bi H;try dsimp only at H
  obtain⟨y8,H5,H⟩:=bi H;try dsimp only at H
  obtain⟨y9,H6,H⟩:=bi H;try dsimp only at H
  obtain⟨D8,H7,H⟩:=bi H;try dsimp only at H
  obtain rfl:=Option.some.inj H
 all_goals
  go_wp2_with(first|((with_reducible refine aC (f:=149) rfl ?_);refine gl_ 6 Tryz.func149 #[.string a0] (h:= ?_);(with_reducible refine(fQ.calls a0 C9 _ A3.out).mono ?_);rintro e w' ⟨rfl,⟨nd,rfl⟩⟩;refine⟨_,rfl,?_⟩)|((with_reducible refine aC (f:=149) rfl ?_);refine gl_ 8 Tryz.func149 #[.string a1] (h:= ?_);(with_reducible refine(fQ.calls a1 D5 _ A4.out).mono ?_);rintro e w' ⟨rfl,⟨nd,rfl⟩⟩;refine⟨_,rfl,?_⟩)|((with_reducible refine aC (f:=153) rfl ?_);refine gl_ 12 Tryz.func153 #[.string a0] (h:= ?_);(with_reducible refine(dM.calls k a0 D6 _ A6.out).mono ?_);rintro e w' ⟨rfl,⟨nd,rfl⟩⟩;refine⟨_,rfl,?_⟩)|((with_reducible refine aC (f:=153) rfl ?_);refine gl_ 14 Tryz.func153 #[.string a1] (h:= ?_);(with_reducible refine(dM.calls k a1 D7 _ A7.out).mono ?_);rintro e w' ⟨rfl,⟨nd,rfl⟩⟩;refine⟨_,rfl,?_⟩)|(refine gM 16 Tryz.func151 (dW.calls (w:=_) (h:=A8.out)) (h:= ?_);intro w9 hb;replace HB:=pkB HB hb;try clear hb)|((with_reducible refine aC (f:=156) rfl ?_);refine gl_ 18 Tryz.func156 #[.string a0] (h:= ?_);(with_reducible refine(aX.calls k a0 o8 _ G7.out).mono ?_);rintro e I5 ⟨v217,rfl,o5,hb⟩;refine⟨_,rfl,?_⟩;have l9:=aA.mk (Kd.gU o5 (dJ (pkL HB)));replace HB:=pkB HB hb;try clear hb;(try clear o5))|((with_reducible refine aC (f:=156) rfl ?_);refine gl_ 20 Tryz.func156 #[.string a1] (h:= ?_);(with_reducible refine(aX.calls k a1 o9 _ G8.out).mono ?_);rintro e I7 ⟨v220,rfl,o5,hb⟩;refine⟨_,rfl,?_⟩;have n0_:=aA.mk (Kd.mZ (by(with_reducible repeat(first|apply Kd.aQ|apply Kd.aN|apply Kd.aW));exact l9.out) (Kd.lM o5) hb);have n1_:=aA.mk (Kd.gU (Kd.lN o5 (Kd.R_lt (by(with_reducible repeat(first|apply Kd.aQ|apply Kd.aN|apply Kd.aW));exact l9.out))) (dJ (pkL HB)));have n2_:=pkB HB hb;clear l9;clear HB;have l9:=n0_;have o6:=n1_;have HB:=n2_;clear n0_ n1_ n2_;try clear hb;(try clear o5);obtain⟨F6,F7,H8⟩:=Kd.fA l9.out;subst H8;obtain⟨F8,F9,H9⟩:=Kd.fA o6.out;subst H9)|((with_reducible refine aC (f:=164) rfl ?_);refine gl_ 21 Tryz.func164 #[.slice F6 o8.length F7,.slice F8 o9.length F9] (h:= ?_);(with_reducible refine(dU.calls k _ _ o8 _ _ o9 o7 _ ?side1 ?side2 ?side3 ?side4 G9.out).mono ?_);(case side1=>repeat(first|exact(Kd.dB l9.out).2.2|(with_reducible refine Kd.gI ?_ _)|(with_reducible refine Kd.gJ ?_ _)|(with_reducible refine Kd.iJ ?_)));(case side2=>exact(Kd.dB l9.out).2.1);(case side3=>repeat(first|exact(Kd.dB o6.out).2.2|(with_reducible refine Kd.gI ?_ _)|(with_reducible refine Kd.gJ ?_ _)|(with_reducible refine Kd.iJ ?_)));(case side4=>exact(Kd.dB o6.out).2.1);rintro e I8 ⟨v223,rfl,o5,hb⟩;refine⟨_,rfl,?_⟩;have n0_:=aA.mk (Kd.mZ (by(with_reducible repeat(first|apply Kd.aQ|apply Kd.aN|apply Kd.aW));exact l9.out) (Kd.lM o5) hb);have n1_:=aA.mk (Kd.mZ (by(with_reducible repeat(first|apply Kd.aQ|apply Kd.aN|apply Kd.aW));exact o6.out) (Kd.lM o5) hb);have n2_:=aA.mk (Kd.gU (Kd.lN (Kd.lN o5 (Kd.R_lt (by(with_reducible repeat(first|apply Kd.aQ|apply Kd.aN|apply Kd.aW));exact l9.out))) (Kd.R_lt (by(with_reducible repeat(first|apply Kd.aQ|apply Kd.aN|apply Kd.aW));exact o6.out))) (dJ (pkL HB)));have n3_:=pkB HB hb;clear l9;clear o6;clear HB;have l9:=n0_;have o6:=n1_;have G5:=n2_;have HB:=n3_;clear n0_ n1_ n2_ n3_;try clear hb;(try clear o5))|((with_reducible refine aC (f:=158) rfl ?_);refine gl_ 23 Tryz.func158 #[.string a0] (h:= ?_);(with_reducible refine(aH.calls a0 y8 _ H5.out).mono ?_);rintro e w' ⟨rfl,⟨nd,rfl⟩⟩;refine⟨_,rfl,?_⟩)|((with_reducible refine aC (f:=158) rfl ?_);refine gl_ 25 Tryz.func158 #[.string a1] (h:= ?_);(with_reducible refine(aH.calls a1 y9 _ H6.out).mono ?_);rintro e w' ⟨rfl,⟨nd,rfl⟩⟩;refine⟨_,rfl,?_⟩;obtain⟨D9,E8,I4⟩:=Kd.fA G5.out;subst I4)|((with_reducible refine aC (f:=157) rfl ?_);refine gl_ 27 Tryz.func157 #[.slice D9 o7.length E8,.bool (y8 != y9)] (h:= ?_);(with_reducible refine(bV.calls k (fun k_=>some k_=(.slice D9 o7.length E8:Value).ownBlock) (.slice D9 o7.length E8) o7 (y8 != y9) D8 w _ ?side1 ?side2 H7.out).mono ?_);(case side1=>repeat(first|(with_reducible first|exact HB.out|apply aT|apply aI|apply aJ)|exact HB.out));(case side2=>exact Kd.kE rfl G5.out);rintro e I9 ⟨rfl,hb,hkp⟩;refine⟨_,rfl,?_⟩;replace l9:=aA.mk (Kd.dK (ok':=fun k_=>some k_≠(.slice F8 o9.length F9:Value).ownBlock) (Kd.mY (l9.out) hkp (fun k_ hk_ hs_=>(hk_.2) hs_)) (fun k_ hk_=>hk_.1.1.2));replace o6:=aA.mk (Kd.dK (ok':=fun k_=>some k_≠(.slice F6 o8.length F7:Value).ownBlock) (Kd.mY (o6.out) hkp (fun k_ hk_ hs_=>(hk_.2) hs_)) (fun k_ hk_=>hk_.1.1.2));replace HB:=aA.mk (hb);(try clear hb);(try clear hkp)))
  go_ret
  exact pkE HB
end Go.Proofs.YtignanmmgaldeaaGreatDoor.PRefA
end
