/- Lemmas for the proof. -/
import Derived.Test.YtignanmmgaldeaaGreatDoorYG
section
set_option linter.unusedVariables false
set_option linter.unusedSimpArgs false
set_option maxHeartbeats 8000000
set_option maxRecDepth 100000
namespace Go.Proofs.YtignanmmgaldeaaGreatDoor.PRefA
open Go.RowKit Go.Proofs.YtignanmmgaldeaaGreatDoorW.PrintWords Go.Proofs.YtignanmmgaldeaaGreatDoorW.PrintLast Go.Proofs.YtignanmmgaldeaaGreatDoorW.PrintMore
attribute [local go_sem] gI gJ iE iF
def eU.l0:Nat→List Int→List Int→Int→Option (Int)
 |0,_,_,_=>none
 |k+1,x0,x1,x5=>if x5≥0 then(if 0≤x5 then(if x5<(x0.length:Int) then(if x5<(x1.length:Int) then(if(rd x0 x5)=(rd x1 x5) then(eU.l0 k x0 x1 (wrap64 (x5-1))) else(if(rd x0 x5)<(rd x1 x5) then(some (-1)) else(some 1))) else(none)) else(none)) else(none)) else(some 0)
def eU.f(k:Nat)(l0:List Int)(l1:List Int):Option (Int):=if(l0.length:Int)=(l1.length:Int) then(eU.l0 k l0 l1 (wrap64 ((l0.length:Int)-1))) else(if(l0.length:Int)<(l1.length:Int) then(some (-1)) else(some 1))
theorem eU.calls(k:Nat)(A0:Option Addr)(c0:Nat)(l0:List Int)(A1:Option Addr)(c1:Nat)(l1:List Int)(r:Int)(w:World)(hr0:Kd.C (Kd.int .i64) w A0 l0.length l0)(hc0:l0.length≤c0)(hr1:Kd.C (Kd.int .i64) w A1 l1.length l1)(hc1:l1.length≤c1)(h:eU.f k l0 l1=some r) :
 Calls Tryz.prog 161 #[.slice A0 l0.length c0,.slice A1 l1.length c1] w fun e w'=>e= .returned (.int .i64 r)∧aZ w w':=by
 have HR0:=aA.mk hr0;have HC0:=aA.mk hc0;clear hr0 hc0;have HR1:=aA.mk hr1;have HC1:=aA.mk hc1;clear hr1 hc1;have H:(if(l0.length:Int)=(l1.length:Int) then(eU.l0 k l0 l1 (wrap64 ((l0.length:Int)-1))) else(if(l0.length:Int)<(l1.length:Int) then(some (-1)) else(some 1)))=some r:=h;clear h
 by_cases c3:(l0.length:Int)=(l1.length:Int)
 ·rw[if_pos c3] at H
  have c3b0:((l0.length:Int)==(l1.length:Int))=true:=beq_iff_eq.mpr c3;have c3b1:((l0.length:Int) != (l1.length:Int))=false:=bne_eq_false_iff_eq.mpr c3;have c3b2:(l0.length==l1.length)=true:=by first|simpa using c3|(simp at c3 ⊢;omega)
  clear c3;have H':=aA.mk H;clear H;go_enter Tryz.func161,Tryz.ntmps161
  go_wp2
  repeat(go_quiet (fail);try go_wp2)
  go_loopg [5] k (fun kq v5 w'=>∃(x5_1:Int),v5= .int .i64 x5_1∧aA (eU.l0 kq l0 l1 x5_1=some r)∧aA (kq≤k)∧aZ w w')
  case atStart=>exact⟨(wrap64 ((l0.length:Int)-1)),aCs,H',⟨Nat.le_refl _⟩,by repeat(first|exact aZ.refl _|apply aZ.step)⟩
  case round=>
   clear H';try clear c1
   try clear c3
   try clear c3b0
   try clear c3b1
   try clear c3b2
   obtain⟨x5_1,rfl,HA,HK1,⟨m1,rfl⟩⟩:=hrel
   cases gk with
   |zero=>exact absurd HA.out (by simp[eU.l0])
   |succ k1=>
    have H:=HA.out;clear HA;simp only[eU.l0] at H
    by_cases c4:x5_1≥0
    ·rw[if_pos c4] at H
     have c4b0:decide (0≤x5_1)=true:=decide_eq_true c4;clear c4
     by_cases c5:0≤x5_1
     ·rw[if_pos c5] at H
      have c5b0:decide (0≤x5_1)=true:=decide_eq_true c5;clear c5
      by_cases c6:x5_1<(l0.length:Int)
      ·rw[if_pos c6] at H
       have c6b0:decide (x5_1<(l0.length:Int))=true:=decide_eq_true c6;clear c6
       by_cases c7:x5_1<(l1.length:Int)
       ·rw[if_pos c7] at H
        have c7b0:decide (x5_1<(l1.length:Int))=true:=decide_eq_true c7;clear c7
        by_cases c8:(rd l0 x5_1)=(rd l1 x5_1)
        ·rw[if_pos c8] at H
         have c8b0:((rd l0 x5_1)==(rd l1 x5_1))=true:=beq_iff_eq.mpr c8;have c8b1:((rd l0 x5_1) != (rd l1 x5_1))=false:=bne_eq_false_iff_eq.mpr c8;clear c8;have H':=aA.mk H;clear H;have p139:0≤(x5_1:Int):=of_decide_eq_true (by first|(with_reducible assumption)|assumption);have q139:x5_1<(l0.length:Int):=of_decide_eq_true (by first|(with_reducible assumption)|assumption);obtain⟨ad139,e139,hx139_0⟩:=Kd.kS HR0.out x5_1 p139 q139
         cases e139
         replace p139:=eq_true p139;replace q139:=eq_true q139;have p140:0≤(x5_1:Int):=of_decide_eq_true (by first|(with_reducible assumption)|assumption);have q140:x5_1<(l1.length:Int):=of_decide_eq_true (by first|(with_reducible assumption)|assumption);obtain⟨ad140,e140,hx140_0⟩:=Kd.kS HR1.out x5_1 p140 q140
         cases e140
         replace p140:=eq_true p140;replace q140:=eq_true q140;go_wp2
         repeat(go_quiet (fail);try go_wp2)
         go_roundg k1
         case measure=>have:=HK1.out;omega
         case rel=>exact⟨(wrap64 (x5_1-1)),aCs,H',⟨by have:=HK1.out;omega⟩,by repeat(first|exact aZ.refl _|apply aZ.step)⟩
        ·rw[if_neg c8] at H
         have c8b0:((rd l0 x5_1)==(rd l1 x5_1))=false:=beq_eq_false_iff_ne.mpr c8;have c8b1:((rd l0 x5_1) != (rd l1 x5_1))=true:=bne_iff_ne.mpr c8
         by_cases c9:(rd l0 x5_1)<(rd l1 x5_1)
         ·rw[if_pos c9] at H
          have c9b0:decide ((rd l0 x5_1)<(rd l1 x5_1))=true:=decide_eq_true c9;clear c9;obtain rfl:=Option.some.inj H;have p139:0≤(x5_1:Int):=of_decide_eq_true (by first|(with_reducible assumption)|assumption);have q139:x5_1<(l0.length:Int):=of_decide_eq_true (by first|(with_reducible assumption)|assumption);obtain⟨ad139,e139,hx139_0⟩:=Kd.kS HR0.out x5_1 p139 q139
          cases e139
          replace p139:=eq_true p139;replace q139:=eq_true q139;have p140:0≤(x5_1:Int):=of_decide_eq_true (by first|(with_reducible assumption)|assumption);have q140:x5_1<(l1.length:Int):=of_decide_eq_true (by first|(with_reducible assumption)|assumption);obtain⟨ad140,e140,hx140_0⟩:=Kd.kS HR1.out x5_1 p140 q140
          cases e140
          replace p140:=eq_true p140;replace q140:=eq_true q140;have p141:0≤(x5_1:Int):=of_decide_eq_true (by first|(with_reducible assumption)|assumption);have q141:x5_1<(l0.length:Int):=of_decide_eq_true (by first|(with_reducible assumption)|assumption);obtain⟨ad141,e141,hx141_0⟩:=Kd.kS HR0.out x5_1 p141 q141;obtain rfl:ad139=ad141:=(by injection e141);replace p141:=eq_true p141;replace q141:=eq_true q141;have p142:0≤(x5_1:Int):=of_decide_eq_true (by first|(with_reducible assumption)|assumption);have q142:x5_1<(l1.length:Int):=of_decide_eq_true (by first|(with_reducible assumption)|assumption);obtain⟨ad142,e142,hx142_0⟩:=Kd.kS HR1.out x5_1 p142 q142;obtain rfl:ad140=ad142:=(by injection e142);replace p142:=eq_true p142;replace q142:=eq_true q142;go_wp2
          repeat(go_quiet (fail);try go_wp2)
          go_ret
          exact⟨by first|rfl|(simp;done)|(simp[*];done),by repeat(first|exact aZ.refl _|apply aZ.step)⟩
         ·rw[if_neg c9] at H
          have c9b0:decide ((rd l0 x5_1)<(rd l1 x5_1))=false:=decide_eq_false c9;clear c9;obtain rfl:=Option.some.inj H;have p139:0≤(x5_1:Int):=of_decide_eq_true (by first|(with_reducible assumption)|assumption);have q139:x5_1<(l0.length:Int):=of_decide_eq_true (by first|(with_reducible assumption)|assumption);obtain⟨ad139,e139,hx139_0⟩:=Kd.kS HR0.out x5_1 p139 q139
          cases e139
          replace p139:=eq_true p139;replace q139:=eq_true q139;have p140:0≤(x5_1:Int):=of_decide_eq_true (by first|(with_reducible assumption)|assumption);have q140:x5_1<(l1.length:Int):=of_decide_eq_true (by first|(with_reducible assumption)|assumption);obtain⟨ad140,e140,hx140_0⟩:=Kd.kS HR1.out x5_1 p140 q140
          cases e140
          replace p140:=eq_true p140;replace q140:=eq_true q140;have p141:0≤(x5_1:Int):=of_decide_eq_true (by first|(with_reducible assumption)|assumption);have q141:x5_1<(l0.length:Int):=of_decide_eq_true (by first|(with_reducible assumption)|assumption);obtain⟨ad141,e141,hx141_0⟩:=Kd.kS HR0.out x5_1 p141 q141;obtain rfl:ad139=ad141:=(by injection e141);replace p141:=eq_true p141;replace q141:=eq_true q141;have p142:0≤(x5_1:Int):=of_decide_eq_true (by first|(with_reducible assumption)|assumption);have q142:x5_1<(l1.length:Int):=of_decide_eq_true (by first|(with_reducible assumption)|assumption);obtain⟨ad142,e142,hx142_0⟩:=Kd.kS HR1.out x5_1 p142 q142;obtain rfl:ad140=ad142:=(by injection e142);replace p142:=eq_true p142;replace q142:=eq_true q142;go_wp2
          repeat(go_quiet (fail);try go_wp2)
          go_ret
          exact⟨by first|rfl|(simp;done)|(simp[*];done),by repeat(first|exact aZ.refl _|apply aZ.step)⟩
       ·rw[if_neg c7] at H
        exact absurd H aCq
      ·rw[if_neg c6] at H
       exact absurd H aCq
     ·rw[if_neg c5] at H
      exact absurd H aCq
    ·rw[if_neg c4] at H
     have c4b0:decide (0≤x5_1)=false:=decide_eq_false c4;clear c4;obtain rfl:=Option.some.inj H;go_wp2
     repeat(go_quiet (fail);try go_wp2)
     go_ret
     exact⟨by first|rfl|(simp;done)|(simp[*];done),by repeat(first|exact aZ.refl _|apply aZ.step)⟩
 ·rw[if_neg c3] at H
  have c3b0:((l0.length:Int)==(l1.length:Int))=false:=beq_eq_false_iff_ne.mpr c3;have c3b1:((l0.length:Int) != (l1.length:Int))=true:=bne_iff_ne.mpr c3;have c3b2:(l0.length==l1.length)=false:=by first|simpa using c3|(simp at c3 ⊢;omega)
  by_cases c10:(l0.length:Int)<(l1.length:Int)
  ·rw[if_pos c10] at H
   have c10b0:decide ((l0.length:Int)<(l1.length:Int))=true:=decide_eq_true c10;have c10b1:decide (l0.length<l1.length)=true:=decide_eq_true (Int.ofNat_lt.mp c10);clear c10;obtain rfl:=Option.some.inj H;go_enter Tryz.func161,Tryz.ntmps161
   go_wp2
   repeat(go_quiet (fail);try go_wp2)
   go_ret
   exact⟨by first|rfl|(simp;done)|(simp[*];done),by repeat(first|exact aZ.refl _|apply aZ.step)⟩
  ·rw[if_neg c10] at H
   have c10b0:decide ((l0.length:Int)<(l1.length:Int))=false:=decide_eq_false c10;have c10b1:decide (l0.length<l1.length)=false:=decide_eq_false (fun h=>c10 (Int.ofNat_lt.mpr h));clear c10;obtain rfl:=Option.some.inj H;go_enter Tryz.func161,Tryz.ntmps161
   go_wp2
   repeat(go_quiet (fail);try go_wp2)
   go_ret
   exact⟨by first|rfl|(simp;done)|(simp[*];done),by repeat(first|exact aZ.refl _|apply aZ.step)⟩
mutual
def dY.j0:Nat→List Int→List Int→Option (ByteArray)
 |0,_,_=>none
 |k+1,x0,x5=>dY.l0 k x0 x5 (wrap64 ((x0.length:Int)-1))
def dY.l0:Nat→List Int→List Int→Int→Option (ByteArray)
 |0,_,_,_=>none
 |k+1,x0,x5,x6=>if x6≥0 then(if 0≤x6 then(if x6<(x0.length:Int) then(if x5.length<140737488355328 then(dY.l0 k x0 (x5++ [(wrap64 (48+(rd x0 x6)))%256]) (wrap64 (x6-1))) else(none)) else(none)) else(none)) else(some (strOfNums x5))
end
def dY.f(k:Nat)(l0:List Int)(a1:Bool):Option (ByteArray):=(bU.f k l0).bind fun t143=>(if(t143.length:Int)=0 then(some (⟨#[48]⟩:ByteArray)) else(if a1=true then(if([]:List Int).length<140737488355328 then(dY.j0 k t143 (([]:List Int)++ [45])) else(none)) else(dY.j0 k t143 ([]:List Int))))
theorem dY.calls(k:Nat)(P0_:Nat→Prop)(u9000_:Value)(l0:List Int)(a1:Bool)(r:ByteArray)(w0 w:World)(hB:Below w0.heap.size w0 w)(ho0:Kd.R (Kd.int .i64) 3 w w0.heap.size P0_ u9000_ l0)(h:dY.f k l0 a1=some r) :
 Calls Tryz.prog 157 #[u9000_,.bool a1] w fun e w'=>e= .returned (.string r)∧Below w0.heap.size w0 w'∧Kept w w' (fun k_=>P0_ k_):=by
 have HO0:=aA.mk (show Kd.R (Kd.int .i64) 3 w w0.heap.size (fun k_=>(P0_ k_∨w.heap.size≤k_)) u9000_ l0 from Kd.jO ho0 (fun k_ hk=>(.inl hk)));have HK:=aA.mk (Kept.refl w (fun k_=>P0_ k_));have HW0:=aA.mk hB.size;have HB:=aA.mk hB;clear hB;have H:((bU.f k l0).bind fun t143=>(if(t143.length:Int)=0 then(some (⟨#[48]⟩:ByteArray)) else(if a1=true then(if([]:List Int).length<140737488355328 then(dY.j0 k t143 (([]:List Int)++ [45])) else(none)) else(dY.j0 k t143 ([]:List Int)))))=some r:=h;clear h;obtain⟨t143,A3,H⟩:=bi H;try dsimp only at H
 by_cases c4:(t143.length:Int)=0
 ·rw[if_pos c4] at H
  have c4b0:((t143.length:Int)==0)=true:=beq_iff_eq.mpr c4;have c4b1:((t143.length:Int) != 0)=false:=bne_eq_false_iff_eq.mpr c4;clear c4;obtain rfl:=Option.some.inj H;obtain⟨Ao5,co5,eo5⟩:=Kd.gY HO0.out;subst eo5;go_enter Tryz.func157,Tryz.ntmps157
  go_wp2_with(first|((with_reducible refine aG (f:=155) rfl ?_);refine gl_ 8 Tryz.func155 #[.slice Ao5 l0.length co5] (h:= ?_);(with_reducible refine(bU.calls k (fun k_=>some k_=(.slice Ao5 l0.length co5:Value).ownBlock) (.slice Ao5 l0.length co5) l0 t143 w0 _ ?side1 ?side2 A3.out).mono ?_);(case side1=>repeat(first|(with_reducible first|exact HB.out|apply cZ|apply bH|apply bG)|exact HB.out));(case side2=>exact Kd.uG rfl HO0.out);rintro e w6 ⟨v144,rfl,ho0,hb,hkp⟩;refine⟨_,rfl,?_⟩;have HO145:=aA.mk (Kd.jO (ok':=fun k_=>(P0_ k_∨w.heap.size≤k_)) ho0 (fun k_ hk_=>Or.elim hk_ (fun hs_=>(HO0.out.1 k_ (hs_).symm)) (fun hn_=>(.inr (Nat.le_trans (by first|exact HK.out.1|exact(show Kept w _ (fun k_=>P0_ k_) from by repeat(first|(with_reducible first|exact HK.out|apply Kept.alloc|apply Kept.drewN|apply Kept.drew)|exact HK.out)).1) hn_)))));replace HK:=aA.mk (Kept.then_ (S:=(fun k_=>P0_ k_)) (by repeat(first|(with_reducible first|exact HK.out|apply Kept.alloc|apply Kept.drewN|apply Kept.drew)|exact HK.out)) hkp (fun k_ hs_=>(fun e_=>(HO0.out.1 k_ e_.symm)) hs_));replace HB:=aA.mk (hb);(try clear hb);(try clear hkp);(try clear ho0);obtain⟨Ao7,co7,eo7⟩:=Kd.gY HO145.out;subst eo7))
  go_ret
  exact⟨by first|rfl|(simp[dW,dX] <;> rfl)|(simp[*,dW,dX] <;> rfl),by repeat(first|(with_reducible first|exact HB.out|apply cZ|apply bH|apply bG)|exact HB.out),by repeat(first|(with_reducible first|exact HK.out|apply Kept.alloc|apply Kept.drewN|apply Kept.drew)|exact HK.out)⟩
 ·rw[if_neg c4] at H
  have c4b0:((t143.length:Int)==0)=false:=beq_eq_false_iff_ne.mpr c4;have c4b1:((t143.length:Int) != 0)=true:=bne_iff_ne.mpr c4;have c4b2:¬(t143= []):=fun h_=>c4 (by rw[h_];rfl)
  have HC8:=aA.mk H;clear H;obtain⟨Ao9,co9,eo9⟩:=Kd.gY HO0.out;subst eo9;go_enter Tryz.func157,Tryz.ntmps157
  go_upto_if 12 with (first|((with_reducible refine aG (f:=155) rfl ?_);refine gl_ 8 Tryz.func155 #[.slice Ao9 l0.length co9] (h:= ?_);(with_reducible refine(bU.calls k (fun k_=>some k_=(.slice Ao9 l0.length co9:Value).ownBlock) (.slice Ao9 l0.length co9) l0 t143 w0 _ ?side1 ?side2 A3.out).mono ?_);(case side1=>repeat(first|(with_reducible first|exact HB.out|apply cZ|apply bH|apply bG)|exact HB.out));(case side2=>exact Kd.uG rfl HO0.out);rintro e w10 ⟨v144,rfl,ho0,hb,hkp⟩;refine⟨_,rfl,?_⟩;have HO145:=aA.mk (Kd.jO (ok':=fun k_=>(P0_ k_∨w.heap.size≤k_)) ho0 (fun k_ hk_=>Or.elim hk_ (fun hs_=>(HO0.out.1 k_ (hs_).symm)) (fun hn_=>(.inr (Nat.le_trans (by first|exact HK.out.1|exact(show Kept w _ (fun k_=>P0_ k_) from by repeat(first|(with_reducible first|exact HK.out|apply Kept.alloc|apply Kept.drewN|apply Kept.drew)|exact HK.out)).1) hn_)))));replace HK:=aA.mk (Kept.then_ (S:=(fun k_=>P0_ k_)) (by repeat(first|(with_reducible first|exact HK.out|apply Kept.alloc|apply Kept.drewN|apply Kept.drew)|exact HK.out)) hkp (fun k_ hs_=>(fun e_=>(HO0.out.1 k_ e_.symm)) hs_));replace HB:=aA.mk (hb);(try clear hb);(try clear hkp);(try clear ho0);obtain⟨Ao11,co11,eo11⟩:=Kd.gY HO145.out;subst eo11))
  (try simp only[Act.put,List.setIfInBounds_toArray,List.set_cons_zero,List.set_cons_succ])
  go_cut [5] (fun v5 wc=>∃(kq:Nat) (x5_7:List Int),aA (dY.j0 kq t143 x5_7=some r)∧aA (kq≤k)∧aA (Kd.R (Kd.int .i64) 3 wc w0.heap.size (fun k_=>(P0_ k_∨w.heap.size≤k_)) (.slice Ao11 t143.length co11) t143)∧aA (Kd.R (Kd.int .u8) 5 wc w0.heap.size (fun k_=>(P0_ k_∨w.heap.size≤k_)) v5 x5_7)∧aA (Kept w wc (fun k_=>P0_ k_))∧aA (Below w0.heap.size w0 wc))
  case first=>
   have H:=HC8.out;clear HC8
   by_cases c12:a1=true
   ·subst c12
    rw[if_pos rfl] at H
    by_cases c13:([]:List Int).length<140737488355328
    ·rw[if_pos c13] at H
     have LMc13:=aA.mk c13;clear c13;obtain⟨y146,hy146⟩:∃y_:List Int,y_=(([]:List Int)++ [45]):=⟨_,rfl⟩
     replace H:(dY.j0 k t143 y146)=some r:=by first|(rw[hy146];with_reducible exact H)|(have H2_:=(Option.bind_some _ _).symm.trans H;rw[hy146];with_reducible exact H2_)|(have H2_:=(Option.bind_some _ _).symm.trans H;with_reducible exact H2_)|with_reducible exact H|(rw[hy146];exact H)|exact H
     have Ny146:=aA.mk hy146;clear hy146;have H':=aA.mk H;clear H
     go_wp2_with(first|((with_reducible refine mQ (b:= .append) (xs:=#[.tmp 13,.tmp 14]) rfl ?_);at_builtin;refine Kd.xU (Kd.int .u8) (w0:=w0) w0.heap.size rfl (.tmp 13) (.tmp 14) 129 5 (.int .u8 0) 1 rfl Tryz.underlying129 info5 rfl aCr aCo (.slice none 0 0) ([]:List Int) 45 [.int .u8 45] (fun k_=>(P0_ k_∨w.heap.size≤k_)) (fun _=>False) rfl rfl ?aP (fun _ hk=>hk.elim) ?aF ?aO ?aB ?aS ?aL ?_;(case aP=>exact rfl);(case aB=>exact(pkL HB));(case aF=>exact(fun k_ hk=>(.inr (Nat.le_trans (by first|exact HK.out.1|exact(show Kept w _ (fun k_=>P0_ k_) from by repeat(first|(with_reducible first|exact HK.out|apply Kept.alloc|apply Kept.drewN|apply Kept.drew)|exact HK.out)).1) hk))));(case aO=>exact((Kd.R_nil _ _ _ _ (fun k_=>(P0_ k_∨w.heap.size≤k_)))));(case aS=>exact(dU (pkL HB)));(case aL=>have:=LMc13.out;omega);intro v147 w14 ho hb hg hat;rw[←Ny146.out] at ho;have HO148:=aA.mk (ho);replace HO145:=aA.mk (Kd.R_grown (by(with_reducible repeat(first|apply Kd.aX|apply Kd.aY|apply Kd.bP));exact HO145.out) hg (fun _ _=>by simp[Value.ownBlock]));replace HB:=aA.mk (hb);replace HK:=aA.mk (Kept.of_grown (S:=(fun k_=>P0_ k_)) hg (by repeat(first|(with_reducible first|exact HK.out|apply Kept.alloc|apply Kept.drewN|apply Kept.drew)|exact HK.out)) (fun k_ e_=>by simp[Value.ownBlock] at e_));clear ho hb hg hat))
     go_meet
     case rel=>exact⟨_,(y146),H',⟨by first|omega|exact Nat.le_refl _⟩,⟨by(with_reducible repeat(first|apply Kd.aX|apply Kd.aY|apply Kd.bP));exact HO145.out⟩,⟨by(with_reducible repeat(first|apply Kd.aX|apply Kd.aY|apply Kd.bP));exact HO148.out⟩,⟨by repeat(first|(with_reducible first|exact HK.out|apply Kept.alloc|apply Kept.drewN|apply Kept.drew)|exact HK.out)⟩,⟨pkL HB⟩⟩
    ·rw[if_neg c13] at H
     exact absurd H aCq
   ·replace c12:=Bool.eq_false_iff.mpr c12
    subst c12;rw[if_neg (show ¬(false=true) by decide)] at H;have H':=aA.mk H;clear H;go_wp2
    go_meet
    case rel=>exact⟨_,(([]:List Int)),H',⟨by first|omega|exact Nat.le_refl _⟩,⟨by(with_reducible repeat(first|apply Kd.aX|apply Kd.aY|apply Kd.bP));exact HO145.out⟩,⟨by first|exact Kd.R_nil _ _ _ _ _|exact Kd.N_nil _ _ _ _ _|exact Kd.V_nil _ _ _ _ _|exact Kd.Q_nil _ _ _ _ _|exact Kd.S_nil _ _ _ _ _⟩,⟨by repeat(first|(with_reducible first|exact HK.out|apply Kept.alloc|apply Kept.drewN|apply Kept.drew)|exact HK.out)⟩,⟨pkL HB⟩⟩
  case rest=>
   clear HC8;try clear c4
   try clear c4b0
   try clear c4b1
   try clear c4b2
   try clear c12
   try clear c13
   obtain⟨kq,x5_7,HA,HJ7,HO_0,HO_5,HK,HB⟩:=hcut
   cases kq with
   |zero=>exact absurd HA.out (by simp[dY.j0])
   |succ kj7=>
    have H:=HA.out;clear HA;simp only[dY.j0] at H;have H':=aA.mk H;clear H;go_wp2
    go_loopg [5,6] kj7 (fun kq v5 v6 w'=>∃(x5_2:List Int) (x6_2:Int),v6= .int .i64 x6_2∧aA (dY.l0 kq t143 x5_2 x6_2=some r)∧aA (kq≤kj7)∧aA (Kd.R (Kd.int .i64) 3 w' w0.heap.size (fun k_=>(P0_ k_∨w.heap.size≤k_)) (.slice Ao11 t143.length co11) t143)∧aA (Kd.R (Kd.int .u8) 5 w' w0.heap.size (fun k_=>(P0_ k_∨w.heap.size≤k_)) v5 x5_2)∧aA (Kept w w' (fun k_=>P0_ k_))∧aA (Below w0.heap.size w0 w'))
    case atStart=>exact⟨(x5_7),(wrap64 ((t143.length:Int)-1)),aCs,H',⟨Nat.le_refl _⟩,⟨by(with_reducible repeat(first|apply Kd.aX|apply Kd.aY|apply Kd.bP));exact HO_0.out⟩,⟨by(with_reducible repeat(first|apply Kd.aX|apply Kd.aY|apply Kd.bP));exact HO_5.out⟩,⟨by repeat(first|(with_reducible first|exact HK.out|apply Kept.alloc|apply Kept.drewN|apply Kept.drew)|exact HK.out)⟩,⟨pkL HB⟩⟩
    case round=>
     clear H';try clear c4
     try clear c4b0
     try clear c4b1
     try clear c4b2
     try clear c12
     try clear c13
     obtain⟨x5_2,x6_2,rfl,HA,HK2,HO_0,HO_5,HK,HB⟩:=hrel
     cases gk with
     |zero=>exact absurd HA.out (by simp[dY.l0])
     |succ k2=>
      have H:=HA.out;clear HA;simp only[dY.l0] at H
      by_cases c15:x6_2≥0
      ·rw[if_pos c15] at H
       have c15b0:decide (0≤x6_2)=true:=decide_eq_true c15;clear c15
       by_cases c16:0≤x6_2
       ·rw[if_pos c16] at H
        have c16b0:decide (0≤x6_2)=true:=decide_eq_true c16;clear c16
        by_cases c17:x6_2<(t143.length:Int)
        ·rw[if_pos c17] at H
         have c17b0:decide (x6_2<(t143.length:Int))=true:=decide_eq_true c17;clear c17
         by_cases c18:x5_2.length<140737488355328
         ·rw[if_pos c18] at H
          have LMc18:=aA.mk c18;clear c18;obtain⟨y150,hy150⟩:∃y_:List Int,y_=(x5_2++ [(wrap64 (48+(rd t143 x6_2)))%256]):=⟨_,rfl⟩
          replace H:(dY.l0 k2 t143 y150 (wrap64 (x6_2-1)))=some r:=by first|(rw[hy150];with_reducible exact H)|(have H2_:=(Option.bind_some _ _).symm.trans H;rw[hy150];with_reducible exact H2_)|(have H2_:=(Option.bind_some _ _).symm.trans H;with_reducible exact H2_)|with_reducible exact H|(rw[hy150];exact H)|exact H
          have Ny150:=aA.mk hy150;clear hy150;have H':=aA.mk H;clear H;have p149:0≤(x6_2:Int):=of_decide_eq_true (by first|(with_reducible assumption)|assumption);have q149:x6_2<(t143.length:Int):=of_decide_eq_true (by first|(with_reducible assumption)|assumption);obtain⟨ad149,e149,hx149_0⟩:=Kd.kS (Kd.dH HO_0.out).2.2 x6_2 p149 q149
          cases e149
          replace p149:=eq_true p149;replace q149:=eq_true q149
          go_wp2_with(first|((with_reducible refine mQ (b:= .append) (xs:=#[.tmp 23,.tmp 30]) rfl ?_);at_builtin;refine Kd.xU (Kd.int .u8) (w0:=w0) w0.heap.size rfl (.tmp 23) (.tmp 30) 129 5 (.int .u8 0) 1 rfl Tryz.underlying129 info5 rfl aCr aCo u5 x5_2 ((wrap64 (48+(rd t143 x6_2)))%256) [.int .u8 ((wrap64 (48+(rd t143 x6_2)))%256)] (fun k_=>(P0_ k_∨w.heap.size≤k_)) (fun _=>False) rfl rfl ?aP (fun _ hk=>hk.elim) ?aF ?aO ?aB ?aS ?aL ?_;(case aP=>exact rfl);(case aB=>exact(pkL HB));(case aF=>exact(fun k_ hk=>(.inr (Nat.le_trans (by first|exact HK.out.1|exact(show Kept w _ (fun k_=>P0_ k_) from by repeat(first|(with_reducible first|exact HK.out|apply Kept.alloc|apply Kept.drewN|apply Kept.drew)|exact HK.out)).1) hk))));(case aO=>exact(by(with_reducible repeat(first|apply Kd.aX|apply Kd.aY|apply Kd.bP));exact HO_5.out));(case aS=>exact(dU (pkL HB)));(case aL=>have:=LMc18.out;omega);intro v151 w19 ho hb hg hat;rw[←Ny150.out] at ho;have n0_:=aA.mk (Kd.R_over' (by(with_reducible repeat(first|apply Kd.aX|apply Kd.aY|apply Kd.bP));exact HO_0.out) (Kd.R_typed (by(with_reducible repeat(first|apply Kd.aX|apply Kd.aY|apply Kd.bP));exact HO_5.out)) aCr hg);have n1_:=aA.mk (hb);have n2_:=aA.mk (Kept.of_grown (S:=(fun k_=>P0_ k_)) hg (by repeat(first|(with_reducible first|exact HK.out|apply Kept.alloc|apply Kept.drewN|apply Kept.drew)|exact HK.out)) (fun k_ e_=>(HO_5.out.1 k_ e_)));have n3_:=aA.mk (ho);clear HO_0;clear HB;clear HK;clear HO_5;have HO_0:=n0_;have HB:=n1_;have HK:=n2_;have HO152:=n3_;clear n0_ n1_ n2_ n3_;clear ho hb hg hat))
          go_roundg k2
          case measure=>have:=HJ7.out;have:=HK2.out;omega
          case rel=>exact⟨(y150),(wrap64 (x6_2-1)),aCs,H',⟨by have:=HJ7.out;have:=HK2.out;omega⟩,⟨by(with_reducible repeat(first|apply Kd.aX|apply Kd.aY|apply Kd.bP));exact HO_0.out⟩,⟨by(with_reducible repeat(first|apply Kd.aX|apply Kd.aY|apply Kd.bP));exact HO152.out⟩,⟨by repeat(first|(with_reducible first|exact HK.out|apply Kept.alloc|apply Kept.drewN|apply Kept.drew)|exact HK.out)⟩,⟨pkL HB⟩⟩
         ·rw[if_neg c18] at H
          exact absurd H aCq
        ·rw[if_neg c17] at H
         exact absurd H aCq
       ·rw[if_neg c16] at H
        exact absurd H aCq
      ·rw[if_neg c15] at H
       have c15b0:decide (0≤x6_2)=false:=decide_eq_false c15;clear c15;obtain rfl:=Option.some.inj H;have hcv20:=own_string (P:=Tryz.prog) Tryz.underlying129 Tryz.underlying5 Tryz.underlying22 (Kd.own_of_R HO_5.out);go_wp2
       go_ret
       exact⟨by first|rfl|(simp[dW,dX] <;> rfl)|(simp[*,dW,dX] <;> rfl),by repeat(first|(with_reducible first|exact HB.out|apply cZ|apply bH|apply bG)|exact HB.out),by repeat(first|(with_reducible first|exact HK.out|apply Kept.alloc|apply Kept.drewN|apply Kept.drew)|exact HK.out)⟩
def bZ.l0:Nat→ByteArray→List Int→Int→Option (List Int)
 |0,_,_,_=>none
 |k+1,x0,x3,x4=>if x4≥0 then(if 0≤x4 then(if x4<(x0.size:Int) then(if(bt x0 x4)=45 then(some x3) else(if x3.length<17592186044416 then(bZ.l0 k x0 (x3++ [((bt x0 x4)-48)%256]) (wrap64 (x4-1))) else(none))) else(none)) else(none)) else(some x3)
def bZ.f(k:Nat)(a0:ByteArray):Option (List Int):=bZ.l0 k a0 ([]:List Int) (wrap64 ((a0.size:Int)-1))
theorem bZ.calls(k:Nat)(a0:ByteArray)(r:List Int)(w:World)(h:bZ.f k a0=some r) :
 Calls Tryz.prog 156 #[.string a0] w fun e w'=>∃v0_:Value,e= .returned (v0_)∧Kd.R (Kd.int .i64) 3 w' w.heap.size (fun _=>True) v0_ r∧Below w.heap.size w w':=by
 have HB:=aA.mk (Below.refl w.heap.size w);have H:(bZ.l0 k a0 ([]:List Int) (wrap64 ((a0.size:Int)-1)))=some r:=h;clear h;have H':=aA.mk H;clear H;go_enter Tryz.func156,Tryz.ntmps156
 go_wp2
 go_loopg [3,4] k (fun kq v3 v4 w'=>∃(x3_1:List Int) (x4_1:Int),v4= .int .i64 x4_1∧aA (bZ.l0 kq a0 x3_1 x4_1=some r)∧aA (kq≤k)∧aA (Kd.R (Kd.int .i64) 3 w' w.heap.size (fun _=>True) v3 x3_1)∧aA (Below w.heap.size w w'))
 case atStart=>exact⟨(([]:List Int)),(wrap64 ((a0.size:Int)-1)),aCs,H',⟨Nat.le_refl _⟩,⟨by first|exact Kd.R_nil _ _ _ _ _|exact Kd.N_nil _ _ _ _ _|exact Kd.V_nil _ _ _ _ _|exact Kd.Q_nil _ _ _ _ _|exact Kd.S_nil _ _ _ _ _⟩,⟨pkL HB⟩⟩
 case round=>
  clear H';obtain⟨x3_1,x4_1,rfl,HA,HK1,HO_3,HB⟩:=hrel
  cases gk with
  |zero=>exact absurd HA.out (by simp[bZ.l0])
  |succ k1=>
   have H:=HA.out;clear HA;simp only[bZ.l0] at H
   by_cases c2:x4_1≥0
   ·rw[if_pos c2] at H
    have c2b0:decide (0≤x4_1)=true:=decide_eq_true c2;clear c2
    by_cases c3:0≤x4_1
    ·rw[if_pos c3] at H
     have c3b0:decide (0≤x4_1)=true:=decide_eq_true c3;clear c3
     by_cases c4:x4_1<(a0.size:Int)
     ·rw[if_pos c4] at H
      have c4b0:decide (x4_1<(a0.size:Int))=true:=decide_eq_true c4;clear c4
      by_cases c6:(bt a0 x4_1)=45
      ·rw[if_pos c6] at H
       have c6b0:((bt a0 x4_1)==45)=true:=beq_iff_eq.mpr c6;have c6b1:((bt a0 x4_1) != 45)=false:=bne_eq_false_iff_eq.mpr c6;clear c6;obtain rfl:=Option.some.inj H;have p5:0≤(x4_1:Int):=of_decide_eq_true (by first|(with_reducible assumption)|assumption);have q5:x4_1<(a0.size:Int):=of_decide_eq_true (by first|(with_reducible assumption)|assumption);have hx5:=uX a0 x4_1;replace p5:=eq_true p5;replace q5:=eq_true q5;go_wp2
       go_ret
       exact⟨_,by first|rfl|(simp[dW,dX] <;> rfl)|(simp[*,dW,dX] <;> rfl),by(with_reducible repeat(first|apply Kd.aX|apply Kd.aY|apply Kd.bP));exact HO_3.out,by repeat(first|(with_reducible first|exact HB.out|apply cZ|apply bH|apply bG)|exact HB.out)⟩
      ·rw[if_neg c6] at H
       have c6b0:((bt a0 x4_1)==45)=false:=beq_eq_false_iff_ne.mpr c6;have c6b1:((bt a0 x4_1) != 45)=true:=bne_iff_ne.mpr c6
       by_cases c8:x3_1.length<17592186044416
       ·rw[if_pos c8] at H
        have LMc8:=aA.mk c8;clear c8;obtain⟨y153,hy153⟩:∃y_:List Int,y_=(x3_1++ [((bt a0 x4_1)-48)%256]):=⟨_,rfl⟩
        replace H:(bZ.l0 k1 a0 y153 (wrap64 (x4_1-1)))=some r:=by first|(rw[hy153];with_reducible exact H)|(have H2_:=(Option.bind_some _ _).symm.trans H;rw[hy153];with_reducible exact H2_)|(have H2_:=(Option.bind_some _ _).symm.trans H;with_reducible exact H2_)|with_reducible exact H|(rw[hy153];exact H)|exact H
        have Ny153:=aA.mk hy153;clear hy153;have H':=aA.mk H;clear H;have p5:0≤(x4_1:Int):=of_decide_eq_true (by first|(with_reducible assumption)|assumption);have q5:x4_1<(a0.size:Int):=of_decide_eq_true (by first|(with_reducible assumption)|assumption);have hx5:=uX a0 x4_1;replace p5:=eq_true p5;replace q5:=eq_true q5;have p7:0≤(x4_1:Int):=of_decide_eq_true (by first|(with_reducible assumption)|assumption);have q7:x4_1<(a0.size:Int):=of_decide_eq_true (by first|(with_reducible assumption)|assumption);have hx7:=uX a0 x4_1;replace p7:=eq_true p7;replace q7:=eq_true q7
        go_wp2_with(first|((with_reducible refine mQ (b:= .append) (xs:=#[.tmp 18,.tmp 24]) rfl ?_);at_builtin;refine Kd.xU (Kd.int .i64) (w0:=w) w.heap.size rfl (.tmp 18) (.tmp 24) 79 3 (.int .i64 0) 8 rfl Tryz.underlying79 info3 rfl aCr aCo u3 x3_1 (((bt a0 x4_1)-48)%256) [.int .i64 (((bt a0 x4_1)-48)%256)] (fun _=>True) (fun _=>False) rfl rfl ?aP (fun _ hk=>hk.elim) ?aF ?aO ?aB ?aS ?aL ?_;(case aP=>exact rfl);(case aB=>exact(pkL HB));(case aF=>exact(fun _ _=>trivial));(case aO=>exact(by(with_reducible repeat(first|apply Kd.aX|apply Kd.aY|apply Kd.bP));exact HO_3.out));(case aS=>exact(dU (pkL HB)));(case aL=>have:=LMc8.out;omega);intro v154 w9 ho hb hg hat;rw[←Ny153.out] at ho;have HO155:=aA.mk (ho);replace HB:=aA.mk (hb);clear ho hb hg hat))
        go_roundg k1
        case measure=>have:=HK1.out;omega
        case rel=>exact⟨(y153),(wrap64 (x4_1-1)),aCs,H',⟨by have:=HK1.out;omega⟩,⟨by(with_reducible repeat(first|apply Kd.aX|apply Kd.aY|apply Kd.bP));exact HO155.out⟩,⟨pkL HB⟩⟩
       ·rw[if_neg c8] at H
        exact absurd H aCq
     ·rw[if_neg c4] at H
      exact absurd H aCq
    ·rw[if_neg c3] at H
     exact absurd H aCq
   ·rw[if_neg c2] at H
    have c2b0:decide (0≤x4_1)=false:=decide_eq_false c2;clear c2;obtain rfl:=Option.some.inj H;go_wp2
    go_ret
    exact⟨_,by first|rfl|(simp[dW,dX] <;> rfl)|(simp[*,dW,dX] <;> rfl),by(with_reducible repeat(first|apply Kd.aX|apply Kd.aY|apply Kd.bP));exact HO_3.out,by repeat(first|(with_reducible first|exact HB.out|apply cZ|apply bH|apply bG)|exact HB.out)⟩
def dR.f(a0:ByteArray):Option (Bool):=if 0<(a0.size:Int) then(some ((bt a0 0)==45)) else(none)
theorem dR.calls(a0:ByteArray)(r:Bool)(w:World)(h:dR.f a0=some r) :
 Calls Tryz.prog 158 #[.string a0] w fun e w'=>e= .returned (.bool r)∧aZ w w':=by
 have H:(if 0<(a0.size:Int) then(some ((bt a0 0)==45)) else(none))=some r:=h;clear h
 by_cases c2:0<(a0.size:Int)
 ·rw[if_pos c2] at H
  have c2b0:decide (0<(a0.size:Int))=true:=decide_eq_true c2;have c2b1:decide (0<a0.size)=true:=decide_eq_true aCo;clear c2;obtain rfl:=Option.some.inj H;have p3:0≤(0:Int):=aCo;have q3:0<a0.size:=(by have:(0:Int)<(a0.size:Int):=of_decide_eq_true (by first|(with_reducible assumption)|assumption);omega);have hx3:∀h:0<a0.size,((a0[0]'h).toNat:Int)=bt a0 0:=uX a0 0
  clear p3;have qi3:(0<(a0.size:Int))=True:=eq_true (of_decide_eq_true (by first|(with_reducible assumption)|assumption));replace q3:=eq_true q3;go_enter Tryz.func158,Tryz.ntmps158
  go_wp2
  go_ret
  exact⟨by first|rfl|(simp;done)|(simp[*];done),by repeat(first|exact aZ.refl _|apply aZ.step)⟩
 ·rw[if_neg c2] at H
  exact absurd H aCq
end Go.Proofs.YtignanmmgaldeaaGreatDoor.PRefA
end
section
set_option linter.unusedVariables false
set_option linter.unusedSimpArgs false
set_option maxHeartbeats 8000000
set_option maxRecDepth 100000
namespace Go.Proofs.YtignanmmgaldeaaGreatDoor.PRefA
open Go.RowKit Go.Proofs.YtignanmmgaldeaaGreatDoorW.PrintWords Go.Proofs.YtignanmmgaldeaaGreatDoorW.PrintLast Go.Proofs.YtignanmmgaldeaaGreatDoorW.PrintMore
attribute [local go_sem] gI gJ iE iF
def gW.f(a0:ByteArray):Option (Int):=(dR.f a0).bind fun t157=>(if t157=true then(some (wrap64 ((a0.size:Int)-1))) else(some (a0.size:Int)))
theorem gW.calls(a0:ByteArray)(r:Int)(w:World)(h:gW.f a0=some r) :
 Calls Tryz.prog 149 #[.string a0] w fun e w'=>e= .returned (.int .i64 r)∧aZ w w':=by
 have H:((dR.f a0).bind fun t157=>(if t157=true then(some (wrap64 ((a0.size:Int)-1))) else(some (a0.size:Int))))=some r:=h;clear h;obtain⟨t157,A2,H⟩:=bi H;try dsimp only at H
 by_cases c3:t157=true
 ·subst c3
  rw[if_pos rfl] at H;obtain rfl:=Option.some.inj H;go_enter Tryz.func149,Tryz.ntmps149
  go_wp2_with(first|((with_reducible refine aG (f:=158) rfl ?_);refine gl_ 4 Tryz.func158 #[.string a0] (h:= ?_);(with_reducible refine(dR.calls a0 true _ A2.out).mono ?_);rintro e w' ⟨rfl,⟨nd,rfl⟩⟩;refine⟨_,rfl,?_⟩))
  go_ret
  exact⟨by first|rfl|(simp;done)|(simp[*];done),by repeat(first|exact aZ.refl _|apply aZ.step)⟩
 ·replace c3:=Bool.eq_false_iff.mpr c3
  subst c3;rw[if_neg (show ¬(false=true) by decide)] at H;obtain rfl:=Option.some.inj H;go_enter Tryz.func149,Tryz.ntmps149
  go_wp2_with(first|((with_reducible refine aG (f:=158) rfl ?_);refine gl_ 4 Tryz.func158 #[.string a0] (h:= ?_);(with_reducible refine(dR.calls a0 false _ A2.out).mono ?_);rintro e w' ⟨rfl,⟨nd,rfl⟩⟩;refine⟨_,rfl,?_⟩))
  go_ret
  exact⟨by first|rfl|(simp;done)|(simp[*];done),by repeat(first|exact aZ.refl _|apply aZ.step)⟩
def kJ.f(a0:ByteArray)(a1:Int):Option (Bool):=(gW.f a0).bind fun t158=>(some (decide (t158≤a1)))
theorem kJ.calls(a0:ByteArray)(a1:Int)(r:Bool)(w:World)(h:kJ.f a0 a1=some r) :
 Calls Tryz.prog 150 #[.string a0,.int .i64 a1] w fun e w'=>e= .returned (.bool r)∧aZ w w':=by
 have H:((gW.f a0).bind fun t158=>(some (decide (t158≤a1))))=some r:=h;clear h;obtain⟨t158,A3,H⟩:=bi H;try dsimp only at H
 obtain rfl:=Option.some.inj H;go_enter Tryz.func150,Tryz.ntmps150
 go_wp2_with(first|((with_reducible refine aG (f:=149) rfl ?_);refine gl_ 6 Tryz.func149 #[.string a0] (h:= ?_);(with_reducible refine(gW.calls a0 t158 _ A3.out).mono ?_);rintro e w' ⟨rfl,⟨nd,rfl⟩⟩;refine⟨_,rfl,?_⟩))
 go_ret
 exact⟨by first|rfl|(simp;done)|(simp[*];done),by repeat(first|exact aZ.refl _|apply aZ.step)⟩
end Go.Proofs.YtignanmmgaldeaaGreatDoor.PRefA
end
section
set_option linter.unusedVariables false
set_option linter.unusedSimpArgs false
set_option maxHeartbeats 8000000
set_option maxRecDepth 100000
namespace Go.Proofs.YtignanmmgaldeaaGreatDoor.PRefA
open Go.RowKit Go.Proofs.YtignanmmgaldeaaGreatDoorW.PrintWords Go.Proofs.YtignanmmgaldeaaGreatDoorW.PrintLast Go.Proofs.YtignanmmgaldeaaGreatDoorW.PrintMore
attribute [local go_sem] gI gJ iE iF
mutual
def aW.j0:Nat→ByteArray→Int→Bool→Option (Bool)
 |0,_,_,_=>none
 |k+1,x0,x3,x14=>if x14=true then(aW.j1 k x0 1) else(aW.j1 k x0 x3)
def aW.j1:Nat→ByteArray→Int→Option (Bool)
 |0,_,_=>none
 |k+1,x0,x3=>if x3=(x0.size:Int) then(aW.j2 k x0 x3 true) else(if 0≤x3 then(if x3<(x0.size:Int) then(aW.j2 k x0 x3 ((bt x0 x3)==48)) else(none)) else(none))
def aW.j2:Nat→ByteArray→Int→Bool→Option (Bool)
 |0,_,_,_=>none
 |k+1,x0,x3,x24=>if x24=true then(some false) else(aW.l0 k x0 x3)
def aW.l0:Nat→ByteArray→Int→Option (Bool)
 |0,_,_=>none
 |k+1,x0,x4=>if x4<(x0.size:Int) then(if 0≤x4 then(if(bt x0 x4)<48 then(some false) else(if(bt x0 x4)>57 then(some false) else(aW.l0 k x0 (wrap64 (x4+1))))) else(none)) else(some true)
end
def aW.f(k:Nat)(a0:ByteArray):Option (Bool):=if a0.toList=([48]:List UInt8) then(some true) else(if(a0.size:Int)>0 then(if 0<(a0.size:Int) then(aW.j0 k a0 0 ((bt a0 0)==45)) else(none)) else(aW.j0 k a0 0 false))
theorem aW.calls(k:Nat)(a0:ByteArray)(r:Bool)(w:World)(h:aW.f k a0=some r) :
 Calls Tryz.prog 184 #[.string a0] w fun e w'=>e= .returned (.bool r)∧aZ w w':=by
 have H:(if a0.toList=([48]:List UInt8) then(some true) else(if(a0.size:Int)>0 then(if 0<(a0.size:Int) then(aW.j0 k a0 0 ((bt a0 0)==45)) else(none)) else(aW.j0 k a0 0 false)))=some r:=h;clear h
 by_cases c2:a0.toList=([48]:List UInt8)
 ·rw[if_pos c2] at H
  have c2b0:(a0.toList==([48]:List UInt8))=true:=beq_iff_eq.mpr c2;have c2b1:(a0.toList != ([48]:List UInt8))=false:=bne_eq_false_iff_eq.mpr c2;clear c2;obtain rfl:=Option.some.inj H;go_enter Tryz.func184,Tryz.ntmps184
  go_wp2
  go_ret
  exact⟨by first|rfl|(simp;done)|(simp[*];done),by repeat(first|exact aZ.refl _|apply aZ.step)⟩
 ·rw[if_neg c2] at H
  have c2b0:(a0.toList==([48]:List UInt8))=false:=beq_eq_false_iff_ne.mpr c2;have c2b1:(a0.toList != ([48]:List UInt8))=true:=bne_iff_ne.mpr c2;have HC3:=aA.mk H;clear H;go_enter Tryz.func184,Tryz.ntmps184
  go_upto_region 4 with (fail)
  go_cut [14] (fun v14 wc=>∃(kq:Nat) (x14_2:Bool),v14= .bool x14_2∧aA (aW.j0 kq a0 0 x14_2=some r)∧aA (kq≤k)∧aZ w wc)
  case first=>
   have H:=HC3.out;clear HC3
   by_cases c4:(a0.size:Int)>0
   ·rw[if_pos c4] at H
    have c4b0:decide (0<(a0.size:Int))=true:=decide_eq_true c4;have c4b1:decide (0<a0.size)=true:=decide_eq_true aCo;clear c4
    (first|rw[c4b0]|(simp only[dE,dM];rw[c4b0])|skip)
    by_cases c5:0<(a0.size:Int)
    ·rw[if_pos c5] at H
     have c5b0:decide (0<(a0.size:Int))=true:=decide_eq_true c5;have c5b1:decide (0<a0.size)=true:=decide_eq_true aCo;clear c5;have H':=aA.mk H;clear H;have p6:0≤(0:Int):=aCo;have q6:0<a0.size:=(by have:(0:Int)<(a0.size:Int):=of_decide_eq_true (by first|(with_reducible assumption)|assumption);omega);have hx6:∀h:0<a0.size,((a0[0]'h).toNat:Int)=bt a0 0:=uX a0 0
     clear p6;have qi6:(0<(a0.size:Int))=True:=eq_true (of_decide_eq_true (by first|(with_reducible assumption)|assumption));replace q6:=eq_true q6;go_wp2
     go_meet
     case rel=>exact⟨_,(((bt a0 0)==45)),aCs,H',⟨by first|omega|exact Nat.le_refl _⟩,by repeat(first|exact aZ.refl _|apply aZ.step)⟩
    ·rw[if_neg c5] at H
     exact absurd H aCq
   ·rw[if_neg c4] at H
    have c4b0:decide (0<(a0.size:Int))=false:=decide_eq_false c4;have c4b1:decide (0<a0.size)=false:=decide_eq_false aCo;clear c4
    (first|rw[c4b0]|(simp only[dE,dM];rw[c4b0])|skip)
    have H':=aA.mk H;clear H;go_wp2
    go_meet
    case rel=>exact⟨_,(false),aCs,H',⟨by first|omega|exact Nat.le_refl _⟩,by repeat(first|exact aZ.refl _|apply aZ.step)⟩
  case rest=>
   clear HC3;try clear c2
   try clear c2b0
   try clear c2b1
   try clear c4
   try clear c4b0
   try clear c4b1
   try clear c5
   try clear c5b0
   try clear c5b1
   try clear p6
   try clear q6
   try clear hx6
   try clear qi6
   try clear p6
   try clear q6
   obtain⟨kq,x14_2,rfl,HA,HJ2,⟨mc2,rfl⟩⟩:=hcut
   cases kq with
   |zero=>exact absurd HA.out (by simp[aW.j0])
   |succ kj2=>
    have H:=HA.out;clear HA;simp only[aW.j0] at H;have HC7:=aA.mk H;clear H
    go_upto_if 14 with (fail)
    go_cut [3] (fun v3 wc=>∃(kq:Nat) (x3_6:Int),v3= .int .i64 x3_6∧aA (aW.j1 kq a0 x3_6=some r)∧aA (kq≤kj2)∧aZ w wc)
    case first=>
     have H:=HC7.out;clear HC7
     by_cases c8:x14_2=true
     ·subst c8
      rw[if_pos rfl] at H;have H':=aA.mk H;clear H;go_wp2
      go_meet
      case rel=>exact⟨_,(1),aCs,H',⟨by have:=HJ2.out;first|omega|exact Nat.le_refl _⟩,by repeat(first|exact aZ.refl _|apply aZ.step)⟩
     ·replace c8:=Bool.eq_false_iff.mpr c8
      subst c8;rw[if_neg (show ¬(false=true) by decide)] at H;have H':=aA.mk H;clear H;go_wp2
      go_meet
      case rel=>exact⟨_,(0),aCs,H',⟨by have:=HJ2.out;first|omega|exact Nat.le_refl _⟩,by repeat(first|exact aZ.refl _|apply aZ.step)⟩
    case rest=>
     clear HC7;try clear c2
     try clear c2b0
     try clear c2b1
     try clear c4
     try clear c4b0
     try clear c4b1
     try clear c5
     try clear c5b0
     try clear c5b1
     try clear p6
     try clear q6
     try clear hx6
     try clear qi6
     try clear c8
     try clear p6
     try clear q6
     obtain⟨kq,x3_6,rfl,HA,HJ6,⟨mc6,rfl⟩⟩:=hcut
     cases kq with
     |zero=>exact absurd HA.out (by simp[aW.j1])
     |succ kj6=>
      have H:=HA.out;clear HA;simp only[aW.j1] at H;have HC9:=aA.mk H;clear H
      go_upto_region 6 with (fail)
      go_cut [24] (fun v24 wc=>∃(kq:Nat) (x24_8:Bool),v24= .bool x24_8∧aA (aW.j2 kq a0 x3_6 x24_8=some r)∧aA (kq≤kj6)∧aZ w wc)
      case first=>
       have H:=HC9.out;clear HC9
       by_cases c10:x3_6=(a0.size:Int)
       ·rw[if_pos c10] at H
        have c10b0:(x3_6==(a0.size:Int))=true:=beq_iff_eq.mpr c10;have c10b1:(x3_6 != (a0.size:Int))=false:=bne_eq_false_iff_eq.mpr c10;clear c10
        (first|rw[c10b0]|(simp only[dE,dM];rw[c10b0])|skip)
        have H':=aA.mk H;clear H;go_wp2
        go_meet
        case rel=>exact⟨_,(true),aCs,H',⟨by have:=HJ2.out;have:=HJ6.out;first|omega|exact Nat.le_refl _⟩,by repeat(first|exact aZ.refl _|apply aZ.step)⟩
       ·rw[if_neg c10] at H
        have c10b0:(x3_6==(a0.size:Int))=false:=beq_eq_false_iff_ne.mpr c10;have c10b1:(x3_6 != (a0.size:Int))=true:=bne_iff_ne.mpr c10
        (first|rw[c10b0]|(simp only[dE,dM];rw[c10b0])|skip)
        by_cases c11:0≤x3_6
        ·rw[if_pos c11] at H
         have c11b0:decide (0≤x3_6)=true:=decide_eq_true c11;clear c11
         by_cases c12:x3_6<(a0.size:Int)
         ·rw[if_pos c12] at H
          have c12b0:decide (x3_6<(a0.size:Int))=true:=decide_eq_true c12;clear c12;have H':=aA.mk H;clear H;have p13:0≤(x3_6:Int):=of_decide_eq_true (by first|(with_reducible assumption)|assumption);have q13:x3_6<(a0.size:Int):=of_decide_eq_true (by first|(with_reducible assumption)|assumption);have hx13:=uX a0 x3_6;replace p13:=eq_true p13;replace q13:=eq_true q13;go_wp2
          go_meet
          case rel=>exact⟨_,(((bt a0 x3_6)==48)),aCs,H',⟨by have:=HJ2.out;have:=HJ6.out;first|omega|exact Nat.le_refl _⟩,by repeat(first|exact aZ.refl _|apply aZ.step)⟩
         ·rw[if_neg c12] at H
          exact absurd H aCq
        ·rw[if_neg c11] at H
         exact absurd H aCq
      case rest=>
       clear HC9;try clear c2
       try clear c2b0
       try clear c2b1
       try clear c4
       try clear c4b0
       try clear c4b1
       try clear c5
       try clear c5b0
       try clear c5b1
       try clear p6
       try clear q6
       try clear hx6
       try clear qi6
       try clear c8
       try clear c10
       try clear c10b0
       try clear c10b1
       try clear c11
       try clear c11b0
       try clear c12
       try clear c12b0
       try clear p13
       try clear q13
       try clear hx13
       try clear p13
       try clear p6
       try clear q13
       try clear q6
       obtain⟨kq,x24_8,rfl,HA,HJ8,⟨mc8,rfl⟩⟩:=hcut
       cases kq with
       |zero=>exact absurd HA.out (by simp[aW.j2])
       |succ kj8=>
        have H:=HA.out;clear HA;simp only[aW.j2] at H
        by_cases c14:x24_8=true
        ·subst c14
         rw[if_pos rfl] at H;obtain rfl:=Option.some.inj H;go_wp2
         go_ret
         exact⟨by first|rfl|(simp;done)|(simp[*];done),by repeat(first|exact aZ.refl _|apply aZ.step)⟩
        ·replace c14:=Bool.eq_false_iff.mpr c14
         subst c14;rw[if_neg (show ¬(false=true) by decide)] at H;have H':=aA.mk H;clear H;go_wp2
         go_loopg [4] kj8 (fun kq v4 w'=>∃(x4_4:Int),v4= .int .i64 x4_4∧aA (aW.l0 kq a0 x4_4=some r)∧aA (kq≤kj8)∧aZ w w')
         case atStart=>exact⟨(x3_6),aCs,H',⟨Nat.le_refl _⟩,by repeat(first|exact aZ.refl _|apply aZ.step)⟩
         case round=>
          clear H';try clear c2
          try clear c2b0
          try clear c2b1
          try clear c4
          try clear c4b0
          try clear c4b1
          try clear c5
          try clear c5b0
          try clear c5b1
          try clear p6
          try clear q6
          try clear hx6
          try clear qi6
          try clear c8
          try clear c10
          try clear c10b0
          try clear c10b1
          try clear c11
          try clear c11b0
          try clear c12
          try clear c12b0
          try clear p13
          try clear q13
          try clear hx13
          try clear c14
          try clear p13
          try clear p6
          try clear q13
          try clear q6
          obtain⟨x4_4,rfl,HA,HK4,⟨m4,rfl⟩⟩:=hrel
          cases gk with
          |zero=>exact absurd HA.out (by simp[aW.l0])
          |succ k4=>
           have H:=HA.out;clear HA;simp only[aW.l0] at H
           by_cases c15:x4_4<(a0.size:Int)
           ·rw[if_pos c15] at H
            have c15b0:decide (x4_4<(a0.size:Int))=true:=decide_eq_true c15;clear c15
            by_cases c16:0≤x4_4
            ·rw[if_pos c16] at H
             have c16b0:decide (0≤x4_4)=true:=decide_eq_true c16;clear c16
             by_cases c18:(bt a0 x4_4)<48
             ·rw[if_pos c18] at H
              have c18b0:decide ((bt a0 x4_4)<48)=true:=decide_eq_true c18;clear c18;obtain rfl:=Option.some.inj H;have p17:0≤(x4_4:Int):=of_decide_eq_true (by first|(with_reducible assumption)|assumption);have q17:x4_4<(a0.size:Int):=of_decide_eq_true (by first|(with_reducible assumption)|assumption);have hx17:=uX a0 x4_4;replace p17:=eq_true p17;replace q17:=eq_true q17;go_wp2
              go_ret
              exact⟨by first|rfl|(simp;done)|(simp[*];done),by repeat(first|exact aZ.refl _|apply aZ.step)⟩
             ·rw[if_neg c18] at H
              have c18b0:decide ((bt a0 x4_4)<48)=false:=decide_eq_false c18;clear c18
              by_cases c20:(bt a0 x4_4)>57
              ·rw[if_pos c20] at H
               have c20b0:decide (57<(bt a0 x4_4))=true:=decide_eq_true c20;clear c20;obtain rfl:=Option.some.inj H;have p17:0≤(x4_4:Int):=of_decide_eq_true (by first|(with_reducible assumption)|assumption);have q17:x4_4<(a0.size:Int):=of_decide_eq_true (by first|(with_reducible assumption)|assumption);have hx17:=uX a0 x4_4;replace p17:=eq_true p17;replace q17:=eq_true q17;have p19:0≤(x4_4:Int):=of_decide_eq_true (by first|(with_reducible assumption)|assumption);have q19:x4_4<(a0.size:Int):=of_decide_eq_true (by first|(with_reducible assumption)|assumption);have hx19:=uX a0 x4_4;replace p19:=eq_true p19;replace q19:=eq_true q19;go_wp2
               go_ret
               exact⟨by first|rfl|(simp;done)|(simp[*];done),by repeat(first|exact aZ.refl _|apply aZ.step)⟩
              ·rw[if_neg c20] at H
               have c20b0:decide (57<(bt a0 x4_4))=false:=decide_eq_false c20;clear c20;have H':=aA.mk H;clear H;have p17:0≤(x4_4:Int):=of_decide_eq_true (by first|(with_reducible assumption)|assumption);have q17:x4_4<(a0.size:Int):=of_decide_eq_true (by first|(with_reducible assumption)|assumption);have hx17:=uX a0 x4_4;replace p17:=eq_true p17;replace q17:=eq_true q17;have p19:0≤(x4_4:Int):=of_decide_eq_true (by first|(with_reducible assumption)|assumption);have q19:x4_4<(a0.size:Int):=of_decide_eq_true (by first|(with_reducible assumption)|assumption);have hx19:=uX a0 x4_4;replace p19:=eq_true p19;replace q19:=eq_true q19;go_wp2
               go_roundg k4
               case measure=>have:=HJ2.out;have:=HJ6.out;have:=HJ8.out;have:=HK4.out;omega
               case rel=>exact⟨(wrap64 (x4_4+1)),aCs,H',⟨by have:=HJ2.out;have:=HJ6.out;have:=HJ8.out;have:=HK4.out;omega⟩,by repeat(first|exact aZ.refl _|apply aZ.step)⟩
            ·rw[if_neg c16] at H
             exact absurd H aCq
           ·rw[if_neg c15] at H
            have c15b0:decide (x4_4<(a0.size:Int))=false:=decide_eq_false c15;clear c15;obtain rfl:=Option.some.inj H;go_wp2
            go_ret
            exact⟨by first|rfl|(simp;done)|(simp[*];done),by repeat(first|exact aZ.refl _|apply aZ.step)⟩
def kY.f(k:Nat)(a0:ByteArray):Option (Int):=(aW.f k a0).bind fun t188=>(if t188=true then((gW.f a0).bind fun t189=>(if t189>4096 then(some 10) else(some 0))) else(some 3))
theorem kY.calls(k:Nat)(a0:ByteArray)(r:Int)(w:World)(h:kY.f k a0=some r) :
 Calls Tryz.prog 115 #[.string a0] w fun e w'=>e= .returned (.int .i64 r)∧aZ w w':=by
 have H:((aW.f k a0).bind fun t188=>(if t188=true then((gW.f a0).bind fun t189=>(if t189>4096 then(some 10) else(some 0))) else(some 3)))=some r:=h;clear h;obtain⟨t188,A2,H⟩:=bi H;try dsimp only at H
 by_cases c3:t188=true
 ·subst c3
  rw[if_pos rfl] at H;obtain⟨t189,A4,H⟩:=bi H;try dsimp only at H
  by_cases c5:t189>4096
  ·rw[if_pos c5] at H
   have c5b0:decide (4096<t189)=true:=decide_eq_true c5;clear c5;obtain rfl:=Option.some.inj H;go_enter Tryz.func115,Tryz.ntmps115
   go_wp2_with(first|((with_reducible refine aG (f:=184) rfl ?_);refine gl_ 4 Tryz.func184 #[.string a0] (h:= ?_);(with_reducible refine(aW.calls k a0 true _ A2.out).mono ?_);rintro e w' ⟨rfl,⟨nd,rfl⟩⟩;refine⟨_,rfl,?_⟩)|((with_reducible refine aG (f:=149) rfl ?_);refine gl_ 7 Tryz.func149 #[.string a0] (h:= ?_);(with_reducible refine(gW.calls a0 t189 _ A4.out).mono ?_);rintro e w' ⟨rfl,⟨nd,rfl⟩⟩;refine⟨_,rfl,?_⟩))
   go_ret
   exact⟨by first|rfl|(simp;done)|(simp[*];done),by repeat(first|exact aZ.refl _|apply aZ.step)⟩
  ·rw[if_neg c5] at H
   have c5b0:decide (4096<t189)=false:=decide_eq_false c5;clear c5;obtain rfl:=Option.some.inj H;go_enter Tryz.func115,Tryz.ntmps115
   go_wp2_with(first|((with_reducible refine aG (f:=184) rfl ?_);refine gl_ 4 Tryz.func184 #[.string a0] (h:= ?_);(with_reducible refine(aW.calls k a0 true _ A2.out).mono ?_);rintro e w' ⟨rfl,⟨nd,rfl⟩⟩;refine⟨_,rfl,?_⟩)|((with_reducible refine aG (f:=149) rfl ?_);refine gl_ 7 Tryz.func149 #[.string a0] (h:= ?_);(with_reducible refine(gW.calls a0 t189 _ A4.out).mono ?_);rintro e w' ⟨rfl,⟨nd,rfl⟩⟩;refine⟨_,rfl,?_⟩))
   go_ret
   exact⟨by first|rfl|(simp;done)|(simp[*];done),by repeat(first|exact aZ.refl _|apply aZ.step)⟩
 ·replace c3:=Bool.eq_false_iff.mpr c3
  subst c3;rw[if_neg (show ¬(false=true) by decide)] at H;obtain rfl:=Option.some.inj H;go_enter Tryz.func115,Tryz.ntmps115
  go_wp2_with(first|((with_reducible refine aG (f:=184) rfl ?_);refine gl_ 4 Tryz.func184 #[.string a0] (h:= ?_);(with_reducible refine(aW.calls k a0 false _ A2.out).mono ?_);rintro e w' ⟨rfl,⟨nd,rfl⟩⟩;refine⟨_,rfl,?_⟩))
  go_ret
  exact⟨by first|rfl|(simp;done)|(simp[*];done),by repeat(first|exact aZ.refl _|apply aZ.step)⟩
def fP.f(a0:ByteArray):Option (Int):=if a0.toList=([48]:List UInt8) then(some 0) else((dR.f a0).bind fun t192=>(if t192=true then(some (-1)) else(some 1)))
theorem fP.calls(a0:ByteArray)(r:Int)(w:World)(h:fP.f a0=some r) :
 Calls Tryz.prog 142 #[.string a0] w fun e w'=>e= .returned (.int .i64 r)∧aZ w w':=by
 have H:(if a0.toList=([48]:List UInt8) then(some 0) else((dR.f a0).bind fun t192=>(if t192=true then(some (-1)) else(some 1))))=some r:=h;clear h
 by_cases c2:a0.toList=([48]:List UInt8)
 ·rw[if_pos c2] at H
  have c2b0:(a0.toList==([48]:List UInt8))=true:=beq_iff_eq.mpr c2;have c2b1:(a0.toList != ([48]:List UInt8))=false:=bne_eq_false_iff_eq.mpr c2;clear c2;obtain rfl:=Option.some.inj H;go_enter Tryz.func142,Tryz.ntmps142
  go_wp2
  go_ret
  exact⟨by first|rfl|(simp;done)|(simp[*];done),by repeat(first|exact aZ.refl _|apply aZ.step)⟩
 ·rw[if_neg c2] at H
  have c2b0:(a0.toList==([48]:List UInt8))=false:=beq_eq_false_iff_ne.mpr c2;have c2b1:(a0.toList != ([48]:List UInt8))=true:=bne_iff_ne.mpr c2;obtain⟨t192,A3,H⟩:=bi H;try dsimp only at H
  by_cases c4:t192=true
  ·subst c4
   rw[if_pos rfl] at H;obtain rfl:=Option.some.inj H;go_enter Tryz.func142,Tryz.ntmps142
   go_wp2_with(first|((with_reducible refine aG (f:=158) rfl ?_);refine gl_ 6 Tryz.func158 #[.string a0] (h:= ?_);(with_reducible refine(dR.calls a0 true _ A3.out).mono ?_);rintro e w' ⟨rfl,⟨nd,rfl⟩⟩;refine⟨_,rfl,?_⟩))
   go_ret
   exact⟨by first|rfl|(simp;done)|(simp[*];done),by repeat(first|exact aZ.refl _|apply aZ.step)⟩
  ·replace c4:=Bool.eq_false_iff.mpr c4
   subst c4;rw[if_neg (show ¬(false=true) by decide)] at H;obtain rfl:=Option.some.inj H;go_enter Tryz.func142,Tryz.ntmps142
   go_wp2_with(first|((with_reducible refine aG (f:=158) rfl ?_);refine gl_ 6 Tryz.func158 #[.string a0] (h:= ?_);(with_reducible refine(dR.calls a0 false _ A3.out).mono ?_);rintro e w' ⟨rfl,⟨nd,rfl⟩⟩;refine⟨_,rfl,?_⟩))
   go_ret
   exact⟨by first|rfl|(simp;done)|(simp[*];done),by repeat(first|exact aZ.refl _|apply aZ.step)⟩
def jK.f(k:Nat)(a0:ByteArray)(a1:ByteArray):Option (Int):=(fP.f a0).bind fun t193=>((fP.f a1).bind fun t194=>(if t193=t194 then((bZ.f k a0).bind fun t195=>((bU.f k t195).bind fun t198=>((bZ.f k a1).bind fun t201=>((bU.f k t201).bind fun t204=>((eU.f k t198 t204).bind fun t207=>(some (wrap64 (t193*t207)))))))) else(if t193<t194 then(some (-1)) else(some 1))))
theorem jK.calls(k:Nat)(a0:ByteArray)(a1:ByteArray)(r:Int)(w:World)(h:jK.f k a0 a1=some r) :
 Calls Tryz.prog 186 #[.string a0,.string a1] w fun e w'=>e= .returned (.int .i64 r)∧Below w.heap.size w w':=by
 have HB:=aA.mk (Below.refl w.heap.size w);have H:((fP.f a0).bind fun t193=>((fP.f a1).bind fun t194=>(if t193=t194 then((bZ.f k a0).bind fun t195=>((bU.f k t195).bind fun t198=>((bZ.f k a1).bind fun t201=>((bU.f k t201).bind fun t204=>((eU.f k t198 t204).bind fun t207=>(some (wrap64 (t193*t207)))))))) else(if t193<t194 then(some (-1)) else(some 1)))))=some r:=h;clear h;obtain⟨t193,A3,H⟩:=bi H;try dsimp only at H
 obtain⟨t194,A4,H⟩:=bi H;try dsimp only at H
 by_cases c5:t193=t194
 ·rw[if_pos c5] at H
  have c5b0:(t193==t194)=true:=beq_iff_eq.mpr c5;have c5b1:(t193 != t194)=false:=bne_eq_false_iff_eq.mpr c5;clear c5;obtain⟨t195,A6,H⟩:=bi H;try dsimp only at H
  obtain⟨t198,A7,H⟩:=bi H;try dsimp only at H
  obtain⟨t201,A8,H⟩:=bi H;try dsimp only at H
  obtain⟨t204,A9,H⟩:=bi H;try dsimp only at H
  obtain⟨t207,A10,H⟩:=bi H;try dsimp only at H
  obtain rfl:=Option.some.inj H;go_enter Tryz.func186,Tryz.ntmps186
  go_wp2_with(first|((with_reducible refine aG (f:=142) rfl ?_);refine gl_ 8 Tryz.func142 #[.string a0] (h:= ?_);(with_reducible refine(fP.calls a0 t193 _ A3.out).mono ?_);rintro e w' ⟨rfl,⟨nd,rfl⟩⟩;refine⟨_,rfl,?_⟩)|((with_reducible refine aG (f:=142) rfl ?_);refine gl_ 10 Tryz.func142 #[.string a1] (h:= ?_);(with_reducible refine(fP.calls a1 t194 _ A4.out).mono ?_);rintro e w' ⟨rfl,⟨nd,rfl⟩⟩;refine⟨_,rfl,?_⟩)|((with_reducible refine aG (f:=156) rfl ?_);refine gl_ 19 Tryz.func156 #[.string a0] (h:= ?_);(with_reducible refine(bZ.calls k a0 t195 _ A6.out).mono ?_);rintro e w11 ⟨v196,rfl,ho0,hb⟩;refine⟨_,rfl,?_⟩;have HO197:=aA.mk (Kd.jF ho0 (dU (pkL HB)));replace HB:=pkB HB hb;try clear hb;(try clear ho0);obtain⟨Ao12,co12,eo12⟩:=Kd.gY HO197.out;subst eo12)|((with_reducible refine aG (f:=155) rfl ?_);refine gl_ 20 Tryz.func155 #[.slice Ao12 t195.length co12] (h:= ?_);(with_reducible refine(bU.calls k (fun k_=>some k_=(.slice Ao12 t195.length co12:Value).ownBlock) (.slice Ao12 t195.length co12) t195 t198 w _ ?side1 ?side2 A7.out).mono ?_);(case side1=>repeat(first|(with_reducible first|exact HB.out|apply cZ|apply bH|apply bG)|exact HB.out));(case side2=>exact Kd.uG rfl HO197.out);rintro e w13 ⟨v199,rfl,ho0,hb,hkp⟩;refine⟨_,rfl,?_⟩;have HO200:=aA.mk (Kd.jO (ok':=fun k_=>True) ho0 (fun k_ hk_=>trivial));replace HB:=aA.mk (hb);(try clear hb);(try clear hkp);(try clear ho0))|((with_reducible refine aG (f:=156) rfl ?_);refine gl_ 22 Tryz.func156 #[.string a1] (h:= ?_);(with_reducible refine(bZ.calls k a1 t201 _ A8.out).mono ?_);rintro e w14 ⟨v202,rfl,ho0,hb⟩;refine⟨_,rfl,?_⟩;have n0_:=aA.mk (Kd.aA0 (by(with_reducible repeat(first|apply Kd.aX|apply Kd.aY|apply Kd.bP));exact HO200.out) (Kd.R_base ho0) hb);have n1_:=aA.mk (Kd.jF (Kd.R_new' ho0 (Kd.R_lt (by(with_reducible repeat(first|apply Kd.aX|apply Kd.aY|apply Kd.bP));exact HO200.out))) (dU (pkL HB)));have n2_:=pkB HB hb;clear HO200;clear HB;have HO200:=n0_;have HO203:=n1_;have HB:=n2_;clear n0_ n1_ n2_;try clear hb;(try clear ho0);obtain⟨Ao15,co15,eo15⟩:=Kd.gY HO203.out;subst eo15)|((with_reducible refine aG (f:=155) rfl ?_);refine gl_ 23 Tryz.func155 #[.slice Ao15 t201.length co15] (h:= ?_);(with_reducible refine(bU.calls k (fun k_=>some k_=(.slice Ao15 t201.length co15:Value).ownBlock) (.slice Ao15 t201.length co15) t201 t204 w _ ?side1 ?side2 A9.out).mono ?_);(case side1=>repeat(first|(with_reducible first|exact HB.out|apply cZ|apply bH|apply bG)|exact HB.out));(case side2=>exact Kd.uG rfl HO203.out);rintro e w16 ⟨v205,rfl,ho0,hb,hkp⟩;refine⟨_,rfl,?_⟩;have n0_:=aA.mk (Kd.jO (ok':=fun k_=>some k_≠(v205:Value).ownBlock) (Kd.R_keptB (HO200.out) hkp (fun k_ hk_ hs_=>(hk_.2) hs_)) (fun k_ hk_=>fun e_=>Or.elim (ho0.1 k_ e_.symm) (fun hs_=>hk_.2.1 hs_) (fun hn_=>Nat.not_le.2 hk_.2.2 hn_)));have n1_:=aA.mk (Kd.jO (ok':=fun k_=>some k_≠(v199:Value).ownBlock) ho0 (fun k_ hk_=>Or.elim hk_ (fun hs_=>fun e_=>(((HO200.out).1 k_ e_.symm).2) hs_) (fun hn_=>(Kd.fresh' (Kd.R_lt (by(with_reducible repeat(first|apply Kd.aX|apply Kd.aY|apply Kd.bP));exact HO200.out)) k_ hn_))));have n2_:=aA.mk (hb);clear HO200;clear HB;clear HO203;have HO200:=n0_;have HO206:=n1_;have HB:=n2_;clear n0_ n1_ n2_;(try clear hb);(try clear hkp);(try clear ho0);obtain⟨Ao17,co17,eo17⟩:=Kd.gY HO200.out;subst eo17;obtain⟨Ao18,co18,eo18⟩:=Kd.gY HO206.out;subst eo18)|((with_reducible refine aG (f:=161) rfl ?_);refine gl_ 24 Tryz.func161 #[.slice Ao17 t198.length co17,.slice Ao18 t204.length co18] (h:= ?_);(with_reducible refine(eU.calls k _ _ t198 _ _ t204 t207 _ ?side1 ?side2 ?side3 ?side4 A10.out).mono ?_);(case side1=>repeat(first|exact(Kd.dH HO200.out).2.2|(with_reducible refine Kd.iZ ?_ _)|(with_reducible refine Kd.jA ?_ _)|(with_reducible refine Kd.jR ?_)));(case side2=>exact(Kd.dH HO200.out).2.1);(case side3=>repeat(first|exact(Kd.dH HO206.out).2.2|(with_reducible refine Kd.iZ ?_ _)|(with_reducible refine Kd.jA ?_ _)|(with_reducible refine Kd.jR ?_)));(case side4=>exact(Kd.dH HO206.out).2.1);rintro e w' ⟨rfl,⟨nd,rfl⟩⟩;refine⟨_,rfl,?_⟩))
  go_ret
  exact pkE HB
 ·rw[if_neg c5] at H
  have c5b0:(t193==t194)=false:=beq_eq_false_iff_ne.mpr c5;have c5b1:(t193 != t194)=true:=bne_iff_ne.mpr c5
  by_cases c19:t193<t194
  ·rw[if_pos c19] at H
   have c19b0:decide (t193<t194)=true:=decide_eq_true c19;clear c19;obtain rfl:=Option.some.inj H;go_enter Tryz.func186,Tryz.ntmps186
   go_wp2_with(first|((with_reducible refine aG (f:=142) rfl ?_);refine gl_ 8 Tryz.func142 #[.string a0] (h:= ?_);(with_reducible refine(fP.calls a0 t193 _ A3.out).mono ?_);rintro e w' ⟨rfl,⟨nd,rfl⟩⟩;refine⟨_,rfl,?_⟩)|((with_reducible refine aG (f:=142) rfl ?_);refine gl_ 10 Tryz.func142 #[.string a1] (h:= ?_);(with_reducible refine(fP.calls a1 t194 _ A4.out).mono ?_);rintro e w' ⟨rfl,⟨nd,rfl⟩⟩;refine⟨_,rfl,?_⟩))
   go_ret
   exact pkE HB
  ·rw[if_neg c19] at H
   have c19b0:decide (t193<t194)=false:=decide_eq_false c19;clear c19;obtain rfl:=Option.some.inj H;go_enter Tryz.func186,Tryz.ntmps186
   go_wp2_with(first|((with_reducible refine aG (f:=142) rfl ?_);refine gl_ 8 Tryz.func142 #[.string a0] (h:= ?_);(with_reducible refine(fP.calls a0 t193 _ A3.out).mono ?_);rintro e w' ⟨rfl,⟨nd,rfl⟩⟩;refine⟨_,rfl,?_⟩)|((with_reducible refine aG (f:=142) rfl ?_);refine gl_ 10 Tryz.func142 #[.string a1] (h:= ?_);(with_reducible refine(fP.calls a1 t194 _ A4.out).mono ?_);rintro e w' ⟨rfl,⟨nd,rfl⟩⟩;refine⟨_,rfl,?_⟩))
   go_ret
   exact pkE HB
def nO.f(k:Nat)(a0:ByteArray)(a1:ByteArray):Option (Bool):=(jK.f k a0 a1).bind fun t208=>(some (decide (t208<0)))
theorem nO.calls(k:Nat)(a0:ByteArray)(a1:ByteArray)(r:Bool)(w:World)(h:nO.f k a0 a1=some r) :
 Calls Tryz.prog 143 #[.string a0,.string a1] w fun e w'=>e= .returned (.bool r)∧Below w.heap.size w w':=by
 have HB:=aA.mk (Below.refl w.heap.size w);have H:((jK.f k a0 a1).bind fun t208=>(some (decide (t208<0))))=some r:=h;clear h;obtain⟨t208,A3,H⟩:=bi H;try dsimp only at H
 obtain rfl:=Option.some.inj H;go_enter Tryz.func143,Tryz.ntmps143
 go_wp2_with(first|((with_reducible refine aG (f:=186) rfl ?_);refine gl_ 7 Tryz.func186 #[.string a0,.string a1] (h:= ?_);(with_reducible refine(jK.calls k a0 a1 t208 _ A3.out).mono ?_);rintro e w4 ⟨rfl,hb⟩;refine⟨_,rfl,?_⟩;replace HB:=pkB HB hb;try clear hb))
 go_ret
 exact pkE HB
def fH.f(a0:ByteArray):Option (Bool):=some (decide ((a0.size:Int)≤250))
theorem fH.calls(a0:ByteArray)(r:Bool)(w:World)(h:fH.f a0=some r) :
 Calls Tryz.prog 71 #[.string a0] w fun e w'=>e= .returned (.bool r)∧aZ w w':=by
 have H:(some (decide ((a0.size:Int)≤250)))=some r:=h;clear h;obtain rfl:=Option.some.inj H;go_enter Tryz.func71,Tryz.ntmps71
 go_wp2
 go_ret
 exact⟨by first|rfl|(simp;done)|(simp[*];done),by repeat(first|exact aZ.refl _|apply aZ.step)⟩
end Go.Proofs.YtignanmmgaldeaaGreatDoor.PRefA
end
