/- Lemmas for the proof. -/
import Derived.Test.YtignanmmgaldeaaGreatDoorYH
import Derived.Test.YtignanmmgaldeaaGreatDoorYCardCongruenceMakesW
set_option linter.unusedVariables false
set_option linter.unusedSimpArgs false
set_option maxHeartbeats 8000000
set_option maxRecDepth 100000
namespace Go.Proofs.YtignanmmgaldeaaGreatDoor.PRefA
open Go.RowKit Go.Proofs.YtignanmmgaldeaaGreatDoorW.PrintWords Go.Proofs.YtignanmmgaldeaaGreatDoorW.PrintLast Go.Proofs.YtignanmmgaldeaaGreatDoorW.PrintMore
attribute [local go_sem] dQ dR eH eP
def iM.f(k:Nat)(a0:ByteArray):Option (Int):=(bP.f k a0).bind fun t188=>(if t188=true then((fQ.f a0).bind fun t189=>(if t189>4096 then(some 10) else(some 0))) else(some 3))
theorem iM.calls(k:Nat)(a0:ByteArray)(r:Int)(w:World)(h:iM.f k a0=some r) :
 Calls Tryz.prog 115 #[.string a0] w fun e w'=>e= .returned (.int .i64 r)∧eQ w w':=by
 have H:((bP.f k a0).bind fun o5=>(if o5=true then((fQ.f a0).bind fun l9=>(if l9>4096 then(some 10) else(some 0))) else(some 3)))=some r:=h;clear h;obtain⟨o5,A2,H⟩:=bi H;try dsimp only at H
 go_enter Tryz.func115,Tryz.ntmps115
 refine byC (P:=o5=true) (fun c3=> ?a33) (fun c3=> ?b33)
 case' a33=>
  subst c3;rw[if_pos rfl] at H;obtain⟨l9,A4,H⟩:=bi H;try dsimp only at H
  refine byC (P:=l9>4096) (fun c5=> ?a34) (fun c5=> ?b34)
  case' a34=>
   rw[if_pos c5] at H;have o6:=decide_eq_true c5;clear c5;obtain rfl:=Option.some.inj H
  case' b34=>
   rw[if_neg c5] at H;have o6:=decide_eq_false c5;clear c5;obtain rfl:=Option.some.inj H
 case' b33=>
  replace c3:=Bool.eq_false_iff.mpr c3;subst c3;rw[if_neg (show ¬(false=true) by decide)] at H;obtain rfl:=Option.some.inj H
 all_goals
  go_wp2_with(first|((with_reducible refine aC (f:=184) rfl ?_);refine gl_ 4 Tryz.func184 #[.string a0] (h:= ?_);(with_reducible refine(bP.calls k a0 _ _ A2.out).mono ?_);rintro e w' ⟨rfl,⟨nd,rfl⟩⟩;refine⟨_,rfl,?_⟩)|((with_reducible refine aC (f:=149) rfl ?_);refine gl_ 7 Tryz.func149 #[.string a0] (h:= ?_);(with_reducible refine(fQ.calls a0 l9 _ A4.out).mono ?_);rintro e w' ⟨rfl,⟨nd,rfl⟩⟩;refine⟨_,rfl,?_⟩))
  go_ret
  exact dr_
def rG.f(k:Nat)(a0:ByteArray)(a1:ByteArray):Option (Int):=(iM.f k a0).bind fun t190=>(if t190=0 then((iM.f k a1).bind fun t191=>(some t191)) else(some t190))
theorem rG.calls(k:Nat)(a0:ByteArray)(a1:ByteArray)(r:Int)(w:World)(h:rG.f k a0 a1=some r) :
 Calls Tryz.prog 75 #[.string a0,.string a1] w fun e w'=>e= .returned (.int .i64 r)∧eQ w w':=by
 have H:((iM.f k a0).bind fun l9=>(if l9=0 then((iM.f k a1).bind fun o5=>(some o5)) else(some l9)))=some r:=h;clear h;obtain⟨l9,A3,H⟩:=bi H;try dsimp only at H
 go_enter Tryz.func75,Tryz.ntmps75
 refine byC (P:=l9=0) (fun c4=> ?a35) (fun c4=> ?b35)
 case' a35=>
  rw[if_pos c4] at H;obtain⟨o6,o7⟩:=bT c4;clear c4;obtain⟨o5,A5,H⟩:=bi H;try dsimp only at H
  obtain rfl:=Option.some.inj H
 case' b35=>
  rw[if_neg c4] at H;obtain⟨o6,o7⟩:=bF c4;obtain rfl:=Option.some.inj H
 all_goals
  go_wp2_with(first|((with_reducible refine aC (f:=115) rfl ?_);refine gl_ 7 Tryz.func115 #[.string a0] (h:= ?_);(with_reducible refine(iM.calls k a0 l9 _ A3.out).mono ?_);rintro e w' ⟨rfl,⟨nd,rfl⟩⟩;refine⟨_,rfl,?_⟩)|((with_reducible refine aC (f:=115) rfl ?_);refine gl_ 12 Tryz.func115 #[.string a1] (h:= ?_);(with_reducible refine(iM.calls k a1 o5 _ A5.out).mono ?_);rintro e w' ⟨rfl,⟨nd,rfl⟩⟩;refine⟨_,rfl,?_⟩))
  go_ret
  exact dr_
end Go.Proofs.YtignanmmgaldeaaGreatDoor.PRefA
