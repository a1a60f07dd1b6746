/- Lemmas for the proof. -/
import Derived.Test.YtignanmmgaldeaaGreatDoorYCardCongruenceOrdersW2
import Derived.Test.YtignanmmgaldeaaGreatDoorYCardCongruenceOrdersW3
import Derived.Stop.LaidErr
import Derived.Lay
import Derived.Test.YtignanmmgaldeaaGreatDoorTie
import Derived.Test.YtignanmmgaldeaaGreatDoorCards
set_option linter.unusedVariables false
set_option maxRecDepth 100000
namespace Go.Proofs.YtignanmmgaldeaaGreatDoor.congruenceOrders
open Go.ChangeShapes Go.WideShapes Go.ChangeAt Go.RowKit
open Go.ChangeMaps (open_string shut_string)
theorem own:ownKnob Tryz.prog.godebug=none:=by kernel_rfl
theorem lifted(os:Os)(started:os.Started)(H:Type)(enc:TypeId×Value→H) :
 ReturnsInHanded {} Tryz.checked os 7 .any (fun w args=>(Rows.congruenceOrdersSpec.pre enc Tryz.prog Tryz.f7 [] false w args∧laidMetH Tryz.prog Rows.congruenceOrdersRow.laid w)∧sizedMet enc Tryz.prog Tryz.f7 (OpenSpec.ofChange Rows.congruenceOrdersSpec) false w args) (Rows.congruenceOrdersSpec.post enc Tryz.prog Tryz.f7 false true false false):=by
 refine returnsInHanded_of_change_and (C:=Tryz.checked) (X:=fun w _=>laidMetH Tryz.prog Rows.congruenceOrdersRow.laid w) (fun _ _ _ hh h=>h.of_heap hh) own started (by kernel_rfl) Tryz.func7
  (ChangeSpec.witness_shaped (enc:=enc) (C:=Tryz.checked) (os:=os) (X:=fun w _=>laidMetH Tryz.prog Rows.congruenceOrdersRow.laid w) false (World.laidAll Tryz.prog os Rows.congruenceOrdersRow.laid) #[.agg #[.bool false,.string ByteArray.empty,.string ByteArray.empty],.agg #[.bool false,.string ByteArray.empty,.string ByteArray.empty]] 8 (World.laidAll_os _ _ _)
    (World.shaped_of_ZipB (by kernel_rfl) (by kernel_rfl)) (by kernel_rfl) (by kernel_rfl) (by kernel_rfl)
    (by rw[MakeChecks.laidMetH_plain _ _ _ (by kernel_rfl)];exact laidMet_laidAll _ (by kernel_rfl) (by kernel_rfl))) ?_
 intro W base args ds gs before hval0 hW hcnd hsz0 hL _;have hsz:(DataW.weightsEach Tryz.prog (Tryz.f7.params.toList++Rows.congruenceOrdersSpec.plain.varTypes Tryz.prog) (ds++gs)).all (· ≤reachBytes)=true:=hsz0;have hval:∀(j:Nat) t v,Tryz.f7.params[j]? =some t→args[j]? =some v→Value.okWide Tryz.prog W .any base t v:=hval0
 have hW':=hW;obtain⟨p,q,hA0,hV,rfl,hfz,hnd⟩:=hW;have hA:DataW.TrodAll enc Tryz.prog W 0 (fun _=>true) true Tryz.f7.params.toList args.toList ds p:=hA0;rw[Tryz.params7] at hA hval hsz;obtain⟨v0,vs0,d0,ds0,p0,q0,hargs,rfl,rfl,h0,r0⟩:=trodAll_cons hA;obtain⟨v1,vs1,d1,ds1,p1,q1,rfl,rfl,rfl,h1,r1⟩:=trodAll_cons r0;obtain⟨rfl,rfl,rfl⟩:=trodAll_nil r1;obtain rfl:args= #[v0,v1]:=by cases args;simp_all
 obtain⟨rfl,rfl⟩:=trodVars_none hV;obtain⟨e0,m0,g0,rfl,rfl,rfl,y0,z0⟩:=aBf (hval 0 36 v0 rfl rfl) h0;have w0:=aA5 hsz (j:=0) rfl rfl;obtain⟨e1,m1,g1,rfl,rfl,rfl,y1,z1⟩:=aBf (hval 1 36 v1 rfl rfl) h1;have w1:=aA5 hsz (j:=1) rfl rfl;clear hA0 hval0 hsz0 hsz;have hL2:laidMet Tryz.prog Rows.congruenceOrdersRow.laid W:=by rw[←MakeChecks.laidMetH_plain _ _ _ (by kernel_rfl)];exact hL
 have hG:GW W:=Lib.tabIs_of_head (g:=0) (t:=200) (e:=177) (n:=20) (by kernel_rfl) (by kernel_rfl) (by kernel_rfl) (by kernel_rfl) (by kernel_rfl) (by kernel_rfl) (hL2.tail.tail);refine(PCongruenceOrders.lX.calls (hG:=hG) (hrT:=rfl) e0 m0 g0 e1 m1 g1 true W (PureOrders.law e0 m0 g0 e1 m1 g1 w0.1 w0.2 w1.1 w1.2)).mono fun e W' ⟨he,bel⟩=> ?_
 subst he;exact⟨_,rfl,_,_,_,[],_,[],hW',trodAll_mk1 (shut_bool Tryz.underlying4 _),(trodAll_cons_mk (aBg y0 z0) (trodAll_cons_mk (aBg y1 z1) trodAll_mk0)),rfl,bel.frame _,fun h=>by cases h⟩
end Go.Proofs.YtignanmmgaldeaaGreatDoor.congruenceOrders
