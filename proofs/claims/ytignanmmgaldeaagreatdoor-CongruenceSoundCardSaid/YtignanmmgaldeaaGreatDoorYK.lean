/- Lemmas for the proof. -/
import Derived.Test.YtignanmmgaldeaaGreatDoorYJ
section
set_option linter.unusedVariables false
set_option linter.unusedSimpArgs false
set_option maxHeartbeats 8000000
set_option maxRecDepth 100000
namespace Go.Proofs.YtignanmmgaldeaaGreatDoor.PCongW
open Go.RowKit Go.Proofs.YtignanmmgaldeaaGreatDoorW.PrintWords Go.Proofs.YtignanmmgaldeaaGreatDoorW.PrintLast Go.Proofs.YtignanmmgaldeaaGreatDoorW.PrintMore
attribute [local go_sem] gI gJ iE iF
def errW:Option Int→Value
 |none=> .nilIface
 |some c=> .iface 0 (.int .i64 c)
theorem dW:errW none= .nilIface:=rfl
theorem dX(c:Int):errW (some c)= .iface 0 (.int .i64 c):=rfl
theorem eqA36(d:Nat)(w:World)(x0 y0:Bool)(x1 y1:ByteArray)(x2 y2:ByteArray) :
 (Op.equalIn (d+2) 36 (.agg #[.bool x0,.string x1,.string x2]) (.agg #[.bool y0,.string y1,.string y2])).run Tryz.prog w= .ok (x0==y0&&(x1.toList==y1.toList&&(x2.toList==y2.toList))) w:=by
 refine eqA_of Tryz.underlying36 (by kernel_rfl) ?_;refine vP (by rfl) (by go_simp;rfl) (by go_simp;rfl) (by go_simp) ?_;refine vP (by rfl) (by go_simp;rfl) (by go_simp;rfl) (by go_simp) ?_;exact eqf_last (by rfl) (by go_simp;rfl) (by go_simp;rfl) (by go_simp)
def aH.f(a0:ByteArray)(a1:ByteArray):Option (Bool×ByteArray×ByteArray):=some (false,a0,a1)
theorem aH.calls(a0:ByteArray)(a1:ByteArray)(r1:Bool)(r2:ByteArray)(r3:ByteArray)(w:World)(h:aH.f a0 a1=some (r1,r2,r3)) :
 Calls Tryz.prog 98 #[.string a0,.string a1] w fun e w'=>e= .returned (.agg #[.bool r1,.string r2,.string r3])∧Below w.heap.size w w':=by
 have hu36:=Tryz.underlying36;have HB:=aA.mk (Below.refl w.heap.size w);have H:(some (false,a0,a1))=some (r1,r2,r3):=h;clear h;simp only[Option.some.injEq,Prod.mk.injEq] at H;obtain⟨rfl,rfl,rfl⟩:=H;go_enter Tryz.func98,Tryz.ntmps98
 go_wp2_with(first|((with_reducible refine aJ (N:=4) rfl ?_);refine bx_ 4 36 #[.bool false,.string (⟨#[]⟩:ByteArray),.string (⟨#[]⟩:ByteArray)] (h:= ?_);intro gb101 hg w3 hbox hb;have n0_:=aA.mk (rE (by repeat(first|(with_reducible first|exact HB.out|apply cZ|apply bH|apply bG)|exact HB.out)) hb);have n1_:=aA.mk (hbox);have n2_:=aA.mk ((by rw[hg];exact(dU (by repeat(first|(with_reducible first|exact HB.out|apply cZ|apply bH|apply bG)|exact HB.out))):w.heap.size≤gb101));have n3_:=aA.mk ((by rw[hg];exact(dU (by repeat(first|(with_reducible first|exact HB.out|apply cZ|apply bH|apply bG)|exact HB.out))):w.heap.size≤gb101));clear HB;have HB:=n0_;have BK101:=n1_;have GW101:=n2_;have GE101:=n3_;clear n0_ n1_ n2_ n3_;clear hb hbox hg;have hcz4_0:w3.cell? ⟨gb101,0,none⟩=some (.bool false):=(aC BK101.out 0).trans rfl;have hcz4_1:w3.cell? ⟨gb101,1,none⟩=some (.string (⟨#[]⟩:ByteArray)):=(aC BK101.out 1).trans rfl;have hcz4_2:w3.cell? ⟨gb101,2,none⟩=some (.string (⟨#[]⟩:ByteArray)):=(aC BK101.out 2).trans rfl;have hfz4_0:=aI BK101.out 0;have hfz4_1:=aI BK101.out 1;have hfz4_2:=aI BK101.out 2))
 refine bodyPost_ret (results_cell_row rfl _ _ gb101 36 #[.bool false,.string a0,.string a1] (0,0) _ rfl (by(with_reducible repeat(first|refine bM ?_ _|refine aQ ?_|refine bK ?_ _));refine gX (cs:=#[.bool false,.string a0,.string (⟨#[]⟩:ByteArray)]) ?_ 2 _ rfl;(with_reducible repeat(first|refine bM ?_ _|refine aQ ?_|refine bK ?_ _));refine gX (cs:=#[.bool false,.string (⟨#[]⟩:ByteArray),.string (⟨#[]⟩:ByteArray)]) ?_ 1 _ rfl;(with_reducible repeat(first|refine bM ?_ _|refine aQ ?_|refine bK ?_ _));refine gX (cs:=#[.bool false,.string (⟨#[]⟩:ByteArray),.string (⟨#[]⟩:ByteArray)]) ?_ 0 _ rfl;(with_reducible repeat(first|refine bM ?_ _|refine aQ ?_|refine bK ?_ _));exact BK101.out) Tryz.underlying36 rfl (by kernel_rfl)) rfl ?_;exact⟨by first|rfl|(simp[dW,dX] <;> rfl)|(simp[*,dW,dX] <;> rfl),by repeat(first|(with_reducible first|exact HB.out|apply cZ|apply bH|apply bG|refine oZ ?_ GE101.out)|exact HB.out)⟩
def fB.f:Option (Bool×ByteArray×ByteArray):=some (false,(⟨#[49]⟩:ByteArray),(⟨#[48]⟩:ByteArray))
theorem fB.calls(r1:Bool)(r2:ByteArray)(r3:ByteArray)(w:World)(h:fB.f=some (r1,r2,r3)) :
 Calls Tryz.prog 99 #[] w fun e w'=>e= .returned (.agg #[.bool r1,.string r2,.string r3])∧Below w.heap.size w w':=by
 have hu36:=Tryz.underlying36;have HB:=aA.mk (Below.refl w.heap.size w);have H:(some (false,(⟨#[49]⟩:ByteArray),(⟨#[48]⟩:ByteArray)))=some (r1,r2,r3):=h;clear h;simp only[Option.some.injEq,Prod.mk.injEq] at H;obtain⟨rfl,rfl,rfl⟩:=H;go_enter Tryz.func99,Tryz.ntmps99
 go_wp2_with(first|((with_reducible refine aJ (N:=0) rfl ?_);refine bx_ 0 36 #[.bool false,.string (⟨#[]⟩:ByteArray),.string (⟨#[]⟩:ByteArray)] (h:= ?_);intro gb102 hg w1 hbox hb;have n0_:=aA.mk (rE (by repeat(first|(with_reducible first|exact HB.out|apply cZ|apply bH|apply bG)|exact HB.out)) hb);have n1_:=aA.mk (hbox);have n2_:=aA.mk ((by rw[hg];exact(dU (by repeat(first|(with_reducible first|exact HB.out|apply cZ|apply bH|apply bG)|exact HB.out))):w.heap.size≤gb102));have n3_:=aA.mk ((by rw[hg];exact(dU (by repeat(first|(with_reducible first|exact HB.out|apply cZ|apply bH|apply bG)|exact HB.out))):w.heap.size≤gb102));clear HB;have HB:=n0_;have BK102:=n1_;have GW102:=n2_;have GE102:=n3_;clear n0_ n1_ n2_ n3_;clear hb hbox hg;have hcz2_0:w1.cell? ⟨gb102,0,none⟩=some (.bool false):=(aC BK102.out 0).trans rfl;have hcz2_1:w1.cell? ⟨gb102,1,none⟩=some (.string (⟨#[]⟩:ByteArray)):=(aC BK102.out 1).trans rfl;have hcz2_2:w1.cell? ⟨gb102,2,none⟩=some (.string (⟨#[]⟩:ByteArray)):=(aC BK102.out 2).trans rfl;have hfz2_0:=aI BK102.out 0;have hfz2_1:=aI BK102.out 1;have hfz2_2:=aI BK102.out 2))
 refine bodyPost_ret (results_cell_row rfl _ _ gb102 36 #[.bool false,.string (⟨#[49]⟩:ByteArray),.string (⟨#[48]⟩:ByteArray)] (0,0) _ rfl (by(with_reducible repeat(first|refine bM ?_ _|refine aQ ?_|refine bK ?_ _));refine gX (cs:=#[.bool false,.string (⟨#[49]⟩:ByteArray),.string (⟨#[]⟩:ByteArray)]) ?_ 2 _ rfl;(with_reducible repeat(first|refine bM ?_ _|refine aQ ?_|refine bK ?_ _));refine gX (cs:=#[.bool false,.string (⟨#[]⟩:ByteArray),.string (⟨#[]⟩:ByteArray)]) ?_ 1 _ rfl;(with_reducible repeat(first|refine bM ?_ _|refine aQ ?_|refine bK ?_ _));refine gX (cs:=#[.bool false,.string (⟨#[]⟩:ByteArray),.string (⟨#[]⟩:ByteArray)]) ?_ 0 _ rfl;(with_reducible repeat(first|refine bM ?_ _|refine aQ ?_|refine bK ?_ _));exact BK102.out) Tryz.underlying36 rfl (by kernel_rfl)) rfl ?_;exact⟨by first|rfl|(simp[dW,dX] <;> rfl)|(simp[*,dW,dX] <;> rfl),by repeat(first|(with_reducible first|exact HB.out|apply cZ|apply bH|apply bG|refine oZ ?_ GE102.out)|exact HB.out)⟩
attribute [local go_sem high] eqA36
mutual
def aU.j0:Nat→Bool→Option (Bool)
 |0,_=>none
 |k+1,x81=>if x81=true then(some false) else((aH.f (⟨#[49,50]⟩:ByteArray) (⟨#[52]⟩:ByteArray)).bind fun bt170=>((aH.f (⟨#[48]⟩:ByteArray) (⟨#[52]⟩:ByteArray)).bind fun bt173=>((iP.f bt170.1 bt170.2.1 bt170.2.2 bt173.1 bt173.2.1 bt173.2.2).bind fun bt176=>((aH.f (⟨#[49,50]⟩:ByteArray) (⟨#[52]⟩:ByteArray)).bind fun bt181=>((aH.f (⟨#[48]⟩:ByteArray) (⟨#[53]⟩:ByteArray)).bind fun bt184=>((iP.f bt181.1 bt181.2.1 bt181.2.2 bt184.1 bt184.2.1 bt184.2.2).bind fun bt187=>((aH.f (⟨#[49,50]⟩:ByteArray) (⟨#[52]⟩:ByteArray)).bind fun bt192=>((aH.f (⟨#[48]⟩:ByteArray) (⟨#[54]⟩:ByteArray)).bind fun bt195=>((iQ.f bt192.1 bt192.2.1 bt192.2.2 bt195.1 bt195.2.1 bt195.2.2).bind fun bt198=>((aH.f (⟨#[49,50]⟩:ByteArray) (⟨#[52]⟩:ByteArray)).bind fun bt203=>((aH.f (⟨#[48]⟩:ByteArray) (⟨#[56]⟩:ByteArray)).bind fun bt206=>((iQ.f bt203.1 bt203.2.1 bt203.2.2 bt206.1 bt206.2.1 bt206.2.2).bind fun bt209=>(if(wrap64 ((wrap64 ((wrap64 (bt176.2.2.2+bt187.2.2.2))+bt198.2.2.2))+bt209.2.2.2))=0 then((aH.f (⟨#[51]⟩:ByteArray) (⟨#[49]⟩:ByteArray)).bind fun bt214=>(if(!(bt176.1==bt214.1)||(!(bt176.2.1.toList==bt214.2.1.toList)||(!(bt176.2.2.1.toList==bt214.2.2.toList))))=true then(aU.j1 k true) else((fB.f).bind fun bt217=>(if(!(bt187.1==bt217.1)||(!(bt187.2.1.toList==bt217.2.1.toList)||(!(bt187.2.2.1.toList==bt217.2.2.toList))))=true then(aU.j1 k true) else((aH.f (⟨#[48]⟩:ByteArray) (⟨#[52]⟩:ByteArray)).bind fun bt220=>(if(!(bt198.1==bt220.1)||(!(bt198.2.1.toList==bt220.2.1.toList)||(!(bt198.2.2.1.toList==bt220.2.2.toList))))=true then(aU.j1 k true) else((aH.f (⟨#[52]⟩:ByteArray) (⟨#[48]⟩:ByteArray)).bind fun bt223=>(aU.j1 k (!(bt209.1==bt223.1)||(!(bt209.2.1.toList==bt223.2.1.toList)||(!(bt209.2.2.1.toList==bt223.2.2.toList)))))))))))) else(aU.j1 k true))))))))))))))
def aU.j1:Nat→Bool→Option (Bool)
 |0,_=>none
 |k+1,x133=>if x133=true then(some false) else((aH.f (⟨#[54]⟩:ByteArray) (⟨#[50]⟩:ByteArray)).bind fun bt226=>((rV.f bt226.1 bt226.2.1 bt226.2.2 (⟨#[45,53]⟩:ByteArray)).bind fun bt229=>((aH.f (⟨#[54]⟩:ByteArray) (⟨#[50]⟩:ByteArray)).bind fun bt231=>((nH.f bt231.1 bt231.2.1 bt231.2.2 (⟨#[49]⟩:ByteArray)).bind fun bt234=>(if bt229.2=0 then(if bt234.2=0 then(if bt229.1.toList=([45,52]:List UInt8) then(if bt234.1.toList=([45,52]:List UInt8) then((fB.f).bind fun bt236=>((aH.f (⟨#[49]⟩:ByteArray) (⟨#[48]⟩:ByteArray)).bind fun bt239=>(some (bt236.1==bt239.1&&(bt236.2.1.toList==bt239.2.1.toList&&(bt236.2.2.toList==bt239.2.2.toList)))))) else(some false)) else(some false)) else(some false)) else(some false))))))
end
def aU.f(k:Nat):Option (Bool):=(aH.f (⟨#[54]⟩:ByteArray) (⟨#[50]⟩:ByteArray)).bind fun bt103=>((aH.f (⟨#[57]⟩:ByteArray) (⟨#[53]⟩:ByteArray)).bind fun bt106=>((eX.f bt103.1 bt103.2.1 bt103.2.2 bt106.1 bt106.2.1 bt106.2.2).bind fun bt109=>((aH.f (⟨#[52]⟩:ByteArray) (⟨#[48]⟩:ByteArray)).bind fun bt114=>((aH.f (⟨#[50]⟩:ByteArray) (⟨#[49]⟩:ByteArray)).bind fun bt117=>((eX.f bt114.1 bt114.2.1 bt114.2.2 bt117.1 bt117.2.1 bt117.2.2).bind fun bt120=>((aH.f (⟨#[48]⟩:ByteArray) (⟨#[51]⟩:ByteArray)).bind fun bt125=>((aH.f (⟨#[48]⟩:ByteArray) (⟨#[49,49]⟩:ByteArray)).bind fun bt128=>((dZ.f bt125.1 bt125.2.1 bt125.2.2 bt128.1 bt128.2.1 bt128.2.2).bind fun bt131=>((aH.f (⟨#[50]⟩:ByteArray) (⟨#[49]⟩:ByteArray)).bind fun bt136=>((aH.f (⟨#[52]⟩:ByteArray) (⟨#[50]⟩:ByteArray)).bind fun bt139=>((iM.f bt136.1 bt136.2.1 bt136.2.2 bt139.1 bt139.2.1 bt139.2.2).bind fun bt142=>((aH.f (⟨#[50]⟩:ByteArray) (⟨#[49]⟩:ByteArray)).bind fun bt147=>((aH.f (⟨#[52]⟩:ByteArray) (⟨#[50]⟩:ByteArray)).bind fun bt150=>((iL.f bt147.1 bt147.2.1 bt147.2.2 bt150.1 bt150.2.1 bt150.2.2).bind fun bt153=>(if(wrap64 ((wrap64 ((wrap64 ((wrap64 (bt109.2.2.2+bt120.2.2.2))+bt131.2.2.2))+bt142.2.2.2))+bt153.2.2.2))=0 then((aH.f (⟨#[49,56]⟩:ByteArray) (⟨#[49,52]⟩:ByteArray)).bind fun bt158=>(if(!(bt109.1==bt158.1)||(!(bt109.2.1.toList==bt158.2.1.toList)||(!(bt109.2.2.1.toList==bt158.2.2.toList))))=true then(aU.j0 k true) else(if bt120.1=true then((aH.f (⟨#[56]⟩:ByteArray) (⟨#[51]⟩:ByteArray)).bind fun bt161=>(if(!(bt131.1==bt161.1)||(!(bt131.2.1.toList==bt161.2.1.toList)||(!(bt131.2.2.1.toList==bt161.2.2.toList))))=true then(aU.j0 k true) else((aH.f (⟨#[52]⟩:ByteArray) (⟨#[50]⟩:ByteArray)).bind fun bt164=>(if(!(bt142.1==bt164.1)||(!(bt142.2.1.toList==bt164.2.1.toList)||(!(bt142.2.2.1.toList==bt164.2.2.toList))))=true then(aU.j0 k true) else((aH.f (⟨#[50]⟩:ByteArray) (⟨#[49]⟩:ByteArray)).bind fun bt167=>(aU.j0 k (!(bt153.1==bt167.1)||(!(bt153.2.1.toList==bt167.2.1.toList)||(!(bt153.2.2.1.toList==bt167.2.2.toList)))))))))) else(aU.j0 k true)))) else(aU.j0 k true))))))))))))))))
def aU.T6:Bool×List (List Nat×List Nat):=(true,[([],[]),([],[]),([0,1],[0,1]),([],[]),([2,3],[2,3]),([],[]),([4,5],[4,5]),([],[]),([6,7],[6,7]),([8],[8]),([9],[9]),([10],[10]),([10,10],[10]),([11,12,10],[10,11,12]),([10,13],[10,13]),([14,12],[14]),([15],[15]),([16,15],[15,16]),([17,15],[15,17]),([15,18],[15,18]),([19,15],[19]),([20],[20]),([20,20],[20]),([21,22,20],[20,21,22]),([20,23],[20,23]),([24,22],[24]),([25],[25]),([25,25],[25]),([26,27,25],[25,26,27]),([25,28],[25,28]),([29,27],[29]),([30],[30]),([30,30],[30]),([31,32,30],[30,31,32]),([30,33],[30,33])])
def aU.B6:List Nat:= [0,0,3,0,15,0,63,0,255,511,1023,2047,2047,8191,16383,32767,65535,131071,262143,524287,1048575,2097151,2097151,8388607,16777215,33554431,67108863,67108863,268435455,536870911,1073741823,2147483647,2147483647,8589934591,17179869183]
theorem aU.tab6:rtab .any (opsOf Tryz.f35 6)=aU.T6:=by kernel_rfl
theorem aU.bits6:kV aU.T6.2 aU.B6=true:=by kernel_rfl
def aU.T12:Bool×List (List Nat×List Nat):=(true,[([],[]),([],[]),([0,1],[0,1]),([],[]),([2,3],[2,3]),([],[]),([4,5],[4,5]),([6],[6]),([7],[7]),([8],[8]),([8,8],[8]),([9,10,8],[8,9,10]),([8,11],[8,11]),([12,10],[12]),([13],[13]),([13,13],[13]),([14,15,13],[13,14,15]),([13,16],[13,16]),([17,15],[17]),([18],[18]),([18,18],[18]),([19,20,18],[18,19,20]),([18,21],[18,21]),([22,20],[22]),([23],[23]),([23,23],[23]),([24,25,23],[23,24,25]),([23,26],[23,26])])
def aU.B12:List Nat:= [0,0,3,0,15,0,63,127,255,511,511,2047,4095,8191,16383,16383,65535,131071,262143,524287,524287,2097151,4194303,8388607,16777215,16777215,67108863,134217727]
theorem aU.tab12:rtab .any (opsOf Tryz.f35 12)=aU.T12:=by kernel_rfl
theorem aU.bits12:kV aU.T12.2 aU.B12=true:=by kernel_rfl
theorem aw103:aH.f (⟨#[54]⟩:ByteArray) (⟨#[50]⟩:ByteArray)=some (false,(⟨#[54]⟩:ByteArray),(⟨#[50]⟩:ByteArray)):=by decide +kernel
theorem aw106:aH.f (⟨#[57]⟩:ByteArray) (⟨#[53]⟩:ByteArray)=some (false,(⟨#[57]⟩:ByteArray),(⟨#[53]⟩:ByteArray)):=by decide +kernel
theorem aw109:eX.f false (⟨#[54]⟩:ByteArray) (⟨#[50]⟩:ByteArray) false (⟨#[57]⟩:ByteArray) (⟨#[53]⟩:ByteArray)=some (false,(⟨#[49,56]⟩:ByteArray),(⟨#[49,52]⟩:ByteArray),0):=by decide +kernel
theorem aw114:aH.f (⟨#[52]⟩:ByteArray) (⟨#[48]⟩:ByteArray)=some (false,(⟨#[52]⟩:ByteArray),(⟨#[48]⟩:ByteArray)):=by decide +kernel
theorem aw117:aH.f (⟨#[50]⟩:ByteArray) (⟨#[49]⟩:ByteArray)=some (false,(⟨#[50]⟩:ByteArray),(⟨#[49]⟩:ByteArray)):=by decide +kernel
theorem aw120:eX.f false (⟨#[52]⟩:ByteArray) (⟨#[48]⟩:ByteArray) false (⟨#[50]⟩:ByteArray) (⟨#[49]⟩:ByteArray)=some (true,(⟨#[]⟩:ByteArray),(⟨#[]⟩:ByteArray),0):=by decide +kernel
theorem aw125:aH.f (⟨#[48]⟩:ByteArray) (⟨#[51]⟩:ByteArray)=some (false,(⟨#[48]⟩:ByteArray),(⟨#[51]⟩:ByteArray)):=by decide +kernel
theorem aw128:aH.f (⟨#[48]⟩:ByteArray) (⟨#[49,49]⟩:ByteArray)=some (false,(⟨#[48]⟩:ByteArray),(⟨#[49,49]⟩:ByteArray)):=by decide +kernel
theorem aw131:dZ.f false (⟨#[48]⟩:ByteArray) (⟨#[51]⟩:ByteArray) false (⟨#[48]⟩:ByteArray) (⟨#[49,49]⟩:ByteArray)=some (false,(⟨#[56]⟩:ByteArray),(⟨#[51]⟩:ByteArray),0):=by decide +kernel
theorem aw136:aH.f (⟨#[50]⟩:ByteArray) (⟨#[49]⟩:ByteArray)=some (false,(⟨#[50]⟩:ByteArray),(⟨#[49]⟩:ByteArray)):=by decide +kernel
theorem aw139:aH.f (⟨#[52]⟩:ByteArray) (⟨#[50]⟩:ByteArray)=some (false,(⟨#[52]⟩:ByteArray),(⟨#[50]⟩:ByteArray)):=by decide +kernel
theorem aw142:iM.f false (⟨#[50]⟩:ByteArray) (⟨#[49]⟩:ByteArray) false (⟨#[52]⟩:ByteArray) (⟨#[50]⟩:ByteArray)=some (false,(⟨#[52]⟩:ByteArray),(⟨#[50]⟩:ByteArray),0):=by decide +kernel
theorem aw147:aH.f (⟨#[50]⟩:ByteArray) (⟨#[49]⟩:ByteArray)=some (false,(⟨#[50]⟩:ByteArray),(⟨#[49]⟩:ByteArray)):=by decide +kernel
theorem aw150:aH.f (⟨#[52]⟩:ByteArray) (⟨#[50]⟩:ByteArray)=some (false,(⟨#[52]⟩:ByteArray),(⟨#[50]⟩:ByteArray)):=by decide +kernel
theorem aw153:iL.f false (⟨#[50]⟩:ByteArray) (⟨#[49]⟩:ByteArray) false (⟨#[52]⟩:ByteArray) (⟨#[50]⟩:ByteArray)=some (false,(⟨#[50]⟩:ByteArray),(⟨#[49]⟩:ByteArray),0):=by decide +kernel
theorem aw158:aH.f (⟨#[49,56]⟩:ByteArray) (⟨#[49,52]⟩:ByteArray)=some (false,(⟨#[49,56]⟩:ByteArray),(⟨#[49,52]⟩:ByteArray)):=by decide +kernel
theorem aw161:aH.f (⟨#[56]⟩:ByteArray) (⟨#[51]⟩:ByteArray)=some (false,(⟨#[56]⟩:ByteArray),(⟨#[51]⟩:ByteArray)):=by decide +kernel
theorem aw164:aH.f (⟨#[52]⟩:ByteArray) (⟨#[50]⟩:ByteArray)=some (false,(⟨#[52]⟩:ByteArray),(⟨#[50]⟩:ByteArray)):=by decide +kernel
theorem aw167:aH.f (⟨#[50]⟩:ByteArray) (⟨#[49]⟩:ByteArray)=some (false,(⟨#[50]⟩:ByteArray),(⟨#[49]⟩:ByteArray)):=by decide +kernel
theorem aw170:aH.f (⟨#[49,50]⟩:ByteArray) (⟨#[52]⟩:ByteArray)=some (false,(⟨#[49,50]⟩:ByteArray),(⟨#[52]⟩:ByteArray)):=by decide +kernel
theorem aw173:aH.f (⟨#[48]⟩:ByteArray) (⟨#[52]⟩:ByteArray)=some (false,(⟨#[48]⟩:ByteArray),(⟨#[52]⟩:ByteArray)):=by decide +kernel
theorem aw176:iP.f false (⟨#[49,50]⟩:ByteArray) (⟨#[52]⟩:ByteArray) false (⟨#[48]⟩:ByteArray) (⟨#[52]⟩:ByteArray)=some (false,(⟨#[51]⟩:ByteArray),(⟨#[49]⟩:ByteArray),0):=by decide +kernel
theorem aw181:aH.f (⟨#[49,50]⟩:ByteArray) (⟨#[52]⟩:ByteArray)=some (false,(⟨#[49,50]⟩:ByteArray),(⟨#[52]⟩:ByteArray)):=by decide +kernel
theorem aw184:aH.f (⟨#[48]⟩:ByteArray) (⟨#[53]⟩:ByteArray)=some (false,(⟨#[48]⟩:ByteArray),(⟨#[53]⟩:ByteArray)):=by decide +kernel
theorem aw187:iP.f false (⟨#[49,50]⟩:ByteArray) (⟨#[52]⟩:ByteArray) false (⟨#[48]⟩:ByteArray) (⟨#[53]⟩:ByteArray)=some (false,(⟨#[49]⟩:ByteArray),(⟨#[48]⟩:ByteArray),0):=by decide +kernel
theorem aw192:aH.f (⟨#[49,50]⟩:ByteArray) (⟨#[52]⟩:ByteArray)=some (false,(⟨#[49,50]⟩:ByteArray),(⟨#[52]⟩:ByteArray)):=by decide +kernel
theorem aw195:aH.f (⟨#[48]⟩:ByteArray) (⟨#[54]⟩:ByteArray)=some (false,(⟨#[48]⟩:ByteArray),(⟨#[54]⟩:ByteArray)):=by decide +kernel
theorem aw198:iQ.f false (⟨#[49,50]⟩:ByteArray) (⟨#[52]⟩:ByteArray) false (⟨#[48]⟩:ByteArray) (⟨#[54]⟩:ByteArray)=some (false,(⟨#[48]⟩:ByteArray),(⟨#[52]⟩:ByteArray),0):=by decide +kernel
theorem aw203:aH.f (⟨#[49,50]⟩:ByteArray) (⟨#[52]⟩:ByteArray)=some (false,(⟨#[49,50]⟩:ByteArray),(⟨#[52]⟩:ByteArray)):=by decide +kernel
theorem aw206:aH.f (⟨#[48]⟩:ByteArray) (⟨#[56]⟩:ByteArray)=some (false,(⟨#[48]⟩:ByteArray),(⟨#[56]⟩:ByteArray)):=by decide +kernel
theorem aw209:iQ.f false (⟨#[49,50]⟩:ByteArray) (⟨#[52]⟩:ByteArray) false (⟨#[48]⟩:ByteArray) (⟨#[56]⟩:ByteArray)=some (false,(⟨#[52]⟩:ByteArray),(⟨#[48]⟩:ByteArray),0):=by decide +kernel
theorem aw214:aH.f (⟨#[51]⟩:ByteArray) (⟨#[49]⟩:ByteArray)=some (false,(⟨#[51]⟩:ByteArray),(⟨#[49]⟩:ByteArray)):=by decide +kernel
theorem aw217:fB.f=some (false,(⟨#[49]⟩:ByteArray),(⟨#[48]⟩:ByteArray)):=by decide +kernel
theorem aw220:aH.f (⟨#[48]⟩:ByteArray) (⟨#[52]⟩:ByteArray)=some (false,(⟨#[48]⟩:ByteArray),(⟨#[52]⟩:ByteArray)):=by decide +kernel
theorem aw223:aH.f (⟨#[52]⟩:ByteArray) (⟨#[48]⟩:ByteArray)=some (false,(⟨#[52]⟩:ByteArray),(⟨#[48]⟩:ByteArray)):=by decide +kernel
theorem aw226:aH.f (⟨#[54]⟩:ByteArray) (⟨#[50]⟩:ByteArray)=some (false,(⟨#[54]⟩:ByteArray),(⟨#[50]⟩:ByteArray)):=by decide +kernel
theorem aw229:rV.f false (⟨#[54]⟩:ByteArray) (⟨#[50]⟩:ByteArray) (⟨#[45,53]⟩:ByteArray)=some ((⟨#[45,52]⟩:ByteArray),0):=by decide +kernel
theorem aw231:aH.f (⟨#[54]⟩:ByteArray) (⟨#[50]⟩:ByteArray)=some (false,(⟨#[54]⟩:ByteArray),(⟨#[50]⟩:ByteArray)):=by decide +kernel
theorem aw234:nH.f false (⟨#[54]⟩:ByteArray) (⟨#[50]⟩:ByteArray) (⟨#[49]⟩:ByteArray)=some ((⟨#[45,52]⟩:ByteArray),0):=by decide +kernel
theorem aw236:fB.f=some (false,(⟨#[49]⟩:ByteArray),(⟨#[48]⟩:ByteArray)):=by decide +kernel
theorem aw239:aH.f (⟨#[49]⟩:ByteArray) (⟨#[48]⟩:ByteArray)=some (false,(⟨#[49]⟩:ByteArray),(⟨#[48]⟩:ByteArray)):=by decide +kernel
theorem aU.calls(k:Nat)(r:Bool)(w:World)(hG:GW w)(h:aU.f k=some r)(hrT:r=true) :
 Calls Tryz.prog 35 #[] w fun e w'=>e= .returned (.bool r)∧Below w.heap.size w w':=by
 have HG:=aA.mk hG;clear hG;have hu36:=Tryz.underlying36;have HB:=aA.mk (Below.refl w.heap.size w);have H:((aH.f (⟨#[54]⟩:ByteArray) (⟨#[50]⟩:ByteArray)).bind fun bt103=>((aH.f (⟨#[57]⟩:ByteArray) (⟨#[53]⟩:ByteArray)).bind fun bt106=>((eX.f bt103.1 bt103.2.1 bt103.2.2 bt106.1 bt106.2.1 bt106.2.2).bind fun bt109=>((aH.f (⟨#[52]⟩:ByteArray) (⟨#[48]⟩:ByteArray)).bind fun bt114=>((aH.f (⟨#[50]⟩:ByteArray) (⟨#[49]⟩:ByteArray)).bind fun bt117=>((eX.f bt114.1 bt114.2.1 bt114.2.2 bt117.1 bt117.2.1 bt117.2.2).bind fun bt120=>((aH.f (⟨#[48]⟩:ByteArray) (⟨#[51]⟩:ByteArray)).bind fun bt125=>((aH.f (⟨#[48]⟩:ByteArray) (⟨#[49,49]⟩:ByteArray)).bind fun bt128=>((dZ.f bt125.1 bt125.2.1 bt125.2.2 bt128.1 bt128.2.1 bt128.2.2).bind fun bt131=>((aH.f (⟨#[50]⟩:ByteArray) (⟨#[49]⟩:ByteArray)).bind fun bt136=>((aH.f (⟨#[52]⟩:ByteArray) (⟨#[50]⟩:ByteArray)).bind fun bt139=>((iM.f bt136.1 bt136.2.1 bt136.2.2 bt139.1 bt139.2.1 bt139.2.2).bind fun bt142=>((aH.f (⟨#[50]⟩:ByteArray) (⟨#[49]⟩:ByteArray)).bind fun bt147=>((aH.f (⟨#[52]⟩:ByteArray) (⟨#[50]⟩:ByteArray)).bind fun bt150=>((iL.f bt147.1 bt147.2.1 bt147.2.2 bt150.1 bt150.2.1 bt150.2.2).bind fun bt153=>(if(wrap64 ((wrap64 ((wrap64 ((wrap64 (bt109.2.2.2+bt120.2.2.2))+bt131.2.2.2))+bt142.2.2.2))+bt153.2.2.2))=0 then((aH.f (⟨#[49,56]⟩:ByteArray) (⟨#[49,52]⟩:ByteArray)).bind fun bt158=>(if(!(bt109.1==bt158.1)||(!(bt109.2.1.toList==bt158.2.1.toList)||(!(bt109.2.2.1.toList==bt158.2.2.toList))))=true then(aU.j0 k true) else(if bt120.1=true then((aH.f (⟨#[56]⟩:ByteArray) (⟨#[51]⟩:ByteArray)).bind fun bt161=>(if(!(bt131.1==bt161.1)||(!(bt131.2.1.toList==bt161.2.1.toList)||(!(bt131.2.2.1.toList==bt161.2.2.toList))))=true then(aU.j0 k true) else((aH.f (⟨#[52]⟩:ByteArray) (⟨#[50]⟩:ByteArray)).bind fun bt164=>(if(!(bt142.1==bt164.1)||(!(bt142.2.1.toList==bt164.2.1.toList)||(!(bt142.2.2.1.toList==bt164.2.2.toList))))=true then(aU.j0 k true) else((aH.f (⟨#[50]⟩:ByteArray) (⟨#[49]⟩:ByteArray)).bind fun bt167=>(aU.j0 k (!(bt153.1==bt167.1)||(!(bt153.2.1.toList==bt167.2.1.toList)||(!(bt153.2.2.1.toList==bt167.2.2.toList)))))))))) else(aU.j0 k true)))) else(aU.j0 k true)))))))))))))))))=some r:=h;clear h;obtain⟨⟨t103,t104,t105⟩,A1,H⟩:=bi H;have V103:aA (t103=false∧t104=(⟨#[54]⟩:ByteArray)∧t105=(⟨#[50]⟩:ByteArray)):=aA.mk (by have F:=A1.out.symm.trans aw103;simp only[Option.some.injEq,Prod.mk.injEq] at F;exact F);try dsimp only at H
 obtain⟨⟨t106,t107,t108⟩,A2,H⟩:=bi H;have V106:aA (t106=false∧t107=(⟨#[57]⟩:ByteArray)∧t108=(⟨#[53]⟩:ByteArray)):=aA.mk (by have F:=A2.out.symm.trans aw106;simp only[Option.some.injEq,Prod.mk.injEq] at F;exact F);try dsimp only at H
 obtain⟨⟨t109,t110,t111,t112⟩,A3,H⟩:=bi H;have V109:aA (t109=false∧t110=(⟨#[49,56]⟩:ByteArray)∧t111=(⟨#[49,52]⟩:ByteArray)∧t112=0):=aA.mk (by have E:=A3.out;simp only[V103.out.1,V103.out.2.1,V103.out.2.2,V106.out.1,V106.out.2.1,V106.out.2.2] at E;have F:=E.symm.trans aw109;simp only[Option.some.injEq,Prod.mk.injEq] at F;exact F);try dsimp only at H
 obtain⟨⟨t114,t115,t116⟩,A4,H⟩:=bi H;have V114:aA (t114=false∧t115=(⟨#[52]⟩:ByteArray)∧t116=(⟨#[48]⟩:ByteArray)):=aA.mk (by have F:=A4.out.symm.trans aw114;simp only[Option.some.injEq,Prod.mk.injEq] at F;exact F);try dsimp only at H
 obtain⟨⟨t117,t118,t119⟩,A5,H⟩:=bi H;have V117:aA (t117=false∧t118=(⟨#[50]⟩:ByteArray)∧t119=(⟨#[49]⟩:ByteArray)):=aA.mk (by have F:=A5.out.symm.trans aw117;simp only[Option.some.injEq,Prod.mk.injEq] at F;exact F);try dsimp only at H
 obtain⟨⟨t120,t121,t122,t123⟩,A6,H⟩:=bi H;have V120:aA (t120=true∧t121=(⟨#[]⟩:ByteArray)∧t122=(⟨#[]⟩:ByteArray)∧t123=0):=aA.mk (by have E:=A6.out;simp only[V114.out.1,V114.out.2.1,V114.out.2.2,V117.out.1,V117.out.2.1,V117.out.2.2] at E;have F:=E.symm.trans aw120;simp only[Option.some.injEq,Prod.mk.injEq] at F;exact F);try dsimp only at H
 obtain⟨⟨t125,t126,t127⟩,A7,H⟩:=bi H;have V125:aA (t125=false∧t126=(⟨#[48]⟩:ByteArray)∧t127=(⟨#[51]⟩:ByteArray)):=aA.mk (by have F:=A7.out.symm.trans aw125;simp only[Option.some.injEq,Prod.mk.injEq] at F;exact F);try dsimp only at H
 obtain⟨⟨t128,t129,t130⟩,A8,H⟩:=bi H;have V128:aA (t128=false∧t129=(⟨#[48]⟩:ByteArray)∧t130=(⟨#[49,49]⟩:ByteArray)):=aA.mk (by have F:=A8.out.symm.trans aw128;simp only[Option.some.injEq,Prod.mk.injEq] at F;exact F);try dsimp only at H
 obtain⟨⟨t131,t132,t133,t134⟩,A9,H⟩:=bi H;have V131:aA (t131=false∧t132=(⟨#[56]⟩:ByteArray)∧t133=(⟨#[51]⟩:ByteArray)∧t134=0):=aA.mk (by have E:=A9.out;simp only[V125.out.1,V125.out.2.1,V125.out.2.2,V128.out.1,V128.out.2.1,V128.out.2.2] at E;have F:=E.symm.trans aw131;simp only[Option.some.injEq,Prod.mk.injEq] at F;exact F);try dsimp only at H
 obtain⟨⟨t136,t137,t138⟩,A10,H⟩:=bi H;have V136:aA (t136=false∧t137=(⟨#[50]⟩:ByteArray)∧t138=(⟨#[49]⟩:ByteArray)):=aA.mk (by have F:=A10.out.symm.trans aw136;simp only[Option.some.injEq,Prod.mk.injEq] at F;exact F);try dsimp only at H
 obtain⟨⟨t139,t140,t141⟩,A11,H⟩:=bi H;have V139:aA (t139=false∧t140=(⟨#[52]⟩:ByteArray)∧t141=(⟨#[50]⟩:ByteArray)):=aA.mk (by have F:=A11.out.symm.trans aw139;simp only[Option.some.injEq,Prod.mk.injEq] at F;exact F);try dsimp only at H
 obtain⟨⟨t142,t143,t144,t145⟩,A12,H⟩:=bi H;have V142:aA (t142=false∧t143=(⟨#[52]⟩:ByteArray)∧t144=(⟨#[50]⟩:ByteArray)∧t145=0):=aA.mk (by have E:=A12.out;simp only[V136.out.1,V136.out.2.1,V136.out.2.2,V139.out.1,V139.out.2.1,V139.out.2.2] at E;have F:=E.symm.trans aw142;simp only[Option.some.injEq,Prod.mk.injEq] at F;exact F);try dsimp only at H
 obtain⟨⟨t147,t148,t149⟩,A13,H⟩:=bi H;have V147:aA (t147=false∧t148=(⟨#[50]⟩:ByteArray)∧t149=(⟨#[49]⟩:ByteArray)):=aA.mk (by have F:=A13.out.symm.trans aw147;simp only[Option.some.injEq,Prod.mk.injEq] at F;exact F);try dsimp only at H
 obtain⟨⟨t150,t151,t152⟩,A14,H⟩:=bi H;have V150:aA (t150=false∧t151=(⟨#[52]⟩:ByteArray)∧t152=(⟨#[50]⟩:ByteArray)):=aA.mk (by have F:=A14.out.symm.trans aw150;simp only[Option.some.injEq,Prod.mk.injEq] at F;exact F);try dsimp only at H
 obtain⟨⟨t153,t154,t155,t156⟩,A15,H⟩:=bi H;have V153:aA (t153=false∧t154=(⟨#[50]⟩:ByteArray)∧t155=(⟨#[49]⟩:ByteArray)∧t156=0):=aA.mk (by have E:=A15.out;simp only[V147.out.1,V147.out.2.1,V147.out.2.2,V150.out.1,V150.out.2.1,V150.out.2.2] at E;have F:=E.symm.trans aw153;simp only[Option.some.injEq,Prod.mk.injEq] at F;exact F);try dsimp only at H
 have HC16:=aA.mk H;clear H;go_enter Tryz.func35,Tryz.ntmps35
 go_upto_region 6 with (first|((with_reducible refine aG (f:=98) rfl ?_);refine gl_ 18 Tryz.func98 #[.string (⟨#[54]⟩:ByteArray),.string (⟨#[50]⟩:ByteArray)] (h:= ?_);(with_reducible refine(aH.calls (⟨#[54]⟩:ByteArray) (⟨#[50]⟩:ByteArray) t103 t104 t105 _ A1.out).mono ?_);rintro e w17 ⟨rfl,hb⟩;refine⟨_,rfl,?_⟩;replace HB:=pkB HB hb;try clear hb)|((with_reducible refine aG (f:=98) rfl ?_);refine gl_ 19 Tryz.func98 #[.string (⟨#[57]⟩:ByteArray),.string (⟨#[53]⟩:ByteArray)] (h:= ?_);(with_reducible refine(aH.calls (⟨#[57]⟩:ByteArray) (⟨#[53]⟩:ByteArray) t106 t107 t108 _ A2.out).mono ?_);rintro e w18 ⟨rfl,hb⟩;refine⟨_,rfl,?_⟩;replace HB:=pkB HB hb;try clear hb)|((with_reducible refine aG (f:=44) rfl ?_);refine gl_ 20 Tryz.func44 #[.agg #[.bool t103,.string t104,.string t105],.agg #[.bool t106,.string t107,.string t108]] (h:= ?_);(with_reducible refine(eX.calls (hG:=HG.out.below (pkL HB)) t103 t104 t105 t106 t107 t108 t109 t110 t111 t112 _ A3.out).mono ?_);rintro e w19 ⟨rfl,hb⟩;refine⟨_,rfl,?_⟩;replace HB:=pkB HB hb;try clear hb)|((with_reducible refine aJ (N:=1) rfl ?_);refine bx_ 1 36 #[.bool false,.string (⟨#[]⟩:ByteArray),.string (⟨#[]⟩:ByteArray)] (h:= ?_);intro gb113 hg w20 hbox hb;have BK113:=aA.mk (hbox);have GW113:=pkG HB hg;have GE113:=GW113;replace HB:=pkB HB hb;clear hb hbox hg;obtain⟨⟨hcz21_0,hcz21_1,hcz21_2⟩,hfz21_0,hfz21_1,hfz21_2⟩:=pk3 BK113)|((with_reducible refine aG (f:=98) rfl ?_);refine gl_ 24 Tryz.func98 #[.string (⟨#[52]⟩:ByteArray),.string (⟨#[48]⟩:ByteArray)] (h:= ?_);(with_reducible refine(aH.calls (⟨#[52]⟩:ByteArray) (⟨#[48]⟩:ByteArray) t114 t115 t116 _ A4.out).mono ?_);rintro e w22 ⟨rfl,hb⟩;refine⟨_,rfl,?_⟩;replace BK113:=aA.mk (dF (g:=gb113) (o:= .cells #[.bool t109,.string t110,.string t111] 36 (0,0)) (pkS3 BK113) hb);replace HB:=pkB HB hb;try clear hb)|((with_reducible refine aG (f:=98) rfl ?_);refine gl_ 25 Tryz.func98 #[.string (⟨#[50]⟩:ByteArray),.string (⟨#[49]⟩:ByteArray)] (h:= ?_);(with_reducible refine(aH.calls (⟨#[50]⟩:ByteArray) (⟨#[49]⟩:ByteArray) t117 t118 t119 _ A5.out).mono ?_);rintro e w23 ⟨rfl,hb⟩;refine⟨_,rfl,?_⟩;replace BK113:=pkK BK113 hb;replace HB:=pkB HB hb;try clear hb)|((with_reducible refine aG (f:=44) rfl ?_);refine gl_ 26 Tryz.func44 #[.agg #[.bool t114,.string t115,.string t116],.agg #[.bool t117,.string t118,.string t119]] (h:= ?_);(with_reducible refine(eX.calls (hG:=HG.out.below (pkL HB)) t114 t115 t116 t117 t118 t119 t120 t121 t122 t123 _ A6.out).mono ?_);rintro e w24 ⟨rfl,hb⟩;refine⟨_,rfl,?_⟩;replace BK113:=pkK BK113 hb;replace HB:=pkB HB hb;try clear hb)|((with_reducible refine aJ (N:=3) rfl ?_);refine bx_ 3 36 #[.bool false,.string (⟨#[]⟩:ByteArray),.string (⟨#[]⟩:ByteArray)] (h:= ?_);intro gb124 hg w25 hbox hb;have BK124:=aA.mk (hbox);have GW124:=pkG HB hg;have GE124:=GW124;obtain⟨NB113_124,NB124_113,hnb26,hnc26⟩:=pkQ BK113 hg;replace BK113:=pkK BK113 hb;replace HB:=pkB HB hb;clear hb hbox hg;obtain⟨⟨hcz27_0,hcz27_1,hcz27_2⟩,hfz27_0,hfz27_1,hfz27_2⟩:=pk3 BK124)|((with_reducible refine aG (f:=98) rfl ?_);refine gl_ 30 Tryz.func98 #[.string (⟨#[48]⟩:ByteArray),.string (⟨#[51]⟩:ByteArray)] (h:= ?_);(with_reducible refine(aH.calls (⟨#[48]⟩:ByteArray) (⟨#[51]⟩:ByteArray) t125 t126 t127 _ A7.out).mono ?_);rintro e w28 ⟨rfl,hb⟩;refine⟨_,rfl,?_⟩;replace BK113:=pkF BK113 hb;replace BK124:=aA.mk (dF (g:=gb124) (o:= .cells #[.bool t120,.string t121,.string t122] 36 (0,0)) (pkS3 BK124) hb);replace HB:=pkB HB hb;try clear hb)|((with_reducible refine aG (f:=98) rfl ?_);refine gl_ 31 Tryz.func98 #[.string (⟨#[48]⟩:ByteArray),.string (⟨#[49,49]⟩:ByteArray)] (h:= ?_);(with_reducible refine(aH.calls (⟨#[48]⟩:ByteArray) (⟨#[49,49]⟩:ByteArray) t128 t129 t130 _ A8.out).mono ?_);rintro e w29 ⟨rfl,hb⟩;refine⟨_,rfl,?_⟩;replace BK113:=pkK BK113 hb;replace BK124:=pkK BK124 hb;replace HB:=pkB HB hb;try clear hb)|((with_reducible refine aG (f:=42) rfl ?_);refine gl_ 32 Tryz.func42 #[.agg #[.bool t125,.string t126,.string t127],.agg #[.bool t128,.string t129,.string t130]] (h:= ?_);(with_reducible refine(dZ.calls (hG:=HG.out.below (pkL HB)) t125 t126 t127 t128 t129 t130 t131 t132 t133 t134 _ A9.out).mono ?_);rintro e w30 ⟨rfl,hb⟩;refine⟨_,rfl,?_⟩;replace BK113:=pkK BK113 hb;replace BK124:=pkK BK124 hb;replace HB:=pkB HB hb;try clear hb)|((with_reducible refine aJ (N:=5) rfl ?_);refine bx_ 5 36 #[.bool false,.string (⟨#[]⟩:ByteArray),.string (⟨#[]⟩:ByteArray)] (h:= ?_);intro gb135 hg w31 hbox hb;have BK135:=aA.mk (hbox);have GW135:=pkG HB hg;have GE135:=GW135;obtain⟨NB113_135,NB135_113,hnb32,hnc32⟩:=pkQ BK113 hg;obtain⟨NB124_135,NB135_124,hnb33,hnc33⟩:=pkQ BK124 hg;replace BK113:=pkK BK113 hb;replace BK124:=pkK BK124 hb;replace HB:=pkB HB hb;clear hb hbox hg;obtain⟨⟨hcz34_0,hcz34_1,hcz34_2⟩,hfz34_0,hfz34_1,hfz34_2⟩:=pk3 BK135)|((with_reducible refine aG (f:=98) rfl ?_);refine gl_ 36 Tryz.func98 #[.string (⟨#[50]⟩:ByteArray),.string (⟨#[49]⟩:ByteArray)] (h:= ?_);(with_reducible refine(aH.calls (⟨#[50]⟩:ByteArray) (⟨#[49]⟩:ByteArray) t136 t137 t138 _ A10.out).mono ?_);rintro e w35 ⟨rfl,hb⟩;refine⟨_,rfl,?_⟩;replace BK113:=pkF BK113 hb;replace BK124:=pkF BK124 hb;replace BK135:=aA.mk (dF (g:=gb135) (o:= .cells #[.bool t131,.string t132,.string t133] 36 (0,0)) (pkS3 BK135) hb);replace HB:=pkB HB hb;try clear hb)|((with_reducible refine aG (f:=98) rfl ?_);refine gl_ 37 Tryz.func98 #[.string (⟨#[52]⟩:ByteArray),.string (⟨#[50]⟩:ByteArray)] (h:= ?_);(with_reducible refine(aH.calls (⟨#[52]⟩:ByteArray) (⟨#[50]⟩:ByteArray) t139 t140 t141 _ A11.out).mono ?_);rintro e w36 ⟨rfl,hb⟩;refine⟨_,rfl,?_⟩;replace BK113:=pkK BK113 hb;replace BK124:=pkK BK124 hb;replace BK135:=pkK BK135 hb;replace HB:=pkB HB hb;try clear hb)|((with_reducible refine aG (f:=54) rfl ?_);refine gl_ 38 Tryz.func54 #[.agg #[.bool t136,.string t137,.string t138],.agg #[.bool t139,.string t140,.string t141]] (h:= ?_);(with_reducible refine(iM.calls (hG:=HG.out.below (pkL HB)) t136 t137 t138 t139 t140 t141 t142 t143 t144 t145 _ A12.out).mono ?_);rintro e w37 ⟨rfl,hb⟩;refine⟨_,rfl,?_⟩;replace BK113:=pkK BK113 hb;replace BK124:=pkK BK124 hb;replace BK135:=pkK BK135 hb;replace HB:=pkB HB hb;try clear hb)|((with_reducible refine aJ (N:=7) rfl ?_);refine bx_ 7 36 #[.bool false,.string (⟨#[]⟩:ByteArray),.string (⟨#[]⟩:ByteArray)] (h:= ?_);intro gb146 hg w38 hbox hb;have BK146:=aA.mk (hbox);have GW146:=pkG HB hg;have GE146:=GW146;obtain⟨NB113_146,NB146_113,hnb39,hnc39⟩:=pkQ BK113 hg;obtain⟨NB124_146,NB146_124,hnb40,hnc40⟩:=pkQ BK124 hg;obtain⟨NB135_146,NB146_135,hnb41,hnc41⟩:=pkQ BK135 hg;replace BK113:=pkK BK113 hb;replace BK124:=pkK BK124 hb;replace BK135:=pkK BK135 hb;replace HB:=pkB HB hb;clear hb hbox hg;obtain⟨⟨hcz42_0,hcz42_1,hcz42_2⟩,hfz42_0,hfz42_1,hfz42_2⟩:=pk3 BK146)|((with_reducible refine aG (f:=98) rfl ?_);refine gl_ 42 Tryz.func98 #[.string (⟨#[50]⟩:ByteArray),.string (⟨#[49]⟩:ByteArray)] (h:= ?_);(with_reducible refine(aH.calls (⟨#[50]⟩:ByteArray) (⟨#[49]⟩:ByteArray) t147 t148 t149 _ A13.out).mono ?_);rintro e w43 ⟨rfl,hb⟩;refine⟨_,rfl,?_⟩;replace BK113:=pkF BK113 hb;replace BK124:=pkF BK124 hb;replace BK135:=pkF BK135 hb;replace BK146:=aA.mk (dF (g:=gb146) (o:= .cells #[.bool t142,.string t143,.string t144] 36 (0,0)) (pkS3 BK146) hb);replace HB:=pkB HB hb;try clear hb)|((with_reducible refine aG (f:=98) rfl ?_);refine gl_ 43 Tryz.func98 #[.string (⟨#[52]⟩:ByteArray),.string (⟨#[50]⟩:ByteArray)] (h:= ?_);(with_reducible refine(aH.calls (⟨#[52]⟩:ByteArray) (⟨#[50]⟩:ByteArray) t150 t151 t152 _ A14.out).mono ?_);rintro e w44 ⟨rfl,hb⟩;refine⟨_,rfl,?_⟩;replace BK113:=pkK BK113 hb;replace BK124:=pkK BK124 hb;replace BK135:=pkK BK135 hb;replace BK146:=pkK BK146 hb;replace HB:=pkB HB hb;try clear hb)|((with_reducible refine aG (f:=50) rfl ?_);refine gl_ 44 Tryz.func50 #[.agg #[.bool t147,.string t148,.string t149],.agg #[.bool t150,.string t151,.string t152]] (h:= ?_);(with_reducible refine(iL.calls (hG:=HG.out.below (pkL HB)) t147 t148 t149 t150 t151 t152 t153 t154 t155 t156 _ A15.out).mono ?_);rintro e w45 ⟨rfl,hb⟩;refine⟨_,rfl,?_⟩;replace BK113:=pkK BK113 hb;replace BK124:=pkK BK124 hb;replace BK135:=pkK BK135 hb;replace BK146:=pkK BK146 hb;replace HB:=pkB HB hb;try clear hb)|((with_reducible refine aJ (N:=9) rfl ?_);refine bx_ 9 36 #[.bool false,.string (⟨#[]⟩:ByteArray),.string (⟨#[]⟩:ByteArray)] (h:= ?_);intro gb157 hg w46 hbox hb;have BK157:=aA.mk (hbox);have GW157:=pkG HB hg;have GE157:=GW157;obtain⟨NB113_157,NB157_113,hnb47,hnc47⟩:=pkQ BK113 hg;obtain⟨NB124_157,NB157_124,hnb48,hnc48⟩:=pkQ BK124 hg;obtain⟨NB135_157,NB157_135,hnb49,hnc49⟩:=pkQ BK135 hg;obtain⟨NB146_157,NB157_146,hnb50,hnc50⟩:=pkQ BK146 hg;replace BK113:=pkK BK113 hb;replace BK124:=pkK BK124 hb;replace BK135:=pkK BK135 hb;replace BK146:=pkK BK146 hb;replace HB:=pkB HB hb;clear hb hbox hg;obtain⟨⟨hcz51_0,hcz51_1,hcz51_2⟩,hfz51_0,hfz51_1,hfz51_2⟩:=pk3 BK157))
 (try simp only[Act.put,List.setIfInBounds_toArray,List.set_cons_zero,List.set_cons_succ])
 go_cut [81] (fun v81 wc=>∃(kq:Nat) (x81_15:Bool),v81= .bool x81_15∧aA (aU.j0 kq x81_15=some r)∧aA (kq≤k)∧aA (wc.heap[gb113]? =some (.cells #[.bool t109,.string t110,.string t111] 36 (0,0)))∧aA (wc.heap[gb124]? =some (.cells #[.bool t120,.string t121,.string t122] 36 (0,0)))∧aA (wc.heap[gb135]? =some (.cells #[.bool t131,.string t132,.string t133] 36 (0,0)))∧aA (wc.heap[gb146]? =some (.cells #[.bool t142,.string t143,.string t144] 36 (0,0)))∧aA (wc.heap[gb157]? =some (.cells #[.bool t153,.string t154,.string t155] 36 (0,0)))∧aA (Below w.heap.size w wc))
 case first=>
  have H:=HC16.out;clear HC16
  by_cases c52:(wrap64 ((wrap64 ((wrap64 ((wrap64 (t112+t123))+t134))+t145))+t156))=0
  ·rw[if_pos c52] at H
   have c52b0:((wrap64 ((wrap64 ((wrap64 ((wrap64 (t112+t123))+t134))+t145))+t156))==0)=true:=beq_iff_eq.mpr c52;have c52b1:((wrap64 ((wrap64 ((wrap64 ((wrap64 (t112+t123))+t134))+t145))+t156)) != 0)=false:=bne_eq_false_iff_eq.mpr c52;clear c52
   (first|rw[c52b0]|(simp only[dE,dM];rw[c52b0])|skip)
   obtain⟨⟨t158,t159,t160⟩,A53,H⟩:=bi H;have V158:aA (t158=false∧t159=(⟨#[49,56]⟩:ByteArray)∧t160=(⟨#[49,52]⟩:ByteArray)):=aA.mk (by have F:=A53.out.symm.trans aw158;simp only[Option.some.injEq,Prod.mk.injEq] at F;exact F);try dsimp only at H
   by_cases c54:(!(t109==t158)||(!(t110.toList==t159.toList)||(!(t111.toList==t160.toList))))=true
   ·exact absurd c54 (by(simp only[V109.out.1,V109.out.2.1,V109.out.2.2.1,V158.out.1,V158.out.2.1,V158.out.2.2]) <;> decide +kernel)
   ·rw[if_neg c54] at H
    have c54b0:(!(t109==t158)||(!(t110.toList==t159.toList)||(!(t111.toList==t160.toList))))=false:=by simpa using c54
    clear c54
    by_cases c58:t120=true
    ·subst c58
     rw[if_pos rfl] at H;obtain⟨⟨t161,t162,t163⟩,A59,H⟩:=bi H;have V161:aA (t161=false∧t162=(⟨#[56]⟩:ByteArray)∧t163=(⟨#[51]⟩:ByteArray)):=aA.mk (by have F:=A59.out.symm.trans aw161;simp only[Option.some.injEq,Prod.mk.injEq] at F;exact F);try dsimp only at H
     by_cases c60:(!(t131==t161)||(!(t132.toList==t162.toList)||(!(t133.toList==t163.toList))))=true
     ·exact absurd c60 (by(simp only[V131.out.1,V131.out.2.1,V131.out.2.2.1,V161.out.1,V161.out.2.1,V161.out.2.2]) <;> decide +kernel)
     ·rw[if_neg c60] at H
      have c60b0:(!(t131==t161)||(!(t132.toList==t162.toList)||(!(t133.toList==t163.toList))))=false:=by simpa using c60
      clear c60;obtain⟨⟨t164,t165,t166⟩,A65,H⟩:=bi H;have V164:aA (t164=false∧t165=(⟨#[52]⟩:ByteArray)∧t166=(⟨#[50]⟩:ByteArray)):=aA.mk (by have F:=A65.out.symm.trans aw164;simp only[Option.some.injEq,Prod.mk.injEq] at F;exact F);try dsimp only at H
      by_cases c66:(!(t142==t164)||(!(t143.toList==t165.toList)||(!(t144.toList==t166.toList))))=true
      ·exact absurd c66 (by(simp only[V142.out.1,V142.out.2.1,V142.out.2.2.1,V164.out.1,V164.out.2.1,V164.out.2.2]) <;> decide +kernel)
      ·rw[if_neg c66] at H
       have c66b0:(!(t142==t164)||(!(t143.toList==t165.toList)||(!(t144.toList==t166.toList))))=false:=by simpa using c66
       clear c66;obtain⟨⟨t167,t168,t169⟩,A72,H⟩:=bi H;have V167:aA (t167=false∧t168=(⟨#[50]⟩:ByteArray)∧t169=(⟨#[49]⟩:ByteArray)):=aA.mk (by have F:=A72.out.symm.trans aw167;simp only[Option.some.injEq,Prod.mk.injEq] at F;exact F);try dsimp only at H
       have H':=aA.mk H;clear H
       try go_wp2
       have n0_:aA ((((w46.setCell ⟨gb157,0,none⟩ (.bool t153)).setCell ⟨gb157,1,none⟩ (.string t154)).setCell ⟨gb157,2,none⟩ (.string t155)).heap[gb113]? =some (.cells #[.bool t109,.string t110,.string t111] 36 (0,0))):=⟨by(with_reducible repeat(first|refine bM ?_ _|refine aQ ?_|refine bK ?_ _));refine gU ?_ NB113_157.out _;(with_reducible repeat(first|refine bM ?_ _|refine aQ ?_|refine bK ?_ _));refine gU ?_ NB113_157.out _;(with_reducible repeat(first|refine bM ?_ _|refine aQ ?_|refine bK ?_ _));refine gU ?_ NB113_157.out _;(with_reducible repeat(first|refine bM ?_ _|refine aQ ?_|refine bK ?_ _));exact BK113.out⟩;have n1_:aA ((((w46.setCell ⟨gb157,0,none⟩ (.bool t153)).setCell ⟨gb157,1,none⟩ (.string t154)).setCell ⟨gb157,2,none⟩ (.string t155)).heap[gb124]? =some (.cells #[.bool true,.string t121,.string t122] 36 (0,0))):=⟨by(with_reducible repeat(first|refine bM ?_ _|refine aQ ?_|refine bK ?_ _));refine gU ?_ NB124_157.out _;(with_reducible repeat(first|refine bM ?_ _|refine aQ ?_|refine bK ?_ _));refine gU ?_ NB124_157.out _;(with_reducible repeat(first|refine bM ?_ _|refine aQ ?_|refine bK ?_ _));refine gU ?_ NB124_157.out _;(with_reducible repeat(first|refine bM ?_ _|refine aQ ?_|refine bK ?_ _));exact BK124.out⟩;have n2_:aA ((((w46.setCell ⟨gb157,0,none⟩ (.bool t153)).setCell ⟨gb157,1,none⟩ (.string t154)).setCell ⟨gb157,2,none⟩ (.string t155)).heap[gb135]? =some (.cells #[.bool t131,.string t132,.string t133] 36 (0,0))):=⟨by(with_reducible repeat(first|refine bM ?_ _|refine aQ ?_|refine bK ?_ _));refine gU ?_ NB135_157.out _;(with_reducible repeat(first|refine bM ?_ _|refine aQ ?_|refine bK ?_ _));refine gU ?_ NB135_157.out _;(with_reducible repeat(first|refine bM ?_ _|refine aQ ?_|refine bK ?_ _));refine gU ?_ NB135_157.out _;(with_reducible repeat(first|refine bM ?_ _|refine aQ ?_|refine bK ?_ _));exact BK135.out⟩;have n3_:aA ((((w46.setCell ⟨gb157,0,none⟩ (.bool t153)).setCell ⟨gb157,1,none⟩ (.string t154)).setCell ⟨gb157,2,none⟩ (.string t155)).heap[gb146]? =some (.cells #[.bool t142,.string t143,.string t144] 36 (0,0))):=⟨by(with_reducible repeat(first|refine bM ?_ _|refine aQ ?_|refine bK ?_ _));refine gU ?_ NB146_157.out _;(with_reducible repeat(first|refine bM ?_ _|refine aQ ?_|refine bK ?_ _));refine gU ?_ NB146_157.out _;(with_reducible repeat(first|refine bM ?_ _|refine aQ ?_|refine bK ?_ _));refine gU ?_ NB146_157.out _;(with_reducible repeat(first|refine bM ?_ _|refine aQ ?_|refine bK ?_ _));exact BK146.out⟩;have n4_:aA ((((w46.setCell ⟨gb157,0,none⟩ (.bool t153)).setCell ⟨gb157,1,none⟩ (.string t154)).setCell ⟨gb157,2,none⟩ (.string t155)).heap[gb157]? =some (.cells #[.bool t153,.string t154,.string t155] 36 (0,0))):=⟨by(with_reducible repeat(first|refine bM ?_ _|refine aQ ?_|refine bK ?_ _));refine gX (cs:=#[.bool t153,.string t154,.string (⟨#[]⟩:ByteArray)]) ?_ 2 _ rfl;(with_reducible repeat(first|refine bM ?_ _|refine aQ ?_|refine bK ?_ _));refine gX (cs:=#[.bool t153,.string (⟨#[]⟩:ByteArray),.string (⟨#[]⟩:ByteArray)]) ?_ 1 _ rfl;(with_reducible repeat(first|refine bM ?_ _|refine aQ ?_|refine bK ?_ _));refine gX (cs:=#[.bool false,.string (⟨#[]⟩:ByteArray),.string (⟨#[]⟩:ByteArray)]) ?_ 0 _ rfl;(with_reducible repeat(first|refine bM ?_ _|refine aQ ?_|refine bK ?_ _));exact BK157.out⟩;have n5_:aA (Below w.heap.size w (((w46.setCell ⟨gb157,0,none⟩ (.bool t153)).setCell ⟨gb157,1,none⟩ (.string t154)).setCell ⟨gb157,2,none⟩ (.string t155))):=⟨pkL HB⟩
       (try clear BK113)
       (try clear BK124)
       (try clear BK135)
       (try clear BK146)
       (try clear BK157)
       (try clear HB)
       generalize (((w46.setCell ⟨gb157,0,none⟩ (.bool t153)).setCell ⟨gb157,1,none⟩ (.string t154)).setCell ⟨gb157,2,none⟩ (.string t155))=w73 at n0_ n1_ n2_ n3_ n4_ n5_ ⊢;have BK113:=n0_;have BK124:=n1_;have BK135:=n2_;have BK146:=n3_;have BK157:=n4_;have HB:=n5_;clear n0_ n1_ n2_ n3_ n4_ n5_;replace BK113:=aA.mk (aQ BK113.out);replace BK124:=aA.mk (aQ BK124.out);replace BK135:=aA.mk (aQ BK135.out);replace BK146:=aA.mk (aQ BK146.out);replace BK157:=aA.mk (aQ BK157.out);replace HB:=aA.mk (bG HB.out)
       refine jY (n:=35) (S:=fun w'=>w'.cell? ⟨gb113,0,none⟩=some (.bool t109)∧w'.cell? ⟨gb113,1,none⟩=some (.string t110)∧w'.cell? ⟨gb113,2,none⟩=some (.string t111)∧w'.cell? ⟨gb124,0,none⟩=some (.bool true)∧w'.cell? ⟨gb124,1,none⟩=some (.string t121)∧w'.cell? ⟨gb124,2,none⟩=some (.string t122)∧w'.cell? ⟨gb135,0,none⟩=some (.bool t131)∧w'.cell? ⟨gb135,1,none⟩=some (.string t132)∧w'.cell? ⟨gb135,2,none⟩=some (.string t133)∧w'.cell? ⟨gb146,0,none⟩=some (.bool t142)∧w'.cell? ⟨gb146,1,none⟩=some (.string t143)∧w'.cell? ⟨gb146,2,none⟩=some (.string t144)∧w'.cell? ⟨gb157,0,none⟩=some (.bool t153)∧w'.cell? ⟨gb157,1,none⟩=some (.string t154)∧w'.cell? ⟨gb157,2,none⟩=some (.string t155)) (ds:= []) #[false,false,false,false,false,false,false,false,false,false,false,false,false,false,false,false,false,false,false,false,false,false,false,false,false,false,false,false,false,false,false,false,false,false,false] (by kernel_rfl) rfl rfl ⟨(aC BK113.out 0).trans rfl,(aC BK113.out 1).trans rfl,(aC BK113.out 2).trans rfl,(aC BK124.out 0).trans rfl,(aC BK124.out 1).trans rfl,(aC BK124.out 2).trans rfl,(aC BK135.out 0).trans rfl,(aC BK135.out 1).trans rfl,(aC BK135.out 2).trans rfl,(aC BK146.out 0).trans rfl,(aC BK146.out 1).trans rfl,(aC BK146.out 2).trans rfl,(aC BK157.out 0).trans rfl,(aC BK157.out 1).trans rfl,(aC BK157.out 2).trans rfl⟩ (fun hHeld=> ?_);refine kP aU.tab6 aU.bits6 (fun HT_ HW_=> ?_)
       generalize w73.drew=w74 at BK113 BK124 BK135 BK146 BK157 HB hHeld ⊢;refine pr_ 0 47 (h:= ?_);refine pr_ 1 48 (h:= ?_);refine pr_ 2 49 (h:= ?_);refine pr_ 3 50 (h:= ?_);refine pr_ 4 51 (h:= ?_);refine pr_ 5 52 (h:= ?_);refine pr_ 6 53 (h:= ?_);refine pr_ 7 54 (h:= ?_);refine pr_ 8 55 (h:= ?_);refine pr_ 9 56 (h:= ?_);refine pr_ 10 57 (h:= ?_);refine tk_ 11 58 hHeld (hy:=by rintro w' ⟨s0,s1,s2,s3,s4,s5,s6,s7,s8,s9,s10,s11,s12,s13,s14⟩;go_simp;with_reducible rfl) (h:= ?_);refine on_ 12 59 (h:=fun K hK=> ?_);refine g1_ Tryz.func98 #[.string (⟨#[49,56]⟩:ByteArray),.string (⟨#[49,52]⟩:ByteArray)] (h:= ?_);with_reducible refine(aH.calls (⟨#[49,56]⟩:ByteArray) (⟨#[49,52]⟩:ByteArray) t158 t159 t160 _ A53.out).mono ?_
       rintro e w75 ⟨rfl,hb⟩;refine⟨_,rfl,?_⟩;replace BK113:=pkK BK113 hb;replace BK124:=pkK BK124 hb;replace BK135:=pkK BK135 hb;replace BK146:=pkK BK146 hb;replace BK157:=pkK BK157 hb;replace HB:=pkB HB hb
       (try clear hb)
       (try clear hb2)
       (try clear hk)
       (try clear hi)
       refine hK.out _ _ ⟨(aC BK113.out 0).trans rfl,(aC BK113.out 1).trans rfl,(aC BK113.out 2).trans rfl,(aC BK124.out 0).trans rfl,(aC BK124.out 1).trans rfl,(aC BK124.out 2).trans rfl,(aC BK135.out 0).trans rfl,(aC BK135.out 1).trans rfl,(aC BK135.out 2).trans rfl,(aC BK146.out 0).trans rfl,(aC BK146.out 1).trans rfl,(aC BK146.out 2).trans rfl,(aC BK157.out 0).trans rfl,(aC BK157.out 1).trans rfl,(aC BK157.out 2).trans rfl⟩ (fun hHeld=> ?_);clear hK K;refine gG (a':= ?_) ?_ ?_
       rotate_left
       ·show Act.put _ (some 59) _=_
        simp only[Act.put,List.setIfInBounds_toArray,List.set_cons_zero,List.set_cons_succ,dE,dM];rfl
       refine pr_ 13 60 (h:= ?_);refine pr_ 14 61 (h:= ?_);refine pr_ 15 62 (h:= ?_);refine pr_ 16 63 (h:= ?_);refine tk_ 17 64 hHeld (hy:=by rintro w' ⟨s0,s1,s2,s3,s4,s5,s6,s7,s8,s9,s10,s11,s12,s13,s14⟩;go_simp;with_reducible rfl) (h:= ?_);refine pr_ 18 65 (h:= ?_);refine pr_ 19 66 (h:= ?_);refine pr_ 20 67 (h:= ?_);refine tk_ 21 68 hHeld (hy:=by rintro w' ⟨s0,s1,s2,s3,s4,s5,s6,s7,s8,s9,s10,s11,s12,s13,s14⟩;go_simp;with_reducible rfl) (h:= ?_);refine on_ 22 69 (h:=fun K hK=> ?_);refine g1_ Tryz.func98 #[.string (⟨#[56]⟩:ByteArray),.string (⟨#[51]⟩:ByteArray)] (h:= ?_);with_reducible refine(aH.calls (⟨#[56]⟩:ByteArray) (⟨#[51]⟩:ByteArray) t161 t162 t163 _ A59.out).mono ?_
       rintro e w76 ⟨rfl,hb⟩;refine⟨_,rfl,?_⟩;replace BK113:=pkK BK113 hb;replace BK124:=pkK BK124 hb;replace BK135:=pkK BK135 hb;replace BK146:=pkK BK146 hb;replace BK157:=pkK BK157 hb;replace HB:=pkB HB hb
       (try clear hb)
       (try clear hb2)
       (try clear hk)
       (try clear hi)
       refine hK.out _ _ ⟨(aC BK113.out 0).trans rfl,(aC BK113.out 1).trans rfl,(aC BK113.out 2).trans rfl,(aC BK124.out 0).trans rfl,(aC BK124.out 1).trans rfl,(aC BK124.out 2).trans rfl,(aC BK135.out 0).trans rfl,(aC BK135.out 1).trans rfl,(aC BK135.out 2).trans rfl,(aC BK146.out 0).trans rfl,(aC BK146.out 1).trans rfl,(aC BK146.out 2).trans rfl,(aC BK157.out 0).trans rfl,(aC BK157.out 1).trans rfl,(aC BK157.out 2).trans rfl⟩ (fun hHeld=> ?_);clear hK K;refine gG (a':= ?_) ?_ ?_
       rotate_left
       ·show Act.put _ (some 69) _=_
        simp only[Act.put,List.setIfInBounds_toArray,List.set_cons_zero,List.set_cons_succ,dE,dM];rfl
       refine pr_ 23 70 (h:= ?_);refine pr_ 24 71 (h:= ?_);refine pr_ 25 72 (h:= ?_);refine tk_ 26 73 hHeld (hy:=by rintro w' ⟨s0,s1,s2,s3,s4,s5,s6,s7,s8,s9,s10,s11,s12,s13,s14⟩;go_simp;with_reducible rfl) (h:= ?_);refine on_ 27 74 (h:=fun K hK=> ?_);refine g1_ Tryz.func98 #[.string (⟨#[52]⟩:ByteArray),.string (⟨#[50]⟩:ByteArray)] (h:= ?_);with_reducible refine(aH.calls (⟨#[52]⟩:ByteArray) (⟨#[50]⟩:ByteArray) t164 t165 t166 _ A65.out).mono ?_
       rintro e w77 ⟨rfl,hb⟩;refine⟨_,rfl,?_⟩;replace BK113:=pkK BK113 hb;replace BK124:=pkK BK124 hb;replace BK135:=pkK BK135 hb;replace BK146:=pkK BK146 hb;replace BK157:=pkK BK157 hb;replace HB:=pkB HB hb
       (try clear hb)
       (try clear hb2)
       (try clear hk)
       (try clear hi)
       refine hK.out _ _ ⟨(aC BK113.out 0).trans rfl,(aC BK113.out 1).trans rfl,(aC BK113.out 2).trans rfl,(aC BK124.out 0).trans rfl,(aC BK124.out 1).trans rfl,(aC BK124.out 2).trans rfl,(aC BK135.out 0).trans rfl,(aC BK135.out 1).trans rfl,(aC BK135.out 2).trans rfl,(aC BK146.out 0).trans rfl,(aC BK146.out 1).trans rfl,(aC BK146.out 2).trans rfl,(aC BK157.out 0).trans rfl,(aC BK157.out 1).trans rfl,(aC BK157.out 2).trans rfl⟩ (fun hHeld=> ?_);clear hK K;refine gG (a':= ?_) ?_ ?_
       rotate_left
       ·show Act.put _ (some 74) _=_
        simp only[Act.put,List.setIfInBounds_toArray,List.set_cons_zero,List.set_cons_succ,dE,dM];rfl
       refine pr_ 28 75 (h:= ?_);refine pr_ 29 76 (h:= ?_);refine pr_ 30 77 (h:= ?_);refine tk_ 31 78 hHeld (hy:=by rintro w' ⟨s0,s1,s2,s3,s4,s5,s6,s7,s8,s9,s10,s11,s12,s13,s14⟩;go_simp;with_reducible rfl) (h:= ?_);refine on_ 32 79 (h:=fun K hK=> ?_);refine g1_ Tryz.func98 #[.string (⟨#[50]⟩:ByteArray),.string (⟨#[49]⟩:ByteArray)] (h:= ?_);with_reducible refine(aH.calls (⟨#[50]⟩:ByteArray) (⟨#[49]⟩:ByteArray) t167 t168 t169 _ A72.out).mono ?_
       rintro e w78 ⟨rfl,hb⟩;refine⟨_,rfl,?_⟩;replace BK113:=pkK BK113 hb;replace BK124:=pkK BK124 hb;replace BK135:=pkK BK135 hb;replace BK146:=pkK BK146 hb;replace BK157:=pkK BK157 hb;replace HB:=pkB HB hb
       (try clear hb)
       (try clear hb2)
       (try clear hk)
       (try clear hi)
       refine hK.out _ _ ⟨(aC BK113.out 0).trans rfl,(aC BK113.out 1).trans rfl,(aC BK113.out 2).trans rfl,(aC BK124.out 0).trans rfl,(aC BK124.out 1).trans rfl,(aC BK124.out 2).trans rfl,(aC BK135.out 0).trans rfl,(aC BK135.out 1).trans rfl,(aC BK135.out 2).trans rfl,(aC BK146.out 0).trans rfl,(aC BK146.out 1).trans rfl,(aC BK146.out 2).trans rfl,(aC BK157.out 0).trans rfl,(aC BK157.out 1).trans rfl,(aC BK157.out 2).trans rfl⟩ (fun hHeld=> ?_);clear hK K;refine gG (a':= ?_) ?_ ?_
       rotate_left
       ·show Act.put _ (some 79) _=_
        simp only[Act.put,List.setIfInBounds_toArray,List.set_cons_zero,List.set_cons_succ,dE,dM];rfl
       refine pr_ 33 80 (h:= ?_);refine pr_ 34 81 (h:= ?_);refine kT (mG HT_.out (by kernel_rfl)) ?_
       try go_wp2
       go_meet
       case rel=>exact⟨_,((!(t153==t167)||(!(t154.toList==t168.toList)||(!(t155.toList==t169.toList))))),aCs,H',⟨by first|omega|exact Nat.le_refl _⟩,⟨pkW BK113⟩,⟨pkW BK124⟩,⟨pkW BK135⟩,⟨pkW BK146⟩,⟨pkW BK157⟩,⟨pkL HB⟩⟩
    ·exact absurd (by(simp only[V120.out.1]) <;> decide +kernel) c58
  ·exact absurd (by(simp only[V109.out.2.2.2,V120.out.2.2.2,V131.out.2.2.2,V142.out.2.2.2,V153.out.2.2.2]) <;> decide +kernel) c52
 case rest=>
  clear HC16;try clear c52
  try clear c52b0
  try clear c52b1
  try clear c58
  obtain⟨kq,x81_15,rfl,HA,HJ15,BK113,BK124,BK135,BK146,BK157,HB⟩:=hcut
  cases kq with
  |zero=>exact absurd HA.out (by simp[aU.j0])
  |succ kj15=>
   have H:=HA.out;clear HA;simp only[aU.j0] at H
   by_cases c84:x81_15=true
   ·have hj:=H;rw[if_pos c84] at hj;have hj2:=Option.some.inj hj;rw[hrT] at hj2;exact absurd hj2 aCr
   ·replace c84:=Bool.eq_false_iff.mpr c84
    subst c84;rw[if_neg (show ¬(false=true) by decide)] at H;obtain⟨⟨t170,t171,t172⟩,A85,H⟩:=bi H;have V170:aA (t170=false∧t171=(⟨#[49,50]⟩:ByteArray)∧t172=(⟨#[52]⟩:ByteArray)):=aA.mk (by have F:=A85.out.symm.trans aw170;simp only[Option.some.injEq,Prod.mk.injEq] at F;exact F);try dsimp only at H
    obtain⟨⟨t173,t174,t175⟩,A86,H⟩:=bi H;have V173:aA (t173=false∧t174=(⟨#[48]⟩:ByteArray)∧t175=(⟨#[52]⟩:ByteArray)):=aA.mk (by have F:=A86.out.symm.trans aw173;simp only[Option.some.injEq,Prod.mk.injEq] at F;exact F);try dsimp only at H
    obtain⟨⟨t176,t177,t178,t179⟩,A87,H⟩:=bi H;have V176:aA (t176=false∧t177=(⟨#[51]⟩:ByteArray)∧t178=(⟨#[49]⟩:ByteArray)∧t179=0):=aA.mk (by have E:=A87.out;simp only[V170.out.1,V170.out.2.1,V170.out.2.2,V173.out.1,V173.out.2.1,V173.out.2.2] at E;have F:=E.symm.trans aw176;simp only[Option.some.injEq,Prod.mk.injEq] at F;exact F);try dsimp only at H
    obtain⟨⟨t181,t182,t183⟩,A88,H⟩:=bi H;have V181:aA (t181=false∧t182=(⟨#[49,50]⟩:ByteArray)∧t183=(⟨#[52]⟩:ByteArray)):=aA.mk (by have F:=A88.out.symm.trans aw181;simp only[Option.some.injEq,Prod.mk.injEq] at F;exact F);try dsimp only at H
    obtain⟨⟨t184,t185,t186⟩,A89,H⟩:=bi H;have V184:aA (t184=false∧t185=(⟨#[48]⟩:ByteArray)∧t186=(⟨#[53]⟩:ByteArray)):=aA.mk (by have F:=A89.out.symm.trans aw184;simp only[Option.some.injEq,Prod.mk.injEq] at F;exact F);try dsimp only at H
    obtain⟨⟨t187,t188,t189,t190⟩,A90,H⟩:=bi H;have V187:aA (t187=false∧t188=(⟨#[49]⟩:ByteArray)∧t189=(⟨#[48]⟩:ByteArray)∧t190=0):=aA.mk (by have E:=A90.out;simp only[V181.out.1,V181.out.2.1,V181.out.2.2,V184.out.1,V184.out.2.1,V184.out.2.2] at E;have F:=E.symm.trans aw187;simp only[Option.some.injEq,Prod.mk.injEq] at F;exact F);try dsimp only at H
    obtain⟨⟨t192,t193,t194⟩,A91,H⟩:=bi H;have V192:aA (t192=false∧t193=(⟨#[49,50]⟩:ByteArray)∧t194=(⟨#[52]⟩:ByteArray)):=aA.mk (by have F:=A91.out.symm.trans aw192;simp only[Option.some.injEq,Prod.mk.injEq] at F;exact F);try dsimp only at H
    obtain⟨⟨t195,t196,t197⟩,A92,H⟩:=bi H;have V195:aA (t195=false∧t196=(⟨#[48]⟩:ByteArray)∧t197=(⟨#[54]⟩:ByteArray)):=aA.mk (by have F:=A92.out.symm.trans aw195;simp only[Option.some.injEq,Prod.mk.injEq] at F;exact F);try dsimp only at H
    obtain⟨⟨t198,t199,t200,t201⟩,A93,H⟩:=bi H;have V198:aA (t198=false∧t199=(⟨#[48]⟩:ByteArray)∧t200=(⟨#[52]⟩:ByteArray)∧t201=0):=aA.mk (by have E:=A93.out;simp only[V192.out.1,V192.out.2.1,V192.out.2.2,V195.out.1,V195.out.2.1,V195.out.2.2] at E;have F:=E.symm.trans aw198;simp only[Option.some.injEq,Prod.mk.injEq] at F;exact F);try dsimp only at H
    obtain⟨⟨t203,t204,t205⟩,A94,H⟩:=bi H;have V203:aA (t203=false∧t204=(⟨#[49,50]⟩:ByteArray)∧t205=(⟨#[52]⟩:ByteArray)):=aA.mk (by have F:=A94.out.symm.trans aw203;simp only[Option.some.injEq,Prod.mk.injEq] at F;exact F);try dsimp only at H
    obtain⟨⟨t206,t207,t208⟩,A95,H⟩:=bi H;have V206:aA (t206=false∧t207=(⟨#[48]⟩:ByteArray)∧t208=(⟨#[56]⟩:ByteArray)):=aA.mk (by have F:=A95.out.symm.trans aw206;simp only[Option.some.injEq,Prod.mk.injEq] at F;exact F);try dsimp only at H
    obtain⟨⟨t209,t210,t211,t212⟩,A96,H⟩:=bi H;have V209:aA (t209=false∧t210=(⟨#[52]⟩:ByteArray)∧t211=(⟨#[48]⟩:ByteArray)∧t212=0):=aA.mk (by have E:=A96.out;simp only[V203.out.1,V203.out.2.1,V203.out.2.2,V206.out.1,V206.out.2.1,V206.out.2.2] at E;have F:=E.symm.trans aw209;simp only[Option.some.injEq,Prod.mk.injEq] at F;exact F);try dsimp only at H
    have HC97:=aA.mk H;clear H
    go_upto_region 12 with (first|((with_reducible refine aG (f:=98) rfl ?_);refine gl_ 83 Tryz.func98 #[.string (⟨#[49,50]⟩:ByteArray),.string (⟨#[52]⟩:ByteArray)] (h:= ?_);(with_reducible refine(aH.calls (⟨#[49,50]⟩:ByteArray) (⟨#[52]⟩:ByteArray) t170 t171 t172 _ A85.out).mono ?_);rintro e w98 ⟨rfl,hb⟩;refine⟨_,rfl,?_⟩;replace BK113:=pkK BK113 hb;replace BK124:=pkK BK124 hb;replace BK135:=pkK BK135 hb;replace BK146:=pkK BK146 hb;replace BK157:=pkK BK157 hb;replace HB:=pkB HB hb;try clear hb)|((with_reducible refine aG (f:=98) rfl ?_);refine gl_ 84 Tryz.func98 #[.string (⟨#[48]⟩:ByteArray),.string (⟨#[52]⟩:ByteArray)] (h:= ?_);(with_reducible refine(aH.calls (⟨#[48]⟩:ByteArray) (⟨#[52]⟩:ByteArray) t173 t174 t175 _ A86.out).mono ?_);rintro e w99 ⟨rfl,hb⟩;refine⟨_,rfl,?_⟩;replace BK113:=pkK BK113 hb;replace BK124:=pkK BK124 hb;replace BK135:=pkK BK135 hb;replace BK146:=pkK BK146 hb;replace BK157:=pkK BK157 hb;replace HB:=pkB HB hb;try clear hb)|((with_reducible refine aG (f:=36) rfl ?_);refine gl_ 85 Tryz.func36 #[.agg #[.bool t170,.string t171,.string t172],.agg #[.bool t173,.string t174,.string t175]] (h:= ?_);(with_reducible refine(iP.calls (hG:=HG.out.below (pkL HB)) t170 t171 t172 t173 t174 t175 t176 t177 t178 t179 _ A87.out).mono ?_);rintro e w100 ⟨rfl,hb⟩;refine⟨_,rfl,?_⟩;replace BK113:=pkK BK113 hb;replace BK124:=pkK BK124 hb;replace BK135:=pkK BK135 hb;replace BK146:=pkK BK146 hb;replace BK157:=pkK BK157 hb;replace HB:=pkB HB hb;try clear hb)|((with_reducible refine aJ (N:=11) rfl ?_);refine bx_ 11 36 #[.bool false,.string (⟨#[]⟩:ByteArray),.string (⟨#[]⟩:ByteArray)] (h:= ?_);intro gb180 hg w101 hbox hb;have BK180:=aA.mk (hbox);have GW180:=pkG HB hg;have GE180:=GW180;obtain⟨NB113_180,NB180_113,hnb102,hnc102⟩:=pkQ BK113 hg;obtain⟨NB124_180,NB180_124,hnb103,hnc103⟩:=pkQ BK124 hg;obtain⟨NB135_180,NB180_135,hnb104,hnc104⟩:=pkQ BK135 hg;obtain⟨NB146_180,NB180_146,hnb105,hnc105⟩:=pkQ BK146 hg;obtain⟨NB157_180,NB180_157,hnb106,hnc106⟩:=pkQ BK157 hg;replace BK113:=pkK BK113 hb;replace BK124:=pkK BK124 hb;replace BK135:=pkK BK135 hb;replace BK146:=pkK BK146 hb;replace BK157:=pkK BK157 hb;replace HB:=pkB HB hb;clear hb hbox hg;obtain⟨⟨hcz107_0,hcz107_1,hcz107_2⟩,hfz107_0,hfz107_1,hfz107_2⟩:=pk3 BK180)|((with_reducible refine aG (f:=98) rfl ?_);refine gl_ 89 Tryz.func98 #[.string (⟨#[49,50]⟩:ByteArray),.string (⟨#[52]⟩:ByteArray)] (h:= ?_);(with_reducible refine(aH.calls (⟨#[49,50]⟩:ByteArray) (⟨#[52]⟩:ByteArray) t181 t182 t183 _ A88.out).mono ?_);rintro e w108 ⟨rfl,hb⟩;refine⟨_,rfl,?_⟩;replace BK113:=pkF BK113 hb;replace BK124:=pkF BK124 hb;replace BK135:=pkF BK135 hb;replace BK146:=pkF BK146 hb;replace BK157:=pkF BK157 hb;replace BK180:=aA.mk (dF (g:=gb180) (o:= .cells #[.bool t176,.string t177,.string t178] 36 (0,0)) (pkS3 BK180) hb);replace HB:=pkB HB hb;try clear hb)|((with_reducible refine aG (f:=98) rfl ?_);refine gl_ 90 Tryz.func98 #[.string (⟨#[48]⟩:ByteArray),.string (⟨#[53]⟩:ByteArray)] (h:= ?_);(with_reducible refine(aH.calls (⟨#[48]⟩:ByteArray) (⟨#[53]⟩:ByteArray) t184 t185 t186 _ A89.out).mono ?_);rintro e w109 ⟨rfl,hb⟩;refine⟨_,rfl,?_⟩;replace BK113:=pkK BK113 hb;replace BK124:=pkK BK124 hb;replace BK135:=pkK BK135 hb;replace BK146:=pkK BK146 hb;replace BK157:=pkK BK157 hb;replace BK180:=pkK BK180 hb;replace HB:=pkB HB hb;try clear hb)|((with_reducible refine aG (f:=36) rfl ?_);refine gl_ 91 Tryz.func36 #[.agg #[.bool t181,.string t182,.string t183],.agg #[.bool t184,.string t185,.string t186]] (h:= ?_);(with_reducible refine(iP.calls (hG:=HG.out.below (pkL HB)) t181 t182 t183 t184 t185 t186 t187 t188 t189 t190 _ A90.out).mono ?_);rintro e w110 ⟨rfl,hb⟩;refine⟨_,rfl,?_⟩;replace BK113:=pkK BK113 hb;replace BK124:=pkK BK124 hb;replace BK135:=pkK BK135 hb;replace BK146:=pkK BK146 hb;replace BK157:=pkK BK157 hb;replace BK180:=pkK BK180 hb;replace HB:=pkB HB hb;try clear hb)|((with_reducible refine aJ (N:=12) rfl ?_);refine bx_ 12 36 #[.bool false,.string (⟨#[]⟩:ByteArray),.string (⟨#[]⟩:ByteArray)] (h:= ?_);intro gb191 hg w111 hbox hb;have BK191:=aA.mk (hbox);have GW191:=pkG HB hg;have GE191:=GW191;obtain⟨NB113_191,NB191_113,hnb112,hnc112⟩:=pkQ BK113 hg;obtain⟨NB124_191,NB191_124,hnb113,hnc113⟩:=pkQ BK124 hg;obtain⟨NB135_191,NB191_135,hnb114,hnc114⟩:=pkQ BK135 hg;obtain⟨NB146_191,NB191_146,hnb115,hnc115⟩:=pkQ BK146 hg;obtain⟨NB157_191,NB191_157,hnb116,hnc116⟩:=pkQ BK157 hg;obtain⟨NB180_191,NB191_180,hnb117,hnc117⟩:=pkQ BK180 hg;replace BK113:=pkK BK113 hb;replace BK124:=pkK BK124 hb;replace BK135:=pkK BK135 hb;replace BK146:=pkK BK146 hb;replace BK157:=pkK BK157 hb;replace BK180:=pkK BK180 hb;replace HB:=pkB HB hb;clear hb hbox hg;obtain⟨⟨hcz118_0,hcz118_1,hcz118_2⟩,hfz118_0,hfz118_1,hfz118_2⟩:=pk3 BK191)|((with_reducible refine aG (f:=98) rfl ?_);refine gl_ 95 Tryz.func98 #[.string (⟨#[49,50]⟩:ByteArray),.string (⟨#[52]⟩:ByteArray)] (h:= ?_);(with_reducible refine(aH.calls (⟨#[49,50]⟩:ByteArray) (⟨#[52]⟩:ByteArray) t192 t193 t194 _ A91.out).mono ?_);rintro e w119 ⟨rfl,hb⟩;refine⟨_,rfl,?_⟩;replace BK113:=pkF BK113 hb;replace BK124:=pkF BK124 hb;replace BK135:=pkF BK135 hb;replace BK146:=pkF BK146 hb;replace BK157:=pkF BK157 hb;replace BK180:=pkF BK180 hb;replace BK191:=aA.mk (dF (g:=gb191) (o:= .cells #[.bool t187,.string t188,.string t189] 36 (0,0)) (pkS3 BK191) hb);replace HB:=pkB HB hb;try clear hb)|((with_reducible refine aG (f:=98) rfl ?_);refine gl_ 96 Tryz.func98 #[.string (⟨#[48]⟩:ByteArray),.string (⟨#[54]⟩:ByteArray)] (h:= ?_);(with_reducible refine(aH.calls (⟨#[48]⟩:ByteArray) (⟨#[54]⟩:ByteArray) t195 t196 t197 _ A92.out).mono ?_);rintro e w120 ⟨rfl,hb⟩;refine⟨_,rfl,?_⟩;replace BK113:=pkK BK113 hb;replace BK124:=pkK BK124 hb;replace BK135:=pkK BK135 hb;replace BK146:=pkK BK146 hb;replace BK157:=pkK BK157 hb;replace BK180:=pkK BK180 hb;replace BK191:=pkK BK191 hb;replace HB:=pkB HB hb;try clear hb)|((with_reducible refine aG (f:=38) rfl ?_);refine gl_ 97 Tryz.func38 #[.agg #[.bool t192,.string t193,.string t194],.agg #[.bool t195,.string t196,.string t197]] (h:= ?_);(with_reducible refine(iQ.calls (hG:=HG.out.below (pkL HB)) t192 t193 t194 t195 t196 t197 t198 t199 t200 t201 _ A93.out).mono ?_);rintro e w121 ⟨rfl,hb⟩;refine⟨_,rfl,?_⟩;replace BK113:=pkK BK113 hb;replace BK124:=pkK BK124 hb;replace BK135:=pkK BK135 hb;replace BK146:=pkK BK146 hb;replace BK157:=pkK BK157 hb;replace BK180:=pkK BK180 hb;replace BK191:=pkK BK191 hb;replace HB:=pkB HB hb;try clear hb)|((with_reducible refine aJ (N:=13) rfl ?_);refine bx_ 13 36 #[.bool false,.string (⟨#[]⟩:ByteArray),.string (⟨#[]⟩:ByteArray)] (h:= ?_);intro gb202 hg w122 hbox hb;have BK202:=aA.mk (hbox);have GW202:=pkG HB hg;have GE202:=GW202;obtain⟨NB113_202,NB202_113,hnb123,hnc123⟩:=pkQ BK113 hg;obtain⟨NB124_202,NB202_124,hnb124,hnc124⟩:=pkQ BK124 hg;obtain⟨NB135_202,NB202_135,hnb125,hnc125⟩:=pkQ BK135 hg;obtain⟨NB146_202,NB202_146,hnb126,hnc126⟩:=pkQ BK146 hg;obtain⟨NB157_202,NB202_157,hnb127,hnc127⟩:=pkQ BK157 hg;obtain⟨NB180_202,NB202_180,hnb128,hnc128⟩:=pkQ BK180 hg;obtain⟨NB191_202,NB202_191,hnb129,hnc129⟩:=pkQ BK191 hg;replace BK113:=pkK BK113 hb;replace BK124:=pkK BK124 hb;replace BK135:=pkK BK135 hb;replace BK146:=pkK BK146 hb;replace BK157:=pkK BK157 hb;replace BK180:=pkK BK180 hb;replace BK191:=pkK BK191 hb;replace HB:=pkB HB hb;clear hb hbox hg;obtain⟨⟨hcz130_0,hcz130_1,hcz130_2⟩,hfz130_0,hfz130_1,hfz130_2⟩:=pk3 BK202)|((with_reducible refine aG (f:=98) rfl ?_);refine gl_ 101 Tryz.func98 #[.string (⟨#[49,50]⟩:ByteArray),.string (⟨#[52]⟩:ByteArray)] (h:= ?_);(with_reducible refine(aH.calls (⟨#[49,50]⟩:ByteArray) (⟨#[52]⟩:ByteArray) t203 t204 t205 _ A94.out).mono ?_);rintro e w131 ⟨rfl,hb⟩;refine⟨_,rfl,?_⟩;replace BK113:=pkF BK113 hb;replace BK124:=pkF BK124 hb;replace BK135:=pkF BK135 hb;replace BK146:=pkF BK146 hb;replace BK157:=pkF BK157 hb;replace BK180:=pkF BK180 hb;replace BK191:=pkF BK191 hb;replace BK202:=aA.mk (dF (g:=gb202) (o:= .cells #[.bool t198,.string t199,.string t200] 36 (0,0)) (pkS3 BK202) hb);replace HB:=pkB HB hb;try clear hb)|((with_reducible refine aG (f:=98) rfl ?_);refine gl_ 102 Tryz.func98 #[.string (⟨#[48]⟩:ByteArray),.string (⟨#[56]⟩:ByteArray)] (h:= ?_);(with_reducible refine(aH.calls (⟨#[48]⟩:ByteArray) (⟨#[56]⟩:ByteArray) t206 t207 t208 _ A95.out).mono ?_);rintro e w132 ⟨rfl,hb⟩;refine⟨_,rfl,?_⟩;replace BK113:=pkK BK113 hb;replace BK124:=pkK BK124 hb;replace BK135:=pkK BK135 hb;replace BK146:=pkK BK146 hb;replace BK157:=pkK BK157 hb;replace BK180:=pkK BK180 hb;replace BK191:=pkK BK191 hb;replace BK202:=pkK BK202 hb;replace HB:=pkB HB hb;try clear hb)|((with_reducible refine aG (f:=38) rfl ?_);refine gl_ 103 Tryz.func38 #[.agg #[.bool t203,.string t204,.string t205],.agg #[.bool t206,.string t207,.string t208]] (h:= ?_);(with_reducible refine(iQ.calls (hG:=HG.out.below (pkL HB)) t203 t204 t205 t206 t207 t208 t209 t210 t211 t212 _ A96.out).mono ?_);rintro e w133 ⟨rfl,hb⟩;refine⟨_,rfl,?_⟩;replace BK113:=pkK BK113 hb;replace BK124:=pkK BK124 hb;replace BK135:=pkK BK135 hb;replace BK146:=pkK BK146 hb;replace BK157:=pkK BK157 hb;replace BK180:=pkK BK180 hb;replace BK191:=pkK BK191 hb;replace BK202:=pkK BK202 hb;replace HB:=pkB HB hb;try clear hb)|((with_reducible refine aJ (N:=14) rfl ?_);refine bx_ 14 36 #[.bool false,.string (⟨#[]⟩:ByteArray),.string (⟨#[]⟩:ByteArray)] (h:= ?_);intro gb213 hg w134 hbox hb;have BK213:=aA.mk (hbox);have GW213:=pkG HB hg;have GE213:=GW213;obtain⟨NB113_213,NB213_113,hnb135,hnc135⟩:=pkQ BK113 hg;obtain⟨NB124_213,NB213_124,hnb136,hnc136⟩:=pkQ BK124 hg;obtain⟨NB135_213,NB213_135,hnb137,hnc137⟩:=pkQ BK135 hg;obtain⟨NB146_213,NB213_146,hnb138,hnc138⟩:=pkQ BK146 hg;obtain⟨NB157_213,NB213_157,hnb139,hnc139⟩:=pkQ BK157 hg;obtain⟨NB180_213,NB213_180,hnb140,hnc140⟩:=pkQ BK180 hg;obtain⟨NB191_213,NB213_191,hnb141,hnc141⟩:=pkQ BK191 hg;obtain⟨NB202_213,NB213_202,hnb142,hnc142⟩:=pkQ BK202 hg;replace BK113:=pkK BK113 hb;replace BK124:=pkK BK124 hb;replace BK135:=pkK BK135 hb;replace BK146:=pkK BK146 hb;replace BK157:=pkK BK157 hb;replace BK180:=pkK BK180 hb;replace BK191:=pkK BK191 hb;replace BK202:=pkK BK202 hb;replace HB:=pkB HB hb;clear hb hbox hg;obtain⟨⟨hcz143_0,hcz143_1,hcz143_2⟩,hfz143_0,hfz143_1,hfz143_2⟩:=pk3 BK213))
    (try simp only[Act.put,List.setIfInBounds_toArray,List.set_cons_zero,List.set_cons_succ])
    go_cut [133] (fun v133 wc=>∃(kq:Nat) (x133_96:Bool),v133= .bool x133_96∧aA (aU.j1 kq x133_96=some r)∧aA (kq≤kj15)∧aA (wc.heap[gb113]? =some (.cells #[.bool t109,.string t110,.string t111] 36 (0,0)))∧aA (wc.heap[gb124]? =some (.cells #[.bool t120,.string t121,.string t122] 36 (0,0)))∧aA (wc.heap[gb135]? =some (.cells #[.bool t131,.string t132,.string t133] 36 (0,0)))∧aA (wc.heap[gb146]? =some (.cells #[.bool t142,.string t143,.string t144] 36 (0,0)))∧aA (wc.heap[gb157]? =some (.cells #[.bool t153,.string t154,.string t155] 36 (0,0)))∧aA (wc.heap[gb180]? =some (.cells #[.bool t176,.string t177,.string t178] 36 (0,0)))∧aA (wc.heap[gb191]? =some (.cells #[.bool t187,.string t188,.string t189] 36 (0,0)))∧aA (wc.heap[gb202]? =some (.cells #[.bool t198,.string t199,.string t200] 36 (0,0)))∧aA (wc.heap[gb213]? =some (.cells #[.bool t209,.string t210,.string t211] 36 (0,0)))∧aA (Below w.heap.size w wc))
    case first=>
     have H:=HC97.out;clear HC97
     by_cases c144:(wrap64 ((wrap64 ((wrap64 (t179+t190))+t201))+t212))=0
     ·rw[if_pos c144] at H
      have c144b0:((wrap64 ((wrap64 ((wrap64 (t179+t190))+t201))+t212))==0)=true:=beq_iff_eq.mpr c144;have c144b1:((wrap64 ((wrap64 ((wrap64 (t179+t190))+t201))+t212)) != 0)=false:=bne_eq_false_iff_eq.mpr c144;clear c144
      (first|rw[c144b0]|(simp only[dE,dM];rw[c144b0])|skip)
      obtain⟨⟨t214,t215,t216⟩,A145,H⟩:=bi H;have V214:aA (t214=false∧t215=(⟨#[51]⟩:ByteArray)∧t216=(⟨#[49]⟩:ByteArray)):=aA.mk (by have F:=A145.out.symm.trans aw214;simp only[Option.some.injEq,Prod.mk.injEq] at F;exact F);try dsimp only at H
      by_cases c146:(!(t176==t214)||(!(t177.toList==t215.toList)||(!(t178.toList==t216.toList))))=true
      ·exact absurd c146 (by(simp only[V176.out.1,V176.out.2.1,V176.out.2.2.1,V214.out.1,V214.out.2.1,V214.out.2.2]) <;> decide +kernel)
      ·rw[if_neg c146] at H
       have c146b0:(!(t176==t214)||(!(t177.toList==t215.toList)||(!(t178.toList==t216.toList))))=false:=by simpa using c146
       clear c146;obtain⟨⟨t217,t218,t219⟩,A150,H⟩:=bi H;have V217:aA (t217=false∧t218=(⟨#[49]⟩:ByteArray)∧t219=(⟨#[48]⟩:ByteArray)):=aA.mk (by have F:=A150.out.symm.trans aw217;simp only[Option.some.injEq,Prod.mk.injEq] at F;exact F);try dsimp only at H
       by_cases c151:(!(t187==t217)||(!(t188.toList==t218.toList)||(!(t189.toList==t219.toList))))=true
       ·exact absurd c151 (by(simp only[V187.out.1,V187.out.2.1,V187.out.2.2.1,V217.out.1,V217.out.2.1,V217.out.2.2]) <;> decide +kernel)
       ·rw[if_neg c151] at H
        have c151b0:(!(t187==t217)||(!(t188.toList==t218.toList)||(!(t189.toList==t219.toList))))=false:=by simpa using c151
        clear c151;obtain⟨⟨t220,t221,t222⟩,A156,H⟩:=bi H;have V220:aA (t220=false∧t221=(⟨#[48]⟩:ByteArray)∧t222=(⟨#[52]⟩:ByteArray)):=aA.mk (by have F:=A156.out.symm.trans aw220;simp only[Option.some.injEq,Prod.mk.injEq] at F;exact F);try dsimp only at H
        by_cases c157:(!(t198==t220)||(!(t199.toList==t221.toList)||(!(t200.toList==t222.toList))))=true
        ·exact absurd c157 (by(simp only[V198.out.1,V198.out.2.1,V198.out.2.2.1,V220.out.1,V220.out.2.1,V220.out.2.2]) <;> decide +kernel)
        ·rw[if_neg c157] at H
         have c157b0:(!(t198==t220)||(!(t199.toList==t221.toList)||(!(t200.toList==t222.toList))))=false:=by simpa using c157
         clear c157;obtain⟨⟨t223,t224,t225⟩,A163,H⟩:=bi H;have V223:aA (t223=false∧t224=(⟨#[52]⟩:ByteArray)∧t225=(⟨#[48]⟩:ByteArray)):=aA.mk (by have F:=A163.out.symm.trans aw223;simp only[Option.some.injEq,Prod.mk.injEq] at F;exact F);try dsimp only at H
         have H':=aA.mk H;clear H
         try go_wp2
         have n0_:aA ((((w134.setCell ⟨gb213,0,none⟩ (.bool t209)).setCell ⟨gb213,1,none⟩ (.string t210)).setCell ⟨gb213,2,none⟩ (.string t211)).heap[gb113]? =some (.cells #[.bool t109,.string t110,.string t111] 36 (0,0))):=⟨by(with_reducible repeat(first|refine bM ?_ _|refine aQ ?_|refine bK ?_ _));refine gU ?_ NB113_213.out _;(with_reducible repeat(first|refine bM ?_ _|refine aQ ?_|refine bK ?_ _));refine gU ?_ NB113_213.out _;(with_reducible repeat(first|refine bM ?_ _|refine aQ ?_|refine bK ?_ _));refine gU ?_ NB113_213.out _;(with_reducible repeat(first|refine bM ?_ _|refine aQ ?_|refine bK ?_ _));exact BK113.out⟩;have n1_:aA ((((w134.setCell ⟨gb213,0,none⟩ (.bool t209)).setCell ⟨gb213,1,none⟩ (.string t210)).setCell ⟨gb213,2,none⟩ (.string t211)).heap[gb124]? =some (.cells #[.bool t120,.string t121,.string t122] 36 (0,0))):=⟨by(with_reducible repeat(first|refine bM ?_ _|refine aQ ?_|refine bK ?_ _));refine gU ?_ NB124_213.out _;(with_reducible repeat(first|refine bM ?_ _|refine aQ ?_|refine bK ?_ _));refine gU ?_ NB124_213.out _;(with_reducible repeat(first|refine bM ?_ _|refine aQ ?_|refine bK ?_ _));refine gU ?_ NB124_213.out _;(with_reducible repeat(first|refine bM ?_ _|refine aQ ?_|refine bK ?_ _));exact BK124.out⟩;have n2_:aA ((((w134.setCell ⟨gb213,0,none⟩ (.bool t209)).setCell ⟨gb213,1,none⟩ (.string t210)).setCell ⟨gb213,2,none⟩ (.string t211)).heap[gb135]? =some (.cells #[.bool t131,.string t132,.string t133] 36 (0,0))):=⟨by(with_reducible repeat(first|refine bM ?_ _|refine aQ ?_|refine bK ?_ _));refine gU ?_ NB135_213.out _;(with_reducible repeat(first|refine bM ?_ _|refine aQ ?_|refine bK ?_ _));refine gU ?_ NB135_213.out _;(with_reducible repeat(first|refine bM ?_ _|refine aQ ?_|refine bK ?_ _));refine gU ?_ NB135_213.out _;(with_reducible repeat(first|refine bM ?_ _|refine aQ ?_|refine bK ?_ _));exact BK135.out⟩;have n3_:aA ((((w134.setCell ⟨gb213,0,none⟩ (.bool t209)).setCell ⟨gb213,1,none⟩ (.string t210)).setCell ⟨gb213,2,none⟩ (.string t211)).heap[gb146]? =some (.cells #[.bool t142,.string t143,.string t144] 36 (0,0))):=⟨by(with_reducible repeat(first|refine bM ?_ _|refine aQ ?_|refine bK ?_ _));refine gU ?_ NB146_213.out _;(with_reducible repeat(first|refine bM ?_ _|refine aQ ?_|refine bK ?_ _));refine gU ?_ NB146_213.out _;(with_reducible repeat(first|refine bM ?_ _|refine aQ ?_|refine bK ?_ _));refine gU ?_ NB146_213.out _;(with_reducible repeat(first|refine bM ?_ _|refine aQ ?_|refine bK ?_ _));exact BK146.out⟩;have n4_:aA ((((w134.setCell ⟨gb213,0,none⟩ (.bool t209)).setCell ⟨gb213,1,none⟩ (.string t210)).setCell ⟨gb213,2,none⟩ (.string t211)).heap[gb157]? =some (.cells #[.bool t153,.string t154,.string t155] 36 (0,0))):=⟨by(with_reducible repeat(first|refine bM ?_ _|refine aQ ?_|refine bK ?_ _));refine gU ?_ NB157_213.out _;(with_reducible repeat(first|refine bM ?_ _|refine aQ ?_|refine bK ?_ _));refine gU ?_ NB157_213.out _;(with_reducible repeat(first|refine bM ?_ _|refine aQ ?_|refine bK ?_ _));refine gU ?_ NB157_213.out _;(with_reducible repeat(first|refine bM ?_ _|refine aQ ?_|refine bK ?_ _));exact BK157.out⟩;have n5_:aA ((((w134.setCell ⟨gb213,0,none⟩ (.bool t209)).setCell ⟨gb213,1,none⟩ (.string t210)).setCell ⟨gb213,2,none⟩ (.string t211)).heap[gb180]? =some (.cells #[.bool t176,.string t177,.string t178] 36 (0,0))):=⟨by(with_reducible repeat(first|refine bM ?_ _|refine aQ ?_|refine bK ?_ _));refine gU ?_ NB180_213.out _;(with_reducible repeat(first|refine bM ?_ _|refine aQ ?_|refine bK ?_ _));refine gU ?_ NB180_213.out _;(with_reducible repeat(first|refine bM ?_ _|refine aQ ?_|refine bK ?_ _));refine gU ?_ NB180_213.out _;(with_reducible repeat(first|refine bM ?_ _|refine aQ ?_|refine bK ?_ _));exact BK180.out⟩;have n6_:aA ((((w134.setCell ⟨gb213,0,none⟩ (.bool t209)).setCell ⟨gb213,1,none⟩ (.string t210)).setCell ⟨gb213,2,none⟩ (.string t211)).heap[gb191]? =some (.cells #[.bool t187,.string t188,.string t189] 36 (0,0))):=⟨by(with_reducible repeat(first|refine bM ?_ _|refine aQ ?_|refine bK ?_ _));refine gU ?_ NB191_213.out _;(with_reducible repeat(first|refine bM ?_ _|refine aQ ?_|refine bK ?_ _));refine gU ?_ NB191_213.out _;(with_reducible repeat(first|refine bM ?_ _|refine aQ ?_|refine bK ?_ _));refine gU ?_ NB191_213.out _;(with_reducible repeat(first|refine bM ?_ _|refine aQ ?_|refine bK ?_ _));exact BK191.out⟩
         have n7_:aA ((((w134.setCell ⟨gb213,0,none⟩ (.bool t209)).setCell ⟨gb213,1,none⟩ (.string t210)).setCell ⟨gb213,2,none⟩ (.string t211)).heap[gb202]? =some (.cells #[.bool t198,.string t199,.string t200] 36 (0,0))):=⟨by(with_reducible repeat(first|refine bM ?_ _|refine aQ ?_|refine bK ?_ _));refine gU ?_ NB202_213.out _;(with_reducible repeat(first|refine bM ?_ _|refine aQ ?_|refine bK ?_ _));refine gU ?_ NB202_213.out _;(with_reducible repeat(first|refine bM ?_ _|refine aQ ?_|refine bK ?_ _));refine gU ?_ NB202_213.out _;(with_reducible repeat(first|refine bM ?_ _|refine aQ ?_|refine bK ?_ _));exact BK202.out⟩;have n8_:aA ((((w134.setCell ⟨gb213,0,none⟩ (.bool t209)).setCell ⟨gb213,1,none⟩ (.string t210)).setCell ⟨gb213,2,none⟩ (.string t211)).heap[gb213]? =some (.cells #[.bool t209,.string t210,.string t211] 36 (0,0))):=⟨by(with_reducible repeat(first|refine bM ?_ _|refine aQ ?_|refine bK ?_ _));refine gX (cs:=#[.bool t209,.string t210,.string (⟨#[]⟩:ByteArray)]) ?_ 2 _ rfl;(with_reducible repeat(first|refine bM ?_ _|refine aQ ?_|refine bK ?_ _));refine gX (cs:=#[.bool t209,.string (⟨#[]⟩:ByteArray),.string (⟨#[]⟩:ByteArray)]) ?_ 1 _ rfl;(with_reducible repeat(first|refine bM ?_ _|refine aQ ?_|refine bK ?_ _));refine gX (cs:=#[.bool false,.string (⟨#[]⟩:ByteArray),.string (⟨#[]⟩:ByteArray)]) ?_ 0 _ rfl;(with_reducible repeat(first|refine bM ?_ _|refine aQ ?_|refine bK ?_ _));exact BK213.out⟩;have n9_:aA (Below w.heap.size w (((w134.setCell ⟨gb213,0,none⟩ (.bool t209)).setCell ⟨gb213,1,none⟩ (.string t210)).setCell ⟨gb213,2,none⟩ (.string t211))):=⟨pkL HB⟩
         (try clear BK113)
         (try clear BK124)
         (try clear BK135)
         (try clear BK146)
         (try clear BK157)
         (try clear BK180)
         (try clear BK191)
         (try clear BK202)
         (try clear BK213)
         (try clear HB)
         generalize (((w134.setCell ⟨gb213,0,none⟩ (.bool t209)).setCell ⟨gb213,1,none⟩ (.string t210)).setCell ⟨gb213,2,none⟩ (.string t211))=w164 at n0_ n1_ n2_ n3_ n4_ n5_ n6_ n7_ n8_ n9_ ⊢;have BK113:=n0_;have BK124:=n1_;have BK135:=n2_;have BK146:=n3_;have BK157:=n4_;have BK180:=n5_;have BK191:=n6_;have BK202:=n7_;have BK213:=n8_;have HB:=n9_;clear n0_ n1_ n2_ n3_ n4_ n5_ n6_ n7_ n8_ n9_;replace BK113:=aA.mk (aQ BK113.out);replace BK124:=aA.mk (aQ BK124.out);replace BK135:=aA.mk (aQ BK135.out);replace BK146:=aA.mk (aQ BK146.out);replace BK157:=aA.mk (aQ BK157.out);replace BK180:=aA.mk (aQ BK180.out);replace BK191:=aA.mk (aQ BK191.out);replace BK202:=aA.mk (aQ BK202.out);replace BK213:=aA.mk (aQ BK213.out);replace HB:=aA.mk (bG HB.out)
         refine jY (n:=28) (S:=fun w'=>w'.cell? ⟨gb180,0,none⟩=some (.bool t176)∧w'.cell? ⟨gb180,1,none⟩=some (.string t177)∧w'.cell? ⟨gb180,2,none⟩=some (.string t178)∧w'.cell? ⟨gb191,0,none⟩=some (.bool t187)∧w'.cell? ⟨gb191,1,none⟩=some (.string t188)∧w'.cell? ⟨gb191,2,none⟩=some (.string t189)∧w'.cell? ⟨gb202,0,none⟩=some (.bool t198)∧w'.cell? ⟨gb202,1,none⟩=some (.string t199)∧w'.cell? ⟨gb202,2,none⟩=some (.string t200)∧w'.cell? ⟨gb213,0,none⟩=some (.bool t209)∧w'.cell? ⟨gb213,1,none⟩=some (.string t210)∧w'.cell? ⟨gb213,2,none⟩=some (.string t211)) (ds:= []) #[false,false,false,false,false,false,false,false,false,false,false,false,false,false,false,false,false,false,false,false,false,false,false,false,false,false,false,false] (by kernel_rfl) rfl rfl ⟨(aC BK180.out 0).trans rfl,(aC BK180.out 1).trans rfl,(aC BK180.out 2).trans rfl,(aC BK191.out 0).trans rfl,(aC BK191.out 1).trans rfl,(aC BK191.out 2).trans rfl,(aC BK202.out 0).trans rfl,(aC BK202.out 1).trans rfl,(aC BK202.out 2).trans rfl,(aC BK213.out 0).trans rfl,(aC BK213.out 1).trans rfl,(aC BK213.out 2).trans rfl⟩ (fun hHeld=> ?_);refine kP aU.tab12 aU.bits12 (fun HT_ HW_=> ?_)
         generalize w164.drew=w165 at BK113 BK124 BK135 BK146 BK157 BK180 BK191 BK202 BK213 HB hHeld ⊢;refine pr_ 0 106 (h:= ?_);refine pr_ 1 107 (h:= ?_);refine pr_ 2 108 (h:= ?_);refine pr_ 3 109 (h:= ?_);refine pr_ 4 110 (h:= ?_);refine pr_ 5 111 (h:= ?_);refine pr_ 6 112 (h:= ?_);refine pr_ 7 113 (h:= ?_);refine pr_ 8 114 (h:= ?_);refine tk_ 9 115 hHeld (hy:=by rintro w' ⟨s0,s1,s2,s3,s4,s5,s6,s7,s8,s9,s10,s11⟩;go_simp;with_reducible rfl) (h:= ?_);refine on_ 10 116 (h:=fun K hK=> ?_);refine g1_ Tryz.func98 #[.string (⟨#[51]⟩:ByteArray),.string (⟨#[49]⟩:ByteArray)] (h:= ?_);with_reducible refine(aH.calls (⟨#[51]⟩:ByteArray) (⟨#[49]⟩:ByteArray) t214 t215 t216 _ A145.out).mono ?_
         rintro e w166 ⟨rfl,hb⟩;refine⟨_,rfl,?_⟩;replace BK113:=pkK BK113 hb;replace BK124:=pkK BK124 hb;replace BK135:=pkK BK135 hb;replace BK146:=pkK BK146 hb;replace BK157:=pkK BK157 hb;replace BK180:=pkK BK180 hb;replace BK191:=pkK BK191 hb;replace BK202:=pkK BK202 hb;replace BK213:=pkK BK213 hb;replace HB:=pkB HB hb
         (try clear hb)
         (try clear hb2)
         (try clear hk)
         (try clear hi)
         refine hK.out _ _ ⟨(aC BK180.out 0).trans rfl,(aC BK180.out 1).trans rfl,(aC BK180.out 2).trans rfl,(aC BK191.out 0).trans rfl,(aC BK191.out 1).trans rfl,(aC BK191.out 2).trans rfl,(aC BK202.out 0).trans rfl,(aC BK202.out 1).trans rfl,(aC BK202.out 2).trans rfl,(aC BK213.out 0).trans rfl,(aC BK213.out 1).trans rfl,(aC BK213.out 2).trans rfl⟩ (fun hHeld=> ?_);clear hK K;refine gG (a':= ?_) ?_ ?_
         rotate_left
         ·show Act.put _ (some 116) _=_
          simp only[Act.put,List.setIfInBounds_toArray,List.set_cons_zero,List.set_cons_succ,dE,dM];rfl
         refine pr_ 11 117 (h:= ?_);refine pr_ 12 118 (h:= ?_);refine pr_ 13 119 (h:= ?_);refine tk_ 14 120 hHeld (hy:=by rintro w' ⟨s0,s1,s2,s3,s4,s5,s6,s7,s8,s9,s10,s11⟩;go_simp;with_reducible rfl) (h:= ?_);refine on_ 15 121 (h:=fun K hK=> ?_);refine g1_ Tryz.func99 #[] (h:= ?_);with_reducible refine(fB.calls t217 t218 t219 _ A150.out).mono ?_
         rintro e w167 ⟨rfl,hb⟩;refine⟨_,rfl,?_⟩;replace BK113:=pkK BK113 hb;replace BK124:=pkK BK124 hb;replace BK135:=pkK BK135 hb;replace BK146:=pkK BK146 hb;replace BK157:=pkK BK157 hb;replace BK180:=pkK BK180 hb;replace BK191:=pkK BK191 hb;replace BK202:=pkK BK202 hb;replace BK213:=pkK BK213 hb;replace HB:=pkB HB hb
         (try clear hb)
         (try clear hb2)
         (try clear hk)
         (try clear hi)
         refine hK.out _ _ ⟨(aC BK180.out 0).trans rfl,(aC BK180.out 1).trans rfl,(aC BK180.out 2).trans rfl,(aC BK191.out 0).trans rfl,(aC BK191.out 1).trans rfl,(aC BK191.out 2).trans rfl,(aC BK202.out 0).trans rfl,(aC BK202.out 1).trans rfl,(aC BK202.out 2).trans rfl,(aC BK213.out 0).trans rfl,(aC BK213.out 1).trans rfl,(aC BK213.out 2).trans rfl⟩ (fun hHeld=> ?_);clear hK K;refine gG (a':= ?_) ?_ ?_
         rotate_left
         ·show Act.put _ (some 121) _=_
          simp only[Act.put,List.setIfInBounds_toArray,List.set_cons_zero,List.set_cons_succ,dE,dM];rfl
         refine pr_ 16 122 (h:= ?_);refine pr_ 17 123 (h:= ?_);refine pr_ 18 124 (h:= ?_);refine tk_ 19 125 hHeld (hy:=by rintro w' ⟨s0,s1,s2,s3,s4,s5,s6,s7,s8,s9,s10,s11⟩;go_simp;with_reducible rfl) (h:= ?_);refine on_ 20 126 (h:=fun K hK=> ?_);refine g1_ Tryz.func98 #[.string (⟨#[48]⟩:ByteArray),.string (⟨#[52]⟩:ByteArray)] (h:= ?_);with_reducible refine(aH.calls (⟨#[48]⟩:ByteArray) (⟨#[52]⟩:ByteArray) t220 t221 t222 _ A156.out).mono ?_
         rintro e w168 ⟨rfl,hb⟩;refine⟨_,rfl,?_⟩;replace BK113:=pkK BK113 hb;replace BK124:=pkK BK124 hb;replace BK135:=pkK BK135 hb;replace BK146:=pkK BK146 hb;replace BK157:=pkK BK157 hb;replace BK180:=pkK BK180 hb;replace BK191:=pkK BK191 hb;replace BK202:=pkK BK202 hb;replace BK213:=pkK BK213 hb;replace HB:=pkB HB hb
         (try clear hb)
         (try clear hb2)
         (try clear hk)
         (try clear hi)
         refine hK.out _ _ ⟨(aC BK180.out 0).trans rfl,(aC BK180.out 1).trans rfl,(aC BK180.out 2).trans rfl,(aC BK191.out 0).trans rfl,(aC BK191.out 1).trans rfl,(aC BK191.out 2).trans rfl,(aC BK202.out 0).trans rfl,(aC BK202.out 1).trans rfl,(aC BK202.out 2).trans rfl,(aC BK213.out 0).trans rfl,(aC BK213.out 1).trans rfl,(aC BK213.out 2).trans rfl⟩ (fun hHeld=> ?_);clear hK K;refine gG (a':= ?_) ?_ ?_
         rotate_left
         ·show Act.put _ (some 126) _=_
          simp only[Act.put,List.setIfInBounds_toArray,List.set_cons_zero,List.set_cons_succ,dE,dM];rfl
         refine pr_ 21 127 (h:= ?_);refine pr_ 22 128 (h:= ?_);refine pr_ 23 129 (h:= ?_);refine tk_ 24 130 hHeld (hy:=by rintro w' ⟨s0,s1,s2,s3,s4,s5,s6,s7,s8,s9,s10,s11⟩;go_simp;with_reducible rfl) (h:= ?_);refine on_ 25 131 (h:=fun K hK=> ?_);refine g1_ Tryz.func98 #[.string (⟨#[52]⟩:ByteArray),.string (⟨#[48]⟩:ByteArray)] (h:= ?_);with_reducible refine(aH.calls (⟨#[52]⟩:ByteArray) (⟨#[48]⟩:ByteArray) t223 t224 t225 _ A163.out).mono ?_
         rintro e w169 ⟨rfl,hb⟩;refine⟨_,rfl,?_⟩;replace BK113:=pkK BK113 hb;replace BK124:=pkK BK124 hb;replace BK135:=pkK BK135 hb;replace BK146:=pkK BK146 hb;replace BK157:=pkK BK157 hb;replace BK180:=pkK BK180 hb;replace BK191:=pkK BK191 hb;replace BK202:=pkK BK202 hb;replace BK213:=pkK BK213 hb;replace HB:=pkB HB hb
         (try clear hb)
         (try clear hb2)
         (try clear hk)
         (try clear hi)
         refine hK.out _ _ ⟨(aC BK180.out 0).trans rfl,(aC BK180.out 1).trans rfl,(aC BK180.out 2).trans rfl,(aC BK191.out 0).trans rfl,(aC BK191.out 1).trans rfl,(aC BK191.out 2).trans rfl,(aC BK202.out 0).trans rfl,(aC BK202.out 1).trans rfl,(aC BK202.out 2).trans rfl,(aC BK213.out 0).trans rfl,(aC BK213.out 1).trans rfl,(aC BK213.out 2).trans rfl⟩ (fun hHeld=> ?_);clear hK K;refine gG (a':= ?_) ?_ ?_
         rotate_left
         ·show Act.put _ (some 131) _=_
          simp only[Act.put,List.setIfInBounds_toArray,List.set_cons_zero,List.set_cons_succ,dE,dM];rfl
         refine pr_ 26 132 (h:= ?_);refine pr_ 27 133 (h:= ?_);refine kT (mG HT_.out (by kernel_rfl)) ?_
         try go_wp2
         go_meet
         case rel=>exact⟨_,((!(t209==t223)||(!(t210.toList==t224.toList)||(!(t211.toList==t225.toList))))),aCs,H',⟨by have:=HJ15.out;first|omega|exact Nat.le_refl _⟩,⟨pkW BK113⟩,⟨pkW BK124⟩,⟨pkW BK135⟩,⟨pkW BK146⟩,⟨pkW BK157⟩,⟨pkW BK180⟩,⟨pkW BK191⟩,⟨pkW BK202⟩,⟨pkW BK213⟩,⟨pkL HB⟩⟩
     ·exact absurd (by(simp only[V176.out.2.2.2,V187.out.2.2.2,V198.out.2.2.2,V209.out.2.2.2]) <;> decide +kernel) c144
    case rest=>
     clear HC97;try clear c144
     try clear c144b0
     try clear c144b1
     obtain⟨kq,x133_96,rfl,HA,HJ96,BK113,BK124,BK135,BK146,BK157,BK180,BK191,BK202,BK213,HB⟩:=hcut
     cases kq with
     |zero=>exact absurd HA.out (by simp[aU.j1])
     |succ kj96=>
      have H:=HA.out;clear HA;simp only[aU.j1] at H
      by_cases c172:x133_96=true
      ·have hj:=H;rw[if_pos c172] at hj;have hj2:=Option.some.inj hj;rw[hrT] at hj2;exact absurd hj2 aCr
      ·replace c172:=Bool.eq_false_iff.mpr c172
       subst c172;rw[if_neg (show ¬(false=true) by decide)] at H;obtain⟨⟨t226,t227,t228⟩,A173,H⟩:=bi H;have V226:aA (t226=false∧t227=(⟨#[54]⟩:ByteArray)∧t228=(⟨#[50]⟩:ByteArray)):=aA.mk (by have F:=A173.out.symm.trans aw226;simp only[Option.some.injEq,Prod.mk.injEq] at F;exact F);try dsimp only at H
       obtain⟨⟨t229,t230⟩,A174,H⟩:=bi H;have V229:aA (t229=(⟨#[45,52]⟩:ByteArray)∧t230=0):=aA.mk (by have E:=A174.out;simp only[V226.out.1,V226.out.2.1,V226.out.2.2] at E;have F:=E.symm.trans aw229;simp only[Option.some.injEq,Prod.mk.injEq] at F;exact F);try dsimp only at H
       obtain⟨⟨t231,t232,t233⟩,A175,H⟩:=bi H;have V231:aA (t231=false∧t232=(⟨#[54]⟩:ByteArray)∧t233=(⟨#[50]⟩:ByteArray)):=aA.mk (by have F:=A175.out.symm.trans aw231;simp only[Option.some.injEq,Prod.mk.injEq] at F;exact F);try dsimp only at H
       obtain⟨⟨t234,t235⟩,A176,H⟩:=bi H;have V234:aA (t234=(⟨#[45,52]⟩:ByteArray)∧t235=0):=aA.mk (by have E:=A176.out;simp only[V231.out.1,V231.out.2.1,V231.out.2.2] at E;have F:=E.symm.trans aw234;simp only[Option.some.injEq,Prod.mk.injEq] at F;exact F);try dsimp only at H
       by_cases c177:t230=0
       ·rw[if_pos c177] at H
        have c177b0:(t230==0)=true:=beq_iff_eq.mpr c177;have c177b1:(t230 != 0)=false:=bne_eq_false_iff_eq.mpr c177;clear c177
        by_cases c178:t235=0
        ·rw[if_pos c178] at H
         have c178b0:(t235==0)=true:=beq_iff_eq.mpr c178;have c178b1:(t235 != 0)=false:=bne_eq_false_iff_eq.mpr c178;clear c178
         by_cases c179:t229.toList=([45,52]:List UInt8)
         ·rw[if_pos c179] at H
          have c179b0:(t229.toList==([45,52]:List UInt8))=true:=beq_iff_eq.mpr c179;have c179b1:(t229.toList != ([45,52]:List UInt8))=false:=bne_eq_false_iff_eq.mpr c179;clear c179
          by_cases c180:t234.toList=([45,52]:List UInt8)
          ·rw[if_pos c180] at H
           have c180b0:(t234.toList==([45,52]:List UInt8))=true:=beq_iff_eq.mpr c180;have c180b1:(t234.toList != ([45,52]:List UInt8))=false:=bne_eq_false_iff_eq.mpr c180;clear c180;obtain⟨⟨t236,t237,t238⟩,A181,H⟩:=bi H;have V236:aA (t236=false∧t237=(⟨#[49]⟩:ByteArray)∧t238=(⟨#[48]⟩:ByteArray)):=aA.mk (by have F:=A181.out.symm.trans aw236;simp only[Option.some.injEq,Prod.mk.injEq] at F;exact F);try dsimp only at H
           obtain⟨⟨t239,t240,t241⟩,A182,H⟩:=bi H;have V239:aA (t239=false∧t240=(⟨#[49]⟩:ByteArray)∧t241=(⟨#[48]⟩:ByteArray)):=aA.mk (by have F:=A182.out.symm.trans aw239;simp only[Option.some.injEq,Prod.mk.injEq] at F;exact F);try dsimp only at H
           obtain rfl:=Option.some.inj H
           go_wp2_with(first|((with_reducible refine aG (f:=98) rfl ?_);refine gl_ 135 Tryz.func98 #[.string (⟨#[54]⟩:ByteArray),.string (⟨#[50]⟩:ByteArray)] (h:= ?_);(with_reducible refine(aH.calls (⟨#[54]⟩:ByteArray) (⟨#[50]⟩:ByteArray) t226 t227 t228 _ A173.out).mono ?_);rintro e w183 ⟨rfl,hb⟩;refine⟨_,rfl,?_⟩;replace BK113:=pkK BK113 hb;replace BK124:=pkK BK124 hb;replace BK135:=pkK BK135 hb;replace BK146:=pkK BK146 hb;replace BK157:=pkK BK157 hb;replace BK180:=pkK BK180 hb;replace BK191:=pkK BK191 hb;replace BK202:=pkK BK202 hb;replace BK213:=pkK BK213 hb;replace HB:=pkB HB hb;try clear hb)|((with_reducible refine aG (f:=62) rfl ?_);refine gl_ 136 Tryz.func62 #[.agg #[.bool t226,.string t227,.string t228],.string (⟨#[45,53]⟩:ByteArray)] (h:= ?_);(with_reducible refine(rV.calls (hG:=HG.out.below (pkL HB)) t226 t227 t228 (⟨#[45,53]⟩:ByteArray) t229 t230 _ A174.out).mono ?_);rintro e w184 ⟨rfl,hb⟩;refine⟨_,rfl,?_⟩;replace BK113:=pkK BK113 hb;replace BK124:=pkK BK124 hb;replace BK135:=pkK BK135 hb;replace BK146:=pkK BK146 hb;replace BK157:=pkK BK157 hb;replace BK180:=pkK BK180 hb;replace BK191:=pkK BK191 hb;replace BK202:=pkK BK202 hb;replace BK213:=pkK BK213 hb;replace HB:=pkB HB hb;try clear hb)|((with_reducible refine aG (f:=98) rfl ?_);refine gl_ 140 Tryz.func98 #[.string (⟨#[54]⟩:ByteArray),.string (⟨#[50]⟩:ByteArray)] (h:= ?_);(with_reducible refine(aH.calls (⟨#[54]⟩:ByteArray) (⟨#[50]⟩:ByteArray) t231 t232 t233 _ A175.out).mono ?_);rintro e w185 ⟨rfl,hb⟩;refine⟨_,rfl,?_⟩;replace BK113:=pkK BK113 hb;replace BK124:=pkK BK124 hb;replace BK135:=pkK BK135 hb;replace BK146:=pkK BK146 hb;replace BK157:=pkK BK157 hb;replace BK180:=pkK BK180 hb;replace BK191:=pkK BK191 hb;replace BK202:=pkK BK202 hb;replace BK213:=pkK BK213 hb;replace HB:=pkB HB hb;try clear hb)|((with_reducible refine aG (f:=64) rfl ?_);refine gl_ 141 Tryz.func64 #[.agg #[.bool t231,.string t232,.string t233],.string (⟨#[49]⟩:ByteArray)] (h:= ?_);(with_reducible refine(nH.calls (hG:=HG.out.below (pkL HB)) t231 t232 t233 (⟨#[49]⟩:ByteArray) t234 t235 _ A176.out).mono ?_);rintro e w186 ⟨rfl,hb⟩;refine⟨_,rfl,?_⟩;replace BK113:=pkK BK113 hb;replace BK124:=pkK BK124 hb;replace BK135:=pkK BK135 hb;replace BK146:=pkK BK146 hb;replace BK157:=pkK BK157 hb;replace BK180:=pkK BK180 hb;replace BK191:=pkK BK191 hb;replace BK202:=pkK BK202 hb;replace BK213:=pkK BK213 hb;replace HB:=pkB HB hb;try clear hb)|(go_at_call 99;(with_reducible refine(fB.calls t236 t237 t238 _ A181.out).mono ?_);rintro e w187 ⟨rfl,hb⟩;replace BK113:=pkK BK113 hb;replace BK124:=pkK BK124 hb;replace BK135:=pkK BK135 hb;replace BK146:=pkK BK146 hb;replace BK157:=pkK BK157 hb;replace BK180:=pkK BK180 hb;replace BK191:=pkK BK191 hb;replace BK202:=pkK BK202 hb;replace BK213:=pkK BK213 hb;replace HB:=pkB HB hb;try clear hb)|(go_at_call 98;(with_reducible refine(aH.calls (⟨#[49]⟩:ByteArray) (⟨#[48]⟩:ByteArray) t239 t240 t241 _ A182.out).mono ?_);rintro e w188 ⟨rfl,hb⟩;replace BK113:=pkK BK113 hb;replace BK124:=pkK BK124 hb;replace BK135:=pkK BK135 hb;replace BK146:=pkK BK146 hb;replace BK157:=pkK BK157 hb;replace BK180:=pkK BK180 hb;replace BK191:=pkK BK191 hb;replace BK202:=pkK BK202 hb;replace BK213:=pkK BK213 hb;replace HB:=pkB HB hb;try clear hb))
           go_ret
           exact pkE HB
          ·exact absurd (by(simp only[V234.out.1]) <;> decide +kernel) c180
         ·exact absurd (by(simp only[V229.out.1]) <;> decide +kernel) c179
        ·exact absurd (by(simp only[V234.out.2]) <;> decide +kernel) c178
       ·exact absurd (by(simp only[V229.out.2]) <;> decide +kernel) c177
theorem awake_f:aU.f 2=some true:=by decide +kernel
end Go.Proofs.YtignanmmgaldeaaGreatDoor.PCongW
namespace Go.Proofs.YtignanmmgaldeaaGreatDoor
open Go.RowKit Go.Proofs.YtignanmmgaldeaaGreatDoor.PCongW Go.Proofs.YtignanmmgaldeaaGreatDoorW.PrintWords
def dP.f:Option Bool:=some true
theorem dP.calls(r0:Bool)(w:World)(hG:GW w)(h:dP.f=some r0) :
 Calls Tryz.prog 35 #[] w fun e w'=>e= .returned (.bool r0)∧Below w.heap.size w w':=by
 cases h
 exact aU.calls 2 true w hG awake_f rfl
theorem jC:dP.f=some true:=rfl
end Go.Proofs.YtignanmmgaldeaaGreatDoor
end
section
set_option linter.unusedVariables false
set_option linter.unusedSimpArgs false
namespace Go.Proofs.YtignanmmgaldeaaGreatDoor.PLawB
open Go.RowKit Go.Proofs.YtignanmmgaldeaaGreatDoorW.PrintWords Go.Proofs.YtignanmmgaldeaaGreatDoorW.PrintLast Go.Proofs.YtignanmmgaldeaaGreatDoorW.PrintMore
attribute [local go_sem] gI gJ iE iF
def errW:Option Int→Value
 |none=> .nilIface
 |some c=> .iface 0 (.int .i64 c)
theorem dW:errW none= .nilIface:=rfl
theorem dX(c:Int):errW (some c)= .iface 0 (.int .i64 c):=rfl
structure S36 where
 f0:Bool
 f1:ByteArray
 f2:ByteArray
def z36:S36:=⟨false,(⟨#[]⟩:ByteArray),(⟨#[]⟩:ByteArray)⟩
def k36:Kd S36:=Kd.iso (Kd.pair Kd.bool (Kd.pair Kd.string Kd.string)) (fun x:S36=>(x.f0,x.f1,x.f2))
theorem k36_open{w:World}{x:S36}{cs:List Value}(h:k36.K w x cs):cs= [.bool x.f0,.string x.f1,.string x.f2]:=by
 obtain⟨_,_,rfl,rfl,⟨_,_,rfl,rfl,rfl⟩⟩:=h;exact rfl
theorem iO(w:World)(base:Nat)(ok:Nat→Prop)(x:S36):k36.M w base ok x [.bool x.f0,.string x.f1,.string x.f2]:=⟨[.bool x.f0],[.string x.f1,.string x.f2],rfl,rfl,⟨[.string x.f1],[.string x.f2],rfl,rfl,rfl⟩⟩
def fF(xs:List S36)(i:Int):S36:=xs.getD i.toNat z36
theorem at_T36{w:World}{A:Option Addr}{n:Nat}{xs:List S36}(h:Kd.C k36 w A n xs)(i:Int)(h0:0≤i)(h1:i<n):∃ad,A=some ad∧w.cell? (ad.add (i.toNat*3))=some (.bool (fF xs i).f0)∧w.cell? ⟨(ad.add (i.toNat*3)).block,(ad.add (i.toNat*3)).off+1,none⟩=some (.string (fF xs i).f1)∧w.cell? ⟨(ad.add (i.toNat*3)).block,(ad.add (i.toNat*3)).off+2,none⟩=some (.string (fF xs i).f2):=by
 obtain⟨ad,c,e,_,hK,hc0⟩:=Kd.C_get h z36 i h0 h1;have hc:∀j u,c[j]? =some u→w.cell? (ad.add (i.toNat*3+j))=some u:=hc0
 obtain rfl:=k36_open hK;exact⟨ad,e,hc 0 _ rfl,by rw[←add_field _ _ 1 aCo];exact hc 1 _ rfl,by rw[←add_field _ _ 2 aCo];exact hc 2 _ rfl⟩
end Go.Proofs.YtignanmmgaldeaaGreatDoor.PLawB
end
section
set_option linter.unusedVariables false
set_option linter.unusedSimpArgs false
set_option maxHeartbeats 8000000
set_option maxRecDepth 100000
namespace Go.Proofs.YtignanmmgaldeaaGreatDoor.PLawB
open Go.RowKit Go.Proofs.YtignanmmgaldeaaGreatDoorW.PrintWords Go.Proofs.YtignanmmgaldeaaGreatDoorW.PrintLast Go.Proofs.YtignanmmgaldeaaGreatDoorW.PrintMore
attribute [local go_sem] gI gJ iE iF
def fH.f(a0:ByteArray):Option (Bool):=some (decide ((a0.size:Int)≤250))
theorem fH.calls(a0:ByteArray)(r:Bool)(w:World)(h:fH.f a0=some r) :
 Calls Tryz.prog 71 #[.string a0] w fun e w'=>e= .returned (.bool r)∧aZ w w':=by
 have H:(some (decide ((a0.size:Int)≤250)))=some r:=h;clear h;obtain rfl:=Option.some.inj H;go_enter Tryz.func71,Tryz.ntmps71
 go_wp2
 go_ret
 exact⟨by first|rfl|(simp;done)|(simp[*];done),by repeat(first|exact aZ.refl _|apply aZ.step)⟩
def kH.f(a0_0:Bool)(a0_1:ByteArray)(a0_2:ByteArray):Option (Bool):=(fH.f a0_1).bind fun t102=>(if t102=true then((fH.f a0_2).bind fun t103=>(some t103)) else(some false))
theorem kH.calls(a0_0:Bool)(a0_1:ByteArray)(a0_2:ByteArray)(r:Bool)(w:World)(h:kH.f a0_0 a0_1 a0_2=some r) :
 Calls Tryz.prog 97 #[.agg #[.bool a0_0,.string a0_1,.string a0_2]] w fun e w'=>e= .returned (.bool r)∧Below w.heap.size w w':=by
 have hu36:=Tryz.underlying36;have HB:=aA.mk (Below.refl w.heap.size w);have H:((fH.f a0_1).bind fun t102=>(if t102=true then((fH.f a0_2).bind fun t103=>(some t103)) else(some false)))=some r:=h;clear h;obtain⟨t102,A2,H⟩:=bi H;try dsimp only at H
 by_cases c3:t102=true
 ·subst c3
  rw[if_pos rfl] at H;obtain⟨t103,A4,H⟩:=bi H;try dsimp only at H
  obtain rfl:=Option.some.inj H;go_enter Tryz.func97,Tryz.ntmps97
  go_wp2_with(first|((with_reducible refine aJ (N:=1) rfl ?_);refine bx_ 1 36 #[.bool a0_0,.string a0_1,.string a0_2] (h:= ?_);intro gb101 hg w5 hbox hb;have BK101:=aA.mk (hbox);have GW101:=pkG HB hg;have GE101:=GW101;replace HB:=pkB HB hb;clear hb hbox hg;obtain⟨⟨hcz6_0,hcz6_1,hcz6_2⟩,hfz6_0,hfz6_1,hfz6_2⟩:=pk3 BK101)|((with_reducible refine aG (f:=71) rfl ?_);refine gl_ 5 Tryz.func71 #[.string a0_1] (h:= ?_);(with_reducible refine(fH.calls a0_1 true _ A2.out).mono ?_);rintro e w' ⟨rfl,⟨nd,rfl⟩⟩;refine⟨_,rfl,?_⟩)|(go_at_call 71;(with_reducible refine(fH.calls a0_2 t103 _ A4.out).mono ?_);rintro e w' ⟨rfl,⟨nd,rfl⟩⟩))
  go_ret
  exact pkE HB
 ·replace c3:=Bool.eq_false_iff.mpr c3
  subst c3;rw[if_neg (show ¬(false=true) by decide)] at H;obtain rfl:=Option.some.inj H;go_enter Tryz.func97,Tryz.ntmps97
  go_wp2_with(first|((with_reducible refine aJ (N:=1) rfl ?_);refine bx_ 1 36 #[.bool a0_0,.string a0_1,.string a0_2] (h:= ?_);intro gb101 hg w7 hbox hb;have BK101:=aA.mk (hbox);have GW101:=pkG HB hg;have GE101:=GW101;replace HB:=pkB HB hb;clear hb hbox hg;obtain⟨⟨hcz8_0,hcz8_1,hcz8_2⟩,hfz8_0,hfz8_1,hfz8_2⟩:=pk3 BK101)|((with_reducible refine aG (f:=71) rfl ?_);refine gl_ 5 Tryz.func71 #[.string a0_1] (h:= ?_);(with_reducible refine(fH.calls a0_1 false _ A2.out).mono ?_);rintro e w' ⟨rfl,⟨nd,rfl⟩⟩;refine⟨_,rfl,?_⟩))
  go_ret
  exact pkE HB
mutual
def dN.l0:Nat→List ByteArray→List (S36)→Int→Int→Option (Bool)
 |0,_,_,_,_=>none
 |k+1,x1,x9,x10,x11=>if x11<x10 then(if 0≤x11 then(if x11<(x9.length:Int) then((kH.f ((fF x9 x11).f0) ((fF x9 x11).f1) ((fF x9 x11).f2)).bind fun t106=>(if t106=true then(dN.l0 k x1 x9 x10 (wrap64 (x11+1))) else(some false))) else(none)) else(none)) else(dN.l1 k x1 (x1.length:Int) 0)
def dN.l1:Nat→List ByteArray→Int→Int→Option (Bool)
 |0,_,_,_=>none
 |k+1,x19,x20,x21=>if x21<x20 then(if 0≤x21 then(if x21<(x19.length:Int) then((fH.f (rdOf ByteArray.empty x19 x21)).bind fun t108=>(if t108=true then(dN.l1 k x19 x20 (wrap64 (x21+1))) else(some false))) else(none)) else(none)) else(some true)
end
def dN.f(k:Nat)(l0:List (S36))(l1:List ByteArray):Option (Bool):=dN.l0 k l1 l0 (l0.length:Int) 0
theorem dN.calls(k:Nat)(A0:Option Addr)(c0:Nat)(l0:List (S36))(A1:Option Addr)(c1:Nat)(l1:List ByteArray)(r:Bool)(w:World)(hr0:Kd.C k36 w A0 l0.length l0)(hc0:l0.length≤c0)(hr1:Kd.C Kd.string w A1 l1.length l1)(hc1:l1.length≤c1)(h:dN.f k l0 l1=some r) :
 Calls Tryz.prog 34 #[.slice A0 l0.length c0,.slice A1 l1.length c1] w fun e w'=>e= .returned (.bool r)∧Below w.heap.size w w':=by
 have hu36:=Tryz.underlying36;have HR0:=aA.mk hr0;have HC0:=aA.mk hc0;clear hr0 hc0;have HR1:=aA.mk hr1;have HC1:=aA.mk hc1;clear hr1 hc1;have HB:=aA.mk (Below.refl w.heap.size w);have H:(dN.l0 k l1 l0 (l0.length:Int) 0)=some r:=h;clear h;have H':=aA.mk H;clear H;go_enter Tryz.func34,Tryz.ntmps34
 go_wp2
 go_loopg [11] k (fun kq v11 w'=>∃(x11_1:Int),v11= .int .i64 x11_1∧aA (dN.l0 kq l1 l0 (l0.length:Int) x11_1=some r)∧aA (kq≤k)∧aA (Below w.heap.size w w'))
 case atStart=>exact⟨(0),aCs,H',⟨Nat.le_refl _⟩,⟨pkL HB⟩⟩
 case round=>
  clear H';try clear c1
  obtain⟨x11_1,rfl,HA,HK1,HB⟩:=hrel
  cases gk with
  |zero=>exact absurd HA.out (by simp[dN.l0])
  |succ k1=>
   have H:=HA.out;clear HA;simp only[dN.l0] at H
   by_cases c3:x11_1<(l0.length:Int)
   ·rw[if_pos c3] at H
    have c3b0:decide (x11_1<(l0.length:Int))=true:=decide_eq_true c3;clear c3
    by_cases c4:0≤x11_1
    ·rw[if_pos c4] at H
     have c4b0:decide (0≤x11_1)=true:=decide_eq_true c4;clear c4
     by_cases c5:x11_1<(l0.length:Int)
     ·rw[if_pos c5] at H
      have c5b0:decide (x11_1<(l0.length:Int))=true:=decide_eq_true c5;clear c5;obtain⟨t106,A6,H⟩:=bi H;try dsimp only at H
      by_cases c7:t106=true
      ·subst c7
       rw[if_pos rfl] at H;have H':=aA.mk H;clear H;have p104:0≤(x11_1:Int):=of_decide_eq_true (by first|(with_reducible assumption)|assumption);have q104:x11_1<(l0.length:Int):=of_decide_eq_true (by first|(with_reducible assumption)|assumption);obtain⟨ad104,e104,hx104_0,hx104_1,hx104_2⟩:=at_T36 HR0.out x11_1 p104 q104
       cases e104
       replace hx104_0:=(HB.out.cell (World.block_lt_of_cell? w _ hx104_0)).trans hx104_0;replace hx104_1:=(HB.out.cell (World.block_lt_of_cell? w _ hx104_1)).trans hx104_1;replace hx104_2:=(HB.out.cell (World.block_lt_of_cell? w _ hx104_2)).trans hx104_2;replace p104:=eq_true p104;replace q104:=eq_true q104
       go_wp2_with(first|((with_reducible refine aJ (N:=6) rfl ?_);refine bx_ 6 36 #[.bool false,.string (⟨#[]⟩:ByteArray),.string (⟨#[]⟩:ByteArray)] (h:= ?_);intro gb105 hg w8 hbox hb;have BK105:=aA.mk (hbox);have GW105:=pkG HB hg;have GE105:=GW105;replace HB:=pkB HB hb;clear hb hbox hg;obtain⟨⟨hcz9_0,hcz9_1,hcz9_2⟩,hfz9_0,hfz9_1,hfz9_2⟩:=pk3 BK105)|((with_reducible refine aG (f:=97) rfl ?_);refine gl_ 16 Tryz.func97 #[.agg #[.bool ((fF l0 x11_1).f0),.string ((fF l0 x11_1).f1),.string ((fF l0 x11_1).f2)]] (h:= ?_);(with_reducible refine(kH.calls ((fF l0 x11_1).f0) ((fF l0 x11_1).f1) ((fF l0 x11_1).f2) true _ A6.out).mono ?_);rintro e w10 ⟨rfl,hb⟩;refine⟨_,rfl,?_⟩;replace BK105:=aA.mk (dF (g:=gb105) (o:= .cells #[.bool ((fF l0 x11_1).f0),.string ((fF l0 x11_1).f1),.string ((fF l0 x11_1).f2)] 36 (0,0)) (pkS3 BK105) hb);replace HB:=pkB HB hb;try clear hb))
       go_roundg k1
       case measure=>have:=HK1.out;omega
       case rel=>exact⟨(wrap64 (x11_1+1)),aCs,H',⟨by have:=HK1.out;omega⟩,⟨pkL HB⟩⟩
      ·replace c7:=Bool.eq_false_iff.mpr c7
       subst c7;rw[if_neg (show ¬(false=true) by decide)] at H;obtain rfl:=Option.some.inj H;have p104:0≤(x11_1:Int):=of_decide_eq_true (by first|(with_reducible assumption)|assumption);have q104:x11_1<(l0.length:Int):=of_decide_eq_true (by first|(with_reducible assumption)|assumption);obtain⟨ad104,e104,hx104_0,hx104_1,hx104_2⟩:=at_T36 HR0.out x11_1 p104 q104
       cases e104
       replace hx104_0:=(HB.out.cell (World.block_lt_of_cell? w _ hx104_0)).trans hx104_0;replace hx104_1:=(HB.out.cell (World.block_lt_of_cell? w _ hx104_1)).trans hx104_1;replace hx104_2:=(HB.out.cell (World.block_lt_of_cell? w _ hx104_2)).trans hx104_2;replace p104:=eq_true p104;replace q104:=eq_true q104
       go_wp2_with(first|((with_reducible refine aJ (N:=6) rfl ?_);refine bx_ 6 36 #[.bool false,.string (⟨#[]⟩:ByteArray),.string (⟨#[]⟩:ByteArray)] (h:= ?_);intro gb105 hg w11 hbox hb;have BK105:=aA.mk (hbox);have GW105:=pkG HB hg;have GE105:=GW105;replace HB:=pkB HB hb;clear hb hbox hg;obtain⟨⟨hcz12_0,hcz12_1,hcz12_2⟩,hfz12_0,hfz12_1,hfz12_2⟩:=pk3 BK105)|((with_reducible refine aG (f:=97) rfl ?_);refine gl_ 16 Tryz.func97 #[.agg #[.bool ((fF l0 x11_1).f0),.string ((fF l0 x11_1).f1),.string ((fF l0 x11_1).f2)]] (h:= ?_);(with_reducible refine(kH.calls ((fF l0 x11_1).f0) ((fF l0 x11_1).f1) ((fF l0 x11_1).f2) false _ A6.out).mono ?_);rintro e w13 ⟨rfl,hb⟩;refine⟨_,rfl,?_⟩;replace BK105:=aA.mk (dF (g:=gb105) (o:= .cells #[.bool ((fF l0 x11_1).f0),.string ((fF l0 x11_1).f1),.string ((fF l0 x11_1).f2)] 36 (0,0)) (pkS3 BK105) hb);replace HB:=pkB HB hb;try clear hb))
       go_ret
       exact pkE HB
     ·rw[if_neg c5] at H
      exact absurd H aCq
    ·rw[if_neg c4] at H
     exact absurd H aCq
   ·rw[if_neg c3] at H
    have c3b0:decide (x11_1<(l0.length:Int))=false:=decide_eq_false c3;clear c3;have H':=aA.mk H;clear H;go_wp2
    go_loopg [21] k1 (fun kq v21 w'=>∃(x21_2:Int),v21= .int .i64 x21_2∧aA (dN.l1 kq l1 (l1.length:Int) x21_2=some r)∧aA (kq≤k1)∧aA (Below w.heap.size w w'))
    case atStart=>exact⟨(0),aCs,H',⟨Nat.le_refl _⟩,⟨pkL HB⟩⟩
    case round=>
     clear H';try clear c1
     try clear c3
     try clear c3b0
     try clear c4
     try clear c4b0
     try clear c5
     try clear c5b0
     try clear c7
     try clear hcz12_0
     try clear hcz12_1
     try clear hcz12_2
     try clear hcz9_0
     try clear hcz9_1
     try clear hcz9_2
     try clear hfz12_0
     try clear hfz12_1
     try clear hfz12_2
     try clear hfz9_0
     try clear hfz9_1
     try clear hfz9_2
     try clear hx104_0
     try clear hx104_1
     try clear hx104_2
     try clear p104
     try clear q104
     obtain⟨x21_2,rfl,HA,HK2,HB⟩:=hrel
     cases gk with
     |zero=>exact absurd HA.out (by simp[dN.l1])
     |succ k2=>
      have H:=HA.out;clear HA;simp only[dN.l1] at H
      by_cases c14:x21_2<(l1.length:Int)
      ·rw[if_pos c14] at H
       have c14b0:decide (x21_2<(l1.length:Int))=true:=decide_eq_true c14;clear c14
       by_cases c15:0≤x21_2
       ·rw[if_pos c15] at H
        have c15b0:decide (0≤x21_2)=true:=decide_eq_true c15;clear c15
        by_cases c16:x21_2<(l1.length:Int)
        ·rw[if_pos c16] at H
         have c16b0:decide (x21_2<(l1.length:Int))=true:=decide_eq_true c16;clear c16;obtain⟨t108,A17,H⟩:=bi H;try dsimp only at H
         by_cases c18:t108=true
         ·subst c18
          rw[if_pos rfl] at H;have H':=aA.mk H;clear H;have p107:0≤(x21_2:Int):=of_decide_eq_true (by first|(with_reducible assumption)|assumption);have q107:x21_2<(l1.length:Int):=of_decide_eq_true (by first|(with_reducible assumption)|assumption);obtain⟨ad107,e107,hx107_0⟩:=Kd.oW HR1.out x21_2 p107 q107
          cases e107
          replace hx107_0:=(HB.out.cell (World.block_lt_of_cell? w _ hx107_0)).trans hx107_0;replace p107:=eq_true p107;replace q107:=eq_true q107
          go_wp2_with(first|((with_reducible refine aG (f:=71) rfl ?_);refine gl_ 26 Tryz.func71 #[.string (rdOf ByteArray.empty l1 x21_2)] (h:= ?_);(with_reducible refine(fH.calls (rdOf ByteArray.empty l1 x21_2) true _ A17.out).mono ?_);rintro e w' ⟨rfl,⟨nd,rfl⟩⟩;refine⟨_,rfl,?_⟩))
          go_roundg k2
          case measure=>have:=HK1.out;have:=HK2.out;omega
          case rel=>exact⟨(wrap64 (x21_2+1)),aCs,H',⟨by have:=HK1.out;have:=HK2.out;omega⟩,⟨pkL HB⟩⟩
         ·replace c18:=Bool.eq_false_iff.mpr c18
          subst c18;rw[if_neg (show ¬(false=true) by decide)] at H;obtain rfl:=Option.some.inj H;have p107:0≤(x21_2:Int):=of_decide_eq_true (by first|(with_reducible assumption)|assumption);have q107:x21_2<(l1.length:Int):=of_decide_eq_true (by first|(with_reducible assumption)|assumption);obtain⟨ad107,e107,hx107_0⟩:=Kd.oW HR1.out x21_2 p107 q107
          cases e107
          replace hx107_0:=(HB.out.cell (World.block_lt_of_cell? w _ hx107_0)).trans hx107_0;replace p107:=eq_true p107;replace q107:=eq_true q107
          go_wp2_with(first|((with_reducible refine aG (f:=71) rfl ?_);refine gl_ 26 Tryz.func71 #[.string (rdOf ByteArray.empty l1 x21_2)] (h:= ?_);(with_reducible refine(fH.calls (rdOf ByteArray.empty l1 x21_2) false _ A17.out).mono ?_);rintro e w' ⟨rfl,⟨nd,rfl⟩⟩;refine⟨_,rfl,?_⟩))
          go_ret
          exact pkE HB
        ·rw[if_neg c16] at H
         exact absurd H aCq
       ·rw[if_neg c15] at H
        exact absurd H aCq
      ·rw[if_neg c14] at H
       have c14b0:decide (x21_2<(l1.length:Int))=false:=decide_eq_false c14;clear c14;obtain rfl:=Option.some.inj H;go_wp2
       go_ret
       exact pkE HB
def dI.f(a0:ByteArray):Option (Int):=(pU.f a0).bind fun t109=>(if t109=true then((nP.f a0).bind fun t110=>(if t110>100 then(some 10) else(some 0))) else(some 3))
theorem dI.calls(a0:ByteArray)(r:Int)(w:World)(h:dI.f a0=some r) :
 Calls Tryz.prog 141 #[.string a0] w fun e w'=>e= .returned (.int .i64 r)∧aZ w w':=by
 have H:((pU.f a0).bind fun t109=>(if t109=true then((nP.f a0).bind fun t110=>(if t110>100 then(some 10) else(some 0))) else(some 3)))=some r:=h;clear h;obtain⟨t109,A2,H⟩:=bi H;try dsimp only at H
 by_cases c3:t109=true
 ·subst c3
  rw[if_pos rfl] at H;obtain⟨t110,A4,H⟩:=bi H;try dsimp only at H
  by_cases c5:t110>100
  ·rw[if_pos c5] at H
   have c5b0:decide (100<t110)=true:=decide_eq_true c5;clear c5;obtain rfl:=Option.some.inj H;go_enter Tryz.func141,Tryz.ntmps141
   go_wp2_with(first|((with_reducible refine aG (f:=184) rfl ?_);refine gl_ 4 Tryz.func184 #[.string a0] (h:= ?_);(with_reducible refine(pU.calls a0 true _ A2.out).mono ?_);rintro e w' ⟨rfl,⟨nd,rfl⟩⟩;refine⟨_,rfl,?_⟩)|((with_reducible refine aG (f:=149) rfl ?_);refine gl_ 7 Tryz.func149 #[.string a0] (h:= ?_);(with_reducible refine(nP.calls a0 t110 _ A4.out).mono ?_);rintro e w' ⟨rfl,⟨nd,rfl⟩⟩;refine⟨_,rfl,?_⟩))
   go_ret
   exact⟨by first|rfl|(simp;done)|(simp[*];done),by repeat(first|exact aZ.refl _|apply aZ.step)⟩
  ·rw[if_neg c5] at H
   have c5b0:decide (100<t110)=false:=decide_eq_false c5;clear c5;obtain rfl:=Option.some.inj H;go_enter Tryz.func141,Tryz.ntmps141
   go_wp2_with(first|((with_reducible refine aG (f:=184) rfl ?_);refine gl_ 4 Tryz.func184 #[.string a0] (h:= ?_);(with_reducible refine(pU.calls a0 true _ A2.out).mono ?_);rintro e w' ⟨rfl,⟨nd,rfl⟩⟩;refine⟨_,rfl,?_⟩)|((with_reducible refine aG (f:=149) rfl ?_);refine gl_ 7 Tryz.func149 #[.string a0] (h:= ?_);(with_reducible refine(nP.calls a0 t110 _ A4.out).mono ?_);rintro e w' ⟨rfl,⟨nd,rfl⟩⟩;refine⟨_,rfl,?_⟩))
   go_ret
   exact⟨by first|rfl|(simp;done)|(simp[*];done),by repeat(first|exact aZ.refl _|apply aZ.step)⟩
 ·replace c3:=Bool.eq_false_iff.mpr c3
  subst c3;rw[if_neg (show ¬(false=true) by decide)] at H;obtain rfl:=Option.some.inj H;go_enter Tryz.func141,Tryz.ntmps141
  go_wp2_with(first|((with_reducible refine aG (f:=184) rfl ?_);refine gl_ 4 Tryz.func184 #[.string a0] (h:= ?_);(with_reducible refine(pU.calls a0 false _ A2.out).mono ?_);rintro e w' ⟨rfl,⟨nd,rfl⟩⟩;refine⟨_,rfl,?_⟩))
  go_ret
  exact⟨by first|rfl|(simp;done)|(simp[*];done),by repeat(first|exact aZ.refl _|apply aZ.step)⟩
def jW.f(a0_0:Bool)(a0_1:ByteArray)(a0_2:ByteArray):Option (Int):=if a0_0=true then(if a0_1.toList=([]:List UInt8) then(if a0_2.toList=([]:List UInt8) then(some 0) else(some 3)) else(some 3)) else((dI.f a0_1).bind fun t112=>(if t112=0 then((dI.f a0_2).bind fun t113=>(if t113=0 then((kD.f a0_1).bind fun t114=>(if t114<0 then(some 2) else(if a0_1.toList=([48]:List UInt8) then(some 0) else((kD.f a0_2).bind fun t115=>(if t115<0 then(some 2) else((pV.f a0_2 a0_1).bind fun t116=>(if t116=true then(some 0) else(some 2)))))))) else(some t113))) else(some t112)))
theorem jW.calls(a0_0:Bool)(a0_1:ByteArray)(a0_2:ByteArray)(r:Int)(w:World)(h:jW.f a0_0 a0_1 a0_2=some r) :
 Calls Tryz.prog 67 #[.agg #[.bool a0_0,.string a0_1,.string a0_2]] w fun e w'=>e= .returned (.int .i64 r)∧Below w.heap.size w w':=by
 have hu36:=Tryz.underlying36;have HB:=aA.mk (Below.refl w.heap.size w);have H:(if a0_0=true then(if a0_1.toList=([]:List UInt8) then(if a0_2.toList=([]:List UInt8) then(some 0) else(some 3)) else(some 3)) else((dI.f a0_1).bind fun t112=>(if t112=0 then((dI.f a0_2).bind fun t113=>(if t113=0 then((kD.f a0_1).bind fun t114=>(if t114<0 then(some 2) else(if a0_1.toList=([48]:List UInt8) then(some 0) else((kD.f a0_2).bind fun t115=>(if t115<0 then(some 2) else((pV.f a0_2 a0_1).bind fun t116=>(if t116=true then(some 0) else(some 2)))))))) else(some t113))) else(some t112))))=some r:=h;clear h
 by_cases c2:a0_0=true
 ·subst c2
  rw[if_pos rfl] at H
  by_cases c3:a0_1.toList=([]:List UInt8)
  ·rw[if_pos c3] at H
   have c3b0:(a0_1.toList==([]:List UInt8))=true:=beq_iff_eq.mpr c3;have c3b1:(a0_1.toList != ([]:List UInt8))=false:=bne_eq_false_iff_eq.mpr c3;clear c3
   by_cases c4:a0_2.toList=([]:List UInt8)
   ·rw[if_pos c4] at H
    have c4b0:(a0_2.toList==([]:List UInt8))=true:=beq_iff_eq.mpr c4;have c4b1:(a0_2.toList != ([]:List UInt8))=false:=bne_eq_false_iff_eq.mpr c4;clear c4;obtain rfl:=Option.some.inj H;go_enter Tryz.func67,Tryz.ntmps67
    go_wp2_with(first|((with_reducible refine aJ (N:=1) rfl ?_);refine bx_ 1 36 #[.bool true,.string a0_1,.string a0_2] (h:= ?_);intro gb111 hg w5 hbox hb;have BK111:=aA.mk (hbox);have GW111:=pkG HB hg;have GE111:=GW111;replace HB:=pkB HB hb;clear hb hbox hg;obtain⟨⟨hcz6_0,hcz6_1,hcz6_2⟩,hfz6_0,hfz6_1,hfz6_2⟩:=pk3 BK111))
    go_ret
    exact pkE HB
   ·rw[if_neg c4] at H
    have c4b0:(a0_2.toList==([]:List UInt8))=false:=beq_eq_false_iff_ne.mpr c4;have c4b1:(a0_2.toList != ([]:List UInt8))=true:=bne_iff_ne.mpr c4;obtain rfl:=Option.some.inj H;go_enter Tryz.func67,Tryz.ntmps67
    go_wp2_with(first|((with_reducible refine aJ (N:=1) rfl ?_);refine bx_ 1 36 #[.bool true,.string a0_1,.string a0_2] (h:= ?_);intro gb111 hg w7 hbox hb;have BK111:=aA.mk (hbox);have GW111:=pkG HB hg;have GE111:=GW111;replace HB:=pkB HB hb;clear hb hbox hg;obtain⟨⟨hcz8_0,hcz8_1,hcz8_2⟩,hfz8_0,hfz8_1,hfz8_2⟩:=pk3 BK111))
    go_ret
    exact pkE HB
  ·rw[if_neg c3] at H
   have c3b0:(a0_1.toList==([]:List UInt8))=false:=beq_eq_false_iff_ne.mpr c3;have c3b1:(a0_1.toList != ([]:List UInt8))=true:=bne_iff_ne.mpr c3;obtain rfl:=Option.some.inj H;go_enter Tryz.func67,Tryz.ntmps67
   go_wp2_with(first|((with_reducible refine aJ (N:=1) rfl ?_);refine bx_ 1 36 #[.bool true,.string a0_1,.string a0_2] (h:= ?_);intro gb111 hg w9 hbox hb;have BK111:=aA.mk (hbox);have GW111:=pkG HB hg;have GE111:=GW111;replace HB:=pkB HB hb;clear hb hbox hg;obtain⟨⟨hcz10_0,hcz10_1,hcz10_2⟩,hfz10_0,hfz10_1,hfz10_2⟩:=pk3 BK111))
   go_ret
   exact pkE HB
 ·replace c2:=Bool.eq_false_iff.mpr c2
  subst c2;rw[if_neg (show ¬(false=true) by decide)] at H;obtain⟨t112,A11,H⟩:=bi H;try dsimp only at H
  by_cases c12:t112=0
  ·rw[if_pos c12] at H
   have c12b0:(t112==0)=true:=beq_iff_eq.mpr c12;have c12b1:(t112 != 0)=false:=bne_eq_false_iff_eq.mpr c12;clear c12;obtain⟨t113,A13,H⟩:=bi H;try dsimp only at H
   by_cases c14:t113=0
   ·rw[if_pos c14] at H
    have c14b0:(t113==0)=true:=beq_iff_eq.mpr c14;have c14b1:(t113 != 0)=false:=bne_eq_false_iff_eq.mpr c14;clear c14;obtain⟨t114,A15,H⟩:=bi H;try dsimp only at H
    by_cases c16:t114<0
    ·rw[if_pos c16] at H
     have c16b0:decide (t114<0)=true:=decide_eq_true c16;clear c16;obtain rfl:=Option.some.inj H;go_enter Tryz.func67,Tryz.ntmps67
     go_wp2_with(first|((with_reducible refine aJ (N:=1) rfl ?_);refine bx_ 1 36 #[.bool false,.string a0_1,.string a0_2] (h:= ?_);intro gb111 hg w17 hbox hb;have BK111:=aA.mk (hbox);have GW111:=pkG HB hg;have GE111:=GW111;replace HB:=pkB HB hb;clear hb hbox hg;obtain⟨⟨hcz18_0,hcz18_1,hcz18_2⟩,hfz18_0,hfz18_1,hfz18_2⟩:=pk3 BK111)|((with_reducible refine aG (f:=141) rfl ?_);refine gl_ 17 Tryz.func141 #[.string a0_1] (h:= ?_);(with_reducible refine(dI.calls a0_1 t112 _ A11.out).mono ?_);rintro e w' ⟨rfl,⟨nd,rfl⟩⟩;refine⟨_,rfl,?_⟩)|((with_reducible refine aG (f:=141) rfl ?_);refine gl_ 23 Tryz.func141 #[.string a0_2] (h:= ?_);(with_reducible refine(dI.calls a0_2 t113 _ A13.out).mono ?_);rintro e w' ⟨rfl,⟨nd,rfl⟩⟩;refine⟨_,rfl,?_⟩)|((with_reducible refine aG (f:=142) rfl ?_);refine gl_ 29 Tryz.func142 #[.string a0_1] (h:= ?_);(with_reducible refine(kD.calls a0_1 t114 _ A15.out).mono ?_);rintro e w' ⟨rfl,⟨nd,rfl⟩⟩;refine⟨_,rfl,?_⟩))
     go_ret
     exact pkE HB
    ·rw[if_neg c16] at H
     have c16b0:decide (t114<0)=false:=decide_eq_false c16;clear c16
     by_cases c19:a0_1.toList=([48]:List UInt8)
     ·rw[if_pos c19] at H
      have c19b0:(a0_1.toList==([48]:List UInt8))=true:=beq_iff_eq.mpr c19;have c19b1:(a0_1.toList != ([48]:List UInt8))=false:=bne_eq_false_iff_eq.mpr c19;clear c19;obtain rfl:=Option.some.inj H;go_enter Tryz.func67,Tryz.ntmps67
      go_wp2_with(first|((with_reducible refine aJ (N:=1) rfl ?_);refine bx_ 1 36 #[.bool false,.string a0_1,.string a0_2] (h:= ?_);intro gb111 hg w20 hbox hb;have BK111:=aA.mk (hbox);have GW111:=pkG HB hg;have GE111:=GW111;replace HB:=pkB HB hb;clear hb hbox hg;obtain⟨⟨hcz21_0,hcz21_1,hcz21_2⟩,hfz21_0,hfz21_1,hfz21_2⟩:=pk3 BK111)|((with_reducible refine aG (f:=141) rfl ?_);refine gl_ 17 Tryz.func141 #[.string a0_1] (h:= ?_);(with_reducible refine(dI.calls a0_1 t112 _ A11.out).mono ?_);rintro e w' ⟨rfl,⟨nd,rfl⟩⟩;refine⟨_,rfl,?_⟩)|((with_reducible refine aG (f:=141) rfl ?_);refine gl_ 23 Tryz.func141 #[.string a0_2] (h:= ?_);(with_reducible refine(dI.calls a0_2 t113 _ A13.out).mono ?_);rintro e w' ⟨rfl,⟨nd,rfl⟩⟩;refine⟨_,rfl,?_⟩)|((with_reducible refine aG (f:=142) rfl ?_);refine gl_ 29 Tryz.func142 #[.string a0_1] (h:= ?_);(with_reducible refine(kD.calls a0_1 t114 _ A15.out).mono ?_);rintro e w' ⟨rfl,⟨nd,rfl⟩⟩;refine⟨_,rfl,?_⟩))
      go_ret
      exact pkE HB
     ·rw[if_neg c19] at H
      have c19b0:(a0_1.toList==([48]:List UInt8))=false:=beq_eq_false_iff_ne.mpr c19;have c19b1:(a0_1.toList != ([48]:List UInt8))=true:=bne_iff_ne.mpr c19;obtain⟨t115,A22,H⟩:=bi H;try dsimp only at H
      by_cases c23:t115<0
      ·rw[if_pos c23] at H
       have c23b0:decide (t115<0)=true:=decide_eq_true c23;clear c23;obtain rfl:=Option.some.inj H;go_enter Tryz.func67,Tryz.ntmps67
       go_wp2_with(first|((with_reducible refine aJ (N:=1) rfl ?_);refine bx_ 1 36 #[.bool false,.string a0_1,.string a0_2] (h:= ?_);intro gb111 hg w24 hbox hb;have BK111:=aA.mk (hbox);have GW111:=pkG HB hg;have GE111:=GW111;replace HB:=pkB HB hb;clear hb hbox hg;obtain⟨⟨hcz25_0,hcz25_1,hcz25_2⟩,hfz25_0,hfz25_1,hfz25_2⟩:=pk3 BK111)|((with_reducible refine aG (f:=141) rfl ?_);refine gl_ 17 Tryz.func141 #[.string a0_1] (h:= ?_);(with_reducible refine(dI.calls a0_1 t112 _ A11.out).mono ?_);rintro e w' ⟨rfl,⟨nd,rfl⟩⟩;refine⟨_,rfl,?_⟩)|((with_reducible refine aG (f:=141) rfl ?_);refine gl_ 23 Tryz.func141 #[.string a0_2] (h:= ?_);(with_reducible refine(dI.calls a0_2 t113 _ A13.out).mono ?_);rintro e w' ⟨rfl,⟨nd,rfl⟩⟩;refine⟨_,rfl,?_⟩)|((with_reducible refine aG (f:=142) rfl ?_);refine gl_ 29 Tryz.func142 #[.string a0_1] (h:= ?_);(with_reducible refine(kD.calls a0_1 t114 _ A15.out).mono ?_);rintro e w' ⟨rfl,⟨nd,rfl⟩⟩;refine⟨_,rfl,?_⟩)|(go_at_call 142;(with_reducible refine(kD.calls a0_2 t115 _ A22.out).mono ?_);rintro e w' ⟨rfl,⟨nd,rfl⟩⟩))
       go_ret
       exact pkE HB
      ·rw[if_neg c23] at H
       have c23b0:decide (t115<0)=false:=decide_eq_false c23;clear c23;obtain⟨t116,A26,H⟩:=bi H;try dsimp only at H
       by_cases c27:t116=true
       ·subst c27
        rw[if_pos rfl] at H;obtain rfl:=Option.some.inj H;go_enter Tryz.func67,Tryz.ntmps67
        go_wp2_with(first|((with_reducible refine aJ (N:=1) rfl ?_);refine bx_ 1 36 #[.bool false,.string a0_1,.string a0_2] (h:= ?_);intro gb111 hg w28 hbox hb;have BK111:=aA.mk (hbox);have GW111:=pkG HB hg;have GE111:=GW111;replace HB:=pkB HB hb;clear hb hbox hg;obtain⟨⟨hcz29_0,hcz29_1,hcz29_2⟩,hfz29_0,hfz29_1,hfz29_2⟩:=pk3 BK111)|((with_reducible refine aG (f:=141) rfl ?_);refine gl_ 17 Tryz.func141 #[.string a0_1] (h:= ?_);(with_reducible refine(dI.calls a0_1 t112 _ A11.out).mono ?_);rintro e w' ⟨rfl,⟨nd,rfl⟩⟩;refine⟨_,rfl,?_⟩)|((with_reducible refine aG (f:=141) rfl ?_);refine gl_ 23 Tryz.func141 #[.string a0_2] (h:= ?_);(with_reducible refine(dI.calls a0_2 t113 _ A13.out).mono ?_);rintro e w' ⟨rfl,⟨nd,rfl⟩⟩;refine⟨_,rfl,?_⟩)|((with_reducible refine aG (f:=142) rfl ?_);refine gl_ 29 Tryz.func142 #[.string a0_1] (h:= ?_);(with_reducible refine(kD.calls a0_1 t114 _ A15.out).mono ?_);rintro e w' ⟨rfl,⟨nd,rfl⟩⟩;refine⟨_,rfl,?_⟩)|(go_at_call 142;(with_reducible refine(kD.calls a0_2 t115 _ A22.out).mono ?_);rintro e w' ⟨rfl,⟨nd,rfl⟩⟩)|(go_at_call 143;(with_reducible refine(pV.calls a0_2 a0_1 true _ A26.out).mono ?_);rintro e w30 ⟨rfl,hb⟩;replace BK111:=pkK BK111 hb;replace HB:=pkB HB hb;try clear hb))
        go_ret
        exact pkE HB
       ·replace c27:=Bool.eq_false_iff.mpr c27
        subst c27;rw[if_neg (show ¬(false=true) by decide)] at H;obtain rfl:=Option.some.inj H;go_enter Tryz.func67,Tryz.ntmps67
        go_wp2_with(first|((with_reducible refine aJ (N:=1) rfl ?_);refine bx_ 1 36 #[.bool false,.string a0_1,.string a0_2] (h:= ?_);intro gb111 hg w31 hbox hb;have BK111:=aA.mk (hbox);have GW111:=pkG HB hg;have GE111:=GW111;replace HB:=pkB HB hb;clear hb hbox hg;obtain⟨⟨hcz32_0,hcz32_1,hcz32_2⟩,hfz32_0,hfz32_1,hfz32_2⟩:=pk3 BK111)|((with_reducible refine aG (f:=141) rfl ?_);refine gl_ 17 Tryz.func141 #[.string a0_1] (h:= ?_);(with_reducible refine(dI.calls a0_1 t112 _ A11.out).mono ?_);rintro e w' ⟨rfl,⟨nd,rfl⟩⟩;refine⟨_,rfl,?_⟩)|((with_reducible refine aG (f:=141) rfl ?_);refine gl_ 23 Tryz.func141 #[.string a0_2] (h:= ?_);(with_reducible refine(dI.calls a0_2 t113 _ A13.out).mono ?_);rintro e w' ⟨rfl,⟨nd,rfl⟩⟩;refine⟨_,rfl,?_⟩)|((with_reducible refine aG (f:=142) rfl ?_);refine gl_ 29 Tryz.func142 #[.string a0_1] (h:= ?_);(with_reducible refine(kD.calls a0_1 t114 _ A15.out).mono ?_);rintro e w' ⟨rfl,⟨nd,rfl⟩⟩;refine⟨_,rfl,?_⟩)|(go_at_call 142;(with_reducible refine(kD.calls a0_2 t115 _ A22.out).mono ?_);rintro e w' ⟨rfl,⟨nd,rfl⟩⟩)|(go_at_call 143;(with_reducible refine(pV.calls a0_2 a0_1 false _ A26.out).mono ?_);rintro e w33 ⟨rfl,hb⟩;replace BK111:=pkK BK111 hb;replace HB:=pkB HB hb;try clear hb))
        go_ret
        exact pkE HB
   ·rw[if_neg c14] at H
    have c14b0:(t113==0)=false:=beq_eq_false_iff_ne.mpr c14;have c14b1:(t113 != 0)=true:=bne_iff_ne.mpr c14;obtain rfl:=Option.some.inj H;go_enter Tryz.func67,Tryz.ntmps67
    go_wp2_with(first|((with_reducible refine aJ (N:=1) rfl ?_);refine bx_ 1 36 #[.bool false,.string a0_1,.string a0_2] (h:= ?_);intro gb111 hg w34 hbox hb;have BK111:=aA.mk (hbox);have GW111:=pkG HB hg;have GE111:=GW111;replace HB:=pkB HB hb;clear hb hbox hg;obtain⟨⟨hcz35_0,hcz35_1,hcz35_2⟩,hfz35_0,hfz35_1,hfz35_2⟩:=pk3 BK111)|((with_reducible refine aG (f:=141) rfl ?_);refine gl_ 17 Tryz.func141 #[.string a0_1] (h:= ?_);(with_reducible refine(dI.calls a0_1 t112 _ A11.out).mono ?_);rintro e w' ⟨rfl,⟨nd,rfl⟩⟩;refine⟨_,rfl,?_⟩)|((with_reducible refine aG (f:=141) rfl ?_);refine gl_ 23 Tryz.func141 #[.string a0_2] (h:= ?_);(with_reducible refine(dI.calls a0_2 t113 _ A13.out).mono ?_);rintro e w' ⟨rfl,⟨nd,rfl⟩⟩;refine⟨_,rfl,?_⟩))
    go_ret
    exact pkE HB
  ·rw[if_neg c12] at H
   have c12b0:(t112==0)=false:=beq_eq_false_iff_ne.mpr c12;have c12b1:(t112 != 0)=true:=bne_iff_ne.mpr c12;obtain rfl:=Option.some.inj H;go_enter Tryz.func67,Tryz.ntmps67
   go_wp2_with(first|((with_reducible refine aJ (N:=1) rfl ?_);refine bx_ 1 36 #[.bool false,.string a0_1,.string a0_2] (h:= ?_);intro gb111 hg w36 hbox hb;have BK111:=aA.mk (hbox);have GW111:=pkG HB hg;have GE111:=GW111;replace HB:=pkB HB hb;clear hb hbox hg;obtain⟨⟨hcz37_0,hcz37_1,hcz37_2⟩,hfz37_0,hfz37_1,hfz37_2⟩:=pk3 BK111)|((with_reducible refine aG (f:=141) rfl ?_);refine gl_ 17 Tryz.func141 #[.string a0_1] (h:= ?_);(with_reducible refine(dI.calls a0_1 t112 _ A11.out).mono ?_);rintro e w' ⟨rfl,⟨nd,rfl⟩⟩;refine⟨_,rfl,?_⟩))
   go_ret
   exact pkE HB
mutual
def dC.l0:Nat→List (S36)→List ByteArray→List (S36)→Int→Int→Option (Bool)
 |0,_,_,_,_,_=>none
 |k+1,x0,x1,x9,x10,x11=>if x11<x10 then(if 0≤x11 then(if x11<(x9.length:Int) then((jW.f ((fF x9 x11).f0) ((fF x9 x11).f1) ((fF x9 x11).f2)).bind fun t119=>(if t119=0 then(dC.l0 k x0 x1 x9 x10 (wrap64 (x11+1))) else(some false))) else(none)) else(none)) else(dC.l1 k x0 x1 x1 (x1.length:Int) 0)
def dC.l1:Nat→List (S36)→List ByteArray→List ByteArray→Int→Int→Option (Bool)
 |0,_,_,_,_,_=>none
 |k+1,x0,x1,x19,x20,x21=>if x21<x20 then(if 0≤x21 then(if x21<(x19.length:Int) then((qY.f (rdOf ByteArray.empty x19 x21)).bind fun t121=>(if t121=0 then(dC.l1 k x0 x1 x19 x20 (wrap64 (x21+1))) else(some false))) else(none)) else(none)) else((dN.f k x0 x1).bind fun t122=>(some t122))
end
def dC.f(k:Nat)(l0:List (S36))(l1:List ByteArray):Option (Bool):=dC.l0 k l0 l1 l0 (l0.length:Int) 0
theorem dC.calls(k:Nat)(A0:Option Addr)(c0:Nat)(l0:List (S36))(A1:Option Addr)(c1:Nat)(l1:List ByteArray)(r:Bool)(w:World)(hr0:Kd.C k36 w A0 l0.length l0)(hc0:l0.length≤c0)(hr1:Kd.C Kd.string w A1 l1.length l1)(hc1:l1.length≤c1)(h:dC.f k l0 l1=some r) :
 Calls Tryz.prog 46 #[.slice A0 l0.length c0,.slice A1 l1.length c1] w fun e w'=>e= .returned (.bool r)∧Below w.heap.size w w':=by
 have hu36:=Tryz.underlying36;have HR0:=aA.mk hr0;have HC0:=aA.mk hc0;clear hr0 hc0;have HR1:=aA.mk hr1;have HC1:=aA.mk hc1;clear hr1 hc1;have HB:=aA.mk (Below.refl w.heap.size w);have H:(dC.l0 k l0 l1 l0 (l0.length:Int) 0)=some r:=h;clear h;have H':=aA.mk H;clear H;go_enter Tryz.func46,Tryz.ntmps46
 go_wp2
 go_loopg [11] k (fun kq v11 w'=>∃(x11_1:Int),v11= .int .i64 x11_1∧aA (dC.l0 kq l0 l1 l0 (l0.length:Int) x11_1=some r)∧aA (kq≤k)∧aA (Below w.heap.size w w'))
 case atStart=>exact⟨(0),aCs,H',⟨Nat.le_refl _⟩,⟨pkL HB⟩⟩
 case round=>
  clear H';try clear c1
  obtain⟨x11_1,rfl,HA,HK1,HB⟩:=hrel
  cases gk with
  |zero=>exact absurd HA.out (by simp[dC.l0])
  |succ k1=>
   have H:=HA.out;clear HA;simp only[dC.l0] at H
   by_cases c3:x11_1<(l0.length:Int)
   ·rw[if_pos c3] at H
    have c3b0:decide (x11_1<(l0.length:Int))=true:=decide_eq_true c3;clear c3
    by_cases c4:0≤x11_1
    ·rw[if_pos c4] at H
     have c4b0:decide (0≤x11_1)=true:=decide_eq_true c4;clear c4
     by_cases c5:x11_1<(l0.length:Int)
     ·rw[if_pos c5] at H
      have c5b0:decide (x11_1<(l0.length:Int))=true:=decide_eq_true c5;clear c5;obtain⟨t119,A6,H⟩:=bi H;try dsimp only at H
      by_cases c7:t119=0
      ·rw[if_pos c7] at H
       have c7b0:(t119==0)=true:=beq_iff_eq.mpr c7;have c7b1:(t119 != 0)=false:=bne_eq_false_iff_eq.mpr c7;clear c7;have H':=aA.mk H;clear H;have p117:0≤(x11_1:Int):=of_decide_eq_true (by first|(with_reducible assumption)|assumption);have q117:x11_1<(l0.length:Int):=of_decide_eq_true (by first|(with_reducible assumption)|assumption);obtain⟨ad117,e117,hx117_0,hx117_1,hx117_2⟩:=at_T36 HR0.out x11_1 p117 q117
       cases e117
       replace hx117_0:=(HB.out.cell (World.block_lt_of_cell? w _ hx117_0)).trans hx117_0;replace hx117_1:=(HB.out.cell (World.block_lt_of_cell? w _ hx117_1)).trans hx117_1;replace hx117_2:=(HB.out.cell (World.block_lt_of_cell? w _ hx117_2)).trans hx117_2;replace p117:=eq_true p117;replace q117:=eq_true q117
       go_wp2_with(first|((with_reducible refine aJ (N:=6) rfl ?_);refine bx_ 6 36 #[.bool false,.string (⟨#[]⟩:ByteArray),.string (⟨#[]⟩:ByteArray)] (h:= ?_);intro gb118 hg w8 hbox hb;have BK118:=aA.mk (hbox);have GW118:=pkG HB hg;have GE118:=GW118;replace HB:=pkB HB hb;clear hb hbox hg;obtain⟨⟨hcz9_0,hcz9_1,hcz9_2⟩,hfz9_0,hfz9_1,hfz9_2⟩:=pk3 BK118)|((with_reducible refine aG (f:=67) rfl ?_);refine gl_ 16 Tryz.func67 #[.agg #[.bool ((fF l0 x11_1).f0),.string ((fF l0 x11_1).f1),.string ((fF l0 x11_1).f2)]] (h:= ?_);(with_reducible refine(jW.calls ((fF l0 x11_1).f0) ((fF l0 x11_1).f1) ((fF l0 x11_1).f2) t119 _ A6.out).mono ?_);rintro e w10 ⟨rfl,hb⟩;refine⟨_,rfl,?_⟩;replace BK118:=aA.mk (dF (g:=gb118) (o:= .cells #[.bool ((fF l0 x11_1).f0),.string ((fF l0 x11_1).f1),.string ((fF l0 x11_1).f2)] 36 (0,0)) (pkS3 BK118) hb);replace HB:=pkB HB hb;try clear hb))
       go_roundg k1
       case measure=>have:=HK1.out;omega
       case rel=>exact⟨(wrap64 (x11_1+1)),aCs,H',⟨by have:=HK1.out;omega⟩,⟨pkL HB⟩⟩
      ·rw[if_neg c7] at H
       have c7b0:(t119==0)=false:=beq_eq_false_iff_ne.mpr c7;have c7b1:(t119 != 0)=true:=bne_iff_ne.mpr c7;obtain rfl:=Option.some.inj H;have p117:0≤(x11_1:Int):=of_decide_eq_true (by first|(with_reducible assumption)|assumption);have q117:x11_1<(l0.length:Int):=of_decide_eq_true (by first|(with_reducible assumption)|assumption);obtain⟨ad117,e117,hx117_0,hx117_1,hx117_2⟩:=at_T36 HR0.out x11_1 p117 q117
       cases e117
       replace hx117_0:=(HB.out.cell (World.block_lt_of_cell? w _ hx117_0)).trans hx117_0;replace hx117_1:=(HB.out.cell (World.block_lt_of_cell? w _ hx117_1)).trans hx117_1;replace hx117_2:=(HB.out.cell (World.block_lt_of_cell? w _ hx117_2)).trans hx117_2;replace p117:=eq_true p117;replace q117:=eq_true q117
       go_wp2_with(first|((with_reducible refine aJ (N:=6) rfl ?_);refine bx_ 6 36 #[.bool false,.string (⟨#[]⟩:ByteArray),.string (⟨#[]⟩:ByteArray)] (h:= ?_);intro gb118 hg w11 hbox hb;have BK118:=aA.mk (hbox);have GW118:=pkG HB hg;have GE118:=GW118;replace HB:=pkB HB hb;clear hb hbox hg;obtain⟨⟨hcz12_0,hcz12_1,hcz12_2⟩,hfz12_0,hfz12_1,hfz12_2⟩:=pk3 BK118)|((with_reducible refine aG (f:=67) rfl ?_);refine gl_ 16 Tryz.func67 #[.agg #[.bool ((fF l0 x11_1).f0),.string ((fF l0 x11_1).f1),.string ((fF l0 x11_1).f2)]] (h:= ?_);(with_reducible refine(jW.calls ((fF l0 x11_1).f0) ((fF l0 x11_1).f1) ((fF l0 x11_1).f2) t119 _ A6.out).mono ?_);rintro e w13 ⟨rfl,hb⟩;refine⟨_,rfl,?_⟩;replace BK118:=aA.mk (dF (g:=gb118) (o:= .cells #[.bool ((fF l0 x11_1).f0),.string ((fF l0 x11_1).f1),.string ((fF l0 x11_1).f2)] 36 (0,0)) (pkS3 BK118) hb);replace HB:=pkB HB hb;try clear hb))
       go_ret
       exact pkE HB
     ·rw[if_neg c5] at H
      exact absurd H aCq
    ·rw[if_neg c4] at H
     exact absurd H aCq
   ·rw[if_neg c3] at H
    have c3b0:decide (x11_1<(l0.length:Int))=false:=decide_eq_false c3;clear c3;have H':=aA.mk H;clear H;go_wp2
    go_loopg [21] k1 (fun kq v21 w'=>∃(x21_2:Int),v21= .int .i64 x21_2∧aA (dC.l1 kq l0 l1 l1 (l1.length:Int) x21_2=some r)∧aA (kq≤k1)∧aA (Below w.heap.size w w'))
    case atStart=>exact⟨(0),aCs,H',⟨Nat.le_refl _⟩,⟨pkL HB⟩⟩
    case round=>
     clear H';try clear c1
     try clear c3
     try clear c3b0
     try clear c4
     try clear c4b0
     try clear c5
     try clear c5b0
     try clear c7
     try clear c7b0
     try clear c7b1
     try clear hcz12_0
     try clear hcz12_1
     try clear hcz12_2
     try clear hcz9_0
     try clear hcz9_1
     try clear hcz9_2
     try clear hfz12_0
     try clear hfz12_1
     try clear hfz12_2
     try clear hfz9_0
     try clear hfz9_1
     try clear hfz9_2
     try clear hx117_0
     try clear hx117_1
     try clear hx117_2
     try clear p117
     try clear q117
     obtain⟨x21_2,rfl,HA,HK2,HB⟩:=hrel
     cases gk with
     |zero=>exact absurd HA.out (by simp[dC.l1])
     |succ k2=>
      have H:=HA.out;clear HA;simp only[dC.l1] at H
      by_cases c14:x21_2<(l1.length:Int)
      ·rw[if_pos c14] at H
       have c14b0:decide (x21_2<(l1.length:Int))=true:=decide_eq_true c14;clear c14
       by_cases c15:0≤x21_2
       ·rw[if_pos c15] at H
        have c15b0:decide (0≤x21_2)=true:=decide_eq_true c15;clear c15
        by_cases c16:x21_2<(l1.length:Int)
        ·rw[if_pos c16] at H
         have c16b0:decide (x21_2<(l1.length:Int))=true:=decide_eq_true c16;clear c16;obtain⟨t121,A17,H⟩:=bi H;try dsimp only at H
         by_cases c18:t121=0
         ·rw[if_pos c18] at H
          have c18b0:(t121==0)=true:=beq_iff_eq.mpr c18;have c18b1:(t121 != 0)=false:=bne_eq_false_iff_eq.mpr c18;clear c18;have H':=aA.mk H;clear H;have p120:0≤(x21_2:Int):=of_decide_eq_true (by first|(with_reducible assumption)|assumption);have q120:x21_2<(l1.length:Int):=of_decide_eq_true (by first|(with_reducible assumption)|assumption);obtain⟨ad120,e120,hx120_0⟩:=Kd.oW HR1.out x21_2 p120 q120
          cases e120
          replace hx120_0:=(HB.out.cell (World.block_lt_of_cell? w _ hx120_0)).trans hx120_0;replace p120:=eq_true p120;replace q120:=eq_true q120
          go_wp2_with(first|((with_reducible refine aG (f:=115) rfl ?_);refine gl_ 26 Tryz.func115 #[.string (rdOf ByteArray.empty l1 x21_2)] (h:= ?_);(with_reducible refine(qY.calls (rdOf ByteArray.empty l1 x21_2) t121 _ A17.out).mono ?_);rintro e w' ⟨rfl,⟨nd,rfl⟩⟩;refine⟨_,rfl,?_⟩))
          go_roundg k2
          case measure=>have:=HK1.out;have:=HK2.out;omega
          case rel=>exact⟨(wrap64 (x21_2+1)),aCs,H',⟨by have:=HK1.out;have:=HK2.out;omega⟩,⟨pkL HB⟩⟩
         ·rw[if_neg c18] at H
          have c18b0:(t121==0)=false:=beq_eq_false_iff_ne.mpr c18;have c18b1:(t121 != 0)=true:=bne_iff_ne.mpr c18;obtain rfl:=Option.some.inj H;have p120:0≤(x21_2:Int):=of_decide_eq_true (by first|(with_reducible assumption)|assumption);have q120:x21_2<(l1.length:Int):=of_decide_eq_true (by first|(with_reducible assumption)|assumption);obtain⟨ad120,e120,hx120_0⟩:=Kd.oW HR1.out x21_2 p120 q120
          cases e120
          replace hx120_0:=(HB.out.cell (World.block_lt_of_cell? w _ hx120_0)).trans hx120_0;replace p120:=eq_true p120;replace q120:=eq_true q120
          go_wp2_with(first|((with_reducible refine aG (f:=115) rfl ?_);refine gl_ 26 Tryz.func115 #[.string (rdOf ByteArray.empty l1 x21_2)] (h:= ?_);(with_reducible refine(qY.calls (rdOf ByteArray.empty l1 x21_2) t121 _ A17.out).mono ?_);rintro e w' ⟨rfl,⟨nd,rfl⟩⟩;refine⟨_,rfl,?_⟩))
          go_ret
          exact pkE HB
        ·rw[if_neg c16] at H
         exact absurd H aCq
       ·rw[if_neg c15] at H
        exact absurd H aCq
      ·rw[if_neg c14] at H
       have c14b0:decide (x21_2<(l1.length:Int))=false:=decide_eq_false c14;clear c14;obtain⟨t122,A19,H⟩:=bi H;try dsimp only at H
       obtain rfl:=Option.some.inj H
       go_wp2_with(first|((with_reducible refine aG (f:=34) rfl ?_);refine gl_ 31 Tryz.func34 #[.slice A0 l0.length c0,.slice A1 l1.length c1] (h:= ?_);(with_reducible refine(dN.calls k2 _ _ l0 _ _ l1 t122 _ ?side1 ?side2 ?side3 ?side4 A19.out).mono ?_);(case side1=>repeat(first|exact(Kd.qF HR0.out HB.out)|(with_reducible refine Kd.iZ ?_ _)|(with_reducible refine Kd.jA ?_ _)|(with_reducible refine Kd.jR ?_)));(case side2=>exact HC0.out);(case side3=>repeat(first|exact(Kd.qF HR1.out HB.out)|(with_reducible refine Kd.iZ ?_ _)|(with_reducible refine Kd.jA ?_ _)|(with_reducible refine Kd.jR ?_)));(case side4=>exact HC1.out);rintro e w20 ⟨rfl,hb⟩;refine⟨_,rfl,?_⟩;replace HB:=pkB HB hb;try clear hb))
       go_ret
       exact pkE HB
def lC.f(a0_0:Bool)(a0_1:ByteArray)(a0_2:ByteArray)(a1:ByteArray):Option (Bool):=(iU.f a0_0 a0_1 a0_2 a1).bind fun bt124=>(if bt124.1=true then(some (bt124.2==0)) else(some false))
theorem lC.calls(a0_0:Bool)(a0_1:ByteArray)(a0_2:ByteArray)(a1:ByteArray)(r:Bool)(w:World)(hG:GW w)(h:lC.f a0_0 a0_1 a0_2 a1=some r) :
 Calls Tryz.prog 68 #[.agg #[.bool a0_0,.string a0_1,.string a0_2],.string a1] w fun e w'=>e= .returned (.bool r)∧Below w.heap.size w w':=by
 have HG:=aA.mk hG;clear hG;have hu36:=Tryz.underlying36;have HB:=aA.mk (Below.refl w.heap.size w);have H:((iU.f a0_0 a0_1 a0_2 a1).bind fun bt124=>(if bt124.1=true then(some (bt124.2==0)) else(some false)))=some r:=h;clear h;obtain⟨⟨t124,t125⟩,A3,H⟩:=bi H;try dsimp only at H
 by_cases c4:t124=true
 ·subst c4
  rw[if_pos rfl] at H;obtain rfl:=Option.some.inj H;go_enter Tryz.func68,Tryz.ntmps68
  go_wp2_with(first|((with_reducible refine aJ (N:=2) rfl ?_);refine bx_ 2 36 #[.bool a0_0,.string a0_1,.string a0_2] (h:= ?_);intro gb123 hg w5 hbox hb;have BK123:=aA.mk (hbox);have GW123:=pkG HB hg;have GE123:=GW123;replace HB:=pkB HB hb;clear hb hbox hg;obtain⟨⟨hcz6_0,hcz6_1,hcz6_2⟩,hfz6_0,hfz6_1,hfz6_2⟩:=pk3 BK123)|((with_reducible refine aG (f:=60) rfl ?_);refine gl_ 10 Tryz.func60 #[.agg #[.bool a0_0,.string a0_1,.string a0_2],.string a1] (h:= ?_);(with_reducible refine(iU.calls (hG:=HG.out.below (pkL HB)) a0_0 a0_1 a0_2 a1 true t125 _ A3.out).mono ?_);rintro e w7 ⟨rfl,hb⟩;refine⟨_,rfl,?_⟩;replace BK123:=pkK BK123 hb;replace HB:=pkB HB hb;try clear hb))
  go_ret
  exact pkE HB
 ·replace c4:=Bool.eq_false_iff.mpr c4
  subst c4;rw[if_neg (show ¬(false=true) by decide)] at H;obtain rfl:=Option.some.inj H;go_enter Tryz.func68,Tryz.ntmps68
  go_wp2_with(first|((with_reducible refine aJ (N:=2) rfl ?_);refine bx_ 2 36 #[.bool a0_0,.string a0_1,.string a0_2] (h:= ?_);intro gb123 hg w8 hbox hb;have BK123:=aA.mk (hbox);have GW123:=pkG HB hg;have GE123:=GW123;replace HB:=pkB HB hb;clear hb hbox hg;obtain⟨⟨hcz9_0,hcz9_1,hcz9_2⟩,hfz9_0,hfz9_1,hfz9_2⟩:=pk3 BK123)|((with_reducible refine aG (f:=60) rfl ?_);refine gl_ 10 Tryz.func60 #[.agg #[.bool a0_0,.string a0_1,.string a0_2],.string a1] (h:= ?_);(with_reducible refine(iU.calls (hG:=HG.out.below (pkL HB)) a0_0 a0_1 a0_2 a1 false t125 _ A3.out).mono ?_);rintro e w10 ⟨rfl,hb⟩;refine⟨_,rfl,?_⟩;replace BK123:=pkK BK123 hb;replace HB:=pkB HB hb;try clear hb))
  go_ret
  exact pkE HB
end Go.Proofs.YtignanmmgaldeaaGreatDoor.PLawB
end
section
set_option linter.unusedVariables false
set_option linter.unusedSimpArgs false
set_option maxHeartbeats 8000000
set_option maxRecDepth 100000
namespace Go.Proofs.YtignanmmgaldeaaGreatDoor.PLawB
open Go.RowKit Go.Proofs.YtignanmmgaldeaaGreatDoorW.PrintWords Go.Proofs.YtignanmmgaldeaaGreatDoorW.PrintLast Go.Proofs.YtignanmmgaldeaaGreatDoorW.PrintMore
attribute [local go_sem] gI gJ iE iF
def iC.l0:Nat→Int→List (S36)→Int→Int→Option (Bool)
 |0,_,_,_,_=>none
 |k+1,x3,x6,x7,x8=>if x8<x7 then(if 0≤x8 then(if x8<(x6.length:Int) then(iC.l0 k (wrap64 (x3+(wrap64 ((((fF x6 x8).f1).size:Int)+(((fF x6 x8).f2).size:Int))))) x6 x7 (wrap64 (x8+1))) else(none)) else(none)) else(some (decide (x3>90)))
def iC.f(k:Nat)(l0:List (S36)):Option (Bool):=iC.l0 k 0 l0 (l0.length:Int) 0
theorem iC.calls(k:Nat)(A0:Option Addr)(c0:Nat)(l0:List (S36))(r:Bool)(w:World)(hr0:Kd.C k36 w A0 l0.length l0)(hc0:l0.length≤c0)(h:iC.f k l0=some r) :
 Calls Tryz.prog 47 #[.slice A0 l0.length c0] w fun e w'=>e= .returned (.bool r)∧Below w.heap.size w w':=by
 have hu36:=Tryz.underlying36;have HR0:=aA.mk hr0;have HC0:=aA.mk hc0;clear hr0 hc0;have HB:=aA.mk (Below.refl w.heap.size w);have H:(iC.l0 k 0 l0 (l0.length:Int) 0)=some r:=h;clear h;have H':=aA.mk H;clear H;go_enter Tryz.func47,Tryz.ntmps47
 go_wp2
 go_loopg [3,8] k (fun kq v3 v8 w'=>∃(x3_1:Int) (x8_1:Int),v3= .int .i64 x3_1∧v8= .int .i64 x8_1∧aA (iC.l0 kq x3_1 l0 (l0.length:Int) x8_1=some r)∧aA (kq≤k)∧aA (Below w.heap.size w w'))
 case atStart=>exact⟨(0),(0),aCs,aCs,H',⟨Nat.le_refl _⟩,⟨pkL HB⟩⟩
 case round=>
  clear H';obtain⟨x3_1,x8_1,rfl,rfl,HA,HK1,HB⟩:=hrel
  cases gk with
  |zero=>exact absurd HA.out (by simp[iC.l0])
  |succ k1=>
   have H:=HA.out;clear HA;simp only[iC.l0] at H
   by_cases c2:x8_1<(l0.length:Int)
   ·rw[if_pos c2] at H
    have c2b0:decide (x8_1<(l0.length:Int))=true:=decide_eq_true c2;clear c2
    by_cases c3:0≤x8_1
    ·rw[if_pos c3] at H
     have c3b0:decide (0≤x8_1)=true:=decide_eq_true c3;clear c3
     by_cases c4:x8_1<(l0.length:Int)
     ·rw[if_pos c4] at H
      have c4b0:decide (x8_1<(l0.length:Int))=true:=decide_eq_true c4;clear c4;have H':=aA.mk H;clear H;have p126:0≤(x8_1:Int):=of_decide_eq_true (by first|(with_reducible assumption)|assumption);have q126:x8_1<(l0.length:Int):=of_decide_eq_true (by first|(with_reducible assumption)|assumption);obtain⟨ad126,e126,hx126_0,hx126_1,hx126_2⟩:=at_T36 HR0.out x8_1 p126 q126
      cases e126
      replace hx126_0:=(HB.out.cell (World.block_lt_of_cell? w _ hx126_0)).trans hx126_0;replace hx126_1:=(HB.out.cell (World.block_lt_of_cell? w _ hx126_1)).trans hx126_1;replace hx126_2:=(HB.out.cell (World.block_lt_of_cell? w _ hx126_2)).trans hx126_2;replace p126:=eq_true p126;replace q126:=eq_true q126
      go_wp2_with(first|((with_reducible refine aJ (N:=5) rfl ?_);refine bx_ 5 36 #[.bool false,.string (⟨#[]⟩:ByteArray),.string (⟨#[]⟩:ByteArray)] (h:= ?_);intro gb127 hg w5 hbox hb;have BK127:=aA.mk (hbox);have GW127:=pkG HB hg;have GE127:=GW127;replace HB:=pkB HB hb;clear hb hbox hg;obtain⟨⟨hcz6_0,hcz6_1,hcz6_2⟩,hfz6_0,hfz6_1,hfz6_2⟩:=pk3 BK127))
      go_roundg k1
      case measure=>have:=HK1.out;omega
      case rel=>exact⟨(wrap64 (x3_1+(wrap64 ((((fF l0 x8_1).f1).size:Int)+(((fF l0 x8_1).f2).size:Int))))),(wrap64 (x8_1+1)),aCs,aCs,H',⟨by have:=HK1.out;omega⟩,⟨pkL HB⟩⟩
     ·rw[if_neg c4] at H
      exact absurd H aCq
    ·rw[if_neg c3] at H
     exact absurd H aCq
   ·rw[if_neg c2] at H
    have c2b0:decide (x8_1<(l0.length:Int))=false:=decide_eq_false c2;clear c2;obtain rfl:=Option.some.inj H;go_wp2
    go_ret
    exact pkE HB
end Go.Proofs.YtignanmmgaldeaaGreatDoor.PLawB
end
section
set_option linter.unusedVariables false
set_option linter.unusedSimpArgs false
namespace Go.Proofs.YtignanmmgaldeaaGreatDoor.LawC
open Go.RowKit Go.Proofs.YtignanmmgaldeaaGreatDoor Go.Proofs.YtignanmmgaldeaaGreatDoor.PLawB Go.Proofs.YtignanmmgaldeaaGreatDoor.RefP Go.Proofs.YtignanmmgaldeaaGreatDoor.PCongI Go.Proofs.YtignanmmgaldeaaGreatDoor.CongM Go.Proofs.YtignanmmgaldeaaGreatDoorW.PrintWords
def fewC(c:S36):Prop:=c.f1.size≤250∧c.f2.size≤250
instance (c:S36):Decidable (fewC c):=by unfold fewC;infer_instance
theorem reffew_val(c:S36):kH.f c.f0 c.f1 c.f2=some (decide (fewC c)):=by
 unfold kH.f fH.f fewC;rw[Option.bind_some]
 by_cases h1:c.f1.size≤250
 ·rw[if_pos (by simpa using(by omega:(c.f1.size:Int)≤250)),Option.bind_some]
  congr 1
  exact decide_eq_decide.2 ⟨fun h=>⟨h1,by omega⟩,fun h=>by omega⟩
 ·rw[if_neg (by simpa using(by omega:¬(c.f1.size:Int)≤250))]
  congr 1
  exact(decide_eq_false (fun h=>h1 h.1)).symm
theorem aCc(a:ByteArray)(ha:a.size≤140737488351232):dI.f a=some (numC a):=by
 unfold dI.f pU.f numC;rw[if_pos ha,Option.bind_some]
 by_cases hc:canon a.data.toList=true
 ·rw[if_pos hc,if_pos hc]
  have h0:0<a.size:=by
   rcases Nat.eq_zero_or_pos a.size with h|h
   ·rw[Lib.size_eq] at h
    rw[List.eq_nil_of_length_eq_zero h] at hc;exact absurd hc aCr
   ·exact h
  unfold nP.f;rw[if_pos ⟨h0,ha⟩,Option.bind_some]
  by_cases hd:100<digN a
  ·rw[if_pos hd,if_pos aCo]
  ·rw[if_neg hd,if_neg aCo]
 ·rw[if_neg hc,if_neg hc]
theorem aB0(x:Int):((text x).toList=([48]:List UInt8))↔x=0:=by
 have h:=text_eq x 0;rw[show(text 0).toList=([48]:List UInt8) by decide +kernel] at h
 constructor
 ·intro e;rw[e] at h;simpa using h
 ·intro e;subst e;decide +kernel
theorem refchk_val(e:Bool)(m r:ByteArray)(hm:m.size≤140737488351232)(hr:r.size≤140737488351232):jW.f e m r=some (chkC e m r):=by
 unfold jW.f chkC
 by_cases he:e=true
 ·rw[if_pos he,if_pos he]
  split
  ·split <;> rfl
  ·rfl
 ·rw[if_neg he,if_neg he,aCc m hm,Option.bind_some]
  by_cases h1:numC m=0
  ·rw[if_pos h1,if_pos h1,aCc r hr,Option.bind_some]
   by_cases h2:numC r=0
   ·rw[if_pos h2,if_pos h2]
    obtain⟨x,rfl,bx⟩:=xN h1;obtain⟨y,rfl,by'⟩:=xN h2;rw[dQ,dQ,sign_val bx aCo aCo,Option.bind_some]
    by_cases hx:x<0
    ·rw[if_pos ((vS x).2 hx),if_pos (show rngC x y from Or.inl hx)]
    ·rw[if_neg (fun q=>hx ((vS x).1 q))]
     by_cases h0:x=0
     ·rw[if_pos ((aB0 x).2 h0),if_neg (show ¬rngC x y by unfold rngC;omega)]
     ·rw[if_neg (fun q=>h0 ((aB0 x).1 q)),sign_val by' aCo aCo,Option.bind_some]
      by_cases hy:y<0
      ·rw[if_pos ((vS y).2 hy),if_pos (show rngC x y by unfold rngC;omega)]
      ·rw[if_neg (fun q=>hy ((vS y).1 q)),less_val by' bx aCo aCo,Option.bind_some]
       by_cases hl:y<x
       ·rw[if_pos (decide_eq_true hl),if_neg (show ¬rngC x y by unfold rngC;omega)]
       ·rw[if_neg (by simpa using hl),if_pos (show rngC x y by unfold rngC;omega)]
   ·rw[if_neg h2,if_neg h2]
  ·rw[if_neg h1,if_neg h1]
theorem wr1{j:Nat}(h:j≤1000):wrap64 ((j:Int)+1)=((j+1:Nat):Int):=by
 rw[mJ ⟨by omega,by omega⟩];rfl
theorem rd36{L:List S36}{j:Nat}(h:j<L.length):fF L (j:Int)=L[j]:=by
 unfold fF;rw[Int.toNat_natCast,List.getD_eq_getElem?_getD,List.getElem?_eq_getElem h];rfl
theorem rdB{L:List ByteArray}{j:Nat}(h:j<L.length):rdOf ByteArray.empty L (j:Int)=L[j]:=by
 unfold rdOf;rw[Int.toNat_natCast,List.getD_eq_getElem?_getD,List.getElem?_eq_getElem h];rfl
theorem few_l1(I:List ByteArray)(hI:I.length≤1000):∀(n j k:Nat),j+n=I.length→n+1≤k→dN.l1 k I (I.length:Int) (j:Int)=some (decide (∀a∈I.drop j,a.size≤250))
 |0,j,k,h,hk=>by
  obtain⟨k,rfl⟩:∃q,k=q+1:=⟨k-1,by omega⟩
  unfold dN.l1;rw[if_neg aCo,List.drop_eq_nil_of_le aCo]
  simp
 |n+1,j,k,h,hk=>by
  obtain⟨k,rfl⟩:∃q,k=q+1:=⟨k-1,by omega⟩
  have hj:j<I.length:=by omega
  unfold dN.l1;rw[if_pos aCo,if_pos aCo,if_pos aCo,rdB hj];unfold fH.f;rw[Option.bind_some,List.drop_eq_getElem_cons hj]
  by_cases ha:I[j].size≤250
  ·rw[if_pos (by simpa using(by omega:(I[j].size:Int)≤250)),wr1 aCo,few_l1 I hI n (j+1) k aCo aCo]
   congr 1
   exact decide_eq_decide.2 (by rw[List.forall_mem_cons];simp only[ha,true_and])
  ·rw[if_neg (by simpa using(by omega:¬(I[j].size:Int)≤250))]
   congr 1
   exact(decide_eq_false (fun q=>ha (q _ (List.mem_cons_self)))).symm
theorem few_l0(L:List S36)(I:List ByteArray)(hL:L.length≤1000)(hI:I.length≤1000):∀(n j k:Nat),j+n=L.length→n+I.length+2≤k→dN.l0 k I L (L.length:Int) (j:Int)=some (decide ((∀c∈L.drop j,fewC c)∧∀a∈I,a.size≤250))
 |0,j,k,h,hk=>by
  obtain⟨k,rfl⟩:∃q,k=q+1:=⟨k-1,by omega⟩
  unfold dN.l0;have e:=few_l1 I hI I.length 0 k aCo aCo;rw[List.drop_zero] at e;rw[if_neg aCo,List.drop_eq_nil_of_le aCo,show(0:Int)=((0:Nat):Int) from rfl,e]
  congr 1
  exact decide_eq_decide.2 aCq
 |n+1,j,k,h,hk=>by
  obtain⟨k,rfl⟩:∃q,k=q+1:=⟨k-1,by omega⟩
  have hj:j<L.length:=by omega
  unfold dN.l0;rw[if_pos aCo,if_pos aCo,if_pos aCo,rd36 hj,reffew_val,Option.bind_some,List.drop_eq_getElem_cons hj]
  by_cases ha:fewC L[j]
  ·rw[if_pos (decide_eq_true ha),wr1 aCo,few_l0 L I hL hI n (j+1) k aCo aCo]
   congr 1
   exact decide_eq_decide.2 (by rw[List.forall_mem_cons];simp only[ha,true_and])
  ·rw[if_neg (by simpa using ha)]
   congr 1
   exact(decide_eq_false (fun q=>ha (q.1 _ (List.mem_cons_self)))).symm
def fewP(L:List S36)(I:List ByteArray):Prop:=(∀c∈L,fewC c)∧∀a∈I,a.size≤250
instance (L:List S36)(I:List ByteArray):Decidable (fewP L I):=by unfold fewP;infer_instance
theorem few_val(L:List S36)(I:List ByteArray)(k:Nat)(hk:L.length+I.length+2≤k)(hL:L.length≤1000)(hI:I.length≤1000):dN.f k L I=some (decide (fewP L I)):=by
 have e:=few_l0 L I hL hI L.length 0 k aCo hk;rw[List.drop_zero] at e;exact e
def okC(c:S36):Prop:=chkC c.f0 c.f1 c.f2=0
instance (c:S36):Decidable (okC c):=by unfold okC;infer_instance
def yI(L:List S36)(I:List ByteArray):Prop:=((∀c∈L,okC c)∧∀a∈I,chkI a=0)∧fewP L I
instance (L:List S36)(I:List ByteArray):Decidable (yI L I):=by unfold yI;infer_instance
theorem right_l1(L:List S36)(I:List ByteArray)(hL:L.length≤1000)(hI:I.length≤1000)(hz:∀a∈I,a.size≤140737488351232):∀(n j k:Nat),j+n=I.length→n+L.length+I.length+3≤k →
 dC.l1 k L I I (I.length:Int) (j:Int)=some (decide ((∀a∈I.drop j,chkI a=0)∧fewP L I))
 |0,j,k,h,hk=>by
  obtain⟨k,rfl⟩:∃q,k=q+1:=⟨k-1,by omega⟩
  unfold dC.l1;rw[if_neg aCo,List.drop_eq_nil_of_le aCo,few_val L I k aCo hL hI,Option.bind_some]
  congr 1
  exact decide_eq_decide.2 aCq
 |n+1,j,k,h,hk=>by
  obtain⟨k,rfl⟩:∃q,k=q+1:=⟨k-1,by omega⟩
  have hj:j<I.length:=by omega
  unfold dC.l1;rw[if_pos aCo,if_pos aCo,if_pos aCo,rdB hj];unfold qY.f;rw[if_pos (hz _ (List.getElem_mem hj)),Option.bind_some,List.drop_eq_getElem_cons hj]
  by_cases ha:chkI I[j]=0
  ·rw[if_pos ha,wr1 aCo,right_l1 L I hL hI hz n (j+1) k aCo aCo]
   congr 1
   exact decide_eq_decide.2 (by rw[List.forall_mem_cons];simp only[ha,true_and])
  ·rw[if_neg ha]
   congr 1
   exact(decide_eq_false (fun q=>ha (q.1 _ (List.mem_cons_self)))).symm
theorem right_l0(L:List S36)(I:List ByteArray)(hL:L.length≤1000)(hI:I.length≤1000)(hc:∀c∈L,c.f1.size≤140737488351232∧c.f2.size≤140737488351232)(hz:∀a∈I,a.size≤140737488351232):∀(n j k:Nat),j+n=L.length→n+L.length+2*I.length+4≤k →
 dC.l0 k L I L (L.length:Int) (j:Int)=some (decide (((∀c∈L.drop j,okC c)∧∀a∈I,chkI a=0)∧fewP L I))
 |0,j,k,h,hk=>by
  obtain⟨k,rfl⟩:∃q,k=q+1:=⟨k-1,by omega⟩
  unfold dC.l0;have e:=right_l1 L I hL hI hz I.length 0 k aCo aCo;rw[List.drop_zero] at e;rw[if_neg aCo,List.drop_eq_nil_of_le aCo,show(0:Int)=((0:Nat):Int) from rfl,e]
  congr 1
  exact decide_eq_decide.2 aCq
 |n+1,j,k,h,hk=>by
  obtain⟨k,rfl⟩:∃q,k=q+1:=⟨k-1,by omega⟩
  have hj:j<L.length:=by omega
  have hcj:=hc _ (List.getElem_mem hj);unfold dC.l0;rw[if_pos aCo,if_pos aCo,if_pos aCo,rd36 hj,refchk_val _ _ _ hcj.1 hcj.2,Option.bind_some,List.drop_eq_getElem_cons hj]
  by_cases ha:okC L[j]
  ·rw[if_pos (show chkC L[j].f0 L[j].f1 L[j].f2=0 from ha),wr1 aCo,right_l0 L I hL hI hc hz n (j+1) k aCo aCo]
   congr 1
   exact decide_eq_decide.2 (by rw[List.forall_mem_cons];simp only[ha,true_and])
  ·rw[if_neg (show ¬chkC L[j].f0 L[j].f1 L[j].f2=0 from ha)]
   congr 1
   exact(decide_eq_false (fun q=>ha (q.1.1 _ (List.mem_cons_self)))).symm
theorem right_val(L:List S36)(I:List ByteArray)(k:Nat)(hk:2*L.length+2*I.length+4≤k)(hL:L.length≤1000)(hI:I.length≤1000)(hc:∀c∈L,c.f1.size≤140737488351232∧c.f2.size≤140737488351232)(hz:∀a∈I,a.size≤140737488351232) :
 dC.f k L I=some (decide (yI L I)):=by
 have e:=right_l0 L I hL hI hc hz L.length 0 k aCo aCo;rw[List.drop_zero] at e;exact e
def szP(L:List S36)(I:List ByteArray):Prop:=L.length≤8∧I.length≤8∧(∀c∈L,c.f1.size≤140737488351232∧c.f2.size≤140737488351232)∧∀a∈I,a.size≤140737488351232
instance (L:List S36)(I:List ByteArray):Decidable (szP L I):=by unfold szP;infer_instance
def lW:List S36→Nat
 | []=>0
 |c::l=>c.f1.size+c.f2.size+lW l
theorem long_l0(L:List S36)(hL:L.length≤8)(hz:∀c∈L,c.f1.size≤1000∧c.f2.size≤1000):∀(n j k s:Nat),j+n=L.length→n+1≤k→s≤2000*j→iC.l0 k (s:Int) L (L.length:Int) (j:Int)=some (decide (90<s+lW (L.drop j)))
 |0,j,k,s,h,hk,hs=>by
  obtain⟨k,rfl⟩:∃q,k=q+1:=⟨k-1,by omega⟩
  unfold iC.l0;rw[if_neg aCo,List.drop_eq_nil_of_le aCo];unfold lW
  congr 1
  exact decide_eq_decide.2 ⟨fun q=>by omega,fun q=>by omega⟩
 |n+1,j,k,s,h,hk,hs=>by
  obtain⟨k,rfl⟩:∃q,k=q+1:=⟨k-1,by omega⟩
  have hj:j<L.length:=by omega
  have hcj:=hz _ (List.getElem_mem hj);unfold iC.l0;rw[if_pos aCo,if_pos aCo,if_pos aCo,rd36 hj,wr1 aCo,mJ (x:=(L[j].f1.size:Int)+_) ⟨by omega,by omega⟩,mJ (x:=(s:Int)+_) ⟨by omega,by omega⟩,List.drop_eq_getElem_cons hj];have e:=long_l0 L hL hz n (j+1) k (s+(L[j].f1.size+L[j].f2.size)) aCo aCo aCo;rw[show((s:Int)+((L[j].f1.size:Int)+(L[j].f2.size:Int)))=((s+(L[j].f1.size+L[j].f2.size):Nat):Int) by omega,e]
  congr 1
  exact decide_eq_decide.2 ⟨fun q=>by unfold lW;omega,fun q=>by unfold lW at q;omega⟩
def longP(L:List S36):Prop:=L.length≤8∧∀c∈L,c.f1.size≤1000∧c.f2.size≤1000
instance (L:List S36):Decidable (longP L):=by unfold longP;infer_instance
end Go.Proofs.YtignanmmgaldeaaGreatDoor.LawC
namespace Go.Proofs.YtignanmmgaldeaaGreatDoor
open Go.RowKit Go.Proofs.YtignanmmgaldeaaGreatDoor.PLawB Go.Proofs.YtignanmmgaldeaaGreatDoor.LawC Go.Proofs.YtignanmmgaldeaaGreatDoor.RefP Go.Proofs.YtignanmmgaldeaaGreatDoor.PCongI Go.Proofs.YtignanmmgaldeaaGreatDoor.CongM Go.Proofs.YtignanmmgaldeaaGreatDoorW.PrintWords
def eY.f(L:List S36)(I:List ByteArray):Option Bool:=if szP L I then some (decide (yI L I)) else none
theorem eY.calls(A0:Option Addr)(c0:Nat)(l0:List (S36))(A1:Option Addr)(c1:Nat)(l1:List ByteArray)(r:Bool)(w:World)(hr0:Kd.C k36 w A0 l0.length l0)(hc0:l0.length≤c0)(hr1:Kd.C Kd.string w A1 l1.length l1)(hc1:l1.length≤c1)(h:eY.f l0 l1=some r) :
 Calls Tryz.prog 46 #[.slice A0 l0.length c0,.slice A1 l1.length c1] w fun e w'=>e= .returned (.bool r)∧Below w.heap.size w w':=by
 unfold eY.f at h
 by_cases hz:szP l0 l1
 ·rw[if_pos hz] at h
  exact dC.calls 40 A0 c0 l0 A1 c1 l1 r w hr0 hc0 hr1 hc1 (by rw[right_val l0 l1 40 (by have:=hz.1;have:=hz.2.1;omega) (by have:=hz.1;omega) (by have:=hz.2.1;omega) hz.2.2.1 hz.2.2.2];exact h)
 ·rw[if_neg hz] at h;cases h
def iI.f(L:List S36):Option Bool:=if longP L then some (decide (90<lW L)) else none
theorem iI.calls(A0:Option Addr)(c0:Nat)(l0:List (S36))(r:Bool)(w:World)(hr0:Kd.C k36 w A0 l0.length l0)(hc0:l0.length≤c0)(h:iI.f l0=some r) :
 Calls Tryz.prog 47 #[.slice A0 l0.length c0] w fun e w'=>e= .returned (.bool r)∧Below w.heap.size w w':=by
 unfold iI.f at h
 by_cases hz:longP l0
 ·rw[if_pos hz] at h
  have e:=long_l0 l0 hz.1 hz.2 l0.length 0 40 0 aCo (by have:=hz.1;omega) aCo;rw[List.drop_zero,Nat.zero_add] at e;exact iC.calls 40 A0 c0 l0 r w hr0 hc0 (e.trans h)
 ·rw[if_neg hz] at h;cases h
def dJ.f(e:Bool)(m r a:ByteArray):Option Bool:=lC.f e m r a
theorem dJ.calls(a0_0:Bool)(a0_1:ByteArray)(a0_2:ByteArray)(a1:ByteArray)(r:Bool)(w:World)(hG:GW w)(h:dJ.f a0_0 a0_1 a0_2 a1=some r) :
 Calls Tryz.prog 68 #[.agg #[.bool a0_0,.string a0_1,.string a0_2],.string a1] w fun e w'=>e= .returned (.bool r)∧Below w.heap.size w w':=lC.calls a0_0 a0_1 a0_2 a1 r w hG h
end Go.Proofs.YtignanmmgaldeaaGreatDoor
end
section
set_option linter.unusedVariables false
set_option linter.unusedSimpArgs false
namespace Go.Proofs.YtignanmmgaldeaaGreatDoor.LawC
open Go.RowKit Go.Proofs.YtignanmmgaldeaaGreatDoor Go.Proofs.YtignanmmgaldeaaGreatDoor.PLawB Go.Proofs.YtignanmmgaldeaaGreatDoor.RefP Go.Proofs.YtignanmmgaldeaaGreatDoor.PCongI Go.Proofs.YtignanmmgaldeaaGreatDoor.CongM Go.Proofs.YtignanmmgaldeaaGreatDoorW.PrintWords
abbrev E0(o:Option (Int×Int)):Bool:=(encC o).1
abbrev E1(o:Option (Int×Int)):ByteArray:=(encC o).2.1
abbrev E2(o:Option (Int×Int)):ByteArray:=(encC o).2.2
def sC(o:Option (Int×Int)):S36:=⟨E0 o,E1 o,E2 o⟩
theorem vV{c:Option (Int×Int)}(h:bV c):(E1 c).size≤101∧(E2 c).size≤101:=by
 cases c with
 |none=>exact⟨by show(0:Nat)≤101;omega,by show(0:Nat)≤101;omega⟩
 |some c=>exact⟨size_text h.2.1 aCo,size_text h.2.2 aCo⟩
theorem v_few{c d:Option (Int×Int)}(hc:bV c)(hd:bV d):few4 (E1 c) (E2 c) (E1 d) (E2 d):=by
 have a:=vV hc;have b:=vV hd;exact⟨by omega,by omega,by omega,by omega⟩
theorem v_chk2{c d:Option (Int×Int)}(hc:bV c)(hd:bV d):pY (E0 c) (E1 c) (E2 c) (E0 d) (E1 d) (E2 d)=0:=by
 unfold pY;rw[if_pos (chkC_enc hc)];exact chkC_enc hd
theorem v_res{F:Option (Int×Int)→Option (Int×Int)→Option (Int×Int)}{c d:Option (Int×Int)}(hc:bV c)(hd:bV d):resC F (E0 c) (E1 c) (E2 c) (E0 d) (E1 d) (E2 d)=(E0 (F c d),E1 (F c d),E2 (F c d),0):=by
 unfold resC;rw[if_pos (v_chk2 hc hd),mM,mM]
theorem vK{c d:Option (Int×Int)}(hc:bV c)(hd:bV d):dZ.f (E0 c) (E1 c) (E2 c) (E0 d) (E1 d) (E2 d)=some (E0 (jU 100 c d),E1 (jU 100 c d),E2 (jU 100 c d),0):=by
 unfold dZ.f;rw[if_pos (v_few hc hd),v_res hc hd]
theorem v_meet{c d:Option (Int×Int)}(hc:bV c)(hd:bV d):eX.f (E0 c) (E1 c) (E2 c) (E0 d) (E1 d) (E2 d)=some (E0 (eX.o c d),E1 (eX.o c d),E2 (eX.o c d),0):=by
 unfold eX.f;rw[if_pos (v_few hc hd),v_res hc hd]
theorem v_add{c d:Option (Int×Int)}(hc:bV c)(hd:bV d):iL.f (E0 c) (E1 c) (E2 c) (E0 d) (E1 d) (E2 d)=some (E0 (iL.o c d),E1 (iL.o c d),E2 (iL.o c d),0):=by
 unfold iL.f;rw[if_pos (v_few hc hd),v_res hc hd]
theorem v_sub{c d:Option (Int×Int)}(hc:bV c)(hd:bV d):iD.f (E0 c) (E1 c) (E2 c) (E0 d) (E1 d) (E2 d)=some (E0 (iD.o c d),E1 (iD.o c d),E2 (iD.o c d),0):=by
 unfold iD.f;rw[if_pos (v_few hc hd),v_res hc hd]
theorem v_mul{c d:Option (Int×Int)}(hc:bV c)(hd:bV d):iM.f (E0 c) (E1 c) (E2 c) (E0 d) (E1 d) (E2 d)=some (E0 (iM.o c d),E1 (iM.o c d),E2 (iM.o c d),0):=by
 unfold iM.f;rw[if_pos (v_few hc hd),v_res hc hd]
theorem v_quo{c d:Option (Int×Int)}(hc:bV c)(hd:bV d):iP.f (E0 c) (E1 c) (E2 c) (E0 d) (E1 d) (E2 d)=some (E0 (iP.o c d),E1 (iP.o c d),E2 (iP.o c d),0):=by
 unfold iP.f;rw[if_pos (v_few hc hd),v_res hc hd]
theorem v_rem{c d:Option (Int×Int)}(hc:bV c)(hd:bV d):iQ.f (E0 c) (E1 c) (E2 c) (E0 d) (E1 d) (E2 d)=some (E0 (iQ.o c d),E1 (iQ.o c d),E2 (iQ.o c d),0):=by
 unfold iQ.f;rw[if_pos (v_few hc hd),v_res hc hd]
theorem wL{c d:Option (Int×Int)}(hc:bV c)(hd:bV d):fD.f (E0 c) (E1 c) (E2 c) (E0 d) (E1 d) (E2 d)=some (decide (leO c d),0):=by
 unfold fD.f;rw[if_pos (v_few hc hd),if_pos (v_chk2 hc hd),v_chk2 hc hd,mM,mM]
theorem chkI_text{z:Int}{m:Nat}(hz:Bd m z)(hm:1≤m)(h4:m≤4096):chkI (text z)=0:=by
 unfold chkI;have:=lZ hz aCo;rw[if_pos (rO z).1,kQ,if_neg aCo]
theorem v_holds{c:Option (Int×Int)}{z:Int}{m:Nat}(hc:bV c)(hz:Bd m z)(hm:1≤m)(h4:m≤4096):iU.f (E0 c) (E1 c) (E2 c) (text z)=some (decide (memO c z),0):=by
 have a:=vV hc;have b:=size_text hz hm
 have e:hldE (E0 c) (E1 c) (E2 c) (text z)=0:=by
  unfold hldE;rw[if_pos (chkC_enc hc)];exact chkI_text hz hm h4
 unfold iU.f;rw[if_pos ⟨by omega,by omega,by omega⟩,if_pos e,e,mM,dQ]
theorem v_in{c:Option (Int×Int)}{z:Int}{m:Nat}(hc:bV c)(hz:Bd m z)(hm:1≤m)(h4:m≤4096):dJ.f (E0 c) (E1 c) (E2 c) (text z)=some (decide (memO c z)):=by
 unfold dJ.f lC.f;rw[v_holds hc hz hm h4,Option.bind_some]
 by_cases q:memO c z
 ·rw[decide_eq_true q];rfl
 ·rw[decide_eq_false q];rfl
theorem qA(m r:Int):bV (some (cls 100 m r)):=by
 refine⟨yT 100 m r,?_,?_⟩ <;> unfold cls <;> split
 ·next h=>exact(by unfold Bd;rw[Int.natAbs_natCast];exact h.1)
 ·show(1:Nat)<10 ^ 100;decide +kernel
 ·next h=>exact h.2
 ·show(0:Nat)<10 ^ 100;decide +kernel
theorem nV{c d:Option (Int×Int)}(hc:bV c)(hd:bV d):bV (jU 100 c d):=by
 cases c with
 |none=>exact hd
 |some c=>cases d with
  |none=>exact hc
  |some d=>exact qA _ _
theorem v_of{z:Int}{m:Nat}(hz:Bd m z)(hm:1≤m)(h4:m≤4096):vU.f (text z)=some (E0 (some (cls 100 0 z)),E1 (some (cls 100 0 z)),E2 (some (cls 100 0 z)),0):=by
 have b:=size_text hz hm;unfold vU.f mkC
 have e:fM (⟨#[48]⟩:ByteArray) (text z)=0:=by
  unfold fM;rw[if_pos (by decide +kernel)];exact chkI_text hz hm h4
 rw[if_pos aCo,if_pos e,dQ,show aN (⟨#[48]⟩:ByteArray)=0 by decide +kernel]
theorem rC{c:S36}(h:okC c):∃o,bV o∧c=sC o:=by
 obtain⟨o,go,eo⟩:=zV h;refine⟨o,go,?_⟩;obtain⟨f0,f1,f2⟩:=c;unfold sC E0 E1 E2;rw[←eo]
theorem aB1{a:ByteArray}(h:chkI a=0)(h5:a.size≤250):∃z,a=text z∧Bd 250 z:=by
 have hc:canon a.data.toList=true:=by
  unfold chkI at h
  by_cases hc:canon a.data.toList=true
  ·exact hc
  ·rw[if_neg hc] at h;cases h
 obtain⟨z,rfl⟩:=lQ a hc;exact⟨z,rfl,pG _ (by rw[←kQ];exact Nat.le_trans (digN_le _) h5)⟩
theorem xP(x:Int):Bd (text x).size x:=pG _ (by rw[←kQ];exact digN_le _)
theorem size_pos(x:Int):1≤(text x).size:=by
 have h:=(rO x).1;rcases Nat.eq_zero_or_pos (text x).size with e|e
 ·rw[Lib.size_eq] at e
  rw[List.eq_nil_of_length_eq_zero e] at h;exact absurd h aCr
 ·exact e
theorem dec_bne{p q:Prop}[Decidable p][Decidable q](h:p↔q):(decide p != decide q)=false:=by
 rw[decide_eq_decide.2 h];exact bne_self_eq_false _
theorem yY(c d:Option (Int×Int)):leO c (jU 100 c d):=by
 cases c with
 |none=>trivial
 |some c=>cases d with
  |none=>exact aAc c
  |some d=>exact pX 100 c d
theorem yZ(c d:Option (Int×Int)):leO d (jU 100 c d):=by
 cases d with
 |none=>trivial
 |some d=>cases c with
  |none=>exact aAc d
  |some c=>exact oG 100 c d
theorem leO_mem{c d:Option (Int×Int)}(h:leO c d){z:Int}(k:memO c z):memO d z:=by
 cases c with
 |none=>exact k.elim
 |some c=>cases d with
  |none=>exact h.elim
  |some d=>exact leC_mem h k
theorem leO_trans{c d e:Option (Int×Int)}(h:leO c d)(k:leO d e):leO c e:=by
 cases c with
 |none=>trivial
 |some c=>cases d with
  |none=>exact h.elim
  |some d=>cases e with
   |none=>exact k.elim
   |some e=>exact wS h k
theorem good_meet{c d:Option (Int×Int)}(hc:bV c)(hd:bV d):bV (eX.o c d):=by
 cases c with
 |none=>trivial
 |some c=>cases d with
  |none=>trivial
  |some d=>
   show bV (rQ 100 c d);unfold rQ
   split
   ·exact hc
   ·split
    ·exact hd
    ·split
     ·trivial
     ·exact qA _ _
theorem meet_mem{c d:Option (Int×Int)}{z:Int}(h:memO c z)(k:memO d z):memO (eX.o c d) z:=by
 cases c with
 |none=>exact h.elim
 |some c=>cases d with
  |none=>exact k.elim
  |some d=>
   obtain⟨e,he,hm⟩:=meetC_mem 100 h k;show memO (rQ 100 c d) z;rw[he];exact hm
theorem short_bd{c d:Int×Int}(h:¬90<lW [sC (some c),sC (some d)]):∃m n,Bd m c.1∧Bd m c.2∧Bd n d.1∧Bd n d.2∧m+n≤90:=by
 have e:lW [sC (some c),sC (some d)]=(text c.1).size+(text c.2).size+((text d.1).size+(text d.2).size+0):=rfl;rw[e] at h;exact⟨(text c.1).size+(text c.2).size,(text d.1).size+(text d.2).size,(xP c.1).mono aCo,(xP c.2).mono aCo,(xP d.1).mono aCo,(xP d.2).mono aCo,by omega⟩
theorem meet_snd{c d:Option (Int×Int)}(h:¬90<lW [sC c,sC d]){z:Int}(k:memO (eX.o c d) z):memO c z∧memO d z:=by
 cases c with
 |none=>exact k.elim
 |some c=>cases d with
  |none=>exact k.elim
  |some d=>
   obtain⟨m,n,c1,c2,d1,d2,hmn⟩:=short_bd h;replace k:memO (rQ 100 c d) z:=k
   cases he:rQ 100 c d with
   |none=>rw[he] at k;exact k.elim
   |some e=>
    rw[he] at k;exact meetC_sound ((lcmI_bd c1 d1).mono aCo) he k
theorem join_least{c d e:Option (Int×Int)}(h:¬90<lW [sC c,sC d])(hc:leO c e)(hd:leO d e):leO (jU 100 c d) e:=by
 cases c with
 |none=>exact hd
 |some c=>cases d with
  |none=>exact hc
  |some d=>
   cases e with
   |none=>exact hc.elim
   |some e=>
    obtain⟨m,n,c1,c2,d1,d2,hmn⟩:=short_bd h;exact qL ((qZ (K:=90) (c1.mono aCo) (c2.mono aCo) (d1.mono aCo) (d2.mono aCo)).mono aCo) (c2.mono aCo) hc hd
theorem good_o{F:Int×Int→Int×Int→Option (Int×Int)}(hF:∀c d,bV (some c)→bV (some d)→bV (F c d)){c d:Option (Int×Int)}(hc:bV c)(hd:bV d):bV (bothO F c d):=by
 cases c with
 |none=>trivial
 |some c=>cases d with
  |none=>trivial
  |some d=>exact hF c d hc hd
theorem good_add{c d:Option (Int×Int)}(hc:bV c)(hd:bV d):bV (iL.o c d):=good_o (fun _ _ _ _=>qA _ _) hc hd
theorem aAe{c d:Option (Int×Int)}(hc:bV c)(hd:bV d):bV (iD.o c d):=good_o (fun _ _ _ _=>qA _ _) hc hd
theorem good_mul{c d:Option (Int×Int)}(hc:bV c)(hd:bV d):bV (iM.o c d):=good_o (fun _ _ _ _=>qA _ _) hc hd
theorem good_top:bV (some topC):=⟨⟨by decide,by decide⟩,by show(1:Nat)<10 ^ 100;decide +kernel,by show(0:Nat)<10 ^ 100;decide +kernel⟩
theorem good_quo{c d:Option (Int×Int)}(hc:bV c)(hd:bV d):bV (iP.o c d):=by
 refine good_o (fun c d hc hd=> ?_) hc hd;unfold quoC
 split
 ·trivial
 ·split
  ·split
   ·exact qA _ _
   ·exact good_top
  ·split
   ·exact hc
   ·exact good_top
theorem good_rem{c d:Option (Int×Int)}(hc:bV c)(hd:bV d):bV (iQ.o c d):=by
 refine good_o (fun c d hc hd=> ?_) hc hd;unfold remC
 split
 ·trivial
 ·split
  ·exact qA _ _
  ·exact qA _ _
theorem v_eq(c d:Option (Int×Int)):(E0 c==E0 d&&((E1 c).toList==(E1 d).toList&&((E2 c).toList==(E2 d).toList)))=decide (c=d):=by
 cases c with
 |none=>cases d with
  |none=>decide +kernel
  |some d=>rw[decide_eq_false aCq];rfl
 |some c=>cases d with
  |none=>rw[decide_eq_false aCq];rfl
  |some d=>
   show(false==false&&((text c.1).toList==(text d.1).toList&&((text c.2).toList==(text d.2).toList)))=_;rw[text_eq,text_eq]
   by_cases h1:c.1=d.1
   ·by_cases h2:c.2=d.2
    ·rw[decide_eq_true h1,decide_eq_true h2,decide_eq_true (congrArg some (Prod.ext h1 h2))];rfl
    ·rw[decide_eq_false h2,decide_eq_false (fun q=>h2 (congrArg Prod.snd (Option.some.inj q)))];simp
   ·rw[decide_eq_false h1,decide_eq_false (fun q=>h1 (congrArg Prod.fst (Option.some.inj q)))];simp
theorem v_ne(c d:Option (Int×Int)):(!(E0 c==E0 d)||(!((E1 c).toList==(E1 d).toList)||(!((E2 c).toList==(E2 d).toList)))) = !(decide (c=d)):=by
 rw[←v_eq,Bool.not_and,Bool.not_and]
def bdO(K:Nat):Option (Int×Int)→Prop
 |none=>True
 |some c=>Bd K c.1∧Bd K c.2
def szO(c:Option (Int×Int)):Nat:=(E1 c).size+(E2 c).size
theorem zX{c:Option (Int×Int)}{K:Nat}(h:szO c≤K):bdO K c:=by
 cases c with
 |none=>trivial
 |some c=>
  have e:szO (some c)=(text c.1).size+(text c.2).size:=rfl;exact⟨(xP c.1).mono aCo,(xP c.2).mono aCo⟩
theorem bdO.mono{c:Option (Int×Int)}{K L:Nat}(h:bdO K c)(k:K≤L):bdO L c:=by
 cases c with
 |none=>trivial
 |some c=>exact⟨h.1.mono k,h.2.mono k⟩
theorem bdO_join{c d:Option (Int×Int)}{K:Nat}(hc:bdO K c)(hd:bdO K d):bdO (K+1) (jU 100 c d):=by
 cases c with
 |none=>exact hd.mono aCo
 |some c=>cases d with
  |none=>exact bdO.mono (c:=some c) hc aCo
  |some d=>exact joinC_bd hc.1 hc.2 hd.1 hd.2
theorem long3(c d x:Option (Int×Int)):lW [sC c,sC d,sC x]=szO c+(szO d+(szO x+0)):=rfl
theorem sz_good{c:Option (Int×Int)}(h:bV c):(sC c).f1.size≤1000∧(sC c).f2.size≤1000:=by
 have a:=vV h;exact⟨by show(E1 c).size≤1000;omega,by show(E2 c).size≤1000;omega⟩
theorem v_long3{c d x:Option (Int×Int)}(hc:bV c)(hd:bV d)(hx:bV x):iI.f [sC c,sC d,sC x]=some (decide (90<lW [sC c,sC d,sC x])):=by
 unfold iI.f;rw[if_pos];refine⟨by show 3≤8;omega,?_⟩;simp only[List.forall_mem_cons];exact⟨sz_good hc,sz_good hd,sz_good hx,fun x hx=>by cases hx⟩
theorem right3(e1:Bool)(m1 r1:ByteArray)(e2:Bool)(m2 r2:ByteArray)(e3:Bool)(m3 r3:ByteArray)(h1:m1.size≤140737488351232)(h2:r1.size≤140737488351232)(h3:m2.size≤140737488351232)(h4:r2.size≤140737488351232)(h5:m3.size≤140737488351232)(h6:r3.size≤140737488351232) :
 eY.f [⟨e1,m1,r1⟩,⟨e2,m2,r2⟩,⟨e3,m3,r3⟩] []=some false∨(eY.f [⟨e1,m1,r1⟩,⟨e2,m2,r2⟩,⟨e3,m3,r3⟩] []=some true ∧
  ∃c d x,bV c∧bV d∧bV x∧(⟨e1,m1,r1⟩:S36)=sC c∧(⟨e2,m2,r2⟩:S36)=sC d∧(⟨e3,m3,r3⟩:S36)=sC x):=by
 have hz:szP [⟨e1,m1,r1⟩,⟨e2,m2,r2⟩,⟨e3,m3,r3⟩] []:=⟨by show 3≤8;omega,by show 0≤8;omega,by simp only[List.forall_mem_cons];exact⟨⟨h1,h2⟩,⟨h3,h4⟩,⟨h5,h6⟩,fun x hx=>by cases hx⟩,fun x hx=>by cases hx⟩;unfold eY.f;rw[if_pos hz]
 by_cases hr:yI [⟨e1,m1,r1⟩,⟨e2,m2,r2⟩,⟨e3,m3,r3⟩] []
 ·right
  rw[decide_eq_true hr];refine⟨rfl,?_⟩;obtain⟨⟨hC,hI⟩,hF,hG⟩:=hr;obtain⟨c,gc,ec⟩:=rC (hC _ (List.mem_cons_self));obtain⟨d,gd,ed⟩:=rC (hC _ (List.mem_cons_of_mem _ (List.mem_cons_self)));obtain⟨x,gx,ex⟩:=rC (hC _ (List.mem_cons_of_mem _ (List.mem_cons_of_mem _ (List.mem_cons_self))));exact⟨c,d,x,gc,gd,gx,ec,ed,ex⟩
 ·left
  rw[decide_eq_false hr]
end Go.Proofs.YtignanmmgaldeaaGreatDoor.LawC
end
