/- Lemmas for the proof. -/
import Derived.Test.YtignanmmgaldeaaGreatDoorZJ
section
set_option linter.unusedVariables false
set_option linter.unusedSimpArgs false
set_option maxHeartbeats 8000000
set_option maxRecDepth 100000
namespace Go.Proofs.YtignanmmgaldeaaGreatDoor.PCongW
open Go.RowKit Go.Proofs.YtignanmmgaldeaaGreatDoorW.PrintWords Go.Proofs.YtignanmmgaldeaaGreatDoorW.PrintLast Go.Proofs.YtignanmmgaldeaaGreatDoorW.PrintMore
attribute [local go_sem] gU gV iG iH
def errW:Option Int→Value
 |none=> .nilIface
 |some c=> .iface 0 (.int .i64 c)
theorem dG:errW none= .nilIface:=rfl
theorem dH(c:Int):errW (some c)= .iface 0 (.int .i64 c):=rfl
theorem eqA36(d:Nat)(w:World)(x0 y0:Bool)(x1 y1:ByteArray)(x2 y2:ByteArray) :
 (Op.equalIn (d+2) 36 (.agg #[.bool x0,.string x1,.string x2]) (.agg #[.bool y0,.string y1,.string y2])).run Tryz.prog w= .ok (x0==y0&&(x1.toList==y1.toList&&(x2.toList==y2.toList))) w:=by
 refine eqA_of Tryz.underlying36 (by kernel_rfl) ?_
 refine wC (by rfl) (by go_simp;rfl) (by go_simp;rfl) (by go_simp) ?_
 refine wC (by rfl) (by go_simp;rfl) (by go_simp;rfl) (by go_simp) ?_
 exact eqf_last (by rfl) (by go_simp;rfl) (by go_simp;rfl) (by go_simp)
def aH.f(a0:ByteArray)(a1:ByteArray):Option (Bool×ByteArray×ByteArray):=some (false,a0,a1)
theorem aH.calls(a0:ByteArray)(a1:ByteArray)(r1:Bool)(r2:ByteArray)(r3:ByteArray)(w:World)(h:aH.f a0 a1=some (r1,r2,r3)) :
 Calls Tryz.prog 98 #[.string a0,.string a1] w fun e w'=>e= .returned (.agg #[.bool r1,.string r2,.string r3])∧Below w.heap.size w w':=by
 have hu36:=Tryz.underlying36
 have HB:=aA.mk (Below.refl w.heap.size w)
 have H:(some (false,a0,a1))=some (r1,r2,r3):=h
 clear h
 simp only[Option.some.injEq,Prod.mk.injEq] at H
 obtain⟨rfl,rfl,rfl⟩:=H
 go_enter Tryz.func98,Tryz.ntmps98
 go_wp2_with(first|((with_reducible refine aV (N:=4) rfl ?_);refine bx_ 4 36 #[.bool false,.string (⟨#[]⟩:ByteArray),.string (⟨#[]⟩:ByteArray)] (h:= ?_);intro gb101 hg w3 hbox hb;have n0_:=aA.mk (jO (by repeat(first|(with_reducible first|exact HB.out|apply aX|apply aQ|apply aU)|exact HB.out)) hb);have n1_:=aA.mk (hbox);have n2_:=aA.mk ((by rw[hg];exact(fM (by repeat(first|(with_reducible first|exact HB.out|apply aX|apply aQ|apply aU)|exact HB.out))):w.heap.size≤gb101));have n3_:=aA.mk ((by rw[hg];exact(fM (by repeat(first|(with_reducible first|exact HB.out|apply aX|apply aQ|apply aU)|exact HB.out))):w.heap.size≤gb101));clear HB;have HB:=n0_;have BK101:=n1_;have GW101:=n2_;have GE101:=n3_;clear n0_ n1_ n2_ n3_;clear hb hbox hg;have hcz4_0:w3.cell? ⟨gb101,0,none⟩=some (.bool false):=(aC BK101.out 0).trans rfl;have hcz4_1:w3.cell? ⟨gb101,1,none⟩=some (.string (⟨#[]⟩:ByteArray)):=(aC BK101.out 1).trans rfl;have hcz4_2:w3.cell? ⟨gb101,2,none⟩=some (.string (⟨#[]⟩:ByteArray)):=(aC BK101.out 2).trans rfl;have hfz4_0:=eY BK101.out 0;have hfz4_1:=eY BK101.out 1;have hfz4_2:=eY BK101.out 2))
 refine bodyPost_ret (results_cell_row rfl _ _ gb101 36 #[.bool false,.string a0,.string a1] (0,0) _ rfl (by(with_reducible repeat(first|refine aN ?_ _|refine aJ ?_|refine aK ?_ _));refine fG (cs:=#[.bool false,.string a0,.string (⟨#[]⟩:ByteArray)]) ?_ 2 _ rfl;(with_reducible repeat(first|refine aN ?_ _|refine aJ ?_|refine aK ?_ _));refine fG (cs:=#[.bool false,.string (⟨#[]⟩:ByteArray),.string (⟨#[]⟩:ByteArray)]) ?_ 1 _ rfl;(with_reducible repeat(first|refine aN ?_ _|refine aJ ?_|refine aK ?_ _));refine fG (cs:=#[.bool false,.string (⟨#[]⟩:ByteArray),.string (⟨#[]⟩:ByteArray)]) ?_ 0 _ rfl;(with_reducible repeat(first|refine aN ?_ _|refine aJ ?_|refine aK ?_ _));exact BK101.out) Tryz.underlying36 rfl (by kernel_rfl)) rfl ?_
 exact⟨by first|rfl|(simp[dG,dH] <;> rfl)|(simp[*,dG,dH] <;> rfl),by repeat(first|(with_reducible first|exact HB.out|apply aX|apply aQ|apply aU|refine nJ ?_ GE101.out)|exact HB.out)⟩
def dF.f:Option (Bool×ByteArray×ByteArray):=some (false,(⟨#[49]⟩:ByteArray),(⟨#[48]⟩:ByteArray))
theorem dF.calls(r1:Bool)(r2:ByteArray)(r3:ByteArray)(w:World)(h:dF.f=some (r1,r2,r3)) :
 Calls Tryz.prog 99 #[] w fun e w'=>e= .returned (.agg #[.bool r1,.string r2,.string r3])∧Below w.heap.size w w':=by
 have hu36:=Tryz.underlying36
 have HB:=aA.mk (Below.refl w.heap.size w)
 have H:(some (false,(⟨#[49]⟩:ByteArray),(⟨#[48]⟩:ByteArray)))=some (r1,r2,r3):=h
 clear h
 simp only[Option.some.injEq,Prod.mk.injEq] at H
 obtain⟨rfl,rfl,rfl⟩:=H
 go_enter Tryz.func99,Tryz.ntmps99
 go_wp2_with(first|((with_reducible refine aV (N:=0) rfl ?_);refine bx_ 0 36 #[.bool false,.string (⟨#[]⟩:ByteArray),.string (⟨#[]⟩:ByteArray)] (h:= ?_);intro gb102 hg w1 hbox hb;have n0_:=aA.mk (jO (by repeat(first|(with_reducible first|exact HB.out|apply aX|apply aQ|apply aU)|exact HB.out)) hb);have n1_:=aA.mk (hbox);have n2_:=aA.mk ((by rw[hg];exact(fM (by repeat(first|(with_reducible first|exact HB.out|apply aX|apply aQ|apply aU)|exact HB.out))):w.heap.size≤gb102));have n3_:=aA.mk ((by rw[hg];exact(fM (by repeat(first|(with_reducible first|exact HB.out|apply aX|apply aQ|apply aU)|exact HB.out))):w.heap.size≤gb102));clear HB;have HB:=n0_;have BK102:=n1_;have GW102:=n2_;have GE102:=n3_;clear n0_ n1_ n2_ n3_;clear hb hbox hg;have hcz2_0:w1.cell? ⟨gb102,0,none⟩=some (.bool false):=(aC BK102.out 0).trans rfl;have hcz2_1:w1.cell? ⟨gb102,1,none⟩=some (.string (⟨#[]⟩:ByteArray)):=(aC BK102.out 1).trans rfl;have hcz2_2:w1.cell? ⟨gb102,2,none⟩=some (.string (⟨#[]⟩:ByteArray)):=(aC BK102.out 2).trans rfl;have hfz2_0:=eY BK102.out 0;have hfz2_1:=eY BK102.out 1;have hfz2_2:=eY BK102.out 2))
 refine bodyPost_ret (results_cell_row rfl _ _ gb102 36 #[.bool false,.string (⟨#[49]⟩:ByteArray),.string (⟨#[48]⟩:ByteArray)] (0,0) _ rfl (by(with_reducible repeat(first|refine aN ?_ _|refine aJ ?_|refine aK ?_ _));refine fG (cs:=#[.bool false,.string (⟨#[49]⟩:ByteArray),.string (⟨#[]⟩:ByteArray)]) ?_ 2 _ rfl;(with_reducible repeat(first|refine aN ?_ _|refine aJ ?_|refine aK ?_ _));refine fG (cs:=#[.bool false,.string (⟨#[]⟩:ByteArray),.string (⟨#[]⟩:ByteArray)]) ?_ 1 _ rfl;(with_reducible repeat(first|refine aN ?_ _|refine aJ ?_|refine aK ?_ _));refine fG (cs:=#[.bool false,.string (⟨#[]⟩:ByteArray),.string (⟨#[]⟩:ByteArray)]) ?_ 0 _ rfl;(with_reducible repeat(first|refine aN ?_ _|refine aJ ?_|refine aK ?_ _));exact BK102.out) Tryz.underlying36 rfl (by kernel_rfl)) rfl ?_
 exact⟨by first|rfl|(simp[dG,dH] <;> rfl)|(simp[*,dG,dH] <;> rfl),by repeat(first|(with_reducible first|exact HB.out|apply aX|apply aQ|apply aU|refine nJ ?_ GE102.out)|exact HB.out)⟩
attribute [local go_sem high] eqA36
mutual
def aW.j0:Nat→Bool→Option (Bool)
 |0,_=>none
 |k+1,x81=>if x81=true then(some false) else((aH.f (⟨#[49,50]⟩:ByteArray) (⟨#[52]⟩:ByteArray)).bind fun bt170=>((aH.f (⟨#[48]⟩:ByteArray) (⟨#[52]⟩:ByteArray)).bind fun bt173=>((jD.f bt170.1 bt170.2.1 bt170.2.2 bt173.1 bt173.2.1 bt173.2.2).bind fun bt176=>((aH.f (⟨#[49,50]⟩:ByteArray) (⟨#[52]⟩:ByteArray)).bind fun bt181=>((aH.f (⟨#[48]⟩:ByteArray) (⟨#[53]⟩:ByteArray)).bind fun bt184=>((jD.f bt181.1 bt181.2.1 bt181.2.2 bt184.1 bt184.2.1 bt184.2.2).bind fun bt187=>((aH.f (⟨#[49,50]⟩:ByteArray) (⟨#[52]⟩:ByteArray)).bind fun bt192=>((aH.f (⟨#[48]⟩:ByteArray) (⟨#[54]⟩:ByteArray)).bind fun bt195=>((jE.f bt192.1 bt192.2.1 bt192.2.2 bt195.1 bt195.2.1 bt195.2.2).bind fun bt198=>((aH.f (⟨#[49,50]⟩:ByteArray) (⟨#[52]⟩:ByteArray)).bind fun bt203=>((aH.f (⟨#[48]⟩:ByteArray) (⟨#[56]⟩:ByteArray)).bind fun bt206=>((jE.f bt203.1 bt203.2.1 bt203.2.2 bt206.1 bt206.2.1 bt206.2.2).bind fun bt209=>(if(wrap64 ((wrap64 ((wrap64 (bt176.2.2.2+bt187.2.2.2))+bt198.2.2.2))+bt209.2.2.2))=0 then((aH.f (⟨#[51]⟩:ByteArray) (⟨#[49]⟩:ByteArray)).bind fun bt214=>(if(!(bt176.1==bt214.1)||(!(bt176.2.1.toList==bt214.2.1.toList)||(!(bt176.2.2.1.toList==bt214.2.2.toList))))=true then(aW.j1 k true) else((dF.f).bind fun bt217=>(if(!(bt187.1==bt217.1)||(!(bt187.2.1.toList==bt217.2.1.toList)||(!(bt187.2.2.1.toList==bt217.2.2.toList))))=true then(aW.j1 k true) else((aH.f (⟨#[48]⟩:ByteArray) (⟨#[52]⟩:ByteArray)).bind fun bt220=>(if(!(bt198.1==bt220.1)||(!(bt198.2.1.toList==bt220.2.1.toList)||(!(bt198.2.2.1.toList==bt220.2.2.toList))))=true then(aW.j1 k true) else((aH.f (⟨#[52]⟩:ByteArray) (⟨#[48]⟩:ByteArray)).bind fun bt223=>(aW.j1 k (!(bt209.1==bt223.1)||(!(bt209.2.1.toList==bt223.2.1.toList)||(!(bt209.2.2.1.toList==bt223.2.2.toList)))))))))))) else(aW.j1 k true))))))))))))))
def aW.j1:Nat→Bool→Option (Bool)
 |0,_=>none
 |k+1,x133=>if x133=true then(some false) else((aH.f (⟨#[54]⟩:ByteArray) (⟨#[50]⟩:ByteArray)).bind fun bt226=>((jC.f bt226.1 bt226.2.1 bt226.2.2 (⟨#[45,53]⟩:ByteArray)).bind fun bt229=>((aH.f (⟨#[54]⟩:ByteArray) (⟨#[50]⟩:ByteArray)).bind fun bt231=>((iC.f bt231.1 bt231.2.1 bt231.2.2 (⟨#[49]⟩:ByteArray)).bind fun bt234=>(if bt229.2=0 then(if bt234.2=0 then(if bt229.1.toList=([45,52]:List UInt8) then(if bt234.1.toList=([45,52]:List UInt8) then((dF.f).bind fun bt236=>((aH.f (⟨#[49]⟩:ByteArray) (⟨#[48]⟩:ByteArray)).bind fun bt239=>(some (bt236.1==bt239.1&&(bt236.2.1.toList==bt239.2.1.toList&&(bt236.2.2.toList==bt239.2.2.toList)))))) else(some false)) else(some false)) else(some false)) else(some false))))))
end
def aW.f(k:Nat):Option (Bool):=(aH.f (⟨#[54]⟩:ByteArray) (⟨#[50]⟩:ByteArray)).bind fun bt103=>((aH.f (⟨#[57]⟩:ByteArray) (⟨#[53]⟩:ByteArray)).bind fun bt106=>((iT.f bt103.1 bt103.2.1 bt103.2.2 bt106.1 bt106.2.1 bt106.2.2).bind fun bt109=>((aH.f (⟨#[52]⟩:ByteArray) (⟨#[48]⟩:ByteArray)).bind fun bt114=>((aH.f (⟨#[50]⟩:ByteArray) (⟨#[49]⟩:ByteArray)).bind fun bt117=>((iT.f bt114.1 bt114.2.1 bt114.2.2 bt117.1 bt117.2.1 bt117.2.2).bind fun bt120=>((aH.f (⟨#[48]⟩:ByteArray) (⟨#[51]⟩:ByteArray)).bind fun bt125=>((aH.f (⟨#[48]⟩:ByteArray) (⟨#[49,49]⟩:ByteArray)).bind fun bt128=>((pF.f bt125.1 bt125.2.1 bt125.2.2 bt128.1 bt128.2.1 bt128.2.2).bind fun bt131=>((aH.f (⟨#[50]⟩:ByteArray) (⟨#[49]⟩:ByteArray)).bind fun bt136=>((aH.f (⟨#[52]⟩:ByteArray) (⟨#[50]⟩:ByteArray)).bind fun bt139=>((kU.f bt136.1 bt136.2.1 bt136.2.2 bt139.1 bt139.2.1 bt139.2.2).bind fun bt142=>((aH.f (⟨#[50]⟩:ByteArray) (⟨#[49]⟩:ByteArray)).bind fun bt147=>((aH.f (⟨#[52]⟩:ByteArray) (⟨#[50]⟩:ByteArray)).bind fun bt150=>((kT.f bt147.1 bt147.2.1 bt147.2.2 bt150.1 bt150.2.1 bt150.2.2).bind fun bt153=>(if(wrap64 ((wrap64 ((wrap64 ((wrap64 (bt109.2.2.2+bt120.2.2.2))+bt131.2.2.2))+bt142.2.2.2))+bt153.2.2.2))=0 then((aH.f (⟨#[49,56]⟩:ByteArray) (⟨#[49,52]⟩:ByteArray)).bind fun bt158=>(if(!(bt109.1==bt158.1)||(!(bt109.2.1.toList==bt158.2.1.toList)||(!(bt109.2.2.1.toList==bt158.2.2.toList))))=true then(aW.j0 k true) else(if bt120.1=true then((aH.f (⟨#[56]⟩:ByteArray) (⟨#[51]⟩:ByteArray)).bind fun bt161=>(if(!(bt131.1==bt161.1)||(!(bt131.2.1.toList==bt161.2.1.toList)||(!(bt131.2.2.1.toList==bt161.2.2.toList))))=true then(aW.j0 k true) else((aH.f (⟨#[52]⟩:ByteArray) (⟨#[50]⟩:ByteArray)).bind fun bt164=>(if(!(bt142.1==bt164.1)||(!(bt142.2.1.toList==bt164.2.1.toList)||(!(bt142.2.2.1.toList==bt164.2.2.toList))))=true then(aW.j0 k true) else((aH.f (⟨#[50]⟩:ByteArray) (⟨#[49]⟩:ByteArray)).bind fun bt167=>(aW.j0 k (!(bt153.1==bt167.1)||(!(bt153.2.1.toList==bt167.2.1.toList)||(!(bt153.2.2.1.toList==bt167.2.2.toList)))))))))) else(aW.j0 k true)))) else(aW.j0 k true))))))))))))))))
def aW.T6:Bool×List (List Nat×List Nat):=(true,[([],[]),([],[]),([0,1],[0,1]),([],[]),([2,3],[2,3]),([],[]),([4,5],[4,5]),([],[]),([6,7],[6,7]),([8],[8]),([9],[9]),([10],[10]),([10,10],[10]),([11,12,10],[10,11,12]),([10,13],[10,13]),([14,12],[14]),([15],[15]),([16,15],[15,16]),([17,15],[15,17]),([15,18],[15,18]),([19,15],[19]),([20],[20]),([20,20],[20]),([21,22,20],[20,21,22]),([20,23],[20,23]),([24,22],[24]),([25],[25]),([25,25],[25]),([26,27,25],[25,26,27]),([25,28],[25,28]),([29,27],[29]),([30],[30]),([30,30],[30]),([31,32,30],[30,31,32]),([30,33],[30,33])])
def aW.B6:List Nat:= [0,0,3,0,15,0,63,0,255,511,1023,2047,2047,8191,16383,32767,65535,131071,262143,524287,1048575,2097151,2097151,8388607,16777215,33554431,67108863,67108863,268435455,536870911,1073741823,2147483647,2147483647,8589934591,17179869183]
theorem aW.tab6:rtab .any (opsOf Tryz.f35 6)=aW.T6:=by kernel_rfl
theorem aW.bits6:kC aW.T6.2 aW.B6=true:=by kernel_rfl
def aW.T12:Bool×List (List Nat×List Nat):=(true,[([],[]),([],[]),([0,1],[0,1]),([],[]),([2,3],[2,3]),([],[]),([4,5],[4,5]),([6],[6]),([7],[7]),([8],[8]),([8,8],[8]),([9,10,8],[8,9,10]),([8,11],[8,11]),([12,10],[12]),([13],[13]),([13,13],[13]),([14,15,13],[13,14,15]),([13,16],[13,16]),([17,15],[17]),([18],[18]),([18,18],[18]),([19,20,18],[18,19,20]),([18,21],[18,21]),([22,20],[22]),([23],[23]),([23,23],[23]),([24,25,23],[23,24,25]),([23,26],[23,26])])
def aW.B12:List Nat:= [0,0,3,0,15,0,63,127,255,511,511,2047,4095,8191,16383,16383,65535,131071,262143,524287,524287,2097151,4194303,8388607,16777215,16777215,67108863,134217727]
theorem aW.tab12:rtab .any (opsOf Tryz.f35 12)=aW.T12:=by kernel_rfl
theorem aW.bits12:kC aW.T12.2 aW.B12=true:=by kernel_rfl
theorem aw103:aH.f (⟨#[54]⟩:ByteArray) (⟨#[50]⟩:ByteArray)=some (false,(⟨#[54]⟩:ByteArray),(⟨#[50]⟩:ByteArray)):=by decide +kernel
theorem aw106:aH.f (⟨#[57]⟩:ByteArray) (⟨#[53]⟩:ByteArray)=some (false,(⟨#[57]⟩:ByteArray),(⟨#[53]⟩:ByteArray)):=by decide +kernel
theorem aw109:iT.f false (⟨#[54]⟩:ByteArray) (⟨#[50]⟩:ByteArray) false (⟨#[57]⟩:ByteArray) (⟨#[53]⟩:ByteArray)=some (false,(⟨#[49,56]⟩:ByteArray),(⟨#[49,52]⟩:ByteArray),0):=by decide +kernel
theorem aw114:aH.f (⟨#[52]⟩:ByteArray) (⟨#[48]⟩:ByteArray)=some (false,(⟨#[52]⟩:ByteArray),(⟨#[48]⟩:ByteArray)):=by decide +kernel
theorem aw117:aH.f (⟨#[50]⟩:ByteArray) (⟨#[49]⟩:ByteArray)=some (false,(⟨#[50]⟩:ByteArray),(⟨#[49]⟩:ByteArray)):=by decide +kernel
theorem aw120:iT.f false (⟨#[52]⟩:ByteArray) (⟨#[48]⟩:ByteArray) false (⟨#[50]⟩:ByteArray) (⟨#[49]⟩:ByteArray)=some (true,(⟨#[]⟩:ByteArray),(⟨#[]⟩:ByteArray),0):=by decide +kernel
theorem aw125:aH.f (⟨#[48]⟩:ByteArray) (⟨#[51]⟩:ByteArray)=some (false,(⟨#[48]⟩:ByteArray),(⟨#[51]⟩:ByteArray)):=by decide +kernel
theorem aw128:aH.f (⟨#[48]⟩:ByteArray) (⟨#[49,49]⟩:ByteArray)=some (false,(⟨#[48]⟩:ByteArray),(⟨#[49,49]⟩:ByteArray)):=by decide +kernel
theorem aw131:pF.f false (⟨#[48]⟩:ByteArray) (⟨#[51]⟩:ByteArray) false (⟨#[48]⟩:ByteArray) (⟨#[49,49]⟩:ByteArray)=some (false,(⟨#[56]⟩:ByteArray),(⟨#[51]⟩:ByteArray),0):=by decide +kernel
theorem aw136:aH.f (⟨#[50]⟩:ByteArray) (⟨#[49]⟩:ByteArray)=some (false,(⟨#[50]⟩:ByteArray),(⟨#[49]⟩:ByteArray)):=by decide +kernel
theorem aw139:aH.f (⟨#[52]⟩:ByteArray) (⟨#[50]⟩:ByteArray)=some (false,(⟨#[52]⟩:ByteArray),(⟨#[50]⟩:ByteArray)):=by decide +kernel
theorem aw142:kU.f false (⟨#[50]⟩:ByteArray) (⟨#[49]⟩:ByteArray) false (⟨#[52]⟩:ByteArray) (⟨#[50]⟩:ByteArray)=some (false,(⟨#[52]⟩:ByteArray),(⟨#[50]⟩:ByteArray),0):=by decide +kernel
theorem aw147:aH.f (⟨#[50]⟩:ByteArray) (⟨#[49]⟩:ByteArray)=some (false,(⟨#[50]⟩:ByteArray),(⟨#[49]⟩:ByteArray)):=by decide +kernel
theorem aw150:aH.f (⟨#[52]⟩:ByteArray) (⟨#[50]⟩:ByteArray)=some (false,(⟨#[52]⟩:ByteArray),(⟨#[50]⟩:ByteArray)):=by decide +kernel
theorem aw153:kT.f false (⟨#[50]⟩:ByteArray) (⟨#[49]⟩:ByteArray) false (⟨#[52]⟩:ByteArray) (⟨#[50]⟩:ByteArray)=some (false,(⟨#[50]⟩:ByteArray),(⟨#[49]⟩:ByteArray),0):=by decide +kernel
theorem aw158:aH.f (⟨#[49,56]⟩:ByteArray) (⟨#[49,52]⟩:ByteArray)=some (false,(⟨#[49,56]⟩:ByteArray),(⟨#[49,52]⟩:ByteArray)):=by decide +kernel
theorem aw161:aH.f (⟨#[56]⟩:ByteArray) (⟨#[51]⟩:ByteArray)=some (false,(⟨#[56]⟩:ByteArray),(⟨#[51]⟩:ByteArray)):=by decide +kernel
theorem aw164:aH.f (⟨#[52]⟩:ByteArray) (⟨#[50]⟩:ByteArray)=some (false,(⟨#[52]⟩:ByteArray),(⟨#[50]⟩:ByteArray)):=by decide +kernel
theorem aw167:aH.f (⟨#[50]⟩:ByteArray) (⟨#[49]⟩:ByteArray)=some (false,(⟨#[50]⟩:ByteArray),(⟨#[49]⟩:ByteArray)):=by decide +kernel
theorem aw170:aH.f (⟨#[49,50]⟩:ByteArray) (⟨#[52]⟩:ByteArray)=some (false,(⟨#[49,50]⟩:ByteArray),(⟨#[52]⟩:ByteArray)):=by decide +kernel
theorem aw173:aH.f (⟨#[48]⟩:ByteArray) (⟨#[52]⟩:ByteArray)=some (false,(⟨#[48]⟩:ByteArray),(⟨#[52]⟩:ByteArray)):=by decide +kernel
theorem aw176:jD.f false (⟨#[49,50]⟩:ByteArray) (⟨#[52]⟩:ByteArray) false (⟨#[48]⟩:ByteArray) (⟨#[52]⟩:ByteArray)=some (false,(⟨#[51]⟩:ByteArray),(⟨#[49]⟩:ByteArray),0):=by decide +kernel
theorem aw181:aH.f (⟨#[49,50]⟩:ByteArray) (⟨#[52]⟩:ByteArray)=some (false,(⟨#[49,50]⟩:ByteArray),(⟨#[52]⟩:ByteArray)):=by decide +kernel
theorem aw184:aH.f (⟨#[48]⟩:ByteArray) (⟨#[53]⟩:ByteArray)=some (false,(⟨#[48]⟩:ByteArray),(⟨#[53]⟩:ByteArray)):=by decide +kernel
theorem aw187:jD.f false (⟨#[49,50]⟩:ByteArray) (⟨#[52]⟩:ByteArray) false (⟨#[48]⟩:ByteArray) (⟨#[53]⟩:ByteArray)=some (false,(⟨#[49]⟩:ByteArray),(⟨#[48]⟩:ByteArray),0):=by decide +kernel
theorem aw192:aH.f (⟨#[49,50]⟩:ByteArray) (⟨#[52]⟩:ByteArray)=some (false,(⟨#[49,50]⟩:ByteArray),(⟨#[52]⟩:ByteArray)):=by decide +kernel
theorem aw195:aH.f (⟨#[48]⟩:ByteArray) (⟨#[54]⟩:ByteArray)=some (false,(⟨#[48]⟩:ByteArray),(⟨#[54]⟩:ByteArray)):=by decide +kernel
theorem aw198:jE.f false (⟨#[49,50]⟩:ByteArray) (⟨#[52]⟩:ByteArray) false (⟨#[48]⟩:ByteArray) (⟨#[54]⟩:ByteArray)=some (false,(⟨#[48]⟩:ByteArray),(⟨#[52]⟩:ByteArray),0):=by decide +kernel
theorem aw203:aH.f (⟨#[49,50]⟩:ByteArray) (⟨#[52]⟩:ByteArray)=some (false,(⟨#[49,50]⟩:ByteArray),(⟨#[52]⟩:ByteArray)):=by decide +kernel
theorem aw206:aH.f (⟨#[48]⟩:ByteArray) (⟨#[56]⟩:ByteArray)=some (false,(⟨#[48]⟩:ByteArray),(⟨#[56]⟩:ByteArray)):=by decide +kernel
theorem aw209:jE.f false (⟨#[49,50]⟩:ByteArray) (⟨#[52]⟩:ByteArray) false (⟨#[48]⟩:ByteArray) (⟨#[56]⟩:ByteArray)=some (false,(⟨#[52]⟩:ByteArray),(⟨#[48]⟩:ByteArray),0):=by decide +kernel
theorem aw214:aH.f (⟨#[51]⟩:ByteArray) (⟨#[49]⟩:ByteArray)=some (false,(⟨#[51]⟩:ByteArray),(⟨#[49]⟩:ByteArray)):=by decide +kernel
theorem aw217:dF.f=some (false,(⟨#[49]⟩:ByteArray),(⟨#[48]⟩:ByteArray)):=by decide +kernel
theorem aw220:aH.f (⟨#[48]⟩:ByteArray) (⟨#[52]⟩:ByteArray)=some (false,(⟨#[48]⟩:ByteArray),(⟨#[52]⟩:ByteArray)):=by decide +kernel
theorem aw223:aH.f (⟨#[52]⟩:ByteArray) (⟨#[48]⟩:ByteArray)=some (false,(⟨#[52]⟩:ByteArray),(⟨#[48]⟩:ByteArray)):=by decide +kernel
theorem aw226:aH.f (⟨#[54]⟩:ByteArray) (⟨#[50]⟩:ByteArray)=some (false,(⟨#[54]⟩:ByteArray),(⟨#[50]⟩:ByteArray)):=by decide +kernel
theorem aw229:jC.f false (⟨#[54]⟩:ByteArray) (⟨#[50]⟩:ByteArray) (⟨#[45,53]⟩:ByteArray)=some ((⟨#[45,52]⟩:ByteArray),0):=by decide +kernel
theorem aw231:aH.f (⟨#[54]⟩:ByteArray) (⟨#[50]⟩:ByteArray)=some (false,(⟨#[54]⟩:ByteArray),(⟨#[50]⟩:ByteArray)):=by decide +kernel
theorem aw234:iC.f false (⟨#[54]⟩:ByteArray) (⟨#[50]⟩:ByteArray) (⟨#[49]⟩:ByteArray)=some ((⟨#[45,52]⟩:ByteArray),0):=by decide +kernel
theorem aw236:dF.f=some (false,(⟨#[49]⟩:ByteArray),(⟨#[48]⟩:ByteArray)):=by decide +kernel
theorem aw239:aH.f (⟨#[49]⟩:ByteArray) (⟨#[48]⟩:ByteArray)=some (false,(⟨#[49]⟩:ByteArray),(⟨#[48]⟩:ByteArray)):=by decide +kernel
theorem aW.calls(k:Nat)(r:Bool)(w:World)(hG:GW w)(h:aW.f k=some r)(hrT:r=true) :
 Calls Tryz.prog 35 #[] w fun e w'=>e= .returned (.bool r)∧Below w.heap.size w w':=by
 have HG:=aA.mk hG
 clear hG
 have hu36:=Tryz.underlying36
 have HB:=aA.mk (Below.refl w.heap.size w)
 have H:((aH.f (⟨#[54]⟩:ByteArray) (⟨#[50]⟩:ByteArray)).bind fun bt103=>((aH.f (⟨#[57]⟩:ByteArray) (⟨#[53]⟩:ByteArray)).bind fun bt106=>((iT.f bt103.1 bt103.2.1 bt103.2.2 bt106.1 bt106.2.1 bt106.2.2).bind fun bt109=>((aH.f (⟨#[52]⟩:ByteArray) (⟨#[48]⟩:ByteArray)).bind fun bt114=>((aH.f (⟨#[50]⟩:ByteArray) (⟨#[49]⟩:ByteArray)).bind fun bt117=>((iT.f bt114.1 bt114.2.1 bt114.2.2 bt117.1 bt117.2.1 bt117.2.2).bind fun bt120=>((aH.f (⟨#[48]⟩:ByteArray) (⟨#[51]⟩:ByteArray)).bind fun bt125=>((aH.f (⟨#[48]⟩:ByteArray) (⟨#[49,49]⟩:ByteArray)).bind fun bt128=>((pF.f bt125.1 bt125.2.1 bt125.2.2 bt128.1 bt128.2.1 bt128.2.2).bind fun bt131=>((aH.f (⟨#[50]⟩:ByteArray) (⟨#[49]⟩:ByteArray)).bind fun bt136=>((aH.f (⟨#[52]⟩:ByteArray) (⟨#[50]⟩:ByteArray)).bind fun bt139=>((kU.f bt136.1 bt136.2.1 bt136.2.2 bt139.1 bt139.2.1 bt139.2.2).bind fun bt142=>((aH.f (⟨#[50]⟩:ByteArray) (⟨#[49]⟩:ByteArray)).bind fun bt147=>((aH.f (⟨#[52]⟩:ByteArray) (⟨#[50]⟩:ByteArray)).bind fun bt150=>((kT.f bt147.1 bt147.2.1 bt147.2.2 bt150.1 bt150.2.1 bt150.2.2).bind fun bt153=>(if(wrap64 ((wrap64 ((wrap64 ((wrap64 (bt109.2.2.2+bt120.2.2.2))+bt131.2.2.2))+bt142.2.2.2))+bt153.2.2.2))=0 then((aH.f (⟨#[49,56]⟩:ByteArray) (⟨#[49,52]⟩:ByteArray)).bind fun bt158=>(if(!(bt109.1==bt158.1)||(!(bt109.2.1.toList==bt158.2.1.toList)||(!(bt109.2.2.1.toList==bt158.2.2.toList))))=true then(aW.j0 k true) else(if bt120.1=true then((aH.f (⟨#[56]⟩:ByteArray) (⟨#[51]⟩:ByteArray)).bind fun bt161=>(if(!(bt131.1==bt161.1)||(!(bt131.2.1.toList==bt161.2.1.toList)||(!(bt131.2.2.1.toList==bt161.2.2.toList))))=true then(aW.j0 k true) else((aH.f (⟨#[52]⟩:ByteArray) (⟨#[50]⟩:ByteArray)).bind fun bt164=>(if(!(bt142.1==bt164.1)||(!(bt142.2.1.toList==bt164.2.1.toList)||(!(bt142.2.2.1.toList==bt164.2.2.toList))))=true then(aW.j0 k true) else((aH.f (⟨#[50]⟩:ByteArray) (⟨#[49]⟩:ByteArray)).bind fun bt167=>(aW.j0 k (!(bt153.1==bt167.1)||(!(bt153.2.1.toList==bt167.2.1.toList)||(!(bt153.2.2.1.toList==bt167.2.2.toList)))))))))) else(aW.j0 k true)))) else(aW.j0 k true)))))))))))))))))=some r:=h
 clear h
 obtain⟨⟨t103,t104,t105⟩,A1,H⟩:=bi H
 have V103:aA (t103=false∧t104=(⟨#[54]⟩:ByteArray)∧t105=(⟨#[50]⟩:ByteArray)):=aA.mk (by have F:=A1.out.symm.trans aw103;simp only[Option.some.injEq,Prod.mk.injEq] at F;exact F)
 try dsimp only at H
 obtain⟨⟨t106,t107,t108⟩,A2,H⟩:=bi H
 have V106:aA (t106=false∧t107=(⟨#[57]⟩:ByteArray)∧t108=(⟨#[53]⟩:ByteArray)):=aA.mk (by have F:=A2.out.symm.trans aw106;simp only[Option.some.injEq,Prod.mk.injEq] at F;exact F)
 try dsimp only at H
 obtain⟨⟨t109,t110,t111,t112⟩,A3,H⟩:=bi H
 have V109:aA (t109=false∧t110=(⟨#[49,56]⟩:ByteArray)∧t111=(⟨#[49,52]⟩:ByteArray)∧t112=0):=aA.mk (by have E:=A3.out;simp only[V103.out.1,V103.out.2.1,V103.out.2.2,V106.out.1,V106.out.2.1,V106.out.2.2] at E;have F:=E.symm.trans aw109;simp only[Option.some.injEq,Prod.mk.injEq] at F;exact F)
 try dsimp only at H
 obtain⟨⟨t114,t115,t116⟩,A4,H⟩:=bi H
 have V114:aA (t114=false∧t115=(⟨#[52]⟩:ByteArray)∧t116=(⟨#[48]⟩:ByteArray)):=aA.mk (by have F:=A4.out.symm.trans aw114;simp only[Option.some.injEq,Prod.mk.injEq] at F;exact F)
 try dsimp only at H
 obtain⟨⟨t117,t118,t119⟩,A5,H⟩:=bi H
 have V117:aA (t117=false∧t118=(⟨#[50]⟩:ByteArray)∧t119=(⟨#[49]⟩:ByteArray)):=aA.mk (by have F:=A5.out.symm.trans aw117;simp only[Option.some.injEq,Prod.mk.injEq] at F;exact F)
 try dsimp only at H
 obtain⟨⟨t120,t121,t122,t123⟩,A6,H⟩:=bi H
 have V120:aA (t120=true∧t121=(⟨#[]⟩:ByteArray)∧t122=(⟨#[]⟩:ByteArray)∧t123=0):=aA.mk (by have E:=A6.out;simp only[V114.out.1,V114.out.2.1,V114.out.2.2,V117.out.1,V117.out.2.1,V117.out.2.2] at E;have F:=E.symm.trans aw120;simp only[Option.some.injEq,Prod.mk.injEq] at F;exact F)
 try dsimp only at H
 obtain⟨⟨t125,t126,t127⟩,A7,H⟩:=bi H
 have V125:aA (t125=false∧t126=(⟨#[48]⟩:ByteArray)∧t127=(⟨#[51]⟩:ByteArray)):=aA.mk (by have F:=A7.out.symm.trans aw125;simp only[Option.some.injEq,Prod.mk.injEq] at F;exact F)
 try dsimp only at H
 obtain⟨⟨t128,t129,t130⟩,A8,H⟩:=bi H
 have V128:aA (t128=false∧t129=(⟨#[48]⟩:ByteArray)∧t130=(⟨#[49,49]⟩:ByteArray)):=aA.mk (by have F:=A8.out.symm.trans aw128;simp only[Option.some.injEq,Prod.mk.injEq] at F;exact F)
 try dsimp only at H
 obtain⟨⟨t131,t132,t133,t134⟩,A9,H⟩:=bi H
 have V131:aA (t131=false∧t132=(⟨#[56]⟩:ByteArray)∧t133=(⟨#[51]⟩:ByteArray)∧t134=0):=aA.mk (by have E:=A9.out;simp only[V125.out.1,V125.out.2.1,V125.out.2.2,V128.out.1,V128.out.2.1,V128.out.2.2] at E;have F:=E.symm.trans aw131;simp only[Option.some.injEq,Prod.mk.injEq] at F;exact F)
 try dsimp only at H
 obtain⟨⟨t136,t137,t138⟩,A10,H⟩:=bi H
 have V136:aA (t136=false∧t137=(⟨#[50]⟩:ByteArray)∧t138=(⟨#[49]⟩:ByteArray)):=aA.mk (by have F:=A10.out.symm.trans aw136;simp only[Option.some.injEq,Prod.mk.injEq] at F;exact F)
 try dsimp only at H
 obtain⟨⟨t139,t140,t141⟩,A11,H⟩:=bi H
 have V139:aA (t139=false∧t140=(⟨#[52]⟩:ByteArray)∧t141=(⟨#[50]⟩:ByteArray)):=aA.mk (by have F:=A11.out.symm.trans aw139;simp only[Option.some.injEq,Prod.mk.injEq] at F;exact F)
 try dsimp only at H
 obtain⟨⟨t142,t143,t144,t145⟩,A12,H⟩:=bi H
 have V142:aA (t142=false∧t143=(⟨#[52]⟩:ByteArray)∧t144=(⟨#[50]⟩:ByteArray)∧t145=0):=aA.mk (by have E:=A12.out;simp only[V136.out.1,V136.out.2.1,V136.out.2.2,V139.out.1,V139.out.2.1,V139.out.2.2] at E;have F:=E.symm.trans aw142;simp only[Option.some.injEq,Prod.mk.injEq] at F;exact F)
 try dsimp only at H
 obtain⟨⟨t147,t148,t149⟩,A13,H⟩:=bi H
 have V147:aA (t147=false∧t148=(⟨#[50]⟩:ByteArray)∧t149=(⟨#[49]⟩:ByteArray)):=aA.mk (by have F:=A13.out.symm.trans aw147;simp only[Option.some.injEq,Prod.mk.injEq] at F;exact F)
 try dsimp only at H
 obtain⟨⟨t150,t151,t152⟩,A14,H⟩:=bi H
 have V150:aA (t150=false∧t151=(⟨#[52]⟩:ByteArray)∧t152=(⟨#[50]⟩:ByteArray)):=aA.mk (by have F:=A14.out.symm.trans aw150;simp only[Option.some.injEq,Prod.mk.injEq] at F;exact F)
 try dsimp only at H
 obtain⟨⟨t153,t154,t155,t156⟩,A15,H⟩:=bi H
 have V153:aA (t153=false∧t154=(⟨#[50]⟩:ByteArray)∧t155=(⟨#[49]⟩:ByteArray)∧t156=0):=aA.mk (by have E:=A15.out;simp only[V147.out.1,V147.out.2.1,V147.out.2.2,V150.out.1,V150.out.2.1,V150.out.2.2] at E;have F:=E.symm.trans aw153;simp only[Option.some.injEq,Prod.mk.injEq] at F;exact F)
 try dsimp only at H
 have HC16:=aA.mk H
 clear H
 go_enter Tryz.func35,Tryz.ntmps35
 go_upto_region 6 with (first|((with_reducible refine aG (f:=98) rfl ?_);refine gl_ 18 Tryz.func98 #[.string (⟨#[54]⟩:ByteArray),.string (⟨#[50]⟩:ByteArray)] (h:= ?_);(with_reducible refine(aH.calls (⟨#[54]⟩:ByteArray) (⟨#[50]⟩:ByteArray) t103 t104 t105 _ A1.out).mono ?_);rintro e w17 ⟨rfl,hb⟩;refine⟨_,rfl,?_⟩;replace HB:=pkB HB hb;try clear hb)|((with_reducible refine aG (f:=98) rfl ?_);refine gl_ 19 Tryz.func98 #[.string (⟨#[57]⟩:ByteArray),.string (⟨#[53]⟩:ByteArray)] (h:= ?_);(with_reducible refine(aH.calls (⟨#[57]⟩:ByteArray) (⟨#[53]⟩:ByteArray) t106 t107 t108 _ A2.out).mono ?_);rintro e w18 ⟨rfl,hb⟩;refine⟨_,rfl,?_⟩;replace HB:=pkB HB hb;try clear hb)|((with_reducible refine aG (f:=44) rfl ?_);refine gl_ 20 Tryz.func44 #[.agg #[.bool t103,.string t104,.string t105],.agg #[.bool t106,.string t107,.string t108]] (h:= ?_);(with_reducible refine(iT.calls (hG:=HG.out.below (pkL HB)) t103 t104 t105 t106 t107 t108 t109 t110 t111 t112 _ A3.out).mono ?_);rintro e w19 ⟨rfl,hb⟩;refine⟨_,rfl,?_⟩;replace HB:=pkB HB hb;try clear hb)|((with_reducible refine aV (N:=1) rfl ?_);refine bx_ 1 36 #[.bool false,.string (⟨#[]⟩:ByteArray),.string (⟨#[]⟩:ByteArray)] (h:= ?_);intro gb113 hg w20 hbox hb;have BK113:=aA.mk (hbox);have GW113:=pkG HB hg;have GE113:=GW113;replace HB:=pkB HB hb;clear hb hbox hg;obtain⟨⟨hcz21_0,hcz21_1,hcz21_2⟩,hfz21_0,hfz21_1,hfz21_2⟩:=pk3 BK113)|((with_reducible refine aG (f:=98) rfl ?_);refine gl_ 24 Tryz.func98 #[.string (⟨#[52]⟩:ByteArray),.string (⟨#[48]⟩:ByteArray)] (h:= ?_);(with_reducible refine(aH.calls (⟨#[52]⟩:ByteArray) (⟨#[48]⟩:ByteArray) t114 t115 t116 _ A4.out).mono ?_);rintro e w22 ⟨rfl,hb⟩;refine⟨_,rfl,?_⟩;replace BK113:=aA.mk (dS (g:=gb113) (o:= .cells #[.bool t109,.string t110,.string t111] 36 (0,0)) (pkS3 BK113) hb);replace HB:=pkB HB hb;try clear hb)|((with_reducible refine aG (f:=98) rfl ?_);refine gl_ 25 Tryz.func98 #[.string (⟨#[50]⟩:ByteArray),.string (⟨#[49]⟩:ByteArray)] (h:= ?_);(with_reducible refine(aH.calls (⟨#[50]⟩:ByteArray) (⟨#[49]⟩:ByteArray) t117 t118 t119 _ A5.out).mono ?_);rintro e w23 ⟨rfl,hb⟩;refine⟨_,rfl,?_⟩;replace BK113:=pkK BK113 hb;replace HB:=pkB HB hb;try clear hb)|((with_reducible refine aG (f:=44) rfl ?_);refine gl_ 26 Tryz.func44 #[.agg #[.bool t114,.string t115,.string t116],.agg #[.bool t117,.string t118,.string t119]] (h:= ?_);(with_reducible refine(iT.calls (hG:=HG.out.below (pkL HB)) t114 t115 t116 t117 t118 t119 t120 t121 t122 t123 _ A6.out).mono ?_);rintro e w24 ⟨rfl,hb⟩;refine⟨_,rfl,?_⟩;replace BK113:=pkK BK113 hb;replace HB:=pkB HB hb;try clear hb)|((with_reducible refine aV (N:=3) rfl ?_);refine bx_ 3 36 #[.bool false,.string (⟨#[]⟩:ByteArray),.string (⟨#[]⟩:ByteArray)] (h:= ?_);intro gb124 hg w25 hbox hb;have BK124:=aA.mk (hbox);have GW124:=pkG HB hg;have GE124:=GW124;have NB113_124:=pkN BK113 hg;have NB124_113:=pkM BK113 hg;replace BK113:=pkK BK113 hb;replace HB:=pkB HB hb;clear hb hbox hg;have hnb26:=NB124_113.out;have hnc26:=NB113_124.out;obtain⟨⟨hcz27_0,hcz27_1,hcz27_2⟩,hfz27_0,hfz27_1,hfz27_2⟩:=pk3 BK124)|((with_reducible refine aG (f:=98) rfl ?_);refine gl_ 30 Tryz.func98 #[.string (⟨#[48]⟩:ByteArray),.string (⟨#[51]⟩:ByteArray)] (h:= ?_);(with_reducible refine(aH.calls (⟨#[48]⟩:ByteArray) (⟨#[51]⟩:ByteArray) t125 t126 t127 _ A7.out).mono ?_);rintro e w28 ⟨rfl,hb⟩;refine⟨_,rfl,?_⟩;have n0_:=aA.mk (dS (g:=gb113) (o:= .cells #[.bool t109,.string t110,.string t111] 36 (0,0)) (by(with_reducible repeat(first|refine aN ?_ _|refine aJ ?_|refine aK ?_ _));refine bC ?_ NB113_124.out _;(with_reducible repeat(first|refine aN ?_ _|refine aJ ?_|refine aK ?_ _));refine bC ?_ NB113_124.out _;(with_reducible repeat(first|refine aN ?_ _|refine aJ ?_|refine aK ?_ _));refine bC ?_ NB113_124.out _;(with_reducible repeat(first|refine aN ?_ _|refine aJ ?_|refine aK ?_ _));exact BK113.out) hb);have n1_:=aA.mk (dS (g:=gb124) (o:= .cells #[.bool t120,.string t121,.string t122] 36 (0,0)) (pkS3 BK124) hb);have n2_:=pkB HB hb;clear BK113;clear BK124;clear HB;have BK113:=n0_;have BK124:=n1_;have HB:=n2_;clear n0_ n1_ n2_;try clear hb)|((with_reducible refine aG (f:=98) rfl ?_);refine gl_ 31 Tryz.func98 #[.string (⟨#[48]⟩:ByteArray),.string (⟨#[49,49]⟩:ByteArray)] (h:= ?_);(with_reducible refine(aH.calls (⟨#[48]⟩:ByteArray) (⟨#[49,49]⟩:ByteArray) t128 t129 t130 _ A8.out).mono ?_);rintro e w29 ⟨rfl,hb⟩;refine⟨_,rfl,?_⟩;replace BK113:=pkK BK113 hb;replace BK124:=pkK BK124 hb;replace HB:=pkB HB hb;try clear hb)|((with_reducible refine aG (f:=42) rfl ?_);refine gl_ 32 Tryz.func42 #[.agg #[.bool t125,.string t126,.string t127],.agg #[.bool t128,.string t129,.string t130]] (h:= ?_);(with_reducible refine(pF.calls (hG:=HG.out.below (pkL HB)) t125 t126 t127 t128 t129 t130 t131 t132 t133 t134 _ A9.out).mono ?_);rintro e w30 ⟨rfl,hb⟩;refine⟨_,rfl,?_⟩;replace BK113:=pkK BK113 hb;replace BK124:=pkK BK124 hb;replace HB:=pkB HB hb;try clear hb)|((with_reducible refine aV (N:=5) rfl ?_);refine bx_ 5 36 #[.bool false,.string (⟨#[]⟩:ByteArray),.string (⟨#[]⟩:ByteArray)] (h:= ?_);intro gb135 hg w31 hbox hb;have BK135:=aA.mk (hbox);have GW135:=pkG HB hg;have GE135:=GW135;have NB113_135:=pkN BK113 hg;have NB135_113:=pkM BK113 hg;have NB124_135:=pkN BK124 hg;have NB135_124:=pkM BK124 hg;replace BK113:=pkK BK113 hb;replace BK124:=pkK BK124 hb;replace HB:=pkB HB hb;clear hb hbox hg;have hnb32:=NB135_113.out;have hnc32:=NB113_135.out;have hnb33:=NB135_124.out;have hnc33:=NB124_135.out;obtain⟨⟨hcz34_0,hcz34_1,hcz34_2⟩,hfz34_0,hfz34_1,hfz34_2⟩:=pk3 BK135)|((with_reducible refine aG (f:=98) rfl ?_);refine gl_ 36 Tryz.func98 #[.string (⟨#[50]⟩:ByteArray),.string (⟨#[49]⟩:ByteArray)] (h:= ?_);(with_reducible refine(aH.calls (⟨#[50]⟩:ByteArray) (⟨#[49]⟩:ByteArray) t136 t137 t138 _ A10.out).mono ?_);rintro e w35 ⟨rfl,hb⟩;refine⟨_,rfl,?_⟩;have n0_:=aA.mk (dS (g:=gb113) (o:= .cells #[.bool t109,.string t110,.string t111] 36 (0,0)) (by(with_reducible repeat(first|refine aN ?_ _|refine aJ ?_|refine aK ?_ _));refine bC ?_ NB113_135.out _;(with_reducible repeat(first|refine aN ?_ _|refine aJ ?_|refine aK ?_ _));refine bC ?_ NB113_135.out _;(with_reducible repeat(first|refine aN ?_ _|refine aJ ?_|refine aK ?_ _));refine bC ?_ NB113_135.out _;(with_reducible repeat(first|refine aN ?_ _|refine aJ ?_|refine aK ?_ _));exact BK113.out) hb);have n1_:=aA.mk (dS (g:=gb124) (o:= .cells #[.bool t120,.string t121,.string t122] 36 (0,0)) (by(with_reducible repeat(first|refine aN ?_ _|refine aJ ?_|refine aK ?_ _));refine bC ?_ NB124_135.out _;(with_reducible repeat(first|refine aN ?_ _|refine aJ ?_|refine aK ?_ _));refine bC ?_ NB124_135.out _;(with_reducible repeat(first|refine aN ?_ _|refine aJ ?_|refine aK ?_ _));refine bC ?_ NB124_135.out _;(with_reducible repeat(first|refine aN ?_ _|refine aJ ?_|refine aK ?_ _));exact BK124.out) hb);have n2_:=aA.mk (dS (g:=gb135) (o:= .cells #[.bool t131,.string t132,.string t133] 36 (0,0)) (pkS3 BK135) hb);have n3_:=pkB HB hb;clear BK113;clear BK124;clear BK135;clear HB;have BK113:=n0_;have BK124:=n1_;have BK135:=n2_;have HB:=n3_;clear n0_ n1_ n2_ n3_;try clear hb)|((with_reducible refine aG (f:=98) rfl ?_);refine gl_ 37 Tryz.func98 #[.string (⟨#[52]⟩:ByteArray),.string (⟨#[50]⟩:ByteArray)] (h:= ?_);(with_reducible refine(aH.calls (⟨#[52]⟩:ByteArray) (⟨#[50]⟩:ByteArray) t139 t140 t141 _ A11.out).mono ?_);rintro e w36 ⟨rfl,hb⟩;refine⟨_,rfl,?_⟩;replace BK113:=pkK BK113 hb;replace BK124:=pkK BK124 hb;replace BK135:=pkK BK135 hb;replace HB:=pkB HB hb;try clear hb)|((with_reducible refine aG (f:=54) rfl ?_);refine gl_ 38 Tryz.func54 #[.agg #[.bool t136,.string t137,.string t138],.agg #[.bool t139,.string t140,.string t141]] (h:= ?_);(with_reducible refine(kU.calls (hG:=HG.out.below (pkL HB)) t136 t137 t138 t139 t140 t141 t142 t143 t144 t145 _ A12.out).mono ?_);rintro e w37 ⟨rfl,hb⟩;refine⟨_,rfl,?_⟩;replace BK113:=pkK BK113 hb;replace BK124:=pkK BK124 hb;replace BK135:=pkK BK135 hb;replace HB:=pkB HB hb;try clear hb)|((with_reducible refine aV (N:=7) rfl ?_);refine bx_ 7 36 #[.bool false,.string (⟨#[]⟩:ByteArray),.string (⟨#[]⟩:ByteArray)] (h:= ?_);intro gb146 hg w38 hbox hb;have BK146:=aA.mk (hbox);have GW146:=pkG HB hg;have GE146:=GW146;have NB113_146:=pkN BK113 hg;have NB146_113:=pkM BK113 hg;have NB124_146:=pkN BK124 hg;have NB146_124:=pkM BK124 hg;have NB135_146:=pkN BK135 hg;have NB146_135:=pkM BK135 hg;replace BK113:=pkK BK113 hb;replace BK124:=pkK BK124 hb;replace BK135:=pkK BK135 hb;replace HB:=pkB HB hb;clear hb hbox hg;have hnb39:=NB146_113.out;have hnc39:=NB113_146.out;have hnb40:=NB146_124.out;have hnc40:=NB124_146.out;have hnb41:=NB146_135.out;have hnc41:=NB135_146.out;obtain⟨⟨hcz42_0,hcz42_1,hcz42_2⟩,hfz42_0,hfz42_1,hfz42_2⟩:=pk3 BK146)|((with_reducible refine aG (f:=98) rfl ?_);refine gl_ 42 Tryz.func98 #[.string (⟨#[50]⟩:ByteArray),.string (⟨#[49]⟩:ByteArray)] (h:= ?_);(with_reducible refine(aH.calls (⟨#[50]⟩:ByteArray) (⟨#[49]⟩:ByteArray) t147 t148 t149 _ A13.out).mono ?_);rintro e w43 ⟨rfl,hb⟩;refine⟨_,rfl,?_⟩;have n0_:=aA.mk (dS (g:=gb113) (o:= .cells #[.bool t109,.string t110,.string t111] 36 (0,0)) (by(with_reducible repeat(first|refine aN ?_ _|refine aJ ?_|refine aK ?_ _));refine bC ?_ NB113_146.out _;(with_reducible repeat(first|refine aN ?_ _|refine aJ ?_|refine aK ?_ _));refine bC ?_ NB113_146.out _;(with_reducible repeat(first|refine aN ?_ _|refine aJ ?_|refine aK ?_ _));refine bC ?_ NB113_146.out _;(with_reducible repeat(first|refine aN ?_ _|refine aJ ?_|refine aK ?_ _));exact BK113.out) hb);have n1_:=aA.mk (dS (g:=gb124) (o:= .cells #[.bool t120,.string t121,.string t122] 36 (0,0)) (by(with_reducible repeat(first|refine aN ?_ _|refine aJ ?_|refine aK ?_ _));refine bC ?_ NB124_146.out _;(with_reducible repeat(first|refine aN ?_ _|refine aJ ?_|refine aK ?_ _));refine bC ?_ NB124_146.out _;(with_reducible repeat(first|refine aN ?_ _|refine aJ ?_|refine aK ?_ _));refine bC ?_ NB124_146.out _;(with_reducible repeat(first|refine aN ?_ _|refine aJ ?_|refine aK ?_ _));exact BK124.out) hb);have n2_:=aA.mk (dS (g:=gb135) (o:= .cells #[.bool t131,.string t132,.string t133] 36 (0,0)) (by(with_reducible repeat(first|refine aN ?_ _|refine aJ ?_|refine aK ?_ _));refine bC ?_ NB135_146.out _;(with_reducible repeat(first|refine aN ?_ _|refine aJ ?_|refine aK ?_ _));refine bC ?_ NB135_146.out _;(with_reducible repeat(first|refine aN ?_ _|refine aJ ?_|refine aK ?_ _));refine bC ?_ NB135_146.out _;(with_reducible repeat(first|refine aN ?_ _|refine aJ ?_|refine aK ?_ _));exact BK135.out) hb);have n3_:=aA.mk (dS (g:=gb146) (o:= .cells #[.bool t142,.string t143,.string t144] 36 (0,0)) (pkS3 BK146) hb);have n4_:=pkB HB hb;clear BK113;clear BK124;clear BK135;clear BK146;clear HB;have BK113:=n0_;have BK124:=n1_;have BK135:=n2_;have BK146:=n3_;have HB:=n4_;clear n0_ n1_ n2_ n3_ n4_;try clear hb)|((with_reducible refine aG (f:=98) rfl ?_);refine gl_ 43 Tryz.func98 #[.string (⟨#[52]⟩:ByteArray),.string (⟨#[50]⟩:ByteArray)] (h:= ?_);(with_reducible refine(aH.calls (⟨#[52]⟩:ByteArray) (⟨#[50]⟩:ByteArray) t150 t151 t152 _ A14.out).mono ?_);rintro e w44 ⟨rfl,hb⟩;refine⟨_,rfl,?_⟩;replace BK113:=pkK BK113 hb;replace BK124:=pkK BK124 hb;replace BK135:=pkK BK135 hb;replace BK146:=pkK BK146 hb;replace HB:=pkB HB hb;try clear hb)|((with_reducible refine aG (f:=50) rfl ?_);refine gl_ 44 Tryz.func50 #[.agg #[.bool t147,.string t148,.string t149],.agg #[.bool t150,.string t151,.string t152]] (h:= ?_);(with_reducible refine(kT.calls (hG:=HG.out.below (pkL HB)) t147 t148 t149 t150 t151 t152 t153 t154 t155 t156 _ A15.out).mono ?_);rintro e w45 ⟨rfl,hb⟩;refine⟨_,rfl,?_⟩;replace BK113:=pkK BK113 hb;replace BK124:=pkK BK124 hb;replace BK135:=pkK BK135 hb;replace BK146:=pkK BK146 hb;replace HB:=pkB HB hb;try clear hb)|((with_reducible refine aV (N:=9) rfl ?_);refine bx_ 9 36 #[.bool false,.string (⟨#[]⟩:ByteArray),.string (⟨#[]⟩:ByteArray)] (h:= ?_);intro gb157 hg w46 hbox hb;have BK157:=aA.mk (hbox);have GW157:=pkG HB hg;have GE157:=GW157;have NB113_157:=pkN BK113 hg;have NB157_113:=pkM BK113 hg;have NB124_157:=pkN BK124 hg;have NB157_124:=pkM BK124 hg;have NB135_157:=pkN BK135 hg;have NB157_135:=pkM BK135 hg;have NB146_157:=pkN BK146 hg;have NB157_146:=pkM BK146 hg;replace BK113:=pkK BK113 hb;replace BK124:=pkK BK124 hb;replace BK135:=pkK BK135 hb;replace BK146:=pkK BK146 hb;replace HB:=pkB HB hb;clear hb hbox hg;have hnb47:=NB157_113.out;have hnc47:=NB113_157.out;have hnb48:=NB157_124.out;have hnc48:=NB124_157.out;have hnb49:=NB157_135.out;have hnc49:=NB135_157.out;have hnb50:=NB157_146.out;have hnc50:=NB146_157.out;obtain⟨⟨hcz51_0,hcz51_1,hcz51_2⟩,hfz51_0,hfz51_1,hfz51_2⟩:=pk3 BK157))
 (try simp only[Act.put,List.setIfInBounds_toArray,List.set_cons_zero,List.set_cons_succ])
 go_cut [81] (fun v81 wc=>∃(kq:Nat) (x81_15:Bool),v81= .bool x81_15∧aA (aW.j0 kq x81_15=some r)∧aA (kq≤k)∧aA (wc.heap[gb113]? =some (.cells #[.bool t109,.string t110,.string t111] 36 (0,0)))∧aA (wc.heap[gb124]? =some (.cells #[.bool t120,.string t121,.string t122] 36 (0,0)))∧aA (wc.heap[gb135]? =some (.cells #[.bool t131,.string t132,.string t133] 36 (0,0)))∧aA (wc.heap[gb146]? =some (.cells #[.bool t142,.string t143,.string t144] 36 (0,0)))∧aA (wc.heap[gb157]? =some (.cells #[.bool t153,.string t154,.string t155] 36 (0,0)))∧aA (Below w.heap.size w wc))
 case first=>
  have H:=HC16.out
  clear HC16
  by_cases c52:(wrap64 ((wrap64 ((wrap64 ((wrap64 (t112+t123))+t134))+t145))+t156))=0
  ·rw[if_pos c52] at H
   have c52b0:((wrap64 ((wrap64 ((wrap64 ((wrap64 (t112+t123))+t134))+t145))+t156))==0)=true:=beq_iff_eq.mpr c52
   have c52b1:((wrap64 ((wrap64 ((wrap64 ((wrap64 (t112+t123))+t134))+t145))+t156)) != 0)=false:=bne_eq_false_iff_eq.mpr c52
   clear c52
   (first|rw[c52b0]|(simp only[dD,dI];rw[c52b0])|skip)
   obtain⟨⟨t158,t159,t160⟩,A53,H⟩:=bi H
   have V158:aA (t158=false∧t159=(⟨#[49,56]⟩:ByteArray)∧t160=(⟨#[49,52]⟩:ByteArray)):=aA.mk (by have F:=A53.out.symm.trans aw158;simp only[Option.some.injEq,Prod.mk.injEq] at F;exact F)
   try dsimp only at H
   by_cases c54:(!(t109==t158)||(!(t110.toList==t159.toList)||(!(t111.toList==t160.toList))))=true
   ·exact absurd c54 (by(simp only[V109.out.1,V109.out.2.1,V109.out.2.2.1,V158.out.1,V158.out.2.1,V158.out.2.2]) <;> decide +kernel)
   ·rw[if_neg c54] at H
    have c54b0:(!(t109==t158)||(!(t110.toList==t159.toList)||(!(t111.toList==t160.toList))))=false:=by simpa using c54
    clear c54
    by_cases c58:t120=true
    ·subst c58
     have H1:((aH.f (⟨#[56]⟩:ByteArray) (⟨#[51]⟩:ByteArray)).bind fun bt161=>(if(!(t131==bt161.1)||(!(t132.toList==bt161.2.1.toList)||(!(t133.toList==bt161.2.2.toList))))=true then(aW.j0 k true) else((aH.f (⟨#[52]⟩:ByteArray) (⟨#[50]⟩:ByteArray)).bind fun bt164=>(if(!(t142==bt164.1)||(!(t143.toList==bt164.2.1.toList)||(!(t144.toList==bt164.2.2.toList))))=true then(aW.j0 k true) else((aH.f (⟨#[50]⟩:ByteArray) (⟨#[49]⟩:ByteArray)).bind fun bt167=>(aW.j0 k (!(t153==bt167.1)||(!(t154.toList==bt167.2.1.toList)||(!(t155.toList==bt167.2.2.toList))))))))))=some r:=by rw[if_pos rfl] at H;exact H
     clear H
     have H:=H1
     clear H1
     obtain⟨⟨t161,t162,t163⟩,A59,H⟩:=bi H
     have V161:aA (t161=false∧t162=(⟨#[56]⟩:ByteArray)∧t163=(⟨#[51]⟩:ByteArray)):=aA.mk (by have F:=A59.out.symm.trans aw161;simp only[Option.some.injEq,Prod.mk.injEq] at F;exact F)
     try dsimp only at H
     by_cases c60:(!(t131==t161)||(!(t132.toList==t162.toList)||(!(t133.toList==t163.toList))))=true
     ·exact absurd c60 (by(simp only[V131.out.1,V131.out.2.1,V131.out.2.2.1,V161.out.1,V161.out.2.1,V161.out.2.2]) <;> decide +kernel)
     ·rw[if_neg c60] at H
      have c60b0:(!(t131==t161)||(!(t132.toList==t162.toList)||(!(t133.toList==t163.toList))))=false:=by simpa using c60
      clear c60
      obtain⟨⟨t164,t165,t166⟩,A65,H⟩:=bi H
      have V164:aA (t164=false∧t165=(⟨#[52]⟩:ByteArray)∧t166=(⟨#[50]⟩:ByteArray)):=aA.mk (by have F:=A65.out.symm.trans aw164;simp only[Option.some.injEq,Prod.mk.injEq] at F;exact F)
      try dsimp only at H
      by_cases c66:(!(t142==t164)||(!(t143.toList==t165.toList)||(!(t144.toList==t166.toList))))=true
      ·exact absurd c66 (by(simp only[V142.out.1,V142.out.2.1,V142.out.2.2.1,V164.out.1,V164.out.2.1,V164.out.2.2]) <;> decide +kernel)
      ·rw[if_neg c66] at H
       have c66b0:(!(t142==t164)||(!(t143.toList==t165.toList)||(!(t144.toList==t166.toList))))=false:=by simpa using c66
       clear c66
       obtain⟨⟨t167,t168,t169⟩,A72,H⟩:=bi H
       have V167:aA (t167=false∧t168=(⟨#[50]⟩:ByteArray)∧t169=(⟨#[49]⟩:ByteArray)):=aA.mk (by have F:=A72.out.symm.trans aw167;simp only[Option.some.injEq,Prod.mk.injEq] at F;exact F)
       try dsimp only at H
       have H':=aA.mk H
       clear H
       try go_wp2
       have n0_:aA ((((w46.setCell ⟨gb157,0,none⟩ (.bool t153)).setCell ⟨gb157,1,none⟩ (.string t154)).setCell ⟨gb157,2,none⟩ (.string t155)).heap[gb113]? =some (.cells #[.bool t109,.string t110,.string t111] 36 (0,0))):=⟨by(with_reducible repeat(first|refine aN ?_ _|refine aJ ?_|refine aK ?_ _));refine bC ?_ NB113_157.out _;(with_reducible repeat(first|refine aN ?_ _|refine aJ ?_|refine aK ?_ _));refine bC ?_ NB113_157.out _;(with_reducible repeat(first|refine aN ?_ _|refine aJ ?_|refine aK ?_ _));refine bC ?_ NB113_157.out _;(with_reducible repeat(first|refine aN ?_ _|refine aJ ?_|refine aK ?_ _));exact BK113.out⟩
       have n1_:aA ((((w46.setCell ⟨gb157,0,none⟩ (.bool t153)).setCell ⟨gb157,1,none⟩ (.string t154)).setCell ⟨gb157,2,none⟩ (.string t155)).heap[gb124]? =some (.cells #[.bool true,.string t121,.string t122] 36 (0,0))):=⟨by(with_reducible repeat(first|refine aN ?_ _|refine aJ ?_|refine aK ?_ _));refine bC ?_ NB124_157.out _;(with_reducible repeat(first|refine aN ?_ _|refine aJ ?_|refine aK ?_ _));refine bC ?_ NB124_157.out _;(with_reducible repeat(first|refine aN ?_ _|refine aJ ?_|refine aK ?_ _));refine bC ?_ NB124_157.out _;(with_reducible repeat(first|refine aN ?_ _|refine aJ ?_|refine aK ?_ _));exact BK124.out⟩
       have n2_:aA ((((w46.setCell ⟨gb157,0,none⟩ (.bool t153)).setCell ⟨gb157,1,none⟩ (.string t154)).setCell ⟨gb157,2,none⟩ (.string t155)).heap[gb135]? =some (.cells #[.bool t131,.string t132,.string t133] 36 (0,0))):=⟨by(with_reducible repeat(first|refine aN ?_ _|refine aJ ?_|refine aK ?_ _));refine bC ?_ NB135_157.out _;(with_reducible repeat(first|refine aN ?_ _|refine aJ ?_|refine aK ?_ _));refine bC ?_ NB135_157.out _;(with_reducible repeat(first|refine aN ?_ _|refine aJ ?_|refine aK ?_ _));refine bC ?_ NB135_157.out _;(with_reducible repeat(first|refine aN ?_ _|refine aJ ?_|refine aK ?_ _));exact BK135.out⟩
       have n3_:aA ((((w46.setCell ⟨gb157,0,none⟩ (.bool t153)).setCell ⟨gb157,1,none⟩ (.string t154)).setCell ⟨gb157,2,none⟩ (.string t155)).heap[gb146]? =some (.cells #[.bool t142,.string t143,.string t144] 36 (0,0))):=⟨by(with_reducible repeat(first|refine aN ?_ _|refine aJ ?_|refine aK ?_ _));refine bC ?_ NB146_157.out _;(with_reducible repeat(first|refine aN ?_ _|refine aJ ?_|refine aK ?_ _));refine bC ?_ NB146_157.out _;(with_reducible repeat(first|refine aN ?_ _|refine aJ ?_|refine aK ?_ _));refine bC ?_ NB146_157.out _;(with_reducible repeat(first|refine aN ?_ _|refine aJ ?_|refine aK ?_ _));exact BK146.out⟩
       have n4_:aA ((((w46.setCell ⟨gb157,0,none⟩ (.bool t153)).setCell ⟨gb157,1,none⟩ (.string t154)).setCell ⟨gb157,2,none⟩ (.string t155)).heap[gb157]? =some (.cells #[.bool t153,.string t154,.string t155] 36 (0,0))):=⟨by(with_reducible repeat(first|refine aN ?_ _|refine aJ ?_|refine aK ?_ _));refine fG (cs:=#[.bool t153,.string t154,.string (⟨#[]⟩:ByteArray)]) ?_ 2 _ rfl;(with_reducible repeat(first|refine aN ?_ _|refine aJ ?_|refine aK ?_ _));refine fG (cs:=#[.bool t153,.string (⟨#[]⟩:ByteArray),.string (⟨#[]⟩:ByteArray)]) ?_ 1 _ rfl;(with_reducible repeat(first|refine aN ?_ _|refine aJ ?_|refine aK ?_ _));refine fG (cs:=#[.bool false,.string (⟨#[]⟩:ByteArray),.string (⟨#[]⟩:ByteArray)]) ?_ 0 _ rfl;(with_reducible repeat(first|refine aN ?_ _|refine aJ ?_|refine aK ?_ _));exact BK157.out⟩
       have n5_:aA (Below w.heap.size w (((w46.setCell ⟨gb157,0,none⟩ (.bool t153)).setCell ⟨gb157,1,none⟩ (.string t154)).setCell ⟨gb157,2,none⟩ (.string t155))):=⟨pkL HB⟩
       (try clear BK113)
       (try clear BK124)
       (try clear BK135)
       (try clear BK146)
       (try clear BK157)
       (try clear HB)
       generalize (((w46.setCell ⟨gb157,0,none⟩ (.bool t153)).setCell ⟨gb157,1,none⟩ (.string t154)).setCell ⟨gb157,2,none⟩ (.string t155))=w73 at n0_ n1_ n2_ n3_ n4_ n5_ ⊢
       have BK113:=n0_
       have BK124:=n1_
       have BK135:=n2_
       have BK146:=n3_
       have BK157:=n4_
       have HB:=n5_
       clear n0_ n1_ n2_ n3_ n4_ n5_
       replace BK113:=aA.mk (aJ BK113.out);replace BK124:=aA.mk (aJ BK124.out);replace BK135:=aA.mk (aJ BK135.out);replace BK146:=aA.mk (aJ BK146.out);replace BK157:=aA.mk (aJ BK157.out);replace HB:=aA.mk (aU HB.out)
       refine jI (n:=35) (S:=fun w'=>w'.cell? ⟨gb113,0,none⟩=some (.bool t109)∧w'.cell? ⟨gb113,1,none⟩=some (.string t110)∧w'.cell? ⟨gb113,2,none⟩=some (.string t111)∧w'.cell? ⟨gb124,0,none⟩=some (.bool true)∧w'.cell? ⟨gb124,1,none⟩=some (.string t121)∧w'.cell? ⟨gb124,2,none⟩=some (.string t122)∧w'.cell? ⟨gb135,0,none⟩=some (.bool t131)∧w'.cell? ⟨gb135,1,none⟩=some (.string t132)∧w'.cell? ⟨gb135,2,none⟩=some (.string t133)∧w'.cell? ⟨gb146,0,none⟩=some (.bool t142)∧w'.cell? ⟨gb146,1,none⟩=some (.string t143)∧w'.cell? ⟨gb146,2,none⟩=some (.string t144)∧w'.cell? ⟨gb157,0,none⟩=some (.bool t153)∧w'.cell? ⟨gb157,1,none⟩=some (.string t154)∧w'.cell? ⟨gb157,2,none⟩=some (.string t155)) (ds:= []) #[false,false,false,false,false,false,false,false,false,false,false,false,false,false,false,false,false,false,false,false,false,false,false,false,false,false,false,false,false,false,false,false,false,false,false] (by kernel_rfl) rfl rfl ⟨(aC BK113.out 0).trans rfl,(aC BK113.out 1).trans rfl,(aC BK113.out 2).trans rfl,(aC BK124.out 0).trans rfl,(aC BK124.out 1).trans rfl,(aC BK124.out 2).trans rfl,(aC BK135.out 0).trans rfl,(aC BK135.out 1).trans rfl,(aC BK135.out 2).trans rfl,(aC BK146.out 0).trans rfl,(aC BK146.out 1).trans rfl,(aC BK146.out 2).trans rfl,(aC BK157.out 0).trans rfl,(aC BK157.out 1).trans rfl,(aC BK157.out 2).trans rfl⟩ (fun hHeld=> ?_);refine jQ aW.tab6 aW.bits6 (fun HT_ HW_=> ?_)
       generalize w73.drew=w74 at BK113 BK124 BK135 BK146 BK157 HB hHeld ⊢
       refine pr_ 0 47 (h:= ?_)
       refine pr_ 1 48 (h:= ?_)
       refine pr_ 2 49 (h:= ?_)
       refine pr_ 3 50 (h:= ?_)
       refine pr_ 4 51 (h:= ?_)
       refine pr_ 5 52 (h:= ?_)
       refine pr_ 6 53 (h:= ?_)
       refine pr_ 7 54 (h:= ?_)
       refine pr_ 8 55 (h:= ?_)
       refine pr_ 9 56 (h:= ?_)
       refine pr_ 10 57 (h:= ?_)
       refine tk_ 11 58 hHeld (hy:=by rintro w' ⟨s0,s1,s2,s3,s4,s5,s6,s7,s8,s9,s10,s11,s12,s13,s14⟩;go_simp;with_reducible rfl) (h:= ?_)
       refine on_ 12 59 (h:=fun K hK=> ?_)
       refine g1_ Tryz.func98 #[.string (⟨#[49,56]⟩:ByteArray),.string (⟨#[49,52]⟩:ByteArray)] (h:= ?_)
       with_reducible refine(aH.calls (⟨#[49,56]⟩:ByteArray) (⟨#[49,52]⟩:ByteArray) t158 t159 t160 _ A53.out).mono ?_
       rintro e w75 ⟨rfl,hb⟩
       refine⟨_,rfl,?_⟩
       replace BK113:=pkK BK113 hb;replace BK124:=pkK BK124 hb;replace BK135:=pkK BK135 hb;replace BK146:=pkK BK146 hb;replace BK157:=pkK BK157 hb;replace HB:=pkB HB hb
       (try clear hb)
       (try clear hb2)
       (try clear hk)
       (try clear hi)
       refine hK.out _ _ ⟨(aC BK113.out 0).trans rfl,(aC BK113.out 1).trans rfl,(aC BK113.out 2).trans rfl,(aC BK124.out 0).trans rfl,(aC BK124.out 1).trans rfl,(aC BK124.out 2).trans rfl,(aC BK135.out 0).trans rfl,(aC BK135.out 1).trans rfl,(aC BK135.out 2).trans rfl,(aC BK146.out 0).trans rfl,(aC BK146.out 1).trans rfl,(aC BK146.out 2).trans rfl,(aC BK157.out 0).trans rfl,(aC BK157.out 1).trans rfl,(aC BK157.out 2).trans rfl⟩ (fun hHeld=> ?_)
       clear hK K
       refine fF (a':= ?_) ?_ ?_
       rotate_left
       ·show Act.put _ (some 59) _=_
        simp only[Act.put,List.setIfInBounds_toArray,List.set_cons_zero,List.set_cons_succ,dD,dI]
        rfl
       refine pr_ 13 60 (h:= ?_)
       refine pr_ 14 61 (h:= ?_)
       refine pr_ 15 62 (h:= ?_)
       refine pr_ 16 63 (h:= ?_)
       refine tk_ 17 64 hHeld (hy:=by rintro w' ⟨s0,s1,s2,s3,s4,s5,s6,s7,s8,s9,s10,s11,s12,s13,s14⟩;go_simp;with_reducible rfl) (h:= ?_)
       refine pr_ 18 65 (h:= ?_)
       refine pr_ 19 66 (h:= ?_)
       refine pr_ 20 67 (h:= ?_)
       refine tk_ 21 68 hHeld (hy:=by rintro w' ⟨s0,s1,s2,s3,s4,s5,s6,s7,s8,s9,s10,s11,s12,s13,s14⟩;go_simp;with_reducible rfl) (h:= ?_)
       refine on_ 22 69 (h:=fun K hK=> ?_)
       refine g1_ Tryz.func98 #[.string (⟨#[56]⟩:ByteArray),.string (⟨#[51]⟩:ByteArray)] (h:= ?_)
       with_reducible refine(aH.calls (⟨#[56]⟩:ByteArray) (⟨#[51]⟩:ByteArray) t161 t162 t163 _ A59.out).mono ?_
       rintro e w76 ⟨rfl,hb⟩
       refine⟨_,rfl,?_⟩
       replace BK113:=pkK BK113 hb;replace BK124:=pkK BK124 hb;replace BK135:=pkK BK135 hb;replace BK146:=pkK BK146 hb;replace BK157:=pkK BK157 hb;replace HB:=pkB HB hb
       (try clear hb)
       (try clear hb2)
       (try clear hk)
       (try clear hi)
       refine hK.out _ _ ⟨(aC BK113.out 0).trans rfl,(aC BK113.out 1).trans rfl,(aC BK113.out 2).trans rfl,(aC BK124.out 0).trans rfl,(aC BK124.out 1).trans rfl,(aC BK124.out 2).trans rfl,(aC BK135.out 0).trans rfl,(aC BK135.out 1).trans rfl,(aC BK135.out 2).trans rfl,(aC BK146.out 0).trans rfl,(aC BK146.out 1).trans rfl,(aC BK146.out 2).trans rfl,(aC BK157.out 0).trans rfl,(aC BK157.out 1).trans rfl,(aC BK157.out 2).trans rfl⟩ (fun hHeld=> ?_)
       clear hK K
       refine fF (a':= ?_) ?_ ?_
       rotate_left
       ·show Act.put _ (some 69) _=_
        simp only[Act.put,List.setIfInBounds_toArray,List.set_cons_zero,List.set_cons_succ,dD,dI]
        rfl
       refine pr_ 23 70 (h:= ?_)
       refine pr_ 24 71 (h:= ?_)
       refine pr_ 25 72 (h:= ?_)
       refine tk_ 26 73 hHeld (hy:=by rintro w' ⟨s0,s1,s2,s3,s4,s5,s6,s7,s8,s9,s10,s11,s12,s13,s14⟩;go_simp;with_reducible rfl) (h:= ?_)
       refine on_ 27 74 (h:=fun K hK=> ?_)
       refine g1_ Tryz.func98 #[.string (⟨#[52]⟩:ByteArray),.string (⟨#[50]⟩:ByteArray)] (h:= ?_)
       with_reducible refine(aH.calls (⟨#[52]⟩:ByteArray) (⟨#[50]⟩:ByteArray) t164 t165 t166 _ A65.out).mono ?_
       rintro e w77 ⟨rfl,hb⟩
       refine⟨_,rfl,?_⟩
       replace BK113:=pkK BK113 hb;replace BK124:=pkK BK124 hb;replace BK135:=pkK BK135 hb;replace BK146:=pkK BK146 hb;replace BK157:=pkK BK157 hb;replace HB:=pkB HB hb
       (try clear hb)
       (try clear hb2)
       (try clear hk)
       (try clear hi)
       refine hK.out _ _ ⟨(aC BK113.out 0).trans rfl,(aC BK113.out 1).trans rfl,(aC BK113.out 2).trans rfl,(aC BK124.out 0).trans rfl,(aC BK124.out 1).trans rfl,(aC BK124.out 2).trans rfl,(aC BK135.out 0).trans rfl,(aC BK135.out 1).trans rfl,(aC BK135.out 2).trans rfl,(aC BK146.out 0).trans rfl,(aC BK146.out 1).trans rfl,(aC BK146.out 2).trans rfl,(aC BK157.out 0).trans rfl,(aC BK157.out 1).trans rfl,(aC BK157.out 2).trans rfl⟩ (fun hHeld=> ?_)
       clear hK K
       refine fF (a':= ?_) ?_ ?_
       rotate_left
       ·show Act.put _ (some 74) _=_
        simp only[Act.put,List.setIfInBounds_toArray,List.set_cons_zero,List.set_cons_succ,dD,dI]
        rfl
       refine pr_ 28 75 (h:= ?_)
       refine pr_ 29 76 (h:= ?_)
       refine pr_ 30 77 (h:= ?_)
       refine tk_ 31 78 hHeld (hy:=by rintro w' ⟨s0,s1,s2,s3,s4,s5,s6,s7,s8,s9,s10,s11,s12,s13,s14⟩;go_simp;with_reducible rfl) (h:= ?_)
       refine on_ 32 79 (h:=fun K hK=> ?_)
       refine g1_ Tryz.func98 #[.string (⟨#[50]⟩:ByteArray),.string (⟨#[49]⟩:ByteArray)] (h:= ?_)
       with_reducible refine(aH.calls (⟨#[50]⟩:ByteArray) (⟨#[49]⟩:ByteArray) t167 t168 t169 _ A72.out).mono ?_
       rintro e w78 ⟨rfl,hb⟩
       refine⟨_,rfl,?_⟩
       replace BK113:=pkK BK113 hb;replace BK124:=pkK BK124 hb;replace BK135:=pkK BK135 hb;replace BK146:=pkK BK146 hb;replace BK157:=pkK BK157 hb;replace HB:=pkB HB hb
       (try clear hb)
       (try clear hb2)
       (try clear hk)
       (try clear hi)
       refine hK.out _ _ ⟨(aC BK113.out 0).trans rfl,(aC BK113.out 1).trans rfl,(aC BK113.out 2).trans rfl,(aC BK124.out 0).trans rfl,(aC BK124.out 1).trans rfl,(aC BK124.out 2).trans rfl,(aC BK135.out 0).trans rfl,(aC BK135.out 1).trans rfl,(aC BK135.out 2).trans rfl,(aC BK146.out 0).trans rfl,(aC BK146.out 1).trans rfl,(aC BK146.out 2).trans rfl,(aC BK157.out 0).trans rfl,(aC BK157.out 1).trans rfl,(aC BK157.out 2).trans rfl⟩ (fun hHeld=> ?_)
       clear hK K
       refine fF (a':= ?_) ?_ ?_
       rotate_left
       ·show Act.put _ (some 79) _=_
        simp only[Act.put,List.setIfInBounds_toArray,List.set_cons_zero,List.set_cons_succ,dD,dI]
        rfl
       refine pr_ 33 80 (h:= ?_)
       refine pr_ 34 81 (h:= ?_)
       refine kF (lM HT_.out (by kernel_rfl)) ?_
       try go_wp2
       go_meet
       case rel=>exact⟨_,((!(t153==t167)||(!(t154.toList==t168.toList)||(!(t155.toList==t169.toList))))),(by first|rfl|(simp;done)|(simp[*];done)),H',⟨by first|omega|exact Nat.le_refl _⟩,⟨pkW BK113⟩,⟨pkW BK124⟩,⟨pkW BK135⟩,⟨pkW BK146⟩,⟨pkW BK157⟩,⟨pkL HB⟩⟩
    ·exact absurd (by(simp only[V120.out.1]) <;> decide +kernel) c58
  ·exact absurd (by(simp only[V109.out.2.2.2,V120.out.2.2.2,V131.out.2.2.2,V142.out.2.2.2,V153.out.2.2.2]) <;> decide +kernel) c52
 case rest=>
  clear HC16
  try clear c52
  try clear c52b0
  try clear c52b1
  try clear c58
  obtain⟨kq,x81_15,rfl,HA,HJ15,BK113,BK124,BK135,BK146,BK157,HB⟩:=hcut
  cases kq with
  |zero=>exact absurd HA.out (by simp[aW.j0])
  |succ kj15=>
   have H:=HA.out
   clear HA
   simp only[aW.j0] at H
   by_cases c84:x81_15=true
   ·have hj:=H;rw[if_pos c84] at hj;have hj2:=Option.some.inj hj;rw[hrT] at hj2;exact absurd hj2 (by decide)
   ·replace c84:=Bool.eq_false_iff.mpr c84
    subst c84
    have H1:((aH.f (⟨#[49,50]⟩:ByteArray) (⟨#[52]⟩:ByteArray)).bind fun bt170=>((aH.f (⟨#[48]⟩:ByteArray) (⟨#[52]⟩:ByteArray)).bind fun bt173=>((jD.f bt170.1 bt170.2.1 bt170.2.2 bt173.1 bt173.2.1 bt173.2.2).bind fun bt176=>((aH.f (⟨#[49,50]⟩:ByteArray) (⟨#[52]⟩:ByteArray)).bind fun bt181=>((aH.f (⟨#[48]⟩:ByteArray) (⟨#[53]⟩:ByteArray)).bind fun bt184=>((jD.f bt181.1 bt181.2.1 bt181.2.2 bt184.1 bt184.2.1 bt184.2.2).bind fun bt187=>((aH.f (⟨#[49,50]⟩:ByteArray) (⟨#[52]⟩:ByteArray)).bind fun bt192=>((aH.f (⟨#[48]⟩:ByteArray) (⟨#[54]⟩:ByteArray)).bind fun bt195=>((jE.f bt192.1 bt192.2.1 bt192.2.2 bt195.1 bt195.2.1 bt195.2.2).bind fun bt198=>((aH.f (⟨#[49,50]⟩:ByteArray) (⟨#[52]⟩:ByteArray)).bind fun bt203=>((aH.f (⟨#[48]⟩:ByteArray) (⟨#[56]⟩:ByteArray)).bind fun bt206=>((jE.f bt203.1 bt203.2.1 bt203.2.2 bt206.1 bt206.2.1 bt206.2.2).bind fun bt209=>(if(wrap64 ((wrap64 ((wrap64 (bt176.2.2.2+bt187.2.2.2))+bt198.2.2.2))+bt209.2.2.2))=0 then((aH.f (⟨#[51]⟩:ByteArray) (⟨#[49]⟩:ByteArray)).bind fun bt214=>(if(!(bt176.1==bt214.1)||(!(bt176.2.1.toList==bt214.2.1.toList)||(!(bt176.2.2.1.toList==bt214.2.2.toList))))=true then(aW.j1 kj15 true) else((dF.f).bind fun bt217=>(if(!(bt187.1==bt217.1)||(!(bt187.2.1.toList==bt217.2.1.toList)||(!(bt187.2.2.1.toList==bt217.2.2.toList))))=true then(aW.j1 kj15 true) else((aH.f (⟨#[48]⟩:ByteArray) (⟨#[52]⟩:ByteArray)).bind fun bt220=>(if(!(bt198.1==bt220.1)||(!(bt198.2.1.toList==bt220.2.1.toList)||(!(bt198.2.2.1.toList==bt220.2.2.toList))))=true then(aW.j1 kj15 true) else((aH.f (⟨#[52]⟩:ByteArray) (⟨#[48]⟩:ByteArray)).bind fun bt223=>(aW.j1 kj15 (!(bt209.1==bt223.1)||(!(bt209.2.1.toList==bt223.2.1.toList)||(!(bt209.2.2.1.toList==bt223.2.2.toList)))))))))))) else(aW.j1 kj15 true))))))))))))))=some r:=by rw[if_neg (show ¬(false=true) by decide)] at H;exact H
    clear H
    have H:=H1
    clear H1
    obtain⟨⟨t170,t171,t172⟩,A85,H⟩:=bi H
    have V170:aA (t170=false∧t171=(⟨#[49,50]⟩:ByteArray)∧t172=(⟨#[52]⟩:ByteArray)):=aA.mk (by have F:=A85.out.symm.trans aw170;simp only[Option.some.injEq,Prod.mk.injEq] at F;exact F)
    try dsimp only at H
    obtain⟨⟨t173,t174,t175⟩,A86,H⟩:=bi H
    have V173:aA (t173=false∧t174=(⟨#[48]⟩:ByteArray)∧t175=(⟨#[52]⟩:ByteArray)):=aA.mk (by have F:=A86.out.symm.trans aw173;simp only[Option.some.injEq,Prod.mk.injEq] at F;exact F)
    try dsimp only at H
    obtain⟨⟨t176,t177,t178,t179⟩,A87,H⟩:=bi H
    have V176:aA (t176=false∧t177=(⟨#[51]⟩:ByteArray)∧t178=(⟨#[49]⟩:ByteArray)∧t179=0):=aA.mk (by have E:=A87.out;simp only[V170.out.1,V170.out.2.1,V170.out.2.2,V173.out.1,V173.out.2.1,V173.out.2.2] at E;have F:=E.symm.trans aw176;simp only[Option.some.injEq,Prod.mk.injEq] at F;exact F)
    try dsimp only at H
    obtain⟨⟨t181,t182,t183⟩,A88,H⟩:=bi H
    have V181:aA (t181=false∧t182=(⟨#[49,50]⟩:ByteArray)∧t183=(⟨#[52]⟩:ByteArray)):=aA.mk (by have F:=A88.out.symm.trans aw181;simp only[Option.some.injEq,Prod.mk.injEq] at F;exact F)
    try dsimp only at H
    obtain⟨⟨t184,t185,t186⟩,A89,H⟩:=bi H
    have V184:aA (t184=false∧t185=(⟨#[48]⟩:ByteArray)∧t186=(⟨#[53]⟩:ByteArray)):=aA.mk (by have F:=A89.out.symm.trans aw184;simp only[Option.some.injEq,Prod.mk.injEq] at F;exact F)
    try dsimp only at H
    obtain⟨⟨t187,t188,t189,t190⟩,A90,H⟩:=bi H
    have V187:aA (t187=false∧t188=(⟨#[49]⟩:ByteArray)∧t189=(⟨#[48]⟩:ByteArray)∧t190=0):=aA.mk (by have E:=A90.out;simp only[V181.out.1,V181.out.2.1,V181.out.2.2,V184.out.1,V184.out.2.1,V184.out.2.2] at E;have F:=E.symm.trans aw187;simp only[Option.some.injEq,Prod.mk.injEq] at F;exact F)
    try dsimp only at H
    obtain⟨⟨t192,t193,t194⟩,A91,H⟩:=bi H
    have V192:aA (t192=false∧t193=(⟨#[49,50]⟩:ByteArray)∧t194=(⟨#[52]⟩:ByteArray)):=aA.mk (by have F:=A91.out.symm.trans aw192;simp only[Option.some.injEq,Prod.mk.injEq] at F;exact F)
    try dsimp only at H
    obtain⟨⟨t195,t196,t197⟩,A92,H⟩:=bi H
    have V195:aA (t195=false∧t196=(⟨#[48]⟩:ByteArray)∧t197=(⟨#[54]⟩:ByteArray)):=aA.mk (by have F:=A92.out.symm.trans aw195;simp only[Option.some.injEq,Prod.mk.injEq] at F;exact F)
    try dsimp only at H
    obtain⟨⟨t198,t199,t200,t201⟩,A93,H⟩:=bi H
    have V198:aA (t198=false∧t199=(⟨#[48]⟩:ByteArray)∧t200=(⟨#[52]⟩:ByteArray)∧t201=0):=aA.mk (by have E:=A93.out;simp only[V192.out.1,V192.out.2.1,V192.out.2.2,V195.out.1,V195.out.2.1,V195.out.2.2] at E;have F:=E.symm.trans aw198;simp only[Option.some.injEq,Prod.mk.injEq] at F;exact F)
    try dsimp only at H
    obtain⟨⟨t203,t204,t205⟩,A94,H⟩:=bi H
    have V203:aA (t203=false∧t204=(⟨#[49,50]⟩:ByteArray)∧t205=(⟨#[52]⟩:ByteArray)):=aA.mk (by have F:=A94.out.symm.trans aw203;simp only[Option.some.injEq,Prod.mk.injEq] at F;exact F)
    try dsimp only at H
    obtain⟨⟨t206,t207,t208⟩,A95,H⟩:=bi H
    have V206:aA (t206=false∧t207=(⟨#[48]⟩:ByteArray)∧t208=(⟨#[56]⟩:ByteArray)):=aA.mk (by have F:=A95.out.symm.trans aw206;simp only[Option.some.injEq,Prod.mk.injEq] at F;exact F)
    try dsimp only at H
    obtain⟨⟨t209,t210,t211,t212⟩,A96,H⟩:=bi H
    have V209:aA (t209=false∧t210=(⟨#[52]⟩:ByteArray)∧t211=(⟨#[48]⟩:ByteArray)∧t212=0):=aA.mk (by have E:=A96.out;simp only[V203.out.1,V203.out.2.1,V203.out.2.2,V206.out.1,V206.out.2.1,V206.out.2.2] at E;have F:=E.symm.trans aw209;simp only[Option.some.injEq,Prod.mk.injEq] at F;exact F)
    try dsimp only at H
    have HC97:=aA.mk H
    clear H
    go_upto_region 12 with (first|((with_reducible refine aG (f:=98) rfl ?_);refine gl_ 83 Tryz.func98 #[.string (⟨#[49,50]⟩:ByteArray),.string (⟨#[52]⟩:ByteArray)] (h:= ?_);(with_reducible refine(aH.calls (⟨#[49,50]⟩:ByteArray) (⟨#[52]⟩:ByteArray) t170 t171 t172 _ A85.out).mono ?_);rintro e w98 ⟨rfl,hb⟩;refine⟨_,rfl,?_⟩;replace BK113:=pkK BK113 hb;replace BK124:=pkK BK124 hb;replace BK135:=pkK BK135 hb;replace BK146:=pkK BK146 hb;replace BK157:=pkK BK157 hb;replace HB:=pkB HB hb;try clear hb)|((with_reducible refine aG (f:=98) rfl ?_);refine gl_ 84 Tryz.func98 #[.string (⟨#[48]⟩:ByteArray),.string (⟨#[52]⟩:ByteArray)] (h:= ?_);(with_reducible refine(aH.calls (⟨#[48]⟩:ByteArray) (⟨#[52]⟩:ByteArray) t173 t174 t175 _ A86.out).mono ?_);rintro e w99 ⟨rfl,hb⟩;refine⟨_,rfl,?_⟩;replace BK113:=pkK BK113 hb;replace BK124:=pkK BK124 hb;replace BK135:=pkK BK135 hb;replace BK146:=pkK BK146 hb;replace BK157:=pkK BK157 hb;replace HB:=pkB HB hb;try clear hb)|((with_reducible refine aG (f:=36) rfl ?_);refine gl_ 85 Tryz.func36 #[.agg #[.bool t170,.string t171,.string t172],.agg #[.bool t173,.string t174,.string t175]] (h:= ?_);(with_reducible refine(jD.calls (hG:=HG.out.below (pkL HB)) t170 t171 t172 t173 t174 t175 t176 t177 t178 t179 _ A87.out).mono ?_);rintro e w100 ⟨rfl,hb⟩;refine⟨_,rfl,?_⟩;replace BK113:=pkK BK113 hb;replace BK124:=pkK BK124 hb;replace BK135:=pkK BK135 hb;replace BK146:=pkK BK146 hb;replace BK157:=pkK BK157 hb;replace HB:=pkB HB hb;try clear hb)|((with_reducible refine aV (N:=11) rfl ?_);refine bx_ 11 36 #[.bool false,.string (⟨#[]⟩:ByteArray),.string (⟨#[]⟩:ByteArray)] (h:= ?_);intro gb180 hg w101 hbox hb;have BK180:=aA.mk (hbox);have GW180:=pkG HB hg;have GE180:=GW180;have NB113_180:=pkN BK113 hg;have NB180_113:=pkM BK113 hg;have NB124_180:=pkN BK124 hg;have NB180_124:=pkM BK124 hg;have NB135_180:=pkN BK135 hg;have NB180_135:=pkM BK135 hg;have NB146_180:=pkN BK146 hg;have NB180_146:=pkM BK146 hg;have NB157_180:=pkN BK157 hg;have NB180_157:=pkM BK157 hg;replace BK113:=pkK BK113 hb;replace BK124:=pkK BK124 hb;replace BK135:=pkK BK135 hb;replace BK146:=pkK BK146 hb;replace BK157:=pkK BK157 hb;replace HB:=pkB HB hb;clear hb hbox hg;have hnb102:=NB180_113.out;have hnc102:=NB113_180.out;have hnb103:=NB180_124.out;have hnc103:=NB124_180.out;have hnb104:=NB180_135.out;have hnc104:=NB135_180.out;have hnb105:=NB180_146.out;have hnc105:=NB146_180.out;have hnb106:=NB180_157.out;have hnc106:=NB157_180.out;obtain⟨⟨hcz107_0,hcz107_1,hcz107_2⟩,hfz107_0,hfz107_1,hfz107_2⟩:=pk3 BK180)|((with_reducible refine aG (f:=98) rfl ?_);refine gl_ 89 Tryz.func98 #[.string (⟨#[49,50]⟩:ByteArray),.string (⟨#[52]⟩:ByteArray)] (h:= ?_);(with_reducible refine(aH.calls (⟨#[49,50]⟩:ByteArray) (⟨#[52]⟩:ByteArray) t181 t182 t183 _ A88.out).mono ?_);rintro e w108 ⟨rfl,hb⟩;refine⟨_,rfl,?_⟩;have n0_:=aA.mk (dS (g:=gb113) (o:= .cells #[.bool t109,.string t110,.string t111] 36 (0,0)) (by(with_reducible repeat(first|refine aN ?_ _|refine aJ ?_|refine aK ?_ _));refine bC ?_ NB113_180.out _;(with_reducible repeat(first|refine aN ?_ _|refine aJ ?_|refine aK ?_ _));refine bC ?_ NB113_180.out _;(with_reducible repeat(first|refine aN ?_ _|refine aJ ?_|refine aK ?_ _));refine bC ?_ NB113_180.out _;(with_reducible repeat(first|refine aN ?_ _|refine aJ ?_|refine aK ?_ _));exact BK113.out) hb);have n1_:=aA.mk (dS (g:=gb124) (o:= .cells #[.bool t120,.string t121,.string t122] 36 (0,0)) (by(with_reducible repeat(first|refine aN ?_ _|refine aJ ?_|refine aK ?_ _));refine bC ?_ NB124_180.out _;(with_reducible repeat(first|refine aN ?_ _|refine aJ ?_|refine aK ?_ _));refine bC ?_ NB124_180.out _;(with_reducible repeat(first|refine aN ?_ _|refine aJ ?_|refine aK ?_ _));refine bC ?_ NB124_180.out _;(with_reducible repeat(first|refine aN ?_ _|refine aJ ?_|refine aK ?_ _));exact BK124.out) hb);have n2_:=aA.mk (dS (g:=gb135) (o:= .cells #[.bool t131,.string t132,.string t133] 36 (0,0)) (by(with_reducible repeat(first|refine aN ?_ _|refine aJ ?_|refine aK ?_ _));refine bC ?_ NB135_180.out _;(with_reducible repeat(first|refine aN ?_ _|refine aJ ?_|refine aK ?_ _));refine bC ?_ NB135_180.out _;(with_reducible repeat(first|refine aN ?_ _|refine aJ ?_|refine aK ?_ _));refine bC ?_ NB135_180.out _;(with_reducible repeat(first|refine aN ?_ _|refine aJ ?_|refine aK ?_ _));exact BK135.out) hb);have n3_:=aA.mk (dS (g:=gb146) (o:= .cells #[.bool t142,.string t143,.string t144] 36 (0,0)) (by(with_reducible repeat(first|refine aN ?_ _|refine aJ ?_|refine aK ?_ _));refine bC ?_ NB146_180.out _;(with_reducible repeat(first|refine aN ?_ _|refine aJ ?_|refine aK ?_ _));refine bC ?_ NB146_180.out _;(with_reducible repeat(first|refine aN ?_ _|refine aJ ?_|refine aK ?_ _));refine bC ?_ NB146_180.out _;(with_reducible repeat(first|refine aN ?_ _|refine aJ ?_|refine aK ?_ _));exact BK146.out) hb);have n4_:=aA.mk (dS (g:=gb157) (o:= .cells #[.bool t153,.string t154,.string t155] 36 (0,0)) (by(with_reducible repeat(first|refine aN ?_ _|refine aJ ?_|refine aK ?_ _));refine bC ?_ NB157_180.out _;(with_reducible repeat(first|refine aN ?_ _|refine aJ ?_|refine aK ?_ _));refine bC ?_ NB157_180.out _;(with_reducible repeat(first|refine aN ?_ _|refine aJ ?_|refine aK ?_ _));refine bC ?_ NB157_180.out _;(with_reducible repeat(first|refine aN ?_ _|refine aJ ?_|refine aK ?_ _));exact BK157.out) hb);have n5_:=aA.mk (dS (g:=gb180) (o:= .cells #[.bool t176,.string t177,.string t178] 36 (0,0)) (pkS3 BK180) hb);have n6_:=pkB HB hb;clear BK113;clear BK124;clear BK135;clear BK146;clear BK157;clear BK180;clear HB;have BK113:=n0_;have BK124:=n1_;have BK135:=n2_;have BK146:=n3_;have BK157:=n4_;have BK180:=n5_;have HB:=n6_;clear n0_ n1_ n2_ n3_ n4_ n5_ n6_;try clear hb)|((with_reducible refine aG (f:=98) rfl ?_);refine gl_ 90 Tryz.func98 #[.string (⟨#[48]⟩:ByteArray),.string (⟨#[53]⟩:ByteArray)] (h:= ?_);(with_reducible refine(aH.calls (⟨#[48]⟩:ByteArray) (⟨#[53]⟩:ByteArray) t184 t185 t186 _ A89.out).mono ?_);rintro e w109 ⟨rfl,hb⟩;refine⟨_,rfl,?_⟩;replace BK113:=pkK BK113 hb;replace BK124:=pkK BK124 hb;replace BK135:=pkK BK135 hb;replace BK146:=pkK BK146 hb;replace BK157:=pkK BK157 hb;replace BK180:=pkK BK180 hb;replace HB:=pkB HB hb;try clear hb)|((with_reducible refine aG (f:=36) rfl ?_);refine gl_ 91 Tryz.func36 #[.agg #[.bool t181,.string t182,.string t183],.agg #[.bool t184,.string t185,.string t186]] (h:= ?_);(with_reducible refine(jD.calls (hG:=HG.out.below (pkL HB)) t181 t182 t183 t184 t185 t186 t187 t188 t189 t190 _ A90.out).mono ?_);rintro e w110 ⟨rfl,hb⟩;refine⟨_,rfl,?_⟩;replace BK113:=pkK BK113 hb;replace BK124:=pkK BK124 hb;replace BK135:=pkK BK135 hb;replace BK146:=pkK BK146 hb;replace BK157:=pkK BK157 hb;replace BK180:=pkK BK180 hb;replace HB:=pkB HB hb;try clear hb)|((with_reducible refine aV (N:=12) rfl ?_);refine bx_ 12 36 #[.bool false,.string (⟨#[]⟩:ByteArray),.string (⟨#[]⟩:ByteArray)] (h:= ?_);intro gb191 hg w111 hbox hb;have BK191:=aA.mk (hbox);have GW191:=pkG HB hg;have GE191:=GW191;have NB113_191:=pkN BK113 hg;have NB191_113:=pkM BK113 hg;have NB124_191:=pkN BK124 hg;have NB191_124:=pkM BK124 hg;have NB135_191:=pkN BK135 hg;have NB191_135:=pkM BK135 hg;have NB146_191:=pkN BK146 hg;have NB191_146:=pkM BK146 hg;have NB157_191:=pkN BK157 hg;have NB191_157:=pkM BK157 hg;have NB180_191:=pkN BK180 hg;have NB191_180:=pkM BK180 hg;replace BK113:=pkK BK113 hb;replace BK124:=pkK BK124 hb;replace BK135:=pkK BK135 hb;replace BK146:=pkK BK146 hb;replace BK157:=pkK BK157 hb;replace BK180:=pkK BK180 hb;replace HB:=pkB HB hb;clear hb hbox hg;have hnb112:=NB191_113.out;have hnc112:=NB113_191.out;have hnb113:=NB191_124.out;have hnc113:=NB124_191.out;have hnb114:=NB191_135.out;have hnc114:=NB135_191.out;have hnb115:=NB191_146.out;have hnc115:=NB146_191.out;have hnb116:=NB191_157.out;have hnc116:=NB157_191.out;have hnb117:=NB191_180.out;have hnc117:=NB180_191.out;obtain⟨⟨hcz118_0,hcz118_1,hcz118_2⟩,hfz118_0,hfz118_1,hfz118_2⟩:=pk3 BK191)|((with_reducible refine aG (f:=98) rfl ?_);refine gl_ 95 Tryz.func98 #[.string (⟨#[49,50]⟩:ByteArray),.string (⟨#[52]⟩:ByteArray)] (h:= ?_);(with_reducible refine(aH.calls (⟨#[49,50]⟩:ByteArray) (⟨#[52]⟩:ByteArray) t192 t193 t194 _ A91.out).mono ?_);rintro e w119 ⟨rfl,hb⟩;refine⟨_,rfl,?_⟩;have n0_:=aA.mk (dS (g:=gb113) (o:= .cells #[.bool t109,.string t110,.string t111] 36 (0,0)) (by(with_reducible repeat(first|refine aN ?_ _|refine aJ ?_|refine aK ?_ _));refine bC ?_ NB113_191.out _;(with_reducible repeat(first|refine aN ?_ _|refine aJ ?_|refine aK ?_ _));refine bC ?_ NB113_191.out _;(with_reducible repeat(first|refine aN ?_ _|refine aJ ?_|refine aK ?_ _));refine bC ?_ NB113_191.out _;(with_reducible repeat(first|refine aN ?_ _|refine aJ ?_|refine aK ?_ _));exact BK113.out) hb);have n1_:=aA.mk (dS (g:=gb124) (o:= .cells #[.bool t120,.string t121,.string t122] 36 (0,0)) (by(with_reducible repeat(first|refine aN ?_ _|refine aJ ?_|refine aK ?_ _));refine bC ?_ NB124_191.out _;(with_reducible repeat(first|refine aN ?_ _|refine aJ ?_|refine aK ?_ _));refine bC ?_ NB124_191.out _;(with_reducible repeat(first|refine aN ?_ _|refine aJ ?_|refine aK ?_ _));refine bC ?_ NB124_191.out _;(with_reducible repeat(first|refine aN ?_ _|refine aJ ?_|refine aK ?_ _));exact BK124.out) hb);have n2_:=aA.mk (dS (g:=gb135) (o:= .cells #[.bool t131,.string t132,.string t133] 36 (0,0)) (by(with_reducible repeat(first|refine aN ?_ _|refine aJ ?_|refine aK ?_ _));refine bC ?_ NB135_191.out _;(with_reducible repeat(first|refine aN ?_ _|refine aJ ?_|refine aK ?_ _));refine bC ?_ NB135_191.out _;(with_reducible repeat(first|refine aN ?_ _|refine aJ ?_|refine aK ?_ _));refine bC ?_ NB135_191.out _;(with_reducible repeat(first|refine aN ?_ _|refine aJ ?_|refine aK ?_ _));exact BK135.out) hb);have n3_:=aA.mk (dS (g:=gb146) (o:= .cells #[.bool t142,.string t143,.string t144] 36 (0,0)) (by(with_reducible repeat(first|refine aN ?_ _|refine aJ ?_|refine aK ?_ _));refine bC ?_ NB146_191.out _;(with_reducible repeat(first|refine aN ?_ _|refine aJ ?_|refine aK ?_ _));refine bC ?_ NB146_191.out _;(with_reducible repeat(first|refine aN ?_ _|refine aJ ?_|refine aK ?_ _));refine bC ?_ NB146_191.out _;(with_reducible repeat(first|refine aN ?_ _|refine aJ ?_|refine aK ?_ _));exact BK146.out) hb);have n4_:=aA.mk (dS (g:=gb157) (o:= .cells #[.bool t153,.string t154,.string t155] 36 (0,0)) (by(with_reducible repeat(first|refine aN ?_ _|refine aJ ?_|refine aK ?_ _));refine bC ?_ NB157_191.out _;(with_reducible repeat(first|refine aN ?_ _|refine aJ ?_|refine aK ?_ _));refine bC ?_ NB157_191.out _;(with_reducible repeat(first|refine aN ?_ _|refine aJ ?_|refine aK ?_ _));refine bC ?_ NB157_191.out _;(with_reducible repeat(first|refine aN ?_ _|refine aJ ?_|refine aK ?_ _));exact BK157.out) hb);have n5_:=aA.mk (dS (g:=gb180) (o:= .cells #[.bool t176,.string t177,.string t178] 36 (0,0)) (by(with_reducible repeat(first|refine aN ?_ _|refine aJ ?_|refine aK ?_ _));refine bC ?_ NB180_191.out _;(with_reducible repeat(first|refine aN ?_ _|refine aJ ?_|refine aK ?_ _));refine bC ?_ NB180_191.out _;(with_reducible repeat(first|refine aN ?_ _|refine aJ ?_|refine aK ?_ _));refine bC ?_ NB180_191.out _;(with_reducible repeat(first|refine aN ?_ _|refine aJ ?_|refine aK ?_ _));exact BK180.out) hb);have n6_:=aA.mk (dS (g:=gb191) (o:= .cells #[.bool t187,.string t188,.string t189] 36 (0,0)) (pkS3 BK191) hb);have n7_:=pkB HB hb;clear BK113;clear BK124;clear BK135;clear BK146;clear BK157;clear BK180;clear BK191;clear HB;have BK113:=n0_;have BK124:=n1_;have BK135:=n2_;have BK146:=n3_;have BK157:=n4_;have BK180:=n5_;have BK191:=n6_;have HB:=n7_;clear n0_ n1_ n2_ n3_ n4_ n5_ n6_ n7_;try clear hb)|((with_reducible refine aG (f:=98) rfl ?_);refine gl_ 96 Tryz.func98 #[.string (⟨#[48]⟩:ByteArray),.string (⟨#[54]⟩:ByteArray)] (h:= ?_);(with_reducible refine(aH.calls (⟨#[48]⟩:ByteArray) (⟨#[54]⟩:ByteArray) t195 t196 t197 _ A92.out).mono ?_);rintro e w120 ⟨rfl,hb⟩;refine⟨_,rfl,?_⟩;replace BK113:=pkK BK113 hb;replace BK124:=pkK BK124 hb;replace BK135:=pkK BK135 hb;replace BK146:=pkK BK146 hb;replace BK157:=pkK BK157 hb;replace BK180:=pkK BK180 hb;replace BK191:=pkK BK191 hb;replace HB:=pkB HB hb;try clear hb)|((with_reducible refine aG (f:=38) rfl ?_);refine gl_ 97 Tryz.func38 #[.agg #[.bool t192,.string t193,.string t194],.agg #[.bool t195,.string t196,.string t197]] (h:= ?_);(with_reducible refine(jE.calls (hG:=HG.out.below (pkL HB)) t192 t193 t194 t195 t196 t197 t198 t199 t200 t201 _ A93.out).mono ?_);rintro e w121 ⟨rfl,hb⟩;refine⟨_,rfl,?_⟩;replace BK113:=pkK BK113 hb;replace BK124:=pkK BK124 hb;replace BK135:=pkK BK135 hb;replace BK146:=pkK BK146 hb;replace BK157:=pkK BK157 hb;replace BK180:=pkK BK180 hb;replace BK191:=pkK BK191 hb;replace HB:=pkB HB hb;try clear hb)|((with_reducible refine aV (N:=13) rfl ?_);refine bx_ 13 36 #[.bool false,.string (⟨#[]⟩:ByteArray),.string (⟨#[]⟩:ByteArray)] (h:= ?_);intro gb202 hg w122 hbox hb;have BK202:=aA.mk (hbox);have GW202:=pkG HB hg;have GE202:=GW202;have NB113_202:=pkN BK113 hg;have NB202_113:=pkM BK113 hg;have NB124_202:=pkN BK124 hg;have NB202_124:=pkM BK124 hg;have NB135_202:=pkN BK135 hg;have NB202_135:=pkM BK135 hg;have NB146_202:=pkN BK146 hg;have NB202_146:=pkM BK146 hg;have NB157_202:=pkN BK157 hg;have NB202_157:=pkM BK157 hg;have NB180_202:=pkN BK180 hg;have NB202_180:=pkM BK180 hg;have NB191_202:=pkN BK191 hg;have NB202_191:=pkM BK191 hg;replace BK113:=pkK BK113 hb;replace BK124:=pkK BK124 hb;replace BK135:=pkK BK135 hb;replace BK146:=pkK BK146 hb;replace BK157:=pkK BK157 hb;replace BK180:=pkK BK180 hb;replace BK191:=pkK BK191 hb;replace HB:=pkB HB hb;clear hb hbox hg;have hnb123:=NB202_113.out;have hnc123:=NB113_202.out;have hnb124:=NB202_124.out;have hnc124:=NB124_202.out;have hnb125:=NB202_135.out;have hnc125:=NB135_202.out;have hnb126:=NB202_146.out;have hnc126:=NB146_202.out;have hnb127:=NB202_157.out;have hnc127:=NB157_202.out;have hnb128:=NB202_180.out;have hnc128:=NB180_202.out;have hnb129:=NB202_191.out;have hnc129:=NB191_202.out;obtain⟨⟨hcz130_0,hcz130_1,hcz130_2⟩,hfz130_0,hfz130_1,hfz130_2⟩:=pk3 BK202)|((with_reducible refine aG (f:=98) rfl ?_);refine gl_ 101 Tryz.func98 #[.string (⟨#[49,50]⟩:ByteArray),.string (⟨#[52]⟩:ByteArray)] (h:= ?_);(with_reducible refine(aH.calls (⟨#[49,50]⟩:ByteArray) (⟨#[52]⟩:ByteArray) t203 t204 t205 _ A94.out).mono ?_);rintro e w131 ⟨rfl,hb⟩;refine⟨_,rfl,?_⟩;have n0_:=aA.mk (dS (g:=gb113) (o:= .cells #[.bool t109,.string t110,.string t111] 36 (0,0)) (by(with_reducible repeat(first|refine aN ?_ _|refine aJ ?_|refine aK ?_ _));refine bC ?_ NB113_202.out _;(with_reducible repeat(first|refine aN ?_ _|refine aJ ?_|refine aK ?_ _));refine bC ?_ NB113_202.out _;(with_reducible repeat(first|refine aN ?_ _|refine aJ ?_|refine aK ?_ _));refine bC ?_ NB113_202.out _;(with_reducible repeat(first|refine aN ?_ _|refine aJ ?_|refine aK ?_ _));exact BK113.out) hb);have n1_:=aA.mk (dS (g:=gb124) (o:= .cells #[.bool t120,.string t121,.string t122] 36 (0,0)) (by(with_reducible repeat(first|refine aN ?_ _|refine aJ ?_|refine aK ?_ _));refine bC ?_ NB124_202.out _;(with_reducible repeat(first|refine aN ?_ _|refine aJ ?_|refine aK ?_ _));refine bC ?_ NB124_202.out _;(with_reducible repeat(first|refine aN ?_ _|refine aJ ?_|refine aK ?_ _));refine bC ?_ NB124_202.out _;(with_reducible repeat(first|refine aN ?_ _|refine aJ ?_|refine aK ?_ _));exact BK124.out) hb);have n2_:=aA.mk (dS (g:=gb135) (o:= .cells #[.bool t131,.string t132,.string t133] 36 (0,0)) (by(with_reducible repeat(first|refine aN ?_ _|refine aJ ?_|refine aK ?_ _));refine bC ?_ NB135_202.out _;(with_reducible repeat(first|refine aN ?_ _|refine aJ ?_|refine aK ?_ _));refine bC ?_ NB135_202.out _;(with_reducible repeat(first|refine aN ?_ _|refine aJ ?_|refine aK ?_ _));refine bC ?_ NB135_202.out _;(with_reducible repeat(first|refine aN ?_ _|refine aJ ?_|refine aK ?_ _));exact BK135.out) hb);have n3_:=aA.mk (dS (g:=gb146) (o:= .cells #[.bool t142,.string t143,.string t144] 36 (0,0)) (by(with_reducible repeat(first|refine aN ?_ _|refine aJ ?_|refine aK ?_ _));refine bC ?_ NB146_202.out _;(with_reducible repeat(first|refine aN ?_ _|refine aJ ?_|refine aK ?_ _));refine bC ?_ NB146_202.out _;(with_reducible repeat(first|refine aN ?_ _|refine aJ ?_|refine aK ?_ _));refine bC ?_ NB146_202.out _;(with_reducible repeat(first|refine aN ?_ _|refine aJ ?_|refine aK ?_ _));exact BK146.out) hb);have n4_:=aA.mk (dS (g:=gb157) (o:= .cells #[.bool t153,.string t154,.string t155] 36 (0,0)) (by(with_reducible repeat(first|refine aN ?_ _|refine aJ ?_|refine aK ?_ _));refine bC ?_ NB157_202.out _;(with_reducible repeat(first|refine aN ?_ _|refine aJ ?_|refine aK ?_ _));refine bC ?_ NB157_202.out _;(with_reducible repeat(first|refine aN ?_ _|refine aJ ?_|refine aK ?_ _));refine bC ?_ NB157_202.out _;(with_reducible repeat(first|refine aN ?_ _|refine aJ ?_|refine aK ?_ _));exact BK157.out) hb);have n5_:=aA.mk (dS (g:=gb180) (o:= .cells #[.bool t176,.string t177,.string t178] 36 (0,0)) (by(with_reducible repeat(first|refine aN ?_ _|refine aJ ?_|refine aK ?_ _));refine bC ?_ NB180_202.out _;(with_reducible repeat(first|refine aN ?_ _|refine aJ ?_|refine aK ?_ _));refine bC ?_ NB180_202.out _;(with_reducible repeat(first|refine aN ?_ _|refine aJ ?_|refine aK ?_ _));refine bC ?_ NB180_202.out _;(with_reducible repeat(first|refine aN ?_ _|refine aJ ?_|refine aK ?_ _));exact BK180.out) hb);have n6_:=aA.mk (dS (g:=gb191) (o:= .cells #[.bool t187,.string t188,.string t189] 36 (0,0)) (by(with_reducible repeat(first|refine aN ?_ _|refine aJ ?_|refine aK ?_ _));refine bC ?_ NB191_202.out _;(with_reducible repeat(first|refine aN ?_ _|refine aJ ?_|refine aK ?_ _));refine bC ?_ NB191_202.out _;(with_reducible repeat(first|refine aN ?_ _|refine aJ ?_|refine aK ?_ _));refine bC ?_ NB191_202.out _;(with_reducible repeat(first|refine aN ?_ _|refine aJ ?_|refine aK ?_ _));exact BK191.out) hb);have n7_:=aA.mk (dS (g:=gb202) (o:= .cells #[.bool t198,.string t199,.string t200] 36 (0,0)) (pkS3 BK202) hb);have n8_:=pkB HB hb;clear BK113;clear BK124;clear BK135;clear BK146;clear BK157;clear BK180;clear BK191;clear BK202;clear HB;have BK113:=n0_;have BK124:=n1_;have BK135:=n2_;have BK146:=n3_;have BK157:=n4_;have BK180:=n5_;have BK191:=n6_;have BK202:=n7_;have HB:=n8_;clear n0_ n1_ n2_ n3_ n4_ n5_ n6_ n7_ n8_;try clear hb)|((with_reducible refine aG (f:=98) rfl ?_);refine gl_ 102 Tryz.func98 #[.string (⟨#[48]⟩:ByteArray),.string (⟨#[56]⟩:ByteArray)] (h:= ?_);(with_reducible refine(aH.calls (⟨#[48]⟩:ByteArray) (⟨#[56]⟩:ByteArray) t206 t207 t208 _ A95.out).mono ?_);rintro e w132 ⟨rfl,hb⟩;refine⟨_,rfl,?_⟩;replace BK113:=pkK BK113 hb;replace BK124:=pkK BK124 hb;replace BK135:=pkK BK135 hb;replace BK146:=pkK BK146 hb;replace BK157:=pkK BK157 hb;replace BK180:=pkK BK180 hb;replace BK191:=pkK BK191 hb;replace BK202:=pkK BK202 hb;replace HB:=pkB HB hb;try clear hb)|((with_reducible refine aG (f:=38) rfl ?_);refine gl_ 103 Tryz.func38 #[.agg #[.bool t203,.string t204,.string t205],.agg #[.bool t206,.string t207,.string t208]] (h:= ?_);(with_reducible refine(jE.calls (hG:=HG.out.below (pkL HB)) t203 t204 t205 t206 t207 t208 t209 t210 t211 t212 _ A96.out).mono ?_);rintro e w133 ⟨rfl,hb⟩;refine⟨_,rfl,?_⟩;replace BK113:=pkK BK113 hb;replace BK124:=pkK BK124 hb;replace BK135:=pkK BK135 hb;replace BK146:=pkK BK146 hb;replace BK157:=pkK BK157 hb;replace BK180:=pkK BK180 hb;replace BK191:=pkK BK191 hb;replace BK202:=pkK BK202 hb;replace HB:=pkB HB hb;try clear hb)|((with_reducible refine aV (N:=14) rfl ?_);refine bx_ 14 36 #[.bool false,.string (⟨#[]⟩:ByteArray),.string (⟨#[]⟩:ByteArray)] (h:= ?_);intro gb213 hg w134 hbox hb;have BK213:=aA.mk (hbox);have GW213:=pkG HB hg;have GE213:=GW213;have NB113_213:=pkN BK113 hg;have NB213_113:=pkM BK113 hg;have NB124_213:=pkN BK124 hg;have NB213_124:=pkM BK124 hg;have NB135_213:=pkN BK135 hg;have NB213_135:=pkM BK135 hg;have NB146_213:=pkN BK146 hg;have NB213_146:=pkM BK146 hg;have NB157_213:=pkN BK157 hg;have NB213_157:=pkM BK157 hg;have NB180_213:=pkN BK180 hg;have NB213_180:=pkM BK180 hg;have NB191_213:=pkN BK191 hg;have NB213_191:=pkM BK191 hg;have NB202_213:=pkN BK202 hg;have NB213_202:=pkM BK202 hg;replace BK113:=pkK BK113 hb;replace BK124:=pkK BK124 hb;replace BK135:=pkK BK135 hb;replace BK146:=pkK BK146 hb;replace BK157:=pkK BK157 hb;replace BK180:=pkK BK180 hb;replace BK191:=pkK BK191 hb;replace BK202:=pkK BK202 hb;replace HB:=pkB HB hb;clear hb hbox hg;have hnb135:=NB213_113.out;have hnc135:=NB113_213.out;have hnb136:=NB213_124.out;have hnc136:=NB124_213.out;have hnb137:=NB213_135.out;have hnc137:=NB135_213.out;have hnb138:=NB213_146.out;have hnc138:=NB146_213.out;have hnb139:=NB213_157.out;have hnc139:=NB157_213.out;have hnb140:=NB213_180.out;have hnc140:=NB180_213.out;have hnb141:=NB213_191.out;have hnc141:=NB191_213.out;have hnb142:=NB213_202.out;have hnc142:=NB202_213.out;obtain⟨⟨hcz143_0,hcz143_1,hcz143_2⟩,hfz143_0,hfz143_1,hfz143_2⟩:=pk3 BK213))
    (try simp only[Act.put,List.setIfInBounds_toArray,List.set_cons_zero,List.set_cons_succ])
    go_cut [133] (fun v133 wc=>∃(kq:Nat) (x133_96:Bool),v133= .bool x133_96∧aA (aW.j1 kq x133_96=some r)∧aA (kq≤kj15)∧aA (wc.heap[gb113]? =some (.cells #[.bool t109,.string t110,.string t111] 36 (0,0)))∧aA (wc.heap[gb124]? =some (.cells #[.bool t120,.string t121,.string t122] 36 (0,0)))∧aA (wc.heap[gb135]? =some (.cells #[.bool t131,.string t132,.string t133] 36 (0,0)))∧aA (wc.heap[gb146]? =some (.cells #[.bool t142,.string t143,.string t144] 36 (0,0)))∧aA (wc.heap[gb157]? =some (.cells #[.bool t153,.string t154,.string t155] 36 (0,0)))∧aA (wc.heap[gb180]? =some (.cells #[.bool t176,.string t177,.string t178] 36 (0,0)))∧aA (wc.heap[gb191]? =some (.cells #[.bool t187,.string t188,.string t189] 36 (0,0)))∧aA (wc.heap[gb202]? =some (.cells #[.bool t198,.string t199,.string t200] 36 (0,0)))∧aA (wc.heap[gb213]? =some (.cells #[.bool t209,.string t210,.string t211] 36 (0,0)))∧aA (Below w.heap.size w wc))
    case first=>
     have H:=HC97.out
     clear HC97
     by_cases c144:(wrap64 ((wrap64 ((wrap64 (t179+t190))+t201))+t212))=0
     ·rw[if_pos c144] at H
      have c144b0:((wrap64 ((wrap64 ((wrap64 (t179+t190))+t201))+t212))==0)=true:=beq_iff_eq.mpr c144
      have c144b1:((wrap64 ((wrap64 ((wrap64 (t179+t190))+t201))+t212)) != 0)=false:=bne_eq_false_iff_eq.mpr c144
      clear c144
      (first|rw[c144b0]|(simp only[dD,dI];rw[c144b0])|skip)
      obtain⟨⟨t214,t215,t216⟩,A145,H⟩:=bi H
      have V214:aA (t214=false∧t215=(⟨#[51]⟩:ByteArray)∧t216=(⟨#[49]⟩:ByteArray)):=aA.mk (by have F:=A145.out.symm.trans aw214;simp only[Option.some.injEq,Prod.mk.injEq] at F;exact F)
      try dsimp only at H
      by_cases c146:(!(t176==t214)||(!(t177.toList==t215.toList)||(!(t178.toList==t216.toList))))=true
      ·exact absurd c146 (by(simp only[V176.out.1,V176.out.2.1,V176.out.2.2.1,V214.out.1,V214.out.2.1,V214.out.2.2]) <;> decide +kernel)
      ·rw[if_neg c146] at H
       have c146b0:(!(t176==t214)||(!(t177.toList==t215.toList)||(!(t178.toList==t216.toList))))=false:=by simpa using c146
       clear c146
       obtain⟨⟨t217,t218,t219⟩,A150,H⟩:=bi H
       have V217:aA (t217=false∧t218=(⟨#[49]⟩:ByteArray)∧t219=(⟨#[48]⟩:ByteArray)):=aA.mk (by have F:=A150.out.symm.trans aw217;simp only[Option.some.injEq,Prod.mk.injEq] at F;exact F)
       try dsimp only at H
       by_cases c151:(!(t187==t217)||(!(t188.toList==t218.toList)||(!(t189.toList==t219.toList))))=true
       ·exact absurd c151 (by(simp only[V187.out.1,V187.out.2.1,V187.out.2.2.1,V217.out.1,V217.out.2.1,V217.out.2.2]) <;> decide +kernel)
       ·rw[if_neg c151] at H
        have c151b0:(!(t187==t217)||(!(t188.toList==t218.toList)||(!(t189.toList==t219.toList))))=false:=by simpa using c151
        clear c151
        obtain⟨⟨t220,t221,t222⟩,A156,H⟩:=bi H
        have V220:aA (t220=false∧t221=(⟨#[48]⟩:ByteArray)∧t222=(⟨#[52]⟩:ByteArray)):=aA.mk (by have F:=A156.out.symm.trans aw220;simp only[Option.some.injEq,Prod.mk.injEq] at F;exact F)
        try dsimp only at H
        by_cases c157:(!(t198==t220)||(!(t199.toList==t221.toList)||(!(t200.toList==t222.toList))))=true
        ·exact absurd c157 (by(simp only[V198.out.1,V198.out.2.1,V198.out.2.2.1,V220.out.1,V220.out.2.1,V220.out.2.2]) <;> decide +kernel)
        ·rw[if_neg c157] at H
         have c157b0:(!(t198==t220)||(!(t199.toList==t221.toList)||(!(t200.toList==t222.toList))))=false:=by simpa using c157
         clear c157
         obtain⟨⟨t223,t224,t225⟩,A163,H⟩:=bi H
         have V223:aA (t223=false∧t224=(⟨#[52]⟩:ByteArray)∧t225=(⟨#[48]⟩:ByteArray)):=aA.mk (by have F:=A163.out.symm.trans aw223;simp only[Option.some.injEq,Prod.mk.injEq] at F;exact F)
         try dsimp only at H
         have H':=aA.mk H
         clear H
         try go_wp2
         have n0_:aA ((((w134.setCell ⟨gb213,0,none⟩ (.bool t209)).setCell ⟨gb213,1,none⟩ (.string t210)).setCell ⟨gb213,2,none⟩ (.string t211)).heap[gb113]? =some (.cells #[.bool t109,.string t110,.string t111] 36 (0,0))):=⟨by(with_reducible repeat(first|refine aN ?_ _|refine aJ ?_|refine aK ?_ _));refine bC ?_ NB113_213.out _;(with_reducible repeat(first|refine aN ?_ _|refine aJ ?_|refine aK ?_ _));refine bC ?_ NB113_213.out _;(with_reducible repeat(first|refine aN ?_ _|refine aJ ?_|refine aK ?_ _));refine bC ?_ NB113_213.out _;(with_reducible repeat(first|refine aN ?_ _|refine aJ ?_|refine aK ?_ _));exact BK113.out⟩
         have n1_:aA ((((w134.setCell ⟨gb213,0,none⟩ (.bool t209)).setCell ⟨gb213,1,none⟩ (.string t210)).setCell ⟨gb213,2,none⟩ (.string t211)).heap[gb124]? =some (.cells #[.bool t120,.string t121,.string t122] 36 (0,0))):=⟨by(with_reducible repeat(first|refine aN ?_ _|refine aJ ?_|refine aK ?_ _));refine bC ?_ NB124_213.out _;(with_reducible repeat(first|refine aN ?_ _|refine aJ ?_|refine aK ?_ _));refine bC ?_ NB124_213.out _;(with_reducible repeat(first|refine aN ?_ _|refine aJ ?_|refine aK ?_ _));refine bC ?_ NB124_213.out _;(with_reducible repeat(first|refine aN ?_ _|refine aJ ?_|refine aK ?_ _));exact BK124.out⟩
         have n2_:aA ((((w134.setCell ⟨gb213,0,none⟩ (.bool t209)).setCell ⟨gb213,1,none⟩ (.string t210)).setCell ⟨gb213,2,none⟩ (.string t211)).heap[gb135]? =some (.cells #[.bool t131,.string t132,.string t133] 36 (0,0))):=⟨by(with_reducible repeat(first|refine aN ?_ _|refine aJ ?_|refine aK ?_ _));refine bC ?_ NB135_213.out _;(with_reducible repeat(first|refine aN ?_ _|refine aJ ?_|refine aK ?_ _));refine bC ?_ NB135_213.out _;(with_reducible repeat(first|refine aN ?_ _|refine aJ ?_|refine aK ?_ _));refine bC ?_ NB135_213.out _;(with_reducible repeat(first|refine aN ?_ _|refine aJ ?_|refine aK ?_ _));exact BK135.out⟩
         have n3_:aA ((((w134.setCell ⟨gb213,0,none⟩ (.bool t209)).setCell ⟨gb213,1,none⟩ (.string t210)).setCell ⟨gb213,2,none⟩ (.string t211)).heap[gb146]? =some (.cells #[.bool t142,.string t143,.string t144] 36 (0,0))):=⟨by(with_reducible repeat(first|refine aN ?_ _|refine aJ ?_|refine aK ?_ _));refine bC ?_ NB146_213.out _;(with_reducible repeat(first|refine aN ?_ _|refine aJ ?_|refine aK ?_ _));refine bC ?_ NB146_213.out _;(with_reducible repeat(first|refine aN ?_ _|refine aJ ?_|refine aK ?_ _));refine bC ?_ NB146_213.out _;(with_reducible repeat(first|refine aN ?_ _|refine aJ ?_|refine aK ?_ _));exact BK146.out⟩
         have n4_:aA ((((w134.setCell ⟨gb213,0,none⟩ (.bool t209)).setCell ⟨gb213,1,none⟩ (.string t210)).setCell ⟨gb213,2,none⟩ (.string t211)).heap[gb157]? =some (.cells #[.bool t153,.string t154,.string t155] 36 (0,0))):=⟨by(with_reducible repeat(first|refine aN ?_ _|refine aJ ?_|refine aK ?_ _));refine bC ?_ NB157_213.out _;(with_reducible repeat(first|refine aN ?_ _|refine aJ ?_|refine aK ?_ _));refine bC ?_ NB157_213.out _;(with_reducible repeat(first|refine aN ?_ _|refine aJ ?_|refine aK ?_ _));refine bC ?_ NB157_213.out _;(with_reducible repeat(first|refine aN ?_ _|refine aJ ?_|refine aK ?_ _));exact BK157.out⟩
         have n5_:aA ((((w134.setCell ⟨gb213,0,none⟩ (.bool t209)).setCell ⟨gb213,1,none⟩ (.string t210)).setCell ⟨gb213,2,none⟩ (.string t211)).heap[gb180]? =some (.cells #[.bool t176,.string t177,.string t178] 36 (0,0))):=⟨by(with_reducible repeat(first|refine aN ?_ _|refine aJ ?_|refine aK ?_ _));refine bC ?_ NB180_213.out _;(with_reducible repeat(first|refine aN ?_ _|refine aJ ?_|refine aK ?_ _));refine bC ?_ NB180_213.out _;(with_reducible repeat(first|refine aN ?_ _|refine aJ ?_|refine aK ?_ _));refine bC ?_ NB180_213.out _;(with_reducible repeat(first|refine aN ?_ _|refine aJ ?_|refine aK ?_ _));exact BK180.out⟩
         have n6_:aA ((((w134.setCell ⟨gb213,0,none⟩ (.bool t209)).setCell ⟨gb213,1,none⟩ (.string t210)).setCell ⟨gb213,2,none⟩ (.string t211)).heap[gb191]? =some (.cells #[.bool t187,.string t188,.string t189] 36 (0,0))):=⟨by(with_reducible repeat(first|refine aN ?_ _|refine aJ ?_|refine aK ?_ _));refine bC ?_ NB191_213.out _;(with_reducible repeat(first|refine aN ?_ _|refine aJ ?_|refine aK ?_ _));refine bC ?_ NB191_213.out _;(with_reducible repeat(first|refine aN ?_ _|refine aJ ?_|refine aK ?_ _));refine bC ?_ NB191_213.out _;(with_reducible repeat(first|refine aN ?_ _|refine aJ ?_|refine aK ?_ _));exact BK191.out⟩
         have n7_:aA ((((w134.setCell ⟨gb213,0,none⟩ (.bool t209)).setCell ⟨gb213,1,none⟩ (.string t210)).setCell ⟨gb213,2,none⟩ (.string t211)).heap[gb202]? =some (.cells #[.bool t198,.string t199,.string t200] 36 (0,0))):=⟨by(with_reducible repeat(first|refine aN ?_ _|refine aJ ?_|refine aK ?_ _));refine bC ?_ NB202_213.out _;(with_reducible repeat(first|refine aN ?_ _|refine aJ ?_|refine aK ?_ _));refine bC ?_ NB202_213.out _;(with_reducible repeat(first|refine aN ?_ _|refine aJ ?_|refine aK ?_ _));refine bC ?_ NB202_213.out _;(with_reducible repeat(first|refine aN ?_ _|refine aJ ?_|refine aK ?_ _));exact BK202.out⟩
         have n8_:aA ((((w134.setCell ⟨gb213,0,none⟩ (.bool t209)).setCell ⟨gb213,1,none⟩ (.string t210)).setCell ⟨gb213,2,none⟩ (.string t211)).heap[gb213]? =some (.cells #[.bool t209,.string t210,.string t211] 36 (0,0))):=⟨by(with_reducible repeat(first|refine aN ?_ _|refine aJ ?_|refine aK ?_ _));refine fG (cs:=#[.bool t209,.string t210,.string (⟨#[]⟩:ByteArray)]) ?_ 2 _ rfl;(with_reducible repeat(first|refine aN ?_ _|refine aJ ?_|refine aK ?_ _));refine fG (cs:=#[.bool t209,.string (⟨#[]⟩:ByteArray),.string (⟨#[]⟩:ByteArray)]) ?_ 1 _ rfl;(with_reducible repeat(first|refine aN ?_ _|refine aJ ?_|refine aK ?_ _));refine fG (cs:=#[.bool false,.string (⟨#[]⟩:ByteArray),.string (⟨#[]⟩:ByteArray)]) ?_ 0 _ rfl;(with_reducible repeat(first|refine aN ?_ _|refine aJ ?_|refine aK ?_ _));exact BK213.out⟩
         have n9_:aA (Below w.heap.size w (((w134.setCell ⟨gb213,0,none⟩ (.bool t209)).setCell ⟨gb213,1,none⟩ (.string t210)).setCell ⟨gb213,2,none⟩ (.string t211))):=⟨pkL HB⟩
         (try clear BK113)
         (try clear BK124)
         (try clear BK135)
         (try clear BK146)
         (try clear BK157)
         (try clear BK180)
         (try clear BK191)
         (try clear BK202)
         (try clear BK213)
         (try clear HB)
         generalize (((w134.setCell ⟨gb213,0,none⟩ (.bool t209)).setCell ⟨gb213,1,none⟩ (.string t210)).setCell ⟨gb213,2,none⟩ (.string t211))=w164 at n0_ n1_ n2_ n3_ n4_ n5_ n6_ n7_ n8_ n9_ ⊢
         have BK113:=n0_
         have BK124:=n1_
         have BK135:=n2_
         have BK146:=n3_
         have BK157:=n4_
         have BK180:=n5_
         have BK191:=n6_
         have BK202:=n7_
         have BK213:=n8_
         have HB:=n9_
         clear n0_ n1_ n2_ n3_ n4_ n5_ n6_ n7_ n8_ n9_
         replace BK113:=aA.mk (aJ BK113.out);replace BK124:=aA.mk (aJ BK124.out);replace BK135:=aA.mk (aJ BK135.out);replace BK146:=aA.mk (aJ BK146.out);replace BK157:=aA.mk (aJ BK157.out);replace BK180:=aA.mk (aJ BK180.out);replace BK191:=aA.mk (aJ BK191.out);replace BK202:=aA.mk (aJ BK202.out);replace BK213:=aA.mk (aJ BK213.out);replace HB:=aA.mk (aU HB.out)
         refine jI (n:=28) (S:=fun w'=>w'.cell? ⟨gb180,0,none⟩=some (.bool t176)∧w'.cell? ⟨gb180,1,none⟩=some (.string t177)∧w'.cell? ⟨gb180,2,none⟩=some (.string t178)∧w'.cell? ⟨gb191,0,none⟩=some (.bool t187)∧w'.cell? ⟨gb191,1,none⟩=some (.string t188)∧w'.cell? ⟨gb191,2,none⟩=some (.string t189)∧w'.cell? ⟨gb202,0,none⟩=some (.bool t198)∧w'.cell? ⟨gb202,1,none⟩=some (.string t199)∧w'.cell? ⟨gb202,2,none⟩=some (.string t200)∧w'.cell? ⟨gb213,0,none⟩=some (.bool t209)∧w'.cell? ⟨gb213,1,none⟩=some (.string t210)∧w'.cell? ⟨gb213,2,none⟩=some (.string t211)) (ds:= []) #[false,false,false,false,false,false,false,false,false,false,false,false,false,false,false,false,false,false,false,false,false,false,false,false,false,false,false,false] (by kernel_rfl) rfl rfl ⟨(aC BK180.out 0).trans rfl,(aC BK180.out 1).trans rfl,(aC BK180.out 2).trans rfl,(aC BK191.out 0).trans rfl,(aC BK191.out 1).trans rfl,(aC BK191.out 2).trans rfl,(aC BK202.out 0).trans rfl,(aC BK202.out 1).trans rfl,(aC BK202.out 2).trans rfl,(aC BK213.out 0).trans rfl,(aC BK213.out 1).trans rfl,(aC BK213.out 2).trans rfl⟩ (fun hHeld=> ?_);refine jQ aW.tab12 aW.bits12 (fun HT_ HW_=> ?_)
         generalize w164.drew=w165 at BK113 BK124 BK135 BK146 BK157 BK180 BK191 BK202 BK213 HB hHeld ⊢
         refine pr_ 0 106 (h:= ?_)
         refine pr_ 1 107 (h:= ?_)
         refine pr_ 2 108 (h:= ?_)
         refine pr_ 3 109 (h:= ?_)
         refine pr_ 4 110 (h:= ?_)
         refine pr_ 5 111 (h:= ?_)
         refine pr_ 6 112 (h:= ?_)
         refine pr_ 7 113 (h:= ?_)
         refine pr_ 8 114 (h:= ?_)
         refine tk_ 9 115 hHeld (hy:=by rintro w' ⟨s0,s1,s2,s3,s4,s5,s6,s7,s8,s9,s10,s11⟩;go_simp;with_reducible rfl) (h:= ?_)
         refine on_ 10 116 (h:=fun K hK=> ?_)
         refine g1_ Tryz.func98 #[.string (⟨#[51]⟩:ByteArray),.string (⟨#[49]⟩:ByteArray)] (h:= ?_)
         with_reducible refine(aH.calls (⟨#[51]⟩:ByteArray) (⟨#[49]⟩:ByteArray) t214 t215 t216 _ A145.out).mono ?_
         rintro e w166 ⟨rfl,hb⟩
         refine⟨_,rfl,?_⟩
         replace BK113:=pkK BK113 hb;replace BK124:=pkK BK124 hb;replace BK135:=pkK BK135 hb;replace BK146:=pkK BK146 hb;replace BK157:=pkK BK157 hb;replace BK180:=pkK BK180 hb;replace BK191:=pkK BK191 hb;replace BK202:=pkK BK202 hb;replace BK213:=pkK BK213 hb;replace HB:=pkB HB hb
         (try clear hb)
         (try clear hb2)
         (try clear hk)
         (try clear hi)
         refine hK.out _ _ ⟨(aC BK180.out 0).trans rfl,(aC BK180.out 1).trans rfl,(aC BK180.out 2).trans rfl,(aC BK191.out 0).trans rfl,(aC BK191.out 1).trans rfl,(aC BK191.out 2).trans rfl,(aC BK202.out 0).trans rfl,(aC BK202.out 1).trans rfl,(aC BK202.out 2).trans rfl,(aC BK213.out 0).trans rfl,(aC BK213.out 1).trans rfl,(aC BK213.out 2).trans rfl⟩ (fun hHeld=> ?_)
         clear hK K
         refine fF (a':= ?_) ?_ ?_
         rotate_left
         ·show Act.put _ (some 116) _=_
          simp only[Act.put,List.setIfInBounds_toArray,List.set_cons_zero,List.set_cons_succ,dD,dI]
          rfl
         refine pr_ 11 117 (h:= ?_)
         refine pr_ 12 118 (h:= ?_)
         refine pr_ 13 119 (h:= ?_)
         refine tk_ 14 120 hHeld (hy:=by rintro w' ⟨s0,s1,s2,s3,s4,s5,s6,s7,s8,s9,s10,s11⟩;go_simp;with_reducible rfl) (h:= ?_)
         refine on_ 15 121 (h:=fun K hK=> ?_)
         refine g1_ Tryz.func99 #[] (h:= ?_)
         with_reducible refine(dF.calls t217 t218 t219 _ A150.out).mono ?_
         rintro e w167 ⟨rfl,hb⟩
         refine⟨_,rfl,?_⟩
         replace BK113:=pkK BK113 hb;replace BK124:=pkK BK124 hb;replace BK135:=pkK BK135 hb;replace BK146:=pkK BK146 hb;replace BK157:=pkK BK157 hb;replace BK180:=pkK BK180 hb;replace BK191:=pkK BK191 hb;replace BK202:=pkK BK202 hb;replace BK213:=pkK BK213 hb;replace HB:=pkB HB hb
         (try clear hb)
         (try clear hb2)
         (try clear hk)
         (try clear hi)
         refine hK.out _ _ ⟨(aC BK180.out 0).trans rfl,(aC BK180.out 1).trans rfl,(aC BK180.out 2).trans rfl,(aC BK191.out 0).trans rfl,(aC BK191.out 1).trans rfl,(aC BK191.out 2).trans rfl,(aC BK202.out 0).trans rfl,(aC BK202.out 1).trans rfl,(aC BK202.out 2).trans rfl,(aC BK213.out 0).trans rfl,(aC BK213.out 1).trans rfl,(aC BK213.out 2).trans rfl⟩ (fun hHeld=> ?_)
         clear hK K
         refine fF (a':= ?_) ?_ ?_
         rotate_left
         ·show Act.put _ (some 121) _=_
          simp only[Act.put,List.setIfInBounds_toArray,List.set_cons_zero,List.set_cons_succ,dD,dI]
          rfl
         refine pr_ 16 122 (h:= ?_)
         refine pr_ 17 123 (h:= ?_)
         refine pr_ 18 124 (h:= ?_)
         refine tk_ 19 125 hHeld (hy:=by rintro w' ⟨s0,s1,s2,s3,s4,s5,s6,s7,s8,s9,s10,s11⟩;go_simp;with_reducible rfl) (h:= ?_)
         refine on_ 20 126 (h:=fun K hK=> ?_)
         refine g1_ Tryz.func98 #[.string (⟨#[48]⟩:ByteArray),.string (⟨#[52]⟩:ByteArray)] (h:= ?_)
         with_reducible refine(aH.calls (⟨#[48]⟩:ByteArray) (⟨#[52]⟩:ByteArray) t220 t221 t222 _ A156.out).mono ?_
         rintro e w168 ⟨rfl,hb⟩
         refine⟨_,rfl,?_⟩
         replace BK113:=pkK BK113 hb;replace BK124:=pkK BK124 hb;replace BK135:=pkK BK135 hb;replace BK146:=pkK BK146 hb;replace BK157:=pkK BK157 hb;replace BK180:=pkK BK180 hb;replace BK191:=pkK BK191 hb;replace BK202:=pkK BK202 hb;replace BK213:=pkK BK213 hb;replace HB:=pkB HB hb
         (try clear hb)
         (try clear hb2)
         (try clear hk)
         (try clear hi)
         refine hK.out _ _ ⟨(aC BK180.out 0).trans rfl,(aC BK180.out 1).trans rfl,(aC BK180.out 2).trans rfl,(aC BK191.out 0).trans rfl,(aC BK191.out 1).trans rfl,(aC BK191.out 2).trans rfl,(aC BK202.out 0).trans rfl,(aC BK202.out 1).trans rfl,(aC BK202.out 2).trans rfl,(aC BK213.out 0).trans rfl,(aC BK213.out 1).trans rfl,(aC BK213.out 2).trans rfl⟩ (fun hHeld=> ?_)
         clear hK K
         refine fF (a':= ?_) ?_ ?_
         rotate_left
         ·show Act.put _ (some 126) _=_
          simp only[Act.put,List.setIfInBounds_toArray,List.set_cons_zero,List.set_cons_succ,dD,dI]
          rfl
         refine pr_ 21 127 (h:= ?_)
         refine pr_ 22 128 (h:= ?_)
         refine pr_ 23 129 (h:= ?_)
         refine tk_ 24 130 hHeld (hy:=by rintro w' ⟨s0,s1,s2,s3,s4,s5,s6,s7,s8,s9,s10,s11⟩;go_simp;with_reducible rfl) (h:= ?_)
         refine on_ 25 131 (h:=fun K hK=> ?_)
         refine g1_ Tryz.func98 #[.string (⟨#[52]⟩:ByteArray),.string (⟨#[48]⟩:ByteArray)] (h:= ?_)
         with_reducible refine(aH.calls (⟨#[52]⟩:ByteArray) (⟨#[48]⟩:ByteArray) t223 t224 t225 _ A163.out).mono ?_
         rintro e w169 ⟨rfl,hb⟩
         refine⟨_,rfl,?_⟩
         replace BK113:=pkK BK113 hb;replace BK124:=pkK BK124 hb;replace BK135:=pkK BK135 hb;replace BK146:=pkK BK146 hb;replace BK157:=pkK BK157 hb;replace BK180:=pkK BK180 hb;replace BK191:=pkK BK191 hb;replace BK202:=pkK BK202 hb;replace BK213:=pkK BK213 hb;replace HB:=pkB HB hb
         (try clear hb)
         (try clear hb2)
         (try clear hk)
         (try clear hi)
         refine hK.out _ _ ⟨(aC BK180.out 0).trans rfl,(aC BK180.out 1).trans rfl,(aC BK180.out 2).trans rfl,(aC BK191.out 0).trans rfl,(aC BK191.out 1).trans rfl,(aC BK191.out 2).trans rfl,(aC BK202.out 0).trans rfl,(aC BK202.out 1).trans rfl,(aC BK202.out 2).trans rfl,(aC BK213.out 0).trans rfl,(aC BK213.out 1).trans rfl,(aC BK213.out 2).trans rfl⟩ (fun hHeld=> ?_)
         clear hK K
         refine fF (a':= ?_) ?_ ?_
         rotate_left
         ·show Act.put _ (some 131) _=_
          simp only[Act.put,List.setIfInBounds_toArray,List.set_cons_zero,List.set_cons_succ,dD,dI]
          rfl
         refine pr_ 26 132 (h:= ?_)
         refine pr_ 27 133 (h:= ?_)
         refine kF (lM HT_.out (by kernel_rfl)) ?_
         try go_wp2
         go_meet
         case rel=>exact⟨_,((!(t209==t223)||(!(t210.toList==t224.toList)||(!(t211.toList==t225.toList))))),(by first|rfl|(simp;done)|(simp[*];done)),H',⟨by have:=HJ15.out;first|omega|exact Nat.le_refl _⟩,⟨pkW BK113⟩,⟨pkW BK124⟩,⟨pkW BK135⟩,⟨pkW BK146⟩,⟨pkW BK157⟩,⟨pkW BK180⟩,⟨pkW BK191⟩,⟨pkW BK202⟩,⟨pkW BK213⟩,⟨pkL HB⟩⟩
     ·exact absurd (by(simp only[V176.out.2.2.2,V187.out.2.2.2,V198.out.2.2.2,V209.out.2.2.2]) <;> decide +kernel) c144
    case rest=>
     clear HC97
     try clear c144
     try clear c144b0
     try clear c144b1
     obtain⟨kq,x133_96,rfl,HA,HJ96,BK113,BK124,BK135,BK146,BK157,BK180,BK191,BK202,BK213,HB⟩:=hcut
     cases kq with
     |zero=>exact absurd HA.out (by simp[aW.j1])
     |succ kj96=>
      have H:=HA.out
      clear HA
      simp only[aW.j1] at H
      by_cases c172:x133_96=true
      ·have hj:=H;rw[if_pos c172] at hj;have hj2:=Option.some.inj hj;rw[hrT] at hj2;exact absurd hj2 (by decide)
      ·replace c172:=Bool.eq_false_iff.mpr c172
       subst c172
       have H1:((aH.f (⟨#[54]⟩:ByteArray) (⟨#[50]⟩:ByteArray)).bind fun bt226=>((jC.f bt226.1 bt226.2.1 bt226.2.2 (⟨#[45,53]⟩:ByteArray)).bind fun bt229=>((aH.f (⟨#[54]⟩:ByteArray) (⟨#[50]⟩:ByteArray)).bind fun bt231=>((iC.f bt231.1 bt231.2.1 bt231.2.2 (⟨#[49]⟩:ByteArray)).bind fun bt234=>(if bt229.2=0 then(if bt234.2=0 then(if bt229.1.toList=([45,52]:List UInt8) then(if bt234.1.toList=([45,52]:List UInt8) then((dF.f).bind fun bt236=>((aH.f (⟨#[49]⟩:ByteArray) (⟨#[48]⟩:ByteArray)).bind fun bt239=>(some (bt236.1==bt239.1&&(bt236.2.1.toList==bt239.2.1.toList&&(bt236.2.2.toList==bt239.2.2.toList)))))) else(some false)) else(some false)) else(some false)) else(some false))))))=some r:=by rw[if_neg (show ¬(false=true) by decide)] at H;exact H
       clear H
       have H:=H1
       clear H1
       obtain⟨⟨t226,t227,t228⟩,A173,H⟩:=bi H
       have V226:aA (t226=false∧t227=(⟨#[54]⟩:ByteArray)∧t228=(⟨#[50]⟩:ByteArray)):=aA.mk (by have F:=A173.out.symm.trans aw226;simp only[Option.some.injEq,Prod.mk.injEq] at F;exact F)
       try dsimp only at H
       obtain⟨⟨t229,t230⟩,A174,H⟩:=bi H
       have V229:aA (t229=(⟨#[45,52]⟩:ByteArray)∧t230=0):=aA.mk (by have E:=A174.out;simp only[V226.out.1,V226.out.2.1,V226.out.2.2] at E;have F:=E.symm.trans aw229;simp only[Option.some.injEq,Prod.mk.injEq] at F;exact F)
       try dsimp only at H
       obtain⟨⟨t231,t232,t233⟩,A175,H⟩:=bi H
       have V231:aA (t231=false∧t232=(⟨#[54]⟩:ByteArray)∧t233=(⟨#[50]⟩:ByteArray)):=aA.mk (by have F:=A175.out.symm.trans aw231;simp only[Option.some.injEq,Prod.mk.injEq] at F;exact F)
       try dsimp only at H
       obtain⟨⟨t234,t235⟩,A176,H⟩:=bi H
       have V234:aA (t234=(⟨#[45,52]⟩:ByteArray)∧t235=0):=aA.mk (by have E:=A176.out;simp only[V231.out.1,V231.out.2.1,V231.out.2.2] at E;have F:=E.symm.trans aw234;simp only[Option.some.injEq,Prod.mk.injEq] at F;exact F)
       try dsimp only at H
       by_cases c177:t230=0
       ·rw[if_pos c177] at H
        have c177b0:(t230==0)=true:=beq_iff_eq.mpr c177
        have c177b1:(t230 != 0)=false:=bne_eq_false_iff_eq.mpr c177
        clear c177
        by_cases c178:t235=0
        ·rw[if_pos c178] at H
         have c178b0:(t235==0)=true:=beq_iff_eq.mpr c178
         have c178b1:(t235 != 0)=false:=bne_eq_false_iff_eq.mpr c178
         clear c178
         by_cases c179:t229.toList=([45,52]:List UInt8)
         ·rw[if_pos c179] at H
          have c179b0:(t229.toList==([45,52]:List UInt8))=true:=beq_iff_eq.mpr c179
          have c179b1:(t229.toList != ([45,52]:List UInt8))=false:=bne_eq_false_iff_eq.mpr c179
          clear c179
          by_cases c180:t234.toList=([45,52]:List UInt8)
          ·rw[if_pos c180] at H
           have c180b0:(t234.toList==([45,52]:List UInt8))=true:=beq_iff_eq.mpr c180
           have c180b1:(t234.toList != ([45,52]:List UInt8))=false:=bne_eq_false_iff_eq.mpr c180
           clear c180
           obtain⟨⟨t236,t237,t238⟩,A181,H⟩:=bi H
           have V236:aA (t236=false∧t237=(⟨#[49]⟩:ByteArray)∧t238=(⟨#[48]⟩:ByteArray)):=aA.mk (by have F:=A181.out.symm.trans aw236;simp only[Option.some.injEq,Prod.mk.injEq] at F;exact F)
           try dsimp only at H
           obtain⟨⟨t239,t240,t241⟩,A182,H⟩:=bi H
           have V239:aA (t239=false∧t240=(⟨#[49]⟩:ByteArray)∧t241=(⟨#[48]⟩:ByteArray)):=aA.mk (by have F:=A182.out.symm.trans aw239;simp only[Option.some.injEq,Prod.mk.injEq] at F;exact F)
           try dsimp only at H
           obtain rfl:=Option.some.inj H
           go_wp2_with(first|((with_reducible refine aG (f:=98) rfl ?_);refine gl_ 135 Tryz.func98 #[.string (⟨#[54]⟩:ByteArray),.string (⟨#[50]⟩:ByteArray)] (h:= ?_);(with_reducible refine(aH.calls (⟨#[54]⟩:ByteArray) (⟨#[50]⟩:ByteArray) t226 t227 t228 _ A173.out).mono ?_);rintro e w183 ⟨rfl,hb⟩;refine⟨_,rfl,?_⟩;replace BK113:=pkK BK113 hb;replace BK124:=pkK BK124 hb;replace BK135:=pkK BK135 hb;replace BK146:=pkK BK146 hb;replace BK157:=pkK BK157 hb;replace BK180:=pkK BK180 hb;replace BK191:=pkK BK191 hb;replace BK202:=pkK BK202 hb;replace BK213:=pkK BK213 hb;replace HB:=pkB HB hb;try clear hb)|((with_reducible refine aG (f:=62) rfl ?_);refine gl_ 136 Tryz.func62 #[.agg #[.bool t226,.string t227,.string t228],.string (⟨#[45,53]⟩:ByteArray)] (h:= ?_);(with_reducible refine(jC.calls (hG:=HG.out.below (pkL HB)) t226 t227 t228 (⟨#[45,53]⟩:ByteArray) t229 t230 _ A174.out).mono ?_);rintro e w184 ⟨rfl,hb⟩;refine⟨_,rfl,?_⟩;replace BK113:=pkK BK113 hb;replace BK124:=pkK BK124 hb;replace BK135:=pkK BK135 hb;replace BK146:=pkK BK146 hb;replace BK157:=pkK BK157 hb;replace BK180:=pkK BK180 hb;replace BK191:=pkK BK191 hb;replace BK202:=pkK BK202 hb;replace BK213:=pkK BK213 hb;replace HB:=pkB HB hb;try clear hb)|((with_reducible refine aG (f:=98) rfl ?_);refine gl_ 140 Tryz.func98 #[.string (⟨#[54]⟩:ByteArray),.string (⟨#[50]⟩:ByteArray)] (h:= ?_);(with_reducible refine(aH.calls (⟨#[54]⟩:ByteArray) (⟨#[50]⟩:ByteArray) t231 t232 t233 _ A175.out).mono ?_);rintro e w185 ⟨rfl,hb⟩;refine⟨_,rfl,?_⟩;replace BK113:=pkK BK113 hb;replace BK124:=pkK BK124 hb;replace BK135:=pkK BK135 hb;replace BK146:=pkK BK146 hb;replace BK157:=pkK BK157 hb;replace BK180:=pkK BK180 hb;replace BK191:=pkK BK191 hb;replace BK202:=pkK BK202 hb;replace BK213:=pkK BK213 hb;replace HB:=pkB HB hb;try clear hb)|((with_reducible refine aG (f:=64) rfl ?_);refine gl_ 141 Tryz.func64 #[.agg #[.bool t231,.string t232,.string t233],.string (⟨#[49]⟩:ByteArray)] (h:= ?_);(with_reducible refine(iC.calls (hG:=HG.out.below (pkL HB)) t231 t232 t233 (⟨#[49]⟩:ByteArray) t234 t235 _ A176.out).mono ?_);rintro e w186 ⟨rfl,hb⟩;refine⟨_,rfl,?_⟩;replace BK113:=pkK BK113 hb;replace BK124:=pkK BK124 hb;replace BK135:=pkK BK135 hb;replace BK146:=pkK BK146 hb;replace BK157:=pkK BK157 hb;replace BK180:=pkK BK180 hb;replace BK191:=pkK BK191 hb;replace BK202:=pkK BK202 hb;replace BK213:=pkK BK213 hb;replace HB:=pkB HB hb;try clear hb)|(go_at_call 99;(with_reducible refine(dF.calls t236 t237 t238 _ A181.out).mono ?_);rintro e w187 ⟨rfl,hb⟩;replace BK113:=pkK BK113 hb;replace BK124:=pkK BK124 hb;replace BK135:=pkK BK135 hb;replace BK146:=pkK BK146 hb;replace BK157:=pkK BK157 hb;replace BK180:=pkK BK180 hb;replace BK191:=pkK BK191 hb;replace BK202:=pkK BK202 hb;replace BK213:=pkK BK213 hb;replace HB:=pkB HB hb;try clear hb)|(go_at_call 98;(with_reducible refine(aH.calls (⟨#[49]⟩:ByteArray) (⟨#[48]⟩:ByteArray) t239 t240 t241 _ A182.out).mono ?_);rintro e w188 ⟨rfl,hb⟩;replace BK113:=pkK BK113 hb;replace BK124:=pkK BK124 hb;replace BK135:=pkK BK135 hb;replace BK146:=pkK BK146 hb;replace BK157:=pkK BK157 hb;replace BK180:=pkK BK180 hb;replace BK191:=pkK BK191 hb;replace BK202:=pkK BK202 hb;replace BK213:=pkK BK213 hb;replace HB:=pkB HB hb;try clear hb))
           go_ret
           exact pkE HB
          ·exact absurd (by(simp only[V234.out.1]) <;> decide +kernel) c180
         ·exact absurd (by(simp only[V229.out.1]) <;> decide +kernel) c179
        ·exact absurd (by(simp only[V234.out.2]) <;> decide +kernel) c178
       ·exact absurd (by(simp only[V229.out.2]) <;> decide +kernel) c177
theorem awake_f:aW.f 2=some true:=by decide +kernel
end Go.Proofs.YtignanmmgaldeaaGreatDoor.PCongW
namespace Go.Proofs.YtignanmmgaldeaaGreatDoor
open Go.RowKit Go.Proofs.YtignanmmgaldeaaGreatDoor.PCongW Go.Proofs.YtignanmmgaldeaaGreatDoorW.PrintWords
def iF.f:Option Bool:=some true
theorem iF.calls(r0:Bool)(w:World)(hG:GW w)(h:iF.f=some r0) :
 Calls Tryz.prog 35 #[] w fun e w'=>e= .returned (.bool r0)∧Below w.heap.size w w':=by
 cases h
 exact aW.calls 2 true w hG awake_f rfl
theorem rV:iF.f=some true:=rfl
end Go.Proofs.YtignanmmgaldeaaGreatDoor
end
section
set_option linter.unusedVariables false
set_option linter.unusedSimpArgs false
namespace Go.Proofs.YtignanmmgaldeaaGreatDoor.PCongruenceEnds
open Go.RowKit Go.Proofs.YtignanmmgaldeaaGreatDoorW.PrintWords Go.Proofs.YtignanmmgaldeaaGreatDoorW.PrintLast Go.Proofs.YtignanmmgaldeaaGreatDoorW.PrintMore
attribute [local go_sem] gU gV iG iH
def errW:Option Int→Value
 |none=> .nilIface
 |some c=> .iface 0 (.int .i64 c)
theorem dG:errW none= .nilIface:=rfl
theorem dH(c:Int):errW (some c)= .iface 0 (.int .i64 c):=rfl
structure S36 where
 f0:Bool
 f1:ByteArray
 f2:ByteArray
def z36:S36:=⟨false,(⟨#[]⟩:ByteArray),(⟨#[]⟩:ByteArray)⟩
def k36:Kd S36:=Kd.iso (Kd.pair Kd.bool (Kd.pair Kd.string Kd.string)) (fun x:S36=>(x.f0,x.f1,x.f2))
theorem k36_open{w:World}{x:S36}{cs:List Value}(h:k36.K w x cs):cs= [.bool x.f0,.string x.f1,.string x.f2]:=by
 obtain⟨_,_,rfl,rfl,⟨_,_,rfl,rfl,rfl⟩⟩:=h
 exact rfl
theorem k36_mkM(w:World)(base:Nat)(ok:Nat→Prop)(x:S36):k36.M w base ok x [.bool x.f0,.string x.f1,.string x.f2]:=⟨[.bool x.f0],[.string x.f1,.string x.f2],rfl,rfl,⟨[.string x.f1],[.string x.f2],rfl,rfl,rfl⟩⟩
def fC(xs:List S36)(i:Int):S36:=xs.getD i.toNat z36
theorem at_T36{w:World}{A:Option Addr}{n:Nat}{xs:List S36}(h:Kd.C k36 w A n xs)(i:Int)(h0:0≤i)(h1:i<n):∃ad,A=some ad∧w.cell? (ad.add (i.toNat*3))=some (.bool (fC xs i).f0)∧w.cell? ⟨(ad.add (i.toNat*3)).block,(ad.add (i.toNat*3)).off+1,none⟩=some (.string (fC xs i).f1)∧w.cell? ⟨(ad.add (i.toNat*3)).block,(ad.add (i.toNat*3)).off+2,none⟩=some (.string (fC xs i).f2):=by
 obtain⟨ad,c,e,_,hK,hc0⟩:=Kd.C_get h z36 i h0 h1
 have hc:∀j u,c[j]? =some u→w.cell? (ad.add (i.toNat*3+j))=some u:=hc0
 obtain rfl:=k36_open hK
 exact⟨ad,e,hc 0 _ rfl,by rw[←add_field _ _ 1 (by omega)];exact hc 1 _ rfl,by rw[←add_field _ _ 2 (by omega)];exact hc 2 _ rfl⟩
end Go.Proofs.YtignanmmgaldeaaGreatDoor.PCongruenceEnds
end
section
set_option linter.unusedVariables false
set_option linter.unusedSimpArgs false
set_option maxHeartbeats 8000000
set_option maxRecDepth 100000
namespace Go.Proofs.YtignanmmgaldeaaGreatDoor.PCongruenceEnds
open Go.RowKit Go.Proofs.YtignanmmgaldeaaGreatDoorW.PrintWords Go.Proofs.YtignanmmgaldeaaGreatDoorW.PrintLast Go.Proofs.YtignanmmgaldeaaGreatDoorW.PrintMore
attribute [local go_sem] gU gV iG iH
def dZ.f(a0:ByteArray):Option (Bool):=some (decide ((a0.size:Int)≤250))
theorem dZ.calls(a0:ByteArray)(r:Bool)(w:World)(h:dZ.f a0=some r) :
 Calls Tryz.prog 71 #[.string a0] w fun e w'=>e= .returned (.bool r)∧bG w w':=by
 have H:(some (decide ((a0.size:Int)≤250)))=some r:=h
 clear h
 obtain rfl:=Option.some.inj H
 go_enter Tryz.func71,Tryz.ntmps71
 go_wp2
 go_ret
 exact⟨by first|rfl|(simp;done)|(simp[*];done),by repeat(first|exact bG.refl _|apply bG.step)⟩
def jF.f(a0_0:Bool)(a0_1:ByteArray)(a0_2:ByteArray):Option (Bool):=(dZ.f a0_1).bind fun t102=>(if t102=true then((dZ.f a0_2).bind fun t103=>(some t103)) else(some false))
theorem jF.calls(a0_0:Bool)(a0_1:ByteArray)(a0_2:ByteArray)(r:Bool)(w:World)(h:jF.f a0_0 a0_1 a0_2=some r) :
 Calls Tryz.prog 97 #[.agg #[.bool a0_0,.string a0_1,.string a0_2]] w fun e w'=>e= .returned (.bool r)∧Below w.heap.size w w':=by
 have hu36:=Tryz.underlying36
 have HB:=aA.mk (Below.refl w.heap.size w)
 have H:((dZ.f a0_1).bind fun t102=>(if t102=true then((dZ.f a0_2).bind fun t103=>(some t103)) else(some false)))=some r:=h
 clear h
 obtain⟨t102,A2,H⟩:=bi H
 try dsimp only at H
 by_cases c3:t102=true
 ·subst c3
  have H1:((dZ.f a0_2).bind fun t103=>(some t103))=some r:=by rw[if_pos rfl] at H;exact H
  clear H
  have H:=H1
  clear H1
  obtain⟨t103,A4,H⟩:=bi H
  try dsimp only at H
  obtain rfl:=Option.some.inj H
  go_enter Tryz.func97,Tryz.ntmps97
  go_wp2_with(first|((with_reducible refine aV (N:=1) rfl ?_);refine bx_ 1 36 #[.bool a0_0,.string a0_1,.string a0_2] (h:= ?_);intro gb101 hg w5 hbox hb;have BK101:=aA.mk (hbox);have GW101:=pkG HB hg;have GE101:=GW101;replace HB:=pkB HB hb;clear hb hbox hg;obtain⟨⟨hcz6_0,hcz6_1,hcz6_2⟩,hfz6_0,hfz6_1,hfz6_2⟩:=pk3 BK101)|((with_reducible refine aG (f:=71) rfl ?_);refine gl_ 5 Tryz.func71 #[.string a0_1] (h:= ?_);(with_reducible refine(dZ.calls a0_1 true _ A2.out).mono ?_);rintro e w' ⟨rfl,⟨nd,rfl⟩⟩;refine⟨_,rfl,?_⟩)|(go_at_call 71;(with_reducible refine(dZ.calls a0_2 t103 _ A4.out).mono ?_);rintro e w' ⟨rfl,⟨nd,rfl⟩⟩))
  go_ret
  exact pkE HB
 ·replace c3:=Bool.eq_false_iff.mpr c3
  subst c3
  have H1:(some false)=some r:=by rw[if_neg (show ¬(false=true) by decide)] at H;exact H
  clear H
  have H:=H1
  clear H1
  obtain rfl:=Option.some.inj H
  go_enter Tryz.func97,Tryz.ntmps97
  go_wp2_with(first|((with_reducible refine aV (N:=1) rfl ?_);refine bx_ 1 36 #[.bool a0_0,.string a0_1,.string a0_2] (h:= ?_);intro gb101 hg w7 hbox hb;have BK101:=aA.mk (hbox);have GW101:=pkG HB hg;have GE101:=GW101;replace HB:=pkB HB hb;clear hb hbox hg;obtain⟨⟨hcz8_0,hcz8_1,hcz8_2⟩,hfz8_0,hfz8_1,hfz8_2⟩:=pk3 BK101)|((with_reducible refine aG (f:=71) rfl ?_);refine gl_ 5 Tryz.func71 #[.string a0_1] (h:= ?_);(with_reducible refine(dZ.calls a0_1 false _ A2.out).mono ?_);rintro e w' ⟨rfl,⟨nd,rfl⟩⟩;refine⟨_,rfl,?_⟩))
  go_ret
  exact pkE HB
mutual
def dC.l0:Nat→List ByteArray→List (S36)→Int→Int→Option (Bool)
 |0,_,_,_,_=>none
 |k+1,x1,x9,x10,x11=>if x11<x10 then(if 0≤x11 then(if x11<(x9.length:Int) then((jF.f ((fC x9 x11).f0) ((fC x9 x11).f1) ((fC x9 x11).f2)).bind fun t106=>(if t106=true then(dC.l0 k x1 x9 x10 (wrap64 (x11+1))) else(some false))) else(none)) else(none)) else(dC.l1 k x1 (x1.length:Int) 0)
def dC.l1:Nat→List ByteArray→Int→Int→Option (Bool)
 |0,_,_,_=>none
 |k+1,x19,x20,x21=>if x21<x20 then(if 0≤x21 then(if x21<(x19.length:Int) then((dZ.f (rdOf ByteArray.empty x19 x21)).bind fun t108=>(if t108=true then(dC.l1 k x19 x20 (wrap64 (x21+1))) else(some false))) else(none)) else(none)) else(some true)
end
def dC.f(k:Nat)(l0:List (S36))(l1:List ByteArray):Option (Bool):=dC.l0 k l1 l0 (l0.length:Int) 0
theorem dC.calls(k:Nat)(A0:Option Addr)(c0:Nat)(l0:List (S36))(A1:Option Addr)(c1:Nat)(l1:List ByteArray)(r:Bool)(w:World)(hr0:Kd.C k36 w A0 l0.length l0)(hc0:l0.length≤c0)(hr1:Kd.C Kd.string w A1 l1.length l1)(hc1:l1.length≤c1)(h:dC.f k l0 l1=some r) :
 Calls Tryz.prog 34 #[.slice A0 l0.length c0,.slice A1 l1.length c1] w fun e w'=>e= .returned (.bool r)∧Below w.heap.size w w':=by
 have hu36:=Tryz.underlying36
 have HR0:=aA.mk hr0
 have HC0:=aA.mk hc0
 clear hr0 hc0
 have HR1:=aA.mk hr1
 have HC1:=aA.mk hc1
 clear hr1 hc1
 have HB:=aA.mk (Below.refl w.heap.size w)
 have H:(dC.l0 k l1 l0 (l0.length:Int) 0)=some r:=h
 clear h
 have H':=aA.mk H
 clear H
 go_enter Tryz.func34,Tryz.ntmps34
 go_wp2
 go_loopg [11] k (fun kq v11 w'=>∃(x11_1:Int),v11= .int .i64 x11_1∧aA (dC.l0 kq l1 l0 (l0.length:Int) x11_1=some r)∧aA (kq≤k)∧aA (Below w.heap.size w w'))
 case atStart=>exact⟨(0),(by first|rfl|(simp;done)|(simp[*];done)),H',⟨Nat.le_refl _⟩,⟨pkL HB⟩⟩
 case round=>
  clear H'
  try clear c1
  obtain⟨x11_1,rfl,HA,HK1,HB⟩:=hrel
  cases gk with
  |zero=>exact absurd HA.out (by simp[dC.l0])
  |succ k1=>
   have H:=HA.out
   clear HA
   simp only[dC.l0] at H
   by_cases c3:x11_1<(l0.length:Int)
   ·rw[if_pos c3] at H
    have c3b0:decide (x11_1<(l0.length:Int))=true:=decide_eq_true c3
    clear c3
    by_cases c4:0≤x11_1
    ·rw[if_pos c4] at H
     have c4b0:decide (0≤x11_1)=true:=decide_eq_true c4
     clear c4
     by_cases c5:x11_1<(l0.length:Int)
     ·rw[if_pos c5] at H
      have c5b0:decide (x11_1<(l0.length:Int))=true:=decide_eq_true c5
      clear c5
      obtain⟨t106,A6,H⟩:=bi H
      try dsimp only at H
      by_cases c7:t106=true
      ·subst c7
       have H1:(dC.l0 k1 l1 l0 (l0.length:Int) (wrap64 (x11_1+1)))=some r:=by rw[if_pos rfl] at H;exact H
       clear H
       have H:=H1
       clear H1
       have H':=aA.mk H
       clear H
       have p104:0≤(x11_1:Int):=of_decide_eq_true (by first|(with_reducible assumption)|assumption)
       have q104:x11_1<(l0.length:Int):=of_decide_eq_true (by first|(with_reducible assumption)|assumption)
       obtain⟨ad104,e104,hx104_0,hx104_1,hx104_2⟩:=at_T36 HR0.out x11_1 p104 q104
       cases e104
       replace hx104_0:=(HB.out.cell (World.block_lt_of_cell? w _ hx104_0)).trans hx104_0
       replace hx104_1:=(HB.out.cell (World.block_lt_of_cell? w _ hx104_1)).trans hx104_1
       replace hx104_2:=(HB.out.cell (World.block_lt_of_cell? w _ hx104_2)).trans hx104_2
       replace p104:=eq_true p104
       replace q104:=eq_true q104
       go_wp2_with(first|((with_reducible refine aV (N:=6) rfl ?_);refine bx_ 6 36 #[.bool false,.string (⟨#[]⟩:ByteArray),.string (⟨#[]⟩:ByteArray)] (h:= ?_);intro gb105 hg w8 hbox hb;have BK105:=aA.mk (hbox);have GW105:=pkG HB hg;have GE105:=GW105;replace HB:=pkB HB hb;clear hb hbox hg;obtain⟨⟨hcz9_0,hcz9_1,hcz9_2⟩,hfz9_0,hfz9_1,hfz9_2⟩:=pk3 BK105)|((with_reducible refine aG (f:=97) rfl ?_);refine gl_ 16 Tryz.func97 #[.agg #[.bool ((fC l0 x11_1).f0),.string ((fC l0 x11_1).f1),.string ((fC l0 x11_1).f2)]] (h:= ?_);(with_reducible refine(jF.calls ((fC l0 x11_1).f0) ((fC l0 x11_1).f1) ((fC l0 x11_1).f2) true _ A6.out).mono ?_);rintro e w10 ⟨rfl,hb⟩;refine⟨_,rfl,?_⟩;replace BK105:=aA.mk (dS (g:=gb105) (o:= .cells #[.bool ((fC l0 x11_1).f0),.string ((fC l0 x11_1).f1),.string ((fC l0 x11_1).f2)] 36 (0,0)) (pkS3 BK105) hb);replace HB:=pkB HB hb;try clear hb))
       go_roundg k1
       case measure=>have:=HK1.out;omega
       case rel=>exact⟨(wrap64 (x11_1+1)),(by first|rfl|(simp;done)|(simp[*];done)),H',⟨by have:=HK1.out;omega⟩,⟨pkL HB⟩⟩
      ·replace c7:=Bool.eq_false_iff.mpr c7
       subst c7
       have H1:(some false)=some r:=by rw[if_neg (show ¬(false=true) by decide)] at H;exact H
       clear H
       have H:=H1
       clear H1
       obtain rfl:=Option.some.inj H
       have p104:0≤(x11_1:Int):=of_decide_eq_true (by first|(with_reducible assumption)|assumption)
       have q104:x11_1<(l0.length:Int):=of_decide_eq_true (by first|(with_reducible assumption)|assumption)
       obtain⟨ad104,e104,hx104_0,hx104_1,hx104_2⟩:=at_T36 HR0.out x11_1 p104 q104
       cases e104
       replace hx104_0:=(HB.out.cell (World.block_lt_of_cell? w _ hx104_0)).trans hx104_0
       replace hx104_1:=(HB.out.cell (World.block_lt_of_cell? w _ hx104_1)).trans hx104_1
       replace hx104_2:=(HB.out.cell (World.block_lt_of_cell? w _ hx104_2)).trans hx104_2
       replace p104:=eq_true p104
       replace q104:=eq_true q104
       go_wp2_with(first|((with_reducible refine aV (N:=6) rfl ?_);refine bx_ 6 36 #[.bool false,.string (⟨#[]⟩:ByteArray),.string (⟨#[]⟩:ByteArray)] (h:= ?_);intro gb105 hg w11 hbox hb;have BK105:=aA.mk (hbox);have GW105:=pkG HB hg;have GE105:=GW105;replace HB:=pkB HB hb;clear hb hbox hg;obtain⟨⟨hcz12_0,hcz12_1,hcz12_2⟩,hfz12_0,hfz12_1,hfz12_2⟩:=pk3 BK105)|((with_reducible refine aG (f:=97) rfl ?_);refine gl_ 16 Tryz.func97 #[.agg #[.bool ((fC l0 x11_1).f0),.string ((fC l0 x11_1).f1),.string ((fC l0 x11_1).f2)]] (h:= ?_);(with_reducible refine(jF.calls ((fC l0 x11_1).f0) ((fC l0 x11_1).f1) ((fC l0 x11_1).f2) false _ A6.out).mono ?_);rintro e w13 ⟨rfl,hb⟩;refine⟨_,rfl,?_⟩;replace BK105:=aA.mk (dS (g:=gb105) (o:= .cells #[.bool ((fC l0 x11_1).f0),.string ((fC l0 x11_1).f1),.string ((fC l0 x11_1).f2)] 36 (0,0)) (pkS3 BK105) hb);replace HB:=pkB HB hb;try clear hb))
       go_ret
       exact pkE HB
     ·rw[if_neg c5] at H
      exact absurd H (by simp)
    ·rw[if_neg c4] at H
     exact absurd H (by simp)
   ·rw[if_neg c3] at H
    have c3b0:decide (x11_1<(l0.length:Int))=false:=decide_eq_false c3
    clear c3
    have H':=aA.mk H
    clear H
    go_wp2
    go_loopg [21] k1 (fun kq v21 w'=>∃(x21_2:Int),v21= .int .i64 x21_2∧aA (dC.l1 kq l1 (l1.length:Int) x21_2=some r)∧aA (kq≤k1)∧aA (Below w.heap.size w w'))
    case atStart=>exact⟨(0),(by first|rfl|(simp;done)|(simp[*];done)),H',⟨Nat.le_refl _⟩,⟨pkL HB⟩⟩
    case round=>
     clear H'
     try clear c1
     try clear c3
     try clear c3b0
     try clear c4
     try clear c4b0
     try clear c5
     try clear c5b0
     try clear c7
     try clear hcz12_0
     try clear hcz12_1
     try clear hcz12_2
     try clear hcz9_0
     try clear hcz9_1
     try clear hcz9_2
     try clear hfz12_0
     try clear hfz12_1
     try clear hfz12_2
     try clear hfz9_0
     try clear hfz9_1
     try clear hfz9_2
     try clear hx104_0
     try clear hx104_1
     try clear hx104_2
     try clear p104
     try clear q104
     obtain⟨x21_2,rfl,HA,HK2,HB⟩:=hrel
     cases gk with
     |zero=>exact absurd HA.out (by simp[dC.l1])
     |succ k2=>
      have H:=HA.out
      clear HA
      simp only[dC.l1] at H
      by_cases c14:x21_2<(l1.length:Int)
      ·rw[if_pos c14] at H
       have c14b0:decide (x21_2<(l1.length:Int))=true:=decide_eq_true c14
       clear c14
       by_cases c15:0≤x21_2
       ·rw[if_pos c15] at H
        have c15b0:decide (0≤x21_2)=true:=decide_eq_true c15
        clear c15
        by_cases c16:x21_2<(l1.length:Int)
        ·rw[if_pos c16] at H
         have c16b0:decide (x21_2<(l1.length:Int))=true:=decide_eq_true c16
         clear c16
         obtain⟨t108,A17,H⟩:=bi H
         try dsimp only at H
         by_cases c18:t108=true
         ·subst c18
          have H1:(dC.l1 k2 l1 (l1.length:Int) (wrap64 (x21_2+1)))=some r:=by rw[if_pos rfl] at H;exact H
          clear H
          have H:=H1
          clear H1
          have H':=aA.mk H
          clear H
          have p107:0≤(x21_2:Int):=of_decide_eq_true (by first|(with_reducible assumption)|assumption)
          have q107:x21_2<(l1.length:Int):=of_decide_eq_true (by first|(with_reducible assumption)|assumption)
          obtain⟨ad107,e107,hx107_0⟩:=Kd.qF HR1.out x21_2 p107 q107
          cases e107
          replace hx107_0:=(HB.out.cell (World.block_lt_of_cell? w _ hx107_0)).trans hx107_0
          replace p107:=eq_true p107
          replace q107:=eq_true q107
          go_wp2_with(first|((with_reducible refine aG (f:=71) rfl ?_);refine gl_ 26 Tryz.func71 #[.string (rdOf ByteArray.empty l1 x21_2)] (h:= ?_);(with_reducible refine(dZ.calls (rdOf ByteArray.empty l1 x21_2) true _ A17.out).mono ?_);rintro e w' ⟨rfl,⟨nd,rfl⟩⟩;refine⟨_,rfl,?_⟩))
          go_roundg k2
          case measure=>have:=HK1.out;have:=HK2.out;omega
          case rel=>exact⟨(wrap64 (x21_2+1)),(by first|rfl|(simp;done)|(simp[*];done)),H',⟨by have:=HK1.out;have:=HK2.out;omega⟩,⟨pkL HB⟩⟩
         ·replace c18:=Bool.eq_false_iff.mpr c18
          subst c18
          have H1:(some false)=some r:=by rw[if_neg (show ¬(false=true) by decide)] at H;exact H
          clear H
          have H:=H1
          clear H1
          obtain rfl:=Option.some.inj H
          have p107:0≤(x21_2:Int):=of_decide_eq_true (by first|(with_reducible assumption)|assumption)
          have q107:x21_2<(l1.length:Int):=of_decide_eq_true (by first|(with_reducible assumption)|assumption)
          obtain⟨ad107,e107,hx107_0⟩:=Kd.qF HR1.out x21_2 p107 q107
          cases e107
          replace hx107_0:=(HB.out.cell (World.block_lt_of_cell? w _ hx107_0)).trans hx107_0
          replace p107:=eq_true p107
          replace q107:=eq_true q107
          go_wp2_with(first|((with_reducible refine aG (f:=71) rfl ?_);refine gl_ 26 Tryz.func71 #[.string (rdOf ByteArray.empty l1 x21_2)] (h:= ?_);(with_reducible refine(dZ.calls (rdOf ByteArray.empty l1 x21_2) false _ A17.out).mono ?_);rintro e w' ⟨rfl,⟨nd,rfl⟩⟩;refine⟨_,rfl,?_⟩))
          go_ret
          exact pkE HB
        ·rw[if_neg c16] at H
         exact absurd H (by simp)
       ·rw[if_neg c15] at H
        exact absurd H (by simp)
      ·rw[if_neg c14] at H
       have c14b0:decide (x21_2<(l1.length:Int))=false:=decide_eq_false c14
       clear c14
       obtain rfl:=Option.some.inj H
       go_wp2
       go_ret
       exact pkE HB
def bV.f(a0:ByteArray):Option (Int):=(nT.f a0).bind fun t109=>(if t109=true then((kV.f a0).bind fun t110=>(if t110>100 then(some 10) else(some 0))) else(some 3))
theorem bV.calls(a0:ByteArray)(r:Int)(w:World)(h:bV.f a0=some r) :
 Calls Tryz.prog 141 #[.string a0] w fun e w'=>e= .returned (.int .i64 r)∧bG w w':=by
 have H:((nT.f a0).bind fun t109=>(if t109=true then((kV.f a0).bind fun t110=>(if t110>100 then(some 10) else(some 0))) else(some 3)))=some r:=h
 clear h
 obtain⟨t109,A2,H⟩:=bi H
 try dsimp only at H
 by_cases c3:t109=true
 ·subst c3
  have H1:((kV.f a0).bind fun t110=>(if t110>100 then(some 10) else(some 0)))=some r:=by rw[if_pos rfl] at H;exact H
  clear H
  have H:=H1
  clear H1
  obtain⟨t110,A4,H⟩:=bi H
  try dsimp only at H
  by_cases c5:t110>100
  ·rw[if_pos c5] at H
   have c5b0:decide (100<t110)=true:=decide_eq_true c5
   clear c5
   obtain rfl:=Option.some.inj H
   go_enter Tryz.func141,Tryz.ntmps141
   go_wp2_with(first|((with_reducible refine aG (f:=184) rfl ?_);refine gl_ 4 Tryz.func184 #[.string a0] (h:= ?_);(with_reducible refine(nT.calls a0 true _ A2.out).mono ?_);rintro e w' ⟨rfl,⟨nd,rfl⟩⟩;refine⟨_,rfl,?_⟩)|((with_reducible refine aG (f:=149) rfl ?_);refine gl_ 7 Tryz.func149 #[.string a0] (h:= ?_);(with_reducible refine(kV.calls a0 t110 _ A4.out).mono ?_);rintro e w' ⟨rfl,⟨nd,rfl⟩⟩;refine⟨_,rfl,?_⟩))
   go_ret
   exact⟨by first|rfl|(simp;done)|(simp[*];done),by repeat(first|exact bG.refl _|apply bG.step)⟩
  ·rw[if_neg c5] at H
   have c5b0:decide (100<t110)=false:=decide_eq_false c5
   clear c5
   obtain rfl:=Option.some.inj H
   go_enter Tryz.func141,Tryz.ntmps141
   go_wp2_with(first|((with_reducible refine aG (f:=184) rfl ?_);refine gl_ 4 Tryz.func184 #[.string a0] (h:= ?_);(with_reducible refine(nT.calls a0 true _ A2.out).mono ?_);rintro e w' ⟨rfl,⟨nd,rfl⟩⟩;refine⟨_,rfl,?_⟩)|((with_reducible refine aG (f:=149) rfl ?_);refine gl_ 7 Tryz.func149 #[.string a0] (h:= ?_);(with_reducible refine(kV.calls a0 t110 _ A4.out).mono ?_);rintro e w' ⟨rfl,⟨nd,rfl⟩⟩;refine⟨_,rfl,?_⟩))
   go_ret
   exact⟨by first|rfl|(simp;done)|(simp[*];done),by repeat(first|exact bG.refl _|apply bG.step)⟩
 ·replace c3:=Bool.eq_false_iff.mpr c3
  subst c3
  have H1:(some 3)=some r:=by rw[if_neg (show ¬(false=true) by decide)] at H;exact H
  clear H
  have H:=H1
  clear H1
  obtain rfl:=Option.some.inj H
  go_enter Tryz.func141,Tryz.ntmps141
  go_wp2_with(first|((with_reducible refine aG (f:=184) rfl ?_);refine gl_ 4 Tryz.func184 #[.string a0] (h:= ?_);(with_reducible refine(nT.calls a0 false _ A2.out).mono ?_);rintro e w' ⟨rfl,⟨nd,rfl⟩⟩;refine⟨_,rfl,?_⟩))
  go_ret
  exact⟨by first|rfl|(simp;done)|(simp[*];done),by repeat(first|exact bG.refl _|apply bG.step)⟩
def iV.f(a0_0:Bool)(a0_1:ByteArray)(a0_2:ByteArray):Option (Int):=if a0_0=true then(if a0_1.toList=([]:List UInt8) then(if a0_2.toList=([]:List UInt8) then(some 0) else(some 3)) else(some 3)) else((bV.f a0_1).bind fun t112=>(if t112=0 then((bV.f a0_2).bind fun t113=>(if t113=0 then((iQ.f a0_1).bind fun t114=>(if t114<0 then(some 2) else(if a0_1.toList=([48]:List UInt8) then(some 0) else((iQ.f a0_2).bind fun t115=>(if t115<0 then(some 2) else((mW.f a0_2 a0_1).bind fun t116=>(if t116=true then(some 0) else(some 2)))))))) else(some t113))) else(some t112)))
theorem iV.calls(a0_0:Bool)(a0_1:ByteArray)(a0_2:ByteArray)(r:Int)(w:World)(h:iV.f a0_0 a0_1 a0_2=some r) :
 Calls Tryz.prog 67 #[.agg #[.bool a0_0,.string a0_1,.string a0_2]] w fun e w'=>e= .returned (.int .i64 r)∧Below w.heap.size w w':=by
 have hu36:=Tryz.underlying36
 have HB:=aA.mk (Below.refl w.heap.size w)
 have H:(if a0_0=true then(if a0_1.toList=([]:List UInt8) then(if a0_2.toList=([]:List UInt8) then(some 0) else(some 3)) else(some 3)) else((bV.f a0_1).bind fun t112=>(if t112=0 then((bV.f a0_2).bind fun t113=>(if t113=0 then((iQ.f a0_1).bind fun t114=>(if t114<0 then(some 2) else(if a0_1.toList=([48]:List UInt8) then(some 0) else((iQ.f a0_2).bind fun t115=>(if t115<0 then(some 2) else((mW.f a0_2 a0_1).bind fun t116=>(if t116=true then(some 0) else(some 2)))))))) else(some t113))) else(some t112))))=some r:=h
 clear h
 by_cases c2:a0_0=true
 ·subst c2
  have H1:(if a0_1.toList=([]:List UInt8) then(if a0_2.toList=([]:List UInt8) then(some 0) else(some 3)) else(some 3))=some r:=by rw[if_pos rfl] at H;exact H
  clear H
  have H:=H1
  clear H1
  by_cases c3:a0_1.toList=([]:List UInt8)
  ·rw[if_pos c3] at H
   have c3b0:(a0_1.toList==([]:List UInt8))=true:=beq_iff_eq.mpr c3
   have c3b1:(a0_1.toList != ([]:List UInt8))=false:=bne_eq_false_iff_eq.mpr c3
   clear c3
   by_cases c4:a0_2.toList=([]:List UInt8)
   ·rw[if_pos c4] at H
    have c4b0:(a0_2.toList==([]:List UInt8))=true:=beq_iff_eq.mpr c4
    have c4b1:(a0_2.toList != ([]:List UInt8))=false:=bne_eq_false_iff_eq.mpr c4
    clear c4
    obtain rfl:=Option.some.inj H
    go_enter Tryz.func67,Tryz.ntmps67
    go_wp2_with(first|((with_reducible refine aV (N:=1) rfl ?_);refine bx_ 1 36 #[.bool true,.string a0_1,.string a0_2] (h:= ?_);intro gb111 hg w5 hbox hb;have BK111:=aA.mk (hbox);have GW111:=pkG HB hg;have GE111:=GW111;replace HB:=pkB HB hb;clear hb hbox hg;obtain⟨⟨hcz6_0,hcz6_1,hcz6_2⟩,hfz6_0,hfz6_1,hfz6_2⟩:=pk3 BK111))
    go_ret
    exact pkE HB
   ·rw[if_neg c4] at H
    have c4b0:(a0_2.toList==([]:List UInt8))=false:=beq_eq_false_iff_ne.mpr c4
    have c4b1:(a0_2.toList != ([]:List UInt8))=true:=bne_iff_ne.mpr c4
    obtain rfl:=Option.some.inj H
    go_enter Tryz.func67,Tryz.ntmps67
    go_wp2_with(first|((with_reducible refine aV (N:=1) rfl ?_);refine bx_ 1 36 #[.bool true,.string a0_1,.string a0_2] (h:= ?_);intro gb111 hg w7 hbox hb;have BK111:=aA.mk (hbox);have GW111:=pkG HB hg;have GE111:=GW111;replace HB:=pkB HB hb;clear hb hbox hg;obtain⟨⟨hcz8_0,hcz8_1,hcz8_2⟩,hfz8_0,hfz8_1,hfz8_2⟩:=pk3 BK111))
    go_ret
    exact pkE HB
  ·rw[if_neg c3] at H
   have c3b0:(a0_1.toList==([]:List UInt8))=false:=beq_eq_false_iff_ne.mpr c3
   have c3b1:(a0_1.toList != ([]:List UInt8))=true:=bne_iff_ne.mpr c3
   obtain rfl:=Option.some.inj H
   go_enter Tryz.func67,Tryz.ntmps67
   go_wp2_with(first|((with_reducible refine aV (N:=1) rfl ?_);refine bx_ 1 36 #[.bool true,.string a0_1,.string a0_2] (h:= ?_);intro gb111 hg w9 hbox hb;have BK111:=aA.mk (hbox);have GW111:=pkG HB hg;have GE111:=GW111;replace HB:=pkB HB hb;clear hb hbox hg;obtain⟨⟨hcz10_0,hcz10_1,hcz10_2⟩,hfz10_0,hfz10_1,hfz10_2⟩:=pk3 BK111))
   go_ret
   exact pkE HB
 ·replace c2:=Bool.eq_false_iff.mpr c2
  subst c2
  have H1:((bV.f a0_1).bind fun t112=>(if t112=0 then((bV.f a0_2).bind fun t113=>(if t113=0 then((iQ.f a0_1).bind fun t114=>(if t114<0 then(some 2) else(if a0_1.toList=([48]:List UInt8) then(some 0) else((iQ.f a0_2).bind fun t115=>(if t115<0 then(some 2) else((mW.f a0_2 a0_1).bind fun t116=>(if t116=true then(some 0) else(some 2)))))))) else(some t113))) else(some t112)))=some r:=by rw[if_neg (show ¬(false=true) by decide)] at H;exact H
  clear H
  have H:=H1
  clear H1
  obtain⟨t112,A11,H⟩:=bi H
  try dsimp only at H
  by_cases c12:t112=0
  ·rw[if_pos c12] at H
   have c12b0:(t112==0)=true:=beq_iff_eq.mpr c12
   have c12b1:(t112 != 0)=false:=bne_eq_false_iff_eq.mpr c12
   clear c12
   obtain⟨t113,A13,H⟩:=bi H
   try dsimp only at H
   by_cases c14:t113=0
   ·rw[if_pos c14] at H
    have c14b0:(t113==0)=true:=beq_iff_eq.mpr c14
    have c14b1:(t113 != 0)=false:=bne_eq_false_iff_eq.mpr c14
    clear c14
    obtain⟨t114,A15,H⟩:=bi H
    try dsimp only at H
    by_cases c16:t114<0
    ·rw[if_pos c16] at H
     have c16b0:decide (t114<0)=true:=decide_eq_true c16
     clear c16
     obtain rfl:=Option.some.inj H
     go_enter Tryz.func67,Tryz.ntmps67
     go_wp2_with(first|((with_reducible refine aV (N:=1) rfl ?_);refine bx_ 1 36 #[.bool false,.string a0_1,.string a0_2] (h:= ?_);intro gb111 hg w17 hbox hb;have BK111:=aA.mk (hbox);have GW111:=pkG HB hg;have GE111:=GW111;replace HB:=pkB HB hb;clear hb hbox hg;obtain⟨⟨hcz18_0,hcz18_1,hcz18_2⟩,hfz18_0,hfz18_1,hfz18_2⟩:=pk3 BK111)|((with_reducible refine aG (f:=141) rfl ?_);refine gl_ 17 Tryz.func141 #[.string a0_1] (h:= ?_);(with_reducible refine(bV.calls a0_1 t112 _ A11.out).mono ?_);rintro e w' ⟨rfl,⟨nd,rfl⟩⟩;refine⟨_,rfl,?_⟩)|((with_reducible refine aG (f:=141) rfl ?_);refine gl_ 23 Tryz.func141 #[.string a0_2] (h:= ?_);(with_reducible refine(bV.calls a0_2 t113 _ A13.out).mono ?_);rintro e w' ⟨rfl,⟨nd,rfl⟩⟩;refine⟨_,rfl,?_⟩)|((with_reducible refine aG (f:=142) rfl ?_);refine gl_ 29 Tryz.func142 #[.string a0_1] (h:= ?_);(with_reducible refine(iQ.calls a0_1 t114 _ A15.out).mono ?_);rintro e w' ⟨rfl,⟨nd,rfl⟩⟩;refine⟨_,rfl,?_⟩))
     go_ret
     exact pkE HB
    ·rw[if_neg c16] at H
     have c16b0:decide (t114<0)=false:=decide_eq_false c16
     clear c16
     by_cases c19:a0_1.toList=([48]:List UInt8)
     ·rw[if_pos c19] at H
      have c19b0:(a0_1.toList==([48]:List UInt8))=true:=beq_iff_eq.mpr c19
      have c19b1:(a0_1.toList != ([48]:List UInt8))=false:=bne_eq_false_iff_eq.mpr c19
      clear c19
      obtain rfl:=Option.some.inj H
      go_enter Tryz.func67,Tryz.ntmps67
      go_wp2_with(first|((with_reducible refine aV (N:=1) rfl ?_);refine bx_ 1 36 #[.bool false,.string a0_1,.string a0_2] (h:= ?_);intro gb111 hg w20 hbox hb;have BK111:=aA.mk (hbox);have GW111:=pkG HB hg;have GE111:=GW111;replace HB:=pkB HB hb;clear hb hbox hg;obtain⟨⟨hcz21_0,hcz21_1,hcz21_2⟩,hfz21_0,hfz21_1,hfz21_2⟩:=pk3 BK111)|((with_reducible refine aG (f:=141) rfl ?_);refine gl_ 17 Tryz.func141 #[.string a0_1] (h:= ?_);(with_reducible refine(bV.calls a0_1 t112 _ A11.out).mono ?_);rintro e w' ⟨rfl,⟨nd,rfl⟩⟩;refine⟨_,rfl,?_⟩)|((with_reducible refine aG (f:=141) rfl ?_);refine gl_ 23 Tryz.func141 #[.string a0_2] (h:= ?_);(with_reducible refine(bV.calls a0_2 t113 _ A13.out).mono ?_);rintro e w' ⟨rfl,⟨nd,rfl⟩⟩;refine⟨_,rfl,?_⟩)|((with_reducible refine aG (f:=142) rfl ?_);refine gl_ 29 Tryz.func142 #[.string a0_1] (h:= ?_);(with_reducible refine(iQ.calls a0_1 t114 _ A15.out).mono ?_);rintro e w' ⟨rfl,⟨nd,rfl⟩⟩;refine⟨_,rfl,?_⟩))
      go_ret
      exact pkE HB
     ·rw[if_neg c19] at H
      have c19b0:(a0_1.toList==([48]:List UInt8))=false:=beq_eq_false_iff_ne.mpr c19
      have c19b1:(a0_1.toList != ([48]:List UInt8))=true:=bne_iff_ne.mpr c19
      obtain⟨t115,A22,H⟩:=bi H
      try dsimp only at H
      by_cases c23:t115<0
      ·rw[if_pos c23] at H
       have c23b0:decide (t115<0)=true:=decide_eq_true c23
       clear c23
       obtain rfl:=Option.some.inj H
       go_enter Tryz.func67,Tryz.ntmps67
       go_wp2_with(first|((with_reducible refine aV (N:=1) rfl ?_);refine bx_ 1 36 #[.bool false,.string a0_1,.string a0_2] (h:= ?_);intro gb111 hg w24 hbox hb;have BK111:=aA.mk (hbox);have GW111:=pkG HB hg;have GE111:=GW111;replace HB:=pkB HB hb;clear hb hbox hg;obtain⟨⟨hcz25_0,hcz25_1,hcz25_2⟩,hfz25_0,hfz25_1,hfz25_2⟩:=pk3 BK111)|((with_reducible refine aG (f:=141) rfl ?_);refine gl_ 17 Tryz.func141 #[.string a0_1] (h:= ?_);(with_reducible refine(bV.calls a0_1 t112 _ A11.out).mono ?_);rintro e w' ⟨rfl,⟨nd,rfl⟩⟩;refine⟨_,rfl,?_⟩)|((with_reducible refine aG (f:=141) rfl ?_);refine gl_ 23 Tryz.func141 #[.string a0_2] (h:= ?_);(with_reducible refine(bV.calls a0_2 t113 _ A13.out).mono ?_);rintro e w' ⟨rfl,⟨nd,rfl⟩⟩;refine⟨_,rfl,?_⟩)|((with_reducible refine aG (f:=142) rfl ?_);refine gl_ 29 Tryz.func142 #[.string a0_1] (h:= ?_);(with_reducible refine(iQ.calls a0_1 t114 _ A15.out).mono ?_);rintro e w' ⟨rfl,⟨nd,rfl⟩⟩;refine⟨_,rfl,?_⟩)|(go_at_call 142;(with_reducible refine(iQ.calls a0_2 t115 _ A22.out).mono ?_);rintro e w' ⟨rfl,⟨nd,rfl⟩⟩))
       go_ret
       exact pkE HB
      ·rw[if_neg c23] at H
       have c23b0:decide (t115<0)=false:=decide_eq_false c23
       clear c23
       obtain⟨t116,A26,H⟩:=bi H
       try dsimp only at H
       by_cases c27:t116=true
       ·subst c27
        have H1:(some 0)=some r:=by rw[if_pos rfl] at H;exact H
        clear H
        have H:=H1
        clear H1
        obtain rfl:=Option.some.inj H
        go_enter Tryz.func67,Tryz.ntmps67
        go_wp2_with(first|((with_reducible refine aV (N:=1) rfl ?_);refine bx_ 1 36 #[.bool false,.string a0_1,.string a0_2] (h:= ?_);intro gb111 hg w28 hbox hb;have BK111:=aA.mk (hbox);have GW111:=pkG HB hg;have GE111:=GW111;replace HB:=pkB HB hb;clear hb hbox hg;obtain⟨⟨hcz29_0,hcz29_1,hcz29_2⟩,hfz29_0,hfz29_1,hfz29_2⟩:=pk3 BK111)|((with_reducible refine aG (f:=141) rfl ?_);refine gl_ 17 Tryz.func141 #[.string a0_1] (h:= ?_);(with_reducible refine(bV.calls a0_1 t112 _ A11.out).mono ?_);rintro e w' ⟨rfl,⟨nd,rfl⟩⟩;refine⟨_,rfl,?_⟩)|((with_reducible refine aG (f:=141) rfl ?_);refine gl_ 23 Tryz.func141 #[.string a0_2] (h:= ?_);(with_reducible refine(bV.calls a0_2 t113 _ A13.out).mono ?_);rintro e w' ⟨rfl,⟨nd,rfl⟩⟩;refine⟨_,rfl,?_⟩)|((with_reducible refine aG (f:=142) rfl ?_);refine gl_ 29 Tryz.func142 #[.string a0_1] (h:= ?_);(with_reducible refine(iQ.calls a0_1 t114 _ A15.out).mono ?_);rintro e w' ⟨rfl,⟨nd,rfl⟩⟩;refine⟨_,rfl,?_⟩)|(go_at_call 142;(with_reducible refine(iQ.calls a0_2 t115 _ A22.out).mono ?_);rintro e w' ⟨rfl,⟨nd,rfl⟩⟩)|(go_at_call 143;(with_reducible refine(mW.calls a0_2 a0_1 true _ A26.out).mono ?_);rintro e w30 ⟨rfl,hb⟩;replace BK111:=pkK BK111 hb;replace HB:=pkB HB hb;try clear hb))
        go_ret
        exact pkE HB
       ·replace c27:=Bool.eq_false_iff.mpr c27
        subst c27
        have H1:(some 2)=some r:=by rw[if_neg (show ¬(false=true) by decide)] at H;exact H
        clear H
        have H:=H1
        clear H1
        obtain rfl:=Option.some.inj H
        go_enter Tryz.func67,Tryz.ntmps67
        go_wp2_with(first|((with_reducible refine aV (N:=1) rfl ?_);refine bx_ 1 36 #[.bool false,.string a0_1,.string a0_2] (h:= ?_);intro gb111 hg w31 hbox hb;have BK111:=aA.mk (hbox);have GW111:=pkG HB hg;have GE111:=GW111;replace HB:=pkB HB hb;clear hb hbox hg;obtain⟨⟨hcz32_0,hcz32_1,hcz32_2⟩,hfz32_0,hfz32_1,hfz32_2⟩:=pk3 BK111)|((with_reducible refine aG (f:=141) rfl ?_);refine gl_ 17 Tryz.func141 #[.string a0_1] (h:= ?_);(with_reducible refine(bV.calls a0_1 t112 _ A11.out).mono ?_);rintro e w' ⟨rfl,⟨nd,rfl⟩⟩;refine⟨_,rfl,?_⟩)|((with_reducible refine aG (f:=141) rfl ?_);refine gl_ 23 Tryz.func141 #[.string a0_2] (h:= ?_);(with_reducible refine(bV.calls a0_2 t113 _ A13.out).mono ?_);rintro e w' ⟨rfl,⟨nd,rfl⟩⟩;refine⟨_,rfl,?_⟩)|((with_reducible refine aG (f:=142) rfl ?_);refine gl_ 29 Tryz.func142 #[.string a0_1] (h:= ?_);(with_reducible refine(iQ.calls a0_1 t114 _ A15.out).mono ?_);rintro e w' ⟨rfl,⟨nd,rfl⟩⟩;refine⟨_,rfl,?_⟩)|(go_at_call 142;(with_reducible refine(iQ.calls a0_2 t115 _ A22.out).mono ?_);rintro e w' ⟨rfl,⟨nd,rfl⟩⟩)|(go_at_call 143;(with_reducible refine(mW.calls a0_2 a0_1 false _ A26.out).mono ?_);rintro e w33 ⟨rfl,hb⟩;replace BK111:=pkK BK111 hb;replace HB:=pkB HB hb;try clear hb))
        go_ret
        exact pkE HB
   ·rw[if_neg c14] at H
    have c14b0:(t113==0)=false:=beq_eq_false_iff_ne.mpr c14
    have c14b1:(t113 != 0)=true:=bne_iff_ne.mpr c14
    obtain rfl:=Option.some.inj H
    go_enter Tryz.func67,Tryz.ntmps67
    go_wp2_with(first|((with_reducible refine aV (N:=1) rfl ?_);refine bx_ 1 36 #[.bool false,.string a0_1,.string a0_2] (h:= ?_);intro gb111 hg w34 hbox hb;have BK111:=aA.mk (hbox);have GW111:=pkG HB hg;have GE111:=GW111;replace HB:=pkB HB hb;clear hb hbox hg;obtain⟨⟨hcz35_0,hcz35_1,hcz35_2⟩,hfz35_0,hfz35_1,hfz35_2⟩:=pk3 BK111)|((with_reducible refine aG (f:=141) rfl ?_);refine gl_ 17 Tryz.func141 #[.string a0_1] (h:= ?_);(with_reducible refine(bV.calls a0_1 t112 _ A11.out).mono ?_);rintro e w' ⟨rfl,⟨nd,rfl⟩⟩;refine⟨_,rfl,?_⟩)|((with_reducible refine aG (f:=141) rfl ?_);refine gl_ 23 Tryz.func141 #[.string a0_2] (h:= ?_);(with_reducible refine(bV.calls a0_2 t113 _ A13.out).mono ?_);rintro e w' ⟨rfl,⟨nd,rfl⟩⟩;refine⟨_,rfl,?_⟩))
    go_ret
    exact pkE HB
  ·rw[if_neg c12] at H
   have c12b0:(t112==0)=false:=beq_eq_false_iff_ne.mpr c12
   have c12b1:(t112 != 0)=true:=bne_iff_ne.mpr c12
   obtain rfl:=Option.some.inj H
   go_enter Tryz.func67,Tryz.ntmps67
   go_wp2_with(first|((with_reducible refine aV (N:=1) rfl ?_);refine bx_ 1 36 #[.bool false,.string a0_1,.string a0_2] (h:= ?_);intro gb111 hg w36 hbox hb;have BK111:=aA.mk (hbox);have GW111:=pkG HB hg;have GE111:=GW111;replace HB:=pkB HB hb;clear hb hbox hg;obtain⟨⟨hcz37_0,hcz37_1,hcz37_2⟩,hfz37_0,hfz37_1,hfz37_2⟩:=pk3 BK111)|((with_reducible refine aG (f:=141) rfl ?_);refine gl_ 17 Tryz.func141 #[.string a0_1] (h:= ?_);(with_reducible refine(bV.calls a0_1 t112 _ A11.out).mono ?_);rintro e w' ⟨rfl,⟨nd,rfl⟩⟩;refine⟨_,rfl,?_⟩))
   go_ret
   exact pkE HB
mutual
def bT.l0:Nat→List (S36)→List ByteArray→List (S36)→Int→Int→Option (Bool)
 |0,_,_,_,_,_=>none
 |k+1,x0,x1,x9,x10,x11=>if x11<x10 then(if 0≤x11 then(if x11<(x9.length:Int) then((iV.f ((fC x9 x11).f0) ((fC x9 x11).f1) ((fC x9 x11).f2)).bind fun t119=>(if t119=0 then(bT.l0 k x0 x1 x9 x10 (wrap64 (x11+1))) else(some false))) else(none)) else(none)) else(bT.l1 k x0 x1 x1 (x1.length:Int) 0)
def bT.l1:Nat→List (S36)→List ByteArray→List ByteArray→Int→Int→Option (Bool)
 |0,_,_,_,_,_=>none
 |k+1,x0,x1,x19,x20,x21=>if x21<x20 then(if 0≤x21 then(if x21<(x19.length:Int) then((oW.f (rdOf ByteArray.empty x19 x21)).bind fun t121=>(if t121=0 then(bT.l1 k x0 x1 x19 x20 (wrap64 (x21+1))) else(some false))) else(none)) else(none)) else((dC.f k x0 x1).bind fun t122=>(some t122))
end
def bT.f(k:Nat)(l0:List (S36))(l1:List ByteArray):Option (Bool):=bT.l0 k l0 l1 l0 (l0.length:Int) 0
theorem bT.calls(k:Nat)(A0:Option Addr)(c0:Nat)(l0:List (S36))(A1:Option Addr)(c1:Nat)(l1:List ByteArray)(r:Bool)(w:World)(hr0:Kd.C k36 w A0 l0.length l0)(hc0:l0.length≤c0)(hr1:Kd.C Kd.string w A1 l1.length l1)(hc1:l1.length≤c1)(h:bT.f k l0 l1=some r) :
 Calls Tryz.prog 46 #[.slice A0 l0.length c0,.slice A1 l1.length c1] w fun e w'=>e= .returned (.bool r)∧Below w.heap.size w w':=by
 have hu36:=Tryz.underlying36
 have HR0:=aA.mk hr0
 have HC0:=aA.mk hc0
 clear hr0 hc0
 have HR1:=aA.mk hr1
 have HC1:=aA.mk hc1
 clear hr1 hc1
 have HB:=aA.mk (Below.refl w.heap.size w)
 have H:(bT.l0 k l0 l1 l0 (l0.length:Int) 0)=some r:=h
 clear h
 have H':=aA.mk H
 clear H
 go_enter Tryz.func46,Tryz.ntmps46
 go_wp2
 go_loopg [11] k (fun kq v11 w'=>∃(x11_1:Int),v11= .int .i64 x11_1∧aA (bT.l0 kq l0 l1 l0 (l0.length:Int) x11_1=some r)∧aA (kq≤k)∧aA (Below w.heap.size w w'))
 case atStart=>exact⟨(0),(by first|rfl|(simp;done)|(simp[*];done)),H',⟨Nat.le_refl _⟩,⟨pkL HB⟩⟩
 case round=>
  clear H'
  try clear c1
  obtain⟨x11_1,rfl,HA,HK1,HB⟩:=hrel
  cases gk with
  |zero=>exact absurd HA.out (by simp[bT.l0])
  |succ k1=>
   have H:=HA.out
   clear HA
   simp only[bT.l0] at H
   by_cases c3:x11_1<(l0.length:Int)
   ·rw[if_pos c3] at H
    have c3b0:decide (x11_1<(l0.length:Int))=true:=decide_eq_true c3
    clear c3
    by_cases c4:0≤x11_1
    ·rw[if_pos c4] at H
     have c4b0:decide (0≤x11_1)=true:=decide_eq_true c4
     clear c4
     by_cases c5:x11_1<(l0.length:Int)
     ·rw[if_pos c5] at H
      have c5b0:decide (x11_1<(l0.length:Int))=true:=decide_eq_true c5
      clear c5
      obtain⟨t119,A6,H⟩:=bi H
      try dsimp only at H
      by_cases c7:t119=0
      ·rw[if_pos c7] at H
       have c7b0:(t119==0)=true:=beq_iff_eq.mpr c7
       have c7b1:(t119 != 0)=false:=bne_eq_false_iff_eq.mpr c7
       clear c7
       have H':=aA.mk H
       clear H
       have p117:0≤(x11_1:Int):=of_decide_eq_true (by first|(with_reducible assumption)|assumption)
       have q117:x11_1<(l0.length:Int):=of_decide_eq_true (by first|(with_reducible assumption)|assumption)
       obtain⟨ad117,e117,hx117_0,hx117_1,hx117_2⟩:=at_T36 HR0.out x11_1 p117 q117
       cases e117
       replace hx117_0:=(HB.out.cell (World.block_lt_of_cell? w _ hx117_0)).trans hx117_0
       replace hx117_1:=(HB.out.cell (World.block_lt_of_cell? w _ hx117_1)).trans hx117_1
       replace hx117_2:=(HB.out.cell (World.block_lt_of_cell? w _ hx117_2)).trans hx117_2
       replace p117:=eq_true p117
       replace q117:=eq_true q117
       go_wp2_with(first|((with_reducible refine aV (N:=6) rfl ?_);refine bx_ 6 36 #[.bool false,.string (⟨#[]⟩:ByteArray),.string (⟨#[]⟩:ByteArray)] (h:= ?_);intro gb118 hg w8 hbox hb;have BK118:=aA.mk (hbox);have GW118:=pkG HB hg;have GE118:=GW118;replace HB:=pkB HB hb;clear hb hbox hg;obtain⟨⟨hcz9_0,hcz9_1,hcz9_2⟩,hfz9_0,hfz9_1,hfz9_2⟩:=pk3 BK118)|((with_reducible refine aG (f:=67) rfl ?_);refine gl_ 16 Tryz.func67 #[.agg #[.bool ((fC l0 x11_1).f0),.string ((fC l0 x11_1).f1),.string ((fC l0 x11_1).f2)]] (h:= ?_);(with_reducible refine(iV.calls ((fC l0 x11_1).f0) ((fC l0 x11_1).f1) ((fC l0 x11_1).f2) t119 _ A6.out).mono ?_);rintro e w10 ⟨rfl,hb⟩;refine⟨_,rfl,?_⟩;replace BK118:=aA.mk (dS (g:=gb118) (o:= .cells #[.bool ((fC l0 x11_1).f0),.string ((fC l0 x11_1).f1),.string ((fC l0 x11_1).f2)] 36 (0,0)) (pkS3 BK118) hb);replace HB:=pkB HB hb;try clear hb))
       go_roundg k1
       case measure=>have:=HK1.out;omega
       case rel=>exact⟨(wrap64 (x11_1+1)),(by first|rfl|(simp;done)|(simp[*];done)),H',⟨by have:=HK1.out;omega⟩,⟨pkL HB⟩⟩
      ·rw[if_neg c7] at H
       have c7b0:(t119==0)=false:=beq_eq_false_iff_ne.mpr c7
       have c7b1:(t119 != 0)=true:=bne_iff_ne.mpr c7
       obtain rfl:=Option.some.inj H
       have p117:0≤(x11_1:Int):=of_decide_eq_true (by first|(with_reducible assumption)|assumption)
       have q117:x11_1<(l0.length:Int):=of_decide_eq_true (by first|(with_reducible assumption)|assumption)
       obtain⟨ad117,e117,hx117_0,hx117_1,hx117_2⟩:=at_T36 HR0.out x11_1 p117 q117
       cases e117
       replace hx117_0:=(HB.out.cell (World.block_lt_of_cell? w _ hx117_0)).trans hx117_0
       replace hx117_1:=(HB.out.cell (World.block_lt_of_cell? w _ hx117_1)).trans hx117_1
       replace hx117_2:=(HB.out.cell (World.block_lt_of_cell? w _ hx117_2)).trans hx117_2
       replace p117:=eq_true p117
       replace q117:=eq_true q117
       go_wp2_with(first|((with_reducible refine aV (N:=6) rfl ?_);refine bx_ 6 36 #[.bool false,.string (⟨#[]⟩:ByteArray),.string (⟨#[]⟩:ByteArray)] (h:= ?_);intro gb118 hg w11 hbox hb;have BK118:=aA.mk (hbox);have GW118:=pkG HB hg;have GE118:=GW118;replace HB:=pkB HB hb;clear hb hbox hg;obtain⟨⟨hcz12_0,hcz12_1,hcz12_2⟩,hfz12_0,hfz12_1,hfz12_2⟩:=pk3 BK118)|((with_reducible refine aG (f:=67) rfl ?_);refine gl_ 16 Tryz.func67 #[.agg #[.bool ((fC l0 x11_1).f0),.string ((fC l0 x11_1).f1),.string ((fC l0 x11_1).f2)]] (h:= ?_);(with_reducible refine(iV.calls ((fC l0 x11_1).f0) ((fC l0 x11_1).f1) ((fC l0 x11_1).f2) t119 _ A6.out).mono ?_);rintro e w13 ⟨rfl,hb⟩;refine⟨_,rfl,?_⟩;replace BK118:=aA.mk (dS (g:=gb118) (o:= .cells #[.bool ((fC l0 x11_1).f0),.string ((fC l0 x11_1).f1),.string ((fC l0 x11_1).f2)] 36 (0,0)) (pkS3 BK118) hb);replace HB:=pkB HB hb;try clear hb))
       go_ret
       exact pkE HB
     ·rw[if_neg c5] at H
      exact absurd H (by simp)
    ·rw[if_neg c4] at H
     exact absurd H (by simp)
   ·rw[if_neg c3] at H
    have c3b0:decide (x11_1<(l0.length:Int))=false:=decide_eq_false c3
    clear c3
    have H':=aA.mk H
    clear H
    go_wp2
    go_loopg [21] k1 (fun kq v21 w'=>∃(x21_2:Int),v21= .int .i64 x21_2∧aA (bT.l1 kq l0 l1 l1 (l1.length:Int) x21_2=some r)∧aA (kq≤k1)∧aA (Below w.heap.size w w'))
    case atStart=>exact⟨(0),(by first|rfl|(simp;done)|(simp[*];done)),H',⟨Nat.le_refl _⟩,⟨pkL HB⟩⟩
    case round=>
     clear H'
     try clear c1
     try clear c3
     try clear c3b0
     try clear c4
     try clear c4b0
     try clear c5
     try clear c5b0
     try clear c7
     try clear c7b0
     try clear c7b1
     try clear hcz12_0
     try clear hcz12_1
     try clear hcz12_2
     try clear hcz9_0
     try clear hcz9_1
     try clear hcz9_2
     try clear hfz12_0
     try clear hfz12_1
     try clear hfz12_2
     try clear hfz9_0
     try clear hfz9_1
     try clear hfz9_2
     try clear hx117_0
     try clear hx117_1
     try clear hx117_2
     try clear p117
     try clear q117
     obtain⟨x21_2,rfl,HA,HK2,HB⟩:=hrel
     cases gk with
     |zero=>exact absurd HA.out (by simp[bT.l1])
     |succ k2=>
      have H:=HA.out
      clear HA
      simp only[bT.l1] at H
      by_cases c14:x21_2<(l1.length:Int)
      ·rw[if_pos c14] at H
       have c14b0:decide (x21_2<(l1.length:Int))=true:=decide_eq_true c14
       clear c14
       by_cases c15:0≤x21_2
       ·rw[if_pos c15] at H
        have c15b0:decide (0≤x21_2)=true:=decide_eq_true c15
        clear c15
        by_cases c16:x21_2<(l1.length:Int)
        ·rw[if_pos c16] at H
         have c16b0:decide (x21_2<(l1.length:Int))=true:=decide_eq_true c16
         clear c16
         obtain⟨t121,A17,H⟩:=bi H
         try dsimp only at H
         by_cases c18:t121=0
         ·rw[if_pos c18] at H
          have c18b0:(t121==0)=true:=beq_iff_eq.mpr c18
          have c18b1:(t121 != 0)=false:=bne_eq_false_iff_eq.mpr c18
          clear c18
          have H':=aA.mk H
          clear H
          have p120:0≤(x21_2:Int):=of_decide_eq_true (by first|(with_reducible assumption)|assumption)
          have q120:x21_2<(l1.length:Int):=of_decide_eq_true (by first|(with_reducible assumption)|assumption)
          obtain⟨ad120,e120,hx120_0⟩:=Kd.qF HR1.out x21_2 p120 q120
          cases e120
          replace hx120_0:=(HB.out.cell (World.block_lt_of_cell? w _ hx120_0)).trans hx120_0
          replace p120:=eq_true p120
          replace q120:=eq_true q120
          go_wp2_with(first|((with_reducible refine aG (f:=115) rfl ?_);refine gl_ 26 Tryz.func115 #[.string (rdOf ByteArray.empty l1 x21_2)] (h:= ?_);(with_reducible refine(oW.calls (rdOf ByteArray.empty l1 x21_2) t121 _ A17.out).mono ?_);rintro e w' ⟨rfl,⟨nd,rfl⟩⟩;refine⟨_,rfl,?_⟩))
          go_roundg k2
          case measure=>have:=HK1.out;have:=HK2.out;omega
          case rel=>exact⟨(wrap64 (x21_2+1)),(by first|rfl|(simp;done)|(simp[*];done)),H',⟨by have:=HK1.out;have:=HK2.out;omega⟩,⟨pkL HB⟩⟩
         ·rw[if_neg c18] at H
          have c18b0:(t121==0)=false:=beq_eq_false_iff_ne.mpr c18
          have c18b1:(t121 != 0)=true:=bne_iff_ne.mpr c18
          obtain rfl:=Option.some.inj H
          have p120:0≤(x21_2:Int):=of_decide_eq_true (by first|(with_reducible assumption)|assumption)
          have q120:x21_2<(l1.length:Int):=of_decide_eq_true (by first|(with_reducible assumption)|assumption)
          obtain⟨ad120,e120,hx120_0⟩:=Kd.qF HR1.out x21_2 p120 q120
          cases e120
          replace hx120_0:=(HB.out.cell (World.block_lt_of_cell? w _ hx120_0)).trans hx120_0
          replace p120:=eq_true p120
          replace q120:=eq_true q120
          go_wp2_with(first|((with_reducible refine aG (f:=115) rfl ?_);refine gl_ 26 Tryz.func115 #[.string (rdOf ByteArray.empty l1 x21_2)] (h:= ?_);(with_reducible refine(oW.calls (rdOf ByteArray.empty l1 x21_2) t121 _ A17.out).mono ?_);rintro e w' ⟨rfl,⟨nd,rfl⟩⟩;refine⟨_,rfl,?_⟩))
          go_ret
          exact pkE HB
        ·rw[if_neg c16] at H
         exact absurd H (by simp)
       ·rw[if_neg c15] at H
        exact absurd H (by simp)
      ·rw[if_neg c14] at H
       have c14b0:decide (x21_2<(l1.length:Int))=false:=decide_eq_false c14
       clear c14
       obtain⟨t122,A19,H⟩:=bi H
       try dsimp only at H
       obtain rfl:=Option.some.inj H
       go_wp2_with(first|((with_reducible refine aG (f:=34) rfl ?_);refine gl_ 31 Tryz.func34 #[.slice A0 l0.length c0,.slice A1 l1.length c1] (h:= ?_);(with_reducible refine(dC.calls k2 _ _ l0 _ _ l1 t122 _ ?side1 ?side2 ?side3 ?side4 A19.out).mono ?_);(case side1=>repeat(first|exact(Kd.nZ HR0.out HB.out)|(with_reducible refine Kd.kN ?_ _)|(with_reducible refine Kd.kP ?_ _)|(with_reducible refine Kd.lT ?_)));(case side2=>exact HC0.out);(case side3=>repeat(first|exact(Kd.nZ HR1.out HB.out)|(with_reducible refine Kd.kN ?_ _)|(with_reducible refine Kd.kP ?_ _)|(with_reducible refine Kd.lT ?_)));(case side4=>exact HC1.out);rintro e w20 ⟨rfl,hb⟩;refine⟨_,rfl,?_⟩;replace HB:=pkB HB hb;try clear hb))
       go_ret
       exact pkE HB
def fP.f(a0_0:Bool)(a0_1:ByteArray)(a0_2:ByteArray)(a1:ByteArray):Option (Bool):=(kW.f a0_0 a0_1 a0_2 a1).bind fun bt124=>(if bt124.1=true then(some (bt124.2==0)) else(some false))
theorem fP.calls(a0_0:Bool)(a0_1:ByteArray)(a0_2:ByteArray)(a1:ByteArray)(r:Bool)(w:World)(hG:GW w)(h:fP.f a0_0 a0_1 a0_2 a1=some r) :
 Calls Tryz.prog 68 #[.agg #[.bool a0_0,.string a0_1,.string a0_2],.string a1] w fun e w'=>e= .returned (.bool r)∧Below w.heap.size w w':=by
 have HG:=aA.mk hG
 clear hG
 have hu36:=Tryz.underlying36
 have HB:=aA.mk (Below.refl w.heap.size w)
 have H:((kW.f a0_0 a0_1 a0_2 a1).bind fun bt124=>(if bt124.1=true then(some (bt124.2==0)) else(some false)))=some r:=h
 clear h
 obtain⟨⟨t124,t125⟩,A3,H⟩:=bi H
 try dsimp only at H
 by_cases c4:t124=true
 ·subst c4
  have H1:(some (t125==0))=some r:=by rw[if_pos rfl] at H;exact H
  clear H
  have H:=H1
  clear H1
  obtain rfl:=Option.some.inj H
  go_enter Tryz.func68,Tryz.ntmps68
  go_wp2_with(first|((with_reducible refine aV (N:=2) rfl ?_);refine bx_ 2 36 #[.bool a0_0,.string a0_1,.string a0_2] (h:= ?_);intro gb123 hg w5 hbox hb;have BK123:=aA.mk (hbox);have GW123:=pkG HB hg;have GE123:=GW123;replace HB:=pkB HB hb;clear hb hbox hg;obtain⟨⟨hcz6_0,hcz6_1,hcz6_2⟩,hfz6_0,hfz6_1,hfz6_2⟩:=pk3 BK123)|((with_reducible refine aG (f:=60) rfl ?_);refine gl_ 10 Tryz.func60 #[.agg #[.bool a0_0,.string a0_1,.string a0_2],.string a1] (h:= ?_);(with_reducible refine(kW.calls (hG:=HG.out.below (pkL HB)) a0_0 a0_1 a0_2 a1 true t125 _ A3.out).mono ?_);rintro e w7 ⟨rfl,hb⟩;refine⟨_,rfl,?_⟩;replace BK123:=pkK BK123 hb;replace HB:=pkB HB hb;try clear hb))
  go_ret
  exact pkE HB
 ·replace c4:=Bool.eq_false_iff.mpr c4
  subst c4
  have H1:(some false)=some r:=by rw[if_neg (show ¬(false=true) by decide)] at H;exact H
  clear H
  have H:=H1
  clear H1
  obtain rfl:=Option.some.inj H
  go_enter Tryz.func68,Tryz.ntmps68
  go_wp2_with(first|((with_reducible refine aV (N:=2) rfl ?_);refine bx_ 2 36 #[.bool a0_0,.string a0_1,.string a0_2] (h:= ?_);intro gb123 hg w8 hbox hb;have BK123:=aA.mk (hbox);have GW123:=pkG HB hg;have GE123:=GW123;replace HB:=pkB HB hb;clear hb hbox hg;obtain⟨⟨hcz9_0,hcz9_1,hcz9_2⟩,hfz9_0,hfz9_1,hfz9_2⟩:=pk3 BK123)|((with_reducible refine aG (f:=60) rfl ?_);refine gl_ 10 Tryz.func60 #[.agg #[.bool a0_0,.string a0_1,.string a0_2],.string a1] (h:= ?_);(with_reducible refine(kW.calls (hG:=HG.out.below (pkL HB)) a0_0 a0_1 a0_2 a1 false t125 _ A3.out).mono ?_);rintro e w10 ⟨rfl,hb⟩;refine⟨_,rfl,?_⟩;replace BK123:=pkK BK123 hb;replace HB:=pkB HB hb;try clear hb))
  go_ret
  exact pkE HB
end Go.Proofs.YtignanmmgaldeaaGreatDoor.PCongruenceEnds
end
section
set_option linter.unusedVariables false
set_option linter.unusedSimpArgs false
set_option maxHeartbeats 8000000
set_option maxRecDepth 100000
namespace Go.Proofs.YtignanmmgaldeaaGreatDoor.PCongruenceEnds
open Go.RowKit Go.Proofs.YtignanmmgaldeaaGreatDoorW.PrintWords Go.Proofs.YtignanmmgaldeaaGreatDoorW.PrintLast Go.Proofs.YtignanmmgaldeaaGreatDoorW.PrintMore
attribute [local go_sem] gU gV iG iH
mutual
def aI.j0:Nat→ByteArray→Bool→Bool→ByteArray→ByteArray→Option (Bool)
 |0,_,_,_,_,_=>none
 |k+1,x1,x22,x127000,x127001,x127002=>if x22=true then((iF.f).bind fun t134=>(some t134)) else((jC.f x127000 x127001 x127002 x1).bind fun bt135=>((iC.f x127000 x127001 x127002 x1).bind fun bt137=>(if bt135.2=6 then(aI.j1 k x1 bt135.1 bt135.2 bt137.1 bt137.2 true x127000 x127001 x127002) else(aI.j1 k x1 bt135.1 bt135.2 bt137.1 bt137.2 (bt137.2==6) x127000 x127001 x127002))))
def aI.j1:Nat→ByteArray→ByteArray→Int→ByteArray→Int→Bool→Bool→ByteArray→ByteArray→Option (Bool)
 |0,_,_,_,_,_,_,_,_,_=>none
 |k+1,x1,x5,x6,x7,x8,x41,x127000,x127001,x127002=>if x41=true then(if x127001.toList=([48]:List UInt8) then(if x6=x8 then(some false) else((iF.f).bind fun t139=>(some t139))) else(some false)) else(if x6=0 then(if x8=0 then((fP.f x127000 x127001 x127002 x5).bind fun t140=>(if t140=true then((fP.f x127000 x127001 x127002 x7).bind fun t141=>(aI.j2 k x1 x5 x7 (!t141) x127000 x127001 x127002)) else(aI.j2 k x1 x5 x7 true x127000 x127001 x127002))) else(aI.j2 k x1 x5 x7 true x127000 x127001 x127002)) else(aI.j2 k x1 x5 x7 true x127000 x127001 x127002))
def aI.j2:Nat→ByteArray→ByteArray→ByteArray→Bool→Bool→ByteArray→ByteArray→Option (Bool)
 |0,_,_,_,_,_,_,_=>none
 |k+1,x1,x5,x7,x70,x127000,x127001,x127002=>if x70=true then(some false) else((gI.f x5 x1).bind fun bt142=>((gI.f x7 x1).bind fun bt144=>((jB.f x5 x7).bind fun bt146=>(if(wrap64 ((wrap64 (bt142.2+bt144.2))+bt146.2))=0 then(if bt142.1<0 then(aI.j3 k x5 x7 bt142.1 bt144.1 bt146.1 true x127000 x127001 x127002) else(aI.j3 k x5 x7 bt142.1 bt144.1 bt146.1 (decide (bt144.1>0)) x127000 x127001 x127002)) else(aI.j3 k x5 x7 bt142.1 bt144.1 bt146.1 true x127000 x127001 x127002)))))
def aI.j3:Nat→ByteArray→ByteArray→Int→Int→ByteArray→Bool→Bool→ByteArray→ByteArray→Option (Bool)
 |0,_,_,_,_,_,_,_,_,_=>none
 |k+1,x5,x7,x9,x10,x11,x102,x127000,x127001,x127002=>if x102=true then(some false) else(if x5.toList=x7.toList then(if x9=0 then(if x10=0 then((iF.f).bind fun t148=>(some t148)) else(some false)) else(some false)) else(if x11.toList=x127001.toList then((iF.f).bind fun t149=>(some t149)) else(some false)))
end
def aI.f(k:Nat)(a0_0:Bool)(a0_1:ByteArray)(a0_2:ByteArray)(a1:ByteArray):Option (Bool):=(bT.f k (([(⟨a0_0,a0_1,a0_2⟩:S36)]:List (S36))) (([a1]:List ByteArray))).bind fun t133=>(if t133=true then(aI.j0 k a1 a0_0 a0_0 a0_1 a0_2) else(aI.j0 k a1 true a0_0 a0_1 a0_2))
theorem aI.calls(k:Nat)(a0_0:Bool)(a0_1:ByteArray)(a0_2:ByteArray)(a1:ByteArray)(r:Bool)(w:World)(hG:GW w)(h:aI.f k a0_0 a0_1 a0_2 a1=some r) :
 Calls Tryz.prog 13 #[.agg #[.bool a0_0,.string a0_1,.string a0_2],.string a1] w fun e w'=>e= .returned (.bool r)∧Below w.heap.size w w':=by
 have HG:=aA.mk hG
 clear hG
 have hu36:=Tryz.underlying36
 have HB:=aA.mk (Below.refl w.heap.size w)
 have H:((bT.f k (([(⟨a0_0,a0_1,a0_2⟩:S36)]:List (S36))) (([a1]:List ByteArray))).bind fun t133=>(if t133=true then(aI.j0 k a1 a0_0 a0_0 a0_1 a0_2) else(aI.j0 k a1 true a0_0 a0_1 a0_2)))=some r:=h
 clear h
 have HC3:=aA.mk H
 clear H
 go_enter Tryz.func13,Tryz.ntmps13
 go_upto_region 1 with (first|((with_reducible refine aV (N:=2) rfl ?_);refine bx_ 2 36 #[.bool a0_0,.string a0_1,.string a0_2] (h:= ?_);intro gb126 hg w4 hbox hb;have BK126:=aA.mk (hbox);have GW126:=pkG HB hg;have GE126:=GW126;replace HB:=pkB HB hb;clear hb hbox hg))
 (try simp only[Act.put,List.setIfInBounds_toArray,List.set_cons_zero,List.set_cons_succ])
 go_cut [22] (fun v22 wc=>∃(kq:Nat) (x22_2:Bool),v22= .bool x22_2∧aA (aI.j0 kq a1 x22_2 a0_0 a0_1 a0_2=some r)∧aA (kq≤k)∧aA (wc.heap[gb126]? =some (.cells #[.bool a0_0,.string a0_1,.string a0_2] 36 (0,0)))∧aA (Below w.heap.size w wc))
 case first=>
  have H:=HC3.out
  clear HC3
  obtain⟨y127,hy127⟩:∃y_:List (S36),y_=(([(⟨a0_0,a0_1,a0_2⟩:S36)]:List (S36))):=⟨_,rfl⟩
  replace H:((bT.f k y127 (([a1]:List ByteArray))).bind fun t133=>(if t133=true then(aI.j0 k a1 a0_0 a0_0 a0_1 a0_2) else(aI.j0 k a1 true a0_0 a0_1 a0_2)))=some r:=by first|(rw[hy127];with_reducible exact H)|(have H2_:=(Option.bind_some _ _).symm.trans H;rw[hy127];with_reducible exact H2_)|(have H2_:=(Option.bind_some _ _).symm.trans H;with_reducible exact H2_)|with_reducible exact H|(rw[hy127];exact H)|exact H
  have Ny127:=aA.mk hy127
  clear hy127
  obtain⟨y130,hy130⟩:∃y_:List ByteArray,y_=(([a1]:List ByteArray)):=⟨_,rfl⟩
  replace H:((bT.f k y127 y130).bind fun t133=>(if t133=true then(aI.j0 k a1 a0_0 a0_0 a0_1 a0_2) else(aI.j0 k a1 true a0_0 a0_1 a0_2)))=some r:=by first|(rw[hy130];with_reducible exact H)|(have H2_:=(Option.bind_some _ _).symm.trans H;rw[hy130];with_reducible exact H2_)|(have H2_:=(Option.bind_some _ _).symm.trans H;with_reducible exact H2_)|with_reducible exact H|(rw[hy130];exact H)|exact H
  have Ny130:=aA.mk hy130
  clear hy130
  obtain⟨t133,A5,H⟩:=bi H
  try dsimp only at H
  by_cases c6:t133=true
  ·subst c6
   have H1:(aI.j0 k a1 a0_0 a0_0 a0_1 a0_2)=some r:=by rw[if_pos rfl] at H;exact H
   clear H
   have H:=H1
   clear H1
   have H':=aA.mk H
   clear H
   obtain⟨⟨hcz7_0,hcz7_1,hcz7_2⟩,hfz7_0,hfz7_1,hfz7_2⟩:=pk3 BK126
   go_wp2_with(first|((with_reducible refine aV (N:=14) rfl ?_);refine Kd.R_lit k36 _ 36 ?hg (N:=14) ?hd (xs:=([(⟨a0_0,a0_1,a0_2⟩:S36)]:List (S36))) (inner:= [.bool a0_0,.string a0_1,.string a0_2]) (ok:=fun _=>True) (okp:=fun _=>True) ?hr ?hp (fun _ hk=>hk) trivial (Below.refl _ _) (Nat.le_refl _) (by simp) ?_;(case hd=>rfl);(case hg=>rfl);(case hr=>first|(go_simp;done)|(go_simp;rfl));(case hp=>exact(Reps.c3 (show Kd.M k36 _ _ _ (⟨a0_0,a0_1,a0_2⟩:S36) [.bool a0_0,.string a0_1,.string a0_2] from(k36_mkM _ _ _ (⟨a0_0,a0_1,a0_2⟩:S36))) (Reps.none _ _)));intro v128 w8 ho9 hb hg_ hnew_;clear hg_ hnew_;(first|rw[←Ny127.out] at ho9|(simp only[Int.reduceToNat] at ho9;rw[←Ny127.out] at ho9));have HO129:=aA.mk (Kd.lK (Kd.R_newB ho9 (g:=gb126) (o:= .cells #[.bool a0_0,.string a0_1,.string a0_2] 36 (0,0)) (pkW BK126)) (fM (pkL HB)));replace BK126:=pkK BK126 hb;replace HB:=pkB HB hb;clear hb ho9)|((with_reducible refine aV (N:=16) rfl ?_);refine Kd.R_lit Kd.string _ 22 ?hg (N:=16) ?hd (xs:=([a1]:List ByteArray)) (inner:= [.string a1]) (ok:=fun _=>True) (okp:=fun _=>True) ?hr ?hp (fun _ hk=>hk) trivial (Below.refl _ _) (Nat.le_refl _) (by simp) ?_;(case hd=>rfl);(case hg=>rfl);(case hr=>first|(go_simp;done)|(go_simp;rfl));(case hp=>exact(Reps.one (show Kd.M Kd.string _ _ _ a1 [.string a1] from rfl) (Reps.none _ _)));intro v131 w10 ho11 hb hg_ hnew_;clear hg_ hnew_;(first|rw[←Ny130.out] at ho11|(simp only[Int.reduceToNat] at ho11;rw[←Ny130.out] at ho11));have n0_:=aA.mk (Kd.iO (by(with_reducible repeat(first|apply Kd.dK|apply Kd.dM|apply Kd.dW));exact HO129.out) hb);have n1_:=aA.mk (Kd.lK ho11 (fM (pkL HB)));have n2_:=pkK BK126 hb;have n3_:=pkB HB hb;clear HO129;clear BK126;clear HB;have HO129:=n0_;have HO132:=n1_;have BK126:=n2_;have HB:=n3_;clear n0_ n1_ n2_ n3_;clear hb ho11;obtain⟨Ao12,co12,eo12⟩:=Kd.iP HO129.out;subst eo12;obtain⟨Ao13,co13,eo13⟩:=Kd.iP HO132.out;subst eo13)|((with_reducible refine aG (f:=46) rfl ?_);refine gl_ 17 Tryz.func46 #[.slice Ao12 y127.length co12,.slice Ao13 y130.length co13] (h:= ?_);(with_reducible refine(bT.calls k _ _ y127 _ _ y130 true _ ?side1 ?side2 ?side3 ?side4 A5.out).mono ?_);(case side1=>repeat(first|exact(Kd.fU HO129.out).2.2|(with_reducible refine Kd.kN ?_ _)|(with_reducible refine Kd.kP ?_ _)|(with_reducible refine Kd.lT ?_)));(case side2=>exact(Kd.fU HO129.out).2.1);(case side3=>repeat(first|exact(Kd.fU HO132.out).2.2|(with_reducible refine Kd.kN ?_ _)|(with_reducible refine Kd.kP ?_ _)|(with_reducible refine Kd.lT ?_)));(case side4=>exact(Kd.fU HO132.out).2.1);rintro e w14 ⟨rfl,hb⟩;refine⟨_,rfl,?_⟩;have n0_:=aA.mk (Kd.iO (by(with_reducible repeat(first|apply Kd.dK|apply Kd.dM|apply Kd.dW));exact HO129.out) hb);have n1_:=aA.mk (Kd.iO (by(with_reducible repeat(first|apply Kd.dK|apply Kd.dM|apply Kd.dW));exact HO132.out) hb);have n2_:=pkK BK126 hb;have n3_:=pkB HB hb;clear HO129;clear HO132;clear BK126;clear HB;have HO129:=n0_;have HO132:=n1_;have BK126:=n2_;have HB:=n3_;clear n0_ n1_ n2_ n3_;try clear hb;obtain⟨⟨hcz15_0,hcz15_1,hcz15_2⟩,hfz15_0,hfz15_1,hfz15_2⟩:=pk3 BK126))
   go_meet
   case rel=>exact⟨_,(a0_0),(by first|rfl|(simp;done)|(simp[*];done)),H',⟨by first|omega|exact Nat.le_refl _⟩,⟨pkW BK126⟩,⟨pkL HB⟩⟩
  ·replace c6:=Bool.eq_false_iff.mpr c6
   subst c6
   have H1:(aI.j0 k a1 true a0_0 a0_1 a0_2)=some r:=by rw[if_neg (show ¬(false=true) by decide)] at H;exact H
   clear H
   have H:=H1
   clear H1
   have H':=aA.mk H
   clear H
   obtain⟨⟨hcz16_0,hcz16_1,hcz16_2⟩,hfz16_0,hfz16_1,hfz16_2⟩:=pk3 BK126
   go_wp2_with(first|((with_reducible refine aV (N:=14) rfl ?_);refine Kd.R_lit k36 _ 36 ?hg (N:=14) ?hd (xs:=([(⟨a0_0,a0_1,a0_2⟩:S36)]:List (S36))) (inner:= [.bool a0_0,.string a0_1,.string a0_2]) (ok:=fun _=>True) (okp:=fun _=>True) ?hr ?hp (fun _ hk=>hk) trivial (Below.refl _ _) (Nat.le_refl _) (by simp) ?_;(case hd=>rfl);(case hg=>rfl);(case hr=>first|(go_simp;done)|(go_simp;rfl));(case hp=>exact(Reps.c3 (show Kd.M k36 _ _ _ (⟨a0_0,a0_1,a0_2⟩:S36) [.bool a0_0,.string a0_1,.string a0_2] from(k36_mkM _ _ _ (⟨a0_0,a0_1,a0_2⟩:S36))) (Reps.none _ _)));intro v128 w17 ho18 hb hg_ hnew_;clear hg_ hnew_;(first|rw[←Ny127.out] at ho18|(simp only[Int.reduceToNat] at ho18;rw[←Ny127.out] at ho18));have HO129:=aA.mk (Kd.lK (Kd.R_newB ho18 (g:=gb126) (o:= .cells #[.bool a0_0,.string a0_1,.string a0_2] 36 (0,0)) (pkW BK126)) (fM (pkL HB)));replace BK126:=pkK BK126 hb;replace HB:=pkB HB hb;clear hb ho18)|((with_reducible refine aV (N:=16) rfl ?_);refine Kd.R_lit Kd.string _ 22 ?hg (N:=16) ?hd (xs:=([a1]:List ByteArray)) (inner:= [.string a1]) (ok:=fun _=>True) (okp:=fun _=>True) ?hr ?hp (fun _ hk=>hk) trivial (Below.refl _ _) (Nat.le_refl _) (by simp) ?_;(case hd=>rfl);(case hg=>rfl);(case hr=>first|(go_simp;done)|(go_simp;rfl));(case hp=>exact(Reps.one (show Kd.M Kd.string _ _ _ a1 [.string a1] from rfl) (Reps.none _ _)));intro v131 w19 ho20 hb hg_ hnew_;clear hg_ hnew_;(first|rw[←Ny130.out] at ho20|(simp only[Int.reduceToNat] at ho20;rw[←Ny130.out] at ho20));have n0_:=aA.mk (Kd.iO (by(with_reducible repeat(first|apply Kd.dK|apply Kd.dM|apply Kd.dW));exact HO129.out) hb);have n1_:=aA.mk (Kd.lK ho20 (fM (pkL HB)));have n2_:=pkK BK126 hb;have n3_:=pkB HB hb;clear HO129;clear BK126;clear HB;have HO129:=n0_;have HO132:=n1_;have BK126:=n2_;have HB:=n3_;clear n0_ n1_ n2_ n3_;clear hb ho20;obtain⟨Ao21,co21,eo21⟩:=Kd.iP HO129.out;subst eo21;obtain⟨Ao22,co22,eo22⟩:=Kd.iP HO132.out;subst eo22)|((with_reducible refine aG (f:=46) rfl ?_);refine gl_ 17 Tryz.func46 #[.slice Ao21 y127.length co21,.slice Ao22 y130.length co22] (h:= ?_);(with_reducible refine(bT.calls k _ _ y127 _ _ y130 false _ ?side1 ?side2 ?side3 ?side4 A5.out).mono ?_);(case side1=>repeat(first|exact(Kd.fU HO129.out).2.2|(with_reducible refine Kd.kN ?_ _)|(with_reducible refine Kd.kP ?_ _)|(with_reducible refine Kd.lT ?_)));(case side2=>exact(Kd.fU HO129.out).2.1);(case side3=>repeat(first|exact(Kd.fU HO132.out).2.2|(with_reducible refine Kd.kN ?_ _)|(with_reducible refine Kd.kP ?_ _)|(with_reducible refine Kd.lT ?_)));(case side4=>exact(Kd.fU HO132.out).2.1);rintro e w23 ⟨rfl,hb⟩;refine⟨_,rfl,?_⟩;have n0_:=aA.mk (Kd.iO (by(with_reducible repeat(first|apply Kd.dK|apply Kd.dM|apply Kd.dW));exact HO129.out) hb);have n1_:=aA.mk (Kd.iO (by(with_reducible repeat(first|apply Kd.dK|apply Kd.dM|apply Kd.dW));exact HO132.out) hb);have n2_:=pkK BK126 hb;have n3_:=pkB HB hb;clear HO129;clear HO132;clear BK126;clear HB;have HO129:=n0_;have HO132:=n1_;have BK126:=n2_;have HB:=n3_;clear n0_ n1_ n2_ n3_;try clear hb))
   go_meet
   case rel=>exact⟨_,(true),(by first|rfl|(simp;done)|(simp[*];done)),H',⟨by first|omega|exact Nat.le_refl _⟩,⟨pkW BK126⟩,⟨pkL HB⟩⟩
 case rest=>
  clear HC3
  try clear c6
  try clear hcz15_0
  try clear hcz15_1
  try clear hcz15_2
  try clear hcz16_0
  try clear hcz16_1
  try clear hcz16_2
  try clear hcz7_0
  try clear hcz7_1
  try clear hcz7_2
  try clear hfz15_0
  try clear hfz15_1
  try clear hfz15_2
  try clear hfz16_0
  try clear hfz16_1
  try clear hfz16_2
  try clear hfz7_0
  try clear hfz7_1
  try clear hfz7_2
  obtain⟨kq,x22_2,rfl,HA,HJ2,BK126,HB⟩:=hcut
  cases kq with
  |zero=>exact absurd HA.out (by simp[aI.j0])
  |succ kj2=>
   have H:=HA.out
   clear HA
   simp only[aI.j0] at H
   by_cases c24:x22_2=true
   ·subst c24
    have H1:((iF.f).bind fun t134=>(some t134))=some r:=by rw[if_pos rfl] at H;exact H
    clear H
    have H:=H1
    clear H1
    obtain⟨t134,A25,H⟩:=bi H
    try dsimp only at H
    obtain rfl:=Option.some.inj H
    go_wp2_with(first|((with_reducible refine aG (f:=35) rfl ?_);refine gl_ 23 Tryz.func35 #[] (h:= ?_);(with_reducible refine(iF.calls (hG:=HG.out.below (pkL HB)) t134 _ A25.out).mono ?_);rintro e w26 ⟨rfl,hb⟩;refine⟨_,rfl,?_⟩;replace BK126:=pkK BK126 hb;replace HB:=pkB HB hb;try clear hb))
    go_ret
    exact pkE HB
   ·replace c24:=Bool.eq_false_iff.mpr c24
    subst c24
    have H1:((jC.f a0_0 a0_1 a0_2 a1).bind fun bt135=>((iC.f a0_0 a0_1 a0_2 a1).bind fun bt137=>(if bt135.2=6 then(aI.j1 kj2 a1 bt135.1 bt135.2 bt137.1 bt137.2 true a0_0 a0_1 a0_2) else(aI.j1 kj2 a1 bt135.1 bt135.2 bt137.1 bt137.2 (bt137.2==6) a0_0 a0_1 a0_2))))=some r:=by rw[if_neg (show ¬(false=true) by decide)] at H;exact H
    clear H
    have H:=H1
    clear H1
    obtain⟨⟨t135,t136⟩,A27,H⟩:=bi H
    try dsimp only at H
    obtain⟨⟨t137,t138⟩,A28,H⟩:=bi H
    try dsimp only at H
    have HC29:=aA.mk H
    clear H
    obtain⟨⟨hcz30_0,hcz30_1,hcz30_2⟩,hfz30_0,hfz30_1,hfz30_2⟩:=pk3 BK126
    go_upto_region 5 with (first|((with_reducible refine aG (f:=62) rfl ?_);refine gl_ 27 Tryz.func62 #[.agg #[.bool a0_0,.string a0_1,.string a0_2],.string a1] (h:= ?_);(with_reducible refine(jC.calls (hG:=HG.out.below (pkL HB)) a0_0 a0_1 a0_2 a1 t135 t136 _ A27.out).mono ?_);rintro e w31 ⟨rfl,hb⟩;refine⟨_,rfl,?_⟩;replace BK126:=pkK BK126 hb;replace HB:=pkB HB hb;try clear hb;obtain⟨⟨hcz32_0,hcz32_1,hcz32_2⟩,hfz32_0,hfz32_1,hfz32_2⟩:=pk3 BK126)|((with_reducible refine aG (f:=64) rfl ?_);refine gl_ 33 Tryz.func64 #[.agg #[.bool a0_0,.string a0_1,.string a0_2],.string a1] (h:= ?_);(with_reducible refine(iC.calls (hG:=HG.out.below (pkL HB)) a0_0 a0_1 a0_2 a1 t137 t138 _ A28.out).mono ?_);rintro e w33 ⟨rfl,hb⟩;refine⟨_,rfl,?_⟩;replace BK126:=pkK BK126 hb;replace HB:=pkB HB hb;try clear hb))
    (try simp only[Act.put,List.setIfInBounds_toArray,List.set_cons_zero,List.set_cons_succ])
    go_cut [41] (fun v41 wc=>∃(kq:Nat) (x41_28:Bool),v41= .bool x41_28∧aA (aI.j1 kq a1 t135 t136 t137 t138 x41_28 a0_0 a0_1 a0_2=some r)∧aA (kq≤kj2)∧aA (wc.heap[gb126]? =some (.cells #[.bool a0_0,.string a0_1,.string a0_2] 36 (0,0)))∧aA (Below w.heap.size w wc))
    case first=>
     have H:=HC29.out
     clear HC29
     by_cases c34:t136=6
     ·rw[if_pos c34] at H
      have c34b0:(t136==6)=true:=beq_iff_eq.mpr c34
      have c34b1:(t136 != 6)=false:=bne_eq_false_iff_eq.mpr c34
      clear c34
      (first|rw[c34b0]|(simp only[dD,dI];rw[c34b0])|skip)
      have H':=aA.mk H
      clear H
      go_wp2
      go_meet
      case rel=>exact⟨_,(true),(by first|rfl|(simp;done)|(simp[*];done)),H',⟨by have:=HJ2.out;first|omega|exact Nat.le_refl _⟩,⟨pkW BK126⟩,⟨pkL HB⟩⟩
     ·rw[if_neg c34] at H
      have c34b0:(t136==6)=false:=beq_eq_false_iff_ne.mpr c34
      have c34b1:(t136 != 6)=true:=bne_iff_ne.mpr c34
      (first|rw[c34b0]|(simp only[dD,dI];rw[c34b0])|skip)
      have H':=aA.mk H
      clear H
      go_wp2
      go_meet
      case rel=>exact⟨_,((t138==6)),(by first|rfl|(simp;done)|(simp[*];done)),H',⟨by have:=HJ2.out;first|omega|exact Nat.le_refl _⟩,⟨pkW BK126⟩,⟨pkL HB⟩⟩
    case rest=>
     clear HC29
     try clear c6
     try clear c24
     try clear c34
     try clear c34b0
     try clear c34b1
     try clear hcz15_0
     try clear hcz15_1
     try clear hcz15_2
     try clear hcz16_0
     try clear hcz16_1
     try clear hcz16_2
     try clear hcz30_0
     try clear hcz30_1
     try clear hcz30_2
     try clear hcz32_0
     try clear hcz32_1
     try clear hcz32_2
     try clear hcz7_0
     try clear hcz7_1
     try clear hcz7_2
     try clear hfz15_0
     try clear hfz15_1
     try clear hfz15_2
     try clear hfz16_0
     try clear hfz16_1
     try clear hfz16_2
     try clear hfz30_0
     try clear hfz30_1
     try clear hfz30_2
     try clear hfz32_0
     try clear hfz32_1
     try clear hfz32_2
     try clear hfz7_0
     try clear hfz7_1
     try clear hfz7_2
     obtain⟨kq,x41_28,rfl,HA,HJ28,BK126,HB⟩:=hcut
     cases kq with
     |zero=>exact absurd HA.out (by simp[aI.j1])
     |succ kj28=>
      have H:=HA.out
      clear HA
      simp only[aI.j1] at H
      by_cases c35:x41_28=true
      ·subst c35
       have H1:(if a0_1.toList=([48]:List UInt8) then(if t136=t138 then(some false) else((iF.f).bind fun t139=>(some t139))) else(some false))=some r:=by rw[if_pos rfl] at H;exact H
       clear H
       have H:=H1
       clear H1
       by_cases c36:a0_1.toList=([48]:List UInt8)
       ·rw[if_pos c36] at H
        have c36b0:(a0_1.toList==([48]:List UInt8))=true:=beq_iff_eq.mpr c36
        have c36b1:(a0_1.toList != ([48]:List UInt8))=false:=bne_eq_false_iff_eq.mpr c36
        clear c36
        by_cases c37:t136=t138
        ·rw[if_pos c37] at H
         have c37b0:(t136==t138)=true:=beq_iff_eq.mpr c37
         have c37b1:(t136 != t138)=false:=bne_eq_false_iff_eq.mpr c37
         clear c37
         obtain rfl:=Option.some.inj H
         obtain⟨⟨hcz38_0,hcz38_1,hcz38_2⟩,hfz38_0,hfz38_1,hfz38_2⟩:=pk3 BK126
         go_wp2
         go_ret
         exact pkE HB
        ·rw[if_neg c37] at H
         have c37b0:(t136==t138)=false:=beq_eq_false_iff_ne.mpr c37
         have c37b1:(t136 != t138)=true:=bne_iff_ne.mpr c37
         obtain⟨t139,A39,H⟩:=bi H
         try dsimp only at H
         obtain rfl:=Option.some.inj H
         obtain⟨⟨hcz40_0,hcz40_1,hcz40_2⟩,hfz40_0,hfz40_1,hfz40_2⟩:=pk3 BK126
         go_wp2_with(first|(go_at_call 35;(with_reducible refine(iF.calls (hG:=HG.out.below (pkL HB)) t139 _ A39.out).mono ?_);rintro e w41 ⟨rfl,hb⟩;replace BK126:=pkK BK126 hb;replace HB:=pkB HB hb;try clear hb))
         go_ret
         exact pkE HB
       ·rw[if_neg c36] at H
        have c36b0:(a0_1.toList==([48]:List UInt8))=false:=beq_eq_false_iff_ne.mpr c36
        have c36b1:(a0_1.toList != ([48]:List UInt8))=true:=bne_iff_ne.mpr c36
        obtain rfl:=Option.some.inj H
        obtain⟨⟨hcz42_0,hcz42_1,hcz42_2⟩,hfz42_0,hfz42_1,hfz42_2⟩:=pk3 BK126
        go_wp2
        go_ret
        exact pkE HB
      ·replace c35:=Bool.eq_false_iff.mpr c35
       subst c35
       have H1:(if t136=0 then(if t138=0 then((fP.f a0_0 a0_1 a0_2 t135).bind fun t140=>(if t140=true then((fP.f a0_0 a0_1 a0_2 t137).bind fun t141=>(aI.j2 kj28 a1 t135 t137 (!t141) a0_0 a0_1 a0_2)) else(aI.j2 kj28 a1 t135 t137 true a0_0 a0_1 a0_2))) else(aI.j2 kj28 a1 t135 t137 true a0_0 a0_1 a0_2)) else(aI.j2 kj28 a1 t135 t137 true a0_0 a0_1 a0_2))=some r:=by rw[if_neg (show ¬(false=true) by decide)] at H;exact H
       clear H
       have H:=H1
       clear H1
       have HC43:=aA.mk H
       clear H
       go_upto_region 7 with (fail)
       go_cut [70] (fun v70 wc=>∃(kq:Nat) (x70_42:Bool),v70= .bool x70_42∧aA (aI.j2 kq a1 t135 t137 x70_42 a0_0 a0_1 a0_2=some r)∧aA (kq≤kj28)∧aA (wc.heap[gb126]? =some (.cells #[.bool a0_0,.string a0_1,.string a0_2] 36 (0,0)))∧aA (Below w.heap.size w wc))
       case first=>
        have H:=HC43.out
        clear HC43
        by_cases c44:t136=0
        ·rw[if_pos c44] at H
         have c44b0:(t136==0)=true:=beq_iff_eq.mpr c44
         have c44b1:(t136 != 0)=false:=bne_eq_false_iff_eq.mpr c44
         clear c44
         (first|rw[c44b0]|(simp only[dD,dI];rw[c44b0])|skip)
         by_cases c45:t138=0
         ·rw[if_pos c45] at H
          have c45b0:(t138==0)=true:=beq_iff_eq.mpr c45
          have c45b1:(t138 != 0)=false:=bne_eq_false_iff_eq.mpr c45
          clear c45
          obtain⟨t140,A46,H⟩:=bi H
          try dsimp only at H
          by_cases c47:t140=true
          ·subst c47
           have H1:((fP.f a0_0 a0_1 a0_2 t137).bind fun t141=>(aI.j2 kj28 a1 t135 t137 (!t141) a0_0 a0_1 a0_2))=some r:=by rw[if_pos rfl] at H;exact H
           clear H
           have H:=H1
           clear H1
           obtain⟨t141,A48,H⟩:=bi H
           try dsimp only at H
           have H':=aA.mk H
           clear H
           obtain⟨⟨hcz49_0,hcz49_1,hcz49_2⟩,hfz49_0,hfz49_1,hfz49_2⟩:=pk3 BK126
           go_wp2_with(first|(go_at_call 68;(with_reducible refine(fP.calls (hG:=HG.out.below (pkL HB)) a0_0 a0_1 a0_2 t135 true _ A46.out).mono ?_);rintro e w50 ⟨rfl,hb⟩;replace BK126:=pkK BK126 hb;replace HB:=pkB HB hb;try clear hb;obtain⟨⟨hcz51_0,hcz51_1,hcz51_2⟩,hfz51_0,hfz51_1,hfz51_2⟩:=pk3 BK126)|(go_at_call 68;(with_reducible refine(fP.calls (hG:=HG.out.below (pkL HB)) a0_0 a0_1 a0_2 t137 t141 _ A48.out).mono ?_);rintro e w52 ⟨rfl,hb⟩;replace BK126:=pkK BK126 hb;replace HB:=pkB HB hb;try clear hb))
           go_meet
           case rel=>exact⟨_,(!t141),(by first|rfl|(simp;done)|(simp[*];done)),H',⟨by have:=HJ2.out;have:=HJ28.out;first|omega|exact Nat.le_refl _⟩,⟨pkW BK126⟩,⟨pkL HB⟩⟩
          ·replace c47:=Bool.eq_false_iff.mpr c47
           subst c47
           have H1:(aI.j2 kj28 a1 t135 t137 true a0_0 a0_1 a0_2)=some r:=by rw[if_neg (show ¬(false=true) by decide)] at H;exact H
           clear H
           have H:=H1
           clear H1
           have H':=aA.mk H
           clear H
           obtain⟨⟨hcz53_0,hcz53_1,hcz53_2⟩,hfz53_0,hfz53_1,hfz53_2⟩:=pk3 BK126
           go_wp2_with(first|(go_at_call 68;(with_reducible refine(fP.calls (hG:=HG.out.below (pkL HB)) a0_0 a0_1 a0_2 t135 false _ A46.out).mono ?_);rintro e w54 ⟨rfl,hb⟩;replace BK126:=pkK BK126 hb;replace HB:=pkB HB hb;try clear hb))
           go_meet
           case rel=>exact⟨_,(true),(by first|rfl|(simp;done)|(simp[*];done)),H',⟨by have:=HJ2.out;have:=HJ28.out;first|omega|exact Nat.le_refl _⟩,⟨pkW BK126⟩,⟨pkL HB⟩⟩
         ·rw[if_neg c45] at H
          have c45b0:(t138==0)=false:=beq_eq_false_iff_ne.mpr c45
          have c45b1:(t138 != 0)=true:=bne_iff_ne.mpr c45
          have H':=aA.mk H
          clear H
          go_wp2
          go_meet
          case rel=>exact⟨_,(true),(by first|rfl|(simp;done)|(simp[*];done)),H',⟨by have:=HJ2.out;have:=HJ28.out;first|omega|exact Nat.le_refl _⟩,⟨pkW BK126⟩,⟨pkL HB⟩⟩
        ·rw[if_neg c44] at H
         have c44b0:(t136==0)=false:=beq_eq_false_iff_ne.mpr c44
         have c44b1:(t136 != 0)=true:=bne_iff_ne.mpr c44
         (first|rw[c44b0]|(simp only[dD,dI];rw[c44b0])|skip)
         have H':=aA.mk H
         clear H
         go_wp2
         go_meet
         case rel=>exact⟨_,(true),(by first|rfl|(simp;done)|(simp[*];done)),H',⟨by have:=HJ2.out;have:=HJ28.out;first|omega|exact Nat.le_refl _⟩,⟨pkW BK126⟩,⟨pkL HB⟩⟩
       case rest=>
        clear HC43
        try clear c6
        try clear c24
        try clear c34
        try clear c34b0
        try clear c34b1
        try clear c35
        try clear c36
        try clear c36b0
        try clear c36b1
        try clear c37
        try clear c37b0
        try clear c37b1
        try clear c44
        try clear c44b0
        try clear c44b1
        try clear c45
        try clear c45b0
        try clear c45b1
        try clear c47
        try clear hcz15_0
        try clear hcz15_1
        try clear hcz15_2
        try clear hcz16_0
        try clear hcz16_1
        try clear hcz16_2
        try clear hcz30_0
        try clear hcz30_1
        try clear hcz30_2
        try clear hcz32_0
        try clear hcz32_1
        try clear hcz32_2
        try clear hcz38_0
        try clear hcz38_1
        try clear hcz38_2
        try clear hcz40_0
        try clear hcz40_1
        try clear hcz40_2
        try clear hcz42_0
        try clear hcz42_1
        try clear hcz42_2
        try clear hcz49_0
        try clear hcz49_1
        try clear hcz49_2
        try clear hcz51_0
        try clear hcz51_1
        try clear hcz51_2
        try clear hcz53_0
        try clear hcz53_1
        try clear hcz53_2
        try clear hcz7_0
        try clear hcz7_1
        try clear hcz7_2
        try clear hfz15_0
        try clear hfz15_1
        try clear hfz15_2
        try clear hfz16_0
        try clear hfz16_1
        try clear hfz16_2
        try clear hfz30_0
        try clear hfz30_1
        try clear hfz30_2
        try clear hfz32_0
        try clear hfz32_1
        try clear hfz32_2
        try clear hfz38_0
        try clear hfz38_1
        try clear hfz38_2
        try clear hfz40_0
        try clear hfz40_1
        try clear hfz40_2
        try clear hfz42_0
        try clear hfz42_1
        try clear hfz42_2
        try clear hfz49_0
        try clear hfz49_1
        try clear hfz49_2
        try clear hfz51_0
        try clear hfz51_1
        try clear hfz51_2
        try clear hfz53_0
        try clear hfz53_1
        try clear hfz53_2
        try clear hfz7_0
        try clear hfz7_1
        try clear hfz7_2
        obtain⟨kq,x70_42,rfl,HA,HJ42,BK126,HB⟩:=hcut
        cases kq with
        |zero=>exact absurd HA.out (by simp[aI.j2])
        |succ kj42=>
         have H:=HA.out
         clear HA
         simp only[aI.j2] at H
         by_cases c55:x70_42=true
         ·subst c55
          have H1:(some false)=some r:=by rw[if_pos rfl] at H;exact H
          clear H
          have H:=H1
          clear H1
          obtain rfl:=Option.some.inj H
          go_wp2
          go_ret
          exact pkE HB
         ·replace c55:=Bool.eq_false_iff.mpr c55
          subst c55
          have H1:((gI.f t135 a1).bind fun bt142=>((gI.f t137 a1).bind fun bt144=>((jB.f t135 t137).bind fun bt146=>(if(wrap64 ((wrap64 (bt142.2+bt144.2))+bt146.2))=0 then(if bt142.1<0 then(aI.j3 kj42 t135 t137 bt142.1 bt144.1 bt146.1 true a0_0 a0_1 a0_2) else(aI.j3 kj42 t135 t137 bt142.1 bt144.1 bt146.1 (decide (bt144.1>0)) a0_0 a0_1 a0_2)) else(aI.j3 kj42 t135 t137 bt142.1 bt144.1 bt146.1 true a0_0 a0_1 a0_2)))))=some r:=by rw[if_neg (show ¬(false=true) by decide)] at H;exact H
          clear H
          have H:=H1
          clear H1
          obtain⟨⟨t142,t143⟩,A56,H⟩:=bi H
          try dsimp only at H
          obtain⟨⟨t144,t145⟩,A57,H⟩:=bi H
          try dsimp only at H
          obtain⟨⟨t146,t147⟩,A58,H⟩:=bi H
          try dsimp only at H
          have HC59:=aA.mk H
          clear H
          go_upto_region 12 with (first|((with_reducible refine aG (f:=69) rfl ?_);refine gl_ 74 Tryz.func69 #[.string t135,.string a1] (h:= ?_);(with_reducible refine(gI.calls t135 a1 t142 t143 _ A56.out).mono ?_);rintro e w60 ⟨rfl,hb⟩;refine⟨_,rfl,?_⟩;replace BK126:=pkK BK126 hb;replace HB:=pkB HB hb;try clear hb)|((with_reducible refine aG (f:=69) rfl ?_);refine gl_ 80 Tryz.func69 #[.string t137,.string a1] (h:= ?_);(with_reducible refine(gI.calls t137 a1 t144 t145 _ A57.out).mono ?_);rintro e w61 ⟨rfl,hb⟩;refine⟨_,rfl,?_⟩;replace BK126:=pkK BK126 hb;replace HB:=pkB HB hb;try clear hb)|((with_reducible refine aG (f:=24) rfl ?_);refine gl_ 86 Tryz.func24 #[.string t135,.string t137] (h:= ?_);(with_reducible refine(jB.calls (hG:=HG.out.below (pkL HB)) t135 t137 t146 t147 _ A58.out).mono ?_);rintro e w62 ⟨rfl,hb⟩;refine⟨_,rfl,?_⟩;replace BK126:=pkK BK126 hb;replace HB:=pkB HB hb;try clear hb))
          (try simp only[Act.put,List.setIfInBounds_toArray,List.set_cons_zero,List.set_cons_succ])
          go_cut [102] (fun v102 wc=>∃(kq:Nat) (x102_58:Bool),v102= .bool x102_58∧aA (aI.j3 kq t135 t137 t142 t144 t146 x102_58 a0_0 a0_1 a0_2=some r)∧aA (kq≤kj42)∧aA (wc.heap[gb126]? =some (.cells #[.bool a0_0,.string a0_1,.string a0_2] 36 (0,0)))∧aA (Below w.heap.size w wc))
          case first=>
           have H:=HC59.out
           clear HC59
           by_cases c63:(wrap64 ((wrap64 (t143+t145))+t147))=0
           ·rw[if_pos c63] at H
            have c63b0:((wrap64 ((wrap64 (t143+t145))+t147))==0)=true:=beq_iff_eq.mpr c63
            have c63b1:((wrap64 ((wrap64 (t143+t145))+t147)) != 0)=false:=bne_eq_false_iff_eq.mpr c63
            clear c63
            (first|rw[c63b0]|(simp only[dD,dI];rw[c63b0])|skip)
            by_cases c64:t142<0
            ·rw[if_pos c64] at H
             have c64b0:decide (t142<0)=true:=decide_eq_true c64
             clear c64
             have H':=aA.mk H
             clear H
             go_wp2
             go_meet
             case rel=>exact⟨_,(true),(by first|rfl|(simp;done)|(simp[*];done)),H',⟨by have:=HJ2.out;have:=HJ28.out;have:=HJ42.out;first|omega|exact Nat.le_refl _⟩,⟨pkW BK126⟩,⟨pkL HB⟩⟩
            ·rw[if_neg c64] at H
             have c64b0:decide (t142<0)=false:=decide_eq_false c64
             clear c64
             have H':=aA.mk H
             clear H
             go_wp2
             go_meet
             case rel=>exact⟨_,(decide (t144>0)),(by first|rfl|(simp;done)|(simp[*];done)),H',⟨by have:=HJ2.out;have:=HJ28.out;have:=HJ42.out;first|omega|exact Nat.le_refl _⟩,⟨pkW BK126⟩,⟨pkL HB⟩⟩
           ·rw[if_neg c63] at H
            have c63b0:((wrap64 ((wrap64 (t143+t145))+t147))==0)=false:=beq_eq_false_iff_ne.mpr c63
            have c63b1:((wrap64 ((wrap64 (t143+t145))+t147)) != 0)=true:=bne_iff_ne.mpr c63
            (first|rw[c63b0]|(simp only[dD,dI];rw[c63b0])|skip)
            have H':=aA.mk H
            clear H
            go_wp2
            go_meet
            case rel=>exact⟨_,(true),(by first|rfl|(simp;done)|(simp[*];done)),H',⟨by have:=HJ2.out;have:=HJ28.out;have:=HJ42.out;first|omega|exact Nat.le_refl _⟩,⟨pkW BK126⟩,⟨pkL HB⟩⟩
          case rest=>
           clear HC59
           try clear c6
           try clear c24
           try clear c34
           try clear c34b0
           try clear c34b1
           try clear c35
           try clear c36
           try clear c36b0
           try clear c36b1
           try clear c37
           try clear c37b0
           try clear c37b1
           try clear c44
           try clear c44b0
           try clear c44b1
           try clear c45
           try clear c45b0
           try clear c45b1
           try clear c47
           try clear c55
           try clear c63
           try clear c63b0
           try clear c63b1
           try clear c64
           try clear c64b0
           try clear hcz15_0
           try clear hcz15_1
           try clear hcz15_2
           try clear hcz16_0
           try clear hcz16_1
           try clear hcz16_2
           try clear hcz30_0
           try clear hcz30_1
           try clear hcz30_2
           try clear hcz32_0
           try clear hcz32_1
           try clear hcz32_2
           try clear hcz38_0
           try clear hcz38_1
           try clear hcz38_2
           try clear hcz40_0
           try clear hcz40_1
           try clear hcz40_2
           try clear hcz42_0
           try clear hcz42_1
           try clear hcz42_2
           try clear hcz49_0
           try clear hcz49_1
           try clear hcz49_2
           try clear hcz51_0
           try clear hcz51_1
           try clear hcz51_2
           try clear hcz53_0
           try clear hcz53_1
           try clear hcz53_2
           try clear hcz7_0
           try clear hcz7_1
           try clear hcz7_2
           try clear hfz15_0
           try clear hfz15_1
           try clear hfz15_2
           try clear hfz16_0
           try clear hfz16_1
           try clear hfz16_2
           try clear hfz30_0
           try clear hfz30_1
           try clear hfz30_2
           try clear hfz32_0
           try clear hfz32_1
           try clear hfz32_2
           try clear hfz38_0
           try clear hfz38_1
           try clear hfz38_2
           try clear hfz40_0
           try clear hfz40_1
           try clear hfz40_2
           try clear hfz42_0
           try clear hfz42_1
           try clear hfz42_2
           try clear hfz49_0
           try clear hfz49_1
           try clear hfz49_2
           try clear hfz51_0
           try clear hfz51_1
           try clear hfz51_2
           try clear hfz53_0
           try clear hfz53_1
           try clear hfz53_2
           try clear hfz7_0
           try clear hfz7_1
           try clear hfz7_2
           obtain⟨kq,x102_58,rfl,HA,HJ58,BK126,HB⟩:=hcut
           cases kq with
           |zero=>exact absurd HA.out (by simp[aI.j3])
           |succ kj58=>
            have H:=HA.out
            clear HA
            simp only[aI.j3] at H
            by_cases c65:x102_58=true
            ·subst c65
             have H1:(some false)=some r:=by rw[if_pos rfl] at H;exact H
             clear H
             have H:=H1
             clear H1
             obtain rfl:=Option.some.inj H
             go_wp2
             go_ret
             exact pkE HB
            ·replace c65:=Bool.eq_false_iff.mpr c65
             subst c65
             have H1:(if t135.toList=t137.toList then(if t142=0 then(if t144=0 then((iF.f).bind fun t148=>(some t148)) else(some false)) else(some false)) else(if t146.toList=a0_1.toList then((iF.f).bind fun t149=>(some t149)) else(some false)))=some r:=by rw[if_neg (show ¬(false=true) by decide)] at H;exact H
             clear H
             have H:=H1
             clear H1
             by_cases c66:t135.toList=t137.toList
             ·rw[if_pos c66] at H
              have c66b0:(t135.toList==t137.toList)=true:=beq_iff_eq.mpr c66
              have c66b1:(t135.toList != t137.toList)=false:=bne_eq_false_iff_eq.mpr c66
              clear c66
              by_cases c67:t142=0
              ·rw[if_pos c67] at H
               have c67b0:(t142==0)=true:=beq_iff_eq.mpr c67
               have c67b1:(t142 != 0)=false:=bne_eq_false_iff_eq.mpr c67
               clear c67
               by_cases c68:t144=0
               ·rw[if_pos c68] at H
                have c68b0:(t144==0)=true:=beq_iff_eq.mpr c68
                have c68b1:(t144 != 0)=false:=bne_eq_false_iff_eq.mpr c68
                clear c68
                obtain⟨t148,A69,H⟩:=bi H
                try dsimp only at H
                obtain rfl:=Option.some.inj H
                go_wp2_with(first|(go_at_call 35;(with_reducible refine(iF.calls (hG:=HG.out.below (pkL HB)) t148 _ A69.out).mono ?_);rintro e w70 ⟨rfl,hb⟩;replace BK126:=pkK BK126 hb;replace HB:=pkB HB hb;try clear hb))
                go_ret
                exact pkE HB
               ·rw[if_neg c68] at H
                have c68b0:(t144==0)=false:=beq_eq_false_iff_ne.mpr c68
                have c68b1:(t144 != 0)=true:=bne_iff_ne.mpr c68
                obtain rfl:=Option.some.inj H
                go_wp2
                go_ret
                exact pkE HB
              ·rw[if_neg c67] at H
               have c67b0:(t142==0)=false:=beq_eq_false_iff_ne.mpr c67
               have c67b1:(t142 != 0)=true:=bne_iff_ne.mpr c67
               obtain rfl:=Option.some.inj H
               go_wp2
               go_ret
               exact pkE HB
             ·rw[if_neg c66] at H
              have c66b0:(t135.toList==t137.toList)=false:=beq_eq_false_iff_ne.mpr c66
              have c66b1:(t135.toList != t137.toList)=true:=bne_iff_ne.mpr c66
              by_cases c71:t146.toList=a0_1.toList
              ·rw[if_pos c71] at H
               have c71b0:(t146.toList==a0_1.toList)=true:=beq_iff_eq.mpr c71
               have c71b1:(t146.toList != a0_1.toList)=false:=bne_eq_false_iff_eq.mpr c71
               clear c71
               obtain⟨t149,A72,H⟩:=bi H
               try dsimp only at H
               obtain rfl:=Option.some.inj H
               obtain⟨⟨hcz73_0,hcz73_1,hcz73_2⟩,hfz73_0,hfz73_1,hfz73_2⟩:=pk3 BK126
               go_wp2_with(first|(go_at_call 35;(with_reducible refine(iF.calls (hG:=HG.out.below (pkL HB)) t149 _ A72.out).mono ?_);rintro e w74 ⟨rfl,hb⟩;replace BK126:=pkK BK126 hb;replace HB:=pkB HB hb;try clear hb))
               go_ret
               exact pkE HB
              ·rw[if_neg c71] at H
               have c71b0:(t146.toList==a0_1.toList)=false:=beq_eq_false_iff_ne.mpr c71
               have c71b1:(t146.toList != a0_1.toList)=true:=bne_iff_ne.mpr c71
               obtain rfl:=Option.some.inj H
               obtain⟨⟨hcz75_0,hcz75_1,hcz75_2⟩,hfz75_0,hfz75_1,hfz75_2⟩:=pk3 BK126
               go_wp2
               go_ret
               exact pkE HB
end Go.Proofs.YtignanmmgaldeaaGreatDoor.PCongruenceEnds
end
section
set_option linter.unusedVariables false
set_option linter.unusedSimpArgs false
namespace Go.Proofs.YtignanmmgaldeaaGreatDoor.PureEnds
open Go.RowKit Go.Proofs.YtignanmmgaldeaaGreatDoor Go.Proofs.YtignanmmgaldeaaGreatDoor.PCongruenceEnds Go.Proofs.YtignanmmgaldeaaGreatDoor.RefP Go.Proofs.YtignanmmgaldeaaGreatDoor.PCongI Go.Proofs.YtignanmmgaldeaaGreatDoor.CongM Go.Proofs.YtignanmmgaldeaaGreatDoorW.PrintWords
theorem reffew_val(c:S36):jF.f c.f0 c.f1 c.f2=some (decide (c.f1.size≤250∧c.f2.size≤250)):=by
 unfold jF.f dZ.f
 rw[Option.bind_some]
 by_cases h1:c.f1.size≤250
 ·rw[if_pos (by simpa using(by omega:(c.f1.size:Int)≤250)),Option.bind_some]
  congr 1
  exact decide_eq_decide.2 ⟨fun h=>⟨h1,by omega⟩,fun h=>by omega⟩
 ·rw[if_neg (by simpa using(by omega:¬(c.f1.size:Int)≤250))]
  congr 1
  exact(decide_eq_false (fun h=>h1 h.1)).symm
theorem at0{α:Type}(c:α):(0:Int)<(([c]:List α).length:Int):=by show(0:Int)<1;decide
theorem at1{α:Type}(c:α):¬wrap64 (0+1)<(([c]:List α).length:Int):=by show ¬wrap64 (0+1)<1;decide +kernel
theorem few1_val(c:S36)(a:ByteArray)(k:Nat):dC.f (k+4) [c] [a]=some (decide ((c.f1.size≤250∧c.f2.size≤250)∧a.size≤250)):=by
 unfold dC.f dC.l0
 rw[if_pos (at0 c),if_pos (by decide),if_pos (at0 c)]
 rw[show fC [c] 0=c from rfl,reffew_val,Option.bind_some]
 by_cases h:c.f1.size≤250∧c.f2.size≤250
 ·rw[if_pos (decide_eq_true h)]
  unfold dC.l0
  rw[if_neg (at1 c)]
  unfold dC.l1
  rw[if_pos (at0 a),if_pos (by decide),if_pos (at0 a)]
  rw[show rdOf ByteArray.empty [a] 0=a from rfl]
  unfold dZ.f
  rw[Option.bind_some]
  by_cases ha:a.size≤250
  ·rw[if_pos (by simpa using(by omega:(a.size:Int)≤250))]
   unfold dC.l1
   rw[if_neg (at1 a),decide_eq_true ⟨h,ha⟩]
  ·rw[if_neg (by simpa using(by omega:¬(a.size:Int)≤250))]
   rw[decide_eq_false (fun q=>ha q.2)]
 ·rw[if_neg (by simpa using h),decide_eq_false (fun q=>h q.1)]
theorem zH(a:ByteArray)(ha:a.size≤140737488351232):bV.f a=some (numC a):=by
 unfold bV.f nT.f numC
 rw[if_pos ha,Option.bind_some]
 by_cases hc:canon a.data.toList=true
 ·rw[if_pos hc,if_pos hc]
  have h0:0<a.size:=by
   rcases Nat.eq_zero_or_pos a.size with h|h
   ·rw[Lib.size_eq] at h
    rw[List.eq_nil_of_length_eq_zero h] at hc
    exact absurd hc (by decide)
   ·exact h
  unfold kV.f
  rw[if_pos ⟨h0,ha⟩,Option.bind_some]
  by_cases hd:100<digN a
  ·rw[if_pos hd,if_pos (by omega)]
  ·rw[if_neg hd,if_neg (by omega)]
 ·rw[if_neg hc,if_neg hc]
theorem uU(x:Int):((text x).toList=([48]:List UInt8))↔x=0:=by
 have h:=text_eq x 0
 rw[show(text 0).toList=([48]:List UInt8) by decide +kernel] at h
 constructor
 ·intro e;rw[e] at h;simpa using h
 ·intro e;subst e;decide +kernel
theorem refchk_val(e:Bool)(m r:ByteArray)(hm:m.size≤140737488351232)(hr:r.size≤140737488351232):iV.f e m r=some (chkC e m r):=by
 unfold iV.f chkC
 by_cases he:e=true
 ·rw[if_pos he,if_pos he]
  split
  ·split <;> rfl
  ·rfl
 ·rw[if_neg he,if_neg he,zH m hm,Option.bind_some]
  by_cases h1:numC m=0
  ·rw[if_pos h1,if_pos h1,zH r hr,Option.bind_some]
   by_cases h2:numC r=0
   ·rw[if_pos h2,if_pos h2]
    obtain⟨x,rfl,bx⟩:=qR h1
    obtain⟨y,rfl,by'⟩:=qR h2
    rw[bU,bU,sign_val bx (by omega) (by omega),Option.bind_some]
    by_cases hx:x<0
    ·rw[if_pos ((qC x).2 hx),if_pos (show rngC x y from Or.inl hx)]
    ·rw[if_neg (fun q=>hx ((qC x).1 q))]
     by_cases h0:x=0
     ·rw[if_pos ((uU x).2 h0),if_neg (show ¬rngC x y by unfold rngC;omega)]
     ·rw[if_neg (fun q=>h0 ((uU x).1 q)),sign_val by' (by omega) (by omega),Option.bind_some]
      by_cases hy:y<0
      ·rw[if_pos ((qC y).2 hy),if_pos (show rngC x y by unfold rngC;omega)]
      ·rw[if_neg (fun q=>hy ((qC y).1 q)),less_val by' bx (by omega) (by omega),Option.bind_some]
       by_cases hl:y<x
       ·rw[if_pos (decide_eq_true hl),if_neg (show ¬rngC x y by unfold rngC;omega)]
       ·rw[if_neg (by simpa using hl),if_pos (show rngC x y by unfold rngC;omega)]
   ·rw[if_neg h2,if_neg h2]
  ·rw[if_neg h1,if_neg h1]
theorem right1_val(c:S36)(a:ByteArray)(hm:c.f1.size≤140737488351232)(hr:c.f2.size≤140737488351232)(ha:a.size≤140737488351232)(k:Nat) :
 bT.f (k+8) [c] [a]=some (decide (chkC c.f0 c.f1 c.f2=0∧chkI a=0∧(c.f1.size≤250∧c.f2.size≤250)∧a.size≤250)):=by
 unfold bT.f bT.l0
 rw[if_pos (at0 c),if_pos (by decide),if_pos (at0 c)]
 rw[show fC [c] 0=c from rfl,refchk_val _ _ _ hm hr,Option.bind_some]
 by_cases h1:chkC c.f0 c.f1 c.f2=0
 ·rw[if_pos h1]
  unfold bT.l0
  rw[if_neg (at1 c)]
  unfold bT.l1
  rw[if_pos (at0 a),if_pos (by decide),if_pos (at0 a)]
  rw[show rdOf ByteArray.empty [a] 0=a from rfl]
  unfold oW.f
  rw[if_pos ha,Option.bind_some]
  by_cases h2:chkI a=0
  ·rw[if_pos h2]
   unfold bT.l1
   rw[if_neg (at1 a),few1_val,Option.bind_some]
   congr 1
   exact decide_eq_decide.2 ⟨fun h=>⟨h1,h2,h⟩,fun h=>h.2.2⟩
  ·rw[if_neg h2,decide_eq_false (fun q=>h2 q.2.1)]
 ·rw[if_neg h1,decide_eq_false (fun q=>h1 q.1)]
end Go.Proofs.YtignanmmgaldeaaGreatDoor.PureEnds
namespace Go.Proofs.YtignanmmgaldeaaGreatDoor.PureEnds
open Go.RowKit Go.Proofs.YtignanmmgaldeaaGreatDoor Go.Proofs.YtignanmmgaldeaaGreatDoor.PCongruenceEnds Go.Proofs.YtignanmmgaldeaaGreatDoor.RefP Go.Proofs.YtignanmmgaldeaaGreatDoor.PCongI Go.Proofs.YtignanmmgaldeaaGreatDoor.CongM Go.Proofs.YtignanmmgaldeaaGreatDoorW.PrintWords
theorem ends_true(x:ByteArray)(e:Bool)(m r:ByteArray)(k:Nat):aI.j0 (k+1) x true e m r=some true:=by
 unfold aI.j0
 simp only[rV,Option.bind_some,if_true]
theorem ends_forms{m r a:ByteArray}(h1:chkC false m r=0)(h2:chkI a=0)(h5:a.size≤250):∃x y z,m=text x∧r=text y∧a=text z∧Bd 100 x∧Bd 100 y∧Bd 250 z∧¬rngC x y:=by
 unfold chkC at h1
 rw[if_neg (by simp)] at h1
 by_cases n1:numC m=0
 ·rw[if_pos n1] at h1
  by_cases n2:numC r=0
  ·rw[if_pos n2] at h1
   obtain⟨x,rfl,bx⟩:=qR n1
   obtain⟨y,rfl,by'⟩:=qR n2
   rw[bU,bU] at h1
   have hc:canon a.data.toList=true:=by
    unfold chkI at h2
    by_cases hc:canon a.data.toList=true
    ·exact hc
    ·rw[if_neg hc] at h2;cases h2
   obtain⟨z,rfl⟩:=nY a hc
   refine⟨x,y,z,rfl,rfl,rfl,bx,by',sD _ (by rw[←jT];exact Nat.le_trans (digN_le _) h5),fun q=> ?_⟩
   rw[if_pos q] at h1;cases h1
  ·rw[if_neg n2] at h1;exact absurd h1 n2
 ·rw[if_neg n1] at h1;exact absurd h1 n1
theorem ends_least{x y z:Int}(bx:Bd 100 x)(by':Bd 100 y)(bz:Bd 250 z)(hr:¬rngC x y):jC.f false (text x) (text y) (text z)=some (vS (some (x,y)) z):=by
 have s1:=size_text bx (by omega)
 have s2:=size_text by' (by omega)
 have s3:=size_text bz (by omega)
 have hc:chkC false (text x) (text y)=0:=by
  unfold chkC;rw[if_neg (by simp),if_pos (qU bx),if_pos (qU by'),bU,bU,if_neg hr]
 have ha:chkI (text z)=0:=by
  unfold chkI
  have:=jS bz (by omega)
  rw[if_pos (nO z).1,jT,if_neg (by omega)]
 unfold jC.f hldE decC
 rw[if_pos ⟨by omega,by omega,by omega⟩,if_pos hc,if_pos ha,if_neg (by simp),bU,bU,bU]
theorem ends_greatest{x y z:Int}(bx:Bd 100 x)(by':Bd 100 y)(bz:Bd 250 z)(hr:¬rngC x y):iC.f false (text x) (text y) (text z)=some (qX (some (x,y)) z):=by
 have s1:=size_text bx (by omega)
 have s2:=size_text by' (by omega)
 have s3:=size_text bz (by omega)
 have hc:chkC false (text x) (text y)=0:=by
  unfold chkC;rw[if_neg (by simp),if_pos (qU bx),if_pos (qU by'),bU,bU,if_neg hr]
 have ha:chkI (text z)=0:=by
  unfold chkI
  have:=jS bz (by omega)
  rw[if_pos (nO z).1,jT,if_neg (by omega)]
 unfold iC.f hldE decC
 rw[if_pos ⟨by omega,by omega,by omega⟩,if_pos hc,if_pos ha,if_neg (by simp),bU,bU,bU]
theorem zI{x y v:Int}(bx:Bd 100 x)(by':Bd 100 y)(bv:Bd 400 v)(hr:¬rngC x y):fP.f false (text x) (text y) (text v)=some (decide (clsM (x,y) v)):=by
 have s1:=size_text bx (by omega)
 have s2:=size_text by' (by omega)
 have s3:=size_text bv (by omega)
 have hc:chkC false (text x) (text y)=0:=by
  unfold chkC;rw[if_neg (by simp),if_pos (qU bx),if_pos (qU by'),bU,bU,if_neg hr]
 have ha:chkI (text v)=0:=by
  unfold chkI
  have:=jS bv (by omega)
  rw[if_pos (nO v).1,jT,if_neg (by omega)]
 have hh:kW.f false (text x) (text y) (text v)=some (decide (clsM (x,y) v),0):=by
  unfold kW.f hldE decC
  rw[if_pos ⟨by omega,by omega,by omega⟩,if_pos hc,if_pos ha,if_neg (by simp),bU,bU,bU,ha]
  rfl
 unfold fP.f
 rw[hh,Option.bind_some]
 by_cases q:clsM (x,y) v
 ·rw[decide_eq_true q];rfl
 ·rw[decide_eq_false q];rfl
theorem ends_j2{x p q z:Int}(y:ByteArray)(bp:Bd 400 p)(bq:Bd 400 q)(bz:Bd 400 z)(h1:z≤p)(h2:q≤z)(h3:p≠q→p+ -q=x)(k:Nat) :
 aI.j2 (k+2) (text z) (text p) (text q) false false (text x) y=some true:=by
 unfold aI.j2
 simp only[wH 400 bp bz (by omega) (by omega),wH 400 bq bz (by omega) (by omega),sub_at 400 bp bq (by omega) (by omega),Option.bind_some]
 have w0:wrap64 (wrap64 (0+0)+0)=0:=by decide +kernel
 have g1:¬sgnI (p-z)<0:=fun h=>by have:=(qC _).1 h;omega
 have g2:¬sgnI (q-z)>0:=fun h=>by
  unfold sgnI at h
  split at h
  ·omega
  ·split at h <;> omega
 rw[if_neg (by simp),if_pos w0,if_neg g1,decide_eq_false g2]
 unfold aI.j3
 simp only[rV,Option.bind_some]
 rw[if_neg (by simp)]
 by_cases e:p=q
 ·subst e
  have ez:p=z:=by omega
  subst ez
  have s0:sgnI (p-p)=0:=by rw[Int.sub_self];rfl
  rw[if_pos rfl,if_pos s0,if_pos s0]
 ·have ne:¬(text p).toList=(text q).toList:=fun hh=>by
   have:=text_eq p q
   rw[decide_eq_false e,hh] at this
   simp at this
  rw[if_neg ne,h3 e,if_pos rfl]
theorem ends_j1{x y p q z:Int}(bx:Bd 100 x)(by':Bd 100 y)(hr:¬rngC x y)(bp:Bd 400 p)(bq:Bd 400 q)(bz:Bd 400 z)(mp:clsM (x,y) p)(mq:clsM (x,y) q)(h1:z≤p)(h2:q≤z)(h3:p≠q→p+ -q=x)(k:Nat) :
 aI.j1 (k+3) (text z) (text p) 0 (text q) 0 false false (text x) (text y)=some true:=by
 unfold aI.j1
 simp only[zI bx by' bp hr,zI bx by' bq hr,Option.bind_some]
 rw[if_neg (by simp),if_pos trivial,if_pos trivial,if_pos (decide_eq_true mp),decide_eq_true mq]
 exact ends_j2 _ bp bq bz h1 h2 h3 k
theorem ends_j0{m r z p1 q1:ByteArray}{p2 q2:Int}(h1:jC.f false m r z=some (p1,p2))(h2:iC.f false m r z=some (q1,q2))(k:Nat) :
 aI.j0 (k+1) z false false m r=if p2=6 then aI.j1 k z p1 p2 q1 q2 true false m r else aI.j1 k z p1 p2 q1 q2 (q2==6) false m r:=by
 unfold aI.j0
 dsimp only
 rw[if_neg (by simp),h1,Option.bind_some,h2,Option.bind_some]
theorem ends_body{x y z:Int}(bx:Bd 100 x)(by':Bd 100 y)(bz:Bd 250 z)(hr:¬rngC x y)(k:Nat):aI.j0 (k+8) (text z) false false (text x) (text y)=some true:=by
 have y4:Bd 400 y:=by'.mono (by omega)
 have z4:Bd 400 z:=bz.mono (by omega)
 have hl:=ends_least bx by' bz hr
 have hg:=ends_greatest bx by' bz hr
 unfold vS at hl
 unfold qX at hg
 dsimp only at hl hg
 by_cases x0:x=0
 ·subst x0
  rw[if_pos rfl] at hl hg
  by_cases l:y<z
  ·rw[if_pos l] at hl
   rw[if_neg (by omega:¬z<y)] at hg
   rw[ends_j0 hl hg (k+7),if_pos rfl]
   unfold aI.j1
   dsimp only
   rw[if_pos rfl,if_pos ((uU 0).2 rfl),if_neg (by decide),rV,Option.bind_some]
  ·rw[if_neg l] at hl
   by_cases g:z<y
   ·rw[if_pos g] at hg
    rw[ends_j0 hl hg (k+7),if_neg (by decide)]
    unfold aI.j1
    dsimp only
    rw[if_pos (by decide),if_pos ((uU 0).2 rfl),if_neg (by decide),rV,Option.bind_some]
   ·rw[if_neg g] at hg
    rw[ends_j0 hl hg (k+7),if_neg (by decide)]
    have e:y=z:=by omega
    subst e
    have m:clsM (0,y) y:=by unfold clsM;simp
    exact ends_j1 bx by' hr y4 y4 z4 m m (by omega) (by omega) (fun q=>absurd rfl q) (k+4)
 ·have hx:0<x:=by unfold rngC at hr;omega
  rw[if_neg x0] at hl hg
  rw[ends_j0 hl hg (k+7),if_neg (by decide)]
  have n1:=Int.emod_nonneg (y-z) x0
  have n2:=Int.emod_nonneg (z-y) x0
  have d1:=xI (y-z) x
  have d2:=xI (z-y) x
  have m1:clsM (x,y) (z+(y-z)%x):=by
   unfold clsM
   show x∣z+(y-z)%x-y
   rw[show z+(y-z)%x-y= -((y-z)-(y-z)%x) by omega]
   exact Int.dvd_neg.2 d1
  have m2:clsM (x,y) (z+ -((z-y)%x)):=by
   unfold clsM
   show x∣z+ -((z-y)%x)-y
   rw[show z+ -((z-y)%x)-y=(z-y)-(z-y)%x by omega]
   exact d2
  have b1:Bd 250 ((y-z)%x):=(emod_bd bx hx).mono (by omega)
  have b2:Bd 250 ((z-y)%x):=(emod_bd bx hx).mono (by omega)
  refine ends_j1 bx by' hr ((bz.add b1).mono (by omega)) ((bz.add b2.neg).mono (by omega)) z4 m1 m2 (by omega) (by omega) (fun q=> ?_) (k+4)
  have s:=emod_swap (m:=x) (a:=y-z) hx
  rw[show -(y-z)=z-y by omega] at s
  omega
theorem ends_law(c:S36)(a:ByteArray)(hm:c.f1.size≤140737488351232)(hr:c.f2.size≤140737488351232)(ha:a.size≤140737488351232)(k:Nat) :
 aI.f (k+8) c.f0 c.f1 c.f2 a=some true:=by
 unfold aI.f
 rw[show(⟨c.f0,c.f1,c.f2⟩:S36)=c from rfl,right1_val c a hm hr ha k,Option.bind_some]
 by_cases h:chkC c.f0 c.f1 c.f2=0∧chkI a=0∧(c.f1.size≤250∧c.f2.size≤250)∧a.size≤250
 ·rw[if_pos (decide_eq_true h)]
  obtain⟨h1,h2,⟨h3,h4⟩,h5⟩:=h
  by_cases he:c.f0=true
  ·rw[he];exact ends_true _ _ _ _ _
  ·have e0:c.f0=false:=by simpa using he
   rw[e0] at h1 ⊢
   obtain⟨x,y,z,ex,ey,ez,bx,by',bz,hr'⟩:=ends_forms h1 h2 h5
   rw[ex,ey,ez]
   exact ends_body bx by' bz hr' _
 ·rw[if_neg (by simpa using h)]
  exact ends_true _ _ _ _ _
theorem law(e:Bool)(m r a:ByteArray)(hm:m.size≤140737488351232)(hr:r.size≤140737488351232)(ha:a.size≤140737488351232):aI.f 8 e m r a=some true:=ends_law ⟨e,m,r⟩ a hm hr ha 0
end Go.Proofs.YtignanmmgaldeaaGreatDoor.PureEnds
end
