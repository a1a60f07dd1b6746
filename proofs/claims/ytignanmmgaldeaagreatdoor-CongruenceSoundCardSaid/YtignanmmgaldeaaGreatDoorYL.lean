/- Lemmas for the proof. -/
import Derived.Lib.SmallJoins
import Derived.Test.YtignanmmgaldeaaGreatDoorProg
set_option linter.unusedVariables false
set_option maxRecDepth 100000
namespace Go.Proofs.YtignanmmgaldeaaGreatDoor
open Go.ChangeShapes Go.WideShapes Go.ChangeAt Go.RowKit Go.Joins Go.Deep
open Go.ChangeMaps (open_string shut_string)
section
variable {H:Type} {enc:TypeId×Value→H} {W:World} {base:Nat} {sp:Nat→Bool} {held:Bool}
def rD{H:Type}(e:Bool)(m r:ByteArray):DataW H:= .agg [.lit (.bool e),.lit (.string m.data.toList),.lit (.string r.data.toList)]
theorem oneC:oneCellFields Tryz.prog #[⟨"Empty",4,0,false,"","",0⟩,⟨"Mod",22,1,false,"","",8⟩,⟨"Rem",22,2,false,"","",24⟩]=true:=by kernel_rfl
theorem open_class{r:Reach}{b0 fuel:Nat}{v:Value}{y:DataW H×List MemPlace}(hv:Value.okWide Tryz.prog W r b0 36 v)(h:DataW.trod enc Tryz.prog W base sp held fuel 36 v.cells.toList=some y) :
 ∃(e:Bool) (m q:ByteArray),v= .agg #[.bool e,.string m,.string q]∧y=(rD e m q,[])∧m.size≤maxLen∧q.size≤maxLen:=by
 obtain⟨v0,v1,v2,y0,y1,y2,n,rfl,hd,hp,t0,t1,t2⟩:=open_agg3 (enc:=enc) Tryz.underlying36 oneC (by kernel_rfl) hv ⟨fuel,(show _=some (y.1,y.2) from h)⟩;obtain⟨b,e0,x0⟩:=DataW.trod_bool Tryz.underlying4 t0;obtain⟨s1,e1,x1,z1⟩:=DataW.trod_string Tryz.underlying22 t1;obtain⟨s2,e2,x2,z2⟩:=DataW.trod_string Tryz.underlying22 t2;simp only[List.cons.injEq,and_true] at e0 e1 e2;subst e0;subst e1;subst e2;subst x0;subst x1;subst x2
 exact⟨b,s1,s2,rfl,Prod.ext hd hp,z1,z2⟩
theorem openC{r:Reach}{b0:Nat}{v:Value}{d:DataW H}{p:List MemPlace}(hv:Value.okWide Tryz.prog W r b0 36 v)(h:DataW.Trod enc Tryz.prog W base sp held 36 v d p) :
 ∃(e:Bool) (m q:ByteArray),v= .agg #[.bool e,.string m,.string q]∧d=rD e m q∧p= []∧m.size≤maxLen∧q.size≤maxLen:=by
 obtain⟨fuel,h⟩:=h;obtain⟨e,m,q,hv',hy,z1,z2⟩:=open_class hv h;exact⟨e,m,q,hv',congrArg Prod.fst hy,congrArg Prod.snd hy,z1,z2⟩
theorem shutC{e:Bool}{m q:ByteArray}(z1:m.size≤maxLen)(z2:q.size≤maxLen):DataW.Trod enc Tryz.prog W base sp held 36 (.agg #[.bool e,.string m,.string q]) (rD e m q) []:=by
 obtain⟨n0,t0⟩:=shut_bool (enc:=enc) (P:=Tryz.prog) (w:=W) (base:=base) (spare:=sp) (held:=held) Tryz.underlying4 e;obtain⟨n1,t1⟩:=shut_string (enc:=enc) (P:=Tryz.prog) (w:=W) (base:=base) (sp:=sp) (held:=held) Tryz.underlying22 z1;obtain⟨n2,t2⟩:=shut_string (enc:=enc) (P:=Tryz.prog) (w:=W) (base:=base) (sp:=sp) (held:=held) Tryz.underlying22 z2;exact shut_agg3 (enc:=enc) Tryz.underlying36 oneC (by kernel_rfl) ⟨n0,t0⟩ ⟨n1,t1⟩ ⟨n2,t2⟩
theorem aCd{e:Bool}{m q:ByteArray}:m.data.toList.length∈(rD e m q:DataW H).weights Tryz.prog 36∧q.data.toList.length∈(rD e m q:DataW H).weights Tryz.prog 36:=by
 unfold rD;simp only[DataW.weights,Tryz.underlying36,List.map_cons,List.map_nil,DataW.weightsEach]
 constructor <;> simp
theorem wW{ts:List TypeId}{ds:List (DataW H)}(h:(DataW.weightsEach Tryz.prog ts ds).all (· ≤reachBytes)=true){j:Nat}{e:Bool}{m q:ByteArray}(ht:ts[j]? =some 36)(hd:ds[j]? =some (rD e m q)):m.size≤140737488351232∧q.size≤140737488351232:=by
 have a:=List.all_eq_true.1 h _ (DataW.weights_mem_each ht hd _ (aCd (H:=H)).1);have b:=List.all_eq_true.1 h _ (DataW.weights_mem_each ht hd _ (aCd (H:=H)).2);rw[decide_eq_true_eq,Array.length_toList] at a b;exact⟨a,b⟩
theorem cellsC:Tryz.prog.cellsOf 36=3:=by kernel_rfl
theorem cellsI:Tryz.prog.cellsOf 22=1:=by kernel_rfl
theorem cellsB:Tryz.prog.cellsOf 4=1:=by kernel_rfl
theorem aCe{fuel:Nat}{c0 c1 c2:Value}{y:DataW H×List MemPlace}(h:DataW.trod enc Tryz.prog W base sp held fuel 36 [c0,c1,c2]=some y) :
 ∃(e:Bool) (m q:ByteArray),c0= .bool e∧c1= .string m∧c2= .string q∧y=(rD e m q,[])∧m.size≤maxLen∧q.size≤maxLen:=by
 obtain⟨y0,y1,y2,n,hx,_,h0,h1,h2⟩:=trod_struct3 Tryz.underlying36 h;have g0:DataW.trod enc Tryz.prog W base sp held n 4 [c0]=some y0:=by simpa[cellsI,cellsB] using h0
 have g1:DataW.trod enc Tryz.prog W base sp held n 22 [c1]=some y1:=by simpa[cellsI,cellsB] using h1
 have g2:DataW.trod enc Tryz.prog W base sp held n 22 [c2]=some y2:=by simpa[cellsI,cellsB] using h2
 obtain⟨b,e0,x0⟩:=DataW.trod_bool Tryz.underlying4 g0;obtain⟨s1,e1,x1,z1⟩:=DataW.trod_string Tryz.underlying22 g1;obtain⟨s2,e2,x2,z2⟩:=DataW.trod_string Tryz.underlying22 g2;simp only[List.cons.injEq,and_true] at e0 e1 e2;subst x0;subst x1;subst x2
 exact⟨b,s1,s2,e0,e1,e2,hx,z1,z2⟩
theorem array8{α:Type}{cs:Array α}(h:cs.size=8):∃c0 c1 c2 c3 c4 c5 c6 c7,cs= #[c0,c1,c2,c3,c4,c5,c6,c7]:=by
 obtain⟨l⟩:=cs
 match l,h with
 | [c0,c1,c2,c3,c4,c5,c6,c7],_=>exact⟨c0,c1,c2,c3,c4,c5,c6,c7,rfl⟩
def pairD{H:Type}(e1:Bool)(m1 r1:ByteArray)(e2:Bool)(m2 r2 a b:ByteArray):DataW H:= .agg [rD e1 m1 r1,rD e2 m2 r2,.lit (.string a.data.toList),.lit (.string b.data.toList)]
theorem openP{r:Reach}{b0:Nat}{v:Value}{d:DataW H}{p:List MemPlace}(hv:Value.okWide Tryz.prog W r b0 66 v)(h:DataW.Trod enc Tryz.prog W base sp held 66 v d p) :
 ∃(e1:Bool) (m1 r1:ByteArray) (e2:Bool) (m2 r2 a b:ByteArray),v= .agg #[.bool e1,.string m1,.string r1,.bool e2,.string m2,.string r2,.string a,.string b]∧d=pairD e1 m1 r1 e2 m2 r2 a b∧p= []:=by
 obtain⟨cs,rfl,hsz⟩:=okWide_struct Tryz.underlying66 hv;obtain⟨c0,c1,c2,c3,c4,c5,c6,c7,rfl⟩:=array8 (hsz.trans (by kernel_rfl));obtain⟨fuel,hf⟩:=h;obtain⟨y0,y1,y2,y3,n,hx,_,h0,h1,h2,h3⟩:=trod_struct4 Tryz.underlying66 hf;simp only[cellsC,cellsI,Value.cells,List.drop_succ_cons,List.drop_zero,List.take_succ_cons,List.take_zero] at h0 h1 h2 h3;obtain⟨e1,m1,r1,rfl,rfl,rfl,rfl,z1,z2⟩:=aCe h0;obtain⟨e2,m2,r2,rfl,rfl,rfl,rfl,z3,z4⟩:=aCe h1;obtain⟨a,ea,xa,za⟩:=DataW.trod_string Tryz.underlying22 h2;obtain⟨b,eb,xb,zb⟩:=DataW.trod_string Tryz.underlying22 h3;simp only[List.cons.injEq,and_true] at ea eb;subst ea;subst eb;subst xa;subst xb
 simp only[Prod.mk.injEq] at hx;exact⟨e1,m1,r1,e2,m2,r2,a,b,rfl,hx.1,hx.2⟩
theorem sizedP{ts:List TypeId}{ds:List (DataW H)}(h:(DataW.weightsEach Tryz.prog ts ds).all (· ≤reachBytes)=true){j:Nat}{e1:Bool}{m1 r1:ByteArray}{e2:Bool}{m2 r2 a b:ByteArray}(ht:ts[j]? =some 66)(hd:ds[j]? =some (pairD e1 m1 r1 e2 m2 r2 a b)) :
 m1.size≤140737488351232∧r1.size≤140737488351232∧m2.size≤140737488351232∧r2.size≤140737488351232∧a.size≤140737488351232∧b.size≤140737488351232:=by
 have hm:∀n∈(pairD e1 m1 r1 e2 m2 r2 a b:DataW H).weights Tryz.prog 66,n≤140737488351232:=fun n hn=>by
  have:=List.all_eq_true.1 h _ (DataW.weights_mem_each ht hd n hn);exact of_decide_eq_true this
 unfold pairD rD at hm;simp only[DataW.weights,Tryz.underlying36,Tryz.underlying66,List.map_cons,List.map_nil,DataW.weightsEach,List.nil_append,List.append_nil,List.cons_append,List.forall_mem_cons,Array.length_toList] at hm;obtain⟨q1,q2,q3,q4,q5,q6,_⟩:=hm;exact⟨q1,q2,q3,q4,q5,q6⟩
end
end Go.Proofs.YtignanmmgaldeaaGreatDoor
