/- Lemmas for the proof. -/
import Derived.Lib.SmallJoins
import Derived.Test.YtignanmmgaldeaaGreatDoorProg
set_option linter.unusedVariables false
set_option maxRecDepth 100000
namespace Go.Proofs.YtignanmmgaldeaaGreatDoor
open Go.ChangeShapes Go.WideShapes Go.ChangeAt Go.RowKit Go.Joins Go.Deep
open Go.ChangeMaps (open_string shut_string)
section
variable {H:Type} {enc:TypeId×Value→H} {W:World} {base:Nat} {sp:Nat→Bool} {held:Bool}
def lG{H:Type}(e:Bool)(m r:ByteArray):DataW H:= .agg [.lit (.bool e),.lit (.string m.data.toList),.lit (.string r.data.toList)]
theorem oneC:oneCellFields Tryz.prog #[⟨"Empty",4,0,false,"","",0⟩,⟨"Mod",22,1,false,"","",8⟩,⟨"Rem",22,2,false,"","",24⟩]=true:=by kernel_rfl
theorem xO{r:Reach}{b0 fuel:Nat}{v:Value}{y:DataW H×List MemPlace}(hv:Value.okWide Tryz.prog W r b0 36 v)(h:DataW.trod enc Tryz.prog W base sp held fuel 36 v.cells.toList=some y) :
 ∃(e:Bool) (m q:ByteArray),v= .agg #[.bool e,.string m,.string q]∧y=(lG e m q,[])∧m.size≤maxLen∧q.size≤maxLen:=by
 obtain⟨v0,v1,v2,y0,y1,y2,n,rfl,hd,hp,t0,t1,t2⟩:=open_agg3 (enc:=enc) Tryz.underlying36 oneC (by kernel_rfl) hv ⟨fuel,(show _=some (y.1,y.2) from h)⟩;obtain⟨b,e0,x0⟩:=DataW.trod_bool Tryz.underlying4 t0;obtain⟨s1,e1,x1,z1⟩:=DataW.trod_string Tryz.underlying22 t1;obtain⟨s2,e2,x2,z2⟩:=DataW.trod_string Tryz.underlying22 t2;simp only[List.cons.injEq,and_true] at e0 e1 e2;subst e0;subst e1;subst e2;subst x0;subst x1;subst x2
 exact⟨b,s1,s2,rfl,Prod.ext hd hp,z1,z2⟩
theorem aBf{r:Reach}{b0:Nat}{v:Value}{d:DataW H}{p:List MemPlace}(hv:Value.okWide Tryz.prog W r b0 36 v)(h:DataW.Trod enc Tryz.prog W base sp held 36 v d p) :
 ∃(e:Bool) (m q:ByteArray),v= .agg #[.bool e,.string m,.string q]∧d=lG e m q∧p= []∧m.size≤maxLen∧q.size≤maxLen:=by
 obtain⟨fuel,h⟩:=h;obtain⟨e,m,q,hv',hy,z1,z2⟩:=xO hv h;exact⟨e,m,q,hv',congrArg Prod.fst hy,congrArg Prod.snd hy,z1,z2⟩
theorem aBg{e:Bool}{m q:ByteArray}(z1:m.size≤maxLen)(z2:q.size≤maxLen):DataW.Trod enc Tryz.prog W base sp held 36 (.agg #[.bool e,.string m,.string q]) (lG e m q) []:=by
 obtain⟨n0,t0⟩:=shut_bool (enc:=enc) (P:=Tryz.prog) (w:=W) (base:=base) (spare:=sp) (held:=held) Tryz.underlying4 e;obtain⟨n1,t1⟩:=shut_string (enc:=enc) (P:=Tryz.prog) (w:=W) (base:=base) (sp:=sp) (held:=held) Tryz.underlying22 z1;obtain⟨n2,t2⟩:=shut_string (enc:=enc) (P:=Tryz.prog) (w:=W) (base:=base) (sp:=sp) (held:=held) Tryz.underlying22 z2;exact shut_agg3 (enc:=enc) Tryz.underlying36 oneC (by kernel_rfl) ⟨n0,t0⟩ ⟨n1,t1⟩ ⟨n2,t2⟩
theorem pK{e:Bool}{m q:ByteArray}:m.data.toList.length∈(lG e m q:DataW H).weights Tryz.prog 36∧q.data.toList.length∈(lG e m q:DataW H).weights Tryz.prog 36:=by
 unfold lG;simp only[DataW.weights,Tryz.underlying36,List.map_cons,List.map_nil,DataW.weightsEach]
 constructor <;> simp
theorem aA5{ts:List TypeId}{ds:List (DataW H)}(h:(DataW.weightsEach Tryz.prog ts ds).all (· ≤reachBytes)=true){j:Nat}{e:Bool}{m q:ByteArray}(ht:ts[j]? =some 36)(hd:ds[j]? =some (lG e m q)):m.size≤140737488351232∧q.size≤140737488351232:=by
 have a:=List.all_eq_true.1 h _ (DataW.weights_mem_each ht hd _ (pK (H:=H)).1);have b:=List.all_eq_true.1 h _ (DataW.weights_mem_each ht hd _ (pK (H:=H)).2);rw[decide_eq_true_eq,Array.length_toList] at a b;exact⟨a,b⟩
end
end Go.Proofs.YtignanmmgaldeaaGreatDoor
