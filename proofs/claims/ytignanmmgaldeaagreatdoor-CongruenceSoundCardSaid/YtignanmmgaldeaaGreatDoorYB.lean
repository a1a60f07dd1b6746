/- Lemmas for the proof. -/
import Derived.Test.YtignanmmgaldeaaGreatDoorY0
import Derived.Deep.AppendLies
import Derived.Deep.OwnRows
import Derived.Lib.ConvBytes
import Derived.WalkKit
import Derived.BigQuiet
import Derived.Deep.DeepCutAuto
import Derived.Deep.CutBlock
import Derived.Deep.RegionHeld3
import Derived.Lib.AppendStr
section
set_option linter.unusedVariables false
set_option linter.unusedSimpArgs false
namespace Go.Proofs.YtignanmmgaldeaaGreatDoorW.PrintWords
open Go.RowKit
structure aA(p:Prop):Prop where mk::(out:p)
structure aZ(w w':World):Prop where mk::(out:∃n,w'=w.drewN n)
theorem aZ.refl(w:World):aZ w w:=⟨⟨0,rfl⟩⟩
theorem aZ.step{w w':World}(h:aZ w w')(n:Nat):aZ w (w'.drewN n):=by
 obtain⟨m,rfl⟩:=h;exact⟨⟨m+n,World.drewN_drewN ..⟩⟩
def rd(xs:List Int)(i:Int):Int:=xs.getD i.toNat 0
def bt(s:ByteArray)(i:Int):Int:=if h:i.toNat<s.size then((s[i.toNat]'h).toNat:Int) else 0
theorem uX(s:ByteArray)(i:Int):∀h:i.toNat<s.size,((s[i.toNat]'h).toNat:Int)=bt s i:=fun h=>by simp[bt,h]
def nums(k:IntKind)(xs:List Int):List Value:=xs.map fun x=> .int k x
theorem nums_length(k:IntKind)(xs:List Int):(nums k xs).length=xs.length:=by simp[nums]
theorem cZ{w W:World}(h:Below w.heap.size w W)(o:Obj):Below w.heap.size w (W.alloc o):=h.alloc h.size o
theorem zY{B:Nat}{w W:World}(h:Below B w W):Below B w W.drew:=⟨h.os,h.tape,h.output,h.size,h.block⟩
theorem bH{B:Nat}{w W:World}(h:Below B w W)(n:Nat):Below B w (W.drewN n):=⟨h.os,h.tape,h.output,h.size,h.block⟩
theorem below_then{B:Nat}{w w1 w2:World}(h:Below B w w1)(hB:B≤w1.heap.size)(k:Below w1.heap.size w1 w2):Below B w w2:=
 h.trans ⟨k.os,k.tape,k.output,k.size,fun i hi=>k.block i (Nat.lt_of_lt_of_le hi hB)⟩
theorem pw_cell_below{w w1:World}(h:Below w.heap.size w w1){a:Addr}{v:Value}(hc:w.cell? a=some v):w1.cell? a=some v:=(h.cell (World.block_lt_of_cell? w a hc)).trans hc
theorem add_plain(g j:Nat):(⟨g,0,none⟩:Addr).add j=⟨g,j,none⟩:=by unfold Addr.add;split <;> simp_all
def jX(w:World)(k:IntKind)(A:Option Addr)(n:Nat)(xs:List Int):Prop:=
 xs.length=n∧n≤9223372036854775807∧(0<n→∃ad,A=some ad∧∀j,j<n→w.cell? (ad.add j)=some (.int k (xs.getD j 0)))
theorem jX.at_{w:World}{k:IntKind}{A:Option Addr}{n:Nat}{xs:List Int}(h:jX w k A n xs)(i:Int)(h0:0≤i)(h1:i<n):∃ad,A=some ad∧w.cell? (ad.add i.toNat)=some (.int k (rd xs i)):=by
 obtain⟨ad,e,hc⟩:=h.2.2 aCo;exact⟨ad,e,hc _ aCo⟩
theorem own_nil(W:World)(base:Nat)(e:TypeId)(size:Nat):W.ownsRow base e size (.slice none 0 0) 0 []:=⟨by simp,.inl ⟨rfl,rfl⟩⟩
theorem own_base{w:World}{base:Nat}{e:TypeId}{size n:Nat}{v:Value}{xs:List Value}(h:w.ownsRow base e size v n xs)(k:Nat)(hk:v.ownBlock=some k):base≤k:=by
 rcases h.2 with ⟨rfl,_⟩|⟨g,cap,cur,rfl,hb,_⟩
 ·simp[Value.ownBlock] at hk
 ·have:g=k:=by simpa[Value.ownBlock] using hk
  omega
theorem own_lt{w:World}{base:Nat}{e:TypeId}{size n:Nat}{v:Value}{xs:List Value}(h:w.ownsRow base e size v n xs)(k:Nat)(hk:v.ownBlock=some k):k<w.heap.size:=by
 rcases h.2 with ⟨rfl,_⟩|⟨g,cap,cur,rfl,hb,hh,_⟩
 ·simp[Value.ownBlock] at hk
 ·have:g=k:=by simpa[Value.ownBlock] using hk
  subst this;exact(Array.getElem?_eq_some_iff.1 hh).1
theorem own_slice{w:World}{base n:Nat}{e:TypeId}{size:Nat}{v:Value}{xs:List Value}(h:w.ownsRow base e size v n xs):∃A c,v= .slice A n c:=by
 rcases h.2 with ⟨rfl,rfl⟩|⟨g,cap,cur,rfl,_⟩
 ·exact⟨none,0,rfl⟩
 ·exact⟨_,cap,rfl⟩
theorem own_string{P:Program}{w:World}{base n:Nat}{e' src dst e:TypeId}{v:Value}{xs:List Int}(hs:P.underlying src=some (.slice e))(he:P.underlying e=some (.int .u8))(hd:P.underlying dst=some .string)
 (h:w.ownsRow base e' 1 v n (nums .u8 xs)):(convert src dst v).run P w= .ok (.string (strOfNums xs)) w:=by
 have hl:xs.length=n:=by have:=h.1;simp[nums] at this;exact this
 rcases h.2 with ⟨rfl,rfl⟩|⟨g,cap,cur,rfl,_⟩
 ·obtain rfl:xs= []:=List.eq_nil_of_length_eq_zero hl
  exact run_convert_bytes_nil w src e hs he 0 0 dst hd
 ·refine run_convert_bytes_arg w src e hs he g 0 n cap xs hl (fun i hi=> ?_) dst hd
  have hc:=h.cells (g:=g) rfl i (.int .u8 (xs.getD i 0)) (by simp[nums,List.getElem?_eq_getElem (show i<xs.length by omega),List.getD_eq_getElem?_getD]);have ha:(⟨g,0,none⟩:Addr).add i=⟨g,0+i,none⟩:=by unfold Addr.add;split <;> simp_all
  rwa [ha] at hc
section
variable {P:Program} {ops:Array Oper} {rest:List Oper} {o:Oper} {a:Act} {Q:Exit→Act→World→Prop}
theorem print_append{w0 W:World}(base:Nat)(hgd:o.guard=none)(s x:Operand)(t e:TypeId)(z:Value)(bytes:Nat)
 (ho:o.op= .call {callee:= .builtin .append,args:=#[s,x],argTypes:=#[t,t]})
 (ht:P.underlying t=some (.slice e)) (hinfo:(P.info? e).map (fun i=>(i.zero,i.size,i.bytes))=some (some z,1,bytes)) (hz:z.cells.size=1) (hb0:0<bytes)
 (v:Value) (xs:List Value) (y:Value) (hs:a.eval s=v) (hx:a.eval x= .slice (some ⟨W.heap.size,0,none⟩) 1 1) (h1:y.oneCell'=true)
 (HO:W.ownsRow base e 1 v xs.length xs) (HB:Below base w0 W) (hbase:base≤W.heap.size) (hl:(xs.length+1)*bytes≤140737488355328)
 (h:∀v1 w1,w1.ownsRow base e 1 v1 (xs++ [y]).length (xs++ [y])→Below base w0 w1→W.grownBy w1 v.ownBlock→(v1.ownBlock=v.ownBlock∨∃b,v1.ownBlock=some b∧W.heap.size≤b)→wpList P ops Q rest (a.put o.dst v1) w1) :
 wpList P ops Q (o::rest) a (W.alloc (.cells #[y] e)):=by
 obtain⟨i0,hi,hzz⟩:=Option.map_eq_some_iff.1 hinfo;simp only[Prod.mk.injEq] at hzz;obtain⟨hz0,hz1,hz2⟩:=hzz;have hlen:xs.length+1≤140737488355328:=Nat.le_trans (Nat.le_mul_of_pos_right _ hb0) hl
 refine wpList_append_own_at (W.alloc (.cells #[y] e)) hgd s x t ho base e i0 z 1 bytes ht hi hz0 hz1 hz2 hz aCo v xs.length xs hs (HO.alloc _) ⟨W.heap.size,0,none⟩ 1 1 [y] hx rfl
  (World.news_of_block (cs:=#[y]) (t:=e) (fr:=(0,0)) (heap_alloc_new W _)) (by simpa using h1) (by simp only[maxLen];omega) hl (by simp;omega) ?_
 intro v1 w1 hown hg _ hat;refine h v1 w1 (by simpa using hown) ((HB.alloc hbase _).grown hg (by simp;omega) (own_base HO)) (World.grownBy.trans (World.grownBy_alloc W _ _) hg) ?_;rcases hat with hat|hat
 ·exact .inl hat
 ·exact .inr ⟨_,hat,by simp⟩
theorem xQ{w0 W:World}(base:Nat)(hgd:o.guard=none)(s x:Operand)(t e:TypeId)(k:IntKind)(bytes:Nat)
 (ho:o.op= .call {callee:= .builtin .append,args:=#[s,x],argTypes:=#[t,t]})
 (ht:P.underlying t=some (.slice e)) (hinfo:(P.info? e).map (fun i=>(i.zero,i.size,i.bytes))=some (some (.int k 0),1,bytes)) (hb0:0<bytes)
 (v:Value) (xs:List Int) (y:Int) (hs:a.eval s=v) (hx:a.eval x= .slice (some ⟨W.heap.size,0,none⟩) 1 1)
 (HO:W.ownsRow base e 1 v xs.length (nums k xs)) (HB:Below base w0 W) (hbase:base≤W.heap.size) (hl:(xs.length+1)*bytes≤140737488355328)
 (h:∀v1 w1,w1.ownsRow base e 1 v1 (xs++ [y]).length (nums k (xs++ [y]))→Below base w0 w1→W.grownBy w1 v.ownBlock→(v1.ownBlock=v.ownBlock∨∃b,v1.ownBlock=some b∧W.heap.size≤b)→wpList P ops Q rest (a.put o.dst v1) w1) :
 wpList P ops Q (o::rest) a (W.alloc (.cells #[.int k y] e)):=
 print_append base hgd s x t e (.int k 0) bytes ho ht hinfo rfl hb0 v (nums k xs) (.int k y) hs hx rfl (by rw[nums_length];exact HO) HB hbase (by rw[nums_length];exact hl)
  fun v1 w1 hown hB hg hat=>h v1 w1 (by simpa[nums] using hown) hB hg hat
end
section
variable {P:Program}
theorem uY(t e:TypeId)(k:IntKind)(bytes:Nat)(ht:P.underlying t=some (.slice e))(hinfo:(P.info? e).map (fun i=>(i.zero,i.size,i.bytes))=some (some (.int k 0),1,bytes))(hb0:0<bytes)
 (m:Nat) (hn:m*bytes≤281474976710656) :
 ∀W:World,(Instr.makeSlice t (.int .i64 (m:Int)) (.int .i64 (m:Int))).run P W= .ok (.slice (some ⟨W.heap.size,0,none⟩) m m) (W.alloc (.cells (madeCells #[.int k 0] m) e)):=by
 intro W;have hm:m≤281474976710656:=Nat.le_trans (Nat.le_mul_of_pos_right _ hb0) hn;exact run_make_row' t e (.int k 0) bytes ht hinfo rfl .i64 .i64 m (by rw[Nat.mul_comm];exact hn) aCo W
end
theorem own_at{W:World}{base g n cap:Nat}{e:TypeId}{k:IntKind}{xs:List Int}(h:W.ownsRow base e 1 (.slice (some ⟨g,0,none⟩) n cap) n (nums k xs))(i:Int)(h0:0≤i)(h1:i<n) :
 W.cell? ⟨g,i.toNat,none⟩=some (.int k (rd xs i))∧W.frozen? ⟨g,i.toNat,none⟩=false:=by
 have hl:xs.length=n:=by have:=h.1;simp[nums] at this;exact this
 constructor
 ·have hc:=h.cells (g:=g) rfl i.toNat (.int k (rd xs i)) (by simp[nums,rd,List.getElem?_eq_getElem (show i.toNat<xs.length by omega),List.getD_eq_getElem?_getD])
  rwa [add_plain] at hc
 ·rcases h.2 with ⟨h',_⟩|⟨g',cap',cur,h',_,hh,_⟩
  ·cases h'
  ·have:g=g':=by injection h' with h';injection h' with h';injection h' with h'
   subst this
   simp[World.frozen?,hh]
theorem own_store{W:World}{base g n cap:Nat}{e:TypeId}{k:IntKind}{xs:List Int}(h:W.ownsRow base e 1 (.slice (some ⟨g,0,none⟩) n cap) n (nums k xs))(i x:Int) :
 (W.setCell ⟨g,i.toNat,none⟩ (.int k x)).ownsRow base e 1 (.slice (some ⟨g,0,none⟩) n cap) n (nums k (xs.set i.toNat x))∧W.grownBy (W.setCell ⟨g,i.toNat,none⟩ (.int k x)) (some g):=by
 have hs:=h.stored i.toNat (.int k x);have he:(nums k xs).set i.toNat (.int k x)=nums k (xs.set i.toNat x):=by simp[nums,List.map_set]
 rwa [he] at hs
def Reps{α:Type}(R:α→List Value→Prop)(size:Nat)(ps:List α)(cs:List Value):Prop:=
 cs.length=ps.length*size∧∀j p,ps[j]? =some p→R p ((cs.drop (j*size)).take size)
theorem Reps.none{α:Type}(R:α→List Value→Prop)(size:Nat):Reps R size [] []:=⟨by simp,fun j p h=>by simp at h⟩
theorem Reps.snoc{α:Type}{R:α→List Value→Prop}{size:Nat}{ps:List α}{cs c:List Value}{p:α}(h:Reps R size ps cs)(hp:R p c)(hc:c.length=size):Reps R size (ps++ [p]) (cs++c):=by
 refine⟨by rw[List.length_append,h.1,hc,List.length_append,List.length_singleton,Nat.add_mul,Nat.one_mul],fun j q hq=> ?_⟩;rcases Nat.lt_or_ge j ps.length with hj|hj
 ·rw[List.getElem?_append_left hj] at hq
  have h1:j*size+size≤cs.length:=by rw[h.1,←Nat.succ_mul];exact Nat.mul_le_mul_right _ hj
  have h2:=h.2 j q hq;rw[List.drop_append_of_le_length aCo,List.take_append_of_le_length (by rw[List.length_drop];omega)];exact h2
 ·have hj':j=ps.length:=by
   have:=(List.getElem?_eq_some_iff.1 hq).1;rw[List.length_append,List.length_singleton] at this;omega
  subst hj';have hq':p=q:=by simpa using hq
  subst hq';rw[←h.1,List.drop_left,←hc,List.take_length];exact hp
theorem Reps.imp_{α:Type}{R R':α→List Value→Prop}{size:Nat}{ps:List α}{cs:List Value}(h:Reps R size ps cs)(hR:∀p c,R p c→R' p c):Reps R' size ps cs:=⟨h.1,fun j p hj=>hR _ _ (h.2 j p hj)⟩
def nX{α:Type}(R:α→List Value→Prop)(size:Nat)(w:World)(A:Option Addr)(n:Nat)(ps:List α):Prop:=
 ps.length=n∧n≤9223372036854775807∧(0<n→∃ad,A=some ad∧∀j p,ps[j]? =some p→∃c,c.length=size∧R p c∧∀i u,c[i]? =some u→w.cell? (ad.add (j*size+i))=some u)
theorem nX.get_{α:Type}{R:α→List Value→Prop}{size:Nat}{w:World}{A:Option Addr}{n:Nat}{ps:List α}(h:nX R size w A n ps)(d:α)(i:Int)(h0:0≤i)(h1:i<n) :
 ∃ad c,A=some ad∧c.length=size∧R (ps.getD i.toNat d) c∧∀j u,c[j]? =some u→w.cell? (ad.add (i.toNat*size+j))=some u:=by
 obtain⟨ad,e,hc⟩:=h.2.2 aCo;have hl:i.toNat<ps.length:=by have:=h.1;omega
 obtain⟨c,hs,hr,hcell⟩:=hc i.toNat _ (List.getElem?_eq_getElem hl);refine⟨ad,c,e,hs,?_,hcell⟩;rw[List.getD_eq_getElem?_getD,List.getElem?_eq_getElem hl];exact hr
theorem nX.imp_{α:Type}{R R':α→List Value→Prop}{size:Nat}{w w1:World}{A:Option Addr}{n:Nat}{ps:List α}(h:nX R size w A n ps)(hb:Below w.heap.size w w1)(hR:∀p c,R p c→R' p c):nX R' size w1 A n ps:=
 ⟨h.1,h.2.1,fun hn=>by
   obtain⟨ad,e,hc⟩:=h.2.2 hn;refine⟨ad,e,fun j p hj=> ?_⟩;obtain⟨c,hs,hr,hcell⟩:=hc j p hj
   exact⟨c,hs,hR _ _ hr,fun i u hu=>pw_cell_below hb (hcell i u hu)⟩⟩
theorem own_reads_row{α:Type}{R:α→List Value→Prop}{w:World}{base n size:Nat}{e:TypeId}{v:Value}{ps:List α}{cs:List Value}(h:w.ownsRow base e size v n cs)(hR:Reps R size ps cs)(hn:ps.length=n) :
 ∃A c,v= .slice A n c∧nX R size w A n ps:=by
 rcases Nat.eq_zero_or_pos n with h0|h0
 ·rcases h.2 with ⟨rfl,rfl⟩|⟨g,cap,cur,rfl,_⟩
  ·exact⟨none,0,rfl,hn,by omega,fun hp=>absurd hp aCo⟩
  ·exact⟨_,cap,rfl,hn,by omega,fun hp=>absurd hp aCo⟩
 ·obtain⟨g,cap,rfl,_,_⟩:=h.form h0
  have hm:n≤9223372036854775807:=by
   rcases h.2 with ⟨_,h1⟩|⟨g',cap',cur,he,_,_,h1,h2,_⟩
   ·omega
   ·simp only[maxLen] at h2
    omega
  refine⟨_,cap,rfl,hn,hm,fun _=>⟨_,rfl,fun j p hj=>⟨(cs.drop (j*size)).take size,?_,hR.2 j p hj,fun i u hu=> ?_⟩⟩⟩
  ·have hjl:=(List.getElem?_eq_some_iff.1 hj).1
   have h1:j*size+size≤cs.length:=by rw[hR.1,←Nat.succ_mul];exact Nat.mul_le_mul_right _ hjl
   rw[List.length_take,List.length_drop];omega
  ·refine h.cells (g:=g) rfl _ u ?_
   rw[List.getElem?_take] at hu
   split at hu
   ·rw[List.getElem?_drop] at hu
    exact hu
   ·cases hu
theorem add_field(ad:Addr)(m j:Nat)(hj:0<j):ad.add (m+j)=⟨(ad.add m).block,(ad.add m).off+j,none⟩:=by
 unfold Addr.add
 by_cases hm:m=0
 ·subst hm
  simp[Nat.ne_of_gt hj]
 ·simp[hm,Nat.add_assoc]
section
variable {P:Program} {ops:Array Oper} {rest:List Oper} {o:Oper} {a:Act} {Q:Exit→Act→World→Prop}
theorem aAj{w0 W:World}(base:Nat)(hgd:o.guard=none)(s x:Operand)(t e:TypeId)(z:Value)(size bytes:Nat)
 (ho:o.op= .call {callee:= .builtin .append,args:=#[s,x],argTypes:=#[t,t]})
 (ht:P.underlying t=some (.slice e)) (hinfo:(P.info? e).map (fun i=>(i.zero,i.size,i.bytes))=some (some z,size,bytes)) (hz:z.cells.size=size) (hs0:0<size) (hb0:0<bytes)
 (v:Value) (n:Nat) (xs ys:List Value) (hs:a.eval s=v) (hx:a.eval x= .slice (some ⟨W.heap.size,0,none⟩) 1 1) (hys:ys.length=size) (h1:∀u∈ys,u.oneCell'=true)
 (HO:W.ownsRow base e size v n xs) (HB:Below base w0 W) (hbase:base≤W.heap.size) (hl:(n+1)*bytes≤140737488355328)
 (h:∀v1 w1,w1.ownsRow base e size v1 (n+1) (xs++ys)→Below base w0 w1→W.grownBy w1 v.ownBlock→(v1.ownBlock=v.ownBlock∨∃b,v1.ownBlock=some b∧W.heap.size≤b)→wpList P ops Q rest (a.put o.dst v1) w1) :
 wpList P ops Q (o::rest) a (W.alloc (.cells ys.toArray e)):=by
 obtain⟨i0,hi,hzz⟩:=Option.map_eq_some_iff.1 hinfo;simp only[Prod.mk.injEq] at hzz;obtain⟨hz0,hz1,hz2⟩:=hzz;have hlen:n+1≤140737488355328:=Nat.le_trans (Nat.le_mul_of_pos_right _ hb0) hl
 refine wpList_append_own_at (W.alloc (.cells ys.toArray e)) hgd s x t ho base e i0 z size bytes ht hi hz0 hz1 hz2 hz hs0 v n xs hs (HO.alloc _) ⟨W.heap.size,0,none⟩ 1 1 ys hx (by rw[hys];simp)
  (by simpa using World.news_of_block (cs:=ys.toArray) (t:=e) (fr:=(0,0)) (heap_alloc_new W (.cells ys.toArray e))) h1 (by simp only[maxLen];omega) hl (by simp;omega) ?_
 intro v1 w1 hown hg _ hat;refine h v1 w1 hown ((HB.alloc hbase _).grown hg (by simp;omega) (own_base HO)) (World.grownBy.trans (World.grownBy_alloc W _ _) hg) ?_;rcases hat with hat|hat
 ·exact .inl hat
 ·exact .inr ⟨_,hat,by simp⟩
end
theorem blk_set{w:World}{g:Nat}{t:TypeId}{cs:Array Value}(h:w.heap[g]? =some (.cells cs t (0,0)))(i:Nat)(u:Value):(w.setCell ⟨g,i,none⟩ u).heap[g]? =some (.cells (cs.setIfInBounds i u) t (0,0)):=by
 simp[World.setCell,Array.getElem?_modify,h]
theorem gU{w:World}{g:Nat}{t:TypeId}{cs:Array Value}(h:w.heap[g]? =some (.cells cs t (0,0))){p:Addr}(hp:g≠p.block)(u:Value):(w.setCell p u).heap[g]? =some (.cells cs t (0,0)):=(Below.heap_setCell w p u g hp).trans h
theorem uZ{w:World}{g:Nat}{o:Obj}(h:w.heap[g]? =some o):g<w.heap.size:=(Array.getElem?_eq_some_iff.1 h).1
theorem aC{w:World}{g:Nat}{t:TypeId}{cs:Array Value}(h:w.heap[g]? =some (.cells cs t (0,0)))(i:Nat):w.cell? ⟨g,i,none⟩=cs[i]? :=cell_of_row w g i cs t (0,0) h
theorem aI{w:World}{g:Nat}{t:TypeId}{cs:Array Value}(h:w.heap[g]? =some (.cells cs t (0,0)))(i:Nat):w.frozen? ⟨g,i,none⟩=false:=by simp[World.frozen?,h]
def KeepBut(w w':World)(g:Nat)(row:Option Nat):Prop:=w.heap.size≤w'.heap.size∧∀i,i<w.heap.size→i≠g→some i≠row→w'.heap[i]? =w.heap[i]?
theorem KeepBut.trans{w w1 w2:World}{g:Nat}{row row1:Option Nat}(h:KeepBut w w1 g row)(k:KeepBut w1 w2 g row1)(hr:row1=row∨∃b,row1=some b∧w.heap.size≤b):KeepBut w w2 g row:=
 ⟨Nat.le_trans h.1 k.1,fun i hi hg hn=>by
   refine(k.2 i (Nat.lt_of_lt_of_le hi h.1) hg ?_).trans (h.2 i hi hg hn);rcases hr with rfl|⟨b,rfl,hb⟩
   ·exact hn
   ·intro e
    injection e with e
    omega⟩
theorem zZ{w:World}{base base':Nat}{e:TypeId}{size n:Nat}{v:Value}{xs:List Value}(h:w.ownsRow base e size v n xs)(hb:base'≤base):w.ownsRow base' e size v n xs:=by
 obtain⟨h1,h2⟩:=h;refine⟨h1,?_⟩;rcases h2 with h2|⟨g,cap,cur,rfl,hg,r⟩
 ·exact .inl h2
 ·exact .inr ⟨g,cap,cur,rfl,Nat.le_trans hb hg,r⟩
section
variable {α:Type} {enc:α→Value} {d:α}
def encs(enc:α→Value)(xs:List α):List Value:=xs.map enc
def rdOf(d:α)(xs:List α)(i:Int):α:=xs.getD i.toNat d
theorem aB2(xs:List α):(encs enc xs).length=xs.length:=by simp[encs]
theorem encs_get(xs:List α)(j:Nat)(h:j<xs.length):(encs enc xs)[j]? =some (enc (xs.getD j d)):=by
 simp[encs,List.getElem?_eq_getElem h,List.getD_eq_getElem?_getD]
def zG(enc:α→Value)(d:α)(w:World)(A:Option Addr)(n:Nat)(xs:List α):Prop:=
 xs.length=n∧n≤9223372036854775807∧(0<n→∃ad,A=some ad∧∀j,j<n→w.cell? (ad.add j)=some (enc (xs.getD j d)))
theorem zG.at_{w:World}{A:Option Addr}{n:Nat}{xs:List α}(h:zG enc d w A n xs)(i:Int)(h0:0≤i)(h1:i<n):∃ad,A=some ad∧w.cell? (ad.add i.toNat)=some (enc (rdOf d xs i)):=by
 obtain⟨ad,e,hc⟩:=h.2.2 aCo;exact⟨ad,e,hc _ aCo⟩
theorem own_at_of{W:World}{base g n cap:Nat}{e:TypeId}{xs:List α}(h:W.ownsRow base e 1 (.slice (some ⟨g,0,none⟩) n cap) n (encs enc xs))(i:Int)(h0:0≤i)(h1:i<n) :
 W.cell? ⟨g,i.toNat,none⟩=some (enc (rdOf d xs i))∧W.frozen? ⟨g,i.toNat,none⟩=false:=by
 have hl:xs.length=n:=by have:=h.1;simp[encs] at this;exact this
 constructor
 ·have hc:=h.cells (g:=g) rfl i.toNat _ (encs_get (d:=d) xs i.toNat aCo)
  rwa [add_plain] at hc
 ·rcases h.2 with ⟨h',_⟩|⟨g',cap',cur,h',_,hh,_⟩
  ·cases h'
  ·have:g=g':=by injection h' with h';injection h' with h';injection h' with h'
   subst this
   simp[World.frozen?,hh]
theorem own_store_of{W:World}{base g n cap:Nat}{e:TypeId}{xs:List α}(h:W.ownsRow base e 1 (.slice (some ⟨g,0,none⟩) n cap) n (encs enc xs))(i:Int)(x:α) :
 (W.setCell ⟨g,i.toNat,none⟩ (enc x)).ownsRow base e 1 (.slice (some ⟨g,0,none⟩) n cap) n (encs enc (xs.set i.toNat x))∧W.grownBy (W.setCell ⟨g,i.toNat,none⟩ (enc x)) (some g):=by
 have hs:=h.stored i.toNat (enc x);have he:(encs enc xs).set i.toNat (enc x)=encs enc (xs.set i.toNat x):=by simp[encs,List.map_set]
 rwa [he] at hs
end
def NeRow(v v':Value):Prop:=∀k,v.ownBlock=some k→v'.ownBlock≠some k
theorem ne_below{W w1:World}{v1 v':Value}{base n size n1 size1:Nat}{e e1:TypeId}{xs xs1:List Value}(h1:w1.ownsRow W.heap.size e1 size1 v1 n1 xs1)(ho:W.ownsRow base e size v' n xs):NeRow v1 v':=by
 intro k hk hk';have h2:=own_base h1 k hk;have h3:=own_lt ho k hk';omega
theorem bK{w:World}{g:Nat}{o:Obj}(h:w.heap[g]? =some o)(o':Obj):(w.alloc o').heap[g]? =some o:=(Below.heap_alloc w o' g (uZ h)).trans h
theorem aQ{w:World}{g:Nat}{o:Obj}(h:w.heap[g]? =some o):w.drew.heap[g]? =some o:=h
theorem bM{w:World}{g:Nat}{o:Obj}(h:w.heap[g]? =some o)(n:Nat):(w.drewN n).heap[g]? =some o:=h
theorem dF{w w1:World}{g:Nat}{o:Obj}(h:w.heap[g]? =some o)(hb:Below w.heap.size w w1):w1.heap[g]? =some o:=(hb.block g (uZ h)).trans h
theorem blk_new(w:World)(o:Obj):(w.alloc o).heap[w.heap.size]? =some o:=heap_alloc_new w o
section
variable {P:Program}
theorem jG{fn:Func}{p u:Tmp}{ty:TypeId}(h:fn.results= #[.cell p ty,.tmp u])(tmps:Array Value)(w:World)(g:Nat)(t:TypeId)(cs:Array Value)(fr:Nat×Nat)(d:TypeDesc)
 (hp:tmps.getD p undef= .pointer (some ⟨g,0,none⟩)) (hg:w.heap[g]? =some (.cells cs t fr))
 (hu:P.underlying ty=some d) (hd:(match d with | .struct _| .array _ _=>true|_=>false)=true) (hi:(P.info? ty).map (·.size)=some cs.size) :
 (results fn tmps).run P w= .ok (.tuple #[.agg cs,tmps.getD u undef]) w:=by
 have hp':tmps[p]?.getD undef= .pointer (some ⟨g,0,none⟩):=by simpa using hp
 simp[results,h,hp',asAddr,run_loadVar_row w g t ty cs fr d hg hu hd hi]
end
theorem own_le{w:World}{base n m c size:Nat}{e:TypeId}{A:Option Addr}{xs:List Value}(h:w.ownsRow base e size (.slice A m c) n xs):m≤c:=by
 rcases h.2 with ⟨he,_⟩|⟨g,cap,cur,he,_,_,hnc,_⟩
 ·injection he with _ h2 h3
  omega
 ·injection he with _ h2 h3
  omega
def rX{α:Type}(R:α→List Value→Prop)(e:TypeId)(size:Nat)(w:World)(base:Nat)(v:Value)(ps:List α):Prop:=
 ∃inner,w.ownsRow base e size v ps.length inner∧Reps R size ps inner
section
variable {α:Type} {R R':α→List Value→Prop} {e:TypeId} {size:Nat} {w w1:World} {base:Nat} {v:Value} {ps:List α}
theorem rX.none_(R:α→List Value→Prop)(e:TypeId)(size:Nat)(w:World)(base:Nat):rX R e size w base (.slice none 0 0) []:=⟨[],own_nil _ _ _ _,Reps.none _ _⟩
theorem rX.imp_(h:rX R e size w base v ps)(hR:∀p c,R p c→R' p c):rX R' e size w base v ps:=by
 obtain⟨inner,ho,hr⟩:=h;exact⟨inner,ho,hr.imp_ hR⟩
theorem rX.reads(h:rX R e size w base v ps):∃A c,v= .slice A ps.length c∧ps.length≤c∧nX R size w A ps.length ps:=by
 obtain⟨inner,ho,hr⟩:=h;obtain⟨A,c,rfl,hrow⟩:=own_reads_row ho hr rfl;exact⟨A,c,rfl,own_le ho,hrow⟩
end
structure Kd(α:Type) where
 sz:Nat
 E:List Nat
 K:World→α→List Value→Prop
 M:World→Nat→(Nat→Prop)→α→List Value→Prop
 K_len:∀{w x cs},K w x cs→cs.length=sz
 K_one:∀{w x cs},K w x cs→∀u∈cs,u.oneCell'=true
 K_below:∀{w w1:World} {x cs},Below w.heap.size w w1→K w x cs→K w1 x cs
 K_of_M:∀{w base ok x cs},M w base ok x cs→K w x cs
 M_mono:∀{w base ok ok' x cs},(∀k,ok k→ok' k)→M w base ok x cs→M w base ok' x cs
 M_bound:∀{w:World} {base ok x cs},M w base ok x cs→M w base (fun k=>ok k∧base≤k∧k<w.heap.size∧∃q,q∈E∧∃cells,w.heap[k]? =some (.cells cells q (0,0))) x cs
 M_move:∀{w w1:World} {base ok x cs},(∀k,ok k→w1.heap[k]? =w.heap[k]?)→M w base ok x cs→M w1 base ok x cs
 M_lower:∀{w base base' ok x cs},base'≤base→M w base ok x cs→M w base' ok x cs
theorem xR{w w1:World}{base:Nat}{e:TypeId}{size n:Nat}{v:Value}{xs:List Value}(h:w.ownsRow base e size v n xs)(hm:∀k,v.ownBlock=some k→w1.heap[k]? =w.heap[k]?):w1.ownsRow base e size v n xs:=by
 obtain⟨h1,h2⟩:=h;refine⟨h1,?_⟩;rcases h2 with h2|⟨g,cap,cur,rfl,hg,hh,r⟩
 ·exact .inl h2
 ·exact .inr ⟨g,cap,cur,rfl,hg,(hm g (by simp[Value.ownBlock])).trans hh,r⟩
theorem wM{w:World}{base:Nat}{e:TypeId}{size n:Nat}{v:Value}{xs:List Value}(h:w.ownsRow base e size v n xs)(k:Nat)(hk:v.ownBlock=some k):∃cells,w.heap[k]? =some (.cells cells e (0,0)):=by
 rcases h.2 with ⟨rfl,_⟩|⟨g,cap,cur,rfl,hg,hh,r⟩
 ·simp[Value.ownBlock] at hk
 ·have:g=k:=by simpa[Value.ownBlock] using hk
  subst this;exact⟨cur,hh⟩
namespace Kd
def C{α:Type}(d:Kd α)(w:World)(A:Option Addr)(n:Nat)(xs:List α):Prop:=nX (d.K w) d.sz w A n xs
def R{α:Type}(d:Kd α)(e:Nat)(w:World)(base:Nat)(ok:Nat→Prop)(v:Value)(xs:List α):Prop:=
 (∀k,v.ownBlock=some k→ok k)∧rX (d.M w base (fun k=>ok k∧some k≠v.ownBlock)) e d.sz w base v xs
section
variable {α:Type} {d:Kd α} {e:Nat} {w w1:World} {base:Nat} {ok ok':Nat→Prop} {v:Value} {xs:List α}
theorem qF{A:Option Addr}{n:Nat}(h:d.C w A n xs)(hb:Below w.heap.size w w1):d.C w1 A n xs:=nX.imp_ h hb (fun _ _ hp=>d.K_below hb hp)
theorem R_nil(d:Kd α)(e:Nat)(w:World)(base:Nat)(ok:Nat→Prop):d.R e w base ok (.slice none 0 0) []:=⟨fun k hk=>by simp[Value.ownBlock] at hk,rX.none_ _ _ _ _ _⟩
theorem jO(h:d.R e w base ok v xs)(hok:∀k,ok k→ok' k):d.R e w base ok' v xs:=⟨fun k hk=>hok k (h.1 k hk),h.2.imp_ (fun _ _ hp=>d.M_mono (fun k hk=>⟨hok k hk.1,hk.2⟩) hp)⟩
theorem oJ(h:d.R e w base ok v xs):d.R e w base (fun k=>ok k∧base≤k∧k<w.heap.size∧∃q,q∈e::d.E∧∃cells,w.heap[k]? =some (.cells cells q (0,0))) v xs:=by
 obtain⟨h0,inner,ho,hr⟩:=h;refine⟨fun k hk=> ?_,inner,ho,hr.imp_ (fun _ _ hp=>d.M_mono (fun k hk=> ?_) (d.M_bound hp))⟩
 ·obtain⟨cells,hc⟩:=wM ho k hk
  exact⟨h0 k hk,own_base ho k hk,own_lt ho k hk,e,List.mem_cons_self,cells,hc⟩
 ·obtain⟨⟨h1,h2⟩,h3,h4,q,hq,hc⟩:=hk
  exact⟨⟨h1,h3,h4,q,List.mem_cons_of_mem _ hq,hc⟩,h2⟩
theorem R_move(h:d.R e w base ok v xs)(hm:∀k,ok k→w1.heap[k]? =w.heap[k]?):d.R e w1 base ok v xs:=by
 obtain⟨h0,inner,ho,hr⟩:=h;exact⟨h0,inner,xR ho (fun k hk=>hm k (h0 k hk)),hr.imp_ (fun _ _ hp=>d.M_move (fun k hk=>hm k hk.1) hp)⟩
theorem jF{base':Nat}(h:d.R e w base ok v xs)(hb:base'≤base):d.R e w base' ok v xs:=by
 obtain⟨h0,inner,ho,hr⟩:=h;exact⟨h0,inner,zZ ho hb,hr.imp_ (fun _ _ hp=>d.M_lower hb hp)⟩
theorem R_step(h:d.R e w base ok v xs)(hm:∀k,ok k→k<w.heap.size→w1.heap[k]? =w.heap[k]?):d.R e w1 base ok v xs:=
 jO (R_move (oJ h) (fun k hk=>hm k hk.1 hk.2.2.1)) (fun _ hk=>hk.1)
theorem M_step{x:α}{cs:List Value}(h:d.M w base ok x cs)(hm:∀k,ok k→k<w.heap.size→w1.heap[k]? =w.heap[k]?):d.M w1 base ok x cs:=
 d.M_mono (fun _ hk=>hk.1) (d.M_move (fun k hk=>hm k hk.1 hk.2.2.1) (d.M_bound h))
theorem dD(h:d.R e w base ok v xs)(hb:Below w.heap.size w w1):d.R e w1 base ok v xs:=R_step h (fun k _ hk=>hb.block k hk)
theorem M_below{x:α}{cs:List Value}(h:d.M w base ok x cs)(hb:Below w.heap.size w w1):d.M w1 base ok x cs:=M_step h (fun k _ hk=>hb.block k hk)
theorem R_grown(h:d.R e w base ok v xs){row:Option Nat}(hg:w.grownBy w1 row)(hok:∀k,ok k→some k≠row):d.R e w1 base ok v xs:=R_step h (fun k ho hk=>hg.block k hk (hok k ho))
theorem sF(h:d.R e w base ok v xs){p:Addr}(hok:∀k,ok k→k≠p.block)(u:Value):d.R e (w.setCell p u) base ok v xs:=R_step h (fun k ho _=>Below.heap_setCell w p u k (hok k ho))
theorem R_types(h:d.R e w base ok v xs){g t:Nat}{cells:Array Value}(hb:w.heap[g]? =some (.cells cells t (0,0)))(ht:∀q,q∈e::d.E→q≠t):d.R e w base (fun k=>ok k∧k≠g) v xs:=
 jO (oJ h) (fun k hk=>⟨hk.1,by
  obtain⟨_,_,_,q,hq,cells',hc⟩:=hk;rintro rfl;rw[hc] at hb
  injection hb with hb
  injection hb with _ hb
  exact ht q hq hb⟩)
theorem R_reads(h:d.R e w base ok v xs):∃A c,v= .slice A xs.length c∧xs.length≤c∧d.C w A xs.length xs:=by
 obtain⟨A,c,he,hl,hr⟩:=rX.reads h.2;exact⟨A,c,he,hl,hr.imp_ (Below.refl _ _) (fun _ _ hp=>d.K_of_M hp)⟩
theorem gY(h:d.R e w base ok v xs):∃A c,v= .slice A xs.length c:=by
 obtain⟨A,c,he,_⟩:=R_reads h;exact⟨A,c,he⟩
theorem R_own(h:d.R e w base ok v xs):∃inner,w.ownsRow base e d.sz v xs.length inner:=by
 obtain⟨_,inner,ho,_⟩:=h;exact⟨inner,ho⟩
end
def scalar{α:Type}(enc:α→Value)(h1:∀x,(enc x).oneCell'=true):Kd α where
 sz:=1
 E:= []
 K:=fun _ x cs=>cs= [enc x]
 M:=fun _ _ _ x cs=>cs= [enc x]
 K_len:=fun h=>by rw[h];rfl
 K_one:=fun h u hu=>by
  rw[h] at hu;rw[List.mem_singleton.1 hu];exact h1 _
 K_below:=fun _ h=>h
 K_of_M:=fun h=>h
 M_mono:=fun _ h=>h
 M_bound:=fun h=>h
 M_move:=fun _ h=>h
 M_lower:=fun _ h=>h
def int(k:IntKind):Kd Int:=scalar (Value.int k) (fun _=>rfl)
def bool:Kd Bool:=scalar Value.bool (fun _=>rfl)
def string:Kd ByteArray:=scalar Value.string (fun _=>rfl)
def slice{α:Type}(e:Nat)(d:Kd α):Kd (List α) where
 sz:=1
 E:=e::d.E
 K:=fun w xs cs=>∃A c,cs= [.slice A xs.length c]∧xs.length≤c∧d.C w A xs.length xs
 M:=fun w base ok xs cs=>∃v,cs= [v]∧d.R e w base ok v xs
 K_len:=by
  rintro w x cs ⟨A,c,rfl,_⟩;rfl
 K_one:=by
  rintro w x cs ⟨A,c,rfl,_⟩ u hu;rw[List.mem_singleton.1 hu];rfl
 K_below:=by
  rintro w w1 x cs hb ⟨A,c,rfl,hl,hr⟩;exact⟨A,c,rfl,hl,qF hr hb⟩
 K_of_M:=by
  rintro w base ok x cs ⟨v,rfl,h⟩;obtain⟨A,c,rfl,hl,hr⟩:=R_reads h;exact⟨A,c,rfl,hl,hr⟩
 M_mono:=by
  rintro w base ok ok' x cs hok ⟨v,rfl,h⟩;exact⟨v,rfl,jO h hok⟩
 M_bound:=by
  rintro w base ok x cs ⟨v,rfl,h⟩;exact⟨v,rfl,oJ h⟩
 M_move:=by
  rintro w w1 base ok x cs hm ⟨v,rfl,h⟩;exact⟨v,rfl,R_move h hm⟩
 M_lower:=by
  rintro w base base' ok x cs hb ⟨v,rfl,h⟩;exact⟨v,rfl,jF h hb⟩
def pair{α β:Type}(a:Kd α)(b:Kd β):Kd (α×β) where
 sz:=a.sz+b.sz
 E:=a.E++b.E
 K:=fun w x cs=>∃c0 c1,cs=c0++c1∧a.K w x.1 c0∧b.K w x.2 c1
 M:=fun w base ok x cs=>∃c0 c1,cs=c0++c1∧a.M w base ok x.1 c0∧b.M w base ok x.2 c1
 K_len:=by
  rintro w x cs ⟨c0,c1,rfl,h0,h1⟩;rw[List.length_append,a.K_len h0,b.K_len h1]
 K_one:=by
  rintro w x cs ⟨c0,c1,rfl,h0,h1⟩ u hu;rcases List.mem_append.1 hu with hu|hu
  ·exact a.K_one h0 u hu
  ·exact b.K_one h1 u hu
 K_below:=by
  rintro w w1 x cs hb ⟨c0,c1,rfl,h0,h1⟩;exact⟨c0,c1,rfl,a.K_below hb h0,b.K_below hb h1⟩
 K_of_M:=by
  rintro w base ok x cs ⟨c0,c1,rfl,h0,h1⟩;exact⟨c0,c1,rfl,a.K_of_M h0,b.K_of_M h1⟩
 M_mono:=by
  rintro w base ok ok' x cs hok ⟨c0,c1,rfl,h0,h1⟩;exact⟨c0,c1,rfl,a.M_mono hok h0,b.M_mono hok h1⟩
 M_bound:=by
  rintro w base ok x cs ⟨c0,c1,rfl,h0,h1⟩;refine⟨c0,c1,rfl,a.M_mono ?_ (a.M_bound h0),b.M_mono ?_ (b.M_bound h1)⟩
  ·rintro k ⟨h2,h3,h4,q,hq,hc⟩
   exact⟨h2,h3,h4,q,List.mem_append_left _ hq,hc⟩
  ·rintro k ⟨h2,h3,h4,q,hq,hc⟩
   exact⟨h2,h3,h4,q,List.mem_append_right _ hq,hc⟩
 M_move:=by
  rintro w w1 base ok x cs hm ⟨c0,c1,rfl,h0,h1⟩;exact⟨c0,c1,rfl,a.M_move hm h0,b.M_move hm h1⟩
 M_lower:=by
  rintro w base base' ok x cs hb ⟨c0,c1,rfl,h0,h1⟩;exact⟨c0,c1,rfl,a.M_lower hb h0,b.M_lower hb h1⟩
def iso{α β:Type}(d:Kd α)(f:β→α):Kd β where
 sz:=d.sz
 E:=d.E
 K:=fun w x cs=>d.K w (f x) cs
 M:=fun w base ok x cs=>d.M w base ok (f x) cs
 K_len:=d.K_len
 K_one:=d.K_one
 K_below:=d.K_below
 K_of_M:=d.K_of_M
 M_mono:=d.M_mono
 M_bound:=d.M_bound
 M_move:=d.M_move
 M_lower:=d.M_lower
theorem C_get{α:Type}{d:Kd α}{w:World}{A:Option Addr}{n:Nat}{xs:List α}(h:d.C w A n xs)(z:α)(i:Int)(h0:0≤i)(h1:i<n) :
 ∃ad c,A=some ad∧c.length=d.sz∧d.K w (xs.getD i.toNat z) c∧∀j u,c[j]? =some u→w.cell? (ad.add (i.toNat*d.sz+j))=some u:=nX.get_ h z i h0 h1
theorem R_appended{α:Type}{d:Kd α}{e base:Nat}{ok okp:Nat→Prop}{W w1:World}{v v1:Value}{xs:List α}{p:α}{inner cs:List Value}(h0:∀k,v.ownBlock=some k→ok k)(hr:Reps (d.M W base (fun k=>ok k∧some k≠v.ownBlock)) d.sz xs inner)(hp:d.M W base okp p cs)(hokp:∀k,okp k→ok k∧some k≠v.ownBlock)(hfresh:∀k,W.heap.size≤k→ok k)
 (hown:w1.ownsRow base e d.sz v1 (xs.length+1) (inner++cs)) (hg:W.grownBy w1 v.ownBlock) (hat:v1.ownBlock=v.ownBlock∨∃b,v1.ownBlock=some b∧W.heap.size≤b):d.R e w1 base ok v1 (xs++ [p]):=by
 have hne:∀k,some k≠v.ownBlock→k<W.heap.size→some k≠v1.ownBlock:=by
  intro k hk hlt;rcases hat with hat|⟨b,hb,hle⟩
  ·rw[hat];exact hk
  ·rw[hb]
   intro he
   injection he with he
   omega
 have step:∀{q:α} {c:List Value} {o:Nat→Prop},d.M W base o q c→(∀k,o k→ok k∧some k≠v.ownBlock)→d.M w1 base (fun k=>ok k∧some k≠v1.ownBlock) q c:=by
  intro q c o hq ho;have h1:=d.M_move (w1:=w1) (fun k hk=>hg.block k hk.2.2.1 (ho k hk.1).2) (d.M_bound hq);exact d.M_mono (fun k hk=>⟨(ho k hk.1).1,hne k (ho k hk.1).2 hk.2.2.1⟩) h1
 refine⟨fun k hk=> ?_,inner++cs,by rw[List.length_append,List.length_singleton];exact hown,?_⟩
 ·rcases hat with hat|⟨b,hb,hle⟩
  ·exact h0 k (hat▸hk)
  ·rw[hb] at hk
   injection hk with hk
   exact hfresh k aCo
 ·exact(hr.imp_ (fun _ _ hq=>step hq (fun _ hk=>hk))).snoc (step hp hokp) (d.K_len (d.K_of_M hp))
section
variable {P:Program} {ops:Array Oper} {rest:List Oper} {o:Oper} {a:Act} {Q:Exit→Act→World→Prop} {α:Type}
theorem xU(d:Kd α){w0 W:World}(base:Nat)(hgd:o.guard=none)(s x:Operand)(t e:TypeId)(z:Value)(bytes:Nat)
 (ho:o.op= .call {callee:= .builtin .append,args:=#[s,x],argTypes:=#[t,t]})
 (ht:P.underlying t=some (.slice e)) (hinfo:(P.info? e).map (fun i=>(i.zero,i.size,i.bytes))=some (some z,d.sz,bytes)) (hz:z.cells.size=d.sz) (hs0:0<d.sz) (hb0:0<bytes)
 (v:Value) (xs:List α) (p:α) (cs:List Value) (ok okp:Nat→Prop) (hs:a.eval s=v) (hx:a.eval x= .slice (some ⟨W.heap.size,0,none⟩) 1 1) (hp:d.M W base okp p cs) (hokp:∀k,okp k→ok k∧some k≠v.ownBlock) (hfresh:∀k,W.heap.size≤k→ok k)
 (HO:d.R e W base ok v xs) (HB:Below base w0 W) (hbase:base≤W.heap.size) (hl:(xs.length+1)*bytes≤140737488355328)
 (h:∀v1 w1,d.R e w1 base ok v1 (xs++ [p])→Below base w0 w1→W.grownBy w1 v.ownBlock→(v1.ownBlock=v.ownBlock∨∃b,v1.ownBlock=some b∧W.heap.size≤b)→wpList P ops Q rest (a.put o.dst v1) w1) :
 wpList P ops Q (o::rest) a (W.alloc (.cells cs.toArray e)):=by
 obtain⟨h0,inner,hown,hr⟩:=HO;refine aAj base hgd s x t e z d.sz bytes ho ht hinfo hz hs0 hb0 v xs.length inner cs hs hx (d.K_len (d.K_of_M hp)) (d.K_one (d.K_of_M hp)) hown HB hbase hl ?_;intro v1 w1 hown1 hb1 hg1 hat1;exact h v1 w1 (R_appended h0 hr hp hokp hfresh hown1 hg1 hat1) hb1 hg1 hat1
end
theorem reps_scalar{α:Type}{enc:α→Value}(xs:List α):Reps (fun(x:α) (cs:List Value)=>cs= [enc x]) 1 xs (encs enc xs):=by
 refine⟨by simp[encs],fun j p hj=> ?_⟩;obtain⟨hl,hp⟩:=List.getElem?_eq_some_iff.1 hj;have hl':j<(encs enc xs).length:=by rw[aB2];exact hl
 rw[Nat.mul_one,List.drop_eq_getElem_cons hl']
 simp[encs,hp]
theorem R_of_own{α:Type}{enc:α→Value}{h1:∀x,(enc x).oneCell'=true}{e:Nat}{w:World}{base:Nat}{ok:Nat→Prop}{v:Value}{xs:List α}(ho:w.ownsRow base e 1 v xs.length (encs enc xs))(hok:∀k,v.ownBlock=some k→ok k):(scalar enc h1).R e w base ok v xs:=⟨hok,encs enc xs,ho,reps_scalar xs⟩
theorem own_of_R{α:Type}{enc:α→Value}{h1:∀x,(enc x).oneCell'=true}{e:Nat}{w:World}{base:Nat}{ok:Nat→Prop}{v:Value}{xs:List α}(h:(scalar enc h1).R e w base ok v xs):w.ownsRow base e 1 v xs.length (encs enc xs):=by
 obtain⟨_,inner,ho,hr⟩:=h
 have:inner=encs enc xs:=by
  apply List.ext_getElem?
  intro j;rcases Nat.lt_or_ge j xs.length with hj|hj
  ·have h2:=hr.2 j _ (List.getElem?_eq_getElem hj)
   have hl:j<inner.length:=by have:=hr.1;simp[scalar] at this;omega
   have h3:(inner.drop (j*1)).take 1= [enc xs[j]]:=h2;rw[Nat.mul_one,List.drop_eq_getElem_cons hl] at h3
   have h4:inner[j]=enc xs[j]:=by
    have h5:=congrArg List.head? h3;rw[List.take_succ_cons] at h5;exact Option.some.inj h5
   rw[List.getElem?_eq_getElem hl,h4]
   simp[encs,List.getElem?_eq_getElem hj]
  ·have h3:inner.length=xs.length:=by have:=hr.1;simp[scalar] at this;omega
   rw[List.getElem?_eq_none aCo,List.getElem?_eq_none (by rw[aB2];omega)]
 rw[←this];exact ho
theorem aBh{α:Type}{enc:α→Value}{d:α}{h1:∀x,(enc x).oneCell'=true}{w:World}{A:Option Addr}{n:Nat}{xs:List α}(h:(scalar enc h1).C w A n xs):zG enc d w A n xs:=by
 refine⟨h.1,h.2.1,fun hn=> ?_⟩;obtain⟨ad,e,hc⟩:=h.2.2 hn;refine⟨ad,e,fun j hj=> ?_⟩;have hl:j<xs.length:=by have:=h.1;omega
 obtain⟨c,_,hK,hcell⟩:=hc j _ (List.getElem?_eq_getElem hl);have hK':c= [enc xs[j]]:=hK;subst hK';have:=hcell 0 _ rfl
 simpa[scalar,List.getD_eq_getElem?_getD,List.getElem?_eq_getElem hl] using this
end Kd
namespace Kd
section
variable {α β:Type} {d:Kd α} {d':Kd β} {e e':Nat} {w w1 W:World} {base b b':Nat} {ok ok' okv oku:Nat→Prop} {v u:Value} {xs:List α} {ys:List β}
theorem aX(h:d.R e w base ok v xs)(o:Obj):d.R e (w.alloc o) base ok v xs:=dD h (cZ (Below.refl _ _) o)
theorem bP(h:d.R e w base ok v xs):d.R e w.drew base ok v xs:=dD h (zY (Below.refl _ _))
theorem aY(h:d.R e w base ok v xs)(m:Nat):d.R e (w.drewN m) base ok v xs:=dD h (bH (Below.refl _ _) m)
theorem iZ{A:Option Addr}{n:Nat}(h:d.C w A n xs)(o:Obj):d.C (w.alloc o) A n xs:=qF h (cZ (Below.refl _ _) o)
theorem jR{A:Option Addr}{n:Nat}(h:d.C w A n xs):d.C w.drew A n xs:=qF h (zY (Below.refl _ _))
theorem jA{A:Option Addr}{n:Nat}(h:d.C w A n xs)(m:Nat):d.C (w.drewN m) A n xs:=qF h (bH (Below.refl _ _) m)
theorem C_nil(d:Kd α)(w:World):d.C w none ([]:List α).length []:=⟨rfl,by simp,fun h=>absurd h (Nat.lt_irrefl 0)⟩
theorem dH{A:Option Addr}{n c:Nat}(h:d.R e w base ok (.slice A n c) xs):n=xs.length∧n≤c∧d.C w A xs.length xs:=by
 obtain⟨A',c',he,hl,hr⟩:=R_reads h
 injection he with h1 h2 h3
 subst h1;exact⟨h2,by omega,hr⟩
theorem R_lt(h:d.R e w base ok v xs):∀k,v.ownBlock=some k→k<w.heap.size:=by
 obtain⟨inner,ho⟩:=R_own h;exact own_lt ho
theorem R_base(h:d.R e w base ok v xs):∀k,v.ownBlock=some k→base≤k:=by
 obtain⟨inner,ho⟩:=R_own h;exact own_base ho
theorem R_form(h:d.R e w base ok v xs)(hp:0<xs.length):∃g cap,v= .slice (some ⟨g,0,none⟩) xs.length cap∧base≤g∧g<w.heap.size∧∃cells,w.heap[g]? =some (.cells cells e (0,0)):=by
 obtain⟨inner,ho⟩:=R_own h;obtain⟨g,cap,he,hb,hl⟩:=ho.form hp;obtain⟨cells,hc⟩:=wM ho g (by rw[he];simp[Value.ownBlock]);exact⟨g,cap,he,hb,hl,cells,hc⟩
theorem R_elder(hu:d'.R e' W b oku u ys)(h:d.R e w1 W.heap.size okv v xs)(hb:Below W.heap.size W w1):d'.R e' w1 b (fun k=>oku k∧some k≠v.ownBlock) u ys:=by
 obtain⟨inner,ho⟩:=R_own h;exact jO (R_move (oJ hu) (fun k hk=>hb.block k hk.2.2.1)) (fun k hk=>⟨hk.1,fun he=>by have:=own_base ho k he.symm;have:=hk.2.2.1;omega⟩)
end
section
variable {w W:World} {A:Option Addr} {n:Nat}
theorem kS{k:IntKind}{xs:List Int}(h:(Kd.int k).C w A n xs)(i:Int)(h0:0≤i)(h1:i<n):∃ad,A=some ad∧w.cell? (ad.add i.toNat)=some (.int k (rd xs i)):=
 zG.at_ (aBh (enc:=Value.int k) (d:=(0:Int)) (h1:=fun _=>rfl) h) i h0 h1
theorem oW{xs:List ByteArray}(h:Kd.string.C w A n xs)(i:Int)(h0:0≤i)(h1:i<n):∃ad,A=some ad∧w.cell? (ad.add i.toNat)=some (.string (rdOf ByteArray.empty xs i)):=
 zG.at_ (aBh (enc:=Value.string) (d:=ByteArray.empty) (h1:=fun _=>rfl) h) i h0 h1
variable {α:Type} {enc:α→Value} {h1:∀x,(enc x).oneCell'=true} {e base g cap:Nat} {ok:Nat→Prop} {xs:List α}
theorem R_cell(d:α)(h:(scalar enc h1).R e W base ok (.slice (some ⟨g,0,none⟩) xs.length cap) xs)(i:Int)(h0:0≤i)(hi:i<xs.length):W.cell? ⟨g,i.toNat,none⟩=some (enc (rdOf d xs i))∧W.frozen? ⟨g,i.toNat,none⟩=false:=own_at_of (own_of_R h) i h0 hi
theorem R_put(h:(scalar enc h1).R e W base ok (.slice (some ⟨g,0,none⟩) xs.length cap) xs)(i:Int)(x:α):(scalar enc h1).R e (W.setCell ⟨g,i.toNat,none⟩ (enc x)) base ok (.slice (some ⟨g,0,none⟩) xs.length cap) (xs.set i.toNat x)∧W.grownBy (W.setCell ⟨g,i.toNat,none⟩ (enc x)) (some g):=by
 obtain⟨ho,hg⟩:=own_store_of (own_of_R h) i x;exact⟨R_of_own (by rw[List.length_set];exact ho) h.1,hg⟩
end
section
variable {P:Program} {ops:Array Oper} {rest:List Oper} {o:Oper} {a:Act} {Q:Exit→Act→World→Prop}
theorem event_run{W w1:World}{v:Value}(hgd:o.guard=none)(hrun:(execOp a.eval o).run P W= .ok (.value v) w1)(h:wpList P ops Q rest (a.put o.dst v) w1):wpList P ops Q (o::rest) a W:=by
 refine wpList_plain hgd fun K hK=> ?_
 unfold Oper.wp;rw[hrun];exact hK _ _ h
variable {α:Type}
theorem lV(d:Kd α){w0 W:World}(base e:Nat)(hgd:o.guard=none){N:Tmp}(_hd:o.dst=some N){xs:List α}{inner:List Value}{ok okp:Nat→Prop}
 (hrun:(execOp a.eval o).run P W= .ok (.value (.slice (some ⟨W.heap.size,0,none⟩) xs.length xs.length)) (W.alloc (.cells inner.toArray e)))
 (hrep:Reps (d.M W base okp) d.sz xs inner) (hok:∀k,okp k→ok k) (hfresh:ok W.heap.size) (HB:Below base w0 W) (hbase:base≤W.heap.size) (hm:xs.length≤9223372036854775807)
 (h:∀v1 w1,d.R e w1 base ok v1 xs→Below base w0 w1→W.grownBy w1 none→(∃b,v1.ownBlock=some b∧W.heap.size≤b)→wpList P ops Q rest (a.put o.dst v1) w1):wpList P ops Q (o::rest) a W:=by
 refine event_run hgd hrun (h _ _ ⟨fun k hk=> ?_,inner,?_,?_⟩ (HB.alloc hbase _) (World.grownBy_alloc W _ none) ⟨W.heap.size,by simp[Value.ownBlock],Nat.le_refl _⟩)
 ·have:W.heap.size=k:=by simpa[Value.ownBlock] using hk
  subst this;exact hfresh
 ·have h2:=World.ownsRow_lit (base:=base) (e:=e) (size:=d.sz) W inner.toArray xs.length hbase (by simpa[maxLen] using hm) (by simpa using hrep.1)
  simpa using h2
 ·refine hrep.imp_ (fun p c hp=>d.M_mono (fun k hk=>⟨hok k hk.1,fun he=> ?_⟩) (M_below (d.M_bound hp) (cZ (Below.refl _ _) _)))
  have h3:k=W.heap.size:=by simpa[Value.ownBlock] using he
  have:=hk.2.2.1;omega
theorem reps_made{α:Type}{R:α→List Value→Prop}{z:Value}{size:Nat}{z0:α}(hz:z.cells.size=size)(hs:0<size)(h0:R z0 z.cells.toList)(m:Nat):Reps R size (List.replicate m z0) (madeCells z.cells (m*size)).toList:=by
 refine⟨by simp[size_madeCells],fun j p hj=> ?_⟩;obtain⟨hjl,hp⟩:=List.getElem?_eq_some_iff.1 hj;have hjm:j<m:=by simpa using hjl
 have hp':z0=p:=by simpa using hp
 subst hp';have hle:j*size+size≤m*size:=by rw[←Nat.succ_mul];exact Nat.mul_le_mul_right _ hjm
 have:((madeCells z.cells (m*size)).toList.drop (j*size)).take size=z.cells.toList:=by
  apply List.ext_getElem
  ·simp[size_madeCells,hz]
   omega
  ·intro i h1 h2
   have hi:i<size:=by rw[Array.length_toList,hz] at h2;exact h2
   have hmod:(j*size+i)%size=i:=by
    rw[Nat.mul_comm,Nat.mul_add_mod];exact Nat.mod_eq_of_lt hi
   simp[madeCells,hz,hmod]
   rw[getElem!_pos z.cells i aCo]
 rw[this];exact h0
theorem R_make(d:Kd α){w0 W:World}(base e:Nat)(hgd:o.guard=none){N:Tmp}(hd:o.dst=some N)(t:TypeId)(x y:Operand)(ho:o.op= .makeSlice t x y)(n:Int)(hx:a.eval x= .int .i64 n)(hy:a.eval y= .int .i64 n)
 (ht:P.underlying t=some (.slice e)) (z:Value) (bytes:Nat) (hinfo:(P.info? e).map (fun i=>(i.zero,i.size,i.bytes))=some (some z,d.sz,bytes)) (hz:z.cells.size=d.sz) (hs0:0<d.sz) (hb0:0<bytes)
 (z0:α) {ok okp:Nat→Prop} (hzero:d.M W base okp z0 z.cells.toList) (hok:∀k,okp k→ok k) (hfresh:ok W.heap.size) (h0:0≤n) (hl:n.toNat*bytes≤281474976710656) (HB:Below base w0 W) (hbase:base≤W.heap.size)
 (h:∀v1 w1,d.R e w1 base ok v1 (List.replicate n.toNat z0)→Below base w0 w1→W.grownBy w1 none→(∃b,v1.ownBlock=some b∧W.heap.size≤b)→wpList P ops Q rest (a.put o.dst v1) w1):wpList P ops Q (o::rest) a W:=by
 obtain⟨m,rfl⟩:=Int.eq_ofNat_of_zero_le h0;simp only[Int.toNat_natCast] at hl h;obtain⟨i0,hi,hzz⟩:=Option.map_eq_some_iff.1 hinfo;simp only[Prod.mk.injEq] at hzz;obtain⟨hz0,hz1,hz2⟩:=hzz;have hm:m≤281474976710656:=Nat.le_trans (Nat.le_mul_of_pos_right _ hb0) hl
 have hr:=run_make (P:=P) W t e i0 z ht hi hz0 .i64 .i64 (m:Int) (m:Int) aCo aCo
  (by
    have h3:((i0.bytes*m:Nat):Int)≤281474976710656:=by rw[hz2,Nat.mul_comm];omega
    rwa [Int.natCast_mul] at h3) aCo
 simp only[Int.toNat_natCast] at hr;rw[hz1] at hr;refine lV d base e hgd hd (xs:=List.replicate m z0) (inner:=(madeCells z.cells (m*d.sz)).toList) (okp:=okp) (ok:=ok) ?_ (reps_made hz hs0 hzero m) hok hfresh HB hbase (by simp;omega) h
 simp[execOp,ho,hx,hy,hr]
end
end Kd
theorem own_take{w:World}{base n m c size:Nat}{e:TypeId}{A:Option Addr}{xs:List Value}(h:w.ownsRow base e size (.slice A n c) n xs)(hm:m≤n):w.ownsRow base e size (.slice A m c) m (xs.take (m*size)):=by
 obtain⟨h1,h2⟩:=h;refine⟨by rw[List.length_take,h1];exact Nat.min_eq_left (Nat.mul_le_mul_right _ hm),?_⟩;rcases h2 with ⟨he,h0⟩|⟨g,cap,cur,he,hb,hh,hnc,hcm,hcs,ht⟩
 ·injection he with ha _ hc
  subst ha;subst hc
  exact .inl ⟨by rw[show m=0 by omega],by omega⟩
 ·injection he with ha _ hc
  subst ha;subst hc
  refine .inr ⟨g,c,cur,rfl,hb,hh,by omega,hcm,hcs,?_⟩;rw[←ht,List.take_take,Nat.min_eq_left (Nat.mul_le_mul_right _ hm)]
section
variable {P:Program}
theorem cut_to(t e:TypeId)(kh:IntKind){i:TypeInfo}(ht:P.underlying t=some (.slice e))(hi:P.info? e=some i)(A:Option Addr)(n c:Nat)(j:Int)(h0:0≤j)(hm:j≤n)(hc:n≤c) :
 ∀W:World,(Instr.slice t (.slice A n c) none (some (.int kh j)) none).run P W= .ok (.slice A j.toNat c) W:=by
 intro W;have hel:P.elem t=e:=by simp[Program.elem,ht]
 have hu:P.underlying t=some (.slice (P.elem t)):=by rw[hel];exact ht
 have ha:(A.map fun x=>x.add 0)=A:=by cases A <;> simp[Addr.add]
 rw[run_slice_h W t A n c hu kh j h0 aCo,hel]
 simp[sizeOf,typeInfo,hi,sliced,Result.andThen,ha]
end
def QRow(w:World)(base:Nat)(e:TypeId)(size:Nat)(v:Value)(n:Nat)(xs:List Value):Prop:=
 xs.length=n*size ∧
 ((n=0∧∃A,v= .slice A 0 0∧∀a,A=some a→base≤a.block∧∃cur,w.heap[a.block]? =some (.cells cur e (0,0))) ∨
  ∃g off cap cur,v= .slice (some ⟨g,off*size,none⟩) n cap∧base≤g∧w.heap[g]? =some (.cells cur e (0,0))∧n≤cap∧off+cap≤maxLen∧cur.size=(off+cap)*size∧(cur.toList.drop (off*size)).take (n*size)=xs)
section
variable {w w1:World} {base n size:Nat} {e:TypeId} {v:Value} {xs:List Value}
theorem q_of_own(h:w.ownsRow base e size v n xs):QRow w base e size v n xs:=by
 obtain⟨h1,h2⟩:=h;refine⟨h1,?_⟩;rcases h2 with ⟨rfl,h0⟩|⟨g,cap,cur,rfl,hb,hh,hnc,hcm,hcs,ht⟩
 ·exact .inl ⟨h0,none,rfl,fun a ha=>by cases ha⟩
 ·exact .inr ⟨g,0,cap,cur,by rw[Nat.zero_mul],hb,hh,hnc,by rw[Nat.zero_add];exact hcm,by rw[Nat.zero_add];exact hcs,by rw[Nat.zero_mul,List.drop_zero];exact ht⟩
theorem add_at(g o j:Nat):(⟨g,o,none⟩:Addr).add j=⟨g,o+j,none⟩:=by unfold Addr.add;split <;> simp_all
end
namespace Kd
theorem reps_take{α:Type}{R:α→List Value→Prop}{size m:Nat}{ps:List α}{cs:List Value}(h:Reps R size ps cs)(hm:m≤ps.length):Reps R size (ps.take m) (cs.take (m*size)):=by
 refine⟨by rw[List.length_take,List.length_take,h.1,Nat.min_eq_left hm,Nat.min_eq_left (Nat.mul_le_mul_right _ hm)],fun j p hj=> ?_⟩;rw[List.getElem?_take] at hj
 split at hj
 ·rename_i hjm
  have:=h.2 j p hj;have hle:j*size+size≤m*size:=by rw[←Nat.succ_mul];exact Nat.mul_le_mul_right _ hjm
  rw[List.drop_take,List.take_take,Nat.min_eq_left aCo];exact this
 ·cases hj
theorem R_take{α:Type}{d:Kd α}{e m n c:Nat}{w:World}{base:Nat}{ok:Nat→Prop}{A:Option Addr}{xs:List α}(h:d.R e w base ok (.slice A n c) xs)(hm:m≤xs.length):d.R e w base ok (.slice A m c) (xs.take m):=by
 obtain⟨h0,inner,ho,hr⟩:=h
 have hn:n=xs.length:=by
  obtain⟨A',c',he⟩:=own_slice ho
  injection he
 subst hn
 have hb:∀x y:Nat,(Value.slice A x c).ownBlock=(Value.slice A y c).ownBlock:=by
  intro x y
  cases A <;> rfl
 refine⟨fun k hk=>h0 k (by rw[hb _ m];exact hk),inner.take (m*d.sz),?_,?_⟩
 ·rw[List.length_take,Nat.min_eq_left hm]
  exact own_take ho hm
 ·rw[hb m xs.length]
  exact reps_take hr hm
def Q{α:Type}(d:Kd α)(e:Nat)(w:World)(base:Nat)(ok:Nat→Prop)(v:Value)(xs:List α):Prop:=
 (∀k,v.ownBlock=some k→ok k)∧∃inner,QRow w base e d.sz v xs.length inner∧Reps (d.M w base (fun k=>ok k∧some k≠v.ownBlock)) d.sz xs inner
section
variable {α:Type} {d:Kd α} {e:Nat} {w w1 W:World} {base:Nat} {ok ok':Nat→Prop} {v:Value} {xs:List α}
theorem Q_of_R(h:d.R e w base ok v xs):d.Q e w base ok v xs:=by
 obtain⟨h0,inner,ho,hr⟩:=h;exact⟨h0,inner,q_of_own ho,hr⟩
theorem Q_nil(d:Kd α)(e:Nat)(w:World)(base:Nat)(ok:Nat→Prop):d.Q e w base ok (.slice none 0 0) []:=Q_of_R (R_nil d e w base ok)
end
end Kd
namespace Kd
section
variable {α:Type} {d:Kd α} {e e':Nat} {w w1 W:World} {base:Nat} {ok:Nat→Prop} {u v:Value} {xs:List α}
theorem R_typed(h:d.R e w base ok v xs):∀k,v.ownBlock=some k→∃cells,w.heap[k]? =some (.cells cells e (0,0)):=by
 obtain⟨inner,ho⟩:=R_own h;exact fun k hk=>wM ho k hk
theorem R_over'(h:d.R e W base ok u xs)(hty:∀k,v.ownBlock=some k→∃cells,W.heap[k]? =some (.cells cells e' (0,0)))(ht:∀q,q∈e::d.E→q≠e')(hg:W.grownBy w1 v.ownBlock):d.R e w1 base ok u xs:=by
 refine jO (R_move (oJ h) (fun k hk=>hg.block k hk.2.2.1 (fun he=> ?_))) (fun _ hk=>hk.1);obtain⟨_,_,_,q,hq,cells,hc⟩:=hk;obtain⟨cells',hc'⟩:=hty k he.symm;rw[hc] at hc'
 injection hc' with hc'
 injection hc' with _ hc'
 exact ht q hq hc'
theorem aA0(hu:d.R e W base ok u xs)(hbase:∀k,v.ownBlock=some k→W.heap.size≤k)(hb:Below W.heap.size W w1):d.R e w1 base (fun k=>ok k∧some k≠v.ownBlock) u xs:=
 jO (R_move (oJ hu) (fun k hk=>hb.block k hk.2.2.1)) (fun k hk=>⟨hk.1,fun he=>by have:=hbase k he.symm;have:=hk.2.2.1;omega⟩)
theorem R_new'(h:d.R e w1 W.heap.size ok v xs)(hlt:∀k,u.ownBlock=some k→k<W.heap.size):d.R e w1 W.heap.size (fun k=>ok k∧some k≠u.ownBlock) v xs:=
 jO (oJ h) (fun k hk=>⟨hk.1,fun he=>by have:=hlt k he.symm;have:=hk.2.1;omega⟩)
theorem fresh'(hlt:∀k,u.ownBlock=some k→k<W.heap.size):∀k,W.heap.size≤k→some k≠u.ownBlock:=fun k hk he=>by have:=hlt k he.symm;omega
end
end Kd
namespace Kd
section
variable {α:Type} {k:Kd α} {w:World} {A:Option Addr} {xs:List α} {m c:Nat}
theorem C_take(h:k.C w A xs.length xs)(hm:m≤xs.length):k.C w A (xs.take m).length (xs.take m):=by
 have hl:(xs.take m).length=m:=by rw[List.length_take];omega
 refine⟨rfl,by rw[hl];have:=h.2.1;omega,fun hp=> ?_⟩;obtain⟨ad,e,hc⟩:=h.2.2 aCo;refine⟨ad,e,fun j p hj=>hc j p ?_⟩;rw[List.getElem?_take] at hj
 split at hj
 ·exact hj
 ·cases hj
end
end Kd
theorem dU{w W:World}(h:Below w.heap.size w W):w.heap.size≤W.heap.size:=h.size
theorem rE{w W w2:World}(h:Below w.heap.size w W)(k:Below W.heap.size W w2):Below w.heap.size w w2:=below_then h h.size k
theorem jX.drewN{W:World}{k:IntKind}{A:Option Addr}{n:Nat}{xs:List Int}(h:jX W k A n xs)(m:Nat):jX (W.drewN m) k A n xs:=h
theorem oZ{w W:World}{g j:Nat}{v:Value}(h:Below w.heap.size w W)(hg:w.heap.size≤g):Below w.heap.size w (W.setCell ⟨g,j,none⟩ v):=h.setCell hg _
theorem add_block(a:Addr)(i:Nat):(a.add i).block=a.block:=by unfold Addr.add;split <;> rfl
theorem aCt{W:World}{p a:Addr}(h:a.block≠p.block)(u:Value):(W.setCell p u).cell? a=W.cell? a:=by
 have:=Below.heap_setCell W p u a.block h
 simp[World.cell?,this]
theorem gX{w:World}{g:Nat}{t:TypeId}{cs cs':Array Value}(h:w.heap[g]? =some (.cells cs t (0,0)))(i:Nat)(u:Value)(e:cs.setIfInBounds i u=cs'):(w.setCell ⟨g,i,none⟩ u).heap[g]? =some (.cells cs' t (0,0)):=e▸blk_set h i u
theorem bG{base:Nat}{w W:World}(h:Below base w W):Below base w W.drew:=h.drew
namespace Kd
section
variable {α:Type} {d:Kd α} {e base g:Nat} {ok:Nat→Prop} {w w1:World} {v:Value} {xs:List α} {o:Obj}
theorem R_elderB(h:d.R e w base ok v xs)(a:Nat)(ha:w.heap.size≤a):d.R e w base (fun k=>ok k∧k≠a) v xs:=jO (oJ h) (fun k hk=>⟨hk.1,by have:=hk.2.2.1;omega⟩)
theorem jD(h:d.R e w1 w.heap.size ok v xs)(hb:w.heap[g]? =some o):d.R e w1 w.heap.size (fun k=>ok k∧k≠g) v xs:=jO (oJ h) (fun k hk=>⟨hk.1,by have:=uZ hb;have:=hk.2.1;omega⟩)
end
end Kd
section
variable {P:Program} {ops:Array Oper} {rest:List Oper} {o:Oper} {a:Act} {Q:Exit→Act→World→Prop}
theorem lL{W:World}(hgd:o.guard=none){N:Tmp}(_hd:o.dst=some N){cs:Array Value}{t:TypeId}
 (hrun:(execOp a.eval o).run P W= .ok (.value (.pointer (some ⟨W.heap.size,0,none⟩))) (W.alloc (.cells cs t (0,0))))
 (h:∀g,g=W.heap.size→∀w1,w1.heap[g]? =some (.cells cs t (0,0))→Below W.heap.size W w1→wpList P ops Q rest (a.put o.dst (.pointer (some ⟨g,0,none⟩))) w1):wpList P ops Q (o::rest) a W:=
 Kd.event_run hgd hrun (h _ rfl _ (blk_new W _) (cZ (Below.refl _ _) _))
end
namespace Kd
section
variable {α:Type} {enc:α→Value} {h1:∀x,(enc x).oneCell'=true} {e base g n cap:Nat} {ok:Nat→Prop} {W:World} {xs:List α}
theorem R_celln(d:α)(h:(scalar enc h1).R e W base ok (.slice (some ⟨g,0,none⟩) n cap) xs)(i:Int)(h0:0≤i)(hi:i<n):W.cell? ⟨g,i.toNat,none⟩=some (enc (rdOf d xs i))∧W.frozen? ⟨g,i.toNat,none⟩=false:=by
 obtain⟨rfl,_⟩:=dH h;exact R_cell d h i h0 hi
end
end Kd
section
variable {P:Program} {ops:Array Oper} {rest:List Oper} {o:Oper} {a:Act} {Q:Exit→Act→World→Prop}
theorem aB3{W w1:World}(hgd:o.guard=none){t:TypeId}{p:Tmp}{v:Operand}(_ho:o.op= .store t (.tmp p) v)(hN:o.dst=none)
 (hrun:(execOp a.eval o).run P W= .ok .skip w1) (h:∀w',w'=w1→wpList P ops Q rest a w'):wpList P ops Q (o::rest) a W:=by
 refine wpList_plain hgd fun K hK=> ?_
 unfold Oper.wp;rw[hrun];show K (a.put o.dst undef) w1;rw[hN];exact hK _ _ (h _ rfl)
end
namespace Kd
section
variable {α:Type} {enc:α→Value} {h1:∀x,(enc x).oneCell'=true} {e base g n cap:Nat} {ok:Nat→Prop} {W:World} {xs:List α}
theorem R_putg(h:(scalar enc h1).R e W base ok (.slice (some ⟨g,0,none⟩) n cap) xs)(i:Int)(x:α):(scalar enc h1).R e (W.setCell ⟨g,i.toNat,none⟩ (enc x)) base ok (.slice (some ⟨g,0,none⟩) n cap) (xs.set i.toNat x)∧W.grownBy (W.setCell ⟨g,i.toNat,none⟩ (enc x)) (some g):=by
 obtain⟨rfl,_⟩:=dH h;exact R_put h i x
end
end Kd
section
variable {P:Program} {ops:Array Oper} {rest:List Oper} {o:Oper} {a:Act} {Q:Exit→Act→World→Prop} {W:World}
theorem aJ{N:Tmp}(_hN:o.dst=some N)(h:wpList P ops Q (o::rest) a W):wpList P ops Q (o::rest) a W:=h
theorem aBi{t:TypeId}{p:Tmp}{v:Operand}(_ho:o.op= .store t (.tmp p) v)(h:wpList P ops Q (o::rest) a W):wpList P ops Q (o::rest) a W:=h
end
end Go.Proofs.YtignanmmgaldeaaGreatDoorW.PrintWords
end
section
namespace Go.Proofs.YtignanmmgaldeaaGreatDoorW.PrintLast
section
variable {P:Program} {ops:Array Oper} {Q:Exit→Act→World→Prop} {md:Region.Mode} {S:World→Prop} {ds:List Nat}
def Region.qB(md:Region.Mode)(ops:Array Oper)(i:Nat):Nat→Nat→Bool
 |0,_=>false
 |fuel+1,d=>match ops[d]? with
  |some o=>o.after.any fun e=>Region.binds md e&&(e.on==i||Region.qB md ops i fuel e.on)
  |none=>false
def Region.zH(md:Region.Mode)(ops:Array Oper)(listed:Array Bool):Bool:=
 (List.range ops.size).all fun j=> !listed.getD j false||match ops[j]? with
   |some o=>o.after.all fun e=> !Region.binds md e||listed.getD e.on false
   |none=>true
def Region.lastB(md:Region.Mode)(ops:Array Oper)(listed:Array Bool)(ds:List Nat)(i:Nat):Bool:=
 ds.all fun d=>listed.getD d true||Region.qB md ops i ops.size d
def mP(md:Region.Mode)(ops:Array Oper)(listed:Array Bool):Prop:=
 ∀j oj,ops[j]? =some oj→listed.getD j false=true→∀e∈oj.after,Region.binds md e=true→listed.getD e.on false=true
theorem Region.closedB_spec{listed:Array Bool}(h:Region.zH md ops listed=true):mP md ops listed:=by
 intro j oj hj hl e he hb;have hlt:j<ops.size:=(Array.getElem?_eq_some_iff.1 hj).1;have h1:=List.all_eq_true.1 h j (List.mem_range.2 hlt);simp only[hl,hj,Bool.not_true,Bool.false_or] at h1;have h2:=Array.all_eq_true_iff_forall_mem.1 h1 e he
 simpa[hb] using h2
theorem mP.set{listed:Array Bool}{i:Nat}(h:mP md ops listed)(hi:i∈Region.ready md ops listed):mP md ops (listed.setIfInBounds i true):=by
 obtain⟨_,oi,hoi,hall⟩:=mem_ready.1 hi;intro j oj hj hl e he hb
 by_cases hij:i=j
 ·subst hij
  have:oj=oi:=Option.some.inj (hj.symm.trans hoi);subst this;exact getD_set_true (hall e he hb)
 ·rw[getD_set_ne false hij] at hl
  exact getD_set_true (h j oj hj hl e he hb)
theorem Region.aAk{listed:Array Bool}{i:Nat}(hc:mP md ops listed):∀(fuel d:Nat),Region.qB md ops i fuel d=true→listed.getD d false=true→listed.getD i false=true
 |0,_,h,_=>by simp[Region.qB] at h
 |fuel+1,d,h,hl=>by
  unfold Region.qB at h
  cases ho:ops[d]? with
  |none=>rw[ho] at h;simp at h
  |some o=>
   rw[ho] at h;obtain⟨e,he,h1⟩:=Array.any_eq_true'.1 h;simp only[Bool.and_eq_true,Bool.or_eq_true,beq_iff_eq] at h1;have hle:=hc d o ho hl e he h1.1;rcases h1.2 with h2|h2
   ·rw[←h2];exact hle
   ·exact Region.aAk hc fuel e.on h2 hle
theorem Region.aBj{listed:Array Bool}{i d fuel:Nat}(hc:mP md ops listed)(hr:Region.qB md ops i fuel d=true)(hun:listed.getD i true=false):d ∉ Region.ready md ops listed:=by
 intro hd;obtain⟨_,o,ho,hall⟩:=mem_ready.1 hd
 have hi:listed.getD i false=true:=by
  cases fuel with
  |zero=>simp[Region.qB] at hr
  |succ n=>
   unfold Region.qB at hr;rw[ho] at hr;obtain⟨e,he,h1⟩:=Array.any_eq_true'.1 hr;simp only[Bool.and_eq_true,Bool.or_eq_true,beq_iff_eq] at h1;have hle:=hall e he h1.1;rcases h1.2 with h2|h2
   ·rw[←h2];exact hle
   ·exact Region.aAk hc n e.on h2 hle
 rcases Nat.lt_or_ge i listed.size with h'|h'
 ·simp[h'] at hun hi
  rw[hun] at hi
  cases hi
 ·simp[Array.getElem?_eq_none h'] at hun
def fG(P:Program)(md:Region.Mode)(ops:Array Oper)(Q:Exit→Act→World→Prop)(S:World→Prop)(ds:List Nat):Nat→Array Bool→Act→World→Prop
 |0,listed,a,w=>Region.ready md ops listed= []∧Q .normal a w
 |fuel+1,listed,a,w=>
  (Region.ready md ops listed= []→Q .normal a w) ∧
  ∀i∈Region.ready md ops listed,wpOp P ops Q i (fun a' w'=>(i ∉ ds→S w→S w')∧fG P md ops Q S ds fuel (listed.setIfInBounds i true) a' w') a w
theorem aAf:∀(fuel:Nat) (listed:Array Bool) (a:Act) (w:World),fG P md ops Q S ds fuel listed a w→wpAny P md ops Q fuel listed a w
 |0,_,_,_,h=>h
 |fuel+1,_,_,_,h=>⟨h.1,fun i hi=>wpOp_mono (fun a' w' h'=>aAf fuel _ a' w' h'.2) (h.2 i hi)⟩
theorem aBk{i:Nat}{oi:Oper}{v:Value}(hi:ops[i]? =some oi)(hsel:∀(j:Nat) (o:Oper) cs b,ops[j]? =some o→o.op≠ .select cs b)
 (hQ:∀c a w,Q (.panic c) (a.put oi.dst v) w→Q (.panic c) a w) (n:Nat) :
 ∀(fuel:Nat) (listed:Array Bool) (a:Act) (w:World),
  (∀j oj,ops[j]? =some oj→j≠i→listed.getD j true=false→(∀e∈oj.after,Region.binds md e=true→e.on≠i)→oi.apart ops oj=true) →
  mP md ops listed→(∀d∈ds,listed.getD d true=false→Region.qB md ops i n d=true) →
  i∈Region.ready md ops listed→YieldsIf P ops S oi v a→S w →
  fG P md ops Q S ds fuel (listed.setIfInBounds i true) (a.put oi.dst v) w→fG P md ops Q S ds (fuel+1) listed a w:=by
 intro fuel
 induction fuel with
 |zero=>
  intro listed a w _ _ _ hr hy hS H;refine⟨fun h=>(by rw[h] at hr;cases hr),fun j hj=> ?_⟩
  by_cases hji:j=i
  ·subst hji;exact hy.wpOp hi hS ⟨fun _ h=>h,H⟩
  ·have:=ready_mono hj hji
   rw[H.1] at this
   cases this
 |succ fuel ih=>
  intro listed a w hfree hc hd hr hy hS H;refine⟨fun h=>(by rw[h] at hr;cases hr),fun j hj=> ?_⟩
  by_cases hji:j=i
  ·subst hji;exact hy.wpOp hi hS ⟨fun _ h=>h,H⟩
  ·have h1:=H.2 j (ready_mono hj hji)
   obtain⟨hjun,oj,hoj,hall⟩:=mem_ready.1 hj;have hiun:=(mem_ready.1 hr).1
   have hnot:∀e∈oj.after,Region.binds md e=true→e.on≠i:=fun e he hb heq=>by
    have h1:=hall e he hb;rw[heq] at h1;rcases Nat.lt_or_ge i listed.size with h'|h'
    ·simp[h'] at hiun h1;rw[hiun] at h1;cases h1
    ·simp[Array.getElem?_eq_none h'] at h1
   have hjd:j ∉ ds:=fun hm=>Region.aBj hc (hd j hm hjun) hiun hj
   have h2:=wpOp_putIf hoj (hfree j oj hoj hji hjun hnot) (fun cs b=>hsel i oi cs b hi) (fun cs b=>hsel j oj cs b hoj) hQ hy h1
   have hfree':∀k ok,ops[k]? =some ok→k≠i→(listed.setIfInBounds j true).getD k true=false →
    (∀e∈ok.after,Region.binds md e=true→e.on≠i)→oi.apart ops ok=true:=fun k ok hk hki hun hno=>by
    refine hfree k ok hk hki ?_ hno
    by_cases hjk:j=k
    ·subst hjk;exact hjun
    ·rw[getD_set_ne true hjk] at hun;exact hun
   have hd':∀d∈ds,(listed.setIfInBounds j true).getD d true=false→Region.qB md ops i n d=true:=fun d hm hun=>by
    refine hd d hm ?_
    by_cases hjk:j=d
    ·subst hjk;exact hjun
    ·rw[getD_set_ne true hjk] at hun;exact hun
   refine wpOp_mono (fun a' w' h3=>⟨h3.2.1,ih (listed.setIfInBounds j true) a' w' hfree' (hc.set hj) hd' (ready_mono hr (Ne.symm hji)) h3.1 (h3.2.1 hjd hS) ?_⟩) h2;rw[Array.setIfInBounds_comm _ _ hji];exact h3.2.2
theorem wpAnyLast_any{i:Nat}{oi:Oper}{v:Value}(hi:ops[i]? =some oi)(hsel:∀(j:Nat) (o:Oper) cs b,ops[j]? =some o→o.op≠ .select cs b)
 (hQ:∀c a w,Q (.panic c) (a.put oi.dst v) w→Q (.panic c) a w) :
 ∀(fuel:Nat) (listed:Array Bool) (a:Act) (w:World),
  (∀j oj,ops[j]? =some oj→j≠i→listed.getD j true=false→(∀e∈oj.after,Region.binds md e=true→e.on≠i)→oi.apart ops oj=true) →
  i∈Region.ready md ops listed→Yields P ops oi v a →
  fG P md ops Q S ds fuel (listed.setIfInBounds i true) (a.put oi.dst v) w→fG P md ops Q S ds (fuel+1) listed a w:=by
 intro fuel
 induction fuel with
 |zero=>
  intro listed a w _ hr hy H;refine⟨fun h=>(by rw[h] at hr;cases hr),fun j hj=> ?_⟩
  by_cases hji:j=i
  ·subst hji;exact(hy.yieldsIf (S:=fun _=>True)).wpOp hi trivial ⟨fun _ h=>h,H⟩
  ·have:=ready_mono hj hji
   rw[H.1] at this
   cases this
 |succ fuel ih=>
  intro listed a w hfree hr hy H;refine⟨fun h=>(by rw[h] at hr;cases hr),fun j hj=> ?_⟩
  by_cases hji:j=i
  ·subst hji;exact(hy.yieldsIf (S:=fun _=>True)).wpOp hi trivial ⟨fun _ h=>h,H⟩
  ·have h1:=H.2 j (ready_mono hj hji)
   obtain⟨hjun,oj,hoj,hall⟩:=mem_ready.1 hj;have hiun:=(mem_ready.1 hr).1
   have hnot:∀e∈oj.after,Region.binds md e=true→e.on≠i:=fun e he hb heq=>by
    have h1:=hall e he hb;rw[heq] at h1;rcases Nat.lt_or_ge i listed.size with h'|h'
    ·simp[h'] at hiun h1;rw[hiun] at h1;cases h1
    ·simp[Array.getElem?_eq_none h'] at h1
   have h2:=wpOp_put hoj (hfree j oj hoj hji hjun hnot) (fun cs b=>hsel i oi cs b hi) (fun cs b=>hsel j oj cs b hoj) hQ hy h1
   have hfree':∀k ok,ops[k]? =some ok→k≠i→(listed.setIfInBounds j true).getD k true=false →
    (∀e∈ok.after,Region.binds md e=true→e.on≠i)→oi.apart ops ok=true:=fun k ok hk hki hun hno=>by
    refine hfree k ok hk hki ?_ hno
    by_cases hjk:j=k
    ·subst hjk;exact hjun
    ·rw[getD_set_ne true hjk] at hun;exact hun
   refine wpOp_mono (fun a' w' h3=>⟨h3.2.1,ih (listed.setIfInBounds j true) a' w' hfree' (ready_mono hr (Ne.symm hji)) h3.1 ?_⟩) h2;rw[Array.setIfInBounds_comm _ _ hji];exact h3.2.2
theorem aCg{i:Nat}{oi:Oper}{v:Value}{fuel:Nat}{listed:Array Bool}{a:Act}{w:World}(hi:ops[i]? =some oi)
 (hs:Region.noSelect ops=true) (hf:Region.free md ops listed i=true) (hr:(Region.ready md ops listed).contains i=true)
 (hc:Region.zH md ops listed=true) (hl:Region.lastB md ops listed ds i=true)
 (hQ:∀c a w,Q (.panic c) (a.put oi.dst v) w→Q (.panic c) a w) (hy:YieldsIf P ops S oi v a) (hS:S w)
 (h:fG P md ops Q S ds fuel (listed.setIfInBounds i true) (a.put oi.dst v) w):fG P md ops Q S ds (fuel+1) listed a w:=
 aBk hi (Region.noSelect_spec hs) hQ ops.size fuel listed a w (Region.free_spec hi hf) (Region.closedB_spec hc)
  (fun d hm hun=>by have:=List.all_eq_true.1 hl d hm;rw[hun] at this;simpa using this) (by simpa using hr) hy hS h
theorem wpAnyLast_all{rs:List Nat}{fuel:Nat}{listed:Array Bool}{a:Act}{w:World}(hr:Region.ready md ops listed=rs)(hne:rs≠ [])
 (h:∀i∈rs,wpOp P ops Q i (fun a' w'=>(i ∉ ds→S w→S w')∧fG P md ops Q S ds fuel (listed.setIfInBounds i true) a' w') a w):fG P md ops Q S ds (fuel+1) listed a w:=
 ⟨fun h0=>absurd (hr▸h0) hne,hr▸h⟩
theorem aCh{listed:Array Bool}{a:Act}{w:World}(hr:Region.ready md ops listed= [])(h:Q .normal a w) :
 ∀fuel,fG P md ops Q S ds fuel listed a w
 |0=>⟨hr,h⟩
 |_+1=>⟨fun _=>h,by rw[hr];simp⟩
theorem aCi{id:Nat}{a:Act}{w:World}(hm:P.follows .mixedOrders=true)
 (h:fG P .any ops Q S ds ops.size (Array.replicate ops.size false) a {w with drawn:=w.drawn+1}):(Code.region id ops true).wp P Q a w:=
 wp_region_any hm (aAf _ _ _ _ h)
end
section
variable {P:Program} {ops:Array Oper} {Q:Exit→Act→World→Prop} {md:Region.Mode} {S:World→Prop} {ds:List Nat}
def pF(P:Program)(md:Region.Mode)(ops:Array Oper)(Q:Exit→Act→World→Prop)(S:World→Prop)(ds:List Nat)(fuel:Nat)(listed:Array Bool)(a:Act)(w:World)(rs:List Nat):Prop:=
 ∀i∈rs,wpOp P ops Q i (fun a' w'=>(i ∉ ds→S w→S w')∧fG P md ops Q S ds fuel (listed.setIfInBounds i true) a' w') a w
theorem pF.nil{fuel:Nat}{listed:Array Bool}{a:Act}{w:World}:pF P md ops Q S ds fuel listed a w []:=fun _ h=>by cases h
theorem pF.cons{fuel:Nat}{listed:Array Bool}{a:Act}{w:World}{i:Nat}{o:Oper}{rs:List Nat}(ho:ops[i]? =some o)(hd:i ∉ ds)
 (h:∀K':Act→World→Prop,Shut (∀a w,S w→(S w→fG P md ops Q S ds fuel (listed.setIfInBounds i true) a w)→K' a w)→if Region.wanted o (yielded ops a.tmps)=true then Oper.wp P o a w K' Q else K' (a.put o.dst undef) w)
 (hs:pF P md ops Q S ds fuel listed a w rs):pF P md ops Q S ds fuel listed a w (i::rs):=fun j hj=>by
 rcases List.mem_cons.1 hj with rfl|hj
 ·exact wpOp_step ho (fun K' hK=>h K' (fun a w hS hW=>hK a w ⟨fun _ _=>hS,hW hS⟩))
 ·exact hs j hj
theorem aBl{rs:List Nat}{fuel:Nat}{listed:Array Bool}{a:Act}{w:World}(hr:Region.ready md ops listed=rs)(hne:rs≠ [])
 (h:pF P md ops Q S ds fuel listed a w rs):fG P md ops Q S ds (fuel+1) listed a w:=wpAnyLast_all hr hne h
theorem jY{id n:Nat}{a:Act}{w:World}(l:Array Bool)(hm:P.follows .mixedOrders=true)(hn:ops.size=n)(hl:Array.replicate n false=l)(hS:S w.drew)
 (h:S w.drew→fG P .any ops Q S ds n l a w.drew):(Code.region id ops true).wp P Q a w:=by
 subst hn;subst hl;exact aCi hm (h hS)
def takeB(md:Region.Mode)(ops:Array Oper)(ds:List Nat)(l l':Array Bool)(i:Nat):Bool:=
 Region.noSelect ops&&Region.free md ops l i&&(Region.ready md ops l).contains i&&Region.zH md ops l&&Region.lastB md ops l ds i&&(l.setIfInBounds i true==l')
theorem take_{i:Nat}{N:Option Tmp}{oi:Oper}{v:Value}{fuel:Nat}{l:Array Bool}{a:Act}{w:World}(l':Array Bool)(hi:ops[i]? =some oi)(hN:oi.dst=N)(hc:takeB md ops ds l l' i=true)
 (hQ:∀c a w,Q (.panic c) (a.put oi.dst v) w→Q (.panic c) a w) (hy:YieldsIf P ops S oi v a) (hS:S w) {a':Act} (ha:a.put N v=a')
 (h:fG P md ops Q S ds fuel l' a' w):fG P md ops Q S ds (fuel+1) l a w:=by
 subst ha;subst hN;simp only[takeB,Bool.and_eq_true,beq_iff_eq] at hc;obtain⟨⟨⟨⟨⟨h1,h2⟩,h3⟩,h4⟩,h5⟩,h6⟩:=hc;subst h6;exact aCg hi h1 h2 h3 h4 h5 hQ hy hS h
def anyB(md:Region.Mode)(ops:Array Oper)(l l':Array Bool)(i:Nat):Bool:=
 Region.noSelect ops&&Region.free md ops l i&&(Region.ready md ops l).contains i&&(l.setIfInBounds i true==l')
theorem pure_{i:Nat}{N:Option Tmp}{oi:Oper}{v:Value}{fuel:Nat}{l:Array Bool}{a:Act}{w:World}(l':Array Bool)(hi:ops[i]? =some oi)(hN:oi.dst=N)(hc:anyB md ops l l' i=true)
 (hQ:∀c a w,Q (.panic c) (a.put oi.dst v) w→Q (.panic c) a w) (hy:Yields P ops oi v a) {a':Act} (ha:a.put N v=a')
 (h:fG P md ops Q S ds fuel l' a' w):fG P md ops Q S ds (fuel+1) l a w:=by
 subst ha;subst hN;simp only[anyB,Bool.and_eq_true,beq_iff_eq] at hc;obtain⟨⟨⟨h1,h2⟩,h3⟩,h6⟩:=hc;subst h6;exact wpAnyLast_any hi (Region.noSelect_spec h1) hQ fuel l a w (Region.free_spec hi h2) (by simpa using h3) hy h
def readyB(md:Region.Mode)(ops:Array Oper)(l l':Array Bool)(i:Nat):Bool:=(Region.ready md ops l== [i])&&(l.setIfInBounds i true==l')
theorem one_{i:Nat}{N:Option Tmp}{oi:Oper}{fuel:Nat}{l:Array Bool}{a:Act}{w:World}(l':Array Bool)(hi:ops[i]? =some oi)(hN:oi.dst=N)(hc:readyB md ops l l' i=true)(hd:i ∉ ds)
 (h:∀K:Act→World→Prop,Shut (∀a' w',S w'→(S w'→fG P md ops Q S ds fuel l' a' w')→K a' w')→if Region.wanted oi (yielded ops a.tmps)=true then Oper.wp P oi a w K Q else K (a.put N undef) w) :
 fG P md ops Q S ds (fuel+1) l a w:=by
 subst hN;simp only[readyB,Bool.and_eq_true,beq_iff_eq] at hc;obtain⟨h1,h2⟩:=hc;subst h2;exact aBl h1 aCq (pF.cons hi hd (fun K hK=>h K hK) pF.nil)
theorem kT{l:Array Bool}{a:Act}{w:World}{n:Nat}(hr:(Region.ready md ops l== [])=true)(h:Q .normal a w):fG P md ops Q S ds n l a w:=aCh (by simpa using hr) h n
theorem gG{fuel:Nat}{l:Array Bool}{a a':Act}{w:World}(ha:a=a')(h:fG P md ops Q S ds fuel l a' w):fG P md ops Q S ds fuel l a w:=by
 subst ha;exact h
theorem call_{oi:Oper}{N:Option Tmp}{a:Act}{w:World}{K:Act→World→Prop}(f:FuncId)(args:Array Value)(hw:Region.wanted oi (yielded ops a.tmps)=true)(hN:oi.dst=N)(hrun:(execOp a.eval oi).run P w= .ok (.enter f args) w)
 (h:Calls P f args w fun e w'=>∃v,e= .returned v∧K (a.put N v) w'):if Region.wanted oi (yielded ops a.tmps)=true then Oper.wp P oi a w K Q else K (a.put N undef) w:=by
 rw[if_pos hw];subst hN;unfold Oper.wp;rw[hrun,Oper.upon_enter];refine h.mono fun e w'' hh=> ?_
 obtain⟨v,rfl,hk⟩:=hh;exact hk
theorem enters_{f:FuncId}{fn:Func}(hf:P.funcs[f]? =some fn)(hname:(fn.name== "runtime.NumGoroutine")=false)(hb:fn.body.isSome=true)(args:Array Value)(w:World):(callFunc f args).run P w= .ok (.enter f args) w:=by
 have h1:fn.name≠ "runtime.NumGoroutine" :=by simpa using hname
 obtain⟨c,hc⟩:=Option.isSome_iff_exists.1 hb
 simp[callFunc,hf,h1,hc]
theorem goes_{oi:Oper}{N:Option Tmp}{a:Act}{w:World}{K:Act→World→Prop}{f:FuncId}{fn:Func}{aCn:Array Operand}{ts:Array TypeId}(hf:P.funcs[f]? =some fn)(hname:(fn.name== "runtime.NumGoroutine")=false)(hb:fn.body.isSome=true)(args:Array Value)
 (hw:Region.wanted oi (yielded ops a.tmps)=true) (hN:oi.dst=N) (hop:oi.op= .call {callee:= .value (.func f),args:=aCn,argTypes:=ts}) (hargs:aCn.map a.eval=args)
 (h:Calls P f args w fun e w'=>∃v,e= .returned v∧K (a.put N v) w'):if Region.wanted oi (yielded ops a.tmps)=true then Oper.wp P oi a w K Q else K (a.put N undef) w:=by
 refine call_ f args hw hN ?_ h;have he:=enters_ hf hname hb args w;unfold execOp
 simp[hop,resolve,Deferred.ofValue,invoke,Act.eval,hargs,he]
theorem jE{rest:List Oper}{oi:Oper}{a:Act}{w:World}(N:Option Tmp)(hd:oi.dst=N)(hg:oi.guard=none){f:FuncId}{fn:Func}{aCn:Array Operand}{ts:Array TypeId}(hf:P.funcs[f]? =some fn)(hname:(fn.name== "runtime.NumGoroutine")=false)(hb:fn.body.isSome=true)(args:Array Value)
 (hop:oi.op= .call {callee:= .value (.func f),args:=aCn,argTypes:=ts}) (hargs:aCn.map a.eval=args)
 (h:Calls P f args w fun e w'=>∃v,e= .returned v∧wpList P ops Q rest (a.put N v) w'):wpList P ops Q (oi::rest) a w:=by
 refine wpList_plain hg fun K hK=> ?_
 have he:=enters_ hf hname hb args w
 have hrun:(execOp a.eval oi).run P w= .ok (.enter f args) w:=by
  unfold execOp
  simp[hop,resolve,Deferred.ofValue,invoke,Act.eval,hargs,he]
 unfold Oper.wp;rw[hrun,Oper.upon_enter];refine h.mono fun e w'' hh=> ?_
 obtain⟨v,rfl,hk⟩:=hh;subst hd;exact hK _ _ hk
theorem skip_{oi:Oper}{a:Act}{w w1:World}{K:Act→World→Prop}(hw:Region.wanted oi (yielded ops a.tmps)=true)(hN:oi.dst=none)(hrun:(execOp a.eval oi).run P w= .ok .skip w1)
 (h:K a w1):if Region.wanted oi (yielded ops a.tmps)=true then Oper.wp P oi a w K Q else K (a.put none undef) w:=by
 rw[if_pos hw];unfold Oper.wp;rw[hrun];show K (a.put oi.dst undef) w1;rw[hN];exact h
theorem dE(n:Int):IntKind.i64.wrap n=Go.RowKit.wrap64 n:=by unfold Go.RowKit.wrap64;exact IntKind.wrap_i64 n
theorem dM(n:Int):IntKind.i32.wrap n=Go.RowKit.wrap32 n:=by unfold Go.RowKit.wrap32;exact IntKind.wrap_i32 n
end
end Go.Proofs.YtignanmmgaldeaaGreatDoorW.PrintLast
end
section
namespace Go.Proofs.YtignanmmgaldeaaGreatDoorW.PrintWords
open Go.RowKit
namespace Kd
def tag{α:Type}(f:Nat→Nat)(d:Kd α):Kd (α×Nat) where
 sz:=d.sz
 E:=d.E
 K:=fun w x cs=>d.K w x.1 cs
 M:=fun w base ok x cs=>d.M w base (fun k=>ok k∧f k=x.2) x.1 cs
 K_len:=fun h=>d.K_len h
 K_one:=fun h=>d.K_one h
 K_below:=fun hb h=>d.K_below hb h
 K_of_M:=fun h=>d.K_of_M h
 M_mono:=fun hok h=>d.M_mono (fun k hk=>⟨hok k hk.1,hk.2⟩) h
 M_bound:=fun h=>d.M_mono (fun _ hk=>⟨⟨hk.1.1,hk.2⟩,hk.1.2⟩) (d.M_bound h)
 M_move:=fun hm h=>d.M_move (fun k hk=>hm k hk.1) h
 M_lower:=fun hb h=>d.M_lower hb h
def raw(sz:Nat):Kd (List Value) where
 sz:=sz
 E:= []
 K:=fun _ x cs=>cs=x∧cs.length=sz∧∀u∈cs,u.oneCell'=true
 M:=fun _ _ _ x cs=>cs=x∧cs.length=sz∧∀u∈cs,u.oneCell'=true
 K_len:=fun h=>h.2.1
 K_one:=fun h=>h.2.2
 K_below:=fun _ h=>h
 K_of_M:=fun h=>h
 M_mono:=fun _ h=>h
 M_bound:=fun h=>h
 M_move:=fun _ h=>h
 M_lower:=fun _ h=>h
def S{α:Type}(d:Kd α)(e:Nat)(w:World)(base:Nat)(ok:Nat→Prop)(v:Value)(xs:List α):Prop:=∃f,(tag f d).R e w base ok v xs.zipIdx
section
variable {α β:Type} {d:Kd α} {d':Kd β} {e e':Nat} {w w1 W:World} {base b:Nat} {ok ok' okv oku:Nat→Prop} {u v:Value} {xs:List α} {ys:List β}
theorem uG(hE:d.E= [])(h:d.R e w base ok v xs):d.R e w base (fun k=>some k=v.ownBlock) v xs:=by
 obtain⟨h0,inner,ho,hr⟩:=h;refine⟨fun k hk=>hk.symm,inner,ho,hr.imp_ (fun p c hp=>d.M_mono (fun k hk=> ?_) (d.M_bound hp))⟩;obtain⟨_,_,_,q,hq,_⟩:=hk;rw[hE] at hq
 cases hq
theorem S_nil(d:Kd α)(e:Nat)(w:World)(base:Nat)(ok:Nat→Prop):S d e w base ok (.slice none 0 0) []:=⟨fun _=>0,R_nil _ _ _ _ _⟩
end
def gap{α:Type}(f:Nat→Nat)(d:Kd α)(i:Nat)(c:List Value):Kd (α×Nat) where
 sz:=d.sz
 E:=d.E
 K:=fun w x cs=>(x.2=i→cs=c∧cs.length=d.sz∧∀u∈cs,u.oneCell'=true)∧(x.2≠i→d.K w x.1 cs)
 M:=fun w base ok x cs=>(x.2=i→cs=c∧cs.length=d.sz∧∀u∈cs,u.oneCell'=true)∧(x.2≠i→d.M w base (fun k=>ok k∧f k=x.2) x.1 cs)
 K_len:=fun {w x cs} h=>by
  by_cases hx:x.2=i
  ·exact(h.1 hx).2.1
  ·exact d.K_len (h.2 hx)
 K_one:=fun {w x cs} h=>by
  by_cases hx:x.2=i
  ·exact(h.1 hx).2.2
  ·exact d.K_one (h.2 hx)
 K_below:=fun hb h=>⟨h.1,fun hx=>d.K_below hb (h.2 hx)⟩
 K_of_M:=fun h=>⟨h.1,fun hx=>d.K_of_M (h.2 hx)⟩
 M_mono:=fun hok h=>⟨h.1,fun hx=>d.M_mono (fun k hk=>⟨hok k hk.1,hk.2⟩) (h.2 hx)⟩
 M_bound:=fun h=>⟨h.1,fun hx=>d.M_mono (fun _ hk=>⟨⟨hk.1.1,hk.2⟩,hk.1.2⟩) (d.M_bound (h.2 hx))⟩
 M_move:=fun hm h=>⟨h.1,fun hx=>d.M_move (fun k hk=>hm k hk.1) (h.2 hx)⟩
 M_lower:=fun hb h=>⟨h.1,fun hx=>d.M_lower hb (h.2 hx)⟩
def H{α:Type}(d:Kd α)(e:Nat)(w:World)(base:Nat)(ok:Nat→Prop)(v:Value)(xs:List α)(i:Int)(oki:Nat→Prop)(c:List Value):Prop:=
 (∀k,oki k→ok k)∧∃f,(gap f d i.toNat c).R e w base (fun k=>ok k∧¬oki k) v xs.zipIdx
end Kd
end Go.Proofs.YtignanmmgaldeaaGreatDoorW.PrintWords
end
section
namespace Go.Proofs.YtignanmmgaldeaaGreatDoorW.PrintWords
open Go.RowKit
def Kept(w W:World)(S:Nat→Prop):Prop:=w.heap.size≤W.heap.size∧∀i,i<w.heap.size→¬S i→W.heap[i]? =w.heap[i]?
section
variable {w W W2:World} {S S2 S':Nat→Prop}
theorem Kept.refl(w:World)(S:Nat→Prop):Kept w w S:=⟨Nat.le_refl _,fun _ _ _=>rfl⟩
theorem Kept.of_below(h:Below w.heap.size w W)(S:Nat→Prop):Kept w W S:=⟨h.size,fun i hi _=>h.block i hi⟩
theorem Kept.then_(h:Kept w W S)(k:Kept W W2 S2)(hs:∀k,S2 k→S k∨w.heap.size≤k):Kept w W2 S:=
 ⟨Nat.le_trans h.1 k.1,fun i hi hn=>(k.2 i (Nat.lt_of_lt_of_le hi h.1) (fun h2=>(hs i h2).elim hn (fun h3=>by omega))).trans (h.2 i hi hn)⟩
theorem Kept.of_grown{row:Option Nat}(hg:W.grownBy W2 row)(h:Kept w W S)(hr:∀k,row=some k→S k∨w.heap.size≤k):Kept w W2 S:=
 h.then_ (S2:=fun k=>row=some k) ⟨hg.size,fun i hi hn=>hg.block i hi (fun he=>hn he.symm)⟩ hr
theorem Kept.below(h:Kept w W S)(hb:Below W.heap.size W W2):Kept w W2 S:=h.then_ (Kept.of_below hb (fun _=>False)) (fun _ hk=>hk.elim)
theorem Kept.alloc(h:Kept w W S)(o:Obj):Kept w (W.alloc o) S:=h.below (cZ (Below.refl _ _) o)
theorem Kept.drew(h:Kept w W S):Kept w W.drew S:=h
theorem Kept.drewN(h:Kept w W S)(m:Nat):Kept w (W.drewN m) S:=h
end
namespace Kd
section
variable {α:Type} {d:Kd α} {e base n c:Nat} {ok oki S S2:Nat→Prop} {w w0 W W1 W2:World} {v:Value} {A:Option Addr} {xs:List α} {i:Int} {cs:List Value}
theorem R_kept(h:d.R e W base ok v xs)(hk:Kept W W2 S)(hne:∀k,ok k→¬S k):d.R e W2 base ok v xs:=R_step h (fun k ho hlt=>hk.2 k hlt (hne k ho))
end
end Kd
end Go.Proofs.YtignanmmgaldeaaGreatDoorW.PrintWords
end
section
namespace Go.Proofs.YtignanmmgaldeaaGreatDoorW.PrintWords
open Go.RowKit
def Foot(P:World→Prop)(W:World)(ok:Nat→Prop):Prop:=∀W':World,(∀k,ok k→k<W.heap.size→W'.heap[k]? =W.heap[k]?)→P W'
theorem mF{W W1:World}{k:Nat}(h:W1.heap[k]? =W.heap[k]?)(hlt:k<W.heap.size):k<W1.heap.size:=by
 rw[Array.getElem?_eq_getElem hlt] at h;exact(Array.getElem?_eq_some_iff.1 h).1
namespace Foot
variable {P Q:World→Prop} {W W1:World} {ok ok':Nat→Prop}
theorem now(h:Foot P W ok):P W:=h W (fun _ _ _=>rfl)
theorem mono(h:Foot P W ok)(hok:∀k,ok k→ok' k):Foot P W ok':=fun W' hW=>h W' (fun k hk hlt=>hW k (hok k hk) hlt)
theorem bound(h:Foot P W ok):Foot P W (fun k=>ok k∧k<W.heap.size):=fun W' hW=>h W' (fun k hk hlt=>hW k ⟨hk,hlt⟩ hlt)
theorem step(h:Foot P W ok)(hm:∀k,ok k→k<W.heap.size→W1.heap[k]? =W.heap[k]?):Foot P W1 ok:=fun W' hW=>h W' (fun k hk hlt=>(hW k hk (mF (hm k hk hlt) hlt)).trans (hm k hk hlt))
theorem imp(h:Foot P W ok)(hi:∀W',P W'→Q W'):Foot Q W ok:=fun W' hW=>hi W' (h W' hW)
theorem old(h:Foot P W ok)(hb:Below W.heap.size W W1):Foot P W1 (fun k=>ok k∧k<W.heap.size):=(h.bound).step (fun k _ hlt=>hb.block k hlt)
end Foot
namespace Kd
def F{α:Type}(d:Kd α)(W:World)(ok:Nat→Prop)(A:Option Addr)(n:Nat)(xs:List α):Prop:=Foot (fun W=>d.C W A n xs) W ok
def FK{α:Type}(d:Kd α)(W:World)(ok:Nat→Prop)(x:α)(c:List Value):Prop:=Foot (fun W=>d.K W x c) W ok
section
variable {α β:Type} {d:Kd α} {e base n n' cc g N:Nat} {ok ok' okp S:Nat→Prop} {w w0 w1 W W1:World} {A A':Option Addr} {u v v1:Value} {xs:List α} {xs':List β} {d':Kd β} {x:α} {c:List Value}
theorem F_now(h:F d W ok A n xs):d.C W A n xs:=Foot.now h
theorem F_mono(h:F d W ok A n xs)(hok:∀k,ok k→ok' k):F d W ok' A n xs:=Foot.mono h hok
theorem F_step(h:F d W ok A n xs)(hm:∀k,ok k→k<W.heap.size→W1.heap[k]? =W.heap[k]?):F d W1 ok A n xs:=Foot.step h hm
theorem F_imp(h:F d W ok A n xs)(hi:∀W',d.C W' A n xs→d'.C W' A' n' xs'):F d' W ok A' n' xs':=Foot.imp h hi
theorem F_below(h:F d W ok A n xs)(hb:Below W.heap.size W W1):F d W1 ok A n xs:=F_step h (fun k _ hlt=>hb.block k hlt)
theorem F_alloc(h:F d W ok A n xs)(o:Obj):F d (W.alloc o) ok A n xs:=F_below h (cZ (Below.refl _ _) o)
theorem F_drew(h:F d W ok A n xs):F d W.drew ok A n xs:=F_below h (zY (Below.refl _ _))
theorem F_drewN(h:F d W ok A n xs)(m:Nat):F d (W.drewN m) ok A n xs:=F_below h (bH (Below.refl _ _) m)
theorem F_nil(d:Kd α)(W:World)(ok:Nat→Prop):F d W ok none ([]:List α).length []:=fun W' _=>C_nil d W'
theorem R_F(h:d.R e W base ok (.slice A n cc) xs):F d W ok A n xs:=fun W' hW=>by
 have h2:=dH (R_step h hW);rw[h2.1];exact h2.2.2
theorem FK_of_M(h:d.M W base ok x c):FK d W ok x c:=fun _ hW=>d.K_of_M (M_step h hW)
end
end Kd
end Go.Proofs.YtignanmmgaldeaaGreatDoorW.PrintWords
end
section
namespace Go.Proofs.YtignanmmgaldeaaGreatDoorW.PrintWords
open Go.RowKit
namespace Kd
def chunks(sz:Nat)(n:Nat)(inner:List Value):List (List Value):=(List.range n).map fun j=>(inner.drop (j*sz)).take sz
theorem qC(sz n:Nat)(inner:List Value):(chunks sz n inner).length=n:=by simp[chunks]
theorem chunks_at{sz n:Nat}{inner:List Value}{j:Nat}(hj:j<n):(chunks sz n inner)[j]? =some ((inner.drop (j*sz)).take sz):=by simp[chunks,hj]
theorem aBm{sz n:Nat}{inner:List Value}{j:Nat}{c:List Value}(h:(chunks sz n inner)[j]? =some c):c=(inner.drop (j*sz)).take sz:=by
 have hj:j<n:=by have:=(List.getElem?_eq_some_iff.1 h).1;rwa [qC] at this
 rw[chunks_at hj] at h
 injection h with h
 exact h.symm
theorem reps_raw{α:Type}{Rr:α→List Value→Prop}{sz:Nat}{xs:List α}{inner:List Value}(h:Reps Rr sz xs inner)(hR:∀x c,Rr x c→c.length=sz∧∀u∈c,u.oneCell'=true):Reps (fun x cs=>cs=x∧cs.length=sz∧∀u∈cs,u.oneCell'=true) sz (chunks sz xs.length inner) inner:=by
 refine⟨by rw[qC];exact h.1,fun j p hj=> ?_⟩;have hjl:j<xs.length:=by have:=(List.getElem?_eq_some_iff.1 hj).1;rwa [qC] at this
 have hp:=aBm hj;exact⟨hp.symm,hR _ _ (h.2 j _ (List.getElem?_eq_getElem hjl))⟩
section
variable {α:Type} {d:Kd α} {e base n cc g:Nat} {ok ok' okp S:Nat→Prop} {w w1 W W1:World} {A:Option Addr} {u v v1:Value} {xs:List α} {x:α} {c:List Value}
def N{α:Type}(d:Kd α)(e:Nat)(w:World)(base:Nat)(ok:Nat→Prop)(v:Value)(xs:List α):Prop:=
 (∀k,v.ownBlock=some k→ok k)∧∃rows:List (List Value),rows.length=xs.length∧(raw d.sz).R e w base (fun k=>some k=v.ownBlock) v rows∧∀(j:Nat) (x:α) (c:List Value),xs[j]? =some x→rows[j]? =some c→FK d w (fun k=>ok k∧some k≠v.ownBlock) x c
theorem R_N(h:d.R e w base ok v xs):N d e w base ok v xs:=by
 obtain⟨h0,inner,ho,hr⟩:=h;refine⟨h0,chunks d.sz xs.length inner,qC _ _ _,⟨fun k hk=>hk.symm,inner,by rw[qC];exact ho,reps_raw hr (fun x c hp=>⟨d.K_len (d.K_of_M hp),d.K_one (d.K_of_M hp)⟩)⟩,fun j x c hx hc=> ?_⟩;rw[aBm hc];exact FK_of_M (hr.2 j x hx)
theorem N_nil(d:Kd α)(e:Nat)(w:World)(base:Nat)(ok:Nat→Prop):N d e w base ok (.slice none 0 0) []:=R_N (R_nil _ _ _ _ _)
end
end Kd
end Go.Proofs.YtignanmmgaldeaaGreatDoorW.PrintWords
end
section
namespace Go.Proofs.YtignanmmgaldeaaGreatDoorW.PrintMore
open Go.RowKit Go.Proofs.YtignanmmgaldeaaGreatDoorW.PrintWords
theorem gI(k k':IntKind)(x y:Int):Builtin.max2 (.int k x) (.int k' y)=pure (.int k (if x<y then y else x)):=by simp only[Builtin.max2,gt_iff_lt]
theorem gJ(k k':IntKind)(x y:Int):Builtin.min2 (.int k x) (.int k' y)=pure (.int k (if y<x then y else x)):=by simp only[Builtin.min2]
theorem iE(ats:Array TypeId)(ty:TypeId)(a b:Value):Builtin.max_ ats ty #[a,b]=(Builtin.max2 a b >>= fun s=>pure s):=by simp only[Builtin.max_,List.foldlM_cons,List.foldlM_nil]
theorem iF(ats:Array TypeId)(ty:TypeId)(a b:Value):Builtin.min_ ats ty #[a,b]=(Builtin.min2 a b >>= fun s=>pure s):=by simp only[Builtin.min_,List.foldlM_cons,List.foldlM_nil]
end Go.Proofs.YtignanmmgaldeaaGreatDoorW.PrintMore
namespace Go.Proofs.YtignanmmgaldeaaGreatDoorW.PrintWords
open Go.RowKit
section
variable {P:Program} {ops:Array Oper} {rest:List Oper} {o:Oper} {a:Act} {Q:Exit→Act→World→Prop} {W:World}
theorem aG{f:FuncId}{aCn:Array Operand}{ts:Array TypeId}(_ho:o.op= .call {callee:= .value (.func f),args:=aCn,argTypes:=ts})(h:wpList P ops Q (o::rest) a W):wpList P ops Q (o::rest) a W:=h
theorem mQ{b:Builtin}{xs:Array Operand}{ts:Array TypeId}(_ho:o.op= .call {callee:= .builtin b,args:=xs,argTypes:=ts})(h:wpList P ops Q (o::rest) a W):wpList P ops Q (o::rest) a W:=h
end
def mx(a b:Int):Int:=if a<b then b else a
theorem nI(w:World)(n:Nat):w.drewN n=w.drewN n:=rfl
namespace Kd
section
variable {α:Type} {d:Kd α} {e base b b' g N:Nat} {ok ok1:Nat→Prop} {W W2 w1:World} {u v:Value} {xs ys:List α} {S:Nat→Prop}
theorem R_keptB(h:d.R e W base ok v xs)(hk:Kept W W2 S)(hne:∀k,ok k→¬S k):d.R e W2 base (fun k=>ok k∧(¬S k∧k<W.heap.size)) v xs:=
 R_kept (jO (oJ h) (fun k hk=>⟨hk.1,hne k hk.1,hk.2.2.1⟩)) hk (fun _ hk=>hk.2.1)
end
end Kd
end Go.Proofs.YtignanmmgaldeaaGreatDoorW.PrintWords
namespace Go.Proofs.YtignanmmgaldeaaGreatDoorW.PrintWords
open Go.RowKit
namespace Kd
def V{α:Type}(d:Kd α)(_e:Nat)(W:World)(_base:Nat)(ok:Nat→Prop)(v:Value)(xs:List α):Prop:=∃A c,v= .slice A xs.length c∧xs.length≤c∧F d W ok A xs.length xs
section
variable {α β:Type} {d:Kd α} {e base base' n m c g N' lo hi:Nat} {ok ok' S:Nat→Prop} {w W w1:World} {A:Option Addr} {ad:Addr} {u v v1:Value} {xs:List α}
theorem V_map(h:V d e W base ok v xs)(hF:∀A,F d W ok A xs.length xs→F d w1 ok' A xs.length xs):V d e w1 base' ok' v xs:=by
 obtain⟨A,c,hv,hl,hf⟩:=h;exact⟨A,c,hv,hl,hF A hf⟩
theorem V_mk(hl:xs.length≤c)(hf:F d W ok A xs.length xs):V d e W base ok (.slice A xs.length c) xs:=⟨A,c,rfl,hl,hf⟩
theorem V_slice(h:V d e W base ok v xs):∃A c,v= .slice A xs.length c:=by
 obtain⟨A,c,hv,_⟩:=h;exact⟨A,c,hv⟩
theorem V_at(h:V d e W base ok (.slice A n c) xs):n=xs.length∧n≤c∧F d W ok A xs.length xs:=by
 obtain⟨A',c',hv,hl,hf⟩:=h
 injection hv with ha hn hc
 subst ha;subst hc
 exact⟨hn,by rw[hn];exact hl,hf⟩
theorem V_reads'(h:V d e W base ok (.slice A n c) xs):n=xs.length∧n≤c∧d.C W A xs.length xs:=⟨(V_at h).1,(V_at h).2.1,F_now (V_at h).2.2⟩
theorem V_nil(d:Kd α)(e:Nat)(W:World)(base:Nat)(ok:Nat→Prop):V d e W base ok (.slice none 0 0) []:=⟨none,0,rfl,Nat.le_refl _,F_nil d W ok⟩
theorem R_V(h:d.R e W base ok v xs):V d e W base' ok v xs:=by
 obtain⟨A,c,rfl⟩:=gY h;exact⟨A,c,rfl,(dH h).2.1,R_F h⟩
theorem V_mono(h:V d e W base ok v xs)(hok:∀k,ok k→ok' k):V d e W base ok' v xs:=V_map h (fun _ hf=>F_mono hf hok)
theorem V_lower(h:V d e W base ok v xs)(_:base'≤base):V d e W base' ok v xs:=h
theorem zI(h:V d e W base ok v xs)(o:Obj):V d e (W.alloc o) base ok v xs:=V_map h (fun _ hf=>F_alloc hf o)
theorem V_drew(h:V d e W base ok v xs):V d e W.drew base ok v xs:=V_map h (fun _ hf=>F_drew hf)
theorem zJ(h:V d e W base ok v xs)(m:Nat):V d e (W.drewN m) base ok v xs:=V_map h (fun _ hf=>F_drewN hf m)
theorem F_take(h:F d W ok A xs.length xs)(hm:m≤xs.length):F d W ok A (xs.take m).length (xs.take m):=F_imp h (fun _ hC=>C_take hC hm)
theorem R_newM{M:Nat→Prop}(h:d.R e w1 W.heap.size ok v xs)(hle:w.heap.size≤W.heap.size)(hM:∀k,w.heap.size≤k→M k):d.R e w1 W.heap.size (fun k=>M k∧ok k) v xs:=jO (oJ h) (fun k hk=>⟨hM k (Nat.le_trans hle hk.2.1),hk.1⟩)
end
end Kd
end Go.Proofs.YtignanmmgaldeaaGreatDoorW.PrintWords
end
