/- Lemmas for the proof. -/
import Derived.Test.YtignanmmgaldeaaGreatDoorYE
import Derived.Test.YtignanmmgaldeaaGreatDoorYD
import Derived.Lib.AppendIntMem
section
set_option linter.unusedVariables false
set_option linter.unusedSimpArgs false
set_option maxHeartbeats 4000000
set_option maxRecDepth 100000
namespace Go.Proofs.YtignanmmgaldeaaGreatDoor
open Go.RowKit Go.Shelf Go.Proofs.YtignanmmgaldeaaGreatDoorW.PrintWords
theorem aAs:(Tryz.prog.info? 131).map (·.size)=some 2:=by kernel_rfl
theorem lies_builder:liesAt Tryz.prog Tryz.prog.depth 131 (2/Tryz.prog.cellsOf 131) 0 131 1=true:=by kernel_rfl
theorem info_byte:(Tryz.prog.info? 5).map (fun i=>(i.zero,i.size,i.bytes))=some (some (.int .u8 0),1,1):=by kernel_rfl
theorem aCl(b:Nat)(w:World)(h0:w.cell? ⟨b,0,none⟩=some (.pointer (some ⟨b,0,none⟩))) :
 Calls Tryz.prog 196 #[.pointer (some ⟨b,0,none⟩)] w fun e w'=>e= .returned (.tuple #[])∧w'=w:=by
 obtain⟨j,hj,_⟩:=Option.map_eq_some_iff.1 aAs;go_enter Tryz.func196,Tryz.ntmps196
 go_wp2
 rw[Lib.run_neq_ptr_same w _ Tryz.underlying128 hj];go_wp2
 go_end0
 exact⟨rfl,rfl⟩
theorem aBv(b:Nat)(w:World)(h0:w.cell? ⟨b,0,none⟩=some (.pointer none))(hsh:w.shape? b=some (131,2))(hfz:w.frozen? ⟨b,0,none⟩=false) :
 Calls Tryz.prog 196 #[.pointer (some ⟨b,0,none⟩)] w fun e w'=>e= .returned (.tuple #[])∧w'=w.setCell ⟨b,0,none⟩ (.pointer (some ⟨b,0,none⟩)):=by
 obtain⟨j,hj,hjs⟩:=Option.map_eq_some_iff.1 aAs;go_enter Tryz.func196,Tryz.ntmps196
 go_wp2
 rw[Lib.run_to_unsafe w ⟨b,0,none⟩ Tryz.underlying128 Tryz.underlying171 hj (by rw[hjs];decide) hsh (Nat.zero_lt_succ 1)];simp only[Result.andThen];rw[Oper.upon_value];go_wp2
 rw[run_callFunc_extern Tryz.func216 (by kernel_rfl) (by kernel_rfl) (by kernel_rfl) (e:=Extern.AbiNoEscape.same) (by kernel_rfl)];rw[Lib.run_noEscape];simp only[Result.andThen];rw[Oper.upon_value];go_wp2
 rw[Lib.run_from_unsafe w ⟨b,0,none⟩ Tryz.underlying171 Tryz.underlying128 hj hsh lies_builder];simp only[Result.andThen];rw[Oper.upon_value];go_wp2
 go_end0
 exact⟨rfl,rfl⟩
theorem mF{w:World}{b:Nat}{o:Obj}(h:w.heap[b]? =some o):b<w.heap.size:=(Array.getElem?_eq_some_iff.1 h).1
def Buf(R b:Nat)(bs:List Value)(W:World):Prop:=
 ∃p v,W.heap[b]? =some (.cells #[p,v] 131 (0,0))∧(p= .pointer none∨p= .pointer (some ⟨b,0,none⟩))∧W.ownsRow R 5 1 v bs.length bs∧v.ownBlock≠some b
structure Touch(R b:Nat)(W W':World):Prop where
 os:W'.os=W.os
 tape:W'.tape=W.tape
 output:W'.output=W.output
 size:W.heap.size≤W'.heap.size
 same:∀(k:Nat) (o:Obj),W.heap[k]? =some o→k≠b→(k<R∨∀cs,o≠ .cells cs 5 (0,0))→W'.heap[k]? =some o
theorem Touch.refl(R b:Nat)(W:World):Touch R b W W:=⟨rfl,rfl,rfl,Nat.le_refl _,fun _ _ h _ _=>h⟩
theorem Touch.trans{R b:Nat}{X Y Z:World}(h:Touch R b X Y)(k:Touch R b Y Z):Touch R b X Z:=
 ⟨k.os.trans h.os,k.tape.trans h.tape,k.output.trans h.output,Nat.le_trans h.size k.size,fun i o hi hb hc=>k.same i o (h.same i o hi hb hc) hb hc⟩
theorem Touch.of_below{R b:Nat}{X Y:World}(h:Below X.heap.size X Y):Touch R b X Y:=⟨h.os,h.tape,h.output,h.size,fun k o hk _ _=>(h.block k (mF hk)).trans hk⟩
theorem Touch.setCell{R b:Nat}(X:World)(o:Nat)(v:Value):Touch R b X (X.setCell ⟨b,o,none⟩ v):=
 ⟨rfl,rfl,rfl,by simp[World.setCell],fun k ob hk hb _=>(Below.heap_setCell X ⟨b,o,none⟩ v k hb).trans hk⟩
theorem Touch.alloc{R b:Nat}(X:World)(o:Obj):Touch R b X (X.alloc o):=⟨rfl,rfl,rfl,by simp,fun k ob hk _ _=>(Below.heap_alloc X o k (mF hk)).trans hk⟩
theorem Touch.grown{R b:Nat}{X Y:World}{row:Option Nat}(hg:X.grownBy Y row)(hrow:∀k,row=some k→R≤k∧∃cs,X.heap[k]? =some (.cells cs 5 (0,0))):Touch R b X Y:=
 ⟨hg.os,hg.tape,hg.output,hg.size,fun k o hk _ hc=>(hg.block k (mF hk) (fun e=>by
   obtain⟨h1,cs,h2⟩:=hrow k e.symm;rcases hc with h|h
   ·omega
   ·rw[hk] at h2;cases h2;exact h _ rfl)).trans hk⟩
theorem Touch.below{R b B:Nat}{X Y:World}(h:Touch R b X Y)(hb:B≤b)(hR:B≤R)(hX:B≤X.heap.size):Below B X Y:=
 ⟨h.os,h.tape,h.output,h.size,fun k hk=>by
   obtain⟨o,ho⟩:∃o,X.heap[k]? =some o:=⟨_,Array.getElem?_eq_getElem aCo⟩
   rw[ho];exact h.same k o ho aCo (Or.inl aCo)⟩
theorem Touch.others{R b:Nat}{X Y:World}(h:Touch R b X Y){cs:Array Value}{t:TypeId}{fr:Nat×Nat}(hb:X.heap[b]? =some (.cells cs t fr)):KeepsOthers X Y:=
 ⟨h.size,fun k o hk hc=>h.same k o hk (fun e=>by subst e;rw[hb] at hk;cases hk;simp[Obj.isCells] at hc) (Or.inr fun cs e=>by subst e;simp[Obj.isCells] at hc)⟩
theorem Touch.keep{R b B:Nat}{X Y:World}(h:Touch R b X Y)(hb:B≠b){cs:Array Value}{t:TypeId}{fr:Nat×Nat}(hc:X.heap[B]? =some (.cells cs t fr))(ht:t≠5):Y.heap[B]? =some (.cells cs t fr):=h.same B _ hc hb (Or.inr fun cs' e=>by cases e;exact ht rfl)
theorem Touch.keepB{R b B:Nat}{X Y:World}(h:Touch R b X Y)(hb:B≠b){cs:Array Value}{t:TypeId}{fr:Nat×Nat}(hc:X.heap[B]? =some (.cells cs t fr))(ht:t≠5):jQ B X Y:=⟨fun o ho=>by rw[hc] at ho;cases ho;exact h.keep hb hc ht⟩
theorem aB6{X Y:World}{row:Option Nat}{B:Nat}{cs:Array Value}{t:TypeId}{fr:Nat×Nat}(hc:X.heap[B]? =some (.cells cs t fr))(hg:X.grownBy Y row)(hr:∀r,row=some r→∃o:Obj,X.heap[r]? =some o∧o.isCells=false):Y.heap[B]? =some (.cells cs t fr):=
 (hg.block B (mF hc) (fun e=>by
   obtain⟨o,ho,hf⟩:=hr B e.symm
   rw[hc] at ho;cases ho;simp[Obj.isCells] at hf)).trans hc
theorem Buf.lt{R b:Nat}{bs:List Value}{W:World}(h:Buf R b bs W):b<W.heap.size:=by
 obtain⟨p,v,h1,_⟩:=h;exact mF h1
theorem Buf.others{R b:Nat}{bs:List Value}{X Y:World}(h:Buf R b bs X)(k:Touch R b X Y):KeepsOthers X Y:=by
 obtain⟨p,v,h1,_⟩:=h;exact k.others h1
theorem own_row{R:Nat}{v:Value}{n:Nat}{xs:List Value}{W:World}(h:W.ownsRow R 5 1 v n xs)(k:Nat)(hk:v.ownBlock=some k):R≤k∧∃cs,W.heap[k]? =some (.cells cs 5 (0,0)):=by
 obtain⟨cells,hc⟩:=wM h k hk;exact⟨own_base h k hk,_,hc⟩
theorem Buf.below{R b:Nat}{bs:List Value}{X Y:World}(h:Buf R b bs X)(k:Below X.heap.size X Y):Buf R b bs Y:=by
 obtain⟨p,v,h1,h2,h3,h4⟩:=h;refine⟨p,v,(k.block b (mF h1)).trans h1,h2,xR h3 (fun j hj=> ?_),h4⟩;obtain⟨_,cs,hc⟩:=own_row h3 j hj;exact k.block j (mF hc)
theorem Buf.grown{R b:Nat}{bs:List Value}{X Y:World}{row:Option Nat}(h:Buf R b bs X)(hg:X.grownBy Y row)(hr:∀r,row=some r→∃o:Obj,X.heap[r]? =some o∧o.isCells=false):Buf R b bs Y:=by
 obtain⟨p,v,h1,h2,h3,h4⟩:=h
 have keep:∀(j:Nat) (cs:Array Value) (t:TypeId) (fr:Nat×Nat),X.heap[j]? =some (.cells cs t fr)→Y.heap[j]? =X.heap[j]? :=fun j cs t fr hc=>hg.block j (mF hc) (fun e=>by
  obtain⟨o,ho,hf⟩:=hr j e.symm
  rw[hc] at ho;cases ho;simp[Obj.isCells] at hf)
 refine⟨p,v,(keep b _ _ _ h1).trans h1,h2,xR h3 (fun j hj=> ?_),h4⟩;obtain⟨_,cs,hc⟩:=own_row h3 j hj;exact keep j _ _ _ hc
theorem Buf.put{R b:Nat}{bs:List Value}{v v':Value}{W:World}{n:Nat}(hb:W.heap[b]? =some (.cells #[.pointer (some ⟨b,0,none⟩),v] 131 (0,0)))(ho:W.ownsRow R 5 1 v' n bs)(hn:n=bs.length):Buf R b bs (W.setCell ⟨b,1,none⟩ v'):=by
 subst hn
 have hne:v'.ownBlock≠some b:=fun e=>by
  obtain⟨cells,hc⟩:=wM ho b e;rw[hb] at hc
  injection hc with hc
  injection hc with _ hc
  exact absurd hc aCr
 exact⟨_,v',gX (cs:=#[.pointer (some ⟨b,0,none⟩),v]) hb 1 v' rfl,Or.inr rfl,xR ho (fun k hk=>Below.heap_setCell W ⟨b,1,none⟩ v' k (fun e=>hne (by rw[hk];exact congrArg some e))),hne⟩
theorem zO(R b:Nat)(bs:List Value)(w:World)(h:Buf R b bs w) :
 Calls Tryz.prog 196 #[.pointer (some ⟨b,0,none⟩)] w fun e w'=>e= .returned (.tuple #[])∧∃v,w'.heap[b]? =some (.cells #[.pointer (some ⟨b,0,none⟩),v] 131 (0,0))∧w'.ownsRow R 5 1 v bs.length bs∧v.ownBlock≠some b∧Touch R b w w':=by
 obtain⟨p,v,h1,h2,h3,h4⟩:=h;have c0:w.cell? ⟨b,0,none⟩=some p:=by rw[Lib.cell_of_heap h1];rfl
 rcases h2 with rfl|rfl
 ·refine(aBv b w c0 (by simp[World.shape?,h1]) (Lib.frozen_of_heap h1 0)).mono ?_
  rintro e w' ⟨rfl,rfl⟩;exact⟨rfl,v,gX (cs:=#[.pointer none,v]) h1 0 _ rfl,xR h3 (fun k hk=>Below.heap_setCell w ⟨b,0,none⟩ _ k (fun e=>h4 (by rw[hk];exact congrArg some e))),h4,Touch.setCell _ _ _⟩
 ·refine(aCl b w c0).mono ?_
  rintro e w' ⟨rfl,rfl⟩;exact⟨rfl,v,h1,h3,h4,Touch.refl _ _ _⟩
theorem row_slice{R n:Nat}{v:Value}{w:World}{xs:List Value}(h:w.ownsRow R 5 1 v n xs):∃ao m cap,v= .slice ao m cap:=by
 rcases h.2 with ⟨rfl,_⟩|⟨g,cap,cur,rfl,_⟩
 ·exact⟨_,_,_,rfl⟩
 ·exact⟨_,_,_,rfl⟩
theorem aCm(R b:Nat)(bs:List Value)(c:Int)(w:World)(h:Buf R b bs w)(hlen:bs.length+1≤140737488355328)(hR:R≤w.heap.size) :
 Calls Tryz.prog 165 #[.pointer (some ⟨b,0,none⟩),.int .u8 c] w fun e w'=>e= .returned .nilIface∧(Buf R b (bs++ [.int .u8 c]) w'∧Touch R b w w'):=by
 obtain⟨ib,hi,hz0,hz1,hz2⟩:=info_parts info_byte;have HC:=Lib.hid (fun w h=>zO R b bs w h);have Hh:=Lib.hid h;clear h;go_enter Tryz.func165,Tryz.ntmps165
 go_wp2_with(go_at_call 196;refine(HC.out _ Hh.out).mono ?_)
 rintro e w1 ⟨rfl,v,hbk,hown,hne,hb1⟩;have c0:w1.cell? ⟨b,0,none⟩=some (.pointer (some ⟨b,0,none⟩)):=by rw[Lib.cell_of_heap hbk];rfl
 have c1:w1.cell? ⟨b,1,none⟩=some v:=by rw[Lib.cell_of_heap hbk];rfl
 have hs1:=hb1.size;have hlt:=mF hbk
 go_wp2_with(at_builtin;refine wpList_append_own _ rfl _ _ 129 rfl R 5 ib (.int .u8 0) 1 1 Tryz.underlying129 hi hz0 hz1 hz2 rfl aCr _ _ _ rfl (hown.alloc _) ⟨w1.heap.size,0,none⟩ 1 1 [.int .u8 c] rfl rfl ?cells ?one ?fits ?bytes ?base ?_)
 case cells=>
  intro j u hj
  match j,hj with
  |0,hj=>simp at hj;subst hj;simp[Addr.add]
 case one=>intro u hu;simp at hu;subst hu;rfl
 case fits=>unfold maxLen;omega
 case bytes=>omega
 case base=>simp;omega
 intro v' w2 hown' hgrow _
 have hb2:w2.heap[b]? =some (.cells #[.pointer (some ⟨b,0,none⟩),v] 131 (0,0)):=by
  rw[hgrow.block b (by simp;omega) (fun e=>hne e.symm),Lib.alloc_old w1 _ b hlt];exact hbk
 have d0:w2.cell? ⟨b,0,none⟩=some (.pointer (some ⟨b,0,none⟩)):=by rw[Lib.cell_of_heap hb2];rfl
 have d1:w2.cell? ⟨b,1,none⟩=some v:=by rw[Lib.cell_of_heap hb2];rfl
 have f1:w2.frozen? ⟨b,1,none⟩=false:=Lib.frozen_of_heap hb2 1;obtain⟨ao,m,cap,rfl⟩:=row_slice hown';go_wp2
 go_ret
 refine⟨rfl,Buf.put hb2 hown' aCq,((hb1.trans (Touch.alloc _ _)).trans (Touch.grown hgrow (fun k hk=> ?_))).trans (Touch.setCell _ _ _)⟩;obtain⟨h1,cs,h2⟩:=own_row hown k hk;exact⟨h1,cs,(Below.heap_alloc _ _ _ (mF h2)).trans h2⟩
theorem lF(R b:Nat)(bs:List Value)(s:ByteArray)(w:World)(h:Buf R b bs w)(hlen:bs.length+s.size≤140737488355328)(hR:R≤w.heap.size) :
 Calls Tryz.prog 168 #[.pointer (some ⟨b,0,none⟩),.string s] w fun e w'=>e= .returned (.tuple #[.int .i64 s.size,.nilIface])∧(Buf R b (bs++Lib.strCells s) w'∧Touch R b w w'):=by
 obtain⟨ib,hi,hz0,hz1,hz2⟩:=info_parts info_byte;have HC:=Lib.hid (fun w h=>zO R b bs w h);have Hh:=Lib.hid h;clear h;go_enter Tryz.func168,Tryz.ntmps168
 go_wp2_with(go_at_call 196;refine(HC.out _ Hh.out).mono ?_)
 rintro e w1 ⟨rfl,v,hbk,hown,hne,hb1⟩;have c0:w1.cell? ⟨b,0,none⟩=some (.pointer (some ⟨b,0,none⟩)):=by rw[Lib.cell_of_heap hbk];rfl
 have c1:w1.cell? ⟨b,1,none⟩=some v:=by rw[Lib.cell_of_heap hbk];rfl
 have hs1:=hb1.size;have hlt:=mF hbk
 go_wp2_with(at_builtin;refine Lib.wpList_append_own_string _ rfl _ _ 129 9 rfl R 5 ib Tryz.underlying129 Tryz.underlying9 hi hz0 hz1 hz2 _ _ _ rfl hown s rfl ?fits ?bytes ?base ?_)
 case fits=>unfold maxLen;omega
 case bytes=>omega
 case base=>omega
 intro v' w2 hown' hgrow _
 have hb2:w2.heap[b]? =some (.cells #[.pointer (some ⟨b,0,none⟩),v] 131 (0,0)):=by
  rw[hgrow.block b hlt (fun e=>hne e.symm)];exact hbk
 have d0:w2.cell? ⟨b,0,none⟩=some (.pointer (some ⟨b,0,none⟩)):=by rw[Lib.cell_of_heap hb2];rfl
 have d1:w2.cell? ⟨b,1,none⟩=some v:=by rw[Lib.cell_of_heap hb2];rfl
 have f1:w2.frozen? ⟨b,1,none⟩=false:=Lib.frozen_of_heap hb2 1;obtain⟨ao,m,cap,rfl⟩:=row_slice hown';go_wp2
 go_ret2
 exact⟨rfl,Buf.put hb2 hown' (by simp[Lib.strCells_length]),(hb1.trans (Touch.grown hgrow (fun k hk=>own_row hown k hk))).trans (Touch.setCell _ _ _)⟩
theorem Buf.is{R b B:Nat}{bs:List Value}{W:World}(h:Buf R b bs W)(hb:B≤b)(hR:B≤R):Lib.IsBuilder 131 5 B b bs W:=by
 obtain⟨p,v,h1,h2,h3,h4⟩:=h;rcases h2 with rfl|rfl
 ·exact .inl ⟨hb,v,h1,zZ h3 hR,h4⟩
 ·exact .inr ⟨hb,v,h1,zZ h3 hR,h4⟩
theorem Buf.fresh{R b:Nat}{W:World}(h:W.heap[b]? =some (.cells #[.pointer none,.slice none 0 0] 131 (0,0))):Buf R b [] W:=
 ⟨_,_,h,Or.inl rfl,⟨by simp,.inl ⟨rfl,rfl⟩⟩,by simp[Value.ownBlock]⟩
end Go.Proofs.YtignanmmgaldeaaGreatDoor
namespace Go.Proofs.YtignanmmgaldeaaGreatDoor
open Go.RowKit Go.Shelf Go.Proofs.YtignanmmgaldeaaGreatDoorW.PrintWords
attribute [local go_sem] Oper.semAt_some
def GW(w:World):Prop:=Lib.TabIs Tryz.prog w "internal/strconv.uint64pow10" .u64 Lib.pow10Tab
theorem GW.below{w w':World}(h:GW w)(hb:Below w.heap.size w w'):GW w':=Lib.tabBelow_of_tabIs h w' hb
theorem yO(n:Int)(h0: -9223372036854775808≤n)(h1:n≤9223372036854775807)(w:World)(hG:GW w) :
 Calls Tryz.prog 167 #[.int .i64 n] w fun e w'=>e= .returned (.string ⟨(Lib.itoa n).toArray⟩)∧Below w.heap.size w w':=
 (Any.strconv_Itoa layM171 n h0 h1 w hG).mono fun e w' ⟨he,k,os,hw⟩=>⟨he,by rw[hw];exact Lib.below_grow _ w (Nat.le_refl _) k os⟩
def lastD:Nat→Nat→List UInt8
 |0,_=> []
 |m+1,x=>lastD m (x/10)++ [UInt8.ofNat (48+x%10)]
theorem aBw:∀m,lastD m 0=List.replicate m 48
 |0=>rfl
 |m+1=>by rw[lastD,aBw m,List.replicate_succ'];rfl
theorem dec_lastD(v:Nat)(hv:v≠0):∀m x,x<10 ^ m→Lib.decDigits (v*10 ^ m+x)=Lib.decDigits v++lastD m x
 |0,x,h=>by
  have:x=0:=by simpa using h
  subst this;simp[lastD]
 |m+1,x,h=>by
  have hx:x/10<10 ^ m:=by rw[Nat.pow_succ] at h;omega
  have e:v*10 ^ (m+1)+x=(v*10 ^ m+x/10)*10+x%10:=by
   rw[Nat.pow_succ,←Nat.mul_assoc];omega
  have hp:0<10 ^ m:=Nat.pow_pos aCo
  have hne:v*10 ^ m+x/10≠0:=by
   have:1*10 ^ m≤v*10 ^ m:=Nat.mul_le_mul_right _ aCo;omega
  rw[e,zM _ _ hne (Nat.mod_lt _ aCo),dec_lastD v hv m _ hx,lastD,List.append_assoc]
theorem aA5:∀m x,x<10 ^ m→0<m→(Lib.decDigits x).length≤m
 |0,_,_,h=>by omega
 |m+1,x,hx,_=>by
  by_cases h:x<10
  ·rw[iJ h];simp
  ·have h1:x/10<10 ^ m:=by rw[Nat.pow_succ] at hx;omega
   have h2:0<m:=by
    rcases Nat.eq_zero_or_pos m with e|e
    ·subst e;simp at h1;omega
    ·exact e
   have:=aA5 m _ h1 h2;rw[lN h];simp;omega
theorem lastD_pad:∀m x,x<10 ^ m→0<m→lastD m x=List.replicate (m-(Lib.decDigits x).length) 48++Lib.decDigits x
 |0,_,_,h=>by omega
 |m+1,x,hx,_=>by
  by_cases h:x<10
  ·rw[iJ h,lastD,show x/10=0 from by omega,aBw,show x%10=x from by omega];rfl
  ·have h1:x/10<10 ^ m:=by rw[Nat.pow_succ] at hx;omega
   have h2:0<m:=by
    rcases Nat.eq_zero_or_pos m with e|e
    ·subst e;simp at h1;omega
    ·exact e
   have hl:=aA5 m _ h1 h2;rw[lN h,lastD,lastD_pad m _ h1 h2,List.append_assoc]
   congr 2
   simp
theorem itoa_nat(x:Int)(h:0≤x):Lib.itoa x=Lib.decDigits x.toNat:=by unfold Lib.itoa;rw[if_neg aCo]
def padT(xs:List Int)(n i:Nat):List UInt8:=(if i+1<n then List.replicate (9-(Lib.itoa (xs[i]?.getD 0)).length) 48 else[])++Lib.itoa (xs[i]?.getD 0)
def sgnT(d:Bool):List UInt8:=if d=true then[45] else[]
def cont(d:Bool)(xs:List Int)(n:Nat)(pre:List (Fin n)):List UInt8:=sgnT d++pre.flatMap fun i=>padT xs n i.val
theorem cont_snoc(d:Bool)(xs:List Int)(n:Nat)(pre:List (Fin n))(x:Fin n):cont d xs n (pre++ [x])=cont d xs n pre++padT xs n x.val:=by simp[cont]
theorem xZ{xs:List Int}(hx:limbs xs)(i:Nat):(Lib.itoa (xs[i]?.getD 0)).length≤9:=by
 have h:=hx i;rw[itoa_nat _ h.1];exact aA5 9 _ (by rw[show(10:Nat) ^ 9=1000000000 from by decide];omega) aCo
theorem padT_len{xs:List Int}(hx:limbs xs)(n i:Nat):(padT xs n i).length≤9:=by
 have:=xZ hx i;unfold padT
 split <;> simp <;> omega
theorem cont_len{xs:List Int}(hx:limbs xs)(d:Bool)(n:Nat):∀pre:List (Fin n),(cont d xs n pre).length≤1+9*pre.length:=by
 intro pre;unfold cont sgnT;rw[List.length_append];have h1:(if d=true then[(45:UInt8)] else[]).length≤1:=by split <;> simp
 have h2:(pre.flatMap fun i=>padT xs n i.val).length≤9*pre.length:=by
  induction pre with
  |nil=>simp
  |cons i l ih=>
   have:=padT_len hx n i.val;rw[List.flatMap_cons,List.length_append,List.length_cons];omega
 omega
def topV(xs:List Int)(n:Nat):Nat→Nat
 |0=>0
 |k+1=>topV xs n k*1000000000+(xs[n-1-k]?.getD 0).toNat
theorem topV_val{xs:List Int}(hx:limbs xs)(n:Nat)(hn:xs.length=n):∀k,k≤n→(topV xs n k:Int)*1000000000 ^ (n-k)+pval xs (n-k)=lval xs
 |0,_=>by simp[topV,lval,hn]
 |k+1,h=>by
  have ih:=topV_val hx n hn k aCo;have h1:=hx (n-1-k);rw[show n-k=(n-(k+1))+1 from by omega,kC,pval] at ih;rw[show n-(k+1)=n-1-k from by omega] at ih ⊢;rw[topV]
  have e:(((topV xs n k*1000000000+(xs[n-1-k]?.getD 0).toNat:Nat)):Int)=(topV xs n k:Int)*1000000000+xs[n-1-k]?.getD 0:=by
   rw[Int.natCast_add,Int.natCast_mul,Int.toNat_of_nonneg h1.1];rfl
  rw[e,Int.add_mul,Int.mul_assoc];omega
theorem aA6{xs:List Int}(hx:limbs xs)(ht:topped xs)(n:Nat)(hn:xs.length=n):∀k,0<k→k≤n→topV xs n k≠0∧(bwl n k).flatMap (fun i=>padT xs n i.val)=Lib.decDigits (topV xs n k)
 |0,h,_=>by omega
 |k+1,_,hk=>by
  have h1:=hx (n-1-k);rw[nY n k aCo,List.flatMap_append];rcases Nat.eq_zero_or_pos k with e|e
  ·subst e
   have h2:xs[n-1]?.getD 0≠0:=by
    rcases ht with h|h
    ·omega
    ·rwa [hn] at h
   simp only[bwl,List.flatMap_nil,List.nil_append,List.flatMap_cons,List.append_nil,topV,Nat.zero_mul,Nat.zero_add,Nat.sub_zero] at h1 ⊢;refine⟨by omega,?_⟩;rw[padT,if_neg aCo,List.nil_append,itoa_nat _ h1.1]
  ·obtain⟨i1,i2⟩:=aA6 hx ht n hn k e aCo
   have hlt:(xs[n-1-k]?.getD 0).toNat<10 ^ 9:=by rw[show(10:Nat) ^ 9=1000000000 from by decide];omega
   refine⟨by rw[topV];omega,?_⟩;rw[i2,topV,show(1000000000:Nat)=10 ^ 9 from by decide,dec_lastD _ i1 9 _ hlt,lastD_pad 9 _ hlt aCo]
   congr 1
   simp only[List.flatMap_cons,List.flatMap_nil,List.append_nil];rw[padT,if_pos aCo,itoa_nat _ h1.1]
theorem cont_all{xs:List Int}(hx:limbs xs)(ht:topped xs)(n:Nat)(hn:xs.length=n)(h0:0<n)(d:Bool):cont d xs n (bwl n n)=Lib.itoa (if d=true then -lval xs else lval xs):=by
 obtain⟨h1,h2⟩:=aA6 hx ht n hn n h0 (Nat.le_refl _);have hv:=topV_val hx n hn n (Nat.le_refl _);rw[Nat.sub_self] at hv;simp only[Int.pow_zero,Int.mul_one,pval,Int.add_zero] at hv;rw[cont,h2,←hv];unfold Lib.itoa sgnT
 cases d
 ·simp only[Bool.false_eq_true,if_false];rw[if_neg aCo];rfl
 ·simp only[if_true];rw[if_pos aCo];simp
theorem rep_zero:∀c,Lib.repeatL [48] c=List.replicate c 48
 |0=>rfl
 |c+1=>by rw[Lib.repeatL,rep_zero c];rfl
theorem text_zero(d:Bool)(A:Option Addr)(c:Nat)(w:World) :
 Calls Tryz.prog 88 #[.agg #[.bool d,.slice A 0 c]] w fun e w'=>e= .returned (.string ⟨#[48]⟩)∧Below w.heap.size w w':=by
 go_enter Tryz.func88,Tryz.ntmps88
 go_wp2
 go_ret
 exact⟨rfl,(Below.refl _ w).alloc (Nat.le_refl _) _⟩
theorem text_pos(A:Option Addr)(n c:Nat)(xs:List Int)(w:World)(hx:RI w.heap.size w A n xs)(hxl:limbs xs)(hn:n≤1000000)(h0:0<n)(hG:GW w) :
 Calls Tryz.prog 88 #[.agg #[.bool false,.slice A n c]] w fun e w'=>e= .returned (.string ⟨(cont false xs n (bwl n n)).toArray⟩)∧Below w.heap.size w w':=by
 have hmax:=hx.2.1;refine(callsIn_wide (n:=8)).1 ?_;have hro:Fence.wide.round=none:=rfl;have h1:1≤8:=by omega
 refine callsIn_of_wp_marks Tryz.func88 rfl trivial ?_ hro;simp only[Tryz.ntmps88,List.size_toArray,List.length_cons,List.length_nil,Nat.reduceAdd,Nat.reduceSub,Array.replicate_succ,Array.replicate_zero,List.push_toArray,List.append_toArray,List.nil_append,List.cons_append];have HX:=Lib.hid hx;have HL:=Lib.hid hxl;have HG:=Lib.hid hG;have hn1:((n:Int)==0)=false:=by simp;omega
 have hn2:¬(n:Int)=0:=by omega
 clear hx hxl hG
 gi_wp2_with (refine⟨trivial,?_⟩;gi_at_call 166;refine(bwd_in Fence.wide (8-1) trivial hro _ _ _ _).mono ?_;rintro e w' ⟨rfl,rfl⟩)
 have bX:(((w.alloc (.cells #[.bool false,.slice A n c] 81)).alloc (.cells #[.pointer none,.slice none 0 0] 131)).alloc (.cells #[.slice A n c] 79)).heap[w.heap.size]? =some (.cells #[.bool false,.slice A n c] 81):=(Below.heap_alloc _ _ _ (by simp;omega)).trans ((Below.heap_alloc _ _ _ aCq).trans (World.alloc_heap_new w _))
 have bB:(((w.alloc (.cells #[.bool false,.slice A n c] 81)).alloc (.cells #[.pointer none,.slice none 0 0] 131)).alloc (.cells #[.slice A n c] 79)).heap[w.heap.size+1]? =some (.cells #[.pointer none,.slice none 0 0] 131):=(Below.heap_alloc _ _ _ aCq).trans (by
  have:=World.alloc_heap_new (w.alloc (.cells #[.bool false,.slice A n c] 81)) (.cells #[.pointer none,.slice none 0 0] 131)
  rwa [World.size_alloc] at this)
 have bS:=Boxed.new ((w.alloc (.cells #[.bool false,.slice A n c] 81)).alloc (.cells #[.pointer none,.slice none 0 0] 131)) 79 (.slice A n c);simp only[World.size_alloc] at bS;have hB0:Below w.heap.size w (((w.alloc (.cells #[.bool false,.slice A n c] 81)).alloc (.cells #[.pointer none,.slice none 0 0] 131)).alloc (.cells #[.slice A n c] 79)):=(((Below.refl _ w).alloc (Nat.le_refl _) _).alloc aCq _).alloc (by simp;omega) _;have hsz:(((w.alloc (.cells #[.bool false,.slice A n c] 81)).alloc (.cells #[.pointer none,.slice none 0 0] 131)).alloc (.cells #[.slice A n c] 79)).heap.size=w.heap.size+3:=by simp
 obtain⟨W0,hW0⟩:∃W0,(((w.alloc (.cells #[.bool false,.slice A n c] 81)).alloc (.cells #[.pointer none,.slice none 0 0] 131)).alloc (.cells #[.slice A n c] 79))=W0:=⟨_,rfl⟩
 rw[hW0] at bX bB bS hB0 hsz ⊢;clear hW0;have bF:Buf (w.heap.size+2) (w.heap.size+1) (Lib.byteCells (cont false xs n [])) W0:=Buf.fresh bB
 refine wpIn_rangeFunc_ownF hro h1 (gf:=197) (lb:=#[.pointer (some ⟨w.heap.size+1+1,0,none⟩)]) rfl trivial (enters_of Tryz.func197 (by kernel_rfl) rfl)
  (yK Fence.wide (8-1) trivial hro aCo (w.heap.size+1+1) w.heap.size A n c xs W0 aCo aCo bS.cell (HX.out.below hB0)) kpB_t (kpB_b aCo aCo) (Below.refl _ _) (fun _=>rfl)
  (fun pre W=>((Buf (w.heap.size+2) (w.heap.size+1) (Lib.byteCells (cont false xs n pre)) W∧W.heap[w.heap.size]? =some (.cells #[.bool false,.slice A n c] 81 (0,0)))∧Boxed W (w.heap.size+1+1) 79 (.slice A n c))∧Below w.heap.size w W)
  (fun _ _ _=>False)
  (OwnFrom.and (OwnFrom.and (OwnFrom.and (fun s X Y row hs hg hr=>Buf.grown hs hg (fun r e=>(hr r e).2)) (fun s X Y row hs hg hr=>aB6 hs hg (fun r e=>(hr r e).2))) (Own.from (boxed_own _ _ _) _)) (ownFrom_below (Nat.le_refl _) aCo))
  (fun _ _ _ _ _ hs _ _=>hs)
  ⟨⟨⟨bF,bX⟩,bS⟩,hB0⟩
  (fun x=>{tmps:=#[.agg #[.bool false,.slice A n c],.pointer (some ⟨w.heap.size,0,none⟩),.string ⟨#[]⟩,.pointer (some ⟨w.heap.size+1,0,none⟩),.int .i64 (x.val:Int),.int .i64 (xs[x.val]?.getD 0),undef,.pointer (some ⟨w.heap.size,1,none⟩),.slice A n c,.int .i64 (n:Int),.bool false,.pointer (some ⟨w.heap.size,0,none⟩),.bool false,undef,.pointer (some ⟨w.heap.size,1,none⟩),.slice A n c,.func (.func 197) #[] #[.pointer (some ⟨w.heap.size+1+1,0,none⟩)],.int .i64 (x.val:Int),.int .i64 (xs[x.val]?.getD 0),undef,undef,undef,undef,undef,undef,undef,undef,undef,undef,undef,undef,undef,undef,undef,undef],defers:= []}) ?assign ?body ?done ?stop
 case assign=>
  intro l x W K hK
  gi_wp2
  exact hK
 case body=>
  rintro l pre x W ⟨⟨⟨hbuf,hxb⟩,hsb⟩,hBw⟩ hlt;have hgw:GW W:=Lib.tabBelow_of_tabIs HG.out W hBw;have hlm:=HL.out x.val;have hlen:=xZ HL.out x.val;have hclen:=cont_len HL.out false n pre;have hsz2:=hBw.size;have hbl:=hbuf.lt;have hxl:=x.isLt;have hit:=fun w h=>yO (xs[x.val]?.getD 0) aCo aCo w h
  have hsb2:(ByteArray.mk (Lib.itoa (xs[x.val]?.getD 0)).toArray).size=(Lib.itoa (xs[x.val]?.getD 0)).length:=by rw[Lib.size_eq]
  have hcs:=cont_snoc false xs n pre x;have hpt:padT xs n x.val=(if x.val+1<n then List.replicate (9-(Lib.itoa (xs[x.val]?.getD 0)).length) 48 else[])++Lib.itoa (xs[x.val]?.getD 0):=rfl;rw[hpt] at hcs;clear hpt;have hstr:Lib.strCells (ByteArray.mk (Lib.itoa (xs[x.val]?.getD 0)).toArray)=Lib.byteCells (Lib.itoa (xs[x.val]?.getD 0)):=rfl;generalize ByteArray.mk (Lib.itoa (xs[x.val]?.getD 0)).toArray=sb at hit hsb2 hstr;generalize Lib.itoa (xs[x.val]?.getD 0)=ll at hlen hsb2 hcs hstr;generalize xs[x.val]?.getD 0=v at hlm hit ⊢;have hkeep:∀W1,Below W.heap.size W W1→W1.cell? ⟨w.heap.size,1,none⟩=some (.slice A n c):=fun W1 k=>dG ((k.block w.heap.size aCo).trans hxb) 1 _ rfl
  have HKp:=Lib.hid hkeep;have HIT:=Lib.hid hit;have HGW:=Lib.hid hgw;have HBUF:=Lib.hid hbuf;have HXB:=Lib.hid hxb;have HSB:=Lib.hid hsb;have HBW:=Lib.hid hBw;have HCS:=Lib.hid hcs;have HST:=Lib.hid hstr;have hsl:sb.size≤9:=by omega
  have HS2:=Lib.hid hsb2;have hbl2:(Lib.byteCells (cont false xs n pre)).length≤9000001:=by rw[Lib.byteCells_length];omega
  clear hkeep hit hgw hbuf hxb hsb hBw hcs hstr hsb2
  by_cases hlast:x.val+1<n
  ·have q1:decide ((x.val:Int)<(n:Int)-1)=true:=by simp;omega
   have hrp:∀w:World,Calls Tryz.prog 169 #[.string ⟨#[48]⟩,.int .i64 (9-(sb.size:Int))] w fun e w'=>e= .returned (.string ⟨(List.replicate (9-sb.size) 48).toArray⟩)∧Below w.heap.size w w':=fun w=>by
    have:=Any.strings_Repeat lay105 vF ⟨#[48]⟩ (9-sb.size) w aCo (by rw[show(ByteArray.mk #[48]).size=1 from rfl];omega);rw[show(ByteArray.mk #[48]).data.toList= [48] from rfl,rep_zero,show((9-sb.size:Nat):Int)=9-(sb.size:Int) from by omega] at this;exact this
   have hrl:(ByteArray.mk (List.replicate (9-sb.size) (48:UInt8)).toArray).size≤9:=by rw[Lib.size_eq];simp
   have hrc:Lib.strCells (ByteArray.mk (List.replicate (9-sb.size) (48:UInt8)).toArray)=Lib.byteCells (List.replicate (9-sb.size) 48):=rfl;generalize ByteArray.mk (List.replicate (9-sb.size) (48:UInt8)).toArray=rp at hrp hrl hrc;have HRP:=Lib.hid hrp;have HRC:=Lib.hid hrc;clear hrp hrc
   gi_wp2_with (first
    |(refine⟨trivial,?_⟩;gi_at_call 167;refine(CallsIn.inRound l (callsIn_wide.2 (HIT.out _ HGW.out))).mono ?_;rintro e W1 ⟨rfl,k1⟩;have hbA:=HBUF.out.below k1;have cx:=HKp.out _ k1;have hz1:=k1.size;have K1:=Lib.hid k1;clear k1 HIT)
    |(refine⟨trivial,?_⟩;gi_at_call 169;refine(CallsIn.inRound l (callsIn_wide.2 (HRP.out _))).mono ?_;rintro e W2 ⟨rfl,k2⟩;have hbB:=hbA.below k2;have hz2:=k2.size;have K2:=Lib.hid k2;clear k2 hbA HRP cx)
    |(refine⟨trivial,?_⟩;gi_at_call 168;refine(CallsIn.inRound l (callsIn_wide.2 (lF (w.heap.size+2) (w.heap.size+1) _ rp W2 hbB aCo aCo))).mono ?_;rintro e W3 ⟨rfl,hbC,k3⟩;have hz3:=k3.size;have K3:=Lib.hid k3;clear k3 hbB)
    |(refine⟨trivial,?_⟩;gi_at_call 168;refine(CallsIn.inRound l (callsIn_wide.2 (lF (w.heap.size+2) (w.heap.size+1) _ sb W3 hbC (by rw[List.length_append,Lib.strCells_length];omega) aCo))).mono ?_;rintro e W4 ⟨rfl,hbD,k4⟩;have K4:=Lib.hid k4;clear k4 hbC))
   have T:Touch (w.heap.size+2) (w.heap.size+1) W W4:=(((Touch.of_below K1.out).trans (Touch.of_below K2.out)).trans K3.out).trans K4.out
   have hbytes:Lib.byteCells (cont false xs n pre)++Lib.strCells rp++Lib.strCells sb=Lib.byteCells (cont false xs n (pre++ [x])):=by
    rw[HCS.out,if_pos hlast,HRC.out,HST.out,HS2.out];simp[Lib.byteCells]
   rw[hbytes] at hbD;exact⟨HBUF.out.others T,⟨T.keepB aCo HSB.out aCr,T.below aCo aCo aCo⟩,⟨⟨hbD,T.keep aCo HXB.out aCr⟩,T.keep aCo HSB.out aCr⟩,HBW.out.trans (T.below aCo aCo aCo)⟩
  ·have q1:decide ((x.val:Int)<(n:Int)-1)=false:=by simp;omega
   gi_wp2_with (first
    |(refine⟨trivial,?_⟩;gi_at_call 167;refine(CallsIn.inRound l (callsIn_wide.2 (HIT.out _ HGW.out))).mono ?_;rintro e W1 ⟨rfl,k1⟩;have hbA:=HBUF.out.below k1;have cx:=HKp.out _ k1;have hz1:=k1.size;have K1:=Lib.hid k1;clear k1 HIT)
    |(refine⟨trivial,?_⟩;gi_at_call 168;refine(CallsIn.inRound l (callsIn_wide.2 (lF (w.heap.size+2) (w.heap.size+1) _ sb W1 hbA aCo aCo))).mono ?_;rintro e W4 ⟨rfl,hbD,k4⟩;have K4:=Lib.hid k4;clear k4 hbA))
   have T:Touch (w.heap.size+2) (w.heap.size+1) W W4:=(Touch.of_below K1.out).trans K4.out
   have hbytes:Lib.byteCells (cont false xs n pre)++Lib.strCells sb=Lib.byteCells (cont false xs n (pre++ [x])):=by
    rw[HCS.out,if_neg hlast,HST.out];simp[Lib.byteCells]
   rw[hbytes] at hbD;exact⟨HBUF.out.others T,⟨T.keepB aCo HSB.out aCr,T.below aCo aCo aCo⟩,⟨⟨hbD,T.keep aCo HXB.out aCr⟩,T.keep aCo HSB.out aCr⟩,HBW.out.trans (T.below aCo aCo aCo)⟩
 case done=>
  rintro D zs W hD rfl ⟨⟨⟨hbuf,hxb⟩,hsb⟩,hBw⟩ hK;have hisb:=Lib.IsBuilderF.of (hbuf.is (B:=w.heap.size) aCo aCo);have hs2:=hBw.size;have hbl:=hbuf.lt;obtain⟨cl,hl⟩:∃cl,cont false xs n (bwl n n)=cl:=⟨_,rfl⟩
  rw[hl] at hisb;have HS:=Lib.hid (Any.Builder_String_any_k lay169 vG w.heap.size (w.heap.size+1) cl W hisb aCo);have HL2:=Lib.hid hl;have HBW:=Lib.hid hBw;have HK:=Lib.hid hK;clear hisb hl hbuf hxb hsb hBw hK
  gi_wp2_with (refine⟨trivial,?_⟩;gi_at_call 170;refine(callsIn_wide.2 HS.out).mono ?_;rintro e W2 ⟨rfl,_,k2,ok2⟩)
  have hK2:W2.heap[D]? =some (.deferred (some [])):=ok2 D _ HK.out (fun e=>by have:D=w.heap.size+1:=Option.some.inj e;omega) (fun _ _ e=>by cases e);refine⟨by simp,.inl ⟨_,_,rfl,run_takeDeferred hK2,?_⟩⟩;exact⟨_,by simp[results,Tryz.results88,go_sem];rfl,by rw[HL2.out],(HBW.out.trans k2).trans (belowK_b (w:=w) (Nat.le_refl _) _ D _ _ aCo hK2 rfl rfl)⟩
 case stop=>
  rintro D c pre W hD hpre h hK;exact h.elim
theorem text_neg(A:Option Addr)(n c:Nat)(xs:List Int)(w:World)(hx:RI w.heap.size w A n xs)(hxl:limbs xs)(hn:n≤1000000)(h0:0<n)(hG:GW w) :
 Calls Tryz.prog 88 #[.agg #[.bool true,.slice A n c]] w fun e w'=>e= .returned (.string ⟨(cont true xs n (bwl n n)).toArray⟩)∧Below w.heap.size w w':=by
 have hmax:=hx.2.1;refine(callsIn_wide (n:=8)).1 ?_;have hro:Fence.wide.round=none:=rfl;have h1:1≤8:=by omega
 refine callsIn_of_wp_marks Tryz.func88 rfl trivial ?_ hro;simp only[Tryz.ntmps88,List.size_toArray,List.length_cons,List.length_nil,Nat.reduceAdd,Nat.reduceSub,Array.replicate_succ,Array.replicate_zero,List.push_toArray,List.append_toArray,List.nil_append,List.cons_append];have HX:=Lib.hid hx;have HL:=Lib.hid hxl;have HG:=Lib.hid hG;have hn1:((n:Int)==0)=false:=by simp;omega
 have hn2:¬(n:Int)=0:=by omega
 clear hx hxl hG
 have hb0:((w.alloc (.cells #[.bool true,.slice A n c] 81)).alloc (.cells #[.pointer none,.slice none 0 0] 131)).heap[w.heap.size+1]? =some (.cells #[.pointer none,.slice none 0 0] 131):=by
  have:=World.alloc_heap_new (w.alloc (.cells #[.bool true,.slice A n c] 81)) (.cells #[.pointer none,.slice none 0 0] 131)
  rwa [World.size_alloc] at this
 have hx0:((w.alloc (.cells #[.bool true,.slice A n c] 81)).alloc (.cells #[.pointer none,.slice none 0 0] 131)).heap[w.heap.size]? =some (.cells #[.bool true,.slice A n c] 81):=(Below.heap_alloc _ _ _ aCq).trans (World.alloc_heap_new w _);have hba:Below w.heap.size w ((w.alloc (.cells #[.bool true,.slice A n c] 81)).alloc (.cells #[.pointer none,.slice none 0 0] 131)):=((Below.refl _ w).alloc (Nat.le_refl _) _).alloc aCq _;have hza:((w.alloc (.cells #[.bool true,.slice A n c] 81)).alloc (.cells #[.pointer none,.slice none 0 0] 131)).heap.size=w.heap.size+2:=by simp
 have HFR:Hid (Buf (w.heap.size+2) (w.heap.size+1) [] ((w.alloc (.cells #[.bool true,.slice A n c] 81)).alloc (.cells #[.pointer none,.slice none 0 0] 131))):=Lib.hid (Buf.fresh hb0);have HX0:=Lib.hid hx0;have HBA:=Lib.hid hba;have HZA:=Lib.hid hza;clear hb0 hx0 hba hza
 gi_wp2_with (first
  |(refine⟨trivial,?_⟩;gi_at_call 165;refine(callsIn_wide.2 (aCm (w.heap.size+2) (w.heap.size+1) [] 45 _ HFR.out aCr (by rw[HZA.out];exact Nat.le_refl _))).mono ?_;rintro e w1 ⟨rfl,hbf,ht⟩;have hx1:=ht.keep aCo HX0.out aCr;have hb1:=HBA.out.trans (ht.below (Nat.le_succ _) aCo (by rw[HZA.out];omega));have hz1:=ht.size;rw[HZA.out] at hz1;have cxa:=dG hx1 0 _ rfl;have cxb:=dG hx1 1 _ rfl;have HBF:=Lib.hid hbf;have HX1:=Lib.hid hx1;have HB1:=Lib.hid hb1;clear hbf ht hx1 hb1 HFR)
  |(refine⟨trivial,?_⟩;gi_at_call 166;refine(bwd_in Fence.wide (8-1) trivial hro _ _ _ _).mono ?_;rintro e w' ⟨rfl,rfl⟩))
 clear cxa cxb;have bX:(w1.alloc (.cells #[.slice A n c] 79)).heap[w.heap.size]? =some (.cells #[.bool true,.slice A n c] 81 (0,0)):=(Below.heap_alloc _ _ _ aCo).trans HX1.out;have bS:=Boxed.new w1 79 (.slice A n c);have hB0:Below w.heap.size w (w1.alloc (.cells #[.slice A n c] 79)):=HB1.out.alloc aCo _;have hsz:(w1.alloc (.cells #[.slice A n c] 79)).heap.size=w1.heap.size+1:=by simp
 have bF:Buf (w.heap.size+2) (w.heap.size+1) (Lib.byteCells (cont true xs n [])) (w1.alloc (.cells #[.slice A n c] 79)):=HBF.out.below ((Below.refl _ w1).alloc (Nat.le_refl _) _);obtain⟨W0,hW0⟩:∃W0,w1.alloc (.cells #[.slice A n c] 79)=W0:=⟨_,rfl⟩
 rw[hW0] at bX bS hB0 hsz bF ⊢;clear hW0
 refine wpIn_rangeFunc_ownF hro h1 (gf:=197) (lb:=#[.pointer (some ⟨w1.heap.size,0,none⟩)]) rfl trivial (enters_of Tryz.func197 (by kernel_rfl) rfl)
  (yK Fence.wide (8-1) trivial hro aCo (w1.heap.size) w.heap.size A n c xs W0 aCo aCo bS.cell (HX.out.below hB0)) kpB_t (kpB_b aCo aCo) (Below.refl _ _) (fun _=>rfl)
  (fun pre W=>((Buf (w.heap.size+2) (w.heap.size+1) (Lib.byteCells (cont true xs n pre)) W∧W.heap[w.heap.size]? =some (.cells #[.bool true,.slice A n c] 81 (0,0)))∧Boxed W (w1.heap.size) 79 (.slice A n c))∧Below w.heap.size w W)
  (fun _ _ _=>False)
  (OwnFrom.and (OwnFrom.and (OwnFrom.and (fun s X Y row hs hg hr=>Buf.grown hs hg (fun r e=>(hr r e).2)) (fun s X Y row hs hg hr=>aB6 hs hg (fun r e=>(hr r e).2))) (Own.from (boxed_own _ _ _) _)) (ownFrom_below (Nat.le_refl _) aCo))
  (fun _ _ _ _ _ hs _ _=>hs)
  ⟨⟨⟨bF,bX⟩,bS⟩,hB0⟩
  (fun x=>{tmps:=#[.agg #[.bool true,.slice A n c],.pointer (some ⟨w.heap.size,0,none⟩),.string ⟨#[]⟩,.pointer (some ⟨w.heap.size+1,0,none⟩),.int .i64 (x.val:Int),.int .i64 (xs[x.val]?.getD 0),undef,.pointer (some ⟨w.heap.size,1,none⟩),.slice A n c,.int .i64 (n:Int),.bool false,.pointer (some ⟨w.heap.size,0,none⟩),.bool true,.nilIface,.pointer (some ⟨w.heap.size,1,none⟩),.slice A n c,.func (.func 197) #[] #[.pointer (some ⟨w1.heap.size,0,none⟩)],.int .i64 (x.val:Int),.int .i64 (xs[x.val]?.getD 0),undef,undef,undef,undef,undef,undef,undef,undef,undef,undef,undef,undef,undef,undef,undef,undef],defers:= []}) ?assign ?body ?done ?stop
 case assign=>
  intro l x W K hK
  gi_wp2
  exact hK
 case body=>
  rintro l pre x W ⟨⟨⟨hbuf,hxb⟩,hsb⟩,hBw⟩ hlt;have hgw:GW W:=Lib.tabBelow_of_tabIs HG.out W hBw;have hlm:=HL.out x.val;have hlen:=xZ HL.out x.val;have hclen:=cont_len HL.out true n pre;have hsz2:=hBw.size;have hbl:=hbuf.lt;have hxl:=x.isLt;have hit:=fun w h=>yO (xs[x.val]?.getD 0) aCo aCo w h
  have hsb2:(ByteArray.mk (Lib.itoa (xs[x.val]?.getD 0)).toArray).size=(Lib.itoa (xs[x.val]?.getD 0)).length:=by rw[Lib.size_eq]
  have hcs:=cont_snoc true xs n pre x;have hpt:padT xs n x.val=(if x.val+1<n then List.replicate (9-(Lib.itoa (xs[x.val]?.getD 0)).length) 48 else[])++Lib.itoa (xs[x.val]?.getD 0):=rfl;rw[hpt] at hcs;clear hpt;have hstr:Lib.strCells (ByteArray.mk (Lib.itoa (xs[x.val]?.getD 0)).toArray)=Lib.byteCells (Lib.itoa (xs[x.val]?.getD 0)):=rfl;generalize ByteArray.mk (Lib.itoa (xs[x.val]?.getD 0)).toArray=sb at hit hsb2 hstr;generalize Lib.itoa (xs[x.val]?.getD 0)=ll at hlen hsb2 hcs hstr;generalize xs[x.val]?.getD 0=v at hlm hit ⊢;have hkeep:∀W1,Below W.heap.size W W1→W1.cell? ⟨w.heap.size,1,none⟩=some (.slice A n c):=fun W1 k=>dG ((k.block w.heap.size aCo).trans hxb) 1 _ rfl
  have HKp:=Lib.hid hkeep;have HIT:=Lib.hid hit;have HGW:=Lib.hid hgw;have HBUF:=Lib.hid hbuf;have HXB:=Lib.hid hxb;have HSB:=Lib.hid hsb;have HBW:=Lib.hid hBw;have HCS:=Lib.hid hcs;have HST:=Lib.hid hstr;have hsl:sb.size≤9:=by omega
  have HS2:=Lib.hid hsb2;have hbl2:(Lib.byteCells (cont true xs n pre)).length≤9000001:=by rw[Lib.byteCells_length];omega
  clear hkeep hit hgw hbuf hxb hsb hBw hcs hstr hsb2
  by_cases hlast:x.val+1<n
  ·have q1:decide ((x.val:Int)<(n:Int)-1)=true:=by simp;omega
   have hrp:∀w:World,Calls Tryz.prog 169 #[.string ⟨#[48]⟩,.int .i64 (9-(sb.size:Int))] w fun e w'=>e= .returned (.string ⟨(List.replicate (9-sb.size) 48).toArray⟩)∧Below w.heap.size w w':=fun w=>by
    have:=Any.strings_Repeat lay105 vF ⟨#[48]⟩ (9-sb.size) w aCo (by rw[show(ByteArray.mk #[48]).size=1 from rfl];omega);rw[show(ByteArray.mk #[48]).data.toList= [48] from rfl,rep_zero,show((9-sb.size:Nat):Int)=9-(sb.size:Int) from by omega] at this;exact this
   have hrl:(ByteArray.mk (List.replicate (9-sb.size) (48:UInt8)).toArray).size≤9:=by rw[Lib.size_eq];simp
   have hrc:Lib.strCells (ByteArray.mk (List.replicate (9-sb.size) (48:UInt8)).toArray)=Lib.byteCells (List.replicate (9-sb.size) 48):=rfl;generalize ByteArray.mk (List.replicate (9-sb.size) (48:UInt8)).toArray=rp at hrp hrl hrc;have HRP:=Lib.hid hrp;have HRC:=Lib.hid hrc;clear hrp hrc
   gi_wp2_with (first
    |(refine⟨trivial,?_⟩;gi_at_call 167;refine(CallsIn.inRound l (callsIn_wide.2 (HIT.out _ HGW.out))).mono ?_;rintro e W1 ⟨rfl,k1⟩;have hbA:=HBUF.out.below k1;have cx:=HKp.out _ k1;have hz1:=k1.size;have K1:=Lib.hid k1;clear k1 HIT)
    |(refine⟨trivial,?_⟩;gi_at_call 169;refine(CallsIn.inRound l (callsIn_wide.2 (HRP.out _))).mono ?_;rintro e W2 ⟨rfl,k2⟩;have hbB:=hbA.below k2;have hz2:=k2.size;have K2:=Lib.hid k2;clear k2 hbA HRP cx)
    |(refine⟨trivial,?_⟩;gi_at_call 168;refine(CallsIn.inRound l (callsIn_wide.2 (lF (w.heap.size+2) (w.heap.size+1) _ rp W2 hbB aCo aCo))).mono ?_;rintro e W3 ⟨rfl,hbC,k3⟩;have hz3:=k3.size;have K3:=Lib.hid k3;clear k3 hbB)
    |(refine⟨trivial,?_⟩;gi_at_call 168;refine(CallsIn.inRound l (callsIn_wide.2 (lF (w.heap.size+2) (w.heap.size+1) _ sb W3 hbC (by rw[List.length_append,Lib.strCells_length];omega) aCo))).mono ?_;rintro e W4 ⟨rfl,hbD,k4⟩;have K4:=Lib.hid k4;clear k4 hbC))
   have T:Touch (w.heap.size+2) (w.heap.size+1) W W4:=(((Touch.of_below K1.out).trans (Touch.of_below K2.out)).trans K3.out).trans K4.out
   have hbytes:Lib.byteCells (cont true xs n pre)++Lib.strCells rp++Lib.strCells sb=Lib.byteCells (cont true xs n (pre++ [x])):=by
    rw[HCS.out,if_pos hlast,HRC.out,HST.out,HS2.out];simp[Lib.byteCells]
   rw[hbytes] at hbD;exact⟨HBUF.out.others T,⟨T.keepB aCo HSB.out aCr,T.below aCo aCo aCo⟩,⟨⟨hbD,T.keep aCo HXB.out aCr⟩,T.keep aCo HSB.out aCr⟩,HBW.out.trans (T.below aCo aCo aCo)⟩
  ·have q1:decide ((x.val:Int)<(n:Int)-1)=false:=by simp;omega
   gi_wp2_with (first
    |(refine⟨trivial,?_⟩;gi_at_call 167;refine(CallsIn.inRound l (callsIn_wide.2 (HIT.out _ HGW.out))).mono ?_;rintro e W1 ⟨rfl,k1⟩;have hbA:=HBUF.out.below k1;have cx:=HKp.out _ k1;have hz1:=k1.size;have K1:=Lib.hid k1;clear k1 HIT)
    |(refine⟨trivial,?_⟩;gi_at_call 168;refine(CallsIn.inRound l (callsIn_wide.2 (lF (w.heap.size+2) (w.heap.size+1) _ sb W1 hbA aCo aCo))).mono ?_;rintro e W4 ⟨rfl,hbD,k4⟩;have K4:=Lib.hid k4;clear k4 hbA))
   have T:Touch (w.heap.size+2) (w.heap.size+1) W W4:=(Touch.of_below K1.out).trans K4.out
   have hbytes:Lib.byteCells (cont true xs n pre)++Lib.strCells sb=Lib.byteCells (cont true xs n (pre++ [x])):=by
    rw[HCS.out,if_neg hlast,HST.out];simp[Lib.byteCells]
   rw[hbytes] at hbD;exact⟨HBUF.out.others T,⟨T.keepB aCo HSB.out aCr,T.below aCo aCo aCo⟩,⟨⟨hbD,T.keep aCo HXB.out aCr⟩,T.keep aCo HSB.out aCr⟩,HBW.out.trans (T.below aCo aCo aCo)⟩
 case done=>
  rintro D zs W hD rfl ⟨⟨⟨hbuf,hxb⟩,hsb⟩,hBw⟩ hK;have hisb:=Lib.IsBuilderF.of (hbuf.is (B:=w.heap.size) aCo aCo);have hs2:=hBw.size;have hbl:=hbuf.lt;obtain⟨cl,hl⟩:∃cl,cont true xs n (bwl n n)=cl:=⟨_,rfl⟩
  rw[hl] at hisb;have HS:=Lib.hid (Any.Builder_String_any_k lay169 vG w.heap.size (w.heap.size+1) cl W hisb aCo);have HL2:=Lib.hid hl;have HBW:=Lib.hid hBw;have HK:=Lib.hid hK;clear hisb hl hbuf hxb hsb hBw hK
  gi_wp2_with (refine⟨trivial,?_⟩;gi_at_call 170;refine(callsIn_wide.2 HS.out).mono ?_;rintro e W2 ⟨rfl,_,k2,ok2⟩)
  have hK2:W2.heap[D]? =some (.deferred (some [])):=ok2 D _ HK.out (fun e=>by have:D=w.heap.size+1:=Option.some.inj e;omega) (fun _ _ e=>by cases e);refine⟨by simp,.inl ⟨_,_,rfl,run_takeDeferred hK2,?_⟩⟩;exact⟨_,by simp[results,Tryz.results88,go_sem];rfl,by rw[HL2.out],(HBW.out.trans k2).trans (belowK_b (w:=w) (Nat.le_refl _) _ D _ _ aCo hK2 rfl rfl)⟩
 case stop=>
  rintro D c pre W hD hpre h hK;exact h.elim
theorem vH:text 0=⟨#[48]⟩:=by
 unfold text Lib.itoa;rw[if_neg aCo,show(0:Int).toNat=0 from rfl,iJ aCo];rfl
theorem qV(v:Value)(z:Int)(L:Nat)(w:World)(hv:NumV w v z L)(hL:L≤1000000)(hG:GW w) :
 Calls Tryz.prog 88 #[v] w fun e w'=>e= .returned (.string (text z))∧Below w.heap.size w w':=by
 obtain⟨d,u,x,rfl,⟨A,n,c,xs,rfl,h1,h2,h3,h4,h5,h6,rfl⟩,rfl⟩:=hv
 by_cases h0:n=0
 ·subst h0
  have hz:=(nK h2 h3).2 h1.1;have e:text (if d=true then -lval xs else lval xs)=⟨#[48]⟩:=by rw[hz];cases d <;> exact vH
  rw[e];exact text_zero d A c w
 ·have e:text (if d=true then -lval xs else lval xs)=⟨(cont d xs n (bwl n n)).toArray⟩:=by rw[cont_all h2 h3 n h1.1 aCo d];rfl
  rw[e]
  cases d
  ·exact text_pos A n c xs w h1 h2 aCo aCo hG
  ·exact text_neg A n c xs w h1 h2 aCo aCo hG
end Go.Proofs.YtignanmmgaldeaaGreatDoor
namespace Go.Proofs.YtignanmmgaldeaaGreatDoor
open Go.RowKit Go.Shelf Go.Proofs.YtignanmmgaldeaaGreatDoorW.PrintWords
def pJ(z:Int):Nat:=if z=0 then 0 else(Lib.decDigits z.natAbs).length
theorem flat_len{xs:List Int}(hx:limbs xs)(n:Nat):∀k,0<k→k≤n→((bwl n k).flatMap fun i=>padT xs n i.val).length=(Lib.itoa (xs[n-1]?.getD 0)).length+9*(k-1)
 |0,h,_=>by omega
 |k+1,_,hk=>by
  rw[nY n k aCo,List.flatMap_append,List.length_append];have hl:=xZ hx (n-1-k);rcases Nat.eq_zero_or_pos k with e|e
  ·subst e
   simp only[bwl,List.flatMap_nil,List.length_nil,List.flatMap_cons,List.append_nil,Nat.sub_zero];rw[padT,if_neg aCo,List.nil_append];omega
  ·rw[flat_len hx n k e aCo]
   simp only[List.flatMap_cons,List.flatMap_nil,List.append_nil];rw[padT,if_pos aCo,List.length_append,List.length_replicate];omega
theorem size_val{xs:List Int}(hx:limbs xs)(ht:topped xs)(n:Nat)(hn:xs.length=n)(h0:0<n)(d:Bool):pJ (if d=true then -lval xs else lval xs)=(Lib.itoa (xs[n-1]?.getD 0)).length+9*(n-1):=by
 obtain⟨h1,h2⟩:=aA6 hx ht n hn n h0 (Nat.le_refl _);have hv:=topV_val hx n hn n (Nat.le_refl _);have hl:=flat_len hx n n h0 (Nat.le_refl _);rw[h2] at hl;rw[Nat.sub_self] at hv;simp only[Int.pow_zero,Int.mul_one,pval,Int.add_zero] at hv;rw[←hl,←hv];unfold pJ
 cases d
 ·simp only[Bool.false_eq_true,if_false];rw[if_neg aCo,show((topV xs n n:Nat):Int).natAbs=topV xs n n from by omega]
 ·simp only[if_true];rw[if_neg aCo,show(-((topV xs n n:Nat):Int)).natAbs=topV xs n n from by omega]
theorem size_zero(d:Bool)(A:Option Addr)(c:Nat)(w:World) :
 Calls Tryz.prog 146 #[.agg #[.bool d,.slice A 0 c]] w fun e w'=>e= .returned (.int .i64 0)∧Below w.heap.size w w':=by
 go_enter Tryz.func146,Tryz.ntmps146
 go_wp2
 go_ret
 exact⟨rfl,(Below.refl _ w).alloc (Nat.le_refl _) _⟩
theorem size_pos(d:Bool)(A:Option Addr)(n c:Nat)(xs:List Int)(w:World)(hx:RI w.heap.size w A n xs)(hxl:limbs xs)(hn:n≤1000000)(h0:0<n)(hG:GW w) :
 Calls Tryz.prog 146 #[.agg #[.bool d,.slice A n c]] w fun e w'=>e= .returned (.int .i64 (((Lib.itoa (xs[n-1]?.getD 0)).length+9*(n-1):Nat):Int))∧Below w.heap.size w w':=by
 have hl:=hxl (n-1);have hlen:=xZ hxl (n-1);have hn1:((n:Int)==0)=false:=by simp;omega
 have hn2:¬(n:Int)=0:=by omega
 obtain⟨ad,rfl,hb,hc⟩:=hx.2.2 h0;have HG:=Lib.hid hG;have hcell:∀o,(w.alloc o).cell? (ad.add (n-1))=some (.int .i64 (xs[n-1]?.getD 0)):=fun o=>((Below.refl w.heap.size w).alloc (Nat.le_refl _) o).cell (p:=ad.add (n-1)) (by rw[add_block];exact hb) |>.trans (hc (n-1) aCo)
 have hit:=fun w h=>yO (xs[n-1]?.getD 0) aCo aCo w h
 have hsz:(ByteArray.mk (Lib.itoa (xs[n-1]?.getD 0)).toArray).size=(Lib.itoa (xs[n-1]?.getD 0)).length:=by rw[Lib.size_eq]
 generalize ByteArray.mk (Lib.itoa (xs[n-1]?.getD 0)).toArray=sb at hit hsz;generalize (Lib.itoa (xs[n-1]?.getD 0)).length=k at hsz hlen ⊢;generalize xs[n-1]?.getD 0=v at hit hcell hl;have HIT:=Lib.hid hit;obtain⟨m,rfl⟩:∃m,n=m+1:=⟨n-1,by omega⟩
 rw[Nat.add_sub_cancel] at hcell ⊢;have HS:=Lib.hid hsz;have hsl:sb.size≤9:=by omega
 clear hx hxl hG hc hit hsz;go_enter Tryz.func146,Tryz.ntmps146
 go_wp2_with(go_at_call 167;refine(HIT.out _ (HG.out.below ((Below.refl _ w).alloc (Nat.le_refl _) _))).mono ?_;rintro e w' ⟨rfl,hB⟩;have HB:=Lib.hid hB;clear hB HIT)
 go_ret
 exact⟨by rw[show(m:Int)*9+(sb.size:Int)=((k+9*m:Nat):Int) from by rw[HS.out];omega];rfl,(((Below.refl _ w).alloc (Nat.le_refl _) _).trans (HB.out.mono aCq))⟩
theorem size_num(v:Value)(z:Int)(L:Nat)(w:World)(hv:NumV w v z L)(hL:L≤1000000)(hG:GW w) :
 Calls Tryz.prog 146 #[v] w fun e w'=>e= .returned (.int .i64 (pJ z:Int))∧Below w.heap.size w w':=by
 obtain⟨d,u,x,rfl,⟨A,n,c,xs,rfl,h1,h2,h3,h4,h5,h6,rfl⟩,rfl⟩:=hv
 by_cases h0:n=0
 ·subst h0
  have hz:=(nK h2 h3).2 h1.1;have e:pJ (if d=true then -lval xs else lval xs)=0:=by rw[hz];cases d <;> rfl
  rw[e];exact size_zero d A c w
 ·rw[size_val h2 h3 n h1.1 aCo d]
  exact size_pos d A n c xs w h1 h2 aCo aCo hG
def wrS(z:Int):ByteArray:=if 4096<pJ z then⟨#[]⟩ else text z
def wrE(z:Int):Int:=if 4096<pJ z then 10 else 0
theorem num_open{w:World}{v:Value}{z:Int}{L:Nat}(h:NumV w v z L):∃d A n c,v= .agg #[.bool d,.slice A n c]∧NumV w (.agg #[.bool d,.slice A n c]) z L:=by
 have k:=h;obtain⟨d,u,x,rfl,⟨A,n,c,xs,rfl,h'⟩,hz⟩:=h;exact⟨d,A,n,c,rfl,k⟩
theorem wI(v:Value)(z:Int)(L:Nat)(w:World)(hv:NumV w v z L)(hL:L≤1000000)(hG:GW w) :
 Calls Tryz.prog 80 #[v] w fun e w'=>e= .returned (.tuple #[.string (wrS z),.int .i64 (wrE z)])∧Below w.heap.size w w':=by
 obtain⟨d,A,n,c,rfl,hv⟩:=num_open hv;have hsn:=fun w (h:NumV w (.agg #[.bool d,.slice A n c]) z L) hg=>size_num _ z L w h hL hg
 have htn:=fun w (h:NumV w (.agg #[.bool d,.slice A n c]) z L) hg=>qV _ z L w h hL hg
 have hbx:(w.alloc (.cells #[.bool d,.slice A n c] 81)).heap[w.heap.size]? =some (.cells #[.bool d,.slice A n c] 81):=World.alloc_heap_new w _;have hba:Below w.heap.size w (w.alloc (.cells #[.bool d,.slice A n c] 81)):=(Below.refl _ w).alloc (Nat.le_refl _) _;have hsz:(w.alloc (.cells #[.bool d,.slice A n c] 81)).heap.size=w.heap.size+1:=by simp
 have HSN:=Lib.hid (hsn _ (hv.below hba) (hG.below hba));have HT:=Lib.hid htn;have HV:=Lib.hid (hv.below hba);have HG:=Lib.hid (hG.below hba);have HX:=Lib.hid hbx;have HB:=Lib.hid hba;have HZ:=Lib.hid hsz;clear hsn htn hv hG hbx hba hsz
 by_cases h:4096<pJ z
 ·rw[wrS,if_pos h,wrE,if_pos h]
  generalize pJ z=s at HSN h;have q:decide ((4096:Int)<(s:Int))=true:=by simp;omega
  go_enter Tryz.func80,Tryz.ntmps80
  go_wp2_with(go_at_call 146;refine HSN.out.mono ?_;rintro e w1 ⟨rfl,k1⟩;have K1:=Lib.hid k1;clear k1 HSN)
  go_ret2
  exact⟨rfl,HB.out.trans (K1.out.mono (by rw[HZ.out];omega))⟩
 ·rw[wrS,if_neg h,wrE,if_neg h]
  generalize pJ z=s at HSN h;have q:decide ((4096:Int)<(s:Int))=false:=by simp;omega
  go_enter Tryz.func80,Tryz.ntmps80
  go_wp2_with(first
   |(go_at_call 146;refine HSN.out.mono ?_;rintro e w1 ⟨rfl,k1⟩;have hx1:=(k1.block w.heap.size (by rw[HZ.out];omega)).trans HX.out;have c0:=dG hx1 0 _ rfl;have c1:=dG hx1 1 _ rfl;have K1:=Lib.hid k1;clear k1 hx1 HSN)
   |(go_at_call 88;refine(HT.out w1 (HV.out.below K1.out) (HG.out.below K1.out)).mono ?_;rintro e w2 ⟨rfl,k2⟩;have K2:=Lib.hid k2;clear k2 c0 c1))
  go_ret2
  exact⟨rfl,HB.out.trans ((K1.out.trans (K2.out.mono K1.out.size)).mono (by rw[HZ.out];omega))⟩
end Go.Proofs.YtignanmmgaldeaaGreatDoor
end
section
namespace Go.Proofs.YtignanmmgaldeaaGreatDoorW.PrintLast
open Go.Proofs.YtignanmmgaldeaaGreatDoorW.PrintWords (aA)
def xJ(md:Region.Mode)(o:Oper):List Nat:=(o.after.toList.filter (fun e=>Region.binds md e)).map (fun e=>e.on)
def clashOf(md:Region.Mode)(ops:Array Oper)(i:Nat)(oi:Oper):List Nat:=(List.range ops.size).filter fun j=> !(j==i)&&match ops[j]? with
 |some oj=> !(oj.after.any (fun e=>Region.binds md e&&e.on==i)||oi.apart ops oj)
 |none=>false
def rtab(md:Region.Mode)(ops:Array Oper):Bool×List (List Nat×List Nat):=(Region.noSelect ops,(List.range ops.size).map fun i=>match ops[i]? with
 |some o=>(xJ md o,clashOf md ops i o)
 |none=>([],[]))
def uN(T:List (List Nat×List Nat))(l:List Bool)(i:Nat):Bool:= !l.getD i true&&match T[i]? with
 |some r=>r.1.all (fun j=>l.getD j false)
 |none=>false
def readyT(T:List (List Nat×List Nat))(l:List Bool):List Nat:=(List.range T.length).filter (uN T l)
def freeT(T:List (List Nat×List Nat))(l:List Bool)(i:Nat):Bool:=match T[i]? with
 |some r=>r.2.all (fun j=>l.getD j true)
 |none=>false
def closedT(T:List (List Nat×List Nat))(l:List Bool):Bool:=(List.range T.length).all fun j=> !l.getD j false||match T[j]? with
 |some r=>r.1.all (fun k=>l.getD k false)
 |none=>true
def zQ(T:List (List Nat×List Nat))(i:Nat):Nat→Nat→Bool
 |0,_=>false
 |fuel+1,d=>match T[d]? with
  |some r=>r.1.any fun j=>j==i||zQ T i fuel j
  |none=>false
def lastT(T:List (List Nat×List Nat))(l:List Bool)(ds:List Nat)(i:Nat):Bool:=ds.all fun d=>l.getD d true||zQ T i T.length d
section
variable {md:Region.Mode} {ops:Array Oper} {T:Bool×List (List Nat×List Nat)} {l l' li lj lk:Array Bool} {ds:List Nat} {i j k:Nat}
theorem gd(l:Array Bool)(j:Nat)(b:Bool):l.getD j b=l.toList.getD j b:=by simp[Array.getD_eq_getD_getElem?,List.getD_eq_getElem?_getD]
theorem needs_all(o:Oper)(p:Nat→Bool):o.after.all (fun e=> !Region.binds md e||p e.on)=(xJ md o).all p:=by
 unfold xJ;rw[←Array.all_toList]
 induction o.after.toList with
 |nil=>rfl
 |cons e r ih=>
  rw[List.all_cons,ih,List.filter_cons]
  cases h:Region.binds md e <;> simp
theorem needs_any(o:Oper)(p:Nat→Bool):o.after.any (fun e=>Region.binds md e&&p e.on)=(xJ md o).any p:=by
 unfold xJ;rw[←Array.any_toList]
 induction o.after.toList with
 |nil=>rfl
 |cons e r ih=>
  rw[List.any_cons,ih,List.filter_cons]
  cases h:Region.binds md e <;> simp
theorem wJ:(rtab md ops).2.length=ops.size:=by simp[rtab]
theorem yP{o:Oper}(h:ops[i]? =some o):(rtab md ops).2[i]? =some (xJ md o,clashOf md ops i o):=by
 have hi:=(Array.getElem?_eq_some_iff.1 h).1;unfold rtab;rw[List.getElem?_map,List.getElem?_range hi,Option.map_some,h]
theorem yQ(h:ops[i]? =none):(rtab md ops).2[i]? =none:=by
 have hi:ops.size≤i:=Array.getElem?_eq_none_iff.1 h;exact List.getElem?_eq_none (by rw[wJ];exact hi)
theorem readyAt_eq:uN (rtab md ops).2 l.toList i=(!l.getD i true&&((ops[i]?).map (·.after.all fun e=> !Region.binds md e||l.getD e.on false)).getD false):=by
 unfold uN;rw[gd]
 cases h:ops[i]? with
 |none=>rw[yQ h];rfl
 |some o=>
  rw[yP h];simp only[Option.map_some,Option.getD_some];rw[←needs_all];simp only[gd]
theorem ready_eq:Region.ready md ops l=readyT (rtab md ops).2 l.toList:=by
 unfold Region.ready readyT;rw[wJ];refine List.filter_congr (fun i _=> ?_);rw[readyAt_eq]
theorem free_eq:Region.free md ops l i=freeT (rtab md ops).2 l.toList i:=by
 unfold Region.free freeT
 cases h:ops[i]? with
 |none=>rw[yQ h]
 |some oi=>
  rw[yP h];simp only[clashOf];rw[List.all_filter]
  congr 1
  funext j
  rw[gd]
  cases hj:ops[j]? with
  |none=>cases (j==i) <;> cases (l.toList.getD j true) <;> simp
  |some oj=>
   cases (j==i) <;> cases (l.toList.getD j true) <;> cases (oj.after.any (fun e=>Region.binds md e&&e.on==i)||oi.apart ops oj) <;> simp_all
theorem closed_eq:Region.zH md ops l=closedT (rtab md ops).2 l.toList:=by
 unfold Region.zH closedT;rw[wJ]
 congr 1
 funext j
 rw[gd]
 cases h:ops[j]? with
 |none=>rw[yQ h]
 |some o=>
  rw[yP h];simp only;rw[←needs_all];simp only[gd]
theorem reach_eq:∀(fuel d:Nat),Region.qB md ops i fuel d=zQ (rtab md ops).2 i fuel d
 |0,_=>rfl
 |fuel+1,d=>by
  unfold Region.qB zQ
  cases h:ops[d]? with
  |none=>rw[yQ h]
  |some o=>
   rw[yP h];simp only;rw[←needs_any]
   congr 1
   funext e
   rw[reach_eq fuel]
theorem last_eq:Region.lastB md ops l ds i=lastT (rtab md ops).2 l.toList ds i:=by
 unfold Region.lastB lastT;rw[wJ]
 congr 1
 funext d
 rw[gd,reach_eq]
theorem aB7(h:uN T.2 l.toList i=true)(hT:rtab md ops=T):(Region.ready md ops l).contains i=true:=by
 subst hT;rw[ready_eq];unfold readyT;rw[List.contains_iff_mem,List.mem_filter,List.mem_range];refine⟨?_,h⟩;unfold uN at h;rw[Bool.and_eq_true] at h
 cases hq:(rtab md ops).2[i]? with
 |none=>rw[hq] at h;simp at h
 |some r=>exact(List.getElem?_eq_some_iff.1 hq).1
theorem set_of(h:(l.toList.set i true==l'.toList)=true):(l.setIfInBounds i true==l')=true:=by
 rw[beq_iff_eq] at h ⊢
 apply Array.ext'
 rw[Array.toList_setIfInBounds];exact h
def anyT(T:Bool×List (List Nat×List Nat))(l l':List Bool)(i:Nat):Bool:=T.1&&freeT T.2 l i&&uN T.2 l i&&(l.set i true==l')
theorem vI(hT:rtab md ops=T)(h:anyT T l.toList l'.toList i=true):anyB md ops l l' i=true:=by
 simp only[anyT,Bool.and_eq_true] at h;obtain⟨⟨⟨h1,h2⟩,h3⟩,h4⟩:=h;have h5:=aB7 h3 hT;have h6:=set_of h4;subst hT;simp only[anyB,Bool.and_eq_true];exact⟨⟨⟨h1,by rw[free_eq];exact h2⟩,h5⟩,h6⟩
def takeT(T:Bool×List (List Nat×List Nat))(ds:List Nat)(l l':List Bool)(i:Nat):Bool:=T.1&&freeT T.2 l i&&uN T.2 l i&&closedT T.2 l&&lastT T.2 l ds i&&(l.set i true==l')
theorem take_of(hT:rtab md ops=T)(h:takeT T ds l.toList l'.toList i=true):takeB md ops ds l l' i=true:=by
 simp only[takeT,Bool.and_eq_true] at h;obtain⟨⟨⟨⟨⟨h1,h2⟩,h3⟩,h4⟩,h5⟩,h6⟩:=h;have h7:=aB7 h3 hT;have h8:=set_of h6;subst hT;simp only[takeB,Bool.and_eq_true];exact⟨⟨⟨⟨⟨h1,by rw[free_eq];exact h2⟩,h7⟩,by rw[closed_eq];exact h4⟩,by rw[last_eq];exact h5⟩,h8⟩
theorem yA(hT:rtab md ops=T)(h:(readyT T.2 l.toList== [i]&&l.toList.set i true==l'.toList)=true):readyB md ops l l' i=true:=by
 simp only[Bool.and_eq_true] at h;obtain⟨h1,h2⟩:=h;subst hT;simp only[readyB,Bool.and_eq_true];exact⟨by rw[ready_eq];exact h1,set_of h2⟩
theorem mG(hT:rtab md ops=T)(h:(readyT T.2 l.toList== [])=true):(Region.ready md ops l== [])=true:=by
 subst hT;rw[ready_eq];exact h
def upM(B:List Nat)(d:Nat):List Nat→Nat
 | []=>0
 |n::r=>(2 ^ n ||| (if n<d then B.getD n 0 else 0)) ||| upM B d r
def kV(T:List (List Nat×List Nat))(B:List Nat):Bool:=(List.range T.length).all fun d=>match T[d]? with
 |some r=>(B.getD d 0 ||| upM B d r.1)==upM B d r.1
 |none=>false
theorem upM_bit{B:List Nat}{d i:Nat}:∀{ns:List Nat},(upM B d ns).testBit i=true→∃n∈ns,n=i∨(n<d∧(B.getD n 0).testBit i=true)
 | [],h=>by simp[upM] at h
 |n::r,h=>by
  unfold upM at h;rw[Nat.testBit_or,Nat.testBit_or,Bool.or_eq_true,Bool.or_eq_true] at h;rcases h with (h|h)|h
  ·rw[Nat.testBit_two_pow] at h
   exact⟨n,List.mem_cons_self,.inl (by simpa using h)⟩
  ·by_cases hn:n<d
   ·rw[if_pos hn] at h
    exact⟨n,List.mem_cons_self,.inr ⟨hn,h⟩⟩
   ·rw[if_neg hn] at h
    simp at h
  ·obtain⟨m,hm,h2⟩:=upM_bit h
   exact⟨m,List.mem_cons_of_mem _ hm,h2⟩
theorem reach_bit{T:List (List Nat×List Nat)}{B:List Nat}(hB:kV T B=true):∀(fuel d:Nat),d<fuel→d<T.length→(B.getD d 0).testBit i=true→zQ T i fuel d=true
 |0,d,h,_,_=>by omega
 |fuel+1,d,h,hd,hb=>by
  have h1:=List.all_eq_true.1 hB d (List.mem_range.2 hd)
  cases hr:T[d]? with
  |none=>rw[hr] at h1;simp at h1
  |some r=>
   rw[hr] at h1;simp only[beq_iff_eq] at h1;have h2:(upM B d r.1).testBit i=true:=by rw[←h1,Nat.testBit_or,hb,Bool.true_or]
   obtain⟨n,hn,h3⟩:=upM_bit h2;unfold zQ;rw[hr];simp only;rw[List.any_eq_true];refine⟨n,hn,?_⟩;rcases h3 with rfl|⟨h4,h5⟩
   ·simp
   ·rw[reach_bit hB fuel n aCo aCo h5,Bool.or_true]
def lastW(T:List (List Nat×List Nat))(B:List Nat)(l:List Bool)(ds:List Nat)(i:Nat):Bool:=ds.all fun d=>l.getD d true||(decide (d<T.length)&&(B.getD d 0).testBit i)
def takeW(T:Bool×List (List Nat×List Nat))(B:List Nat)(ds:List Nat)(l l':List Bool)(i:Nat):Bool:=T.1&&freeT T.2 l i&&uN T.2 l i&&closedT T.2 l&&lastW T.2 B l ds i&&(l.set i true==l')
theorem take_ofW{B:List Nat}(hT:rtab md ops=T)(hB:kV T.2 B=true)(h:takeW T B ds l.toList l'.toList i=true):takeB md ops ds l l' i=true:=by
 refine take_of hT ?_;simp only[takeW,takeT,Bool.and_eq_true] at h ⊢;obtain⟨⟨⟨⟨⟨h1,h2⟩,h3⟩,h4⟩,h5⟩,h6⟩:=h;refine⟨⟨⟨⟨⟨h1,h2⟩,h3⟩,h4⟩,?_⟩,h6⟩;unfold lastW at h5;unfold lastT;rw[List.all_eq_true] at h5 ⊢;intro d hd;have h7:=h5 d hd;rw[Bool.or_eq_true,Bool.and_eq_true,decide_eq_true_eq] at h7;rcases h7 with h7|⟨h8,h9⟩
 ·rw[h7,Bool.true_or]
 ·rw[reach_bit hB _ d h8 h8 h9,Bool.or_true]
theorem kP{P:Program}{Q:Exit→Act→World→Prop}{S:World→Prop}{n:Nat}{a:Act}{w:World}{B:List Nat}(hT:rtab md ops=T)(hB:kV T.2 B=true)(h:aA (rtab md ops=T)→aA (kV T.2 B=true)→fG P md ops Q S ds n l a w):fG P md ops Q S ds n l a w:=h ⟨hT⟩ ⟨hB⟩
end
def wK:Code→Nat→Option (Array Oper)
 | .region id ops _,k=>if id==k then some ops else none
 | .seq a b,k=>match wK a k with
   |some o=>some o
   |none=>wK b k
 | .cond _ a b,k=>match wK a k with
   |some o=>some o
   |none=>wK b k
 | .block _ c,k=>wK c k
 | .loop c,k=>wK c k
 | .scope c,k=>wK c k
 | .rangeFunc _ _ a b,k=>match wK a k with
   |some o=>some o
   |none=>wK b k
 |_,_=>none
def opsOf(f:Func)(k:Nat):Array Oper:=((f.body.bind fun c=>wK c k)).getD #[]
end Go.Proofs.YtignanmmgaldeaaGreatDoorW.PrintLast
end
section
namespace Go.Proofs.YtignanmmgaldeaaGreatDoorW.PrintWords
open Go.RowKit
section
variable {w w' u:World} {m B g:Nat} {o:Obj} {row:Option Nat} {S:Nat→Prop} {a:Addr} {v:Value}
theorem oK(hq:w.drewN m=w')(h:w.cell? a=some v):w'.cell? a=some v:=by subst hq;exact h
end
end Go.Proofs.YtignanmmgaldeaaGreatDoorW.PrintWords
end
section
namespace Go.Proofs.YtignanmmgaldeaaGreatDoorW.PrintWords
open Go.RowKit
section
variable {P:Program} {d:Nat} {xs ys:Array Value} {f:Field} {fs:List Field} {a b:Value} {r s:Bool} {w:World}
theorem eqf_last(hn:(f.name== "_")=false)(ha:(part f.type xs f.offset).run P w= .ok a w)(hb:(part f.type ys f.offset).run P w= .ok b w)(he:(Op.equalIn d f.type a b).run P w= .ok r w):(Op.eqFields d xs ys [f]).run P w= .ok r w:=by
 have hn':f.name≠ "_" :=by simpa using hn
 simp only[Op.eqFields,if_pos hn',Sem.run_bind,ha,hb,he,Result.andThen_ok]
 cases r <;> simp
theorem vP(hn:(f.name== "_")=false)(ha:(part f.type xs f.offset).run P w= .ok a w)(hb:(part f.type ys f.offset).run P w= .ok b w)(he:(Op.equalIn d f.type a b).run P w= .ok r w)(hr:(Op.eqFields d xs ys fs).run P w= .ok s w):(Op.eqFields d xs ys (f::fs)).run P w= .ok (r&&s) w:=by
 have hn':f.name≠ "_" :=by simpa using hn
 rw[Op.eqFields];simp only[if_pos hn',Sem.run_bind,ha,hb,he,Result.andThen_ok]
 cases r
 ·simp
 ·simpa using hr
theorem eqA_of{t:TypeId}{fs:Array Field}(hu:P.underlying t=some (.struct fs))(hp:P.stoodInHeld t=false)(h:(Op.eqFields d xs ys fs.toList).run P w= .ok r w):(Op.equalIn (d+1) t (.agg xs) (.agg ys)).run P w= .ok r w:=by
 have hf:P.fieldsOf t=fs:=by simp[Program.fieldsOf,hu]
 rw[run_equalIn_struct (P:=P) w d t xs ys (by rw[hf];exact hu) hp,hf];exact h
end
end Go.Proofs.YtignanmmgaldeaaGreatDoorW.PrintWords
end
section
namespace Go.Proofs.YtignanmmgaldeaaGreatDoorW.PrintWords
theorem Reps.one{α:Type}{R:α→List Value→Prop}{ps:List α}{cs:List Value}{p:α}{v:Value}(hp:R p [v])(h:Reps R 1 ps cs):Reps R 1 (p::ps) (v::cs):=by
 refine⟨by simp[h.1],fun j q hq=> ?_⟩
 cases j with
 |zero=>
  simp only[List.getElem?_cons_zero,Option.some.injEq] at hq;subst hq
  simpa using hp
 |succ j=>
  simp only[List.getElem?_cons_succ] at hq;have h1:=h.2 j q hq
  simpa[Nat.mul_one] using h1
theorem Reps.front{α:Type}{R:α→List Value→Prop}{size:Nat}{ps:List α}{cs c all:List Value}{p:α}(hp:R p c)(hc:c.length=size)(h:Reps R size ps cs)(ha:c++cs=all):Reps R size (p::ps) all:=by
 subst ha;refine⟨by rw[List.length_append,hc,h.1,List.length_cons,Nat.succ_mul,Nat.add_comm],fun j q hq=> ?_⟩
 cases j with
 |zero=>
  simp only[List.getElem?_cons_zero,Option.some.injEq] at hq;subst hq;rw[Nat.zero_mul,List.drop_zero,List.take_append_of_le_length aCo,List.take_of_length_le aCo];exact hp
 |succ j=>
  simp only[List.getElem?_cons_succ] at hq;have h1:=h.2 j q hq;rw[Nat.succ_mul,List.drop_append,List.drop_of_length_le (by rw[hc];exact Nat.le_add_left _ _),List.nil_append,hc,Nat.add_sub_cancel];exact h1
theorem Reps.c3{α:Type}{R:α→List Value→Prop}{ps:List α}{cs:List Value}{p:α}{va vb vc:Value}(hp:R p [va,vb,vc])(h:Reps R 3 ps cs):Reps R 3 (p::ps) (va::vb::vc::cs):=Reps.front hp rfl h rfl
end Go.Proofs.YtignanmmgaldeaaGreatDoorW.PrintWords
end
section
namespace Go.Proofs.YtignanmmgaldeaaGreatDoorW.PrintLast
def up(b:Nat→Bool)(i:Nat):Nat→Bool:=fun j=>if j=i then true else b j
end Go.Proofs.YtignanmmgaldeaaGreatDoorW.PrintLast
end
section
namespace Go.Proofs.YtignanmmgaldeaaGreatDoorW.PrintLast
section
variable {ops:Array Oper} {a:Act} {o og:Oper} {g:Nat} {t:Tmp} {u:Bool}
theorem eval_of{v:Value}(h:a.tmps[t]? =some v):a.eval (.tmp t)=v:=by simp[Act.eval,h]
end
end Go.Proofs.YtignanmmgaldeaaGreatDoorW.PrintLast
end
section
namespace Go.Proofs.YtignanmmgaldeaaGreatDoorW.PrintWords
open Go.RowKit
section
variable {P:Program} {ops:Array Oper} {rest:List Oper} {o:Oper} {a:Act} {Q:Exit→Act→World→Prop} {W:World}
theorem eP(hw:Region.wanted o (yielded ops a.tmps)=true)(h:wpList P ops Q ({o with guard:=none}::rest) a W):wpList P ops Q (o::rest) a W:=by
 have h1:Region.wanted {o with guard:=none} (yielded ops a.tmps)=true:=rfl;unfold wpList at h ⊢;rw[if_pos h1] at h;rw[if_pos hw];exact h
end
end Go.Proofs.YtignanmmgaldeaaGreatDoorW.PrintWords
end
section
set_option linter.unusedVariables false
namespace Go.Proofs.YtignanmmgaldeaaGreatDoorW.PrintWords
open Go.RowKit
theorem pkK{W0 W W':World}{g:Nat}{o:Obj}(B:aA (W0.heap[g]? =some o))(hb:Below W.heap.size W W')(h:W0.heap[g]? =some o→W.heap[g]? =some o:=by intro h_;(with_reducible repeat(first|refine bM ?_ _|refine aQ ?_|refine bK ?_ _));exact h_):aA (W'.heap[g]? =some o):=⟨dF (h B.out) hb⟩
theorem pkW{W0 W:World}{g:Nat}{o:Obj}(B:aA (W0.heap[g]? =some o))(h:W0.heap[g]? =some o→W.heap[g]? =some o:=by intro h_;(with_reducible repeat(first|refine bM ?_ _|refine aQ ?_|refine bK ?_ _));exact h_):W.heap[g]? =some o:=h B.out
theorem pkL{w W0 W:World}(B:aA (Below w.heap.size w W0))(h:Below w.heap.size w W0→Below w.heap.size w W:=by intro h_;repeat(first|(with_reducible first|exact h_|apply cZ|apply bH|apply bG|refine oZ ?_ (aA.out (by assumption)))|exact h_)):Below w.heap.size w W:=h B.out
theorem pkB{w W0 W W':World}(B:aA (Below w.heap.size w W0))(hb:Below W.heap.size W W')(h:Below w.heap.size w W0→Below w.heap.size w W:=by intro h_;repeat(first|(with_reducible first|exact h_|apply cZ|apply bH|apply bG|refine oZ ?_ (aA.out (by assumption)))|exact h_)):aA (Below w.heap.size w W'):=⟨rE (h B.out) hb⟩
theorem pkG{w W0 W:World}{g:Nat}(B:aA (Below w.heap.size w W0))(hg:g=W.heap.size)(h:Below w.heap.size w W0→Below w.heap.size w W:=by intro h_;repeat(first|(with_reducible first|exact h_|apply cZ|apply bH|apply bG|refine oZ ?_ (aA.out (by assumption)))|exact h_)):aA (w.heap.size≤g):=⟨by rw[hg];exact dU (h B.out)⟩
theorem pkN{W0 W:World}{g g':Nat}{o:Obj}(B:aA (W0.heap[g]? =some o))(hg:g'=W.heap.size)(h:W0.heap[g]? =some o→W.heap[g]? =some o:=by intro h_;(with_reducible repeat(first|refine bM ?_ _|refine aQ ?_|refine bK ?_ _));exact h_):aA (g≠g'):=⟨by rw[hg];exact Nat.ne_of_lt (uZ (h B.out))⟩
theorem pkM{W0 W:World}{g g':Nat}{o:Obj}(B:aA (W0.heap[g]? =some o))(hg:g'=W.heap.size)(h:W0.heap[g]? =some o→W.heap[g]? =some o:=by intro h_;(with_reducible repeat(first|refine bM ?_ _|refine aQ ?_|refine bK ?_ _));exact h_):aA (g'≠g):=⟨by rw[hg];exact Nat.ne_of_gt (uZ (h B.out))⟩
theorem pkE{w W0 W:World}{e v:Ending}(B:aA (Below w.heap.size w W0))(h1:e=v:=by first|rfl|(simp[dW,dX] <;> rfl)|(simp[*,dW,dX] <;> rfl))(h:Below w.heap.size w W0→Below w.heap.size w W:=by intro h_;repeat(first|(with_reducible first|exact h_|apply cZ|apply bH|apply bG|refine oZ ?_ (aA.out (by assumption)))|exact h_)):e=v∧Below w.heap.size w W:=⟨h1,h B.out⟩
theorem pk3{W:World}{g:Nat}{t:TypeId}{a b c:Value}(B:aA (W.heap[g]? =some (.cells #[a,b,c] t (0,0)))):(W.cell? ⟨g,0,none⟩=some a∧W.cell? ⟨g,1,none⟩=some b∧W.cell? ⟨g,2,none⟩=some c)∧W.frozen? ⟨g,0,none⟩=false∧W.frozen? ⟨g,1,none⟩=false∧W.frozen? ⟨g,2,none⟩=false:=
 ⟨⟨(aC B.out 0).trans rfl,(aC B.out 1).trans rfl,(aC B.out 2).trans rfl⟩,aI B.out 0,aI B.out 1,aI B.out 2⟩
theorem blk_p0{w:World}{g:Nat}{t:TypeId}{x a b c:Value}(h:w.heap[g]? =some (.cells #[x,b,c] t (0,0))):(w.setCell ⟨g,0,none⟩ a).heap[g]? =some (.cells #[a,b,c] t (0,0)):=gX h 0 a rfl
theorem blk_p1{w:World}{g:Nat}{t:TypeId}{x a b c:Value}(h:w.heap[g]? =some (.cells #[a,x,c] t (0,0))):(w.setCell ⟨g,1,none⟩ b).heap[g]? =some (.cells #[a,b,c] t (0,0)):=gX h 1 b rfl
theorem blk_p2{w:World}{g:Nat}{t:TypeId}{x a b c:Value}(h:w.heap[g]? =some (.cells #[a,b,x] t (0,0))):(w.setCell ⟨g,2,none⟩ c).heap[g]? =some (.cells #[a,b,c] t (0,0)):=gX h 2 c rfl
theorem pkS3{W0 W:World}{g:Nat}{t:TypeId}{x y z a b c:Value}(B:aA (W0.heap[g]? =some (.cells #[x,y,z] t (0,0))))(h:W0.heap[g]? =some (.cells #[x,y,z] t (0,0))→W.heap[g]? =some (.cells #[a,b,c] t (0,0)):=by intro h_;with_reducible repeat(first|exact h_|apply blk_p2|apply blk_p1|apply blk_p0|refine bM ?_ _|refine aQ ?_|refine bK ?_ _)):W.heap[g]? =some (.cells #[a,b,c] t (0,0)):=h B.out
section
variable {P:Program} {ops:Array Oper} {Q:Exit→Act→World→Prop}
theorem vJ{rest:List Oper}{o:Oper}{a:Act}{W:World}{p:Tmp}{aCn:Array Operand}{ts:Array TypeId}(_ho:o.op= .call {callee:= .value (.tmp p),args:=aCn,argTypes:=ts})(h:wpList P ops Q (o::rest) a W):wpList P ops Q (o::rest) a W:=h
theorem goesV_{rest:List Oper}{oi:Oper}{a:Act}{w:World}(N:Option Tmp)(hd:oi.dst=N)(hg:oi.guard=none){f:FuncId}{fn:Func}{c:Operand}{aCn:Array Operand}{ts:Array TypeId}(hf:P.funcs[f]? =some fn)(hname:(fn.name== "runtime.NumGoroutine")=false)(hb:fn.body.isSome=true)(args:Array Value)
 (hop:oi.op= .call {callee:= .value c,args:=aCn,argTypes:=ts}) (hc:a.eval c= .func (.func f) #[] #[]) (hargs:aCn.map a.eval=args)
 (h:Calls P f args w fun e w'=>∃v,e= .returned v∧wpList P ops Q rest (a.put N v) w'):wpList P ops Q (oi::rest) a w:=by
 refine wpList_plain hg fun K hK=> ?_
 have he:=PrintLast.enters_ hf hname hb args w
 have hrun:(execOp a.eval oi).run P w= .ok (.enter f args) w:=by
  unfold execOp
  simp[hop,hc,resolve,Deferred.ofValue,invoke,hargs,he]
 unfold Oper.wp;rw[hrun,Oper.upon_enter];refine h.mono fun e w'' hh=> ?_
 obtain⟨v,rfl,hk⟩:=hh;subst hd;exact hK _ _ hk
end
end Go.Proofs.YtignanmmgaldeaaGreatDoorW.PrintWords
end
section
set_option linter.unusedVariables false
namespace Go.Proofs.YtignanmmgaldeaaGreatDoorW.PrintWords
open Go.RowKit Go.Proofs.YtignanmmgaldeaaGreatDoorW.PrintLast
theorem bi{α β:Type}{o:Option α}{f:α→Option β}{b:β}(h:o.bind f=some b):∃a,aA (o=some a)∧f a=some b:=by
 obtain⟨a,h1,h2⟩:=Option.bind_eq_some_iff.mp h;exact⟨a,⟨h1⟩,h2⟩
section
variable {P:Program} {md:Region.Mode} {ops:Array Oper} {Q:Exit→Act→World→Prop} {S:World→Prop} {ds:List Nat}
theorem pr_(i n:Nat){oi:Oper}{v:Value}{fuel:Nat}{l l':Array Bool}{a a':Act}{w:World}(hi:ops[i]? =some oi:=by exact rfl)(hN:oi.dst=some n:=by exact rfl)(hl:l.setIfInBounds i true=l':=by simp only[List.setIfInBounds_toArray,List.set_cons_zero,List.set_cons_succ];rfl)(hc:anyB md ops l l' i=true:=by first|exact vI (aA.out (by assumption)) (by kernel_rfl)|kernel_rfl)
 (hQ:∀c a w,Q (.panic c) (a.put oi.dst v) w→Q (.panic c) a w:=by exact fun _ _ _ h=>h) (hy:Yields P ops oi v a:=by exact Or.inl ⟨by rfl,by intro w';go_simp;with_reducible rfl⟩) (ha:a.put (some n) v=a':=by simp only[Act.put,List.setIfInBounds_toArray,List.set_cons_zero,List.set_cons_succ,dE,dM];rfl)
 (h:fG P md ops Q S ds fuel l' a' w):fG P md ops Q S ds (fuel+1) l a w:=pure_ _ hi hN hc hQ hy ha h
theorem tk_(i n:Nat){oi:Oper}{v:Value}{fuel:Nat}{l l':Array Bool}{a a':Act}{w:World}(hS:S w)(hi:ops[i]? =some oi:=by exact rfl)(hN:oi.dst=some n:=by exact rfl)(hl:l.setIfInBounds i true=l':=by simp only[List.setIfInBounds_toArray,List.set_cons_zero,List.set_cons_succ];rfl)(hc:takeB md ops ds l l' i=true:=by first|exact take_ofW (aA.out (by assumption)) (aA.out (by assumption)) (by kernel_rfl)|exact take_of (aA.out (by assumption)) (by kernel_rfl)|kernel_rfl)
 (hQ:∀c a w,Q (.panic c) (a.put oi.dst v) w→Q (.panic c) a w:=by exact fun _ _ _ h=>h) (hb:Region.wanted oi (yielded ops a.tmps)=true:=by rfl) (hy:∀w',S w'→(execOp a.eval oi).run P w'= .ok (.value v) w') (ha:a.put (some n) v=a':=by simp only[Act.put,List.setIfInBounds_toArray,List.set_cons_zero,List.set_cons_succ,dE,dM];rfl)
 (h:fG P md ops Q S ds fuel l' a' w):fG P md ops Q S ds (fuel+1) l a w:=take_ _ hi hN hc hQ (Or.inl ⟨hb,hy⟩) hS ha h
theorem on_(i n:Nat){oi:Oper}{fuel:Nat}{l l':Array Bool}{a:Act}{w:World}(hi:ops[i]? =some oi:=by exact rfl)(hN:oi.dst=some n:=by exact rfl)(hl:l.setIfInBounds i true=l':=by simp only[List.setIfInBounds_toArray,List.set_cons_zero,List.set_cons_succ];rfl)(hc:readyB md ops l l' i=true:=by first|exact yA (aA.out (by assumption)) (by kernel_rfl)|kernel_rfl)(hd:i ∉ ds:=by decide)
 (h:∀K:Act→World→Prop,Shut (∀a' w',S w'→(S w'→fG P md ops Q S ds fuel l' a' w')→K a' w')→if Region.wanted oi (yielded ops a.tmps)=true then Oper.wp P oi a w K Q else K (a.put (some n) undef) w) :
 fG P md ops Q S ds (fuel+1) l a w:=one_ _ hi hN hc hd h
theorem g1_{oi:Oper}{N:Option Tmp}{a:Act}{w:World}{K:Act→World→Prop}{f:FuncId}{fn:Func}{aCn:Array Operand}{ts:Array TypeId}(hf:P.funcs[f]? =some fn)(args:Array Value)(hname:(fn.name== "runtime.NumGoroutine")=false:=by kernel_rfl)(hb:fn.body.isSome=true:=by rfl)
 (hw:Region.wanted oi (yielded ops a.tmps)=true:=by rfl) (hN:oi.dst=N:=by rfl) (hop:oi.op= .call {callee:= .value (.func f),args:=aCn,argTypes:=ts}:=by rfl) (hargs:aCn.map a.eval=args:=by(try simp only[List.map_toArray,List.map_cons,List.map_nil]);first|done|rfl|(simp only[List.length_drop,List.length_take];rfl))
 (h:Calls P f args w fun e w'=>∃v,e= .returned v∧K (a.put N v) w'):if Region.wanted oi (yielded ops a.tmps)=true then Oper.wp P oi a w K Q else K (a.put N undef) w:=goes_ hf hname hb args hw hN hop hargs h
theorem gl_(n:Nat){rest:List Oper}{oi:Oper}{a:Act}{w:World}{f:FuncId}{fn:Func}{aCn:Array Operand}{ts:Array TypeId}(hf:P.funcs[f]? =some fn)(args:Array Value)(hd:oi.dst=some n:=by rfl)(hg:oi.guard=none:=by rfl)(hname:(fn.name== "runtime.NumGoroutine")=false:=by kernel_rfl)(hb:fn.body.isSome=true:=by rfl)
 (hop:oi.op= .call {callee:= .value (.func f),args:=aCn,argTypes:=ts}:=by rfl) (hargs:aCn.map a.eval=args:=by(try simp only[List.map_toArray,List.map_cons,List.map_nil]);first|done|rfl|(simp only[List.length_drop,List.length_take];rfl))
 (h:Calls P f args w fun e w'=>∃v,e= .returned v∧wpList P ops Q rest (a.put (some n) v) w'):wpList P ops Q (oi::rest) a w:=jE (some n) hd hg hf hname hb args hop hargs h
theorem bx_{W:World}{o:Oper}{rest:List Oper}{a:Act}(N:Tmp)(t:TypeId)(cs:Array Value)(hd:o.dst=some N:=by rfl)(hgd:o.guard=none:=by rfl)
 (hrun:(execOp a.eval o).run P W= .ok (.value (.pointer (some ⟨W.heap.size,0,none⟩))) (W.alloc (.cells cs t (0,0))):=by first|(go_simp;done)|(go_simp;rfl))
 (h:∀g,g=W.heap.size→∀w1,w1.heap[g]? =some (.cells cs t (0,0))→Below W.heap.size W w1→wpList P ops Q rest (a.put o.dst (.pointer (some ⟨g,0,none⟩))) w1):wpList P ops Q (o::rest) a W:=lL hgd hd hrun h
end
end Go.Proofs.YtignanmmgaldeaaGreatDoorW.PrintWords
end
section
set_option linter.unusedVariables false
namespace Go.Proofs.YtignanmmgaldeaaGreatDoorW.PrintWords
open Go.RowKit
theorem pkF{W0 W W':World}{g:Nat}{t:TypeId}{cs:Array Value}(B:aA (W0.heap[g]? =some (.cells cs t (0,0))))(hb:Below W.heap.size W W')(h:W0.heap[g]? =some (.cells cs t (0,0))→W.heap[g]? =some (.cells cs t (0,0)):=by intro h_;repeat(first|(with_reducible first|exact h_|refine bM ?_ _|refine aQ ?_|refine bK ?_ _)|refine gU ?_ (aA.out (by assumption)) _)):aA (W'.heap[g]? =some (.cells cs t (0,0))):=⟨dF (h B.out) hb⟩
theorem pkQ{W0 W:World}{g g':Nat}{o:Obj}(B:aA (W0.heap[g]? =some o))(hg:g'=W.heap.size)(h:W0.heap[g]? =some o→W.heap[g]? =some o:=by intro h_;(with_reducible repeat(first|refine bM ?_ _|refine aQ ?_|refine bK ?_ _));exact h_):aA (g≠g')∧aA (g'≠g)∧g'≠g∧g≠g':=
 ⟨⟨by rw[hg];exact Nat.ne_of_lt (uZ (h B.out))⟩,⟨by rw[hg];exact Nat.ne_of_gt (uZ (h B.out))⟩,by rw[hg];exact Nat.ne_of_gt (uZ (h B.out)),by rw[hg];exact Nat.ne_of_lt (uZ (h B.out))⟩
end Go.Proofs.YtignanmmgaldeaaGreatDoorW.PrintWords
end
section
set_option linter.unusedVariables false
set_option linter.unusedSimpArgs false
set_option maxHeartbeats 8000000
set_option maxRecDepth 100000
namespace Go.Proofs.YtignanmmgaldeaaGreatDoor.Ptimes
open Go.RowKit Go.Proofs.YtignanmmgaldeaaGreatDoorW.PrintWords Go.Proofs.YtignanmmgaldeaaGreatDoorW.PrintLast Go.Proofs.YtignanmmgaldeaaGreatDoorW.PrintMore
attribute [local go_sem] gI gJ iE iF
def errW:Option Int→Value
 |none=> .nilIface
 |some c=> .iface 0 (.int .i64 c)
theorem dW:errW none= .nilIface:=rfl
theorem dX(c:Int):errW (some c)= .iface 0 (.int .i64 c):=rfl
theorem info3:(Tryz.prog.info? 3).map (fun i=>(i.zero,i.size,i.bytes))=some (some (.int .i64 0),1,8):=by kernel_rfl
end Go.Proofs.YtignanmmgaldeaaGreatDoor.Ptimes
namespace Go.Proofs.YtignanmmgaldeaaGreatDoor.Ptimes
open Go.RowKit Go.Proofs.YtignanmmgaldeaaGreatDoorW.PrintWords Go.Proofs.YtignanmmgaldeaaGreatDoorW.PrintLast Go.Proofs.YtignanmmgaldeaaGreatDoorW.PrintMore
attribute [local go_sem] gI gJ iE iF
def iV.l0:Nat→List Int→Option (List Int)
 |0,_=>none
 |k+1,x0=>if(x0.length:Int)>0 then(if 0≤(wrap64 ((x0.length:Int)-1)) then(if(wrap64 ((x0.length:Int)-1))<(x0.length:Int) then(if(rd x0 (wrap64 ((x0.length:Int)-1)))=0 then(if(wrap64 ((x0.length:Int)-1))≤(x0.length:Int) then(iV.l0 k (x0.take ((wrap64 ((x0.length:Int)-1)):Int).toNat)) else(none)) else(some x0)) else(none)) else(none)) else(some x0)
def iV.f(k:Nat)(l0:List Int):Option (List Int):=iV.l0 k l0
theorem iV.calls(k:Nat)(P0_:Nat→Prop)(A0:Option Addr)(c0:Nat)(l0:List Int)(r:List Int)(w:World)(hs0:Kd.V (Kd.int .i64) 3 w w.heap.size (fun k_=>P0_ k_) (.slice A0 l0.length c0) l0)(h:iV.f k l0=some r) :
 Calls Tryz.prog 172 #[.slice A0 l0.length c0] w fun e w'=>∃v0_:Value,e= .returned (v0_)∧Kd.V (Kd.int .i64) 3 w' w.heap.size (fun k_=>(P0_ k_∨w.heap.size≤k_)) v0_ r∧Below w.heap.size w w':=by
 have HO0:=aA.mk (show Kd.V (Kd.int .i64) 3 w w.heap.size (fun k_=>(P0_ k_∨w.heap.size≤k_)) (.slice A0 l0.length c0) l0 from Kd.V_mono hs0 (fun k_ hk=> .inl hk));have HB:=aA.mk (Below.refl w.heap.size w);have H:(iV.l0 k l0)=some r:=h;clear h;have H':=aA.mk H;clear H;go_enter Tryz.func172,Tryz.ntmps172
 go_wp2
 go_loopg [0] k (fun kq v0 w'=>∃(x0_1:List Int),aA (iV.l0 kq x0_1=some r)∧aA (kq≤k)∧aA (Kd.V (Kd.int .i64) 3 w' w.heap.size (fun k_=>(P0_ k_∨w.heap.size≤k_)) v0 x0_1)∧aA (Below w.heap.size w w'))
 case atStart=>exact⟨(l0),H',⟨Nat.le_refl _⟩,⟨by(with_reducible repeat(first|apply Kd.zI|apply Kd.zJ|apply Kd.V_drew));exact HO0.out⟩,⟨pkL HB⟩⟩
 case round=>
  clear H';obtain⟨x0_1,HA,HK1,HO_0,HB⟩:=hrel
  cases gk with
  |zero=>exact absurd HA.out (by simp[iV.l0])
  |succ k1=>
   have H:=HA.out;clear HA;simp only[iV.l0] at H
   by_cases c2:(x0_1.length:Int)>0
   ·rw[if_pos c2] at H
    have c2b0:decide (0<(x0_1.length:Int))=true:=decide_eq_true c2;have c2b1:decide (0<x0_1.length)=true:=decide_eq_true aCo;clear c2;obtain⟨ji3,hji3⟩:∃j_:Int,(wrap64 ((x0_1.length:Int)-1))=j_:=⟨_,rfl⟩
    replace H:(if 0≤(ji3) then(if(ji3)<(x0_1.length:Int) then(if(rd x0_1 (ji3))=0 then(if(ji3)≤(x0_1.length:Int) then(iV.l0 k1 (x0_1.take ((ji3):Int).toNat)) else(none)) else(some x0_1)) else(none)) else(none))=some r:=by first|(rw[hji3] at H;exact H)|(simp only[hji3] at H ⊢;exact H)
    have hji3w:(IntKind.i64.wrap ((x0_1.length:Int)-1))=ji3:=(dE _).trans hji3
    by_cases c4:0≤(ji3)
    ·rw[if_pos c4] at H
     have c4b0:decide (0≤(ji3))=true:=decide_eq_true c4;clear c4
     by_cases c5:(ji3)<(x0_1.length:Int)
     ·rw[if_pos c5] at H
      have c5b0:decide ((ji3)<(x0_1.length:Int))=true:=decide_eq_true c5;clear c5
      by_cases c6:(rd x0_1 (ji3))=0
      ·rw[if_pos c6] at H
       have c6b0:((rd x0_1 (ji3))==0)=true:=beq_iff_eq.mpr c6;have c6b1:((rd x0_1 (ji3)) != 0)=false:=bne_eq_false_iff_eq.mpr c6;clear c6;have c7b0:=eq_true (of_decide_eq_true (by first|(with_reducible assumption)|assumption):0≤(ji3))
       by_cases c8:(ji3)≤(x0_1.length:Int)
       ·rw[if_pos c8] at H
        have c8b0:=eq_true c8;have c8b1:decide ((ji3)≤(x0_1.length:Int))=true:=decide_eq_true c8;clear c8;obtain⟨y102,hy102⟩:∃y_:List Int,y_=(x0_1.take ((ji3):Int).toNat):=⟨_,rfl⟩
        replace H:(iV.l0 k1 y102)=some r:=by first|(rw[hy102];with_reducible exact H)|(have H2_:=(Option.bind_some _ _).symm.trans H;rw[hy102];with_reducible exact H2_)|(have H2_:=(Option.bind_some _ _).symm.trans H;with_reducible exact H2_)|with_reducible exact H|(rw[hy102];exact H)|exact H
        have Ny102:=aA.mk hy102;clear hy102;have H':=aA.mk H;clear H;obtain⟨Ao9,co9,eo9⟩:=Kd.V_slice HO_0.out;subst eo9;have p101:0≤((ji3):Int):=of_decide_eq_true (by first|(with_reducible assumption)|assumption);have q101:(ji3)<(x0_1.length:Int):=of_decide_eq_true (by first|(with_reducible assumption)|assumption);obtain⟨ad101,e101,hx101_0⟩:=Kd.kS (Kd.V_reads' HO_0.out).2.2 (ji3) p101 q101
        cases e101
        replace p101:=eq_true p101;replace q101:=eq_true q101;have q10:((ji3):Int)≤((x0_1.length:Int):Int):=of_decide_eq_true (by first|(with_reducible assumption)|assumption);obtain⟨i010,hi010,_,hsz10,_⟩:=info_parts info3;have hroom10:x0_1.length≤co9:=(Kd.V_reads' HO_0.out).2.1;have hC10:Kd.F (Kd.int .i64) _ _ (some ad101) x0_1.length x0_1:=(Kd.V_at (base:=w.heap.size) HO_0.out).2.2;have hcut10:=cut_to (P:=Tryz.prog) 79 3 .i64 Tryz.underlying79 hi010 (some ad101) x0_1.length co9 (ji3) (of_decide_eq_true (by first|(with_reducible assumption)|assumption)) q10 hroom10;have hr10:=Kd.F_take (m:=((ji3):Int).toNat) hC10 aCo;have hy10:y102.length=((ji3):Int).toNat:=(by rw[Ny102.out,List.length_take];omega);rw[←Ny102.out] at hr10;rw[←hy10] at hcut10;have HO106:=aA.mk (show Kd.V (Kd.int .i64) 3 _ w.heap.size _ (.slice (some ad101) y102.length co9) y102 from Kd.V_mk aCo hr10);have HC106:=aA.mk (show y102.length≤co9 from by omega);clear hr10 hC10 hroom10 hi010 hsz10;have KY10:=aA.mk hy10;clear hy10;replace q10:=eq_true q10;go_wp2
        go_roundg k1
        case measure=>have:=HK1.out;omega
        case rel=>exact⟨(y102),H',⟨by have:=HK1.out;omega⟩,⟨by(with_reducible repeat(first|apply Kd.zI|apply Kd.zJ|apply Kd.V_drew));exact HO106.out⟩,⟨pkL HB⟩⟩
       ·rw[if_neg c8] at H
        exact absurd H aCq
      ·rw[if_neg c6] at H
       have c6b0:((rd x0_1 (ji3))==0)=false:=beq_eq_false_iff_ne.mpr c6;have c6b1:((rd x0_1 (ji3)) != 0)=true:=bne_iff_ne.mpr c6;obtain rfl:=Option.some.inj H;obtain⟨Ao11,co11,eo11⟩:=Kd.V_slice HO_0.out;subst eo11;have p101:0≤((ji3):Int):=of_decide_eq_true (by first|(with_reducible assumption)|assumption);have q101:(ji3)<(x0_1.length:Int):=of_decide_eq_true (by first|(with_reducible assumption)|assumption);obtain⟨ad101,e101,hx101_0⟩:=Kd.kS (Kd.V_reads' HO_0.out).2.2 (ji3) p101 q101
       cases e101
       replace p101:=eq_true p101;replace q101:=eq_true q101;go_wp2
       go_ret
       exact⟨_,by first|rfl|(simp[dW,dX] <;> rfl)|(simp only[←hji3];first|rfl|(simp[dW,dX] <;> rfl))|(simp[*,dW,dX] <;> rfl),by(with_reducible repeat(first|apply Kd.zI|apply Kd.zJ|apply Kd.V_drew));exact HO_0.out,by repeat(first|(with_reducible first|exact HB.out|apply cZ|apply bH|apply bG)|exact HB.out)⟩
     ·rw[if_neg c5] at H
      exact absurd H aCq
    ·rw[if_neg c4] at H
     exact absurd H aCq
   ·rw[if_neg c2] at H
    have c2b0:decide (0<(x0_1.length:Int))=false:=decide_eq_false c2;have c2b1:decide (0<x0_1.length)=false:=decide_eq_false aCo;clear c2;obtain rfl:=Option.some.inj H;obtain⟨Ao12,co12,eo12⟩:=Kd.V_slice HO_0.out;subst eo12;go_wp2
    go_ret
    exact⟨_,by first|rfl|(simp[dW,dX] <;> rfl)|(simp[*,dW,dX] <;> rfl),by(with_reducible repeat(first|apply Kd.zI|apply Kd.zJ|apply Kd.V_drew));exact HO_0.out,by repeat(first|(with_reducible first|exact HB.out|apply cZ|apply bH|apply bG)|exact HB.out)⟩
mutual
def dS.l0:Nat→List Int→List Int→List Int→Int→Int→Option (List Int)
 |0,_,_,_,_,_=>none
 |k+1,x1,x5,x17,x18,x19=>if x19<x18 then(if 0≤x19 then(if x19<(x17.length:Int) then(dS.l1 k x1 x5 x19 (rd x17 x19) 0 x17 x18 x19 x1 (x1.length:Int) 0) else(none)) else(none)) else((iV.f k x5).bind fun t110=>(some t110))
def dS.l1:Nat→List Int→List Int→Int→Int→Int→List Int→Int→Int→List Int→Int→Int→Option (List Int)
 |0,_,_,_,_,_,_,_,_,_,_,_=>none
 |k+1,x1,x5,x6,x7,x8,x17,x18,x19,x24,x25,x26=>if x26<x25 then(if 0≤x26 then(if x26<(x24.length:Int) then(if 0≤(wrap64 (x6+x26)) then(if(wrap64 (x6+x26))<(x5.length:Int) then(dS.l1 k x1 (x5.set ((wrap64 (x6+x26)):Int).toNat (Int.tmod (wrap64 (x8+(wrap64 ((rd x5 (wrap64 (x6+x26)))+(wrap64 (x7*(rd x24 x26))))))) 1000000000)) x6 x7 (wrap64 (Int.tdiv (wrap64 (x8+(wrap64 ((rd x5 (wrap64 (x6+x26)))+(wrap64 (x7*(rd x24 x26))))))) 1000000000)) x17 x18 x19 x24 x25 (wrap64 (x26+1))) else(none)) else(none)) else(none)) else(none)) else(if 0≤(wrap64 (x6+(x1.length:Int))) then(if(wrap64 (x6+(x1.length:Int)))<(x5.length:Int) then(dS.l0 k x1 (x5.set ((wrap64 (x6+(x1.length:Int))):Int).toNat x8) x17 x18 (wrap64 (x19+1))) else(none)) else(none))
end
def dS.f(k:Nat)(l0:List Int)(l1:List Int):Option (List Int):=if 0≤(wrap64 ((l0.length:Int)+(l1.length:Int))) then(if(wrap64 ((l0.length:Int)+(l1.length:Int)):Int).toNat≤35184372088832 then(dS.l0 k l1 (List.replicate (wrap64 ((l0.length:Int)+(l1.length:Int)):Int).toNat 0) l0 (l0.length:Int) 0) else(none)) else(none)
theorem dS.calls(k:Nat)(A0:Option Addr)(c0:Nat)(l0:List Int)(A1:Option Addr)(c1:Nat)(l1:List Int)(r:List Int)(w:World)(hr0:Kd.C (Kd.int .i64) w A0 l0.length l0)(hc0:l0.length≤c0)(hr1:Kd.C (Kd.int .i64) w A1 l1.length l1)(hc1:l1.length≤c1)(h:dS.f k l0 l1=some r) :
 Calls Tryz.prog 91 #[.slice A0 l0.length c0,.slice A1 l1.length c1] w fun e w'=>∃v0_:Value,e= .returned (v0_)∧Kd.V (Kd.int .i64) 3 w' w.heap.size (fun k_=>(w.heap.size≤k_)) v0_ r∧Below w.heap.size w w':=by
 have HR0:=aA.mk hr0;have HC0:=aA.mk hc0;clear hr0 hc0;have HR1:=aA.mk hr1;have HC1:=aA.mk hc1;clear hr1 hc1;have HB:=aA.mk (Below.refl w.heap.size w);have H:(if 0≤(wrap64 ((l0.length:Int)+(l1.length:Int))) then(if(wrap64 ((l0.length:Int)+(l1.length:Int)):Int).toNat≤35184372088832 then(dS.l0 k l1 (List.replicate (wrap64 ((l0.length:Int)+(l1.length:Int)):Int).toNat 0) l0 (l0.length:Int) 0) else(none)) else(none))=some r:=h;clear h;obtain⟨ji3,hji3⟩:∃j_:Int,(wrap64 ((l0.length:Int)+(l1.length:Int)))=j_:=⟨_,rfl⟩
 replace H:(if 0≤(ji3) then(if(ji3:Int).toNat≤35184372088832 then(dS.l0 k l1 (List.replicate (ji3:Int).toNat 0) l0 (l0.length:Int) 0) else(none)) else(none))=some r:=by first|(rw[hji3] at H;exact H)|(simp only[hji3] at H ⊢;exact H)
 have hji3w:(IntKind.i64.wrap ((l0.length:Int)+(l1.length:Int)))=ji3:=(dE _).trans hji3
 by_cases c4:0≤(ji3)
 ·rw[if_pos c4] at H
  have c4b0:=eq_true c4;have c4b1:decide (0≤(ji3))=true:=decide_eq_true c4;clear c4
  by_cases c5:(ji3:Int).toNat≤35184372088832
  ·rw[if_pos c5] at H
   have c5b0:=eq_true c5;have c5b1:decide ((ji3:Int).toNat≤35184372088832)=true:=decide_eq_true c5;clear c5;obtain⟨y107,hy107⟩:∃y_:List Int,y_=(List.replicate (ji3:Int).toNat 0):=⟨_,rfl⟩
   replace H:(dS.l0 k l1 y107 l0 (l0.length:Int) 0)=some r:=by first|(rw[hy107];with_reducible exact H)|(have H2_:=(Option.bind_some _ _).symm.trans H;rw[hy107];with_reducible exact H2_)|(have H2_:=(Option.bind_some _ _).symm.trans H;with_reducible exact H2_)|with_reducible exact H|(rw[hy107];exact H)|exact H
   have Ny107:=aA.mk hy107;clear hy107;have H':=aA.mk H;clear H;go_enter Tryz.func91,Tryz.ntmps91
   go_wp2_with(first|((with_reducible refine aJ (N:=16) rfl ?_);refine Kd.R_make (Kd.int .i64) _ 3 rfl (N:=16) rfl 79 _ _ rfl ji3 rfl rfl Tryz.underlying79 (.int .i64 0) 8 info3 rfl aCr aCo 0 (ok:=fun _=>True) (okp:=fun _=>True) rfl (fun _ hk=>hk) trivial (of_decide_eq_true (by first|(with_reducible assumption)|assumption)) (Nat.le_trans (Nat.mul_le_mul_right _ (of_decide_eq_true (by first|(with_reducible assumption)|assumption):ji3.toNat≤35184372088832)) aCo) (Below.refl _ _) (Nat.le_refl _) ?_;intro v108 w6 ho7 hb hg_ hnew_;clear hg_ hnew_;(first|rw[←Ny107.out] at ho7|(simp only[Int.reduceToNat] at ho7;rw[←Ny107.out] at ho7));have HO109:=aA.mk (Kd.jF (Kd.R_newM (M:=fun k_=>(w.heap.size≤k_)) ho7 (dU (pkL HB)) (fun k_ h_=>h_)) (dU (pkL HB)));replace HB:=pkB HB hb;clear hb ho7))
   go_loopg [19] k (fun kq v19 w'=>∃(x5_1:List Int) (x19_1:Int),v19= .int .i64 x19_1∧aA (dS.l0 kq l1 x5_1 l0 (l0.length:Int) x19_1=some r)∧aA (kq≤k)∧aA (Kd.R (Kd.int .i64) 3 w' w.heap.size (fun k_=>(w.heap.size≤k_)) v108 x5_1)∧aA (Below w.heap.size w w'))
   case atStart=>exact⟨(y107),(0),aCs,H',⟨Nat.le_refl _⟩,⟨by(with_reducible repeat(first|apply Kd.aX|apply Kd.aY|apply Kd.bP));exact Kd.jO HO109.out (fun _ hk=>hk.1)⟩,⟨pkL HB⟩⟩
   case round=>
    clear H';try clear c1
    try clear c4
    try clear c4b0
    try clear c4b1
    try clear c5
    try clear c5b0
    try clear c5b1
    obtain⟨x5_1,x19_1,rfl,HA,HK1,HO_5,HB⟩:=hrel
    cases gk with
    |zero=>exact absurd HA.out (by simp[dS.l0])
    |succ k1=>
     have H:=HA.out;clear HA;simp only[dS.l0] at H
     by_cases c8:x19_1<(l0.length:Int)
     ·rw[if_pos c8] at H
      have c8b0:decide (x19_1<(l0.length:Int))=true:=decide_eq_true c8;clear c8
      by_cases c9:0≤x19_1
      ·rw[if_pos c9] at H
       have c9b0:decide (0≤x19_1)=true:=decide_eq_true c9;clear c9
       by_cases c10:x19_1<(l0.length:Int)
       ·rw[if_pos c10] at H
        have c10b0:decide (x19_1<(l0.length:Int))=true:=decide_eq_true c10;clear c10;have H':=aA.mk H;clear H;have p113:0≤(x19_1:Int):=of_decide_eq_true (by first|(with_reducible assumption)|assumption);have q113:x19_1<(l0.length:Int):=of_decide_eq_true (by first|(with_reducible assumption)|assumption);obtain⟨ad113,e113,hx113_0⟩:=Kd.kS HR0.out x19_1 p113 q113
        cases e113
        replace hx113_0:=(HB.out.cell (World.block_lt_of_cell? w _ hx113_0)).trans hx113_0;replace p113:=eq_true p113;replace q113:=eq_true q113;go_wp2
        go_loopg [8,26] k1 (fun kq v8 v26 w'=>∃(x5_2:List Int) (x8_2:Int) (x26_2:Int),v8= .int .i64 x8_2∧v26= .int .i64 x26_2∧aA (dS.l1 kq l1 x5_2 x19_1 (rd l0 x19_1) x8_2 l0 (l0.length:Int) x19_1 l1 (l1.length:Int) x26_2=some r)∧aA (kq≤k1)∧aA (Kd.R (Kd.int .i64) 3 w' w.heap.size (fun k_=>(w.heap.size≤k_)) v108 x5_2)∧aA (Below w.heap.size w w'))
        case atStart=>exact⟨(x5_1),(0),(0),aCs,aCs,H',⟨Nat.le_refl _⟩,⟨by(with_reducible repeat(first|apply Kd.aX|apply Kd.aY|apply Kd.bP));exact HO_5.out⟩,⟨pkL HB⟩⟩
        case round=>
         clear H';try clear c1
         try clear c4
         try clear c4b0
         try clear c4b1
         try clear c5
         try clear c5b0
         try clear c5b1
         try clear c8
         try clear c8b0
         try clear c9
         try clear c9b0
         try clear c10
         try clear c10b0
         try clear hx113_0
         try clear p113
         try clear q113
         obtain⟨x5_2,x8_2,x26_2,rfl,rfl,HA,HK2,HO_5,HB⟩:=hrel
         cases gk with
         |zero=>exact absurd HA.out (by simp[dS.l1])
         |succ k2=>
          have H:=HA.out;clear HA;simp only[dS.l1] at H
          by_cases c11:x26_2<(l1.length:Int)
          ·rw[if_pos c11] at H
           have c11b0:decide (x26_2<(l1.length:Int))=true:=decide_eq_true c11;clear c11
           by_cases c12:0≤x26_2
           ·rw[if_pos c12] at H
            have c12b0:decide (0≤x26_2)=true:=decide_eq_true c12;clear c12
            by_cases c13:x26_2<(l1.length:Int)
            ·rw[if_pos c13] at H
             have c13b0:decide (x26_2<(l1.length:Int))=true:=decide_eq_true c13;clear c13;obtain⟨ji14,hji14⟩:∃j_:Int,(wrap64 (x19_1+x26_2))=j_:=⟨_,rfl⟩
             replace H:(if 0≤(ji14) then(if(ji14)<(x5_2.length:Int) then(dS.l1 k2 l1 (x5_2.set ((ji14):Int).toNat (Int.tmod (wrap64 (x8_2+(wrap64 ((rd x5_2 (ji14))+(wrap64 ((rd l0 x19_1)*(rd l1 x26_2))))))) 1000000000)) x19_1 (rd l0 x19_1) (wrap64 (Int.tdiv (wrap64 (x8_2+(wrap64 ((rd x5_2 (ji14))+(wrap64 ((rd l0 x19_1)*(rd l1 x26_2))))))) 1000000000)) l0 (l0.length:Int) x19_1 l1 (l1.length:Int) (wrap64 (x26_2+1))) else(none)) else(none))=some r:=by first|(rw[hji14] at H;exact H)|(simp only[hji14] at H ⊢;exact H)
             have hji14w:(IntKind.i64.wrap (x19_1+x26_2))=ji14:=(dE _).trans hji14
             by_cases c15:0≤(ji14)
             ·rw[if_pos c15] at H
              have c15b0:decide (0≤(ji14))=true:=decide_eq_true c15;clear c15
              by_cases c16:(ji14)<(x5_2.length:Int)
              ·rw[if_pos c16] at H
               have c16b0:decide ((ji14)<(x5_2.length:Int))=true:=decide_eq_true c16;clear c16;obtain⟨y116,hy116⟩:∃y_:List Int,y_=(x5_2.set ((ji14):Int).toNat (Int.tmod (wrap64 (x8_2+(wrap64 ((rd x5_2 (ji14))+(wrap64 ((rd l0 x19_1)*(rd l1 x26_2))))))) 1000000000)):=⟨_,rfl⟩
               replace H:(dS.l1 k2 l1 y116 x19_1 (rd l0 x19_1) (wrap64 (Int.tdiv (wrap64 (x8_2+(wrap64 ((rd x5_2 (ji14))+(wrap64 ((rd l0 x19_1)*(rd l1 x26_2))))))) 1000000000)) l0 (l0.length:Int) x19_1 l1 (l1.length:Int) (wrap64 (x26_2+1)))=some r:=by first|(rw[hy116];with_reducible exact H)|(have H2_:=(Option.bind_some _ _).symm.trans H;rw[hy116];with_reducible exact H2_)|(have H2_:=(Option.bind_some _ _).symm.trans H;with_reducible exact H2_)|with_reducible exact H|(rw[hy116];exact H)|exact H
               have Ny116:=aA.mk hy116;clear hy116;have H':=aA.mk H;clear H;have p114:0≤(x26_2:Int):=of_decide_eq_true (by first|(with_reducible assumption)|assumption);have q114:x26_2<(l1.length:Int):=of_decide_eq_true (by first|(with_reducible assumption)|assumption);obtain⟨ad114,e114,hx114_0⟩:=Kd.kS HR1.out x26_2 p114 q114
               cases e114
               replace hx114_0:=(HB.out.cell (World.block_lt_of_cell? w _ hx114_0)).trans hx114_0;replace p114:=eq_true p114;replace q114:=eq_true q114;obtain⟨Ao18,co18,eo18⟩:=Kd.gY HO_5.out;subst eo18;have p115:0≤((ji14):Int):=of_decide_eq_true (by first|(with_reducible assumption)|assumption);have q115:(ji14)<(x5_2.length:Int):=of_decide_eq_true (by first|(with_reducible assumption)|assumption);obtain⟨ad115,e115,hx115_0⟩:=Kd.kS (Kd.dH HO_5.out).2.2 (ji14) p115 q115
               cases e115
               replace p115:=eq_true p115;replace q115:=eq_true q115;have p17:0≤((ji14):Int):=of_decide_eq_true (by first|(with_reducible assumption)|assumption);have q17:((ji14):Int)<((x5_2.length:Int):Int):=of_decide_eq_true (by first|(with_reducible assumption)|assumption);obtain⟨go17,co17,eo17,gb17,gl17,cl17,HG17⟩:=Kd.R_form HO_5.out aCo
               (first|cases eo17|(injection eo17 with ea_ en_ ec_;(first|subst ea_|(injection ea_ with ea_;subst ea_));subst ec_;clear en_))
               have GB17:=aA.mk gb17;have GG17:=aA.mk HG17;clear gb17 gl17 HG17
               (first|simp only[add_plain] at hx115_0|skip)
               obtain⟨hx17_0,hf17_0⟩:=Kd.R_celln 0 HO_5.out ((ji14):Int) p17 q17;replace p17:=eq_true p17;replace q17:=eq_true q17;have HP19:=Kd.R_putg HO_5.out ((ji14):Int) (Int.tmod (wrap64 (x8_2+(wrap64 ((rd x5_2 (ji14))+(wrap64 ((rd l0 x19_1)*(rd l1 x26_2))))))) 1000000000)
               go_wp2_with(first|((with_reducible refine aBi (t:=3) (p:=51) rfl ?_);refine aB3 (t:=3) (p:=51) (v:= ?vo_w20) (w1:=(wr.setCell ⟨go17,((ji14):Int).toNat,none⟩ (.int .i64 (Int.tmod (wrap64 (x8_2+(wrap64 ((rd x5_2 (ji14))+(wrap64 ((rd l0 x19_1)*(rd l1 x26_2))))))) 1000000000)))) ?hg ?ho ?hn ?hr ?_;(case ho=>rfl);(case hg=>rfl);(case hn=>rfl);(case hr=>first|(go_simp;done)|(go_simp;rfl));intro w20 hw;have hg:wr.grownBy w20 (some go17):=(by rw[hw];exact HP19.2);have hp_:Kd.R (Kd.int .i64) 3 w20 w.heap.size (fun k_=>(w.heap.size≤k_)) (.slice (some ⟨go17,0,none⟩) x5_2.length co18) y116:=(by rw[hw,Ny116.out];exact HP19.1);clear HP19;replace HO_5:=aA.mk (hp_);replace HB:=aA.mk ((by rw[hw];exact oZ (HB.out) GB17.out:Below w.heap.size w w20));clear hg hw hp_))
               go_roundg k2
               case measure=>have:=HK1.out;have:=HK2.out;omega
               case rel=>exact⟨(y116),(wrap64 (Int.tdiv (wrap64 (x8_2+(wrap64 ((rd x5_2 (ji14))+(wrap64 ((rd l0 x19_1)*(rd l1 x26_2))))))) 1000000000)),(wrap64 (x26_2+1)),(by first|rfl|(simp;done)|(simp only[←hji14] <;> (first|rfl|simp))|(simp[*];done)),aCs,H',⟨by have:=HK1.out;have:=HK2.out;omega⟩,⟨by(with_reducible repeat(first|apply Kd.aX|apply Kd.aY|apply Kd.bP));exact HO_5.out⟩,⟨pkL HB⟩⟩
              ·rw[if_neg c16] at H
               exact absurd H aCq
             ·rw[if_neg c15] at H
              exact absurd H aCq
            ·rw[if_neg c13] at H
             exact absurd H aCq
           ·rw[if_neg c12] at H
            exact absurd H aCq
          ·rw[if_neg c11] at H
           have c11b0:decide (x26_2<(l1.length:Int))=false:=decide_eq_false c11;clear c11;obtain⟨ji21,hji21⟩:∃j_:Int,(wrap64 (x19_1+(l1.length:Int)))=j_:=⟨_,rfl⟩
           replace H:(if 0≤(ji21) then(if(ji21)<(x5_2.length:Int) then(dS.l0 k2 l1 (x5_2.set ((ji21):Int).toNat x8_2) l0 (l0.length:Int) (wrap64 (x19_1+1))) else(none)) else(none))=some r:=by first|(rw[hji21] at H;exact H)|(simp only[hji21] at H ⊢;exact H)
           have hji21w:(IntKind.i64.wrap (x19_1+(l1.length:Int)))=ji21:=(dE _).trans hji21
           by_cases c22:0≤(ji21)
           ·rw[if_pos c22] at H
            have c22b0:decide (0≤(ji21))=true:=decide_eq_true c22;clear c22
            by_cases c23:(ji21)<(x5_2.length:Int)
            ·rw[if_pos c23] at H
             have c23b0:decide ((ji21)<(x5_2.length:Int))=true:=decide_eq_true c23;clear c23;obtain⟨y117,hy117⟩:∃y_:List Int,y_=(x5_2.set ((ji21):Int).toNat x8_2):=⟨_,rfl⟩
             replace H:(dS.l0 k2 l1 y117 l0 (l0.length:Int) (wrap64 (x19_1+1)))=some r:=by first|(rw[hy117];with_reducible exact H)|(have H2_:=(Option.bind_some _ _).symm.trans H;rw[hy117];with_reducible exact H2_)|(have H2_:=(Option.bind_some _ _).symm.trans H;with_reducible exact H2_)|with_reducible exact H|(rw[hy117];exact H)|exact H
             have Ny117:=aA.mk hy117;clear hy117;have H':=aA.mk H;clear H;have p24:0≤((ji21):Int):=of_decide_eq_true (by first|(with_reducible assumption)|assumption);have q24:((ji21):Int)<((x5_2.length:Int):Int):=of_decide_eq_true (by first|(with_reducible assumption)|assumption);obtain⟨go24,co24,eo24,gb24,gl24,cl24,HG24⟩:=Kd.R_form HO_5.out aCo
             (first|cases eo24|(injection eo24 with ea_ en_ ec_;(first|subst ea_|(injection ea_ with ea_;subst ea_));subst ec_;clear en_))
             have GB24:=aA.mk gb24;have GG24:=aA.mk HG24;clear gb24 gl24 HG24;obtain⟨hx24_0,hf24_0⟩:=Kd.R_celln 0 HO_5.out ((ji21):Int) p24 q24;replace p24:=eq_true p24;replace q24:=eq_true q24;have HP25:=Kd.R_putg HO_5.out ((ji21):Int) x8_2
             go_wp2_with(first|((with_reducible refine aBi (t:=3) (p:=59) rfl ?_);refine aB3 (t:=3) (p:=59) (v:= ?vo_w26) (w1:=(wr.setCell ⟨go24,((ji21):Int).toNat,none⟩ (.int .i64 x8_2))) ?hg ?ho ?hn ?hr ?_;(case ho=>rfl);(case hg=>rfl);(case hn=>rfl);(case hr=>first|(go_simp;done)|(go_simp;rfl));intro w26 hw;have hg:wr.grownBy w26 (some go24):=(by rw[hw];exact HP25.2);have hp_:Kd.R (Kd.int .i64) 3 w26 w.heap.size (fun k_=>(w.heap.size≤k_)) (.slice (some ⟨go24,0,none⟩) x5_2.length co24) y117:=(by rw[hw,Ny117.out];exact HP25.1);clear HP25;replace HO_5:=aA.mk (hp_);replace HB:=aA.mk ((by rw[hw];exact oZ (HB.out) GB24.out:Below w.heap.size w w26));clear hg hw hp_))
             go_roundg k2
             case measure=>have:=HK1.out;have:=HK2.out;omega
             case rel=>exact⟨(y117),(wrap64 (x19_1+1)),aCs,H',⟨by have:=HK1.out;have:=HK2.out;omega⟩,⟨by(with_reducible repeat(first|apply Kd.aX|apply Kd.aY|apply Kd.bP));exact HO_5.out⟩,⟨pkL HB⟩⟩
            ·rw[if_neg c23] at H
             exact absurd H aCq
           ·rw[if_neg c22] at H
            exact absurd H aCq
       ·rw[if_neg c10] at H
        exact absurd H aCq
      ·rw[if_neg c9] at H
       exact absurd H aCq
     ·rw[if_neg c8] at H
      have c8b0:decide (x19_1<(l0.length:Int))=false:=decide_eq_false c8;clear c8;obtain⟨t110,A27,H⟩:=bi H;try dsimp only at H
      obtain rfl:=Option.some.inj H;obtain⟨Ao28,co28,eo28⟩:=Kd.gY HO_5.out;subst eo28
      go_wp2_with(first|((with_reducible refine aG (f:=172) rfl ?_);refine gl_ 62 Tryz.func172 #[.slice Ao28 x5_1.length co28] (h:= ?_);(with_reducible refine(iV.calls k1 (fun k_=>some k_=(.slice Ao28 x5_1.length co28:Value).ownBlock) _ _ x5_1 t110 _ ?side1 A27.out).mono ?_);(case side1=>exact Kd.R_V (Kd.uG rfl (HO_5.out)));rintro e w29 ⟨v111,rfl,ho0,hb⟩;refine⟨_,rfl,?_⟩;have n0_:=aA.mk (Kd.dD (by(with_reducible repeat(first|apply Kd.aX|apply Kd.aY|apply Kd.bP));exact HO_5.out) hb);have n1_:=aA.mk (Kd.V_lower (Kd.V_mono (ok':=fun k_=>(w.heap.size≤k_)) ho0 (fun k_ hk_=>Or.elim hk_ (fun hs_=>((HO_5.out).1 k_ hs_.symm)) (fun hn_=>(Nat.le_trans (dU (pkL HB)) hn_)))) (dU (pkL HB)));have n2_:=pkB HB hb;clear HO_5;clear HB;have HO_5:=n0_;have HO112:=n1_;have HB:=n2_;clear n0_ n1_ n2_;try clear hb;(try clear ho0)))
      go_ret
      exact⟨_,by first|rfl|(simp[dW,dX] <;> rfl)|(simp only[←hji3];first|rfl|(simp[dW,dX] <;> rfl))|(simp[*,dW,dX] <;> rfl),by(with_reducible repeat(first|apply Kd.zI|apply Kd.zJ|apply Kd.V_drew));exact HO112.out,by repeat(first|(with_reducible first|exact HB.out|apply cZ|apply bH|apply bG)|exact HB.out)⟩
  ·rw[if_neg c5] at H
   exact absurd H aCq
 ·rw[if_neg c4] at H
  exact absurd H aCq
end Go.Proofs.YtignanmmgaldeaaGreatDoor.Ptimes
end
section
set_option linter.unusedVariables false
set_option linter.unusedSimpArgs false
set_option maxRecDepth 100000
set_option maxHeartbeats 4000000
namespace Go.Proofs.YtignanmmgaldeaaGreatDoor
open Go.RowKit Go.Proofs.YtignanmmgaldeaaGreatDoor.Ptimes Go.Proofs.YtignanmmgaldeaaGreatDoorW.PrintWords
theorem mJ{x:Int}(h: -9223372036854775808≤x∧x≤9223372036854775807):wrap64 x=x:=by unfold wrap64;omega
theorem rY(xs:List Int)(k:Nat):rd xs (k:Int)=xs[k]?.getD 0:=by simp[rd,List.getD_eq_getElem?_getD]
theorem mul_limb{a y:Int}(ha:0≤a∧a<1000000000)(hy:0≤y∧y<1000000000):0≤a*y∧a*y≤999999998000000001:=
 ⟨Int.mul_nonneg ha.1 hy.1,by
   have:=Int.mul_le_mul (show a≤999999999 by omega) (show y≤999999999 by omega) hy.1 aCo
   omega⟩
theorem uO{xs:List Int}(h:limbs xs)(k:Nat)(v:Int)(hv:0≤v∧v<1000000000):limbs (xs.set k v):=fun i=>by
 by_cases e:k=i
 ·subst e
  by_cases hl:k<xs.length
  ·rw[List.getElem?_set_self hl];exact hv
  ·rw[List.getElem?_eq_none (by simpa using hl)];simp
 ·rw[List.getElem?_set_ne e];exact h i
theorem qW(xs:List Int)(i:Nat)(v:Int)(hi:i<xs.length):∀N,i<N→pval (xs.set i v) N=pval xs N+(v-xs[i]?.getD 0)*1000000000 ^ i
 |0,h=>by omega
 |N+1,h=>by
  by_cases e:i=N
  ·subst e
   rw[sG _ _ _ hi,pval,Int.sub_mul];omega
  ·rw[pval,pval,qW xs i v hi N aCo,List.getElem?_set_ne e];omega
def inS(ys:List Int)(a:Int)(i:Nat)(out:List Int):Nat→List Int×Int
 |0=>(out,0)
 |j+1=>((inS ys a i out j).1.set (i+j) (((inS ys a i out j).2+((inS ys a i out j).1[i+j]?.getD 0+a*ys[j]?.getD 0))%1000000000),((inS ys a i out j).2+((inS ys a i out j).1[i+j]?.getD 0+a*ys[j]?.getD 0))/1000000000)
def rowF(xs ys:List Int):Nat→List Int
 |0=>List.replicate (xs.length+ys.length) 0
 |i+1=>(inS ys (xs[i]?.getD 0) i (rowF xs ys i) ys.length).1.set (i+ys.length) (inS ys (xs[i]?.getD 0) i (rowF xs ys i) ys.length).2
theorem uP(ys:List Int)(a:Int)(i:Nat)(out:List Int):∀j,(inS ys a i out j).1.length=out.length
 |0=>rfl
 |j+1=>by simp[inS,uP ys a i out j]
theorem lT(xs ys:List Int):∀i,(rowF xs ys i).length=xs.length+ys.length
 |0=>by simp[rowF]
 |i+1=>by simp[rowF,uP,lT xs ys i]
theorem inS_ok{ys out:List Int}{a:Int}(hy:limbs ys)(ho:limbs out)(ha:0≤a∧a<1000000000)(i:Nat):∀j,limbs (inS ys a i out j).1∧0≤(inS ys a i out j).2∧(inS ys a i out j).2<1000000000
 |0=>⟨ho,by simp[inS],by simp[inS]⟩
 |j+1=>by
  obtain⟨h1,h2,h3⟩:=inS_ok hy ho ha i j;have hm:=mul_limb ha (hy j);have hl:=h1 (i+j);rw[inS];exact⟨uO h1 _ _ ⟨by omega,by omega⟩,by dsimp only;omega,by dsimp only;omega⟩
theorem inS_far(ys out:List Int)(a:Int)(i k:Nat):∀j,i+j≤k→(inS ys a i out j).1[k]?.getD 0=out[k]?.getD 0
 |0,_=>rfl
 |j+1,h=>by rw[inS];dsimp only;rw[List.getElem?_set_ne aCo];exact inS_far ys out a i k j aCo
theorem inS_val{ys out:List Int}(a:Int)(i N:Nat)(hN:out.length=N):∀j,i+j≤N→pval (inS ys a i out j).1 N+(inS ys a i out j).2*1000000000 ^ (i+j)=pval out N+a*pval ys j*1000000000 ^ i
 |0,_=>by simp[inS,pval]
 |j+1,h=>by
  have ih:=inS_val (ys:=ys) a i N hN j aCo;have hl:=uP ys a i out j;have hc:=carry_law ((inS ys a i out j).2+((inS ys a i out j).1[i+j]?.getD 0+a*ys[j]?.getD 0)) (1000000000 ^ (i+j));rw[inS]
  dsimp only
  rw[qW _ _ _ aCo N aCo,Int.sub_mul,show i+(j+1)=(i+j)+1 from rfl,kC (i+j),pval,Int.mul_add,Int.add_mul]
  have e:a*(ys[j]?.getD 0*1000000000 ^ j)*1000000000 ^ i=a*ys[j]?.getD 0*1000000000 ^ (i+j):=by
   rw[Int.pow_add,←Int.mul_assoc,Int.mul_assoc,Int.mul_comm (1000000000 ^ j)]
  rw[e];rw[Int.add_mul (inS ys a i out j).2,Int.add_mul ((inS ys a i out j).1[i+j]?.getD 0)] at hc;omega
theorem xK{xs ys:List Int}(hx:limbs xs)(hy:limbs ys):∀i,limbs (rowF xs ys i)
 |0=>fun k=>by
  by_cases h:k<xs.length+ys.length
  ·simp[rowF,List.getElem?_replicate,h]
  ·simp[rowF,List.getElem?_replicate,h]
 |i+1=>by
  obtain⟨h1,h2,h3⟩:=inS_ok hy (xK hx hy i) (hx i) i ys.length;exact uO h1 _ _ ⟨h2,h3⟩
theorem rowF_far(xs ys:List Int)(k:Nat):∀i,i+ys.length≤k→(rowF xs ys i)[k]?.getD 0=0
 |0,_=>by by_cases h:k<xs.length+ys.length <;> simp[rowF,List.getElem?_replicate,h]
 |i+1,h=>by
  rw[rowF,List.getElem?_set_ne aCo,inS_far ys _ _ i k ys.length aCo];exact rowF_far xs ys k i aCo
theorem wY(n:Nat):∀k,pval (List.replicate n 0) k=0
 |0=>rfl
 |k+1=>by
  have:(List.replicate n (0:Int))[k]?.getD 0=0:=by by_cases h:k<n <;> simp[List.getElem?_replicate,h]
  rw[pval,wY n k,this];omega
theorem rowF_val(xs ys:List Int):∀i,i≤xs.length→pval (rowF xs ys i) (xs.length+ys.length)=pval xs i*lval ys
 |0,_=>by rw[rowF,wY,pval];omega
 |i+1,h=>by
  have ih:=rowF_val xs ys i aCo;have hl:=lT xs ys i;have hv:=inS_val (ys:=ys) (out:=rowF xs ys i) (xs[i]?.getD 0) i (xs.length+ys.length) hl ys.length aCo
  have hf:(inS ys (xs[i]?.getD 0) i (rowF xs ys i) ys.length).1[i+ys.length]?.getD 0=0:=by
   rw[inS_far ys _ _ i _ ys.length (Nat.le_refl _)];exact rowF_far xs ys _ i (Nat.le_refl _)
  rw[rowF,qW _ _ _ (by rw[uP,hl];omega) _ aCo,hf,Int.sub_zero,pval,Int.add_mul];have e:xs[i]?.getD 0*lval ys*1000000000 ^ i=xs[i]?.getD 0*1000000000 ^ i*lval ys:=by rw[Int.mul_assoc,Int.mul_comm (lval ys),←Int.mul_assoc]
  have e2:pval ys ys.length=lval ys:=rfl;rw[e2,e,ih] at hv;omega
theorem rowF_all(xs ys:List Int):lval (rowF xs ys xs.length)=lval xs*lval ys:=by
 rw[lval,lT];exact rowF_val xs ys xs.length (Nat.le_refl _)
theorem trim_f(xs:List Int)(hl:xs.length≤1000000000):∀m k,m≤xs.length→m<k→iV.l0 k (xs.take m)=some (xs.take (tlen xs m))
 |m,0,_,h=>by omega
 |0,k+1,_,_=>by
  unfold iV.l0;rw[List.take_zero,if_neg aCq];rfl
 |m+1,k+1,hm,hk=>by
  have e:(xs.take (m+1)).length=m+1:=by simp;omega
  unfold iV.l0;rw[e,mJ aCo,if_pos aCo,if_pos aCo,if_pos aCo,show((m+1:Nat):Int)-1=(m:Int) from by omega,rY,uM _ _ _ aCo,tlen]
  by_cases h:xs[m]?.getD 0=0
  ·rw[if_pos h,if_pos aCo,if_pos h,Int.toNat_natCast,List.take_take,Nat.min_eq_left aCo]
   exact trim_f xs hl m k aCo aCo
  ·rw[if_neg h,if_neg h]
theorem trim_tl(xs:List Int)(hl:xs.length≤1000000000)(k:Nat)(hk:xs.length<k):iV.f k xs=some (tl xs):=by
 have:=trim_f xs hl xs.length k (Nat.le_refl _) hk
 rwa [List.take_length] at this
theorem times_l1(xs ys:List Int)(hy:limbs ys)(hm:ys.length≤1000000)(a:Int)(ha:0≤a∧a<1000000000)(n:Int)(i:Nat)(hi:i≤1000000)(out:List Int)(ho:limbs out)(hl:i+ys.length<out.length)(hl2:out.length≤2000000)(k:Nat) :
 ∀r j,j+r=ys.length→dS.l1 (k+r+1) ys (inS ys a i out j).1 i a (inS ys a i out j).2 xs n i ys (ys.length:Int) j=dS.l0 k ys ((inS ys a i out ys.length).1.set (i+ys.length) (inS ys a i out ys.length).2) xs n ((i+1:Nat):Int)
 |0,j,h=>by
  obtain rfl:j=ys.length:=by omega
  have e:=uP ys a i out ys.length;simp only[dS.l1];rw[if_neg aCo,mJ aCo,if_pos aCo,if_pos (by rw[e];omega),mJ aCo]
  congr 1
 |r+1,j,h=>by
  have e:=uP ys a i out j;obtain⟨h1,h2,h3⟩:=inS_ok hy ho ha i j;have hmu:=mul_limb ha (hy j);have hlo:=h1 (i+j);rw[show k+(r+1)+1=(k+r+1)+1 from by omega]
  conv=>lhs;simp only[dS.l1]
  rw[if_pos aCo,if_pos aCo,if_pos aCo,mJ (x:=(i:Int)+j) aCo,if_pos aCo,if_pos (by rw[e];omega)];rw[show(i:Int)+(j:Int)=((i+j:Nat):Int) from by omega,rY,rY,mJ (x:=a*ys[j]?.getD 0) aCo,mJ (x:=(inS ys a i out j).1[i+j]?.getD 0+a*ys[j]?.getD 0) aCo,mJ (x:=(inS ys a i out j).2+_) aCo];rw[Int.tmod_eq_emod_of_nonneg aCo,Int.tdiv_eq_ediv_of_nonneg aCo,mJ (x:=_/1000000000) aCo,mJ (x:=(j:Int)+1) aCo,Int.toNat_natCast];exact times_l1 xs ys hy hm a ha n i hi out ho hl hl2 k r (j+1) aCo
theorem times_l0(xs ys:List Int)(hx:limbs xs)(hy:limbs ys)(hn:xs.length≤1000000)(hm:ys.length≤1000000)(K:Nat)(hK:xs.length+ys.length<K) :
 ∀r i,i+r=xs.length→dS.l0 (K+r*(ys.length+2)+1) ys (rowF xs ys i) xs (xs.length:Int) i=some (tl (rowF xs ys xs.length))
 |0,i,h=>by
  obtain rfl:i=xs.length:=by omega
  rw[Nat.zero_mul,Nat.add_zero];simp only[dS.l0];rw[if_neg aCo,trim_tl _ (by rw[lT];omega) K (by rw[lT];omega)];rfl
 |r+1,i,h=>by
  have ih:=times_l0 xs ys hx hy hn hm K hK r (i+1) aCo;have hl:=lT xs ys i;have hin:=times_l1 xs ys hy hm (xs[i]?.getD 0) (hx i) (xs.length:Int) i aCo (rowF xs ys i) (xK hx hy i) aCo aCo (K+r*(ys.length+2)+1) ys.length 0 aCo;rw[show K+(r+1)*(ys.length+2)+1=(K+r*(ys.length+2)+1+ys.length+1)+1 from by rw[Nat.add_mul];omega]
  conv=>lhs;simp only[dS.l0]
  rw[if_pos aCo,if_pos aCo,if_pos aCo,rY];exact hin.trans ih
theorem times_f(xs ys:List Int)(hx:limbs xs)(hy:limbs ys)(hn:xs.length≤1000000)(hm:ys.length≤1000000):∃k,dS.f k xs ys=some (tl (rowF xs ys xs.length)):=by
 refine⟨xs.length+ys.length+1+xs.length*(ys.length+2)+1,?_⟩;unfold dS.f;rw[mJ aCo,if_pos aCo,if_pos aCo,show((xs.length:Int)+(ys.length:Int)).toNat=xs.length+ys.length from by omega];exact times_l0 xs ys hx hy hn hm (xs.length+ys.length+1) aCo xs.length 0 aCo
theorem row_of_ri{n₀:Nat}{w:World}{A:Option Addr}{n:Nat}{xs:List Int}(h:RI n₀ w A n xs):Kd.C (Kd.int .i64) w A n xs:=
 ⟨h.1,h.2.1,fun hn=>by
   obtain⟨ad,e,_,hc⟩:=h.2.2 hn;refine⟨ad,e,fun j p hp=> ?_⟩;have hj:j<n:=by have:=(List.getElem?_eq_some_iff.1 hp).1;rw[h.1] at this;exact this
   have hcj:=hc j hj;rw[hp,Option.getD_some] at hcj;refine⟨[.int .i64 p],rfl,rfl,fun i u hu=> ?_⟩;have hi:i=0:=by have:=(List.getElem?_eq_some_iff.1 hu).1;simpa using this
   subst hi
   cases hu
   rw[show(Kd.int IntKind.i64).sz=1 from rfl,Nat.mul_one,Nat.add_zero]
   exact hcj⟩
theorem ri_of_row{w:World}{A:Option Addr}{n:Nat}{xs:List Int}(h:Kd.C (Kd.int .i64) w A n xs):RI w.heap.size w A n xs:=by
 have hcell:0<n→∃ad,A=some ad∧∀j,j<n→w.cell? (ad.add j)=some (.int .i64 (xs[j]?.getD 0)):=fun hn=>by
  obtain⟨ad,e,hc⟩:=h.2.2 hn;refine⟨ad,e,fun j hj=> ?_⟩;have hjl:j<xs.length:=by rw[h.1];exact hj
  obtain⟨c,hl,hk,hcc⟩:=hc j _ (List.getElem?_eq_getElem hjl);have hk2:c= [.int .i64 xs[j]]:=hk;subst hk2;have:=hcc 0 (.int .i64 xs[j]) rfl;rw[show(Kd.int IntKind.i64).sz=1 from rfl,Nat.mul_one,Nat.add_zero] at this;rw[this,List.getElem?_eq_getElem hjl];rfl
 refine⟨h.1,h.2.1,fun hn=> ?_⟩;obtain⟨ad,e,hc⟩:=hcell hn;refine⟨ad,e,?_,hc⟩;have h0:=hc 0 hn;rw[World.cell?,add_block] at h0
 cases hb:w.heap[ad.block]? with
 |none=>rw[hb] at h0;cases h0
 |some o=>exact(Array.getElem?_eq_some_iff.1 hb).1
theorem mag_of_V{w w0:World}{ok:Nat→Prop}{v:Value}{xs:List Int}{x:Int}{L:Nat}(h:Kd.V (Kd.int .i64) 3 w w0.heap.size ok v xs)(hl:limbs xs)(ht:topped xs)(hx:lval xs=x)(hL:xs.length≤L):Mag w v x L:=by
 obtain⟨A,c,rfl,hlc,hF⟩:=h;exact⟨A,xs.length,c,xs,rfl,ri_of_row (Kd.F_now hF),hl,ht,hlc,trivial,hL,hx⟩
end Go.Proofs.YtignanmmgaldeaaGreatDoor
namespace Go.Proofs.YtignanmmgaldeaaGreatDoor
open Go.RowKit Go.Shelf Go.Proofs.YtignanmmgaldeaaGreatDoorW.PrintWords
theorem times_own(A B:Option Addr)(n m c e:Nat)(xs ys:List Int)(w:World)(hx:RI w.heap.size w A n xs)(hy:RI w.heap.size w B m ys)(hxl:limbs xs)(hyl:limbs ys)(hn:n≤1000000)(hm:m≤1000000) :
 Calls Tryz.prog 91 #[.slice A n c,.slice B m e] w fun E w'=>E= .returned (.slice (some ⟨w.heap.size,0,none⟩) (tlen (rowF xs ys n) (n+m)) (n+m))∧Rowd w.heap.size (rowF xs ys n) w'∧Below w.heap.size w w':=by
 have HX:=Lib.hid hx;have HY:=Lib.hid hy;have HXL:=Lib.hid hxl;have HYL:=Lib.hid hyl;clear hx hy hxl hyl;have hmk:=uY (P:=Tryz.prog) 79 3 .i64 8 Tryz.underlying79 qP aCr (n+m) aCo;simp only[Int.natCast_add] at hmk;go_enter Tryz.func91,Tryz.ntmps91
 go_wp2
 clear hmk;have HN:Hid (xs.length=n∧ys.length=m):=Lib.hid ⟨HX.out.1,HY.out.1⟩
 go_loopw [19] (fun iv wr=>∃k:Nat,k≤n∧iv= .int .i64 k∧Hid (Rowd w.heap.size (rowF xs ys k) wr)∧Hid (Below w.heap.size w wr)) (fun i _=>n-(intOf i).toNat)
 case atStart=>exact⟨0,by omega,rfl,Lib.hid (by rw[rowF,HN.out.1,HN.out.2];exact Rowd.made w (n+m)),Lib.hid ((Below.refl _ w).alloc (Nat.le_refl _) _)⟩
 case round=>
  obtain⟨k,hk,rfl,HR,HB⟩:=hrel
  by_cases h0:k<n
  ·obtain⟨ad1,rfl,hlt1,hc1⟩:=(HX.out.below HB.out).2.2 aCo
   have cX:=hc1 k h0;have ha:=HXL.out k;clear hc1
   have HSTEP:Hid (rowF xs ys (k+1)=(inS ys (xs[k]?.getD 0) k (rowF xs ys k) m).1.set (k+m) (inS ys (xs[k]?.getD 0) k (rowF xs ys k) m).2):=by
    show rowF xs ys (k+1)=_;rw[rowF,HN.out.2]
   have HOL:=Lib.hid (xK HXL.out HYL.out k);have HLN:Hid ((rowF xs ys k).length=n+m):=Lib.hid (by rw[lT,HN.out.1,HN.out.2]);generalize xs[k]?.getD 0=a at *
   generalize rowF xs ys k=out at *
   have HR1:=HR;have HB1:=HB;clear HR HB
   go_wp2_with fail
   go_loopw [8,26] (fun cv iv wz=>∃q:Nat,q≤m∧iv= .int .i64 q∧cv= .int .i64 (inS ys a k out q).2∧Hid (Rowd w.heap.size (inS ys a k out q).1 wz)∧Hid (Below w.heap.size w wz)) (fun _ i _=>m-(intOf i).toNat)
   case atStart=>exact⟨0,by omega,rfl,rfl,HR1,HB1⟩
   case round=>
    obtain⟨q,hq,rfl,rfl,HR,HB⟩:=hrel;have hok:=inS_ok HYL.out HOL.out ha k q
    by_cases h2:q<m
    ·obtain⟨ad2,rfl,hlt2,hc2⟩:=(HY.out.below HB.out).2.2 aCo
     have cY:=hc2 q h2;have hu:=HYL.out q;clear hc2;have cW:=HR.out.cell (k+q) (by rw[uP,HLN.out];omega);have fW:=HR.out.frozen (k+q);have ho:=hok.1 (k+q);have hs:Hid (inS ys a k out (q+1)=((inS ys a k out q).1.set (k+q) (((inS ys a k out q).2+((inS ys a k out q).1[k+q]?.getD 0+a*ys[q]?.getD 0))%1000000000),((inS ys a k out q).2+((inS ys a k out q).1[k+q]?.getD 0+a*ys[q]?.getD 0))/1000000000)):=Lib.hid rfl;have hp:=mul_limb ha hu;have hcar:=hok.2;clear hok;generalize ys[q]?.getD 0=u at *
     generalize (inS ys a k out q).1[k+q]?.getD 0=v at *
     generalize hcc:(inS ys a k out q).2=cc at *
     have HC:=Lib.hid hcc;clear hcc
     go_wp2_with fail
     refine⟨⟨q+1,by omega,rfl,by rw[hs.out],Lib.hid ?_,Lib.hid (HB.out.setCell (p:=⟨w.heap.size,k+q,none⟩) (Nat.le_refl _) _)⟩,by simp only[intOf];omega⟩;rw[hs.out];exact HR.out.store (k+q) _
    ·obtain rfl:q=m:=by omega
     have fW:=HR.out.frozen (k+q);have cW:=HR.out.cell (k+q) (by rw[uP,HLN.out];omega);clear hok
     go_wp2_with fail
     refine⟨⟨k+1,by omega,rfl,Lib.hid ?_,Lib.hid (HB.out.setCell (p:=⟨w.heap.size,k+q,none⟩) (Nat.le_refl _) _)⟩,by simp only[intOf];omega⟩;rw[HSTEP.out];exact HR.out.store (k+q) _
  ·obtain rfl:k=n:=by omega
   have HT:=Lib.hid (jH HR.out (by rw[lT,HN.out.1,HN.out.2];omega));rw[lT,HN.out.1,HN.out.2] at HT
   go_wp2_with(go_at_call 172;refine(qO _ _ _ _ _ HT.out (Nat.le_refl _) aCo).mono ?_;rintro e w' ⟨rfl,rfl⟩)
   go_ret
   exact⟨rfl,HR.out,HB.out⟩
end Go.Proofs.YtignanmmgaldeaaGreatDoor
namespace Go.Proofs.YtignanmmgaldeaaGreatDoor
open Go.RowKit Go.Shelf Go.Proofs.YtignanmmgaldeaaGreatDoor.Ptimes Go.Proofs.YtignanmmgaldeaaGreatDoorW.PrintWords
theorem times_mag(A B:Option Addr)(n m c e:Nat)(xs ys:List Int)(w:World)(hx:RI w.heap.size w A n xs)(hy:RI w.heap.size w B m ys)(hxl:limbs xs)(hyl:limbs ys)(hn:n≤1000000)(hm:m≤1000000)(hc:n≤c)(he:m≤e) :
 Calls Tryz.prog 91 #[.slice A n c,.slice B m e] w fun e w'=>∃A' n' c',e= .returned (.slice A' n' c')∧Mag w' (.slice A' n' c') (lval xs*lval ys) (n+m)∧Below w.heap.size w w':=by
 obtain⟨k,hk⟩:=times_f xs ys hxl hyl (by rw[hx.1];exact hn) (by rw[hy.1];exact hm);have h1:=hx.1;have h2:=hy.1;subst h1;subst h2;refine(dS.calls k A c xs B e ys _ w (row_of_ri hx) hc (row_of_ri hy) he hk).mono ?_;rintro E w' ⟨v,rfl,hV,hB⟩;have hM:=mag_of_V (w0:=w) (x:=lval xs*lval ys) (L:=xs.length+ys.length) hV (vO (xK hxl hyl _)) (aAp _) (by rw[tl_val,rowF_all]) (by rw[wQ];exact Nat.le_trans (kF _ _) (by rw[lT];exact Nat.le_refl _));obtain⟨A',c',rfl,_⟩:=hV;exact⟨A',_,c',rfl,hM,hB⟩
theorem product_walk(A B:Option Addr)(n m c e:Nat)(xs ys:List Int)(b b2:Bool)(w:World)(hx:RI w.heap.size w A n xs)(hy:RI w.heap.size w B m ys)(hxl:limbs xs)(hyl:limbs ys)(hn:n≤1000000)(hm:m≤1000000)(hc:n≤c)(he:m≤e) :
 Calls Tryz.prog 85 #[.agg #[.bool b,.slice A n c],.agg #[.bool b2,.slice B m e]] w fun e w'=>∃A' n' c',e= .returned (.agg #[.bool (b != b2),.slice A' n' c'])∧Mag w' (.slice A' n' c') (lval xs*lval ys) (n+m)∧Below w.heap.size w w':=by
 have HX:=Lib.hid hx;have HY:=Lib.hid hy;have HXl:=Lib.hid hxl;have HYl:=Lib.hid hyl;clear hx hy hxl hyl;go_enter Tryz.func85,Tryz.ntmps85
 go_wp2
 have hx0:(((w.alloc (.cells #[.bool b,.slice A n c] 81)).alloc (.cells #[.bool b2,.slice B m e] 81)).alloc (.cells #[.bool false,.slice none 0 0] 81)).heap[w.heap.size]? =some (.cells #[.bool b,.slice A n c] 81):=(Below.heap_alloc _ _ _ (by simp;omega)).trans ((Below.heap_alloc _ _ _ aCq).trans (World.alloc_heap_new w _));have hx1:(((w.alloc (.cells #[.bool b,.slice A n c] 81)).alloc (.cells #[.bool b2,.slice B m e] 81)).alloc (.cells #[.bool false,.slice none 0 0] 81)).heap[w.heap.size+1]? =some (.cells #[.bool b2,.slice B m e] 81):=(Below.heap_alloc _ _ _ aCq).trans (by have:=World.alloc_heap_new (w.alloc (.cells #[.bool b,.slice A n c] 81)) (.cells #[.bool b2,.slice B m e] 81);rwa [World.size_alloc] at this);have hx2:(((w.alloc (.cells #[.bool b,.slice A n c] 81)).alloc (.cells #[.bool b2,.slice B m e] 81)).alloc (.cells #[.bool false,.slice none 0 0] 81)).heap[w.heap.size+1+1]? =some (.cells #[.bool false,.slice none 0 0] 81):=by have:=World.alloc_heap_new ((w.alloc (.cells #[.bool b,.slice A n c] 81)).alloc (.cells #[.bool b2,.slice B m e] 81)) (.cells #[.bool false,.slice none 0 0] 81);rwa [World.size_alloc,World.size_alloc] at this
 have hBa:Below w.heap.size w (((w.alloc (.cells #[.bool b,.slice A n c] 81)).alloc (.cells #[.bool b2,.slice B m e] 81)).alloc (.cells #[.bool false,.slice none 0 0] 81)):=(((Below.refl _ w).alloc (Nat.le_refl _) _).alloc aCq _).alloc (by simp;omega) _;have hsa:(((w.alloc (.cells #[.bool b,.slice A n c] 81)).alloc (.cells #[.bool b2,.slice B m e] 81)).alloc (.cells #[.bool false,.slice none 0 0] 81)).heap.size=w.heap.size+3:=by simp
 obtain⟨W5,hW5⟩:∃W5,((w.alloc (.cells #[.bool b,.slice A n c] 81)).alloc (.cells #[.bool b2,.slice B m e] 81)).alloc (.cells #[.bool false,.slice none 0 0] 81)=W5:=⟨_,rfl⟩
 rw[hW5] at hx0 hx1 hx2 hBa hsa ⊢;clear hW5;have kd:W5.drew.cell? ⟨w.heap.size,0,none⟩=some (.bool b)∧W5.drew.cell? ⟨w.heap.size,1,none⟩=some (.slice A n c)∧W5.drew.cell? ⟨w.heap.size+1,0,none⟩=some (.bool b2)∧W5.drew.cell? ⟨w.heap.size+1,1,none⟩=some (.slice B m e):=⟨dG hx0 0 _ rfl,dG hx0 1 _ rfl,dG hx1 0 _ rfl,dG hx1 1 _ rfl⟩
 have HKC:Hid (∀v2:World,Below W5.drew.heap.size W5.drew v2→v2.cell? ⟨w.heap.size,0,none⟩=some (.bool b)∧v2.cell? ⟨w.heap.size,1,none⟩=some (.slice A n c)∧v2.cell? ⟨w.heap.size+1,0,none⟩=some (.bool b2)∧v2.cell? ⟨w.heap.size+1,1,none⟩=some (.slice B m e)):=Lib.hid fun v2 hB=>
  ⟨(hB.cell (p:=⟨w.heap.size,0,none⟩) (by show w.heap.size<W5.heap.size;omega)).trans kd.1,(hB.cell (p:=⟨w.heap.size,1,none⟩) (by show w.heap.size<W5.heap.size;omega)).trans kd.2.1,(hB.cell (p:=⟨w.heap.size+1,0,none⟩) (by show w.heap.size+1<W5.heap.size;omega)).trans kd.2.2.1,(hB.cell (p:=⟨w.heap.size+1,1,none⟩) (by show w.heap.size+1<W5.heap.size;omega)).trans kd.2.2.2⟩
 have HKS:Hid (∀(v1:World) (u v:Value),(v1.cell? ⟨w.heap.size,0,none⟩=some (.bool b)∧v1.cell? ⟨w.heap.size,1,none⟩=some (.slice A n c)∧v1.cell? ⟨w.heap.size+1,0,none⟩=some (.bool b2)∧v1.cell? ⟨w.heap.size+1,1,none⟩=some (.slice B m e))→((v1.setCell ⟨w.heap.size+1+1,0,none⟩ u).setCell ⟨w.heap.size+1+1,1,none⟩ v).cell? ⟨w.heap.size,0,none⟩=some (.bool b)∧((v1.setCell ⟨w.heap.size+1+1,0,none⟩ u).setCell ⟨w.heap.size+1+1,1,none⟩ v).cell? ⟨w.heap.size,1,none⟩=some (.slice A n c)∧((v1.setCell ⟨w.heap.size+1+1,0,none⟩ u).setCell ⟨w.heap.size+1+1,1,none⟩ v).cell? ⟨w.heap.size+1,0,none⟩=some (.bool b2)∧((v1.setCell ⟨w.heap.size+1+1,0,none⟩ u).setCell ⟨w.heap.size+1+1,1,none⟩ v).cell? ⟨w.heap.size+1,1,none⟩=some (.slice B m e)):=Lib.hid fun v1 u v ⟨a1,a2,a3,a4⟩=>
  have h (q:Addr) (hq:w.heap.size+1+1≠q.block):((v1.setCell ⟨w.heap.size+1+1,0,none⟩ u).setCell ⟨w.heap.size+1+1,1,none⟩ v).cell? q=v1.cell? q:=(cell_far _ hq).trans (cell_far _ hq)
  ⟨(h _ (by show w.heap.size+1+1≠w.heap.size;omega)).trans a1,(h _ (by show w.heap.size+1+1≠w.heap.size;omega)).trans a2,(h _ (by show w.heap.size+1+1≠w.heap.size+1;omega)).trans a3,(h _ (by show w.heap.size+1+1≠w.heap.size+1;omega)).trans a4⟩
 have HZ:=Lib.hid (show W5.drew.heap[w.heap.size+1+1]? =some (.cells #[.bool false,.slice none 0 0] 81) from hx2);have HBD:=Lib.hid hBa.drew;have HSD:=Lib.hid (show W5.drew.heap.size=w.heap.size+3 from hsa);have HT:=Lib.hid (times_mag A B n m c e xs ys W5.drew ((HX.out.below HBD.out).mono (by rw[HSD.out];omega)) ((HY.out.below HBD.out).mono (by rw[HSD.out];omega)) HXl.out HYl.out hn hm hc he);clear hx0 hx1 hx2 hBa hsa
 go_region_held3 (fun w'=>w'.cell? ⟨w.heap.size,0,none⟩=some (.bool b)∧w'.cell? ⟨w.heap.size,1,none⟩=some (.slice A n c)∧w'.cell? ⟨w.heap.size+1,0,none⟩=some (.bool b2)∧w'.cell? ⟨w.heap.size+1,1,none⟩=some (.slice B m e)) (first|assumption|exact HKS.out _ _ _ (by assumption)) (first
  |(go_at_call 91;refine HT.out.mono ?_;rintro e w3 ⟨A',n',c',rfl,hM,hB3⟩;have k3:=HKC.out _ hB3;have hb4:=(hB3.block (w.heap.size+1+1) (by rw[HSD.out];omega)).trans HZ.out;have z0:=dG hb4 0 _ rfl;have z1:=dG hb4 1 _ rfl;have y0:=dV hb4 0;have y1:=dV hb4 1;have HM:=Lib.hid hM;have HB3:=Lib.hid hB3;have HB4:=Lib.hid hb4;clear hM hB3 hb4))
 all_goals(
  go_wp2
  refine bodyPost_ret (results_cell_row rfl _ _ (w.heap.size+1+1) 81 #[.bool (b != b2),.slice A' n' c'] (0,0) _ rfl (nZ HB4.out _ _ _ _) Tryz.underlying81 rfl (by kernel_rfl)) rfl ?_
  exact⟨_,_,_,rfl,(HM.out.set HB4.out (xI false none 0 0) 0 _).set (gX (cs:=#[.bool false,.slice none 0 0]) HB4.out 0 (.bool (b != b2)) rfl) (xI _ none 0 0) 1 _,jL (HBD.out.trans (HB3.out.mono (by rw[HSD.out];omega))) aCo _ _⟩)
theorem aB8(u v:Value)(x y:Int)(L M:Nat)(w:World)(hu:NumV w u x L)(hv:NumV w v y M)(hL:L≤1000000)(hM:M≤1000000) :
 Calls Tryz.prog 85 #[u,v] w fun e w'=>∃r,e= .returned r∧NumV w' r (x*y) (L+M)∧Below w.heap.size w w':=by
 obtain⟨b,u',x',rfl,⟨A,n,c,xs,rfl,h1,h2,h3,h4,h5,h6,rfl⟩,rfl⟩:=hu;obtain⟨b2,v',y',rfl,⟨B,m,e,ys,rfl,k1,k2,k3,k4,k5,k6,rfl⟩,rfl⟩:=hv;refine(product_walk A B n m c e xs ys b b2 w h1 k1 h2 k2 aCo aCo h4 k4).mono ?_;rintro E w' ⟨A',n',c',rfl,hMg,hB⟩;refine⟨_,rfl,⟨_,_,_,rfl,hMg.more aCo,?_⟩,hB⟩
 cases b <;> cases b2 <;> simp[Int.neg_mul,Int.mul_neg]
end Go.Proofs.YtignanmmgaldeaaGreatDoor
namespace Go.Proofs.YtignanmmgaldeaaGreatDoor
open Go.RowKit Go.Shelf Go.Proofs.YtignanmmgaldeaaGreatDoorW.PrintWords
theorem add_ok(a b:ByteArray)(w:World)(ha0:chkI a=0)(hb0:chkI b=0)(ha:a.size≤9223372036854775807)(hb:b.size≤9223372036854775807)(hG:GW w) :
 Calls Tryz.prog 22 #[.string a,.string b] w fun e w'=>e= .returned (.tuple #[.string (wrS (aN a+aN b)),.int .i64 (wrE (aN a+aN b))])∧Below w.heap.size w w':=by
 have HP:=Lib.hid (fun w=>kU a b w ha0 hb0 ha hb);have HG:=Lib.hid hG;go_enter Tryz.func22,Tryz.ntmps22
 clear ha0 hb0 ha hb hG
 go_wp2_with(first
  |(go_at_call 79;refine(HP.out _).mono ?_;rintro e w1 ⟨d,A,n,c,d2,B,m,c2,rfl,hn1,hn2,hB⟩;have HN1:=Lib.hid hn1;have HN2:=Lib.hid hn2;have HB:=Lib.hid hB;clear hn1 hn2 hB HP)
  |(go_at_call 81;refine(sum_num _ _ (aN a) (aN b) 456 _ (HN1.out.below (((Below.refl _ w1).alloc (Nat.le_refl _) _).alloc aCq _)) (HN2.out.below (((Below.refl _ w1).alloc (Nat.le_refl _) _).alloc aCq _)) aCo).mono ?_;rintro e w3 ⟨r,rfl,hr,hB3⟩;have hB4:=HB.out.trans (((((Below.refl _ w1).alloc (Nat.le_refl _) _).alloc aCq _).trans (hB3.mono (by simp;omega))).mono HB.out.size);have hg3:=HG.out.below hB4;have HR:=Lib.hid hr;have HB4:=Lib.hid hB4;have HG3:=Lib.hid hg3;clear hr hB3 hB4 hg3)
  |(go_at_call 80;refine(wI r _ (456+1) w3 HR.out aCo HG3.out).mono ?_;rintro e w4 ⟨rfl,hB5⟩;have HB5:=Lib.hid hB5;clear hB5))
 go_ret2
 exact⟨rfl,HB4.out.trans (HB5.out.mono HB4.out.size)⟩
theorem add_err(a b:ByteArray)(w:World)(c:Int)(hc:fM a b=c)(h0:c≠0)(ha:a.size≤9223372036854775807)(hb:b.size≤9223372036854775807) :
 Calls Tryz.prog 22 #[.string a,.string b] w fun e w'=>e= .returned (.tuple #[.string ⟨#[]⟩,.int .i64 c])∧Below w.heap.size w w':=by
 have HP:Hid (∀w:World,Calls Tryz.prog 79 #[.string a,.string b] w fun e w'=>∃d A n c1 d2 B m c2,e= .returned (.tuple #[.agg #[.bool d,.slice A n c1],.agg #[.bool d2,.slice B m c2],.int .i64 c])∧Below w.heap.size w w'):=Lib.hid (fun w=>qR a b w c hc h0 ha hb);have e1:(c != 0)=true:=by simpa using h0
 go_enter Tryz.func22,Tryz.ntmps22
 clear hc ha hb
 go_wp2_with(go_at_call 79;refine(HP.out _).mono ?_;rintro e w1 ⟨d,A,n,c1,d2,B,m,c2,rfl,hB⟩;have HB:=Lib.hid hB;clear hB HP)
 go_ret2
 exact⟨rfl,HB.out.trans ((((Below.refl _ w1).alloc (Nat.le_refl _) _).alloc aCq _).mono HB.out.size)⟩
theorem mul_ok(a b:ByteArray)(w:World)(ha0:chkI a=0)(hb0:chkI b=0)(ha:a.size≤9223372036854775807)(hb:b.size≤9223372036854775807)(hG:GW w) :
 Calls Tryz.prog 26 #[.string a,.string b] w fun e w'=>e= .returned (.tuple #[.string (wrS (aN a*aN b)),.int .i64 (wrE (aN a*aN b))])∧Below w.heap.size w w':=by
 have HP:=Lib.hid (fun w=>kU a b w ha0 hb0 ha hb);have HG:=Lib.hid hG;go_enter Tryz.func26,Tryz.ntmps26
 clear ha0 hb0 ha hb hG
 go_wp2_with(first
  |(go_at_call 79;refine(HP.out _).mono ?_;rintro e w1 ⟨d,A,n,c,d2,B,m,c2,rfl,hn1,hn2,hB⟩;have HN1:=Lib.hid hn1;have HN2:=Lib.hid hn2;have HB:=Lib.hid hB;clear hn1 hn2 hB HP)
  |(go_at_call 85;refine(aB8 _ _ (aN a) (aN b) 456 456 _ (HN1.out.below (((Below.refl _ w1).alloc (Nat.le_refl _) _).alloc aCq _)) (HN2.out.below (((Below.refl _ w1).alloc (Nat.le_refl _) _).alloc aCq _)) aCo aCo).mono ?_;rintro e w3 ⟨r,rfl,hr,hB3⟩;have hB4:=HB.out.trans (((((Below.refl _ w1).alloc (Nat.le_refl _) _).alloc aCq _).trans (hB3.mono (by simp;omega))).mono HB.out.size);have hg3:=HG.out.below hB4;have HR:=Lib.hid hr;have HB4:=Lib.hid hB4;have HG3:=Lib.hid hg3;clear hr hB3 hB4 hg3)
  |(go_at_call 80;refine(wI r _ (456+456) w3 HR.out aCo HG3.out).mono ?_;rintro e w4 ⟨rfl,hB5⟩;have HB5:=Lib.hid hB5;clear hB5))
 go_ret2
 exact⟨rfl,HB4.out.trans (HB5.out.mono HB4.out.size)⟩
theorem mul_err(a b:ByteArray)(w:World)(c:Int)(hc:fM a b=c)(h0:c≠0)(ha:a.size≤9223372036854775807)(hb:b.size≤9223372036854775807) :
 Calls Tryz.prog 26 #[.string a,.string b] w fun e w'=>e= .returned (.tuple #[.string ⟨#[]⟩,.int .i64 c])∧Below w.heap.size w w':=by
 have HP:Hid (∀w:World,Calls Tryz.prog 79 #[.string a,.string b] w fun e w'=>∃d A n c1 d2 B m c2,e= .returned (.tuple #[.agg #[.bool d,.slice A n c1],.agg #[.bool d2,.slice B m c2],.int .i64 c])∧Below w.heap.size w w'):=Lib.hid (fun w=>qR a b w c hc h0 ha hb);have e1:(c != 0)=true:=by simpa using h0
 go_enter Tryz.func26,Tryz.ntmps26
 clear hc ha hb
 go_wp2_with(go_at_call 79;refine(HP.out _).mono ?_;rintro e w1 ⟨d,A,n,c1,d2,B,m,c2,rfl,hB⟩;have HB:=Lib.hid hB;clear hB HP)
 go_ret2
 exact⟨rfl,HB.out.trans ((((Below.refl _ w1).alloc (Nat.le_refl _) _).alloc aCq _).mono HB.out.size)⟩
theorem sub_ok(a b:ByteArray)(w:World)(ha0:chkI a=0)(hb0:chkI b=0)(ha:a.size≤9223372036854775807)(hb:b.size≤9223372036854775807)(hG:GW w) :
 Calls Tryz.prog 24 #[.string a,.string b] w fun e w'=>e= .returned (.tuple #[.string (wrS (aN a+ -aN b)),.int .i64 (wrE (aN a+ -aN b))])∧Below w.heap.size w w':=by
 have HP:=Lib.hid (fun w=>kU a b w ha0 hb0 ha hb);have HG:=Lib.hid hG;go_enter Tryz.func24,Tryz.ntmps24
 clear ha0 hb0 ha hb hG
 go_wp2_with(go_at_call 79;refine(HP.out _).mono ?_;rintro e w1 ⟨d,A,n,c,d2,B,m,c2,rfl,hn1,hn2,hB⟩;have HN1:=Lib.hid hn1;have HN2:=Lib.hid hn2;have HB:=Lib.hid hB;clear hn1 hn2 hB HP)
 have hb0:((w1.alloc (.cells #[.bool d,.slice A n c] 81)).alloc (.cells #[.bool d2,.slice B m c2] 81)).heap[w1.heap.size]? =some (.cells #[.bool d,.slice A n c] 81):=(Below.heap_alloc _ _ _ aCq).trans (World.alloc_heap_new w1 _)
 have hb1:((w1.alloc (.cells #[.bool d,.slice A n c] 81)).alloc (.cells #[.bool d2,.slice B m c2] 81)).heap[w1.heap.size+1]? =some (.cells #[.bool d2,.slice B m c2] 81):=by
  have:=World.alloc_heap_new (w1.alloc (.cells #[.bool d,.slice A n c] 81)) (.cells #[.bool d2,.slice B m c2] 81)
  rwa [World.size_alloc] at this
 have hBa:Below w1.heap.size w1 ((w1.alloc (.cells #[.bool d,.slice A n c] 81)).alloc (.cells #[.bool d2,.slice B m c2] 81)):=((Below.refl _ w1).alloc (Nat.le_refl _) _).alloc aCq _;have hsz:((w1.alloc (.cells #[.bool d,.slice A n c] 81)).alloc (.cells #[.bool d2,.slice B m c2] 81)).heap.size=w1.heap.size+2:=by simp
 obtain⟨W5,hW5⟩:∃W5,(w1.alloc (.cells #[.bool d,.slice A n c] 81)).alloc (.cells #[.bool d2,.slice B m c2] 81)=W5:=⟨_,rfl⟩
 rw[hW5] at hb0 hb1 hBa hsz ⊢;clear hW5;have c0:=dG hb0 0 _ rfl;have c1:=dG hb0 1 _ rfl;have c3:=dG hb1 0 _ rfl;have c4:=dG hb1 1 _ rfl
 have HKC:Hid (∀v1 v2:World,w1.heap.size+1<v1.heap.size→Below v1.heap.size v1 v2→(v1.cell? ⟨w1.heap.size,0,none⟩=some (.bool d)∧v1.cell? ⟨w1.heap.size,1,none⟩=some (.slice A n c)∧v1.cell? ⟨w1.heap.size+1,0,none⟩=some (.bool d2)∧v1.cell? ⟨w1.heap.size+1,1,none⟩=some (.slice B m c2))→v2.cell? ⟨w1.heap.size,0,none⟩=some (.bool d)∧v2.cell? ⟨w1.heap.size,1,none⟩=some (.slice A n c)∧v2.cell? ⟨w1.heap.size+1,0,none⟩=some (.bool d2)∧v2.cell? ⟨w1.heap.size+1,1,none⟩=some (.slice B m c2)):=Lib.hid fun v1 v2 hl hB ⟨a1,a2,a3,a4⟩=>
  ⟨(hB.cell (p:=⟨w1.heap.size,0,none⟩) (by show w1.heap.size<_;omega)).trans a1,(hB.cell (p:=⟨w1.heap.size,1,none⟩) (by show w1.heap.size<_;omega)).trans a2,(hB.cell (p:=⟨w1.heap.size+1,0,none⟩) hl).trans a3,(hB.cell (p:=⟨w1.heap.size+1,1,none⟩) hl).trans a4⟩
 have kd:W5.drew.cell? ⟨w1.heap.size,0,none⟩=some (.bool d)∧W5.drew.cell? ⟨w1.heap.size,1,none⟩=some (.slice A n c)∧W5.drew.cell? ⟨w1.heap.size+1,0,none⟩=some (.bool d2)∧W5.drew.cell? ⟨w1.heap.size+1,1,none⟩=some (.slice B m c2):=⟨c0,c1,c3,c4⟩;have HBD:=Lib.hid hBa.drew;have hsd:w1.heap.size+2=W5.drew.heap.size:=hsz.symm;clear hb0 hb1 hBa hsz
 go_region_held3 (fun w'=>w'.cell? ⟨w1.heap.size,0,none⟩=some (.bool d)∧w'.cell? ⟨w1.heap.size,1,none⟩=some (.slice A n c)∧w'.cell? ⟨w1.heap.size+1,0,none⟩=some (.bool d2)∧w'.cell? ⟨w1.heap.size+1,1,none⟩=some (.slice B m c2)) (first|assumption) (first
  |(go_at_call 83;refine(qU d2 B m c2 W5.drew).mono ?_;rintro e w2 ⟨rfl,hB2⟩;have k2:=HKC.out _ _ aCo hB2 kd;have HB2:=Lib.hid hB2;have hs2:=hB2.size;clear hB2)
  |(go_at_call 81;refine(sum_num _ _ (aN a) (-aN b) 456 w2 (HN1.out.below (HBD.out.trans (HB2.out.mono aCo))) (HN2.out.neg.below (HBD.out.trans (HB2.out.mono aCo))) aCo).mono ?_;rintro e w3 ⟨r,rfl,hr,hB3⟩;have k3:=HKC.out _ _ aCo hB3 k2;have HR:=Lib.hid hr;have HB3:=Lib.hid hB3;have hs3:=hB3.size;clear hB3 hr)
  |(go_at_call 80;refine(wI r _ (456+1) w3 HR.out aCo (HG.out.below (HB.out.trans ((HBD.out.trans ((HB2.out.mono aCo).trans (HB3.out.mono aCo))).mono HB.out.size)))).mono ?_;rintro e w4 ⟨rfl,hB4⟩;have k4:=HKC.out _ _ aCo hB4 k3;have HB4:=Lib.hid hB4;clear hB4))
 all_goals(
  go_wp2
  go_ret2
  exact⟨rfl,HB.out.trans ((HBD.out.trans ((HB2.out.mono aCo).trans ((HB3.out.mono aCo).trans (HB4.out.mono aCo)))).mono HB.out.size)⟩)
theorem sub_err(a b:ByteArray)(w:World)(c:Int)(hc:fM a b=c)(h0:c≠0)(ha:a.size≤9223372036854775807)(hb:b.size≤9223372036854775807) :
 Calls Tryz.prog 24 #[.string a,.string b] w fun e w'=>e= .returned (.tuple #[.string ⟨#[]⟩,.int .i64 c])∧Below w.heap.size w w':=by
 have HP:Hid (∀w:World,Calls Tryz.prog 79 #[.string a,.string b] w fun e w'=>∃d A n c1 d2 B m c2,e= .returned (.tuple #[.agg #[.bool d,.slice A n c1],.agg #[.bool d2,.slice B m c2],.int .i64 c])∧Below w.heap.size w w'):=Lib.hid (fun w=>qR a b w c hc h0 ha hb);have e1:(c != 0)=true:=by simpa using h0
 go_enter Tryz.func24,Tryz.ntmps24
 clear hc ha hb
 go_wp2_with(go_at_call 79;refine(HP.out _).mono ?_;rintro e w1 ⟨d,A,n,c1,d2,B,m,c2,rfl,hB⟩;have HB:=Lib.hid hB;clear hB HP)
 go_ret2
 exact⟨rfl,HB.out.trans ((((Below.refl _ w1).alloc (Nat.le_refl _) _).alloc aCq _).mono HB.out.size)⟩
theorem add_walk(a b:ByteArray)(w:World)(ha:a.size≤9223372036854775807)(hb:b.size≤9223372036854775807)(hG:GW w) :
 Calls Tryz.prog 22 #[.string a,.string b] w fun e w'=>e= .returned (.tuple #[.string (if fM a b=0 then wrS (aN a+aN b) else⟨#[]⟩),.int .i64 (if fM a b=0 then wrE (aN a+aN b) else fM a b)])∧Below w.heap.size w w':=by
 by_cases h:fM a b=0
 ·rw[if_pos h,if_pos h]
  unfold fM at h
  split at h
  ·rename_i h1
   exact add_ok a b w h1 h ha hb hG
  ·rename_i h1
   exact absurd h h1
 ·rw[if_neg h,if_neg h]
  exact add_err a b w _ rfl h ha hb
theorem sub_walk(a b:ByteArray)(w:World)(ha:a.size≤9223372036854775807)(hb:b.size≤9223372036854775807)(hG:GW w) :
 Calls Tryz.prog 24 #[.string a,.string b] w fun e w'=>e= .returned (.tuple #[.string (if fM a b=0 then wrS (aN a+ -aN b) else⟨#[]⟩),.int .i64 (if fM a b=0 then wrE (aN a+ -aN b) else fM a b)])∧Below w.heap.size w w':=by
 by_cases h:fM a b=0
 ·rw[if_pos h,if_pos h]
  unfold fM at h
  split at h
  ·rename_i h1
   exact sub_ok a b w h1 h ha hb hG
  ·rename_i h1
   exact absurd h h1
 ·rw[if_neg h,if_neg h]
  exact sub_err a b w _ rfl h ha hb
theorem mul_walk(a b:ByteArray)(w:World)(ha:a.size≤9223372036854775807)(hb:b.size≤9223372036854775807)(hG:GW w) :
 Calls Tryz.prog 26 #[.string a,.string b] w fun e w'=>e= .returned (.tuple #[.string (if fM a b=0 then wrS (aN a*aN b) else⟨#[]⟩),.int .i64 (if fM a b=0 then wrE (aN a*aN b) else fM a b)])∧Below w.heap.size w w':=by
 by_cases h:fM a b=0
 ·rw[if_pos h,if_pos h]
  unfold fM at h
  split at h
  ·rename_i h1
   exact mul_ok a b w h1 h ha hb hG
  ·rename_i h1
   exact absurd h h1
 ·rw[if_neg h,if_neg h]
  exact mul_err a b w _ rfl h ha hb
end Go.Proofs.YtignanmmgaldeaaGreatDoor
end
section
set_option linter.unusedVariables false
set_option linter.unusedSimpArgs false
set_option maxRecDepth 100000
set_option maxHeartbeats 4000000
namespace Go.Proofs.YtignanmmgaldeaaGreatDoor
open Go.RowKit Go.Shelf Go.Proofs.YtignanmmgaldeaaGreatDoorW.PrintWords
theorem shF_low(d:Int)(xs:List Int)(n:Nat):∀k,k≤n→∀i,i<n-k→(shF d xs (bwl n k)).1[i]?.getD 0=0
 |0,_,i,hi=>by
  rw[Nat.sub_zero] at hi
  simp[shF,bwl,List.getElem?_replicate,hi]
 |k+1,hk,i,hi=>by
  rw[nY n k aCo,xW]
  dsimp only
  rw[List.getElem?_set_ne aCo];exact shF_low d xs n k aCo i aCo
theorem shF_val(d:Int)(hd:1≤d)(xs:List Int)(n:Nat)(hn:xs.length=n):∀k,k≤n→pval (shF d xs (bwl n k)).1 n*d+(shF d xs (bwl n k)).2*1000000000 ^ (n-k)+pval xs (n-k)=lval xs
 |0,_=>by
  have:pval (shF d xs (bwl n 0)).1 n=0:=wY n n;rw[this];simp[shF,bwl,lval,hn]
 |k+1,hk=>by
  have ih:=shF_val d hd xs n hn k aCo;have hl:=xG d xs (bwl n k);have hz:=shF_low d xs n k aCo (n-1-k) aCo;rw[show n-k=(n-(k+1))+1 from by omega,kC,pval] at ih;rw[show n-(k+1)=n-1-k from by omega] at ih ⊢;rw[nY n k aCo,xW]
  dsimp only
  rw[qW _ _ _ (by rw[hl];omega) n aCo,hz,Int.sub_zero];generalize (shF d xs (bwl n k)).2=rest at ih ⊢;generalize pval (shF d xs (bwl n k)).1 n=P at ih ⊢;generalize xs[n-1-k]?.getD 0=x at ih ⊢;generalize (1000000000:Int) ^ (n-1-k)=p at ih ⊢;have h:=Int.emod_add_mul_ediv (rest*1000000000+x) d;have h2:=congrArg (· *p) h;simp only[Int.add_mul] at h2;have e1:d*((rest*1000000000+x)/d)*p=(rest*1000000000+x)/d*p*d:=by rw[Int.mul_comm d,Int.mul_assoc,Int.mul_assoc,Int.mul_comm d p]
  have e2:rest*(1000000000*p)=rest*1000000000*p:=(Int.mul_assoc _ _ _).symm;rw[Int.add_mul];omega
theorem aAt(d:Int)(hd:1≤d){xs:List Int}(hx:limbs xs)(n:Nat):∀k,k≤n→limbs (shF d xs (bwl n k)).1
 |0,_=>fun i=>by by_cases h:i<n <;> simp[shF,bwl,List.getElem?_replicate,h]
 |k+1,hk=>by
  have ih:=aAt d hd hx n k aCo;have hr:=aA1 d hd xs (bwl n k);have h1:=hx (n-1-k);rw[nY n k aCo,xW]
  dsimp only
  refine uO ih _ _ ⟨Int.ediv_nonneg aCo aCo,?_⟩;refine Int.ediv_lt_of_lt_mul aCo ?_;have:((shF d xs (bwl n k)).2+1)*1000000000≤d*1000000000:=Int.mul_le_mul_of_nonneg_right aCo aCo;rw[Int.mul_comm 1000000000 d];omega
theorem short_val(d:Int)(hd:1≤d){xs:List Int}(hx:limbs xs)(n:Nat)(hn:xs.length=n):lval (shF d xs (bwl n n)).1=lval xs/d∧(shF d xs (bwl n n)).2=lval xs%d:=by
 have hv:=shF_val d hd xs n hn n (Nat.le_refl _);have hr:=aA1 d hd xs (bwl n n);have hl:=xG d xs (bwl n n);rw[Nat.sub_self] at hv;simp only[Int.pow_zero,Int.mul_one,pval,Int.add_zero] at hv;have e:lval (shF d xs (bwl n n)).1=pval (shF d xs (bwl n n)).1 n:=by rw[lval,hl]
 rw[e];have hu:=Int.ediv_emod_unique (a:=lval xs) (b:=d) (r:=(shF d xs (bwl n n)).2) (q:=pval (shF d xs (bwl n n)).1 n) aCo;have:=hu.2 ⟨by rw[Int.mul_comm d];omega,hr.1,hr.2⟩;exact⟨this.1.symm,this.2.symm⟩
theorem mag_nil(w:World)(L:Nat):Mag w (.slice none 0 0) 0 L:=⟨none,0,0,[],rfl,⟨rfl,by omega,fun h=>by omega⟩,fun i=>by simp,Or.inl rfl,Nat.le_refl _,trivial,Nat.zero_le _,rfl⟩
theorem divide_less(A B:Option Addr)(n m c e:Nat)(xs ys:List Int)(w:World)(hx:RI w.heap.size w A n xs)(hy:RI w.heap.size w B m ys)(h:ordL xs ys<0) :
 Calls Tryz.prog 90 #[.slice A n c,.slice B m e] w fun e w'=>e= .returned (.tuple #[.slice none 0 0,.slice A n c])∧Below w.heap.size w w':=by
 have HO:=Lib.hid (uI A B n m c e xs ys w hx hy);have h1:decide (ordL xs ys<0)=true:=by simpa using h
 generalize ordL xs ys=o at HO h1;clear hx hy h;go_enter Tryz.func90,Tryz.ntmps90
 go_wp2_with(go_at_call 145;refine HO.out.mono ?_;rintro e w1 ⟨rfl,hB⟩;have HB:=Lib.hid hB;clear hB HO)
 go_ret2
 exact⟨rfl,HB.out⟩
theorem divide_one(A B:Option Addr)(n c e:Nat)(xs ys:List Int)(d:Int)(w:World)(hx:RI w.heap.size w A n xs)(hy:RI w.heap.size w B 1 ys)(hxl:limbs xs)(hn:n≤1000000)(hd:ys[0]?.getD 0=d)(hd1:1≤d)(hd2:d<1000000000)(h:¬ordL xs ys<0) :
 Calls Tryz.prog 90 #[.slice A n c,.slice B 1 e] w fun e w'=>∃A' n' c' B' m' c2,e= .returned (.tuple #[.slice A' n' c',.slice B' m' c2])∧Mag w' (.slice A' n' c') (lval xs/d) n∧Mag w' (.slice B' m' c2) (lval xs%d) 1∧Below w.heap.size w w':=by
 have HO:=Lib.hid (uI A B n 1 c e xs ys w hx hy);have h1:decide (ordL xs ys<0)=false:=by simpa using h
 generalize ordL xs ys=o at HO h1;obtain⟨ad,rfl,hb,hc⟩:=hy.2.2 aCo;have hcell:=hc 0 aCo;rw[hd,show ad.add 0=ad from by simp[Addr.add]] at hcell;have HC:=Lib.hid hcell;have HX:=Lib.hid hx;have HL:=Lib.hid hxl;have HSV:=Lib.hid (short_val d hd1 hxl n hx.1);have HSL:=Lib.hid (aAt d hd1 hxl n n (Nat.le_refl _));have hrest:=aA1 d hd1 xs (bwl n n);have hlen:=xG d xs (bwl n n);have HSW:=Lib.hid (fun w1 h=>short_walk A n c xs d w1 h aCo hd1 aCo (fun i=>hxl i.val));generalize (shF d xs (bwl n n)).2=r0 at HSV hrest HSW;generalize (shF d xs (bwl n n)).1=q0 at HSV HSL hlen HSW;clear hx hy h hd hc hcell hxl;go_enter Tryz.func90,Tryz.ntmps90
 go_wp2_with(first
  |(go_at_call 145;refine HO.out.mono ?_;rintro e w1 ⟨rfl,hB⟩;have hz1:=hB.size;have cw:=(hB.cell (p:=ad) hb).trans HC.out;have HB:=Lib.hid hB;clear hB HO)
  |(go_at_call 171;refine(HSW.out w1 ((HX.out.below HB.out).mono hz1)).mono ?_;rintro e w2 ⟨rfl,hR,hB2⟩;have HR:=Lib.hid hR;have HB2:=Lib.hid hB2;have hz2:=hB2.size;clear hR hB2 cw)
  |(go_at_call 172;refine(qO _ _ _ [r0] _ (jH (World.alloc_heap_new w2 _) aCq) aCq aCo).mono ?_;rintro e w3 ⟨rfl,rfl⟩))
 go_ret2
 have hW3:Below w2.heap.size w2 (w2.alloc (.cells #[.int .i64 r0] 3)):=(Below.refl _ w2).alloc (Nat.le_refl _) _;have hq:=jH HR.out aCo;rw[hlen] at hq;have hM1:Mag w2 (.slice (some ⟨w1.heap.size+1,0,none⟩) (tlen q0 q0.length) n) (lval xs/d) n:=kL (jH HR.out aCo) (fun ad e=>by cases e;exact HR.out.lt) HSL.out aCo aCo (Nat.le_trans (kF _ _) aCo) HSV.out.1;rw[hlen] at hM1
 have hlr:limbs [r0]:=fun i=>by
  match i with
  |0=>simp;omega
  |i+1=>simp
 have hM2:Mag (w2.alloc (.cells #[.int .i64 r0] 3)) (.slice (some ⟨w2.heap.size,0,none⟩) (tlen [r0] [r0].length) 1) (lval xs%d) 1:=kL (l:= [r0]) (jH (World.alloc_heap_new w2 _) aCq) (fun ad e=>by cases e;simp) hlr aCq aCo (kF _ _) (by rw[←HSV.out.2];simp[lval,pval]);exact⟨_,_,_,_,_,_,rfl,hM1.below hW3,hM2,(HB.out.trans (HB2.out.mono hz1)).trans (hW3.mono aCo)⟩
end Go.Proofs.YtignanmmgaldeaaGreatDoor
namespace Go.Proofs.YtignanmmgaldeaaGreatDoor
open Go.RowKit Go.Shelf Go.Proofs.YtignanmmgaldeaaGreatDoorW.PrintWords
def DivH(xs ys:List Int)(K:Nat):Prop:=∀(A B:Option Addr) (n m c e:Nat) (w:World),RI w.heap.size w A n xs→RI w.heap.size w B m ys→n≤c→m≤e →
 Calls Tryz.prog 90 #[.slice A n c,.slice B m e] w fun e w'=>∃A' n' c' B' m' c2,e= .returned (.tuple #[.slice A' n' c',.slice B' m' c2])∧Mag w' (.slice A' n' c') (lval xs/lval ys) K∧Mag w' (.slice B' m' c2) (lval xs%lval ys) K∧Below w.heap.size w w'
theorem div_small{xs ys:List Int}(hx:limbs xs)(hy:limbs ys)(tx:topped xs)(ty:topped ys)(hn:xs.length≤1000000)(h0:0<lval ys)(hs:lval xs<lval ys∨lval ys<1000000000):DivH xs ys (xs.length+1):=by
 intro A B n m c e w hX hY hnc hme;have ho:=(aA4 hx hy tx ty).1;have hp:=lX hx
 by_cases h:lval xs<lval ys
 ·refine(divide_less A B n m c e xs ys w hX hY (ho.2 h)).mono ?_
  rintro E w' ⟨rfl,hB⟩;refine⟨_,_,_,_,_,_,rfl,?_,?_,hB⟩
  ·rw[Int.ediv_eq_zero_of_lt hp h];exact mag_nil w' _
  ·rw[Int.emod_eq_of_lt hp h]
   exact⟨A,n,c,xs,rfl,(hX.below hB).mono hB.size,hx,tx,hnc,trivial,by rw[←hX.1];omega,rfl⟩
 ·have hy1:lval ys<1000000000:=by omega
  have hm1:m=1:=by
   have hl:=hY.1;rcases Nat.lt_or_ge 1 m with h2|h2
   ·have:=aAq hy ty aCo
    have:=base_mono (m:=1) (n:=ys.length-1) aCo;omega
   ·rcases Nat.eq_zero_or_pos m with e|e
    ·have:=(nK hy ty).2 aCo;omega
    ·omega
  subst hm1;have hl:=hY.1;have hd:lval ys=ys[0]?.getD 0:=by rw[lval,hl];simp[pval]
  have hb:=hy 0;refine(divide_one A B n c e xs ys (ys[0]?.getD 0) w hX hY hx (by rw[←hX.1];exact hn) rfl aCo aCo (fun e=>h (ho.1 e))).mono ?_;rintro E w' ⟨A',n',c',B',m',c2,rfl,h1,h2,hB⟩;rw[←hd] at h1 h2;exact⟨_,_,_,_,_,_,rfl,h1.more (by rw[←hX.1];omega),h2.more aCo,hB⟩
theorem fdiv_same(b:Bool)(X Y:Int)(hX:0≤X)(hY:0<Y):Int.fdiv (if b=true then -X else X) (if b=true then -Y else Y)=X/Y∧Int.fmod (if b=true then -X else X) (if b=true then -Y else Y)=(if b=true then -(X%Y) else X%Y):=by
 cases b
 ·simp only[Bool.false_eq_true,if_false]
  exact⟨Int.fdiv_eq_ediv_of_nonneg X aCo,Int.fmod_eq_emod_of_nonneg X aCo⟩
 ·simp only[if_true]
  rw[Int.neg_fdiv_neg,Int.neg_fmod_neg,Int.fdiv_eq_ediv_of_nonneg X aCo,Int.fmod_eq_emod_of_nonneg X aCo];exact⟨rfl,rfl⟩
theorem neg_ediv(X Y:Int)(hY:0<Y):(-X)/Y=(if X%Y=0 then -(X/Y) else -(X/Y+1))∧(-X)%Y=(if X%Y=0 then 0 else Y-X%Y):=by
 have h:=Int.emod_add_mul_ediv X Y;have h1:=Int.emod_nonneg X (show Y≠0 by omega);have h2:=Int.emod_lt_of_pos X hY
 split
 ·rename_i h0
  have:=(Int.ediv_emod_unique (a:= -X) (b:=Y) (r:=0) (q:= -(X/Y)) hY).2 ⟨by rw[Int.mul_neg];omega,by omega,hY⟩;exact this
 ·rename_i h0
  have:=(Int.ediv_emod_unique (a:= -X) (b:=Y) (r:=Y-X%Y) (q:= -(X/Y+1)) hY).2 ⟨by rw[Int.mul_neg,Int.mul_add];omega,by omega,by omega⟩;exact this
theorem fdiv_other(b:Bool)(X Y:Int)(hX:0≤X)(hY:0<Y):Int.fdiv (if b=true then -X else X) (if(!b)=true then -Y else Y)=(if X%Y=0 then -(X/Y) else -(X/Y+1))∧Int.fmod (if b=true then -X else X) (if(!b)=true then -Y else Y)=(if(!b)=true then -(if X%Y=0 then 0 else Y-X%Y) else(if X%Y=0 then 0 else Y-X%Y)):=by
 obtain⟨h1,h2⟩:=neg_ediv X Y hY
 cases b
 ·simp only[Bool.not_false,if_true,Bool.false_eq_true,if_false]
  rw[show X= - -X from(Int.neg_neg X).symm,Int.neg_fdiv_neg,Int.neg_fmod_neg,Int.fdiv_eq_ediv_of_nonneg _ aCo,Int.fmod_eq_emod_of_nonneg _ aCo,Int.neg_neg,h1,h2];exact⟨rfl,rfl⟩
 ·simp only[Bool.not_true,if_true,Bool.false_eq_true,if_false]
  rw[Int.fdiv_eq_ediv_of_nonneg _ aCo,Int.fmod_eq_emod_of_nonneg _ aCo,h1,h2];exact⟨rfl,rfl⟩
theorem aA7{P:Program}{fn:Func}{p q:Tmp}{ty:TypeId}(h:fn.results= #[.cell p ty,.cell q ty])(tmps:Array Value)(w:World)(g g2:Nat)(t:TypeId)(cs cs2:Array Value)(fr fr2:Nat×Nat)(d:TypeDesc)
 (hp:tmps.getD p undef= .pointer (some ⟨g,0,none⟩)) (hg:w.heap[g]? =some (.cells cs t fr)) (hq:tmps.getD q undef= .pointer (some ⟨g2,0,none⟩)) (hg2:w.heap[g2]? =some (.cells cs2 t fr2))
 (hu:P.underlying ty=some d) (hd:(match d with | .struct _| .array _ _=>true|_=>false)=true) (hi:(P.info? ty).map (·.size)=some cs.size) (hi2:(P.info? ty).map (·.size)=some cs2.size) :
 (results fn tmps).run P w= .ok (.tuple #[.agg cs,.agg cs2]) w:=by
 have hp':tmps[p]?.getD undef= .pointer (some ⟨g,0,none⟩):=by simpa using hp
 have hq':tmps[q]?.getD undef= .pointer (some ⟨g2,0,none⟩):=by simpa using hq
 simp[results,h,hp',hq',asAddr,run_loadVar_row w g t ty cs fr d hg hu hd hi,run_loadVar_row w g2 t ty cs2 fr2 d hg2 hu hd hi2]
theorem alloc4(w:World)(o0 o1 o2 o3:Obj):((((w.alloc o0).alloc o1).alloc o2).alloc o3).heap[w.heap.size]? =some o0∧((((w.alloc o0).alloc o1).alloc o2).alloc o3).heap[w.heap.size+1]? =some o1∧((((w.alloc o0).alloc o1).alloc o2).alloc o3).heap[w.heap.size+1+1]? =some o2∧((((w.alloc o0).alloc o1).alloc o2).alloc o3).heap[w.heap.size+1+1+1]? =some o3∧((((w.alloc o0).alloc o1).alloc o2).alloc o3).heap.size=w.heap.size+4∧Below w.heap.size w ((((w.alloc o0).alloc o1).alloc o2).alloc o3):=by
 have h0:=World.alloc_heap_new w o0;have h1:=World.alloc_heap_new (w.alloc o0) o1;have h2:=World.alloc_heap_new ((w.alloc o0).alloc o1) o2;have h3:=World.alloc_heap_new (((w.alloc o0).alloc o1).alloc o2) o3;simp only[World.size_alloc] at h1 h2 h3;refine⟨?_,?_,?_,h3,by simp,((((Below.refl _ w).alloc (Nat.le_refl _) _).alloc (by simp only[World.size_alloc];omega) _).alloc (by simp only[World.size_alloc];omega) _).alloc (by simp only[World.size_alloc];omega) _⟩
 ·exact(Below.heap_alloc _ _ _ (by simp only[World.size_alloc];omega)).trans ((Below.heap_alloc _ _ _ (by simp only[World.size_alloc];omega)).trans ((Below.heap_alloc _ _ _ (by simp only[World.size_alloc];omega)).trans h0))
 ·exact(Below.heap_alloc _ _ _ (by simp only[World.size_alloc];omega)).trans ((Below.heap_alloc _ _ _ (by simp only[World.size_alloc];omega)).trans h1)
 ·exact(Below.heap_alloc _ _ _ (by simp only[World.size_alloc];omega)).trans h2
theorem lG{w:World}{v:Value}{x:Int}{L:Nat}(h:Mag w v x L){g:Nat}{b:Bool}{A:Option Addr}{n c:Nat}{t:TypeId}(hg:w.heap[g]? =some (.cells #[.bool b,.slice A n c] t (0,0)))(d:Bool)(B:Option Addr)(m e:Nat):Mag ((w.setCell ⟨g,0,none⟩ (.bool d)).setCell ⟨g,1,none⟩ (.slice B m e)) v x L:=
 (h.set hg (xI b A n c) 0 _).set (gX (cs:=#[.bool b,.slice A n c]) hg 0 (.bool d) rfl) (xI d A n c) 1 _
theorem sJ{w:World}{v:Value}{x:Int}{L:Nat}(h:Mag w v x L):Mag w.drew v x L:=h
theorem quot_same(A B:Option Addr)(n m c e:Nat)(xs ys:List Int)(b:Bool)(K:Nat)(w:World)(hx:RI w.heap.size w A n xs)(hy:RI w.heap.size w B m ys)(hc:n≤c)(he:m≤e)(hD:DivH xs ys K) :
 Calls Tryz.prog 95 #[.agg #[.bool b,.slice A n c],.agg #[.bool b,.slice B m e]] w fun e w'=>∃A1 n1 c1 A2 n2 c2,e= .returned (.tuple #[.agg #[.bool false,.slice A1 n1 c1],.agg #[.bool b,.slice A2 n2 c2]])∧Mag w' (.slice A1 n1 c1) (lval xs/lval ys) K∧Mag w' (.slice A2 n2 c2) (lval xs%lval ys) K∧Below w.heap.size w w':=by
 have HX:=Lib.hid hx;have HY:=Lib.hid hy;have HD:=Lib.hid hD;clear hx hy hD;obtain⟨x0,x1,x2,x3,xz,xB⟩:=alloc4 w (.cells #[.bool b,.slice A n c] 81) (.cells #[.bool b,.slice B m e] 81) (.cells #[.bool false,.slice none 0 0] 81) (.cells #[.bool false,.slice none 0 0] 81);have HDV:Hid (Calls Tryz.prog 90 #[.slice A n c,.slice B m e] ((((w.alloc (.cells #[.bool b,.slice A n c] 81)).alloc (.cells #[.bool b,.slice B m e] 81)).alloc (.cells #[.bool false,.slice none 0 0] 81)).alloc (.cells #[.bool false,.slice none 0 0] 81)) fun E w'=>∃A' n' c' B' m' c2,E= .returned (.tuple #[.slice A' n' c',.slice B' m' c2])∧Mag w' (.slice A' n' c') (lval xs/lval ys) K∧Mag w' (.slice B' m' c2) (lval xs%lval ys) K∧Below ((((w.alloc (.cells #[.bool b,.slice A n c] 81)).alloc (.cells #[.bool b,.slice B m e] 81)).alloc (.cells #[.bool false,.slice none 0 0] 81)).alloc (.cells #[.bool false,.slice none 0 0] 81)).heap.size ((((w.alloc (.cells #[.bool b,.slice A n c] 81)).alloc (.cells #[.bool b,.slice B m e] 81)).alloc (.cells #[.bool false,.slice none 0 0] 81)).alloc (.cells #[.bool false,.slice none 0 0] 81)) w'):=Lib.hid (HD.out A B n m c e _ ((HX.out.below xB).mono (by rw[xz];omega)) ((HY.out.below xB).mono (by rw[xz];omega)) hc he);have X0:=Lib.hid x0;have X1:=Lib.hid x1;have X2:=Lib.hid x2;have X3:=Lib.hid x3;have XZ:=Lib.hid xz;have XB:=Lib.hid xB;clear x0 x1 x2 x3 xz xB
 have HKG:Hid (∀(g:Nat) (v1:World) (u v:Value),g≠w.heap.size→g≠w.heap.size+1→(v1.cell? ⟨w.heap.size,0,none⟩=some (.bool b)∧v1.cell? ⟨w.heap.size,1,none⟩=some (.slice A n c)∧v1.cell? ⟨w.heap.size+1,0,none⟩=some (.bool b)∧v1.cell? ⟨w.heap.size+1,1,none⟩=some (.slice B m e))→((v1.setCell ⟨g,0,none⟩ u).setCell ⟨g,1,none⟩ v).cell? ⟨w.heap.size,0,none⟩=some (.bool b)∧((v1.setCell ⟨g,0,none⟩ u).setCell ⟨g,1,none⟩ v).cell? ⟨w.heap.size,1,none⟩=some (.slice A n c)∧((v1.setCell ⟨g,0,none⟩ u).setCell ⟨g,1,none⟩ v).cell? ⟨w.heap.size+1,0,none⟩=some (.bool b)∧((v1.setCell ⟨g,0,none⟩ u).setCell ⟨g,1,none⟩ v).cell? ⟨w.heap.size+1,1,none⟩=some (.slice B m e)):=Lib.hid fun g v1 u v hg0 hg1 ⟨a1,a2,a3,a4⟩=>
  have h (q:Addr) (hq:g≠q.block):((v1.setCell ⟨g,0,none⟩ u).setCell ⟨g,1,none⟩ v).cell? q=v1.cell? q:=(cell_far _ hq).trans (cell_far _ hq)
  ⟨(h _ hg0).trans a1,(h _ hg0).trans a2,(h _ hg1).trans a3,(h _ hg1).trans a4⟩
 go_enter Tryz.func95,Tryz.ntmps95
 go_wp2_with(go_at_call 90;refine HDV.out.mono ?_;rintro E w1 ⟨A1,n1,c1,A2,n2,c2,rfl,hM1,hM2,hB⟩;have y0:=(hB.block w.heap.size (by rw[XZ.out];omega)).trans X0.out;have y1:=(hB.block (w.heap.size+1) (by rw[XZ.out];omega)).trans X1.out;have y2:=(hB.block (w.heap.size+1+1) (by rw[XZ.out];omega)).trans X2.out;have y3:=(hB.block (w.heap.size+1+1+1) (by rw[XZ.out];omega)).trans X3.out;have kx0:=dG y0 0 _ rfl;have kx1:=dG y0 1 _ rfl;have ky0:=dG y1 0 _ rfl;have ky1:=dG y1 1 _ rfl;have z0:=dG y2 0 _ rfl;have z1:=dG y2 1 _ rfl;have z2:=dV y2 0;have z3:=dV y2 1;have r0:=dG y3 0 _ rfl;have r1:=dG y3 1 _ rfl;have r2:=dV y3 0;have r3:=dV y3 1;have Y1:=Lib.hid y1;have Y2:=Lib.hid y2;have Y3:=Lib.hid y3;have HM1:=Lib.hid hM1;have HM2:=Lib.hid hM2;have hbw:=XB.out.trans (hB.mono (by rw[XZ.out];omega));have hzw:=hB.size;rw[XZ.out] at hzw;have HBW:=Lib.hid hbw;clear y0 y1 y2 y3 hM1 hM2 hB hbw HDV)
 have kd:w1.drew.cell? ⟨w.heap.size,0,none⟩=some (.bool b)∧w1.drew.cell? ⟨w.heap.size,1,none⟩=some (.slice A n c)∧w1.drew.cell? ⟨w.heap.size+1,0,none⟩=some (.bool b)∧w1.drew.cell? ⟨w.heap.size+1,1,none⟩=some (.slice B m e):=⟨kx0,kx1,ky0,ky1⟩;clear kx0 kx1 ky0 ky1 X0 X1 X2 X3 XZ XB HX HY HD
 go_region_held3 (fun w'=>w'.cell? ⟨w.heap.size,0,none⟩=some (.bool b)∧w'.cell? ⟨w.heap.size,1,none⟩=some (.slice A n c)∧w'.cell? ⟨w.heap.size+1,0,none⟩=some (.bool b)∧w'.cell? ⟨w.heap.size+1,1,none⟩=some (.slice B m e)) (first|assumption|exact HKG.out _ _ _ _ aCo aCo (by assumption)) (fail)
 go_wp2
 have s1:=(pI (w:=w1) (g:=w.heap.size+1+1) (k:=w.heap.size+1+1+1) aCo (.bool false) (.slice A1 n1 c1)).trans Y3.out;have s2:=(pI (w:=(w1.setCell ⟨w.heap.size+1+1,0,none⟩ (.bool false)).setCell ⟨w.heap.size+1+1,1,none⟩ (.slice A1 n1 c1)) (g:=w.heap.size+1+1+1) (k:=w.heap.size+1+1) aCo (.bool b) (.slice A2 n2 c2)).trans (nZ Y2.out false A1 n1 c1);have s3:=nZ s1 b A2 n2 c2;refine bodyPost_ret (aA7 rfl _ _ (w.heap.size+1+1) (w.heap.size+1+1+1) 81 _ _ (0,0) (0,0) _ rfl s2 rfl s3 Tryz.underlying81 rfl (by kernel_rfl) (by kernel_rfl)) rfl ?_;exact⟨_,_,_,_,_,_,rfl,sJ (lG (lG HM1.out Y2.out _ _ _ _) s1 _ _ _ _),sJ (lG (lG HM2.out Y2.out _ _ _ _) s1 _ _ _ _),(jL (jL HBW.out aCo _ _) aCo _ _).drew⟩
end Go.Proofs.YtignanmmgaldeaaGreatDoor
namespace Go.Proofs.YtignanmmgaldeaaGreatDoor
open Go.RowKit Go.Shelf Go.Proofs.YtignanmmgaldeaaGreatDoorW.PrintWords
theorem plus_mag(u v:Value)(x y:Int)(L:Nat)(w:World)(hu:Mag w u x L)(hv:Mag w v y L)(hL:L≤1000000) :
 Calls Tryz.prog 174 #[u,v] w fun E w'=>∃A n c,E= .returned (.slice A n c)∧Mag w' (.slice A n c) (x+y) (L+1)∧Below w.heap.size w w':=by
 obtain⟨A,n,c,xs,rfl,h1,h2,h3,h4,h5,h6,rfl⟩:=hu;obtain⟨B,m,e,ys,rfl,k1,k2,k3,k4,k5,k6,rfl⟩:=hv;have hpl:=plL_le xs ys L (by rw[h1.1];exact h6) (by rw[k1.1];exact k6);refine(plus_walk A B n m c e xs ys w h1 k1 h2 k2 aCo aCo).mono ?_;rintro E w' ⟨rfl,hR,hB⟩;exact⟨_,_,_,rfl,kL (jH hR aCo) (fun ad e=>by cases e;exact hR.lt) (plL_limbs xs ys) (Nat.le_refl _) aCo (Nat.le_trans (kF _ _) hpl) (plL_val h2 k2),hB⟩
theorem minus_mag(u v:Value)(x y:Int)(L:Nat)(w:World)(hu:Mag w u x L)(hv:Mag w v y L)(hL:L≤1000000)(hxy:y≤x) :
 Calls Tryz.prog 175 #[u,v] w fun E w'=>∃A n c,E= .returned (.slice A n c)∧Mag w' (.slice A n c) (x-y) L∧Below w.heap.size w w':=by
 obtain⟨A,n,c,xs,rfl,h1,h2,h3,h4,h5,h6,rfl⟩:=hu;obtain⟨B,m,e,ys,rfl,k1,k2,k3,k4,k5,k6,rfl⟩:=hv;have hml:(mnL xs ys).length=n:=by rw[mnL,mZ];exact h1.1
 refine(aA3 A B n m c e xs ys w h1 k1 h2 k2 aCo aCo).mono ?_;rintro E w' ⟨rfl,hR,hB⟩;exact⟨_,_,_,rfl,kL (jH hR aCo) (fun ad e=>by cases e;exact hR.lt) (yN h2 k2) (Nat.le_refl _) aCo (Nat.le_trans (kF _ _) aCo) (mnL_val h2 k2 k3 hxy),hB⟩
theorem mW{w:World}{A:Option Addr}{n c:Nat}{x:Int}{L:Nat}(h:Mag w (.slice A n c) x L):x=0↔n=0:=by
 obtain⟨A',n',c',xs,he,h1,h2,h3,h4,h5,h6,rfl⟩:=h
 cases he
 rw[nK h2 h3,h1.1]
theorem mag_one(w:World)(L:Nat)(hL:1≤L):Mag (w.alloc (.cells #[.int .i64 1] 3)) (.slice (some ⟨w.heap.size,0,none⟩) 1 1) 1 L:=
 ⟨_,1,1,[1],rfl,⟨rfl,by omega,fun _=>⟨_,rfl,by simp,fun j hj=>by
   obtain rfl:j=0:=by omega
   rw[show(Addr.add ⟨w.heap.size,0,none⟩ 0)=⟨w.heap.size,0,none⟩ from by simp[Addr.add]]
   exact dG (World.alloc_heap_new w _) 0 _ rfl⟩⟩,fun i=>by
   match i with
   |0=>simp
   |i+1=>simp,Or.inr aCq,Nat.le_refl _,trivial,hL,by simp[lval,pval]⟩
theorem quot_zero(A B:Option Addr)(n m c e:Nat)(xs ys:List Int)(b:Bool)(K:Nat)(w:World)(hx:RI w.heap.size w A n xs)(hy:RI w.heap.size w B m ys)(hc:n≤c)(he:m≤e)(hD:DivH xs ys K)(hz:lval xs%lval ys=0) :
 Calls Tryz.prog 95 #[.agg #[.bool b,.slice A n c],.agg #[.bool (!b),.slice B m e]] w fun e w'=>∃A1 n1 c1 A2 n2 c2,e= .returned (.tuple #[.agg #[.bool true,.slice A1 n1 c1],.agg #[.bool (!b),.slice A2 n2 c2]])∧Mag w' (.slice A1 n1 c1) (lval xs/lval ys) K∧Mag w' (.slice A2 n2 c2) (lval xs%lval ys) K∧Below w.heap.size w w':=by
 have HX:=Lib.hid hx;have HY:=Lib.hid hy;have HD:=Lib.hid hD;clear hx hy hD;obtain⟨x0,x1,x2,x3,xz,xB⟩:=alloc4 w (.cells #[.bool b,.slice A n c] 81) (.cells #[.bool (!b),.slice B m e] 81) (.cells #[.bool false,.slice none 0 0] 81) (.cells #[.bool false,.slice none 0 0] 81);have HDV:Hid (Calls Tryz.prog 90 #[.slice A n c,.slice B m e] ((((w.alloc (.cells #[.bool b,.slice A n c] 81)).alloc (.cells #[.bool (!b),.slice B m e] 81)).alloc (.cells #[.bool false,.slice none 0 0] 81)).alloc (.cells #[.bool false,.slice none 0 0] 81)) fun E w'=>∃A' n' c' B' m' c2,E= .returned (.tuple #[.slice A' n' c',.slice B' m' c2])∧Mag w' (.slice A' n' c') (lval xs/lval ys) K∧Mag w' (.slice B' m' c2) (lval xs%lval ys) K∧Below ((((w.alloc (.cells #[.bool b,.slice A n c] 81)).alloc (.cells #[.bool (!b),.slice B m e] 81)).alloc (.cells #[.bool false,.slice none 0 0] 81)).alloc (.cells #[.bool false,.slice none 0 0] 81)).heap.size ((((w.alloc (.cells #[.bool b,.slice A n c] 81)).alloc (.cells #[.bool (!b),.slice B m e] 81)).alloc (.cells #[.bool false,.slice none 0 0] 81)).alloc (.cells #[.bool false,.slice none 0 0] 81)) w'):=Lib.hid (HD.out A B n m c e _ ((HX.out.below xB).mono (by rw[xz];omega)) ((HY.out.below xB).mono (by rw[xz];omega)) hc he);have X0:=Lib.hid x0;have X1:=Lib.hid x1;have X2:=Lib.hid x2;have X3:=Lib.hid x3;have XZ:=Lib.hid xz;have XB:=Lib.hid xB;clear x0 x1 x2 x3 xz xB
 have HKG:Hid (∀(g:Nat) (v1:World) (u v:Value),g≠w.heap.size→g≠w.heap.size+1→(v1.cell? ⟨w.heap.size,0,none⟩=some (.bool b)∧v1.cell? ⟨w.heap.size,1,none⟩=some (.slice A n c)∧v1.cell? ⟨w.heap.size+1,0,none⟩=some (.bool (!b))∧v1.cell? ⟨w.heap.size+1,1,none⟩=some (.slice B m e))→((v1.setCell ⟨g,0,none⟩ u).setCell ⟨g,1,none⟩ v).cell? ⟨w.heap.size,0,none⟩=some (.bool b)∧((v1.setCell ⟨g,0,none⟩ u).setCell ⟨g,1,none⟩ v).cell? ⟨w.heap.size,1,none⟩=some (.slice A n c)∧((v1.setCell ⟨g,0,none⟩ u).setCell ⟨g,1,none⟩ v).cell? ⟨w.heap.size+1,0,none⟩=some (.bool (!b))∧((v1.setCell ⟨g,0,none⟩ u).setCell ⟨g,1,none⟩ v).cell? ⟨w.heap.size+1,1,none⟩=some (.slice B m e)):=Lib.hid fun g v1 u v hg0 hg1 ⟨a1,a2,a3,a4⟩=>
  have h (q:Addr) (hq:g≠q.block):((v1.setCell ⟨g,0,none⟩ u).setCell ⟨g,1,none⟩ v).cell? q=v1.cell? q:=(cell_far _ hq).trans (cell_far _ hq)
  ⟨(h _ hg0).trans a1,(h _ hg0).trans a2,(h _ hg1).trans a3,(h _ hg1).trans a4⟩
 go_enter Tryz.func95,Tryz.ntmps95
 go_wp2_with(go_at_call 90;refine HDV.out.mono ?_;rintro E w1 ⟨A1,n1,c1,A2,n2,c2,rfl,hM1,hM2,hB⟩;have y0:=(hB.block w.heap.size (by rw[XZ.out];omega)).trans X0.out;have y1:=(hB.block (w.heap.size+1) (by rw[XZ.out];omega)).trans X1.out;have y2:=(hB.block (w.heap.size+1+1) (by rw[XZ.out];omega)).trans X2.out;have y3:=(hB.block (w.heap.size+1+1+1) (by rw[XZ.out];omega)).trans X3.out;have kx0:=dG y0 0 _ rfl;have kx1:=dG y0 1 _ rfl;have ky0:=dG y1 0 _ rfl;have ky1:=dG y1 1 _ rfl;have z0:=dG y2 0 _ rfl;have z1:=dG y2 1 _ rfl;have z2:=dV y2 0;have z3:=dV y2 1;have r0:=dG y3 0 _ rfl;have r1:=dG y3 1 _ rfl;have r2:=dV y3 0;have r3:=dV y3 1;have Y1:=Lib.hid y1;have Y2:=Lib.hid y2;have Y3:=Lib.hid y3;obtain rfl:n2=0:=(mW hM2).1 hz;have HM1:=Lib.hid hM1;have HM2:=Lib.hid hM2;have hbw:=XB.out.trans (hB.mono (by rw[XZ.out];omega));have hzw:=hB.size;rw[XZ.out] at hzw;have HBW:=Lib.hid hbw;clear y0 y1 y2 y3 hM1 hM2 hB hbw HDV)
 have kd:w1.drew.cell? ⟨w.heap.size,0,none⟩=some (.bool b)∧w1.drew.cell? ⟨w.heap.size,1,none⟩=some (.slice A n c)∧w1.drew.cell? ⟨w.heap.size+1,0,none⟩=some (.bool (!b))∧w1.drew.cell? ⟨w.heap.size+1,1,none⟩=some (.slice B m e):=⟨kx0,kx1,ky0,ky1⟩;clear kx0 kx1 ky0 ky1 X0 X1 X2 X3 XZ XB HX HY HD
 go_region_held3 (fun w'=>w'.cell? ⟨w.heap.size,0,none⟩=some (.bool b)∧w'.cell? ⟨w.heap.size,1,none⟩=some (.slice A n c)∧w'.cell? ⟨w.heap.size+1,0,none⟩=some (.bool (!b))∧w'.cell? ⟨w.heap.size+1,1,none⟩=some (.slice B m e)) (first|assumption|exact HKG.out _ _ _ _ aCo aCo (by assumption)) (fail)
 go_wp2
 have s1:=(pI (w:=w1) (g:=w.heap.size+1+1) (k:=w.heap.size+1+1+1) aCo (.bool true) (.slice A1 n1 c1)).trans Y3.out;have s2:=(pI (w:=(w1.setCell ⟨w.heap.size+1+1,0,none⟩ (.bool true)).setCell ⟨w.heap.size+1+1,1,none⟩ (.slice A1 n1 c1)) (g:=w.heap.size+1+1+1) (k:=w.heap.size+1+1) aCo (.bool (!b)) (.slice A2 0 c2)).trans (nZ Y2.out true A1 n1 c1);have s3:=nZ s1 (!b) A2 0 c2;refine bodyPost_ret (aA7 rfl _ _ (w.heap.size+1+1) (w.heap.size+1+1+1) 81 _ _ (0,0) (0,0) _ rfl s2 rfl s3 Tryz.underlying81 rfl (by kernel_rfl) (by kernel_rfl)) rfl ?_;exact⟨_,_,_,_,_,_,rfl,sJ (lG (lG HM1.out Y2.out _ _ _ _) s1 _ _ _ _),sJ (lG (lG HM2.out Y2.out _ _ _ _) s1 _ _ _ _),(jL (jL HBW.out aCo _ _) aCo _ _).drew⟩
end Go.Proofs.YtignanmmgaldeaaGreatDoor
namespace Go.Proofs.YtignanmmgaldeaaGreatDoor
open Go.RowKit Go.Shelf Go.Proofs.YtignanmmgaldeaaGreatDoorW.PrintWords
theorem quot_rest(A B:Option Addr)(n m c e:Nat)(xs ys:List Int)(b:Bool)(K:Nat)(w:World)(hx:RI w.heap.size w A n xs)(hy:RI w.heap.size w B m ys)(hc:n≤c)(he:m≤e)(hD:DivH xs ys K)(hz:lval xs%lval ys≠0)(hyl:limbs ys)(hyt:topped ys)(hK:K≤999999)(hmK:m≤K)(hK1:1≤K)(hY0:0<lval ys) :
 Calls Tryz.prog 95 #[.agg #[.bool b,.slice A n c],.agg #[.bool (!b),.slice B m e]] w fun e w'=>∃A1 n1 c1 A2 n2 c2,e= .returned (.tuple #[.agg #[.bool true,.slice A1 n1 c1],.agg #[.bool (!b),.slice A2 n2 c2]])∧Mag w' (.slice A1 n1 c1) (lval xs/lval ys+1) (K+1)∧Mag w' (.slice A2 n2 c2) (lval ys-lval xs%lval ys) (K+1)∧Below w.heap.size w w':=by
 have HX:=Lib.hid hx;have HY:=Lib.hid hy;have HD:=Lib.hid hD;clear hx hy hD;obtain⟨x0,x1,x2,x3,xz,xB⟩:=alloc4 w (.cells #[.bool b,.slice A n c] 81) (.cells #[.bool (!b),.slice B m e] 81) (.cells #[.bool false,.slice none 0 0] 81) (.cells #[.bool false,.slice none 0 0] 81);have HDV:Hid (Calls Tryz.prog 90 #[.slice A n c,.slice B m e] ((((w.alloc (.cells #[.bool b,.slice A n c] 81)).alloc (.cells #[.bool (!b),.slice B m e] 81)).alloc (.cells #[.bool false,.slice none 0 0] 81)).alloc (.cells #[.bool false,.slice none 0 0] 81)) fun E w'=>∃A' n' c' B' m' c2,E= .returned (.tuple #[.slice A' n' c',.slice B' m' c2])∧Mag w' (.slice A' n' c') (lval xs/lval ys) K∧Mag w' (.slice B' m' c2) (lval xs%lval ys) K∧Below ((((w.alloc (.cells #[.bool b,.slice A n c] 81)).alloc (.cells #[.bool (!b),.slice B m e] 81)).alloc (.cells #[.bool false,.slice none 0 0] 81)).alloc (.cells #[.bool false,.slice none 0 0] 81)).heap.size ((((w.alloc (.cells #[.bool b,.slice A n c] 81)).alloc (.cells #[.bool (!b),.slice B m e] 81)).alloc (.cells #[.bool false,.slice none 0 0] 81)).alloc (.cells #[.bool false,.slice none 0 0] 81)) w'):=Lib.hid (HD.out A B n m c e _ ((HX.out.below xB).mono (by rw[xz];omega)) ((HY.out.below xB).mono (by rw[xz];omega)) hc he);have X0:=Lib.hid x0;have X1:=Lib.hid x1;have X2:=Lib.hid x2;have X3:=Lib.hid x3;have XZ:=Lib.hid xz;have XB:=Lib.hid xB;clear x0 x1 x2 x3 xz xB
 have HKG:Hid (∀(g:Nat) (v1:World) (u v:Value),g≠w.heap.size→g≠w.heap.size+1→(v1.cell? ⟨w.heap.size,0,none⟩=some (.bool b)∧v1.cell? ⟨w.heap.size,1,none⟩=some (.slice A n c)∧v1.cell? ⟨w.heap.size+1,0,none⟩=some (.bool (!b))∧v1.cell? ⟨w.heap.size+1,1,none⟩=some (.slice B m e))→((v1.setCell ⟨g,0,none⟩ u).setCell ⟨g,1,none⟩ v).cell? ⟨w.heap.size,0,none⟩=some (.bool b)∧((v1.setCell ⟨g,0,none⟩ u).setCell ⟨g,1,none⟩ v).cell? ⟨w.heap.size,1,none⟩=some (.slice A n c)∧((v1.setCell ⟨g,0,none⟩ u).setCell ⟨g,1,none⟩ v).cell? ⟨w.heap.size+1,0,none⟩=some (.bool (!b))∧((v1.setCell ⟨g,0,none⟩ u).setCell ⟨g,1,none⟩ v).cell? ⟨w.heap.size+1,1,none⟩=some (.slice B m e)):=Lib.hid fun g v1 u v hg0 hg1 ⟨a1,a2,a3,a4⟩=>
  have h (q:Addr) (hq:g≠q.block):((v1.setCell ⟨g,0,none⟩ u).setCell ⟨g,1,none⟩ v).cell? q=v1.cell? q:=(cell_far _ hq).trans (cell_far _ hq)
  ⟨(h _ hg0).trans a1,(h _ hg0).trans a2,(h _ hg1).trans a3,(h _ hg1).trans a4⟩
 go_enter Tryz.func95,Tryz.ntmps95
 go_wp2_with fail
 refine HDV.out.mono ?_;rintro E w1 ⟨A1,n1,c1,A2,n2,c2,rfl,hM1,hM2,hB⟩;have y0:=(hB.block w.heap.size (by rw[XZ.out];omega)).trans X0.out;have y1:=(hB.block (w.heap.size+1) (by rw[XZ.out];omega)).trans X1.out;have y2:=(hB.block (w.heap.size+1+1) (by rw[XZ.out];omega)).trans X2.out;have y3:=(hB.block (w.heap.size+1+1+1) (by rw[XZ.out];omega)).trans X3.out;have kx0:=dG y0 0 _ rfl;have kx1:=dG y0 1 _ rfl;have ky0:=dG y1 0 _ rfl;have ky1:=dG y1 1 _ rfl;have z0:=dG y2 0 _ rfl;have z1:=dG y2 1 _ rfl;have z2:=dV y2 0;have z3:=dV y2 1;have r0:=dG y3 0 _ rfl;have r1:=dG y3 1 _ rfl;have r2:=dV y3 0;have r3:=dV y3 1;have Y1:=Lib.hid y1;have Y2:=Lib.hid y2;have Y3:=Lib.hid y3;have hn2:n2≠0:=fun e0=>hz ((mW hM2).2 e0)
 have hn4:(0:Int)<(n2:Int):=by omega
 have hn3:decide ((0:Int)<(n2:Int))=true:=decide_eq_true hn4;have HM1:=Lib.hid hM1;have HM2:=Lib.hid hM2;have hbw:=XB.out.trans (hB.mono (by rw[XZ.out];omega));have hzw:=hB.size;rw[XZ.out] at hzw;have HBW:=Lib.hid hbw;clear y0 y1 y2 y3 hM1 hM2 hB hbw HDV;go_wp2
 have kd0:w1.cell? ⟨w.heap.size,0,none⟩=some (.bool b)∧w1.cell? ⟨w.heap.size,1,none⟩=some (.slice A n c)∧w1.cell? ⟨w.heap.size+1,0,none⟩=some (.bool (!b))∧w1.cell? ⟨w.heap.size+1,1,none⟩=some (.slice B m e):=⟨kx0,kx1,ky0,ky1⟩;have kd:w1.drew.cell? ⟨w.heap.size,0,none⟩=some (.bool b)∧w1.drew.cell? ⟨w.heap.size,1,none⟩=some (.slice A n c)∧w1.drew.cell? ⟨w.heap.size+1,0,none⟩=some (.bool (!b))∧w1.drew.cell? ⟨w.heap.size+1,1,none⟩=some (.slice B m e):=kd0
 have HKL:Hid (∀o:Obj,(w1.alloc o).cell? ⟨w.heap.size,0,none⟩=some (.bool b)∧(w1.alloc o).cell? ⟨w.heap.size,1,none⟩=some (.slice A n c)∧(w1.alloc o).cell? ⟨w.heap.size+1,0,none⟩=some (.bool (!b))∧(w1.alloc o).cell? ⟨w.heap.size+1,1,none⟩=some (.slice B m e)):=Lib.hid fun o=>by
  have hB:=(Below.refl w1.heap.size w1).alloc (Nat.le_refl _) o;exact⟨(hB.cell (p:=⟨w.heap.size,0,none⟩) (by show w.heap.size<_;omega)).trans kx0,(hB.cell (p:=⟨w.heap.size,1,none⟩) (by show w.heap.size<_;omega)).trans kx1,(hB.cell (p:=⟨w.heap.size+1,0,none⟩) (by show w.heap.size+1<_;omega)).trans ky0,(hB.cell (p:=⟨w.heap.size+1,1,none⟩) (by show w.heap.size+1<_;omega)).trans ky1⟩
 have HKB:Hid (∀v1 v2:World,w.heap.size+1<v1.heap.size→Below v1.heap.size v1 v2→(v1.cell? ⟨w.heap.size,0,none⟩=some (.bool b)∧v1.cell? ⟨w.heap.size,1,none⟩=some (.slice A n c)∧v1.cell? ⟨w.heap.size+1,0,none⟩=some (.bool (!b))∧v1.cell? ⟨w.heap.size+1,1,none⟩=some (.slice B m e))→v2.cell? ⟨w.heap.size,0,none⟩=some (.bool b)∧v2.cell? ⟨w.heap.size,1,none⟩=some (.slice A n c)∧v2.cell? ⟨w.heap.size+1,0,none⟩=some (.bool (!b))∧v2.cell? ⟨w.heap.size+1,1,none⟩=some (.slice B m e)):=Lib.hid fun v1 v2 hl hB ⟨a1,a2,a3,a4⟩=>
  ⟨(hB.cell (p:=⟨w.heap.size,0,none⟩) (by show w.heap.size<_;omega)).trans a1,(hB.cell (p:=⟨w.heap.size,1,none⟩) (by show w.heap.size<_;omega)).trans a2,(hB.cell (p:=⟨w.heap.size+1,0,none⟩) hl).trans a3,(hB.cell (p:=⟨w.heap.size+1,1,none⟩) hl).trans a4⟩
 have hmy:Mag w (.slice B m e) (lval ys) K:=⟨B,m,e,ys,rfl,HY.out,hyl,hyt,he,trivial,hmK,rfl⟩;have hal:Below w1.heap.size w1 (w1.alloc (.cells #[.int .i64 1] 3)).drew:=((Below.refl _ w1).alloc (Nat.le_refl _) _).drew;have HAL:=Lib.hid hal;have HZ1:=Lib.hid (show(w1.alloc (.cells #[.int .i64 1] 3)).drew.heap.size=w1.heap.size+1 from World.size_alloc _ _);have HP:=Lib.hid (plus_mag (.slice A1 n1 c1) (.slice (some ⟨w1.heap.size,0,none⟩) 1 1) (lval xs/lval ys) 1 K (w1.alloc (.cells #[.int .i64 1] 3)).drew (HM1.out.below hal) (sJ (mag_one w1 K hK1)) aCo);have hrY:=Int.emod_lt_of_pos (lval xs) hY0;have HMI:Hid (∀v:World,Below w1.heap.size w1 v→Calls Tryz.prog 175 #[.slice B m e,.slice A2 n2 c2] v fun E w'=>∃A n c,E= .returned (.slice A n c)∧Mag w' (.slice A n c) (lval ys-lval xs%lval ys) K∧Below v.heap.size v w'):=Lib.hid fun v hv=>minus_mag _ _ _ _ K v ((hmy.below HBW.out).below hv) (HM2.out.below hv) aCo aCo
 clear kx0 kx1 ky0 ky1 X0 X1 X2 X3 XZ XB HX HY HD hmy hal hyl hyt hz hrY
 go_region_held3 (fun w'=>w'.cell? ⟨w.heap.size,0,none⟩=some (.bool b)∧w'.cell? ⟨w.heap.size,1,none⟩=some (.slice A n c)∧w'.cell? ⟨w.heap.size+1,0,none⟩=some (.bool (!b))∧w'.cell? ⟨w.heap.size+1,1,none⟩=some (.slice B m e)) (first|assumption|exact HKL.out _) (first
  |(go_at_call 174;refine HP.out.mono ?_;rintro E w2 ⟨A3,n3,c3,rfl,hM3,hB2⟩;have k2:=HKB.out _ _ (by rw[HZ1.out];omega) hB2 (HKL.out _);have hb2:=HAL.out.trans (hB2.mono (by rw[HZ1.out];omega));have hz2:=hb2.size;have HM3:=Lib.hid hM3;have HB2:=Lib.hid hb2;clear hM3 hb2 hB2 HP)
  |(go_at_call 175;refine(HMI.out w2 HB2.out).mono ?_;rintro E w3 ⟨A4,n4,c4,rfl,hM4,hB3⟩;have k3:=HKB.out _ _ aCo hB3 k2;have hb3:=HB2.out.trans (hB3.mono hz2);have hz3:=hb3.size;have HM4:=Lib.hid hM4;have HM5:=Lib.hid (HM3.out.below hB3);have HB3:=Lib.hid hb3;clear hM4 hb3 hB3 HMI))
 have y2:=(HB3.out.block (w.heap.size+1+1) aCo).trans Y2.out;have y3:=(HB3.out.block (w.heap.size+1+1+1) aCo).trans Y3.out;have z0:=dG y2 0 _ rfl;have z1:=dG y2 1 _ rfl;have z2:=dV y2 0;have z3:=dV y2 1;have r0:=dG y3 0 _ rfl;have r1:=dG y3 1 _ rfl;have r2:=dV y3 0;have r3:=dV y3 1;have Z2:=Lib.hid y2;have Z3:=Lib.hid y3;have HBZ:=Lib.hid (HBW.out.trans (HB3.out.mono aCo));have k3':=k3;obtain⟨kx0,kx1,ky0,ky1⟩:=k3';have hz9:w.heap.size+4≤w3.heap.size:=by omega
 clear y2 y3 k2 HKL HKB HAL HZ1 HM1 HM2 HM3 HB2 HB3 HBW Y1 Y2 Y3;go_wp2
 have kd:w3.drew.cell? ⟨w.heap.size,0,none⟩=some (.bool b)∧w3.drew.cell? ⟨w.heap.size,1,none⟩=some (.slice A n c)∧w3.drew.cell? ⟨w.heap.size+1,0,none⟩=some (.bool (!b))∧w3.drew.cell? ⟨w.heap.size+1,1,none⟩=some (.slice B m e):=k3;clear k3 kx0 kx1 ky0 ky1
 go_region_held3 (fun w'=>w'.cell? ⟨w.heap.size,0,none⟩=some (.bool b)∧w'.cell? ⟨w.heap.size,1,none⟩=some (.slice A n c)∧w'.cell? ⟨w.heap.size+1,0,none⟩=some (.bool (!b))∧w'.cell? ⟨w.heap.size+1,1,none⟩=some (.slice B m e)) (first|assumption|exact HKG.out _ _ _ _ aCo aCo (by assumption)) (fail)
 go_wp2
 have s1:=(pI (w:=w3) (g:=w.heap.size+1+1) (k:=w.heap.size+1+1+1) aCo (.bool true) (.slice A3 n3 c3)).trans Z3.out;have s2:=(pI (w:=(w3.setCell ⟨w.heap.size+1+1,0,none⟩ (.bool true)).setCell ⟨w.heap.size+1+1,1,none⟩ (.slice A3 n3 c3)) (g:=w.heap.size+1+1+1) (k:=w.heap.size+1+1) aCo (.bool (!b)) (.slice A4 n4 c4)).trans (nZ Z2.out true A3 n3 c3);have s3:=nZ s1 (!b) A4 n4 c4;refine bodyPost_ret (aA7 rfl _ _ (w.heap.size+1+1) (w.heap.size+1+1+1) 81 _ _ (0,0) (0,0) _ rfl s2 rfl s3 Tryz.underlying81 rfl (by kernel_rfl) (by kernel_rfl)) rfl ?_;exact⟨_,_,_,_,_,_,rfl,sJ (lG (lG HM5.out Z2.out _ _ _ _) s1 _ _ _ _),sJ (lG (lG (HM4.out.more (Nat.le_succ K)) Z2.out _ _ _ _) s1 _ _ _ _),(jL (jL HBZ.out aCo _ _) aCo _ _).drew⟩
theorem aAu(A B:Option Addr)(n m c e:Nat)(xs ys:List Int)(b b2:Bool)(K:Nat)(w:World)(hx:RI w.heap.size w A n xs)(hy:RI w.heap.size w B m ys)(hc:n≤c)(he:m≤e)(hD:DivH xs ys K)(hxl:limbs xs)(hyl:limbs ys)(hyt:topped ys)(hK:K≤999999)(hmK:m≤K)(hK1:1≤K)(hY0:0<lval ys) :
 Calls Tryz.prog 95 #[.agg #[.bool b,.slice A n c],.agg #[.bool b2,.slice B m e]] w fun E w'=>∃d1 A1 n1 c1 d2 A2 n2 c2,E= .returned (.tuple #[.agg #[.bool d1,.slice A1 n1 c1],.agg #[.bool d2,.slice A2 n2 c2]])∧NumV w' (.agg #[.bool d1,.slice A1 n1 c1]) (Int.fdiv (if b=true then -lval xs else lval xs) (if b2=true then -lval ys else lval ys)) (K+1)∧NumV w' (.agg #[.bool d2,.slice A2 n2 c2]) (Int.fmod (if b=true then -lval xs else lval xs) (if b2=true then -lval ys else lval ys)) (K+1)∧Below w.heap.size w w':=by
 have hX0:=lX hxl
 by_cases hb:b2=b
 ·subst hb
  obtain⟨q1,q2⟩:=fdiv_same b2 (lval xs) (lval ys) hX0 hY0;rw[q1,q2];refine(quot_same A B n m c e xs ys b2 K w hx hy hc he hD).mono ?_;rintro E w' ⟨A1,n1,c1,A2,n2,c2,rfl,h1,h2,hB⟩;exact⟨_,_,_,_,_,_,_,_,rfl,⟨_,_,_,rfl,h1.more (Nat.le_succ K),rfl⟩,⟨_,_,_,rfl,h2.more (Nat.le_succ K),rfl⟩,hB⟩
 ·obtain rfl:b2 = !b:=by cases b <;> cases b2 <;> simp_all
  obtain⟨q1,q2⟩:=fdiv_other b (lval xs) (lval ys) hX0 hY0;rw[q1,q2]
  by_cases hz:lval xs%lval ys=0
  ·rw[if_pos hz,if_pos hz]
   refine(quot_zero A B n m c e xs ys b K w hx hy hc he hD hz).mono ?_;rintro E w' ⟨A1,n1,c1,A2,n2,c2,rfl,h1,h2,hB⟩;rw[hz] at h2;exact⟨_,_,_,_,_,_,_,_,rfl,⟨_,_,_,rfl,h1.more (Nat.le_succ K),rfl⟩,⟨_,_,_,rfl,h2.more (Nat.le_succ K),rfl⟩,hB⟩
  ·rw[if_neg hz,if_neg hz]
   refine(quot_rest A B n m c e xs ys b K w hx hy hc he hD hz hyl hyt hK hmK hK1 hY0).mono ?_;rintro E w' ⟨A1,n1,c1,A2,n2,c2,rfl,h1,h2,hB⟩;exact⟨_,_,_,_,_,_,_,_,rfl,⟨_,_,_,rfl,h1,rfl⟩,⟨_,_,_,rfl,h2,rfl⟩,hB⟩
end Go.Proofs.YtignanmmgaldeaaGreatDoor
end
