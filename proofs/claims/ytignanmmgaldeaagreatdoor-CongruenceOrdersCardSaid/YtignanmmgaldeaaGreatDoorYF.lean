/- Lemmas for the proof. -/
import Derived.Test.YtignanmmgaldeaaGreatDoorYE
import Derived.Test.YtignanmmgaldeaaGreatDoorYD
import Derived.Lib.AppendIntMem
section
set_option linter.unusedVariables false
set_option linter.unusedSimpArgs false
set_option maxHeartbeats 4000000
set_option maxRecDepth 100000
namespace Go.Proofs.YtignanmmgaldeaaGreatDoor
open Go.RowKit Go.Shelf Go.Proofs.YtignanmmgaldeaaGreatDoorW.PrintWords
theorem aE7:(Tryz.prog.info? 131).map (·.size)=some 2:=by kernel_rfl
theorem lies_builder:liesAt Tryz.prog Tryz.prog.depth 131 (2/Tryz.prog.cellsOf 131) 0 131 1=true:=by kernel_rfl
theorem info_byte:(Tryz.prog.info? 5).map (fun i=>(i.zero,i.size,i.bytes))=some (some (.int .u8 0),1,1):=by kernel_rfl
theorem aFu(b:Nat)(w:World)(h0:w.cell? ⟨b,0,none⟩=some (.pointer (some ⟨b,0,none⟩))) :
 Calls Tryz.prog 196 #[.pointer (some ⟨b,0,none⟩)] w fun e w'=>e= .returned (.tuple #[])∧w'=w:=by
 obtain⟨j,hj,_⟩:=Option.map_eq_some_iff.1 aE7;go_enter Tryz.func196,Tryz.ntmps196
 go_wp2
 rw[Lib.run_neq_ptr_same w _ Tryz.underlying128 hj];go_wp2
 go_end0
 exact⟨rfl,rfl⟩
theorem aF9(b:Nat)(w:World)(h0:w.cell? ⟨b,0,none⟩=some (.pointer none))(hsh:w.shape? b=some (131,2))(hfz:w.frozen? ⟨b,0,none⟩=false) :
 Calls Tryz.prog 196 #[.pointer (some ⟨b,0,none⟩)] w fun e w'=>e= .returned (.tuple #[])∧w'=w.setCell ⟨b,0,none⟩ (.pointer (some ⟨b,0,none⟩)):=by
 obtain⟨j,hj,hjs⟩:=Option.map_eq_some_iff.1 aE7;go_enter Tryz.func196,Tryz.ntmps196
 go_wp2
 rw[Lib.run_to_unsafe w ⟨b,0,none⟩ Tryz.underlying128 Tryz.underlying171 hj (by rw[hjs];decide) hsh (Nat.zero_lt_succ 1)];simp only[Result.andThen];rw[Oper.upon_value];go_wp2
 rw[run_callFunc_extern Tryz.func216 (by kernel_rfl) (by kernel_rfl) (by kernel_rfl) (e:=Extern.AbiNoEscape.same) (by kernel_rfl)];rw[Lib.run_noEscape];simp only[Result.andThen];rw[Oper.upon_value];go_wp2
 rw[Lib.run_from_unsafe w ⟨b,0,none⟩ Tryz.underlying171 Tryz.underlying128 hj hsh lies_builder];simp only[Result.andThen];rw[Oper.upon_value];go_wp2
 go_end0
 exact⟨rfl,rfl⟩
theorem rV{w:World}{b:Nat}{o:Obj}(h:w.heap[b]? =some o):b<w.heap.size:=(Array.getElem?_eq_some_iff.1 h).1
def Buf(R b:Nat)(bs:List Value)(W:World):Prop:=
 ∃p v,W.heap[b]? =some (.cells #[p,v] 131 (0,0))∧(p= .pointer none∨p= .pointer (some ⟨b,0,none⟩))∧W.ownsRow R 5 1 v bs.length bs∧v.ownBlock≠some b
structure Touch(R b:Nat)(W W':World):Prop where
 os:W'.os=W.os
 tape:W'.tape=W.tape
 output:W'.output=W.output
 size:W.heap.size≤W'.heap.size
 same:∀(k:Nat) (o:Obj),W.heap[k]? =some o→k≠b→(k<R∨∀cs,o≠ .cells cs 5 (0,0))→W'.heap[k]? =some o
theorem Touch.refl(R b:Nat)(W:World):Touch R b W W:=⟨rfl,rfl,rfl,Nat.le_refl _,fun _ _ h _ _=>h⟩
theorem Touch.trans{R b:Nat}{X Y Z:World}(h:Touch R b X Y)(k:Touch R b Y Z):Touch R b X Z:=
 ⟨k.os.trans h.os,k.tape.trans h.tape,k.output.trans h.output,Nat.le_trans h.size k.size,fun i o hi hb hc=>k.same i o (h.same i o hi hb hc) hb hc⟩
theorem Touch.of_below{R b:Nat}{X Y:World}(h:Below X.heap.size X Y):Touch R b X Y:=⟨h.os,h.tape,h.output,h.size,fun k o hk _ _=>(h.block k (rV hk)).trans hk⟩
theorem Touch.setCell{R b:Nat}(X:World)(o:Nat)(v:Value):Touch R b X (X.setCell ⟨b,o,none⟩ v):=
 ⟨rfl,rfl,rfl,by simp[World.setCell],fun k ob hk hb _=>(Below.heap_setCell X ⟨b,o,none⟩ v k hb).trans hk⟩
theorem Touch.alloc{R b:Nat}(X:World)(o:Obj):Touch R b X (X.alloc o):=⟨rfl,rfl,rfl,by simp,fun k ob hk _ _=>(Below.heap_alloc X o k (rV hk)).trans hk⟩
theorem Touch.grown{R b:Nat}{X Y:World}{row:Option Nat}(hg:X.grownBy Y row)(hrow:∀k,row=some k→R≤k∧∃cs,X.heap[k]? =some (.cells cs 5 (0,0))):Touch R b X Y:=
 ⟨hg.os,hg.tape,hg.output,hg.size,fun k o hk _ hc=>(hg.block k (rV hk) (fun e=>by
   obtain⟨h1,cs,h2⟩:=hrow k e.symm;rcases hc with h|h
   ·omega
   ·rw[hk] at h2;cases h2;exact h _ rfl)).trans hk⟩
theorem Touch.below{R b B:Nat}{X Y:World}(h:Touch R b X Y)(hb:B≤b)(hR:B≤R)(hX:B≤X.heap.size):Below B X Y:=
 ⟨h.os,h.tape,h.output,h.size,fun k hk=>by
   obtain⟨o,ho⟩:∃o,X.heap[k]? =some o:=⟨_,Array.getElem?_eq_getElem aFx⟩
   rw[ho];exact h.same k o ho aFx (Or.inl aFx)⟩
theorem Touch.others{R b:Nat}{X Y:World}(h:Touch R b X Y){cs:Array Value}{t:TypeId}{fr:Nat×Nat}(hb:X.heap[b]? =some (.cells cs t fr)):KeepsOthers X Y:=
 ⟨h.size,fun k o hk hc=>h.same k o hk (fun e=>by subst e;rw[hb] at hk;cases hk;simp[Obj.isCells] at hc) (Or.inr fun cs e=>by subst e;simp[Obj.isCells] at hc)⟩
theorem Touch.keep{R b B:Nat}{X Y:World}(h:Touch R b X Y)(hb:B≠b){cs:Array Value}{t:TypeId}{fr:Nat×Nat}(hc:X.heap[B]? =some (.cells cs t fr))(ht:t≠5):Y.heap[B]? =some (.cells cs t fr):=h.same B _ hc hb (Or.inr fun cs' e=>by cases e;exact ht rfl)
theorem Touch.keepB{R b B:Nat}{X Y:World}(h:Touch R b X Y)(hb:B≠b){cs:Array Value}{t:TypeId}{fr:Nat×Nat}(hc:X.heap[B]? =some (.cells cs t fr))(ht:t≠5):mP B X Y:=⟨fun o ho=>by rw[hc] at ho;cases ho;exact h.keep hb hc ht⟩
theorem aEk{X Y:World}{row:Option Nat}{B:Nat}{cs:Array Value}{t:TypeId}{fr:Nat×Nat}(hc:X.heap[B]? =some (.cells cs t fr))(hg:X.grownBy Y row)(hr:∀r,row=some r→∃o:Obj,X.heap[r]? =some o∧o.isCells=false):Y.heap[B]? =some (.cells cs t fr):=
 (hg.block B (rV hc) (fun e=>by
   obtain⟨o,ho,hf⟩:=hr B e.symm
   rw[hc] at ho;cases ho;simp[Obj.isCells] at hf)).trans hc
theorem Buf.lt{R b:Nat}{bs:List Value}{W:World}(h:Buf R b bs W):b<W.heap.size:=by
 obtain⟨p,v,h1,_⟩:=h;exact rV h1
theorem Buf.others{R b:Nat}{bs:List Value}{X Y:World}(h:Buf R b bs X)(k:Touch R b X Y):KeepsOthers X Y:=by
 obtain⟨p,v,h1,_⟩:=h;exact k.others h1
theorem own_row{R:Nat}{v:Value}{n:Nat}{xs:List Value}{W:World}(h:W.ownsRow R 5 1 v n xs)(k:Nat)(hk:v.ownBlock=some k):R≤k∧∃cs,W.heap[k]? =some (.cells cs 5 (0,0)):=by
 obtain⟨cells,hc⟩:=aBh h k hk;exact⟨own_base h k hk,_,hc⟩
theorem Buf.below{R b:Nat}{bs:List Value}{X Y:World}(h:Buf R b bs X)(k:Below X.heap.size X Y):Buf R b bs Y:=by
 obtain⟨p,v,h1,h2,h3,h4⟩:=h;refine⟨p,v,(k.block b (rV h1)).trans h1,h2,aC3 h3 (fun j hj=> ?_),h4⟩;obtain⟨_,cs,hc⟩:=own_row h3 j hj;exact k.block j (rV hc)
theorem Buf.grown{R b:Nat}{bs:List Value}{X Y:World}{row:Option Nat}(h:Buf R b bs X)(hg:X.grownBy Y row)(hr:∀r,row=some r→∃o:Obj,X.heap[r]? =some o∧o.isCells=false):Buf R b bs Y:=by
 obtain⟨p,v,h1,h2,h3,h4⟩:=h
 have keep:∀(j:Nat) (cs:Array Value) (t:TypeId) (fr:Nat×Nat),X.heap[j]? =some (.cells cs t fr)→Y.heap[j]? =X.heap[j]? :=fun j cs t fr hc=>hg.block j (rV hc) (fun e=>by
  obtain⟨o,ho,hf⟩:=hr j e.symm
  rw[hc] at ho;cases ho;simp[Obj.isCells] at hf)
 refine⟨p,v,(keep b _ _ _ h1).trans h1,h2,aC3 h3 (fun j hj=> ?_),h4⟩;obtain⟨_,cs,hc⟩:=own_row h3 j hj;exact keep j _ _ _ hc
theorem Buf.put{R b:Nat}{bs:List Value}{v v':Value}{W:World}{n:Nat}(hb:W.heap[b]? =some (.cells #[.pointer (some ⟨b,0,none⟩),v] 131 (0,0)))(ho:W.ownsRow R 5 1 v' n bs)(hn:n=bs.length):Buf R b bs (W.setCell ⟨b,1,none⟩ v'):=by
 subst hn
 have hne:v'.ownBlock≠some b:=fun e=>by
  obtain⟨cells,hc⟩:=aBh ho b e;rw[hb] at hc
  injection hc with hc
  injection hc with _ hc
  exact absurd hc aG0
 exact⟨_,v',iR (cs:=#[.pointer (some ⟨b,0,none⟩),v]) hb 1 v' rfl,Or.inr rfl,aC3 ho (fun k hk=>Below.heap_setCell W ⟨b,1,none⟩ v' k (fun e=>hne (by rw[hk];exact congrArg some e))),hne⟩
theorem aD1(R b:Nat)(bs:List Value)(w:World)(h:Buf R b bs w) :
 Calls Tryz.prog 196 #[.pointer (some ⟨b,0,none⟩)] w fun e w'=>e= .returned (.tuple #[])∧∃v,w'.heap[b]? =some (.cells #[.pointer (some ⟨b,0,none⟩),v] 131 (0,0))∧w'.ownsRow R 5 1 v bs.length bs∧v.ownBlock≠some b∧Touch R b w w':=by
 obtain⟨p,v,h1,h2,h3,h4⟩:=h;have c0:w.cell? ⟨b,0,none⟩=some p:=by rw[Lib.cell_of_heap h1];rfl
 rcases h2 with rfl|rfl
 ·refine(aF9 b w c0 (by simp[World.shape?,h1]) (Lib.frozen_of_heap h1 0)).mono ?_
  rintro e w' ⟨rfl,rfl⟩;exact⟨rfl,v,iR (cs:=#[.pointer none,v]) h1 0 _ rfl,aC3 h3 (fun k hk=>Below.heap_setCell w ⟨b,0,none⟩ _ k (fun e=>h4 (by rw[hk];exact congrArg some e))),h4,Touch.setCell _ _ _⟩
 ·refine(aFu b w c0).mono ?_
  rintro e w' ⟨rfl,rfl⟩;exact⟨rfl,v,h1,h3,h4,Touch.refl _ _ _⟩
theorem row_slice{R n:Nat}{v:Value}{w:World}{xs:List Value}(h:w.ownsRow R 5 1 v n xs):∃ao m cap,v= .slice ao m cap:=by
 rcases h.2 with ⟨rfl,_⟩|⟨g,cap,cur,rfl,_⟩
 ·exact⟨_,_,_,rfl⟩
 ·exact⟨_,_,_,rfl⟩
theorem aFv(R b:Nat)(bs:List Value)(c:Int)(w:World)(h:Buf R b bs w)(hlen:bs.length+1≤140737488355328)(hR:R≤w.heap.size) :
 Calls Tryz.prog 165 #[.pointer (some ⟨b,0,none⟩),.int .u8 c] w fun e w'=>e= .returned .nilIface∧(Buf R b (bs++ [.int .u8 c]) w'∧Touch R b w w'):=by
 obtain⟨ib,hi,hz0,hz1,hz2⟩:=info_parts info_byte;have HC:=Lib.hid (fun w h=>aD1 R b bs w h);have Hh:=Lib.hid h;clear h;go_enter Tryz.func165,Tryz.ntmps165
 go_wp2_with(go_at_call 196;refine(HC.out _ Hh.out).mono ?_)
 rintro e w1 ⟨rfl,v,hbk,hown,hne,hb1⟩;have c0:w1.cell? ⟨b,0,none⟩=some (.pointer (some ⟨b,0,none⟩)):=by rw[Lib.cell_of_heap hbk];rfl
 have c1:w1.cell? ⟨b,1,none⟩=some v:=by rw[Lib.cell_of_heap hbk];rfl
 have l9:=hb1.size;have hlt:=rV hbk
 go_wp2_with(at_builtin;refine wpList_append_own _ rfl _ _ 129 rfl R 5 ib (.int .u8 0) 1 1 Tryz.underlying129 hi hz0 hz1 hz2 rfl aG0 _ _ _ rfl (hown.alloc _) ⟨w1.heap.size,0,none⟩ 1 1 [.int .u8 c] rfl rfl ?cells ?one ?fits ?bytes ?base ?_)
 case cells=>
  intro j u hj
  match j,hj with
  |0,hj=>simp at hj;subst hj;simp[Addr.add]
 case one=>intro u hu;simp at hu;subst hu;rfl
 case fits=>unfold maxLen;omega
 case bytes=>omega
 case base=>simp;omega
 intro v' w2 hown' hgrow _
 have hb2:w2.heap[b]? =some (.cells #[.pointer (some ⟨b,0,none⟩),v] 131 (0,0)):=by
  rw[hgrow.block b (by simp;omega) (fun e=>hne e.symm),Lib.alloc_old w1 _ b hlt];exact hbk
 have d0:w2.cell? ⟨b,0,none⟩=some (.pointer (some ⟨b,0,none⟩)):=by rw[Lib.cell_of_heap hb2];rfl
 have d1:w2.cell? ⟨b,1,none⟩=some v:=by rw[Lib.cell_of_heap hb2];rfl
 have f1:w2.frozen? ⟨b,1,none⟩=false:=Lib.frozen_of_heap hb2 1;obtain⟨ao,m,cap,rfl⟩:=row_slice hown';go_wp2
 go_ret
 refine⟨rfl,Buf.put hb2 hown' aFz,((hb1.trans (Touch.alloc _ _)).trans (Touch.grown hgrow (fun k hk=> ?_))).trans (Touch.setCell _ _ _)⟩;obtain⟨h1,cs,h2⟩:=own_row hown k hk;exact⟨h1,cs,(Below.heap_alloc _ _ _ (rV h2)).trans h2⟩
theorem qE(R b:Nat)(bs:List Value)(s:ByteArray)(w:World)(h:Buf R b bs w)(hlen:bs.length+s.size≤140737488355328)(hR:R≤w.heap.size) :
 Calls Tryz.prog 168 #[.pointer (some ⟨b,0,none⟩),.string s] w fun e w'=>e= .returned (.tuple #[.int .i64 s.size,.nilIface])∧(Buf R b (bs++Lib.strCells s) w'∧Touch R b w w'):=by
 obtain⟨ib,hi,hz0,hz1,hz2⟩:=info_parts info_byte;have HC:=Lib.hid (fun w h=>aD1 R b bs w h);have Hh:=Lib.hid h;clear h;go_enter Tryz.func168,Tryz.ntmps168
 go_wp2_with(go_at_call 196;refine(HC.out _ Hh.out).mono ?_)
 rintro e w1 ⟨rfl,v,hbk,hown,hne,hb1⟩;have c0:w1.cell? ⟨b,0,none⟩=some (.pointer (some ⟨b,0,none⟩)):=by rw[Lib.cell_of_heap hbk];rfl
 have c1:w1.cell? ⟨b,1,none⟩=some v:=by rw[Lib.cell_of_heap hbk];rfl
 have l9:=hb1.size;have hlt:=rV hbk
 go_wp2_with(at_builtin;refine Lib.wpList_append_own_string _ rfl _ _ 129 9 rfl R 5 ib Tryz.underlying129 Tryz.underlying9 hi hz0 hz1 hz2 _ _ _ rfl hown s rfl ?fits ?bytes ?base ?_)
 case fits=>unfold maxLen;omega
 case bytes=>omega
 case base=>omega
 intro v' w2 hown' hgrow _
 have hb2:w2.heap[b]? =some (.cells #[.pointer (some ⟨b,0,none⟩),v] 131 (0,0)):=by
  rw[hgrow.block b hlt (fun e=>hne e.symm)];exact hbk
 have d0:w2.cell? ⟨b,0,none⟩=some (.pointer (some ⟨b,0,none⟩)):=by rw[Lib.cell_of_heap hb2];rfl
 have d1:w2.cell? ⟨b,1,none⟩=some v:=by rw[Lib.cell_of_heap hb2];rfl
 have f1:w2.frozen? ⟨b,1,none⟩=false:=Lib.frozen_of_heap hb2 1;obtain⟨ao,m,cap,rfl⟩:=row_slice hown';go_wp2
 go_ret2
 exact⟨rfl,Buf.put hb2 hown' (by simp[Lib.strCells_length]),(hb1.trans (Touch.grown hgrow (fun k hk=>own_row hown k hk))).trans (Touch.setCell _ _ _)⟩
theorem Buf.is{R b B:Nat}{bs:List Value}{W:World}(h:Buf R b bs W)(hb:B≤b)(hR:B≤R):Lib.IsBuilder 131 5 B b bs W:=by
 obtain⟨p,v,h1,h2,h3,h4⟩:=h;rcases h2 with rfl|rfl
 ·exact .inl ⟨hb,v,h1,aD9 h3 hR,h4⟩
 ·exact .inr ⟨hb,v,h1,aD9 h3 hR,h4⟩
theorem Buf.fresh{R b:Nat}{W:World}(h:W.heap[b]? =some (.cells #[.pointer none,.slice none 0 0] 131 (0,0))):Buf R b [] W:=
 ⟨_,_,h,Or.inl rfl,⟨by simp,.inl ⟨rfl,rfl⟩⟩,by simp[Value.ownBlock]⟩
end Go.Proofs.YtignanmmgaldeaaGreatDoor
namespace Go.Proofs.YtignanmmgaldeaaGreatDoor
open Go.RowKit Go.Shelf Go.Proofs.YtignanmmgaldeaaGreatDoorW.PrintWords
attribute [local go_sem] Oper.semAt_some
def GW(w:World):Prop:=Lib.TabIs Tryz.prog w "internal/strconv.uint64pow10" .u64 Lib.pow10Tab
theorem GW.below{w w':World}(h:GW w)(hb:Below w.heap.size w w'):GW w':=Lib.tabBelow_of_tabIs h w' hb
theorem aCj(n:Int)(h0: -9223372036854775808≤n)(h1:n≤9223372036854775807)(w:World)(hG:GW w) :
 Calls Tryz.prog 167 #[.int .i64 n] w fun e w'=>e= .returned (.string ⟨(Lib.itoa n).toArray⟩)∧Below w.heap.size w w':=
 (Any.strconv_Itoa layM171 n h0 h1 w hG).mono fun e w' ⟨he,k,os,hw⟩=>⟨he,by rw[hw];exact Lib.below_grow _ w (Nat.le_refl _) k os⟩
def lastD:Nat→Nat→List UInt8
 |0,_=> []
 |m+1,x=>lastD m (x/10)++ [UInt8.ofNat (48+x%10)]
theorem aFa:∀m,lastD m 0=List.replicate m 48
 |0=>rfl
 |m+1=>by rw[lastD,aFa m,List.replicate_succ'];rfl
theorem dec_lastD(v:Nat)(hv:v≠0):∀m x,x<10 ^ m→Lib.decDigits (v*10 ^ m+x)=Lib.decDigits v++lastD m x
 |0,x,h=>by
  have:x=0:=by simpa using h
  subst this;simp[lastD]
 |m+1,x,h=>by
  have hx:x/10<10 ^ m:=by rw[Nat.pow_succ] at h;omega
  have e:v*10 ^ (m+1)+x=(v*10 ^ m+x/10)*10+x%10:=by
   rw[Nat.pow_succ,←Nat.mul_assoc];omega
  have hp:0<10 ^ m:=Nat.pow_pos aFx
  have hne:v*10 ^ m+x/10≠0:=by
   have:1*10 ^ m≤v*10 ^ m:=Nat.mul_le_mul_right _ aFx;omega
  rw[e,aD0 _ _ hne (Nat.mod_lt _ aFx),dec_lastD v hv m _ hx,lastD,List.append_assoc]
theorem aDf:∀m x,x<10 ^ m→0<m→(Lib.decDigits x).length≤m
 |0,_,_,h=>by omega
 |m+1,x,hx,_=>by
  by_cases h:x<10
  ·rw[kJ h];simp
  ·have h1:x/10<10 ^ m:=by rw[Nat.pow_succ] at hx;omega
   have h2:0<m:=by
    rcases Nat.eq_zero_or_pos m with e|e
    ·subst e;simp at h1;omega
    ·exact e
   have:=aDf m _ h1 h2;rw[pR h];simp;omega
theorem lastD_pad:∀m x,x<10 ^ m→0<m→lastD m x=List.replicate (m-(Lib.decDigits x).length) 48++Lib.decDigits x
 |0,_,_,h=>by omega
 |m+1,x,hx,_=>by
  by_cases h:x<10
  ·rw[kJ h,lastD,show x/10=0 from by omega,aFa,show x%10=x from by omega];rfl
  ·have h1:x/10<10 ^ m:=by rw[Nat.pow_succ] at hx;omega
   have h2:0<m:=by
    rcases Nat.eq_zero_or_pos m with e|e
    ·subst e;simp at h1;omega
    ·exact e
   have hl:=aDf m _ h1 h2;rw[pR h,lastD,lastD_pad m _ h1 h2,List.append_assoc]
   congr 2
   simp
theorem itoa_nat(x:Int)(h:0≤x):Lib.itoa x=Lib.decDigits x.toNat:=by unfold Lib.itoa;rw[if_neg aFx]
def padT(xs:List Int)(n i:Nat):List UInt8:=(if i+1<n then List.replicate (9-(Lib.itoa (xs[i]?.getD 0)).length) 48 else[])++Lib.itoa (xs[i]?.getD 0)
def sgnT(d:Bool):List UInt8:=if d=true then[45] else[]
def cont(d:Bool)(xs:List Int)(n:Nat)(pre:List (Fin n)):List UInt8:=sgnT d++pre.flatMap fun i=>padT xs n i.val
theorem cont_snoc(d:Bool)(xs:List Int)(n:Nat)(pre:List (Fin n))(x:Fin n):cont d xs n (pre++ [x])=cont d xs n pre++padT xs n x.val:=by simp[cont]
theorem aC9{xs:List Int}(hx:limbs xs)(i:Nat):(Lib.itoa (xs[i]?.getD 0)).length≤9:=by
 have h:=hx i;rw[itoa_nat _ h.1];exact aDf 9 _ (by rw[show(10:Nat) ^ 9=1000000000 from by decide];omega) aFx
theorem padT_len{xs:List Int}(hx:limbs xs)(n i:Nat):(padT xs n i).length≤9:=by
 have:=aC9 hx i;unfold padT
 split <;> simp <;> omega
theorem cont_len{xs:List Int}(hx:limbs xs)(d:Bool)(n:Nat):∀pre:List (Fin n),(cont d xs n pre).length≤1+9*pre.length:=by
 intro pre;unfold cont sgnT;rw[List.length_append];have h1:(if d=true then[(45:UInt8)] else[]).length≤1:=by split <;> simp
 have h2:(pre.flatMap fun i=>padT xs n i.val).length≤9*pre.length:=by
  induction pre with
  |nil=>simp
  |cons i l ih=>
   have:=padT_len hx n i.val;rw[List.flatMap_cons,List.length_append,List.length_cons];omega
 omega
def topV(xs:List Int)(n:Nat):Nat→Nat
 |0=>0
 |k+1=>topV xs n k*1000000000+(xs[n-1-k]?.getD 0).toNat
theorem topV_val{xs:List Int}(hx:limbs xs)(n:Nat)(hn:xs.length=n):∀k,k≤n→(topV xs n k:Int)*1000000000 ^ (n-k)+pval xs (n-k)=lval xs
 |0,_=>by simp[topV,lval,hn]
 |k+1,h=>by
  have ih:=topV_val hx n hn k aFx;have h1:=hx (n-1-k);rw[show n-k=(n-(k+1))+1 from by omega,nI,pval] at ih;rw[show n-(k+1)=n-1-k from by omega] at ih ⊢;rw[topV]
  have e:(((topV xs n k*1000000000+(xs[n-1-k]?.getD 0).toNat:Nat)):Int)=(topV xs n k:Int)*1000000000+xs[n-1-k]?.getD 0:=by
   rw[Int.natCast_add,Int.natCast_mul,Int.toNat_of_nonneg h1.1];rfl
  rw[e,Int.add_mul,Int.mul_assoc];omega
theorem aDg{xs:List Int}(hx:limbs xs)(ht:topped xs)(n:Nat)(hn:xs.length=n):∀k,0<k→k≤n→topV xs n k≠0∧(bwl n k).flatMap (fun i=>padT xs n i.val)=Lib.decDigits (topV xs n k)
 |0,h,_=>by omega
 |k+1,_,hk=>by
  have h1:=hx (n-1-k);rw[uH n k aFx,List.flatMap_append];rcases Nat.eq_zero_or_pos k with e|e
  ·subst e
   have h2:xs[n-1]?.getD 0≠0:=by
    rcases ht with h|h
    ·omega
    ·rwa [hn] at h
   simp only[bwl,List.flatMap_nil,List.nil_append,List.flatMap_cons,List.append_nil,topV,Nat.zero_mul,Nat.zero_add,Nat.sub_zero] at h1 ⊢;refine⟨by omega,?_⟩;rw[padT,if_neg aFx,List.nil_append,itoa_nat _ h1.1]
  ·obtain⟨i1,i2⟩:=aDg hx ht n hn k e aFx
   have hlt:(xs[n-1-k]?.getD 0).toNat<10 ^ 9:=by rw[show(10:Nat) ^ 9=1000000000 from by decide];omega
   refine⟨by rw[topV];omega,?_⟩;rw[i2,topV,show(1000000000:Nat)=10 ^ 9 from by decide,dec_lastD _ i1 9 _ hlt,lastD_pad 9 _ hlt aFx]
   congr 1
   simp only[List.flatMap_cons,List.flatMap_nil,List.append_nil];rw[padT,if_pos aFx,itoa_nat _ h1.1]
theorem cont_all{xs:List Int}(hx:limbs xs)(ht:topped xs)(n:Nat)(hn:xs.length=n)(h0:0<n)(d:Bool):cont d xs n (bwl n n)=Lib.itoa (if d=true then -lval xs else lval xs):=by
 obtain⟨h1,h2⟩:=aDg hx ht n hn n h0 (Nat.le_refl _);have hv:=topV_val hx n hn n (Nat.le_refl _);rw[Nat.sub_self] at hv;simp only[Int.pow_zero,Int.mul_one,pval,Int.add_zero] at hv;rw[cont,h2,←hv];unfold Lib.itoa sgnT
 cases d
 ·simp only[Bool.false_eq_true,if_false];rw[if_neg aFx];rfl
 ·simp only[if_true];rw[if_pos aFx];simp
theorem rep_zero:∀c,Lib.repeatL [48] c=List.replicate c 48
 |0=>rfl
 |c+1=>by rw[Lib.repeatL,rep_zero c];rfl
theorem text_zero(d:Bool)(A:Option Addr)(c:Nat)(w:World) :
 Calls Tryz.prog 88 #[.agg #[.bool d,.slice A 0 c]] w fun e w'=>e= .returned (.string ⟨#[48]⟩)∧Below w.heap.size w w':=by
 go_enter Tryz.func88,Tryz.ntmps88
 go_wp2
 go_ret
 exact⟨rfl,(Below.refl _ w).alloc (Nat.le_refl _) _⟩
theorem text_pos(A:Option Addr)(n c:Nat)(xs:List Int)(w:World)(hx:RI w.heap.size w A n xs)(hxl:limbs xs)(hn:n≤1000000)(h0:0<n)(hG:GW w) :
 Calls Tryz.prog 88 #[.agg #[.bool false,.slice A n c]] w fun e w'=>e= .returned (.string ⟨(cont false xs n (bwl n n)).toArray⟩)∧Below w.heap.size w w':=by
 have hmax:=hx.2.1;refine(callsIn_wide (n:=8)).1 ?_;have hro:Fence.wide.round=none:=rfl;have h1:1≤8:=by omega
 refine callsIn_of_wp_marks Tryz.func88 rfl trivial ?_ hro;simp only[Tryz.ntmps88,List.size_toArray,List.length_cons,List.length_nil,Nat.reduceAdd,Nat.reduceSub,Array.replicate_succ,Array.replicate_zero,List.push_toArray,List.append_toArray,List.nil_append,List.cons_append];have HX:=Lib.hid hx;have HL:=Lib.hid hxl;have HG:=Lib.hid hG;have hn1:((n:Int)==0)=false:=by simp;omega
 have hn2:¬(n:Int)=0:=by omega
 clear hx hxl hG
 gi_wp2_with (refine⟨trivial,?_⟩;gi_at_call 166;refine(bwd_in Fence.wide (8-1) trivial hro _ _ _ _).mono ?_;rintro e w' ⟨rfl,rfl⟩)
 have bX:(((w.alloc (.cells #[.bool false,.slice A n c] 81)).alloc (.cells #[.pointer none,.slice none 0 0] 131)).alloc (.cells #[.slice A n c] 79)).heap[w.heap.size]? =some (.cells #[.bool false,.slice A n c] 81):=(Below.heap_alloc _ _ _ (by simp;omega)).trans ((Below.heap_alloc _ _ _ aFz).trans (World.alloc_heap_new w _))
 have bB:(((w.alloc (.cells #[.bool false,.slice A n c] 81)).alloc (.cells #[.pointer none,.slice none 0 0] 131)).alloc (.cells #[.slice A n c] 79)).heap[w.heap.size+1]? =some (.cells #[.pointer none,.slice none 0 0] 131):=(Below.heap_alloc _ _ _ aFz).trans (by
  have:=World.alloc_heap_new (w.alloc (.cells #[.bool false,.slice A n c] 81)) (.cells #[.pointer none,.slice none 0 0] 131)
  rwa [World.size_alloc] at this)
 have bS:=Boxed.new ((w.alloc (.cells #[.bool false,.slice A n c] 81)).alloc (.cells #[.pointer none,.slice none 0 0] 131)) 79 (.slice A n c);simp only[World.size_alloc] at bS;have hB0:Below w.heap.size w (((w.alloc (.cells #[.bool false,.slice A n c] 81)).alloc (.cells #[.pointer none,.slice none 0 0] 131)).alloc (.cells #[.slice A n c] 79)):=(((Below.refl _ w).alloc (Nat.le_refl _) _).alloc aFz _).alloc (by simp;omega) _;have hsz:(((w.alloc (.cells #[.bool false,.slice A n c] 81)).alloc (.cells #[.pointer none,.slice none 0 0] 131)).alloc (.cells #[.slice A n c] 79)).heap.size=w.heap.size+3:=by simp
 obtain⟨W0,hW0⟩:∃W0,(((w.alloc (.cells #[.bool false,.slice A n c] 81)).alloc (.cells #[.pointer none,.slice none 0 0] 131)).alloc (.cells #[.slice A n c] 79))=W0:=⟨_,rfl⟩
 rw[hW0] at bX bB bS hB0 hsz ⊢;clear hW0;have bF:Buf (w.heap.size+2) (w.heap.size+1) (Lib.byteCells (cont false xs n [])) W0:=Buf.fresh bB
 refine wpIn_rangeFunc_ownF hro h1 (gf:=197) (lb:=#[.pointer (some ⟨w.heap.size+1+1,0,none⟩)]) rfl trivial (enters_of Tryz.func197 (by kernel_rfl) rfl)
  (aCf Fence.wide (8-1) trivial hro aFx (w.heap.size+1+1) w.heap.size A n c xs W0 aFx aFx bS.cell (HX.out.below hB0)) kpB_t (kpB_b aFx aFx) (Below.refl _ _) (fun _=>rfl)
  (fun pre W=>((Buf (w.heap.size+2) (w.heap.size+1) (Lib.byteCells (cont false xs n pre)) W∧W.heap[w.heap.size]? =some (.cells #[.bool false,.slice A n c] 81 (0,0)))∧Boxed W (w.heap.size+1+1) 79 (.slice A n c))∧Below w.heap.size w W)
  (fun _ _ _=>False)
  (OwnFrom.and (OwnFrom.and (OwnFrom.and (fun s X Y row hs hg hr=>Buf.grown hs hg (fun r e=>(hr r e).2)) (fun s X Y row hs hg hr=>aEk hs hg (fun r e=>(hr r e).2))) (Own.from (boxed_own _ _ _) _)) (ownFrom_below (Nat.le_refl _) aFx))
  (fun _ _ _ _ _ hs _ _=>hs)
  ⟨⟨⟨bF,bX⟩,bS⟩,hB0⟩
  (fun x=>{tmps:=#[.agg #[.bool false,.slice A n c],.pointer (some ⟨w.heap.size,0,none⟩),.string ⟨#[]⟩,.pointer (some ⟨w.heap.size+1,0,none⟩),.int .i64 (x.val:Int),.int .i64 (xs[x.val]?.getD 0),undef,.pointer (some ⟨w.heap.size,1,none⟩),.slice A n c,.int .i64 (n:Int),.bool false,.pointer (some ⟨w.heap.size,0,none⟩),.bool false,undef,.pointer (some ⟨w.heap.size,1,none⟩),.slice A n c,.func (.func 197) #[] #[.pointer (some ⟨w.heap.size+1+1,0,none⟩)],.int .i64 (x.val:Int),.int .i64 (xs[x.val]?.getD 0),undef,undef,undef,undef,undef,undef,undef,undef,undef,undef,undef,undef,undef,undef,undef,undef],defers:= []}) ?assign ?body ?done ?stop
 case assign=>
  intro l x W K hK
  gi_wp2
  exact hK
 case body=>
  rintro l pre x W ⟨⟨⟨hbuf,hxb⟩,hsb⟩,hBw⟩ hlt;have hgw:GW W:=Lib.tabBelow_of_tabIs HG.out W hBw;have hlm:=HL.out x.val;have hlen:=aC9 HL.out x.val;have hclen:=cont_len HL.out false n pre;have hsz2:=hBw.size;have hbl:=hbuf.lt;have hxl:=x.isLt;have hit:=fun w h=>aCj (xs[x.val]?.getD 0) aFx aFx w h
  have hsb2:(ByteArray.mk (Lib.itoa (xs[x.val]?.getD 0)).toArray).size=(Lib.itoa (xs[x.val]?.getD 0)).length:=by rw[Lib.size_eq]
  have hcs:=cont_snoc false xs n pre x;have hpt:padT xs n x.val=(if x.val+1<n then List.replicate (9-(Lib.itoa (xs[x.val]?.getD 0)).length) 48 else[])++Lib.itoa (xs[x.val]?.getD 0):=rfl;rw[hpt] at hcs;clear hpt;have hstr:Lib.strCells (ByteArray.mk (Lib.itoa (xs[x.val]?.getD 0)).toArray)=Lib.byteCells (Lib.itoa (xs[x.val]?.getD 0)):=rfl;generalize ByteArray.mk (Lib.itoa (xs[x.val]?.getD 0)).toArray=sb at hit hsb2 hstr;generalize Lib.itoa (xs[x.val]?.getD 0)=ll at hlen hsb2 hcs hstr;generalize xs[x.val]?.getD 0=v at hlm hit ⊢;have hkeep:∀W1,Below W.heap.size W W1→W1.cell? ⟨w.heap.size,1,none⟩=some (.slice A n c):=fun W1 k=>fJ ((k.block w.heap.size aFx).trans hxb) 1 _ rfl
  have HKp:=Lib.hid hkeep;have HIT:=Lib.hid hit;have HGW:=Lib.hid hgw;have HBUF:=Lib.hid hbuf;have HXB:=Lib.hid hxb;have HSB:=Lib.hid hsb;have HBW:=Lib.hid hBw;have HCS:=Lib.hid hcs;have HST:=Lib.hid hstr;have hsl:sb.size≤9:=by omega
  have HS2:=Lib.hid hsb2;have hbl2:(Lib.byteCells (cont false xs n pre)).length≤9000001:=by rw[Lib.byteCells_length];omega
  clear hkeep hit hgw hbuf hxb hsb hBw hcs hstr hsb2
  by_cases hlast:x.val+1<n
  ·have q1:decide ((x.val:Int)<(n:Int)-1)=true:=by simp;omega
   have hrp:∀w:World,Calls Tryz.prog 169 #[.string ⟨#[48]⟩,.int .i64 (9-(sb.size:Int))] w fun e w'=>e= .returned (.string ⟨(List.replicate (9-sb.size) 48).toArray⟩)∧Below w.heap.size w w':=fun w=>by
    have:=Any.strings_Repeat lay105 aAv ⟨#[48]⟩ (9-sb.size) w aFx (by rw[show(ByteArray.mk #[48]).size=1 from rfl];omega);rw[show(ByteArray.mk #[48]).data.toList= [48] from rfl,rep_zero,show((9-sb.size:Nat):Int)=9-(sb.size:Int) from by omega] at this;exact this
   have hrl:(ByteArray.mk (List.replicate (9-sb.size) (48:UInt8)).toArray).size≤9:=by rw[Lib.size_eq];simp
   have hrc:Lib.strCells (ByteArray.mk (List.replicate (9-sb.size) (48:UInt8)).toArray)=Lib.byteCells (List.replicate (9-sb.size) 48):=rfl;generalize ByteArray.mk (List.replicate (9-sb.size) (48:UInt8)).toArray=rp at hrp hrl hrc;have HRP:=Lib.hid hrp;have HRC:=Lib.hid hrc;clear hrp hrc
   gi_wp2_with (first
    |(refine⟨trivial,?_⟩;gi_at_call 167;refine(CallsIn.inRound l (callsIn_wide.2 (HIT.out _ HGW.out))).mono ?_;rintro e W1 ⟨rfl,k1⟩;have hbA:=HBUF.out.below k1;have cx:=HKp.out _ k1;have hz1:=k1.size;have K1:=Lib.hid k1;clear k1 HIT)
    |(refine⟨trivial,?_⟩;gi_at_call 169;refine(CallsIn.inRound l (callsIn_wide.2 (HRP.out _))).mono ?_;rintro e W2 ⟨rfl,k2⟩;have hbB:=hbA.below k2;have hz2:=k2.size;have K2:=Lib.hid k2;clear k2 hbA HRP cx)
    |(refine⟨trivial,?_⟩;gi_at_call 168;refine(CallsIn.inRound l (callsIn_wide.2 (qE (w.heap.size+2) (w.heap.size+1) _ rp W2 hbB aFx aFx))).mono ?_;rintro e W3 ⟨rfl,hbC,k3⟩;have hz3:=k3.size;have K3:=Lib.hid k3;clear k3 hbB)
    |(refine⟨trivial,?_⟩;gi_at_call 168;refine(CallsIn.inRound l (callsIn_wide.2 (qE (w.heap.size+2) (w.heap.size+1) _ sb W3 hbC (by rw[List.length_append,Lib.strCells_length];omega) aFx))).mono ?_;rintro e W4 ⟨rfl,hbD,k4⟩;have K4:=Lib.hid k4;clear k4 hbC))
   have T:Touch (w.heap.size+2) (w.heap.size+1) W W4:=(((Touch.of_below K1.out).trans (Touch.of_below K2.out)).trans K3.out).trans K4.out
   have hbytes:Lib.byteCells (cont false xs n pre)++Lib.strCells rp++Lib.strCells sb=Lib.byteCells (cont false xs n (pre++ [x])):=by
    rw[HCS.out,if_pos hlast,HRC.out,HST.out,HS2.out];simp[Lib.byteCells]
   rw[hbytes] at hbD;exact⟨HBUF.out.others T,⟨T.keepB aFx HSB.out aG0,T.below aFx aFx aFx⟩,⟨⟨hbD,T.keep aFx HXB.out aG0⟩,T.keep aFx HSB.out aG0⟩,HBW.out.trans (T.below aFx aFx aFx)⟩
  ·have q1:decide ((x.val:Int)<(n:Int)-1)=false:=by simp;omega
   gi_wp2_with (first
    |(refine⟨trivial,?_⟩;gi_at_call 167;refine(CallsIn.inRound l (callsIn_wide.2 (HIT.out _ HGW.out))).mono ?_;rintro e W1 ⟨rfl,k1⟩;have hbA:=HBUF.out.below k1;have cx:=HKp.out _ k1;have hz1:=k1.size;have K1:=Lib.hid k1;clear k1 HIT)
    |(refine⟨trivial,?_⟩;gi_at_call 168;refine(CallsIn.inRound l (callsIn_wide.2 (qE (w.heap.size+2) (w.heap.size+1) _ sb W1 hbA aFx aFx))).mono ?_;rintro e W4 ⟨rfl,hbD,k4⟩;have K4:=Lib.hid k4;clear k4 hbA))
   have T:Touch (w.heap.size+2) (w.heap.size+1) W W4:=(Touch.of_below K1.out).trans K4.out
   have hbytes:Lib.byteCells (cont false xs n pre)++Lib.strCells sb=Lib.byteCells (cont false xs n (pre++ [x])):=by
    rw[HCS.out,if_neg hlast,HST.out];simp[Lib.byteCells]
   rw[hbytes] at hbD;exact⟨HBUF.out.others T,⟨T.keepB aFx HSB.out aG0,T.below aFx aFx aFx⟩,⟨⟨hbD,T.keep aFx HXB.out aG0⟩,T.keep aFx HSB.out aG0⟩,HBW.out.trans (T.below aFx aFx aFx)⟩
 case done=>
  rintro D zs W hD rfl ⟨⟨⟨hbuf,hxb⟩,hsb⟩,hBw⟩ hK;have hisb:=Lib.IsBuilderF.of (hbuf.is (B:=w.heap.size) aFx aFx);have l9:=hBw.size;have hbl:=hbuf.lt;obtain⟨cl,hl⟩:∃cl,cont false xs n (bwl n n)=cl:=⟨_,rfl⟩
  rw[hl] at hisb;have HS:=Lib.hid (Any.Builder_String_any_k lay169 aAw w.heap.size (w.heap.size+1) cl W hisb aFx);have HL2:=Lib.hid hl;have HBW:=Lib.hid hBw;have HK:=Lib.hid hK;clear hisb hl hbuf hxb hsb hBw hK
  gi_wp2_with (refine⟨trivial,?_⟩;gi_at_call 170;refine(callsIn_wide.2 HS.out).mono ?_;rintro e W2 ⟨rfl,_,k2,ok2⟩)
  have hK2:W2.heap[D]? =some (.deferred (some [])):=ok2 D _ HK.out (fun e=>by have:D=w.heap.size+1:=Option.some.inj e;omega) (fun _ _ e=>by cases e);refine⟨by simp,.inl ⟨_,_,rfl,run_takeDeferred hK2,?_⟩⟩;exact⟨_,by simp[results,Tryz.results88,go_sem];rfl,by rw[HL2.out],(HBW.out.trans k2).trans (belowK_b (w:=w) (Nat.le_refl _) _ D _ _ aFx hK2 rfl rfl)⟩
 case stop=>
  rintro D c pre W hD hpre h hK;exact h.elim
theorem text_neg(A:Option Addr)(n c:Nat)(xs:List Int)(w:World)(hx:RI w.heap.size w A n xs)(hxl:limbs xs)(hn:n≤1000000)(h0:0<n)(hG:GW w) :
 Calls Tryz.prog 88 #[.agg #[.bool true,.slice A n c]] w fun e w'=>e= .returned (.string ⟨(cont true xs n (bwl n n)).toArray⟩)∧Below w.heap.size w w':=by
 have hmax:=hx.2.1;refine(callsIn_wide (n:=8)).1 ?_;have hro:Fence.wide.round=none:=rfl;have h1:1≤8:=by omega
 refine callsIn_of_wp_marks Tryz.func88 rfl trivial ?_ hro;simp only[Tryz.ntmps88,List.size_toArray,List.length_cons,List.length_nil,Nat.reduceAdd,Nat.reduceSub,Array.replicate_succ,Array.replicate_zero,List.push_toArray,List.append_toArray,List.nil_append,List.cons_append];have HX:=Lib.hid hx;have HL:=Lib.hid hxl;have HG:=Lib.hid hG;have hn1:((n:Int)==0)=false:=by simp;omega
 have hn2:¬(n:Int)=0:=by omega
 clear hx hxl hG
 have hb0:((w.alloc (.cells #[.bool true,.slice A n c] 81)).alloc (.cells #[.pointer none,.slice none 0 0] 131)).heap[w.heap.size+1]? =some (.cells #[.pointer none,.slice none 0 0] 131):=by
  have:=World.alloc_heap_new (w.alloc (.cells #[.bool true,.slice A n c] 81)) (.cells #[.pointer none,.slice none 0 0] 131)
  rwa [World.size_alloc] at this
 have hx0:((w.alloc (.cells #[.bool true,.slice A n c] 81)).alloc (.cells #[.pointer none,.slice none 0 0] 131)).heap[w.heap.size]? =some (.cells #[.bool true,.slice A n c] 81):=(Below.heap_alloc _ _ _ aFz).trans (World.alloc_heap_new w _);have hba:Below w.heap.size w ((w.alloc (.cells #[.bool true,.slice A n c] 81)).alloc (.cells #[.pointer none,.slice none 0 0] 131)):=((Below.refl _ w).alloc (Nat.le_refl _) _).alloc aFz _;have hza:((w.alloc (.cells #[.bool true,.slice A n c] 81)).alloc (.cells #[.pointer none,.slice none 0 0] 131)).heap.size=w.heap.size+2:=by simp
 have HFR:Hid (Buf (w.heap.size+2) (w.heap.size+1) [] ((w.alloc (.cells #[.bool true,.slice A n c] 81)).alloc (.cells #[.pointer none,.slice none 0 0] 131))):=Lib.hid (Buf.fresh hb0);have HX0:=Lib.hid hx0;have HBA:=Lib.hid hba;have HZA:=Lib.hid hza;clear hb0 hx0 hba hza
 gi_wp2_with (first
  |(refine⟨trivial,?_⟩;gi_at_call 165;refine(callsIn_wide.2 (aFv (w.heap.size+2) (w.heap.size+1) [] 45 _ HFR.out aG0 (by rw[HZA.out];exact Nat.le_refl _))).mono ?_;rintro e w1 ⟨rfl,hbf,ht⟩;have hx1:=ht.keep aFx HX0.out aG0;have hb1:=HBA.out.trans (ht.below (Nat.le_succ _) aFx (by rw[HZA.out];omega));have hz1:=ht.size;rw[HZA.out] at hz1;have cxa:=fJ hx1 0 _ rfl;have cxb:=fJ hx1 1 _ rfl;have HBF:=Lib.hid hbf;have HX1:=Lib.hid hx1;have HB1:=Lib.hid hb1;clear hbf ht hx1 hb1 HFR)
  |(refine⟨trivial,?_⟩;gi_at_call 166;refine(bwd_in Fence.wide (8-1) trivial hro _ _ _ _).mono ?_;rintro e w' ⟨rfl,rfl⟩))
 clear cxa cxb;have bX:(w1.alloc (.cells #[.slice A n c] 79)).heap[w.heap.size]? =some (.cells #[.bool true,.slice A n c] 81 (0,0)):=(Below.heap_alloc _ _ _ aFx).trans HX1.out;have bS:=Boxed.new w1 79 (.slice A n c);have hB0:Below w.heap.size w (w1.alloc (.cells #[.slice A n c] 79)):=HB1.out.alloc aFx _;have hsz:(w1.alloc (.cells #[.slice A n c] 79)).heap.size=w1.heap.size+1:=by simp
 have bF:Buf (w.heap.size+2) (w.heap.size+1) (Lib.byteCells (cont true xs n [])) (w1.alloc (.cells #[.slice A n c] 79)):=HBF.out.below ((Below.refl _ w1).alloc (Nat.le_refl _) _);obtain⟨W0,hW0⟩:∃W0,w1.alloc (.cells #[.slice A n c] 79)=W0:=⟨_,rfl⟩
 rw[hW0] at bX bS hB0 hsz bF ⊢;clear hW0
 refine wpIn_rangeFunc_ownF hro h1 (gf:=197) (lb:=#[.pointer (some ⟨w1.heap.size,0,none⟩)]) rfl trivial (enters_of Tryz.func197 (by kernel_rfl) rfl)
  (aCf Fence.wide (8-1) trivial hro aFx (w1.heap.size) w.heap.size A n c xs W0 aFx aFx bS.cell (HX.out.below hB0)) kpB_t (kpB_b aFx aFx) (Below.refl _ _) (fun _=>rfl)
  (fun pre W=>((Buf (w.heap.size+2) (w.heap.size+1) (Lib.byteCells (cont true xs n pre)) W∧W.heap[w.heap.size]? =some (.cells #[.bool true,.slice A n c] 81 (0,0)))∧Boxed W (w1.heap.size) 79 (.slice A n c))∧Below w.heap.size w W)
  (fun _ _ _=>False)
  (OwnFrom.and (OwnFrom.and (OwnFrom.and (fun s X Y row hs hg hr=>Buf.grown hs hg (fun r e=>(hr r e).2)) (fun s X Y row hs hg hr=>aEk hs hg (fun r e=>(hr r e).2))) (Own.from (boxed_own _ _ _) _)) (ownFrom_below (Nat.le_refl _) aFx))
  (fun _ _ _ _ _ hs _ _=>hs)
  ⟨⟨⟨bF,bX⟩,bS⟩,hB0⟩
  (fun x=>{tmps:=#[.agg #[.bool true,.slice A n c],.pointer (some ⟨w.heap.size,0,none⟩),.string ⟨#[]⟩,.pointer (some ⟨w.heap.size+1,0,none⟩),.int .i64 (x.val:Int),.int .i64 (xs[x.val]?.getD 0),undef,.pointer (some ⟨w.heap.size,1,none⟩),.slice A n c,.int .i64 (n:Int),.bool false,.pointer (some ⟨w.heap.size,0,none⟩),.bool true,.nilIface,.pointer (some ⟨w.heap.size,1,none⟩),.slice A n c,.func (.func 197) #[] #[.pointer (some ⟨w1.heap.size,0,none⟩)],.int .i64 (x.val:Int),.int .i64 (xs[x.val]?.getD 0),undef,undef,undef,undef,undef,undef,undef,undef,undef,undef,undef,undef,undef,undef,undef,undef],defers:= []}) ?assign ?body ?done ?stop
 case assign=>
  intro l x W K hK
  gi_wp2
  exact hK
 case body=>
  rintro l pre x W ⟨⟨⟨hbuf,hxb⟩,hsb⟩,hBw⟩ hlt;have hgw:GW W:=Lib.tabBelow_of_tabIs HG.out W hBw;have hlm:=HL.out x.val;have hlen:=aC9 HL.out x.val;have hclen:=cont_len HL.out true n pre;have hsz2:=hBw.size;have hbl:=hbuf.lt;have hxl:=x.isLt;have hit:=fun w h=>aCj (xs[x.val]?.getD 0) aFx aFx w h
  have hsb2:(ByteArray.mk (Lib.itoa (xs[x.val]?.getD 0)).toArray).size=(Lib.itoa (xs[x.val]?.getD 0)).length:=by rw[Lib.size_eq]
  have hcs:=cont_snoc true xs n pre x;have hpt:padT xs n x.val=(if x.val+1<n then List.replicate (9-(Lib.itoa (xs[x.val]?.getD 0)).length) 48 else[])++Lib.itoa (xs[x.val]?.getD 0):=rfl;rw[hpt] at hcs;clear hpt;have hstr:Lib.strCells (ByteArray.mk (Lib.itoa (xs[x.val]?.getD 0)).toArray)=Lib.byteCells (Lib.itoa (xs[x.val]?.getD 0)):=rfl;generalize ByteArray.mk (Lib.itoa (xs[x.val]?.getD 0)).toArray=sb at hit hsb2 hstr;generalize Lib.itoa (xs[x.val]?.getD 0)=ll at hlen hsb2 hcs hstr;generalize xs[x.val]?.getD 0=v at hlm hit ⊢;have hkeep:∀W1,Below W.heap.size W W1→W1.cell? ⟨w.heap.size,1,none⟩=some (.slice A n c):=fun W1 k=>fJ ((k.block w.heap.size aFx).trans hxb) 1 _ rfl
  have HKp:=Lib.hid hkeep;have HIT:=Lib.hid hit;have HGW:=Lib.hid hgw;have HBUF:=Lib.hid hbuf;have HXB:=Lib.hid hxb;have HSB:=Lib.hid hsb;have HBW:=Lib.hid hBw;have HCS:=Lib.hid hcs;have HST:=Lib.hid hstr;have hsl:sb.size≤9:=by omega
  have HS2:=Lib.hid hsb2;have hbl2:(Lib.byteCells (cont true xs n pre)).length≤9000001:=by rw[Lib.byteCells_length];omega
  clear hkeep hit hgw hbuf hxb hsb hBw hcs hstr hsb2
  by_cases hlast:x.val+1<n
  ·have q1:decide ((x.val:Int)<(n:Int)-1)=true:=by simp;omega
   have hrp:∀w:World,Calls Tryz.prog 169 #[.string ⟨#[48]⟩,.int .i64 (9-(sb.size:Int))] w fun e w'=>e= .returned (.string ⟨(List.replicate (9-sb.size) 48).toArray⟩)∧Below w.heap.size w w':=fun w=>by
    have:=Any.strings_Repeat lay105 aAv ⟨#[48]⟩ (9-sb.size) w aFx (by rw[show(ByteArray.mk #[48]).size=1 from rfl];omega);rw[show(ByteArray.mk #[48]).data.toList= [48] from rfl,rep_zero,show((9-sb.size:Nat):Int)=9-(sb.size:Int) from by omega] at this;exact this
   have hrl:(ByteArray.mk (List.replicate (9-sb.size) (48:UInt8)).toArray).size≤9:=by rw[Lib.size_eq];simp
   have hrc:Lib.strCells (ByteArray.mk (List.replicate (9-sb.size) (48:UInt8)).toArray)=Lib.byteCells (List.replicate (9-sb.size) 48):=rfl;generalize ByteArray.mk (List.replicate (9-sb.size) (48:UInt8)).toArray=rp at hrp hrl hrc;have HRP:=Lib.hid hrp;have HRC:=Lib.hid hrc;clear hrp hrc
   gi_wp2_with (first
    |(refine⟨trivial,?_⟩;gi_at_call 167;refine(CallsIn.inRound l (callsIn_wide.2 (HIT.out _ HGW.out))).mono ?_;rintro e W1 ⟨rfl,k1⟩;have hbA:=HBUF.out.below k1;have cx:=HKp.out _ k1;have hz1:=k1.size;have K1:=Lib.hid k1;clear k1 HIT)
    |(refine⟨trivial,?_⟩;gi_at_call 169;refine(CallsIn.inRound l (callsIn_wide.2 (HRP.out _))).mono ?_;rintro e W2 ⟨rfl,k2⟩;have hbB:=hbA.below k2;have hz2:=k2.size;have K2:=Lib.hid k2;clear k2 hbA HRP cx)
    |(refine⟨trivial,?_⟩;gi_at_call 168;refine(CallsIn.inRound l (callsIn_wide.2 (qE (w.heap.size+2) (w.heap.size+1) _ rp W2 hbB aFx aFx))).mono ?_;rintro e W3 ⟨rfl,hbC,k3⟩;have hz3:=k3.size;have K3:=Lib.hid k3;clear k3 hbB)
    |(refine⟨trivial,?_⟩;gi_at_call 168;refine(CallsIn.inRound l (callsIn_wide.2 (qE (w.heap.size+2) (w.heap.size+1) _ sb W3 hbC (by rw[List.length_append,Lib.strCells_length];omega) aFx))).mono ?_;rintro e W4 ⟨rfl,hbD,k4⟩;have K4:=Lib.hid k4;clear k4 hbC))
   have T:Touch (w.heap.size+2) (w.heap.size+1) W W4:=(((Touch.of_below K1.out).trans (Touch.of_below K2.out)).trans K3.out).trans K4.out
   have hbytes:Lib.byteCells (cont true xs n pre)++Lib.strCells rp++Lib.strCells sb=Lib.byteCells (cont true xs n (pre++ [x])):=by
    rw[HCS.out,if_pos hlast,HRC.out,HST.out,HS2.out];simp[Lib.byteCells]
   rw[hbytes] at hbD;exact⟨HBUF.out.others T,⟨T.keepB aFx HSB.out aG0,T.below aFx aFx aFx⟩,⟨⟨hbD,T.keep aFx HXB.out aG0⟩,T.keep aFx HSB.out aG0⟩,HBW.out.trans (T.below aFx aFx aFx)⟩
  ·have q1:decide ((x.val:Int)<(n:Int)-1)=false:=by simp;omega
   gi_wp2_with (first
    |(refine⟨trivial,?_⟩;gi_at_call 167;refine(CallsIn.inRound l (callsIn_wide.2 (HIT.out _ HGW.out))).mono ?_;rintro e W1 ⟨rfl,k1⟩;have hbA:=HBUF.out.below k1;have cx:=HKp.out _ k1;have hz1:=k1.size;have K1:=Lib.hid k1;clear k1 HIT)
    |(refine⟨trivial,?_⟩;gi_at_call 168;refine(CallsIn.inRound l (callsIn_wide.2 (qE (w.heap.size+2) (w.heap.size+1) _ sb W1 hbA aFx aFx))).mono ?_;rintro e W4 ⟨rfl,hbD,k4⟩;have K4:=Lib.hid k4;clear k4 hbA))
   have T:Touch (w.heap.size+2) (w.heap.size+1) W W4:=(Touch.of_below K1.out).trans K4.out
   have hbytes:Lib.byteCells (cont true xs n pre)++Lib.strCells sb=Lib.byteCells (cont true xs n (pre++ [x])):=by
    rw[HCS.out,if_neg hlast,HST.out];simp[Lib.byteCells]
   rw[hbytes] at hbD;exact⟨HBUF.out.others T,⟨T.keepB aFx HSB.out aG0,T.below aFx aFx aFx⟩,⟨⟨hbD,T.keep aFx HXB.out aG0⟩,T.keep aFx HSB.out aG0⟩,HBW.out.trans (T.below aFx aFx aFx)⟩
 case done=>
  rintro D zs W hD rfl ⟨⟨⟨hbuf,hxb⟩,hsb⟩,hBw⟩ hK;have hisb:=Lib.IsBuilderF.of (hbuf.is (B:=w.heap.size) aFx aFx);have l9:=hBw.size;have hbl:=hbuf.lt;obtain⟨cl,hl⟩:∃cl,cont true xs n (bwl n n)=cl:=⟨_,rfl⟩
  rw[hl] at hisb;have HS:=Lib.hid (Any.Builder_String_any_k lay169 aAw w.heap.size (w.heap.size+1) cl W hisb aFx);have HL2:=Lib.hid hl;have HBW:=Lib.hid hBw;have HK:=Lib.hid hK;clear hisb hl hbuf hxb hsb hBw hK
  gi_wp2_with (refine⟨trivial,?_⟩;gi_at_call 170;refine(callsIn_wide.2 HS.out).mono ?_;rintro e W2 ⟨rfl,_,k2,ok2⟩)
  have hK2:W2.heap[D]? =some (.deferred (some [])):=ok2 D _ HK.out (fun e=>by have:D=w.heap.size+1:=Option.some.inj e;omega) (fun _ _ e=>by cases e);refine⟨by simp,.inl ⟨_,_,rfl,run_takeDeferred hK2,?_⟩⟩;exact⟨_,by simp[results,Tryz.results88,go_sem];rfl,by rw[HL2.out],(HBW.out.trans k2).trans (belowK_b (w:=w) (Nat.le_refl _) _ D _ _ aFx hK2 rfl rfl)⟩
 case stop=>
  rintro D c pre W hD hpre h hK;exact h.elim
theorem vC:text 0=⟨#[48]⟩:=by
 unfold text Lib.itoa;rw[if_neg aFx,show(0:Int).toNat=0 from rfl,kJ aFx];rfl
theorem yS(v:Value)(z:Int)(L:Nat)(w:World)(hv:NumV w v z L)(hL:L≤1000000)(hG:GW w) :
 Calls Tryz.prog 88 #[v] w fun e w'=>e= .returned (.string (text z))∧Below w.heap.size w w':=by
 obtain⟨d,u,x,rfl,⟨A,n,c,xs,rfl,h1,h2,h3,h4,h5,h6,rfl⟩,rfl⟩:=hv
 by_cases h0:n=0
 ·subst h0
  have hz:=(sU h2 h3).2 h1.1;have e:text (if d=true then -lval xs else lval xs)=⟨#[48]⟩:=by rw[hz];cases d <;> exact vC
  rw[e];exact text_zero d A c w
 ·have e:text (if d=true then -lval xs else lval xs)=⟨(cont d xs n (bwl n n)).toArray⟩:=by rw[cont_all h2 h3 n h1.1 aFx d];rfl
  rw[e]
  cases d
  ·exact text_pos A n c xs w h1 h2 aFx aFx hG
  ·exact text_neg A n c xs w h1 h2 aFx aFx hG
end Go.Proofs.YtignanmmgaldeaaGreatDoor
namespace Go.Proofs.YtignanmmgaldeaaGreatDoor
open Go.RowKit Go.Shelf Go.Proofs.YtignanmmgaldeaaGreatDoorW.PrintWords
def zI(z:Int):Nat:=if z=0 then 0 else(Lib.decDigits z.natAbs).length
theorem flat_len{xs:List Int}(hx:limbs xs)(n:Nat):∀k,0<k→k≤n→((bwl n k).flatMap fun i=>padT xs n i.val).length=(Lib.itoa (xs[n-1]?.getD 0)).length+9*(k-1)
 |0,h,_=>by omega
 |k+1,_,hk=>by
  rw[uH n k aFx,List.flatMap_append,List.length_append];have hl:=aC9 hx (n-1-k);rcases Nat.eq_zero_or_pos k with e|e
  ·subst e
   simp only[bwl,List.flatMap_nil,List.length_nil,List.flatMap_cons,List.append_nil,Nat.sub_zero];rw[padT,if_neg aFx,List.nil_append];omega
  ·rw[flat_len hx n k e aFx]
   simp only[List.flatMap_cons,List.flatMap_nil,List.append_nil];rw[padT,if_pos aFx,List.length_append,List.length_replicate];omega
theorem size_val{xs:List Int}(hx:limbs xs)(ht:topped xs)(n:Nat)(hn:xs.length=n)(h0:0<n)(d:Bool):zI (if d=true then -lval xs else lval xs)=(Lib.itoa (xs[n-1]?.getD 0)).length+9*(n-1):=by
 obtain⟨h1,h2⟩:=aDg hx ht n hn n h0 (Nat.le_refl _);have hv:=topV_val hx n hn n (Nat.le_refl _);have hl:=flat_len hx n n h0 (Nat.le_refl _);rw[h2] at hl;rw[Nat.sub_self] at hv;simp only[Int.pow_zero,Int.mul_one,pval,Int.add_zero] at hv;rw[←hl,←hv];unfold zI
 cases d
 ·simp only[Bool.false_eq_true,if_false];rw[if_neg aFx,show((topV xs n n:Nat):Int).natAbs=topV xs n n from by omega]
 ·simp only[if_true];rw[if_neg aFx,show(-((topV xs n n:Nat):Int)).natAbs=topV xs n n from by omega]
theorem size_zero(d:Bool)(A:Option Addr)(c:Nat)(w:World) :
 Calls Tryz.prog 146 #[.agg #[.bool d,.slice A 0 c]] w fun e w'=>e= .returned (.int .i64 0)∧Below w.heap.size w w':=by
 go_enter Tryz.func146,Tryz.ntmps146
 go_wp2
 go_ret
 exact⟨rfl,(Below.refl _ w).alloc (Nat.le_refl _) _⟩
theorem size_pos(d:Bool)(A:Option Addr)(n c:Nat)(xs:List Int)(w:World)(hx:RI w.heap.size w A n xs)(hxl:limbs xs)(hn:n≤1000000)(h0:0<n)(hG:GW w) :
 Calls Tryz.prog 146 #[.agg #[.bool d,.slice A n c]] w fun e w'=>e= .returned (.int .i64 (((Lib.itoa (xs[n-1]?.getD 0)).length+9*(n-1):Nat):Int))∧Below w.heap.size w w':=by
 have hl:=hxl (n-1);have hlen:=aC9 hxl (n-1);have hn1:((n:Int)==0)=false:=by simp;omega
 have hn2:¬(n:Int)=0:=by omega
 obtain⟨ad,rfl,hb,hc⟩:=hx.2.2 h0;have HG:=Lib.hid hG;have hcell:∀o,(w.alloc o).cell? (ad.add (n-1))=some (.int .i64 (xs[n-1]?.getD 0)):=fun o=>((Below.refl w.heap.size w).alloc (Nat.le_refl _) o).cell (p:=ad.add (n-1)) (by rw[add_block];exact hb) |>.trans (hc (n-1) aFx)
 have hit:=fun w h=>aCj (xs[n-1]?.getD 0) aFx aFx w h
 have hsz:(ByteArray.mk (Lib.itoa (xs[n-1]?.getD 0)).toArray).size=(Lib.itoa (xs[n-1]?.getD 0)).length:=by rw[Lib.size_eq]
 generalize ByteArray.mk (Lib.itoa (xs[n-1]?.getD 0)).toArray=sb at hit hsz;generalize (Lib.itoa (xs[n-1]?.getD 0)).length=k at hsz hlen ⊢;generalize xs[n-1]?.getD 0=v at hit hcell hl;have HIT:=Lib.hid hit;obtain⟨m,rfl⟩:∃m,n=m+1:=⟨n-1,by omega⟩
 rw[Nat.add_sub_cancel] at hcell ⊢;have HS:=Lib.hid hsz;have hsl:sb.size≤9:=by omega
 clear hx hxl hG hc hit hsz;go_enter Tryz.func146,Tryz.ntmps146
 go_wp2_with(go_at_call 167;refine(HIT.out _ (HG.out.below ((Below.refl _ w).alloc (Nat.le_refl _) _))).mono ?_;rintro e w' ⟨rfl,hB⟩;have HB:=Lib.hid hB;clear hB HIT)
 go_ret
 exact⟨by rw[show(m:Int)*9+(sb.size:Int)=((k+9*m:Nat):Int) from by rw[HS.out];omega];rfl,(((Below.refl _ w).alloc (Nat.le_refl _) _).trans (HB.out.mono aFz))⟩
theorem size_num(v:Value)(z:Int)(L:Nat)(w:World)(hv:NumV w v z L)(hL:L≤1000000)(hG:GW w) :
 Calls Tryz.prog 146 #[v] w fun e w'=>e= .returned (.int .i64 (zI z:Int))∧Below w.heap.size w w':=by
 obtain⟨d,u,x,rfl,⟨A,n,c,xs,rfl,h1,h2,h3,h4,h5,h6,rfl⟩,rfl⟩:=hv
 by_cases h0:n=0
 ·subst h0
  have hz:=(sU h2 h3).2 h1.1;have e:zI (if d=true then -lval xs else lval xs)=0:=by rw[hz];cases d <;> rfl
  rw[e];exact size_zero d A c w
 ·rw[size_val h2 h3 n h1.1 aFx d]
  exact size_pos d A n c xs w h1 h2 aFx aFx hG
def wrS(z:Int):ByteArray:=if 4096<zI z then⟨#[]⟩ else text z
def wrE(z:Int):Int:=if 4096<zI z then 10 else 0
theorem num_open{w:World}{v:Value}{z:Int}{L:Nat}(h:NumV w v z L):∃d A n c,v= .agg #[.bool d,.slice A n c]∧NumV w (.agg #[.bool d,.slice A n c]) z L:=by
 have k:=h;obtain⟨d,u,x,rfl,⟨A,n,c,xs,rfl,h'⟩,hz⟩:=h;exact⟨d,A,n,c,rfl,k⟩
theorem aBb(v:Value)(z:Int)(L:Nat)(w:World)(hv:NumV w v z L)(hL:L≤1000000)(hG:GW w) :
 Calls Tryz.prog 80 #[v] w fun e w'=>e= .returned (.tuple #[.string (wrS z),.int .i64 (wrE z)])∧Below w.heap.size w w':=by
 obtain⟨d,A,n,c,rfl,hv⟩:=num_open hv;have hsn:=fun w (h:NumV w (.agg #[.bool d,.slice A n c]) z L) hg=>size_num _ z L w h hL hg
 have htn:=fun w (h:NumV w (.agg #[.bool d,.slice A n c]) z L) hg=>yS _ z L w h hL hg
 have hbx:(w.alloc (.cells #[.bool d,.slice A n c] 81)).heap[w.heap.size]? =some (.cells #[.bool d,.slice A n c] 81):=World.alloc_heap_new w _;have hba:Below w.heap.size w (w.alloc (.cells #[.bool d,.slice A n c] 81)):=(Below.refl _ w).alloc (Nat.le_refl _) _;have hsz:(w.alloc (.cells #[.bool d,.slice A n c] 81)).heap.size=w.heap.size+1:=by simp
 have HSN:=Lib.hid (hsn _ (hv.below hba) (hG.below hba));have HT:=Lib.hid htn;have HV:=Lib.hid (hv.below hba);have HG:=Lib.hid (hG.below hba);have HX:=Lib.hid hbx;have HB:=Lib.hid hba;have HZ:=Lib.hid hsz;clear hsn htn hv hG hbx hba hsz
 by_cases h:4096<zI z
 ·rw[wrS,if_pos h,wrE,if_pos h]
  generalize zI z=s at HSN h;have q:decide ((4096:Int)<(s:Int))=true:=by simp;omega
  go_enter Tryz.func80,Tryz.ntmps80
  go_wp2_with(go_at_call 146;refine HSN.out.mono ?_;rintro e w1 ⟨rfl,k1⟩;have K1:=Lib.hid k1;clear k1 HSN)
  go_ret2
  exact⟨rfl,HB.out.trans (K1.out.mono (by rw[HZ.out];omega))⟩
 ·rw[wrS,if_neg h,wrE,if_neg h]
  generalize zI z=s at HSN h;have q:decide ((4096:Int)<(s:Int))=false:=by simp;omega
  go_enter Tryz.func80,Tryz.ntmps80
  go_wp2_with(first
   |(go_at_call 146;refine HSN.out.mono ?_;rintro e w1 ⟨rfl,k1⟩;have hx1:=(k1.block w.heap.size (by rw[HZ.out];omega)).trans HX.out;have c0:=fJ hx1 0 _ rfl;have c1:=fJ hx1 1 _ rfl;have K1:=Lib.hid k1;clear k1 hx1 HSN)
   |(go_at_call 88;refine(HT.out w1 (HV.out.below K1.out) (HG.out.below K1.out)).mono ?_;rintro e w2 ⟨rfl,k2⟩;have K2:=Lib.hid k2;clear k2 c0 c1))
  go_ret2
  exact⟨rfl,HB.out.trans ((K1.out.trans (K2.out.mono K1.out.size)).mono (by rw[HZ.out];omega))⟩
end Go.Proofs.YtignanmmgaldeaaGreatDoor
end
section
set_option linter.unusedVariables false
set_option linter.unusedSimpArgs false
set_option maxRecDepth 100000
set_option maxHeartbeats 4000000
namespace Go.Proofs.YtignanmmgaldeaaGreatDoor
open Go.RowKit Go.Proofs.YtignanmmgaldeaaGreatDoorW.PrintWords
theorem wrap_id{x:Int}(h: -9223372036854775808≤x∧x≤9223372036854775807):wrap64 x=x:=by unfold wrap64;omega
theorem sV(xs:List Int)(k:Nat):rd xs (k:Int)=xs[k]?.getD 0:=by simp[rd,List.getD_eq_getElem?_getD]
theorem mul_limb{a y:Int}(ha:0≤a∧a<1000000000)(hy:0≤y∧y<1000000000):0≤a*y∧a*y≤999999998000000001:=
 ⟨Int.mul_nonneg ha.1 hy.1,by
   have:=Int.mul_le_mul (show a≤999999999 by omega) (show y≤999999999 by omega) hy.1 aFx
   omega⟩
theorem aAl{xs:List Int}(h:limbs xs)(k:Nat)(v:Int)(hv:0≤v∧v<1000000000):limbs (xs.set k v):=fun i=>by
 by_cases e:k=i
 ·subst e
  by_cases hl:k<xs.length
  ·rw[List.getElem?_set_self hl];exact hv
  ·rw[List.getElem?_eq_none (by simpa using hl)];simp
 ·rw[List.getElem?_set_ne e];exact h i
theorem yT(xs:List Int)(i:Nat)(v:Int)(hi:i<xs.length):∀N,i<N→pval (xs.set i v) N=pval xs N+(v-xs[i]?.getD 0)*1000000000 ^ i
 |0,h=>by omega
 |N+1,h=>by
  by_cases e:i=N
  ·subst e
   rw[aA7 _ _ _ hi,pval,Int.sub_mul];omega
  ·rw[pval,pval,yT xs i v hi N aFx,List.getElem?_set_ne e];omega
def inS(ys:List Int)(a:Int)(i:Nat)(out:List Int):Nat→List Int×Int
 |0=>(out,0)
 |j+1=>((inS ys a i out j).1.set (i+j) (((inS ys a i out j).2+((inS ys a i out j).1[i+j]?.getD 0+a*ys[j]?.getD 0))%1000000000),((inS ys a i out j).2+((inS ys a i out j).1[i+j]?.getD 0+a*ys[j]?.getD 0))/1000000000)
def rowF(xs ys:List Int):Nat→List Int
 |0=>List.replicate (xs.length+ys.length) 0
 |i+1=>(inS ys (xs[i]?.getD 0) i (rowF xs ys i) ys.length).1.set (i+ys.length) (inS ys (xs[i]?.getD 0) i (rowF xs ys i) ys.length).2
theorem aBw(ys:List Int)(a:Int)(i:Nat)(out:List Int):∀j,(inS ys a i out j).1.length=out.length
 |0=>rfl
 |j+1=>by simp[inS,aBw ys a i out j]
theorem wC(xs ys:List Int):∀i,(rowF xs ys i).length=xs.length+ys.length
 |0=>by simp[rowF]
 |i+1=>by simp[rowF,aBw,wC xs ys i]
theorem inS_ok{ys out:List Int}{a:Int}(hy:limbs ys)(ho:limbs out)(ha:0≤a∧a<1000000000)(i:Nat):∀j,limbs (inS ys a i out j).1∧0≤(inS ys a i out j).2∧(inS ys a i out j).2<1000000000
 |0=>⟨ho,by simp[inS],by simp[inS]⟩
 |j+1=>by
  obtain⟨h1,h2,h3⟩:=inS_ok hy ho ha i j;have hm:=mul_limb ha (hy j);have hl:=h1 (i+j);rw[inS];exact⟨aAl h1 _ _ ⟨by omega,by omega⟩,by dsimp only;omega,by dsimp only;omega⟩
theorem inS_far(ys out:List Int)(a:Int)(i k:Nat):∀j,i+j≤k→(inS ys a i out j).1[k]?.getD 0=out[k]?.getD 0
 |0,_=>rfl
 |j+1,h=>by rw[inS];dsimp only;rw[List.getElem?_set_ne aFx];exact inS_far ys out a i k j aFx
theorem inS_val{ys out:List Int}(a:Int)(i N:Nat)(hN:out.length=N):∀j,i+j≤N→pval (inS ys a i out j).1 N+(inS ys a i out j).2*1000000000 ^ (i+j)=pval out N+a*pval ys j*1000000000 ^ i
 |0,_=>by simp[inS,pval]
 |j+1,h=>by
  have ih:=inS_val (ys:=ys) a i N hN j aFx;have hl:=aBw ys a i out j;have hc:=carry_law ((inS ys a i out j).2+((inS ys a i out j).1[i+j]?.getD 0+a*ys[j]?.getD 0)) (1000000000 ^ (i+j));rw[inS]
  dsimp only
  rw[yT _ _ _ aFx N aFx,Int.sub_mul,show i+(j+1)=(i+j)+1 from rfl,nI (i+j),pval,Int.mul_add,Int.add_mul]
  have e:a*(ys[j]?.getD 0*1000000000 ^ j)*1000000000 ^ i=a*ys[j]?.getD 0*1000000000 ^ (i+j):=by
   rw[Int.pow_add,←Int.mul_assoc,Int.mul_assoc,Int.mul_comm (1000000000 ^ j)]
  rw[e];rw[Int.add_mul (inS ys a i out j).2,Int.add_mul ((inS ys a i out j).1[i+j]?.getD 0)] at hc;omega
theorem aD2{xs ys:List Int}(hx:limbs xs)(hy:limbs ys):∀i,limbs (rowF xs ys i)
 |0=>fun k=>by
  by_cases h:k<xs.length+ys.length
  ·simp[rowF,List.getElem?_replicate,h]
  ·simp[rowF,List.getElem?_replicate,h]
 |i+1=>by
  obtain⟨h1,h2,h3⟩:=inS_ok hy (aD2 hx hy i) (hx i) i ys.length;exact aAl h1 _ _ ⟨h2,h3⟩
theorem rowF_far(xs ys:List Int)(k:Nat):∀i,i+ys.length≤k→(rowF xs ys i)[k]?.getD 0=0
 |0,_=>by by_cases h:k<xs.length+ys.length <;> simp[rowF,List.getElem?_replicate,h]
 |i+1,h=>by
  rw[rowF,List.getElem?_set_ne aFx,inS_far ys _ _ i k ys.length aFx];exact rowF_far xs ys k i aFx
theorem aBo(n:Nat):∀k,pval (List.replicate n 0) k=0
 |0=>rfl
 |k+1=>by
  have:(List.replicate n (0:Int))[k]?.getD 0=0:=by by_cases h:k<n <;> simp[List.getElem?_replicate,h]
  rw[pval,aBo n k,this];omega
theorem rowF_val(xs ys:List Int):∀i,i≤xs.length→pval (rowF xs ys i) (xs.length+ys.length)=pval xs i*lval ys
 |0,_=>by rw[rowF,aBo,pval];omega
 |i+1,h=>by
  have ih:=rowF_val xs ys i aFx;have hl:=wC xs ys i;have hv:=inS_val (ys:=ys) (out:=rowF xs ys i) (xs[i]?.getD 0) i (xs.length+ys.length) hl ys.length aFx
  have hf:(inS ys (xs[i]?.getD 0) i (rowF xs ys i) ys.length).1[i+ys.length]?.getD 0=0:=by
   rw[inS_far ys _ _ i _ ys.length (Nat.le_refl _)];exact rowF_far xs ys _ i (Nat.le_refl _)
  rw[rowF,yT _ _ _ (by rw[aBw,hl];omega) _ aFx,hf,Int.sub_zero,pval,Int.add_mul];have e:xs[i]?.getD 0*lval ys*1000000000 ^ i=xs[i]?.getD 0*1000000000 ^ i*lval ys:=by rw[Int.mul_assoc,Int.mul_comm (lval ys),←Int.mul_assoc]
  have e2:pval ys ys.length=lval ys:=rfl;rw[e2,e,ih] at hv;omega
theorem rowF_all(xs ys:List Int):lval (rowF xs ys xs.length)=lval xs*lval ys:=by
 rw[lval,wC];exact rowF_val xs ys xs.length (Nat.le_refl _)
end Go.Proofs.YtignanmmgaldeaaGreatDoor
namespace Go.Proofs.YtignanmmgaldeaaGreatDoor
open Go.RowKit Go.Shelf Go.Proofs.YtignanmmgaldeaaGreatDoorW.PrintWords
theorem aE8(A B:Option Addr)(n m c e:Nat)(xs ys:List Int)(w:World)(hx:RI w.heap.size w A n xs)(hy:RI w.heap.size w B m ys)(hxl:limbs xs)(hyl:limbs ys)(hn:n≤1000000)(hm:m≤1000000) :
 Calls Tryz.prog 91 #[.slice A n c,.slice B m e] w fun E w'=>E= .returned (.slice (some ⟨w.heap.size,0,none⟩) (tlen (rowF xs ys n) (n+m)) (n+m))∧Rowd w.heap.size (rowF xs ys n) w'∧Below w.heap.size w w':=by
 have HX:=Lib.hid hx;have HY:=Lib.hid hy;have HXL:=Lib.hid hxl;have HYL:=Lib.hid hyl;clear hx hy hxl hyl;have hmk:=aAt (P:=Tryz.prog) 79 3 .i64 8 Tryz.underlying79 yN aG0 (n+m) aFx;simp only[Int.natCast_add] at hmk;go_enter Tryz.func91,Tryz.ntmps91
 go_wp2
 clear hmk;have HN:Hid (xs.length=n∧ys.length=m):=Lib.hid ⟨HX.out.1,HY.out.1⟩
 go_loopw [19] (fun iv wr=>∃k:Nat,k≤n∧iv= .int .i64 k∧Hid (Rowd w.heap.size (rowF xs ys k) wr)∧Hid (Below w.heap.size w wr)) (fun i _=>n-(intOf i).toNat)
 case atStart=>exact⟨0,by omega,rfl,Lib.hid (by rw[rowF,HN.out.1,HN.out.2];exact Rowd.made w (n+m)),Lib.hid ((Below.refl _ w).alloc (Nat.le_refl _) _)⟩
 case round=>
  obtain⟨k,hk,rfl,HR,HB⟩:=hrel
  by_cases h0:k<n
  ·obtain⟨ad1,rfl,hlt1,hc1⟩:=(HX.out.below HB.out).2.2 aFx
   have cX:=hc1 k h0;have ha:=HXL.out k;clear hc1
   have HSTEP:Hid (rowF xs ys (k+1)=(inS ys (xs[k]?.getD 0) k (rowF xs ys k) m).1.set (k+m) (inS ys (xs[k]?.getD 0) k (rowF xs ys k) m).2):=by
    show rowF xs ys (k+1)=_;rw[rowF,HN.out.2]
   have HOL:=Lib.hid (aD2 HXL.out HYL.out k);have HLN:Hid ((rowF xs ys k).length=n+m):=Lib.hid (by rw[wC,HN.out.1,HN.out.2]);generalize xs[k]?.getD 0=a at *
   generalize rowF xs ys k=out at *
   have l9:=HR;have HB1:=HB;clear HR HB
   go_wp2_with fail
   go_loopw [8,26] (fun cv iv wz=>∃q:Nat,q≤m∧iv= .int .i64 q∧cv= .int .i64 (inS ys a k out q).2∧Hid (Rowd w.heap.size (inS ys a k out q).1 wz)∧Hid (Below w.heap.size w wz)) (fun _ i _=>m-(intOf i).toNat)
   case atStart=>exact⟨0,by omega,rfl,rfl,l9,HB1⟩
   case round=>
    obtain⟨q,hq,rfl,rfl,HR,HB⟩:=hrel;have hok:=inS_ok HYL.out HOL.out ha k q
    by_cases h2:q<m
    ·obtain⟨ad2,rfl,hlt2,hc2⟩:=(HY.out.below HB.out).2.2 aFx
     have cY:=hc2 q h2;have hu:=HYL.out q;clear hc2;have cW:=HR.out.cell (k+q) (by rw[aBw,HLN.out];omega);have fW:=HR.out.frozen (k+q);have ho:=hok.1 (k+q);have hs:Hid (inS ys a k out (q+1)=((inS ys a k out q).1.set (k+q) (((inS ys a k out q).2+((inS ys a k out q).1[k+q]?.getD 0+a*ys[q]?.getD 0))%1000000000),((inS ys a k out q).2+((inS ys a k out q).1[k+q]?.getD 0+a*ys[q]?.getD 0))/1000000000)):=Lib.hid rfl;have hp:=mul_limb ha hu;have hcar:=hok.2;clear hok;generalize ys[q]?.getD 0=u at *
     generalize (inS ys a k out q).1[k+q]?.getD 0=v at *
     generalize hcc:(inS ys a k out q).2=cc at *
     have HC:=Lib.hid hcc;clear hcc
     go_wp2_with fail
     refine⟨⟨q+1,by omega,rfl,by rw[hs.out],Lib.hid ?_,Lib.hid (HB.out.setCell (p:=⟨w.heap.size,k+q,none⟩) (Nat.le_refl _) _)⟩,by simp only[intOf];omega⟩;rw[hs.out];exact HR.out.store (k+q) _
    ·obtain rfl:q=m:=by omega
     have fW:=HR.out.frozen (k+q);have cW:=HR.out.cell (k+q) (by rw[aBw,HLN.out];omega);clear hok
     go_wp2_with fail
     refine⟨⟨k+1,by omega,rfl,Lib.hid ?_,Lib.hid (HB.out.setCell (p:=⟨w.heap.size,k+q,none⟩) (Nat.le_refl _) _)⟩,by simp only[intOf];omega⟩;rw[HSTEP.out];exact HR.out.store (k+q) _
  ·obtain rfl:k=n:=by omega
   have HT:=Lib.hid (lI HR.out (by rw[wC,HN.out.1,HN.out.2];omega));rw[wC,HN.out.1,HN.out.2] at HT
   go_wp2_with(go_at_call 172;refine(yM _ _ _ _ _ HT.out (Nat.le_refl _) aFx).mono ?_;rintro e w' ⟨rfl,rfl⟩)
   go_ret
   exact⟨rfl,HR.out,HB.out⟩
end Go.Proofs.YtignanmmgaldeaaGreatDoor
namespace Go.Proofs.YtignanmmgaldeaaGreatDoor
open Go.RowKit Go.Shelf Go.Proofs.YtignanmmgaldeaaGreatDoorW.PrintWords
theorem times_mag(A B:Option Addr)(n m c e:Nat)(xs ys:List Int)(w:World)(hx:RI w.heap.size w A n xs)(hy:RI w.heap.size w B m ys)(hxl:limbs xs)(hyl:limbs ys)(hn:n≤1000000)(hm:m≤1000000)(hc:n≤c)(he:m≤e) :
 Calls Tryz.prog 91 #[.slice A n c,.slice B m e] w fun e w'=>∃A' n' c',e= .returned (.slice A' n' c')∧Mag w' (.slice A' n' c') (lval xs*lval ys) (n+m)∧Below w.heap.size w w':=by
 refine(aE8 A B n m c e xs ys w hx hy hxl hyl hn hm).mono ?_;rintro E w' ⟨rfl,hR,hB⟩;have hl:(rowF xs ys n).length=n+m:=by rw[wC,hx.1,hy.1]
 have hle:=nN (rowF xs ys n) (n+m);obtain⟨r1,r2,r3⟩:=lI hR aFx;have e1:tl (rowF xs ys n)=(rowF xs ys n).take (tlen (rowF xs ys n) (n+m)):=by unfold tl;rw[hl]
 have hr:lS w' .i64 (some ⟨w.heap.size,0,none⟩) (tlen (rowF xs ys n) (n+m)) (tl (rowF xs ys n)):=⟨by rw[aBi,hl],by omega,fun h0=>by
  obtain⟨ad,ha,hc⟩:=r3 aFx
  exact⟨ad,ha,fun j hj=>by rw[hc j aFx,e1,List.getD_eq_getElem?_getD,List.getD_eq_getElem?_getD,aAk _ _ _ hj]⟩⟩
 refine⟨_,_,_,rfl,⟨_,_,_,_,rfl,RI.of_reads hr,aB4 (aD2 hxl hyl _),aE4 _,hle,trivial,hle,?_⟩,hB⟩;rw[tl_val,←hx.1];exact rowF_all xs ys
theorem product_walk(A B:Option Addr)(n m c e:Nat)(xs ys:List Int)(b b2:Bool)(w:World)(hx:RI w.heap.size w A n xs)(hy:RI w.heap.size w B m ys)(hxl:limbs xs)(hyl:limbs ys)(hn:n≤1000000)(hm:m≤1000000)(hc:n≤c)(he:m≤e) :
 Calls Tryz.prog 85 #[.agg #[.bool b,.slice A n c],.agg #[.bool b2,.slice B m e]] w fun e w'=>∃A' n' c',e= .returned (.agg #[.bool (b != b2),.slice A' n' c'])∧Mag w' (.slice A' n' c') (lval xs*lval ys) (n+m)∧Below w.heap.size w w':=by
 have HX:=Lib.hid hx;have HY:=Lib.hid hy;have HXl:=Lib.hid hxl;have HYl:=Lib.hid hyl;clear hx hy hxl hyl;go_enter Tryz.func85,Tryz.ntmps85
 go_wp2
 have hx0:(((w.alloc (.cells #[.bool b,.slice A n c] 81)).alloc (.cells #[.bool b2,.slice B m e] 81)).alloc (.cells #[.bool false,.slice none 0 0] 81)).heap[w.heap.size]? =some (.cells #[.bool b,.slice A n c] 81):=(Below.heap_alloc _ _ _ (by simp;omega)).trans ((Below.heap_alloc _ _ _ aFz).trans (World.alloc_heap_new w _));have hx1:(((w.alloc (.cells #[.bool b,.slice A n c] 81)).alloc (.cells #[.bool b2,.slice B m e] 81)).alloc (.cells #[.bool false,.slice none 0 0] 81)).heap[w.heap.size+1]? =some (.cells #[.bool b2,.slice B m e] 81):=(Below.heap_alloc _ _ _ aFz).trans (by have:=World.alloc_heap_new (w.alloc (.cells #[.bool b,.slice A n c] 81)) (.cells #[.bool b2,.slice B m e] 81);rwa [World.size_alloc] at this);have hx2:(((w.alloc (.cells #[.bool b,.slice A n c] 81)).alloc (.cells #[.bool b2,.slice B m e] 81)).alloc (.cells #[.bool false,.slice none 0 0] 81)).heap[w.heap.size+1+1]? =some (.cells #[.bool false,.slice none 0 0] 81):=by have:=World.alloc_heap_new ((w.alloc (.cells #[.bool b,.slice A n c] 81)).alloc (.cells #[.bool b2,.slice B m e] 81)) (.cells #[.bool false,.slice none 0 0] 81);rwa [World.size_alloc,World.size_alloc] at this
 have hBa:Below w.heap.size w (((w.alloc (.cells #[.bool b,.slice A n c] 81)).alloc (.cells #[.bool b2,.slice B m e] 81)).alloc (.cells #[.bool false,.slice none 0 0] 81)):=(((Below.refl _ w).alloc (Nat.le_refl _) _).alloc aFz _).alloc (by simp;omega) _;have hsa:(((w.alloc (.cells #[.bool b,.slice A n c] 81)).alloc (.cells #[.bool b2,.slice B m e] 81)).alloc (.cells #[.bool false,.slice none 0 0] 81)).heap.size=w.heap.size+3:=by simp
 obtain⟨W5,hW5⟩:∃W5,((w.alloc (.cells #[.bool b,.slice A n c] 81)).alloc (.cells #[.bool b2,.slice B m e] 81)).alloc (.cells #[.bool false,.slice none 0 0] 81)=W5:=⟨_,rfl⟩
 rw[hW5] at hx0 hx1 hx2 hBa hsa ⊢;clear hW5;have kd:W5.drew.cell? ⟨w.heap.size,0,none⟩=some (.bool b)∧W5.drew.cell? ⟨w.heap.size,1,none⟩=some (.slice A n c)∧W5.drew.cell? ⟨w.heap.size+1,0,none⟩=some (.bool b2)∧W5.drew.cell? ⟨w.heap.size+1,1,none⟩=some (.slice B m e):=⟨fJ hx0 0 _ rfl,fJ hx0 1 _ rfl,fJ hx1 0 _ rfl,fJ hx1 1 _ rfl⟩
 have HKC:Hid (∀v2:World,Below W5.drew.heap.size W5.drew v2→v2.cell? ⟨w.heap.size,0,none⟩=some (.bool b)∧v2.cell? ⟨w.heap.size,1,none⟩=some (.slice A n c)∧v2.cell? ⟨w.heap.size+1,0,none⟩=some (.bool b2)∧v2.cell? ⟨w.heap.size+1,1,none⟩=some (.slice B m e)):=Lib.hid fun v2 hB=>
  ⟨(hB.cell (p:=⟨w.heap.size,0,none⟩) (by show w.heap.size<W5.heap.size;omega)).trans kd.1,(hB.cell (p:=⟨w.heap.size,1,none⟩) (by show w.heap.size<W5.heap.size;omega)).trans kd.2.1,(hB.cell (p:=⟨w.heap.size+1,0,none⟩) (by show w.heap.size+1<W5.heap.size;omega)).trans kd.2.2.1,(hB.cell (p:=⟨w.heap.size+1,1,none⟩) (by show w.heap.size+1<W5.heap.size;omega)).trans kd.2.2.2⟩
 have HKS:Hid (∀(v1:World) (u v:Value),(v1.cell? ⟨w.heap.size,0,none⟩=some (.bool b)∧v1.cell? ⟨w.heap.size,1,none⟩=some (.slice A n c)∧v1.cell? ⟨w.heap.size+1,0,none⟩=some (.bool b2)∧v1.cell? ⟨w.heap.size+1,1,none⟩=some (.slice B m e))→((v1.setCell ⟨w.heap.size+1+1,0,none⟩ u).setCell ⟨w.heap.size+1+1,1,none⟩ v).cell? ⟨w.heap.size,0,none⟩=some (.bool b)∧((v1.setCell ⟨w.heap.size+1+1,0,none⟩ u).setCell ⟨w.heap.size+1+1,1,none⟩ v).cell? ⟨w.heap.size,1,none⟩=some (.slice A n c)∧((v1.setCell ⟨w.heap.size+1+1,0,none⟩ u).setCell ⟨w.heap.size+1+1,1,none⟩ v).cell? ⟨w.heap.size+1,0,none⟩=some (.bool b2)∧((v1.setCell ⟨w.heap.size+1+1,0,none⟩ u).setCell ⟨w.heap.size+1+1,1,none⟩ v).cell? ⟨w.heap.size+1,1,none⟩=some (.slice B m e)):=Lib.hid fun v1 u v ⟨a1,a2,a3,a4⟩=>
  have h (q:Addr) (hq:w.heap.size+1+1≠q.block):((v1.setCell ⟨w.heap.size+1+1,0,none⟩ u).setCell ⟨w.heap.size+1+1,1,none⟩ v).cell? q=v1.cell? q:=(cell_far _ hq).trans (cell_far _ hq)
  ⟨(h _ (by show w.heap.size+1+1≠w.heap.size;omega)).trans a1,(h _ (by show w.heap.size+1+1≠w.heap.size;omega)).trans a2,(h _ (by show w.heap.size+1+1≠w.heap.size+1;omega)).trans a3,(h _ (by show w.heap.size+1+1≠w.heap.size+1;omega)).trans a4⟩
 have HZ:=Lib.hid (show W5.drew.heap[w.heap.size+1+1]? =some (.cells #[.bool false,.slice none 0 0] 81) from hx2);have HBD:=Lib.hid hBa.drew;have HSD:=Lib.hid (show W5.drew.heap.size=w.heap.size+3 from hsa);have HT:=Lib.hid (times_mag A B n m c e xs ys W5.drew ((HX.out.below HBD.out).mono (by rw[HSD.out];omega)) ((HY.out.below HBD.out).mono (by rw[HSD.out];omega)) HXl.out HYl.out hn hm hc he);clear hx0 hx1 hx2 hBa hsa
 go_region_held3 (fun w'=>w'.cell? ⟨w.heap.size,0,none⟩=some (.bool b)∧w'.cell? ⟨w.heap.size,1,none⟩=some (.slice A n c)∧w'.cell? ⟨w.heap.size+1,0,none⟩=some (.bool b2)∧w'.cell? ⟨w.heap.size+1,1,none⟩=some (.slice B m e)) (first|assumption|exact HKS.out _ _ _ (by assumption)) (first
  |(go_at_call 91;refine HT.out.mono ?_;rintro e w3 ⟨A',n',c',rfl,hM,hB3⟩;have k3:=HKC.out _ hB3;have hb4:=(hB3.block (w.heap.size+1+1) (by rw[HSD.out];omega)).trans HZ.out;have z0:=fJ hb4 0 _ rfl;have z1:=fJ hb4 1 _ rfl;have y0:=gY hb4 0;have y1:=gY hb4 1;have HM:=Lib.hid hM;have HB3:=Lib.hid hB3;have HB4:=Lib.hid hb4;clear hM hB3 hb4))
 all_goals(
  go_wp2
  refine bodyPost_ret (results_cell_row rfl _ _ (w.heap.size+1+1) 81 #[.bool (b != b2),.slice A' n' c'] (0,0) _ rfl (uI HB4.out _ _ _ _) Tryz.underlying81 rfl (by kernel_rfl)) rfl ?_
  exact⟨_,_,_,rfl,(HM.out.set HB4.out (aBv false none 0 0) 0 _).set (iR (cs:=#[.bool false,.slice none 0 0]) HB4.out 0 (.bool (b != b2)) rfl) (aBv _ none 0 0) 1 _,mM (HBD.out.trans (HB3.out.mono (by rw[HSD.out];omega))) aFx _ _⟩)
theorem aEl(u v:Value)(x y:Int)(L M:Nat)(w:World)(hu:NumV w u x L)(hv:NumV w v y M)(hL:L≤1000000)(hM:M≤1000000) :
 Calls Tryz.prog 85 #[u,v] w fun e w'=>∃r,e= .returned r∧NumV w' r (x*y) (L+M)∧Below w.heap.size w w':=by
 obtain⟨b,u',x',rfl,⟨A,n,c,xs,rfl,h1,h2,h3,h4,h5,h6,rfl⟩,rfl⟩:=hu;obtain⟨b2,v',y',rfl,⟨B,m,e,ys,rfl,k1,k2,k3,k4,k5,k6,rfl⟩,rfl⟩:=hv;refine(product_walk A B n m c e xs ys b b2 w h1 k1 h2 k2 aFx aFx h4 k4).mono ?_;rintro E w' ⟨A',n',c',rfl,hMg,hB⟩;refine⟨_,rfl,⟨_,_,_,rfl,hMg.more aFx,?_⟩,hB⟩
 cases b <;> cases b2 <;> simp[Int.neg_mul,Int.mul_neg]
end Go.Proofs.YtignanmmgaldeaaGreatDoor
namespace Go.Proofs.YtignanmmgaldeaaGreatDoor
open Go.RowKit Go.Shelf Go.Proofs.YtignanmmgaldeaaGreatDoorW.PrintWords
theorem add_ok(a b:ByteArray)(w:World)(ha0:chkI a=0)(hb0:chkI b=0)(ha:a.size≤9223372036854775807)(hb:b.size≤9223372036854775807)(hG:GW w) :
 Calls Tryz.prog 22 #[.string a,.string b] w fun e w'=>e= .returned (.tuple #[.string (wrS (aV a+aV b)),.int .i64 (wrE (aV a+aV b))])∧Below w.heap.size w w':=by
 have HP:=Lib.hid (fun w=>oZ a b w ha0 hb0 ha hb);have HG:=Lib.hid hG;go_enter Tryz.func22,Tryz.ntmps22
 clear ha0 hb0 ha hb hG
 go_wp2_with(first
  |(go_at_call 79;refine(HP.out _).mono ?_;rintro e w1 ⟨d,A,n,c,d2,B,m,c2,rfl,hn1,hn2,hB⟩;have HN1:=Lib.hid hn1;have HN2:=Lib.hid hn2;have HB:=Lib.hid hB;clear hn1 hn2 hB HP)
  |(go_at_call 81;refine(sum_num _ _ (aV a) (aV b) 456 _ (HN1.out.below (((Below.refl _ w1).alloc (Nat.le_refl _) _).alloc aFz _)) (HN2.out.below (((Below.refl _ w1).alloc (Nat.le_refl _) _).alloc aFz _)) aFx).mono ?_;rintro e w3 ⟨r,rfl,hr,hB3⟩;have hB4:=HB.out.trans (((((Below.refl _ w1).alloc (Nat.le_refl _) _).alloc aFz _).trans (hB3.mono (by simp;omega))).mono HB.out.size);have hg3:=HG.out.below hB4;have HR:=Lib.hid hr;have HB4:=Lib.hid hB4;have HG3:=Lib.hid hg3;clear hr hB3 hB4 hg3)
  |(go_at_call 80;refine(aBb r _ (456+1) w3 HR.out aFx HG3.out).mono ?_;rintro e w4 ⟨rfl,hB5⟩;have HB5:=Lib.hid hB5;clear hB5))
 go_ret2
 exact⟨rfl,HB4.out.trans (HB5.out.mono HB4.out.size)⟩
theorem add_err(a b:ByteArray)(w:World)(c:Int)(hc:iZ a b=c)(h0:c≠0)(ha:a.size≤9223372036854775807)(hb:b.size≤9223372036854775807) :
 Calls Tryz.prog 22 #[.string a,.string b] w fun e w'=>e= .returned (.tuple #[.string ⟨#[]⟩,.int .i64 c])∧Below w.heap.size w w':=by
 have HP:Hid (∀w:World,Calls Tryz.prog 79 #[.string a,.string b] w fun e w'=>∃d A n c1 d2 B m c2,e= .returned (.tuple #[.agg #[.bool d,.slice A n c1],.agg #[.bool d2,.slice B m c2],.int .i64 c])∧Below w.heap.size w w'):=Lib.hid (fun w=>yQ a b w c hc h0 ha hb);have e1:(c != 0)=true:=by simpa using h0
 go_enter Tryz.func22,Tryz.ntmps22
 clear hc ha hb
 go_wp2_with(go_at_call 79;refine(HP.out _).mono ?_;rintro e w1 ⟨d,A,n,c1,d2,B,m,c2,rfl,hB⟩;have HB:=Lib.hid hB;clear hB HP)
 go_ret2
 exact⟨rfl,HB.out.trans ((((Below.refl _ w1).alloc (Nat.le_refl _) _).alloc aFz _).mono HB.out.size)⟩
theorem mul_ok(a b:ByteArray)(w:World)(ha0:chkI a=0)(hb0:chkI b=0)(ha:a.size≤9223372036854775807)(hb:b.size≤9223372036854775807)(hG:GW w) :
 Calls Tryz.prog 26 #[.string a,.string b] w fun e w'=>e= .returned (.tuple #[.string (wrS (aV a*aV b)),.int .i64 (wrE (aV a*aV b))])∧Below w.heap.size w w':=by
 have HP:=Lib.hid (fun w=>oZ a b w ha0 hb0 ha hb);have HG:=Lib.hid hG;go_enter Tryz.func26,Tryz.ntmps26
 clear ha0 hb0 ha hb hG
 go_wp2_with(first
  |(go_at_call 79;refine(HP.out _).mono ?_;rintro e w1 ⟨d,A,n,c,d2,B,m,c2,rfl,hn1,hn2,hB⟩;have HN1:=Lib.hid hn1;have HN2:=Lib.hid hn2;have HB:=Lib.hid hB;clear hn1 hn2 hB HP)
  |(go_at_call 85;refine(aEl _ _ (aV a) (aV b) 456 456 _ (HN1.out.below (((Below.refl _ w1).alloc (Nat.le_refl _) _).alloc aFz _)) (HN2.out.below (((Below.refl _ w1).alloc (Nat.le_refl _) _).alloc aFz _)) aFx aFx).mono ?_;rintro e w3 ⟨r,rfl,hr,hB3⟩;have hB4:=HB.out.trans (((((Below.refl _ w1).alloc (Nat.le_refl _) _).alloc aFz _).trans (hB3.mono (by simp;omega))).mono HB.out.size);have hg3:=HG.out.below hB4;have HR:=Lib.hid hr;have HB4:=Lib.hid hB4;have HG3:=Lib.hid hg3;clear hr hB3 hB4 hg3)
  |(go_at_call 80;refine(aBb r _ (456+456) w3 HR.out aFx HG3.out).mono ?_;rintro e w4 ⟨rfl,hB5⟩;have HB5:=Lib.hid hB5;clear hB5))
 go_ret2
 exact⟨rfl,HB4.out.trans (HB5.out.mono HB4.out.size)⟩
theorem mul_err(a b:ByteArray)(w:World)(c:Int)(hc:iZ a b=c)(h0:c≠0)(ha:a.size≤9223372036854775807)(hb:b.size≤9223372036854775807) :
 Calls Tryz.prog 26 #[.string a,.string b] w fun e w'=>e= .returned (.tuple #[.string ⟨#[]⟩,.int .i64 c])∧Below w.heap.size w w':=by
 have HP:Hid (∀w:World,Calls Tryz.prog 79 #[.string a,.string b] w fun e w'=>∃d A n c1 d2 B m c2,e= .returned (.tuple #[.agg #[.bool d,.slice A n c1],.agg #[.bool d2,.slice B m c2],.int .i64 c])∧Below w.heap.size w w'):=Lib.hid (fun w=>yQ a b w c hc h0 ha hb);have e1:(c != 0)=true:=by simpa using h0
 go_enter Tryz.func26,Tryz.ntmps26
 clear hc ha hb
 go_wp2_with(go_at_call 79;refine(HP.out _).mono ?_;rintro e w1 ⟨d,A,n,c1,d2,B,m,c2,rfl,hB⟩;have HB:=Lib.hid hB;clear hB HP)
 go_ret2
 exact⟨rfl,HB.out.trans ((((Below.refl _ w1).alloc (Nat.le_refl _) _).alloc aFz _).mono HB.out.size)⟩
theorem sub_ok(a b:ByteArray)(w:World)(ha0:chkI a=0)(hb0:chkI b=0)(ha:a.size≤9223372036854775807)(hb:b.size≤9223372036854775807)(hG:GW w) :
 Calls Tryz.prog 24 #[.string a,.string b] w fun e w'=>e= .returned (.tuple #[.string (wrS (aV a+ -aV b)),.int .i64 (wrE (aV a+ -aV b))])∧Below w.heap.size w w':=by
 have HP:=Lib.hid (fun w=>oZ a b w ha0 hb0 ha hb);have HG:=Lib.hid hG;go_enter Tryz.func24,Tryz.ntmps24
 clear ha0 hb0 ha hb hG
 go_wp2_with(go_at_call 79;refine(HP.out _).mono ?_;rintro e w1 ⟨d,A,n,c,d2,B,m,c2,rfl,hn1,hn2,hB⟩;have HN1:=Lib.hid hn1;have HN2:=Lib.hid hn2;have HB:=Lib.hid hB;clear hn1 hn2 hB HP)
 have hb0:((w1.alloc (.cells #[.bool d,.slice A n c] 81)).alloc (.cells #[.bool d2,.slice B m c2] 81)).heap[w1.heap.size]? =some (.cells #[.bool d,.slice A n c] 81):=(Below.heap_alloc _ _ _ aFz).trans (World.alloc_heap_new w1 _)
 have hb1:((w1.alloc (.cells #[.bool d,.slice A n c] 81)).alloc (.cells #[.bool d2,.slice B m c2] 81)).heap[w1.heap.size+1]? =some (.cells #[.bool d2,.slice B m c2] 81):=by
  have:=World.alloc_heap_new (w1.alloc (.cells #[.bool d,.slice A n c] 81)) (.cells #[.bool d2,.slice B m c2] 81)
  rwa [World.size_alloc] at this
 have hBa:Below w1.heap.size w1 ((w1.alloc (.cells #[.bool d,.slice A n c] 81)).alloc (.cells #[.bool d2,.slice B m c2] 81)):=((Below.refl _ w1).alloc (Nat.le_refl _) _).alloc aFz _;have hsz:((w1.alloc (.cells #[.bool d,.slice A n c] 81)).alloc (.cells #[.bool d2,.slice B m c2] 81)).heap.size=w1.heap.size+2:=by simp
 obtain⟨W5,hW5⟩:∃W5,(w1.alloc (.cells #[.bool d,.slice A n c] 81)).alloc (.cells #[.bool d2,.slice B m c2] 81)=W5:=⟨_,rfl⟩
 rw[hW5] at hb0 hb1 hBa hsz ⊢;clear hW5;have c0:=fJ hb0 0 _ rfl;have c1:=fJ hb0 1 _ rfl;have c3:=fJ hb1 0 _ rfl;have c4:=fJ hb1 1 _ rfl
 have HKC:Hid (∀v1 v2:World,w1.heap.size+1<v1.heap.size→Below v1.heap.size v1 v2→(v1.cell? ⟨w1.heap.size,0,none⟩=some (.bool d)∧v1.cell? ⟨w1.heap.size,1,none⟩=some (.slice A n c)∧v1.cell? ⟨w1.heap.size+1,0,none⟩=some (.bool d2)∧v1.cell? ⟨w1.heap.size+1,1,none⟩=some (.slice B m c2))→v2.cell? ⟨w1.heap.size,0,none⟩=some (.bool d)∧v2.cell? ⟨w1.heap.size,1,none⟩=some (.slice A n c)∧v2.cell? ⟨w1.heap.size+1,0,none⟩=some (.bool d2)∧v2.cell? ⟨w1.heap.size+1,1,none⟩=some (.slice B m c2)):=Lib.hid fun v1 v2 hl hB ⟨a1,a2,a3,a4⟩=>
  ⟨(hB.cell (p:=⟨w1.heap.size,0,none⟩) (by show w1.heap.size<_;omega)).trans a1,(hB.cell (p:=⟨w1.heap.size,1,none⟩) (by show w1.heap.size<_;omega)).trans a2,(hB.cell (p:=⟨w1.heap.size+1,0,none⟩) hl).trans a3,(hB.cell (p:=⟨w1.heap.size+1,1,none⟩) hl).trans a4⟩
 have kd:W5.drew.cell? ⟨w1.heap.size,0,none⟩=some (.bool d)∧W5.drew.cell? ⟨w1.heap.size,1,none⟩=some (.slice A n c)∧W5.drew.cell? ⟨w1.heap.size+1,0,none⟩=some (.bool d2)∧W5.drew.cell? ⟨w1.heap.size+1,1,none⟩=some (.slice B m c2):=⟨c0,c1,c3,c4⟩;have HBD:=Lib.hid hBa.drew;have hsd:w1.heap.size+2=W5.drew.heap.size:=hsz.symm;clear hb0 hb1 hBa hsz
 go_region_held3 (fun w'=>w'.cell? ⟨w1.heap.size,0,none⟩=some (.bool d)∧w'.cell? ⟨w1.heap.size,1,none⟩=some (.slice A n c)∧w'.cell? ⟨w1.heap.size+1,0,none⟩=some (.bool d2)∧w'.cell? ⟨w1.heap.size+1,1,none⟩=some (.slice B m c2)) (first|assumption) (first
  |(go_at_call 83;refine(yR d2 B m c2 W5.drew).mono ?_;rintro e w2 ⟨rfl,hB2⟩;have k2:=HKC.out _ _ aFx hB2 kd;have HB2:=Lib.hid hB2;have l9:=hB2.size;clear hB2)
  |(go_at_call 81;refine(sum_num _ _ (aV a) (-aV b) 456 w2 (HN1.out.below (HBD.out.trans (HB2.out.mono aFx))) (HN2.out.neg.below (HBD.out.trans (HB2.out.mono aFx))) aFx).mono ?_;rintro e w3 ⟨r,rfl,hr,hB3⟩;have k3:=HKC.out _ _ aFx hB3 k2;have HR:=Lib.hid hr;have HB3:=Lib.hid hB3;have o5:=hB3.size;clear hB3 hr)
  |(go_at_call 80;refine(aBb r _ (456+1) w3 HR.out aFx (HG.out.below (HB.out.trans ((HBD.out.trans ((HB2.out.mono aFx).trans (HB3.out.mono aFx))).mono HB.out.size)))).mono ?_;rintro e w4 ⟨rfl,hB4⟩;have k4:=HKC.out _ _ aFx hB4 k3;have HB4:=Lib.hid hB4;clear hB4))
 all_goals(
  go_wp2
  go_ret2
  exact⟨rfl,HB.out.trans ((HBD.out.trans ((HB2.out.mono aFx).trans ((HB3.out.mono aFx).trans (HB4.out.mono aFx)))).mono HB.out.size)⟩)
theorem sub_err(a b:ByteArray)(w:World)(c:Int)(hc:iZ a b=c)(h0:c≠0)(ha:a.size≤9223372036854775807)(hb:b.size≤9223372036854775807) :
 Calls Tryz.prog 24 #[.string a,.string b] w fun e w'=>e= .returned (.tuple #[.string ⟨#[]⟩,.int .i64 c])∧Below w.heap.size w w':=by
 have HP:Hid (∀w:World,Calls Tryz.prog 79 #[.string a,.string b] w fun e w'=>∃d A n c1 d2 B m c2,e= .returned (.tuple #[.agg #[.bool d,.slice A n c1],.agg #[.bool d2,.slice B m c2],.int .i64 c])∧Below w.heap.size w w'):=Lib.hid (fun w=>yQ a b w c hc h0 ha hb);have e1:(c != 0)=true:=by simpa using h0
 go_enter Tryz.func24,Tryz.ntmps24
 clear hc ha hb
 go_wp2_with(go_at_call 79;refine(HP.out _).mono ?_;rintro e w1 ⟨d,A,n,c1,d2,B,m,c2,rfl,hB⟩;have HB:=Lib.hid hB;clear hB HP)
 go_ret2
 exact⟨rfl,HB.out.trans ((((Below.refl _ w1).alloc (Nat.le_refl _) _).alloc aFz _).mono HB.out.size)⟩
theorem add_walk(a b:ByteArray)(w:World)(ha:a.size≤9223372036854775807)(hb:b.size≤9223372036854775807)(hG:GW w) :
 Calls Tryz.prog 22 #[.string a,.string b] w fun e w'=>e= .returned (.tuple #[.string (if iZ a b=0 then wrS (aV a+aV b) else⟨#[]⟩),.int .i64 (if iZ a b=0 then wrE (aV a+aV b) else iZ a b)])∧Below w.heap.size w w':=by
 by_cases h:iZ a b=0
 ·rw[if_pos h,if_pos h]
  unfold iZ at h
  split at h
  ·rename_i h1
   exact add_ok a b w h1 h ha hb hG
  ·rename_i h1
   exact absurd h h1
 ·rw[if_neg h,if_neg h]
  exact add_err a b w _ rfl h ha hb
theorem sub_walk(a b:ByteArray)(w:World)(ha:a.size≤9223372036854775807)(hb:b.size≤9223372036854775807)(hG:GW w) :
 Calls Tryz.prog 24 #[.string a,.string b] w fun e w'=>e= .returned (.tuple #[.string (if iZ a b=0 then wrS (aV a+ -aV b) else⟨#[]⟩),.int .i64 (if iZ a b=0 then wrE (aV a+ -aV b) else iZ a b)])∧Below w.heap.size w w':=by
 by_cases h:iZ a b=0
 ·rw[if_pos h,if_pos h]
  unfold iZ at h
  split at h
  ·rename_i h1
   exact sub_ok a b w h1 h ha hb hG
  ·rename_i h1
   exact absurd h h1
 ·rw[if_neg h,if_neg h]
  exact sub_err a b w _ rfl h ha hb
theorem mul_walk(a b:ByteArray)(w:World)(ha:a.size≤9223372036854775807)(hb:b.size≤9223372036854775807)(hG:GW w) :
 Calls Tryz.prog 26 #[.string a,.string b] w fun e w'=>e= .returned (.tuple #[.string (if iZ a b=0 then wrS (aV a*aV b) else⟨#[]⟩),.int .i64 (if iZ a b=0 then wrE (aV a*aV b) else iZ a b)])∧Below w.heap.size w w':=by
 by_cases h:iZ a b=0
 ·rw[if_pos h,if_pos h]
  unfold iZ at h
  split at h
  ·rename_i h1
   exact mul_ok a b w h1 h ha hb hG
  ·rename_i h1
   exact absurd h h1
 ·rw[if_neg h,if_neg h]
  exact mul_err a b w _ rfl h ha hb
end Go.Proofs.YtignanmmgaldeaaGreatDoor
end
section
set_option linter.unusedVariables false
set_option linter.unusedSimpArgs false
set_option maxRecDepth 100000
set_option maxHeartbeats 4000000
namespace Go.Proofs.YtignanmmgaldeaaGreatDoor
open Go.RowKit Go.Shelf Go.Proofs.YtignanmmgaldeaaGreatDoorW.PrintWords
theorem shF_low(d:Int)(xs:List Int)(n:Nat):∀k,k≤n→∀i,i<n-k→(shF d xs (bwl n k)).1[i]?.getD 0=0
 |0,_,i,hi=>by
  rw[Nat.sub_zero] at hi
  simp[shF,bwl,List.getElem?_replicate,hi]
 |k+1,hk,i,hi=>by
  rw[uH n k aFx,aC5]
  dsimp only
  rw[List.getElem?_set_ne aFx];exact shF_low d xs n k aFx i aFx
theorem shF_val(d:Int)(hd:1≤d)(xs:List Int)(n:Nat)(hn:xs.length=n):∀k,k≤n→pval (shF d xs (bwl n k)).1 n*d+(shF d xs (bwl n k)).2*1000000000 ^ (n-k)+pval xs (n-k)=lval xs
 |0,_=>by
  have:pval (shF d xs (bwl n 0)).1 n=0:=aBo n n;rw[this];simp[shF,bwl,lval,hn]
 |k+1,hk=>by
  have ih:=shF_val d hd xs n hn k aFx;have hl:=aBt d xs (bwl n k);have hz:=shF_low d xs n k aFx (n-1-k) aFx;rw[show n-k=(n-(k+1))+1 from by omega,nI,pval] at ih;rw[show n-(k+1)=n-1-k from by omega] at ih ⊢;rw[uH n k aFx,aC5]
  dsimp only
  rw[yT _ _ _ (by rw[hl];omega) n aFx,hz,Int.sub_zero];generalize (shF d xs (bwl n k)).2=rest at ih ⊢;generalize pval (shF d xs (bwl n k)).1 n=P at ih ⊢;generalize xs[n-1-k]?.getD 0=x at ih ⊢;generalize (1000000000:Int) ^ (n-1-k)=p at ih ⊢;have h:=Int.emod_add_mul_ediv (rest*1000000000+x) d;have h2:=congrArg (· *p) h;simp only[Int.add_mul] at h2;have e1:d*((rest*1000000000+x)/d)*p=(rest*1000000000+x)/d*p*d:=by rw[Int.mul_comm d,Int.mul_assoc,Int.mul_assoc,Int.mul_comm d p]
  have e2:rest*(1000000000*p)=rest*1000000000*p:=(Int.mul_assoc _ _ _).symm;rw[Int.add_mul];omega
theorem aE9(d:Int)(hd:1≤d){xs:List Int}(hx:limbs xs)(n:Nat):∀k,k≤n→limbs (shF d xs (bwl n k)).1
 |0,_=>fun i=>by by_cases h:i<n <;> simp[shF,bwl,List.getElem?_replicate,h]
 |k+1,hk=>by
  have ih:=aE9 d hd hx n k aFx;have hr:=aDb d hd xs (bwl n k);have h1:=hx (n-1-k);rw[uH n k aFx,aC5]
  dsimp only
  refine aAl ih _ _ ⟨Int.ediv_nonneg aFx aFx,?_⟩;refine Int.ediv_lt_of_lt_mul aFx ?_;have:((shF d xs (bwl n k)).2+1)*1000000000≤d*1000000000:=Int.mul_le_mul_of_nonneg_right aFx aFx;rw[Int.mul_comm 1000000000 d];omega
theorem short_val(d:Int)(hd:1≤d){xs:List Int}(hx:limbs xs)(n:Nat)(hn:xs.length=n):lval (shF d xs (bwl n n)).1=lval xs/d∧(shF d xs (bwl n n)).2=lval xs%d:=by
 have hv:=shF_val d hd xs n hn n (Nat.le_refl _);have hr:=aDb d hd xs (bwl n n);have hl:=aBt d xs (bwl n n);rw[Nat.sub_self] at hv;simp only[Int.pow_zero,Int.mul_one,pval,Int.add_zero] at hv;have e:lval (shF d xs (bwl n n)).1=pval (shF d xs (bwl n n)).1 n:=by rw[lval,hl]
 rw[e];have hu:=Int.ediv_emod_unique (a:=lval xs) (b:=d) (r:=(shF d xs (bwl n n)).2) (q:=pval (shF d xs (bwl n n)).1 n) aFx;have:=hu.2 ⟨by rw[Int.mul_comm d];omega,hr.1,hr.2⟩;exact⟨this.1.symm,this.2.symm⟩
theorem mag_nil(w:World)(L:Nat):Mag w (.slice none 0 0) 0 L:=⟨none,0,0,[],rfl,⟨rfl,by omega,fun h=>by omega⟩,fun i=>by simp,Or.inl rfl,Nat.le_refl _,trivial,Nat.zero_le _,rfl⟩
theorem divide_less(A B:Option Addr)(n m c e:Nat)(xs ys:List Int)(w:World)(hx:RI w.heap.size w A n xs)(hy:RI w.heap.size w B m ys)(h:ordL xs ys<0) :
 Calls Tryz.prog 90 #[.slice A n c,.slice B m e] w fun e w'=>e= .returned (.tuple #[.slice none 0 0,.slice A n c])∧Below w.heap.size w w':=by
 have HO:=Lib.hid (aAh A B n m c e xs ys w hx hy);have h1:decide (ordL xs ys<0)=true:=by simpa using h
 generalize ordL xs ys=o at HO h1;clear hx hy h;go_enter Tryz.func90,Tryz.ntmps90
 go_wp2_with(go_at_call 145;refine HO.out.mono ?_;rintro e w1 ⟨rfl,hB⟩;have HB:=Lib.hid hB;clear hB HO)
 go_ret2
 exact⟨rfl,HB.out⟩
theorem divide_one(A B:Option Addr)(n c e:Nat)(xs ys:List Int)(d:Int)(w:World)(hx:RI w.heap.size w A n xs)(hy:RI w.heap.size w B 1 ys)(hxl:limbs xs)(hn:n≤1000000)(hd:ys[0]?.getD 0=d)(hd1:1≤d)(hd2:d<1000000000)(h:¬ordL xs ys<0) :
 Calls Tryz.prog 90 #[.slice A n c,.slice B 1 e] w fun e w'=>∃A' n' c' B' m' c2,e= .returned (.tuple #[.slice A' n' c',.slice B' m' c2])∧Mag w' (.slice A' n' c') (lval xs/d) n∧Mag w' (.slice B' m' c2) (lval xs%d) 1∧Below w.heap.size w w':=by
 have HO:=Lib.hid (aAh A B n 1 c e xs ys w hx hy);have h1:decide (ordL xs ys<0)=false:=by simpa using h
 generalize ordL xs ys=o at HO h1;obtain⟨ad,rfl,hb,hc⟩:=hy.2.2 aFx;have hcell:=hc 0 aFx;rw[hd,show ad.add 0=ad from by simp[Addr.add]] at hcell;have HC:=Lib.hid hcell;have HX:=Lib.hid hx;have HL:=Lib.hid hxl;have HSV:=Lib.hid (short_val d hd1 hxl n hx.1);have HSL:=Lib.hid (aE9 d hd1 hxl n n (Nat.le_refl _));have hrest:=aDb d hd1 xs (bwl n n);have hlen:=aBt d xs (bwl n n);have HSW:=Lib.hid (fun w1 h=>short_walk A n c xs d w1 h aFx hd1 aFx (fun i=>hxl i.val));generalize (shF d xs (bwl n n)).2=r0 at HSV hrest HSW;generalize (shF d xs (bwl n n)).1=q0 at HSV HSL hlen HSW;clear hx hy h hd hc hcell hxl;go_enter Tryz.func90,Tryz.ntmps90
 go_wp2_with(first
  |(go_at_call 145;refine HO.out.mono ?_;rintro e w1 ⟨rfl,hB⟩;have hz1:=hB.size;have cw:=(hB.cell (p:=ad) hb).trans HC.out;have HB:=Lib.hid hB;clear hB HO)
  |(go_at_call 171;refine(HSW.out w1 ((HX.out.below HB.out).mono hz1)).mono ?_;rintro e w2 ⟨rfl,hR,hB2⟩;have HR:=Lib.hid hR;have HB2:=Lib.hid hB2;have hz2:=hB2.size;clear hR hB2 cw)
  |(go_at_call 172;refine(yM _ _ _ [r0] _ (lI (World.alloc_heap_new w2 _) aFz) aFz aFx).mono ?_;rintro e w3 ⟨rfl,rfl⟩))
 go_ret2
 have hW3:Below w2.heap.size w2 (w2.alloc (.cells #[.int .i64 r0] 3)):=(Below.refl _ w2).alloc (Nat.le_refl _) _;have hq:=lI HR.out aFx;rw[hlen] at hq;have hM1:Mag w2 (.slice (some ⟨w1.heap.size+1,0,none⟩) (tlen q0 q0.length) n) (lval xs/d) n:=oD (lI HR.out aFx) (fun ad e=>by cases e;exact HR.out.lt) HSL.out aFx aFx (Nat.le_trans (nN _ _) aFx) HSV.out.1;rw[hlen] at hM1
 have hlr:limbs [r0]:=fun i=>by
  match i with
  |0=>simp;omega
  |i+1=>simp
 have hM2:Mag (w2.alloc (.cells #[.int .i64 r0] 3)) (.slice (some ⟨w2.heap.size,0,none⟩) (tlen [r0] [r0].length) 1) (lval xs%d) 1:=oD (l:= [r0]) (lI (World.alloc_heap_new w2 _) aFz) (fun ad e=>by cases e;simp) hlr aFz aFx (nN _ _) (by rw[←HSV.out.2];simp[lval,pval]);exact⟨_,_,_,_,_,_,rfl,hM1.below hW3,hM2,(HB.out.trans (HB2.out.mono hz1)).trans (hW3.mono aFx)⟩
end Go.Proofs.YtignanmmgaldeaaGreatDoor
namespace Go.Proofs.YtignanmmgaldeaaGreatDoor
open Go.RowKit Go.Shelf Go.Proofs.YtignanmmgaldeaaGreatDoorW.PrintWords
def DivH(xs ys:List Int)(K:Nat):Prop:=∀(A B:Option Addr) (n m c e:Nat) (w:World),RI w.heap.size w A n xs→RI w.heap.size w B m ys→n≤c→m≤e →
 Calls Tryz.prog 90 #[.slice A n c,.slice B m e] w fun e w'=>∃A' n' c' B' m' c2,e= .returned (.tuple #[.slice A' n' c',.slice B' m' c2])∧Mag w' (.slice A' n' c') (lval xs/lval ys) K∧Mag w' (.slice B' m' c2) (lval xs%lval ys) K∧Below w.heap.size w w'
theorem div_small{xs ys:List Int}(hx:limbs xs)(hy:limbs ys)(tx:topped xs)(ty:topped ys)(hn:xs.length≤1000000)(h0:0<lval ys)(hs:lval xs<lval ys∨lval ys<1000000000):DivH xs ys (xs.length+1):=by
 intro A B n m c e w hX hY hnc hme;have ho:=(aDe hx hy tx ty).1;have hp:=rJ hx
 by_cases h:lval xs<lval ys
 ·refine(divide_less A B n m c e xs ys w hX hY (ho.2 h)).mono ?_
  rintro E w' ⟨rfl,hB⟩;refine⟨_,_,_,_,_,_,rfl,?_,?_,hB⟩
  ·rw[Int.ediv_eq_zero_of_lt hp h];exact mag_nil w' _
  ·rw[Int.emod_eq_of_lt hp h]
   exact⟨A,n,c,xs,rfl,(hX.below hB).mono hB.size,hx,tx,hnc,trivial,by rw[←hX.1];omega,rfl⟩
 ·have hy1:lval ys<1000000000:=by omega
  have hm1:m=1:=by
   have hl:=hY.1;rcases Nat.lt_or_ge 1 m with h2|h2
   ·have:=aE5 hy ty aFx
    have:=base_mono (m:=1) (n:=ys.length-1) aFx;omega
   ·rcases Nat.eq_zero_or_pos m with e|e
    ·have:=(sU hy ty).2 aFx;omega
    ·omega
  subst hm1;have hl:=hY.1;have hd:lval ys=ys[0]?.getD 0:=by rw[lval,hl];simp[pval]
  have hb:=hy 0;refine(divide_one A B n c e xs ys (ys[0]?.getD 0) w hX hY hx (by rw[←hX.1];exact hn) rfl aFx aFx (fun e=>h (ho.1 e))).mono ?_;rintro E w' ⟨A',n',c',B',m',c2,rfl,h1,h2,hB⟩;rw[←hd] at h1 h2;exact⟨_,_,_,_,_,_,rfl,h1.more (by rw[←hX.1];omega),h2.more aFx,hB⟩
theorem fdiv_same(b:Bool)(X Y:Int)(hX:0≤X)(hY:0<Y):Int.fdiv (if b=true then -X else X) (if b=true then -Y else Y)=X/Y∧Int.fmod (if b=true then -X else X) (if b=true then -Y else Y)=(if b=true then -(X%Y) else X%Y):=by
 cases b
 ·simp only[Bool.false_eq_true,if_false]
  exact⟨Int.fdiv_eq_ediv_of_nonneg X aFx,Int.fmod_eq_emod_of_nonneg X aFx⟩
 ·simp only[if_true]
  rw[Int.neg_fdiv_neg,Int.neg_fmod_neg,Int.fdiv_eq_ediv_of_nonneg X aFx,Int.fmod_eq_emod_of_nonneg X aFx];exact⟨rfl,rfl⟩
theorem neg_ediv(X Y:Int)(hY:0<Y):(-X)/Y=(if X%Y=0 then -(X/Y) else -(X/Y+1))∧(-X)%Y=(if X%Y=0 then 0 else Y-X%Y):=by
 have h:=Int.emod_add_mul_ediv X Y;have h1:=Int.emod_nonneg X (show Y≠0 by omega);have h2:=Int.emod_lt_of_pos X hY
 split
 ·rename_i h0
  have:=(Int.ediv_emod_unique (a:= -X) (b:=Y) (r:=0) (q:= -(X/Y)) hY).2 ⟨by rw[Int.mul_neg];omega,by omega,hY⟩;exact this
 ·rename_i h0
  have:=(Int.ediv_emod_unique (a:= -X) (b:=Y) (r:=Y-X%Y) (q:= -(X/Y+1)) hY).2 ⟨by rw[Int.mul_neg,Int.mul_add];omega,by omega,by omega⟩;exact this
theorem fdiv_other(b:Bool)(X Y:Int)(hX:0≤X)(hY:0<Y):Int.fdiv (if b=true then -X else X) (if(!b)=true then -Y else Y)=(if X%Y=0 then -(X/Y) else -(X/Y+1))∧Int.fmod (if b=true then -X else X) (if(!b)=true then -Y else Y)=(if(!b)=true then -(if X%Y=0 then 0 else Y-X%Y) else(if X%Y=0 then 0 else Y-X%Y)):=by
 obtain⟨h1,h2⟩:=neg_ediv X Y hY
 cases b
 ·simp only[Bool.not_false,if_true,Bool.false_eq_true,if_false]
  rw[show X= - -X from(Int.neg_neg X).symm,Int.neg_fdiv_neg,Int.neg_fmod_neg,Int.fdiv_eq_ediv_of_nonneg _ aFx,Int.fmod_eq_emod_of_nonneg _ aFx,Int.neg_neg,h1,h2];exact⟨rfl,rfl⟩
 ·simp only[Bool.not_true,if_true,Bool.false_eq_true,if_false]
  rw[Int.fdiv_eq_ediv_of_nonneg _ aFx,Int.fmod_eq_emod_of_nonneg _ aFx,h1,h2];exact⟨rfl,rfl⟩
theorem aDh{P:Program}{fn:Func}{p q:Tmp}{ty:TypeId}(h:fn.results= #[.cell p ty,.cell q ty])(tmps:Array Value)(w:World)(g g2:Nat)(t:TypeId)(cs cs2:Array Value)(fr fr2:Nat×Nat)(d:TypeDesc)
 (hp:tmps.getD p undef= .pointer (some ⟨g,0,none⟩)) (hg:w.heap[g]? =some (.cells cs t fr)) (hq:tmps.getD q undef= .pointer (some ⟨g2,0,none⟩)) (hg2:w.heap[g2]? =some (.cells cs2 t fr2))
 (hu:P.underlying ty=some d) (hd:(match d with | .struct _| .array _ _=>true|_=>false)=true) (hi:(P.info? ty).map (·.size)=some cs.size) (hi2:(P.info? ty).map (·.size)=some cs2.size) :
 (results fn tmps).run P w= .ok (.tuple #[.agg cs,.agg cs2]) w:=by
 have hp':tmps[p]?.getD undef= .pointer (some ⟨g,0,none⟩):=by simpa using hp
 have hq':tmps[q]?.getD undef= .pointer (some ⟨g2,0,none⟩):=by simpa using hq
 simp[results,h,hp',hq',asAddr,run_loadVar_row w g t ty cs fr d hg hu hd hi,run_loadVar_row w g2 t ty cs2 fr2 d hg2 hu hd hi2]
theorem alloc4(w:World)(o0 o1 o2 o3:Obj):((((w.alloc o0).alloc o1).alloc o2).alloc o3).heap[w.heap.size]? =some o0∧((((w.alloc o0).alloc o1).alloc o2).alloc o3).heap[w.heap.size+1]? =some o1∧((((w.alloc o0).alloc o1).alloc o2).alloc o3).heap[w.heap.size+1+1]? =some o2∧((((w.alloc o0).alloc o1).alloc o2).alloc o3).heap[w.heap.size+1+1+1]? =some o3∧((((w.alloc o0).alloc o1).alloc o2).alloc o3).heap.size=w.heap.size+4∧Below w.heap.size w ((((w.alloc o0).alloc o1).alloc o2).alloc o3):=by
 have h0:=World.alloc_heap_new w o0;have h1:=World.alloc_heap_new (w.alloc o0) o1;have h2:=World.alloc_heap_new ((w.alloc o0).alloc o1) o2;have h3:=World.alloc_heap_new (((w.alloc o0).alloc o1).alloc o2) o3;simp only[World.size_alloc] at h1 h2 h3;refine⟨?_,?_,?_,h3,by simp,((((Below.refl _ w).alloc (Nat.le_refl _) _).alloc (by simp only[World.size_alloc];omega) _).alloc (by simp only[World.size_alloc];omega) _).alloc (by simp only[World.size_alloc];omega) _⟩
 ·exact(Below.heap_alloc _ _ _ (by simp only[World.size_alloc];omega)).trans ((Below.heap_alloc _ _ _ (by simp only[World.size_alloc];omega)).trans ((Below.heap_alloc _ _ _ (by simp only[World.size_alloc];omega)).trans h0))
 ·exact(Below.heap_alloc _ _ _ (by simp only[World.size_alloc];omega)).trans ((Below.heap_alloc _ _ _ (by simp only[World.size_alloc];omega)).trans h1)
 ·exact(Below.heap_alloc _ _ _ (by simp only[World.size_alloc];omega)).trans h2
theorem qF{w:World}{v:Value}{x:Int}{L:Nat}(h:Mag w v x L){g:Nat}{b:Bool}{A:Option Addr}{n c:Nat}{t:TypeId}(hg:w.heap[g]? =some (.cells #[.bool b,.slice A n c] t (0,0)))(d:Bool)(B:Option Addr)(m e:Nat):Mag ((w.setCell ⟨g,0,none⟩ (.bool d)).setCell ⟨g,1,none⟩ (.slice B m e)) v x L:=
 (h.set hg (aBv b A n c) 0 _).set (iR (cs:=#[.bool b,.slice A n c]) hg 0 (.bool d) rfl) (aBv d A n c) 1 _
theorem aA9{w:World}{v:Value}{x:Int}{L:Nat}(h:Mag w v x L):Mag w.drew v x L:=h
theorem quot_same(A B:Option Addr)(n m c e:Nat)(xs ys:List Int)(b:Bool)(K:Nat)(w:World)(hx:RI w.heap.size w A n xs)(hy:RI w.heap.size w B m ys)(hc:n≤c)(he:m≤e)(hD:DivH xs ys K) :
 Calls Tryz.prog 95 #[.agg #[.bool b,.slice A n c],.agg #[.bool b,.slice B m e]] w fun e w'=>∃A1 n1 c1 A2 n2 c2,e= .returned (.tuple #[.agg #[.bool false,.slice A1 n1 c1],.agg #[.bool b,.slice A2 n2 c2]])∧Mag w' (.slice A1 n1 c1) (lval xs/lval ys) K∧Mag w' (.slice A2 n2 c2) (lval xs%lval ys) K∧Below w.heap.size w w':=by
 have HX:=Lib.hid hx;have HY:=Lib.hid hy;have HD:=Lib.hid hD;clear hx hy hD;obtain⟨x0,x1,x2,x3,xz,xB⟩:=alloc4 w (.cells #[.bool b,.slice A n c] 81) (.cells #[.bool b,.slice B m e] 81) (.cells #[.bool false,.slice none 0 0] 81) (.cells #[.bool false,.slice none 0 0] 81);have HDV:Hid (Calls Tryz.prog 90 #[.slice A n c,.slice B m e] ((((w.alloc (.cells #[.bool b,.slice A n c] 81)).alloc (.cells #[.bool b,.slice B m e] 81)).alloc (.cells #[.bool false,.slice none 0 0] 81)).alloc (.cells #[.bool false,.slice none 0 0] 81)) fun E w'=>∃A' n' c' B' m' c2,E= .returned (.tuple #[.slice A' n' c',.slice B' m' c2])∧Mag w' (.slice A' n' c') (lval xs/lval ys) K∧Mag w' (.slice B' m' c2) (lval xs%lval ys) K∧Below ((((w.alloc (.cells #[.bool b,.slice A n c] 81)).alloc (.cells #[.bool b,.slice B m e] 81)).alloc (.cells #[.bool false,.slice none 0 0] 81)).alloc (.cells #[.bool false,.slice none 0 0] 81)).heap.size ((((w.alloc (.cells #[.bool b,.slice A n c] 81)).alloc (.cells #[.bool b,.slice B m e] 81)).alloc (.cells #[.bool false,.slice none 0 0] 81)).alloc (.cells #[.bool false,.slice none 0 0] 81)) w'):=Lib.hid (HD.out A B n m c e _ ((HX.out.below xB).mono (by rw[xz];omega)) ((HY.out.below xB).mono (by rw[xz];omega)) hc he);have X0:=Lib.hid x0;have X1:=Lib.hid x1;have X2:=Lib.hid x2;have X3:=Lib.hid x3;have XZ:=Lib.hid xz;have XB:=Lib.hid xB;clear x0 x1 x2 x3 xz xB
 have HKG:Hid (∀(g:Nat) (v1:World) (u v:Value),g≠w.heap.size→g≠w.heap.size+1→(v1.cell? ⟨w.heap.size,0,none⟩=some (.bool b)∧v1.cell? ⟨w.heap.size,1,none⟩=some (.slice A n c)∧v1.cell? ⟨w.heap.size+1,0,none⟩=some (.bool b)∧v1.cell? ⟨w.heap.size+1,1,none⟩=some (.slice B m e))→((v1.setCell ⟨g,0,none⟩ u).setCell ⟨g,1,none⟩ v).cell? ⟨w.heap.size,0,none⟩=some (.bool b)∧((v1.setCell ⟨g,0,none⟩ u).setCell ⟨g,1,none⟩ v).cell? ⟨w.heap.size,1,none⟩=some (.slice A n c)∧((v1.setCell ⟨g,0,none⟩ u).setCell ⟨g,1,none⟩ v).cell? ⟨w.heap.size+1,0,none⟩=some (.bool b)∧((v1.setCell ⟨g,0,none⟩ u).setCell ⟨g,1,none⟩ v).cell? ⟨w.heap.size+1,1,none⟩=some (.slice B m e)):=Lib.hid fun g v1 u v hg0 hg1 ⟨a1,a2,a3,a4⟩=>
  have h (q:Addr) (hq:g≠q.block):((v1.setCell ⟨g,0,none⟩ u).setCell ⟨g,1,none⟩ v).cell? q=v1.cell? q:=(cell_far _ hq).trans (cell_far _ hq)
  ⟨(h _ hg0).trans a1,(h _ hg0).trans a2,(h _ hg1).trans a3,(h _ hg1).trans a4⟩
 go_enter Tryz.func95,Tryz.ntmps95
 go_wp2_with(go_at_call 90;refine HDV.out.mono ?_;rintro E w1 ⟨A1,n1,c1,A2,n2,c2,rfl,hM1,hM2,hB⟩;have y0:=(hB.block w.heap.size (by rw[XZ.out];omega)).trans X0.out;have y1:=(hB.block (w.heap.size+1) (by rw[XZ.out];omega)).trans X1.out;have y2:=(hB.block (w.heap.size+1+1) (by rw[XZ.out];omega)).trans X2.out;have y3:=(hB.block (w.heap.size+1+1+1) (by rw[XZ.out];omega)).trans X3.out;have kx0:=fJ y0 0 _ rfl;have kx1:=fJ y0 1 _ rfl;have ky0:=fJ y1 0 _ rfl;have ky1:=fJ y1 1 _ rfl;have z0:=fJ y2 0 _ rfl;have z1:=fJ y2 1 _ rfl;have z2:=gY y2 0;have z3:=gY y2 1;have r0:=fJ y3 0 _ rfl;have r1:=fJ y3 1 _ rfl;have r2:=gY y3 0;have r3:=gY y3 1;have Y1:=Lib.hid y1;have Y2:=Lib.hid y2;have Y3:=Lib.hid y3;have l9:=Lib.hid hM1;have o5:=Lib.hid hM2;have hbw:=XB.out.trans (hB.mono (by rw[XZ.out];omega));have hzw:=hB.size;rw[XZ.out] at hzw;have HBW:=Lib.hid hbw;clear y0 y1 y2 y3 hM1 hM2 hB hbw HDV)
 have kd:w1.drew.cell? ⟨w.heap.size,0,none⟩=some (.bool b)∧w1.drew.cell? ⟨w.heap.size,1,none⟩=some (.slice A n c)∧w1.drew.cell? ⟨w.heap.size+1,0,none⟩=some (.bool b)∧w1.drew.cell? ⟨w.heap.size+1,1,none⟩=some (.slice B m e):=⟨kx0,kx1,ky0,ky1⟩;clear kx0 kx1 ky0 ky1 X0 X1 X2 X3 XZ XB HX HY HD
 go_region_held3 (fun w'=>w'.cell? ⟨w.heap.size,0,none⟩=some (.bool b)∧w'.cell? ⟨w.heap.size,1,none⟩=some (.slice A n c)∧w'.cell? ⟨w.heap.size+1,0,none⟩=some (.bool b)∧w'.cell? ⟨w.heap.size+1,1,none⟩=some (.slice B m e)) (first|assumption|exact HKG.out _ _ _ _ aFx aFx (by assumption)) (fail)
 go_wp2
 have s1:=(wB (w:=w1) (g:=w.heap.size+1+1) (k:=w.heap.size+1+1+1) aFx (.bool false) (.slice A1 n1 c1)).trans Y3.out;have s2:=(wB (w:=(w1.setCell ⟨w.heap.size+1+1,0,none⟩ (.bool false)).setCell ⟨w.heap.size+1+1,1,none⟩ (.slice A1 n1 c1)) (g:=w.heap.size+1+1+1) (k:=w.heap.size+1+1) aFx (.bool b) (.slice A2 n2 c2)).trans (uI Y2.out false A1 n1 c1);have s3:=uI s1 b A2 n2 c2;refine bodyPost_ret (aDh rfl _ _ (w.heap.size+1+1) (w.heap.size+1+1+1) 81 _ _ (0,0) (0,0) _ rfl s2 rfl s3 Tryz.underlying81 rfl (by kernel_rfl) (by kernel_rfl)) rfl ?_;exact⟨_,_,_,_,_,_,rfl,aA9 (qF (qF l9.out Y2.out _ _ _ _) s1 _ _ _ _),aA9 (qF (qF o5.out Y2.out _ _ _ _) s1 _ _ _ _),(mM (mM HBW.out aFx _ _) aFx _ _).drew⟩
end Go.Proofs.YtignanmmgaldeaaGreatDoor
namespace Go.Proofs.YtignanmmgaldeaaGreatDoor
open Go.RowKit Go.Shelf Go.Proofs.YtignanmmgaldeaaGreatDoorW.PrintWords
theorem plus_mag(u v:Value)(x y:Int)(L:Nat)(w:World)(hu:Mag w u x L)(hv:Mag w v y L)(hL:L≤1000000) :
 Calls Tryz.prog 174 #[u,v] w fun E w'=>∃A n c,E= .returned (.slice A n c)∧Mag w' (.slice A n c) (x+y) (L+1)∧Below w.heap.size w w':=by
 obtain⟨A,n,c,xs,rfl,h1,h2,h3,h4,h5,h6,rfl⟩:=hu;obtain⟨B,m,e,ys,rfl,k1,k2,k3,k4,k5,k6,rfl⟩:=hv;have hpl:=plL_le xs ys L (by rw[h1.1];exact h6) (by rw[k1.1];exact k6);refine(plus_walk A B n m c e xs ys w h1 k1 h2 k2 aFx aFx).mono ?_;rintro E w' ⟨rfl,hR,hB⟩;exact⟨_,_,_,rfl,oD (lI hR aFx) (fun ad e=>by cases e;exact hR.lt) (plL_limbs xs ys) (Nat.le_refl _) aFx (Nat.le_trans (nN _ _) hpl) (plL_val h2 k2),hB⟩
theorem minus_mag(u v:Value)(x y:Int)(L:Nat)(w:World)(hu:Mag w u x L)(hv:Mag w v y L)(hL:L≤1000000)(hxy:y≤x) :
 Calls Tryz.prog 175 #[u,v] w fun E w'=>∃A n c,E= .returned (.slice A n c)∧Mag w' (.slice A n c) (x-y) L∧Below w.heap.size w w':=by
 obtain⟨A,n,c,xs,rfl,h1,h2,h3,h4,h5,h6,rfl⟩:=hu;obtain⟨B,m,e,ys,rfl,k1,k2,k3,k4,k5,k6,rfl⟩:=hv;have hml:(mnL xs ys).length=n:=by rw[mnL,sH];exact h1.1
 refine(aDd A B n m c e xs ys w h1 k1 h2 k2 aFx aFx).mono ?_;rintro E w' ⟨rfl,hR,hB⟩;exact⟨_,_,_,rfl,oD (lI hR aFx) (fun ad e=>by cases e;exact hR.lt) (aCi h2 k2) (Nat.le_refl _) aFx (Nat.le_trans (nN _ _) aFx) (mnL_val h2 k2 k3 hxy),hB⟩
theorem rZ{w:World}{A:Option Addr}{n c:Nat}{x:Int}{L:Nat}(h:Mag w (.slice A n c) x L):x=0↔n=0:=by
 obtain⟨A',n',c',xs,he,h1,h2,h3,h4,h5,h6,rfl⟩:=h
 cases he
 rw[sU h2 h3,h1.1]
theorem mag_one(w:World)(L:Nat)(hL:1≤L):Mag (w.alloc (.cells #[.int .i64 1] 3)) (.slice (some ⟨w.heap.size,0,none⟩) 1 1) 1 L:=
 ⟨_,1,1,[1],rfl,⟨rfl,by omega,fun _=>⟨_,rfl,by simp,fun j hj=>by
   obtain rfl:j=0:=by omega
   rw[show(Addr.add ⟨w.heap.size,0,none⟩ 0)=⟨w.heap.size,0,none⟩ from by simp[Addr.add]]
   exact fJ (World.alloc_heap_new w _) 0 _ rfl⟩⟩,fun i=>by
   match i with
   |0=>simp
   |i+1=>simp,Or.inr aFz,Nat.le_refl _,trivial,hL,by simp[lval,pval]⟩
theorem quot_zero(A B:Option Addr)(n m c e:Nat)(xs ys:List Int)(b:Bool)(K:Nat)(w:World)(hx:RI w.heap.size w A n xs)(hy:RI w.heap.size w B m ys)(hc:n≤c)(he:m≤e)(hD:DivH xs ys K)(hz:lval xs%lval ys=0) :
 Calls Tryz.prog 95 #[.agg #[.bool b,.slice A n c],.agg #[.bool (!b),.slice B m e]] w fun e w'=>∃A1 n1 c1 A2 n2 c2,e= .returned (.tuple #[.agg #[.bool true,.slice A1 n1 c1],.agg #[.bool (!b),.slice A2 n2 c2]])∧Mag w' (.slice A1 n1 c1) (lval xs/lval ys) K∧Mag w' (.slice A2 n2 c2) (lval xs%lval ys) K∧Below w.heap.size w w':=by
 have HX:=Lib.hid hx;have HY:=Lib.hid hy;have HD:=Lib.hid hD;clear hx hy hD;obtain⟨x0,x1,x2,x3,xz,xB⟩:=alloc4 w (.cells #[.bool b,.slice A n c] 81) (.cells #[.bool (!b),.slice B m e] 81) (.cells #[.bool false,.slice none 0 0] 81) (.cells #[.bool false,.slice none 0 0] 81);have HDV:Hid (Calls Tryz.prog 90 #[.slice A n c,.slice B m e] ((((w.alloc (.cells #[.bool b,.slice A n c] 81)).alloc (.cells #[.bool (!b),.slice B m e] 81)).alloc (.cells #[.bool false,.slice none 0 0] 81)).alloc (.cells #[.bool false,.slice none 0 0] 81)) fun E w'=>∃A' n' c' B' m' c2,E= .returned (.tuple #[.slice A' n' c',.slice B' m' c2])∧Mag w' (.slice A' n' c') (lval xs/lval ys) K∧Mag w' (.slice B' m' c2) (lval xs%lval ys) K∧Below ((((w.alloc (.cells #[.bool b,.slice A n c] 81)).alloc (.cells #[.bool (!b),.slice B m e] 81)).alloc (.cells #[.bool false,.slice none 0 0] 81)).alloc (.cells #[.bool false,.slice none 0 0] 81)).heap.size ((((w.alloc (.cells #[.bool b,.slice A n c] 81)).alloc (.cells #[.bool (!b),.slice B m e] 81)).alloc (.cells #[.bool false,.slice none 0 0] 81)).alloc (.cells #[.bool false,.slice none 0 0] 81)) w'):=Lib.hid (HD.out A B n m c e _ ((HX.out.below xB).mono (by rw[xz];omega)) ((HY.out.below xB).mono (by rw[xz];omega)) hc he);have X0:=Lib.hid x0;have X1:=Lib.hid x1;have X2:=Lib.hid x2;have X3:=Lib.hid x3;have XZ:=Lib.hid xz;have XB:=Lib.hid xB;clear x0 x1 x2 x3 xz xB
 have HKG:Hid (∀(g:Nat) (v1:World) (u v:Value),g≠w.heap.size→g≠w.heap.size+1→(v1.cell? ⟨w.heap.size,0,none⟩=some (.bool b)∧v1.cell? ⟨w.heap.size,1,none⟩=some (.slice A n c)∧v1.cell? ⟨w.heap.size+1,0,none⟩=some (.bool (!b))∧v1.cell? ⟨w.heap.size+1,1,none⟩=some (.slice B m e))→((v1.setCell ⟨g,0,none⟩ u).setCell ⟨g,1,none⟩ v).cell? ⟨w.heap.size,0,none⟩=some (.bool b)∧((v1.setCell ⟨g,0,none⟩ u).setCell ⟨g,1,none⟩ v).cell? ⟨w.heap.size,1,none⟩=some (.slice A n c)∧((v1.setCell ⟨g,0,none⟩ u).setCell ⟨g,1,none⟩ v).cell? ⟨w.heap.size+1,0,none⟩=some (.bool (!b))∧((v1.setCell ⟨g,0,none⟩ u).setCell ⟨g,1,none⟩ v).cell? ⟨w.heap.size+1,1,none⟩=some (.slice B m e)):=Lib.hid fun g v1 u v hg0 hg1 ⟨a1,a2,a3,a4⟩=>
  have h (q:Addr) (hq:g≠q.block):((v1.setCell ⟨g,0,none⟩ u).setCell ⟨g,1,none⟩ v).cell? q=v1.cell? q:=(cell_far _ hq).trans (cell_far _ hq)
  ⟨(h _ hg0).trans a1,(h _ hg0).trans a2,(h _ hg1).trans a3,(h _ hg1).trans a4⟩
 go_enter Tryz.func95,Tryz.ntmps95
 go_wp2_with(go_at_call 90;refine HDV.out.mono ?_;rintro E w1 ⟨A1,n1,c1,A2,n2,c2,rfl,hM1,hM2,hB⟩;have y0:=(hB.block w.heap.size (by rw[XZ.out];omega)).trans X0.out;have y1:=(hB.block (w.heap.size+1) (by rw[XZ.out];omega)).trans X1.out;have y2:=(hB.block (w.heap.size+1+1) (by rw[XZ.out];omega)).trans X2.out;have y3:=(hB.block (w.heap.size+1+1+1) (by rw[XZ.out];omega)).trans X3.out;have kx0:=fJ y0 0 _ rfl;have kx1:=fJ y0 1 _ rfl;have ky0:=fJ y1 0 _ rfl;have ky1:=fJ y1 1 _ rfl;have z0:=fJ y2 0 _ rfl;have z1:=fJ y2 1 _ rfl;have z2:=gY y2 0;have z3:=gY y2 1;have r0:=fJ y3 0 _ rfl;have r1:=fJ y3 1 _ rfl;have r2:=gY y3 0;have r3:=gY y3 1;have Y1:=Lib.hid y1;have Y2:=Lib.hid y2;have Y3:=Lib.hid y3;obtain rfl:n2=0:=(rZ hM2).1 hz;have l9:=Lib.hid hM1;have o5:=Lib.hid hM2;have hbw:=XB.out.trans (hB.mono (by rw[XZ.out];omega));have hzw:=hB.size;rw[XZ.out] at hzw;have HBW:=Lib.hid hbw;clear y0 y1 y2 y3 hM1 hM2 hB hbw HDV)
 have kd:w1.drew.cell? ⟨w.heap.size,0,none⟩=some (.bool b)∧w1.drew.cell? ⟨w.heap.size,1,none⟩=some (.slice A n c)∧w1.drew.cell? ⟨w.heap.size+1,0,none⟩=some (.bool (!b))∧w1.drew.cell? ⟨w.heap.size+1,1,none⟩=some (.slice B m e):=⟨kx0,kx1,ky0,ky1⟩;clear kx0 kx1 ky0 ky1 X0 X1 X2 X3 XZ XB HX HY HD
 go_region_held3 (fun w'=>w'.cell? ⟨w.heap.size,0,none⟩=some (.bool b)∧w'.cell? ⟨w.heap.size,1,none⟩=some (.slice A n c)∧w'.cell? ⟨w.heap.size+1,0,none⟩=some (.bool (!b))∧w'.cell? ⟨w.heap.size+1,1,none⟩=some (.slice B m e)) (first|assumption|exact HKG.out _ _ _ _ aFx aFx (by assumption)) (fail)
 go_wp2
 have s1:=(wB (w:=w1) (g:=w.heap.size+1+1) (k:=w.heap.size+1+1+1) aFx (.bool true) (.slice A1 n1 c1)).trans Y3.out;have s2:=(wB (w:=(w1.setCell ⟨w.heap.size+1+1,0,none⟩ (.bool true)).setCell ⟨w.heap.size+1+1,1,none⟩ (.slice A1 n1 c1)) (g:=w.heap.size+1+1+1) (k:=w.heap.size+1+1) aFx (.bool (!b)) (.slice A2 0 c2)).trans (uI Y2.out true A1 n1 c1);have s3:=uI s1 (!b) A2 0 c2;refine bodyPost_ret (aDh rfl _ _ (w.heap.size+1+1) (w.heap.size+1+1+1) 81 _ _ (0,0) (0,0) _ rfl s2 rfl s3 Tryz.underlying81 rfl (by kernel_rfl) (by kernel_rfl)) rfl ?_;exact⟨_,_,_,_,_,_,rfl,aA9 (qF (qF l9.out Y2.out _ _ _ _) s1 _ _ _ _),aA9 (qF (qF o5.out Y2.out _ _ _ _) s1 _ _ _ _),(mM (mM HBW.out aFx _ _) aFx _ _).drew⟩
end Go.Proofs.YtignanmmgaldeaaGreatDoor
namespace Go.Proofs.YtignanmmgaldeaaGreatDoor
open Go.RowKit Go.Shelf Go.Proofs.YtignanmmgaldeaaGreatDoorW.PrintWords
theorem quot_rest(A B:Option Addr)(n m c e:Nat)(xs ys:List Int)(b:Bool)(K:Nat)(w:World)(hx:RI w.heap.size w A n xs)(hy:RI w.heap.size w B m ys)(hc:n≤c)(he:m≤e)(hD:DivH xs ys K)(hz:lval xs%lval ys≠0)(hyl:limbs ys)(hyt:topped ys)(hK:K≤999999)(hmK:m≤K)(hK1:1≤K)(hY0:0<lval ys) :
 Calls Tryz.prog 95 #[.agg #[.bool b,.slice A n c],.agg #[.bool (!b),.slice B m e]] w fun e w'=>∃A1 n1 c1 A2 n2 c2,e= .returned (.tuple #[.agg #[.bool true,.slice A1 n1 c1],.agg #[.bool (!b),.slice A2 n2 c2]])∧Mag w' (.slice A1 n1 c1) (lval xs/lval ys+1) (K+1)∧Mag w' (.slice A2 n2 c2) (lval ys-lval xs%lval ys) (K+1)∧Below w.heap.size w w':=by
 have HX:=Lib.hid hx;have HY:=Lib.hid hy;have HD:=Lib.hid hD;clear hx hy hD;obtain⟨x0,x1,x2,x3,xz,xB⟩:=alloc4 w (.cells #[.bool b,.slice A n c] 81) (.cells #[.bool (!b),.slice B m e] 81) (.cells #[.bool false,.slice none 0 0] 81) (.cells #[.bool false,.slice none 0 0] 81);have HDV:Hid (Calls Tryz.prog 90 #[.slice A n c,.slice B m e] ((((w.alloc (.cells #[.bool b,.slice A n c] 81)).alloc (.cells #[.bool (!b),.slice B m e] 81)).alloc (.cells #[.bool false,.slice none 0 0] 81)).alloc (.cells #[.bool false,.slice none 0 0] 81)) fun E w'=>∃A' n' c' B' m' c2,E= .returned (.tuple #[.slice A' n' c',.slice B' m' c2])∧Mag w' (.slice A' n' c') (lval xs/lval ys) K∧Mag w' (.slice B' m' c2) (lval xs%lval ys) K∧Below ((((w.alloc (.cells #[.bool b,.slice A n c] 81)).alloc (.cells #[.bool (!b),.slice B m e] 81)).alloc (.cells #[.bool false,.slice none 0 0] 81)).alloc (.cells #[.bool false,.slice none 0 0] 81)).heap.size ((((w.alloc (.cells #[.bool b,.slice A n c] 81)).alloc (.cells #[.bool (!b),.slice B m e] 81)).alloc (.cells #[.bool false,.slice none 0 0] 81)).alloc (.cells #[.bool false,.slice none 0 0] 81)) w'):=Lib.hid (HD.out A B n m c e _ ((HX.out.below xB).mono (by rw[xz];omega)) ((HY.out.below xB).mono (by rw[xz];omega)) hc he);have X0:=Lib.hid x0;have X1:=Lib.hid x1;have X2:=Lib.hid x2;have X3:=Lib.hid x3;have XZ:=Lib.hid xz;have XB:=Lib.hid xB;clear x0 x1 x2 x3 xz xB
 have HKG:Hid (∀(g:Nat) (v1:World) (u v:Value),g≠w.heap.size→g≠w.heap.size+1→(v1.cell? ⟨w.heap.size,0,none⟩=some (.bool b)∧v1.cell? ⟨w.heap.size,1,none⟩=some (.slice A n c)∧v1.cell? ⟨w.heap.size+1,0,none⟩=some (.bool (!b))∧v1.cell? ⟨w.heap.size+1,1,none⟩=some (.slice B m e))→((v1.setCell ⟨g,0,none⟩ u).setCell ⟨g,1,none⟩ v).cell? ⟨w.heap.size,0,none⟩=some (.bool b)∧((v1.setCell ⟨g,0,none⟩ u).setCell ⟨g,1,none⟩ v).cell? ⟨w.heap.size,1,none⟩=some (.slice A n c)∧((v1.setCell ⟨g,0,none⟩ u).setCell ⟨g,1,none⟩ v).cell? ⟨w.heap.size+1,0,none⟩=some (.bool (!b))∧((v1.setCell ⟨g,0,none⟩ u).setCell ⟨g,1,none⟩ v).cell? ⟨w.heap.size+1,1,none⟩=some (.slice B m e)):=Lib.hid fun g v1 u v hg0 hg1 ⟨a1,a2,a3,a4⟩=>
  have h (q:Addr) (hq:g≠q.block):((v1.setCell ⟨g,0,none⟩ u).setCell ⟨g,1,none⟩ v).cell? q=v1.cell? q:=(cell_far _ hq).trans (cell_far _ hq)
  ⟨(h _ hg0).trans a1,(h _ hg0).trans a2,(h _ hg1).trans a3,(h _ hg1).trans a4⟩
 go_enter Tryz.func95,Tryz.ntmps95
 go_wp2_with fail
 refine HDV.out.mono ?_;rintro E w1 ⟨A1,n1,c1,A2,n2,c2,rfl,hM1,hM2,hB⟩;have y0:=(hB.block w.heap.size (by rw[XZ.out];omega)).trans X0.out;have y1:=(hB.block (w.heap.size+1) (by rw[XZ.out];omega)).trans X1.out;have y2:=(hB.block (w.heap.size+1+1) (by rw[XZ.out];omega)).trans X2.out;have y3:=(hB.block (w.heap.size+1+1+1) (by rw[XZ.out];omega)).trans X3.out;have kx0:=fJ y0 0 _ rfl;have kx1:=fJ y0 1 _ rfl;have ky0:=fJ y1 0 _ rfl;have ky1:=fJ y1 1 _ rfl;have z0:=fJ y2 0 _ rfl;have z1:=fJ y2 1 _ rfl;have z2:=gY y2 0;have z3:=gY y2 1;have r0:=fJ y3 0 _ rfl;have r1:=fJ y3 1 _ rfl;have r2:=gY y3 0;have r3:=gY y3 1;have Y1:=Lib.hid y1;have Y2:=Lib.hid y2;have Y3:=Lib.hid y3;have hn2:n2≠0:=fun e0=>hz ((rZ hM2).2 e0)
 have hn4:(0:Int)<(n2:Int):=by omega
 have hn3:decide ((0:Int)<(n2:Int))=true:=decide_eq_true hn4;have l9:=Lib.hid hM1;have o5:=Lib.hid hM2;have hbw:=XB.out.trans (hB.mono (by rw[XZ.out];omega));have hzw:=hB.size;rw[XZ.out] at hzw;have HBW:=Lib.hid hbw;clear y0 y1 y2 y3 hM1 hM2 hB hbw HDV;go_wp2
 have kd0:w1.cell? ⟨w.heap.size,0,none⟩=some (.bool b)∧w1.cell? ⟨w.heap.size,1,none⟩=some (.slice A n c)∧w1.cell? ⟨w.heap.size+1,0,none⟩=some (.bool (!b))∧w1.cell? ⟨w.heap.size+1,1,none⟩=some (.slice B m e):=⟨kx0,kx1,ky0,ky1⟩;have kd:w1.drew.cell? ⟨w.heap.size,0,none⟩=some (.bool b)∧w1.drew.cell? ⟨w.heap.size,1,none⟩=some (.slice A n c)∧w1.drew.cell? ⟨w.heap.size+1,0,none⟩=some (.bool (!b))∧w1.drew.cell? ⟨w.heap.size+1,1,none⟩=some (.slice B m e):=kd0
 have HKL:Hid (∀o:Obj,(w1.alloc o).cell? ⟨w.heap.size,0,none⟩=some (.bool b)∧(w1.alloc o).cell? ⟨w.heap.size,1,none⟩=some (.slice A n c)∧(w1.alloc o).cell? ⟨w.heap.size+1,0,none⟩=some (.bool (!b))∧(w1.alloc o).cell? ⟨w.heap.size+1,1,none⟩=some (.slice B m e)):=Lib.hid fun o=>by
  have hB:=(Below.refl w1.heap.size w1).alloc (Nat.le_refl _) o;exact⟨(hB.cell (p:=⟨w.heap.size,0,none⟩) (by show w.heap.size<_;omega)).trans kx0,(hB.cell (p:=⟨w.heap.size,1,none⟩) (by show w.heap.size<_;omega)).trans kx1,(hB.cell (p:=⟨w.heap.size+1,0,none⟩) (by show w.heap.size+1<_;omega)).trans ky0,(hB.cell (p:=⟨w.heap.size+1,1,none⟩) (by show w.heap.size+1<_;omega)).trans ky1⟩
 have HKB:Hid (∀v1 v2:World,w.heap.size+1<v1.heap.size→Below v1.heap.size v1 v2→(v1.cell? ⟨w.heap.size,0,none⟩=some (.bool b)∧v1.cell? ⟨w.heap.size,1,none⟩=some (.slice A n c)∧v1.cell? ⟨w.heap.size+1,0,none⟩=some (.bool (!b))∧v1.cell? ⟨w.heap.size+1,1,none⟩=some (.slice B m e))→v2.cell? ⟨w.heap.size,0,none⟩=some (.bool b)∧v2.cell? ⟨w.heap.size,1,none⟩=some (.slice A n c)∧v2.cell? ⟨w.heap.size+1,0,none⟩=some (.bool (!b))∧v2.cell? ⟨w.heap.size+1,1,none⟩=some (.slice B m e)):=Lib.hid fun v1 v2 hl hB ⟨a1,a2,a3,a4⟩=>
  ⟨(hB.cell (p:=⟨w.heap.size,0,none⟩) (by show w.heap.size<_;omega)).trans a1,(hB.cell (p:=⟨w.heap.size,1,none⟩) (by show w.heap.size<_;omega)).trans a2,(hB.cell (p:=⟨w.heap.size+1,0,none⟩) hl).trans a3,(hB.cell (p:=⟨w.heap.size+1,1,none⟩) hl).trans a4⟩
 have hmy:Mag w (.slice B m e) (lval ys) K:=⟨B,m,e,ys,rfl,HY.out,hyl,hyt,he,trivial,hmK,rfl⟩;have hal:Below w1.heap.size w1 (w1.alloc (.cells #[.int .i64 1] 3)).drew:=((Below.refl _ w1).alloc (Nat.le_refl _) _).drew;have HAL:=Lib.hid hal;have HZ1:=Lib.hid (show(w1.alloc (.cells #[.int .i64 1] 3)).drew.heap.size=w1.heap.size+1 from World.size_alloc _ _);have HP:=Lib.hid (plus_mag (.slice A1 n1 c1) (.slice (some ⟨w1.heap.size,0,none⟩) 1 1) (lval xs/lval ys) 1 K (w1.alloc (.cells #[.int .i64 1] 3)).drew (l9.out.below hal) (aA9 (mag_one w1 K hK1)) aFx);have hrY:=Int.emod_lt_of_pos (lval xs) hY0;have HMI:Hid (∀v:World,Below w1.heap.size w1 v→Calls Tryz.prog 175 #[.slice B m e,.slice A2 n2 c2] v fun E w'=>∃A n c,E= .returned (.slice A n c)∧Mag w' (.slice A n c) (lval ys-lval xs%lval ys) K∧Below v.heap.size v w'):=Lib.hid fun v hv=>minus_mag _ _ _ _ K v ((hmy.below HBW.out).below hv) (o5.out.below hv) aFx aFx
 clear kx0 kx1 ky0 ky1 X0 X1 X2 X3 XZ XB HX HY HD hmy hal hyl hyt hz hrY
 go_region_held3 (fun w'=>w'.cell? ⟨w.heap.size,0,none⟩=some (.bool b)∧w'.cell? ⟨w.heap.size,1,none⟩=some (.slice A n c)∧w'.cell? ⟨w.heap.size+1,0,none⟩=some (.bool (!b))∧w'.cell? ⟨w.heap.size+1,1,none⟩=some (.slice B m e)) (first|assumption|exact HKL.out _) (first
  |(go_at_call 174;refine HP.out.mono ?_;rintro E w2 ⟨A3,n3,c3,rfl,hM3,hB2⟩;have k2:=HKB.out _ _ (by rw[HZ1.out];omega) hB2 (HKL.out _);have hb2:=HAL.out.trans (hB2.mono (by rw[HZ1.out];omega));have hz2:=hb2.size;have o6:=Lib.hid hM3;have HB2:=Lib.hid hb2;clear hM3 hb2 hB2 HP)
  |(go_at_call 175;refine(HMI.out w2 HB2.out).mono ?_;rintro E w3 ⟨A4,n4,c4,rfl,hM4,hB3⟩;have k3:=HKB.out _ _ aFx hB3 k2;have hb3:=HB2.out.trans (hB3.mono hz2);have hz3:=hb3.size;have o7:=Lib.hid hM4;have o8:=Lib.hid (o6.out.below hB3);have HB3:=Lib.hid hb3;clear hM4 hb3 hB3 HMI))
 have y2:=(HB3.out.block (w.heap.size+1+1) aFx).trans Y2.out;have y3:=(HB3.out.block (w.heap.size+1+1+1) aFx).trans Y3.out;have z0:=fJ y2 0 _ rfl;have z1:=fJ y2 1 _ rfl;have z2:=gY y2 0;have z3:=gY y2 1;have r0:=fJ y3 0 _ rfl;have r1:=fJ y3 1 _ rfl;have r2:=gY y3 0;have r3:=gY y3 1;have Z2:=Lib.hid y2;have Z3:=Lib.hid y3;have HBZ:=Lib.hid (HBW.out.trans (HB3.out.mono aFx));have k3':=k3;obtain⟨kx0,kx1,ky0,ky1⟩:=k3';have hz9:w.heap.size+4≤w3.heap.size:=by omega
 clear y2 y3 k2 HKL HKB HAL HZ1 l9 o5 o6 HB2 HB3 HBW Y1 Y2 Y3;go_wp2
 have kd:w3.drew.cell? ⟨w.heap.size,0,none⟩=some (.bool b)∧w3.drew.cell? ⟨w.heap.size,1,none⟩=some (.slice A n c)∧w3.drew.cell? ⟨w.heap.size+1,0,none⟩=some (.bool (!b))∧w3.drew.cell? ⟨w.heap.size+1,1,none⟩=some (.slice B m e):=k3;clear k3 kx0 kx1 ky0 ky1
 go_region_held3 (fun w'=>w'.cell? ⟨w.heap.size,0,none⟩=some (.bool b)∧w'.cell? ⟨w.heap.size,1,none⟩=some (.slice A n c)∧w'.cell? ⟨w.heap.size+1,0,none⟩=some (.bool (!b))∧w'.cell? ⟨w.heap.size+1,1,none⟩=some (.slice B m e)) (first|assumption|exact HKG.out _ _ _ _ aFx aFx (by assumption)) (fail)
 go_wp2
 have s1:=(wB (w:=w3) (g:=w.heap.size+1+1) (k:=w.heap.size+1+1+1) aFx (.bool true) (.slice A3 n3 c3)).trans Z3.out;have s2:=(wB (w:=(w3.setCell ⟨w.heap.size+1+1,0,none⟩ (.bool true)).setCell ⟨w.heap.size+1+1,1,none⟩ (.slice A3 n3 c3)) (g:=w.heap.size+1+1+1) (k:=w.heap.size+1+1) aFx (.bool (!b)) (.slice A4 n4 c4)).trans (uI Z2.out true A3 n3 c3);have s3:=uI s1 (!b) A4 n4 c4;refine bodyPost_ret (aDh rfl _ _ (w.heap.size+1+1) (w.heap.size+1+1+1) 81 _ _ (0,0) (0,0) _ rfl s2 rfl s3 Tryz.underlying81 rfl (by kernel_rfl) (by kernel_rfl)) rfl ?_;exact⟨_,_,_,_,_,_,rfl,aA9 (qF (qF o8.out Z2.out _ _ _ _) s1 _ _ _ _),aA9 (qF (qF (o7.out.more (Nat.le_succ K)) Z2.out _ _ _ _) s1 _ _ _ _),(mM (mM HBZ.out aFx _ _) aFx _ _).drew⟩
theorem aEa(A B:Option Addr)(n m c e:Nat)(xs ys:List Int)(b b2:Bool)(K:Nat)(w:World)(hx:RI w.heap.size w A n xs)(hy:RI w.heap.size w B m ys)(hc:n≤c)(he:m≤e)(hD:DivH xs ys K)(hxl:limbs xs)(hyl:limbs ys)(hyt:topped ys)(hK:K≤999999)(hmK:m≤K)(hK1:1≤K)(hY0:0<lval ys) :
 Calls Tryz.prog 95 #[.agg #[.bool b,.slice A n c],.agg #[.bool b2,.slice B m e]] w fun E w'=>∃d1 A1 n1 c1 d2 A2 n2 c2,E= .returned (.tuple #[.agg #[.bool d1,.slice A1 n1 c1],.agg #[.bool d2,.slice A2 n2 c2]])∧NumV w' (.agg #[.bool d1,.slice A1 n1 c1]) (Int.fdiv (if b=true then -lval xs else lval xs) (if b2=true then -lval ys else lval ys)) (K+1)∧NumV w' (.agg #[.bool d2,.slice A2 n2 c2]) (Int.fmod (if b=true then -lval xs else lval xs) (if b2=true then -lval ys else lval ys)) (K+1)∧Below w.heap.size w w':=by
 have hX0:=rJ hxl
 by_cases hb:b2=b
 ·subst hb
  obtain⟨q1,q2⟩:=fdiv_same b2 (lval xs) (lval ys) hX0 hY0;rw[q1,q2];refine(quot_same A B n m c e xs ys b2 K w hx hy hc he hD).mono ?_;rintro E w' ⟨A1,n1,c1,A2,n2,c2,rfl,h1,h2,hB⟩;exact⟨_,_,_,_,_,_,_,_,rfl,⟨_,_,_,rfl,h1.more (Nat.le_succ K),rfl⟩,⟨_,_,_,rfl,h2.more (Nat.le_succ K),rfl⟩,hB⟩
 ·obtain rfl:b2 = !b:=by cases b <;> cases b2 <;> simp_all
  obtain⟨q1,q2⟩:=fdiv_other b (lval xs) (lval ys) hX0 hY0;rw[q1,q2]
  by_cases hz:lval xs%lval ys=0
  ·rw[if_pos hz,if_pos hz]
   refine(quot_zero A B n m c e xs ys b K w hx hy hc he hD hz).mono ?_;rintro E w' ⟨A1,n1,c1,A2,n2,c2,rfl,h1,h2,hB⟩;rw[hz] at h2;exact⟨_,_,_,_,_,_,_,_,rfl,⟨_,_,_,rfl,h1.more (Nat.le_succ K),rfl⟩,⟨_,_,_,rfl,h2.more (Nat.le_succ K),rfl⟩,hB⟩
  ·rw[if_neg hz,if_neg hz]
   refine(quot_rest A B n m c e xs ys b K w hx hy hc he hD hz hyl hyt hK hmK hK1 hY0).mono ?_;rintro E w' ⟨A1,n1,c1,A2,n2,c2,rfl,h1,h2,hB⟩;exact⟨_,_,_,_,_,_,_,_,rfl,⟨_,_,_,rfl,h1,rfl⟩,⟨_,_,_,rfl,h2,rfl⟩,hB⟩
end Go.Proofs.YtignanmmgaldeaaGreatDoor
end
section
set_option linter.unusedVariables false
set_option linter.unusedSimpArgs false
set_option maxRecDepth 100000
set_option maxHeartbeats 4000000
namespace Go.Proofs.YtignanmmgaldeaaGreatDoor
open Go.RowKit Go.Shelf Go.Proofs.YtignanmmgaldeaaGreatDoorW.PrintWords
def RowN(g:Nat)(L:List Int)(w:World):Prop:=∃base cap,w.ownsRow base 3 1 (.slice (some ⟨g,0,none⟩) L.length cap) L.length (nums .i64 L)
theorem RowN.cell{g:Nat}{L:List Int}{w:World}(h:RowN g L w)(k:Nat)(hk:k<L.length):w.cell? ⟨g,k,none⟩=some (.int .i64 (L[k]?.getD 0)):=by
 obtain⟨base,cap,ho⟩:=h;have:=(own_at ho (k:Int) aFx aFx).1
 rwa [sV,Int.toNat_natCast] at this
theorem RowN.frozen{g:Nat}{L:List Int}{w:World}(h:RowN g L w)(k:Nat):w.frozen? ⟨g,k,none⟩=false:=by
 obtain⟨base,cap,ho⟩:=h;rcases ho.2 with ⟨h',_⟩|⟨g',cap',cur,h',_,hh,_⟩
 ·cases h'
 ·have:g=g':=by injection h' with h';injection h' with h';injection h' with h'
  subst this
  simp[World.frozen?,hh]
theorem RowN.store{g:Nat}{L:List Int}{w:World}(h:RowN g L w)(k:Nat)(v:Int):RowN g (L.set k v) (w.setCell ⟨g,k,none⟩ (.int .i64 v)):=by
 obtain⟨base,cap,ho⟩:=h;have:=(own_store ho (k:Int) v).1;rw[Int.toNat_natCast] at this;exact⟨base,cap,by rw[List.length_set];exact this⟩
theorem RI.sJ{B1:Nat}{w:World}{A:Option Addr}{n:Nat}{xs:List Int}{g:Nat}(h:RI B1 w A n xs)(hne:∀ad,A=some ad→ad.block≠g)(o:Nat)(v:Value):RI B1 (w.setCell ⟨g,o,none⟩ v) A n xs:=by
 refine⟨h.1,h.2.1,fun h0=> ?_⟩;obtain⟨ad,e,hl,hc⟩:=h.2.2 h0;refine⟨ad,e,hl,fun i hi=> ?_⟩;have hb:(ad.add i).block=ad.block:=by simp only[Addr.add];split <;> rfl
 exact(cell_far (p:=⟨g,o,none⟩) v (by rw[hb];exact fun q=>hne ad e q.symm)).trans (hc i hi)
def Only(g:Nat)(w wr:World):Prop:=w.heap.size≤wr.heap.size∧∀b,b<w.heap.size→b≠g→wr.heap[b]? =w.heap[b]?
theorem Only.refl(g:Nat)(w:World):Only g w w:=⟨Nat.le_refl _,fun _ _ _=>rfl⟩
theorem Only.trans{g:Nat}{w v u:World}(h:Only g w v)(k:Only g v u):Only g w u:=⟨Nat.le_trans h.1 k.1,fun b hb hg=>(k.2 b (Nat.lt_of_lt_of_le hb h.1) hg).trans (h.2 b hb hg)⟩
theorem Only.put{g:Nat}{w wr:World}(h:Only g w wr)(o:Nat)(v:Value):Only g w (wr.setCell ⟨g,o,none⟩ v):=
 ⟨Nat.le_trans h.1 ((Below.refl 0 wr).setCell (p:=⟨g,o,none⟩) (Nat.zero_le _) v).size,fun b hb hg=>(Below.heap_setCell wr ⟨g,o,none⟩ v b hg).trans (h.2 b hb hg)⟩
theorem Only.drewN{g:Nat}{w wr:World}(h:Only g w wr)(k:Nat):Only g w (wr.drewN k):=h
def sbS(ys:List Int)(q:Int)(k:Nat)(c:Int):Int:=if k<ys.length then c+q*ys[k]?.getD 0 else c
def sbF(L:List Int)(j:Nat)(ys:List Int)(q:Int):Nat→List Int×Int
 |0=>(L,0)
 |k+1=>
  if(sbF L j ys q k).1[j+k]?.getD 0-sbS ys q k (sbF L j ys q k).2%1000000000<0
  then((sbF L j ys q k).1.set (j+k) ((sbF L j ys q k).1[j+k]?.getD 0-sbS ys q k (sbF L j ys q k).2%1000000000+1000000000),sbS ys q k (sbF L j ys q k).2/1000000000+1)
  else((sbF L j ys q k).1.set (j+k) ((sbF L j ys q k).1[j+k]?.getD 0-sbS ys q k (sbF L j ys q k).2%1000000000),sbS ys q k (sbF L j ys q k).2/1000000000)
theorem sK(L:List Int)(j:Nat)(ys:List Int)(q:Int):∀k,(sbF L j ys q k).1.length=L.length
 |0=>rfl
 |k+1=>by
  simp only[sbF]
  split <;> simp[sK L j ys q k]
theorem sN(L:List Int)(j:Nat)(ys:List Int)(q:Int)(i:Nat):∀k,i<j∨j+k≤i→(sbF L j ys q k).1[i]? =L[i]?
 |0,_=>rfl
 |k+1,h=>by
  have ih:=sN L j ys q i k aFx;simp only[sbF]
  split <;> (dsimp only;rw[List.getElem?_set_ne aFx,ih])
theorem uJ{q v:Int}(hq0:0≤q)(hq1:q<1000000000)(hv0:0≤v)(hv1:v<1000000000):0≤q*v∧q*v≤999999998000000001:=by
 refine⟨Int.mul_nonneg hq0 hv0,?_⟩;have h1:q*v≤999999999*v:=Int.mul_le_mul_of_nonneg_right aFx hv0;omega
theorem aFb{ys:List Int}(hy:limbs ys){q:Int}(hq0:0≤q)(hq1:q<1000000000)(k:Nat){c:Int}(h0:0≤c)(h1:c≤1000000000):0≤sbS ys q k c∧sbS ys q k c≤999999999000000001:=by
 have hp:=uJ hq0 hq1 (hy k).1 (hy k).2;unfold sbS
 split <;> omega
theorem aCk(L:List Int)(j:Nat){ys:List Int}(hy:limbs ys){q:Int}(hq0:0≤q)(hq1:q<1000000000):∀k,0≤(sbF L j ys q k).2∧(sbF L j ys q k).2≤1000000000
 |0=>by simp[sbF]
 |k+1=>by
  have ih:=aCk L j hy hq0 hq1 k;have hb:=aFb hy hq0 hq1 k ih.1 ih.2;simp only[sbF]
  split <;> (dsimp only;omega)
theorem pU(g j n c:Nat)(B:Option Addr)(m e:Nat)(L ys:List Int)(q:Int)(B0:Nat)(w0 w:World)(hR:RowN g L w)(hg:B0≤g)(hB:Below B0 w0 w)(hj:j+n≤L.length)(B1:Nat)(hy:RI B1 w B m ys)(hne:∀ad,B=some ad→ad.block≠g)(hL:limbs L)(hyl:limbs ys)(hq0:0≤q)(hq1:q<1000000000)(hn:n≤35184372088831)(hm:m≤35184372088831) :
 Calls Tryz.prog 203 #[.slice (some ⟨g,j,none⟩) n c,.slice B m e,.int .i64 q] w fun E w'=>E= .returned (.bool ((sbF L j ys q n).2==0))∧RowN g (sbF L j ys q n).1 w'∧Below B0 w0 w'∧RI B1 w' B m ys∧Only g w w':=by
 have l9:=Lib.hid hR;have HB0:=Lib.hid hB;have HY:=Lib.hid hy;have HL:=Lib.hid hL;have HYL:=Lib.hid hyl;clear hR hB hy hL hyl;go_enter Tryz.func203,Tryz.ntmps203
 go_wp2_with fail
 go_loopw [7,12] (fun cv iv wr=>∃k:Nat,k≤n∧iv= .int .i64 k∧cv= .int .i64 (sbF L j ys q k).2∧Hid (RowN g (sbF L j ys q k).1 wr)∧Hid (Below B0 w0 wr)∧Hid (RI B1 wr B m ys)∧Hid (Only g w wr)) (fun _ i _=>n-(intOf i).toNat)
 case atStart=>exact⟨0,by omega,rfl,rfl,l9,HB0,HY,Lib.hid (Only.refl g w)⟩
 case round=>
  obtain⟨k,hk,rfl,rfl,HR,HB,HYr,HNr⟩:=hrel
  by_cases h0:k<n
  ·have hcar:=aCk L j HYL.out hq0 hq1 k
   have cW:=HR.out.cell (j+k) (by rw[sK];omega);rw[sN L j ys q (j+k) k aFx] at cW;have fW:=HR.out.frozen (j+k);have hv:=HL.out (j+k)
   have hs:Hid (sbF L j ys q (k+1)=if L[j+k]?.getD 0-sbS ys q k (sbF L j ys q k).2%1000000000<0 then((sbF L j ys q k).1.set (j+k) (L[j+k]?.getD 0-sbS ys q k (sbF L j ys q k).2%1000000000+1000000000),sbS ys q k (sbF L j ys q k).2/1000000000+1) else((sbF L j ys q k).1.set (j+k) (L[j+k]?.getD 0-sbS ys q k (sbF L j ys q k).2%1000000000),sbS ys q k (sbF L j ys q k).2/1000000000)):=by
    show sbF L j ys q (k+1)=_;rw[sbF,sN L j ys q (j+k) k aFx]
   generalize L[j+k]?.getD 0=v at *
   by_cases h2:k<m
   ·obtain⟨ad2,rfl,hlt2,hc2⟩:=HYr.out.2.2 aFx
    have cY:=hc2 k h2;have hu:=HYL.out k;have hp:=uJ hq0 hq1 hu.1 hu.2;clear hc2
    have HT:Hid (sbS ys q k (sbF L j ys q k).2=(sbF L j ys q k).2+q*ys[k]?.getD 0):=by
     show sbS _ _ _ _=_;rw[sbS,if_pos (by rw[HY.out.1];omega)]
    generalize ys[k]?.getD 0=u at *
    generalize hcc:(sbF L j ys q k).2=cc at *
    have HC:=Lib.hid hcc;clear hcc
    by_cases hd:v-(cc+q*u)%1000000000<0
    ·have ht:Hid (sbF L j ys q (k+1)=((sbF L j ys q k).1.set (j+k) (v-(cc+q*u)%1000000000+1000000000),(cc+q*u)/1000000000+1)):=by
      show sbF L j ys q (k+1)=_;rw[hs.out,HT.out,if_pos hd]
     go_wp2
     refine⟨⟨k+1,by omega,rfl,by rw[ht.out],Lib.hid ?_,Lib.hid (HB.out.setCell (p:=⟨g,j+k,none⟩) hg _),Lib.hid (HYr.out.sJ hne (j+k) _),Lib.hid (HNr.out.put (j+k) _)⟩,by simp only[intOf];omega⟩;rw[ht.out];exact HR.out.store (j+k) _
    ·have ht:Hid (sbF L j ys q (k+1)=((sbF L j ys q k).1.set (j+k) (v-(cc+q*u)%1000000000),(cc+q*u)/1000000000)):=by
      show sbF L j ys q (k+1)=_;rw[hs.out,HT.out,if_neg hd]
     go_wp2
     refine⟨⟨k+1,by omega,rfl,by rw[ht.out],Lib.hid ?_,Lib.hid (HB.out.setCell (p:=⟨g,j+k,none⟩) hg _),Lib.hid (HYr.out.sJ hne (j+k) _),Lib.hid (HNr.out.put (j+k) _)⟩,by simp only[intOf];omega⟩;rw[ht.out];exact HR.out.store (j+k) _
   ·have HT:Hid (sbS ys q k (sbF L j ys q k).2=(sbF L j ys q k).2):=by
     show sbS _ _ _ _=_;rw[sbS,if_neg (by rw[HY.out.1];omega)]
    generalize hcc:(sbF L j ys q k).2=cc at *
    have HC:=Lib.hid hcc;clear hcc
    by_cases hd:v-(cc)%1000000000<0
    ·have ht:Hid (sbF L j ys q (k+1)=((sbF L j ys q k).1.set (j+k) (v-(cc)%1000000000+1000000000),(cc)/1000000000+1)):=by
      show sbF L j ys q (k+1)=_;rw[hs.out,HT.out,if_pos hd]
     go_wp2
     refine⟨⟨k+1,by omega,rfl,by rw[ht.out],Lib.hid ?_,Lib.hid (HB.out.setCell (p:=⟨g,j+k,none⟩) hg _),Lib.hid (HYr.out.sJ hne (j+k) _),Lib.hid (HNr.out.put (j+k) _)⟩,by simp only[intOf];omega⟩;rw[ht.out];exact HR.out.store (j+k) _
    ·have ht:Hid (sbF L j ys q (k+1)=((sbF L j ys q k).1.set (j+k) (v-(cc)%1000000000),(cc)/1000000000)):=by
      show sbF L j ys q (k+1)=_;rw[hs.out,HT.out,if_neg hd]
     go_wp2
     refine⟨⟨k+1,by omega,rfl,by rw[ht.out],Lib.hid ?_,Lib.hid (HB.out.setCell (p:=⟨g,j+k,none⟩) hg _),Lib.hid (HYr.out.sJ hne (j+k) _),Lib.hid (HNr.out.put (j+k) _)⟩,by simp only[intOf];omega⟩;rw[ht.out];exact HR.out.store (j+k) _
  ·obtain rfl:k=n:=by omega
   go_wp2_with fail
   go_ret
   exact⟨rfl,HR.out,HB.out,HYr.out,HNr.out⟩
def wval(L:List Int)(j:Nat):Nat→Int
 |0=>0
 |k+1=>wval L j k+L[j+k]?.getD 0*1000000000 ^ k
theorem aBp{L M:List Int}(j:Nat):∀k,(∀i,i<k→L[j+i]?.getD 0=M[j+i]?.getD 0)→wval L j k=wval M j k
 |0,_=>rfl
 |k+1,h=>by
  rw[wval,wval,aBp j k (fun i hi=>h i aFx),h k aFx]
theorem qI{L:List Int}(hL:limbs L)(j:Nat):∀k,0≤wval L j k
 |0=>Int.le_refl 0
 |k+1=>by
  have ih:=qI hL j k;have h:=Int.mul_nonneg (hL (j+k)).1 (Int.le_of_lt (kQ k));rw[wval];omega
theorem aBx{L:List Int}(hL:limbs L)(j:Nat):∀k,wval L j k<1000000000 ^ k
 |0=>by simp[wval]
 |k+1=>by
  have ih:=aBx hL j k;have h1:L[j+k]?.getD 0*1000000000 ^ k≤999999999*1000000000 ^ k:=Int.mul_le_mul_of_nonneg_right (by have:=(hL (j+k)).2;omega) (Int.le_of_lt (kQ k));rw[wval,nI];omega
theorem zJ(L:List Int)(j:Nat):∀k,pval L (j+k)=pval L j+wval L j k*1000000000 ^ j
 |0=>by simp[wval]
 |k+1=>by
  rw[←Nat.add_assoc,pval,zJ L j k,wval,Int.add_mul,Int.mul_assoc,←Int.pow_add,Nat.add_comm k j];omega
theorem sbS_eq(ys:List Int)(q:Int)(k:Nat)(c:Int):sbS ys q k c=c+q*ys[k]?.getD 0:=by
 unfold sbS
 split
 ·rfl
 ·rw[qW ys k aFx];omega
theorem rM{L:List Int}(hL:limbs L)(j:Nat){ys:List Int}(hy:limbs ys){q:Int}(hq0:0≤q)(hq1:q<1000000000):∀k,limbs (sbF L j ys q k).1
 |0=>hL
 |k+1=>by
  have ih:=rM hL j hy hq0 hq1 k;have hc:=aCk L j hy hq0 hq1 k;have hb:=aFb hy hq0 hq1 k hc.1 hc.2;have hv:=ih (j+k);simp only[sbF]
  split <;> exact aAl ih _ _ aFx
theorem sbF_val{L:List Int}(hL:limbs L)(j:Nat){ys:List Int}(hy:limbs ys){q:Int}(hq0:0≤q)(hq1:q<1000000000):∀k,j+k≤L.length→wval (sbF L j ys q k).1 j k-(sbF L j ys q k).2*1000000000 ^ k=wval L j k-q*pval ys k
 |0,_=>by simp[sbF,wval,pval]
 |k+1,hk=>by
  have ih:=sbF_val hL j hy hq0 hq1 k aFx;have hlen:=sK L j ys q k;have hfar:=sN L j ys q (j+k) k aFx
  have hw (x:Int):wval ((sbF L j ys q k).1.set (j+k) x) j (k+1)=wval (sbF L j ys q k).1 j k+x*1000000000 ^ k:=by
   rw[wval,aBp (M:=(sbF L j ys q k).1) j k (fun i hi=>by rw[List.getElem?_set_ne aFx]),List.getElem?_set_self aFx];rfl
  have hs:=sbS_eq ys q k (sbF L j ys q k).2;have hdm:=Int.emod_add_mul_ediv (sbS ys q k (sbF L j ys q k).2) 1000000000;have hq:q*pval ys (k+1)=q*pval ys k+q*ys[k]?.getD 0*1000000000 ^ k:=by rw[pval,Int.mul_add,Int.mul_assoc]
  have hL1:wval L j (k+1)=wval L j k+L[j+k]?.getD 0*1000000000 ^ k:=rfl;rw[hq,hL1];simp only[sbF,hfar];generalize sbS ys q k (sbF L j ys q k).2=S at *
  generalize q*ys[k]?.getD 0=Y at *
  generalize wval L j k=A at *
  generalize q*pval ys k=C at *
  generalize L[j+k]?.getD 0=v at *
  generalize hcc:(sbF L j ys q k).2=cc at *
  split <;> (dsimp only;rw[hw,nI];generalize wval (sbF L j ys q k).1 j k=D at *;generalize (1000000000:Int) ^ k=p at *)
  ·have h1:(v-S%1000000000+1000000000)*p=v*p-S%1000000000*p+1000000000*p:=by rw[Int.add_mul,Int.sub_mul]
   have h2:(S/1000000000+1)*(1000000000*p)=1000000000*(S/1000000000)*p+1000000000*p:=by rw[Int.add_mul,Int.one_mul,←Int.mul_assoc,Int.mul_comm (S/1000000000)]
   have h3:=congrArg (· *p) hdm;simp only[Int.add_mul] at h3;have h4:S*p=cc*p+Y*p:=by rw[hs,Int.add_mul]
   omega
  ·have h1:(v-S%1000000000)*p=v*p-S%1000000000*p:=by rw[Int.sub_mul]
   have h2:(S/1000000000)*(1000000000*p)=1000000000*(S/1000000000)*p:=by rw[←Int.mul_assoc,Int.mul_comm (S/1000000000)]
   have h3:=congrArg (· *p) hdm;simp only[Int.add_mul] at h3;have h4:S*p=cc*p+Y*p:=by rw[hs,Int.add_mul]
   omega
def adF(L:List Int)(j:Nat)(ys:List Int)(n:Nat):Nat→List Int×Int
 |0=>(L,0)
 |k+1=>
  let s:=(adF L j ys n k).2+(adF L j ys n k).1[j+k]?.getD 0+(if k<n then ys[k]?.getD 0 else 0)
  ((adF L j ys n k).1.set (j+k) (s%1000000000),s/1000000000)
theorem xZ(L:List Int)(j:Nat)(ys:List Int)(n:Nat):∀k,(adF L j ys n k).1.length=L.length
 |0=>rfl
 |k+1=>by simp[adF,xZ L j ys n k]
theorem qG(L:List Int)(j:Nat)(ys:List Int)(n:Nat)(i:Nat):∀k,i<j∨j+k≤i→(adF L j ys n k).1[i]? =L[i]?
 |0,_=>rfl
 |k+1,h=>by
  have ih:=qG L j ys n i k aFx;simp only[adF];rw[List.getElem?_set_ne aFx,ih]
theorem aAm{L:List Int}(hL:limbs L)(j:Nat){ys:List Int}(hy:limbs ys)(n:Nat):∀k,0≤(adF L j ys n k).2∧(adF L j ys n k).2≤1
 |0=>by simp[adF]
 |k+1=>by
  have ih:=aAm hL j hy n k;have h1:=hL (j+k);have h2:=hy k;simp only[adF,qG L j ys n (j+k) k aFx]
  split <;> omega
theorem aAn{L:List Int}(hL:limbs L)(j:Nat)(ys:List Int)(n:Nat):∀k,limbs (adF L j ys n k).1
 |0=>hL
 |k+1=>by
  simp only[adF];exact aAl (aAn hL j ys n k) _ _ aFx
theorem adF_val{L:List Int}(hL:limbs L)(j:Nat){ys:List Int}(n:Nat)(hn:ys.length≤n):∀k,j+k≤L.length→wval (adF L j ys n k).1 j k+(adF L j ys n k).2*1000000000 ^ k=wval L j k+pval ys k
 |0,_=>by simp[adF,wval,pval]
 |k+1,hk=>by
  have ih:=adF_val hL j n hn k aFx;have hlen:=xZ L j ys n k
  have hw (x:Int):wval ((adF L j ys n k).1.set (j+k) x) j (k+1)=wval (adF L j ys n k).1 j k+x*1000000000 ^ k:=by
   rw[wval,aBp (M:=(adF L j ys n k).1) j k (fun i hi=>by rw[List.getElem?_set_ne aFx]),List.getElem?_set_self aFx];rfl
  have hi:(if k<n then ys[k]?.getD 0 else 0)=ys[k]?.getD 0:=by
   split
   ·rfl
   ·rw[qW ys k aFx]
  have hL1:wval L j (k+1)=wval L j k+L[j+k]?.getD 0*1000000000 ^ k:=rfl;rw[pval,hL1];simp only[adF,qG L j ys n (j+k) k aFx,hi];rw[hw,nI];generalize L[j+k]?.getD 0=v at *
  generalize ys[k]?.getD 0=y at *
  generalize hcc:(adF L j ys n k).2=cc at *
  have hdm:=Int.emod_add_mul_ediv (cc+v+y) 1000000000;generalize hS:cc+v+y=S at *
  generalize wval (adF L j ys n k).1 j k=D at *
  generalize (1000000000:Int) ^ k=p at *
  have h2:(S/1000000000)*(1000000000*p)=1000000000*(S/1000000000)*p:=by rw[←Int.mul_assoc,Int.mul_comm (S/1000000000)]
  have h3:=congrArg (· *p) hdm;simp only[Int.add_mul] at h3;have h4:S*p=cc*p+v*p+y*p:=by rw[←hS,Int.add_mul,Int.add_mul]
  omega
end Go.Proofs.YtignanmmgaldeaaGreatDoor
namespace Go.Proofs.YtignanmmgaldeaaGreatDoor
open Go.RowKit Go.Shelf Go.Proofs.YtignanmmgaldeaaGreatDoorW.PrintWords Go.Proofs.YtignanmmgaldeaaGreatDoorW.PrintLast Go.Proofs.YtignanmmgaldeaaGreatDoorW.PrintMore
attribute [local go_sem] dQ dR eH eP
theorem est_up{W V T v1 p q:Int}(hp:0<p)(hV:v1*p≤V)(hW:W<(T+1)*p)(hq:T+1≤(q+1)*v1)(hq0:0≤q):W<(q+1)*V:=by
 have h1:(T+1)*p≤(q+1)*v1*p:=Int.mul_le_mul_of_nonneg_right hq (Int.le_of_lt hp);have h2:(q+1)*(v1*p)≤(q+1)*V:=Int.mul_le_mul_of_nonneg_left hV aFx;rw[←Int.mul_assoc] at h2;omega
theorem est_mul(q v1 v2:Int):q*(v1*1000000000+v2)=q*v1*1000000000+q*v2:=by rw[Int.mul_add,Int.mul_assoc]
theorem est_dec{W V T v1 v2 u2 q p:Int}(hp:0<p)(hV:(v1*1000000000+v2)*p≤V)(hW:W<(T*1000000000+u2+1)*p)(hq0:0≤q)(hc:(T-q*v1)*1000000000+u2<q*v2):W<q*V:=by
 have h0:=est_mul q v1 v2;have h1:(T*1000000000+u2+1)*p≤q*(v1*1000000000+v2)*p:=Int.mul_le_mul_of_nonneg_right aFx (Int.le_of_lt hp);have h2:q*((v1*1000000000+v2)*p)≤q*V:=Int.mul_le_mul_of_nonneg_left hV hq0;rw[←Int.mul_assoc] at h2;omega
theorem est_ok{W V T v1 v2 u2 q p:Int}(hp:0<p)(hV:V<(v1*1000000000+v2+1)*p)(hV0:0≤V)(hW:(T*1000000000+u2)*p≤W)(hW0:0≤W)(hq0:0≤q)(hq1:q≤999999999)(hv1:1≤v1)(hv2:0≤v2∧v2<1000000000)(hu2:0≤u2)(hx:1000000000≤T-q*v1∨q*v2≤(T-q*v1)*1000000000+u2):(q-1)*V≤W:=by
 by_cases h:q=0
 ·subst h;omega
 ·have hb:=uJ hq0 (by omega:q<1000000000) hv2.1 hv2.2
  have h1:(q-1)*V≤(q-1)*((v1*1000000000+v2+1)*p):=Int.mul_le_mul_of_nonneg_left (Int.le_of_lt hV) aFx
  have h2:(q-1)*(v1*1000000000+v2+1)=q*v1*1000000000+q*v2+q-v1*1000000000-v2-1:=by
   rw[Int.sub_mul,Int.one_mul,Int.mul_add,Int.mul_add,Int.mul_one,Int.mul_assoc];omega
  have h3:(q-1)*(v1*1000000000+v2+1)*p≤(T*1000000000+u2)*p:=Int.mul_le_mul_of_nonneg_right (by rw[h2];rcases hx with hx|hx <;> omega) (Int.le_of_lt hp);rw[←Int.mul_assoc] at h1;omega
theorem est_fin{W V q r:Int}(hV:0<V)(h:r+V*q=W)(h0:0≤r)(h1:r<V):W/V=q∧W%V=r:=(Int.ediv_emod_unique hV).2 ⟨h,h0,h1⟩
theorem wval_top{L:List Int}(hL:limbs L)(j n:Nat):((L[j+(n+2)]?.getD 0*1000000000+L[j+(n+1)]?.getD 0)*1000000000+L[j+n]?.getD 0)*1000000000 ^ n≤wval L j (n+2+1)∧wval L j (n+2+1)<((L[j+(n+2)]?.getD 0*1000000000+L[j+(n+1)]?.getD 0)*1000000000+L[j+n]?.getD 0+1)*1000000000 ^ n∧wval L j (n+2+1)<(L[j+(n+2)]?.getD 0*1000000000+L[j+(n+1)]?.getD 0+1)*1000000000 ^ (n+1):=by
 have h0:=qI hL j n;have h1:=aBx hL j n;have h2:=aBx hL j (n+1);have e1:wval L j (n+1)=wval L j n+L[j+n]?.getD 0*1000000000 ^ n:=rfl;have e:wval L j (n+2+1)=wval L j (n+1)+L[j+(n+1)]?.getD 0*1000000000 ^ (n+1)+L[j+(n+2)]?.getD 0*1000000000 ^ (n+1+1):=rfl;rw[nI (n+1)] at e;generalize L[j+(n+2)]?.getD 0=a at *
 generalize L[j+(n+1)]?.getD 0=b at *
 generalize L[j+n]?.getD 0=c at *
 rw[e]
 have k1:(a*1000000000+b+1)*1000000000 ^ (n+1)=a*(1000000000*1000000000 ^ (n+1))+b*1000000000 ^ (n+1)+1000000000 ^ (n+1):=by
  rw[Int.add_mul,Int.add_mul,Int.one_mul,Int.mul_assoc]
 refine⟨?_,?_,by omega⟩
 all_goals(
  rw[nI n] at *
  have k2:((a*1000000000+b)*1000000000+c)*1000000000 ^ n=a*(1000000000*(1000000000*1000000000 ^ n))+b*(1000000000*1000000000 ^ n)+c*1000000000 ^ n:=by
   simp only[Int.add_mul,Int.mul_assoc]
  have k3:((a*1000000000+b)*1000000000+c+1)*1000000000 ^ n=a*(1000000000*(1000000000*1000000000 ^ n))+b*(1000000000*1000000000 ^ n)+c*1000000000 ^ n+1000000000 ^ n:=by
   simp only[Int.add_mul,Int.mul_assoc,Int.one_mul]
  omega)
theorem lval_top{ys:List Int}(hy:limbs ys)(n:Nat)(hn:ys.length=n+2):(ys[n+1]?.getD 0*1000000000+ys[n]?.getD 0)*1000000000 ^ n≤lval ys∧lval ys<(ys[n+1]?.getD 0*1000000000+ys[n]?.getD 0+1)*1000000000 ^ n∧ys[n+1]?.getD 0*1000000000 ^ (n+1)≤lval ys:=by
 have h0:=qH hy n;have h1:=aBu hy n;have h2:=qH hy (n+1);have e1:pval ys (n+1)=pval ys n+ys[n]?.getD 0*1000000000 ^ n:=rfl;have e:lval ys=pval ys (n+1)+ys[n+1]?.getD 0*1000000000 ^ (n+1):=by rw[lval,hn];rfl
 generalize ys[n+1]?.getD 0=b at *
 generalize ys[n]?.getD 0=c at *
 rw[e];refine⟨?_,?_,by omega⟩
 all_goals(
  rw[nI n] at *
  have k2:(b*1000000000+c)*1000000000 ^ n=b*(1000000000*1000000000 ^ n)+c*1000000000 ^ n:=by
   simp only[Int.add_mul,Int.mul_assoc]
  have k3:(b*1000000000+c+1)*1000000000 ^ n=b*(1000000000*1000000000 ^ n)+c*1000000000 ^ n+1000000000 ^ n:=by
   simp only[Int.add_mul,Int.mul_assoc,Int.one_mul]
  omega)
theorem est_sub{L:List Int}(hL:limbs L)(j m:Nat){ys:List Int}(hy:limbs ys)(hm:ys.length≤m){q:Int}(hq0:0≤q)(hq1:q<1000000000)(hj:j+m≤L.length)(hV:0<lval ys)(hVm:lval ys<1000000000 ^ m)(h1:(q-1)*lval ys≤wval L j m)(h2:wval L j m<(q+1)*lval ys) :
 ((sbF L j ys q m).2=0∧wval L j m/lval ys=q∧wval (sbF L j ys q m).1 j m=wval L j m%lval ys) ∨
 ((sbF L j ys q m).2≠0∧wval L j m/lval ys=q-1∧1≤q∧wval (adF (sbF L j ys q m).1 j ys ys.length m).1 j m=wval L j m%lval ys):=by
 have hs:=sbF_val hL j hy hq0 hq1 m hj;have hc:=aCk L j hy hq0 hq1 m;have hlb:=rM hL j hy hq0 hq1 m;have hw0:=qI hlb j m;have hw1:=aBx hlb j m;have ha:=adF_val hlb j ys.length (Nat.le_refl _) m (by rw[sK];exact hj);have hac:=aAm hlb j hy ys.length m;have hal:=aAn hlb j ys ys.length m;have hx0:=qI hal j m;have hx1:=aBx hal j m;have hW0:=qI hL j m;rw[aA8 ys m hm] at hs ha;generalize (sbF L j ys q m).2=c at *
 generalize wval (sbF L j ys q m).1 j m=S at *
 generalize wval (adF (sbF L j ys q m).1 j ys ys.length m).1 j m=A at *
 generalize (adF (sbF L j ys q m).1 j ys ys.length m).2=c2 at *
 generalize wval L j m=W at *
 generalize lval ys=V at *
 generalize (1000000000:Int) ^ m=P at *
 have e1:(q-1)*V=q*V-V:=by rw[Int.sub_mul,Int.one_mul]
 have e2:(q+1)*V=q*V+V:=by rw[Int.add_mul,Int.one_mul]
 by_cases h0:c=0
 ·subst h0
  left
  have:=est_fin (W:=W) (V:=V) (q:=q) (r:=S) hV (by rw[Int.mul_comm V q];omega) hw0 aFx;exact⟨rfl,this.1,this.2.symm⟩
 ·right
  have c1:c=1:=by
   by_cases h:2≤c
   ·have:2*P≤c*P:=Int.mul_le_mul_of_nonneg_right h aFx
    omega
   ·omega
  subst c1
  have c3:c2=1:=by
   by_cases h:c2=0
   ·subst h;omega
   ·omega
  subst c3
  have hq:1≤q:=by
   by_cases h:q=0
   ·subst h;omega
   ·omega
  have:=est_fin (W:=W) (V:=V) (q:=q-1) (r:=A) hV (by rw[Int.mul_comm V (q-1)];omega) hx0 aFx;exact⟨h0,this.1,hq,this.2.symm⟩
theorem estimate_walk(g j n c:Nat)(B:Option Addr)(e:Nat)(L ys:List Int)(B0:Nat)(w0 w:World)(hR:RowN g L w)(hg:B0≤g)(hB:Below B0 w0 w)(hj:j+(n+2+1)≤L.length)(B1:Nat)(hy:RI B1 w B (n+2) ys)(hne:∀ad,B=some ad→ad.block≠g)(hL:limbs L)(hyl:limbs ys)(hv1:1≤ys[n+1]?.getD 0)(hn:n≤1000000)(hW:wval L j (n+2+1)<1000000000*lval ys) :
 Calls Tryz.prog 173 #[.slice (some ⟨g,j,none⟩) (n+2+1) c,.slice B (n+2) e] w fun E w'=>E= .returned (.int .i64 (wval L j (n+2+1)/lval ys))∧(∃M,RowN g M w'∧limbs M∧M.length=L.length∧(∀i,i<j∨j+(n+2+1)≤i→M[i]? =L[i]?)∧wval M j (n+2+1)=wval L j (n+2+1)%lval ys)∧Below B0 w0 w'∧RI B1 w' B (n+2) ys∧Only g w w':=by
 have HR:=Lib.hid hR;have HB:=Lib.hid hB;have HY:=Lib.hid hy;have HL:=Lib.hid hL;have HYL:=Lib.hid hyl;obtain⟨ad,rfl,hlt,hc⟩:=hy.2.2 aFx;have y1:=hc (n+1) aFx;have y2:=hc n aFx;have u0:=hR.cell (j+(n+2)) aFx;have u1:=hR.cell (j+(n+1)) aFx;have u2:=hR.cell (j+n) aFx;have b0:=hL (j+(n+2));have b1:=hL (j+(n+1));have b2:=hL (j+n);have d1:=hyl (n+1);have d2:=hyl n;have HW1:=Lib.hid (wval_top hL j n);have HV3:=Lib.hid (lval_top hyl n hy.1);have HYn:=Lib.hid hy.1;clear hR hB hy hL hyl hc;generalize hU0:L[j+(n+2)]?.getD 0=U0 at *
 have HU0:=Lib.hid hU0;clear hU0;generalize hU1:L[j+(n+1)]?.getD 0=U1 at *
 have HU1:=Lib.hid hU1;clear hU1;generalize hU2:L[j+n]?.getD 0=U2 at *
 have HU2:=Lib.hid hU2;clear hU2;generalize hV1:ys[n+1]?.getD 0=V1 at *
 have HV1:=Lib.hid hV1;clear hV1;generalize hV2:ys[n]?.getD 0=V2 at *
 have HV2:=Lib.hid hV2;clear hV2;have e1:((n+2:Nat):Int)-1=((n+1:Nat):Int):=by omega
 have e2:((n+2:Nat):Int)-2=((n:Nat):Int):=by omega
 go_enter Tryz.func173,Tryz.ntmps173
 go_wp2_with fail
 go_quiet (fail)
 have hR1:RowN g L (w.drewN nq):=HR.out;have hB1:=aI HB.out nq;have HYq:Hid (RI B1 (w.drewN nq) (some ad) (n+2) ys):=Lib.hid (show RI B1 w (some ad) (n+2) ys from HY.out);have HN1:Hid (Only g w (w.drewN nq)):=Lib.hid ((Only.refl g w).drewN nq);obtain⟨w1,hw1⟩:∃w1,w.drewN nq=w1:=⟨_,rfl⟩
 rw[hw1] at hR1 hB1 HYq HN1 ⊢;clear hw1 u0 u1 u2 y1 y2 HR HB;have HR:=Lib.hid hR1;have HB:=Lib.hid hB1;have HY1:Hid (RI B1 w1 (some ad) (n+2) ys):=HYq;clear HY;obtain⟨_,hea,_,hc⟩:=HY1.out.2.2 aFx
 cases hea
 have y1:w1.cell? ⟨ad.block,ad.off+(n+1),none⟩=some (.int .i64 V1):=by
  have:=hc (n+1) aFx;rw[HV1.out] at this
  simpa[Addr.add] using this
 have y2:=hc n aFx;rw[HV2.out] at y2;have u2:=hR1.cell (j+n) aFx;rw[HU2.out] at u2;clear hR1 hB1 hc;have hT:0≤U0*1000000000+U1∧U0*1000000000+U1<1000000000000000000:=by omega
 generalize U0*1000000000+U1=T at *
 have HV0:Hid (0<lval ys):=Lib.hid (Int.lt_of_lt_of_le (Int.mul_pos (by omega:0<V1*1000000000+V2) (kQ n)) HV3.out.1);have z1:(V1==0)=false:=by rw[beq_eq_false_iff_ne];omega
 have z2:V1≠0:=by omega
 have z3:T.tdiv V1=T/V1:=Int.tdiv_eq_ediv_of_nonneg hT.1;have z4:0≤T/V1:=Int.ediv_nonneg hT.1 aFx;have z5:T/V1≤T:=Int.ediv_le_self _ hT.1;have z6:IntKind.i64.wrap (T/V1)=T/V1:=by rw[IntKind.wrap_i64];omega
 have hq0:T+1≤(T/V1+1)*V1:=Int.lt_ediv_add_one_mul_self T aFx;have hqv:T/V1*V1≤T:=Int.ediv_mul_le T z2
 have r1:wrap64 (T-wrap64 (T/V1*V1))=T-T/V1*V1:=by
  have:=Int.mul_nonneg z4 d1.1;unfold wrap64;omega
 have r2:wrap64 (T-wrap64 (999999999*V1))=T-999999999*V1:=by unfold wrap64;omega
 have HS1:Hid (wval L j (n+2+1)<(T/V1+1)*lval ys):=Lib.hid (est_up (kQ (n+1)) HV3.out.2.2 HW1.out.2.2 hq0 z4);have HS2:Hid (wval L j (n+2+1)<(999999999+1)*lval ys):=Lib.hid aFx;have o7:=HR;have HB1:=HB;clear HR HB u2 y2 hq0 e1 e2 hW
 by_cases hm:T/V1≤999999999
 ·have HQ0:Hid (T/V1*V1≤T):=Lib.hid hqv
  have HQ1:Hid (0≤T/V1∧T/V1≤999999999):=Lib.hid ⟨z4,hm⟩;clear hqv HS2
  go_wp2_with fail
  (try rw[r1])
  clear r1 r2 z1 z2 z3 z4 z5 z6 hm
  go_loopw [7,8] (fun qv rv wr=>∃q:Int,qv= .int .i64 q∧rv= .int .i64 (T-q*V1)∧0≤q∧q≤999999999∧0≤T-q*V1∧Hid (wval L j (n+2+1)<(q+1)*lval ys)∧Hid (RowN g L wr)∧Hid (Below B0 w0 wr)∧Hid (RI B1 wr (some ad) (n+2) ys)∧Hid (Only g w wr)) (fun _ r _=>(1000000000-intOf r).toNat)
  case atStart=>exact⟨T/V1,rfl,rfl,HQ1.out.1,HQ1.out.2,by have:=HQ0.out;omega,HS1,o7,HB1,HY1,HN1⟩
  case round=>
   obtain⟨q,rfl,rfl,hq0,hq1,hr0,HQ,HR,HB,HY,HN⟩:=hrel;have hR1:=HR.out;obtain⟨_,hea,hlt2,hc⟩:=HY.out.2.2 aFx
   cases hea
   have y1:wr.cell? ⟨ad.block,ad.off+(n+1),none⟩=some (.int .i64 V1):=by
    have:=hc (n+1) aFx;rw[HV1.out] at this
    simpa[Addr.add] using this
   have y2:=hc n aFx;rw[HV2.out] at y2;have u2:=hR1.cell (j+n) aFx;rw[HU2.out] at u2;clear hR1 hc;have hp1:=uJ hq0 (by omega:q<1000000000) d2.1 d2.2;have hp2:=uJ hq0 (by omega:q<1000000000) d1.1 d1.2
   by_cases hE:T-q*V1<1000000000∧(T-q*V1)*1000000000+U2<q*V2
   ·obtain⟨hE1,hE2⟩:=hE
    have hdec:=est_dec (kQ n) HV3.out.1 HW1.out.2.1 hq0 hE2;have HDC:=Lib.hid hdec;clear hdec;have hsub:(q-1)*V1=q*V1-V1:=by rw[Int.sub_mul,Int.one_mul]
    go_wp2_with fail
    go_quiet (fail)
    go_wp2_with fail
    have hq2:1≤q:=by
     by_cases h:q=0
     ·subst h;omega
     ·omega
    exact⟨⟨q-1,rfl,congrArg (Value.int .i64) (by rw[hsub];omega),by omega,by omega,by rw[hsub];omega,Lib.hid (by rw[Int.sub_add_cancel];exact HDC.out),Lib.hid (show RowN g L (wr.drewN nq) from HR.out),Lib.hid (aI HB.out nq),Lib.hid (show RI B1 (wr.drewN nq) (some ad) (n+2) ys from HY.out),Lib.hid (HN.out.drewN nq)⟩,by simp only[intOf];omega⟩
   ·have hx:1000000000≤T-q*V1∨q*V2≤(T-q*V1)*1000000000+U2:=by omega
    have hok:=est_ok (kQ n) HV3.out.2.1 (Int.le_of_lt HV0.out) HW1.out.1 (qI HL.out j _) hq0 hq1 hv1 d2 b2.1 hx;have HES:=Lib.hid (est_sub HL.out j (n+2+1) HYL.out (by rw[HYn.out];omega) hq0 (by omega:q<1000000000) hj HV0.out (Int.lt_of_lt_of_le (aB3 HYL.out) (by rw[HYn.out,nI (n+2)];have:=kQ (n+2);omega)) hok HQ.out);clear hok
    by_cases hE1:T-q*V1<1000000000
    ·have hE2:¬((T-q*V1)*1000000000+U2<q*V2):=fun h=>hE ⟨hE1,h⟩
     go_wp2_with fail
     go_quiet (fail)
     have o5:=Lib.hid (show RowN g L (wr.drewN nq) from HR.out);have HB3:=Lib.hid (aI HB.out nq);have HY3:Hid (RI B1 (wr.drewN nq) (some ad) (n+2) ys):=Lib.hid HY.out;clear HY;rcases HES.out with ⟨hz,hdiv,hmod⟩|⟨hz,hdiv,hq2,hmod⟩
     ·have zz:((sbF L j ys q (n+2+1)).2==0)=true:=by rw[hz];rfl
      have HDV:=Lib.hid hdiv;have HMD:=Lib.hid hmod;clear hz hdiv hmod HES
      go_wp2_with(go_at_call 203;refine(pU g j (n+2+1) c (some ad) (n+2) e L ys q B0 w0 _ o5.out hg HB3.out hj B1 HY3.out hne HL.out HYL.out hq0 aFx aFx aFx).mono ?_;rintro E w2 ⟨rfl,hR2,hB2,hY2,hN2⟩;have HN2:=Lib.hid ((HN.out.drewN nq).trans hN2);have l9:=Lib.hid hR2;have HB2:=Lib.hid hB2;have HY2:=Lib.hid hY2;clear hR2 hB2 hY2 hN2)
      go_ret
      exact⟨by rw[HDV.out];rfl,⟨_,l9.out,rM HL.out j HYL.out hq0 aFx _,sK L j ys q _,fun i hi=>sN L j ys q i _ hi,HMD.out⟩,HB2.out,HY2.out,HN2.out⟩
     ·have zz:((sbF L j ys q (n+2+1)).2==0)=false:=by simpa using hz
      have HDV:=Lib.hid hdiv;have HMD:=Lib.hid hmod;clear hz hdiv hmod HES
      go_wp2_with(go_at_call 203;refine(pU g j (n+2+1) c (some ad) (n+2) e L ys q B0 w0 _ o5.out hg HB3.out hj B1 HY3.out hne HL.out HYL.out hq0 aFx aFx aFx).mono ?_;rintro E w2 ⟨rfl,hR2,hB2,hY2,hN2⟩;have HN2:=Lib.hid ((HN.out.drewN nq).trans hN2);have l9:=Lib.hid hR2;have HB2:=Lib.hid hB2;have HY2:=Lib.hid hY2;clear hR2 hB2 hY2 hN2)
      have hSl:=rM HL.out j HYL.out hq0 (by omega:q<1000000000) (n+2+1);have hSn:=sK L j ys q (n+2+1);have HSF:=Lib.hid (fun i hi=>sN L j ys q i (n+2+1) hi);rw[HYn.out] at HMD;generalize (sbF L j ys q (n+2+1)).1=S at *
      have HSL:=Lib.hid hSl;clear hSl;have o6:=l9;have HB5:=HB2;have HY5:=HY2;have HN5:=HN2;clear l9 HB2 HY2 HN2 HN o5 HB3 HR HB y1 y2 u2 hp1 hp2
      go_loopw [9,79] (fun cv iv wz=>∃k:Nat,k≤n+2+1∧iv= .int .i64 k∧cv= .int .i64 (adF S j ys (n+2) k).2∧Hid (RowN g (adF S j ys (n+2) k).1 wz)∧Hid (Below B0 w0 wz)∧Hid (RI B1 wz (some ad) (n+2) ys)∧Hid (Only g w wz)) (fun _ i _=>(n+2+1)-(intOf i).toNat)
      case atStart=>exact⟨0,by omega,rfl,rfl,o6,HB5,HY5,HN5⟩
      case round=>
       obtain⟨k,hk,rfl,rfl,HR,HB,HY,HN⟩:=hrel
       by_cases h0:k<n+2+1
       ·have hcar:=aAm HSL.out j HYL.out (n+2) k
        have cW:=HR.out.cell (j+k) (by rw[xZ];omega);rw[qG S j ys (n+2) (j+k) k aFx] at cW;have fW:=HR.out.frozen (j+k);have hv:=HSL.out (j+k)
        have hs:Hid (adF S j ys (n+2) (k+1)=((adF S j ys (n+2) k).1.set (j+k) (((adF S j ys (n+2) k).2+S[j+k]?.getD 0+(if k<n+2 then ys[k]?.getD 0 else 0))%1000000000),((adF S j ys (n+2) k).2+S[j+k]?.getD 0+(if k<n+2 then ys[k]?.getD 0 else 0))/1000000000)):=by
         show adF S j ys (n+2) (k+1)=_;simp only[adF,qG S j ys (n+2) (j+k) k aFx]
        generalize S[j+k]?.getD 0=v at *
        by_cases h2:k<n+2
        ·obtain⟨ad3,hea,hlt3,hc2⟩:=HY.out.2.2 aFx
         cases hea
         have cY:=hc2 k h2;have hu:=HYL.out k;clear hc2;rw[if_pos h2] at hs;generalize ys[k]?.getD 0=u at *
         generalize hcc:(adF S j ys (n+2) k).2=cc at *
         have HC:=Lib.hid hcc;clear hcc
         go_wp2_with fail
         refine⟨⟨k+1,by omega,rfl,by rw[hs.out],Lib.hid ?_,Lib.hid (HB.out.setCell (p:=⟨g,j+k,none⟩) hg _),Lib.hid (HY.out.sJ hne (j+k) _),Lib.hid (HN.out.put (j+k) _)⟩,by simp only[intOf];omega⟩;rw[hs.out];exact HR.out.store (j+k) _
        ·rw[if_neg h2,Int.add_zero] at hs
         generalize hcc:(adF S j ys (n+2) k).2=cc at *
         have HC:=Lib.hid hcc;clear hcc
         go_wp2_with fail
         refine⟨⟨k+1,by omega,rfl,by rw[hs.out],Lib.hid ?_,Lib.hid (HB.out.setCell (p:=⟨g,j+k,none⟩) hg _),Lib.hid (HY.out.sJ hne (j+k) _),Lib.hid (HN.out.put (j+k) _)⟩,by simp only[intOf];omega⟩;rw[hs.out];exact HR.out.store (j+k) _
       ·obtain rfl:k=n+2+1:=by omega
        go_wp2_with fail
        go_ret
        exact⟨by rw[HDV.out];rfl,⟨_,HR.out,aAn HSL.out j ys _ _,(xZ S j ys _ _).trans hSn,fun i hi=>(qG S j ys _ i _ hi).trans (HSF.out i hi),HMD.out⟩,HB.out,HY.out,HN.out⟩
    ·have hf:decide (T-q*V1<1000000000)=false:=decide_eq_false hE1
     clear hx
     go_wp2_with fail
     go_quiet (fail)
     have o5:=Lib.hid (show RowN g L (wr.drewN nq) from HR.out);have HB3:=Lib.hid (aI HB.out nq);have HY3:Hid (RI B1 (wr.drewN nq) (some ad) (n+2) ys):=Lib.hid HY.out;clear HY;rcases HES.out with ⟨hz,hdiv,hmod⟩|⟨hz,hdiv,hq2,hmod⟩
     ·have zz:((sbF L j ys q (n+2+1)).2==0)=true:=by rw[hz];rfl
      have HDV:=Lib.hid hdiv;have HMD:=Lib.hid hmod;clear hz hdiv hmod HES
      go_wp2_with(go_at_call 203;refine(pU g j (n+2+1) c (some ad) (n+2) e L ys q B0 w0 _ o5.out hg HB3.out hj B1 HY3.out hne HL.out HYL.out hq0 aFx aFx aFx).mono ?_;rintro E w2 ⟨rfl,hR2,hB2,hY2,hN2⟩;have HN2:=Lib.hid ((HN.out.drewN nq).trans hN2);have l9:=Lib.hid hR2;have HB2:=Lib.hid hB2;have HY2:=Lib.hid hY2;clear hR2 hB2 hY2 hN2)
      go_ret
      exact⟨by rw[HDV.out];rfl,⟨_,l9.out,rM HL.out j HYL.out hq0 aFx _,sK L j ys q _,fun i hi=>sN L j ys q i _ hi,HMD.out⟩,HB2.out,HY2.out,HN2.out⟩
     ·have zz:((sbF L j ys q (n+2+1)).2==0)=false:=by simpa using hz
      have HDV:=Lib.hid hdiv;have HMD:=Lib.hid hmod;clear hz hdiv hmod HES
      go_wp2_with(go_at_call 203;refine(pU g j (n+2+1) c (some ad) (n+2) e L ys q B0 w0 _ o5.out hg HB3.out hj B1 HY3.out hne HL.out HYL.out hq0 aFx aFx aFx).mono ?_;rintro E w2 ⟨rfl,hR2,hB2,hY2,hN2⟩;have HN2:=Lib.hid ((HN.out.drewN nq).trans hN2);have l9:=Lib.hid hR2;have HB2:=Lib.hid hB2;have HY2:=Lib.hid hY2;clear hR2 hB2 hY2 hN2)
      have hSl:=rM HL.out j HYL.out hq0 (by omega:q<1000000000) (n+2+1);have hSn:=sK L j ys q (n+2+1);have HSF:=Lib.hid (fun i hi=>sN L j ys q i (n+2+1) hi);rw[HYn.out] at HMD;generalize (sbF L j ys q (n+2+1)).1=S at *
      have HSL:=Lib.hid hSl;clear hSl;have o6:=l9;have HB5:=HB2;have HY5:=HY2;have HN5:=HN2;clear l9 HB2 HY2 HN2 HN o5 HB3 HR HB y1 y2 u2 hp1 hp2
      go_loopw [9,79] (fun cv iv wz=>∃k:Nat,k≤n+2+1∧iv= .int .i64 k∧cv= .int .i64 (adF S j ys (n+2) k).2∧Hid (RowN g (adF S j ys (n+2) k).1 wz)∧Hid (Below B0 w0 wz)∧Hid (RI B1 wz (some ad) (n+2) ys)∧Hid (Only g w wz)) (fun _ i _=>(n+2+1)-(intOf i).toNat)
      case atStart=>exact⟨0,by omega,rfl,rfl,o6,HB5,HY5,HN5⟩
      case round=>
       obtain⟨k,hk,rfl,rfl,HR,HB,HY,HN⟩:=hrel
       by_cases h0:k<n+2+1
       ·have hcar:=aAm HSL.out j HYL.out (n+2) k
        have cW:=HR.out.cell (j+k) (by rw[xZ];omega);rw[qG S j ys (n+2) (j+k) k aFx] at cW;have fW:=HR.out.frozen (j+k);have hv:=HSL.out (j+k)
        have hs:Hid (adF S j ys (n+2) (k+1)=((adF S j ys (n+2) k).1.set (j+k) (((adF S j ys (n+2) k).2+S[j+k]?.getD 0+(if k<n+2 then ys[k]?.getD 0 else 0))%1000000000),((adF S j ys (n+2) k).2+S[j+k]?.getD 0+(if k<n+2 then ys[k]?.getD 0 else 0))/1000000000)):=by
         show adF S j ys (n+2) (k+1)=_;simp only[adF,qG S j ys (n+2) (j+k) k aFx]
        generalize S[j+k]?.getD 0=v at *
        by_cases h2:k<n+2
        ·obtain⟨ad3,hea,hlt3,hc2⟩:=HY.out.2.2 aFx
         cases hea
         have cY:=hc2 k h2;have hu:=HYL.out k;clear hc2;rw[if_pos h2] at hs;generalize ys[k]?.getD 0=u at *
         generalize hcc:(adF S j ys (n+2) k).2=cc at *
         have HC:=Lib.hid hcc;clear hcc
         go_wp2_with fail
         refine⟨⟨k+1,by omega,rfl,by rw[hs.out],Lib.hid ?_,Lib.hid (HB.out.setCell (p:=⟨g,j+k,none⟩) hg _),Lib.hid (HY.out.sJ hne (j+k) _),Lib.hid (HN.out.put (j+k) _)⟩,by simp only[intOf];omega⟩;rw[hs.out];exact HR.out.store (j+k) _
        ·rw[if_neg h2,Int.add_zero] at hs
         generalize hcc:(adF S j ys (n+2) k).2=cc at *
         have HC:=Lib.hid hcc;clear hcc
         go_wp2_with fail
         refine⟨⟨k+1,by omega,rfl,by rw[hs.out],Lib.hid ?_,Lib.hid (HB.out.setCell (p:=⟨g,j+k,none⟩) hg _),Lib.hid (HY.out.sJ hne (j+k) _),Lib.hid (HN.out.put (j+k) _)⟩,by simp only[intOf];omega⟩;rw[hs.out];exact HR.out.store (j+k) _
       ·obtain rfl:k=n+2+1:=by omega
        go_wp2_with fail
        go_ret
        exact⟨by rw[HDV.out];rfl,⟨_,HR.out,aAn HSL.out j ys _ _,(xZ S j ys _ _).trans hSn,fun i hi=>(qG S j ys _ i _ hi).trans (HSF.out i hi),HMD.out⟩,HB.out,HY.out,HN.out⟩
 ·have hm2:999999999*V1≤T:=by
   have:999999999*V1≤T/V1*V1:=Int.mul_le_mul_of_nonneg_right aFx d1.1;omega
  have HQ0:Hid (999999999*V1≤T):=Lib.hid hm2;clear hqv HS1
  go_wp2_with fail
  (try rw[r2])
  clear r1 r2 z1 z2 z3 z4 z5 z6 hm hm2
  go_loopw [7,8] (fun qv rv wr=>∃q:Int,qv= .int .i64 q∧rv= .int .i64 (T-q*V1)∧0≤q∧q≤999999999∧0≤T-q*V1∧Hid (wval L j (n+2+1)<(q+1)*lval ys)∧Hid (RowN g L wr)∧Hid (Below B0 w0 wr)∧Hid (RI B1 wr (some ad) (n+2) ys)∧Hid (Only g w wr)) (fun _ r _=>(1000000000-intOf r).toNat)
  case atStart=>exact⟨999999999,rfl,rfl,by omega,by omega,by have:=HQ0.out;omega,HS2,o7,HB1,HY1,HN1⟩
  case round=>
   obtain⟨q,rfl,rfl,hq0,hq1,hr0,HQ,HR,HB,HY,HN⟩:=hrel;have hR1:=HR.out;obtain⟨_,hea,hlt2,hc⟩:=HY.out.2.2 aFx
   cases hea
   have y1:wr.cell? ⟨ad.block,ad.off+(n+1),none⟩=some (.int .i64 V1):=by
    have:=hc (n+1) aFx;rw[HV1.out] at this
    simpa[Addr.add] using this
   have y2:=hc n aFx;rw[HV2.out] at y2;have u2:=hR1.cell (j+n) aFx;rw[HU2.out] at u2;clear hR1 hc;have hp1:=uJ hq0 (by omega:q<1000000000) d2.1 d2.2;have hp2:=uJ hq0 (by omega:q<1000000000) d1.1 d1.2
   by_cases hE:T-q*V1<1000000000∧(T-q*V1)*1000000000+U2<q*V2
   ·obtain⟨hE1,hE2⟩:=hE
    have hdec:=est_dec (kQ n) HV3.out.1 HW1.out.2.1 hq0 hE2;have HDC:=Lib.hid hdec;clear hdec;have hsub:(q-1)*V1=q*V1-V1:=by rw[Int.sub_mul,Int.one_mul]
    go_wp2_with fail
    go_quiet (fail)
    go_wp2_with fail
    have hq2:1≤q:=by
     by_cases h:q=0
     ·subst h;omega
     ·omega
    exact⟨⟨q-1,rfl,congrArg (Value.int .i64) (by rw[hsub];omega),by omega,by omega,by rw[hsub];omega,Lib.hid (by rw[Int.sub_add_cancel];exact HDC.out),Lib.hid (show RowN g L (wr.drewN nq) from HR.out),Lib.hid (aI HB.out nq),Lib.hid (show RI B1 (wr.drewN nq) (some ad) (n+2) ys from HY.out),Lib.hid (HN.out.drewN nq)⟩,by simp only[intOf];omega⟩
   ·have hx:1000000000≤T-q*V1∨q*V2≤(T-q*V1)*1000000000+U2:=by omega
    have hok:=est_ok (kQ n) HV3.out.2.1 (Int.le_of_lt HV0.out) HW1.out.1 (qI HL.out j _) hq0 hq1 hv1 d2 b2.1 hx;have HES:=Lib.hid (est_sub HL.out j (n+2+1) HYL.out (by rw[HYn.out];omega) hq0 (by omega:q<1000000000) hj HV0.out (Int.lt_of_lt_of_le (aB3 HYL.out) (by rw[HYn.out,nI (n+2)];have:=kQ (n+2);omega)) hok HQ.out);clear hok
    by_cases hE1:T-q*V1<1000000000
    ·have hE2:¬((T-q*V1)*1000000000+U2<q*V2):=fun h=>hE ⟨hE1,h⟩
     go_wp2_with fail
     go_quiet (fail)
     have o5:=Lib.hid (show RowN g L (wr.drewN nq) from HR.out);have HB3:=Lib.hid (aI HB.out nq);have HY3:Hid (RI B1 (wr.drewN nq) (some ad) (n+2) ys):=Lib.hid HY.out;clear HY;rcases HES.out with ⟨hz,hdiv,hmod⟩|⟨hz,hdiv,hq2,hmod⟩
     ·have zz:((sbF L j ys q (n+2+1)).2==0)=true:=by rw[hz];rfl
      have HDV:=Lib.hid hdiv;have HMD:=Lib.hid hmod;clear hz hdiv hmod HES
      go_wp2_with(go_at_call 203;refine(pU g j (n+2+1) c (some ad) (n+2) e L ys q B0 w0 _ o5.out hg HB3.out hj B1 HY3.out hne HL.out HYL.out hq0 aFx aFx aFx).mono ?_;rintro E w2 ⟨rfl,hR2,hB2,hY2,hN2⟩;have HN2:=Lib.hid ((HN.out.drewN nq).trans hN2);have l9:=Lib.hid hR2;have HB2:=Lib.hid hB2;have HY2:=Lib.hid hY2;clear hR2 hB2 hY2 hN2)
      go_ret
      exact⟨by rw[HDV.out];rfl,⟨_,l9.out,rM HL.out j HYL.out hq0 aFx _,sK L j ys q _,fun i hi=>sN L j ys q i _ hi,HMD.out⟩,HB2.out,HY2.out,HN2.out⟩
     ·have zz:((sbF L j ys q (n+2+1)).2==0)=false:=by simpa using hz
      have HDV:=Lib.hid hdiv;have HMD:=Lib.hid hmod;clear hz hdiv hmod HES
      go_wp2_with(go_at_call 203;refine(pU g j (n+2+1) c (some ad) (n+2) e L ys q B0 w0 _ o5.out hg HB3.out hj B1 HY3.out hne HL.out HYL.out hq0 aFx aFx aFx).mono ?_;rintro E w2 ⟨rfl,hR2,hB2,hY2,hN2⟩;have HN2:=Lib.hid ((HN.out.drewN nq).trans hN2);have l9:=Lib.hid hR2;have HB2:=Lib.hid hB2;have HY2:=Lib.hid hY2;clear hR2 hB2 hY2 hN2)
      have hSl:=rM HL.out j HYL.out hq0 (by omega:q<1000000000) (n+2+1);have hSn:=sK L j ys q (n+2+1);have HSF:=Lib.hid (fun i hi=>sN L j ys q i (n+2+1) hi);rw[HYn.out] at HMD;generalize (sbF L j ys q (n+2+1)).1=S at *
      have HSL:=Lib.hid hSl;clear hSl;have o6:=l9;have HB5:=HB2;have HY5:=HY2;have HN5:=HN2;clear l9 HB2 HY2 HN2 HN o5 HB3 HR HB y1 y2 u2 hp1 hp2
      go_loopw [9,79] (fun cv iv wz=>∃k:Nat,k≤n+2+1∧iv= .int .i64 k∧cv= .int .i64 (adF S j ys (n+2) k).2∧Hid (RowN g (adF S j ys (n+2) k).1 wz)∧Hid (Below B0 w0 wz)∧Hid (RI B1 wz (some ad) (n+2) ys)∧Hid (Only g w wz)) (fun _ i _=>(n+2+1)-(intOf i).toNat)
      case atStart=>exact⟨0,by omega,rfl,rfl,o6,HB5,HY5,HN5⟩
      case round=>
       obtain⟨k,hk,rfl,rfl,HR,HB,HY,HN⟩:=hrel
       by_cases h0:k<n+2+1
       ·have hcar:=aAm HSL.out j HYL.out (n+2) k
        have cW:=HR.out.cell (j+k) (by rw[xZ];omega);rw[qG S j ys (n+2) (j+k) k aFx] at cW;have fW:=HR.out.frozen (j+k);have hv:=HSL.out (j+k)
        have hs:Hid (adF S j ys (n+2) (k+1)=((adF S j ys (n+2) k).1.set (j+k) (((adF S j ys (n+2) k).2+S[j+k]?.getD 0+(if k<n+2 then ys[k]?.getD 0 else 0))%1000000000),((adF S j ys (n+2) k).2+S[j+k]?.getD 0+(if k<n+2 then ys[k]?.getD 0 else 0))/1000000000)):=by
         show adF S j ys (n+2) (k+1)=_;simp only[adF,qG S j ys (n+2) (j+k) k aFx]
        generalize S[j+k]?.getD 0=v at *
        by_cases h2:k<n+2
        ·obtain⟨ad3,hea,hlt3,hc2⟩:=HY.out.2.2 aFx
         cases hea
         have cY:=hc2 k h2;have hu:=HYL.out k;clear hc2;rw[if_pos h2] at hs;generalize ys[k]?.getD 0=u at *
         generalize hcc:(adF S j ys (n+2) k).2=cc at *
         have HC:=Lib.hid hcc;clear hcc
         go_wp2_with fail
         refine⟨⟨k+1,by omega,rfl,by rw[hs.out],Lib.hid ?_,Lib.hid (HB.out.setCell (p:=⟨g,j+k,none⟩) hg _),Lib.hid (HY.out.sJ hne (j+k) _),Lib.hid (HN.out.put (j+k) _)⟩,by simp only[intOf];omega⟩;rw[hs.out];exact HR.out.store (j+k) _
        ·rw[if_neg h2,Int.add_zero] at hs
         generalize hcc:(adF S j ys (n+2) k).2=cc at *
         have HC:=Lib.hid hcc;clear hcc
         go_wp2_with fail
         refine⟨⟨k+1,by omega,rfl,by rw[hs.out],Lib.hid ?_,Lib.hid (HB.out.setCell (p:=⟨g,j+k,none⟩) hg _),Lib.hid (HY.out.sJ hne (j+k) _),Lib.hid (HN.out.put (j+k) _)⟩,by simp only[intOf];omega⟩;rw[hs.out];exact HR.out.store (j+k) _
       ·obtain rfl:k=n+2+1:=by omega
        go_wp2_with fail
        go_ret
        exact⟨by rw[HDV.out];rfl,⟨_,HR.out,aAn HSL.out j ys _ _,(xZ S j ys _ _).trans hSn,fun i hi=>(qG S j ys _ i _ hi).trans (HSF.out i hi),HMD.out⟩,HB.out,HY.out,HN.out⟩
    ·have hf:decide (T-q*V1<1000000000)=false:=decide_eq_false hE1
     clear hx
     go_wp2_with fail
     go_quiet (fail)
     have o5:=Lib.hid (show RowN g L (wr.drewN nq) from HR.out);have HB3:=Lib.hid (aI HB.out nq);have HY3:Hid (RI B1 (wr.drewN nq) (some ad) (n+2) ys):=Lib.hid HY.out;clear HY;rcases HES.out with ⟨hz,hdiv,hmod⟩|⟨hz,hdiv,hq2,hmod⟩
     ·have zz:((sbF L j ys q (n+2+1)).2==0)=true:=by rw[hz];rfl
      have HDV:=Lib.hid hdiv;have HMD:=Lib.hid hmod;clear hz hdiv hmod HES
      go_wp2_with(go_at_call 203;refine(pU g j (n+2+1) c (some ad) (n+2) e L ys q B0 w0 _ o5.out hg HB3.out hj B1 HY3.out hne HL.out HYL.out hq0 aFx aFx aFx).mono ?_;rintro E w2 ⟨rfl,hR2,hB2,hY2,hN2⟩;have HN2:=Lib.hid ((HN.out.drewN nq).trans hN2);have l9:=Lib.hid hR2;have HB2:=Lib.hid hB2;have HY2:=Lib.hid hY2;clear hR2 hB2 hY2 hN2)
      go_ret
      exact⟨by rw[HDV.out];rfl,⟨_,l9.out,rM HL.out j HYL.out hq0 aFx _,sK L j ys q _,fun i hi=>sN L j ys q i _ hi,HMD.out⟩,HB2.out,HY2.out,HN2.out⟩
     ·have zz:((sbF L j ys q (n+2+1)).2==0)=false:=by simpa using hz
      have HDV:=Lib.hid hdiv;have HMD:=Lib.hid hmod;clear hz hdiv hmod HES
      go_wp2_with(go_at_call 203;refine(pU g j (n+2+1) c (some ad) (n+2) e L ys q B0 w0 _ o5.out hg HB3.out hj B1 HY3.out hne HL.out HYL.out hq0 aFx aFx aFx).mono ?_;rintro E w2 ⟨rfl,hR2,hB2,hY2,hN2⟩;have HN2:=Lib.hid ((HN.out.drewN nq).trans hN2);have l9:=Lib.hid hR2;have HB2:=Lib.hid hB2;have HY2:=Lib.hid hY2;clear hR2 hB2 hY2 hN2)
      have hSl:=rM HL.out j HYL.out hq0 (by omega:q<1000000000) (n+2+1);have hSn:=sK L j ys q (n+2+1);have HSF:=Lib.hid (fun i hi=>sN L j ys q i (n+2+1) hi);rw[HYn.out] at HMD;generalize (sbF L j ys q (n+2+1)).1=S at *
      have HSL:=Lib.hid hSl;clear hSl;have o6:=l9;have HB5:=HB2;have HY5:=HY2;have HN5:=HN2;clear l9 HB2 HY2 HN2 HN o5 HB3 HR HB y1 y2 u2 hp1 hp2
      go_loopw [9,79] (fun cv iv wz=>∃k:Nat,k≤n+2+1∧iv= .int .i64 k∧cv= .int .i64 (adF S j ys (n+2) k).2∧Hid (RowN g (adF S j ys (n+2) k).1 wz)∧Hid (Below B0 w0 wz)∧Hid (RI B1 wz (some ad) (n+2) ys)∧Hid (Only g w wz)) (fun _ i _=>(n+2+1)-(intOf i).toNat)
      case atStart=>exact⟨0,by omega,rfl,rfl,o6,HB5,HY5,HN5⟩
      case round=>
       obtain⟨k,hk,rfl,rfl,HR,HB,HY,HN⟩:=hrel
       by_cases h0:k<n+2+1
       ·have hcar:=aAm HSL.out j HYL.out (n+2) k
        have cW:=HR.out.cell (j+k) (by rw[xZ];omega);rw[qG S j ys (n+2) (j+k) k aFx] at cW;have fW:=HR.out.frozen (j+k);have hv:=HSL.out (j+k)
        have hs:Hid (adF S j ys (n+2) (k+1)=((adF S j ys (n+2) k).1.set (j+k) (((adF S j ys (n+2) k).2+S[j+k]?.getD 0+(if k<n+2 then ys[k]?.getD 0 else 0))%1000000000),((adF S j ys (n+2) k).2+S[j+k]?.getD 0+(if k<n+2 then ys[k]?.getD 0 else 0))/1000000000)):=by
         show adF S j ys (n+2) (k+1)=_;simp only[adF,qG S j ys (n+2) (j+k) k aFx]
        generalize S[j+k]?.getD 0=v at *
        by_cases h2:k<n+2
        ·obtain⟨ad3,hea,hlt3,hc2⟩:=HY.out.2.2 aFx
         cases hea
         have cY:=hc2 k h2;have hu:=HYL.out k;clear hc2;rw[if_pos h2] at hs;generalize ys[k]?.getD 0=u at *
         generalize hcc:(adF S j ys (n+2) k).2=cc at *
         have HC:=Lib.hid hcc;clear hcc
         go_wp2_with fail
         refine⟨⟨k+1,by omega,rfl,by rw[hs.out],Lib.hid ?_,Lib.hid (HB.out.setCell (p:=⟨g,j+k,none⟩) hg _),Lib.hid (HY.out.sJ hne (j+k) _),Lib.hid (HN.out.put (j+k) _)⟩,by simp only[intOf];omega⟩;rw[hs.out];exact HR.out.store (j+k) _
        ·rw[if_neg h2,Int.add_zero] at hs
         generalize hcc:(adF S j ys (n+2) k).2=cc at *
         have HC:=Lib.hid hcc;clear hcc
         go_wp2_with fail
         refine⟨⟨k+1,by omega,rfl,by rw[hs.out],Lib.hid ?_,Lib.hid (HB.out.setCell (p:=⟨g,j+k,none⟩) hg _),Lib.hid (HY.out.sJ hne (j+k) _),Lib.hid (HN.out.put (j+k) _)⟩,by simp only[intOf];omega⟩;rw[hs.out];exact HR.out.store (j+k) _
       ·obtain rfl:k=n+2+1:=by omega
        go_wp2_with fail
        go_ret
        exact⟨by rw[HDV.out];rfl,⟨_,HR.out,aAn HSL.out j ys _ _,(xZ S j ys _ _).trans hSn,fun i hi=>(qG S j ys _ i _ hi).trans (HSF.out i hi),HMD.out⟩,HB.out,HY.out,HN.out⟩
end Go.Proofs.YtignanmmgaldeaaGreatDoor
namespace Go.Proofs.YtignanmmgaldeaaGreatDoor
open Go.RowKit Go.Shelf Go.Proofs.YtignanmmgaldeaaGreatDoorW.PrintWords
theorem div_end{X Y s Q R:Int}(hs:1≤s)(hY:0<Y)(h:R+Y*s*Q=X*s)(h0:0≤R)(h1:R<Y*s):X/Y=Q∧X%Y=R/s:=by
 have e:R=(X-Y*Q)*s:=by
  rw[Int.sub_mul,Int.mul_assoc Y Q s,Int.mul_comm Q s,←Int.mul_assoc];omega
 have e2:R/s=X-Y*Q:=by rw[e,Int.mul_ediv_cancel _ aFx]
 have a0:0≤X-Y*Q:=by
  by_cases h:X-Y*Q≤ -1
  ·have:(X-Y*Q)*s≤ -1*s:=Int.mul_le_mul_of_nonneg_right h aFx
   omega
  ·omega
 have a1:X-Y*Q<Y:=by
  by_cases h:Y≤X-Y*Q
  ·have:Y*s≤(X-Y*Q)*s:=Int.mul_le_mul_of_nonneg_right h aFx
   omega
  ·omega
 rw[e2];exact est_fin hY aFx a0 a1
theorem wval_down(L:List Int)(j n:Nat):wval L j (n+1)=L[j]?.getD 0+1000000000*wval L (j+1) n:=by
 induction n with
 |zero=>simp[wval]
 |succ k ih=>
  rw[wval,ih,wval,show j+1+k=j+(k+1) from by omega,Int.mul_add,nI]
  have:1000000000*(L[j+(k+1)]?.getD 0*1000000000 ^ k)=L[j+(k+1)]?.getD 0*(1000000000*1000000000 ^ k):=by
   rw[←Int.mul_assoc,Int.mul_comm 1000000000 (L[j+(k+1)]?.getD 0),Int.mul_assoc]
  omega
theorem win_lt{L:List Int}(hL:limbs L)(j n:Nat){V:Int}(h:wval L (j+1) n<V):wval L j (n+1)<1000000000*V:=by
 have:=hL j;rw[wval_down];omega
theorem win_change{L M:List Int}(j k N:Nat)(hN:j+k≤N)(h:∀i,i<j∨j+k≤i→M[i]? =L[i]?):pval M N-pval L N=(wval M j k-wval L j k)*1000000000 ^ j:=by
 obtain⟨d,rfl⟩:∃d,N=j+k+d:=⟨N-(j+k),by omega⟩
 rw[zJ M (j+k) d,zJ L (j+k) d,zJ M j k,zJ L j k,aBp (M:=L) (j+k) d (fun i hi=>by rw[h _ aFx]),zF (ys:=L) j (fun i hi=>by rw[h _ aFx]),Int.sub_mul];omega
theorem win_top{L:List Int}(hL:limbs L)(j n:Nat)(h:wval L j (n+1)<1000000000 ^ n):L[j+n]?.getD 0=0∧wval L j n=wval L j (n+1):=by
 have h0:=qI hL j n;have h1:=(hL (j+n)).1;have e:wval L j (n+1)=wval L j n+L[j+n]?.getD 0*1000000000 ^ n:=rfl
 by_cases hz:L[j+n]?.getD 0=0
 ·rw[hz,Int.zero_mul] at e
  exact⟨hz,by omega⟩
 ·have:1*(1000000000:Int) ^ n≤L[j+n]?.getD 0*1000000000 ^ n:=Int.mul_le_mul_of_nonneg_right aFx (Int.le_of_lt (kQ n))
  omega
theorem out_step(O:List Int)(j:Nat)(q:Int)(hj:j<O.length)(h0:O[j]?.getD 0=0):lval (O.set j q)=lval O+q*1000000000 ^ j:=by
 have:=yT O j q hj O.length hj;rw[h0,Int.sub_zero] at this;rw[lval,List.length_set];exact this
end Go.Proofs.YtignanmmgaldeaaGreatDoor
namespace Go.Proofs.YtignanmmgaldeaaGreatDoor
open Go.RowKit Go.Shelf Go.Proofs.YtignanmmgaldeaaGreatDoorW.PrintWords Go.Proofs.YtignanmmgaldeaaGreatDoorW.PrintLast Go.Proofs.YtignanmmgaldeaaGreatDoorW.PrintMore
theorem own_of_rowd{g k base:Nat}{R:List Int}{w:World}(h:Rowd g R w)(hb:base≤g)(hk:k≤R.length)(hR:R.length≤2000000):w.ownsRow base 3 1 (.slice (some ⟨g,0,none⟩) k R.length) (R.take k).length (nums .i64 (R.take k)):=by
 have e:(R.take k).length=k:=by rw[List.length_take];omega
 refine⟨by simp[nums],.inr ⟨g,R.length,(nums .i64 R).toArray,by rw[e],hb,h,by omega,by simp only[maxLen];omega,by simp[nums],?_⟩⟩;rw[e]
 simp[nums,List.map_take]
theorem aDi{a b:Nat}(h:a≤b):(1000000000:Int) ^ a≤1000000000 ^ b:=by
 obtain⟨k,rfl⟩:∃k,b=a+k:=⟨b-a,by omega⟩
 rw[Int.pow_add];have h1:=kQ a;have h2:=kQ k;have h3:(1000000000:Int) ^ a*1≤1000000000 ^ a*1000000000 ^ k:=Int.mul_le_mul_of_nonneg_left aFx aFx;omega
theorem aBq{xs:List Int}(hx:limbs xs)(ht:topped xs)(h:xs.length≠0):(1000000000:Int) ^ (xs.length-1)≤lval xs:=by
 have ht:xs[xs.length-1]?.getD 0≠0:=by rcases ht with h'|h';exact absurd h' h;exact h'
 have h0:=qH hx (xs.length-1);have h1:=(hx (xs.length-1)).1
 have e:lval xs=pval xs (xs.length-1)+xs[xs.length-1]?.getD 0*1000000000 ^ (xs.length-1):=by
  rw[lval];obtain⟨k,hk⟩:∃k,xs.length=k+1:=⟨xs.length-1,by omega⟩
  rw[hk];rfl
 have h2:1*(1000000000:Int) ^ (xs.length-1)≤xs[xs.length-1]?.getD 0*1000000000 ^ (xs.length-1):=Int.mul_le_mul_of_nonneg_right aFx (Int.le_of_lt (kQ _));omega
theorem last0_lt{l:List Int}(hl:limbs l)(h:l[l.length-1]?.getD 0=0)(h1:1≤l.length):lval l<1000000000 ^ (l.length-1):=by
 have h0:=aBu hl (l.length-1)
 have e:lval l=pval l (l.length-1)+l[l.length-1]?.getD 0*1000000000 ^ (l.length-1):=by
  rw[lval];obtain⟨k,hk⟩:∃k,l.length=k+1:=⟨l.length-1,by omega⟩
  rw[hk];rfl
 rw[h,Int.zero_mul] at e;omega
theorem scaled_len{X D:Int}{l v:List Int}(hl:limbs l)(hz:l[l.length-1]?.getD 0=0)(h1:1≤l.length)(hv:limbs v)(ht:topped v)(hvl:lval v=D)(hll:lval l=X)(hDX:D≤X){m:Nat}(hD:(1000000000:Int) ^ (m+1)≤D):m+2≤v.length∧v.length+1≤l.length:=by
 have a1:m+2≤v.length:=by
  by_cases h:v.length≤m+1
  ·have:=aDi h
   have:=aB3 hv;omega
  ·omega
 have a2:=aBq hv ht aFx;have a3:=last0_lt hl hz h1;refine⟨a1,?_⟩
 by_cases h:l.length-1≤v.length-1
 ·have:=aDi h
  omega
 ·omega
theorem tlen_zero(M:List Int)(N:Nat)(h:∀i,N≤i→M[i]?.getD 0=0):∀d,tlen M (N+d)≤N
 |0=>nN M N
 |d+1=>by
  rw[←Nat.add_assoc,tlen,if_pos (h (N+d) aFx)];exact tlen_zero M N h d
theorem pval_zero(M:List Int)(N:Nat)(h:∀i,N≤i→M[i]?.getD 0=0):∀d,pval M (N+d)=pval M N
 |0=>rfl
 |d+1=>by rw[←Nat.add_assoc,pval,h (N+d) aFx,pval_zero M N h d];omega
theorem own_kept{g n cap base:Nat}{xs:List Value}{w w1:World}(h:w.ownsRow base 3 1 (.slice (some ⟨g,0,none⟩) n cap) n xs)(hw:w1.heap[g]? =w.heap[g]?):w1.ownsRow base 3 1 (.slice (some ⟨g,0,none⟩) n cap) n xs:=by
 refine⟨h.1,?_⟩;rcases h.2 with h|⟨g',cap',cur,he,hb,hh,h1,h2,h3,h4⟩
 ·exact .inl h
 ·cases he
  exact .inr ⟨g,cap,cur,rfl,hb,hw.trans hh,h1,h2,h3,h4⟩
theorem aFc(l:List Int):lval (l++ [0])=lval l:=by
 have e:(l++ [0]).length=l.length+1:=by simp
 rw[lval,e,pval,zF (ys:=l) l.length (fun i hi=>by rw[List.getElem?_append_left hi])]
 simp[lval]
theorem aEm{l:List Int}(h:limbs l):limbs (l++ [0]):=fun i=>by
 rw[List.getElem?_append]
 split
 ·exact h i
 ·cases hi:i-l.length with
  |zero=>simp
  |succ k=>simp
theorem divide_long(A B:Option Addr)(n m c e:Nat)(xs ys:List Int)(w:World)(hx:RI w.heap.size w A n xs)(hy:RI w.heap.size w B (m+2) ys)(hxl:limbs xs)(hyl:limbs ys)(hyt:topped ys)(hn:n≤100000)(hm:m+2≤100000)(h:¬ordL xs ys<0)(hlt:lval ys≤lval xs) :
 Calls Tryz.prog 90 #[.slice A n c,.slice B (m+2) e] w fun E w'=>∃A' n' c' B' m' c2,E= .returned (.tuple #[.slice A' n' c',.slice B' m' c2])∧Mag w' (.slice A' n' c') (lval xs/lval ys) (n+1)∧Mag w' (.slice B' m' c2) (lval xs%lval ys) (n+1)∧Below w.heap.size w w':=by
 have HO:=Lib.hid (aAh A B n (m+2) c e xs ys w hx hy);have h1:decide (ordL xs ys<0)=false:=by simpa using h
 generalize ordL xs ys=o at HO h1;obtain⟨ad,rfl,hb,hc⟩:=hy.2.2 aFx;have hcell:=hc (m+1) aFx;have hcell':w.cell? ⟨ad.block,ad.off+(m+1),none⟩=some (.int .i64 (ys[m+1]?.getD 0)):=by simpa[Addr.add] using hcell
 have HC:=Lib.hid hcell';have hY:=hyl (m+1)
 have hY1:1≤ys[m+1]?.getD 0:=by
  rcases hyt with h|h
  ·have:=hy.1;omega
  ·rw[hy.1,show m+2-1=m+1 from rfl] at h
   omega
 have HX:=Lib.hid hx;have HY:=Lib.hid hy;have HXL:=Lib.hid hxl;have HYL:=Lib.hid hyl;have HYT:=Lib.hid hyt;have HLT:=Lib.hid hlt;clear hx hy hxl hyl hyt hlt hc hcell hcell';generalize hYe:ys[m+1]?.getD 0=Y at *
 have HYe:=Lib.hid hYe;clear hYe;have z1:(Y+1==0)=false:=by rw[beq_eq_false_iff_ne];omega
 have z2:Y+1≠0:=by omega
 have z3:(1000000000:Int).tdiv (Y+1)=1000000000/(Y+1):=Int.tdiv_eq_ediv_of_nonneg aFx
 have z4:1≤(1000000000:Int)/(Y+1):=by
  have:=Int.lt_ediv_add_one_mul_self 1000000000 (b:=Y+1) aFx
  by_cases h:(1000000000:Int)/(Y+1)≤0
  ·have h2:((1000000000:Int)/(Y+1)+1)*(Y+1)≤1*(Y+1):=Int.mul_le_mul_of_nonneg_right aFx aFx
   omega
  ·omega
 have z5:(1000000000:Int)/(Y+1)≤1000000000:=Int.ediv_le_self _ aFx;have z6:(1000000000:Int)/(Y+1)*(Y+1)≤1000000000:=Int.ediv_mul_le _ z2;have z7:IntKind.i64.wrap ((1000000000:Int)/(Y+1))=1000000000/(Y+1):=by rw[IntKind.wrap_i64];omega
 go_enter Tryz.func90,Tryz.ntmps90
 go_wp2_with(go_at_call 145;refine HO.out.mono ?_;rintro e w1 ⟨rfl,hB⟩;have hz1:=hB.size;have cw:=(hB.cell (p:=⟨ad.block,ad.off+(m+1),none⟩) hb).trans HC.out;have HB:=Lib.hid hB;clear hB HO)
 have z8:(1000000000:Int)/(Y+1)*2≤1000000000:=by
  have:(1000000000:Int)/(Y+1)*2≤(1000000000:Int)/(Y+1)*(Y+1):=Int.mul_le_mul_of_nonneg_left aFx aFx;omega
 generalize hs:(1000000000:Int)/(Y+1)=s at *
 have hBa:Below w1.heap.size w1 (w1.alloc (.cells #[.int .i64 s] 3)):=(Below.refl _ w1).alloc (Nat.le_refl _) _;have hsz:(w1.alloc (.cells #[.int .i64 s] 3)).heap.size=w1.heap.size+1:=by simp
 have hsb:(w1.alloc (.cells #[.int .i64 s] 3)).heap[w1.heap.size]? =some (.cells #[.int .i64 s] 3):=World.alloc_heap_new w1 _;have hXa:=(HX.out.below (HB.out.trans (hBa.mono hz1))).mono (by rw[hsz];omega:w.heap.size≤(w1.alloc (.cells #[.int .i64 s] 3)).heap.size);have hYa:=(HY.out.below (HB.out.trans (hBa.mono hz1))).mono (by rw[hsz];omega:w.heap.size≤(w1.alloc (.cells #[.int .i64 s] 3)).heap.size);have HBW:=Lib.hid (HB.out.trans (hBa.mono hz1));obtain⟨W2,hW2⟩:∃W2,w1.alloc (.cells #[.int .i64 s] 3)=W2:=⟨_,rfl⟩
 rw[hW2] at hsz hsb hXa hYa HBW ⊢;clear hW2 hBa
 have HSC:Hid (∀v:World,Below W2.heap.size W2 v→RI v.heap.size v (some ⟨w1.heap.size,0,none⟩) 1 [s]):=Lib.hid fun v hv=>by
  have hb:=(hv.block w1.heap.size aFx).trans hsb;have hl:=(Array.getElem?_eq_some_iff.1 hb).1;refine⟨rfl,by omega,fun _=>⟨_,rfl,hl,fun j hj=> ?_⟩⟩;obtain rfl:j=0:=by omega
  simpa[Addr.add] using fJ hb 0 _ rfl
 have hsl:limbs [s]:=fun i=>by
  match i with
  |0=>simp;omega
  |i+1=>simp
 have HSL:=Lib.hid hsl;have HXa:=Lib.hid hXa;have HYa:=Lib.hid hYa;have HSZ:=Lib.hid hsz;clear hsl hXa hYa hsz hsb cw HC HX HY z1 z2 z3 z7 hb;refine(aE8 A (some ⟨w1.heap.size,0,none⟩) n 1 c 1 xs [s] W2 HXa.out (HSC.out _ (Below.refl _ _)) HXL.out HSL.out aFx aFx).mono ?_;rintro E w2 ⟨rfl,hR2,hB2⟩;have hl2:(rowF xs [s] n).length=n+1:=by rw[wC,HXa.out.1];rfl
 have hv2:lval (rowF xs [s] n)=lval xs*lval [s]:=by have:=rowF_all xs [s];rwa [HXa.out.1] at this
 have hk2:=aD2 HXL.out HSL.out n;generalize rowF xs [s] n=R at *
 have ht2:=nN R (n+1);have HOU:=Lib.hid (own_of_rowd (base:=W2.heap.size) hR2 (Nat.le_refl _) (k:=tlen R (n+1)) aFx aFx);rw[hl2] at HOU;have HB2:=Lib.hid hB2;have HLR:=Lib.hid hl2;have HKR:=Lib.hid hk2;have HVR:=Lib.hid hv2;have hz2:=hB2.size;have htl:(R.take (tlen R (n+1))).length=tlen R (n+1):=by rw[List.length_take];omega
 clear hl2 hk2 hv2 hB2 hR2
 go_wp2_with((with_reducible refine lC (b:= .append) (xs:=#[.tmp 47,.tmp 48]) rfl ?_);at_builtin;go_loud (refine aC2 (w0:=W2) (W:=w2) W2.heap.size rfl _ _ 79 3 .i64 8 rfl Tryz.underlying79 yN aG0 (.slice (some ⟨W2.heap.size,0,none⟩) (tlen R (n+1)) (n+1)) (R.take (tlen R (n+1))) 0 rfl rfl HOU.out HB2.out hz2 (by rw[htl];omega) ?_);intro v1 w3 hown hB3 hg3 hat3;obtain⟨g,cap,rfl,hgb,hgl⟩:=hown.form aFz;have o5:=Lib.hid hown;have HB3:=Lib.hid hB3;clear hown hB3 hg3 hat3)
 have hz3:=HB3.out.size;refine(aE8 (some ad) (some ⟨w1.heap.size,0,none⟩) (m+2) 1 e 1 ys [s] w3 ((HYa.out.below HB3.out).mono hz3) (HSC.out _ HB3.out) HYL.out HSL.out aFx aFx).mono ?_;rintro E w4 ⟨rfl,hR4,hB4⟩;have hl4:(rowF ys [s] (m+2)).length=m+2+1:=by rw[wC,HYa.out.1];rfl
 have hv4:lval (rowF ys [s] (m+2))=lval ys*lval [s]:=by have:=rowF_all ys [s];rwa [HYa.out.1] at this
 have hk4:=aD2 HYL.out HSL.out (m+2);generalize rowF ys [s] (m+2)=V at *
 have o9:=Lib.hid hR4;have HB4:=Lib.hid hB4;have HL4:=Lib.hid hl4;have o6:=Lib.hid hk4;have HV4:=Lib.hid hv4;have hz4:=hB4.size;clear hl4 hk4 hv4 hB4 hR4;have hlk:limbs (R.take (tlen R (n+1))++ [0]):=aEm (aF3 HKR.out _)
 have hvk:lval (R.take (tlen R (n+1))++ [0])=lval xs*lval [s]:=by
  rw[aFc,lval,htl,pval_take,aE3,←HVR.out,lval,HLR.out]
 have hlz:(R.take (tlen R (n+1))++ [0]).length=tlen R (n+1)+1:=by simp only[List.length_append,htl,List.length_cons,List.length_nil]
 have hol:=own_kept o5.out (HB4.out.block g hgl);have HOL:=Lib.hid hol;have HLK:=Lib.hid hlk;have HVK:=Lib.hid hvk;have HLZ:Hid ((R.take (tlen R (n+1))++ [0])[(R.take (tlen R (n+1))++ [0]).length-1]?.getD 0=0):=Lib.hid (by rw[hlz,Nat.add_sub_cancel,List.getElem?_append_right aFx,htl];simp);generalize R.take (tlen R (n+1))++ [0]=l at *
 have HBT:=Lib.hid (HB3.out.trans (HB4.out.mono hz3));clear hol hlk hvk o5 HB3
 go_wp2_with fail
 go_loopw [9] (fun uv wr=>∃(g cap:Nat) (l:List Int),uv= .slice (some ⟨g,0,none⟩) l.length cap∧1≤l.length∧l.length≤n+2∧g≠w3.heap.size∧Hid (wr.ownsRow W2.heap.size 3 1 (.slice (some ⟨g,0,none⟩) l.length cap) l.length (nums .i64 l))∧Hid (lval l=lval xs*lval [s])∧Hid (limbs l)∧Hid (l[l.length-1]?.getD 0=0)∧Hid (Rowd w3.heap.size V wr)∧Hid (Below W2.heap.size W2 wr)) (fun uv _=>n+1-sliceLen uv)
 case atStart=>exact⟨g,cap,l,by rw[hlz],by omega,by omega,by omega,HOL,HVK,HLK,HLZ,o9,HBT⟩
 case round=>
  obtain⟨g,cap,l,rfl,hl1,hl2,hgw,HO,HV,HL,HZ,HRV,HB⟩:=hrel
  by_cases hle:l.length≤n
  ·have hzr:=HB.out.size
   have hrl:=HRV.out.lt
   go_wp2_with((with_reducible refine lC (b:= .append) (xs:=#[.tmp 58,.tmp 59]) rfl ?_);at_builtin;go_loud (refine aC2 (w0:=W2) (W:=wr) W2.heap.size rfl _ _ 79 3 .i64 8 rfl Tryz.underlying79 yN aG0 (.slice (some ⟨g,0,none⟩) l.length cap) l 0 rfl rfl HO.out HB.out hzr aFx ?_);intro v1 w5 hown hB5 hg5 hat5;obtain⟨g5,cap5,rfl,hgb5,hgl5⟩:=hown.form aFz;have y8:=Lib.hid hown;have HB5:=Lib.hid hB5;have HG5:=Lib.hid hg5;have HAT5:=Lib.hid hat5;clear hown hB5 hg5 hat5)
   have hll:(l++ [0]).length=l.length+1:=by simp
   refine⟨⟨g5,cap5,l++ [0],by rw[hll],by omega,by omega,?_,y8,Lib.hid (by rw[aFc];exact HV.out),Lib.hid (aEm HL.out),Lib.hid (by rw[hll,Nat.add_sub_cancel,List.getElem?_append_right (Nat.le_refl _)];simp),Lib.hid ?_,HB5⟩,by simp only[sliceLen,hll];omega⟩
   ·rcases HAT5.out with h|⟨b,h,hb⟩
    ·cases h;exact hgw
    ·have e:g5=b:=by cases h;rfl
     subst e;omega
   ·exact(HG5.out.block w3.heap.size hrl (fun e=>by cases e;exact hgw rfl)).trans HRV.out
  ·have hsv:lval [s]=s:=by simp[lval,pval]
   have hV':limbs (tl V)∧topped (tl V)∧lval (tl V)=lval ys*s∧(tl V).length=tlen V (m+2+1):=⟨aB4 o6.out,aE4 V,by rw[tl_val,HV4.out,hsv],by rw[aBi,HL4.out]⟩
   have hD:(1000000000:Int) ^ (m+1)≤lval ys*s:=by
    have h1:=aBq HYL.out HYT.out (by rw[HYa.out.1];omega);rw[HYa.out.1] at h1;have h2:lval ys*1≤lval ys*s:=Int.mul_le_mul_of_nonneg_left z4 (rJ HYL.out);have e:m+2-1=m+1:=by omega
    rw[e] at h1;omega
   have hXY:lval ys*s≤lval xs*s:=Int.mul_le_mul_of_nonneg_right HLT.out aFx;have hlen:=scaled_len HL.out HZ.out hl1 hV'.1 hV'.2.1 hV'.2.2.1 (by rw[HV.out,hsv]) hXY hD;rw[hV'.2.2.2] at hlen;have HVV:=Lib.hid hV';have HD:=Lib.hid hD;have HXY:=Lib.hid hXY;clear hV' hD hXY;have htn:=nN V (m+2+1);generalize tlen V (m+2+1)=N at *
   have hmk:=aAt (P:=Tryz.prog) 79 3 .i64 8 Tryz.underlying79 yN aG0 (l.length-N) aFx;rw[Int.ofNat_sub (by omega:N≤l.length)] at hmk;have HRN:Hid (RowN g l wr):=Lib.hid ⟨W2.heap.size,cap,HO.out⟩
   have hcap:l.length≤cap:=by
    rcases HO.out.2 with ⟨h,_⟩|⟨_,_,_,he,_,_,h,_⟩
    ·cases h
    ·cases he;exact h
   have hgl2:g<wr.heap.size:=by
    rcases HO.out.2 with ⟨h,_⟩|⟨_,_,_,he,_,hh,_⟩
    ·cases h
    ·cases he;exact(Array.getElem?_eq_some_iff.1 hh).1
   have hgW:W2.heap.size≤g:=by
    rcases HO.out.2 with ⟨h,_⟩|⟨_,_,_,he,hb,_⟩
    ·cases h
    ·cases he;exact hb
   have hrw:=HB.out.size
   go_wp2_with fail
   clear hmk;obtain⟨gO,hgO⟩:∃gO,wr.heap.size=gO:=⟨_,rfl⟩
   have hgO2:gO≠g:=by omega
   have hgw3:w3.heap.size<gO:=hgO▸HRV.out.lt;have hRO0:Rowd gO (List.replicate (l.length-N) 0) (wr.alloc (.cells (madeCells #[.int .i64 0] (l.length-N)) 3)):=by rw[←hgO];exact Rowd.made wr _
   have HRO0:=Lib.hid hRO0;clear hRO0;rw[hgO]
   go_loopw [13] (fun jv wz=>∃(k:Nat) (M O:List Int),k≤l.length-N∧jv= .int .i64 ((k:Int)-1)∧M.length=l.length∧O.length=l.length-N∧Hid (RowN g M wz)∧Hid (limbs M)∧Hid (Rowd gO O wz)∧Hid (limbs O)∧Hid (∀i,i<k→O[i]?.getD 0=0)∧Hid (∀i,k+N≤i→M[i]?.getD 0=0)∧Hid (wval M k N<lval ys*s)∧Hid (pval M l.length+lval ys*s*lval O=lval xs*s)∧Hid (Rowd w3.heap.size V wz)∧Hid (Below W2.heap.size W2 wz)) (fun jv _=>(1+intOf jv).toNat)
   case atStart=>
    have hw:wval l (l.length-N) N<lval ys*s:=by
     obtain⟨N',hN'⟩:∃N',N=N'+1:=⟨N-1,by omega⟩
     have a:=aBq HVV.out.1 HVV.out.2.1 (by rw[HVV.out.2.2.2];omega);rw[HVV.out.2.2.2,HVV.out.2.2.1,hN',Nat.add_sub_cancel] at a;have b:=aBx HL.out (l.length-(N'+1)) N';rw[hN',wval,show l.length-(N'+1)+N'=l.length-1 from by omega,HZ.out,Int.zero_mul,Int.add_zero];omega
    have hz0:lval (List.replicate (l.length-N) 0)=0:=aBo _ _;have hzl:limbs (List.replicate (l.length-N) 0):=fun i=>by by_cases h:i<l.length-N <;> simp[List.getElem?_replicate,h]
    refine⟨l.length-N,l,List.replicate (l.length-N) 0,Nat.le_refl _,congrArg (Value.int .i64) aFx,rfl,by simp,Lib.hid ?_,HL,HRO0,Lib.hid hzl,Lib.hid (fun i hi=>by simp[List.getElem?_replicate,hi]),Lib.hid (fun i hi=>qW l i aFx),Lib.hid hw,Lib.hid ?_,Lib.hid (HRV.out.alloc _),Lib.hid (HB.out.alloc hrw _)⟩
    ·obtain⟨b6,c6,l9⟩:=HRN.out
     exact⟨b6,c6,own_kept l9 (Below.heap_alloc _ _ _ hgl2)⟩
    ·rw[hz0,Int.mul_zero,Int.add_zero]
     exact HV.out.trans (by rw[hsv])
   case round=>
    obtain⟨k,M,O,hk,rfl,hM,hO,HRM,HLM,HRO,HLO,HZO,HZM,HW,HS,HRV2,HB2⟩:=hrel
    by_cases hk0:k=0
    ·subst hk0
     have hru:lS wr .i64 (some ⟨g,0,none⟩) l.length M:=⟨hM,by omega,fun _=>⟨_,rfl,fun i hi=>by
      have:=HRM.out.cell i aFx
      rw[List.getD_eq_getElem?_getD,←this,show(Addr.add ⟨g,0,none⟩ i)=⟨g,i,none⟩ from by simp only[Addr.add];split <;> simp_all]⟩⟩
     have HRU:Hid (lS wr.drew .i64 (some ⟨g,0,none⟩) l.length M):=Lib.hid hru
     have hcm:cap≤9223372036854775807:=by
      obtain⟨_,_,ho⟩:=HRN.out;rcases HO.out.2 with ⟨h,_⟩|⟨_,_,_,he,_,_,_,h,_⟩
      ·cases h
      ·cases he;exact h
     have kd:wr.drew.cell? ⟨w1.heap.size,0,none⟩=some (.int .i64 s):=by
      obtain⟨_,e,_,hc⟩:=(HSC.out _ HB2.out).2.2 aFx
      cases e
      simpa[Addr.add] using hc 0 aFx
     have hRT:RI wr.drew.heap.size wr.drew (some ⟨g,0,none⟩) (tlen M l.length) (tl M):=by
      refine⟨by rw[aBi,hM],by have:=nN M l.length;omega,fun _=>⟨_,rfl,?_,fun i hi=> ?_⟩⟩
      ·have hh:=HRM.out.frozen 0
       obtain⟨_,_,ho⟩:=HRM.out;rcases ho.2 with ⟨h,_⟩|⟨_,_,_,he,_,hh,_⟩
       ·cases h
       ·cases he;exact(Array.getElem?_eq_some_iff.1 hh).1
      ·have hlt:=nN M l.length
       have:=HRM.out.cell i aFx;rw[show(Addr.add ⟨g,0,none⟩ i)=⟨g,i,none⟩ from by simp only[Addr.add];split <;> simp_all];rw[tl,aAk M _ i (by rw[hM];exact hi)];exact this
     have HSH:=Lib.hid (short_walk (some ⟨g,0,none⟩) (tlen M l.length) cap (tl M) s wr.drew hRT (by have:=nN M l.length;omega) z4 aFx (fun i=>aB4 HLM.out i.val));clear hru hRT
     go_wp2_with fail
     go_region_held3 (fun w'=>w'.cell? ⟨w1.heap.size,0,none⟩=some (.int .i64 s)) (first|assumption) (first
      |(go_at_call 172;refine(yM _ _ _ M _ HRU.out hcap hcm).mono ?_;rintro e w6 ⟨rfl,rfl⟩)
      |(go_at_call 171;refine HSH.out.mono ?_;rintro E w7 ⟨rfl,hR7,hB7⟩;have k7:w7.cell? ⟨w1.heap.size,0,none⟩=some (.int .i64 s):=(hB7.cell (p:=⟨w1.heap.size,0,none⟩) (by show w1.heap.size<wr.heap.size;have h1:=HSZ.out;have h2:=HB2.out.size;omega)).trans kd;have o7:=Lib.hid hR7;have HB7:=Lib.hid hB7;clear hR7 hB7 HSH))
     all_goals(
      have hO7:Rowd gO O w7:=(HB7.out.block gO HRO.out.lt).trans HRO.out;have HT7:=Lib.hid (lI hO7 aFx);rw[hO] at HT7;have o8:=Lib.hid hO7;clear hO7
      go_wp2_with(go_at_call 172;refine(yM _ _ _ O _ HT7.out (Nat.le_refl _) aFx).mono ?_;rintro e w8 ⟨rfl,rfl⟩)
      go_ret2
      have hZM:∀i,N≤i→M[i]?.getD 0=0:=fun i hi=>HZM.out i aFx
      have hP:pval M l.length=wval M 0 N:=by
       have h1:=pval_zero M N hZM (l.length-N);rw[show N+(l.length-N)=l.length from by omega] at h1;have h2:=zJ M 0 N;rw[Nat.zero_add] at h2;rw[h1,h2]
       simp[pval]
      have hT:lval (tl M)=pval M l.length:=by rw[tl_val,lval,hM]
      have htN:tlen M l.length≤N:=by
       have:=tlen_zero M N hZM (l.length-N)
       rwa [show N+(l.length-N)=l.length from by omega] at this
      have ht:(tl M).length=tlen M l.length:=by rw[aBi,hM]
      have hY0:0<lval ys:=by
       have h1:=aBq HYL.out HYT.out (by rw[HYa.out.1];omega);exact Int.lt_of_lt_of_le (kQ _) h1
      have hend:=div_end (X:=lval xs) (Y:=lval ys) (Q:=lval O) (R:=pval M l.length) z4 hY0 HS.out (qH HLM.out _) (by rw[hP];exact HW.out);have hsv2:=short_val s z4 (aB4 HLM.out) (tlen M l.length) ht;have hsl2:=aE9 s z4 (aB4 HLM.out) (tlen M l.length) (tlen M l.length) (Nat.le_refl _);have hl7:(shF s (tl M) (bwl (tlen M l.length) (tlen M l.length))).1.length=tlen M l.length:=aBt s (tl M) _;have hq1:Mag w8 (.slice (some ⟨gO,0,none⟩) (tlen O O.length) (l.length-N)) (lval xs/lval ys) (n+1):=oD (lI o8.out aFx) (fun ad e=>by cases e;exact o8.out.lt) HLO.out aFx aFx (Nat.le_trans (nN _ _) aFx) hend.1.symm;rw[hO] at hq1;have hq2:=oD (L:=n+1) (c:=tlen M l.length) (x:=lval xs%lval ys) (lI o7.out (by rw[hl7];omega)) (fun ad e=>by cases e;exact o7.out.lt) hsl2 (by rw[hl7];exact Nat.le_refl _) aFx (Nat.le_trans (nN _ _) (by rw[hl7];omega)) (by rw[hsv2.1,hT,hend.2]);rw[hl7] at hq2
      exact⟨_,_,_,_,_,_,rfl,hq1,hq2,HBW.out.trans ((HB2.out.drew.trans (HB7.out.mono HB2.out.size)).mono HBW.out.size)⟩)
    ·obtain⟨k,rfl⟩:∃k',k=k'+1:=⟨k-1,by omega⟩
     have e1:((k+1:Nat):Int)-1=(k:Int):=by omega
     rw[e1];have hN:tlen V V.length=N:=(aBi V).symm.trans HVV.out.2.2.2;have hMV:=oD (L:=N) (c:=m+2+1) (x:=lval ys*s) (lI HRV2.out (by rw[HL4.out];omega)) (fun ad e=>by cases e;exact HRV2.out.lt) o6.out (by rw[HL4.out];omega) aFx (by rw[hN];exact Nat.le_refl _) (by rw[HV4.out,hsv]);rw[hN] at hMV;obtain⟨_,_,_,vs,he,hri,hvl,hvt,_,_,_,hvv⟩:=hMV
     cases he
     obtain⟨N2,hN2⟩:∃N2,N=N2+2:=⟨N-2,by omega⟩
     have hv1:1≤vs[N2+1]?.getD 0:=by
      have h1:=(hvl (N2+1)).1;rcases hvt with h|h
      ·rw[hri.1] at h;omega
      ·rw[hri.1,show N-1=N2+1 from by omega] at h;omega
     have hE:=estimate_walk g k N2 (cap-k) (some ⟨w3.heap.size,0,none⟩) (m+2+1) M vs W2.heap.size W2 wr HRM.out hgW HB2.out aFx _ (hN2▸hri) (fun ad e=>by cases e;exact fun q=>hgw q.symm) HLM.out hvl hv1 aFx (by rw[hvv];exact win_lt HLM.out k (N2+2) (hN2▸HW.out));rw[←hN2,hvv] at hE;have HE:=Lib.hid hE;clear hE hri hvl hvt hvv hv1 hN hN2
     go_wp2_with(go_at_call 173;rw[show k+N+1-k=N+1 from by omega];refine HE.out.mono ?_;rintro E w6 ⟨rfl,⟨M2,hR6,hl6,hn6,hf6,hw6⟩,hB6,hY6,hN6⟩;have hO6:Rowd gO O w6:=(hN6.2 gO HRO.out.lt hgO2).trans HRO.out;have hV6:Rowd w3.heap.size V w6:=(hN6.2 w3.heap.size HRV2.out.lt (fun q=>hgw q.symm)).trans HRV2.out;have fO:=hO6.frozen k;have cO:=hO6.cell k aFx;have y9:=Lib.hid hO6;have HV6:=Lib.hid hV6;have C9:=Lib.hid hR6;have HB6:=Lib.hid hB6;clear hR6 hB6 hY6 hN6 hO6 hV6)
     have hD0:0<lval ys*s:=Int.lt_of_lt_of_le (kQ _) HD.out;have hW0:=qI HLM.out k (N+1);have hq0:0≤wval M k (N+1)/(lval ys*s):=Int.ediv_nonneg hW0 (Int.le_of_lt hD0);have hwl:=win_lt HLM.out k N HW.out;have hq1:wval M k (N+1)/(lval ys*s)<1000000000:=Int.ediv_lt_of_lt_mul hD0 hwl;have hr1:wval M k (N+1)%(lval ys*s)<lval ys*s:=Int.emod_lt_of_pos _ hD0;have hDN:lval ys*s<1000000000 ^ N:=by have:=aB3 HVV.out.1;rw[HVV.out.2.2.1,HVV.out.2.2.2] at this;exact this
     have hwt:=win_top hl6 k N (by rw[hw6];omega);have hch:=win_change k (N+1) l.length aFx hf6;have hdm:=Int.emod_add_mul_ediv (wval M k (N+1)) (lval ys*s);have hos:=out_step O k (wval M k (N+1)/(lval ys*s)) aFx (HZO.out k aFx);rw[hw6] at hch;refine⟨⟨k,M2,O.set k (wval M k (N+1)/(lval ys*s)),by omega,rfl,hn6.trans hM,by rw[List.length_set];exact hO,Lib.hid ?_,Lib.hid hl6,Lib.hid (y9.out.store k _),Lib.hid (aAl HLO.out _ _ ⟨hq0,hq1⟩),Lib.hid ?_,Lib.hid ?_,Lib.hid (by rw[hwt.2,hw6];exact hr1),Lib.hid ?_,Lib.hid (HV6.out.other aFx _ _),Lib.hid (HB6.out.setCell (p:=⟨gO,k,none⟩) (by show W2.heap.size≤gO;omega) _)⟩,by simp only[intOf];omega⟩
     ·obtain⟨b6,c6,l9⟩:=C9.out
      exact⟨b6,c6,own_kept l9 (Below.heap_setCell _ _ _ _ (fun q=>hgO2 q.symm))⟩
     ·intro i hi
      rw[List.getElem?_set_ne aFx];exact HZO.out i aFx
     ·intro i hi
      by_cases h:i=k+N
      ·subst h;exact hwt.1
      ·rw[hf6 i aFx]
       exact HZM.out i aFx
     ·rw[hos]
      have hSum:=HS.out;generalize pval M2 l.length=P2 at *
      generalize pval M l.length=P1 at *
      generalize wval M k (N+1)=Wk at *
      have h1:(Wk%(lval ys*s)-Wk)*1000000000 ^ k= -(lval ys*s*(Wk/(lval ys*s)*1000000000 ^ k)):=by
       rw[show Wk%(lval ys*s)-Wk= -(lval ys*s*(Wk/(lval ys*s))) from by omega,Int.neg_mul,Int.mul_assoc]
      rw[h1] at hch;rw[Int.mul_add];omega
end Go.Proofs.YtignanmmgaldeaaGreatDoor
namespace Go.Proofs.YtignanmmgaldeaaGreatDoor
open Go.RowKit Go.Shelf Go.Proofs.YtignanmmgaldeaaGreatDoorW.PrintWords
theorem div_all{xs ys:List Int}(hx:limbs xs)(hy:limbs ys)(tx:topped xs)(ty:topped ys)(hn:xs.length≤100000)(hm:ys.length≤100000)(h0:0<lval ys):DivH xs ys (xs.length+1):=by
 by_cases hs:lval xs<lval ys∨lval ys<1000000000
 ·exact div_small hx hy tx ty aFx h0 hs
 ·intro A B n m c e w hX hY hnc hme
  have ho:=(aDe hx hy tx ty).1
  have h2:2≤ys.length:=by
   by_cases h:ys.length≤1
   ·have h1:=aB3 hy
    have h2:=aDi h;rw[Int.pow_one] at h2;omega
   ·omega
  obtain⟨k,hk⟩:∃k,m=k+2:=⟨m-2,by have:=hY.1;omega⟩
  subst hk;have hl:=hX.1;rw[hl];have hl2:=hY.1;exact divide_long A B n k c e xs ys w hX hY hx hy ty aFx aFx (fun h=>hs (.inl (ho.1 h))) aFx
end Go.Proofs.YtignanmmgaldeaaGreatDoor
end
section
set_option linter.unusedVariables false
set_option linter.unusedSimpArgs false
set_option maxRecDepth 100000
set_option maxHeartbeats 4000000
namespace Go.Proofs.YtignanmmgaldeaaGreatDoor
open Go.RowKit Go.Shelf Go.Proofs.YtignanmmgaldeaaGreatDoorW.PrintWords
theorem DivH.more{xs ys:List Int}{K M:Nat}(h:DivH xs ys K)(hM:K≤M):DivH xs ys M:=by
 intro A B n m c e w h1 h2 h3 h4;refine(h A B n m c e w h1 h2 h3 h4).mono ?_;rintro E w' ⟨A',n',c',B',m',c2,he,k1,k2,hB⟩;exact⟨A',n',c',B',m',c2,he,k1.more hM,k2.more hM,hB⟩
def DivZ(x y:Int):Prop:=∀(xs ys:List Int) (b b2:Bool),limbs xs→limbs ys→topped xs→topped ys→xs.length≤456→ys.length≤456→x=(if b then -lval xs else lval xs)→y=(if b2 then -lval ys else lval ys)→0<lval ys→DivH xs ys 457
theorem aDj{w:World}{d:Bool}{A:Option Addr}{n c:Nat}{z:Int}{L:Nat}(h:NumV w (.agg #[.bool d,.slice A n c]) z L):∃xs,RI w.heap.size w A n xs∧limbs xs∧topped xs∧n≤c∧n≤L∧z=(if d=true then -lval xs else lval xs)∧n=xs.length:=by
 obtain⟨b,u,x,he,⟨A',n',c',xs,rfl,h1,h2,h3,h4,h5,h6,rfl⟩,rfl⟩:=h
 simp at he
 obtain⟨rfl,rfl,rfl,rfl⟩:=he;exact⟨xs,h1,h2,h3,h4,h6,rfl,h1.1.symm⟩
theorem divided_err(a b:ByteArray)(w:World)(c:Int)(hc:iZ a b=c)(h0:c≠0)(ha:a.size≤9223372036854775807)(hb:b.size≤9223372036854775807) :
 Calls Tryz.prog 74 #[.string a,.string b] w fun e w'=>e= .returned (.tuple #[.string ⟨#[]⟩,.string ⟨#[]⟩,.int .i64 c])∧Below w.heap.size w w':=by
 have HP:Hid (∀w:World,Calls Tryz.prog 79 #[.string a,.string b] w fun e w'=>∃d A n c1 d2 B m c2,e= .returned (.tuple #[.agg #[.bool d,.slice A n c1],.agg #[.bool d2,.slice B m c2],.int .i64 c])∧Below w.heap.size w w'):=Lib.hid (fun w=>yQ a b w c hc h0 ha hb);have e1:(c != 0)=true:=by simpa using h0
 go_enter Tryz.func74,Tryz.ntmps74
 clear hc ha hb
 go_wp2_with(go_at_call 79;refine(HP.out _).mono ?_;rintro e w1 ⟨d,A,n,c1,d2,B,m,c2,rfl,hB⟩;have HB:=Lib.hid hB;clear hB HP)
 go_ret3
 exact⟨rfl,HB.out.trans ((((Below.refl _ w1).alloc (Nat.le_refl _) _).alloc aFz _).mono HB.out.size)⟩
theorem divided_zero(a b:ByteArray)(w:World)(ha0:chkI a=0)(hb0:chkI b=0)(ha:a.size≤9223372036854775807)(hb:b.size≤9223372036854775807)(hz:aV b=0) :
 Calls Tryz.prog 74 #[.string a,.string b] w fun e w'=>e= .returned (.tuple #[.string ⟨#[]⟩,.string ⟨#[]⟩,.int .i64 19])∧Below w.heap.size w w':=by
 have HP:Hid (∀w:World,Calls Tryz.prog 79 #[.string a,.string b] w fun e w'=>∃d A n c1 d2 B c2,e= .returned (.tuple #[.agg #[.bool d,.slice A n c1],.agg #[.bool d2,.slice B 0 c2],.int .i64 0])∧Below w.heap.size w w'):=Lib.hid (fun w=>(oZ a b w ha0 hb0 ha hb).mono (by
  rintro e w' ⟨d,A,n,c,d2,B,m,c2,rfl,h1,h2,hB⟩;obtain⟨ys,k1,k2,k3,k4,k5,k6,k7⟩:=aDj h2;have:lval ys=0:=by rw[hz] at k6;cases d2 <;> simp at k6 <;> omega
  have:m=0:=by rw[k7];exact(sU k2 k3).1 this
  subst this
  exact⟨_,_,_,_,_,_,_,rfl,hB⟩))
 go_enter Tryz.func74,Tryz.ntmps74
 clear ha0 hb0 ha hb hz
 go_wp2_with(go_at_call 79;refine(HP.out _).mono ?_;rintro e w1 ⟨d,A,n,c1,d2,B,c2,rfl,hB⟩;have HB:=Lib.hid hB;clear hB HP)
 go_ret3
 exact⟨rfl,HB.out.trans ((((Below.refl _ w1).alloc (Nat.le_refl _) _).alloc aFz _).mono HB.out.size)⟩
theorem divided_ok(a b:ByteArray)(w:World)(ha0:chkI a=0)(hb0:chkI b=0)(ha:a.size≤9223372036854775807)(hb:b.size≤9223372036854775807)(hz:aV b≠0)(hD:DivZ (aV a) (aV b))(hG:GW w) :
 Calls Tryz.prog 74 #[.string a,.string b] w fun e w'=>e= .returned (.tuple #[.string (text (Int.fdiv (aV a) (aV b))),.string (text (Int.fmod (aV a) (aV b))),.int .i64 0])∧Below w.heap.size w w':=by
 have HP:=Lib.hid (fun w=>oZ a b w ha0 hb0 ha hb);have HG:=Lib.hid hG;go_enter Tryz.func74,Tryz.ntmps74
 clear ha0 hb0 ha hb hG
 go_wp2_with(go_at_call 79;refine(HP.out _).mono ?_;rintro e w1 ⟨d,A,n,c,d2,B,m,c2,rfl,hn1,hn2,hB⟩;obtain⟨xs,x1,x2,x3,x4,x5,x6,x7⟩:=aDj hn1;obtain⟨ys,y1,y2,y3,y4,y5,y6,y7⟩:=aDj hn2;have hm0:m≠0:=(fun e0=>hz (by rw[y6,(sU y2 y3).2 (by rw[←y7];exact e0)];cases d2 <;> rfl));have hm1:decide ((m:Int)=0)=false:=(by simpa using hm0);have hm2:((m:Int)==0)=false:=(by simpa using hm0);have HB:=Lib.hid hB;have HD:=Lib.hid (hD xs ys d d2 x2 y2 x3 y3 aFx aFx x6 y6 (by have:=rJ y2;have:lval ys≠0:=(fun e0=>hm0 (y7.trans ((sU y2 y3).1 e0)));omega));have H0:=Lib.hid (show 0<lval ys by have:=rJ y2;have:lval ys≠0:=(fun e0=>hm0 (y7.trans ((sU y2 y3).1 e0)));omega);have X6:=Lib.hid x6;have Y6:=Lib.hid y6;have X1:=Lib.hid x1;have X2:=Lib.hid x2;have Y1:=Lib.hid y1;have Y2:=Lib.hid y2;have Y3:=Lib.hid y3;clear hn1 hn2 hB HP hD x1 x2 x3 y1 y2 y3 x6 y6)
 have hba:Below w1.heap.size w1 ((w1.alloc (.cells #[.bool d,.slice A n c] 81)).alloc (.cells #[.bool d2,.slice B m c2] 81)):=((Below.refl _ w1).alloc (Nat.le_refl _) _).alloc aFz _;have hsa:((w1.alloc (.cells #[.bool d,.slice A n c] 81)).alloc (.cells #[.bool d2,.slice B m c2] 81)).heap.size=w1.heap.size+2:=by simp
 have hrx:=(X1.out.below hba).mono hba.size;have hry:=(Y1.out.below hba).mono hba.size;subst x7;subst y7;refine(aEa A B _ _ c c2 xs ys d d2 457 _ hrx hry x4 y4 HD.out X2.out Y2.out Y3.out aFx aFx aFx H0.out).mono ?_;rintro E w2 ⟨d1,A1,n1,c1,d3,A2,n2,c3,rfl,q1,q2,hB2⟩;rw[←X6.out,←Y6.out] at q1 q2;have hb2:=HB.out.trans ((hba.trans (hB2.mono (by rw[hsa];omega))).mono HB.out.size);have HB2:=Lib.hid hb2;have HG2:=Lib.hid (HG.out.below hb2);have HQ:=Lib.hid q1;have HR:=Lib.hid q2;clear q1 q2 hb2 hB2 hba hsa hrx hry HB HG X1 X2 X6 Y1 Y2 Y3 Y6 HD H0;go_wp2
 have hb0:((w2.alloc (.cells #[.bool d1,.slice A1 n1 c1] 81)).alloc (.cells #[.bool d3,.slice A2 n2 c3] 81)).heap[w2.heap.size]? =some (.cells #[.bool d1,.slice A1 n1 c1] 81):=(Below.heap_alloc _ _ _ aFz).trans (World.alloc_heap_new w2 _)
 have hb1:((w2.alloc (.cells #[.bool d1,.slice A1 n1 c1] 81)).alloc (.cells #[.bool d3,.slice A2 n2 c3] 81)).heap[w2.heap.size+1]? =some (.cells #[.bool d3,.slice A2 n2 c3] 81):=by
  have:=World.alloc_heap_new (w2.alloc (.cells #[.bool d1,.slice A1 n1 c1] 81)) (.cells #[.bool d3,.slice A2 n2 c3] 81)
  rwa [World.size_alloc] at this
 have hBa:Below w2.heap.size w2 ((w2.alloc (.cells #[.bool d1,.slice A1 n1 c1] 81)).alloc (.cells #[.bool d3,.slice A2 n2 c3] 81)):=((Below.refl _ w2).alloc (Nat.le_refl _) _).alloc aFz _;have hsz:((w2.alloc (.cells #[.bool d1,.slice A1 n1 c1] 81)).alloc (.cells #[.bool d3,.slice A2 n2 c3] 81)).heap.size=w2.heap.size+2:=by simp
 obtain⟨W5,hW5⟩:∃W5,(w2.alloc (.cells #[.bool d1,.slice A1 n1 c1] 81)).alloc (.cells #[.bool d3,.slice A2 n2 c3] 81)=W5:=⟨_,rfl⟩
 rw[hW5] at hb0 hb1 hBa hsz ⊢;clear hW5;have c0:=fJ hb0 0 _ rfl;have c1':=fJ hb0 1 _ rfl;have c3':=fJ hb1 0 _ rfl;have c4:=fJ hb1 1 _ rfl
 have HKC:Hid (∀v1 v2:World,w2.heap.size+1<v1.heap.size→Below v1.heap.size v1 v2→(v1.cell? ⟨w2.heap.size,0,none⟩=some (.bool d1)∧v1.cell? ⟨w2.heap.size,1,none⟩=some (.slice A1 n1 c1)∧v1.cell? ⟨w2.heap.size+1,0,none⟩=some (.bool d3)∧v1.cell? ⟨w2.heap.size+1,1,none⟩=some (.slice A2 n2 c3))→v2.cell? ⟨w2.heap.size,0,none⟩=some (.bool d1)∧v2.cell? ⟨w2.heap.size,1,none⟩=some (.slice A1 n1 c1)∧v2.cell? ⟨w2.heap.size+1,0,none⟩=some (.bool d3)∧v2.cell? ⟨w2.heap.size+1,1,none⟩=some (.slice A2 n2 c3)):=Lib.hid fun v1 v2 hl hB ⟨a1,a2,a3,a4⟩=>
  ⟨(hB.cell (p:=⟨w2.heap.size,0,none⟩) (by show w2.heap.size<_;omega)).trans a1,(hB.cell (p:=⟨w2.heap.size,1,none⟩) (by show w2.heap.size<_;omega)).trans a2,(hB.cell (p:=⟨w2.heap.size+1,0,none⟩) hl).trans a3,(hB.cell (p:=⟨w2.heap.size+1,1,none⟩) hl).trans a4⟩
 have kd:W5.drew.cell? ⟨w2.heap.size,0,none⟩=some (.bool d1)∧W5.drew.cell? ⟨w2.heap.size,1,none⟩=some (.slice A1 n1 c1)∧W5.drew.cell? ⟨w2.heap.size+1,0,none⟩=some (.bool d3)∧W5.drew.cell? ⟨w2.heap.size+1,1,none⟩=some (.slice A2 n2 c3):=⟨c0,c1',c3',c4⟩;have HBD:=Lib.hid hBa.drew;have hsd:w2.heap.size+2=W5.drew.heap.size:=hsz.symm;have HT1:Hid (∀v:World,Below w2.heap.size w2 v→Calls Tryz.prog 88 #[.agg #[.bool d1,.slice A1 n1 c1]] v fun e w'=>e= .returned (.string (text (Int.fdiv (aV a) (aV b))))∧Below v.heap.size v w'):=Lib.hid fun v hv=>yS _ _ 458 v (HQ.out.below hv) aFx (HG2.out.below hv)
 have HT2:Hid (∀v:World,Below w2.heap.size w2 v→Calls Tryz.prog 88 #[.agg #[.bool d3,.slice A2 n2 c3]] v fun e w'=>e= .returned (.string (text (Int.fmod (aV a) (aV b))))∧Below v.heap.size v w'):=Lib.hid fun v hv=>yS _ _ 458 v (HR.out.below hv) aFx (HG2.out.below hv)
 clear hb0 hb1 hBa hsz c0 c1' c3' c4
 go_region_held3 (fun w'=>w'.cell? ⟨w2.heap.size,0,none⟩=some (.bool d1)∧w'.cell? ⟨w2.heap.size,1,none⟩=some (.slice A1 n1 c1)∧w'.cell? ⟨w2.heap.size+1,0,none⟩=some (.bool d3)∧w'.cell? ⟨w2.heap.size+1,1,none⟩=some (.slice A2 n2 c3)) (first|assumption) (first
  |(go_at_call 88;refine(HT1.out _ HBD.out).mono ?_;rintro e w3 ⟨rfl,hB2⟩;have k2:=HKC.out _ _ aFx hB2 kd;have HB3:=Lib.hid (HBD.out.trans (hB2.mono aFx));have l9:=hB2.size;clear hB2 HT1)
  |(go_at_call 88;refine(HT2.out _ HB3.out).mono ?_;rintro e w4 ⟨rfl,hB3⟩;have k3:=HKC.out _ _ aFx hB3 k2;have HB4:=Lib.hid (HB3.out.trans (hB3.mono aFx));have o5:=hB3.size;clear hB3 HT2))
 all_goals(
  go_wp2
  go_ret3
  exact⟨rfl,HB2.out.trans (HB4.out.mono HB2.out.size)⟩)
def dvE(a b:ByteArray):Int:=if iZ a b=0 then(if aV b=0 then 19 else 0) else iZ a b
def dvS(a b:ByteArray)(z:Int):ByteArray:=if dvE a b=0 then text z else⟨#[]⟩
theorem aEb(a b:ByteArray)(w:World)(ha:a.size≤9223372036854775807)(hb:b.size≤9223372036854775807)(hD:DivZ (aV a) (aV b))(hG:GW w) :
 Calls Tryz.prog 74 #[.string a,.string b] w fun e w'=>e= .returned (.tuple #[.string (dvS a b (Int.fdiv (aV a) (aV b))),.string (dvS a b (Int.fmod (aV a) (aV b))),.int .i64 (dvE a b)])∧Below w.heap.size w w':=by
 unfold dvS dvE
 by_cases h:iZ a b=0
 ·have h':=h
  unfold iZ at h'
  split at h'
  ·rename_i h1
   by_cases hz:aV b=0
   ·simp only[h,hz,if_pos,if_neg]
    exact divided_zero a b w h1 h' ha hb hz
   ·simp only[h,hz,if_pos,if_neg]
    exact divided_ok a b w h1 h' ha hb hz hD hG
  ·rename_i h1
   exact absurd h' h1
 ·simp only[h,if_neg,if_false,not_false_eq_true]
  exact divided_err a b w _ rfl h ha hb
theorem quo_walk(a b:ByteArray)(w:World)(ha:a.size≤9223372036854775807)(hb:b.size≤9223372036854775807)(hD:DivZ (aV a) (aV b))(hG:GW w) :
 Calls Tryz.prog 18 #[.string a,.string b] w fun e w'=>e= .returned (.tuple #[.string (dvS a b (Int.fdiv (aV a) (aV b))),.int .i64 (dvE a b)])∧Below w.heap.size w w':=by
 have HP:=Lib.hid (aEb a b w ha hb hD hG);go_enter Tryz.func18,Tryz.ntmps18
 clear ha hb hD hG
 go_wp2_with(go_at_call 74;refine HP.out.mono ?_;rintro e w1 ⟨rfl,hB⟩;have HB:=Lib.hid hB;clear hB HP)
 go_ret2
 exact⟨rfl,HB.out⟩
theorem rem_walk(a b:ByteArray)(w:World)(ha:a.size≤9223372036854775807)(hb:b.size≤9223372036854775807)(hD:DivZ (aV a) (aV b))(hG:GW w) :
 Calls Tryz.prog 20 #[.string a,.string b] w fun e w'=>e= .returned (.tuple #[.string (dvS a b (Int.fmod (aV a) (aV b))),.int .i64 (dvE a b)])∧Below w.heap.size w w':=by
 have HP:=Lib.hid (aEb a b w ha hb hD hG);go_enter Tryz.func20,Tryz.ntmps20
 clear ha hb hD hG
 go_wp2_with(go_at_call 74;refine HP.out.mono ?_;rintro e w1 ⟨rfl,hB⟩;have HB:=Lib.hid hB;clear hB HP)
 go_ret2
 exact⟨rfl,HB.out⟩
theorem of_walk(n:Int)(h0: -9223372036854775808≤n)(h1:n≤9223372036854775807)(w:World)(hG:GW w) :
 Calls Tryz.prog 94 #[.int .i64 n] w fun e w'=>e= .returned (.string ⟨(Lib.itoa n).toArray⟩)∧Below w.heap.size w w':=by
 have HP:=Lib.hid (aCj n h0 h1 w hG);go_enter Tryz.func94,Tryz.ntmps94
 clear h0 h1 hG
 go_wp2_with(go_at_call 167;refine HP.out.mono ?_;rintro e w1 ⟨rfl,hB⟩;have HB:=Lib.hid hB;clear hB HP)
 go_ret
 exact⟨rfl,HB.out⟩
end Go.Proofs.YtignanmmgaldeaaGreatDoor
namespace Go.Proofs.YtignanmmgaldeaaGreatDoor
open Go.RowKit Go.Shelf Go.Proofs.YtignanmmgaldeaaGreatDoorW.PrintWords
def two63(a b:ByteArray):Prop:=a.size≤9223372036854775807∧b.size≤9223372036854775807
instance (a b:ByteArray):Decidable (two63 a b):=by unfold two63;infer_instance
def fits(n:Int):Prop:= -9223372036854775808≤n∧n≤9223372036854775807
theorem divZ_all(x y:Int):DivZ x y:=fun xs ys b b2 h1 h2 h3 h4 h5 h6 hx hy h0=>(div_all h1 h2 h3 h4 aFx aFx h0).more aFx
def qJ.f(a0 a1:ByteArray):Option (ByteArray×Int):=if two63 a0 a1 then(if iZ a0 a1=0 then some (wrS (aV a0+aV a1),wrE (aV a0+aV a1)) else some (⟨#[]⟩,iZ a0 a1)) else none
theorem qJ.calls(a0 a1:ByteArray)(r0:ByteArray)(r1:Int)(w:World)(hG:GW w)(h:qJ.f a0 a1=some (r0,r1)) :
 Calls Tryz.prog 22 #[.string a0,.string a1] w fun e w'=>e= .returned (.tuple #[.string r0,.int .i64 r1])∧Below w.heap.size w w':=by
 unfold qJ.f at h
 split at h
 ·rename_i h1
  have k:=add_walk a0 a1 w h1.1 h1.2 hG
  split at h
  ·rename_i h2
   obtain⟨rfl,rfl⟩:=Prod.mk.inj (Option.some.inj h);simp only[if_pos h2] at k;exact k
  ·rename_i h2
   obtain⟨rfl,rfl⟩:=Prod.mk.inj (Option.some.inj h);simp only[if_neg h2] at k;exact k
 ·cases h
def qK.f(a0 a1:ByteArray):Option (ByteArray×Int):=if two63 a0 a1 then(if iZ a0 a1=0 then some (wrS (aV a0+ -aV a1),wrE (aV a0+ -aV a1)) else some (⟨#[]⟩,iZ a0 a1)) else none
theorem qK.calls(a0 a1:ByteArray)(r0:ByteArray)(r1:Int)(w:World)(hG:GW w)(h:qK.f a0 a1=some (r0,r1)) :
 Calls Tryz.prog 24 #[.string a0,.string a1] w fun e w'=>e= .returned (.tuple #[.string r0,.int .i64 r1])∧Below w.heap.size w w':=by
 unfold qK.f at h
 split at h
 ·rename_i h1
  have k:=sub_walk a0 a1 w h1.1 h1.2 hG
  split at h
  ·rename_i h2
   obtain⟨rfl,rfl⟩:=Prod.mk.inj (Option.some.inj h);simp only[if_pos h2] at k;exact k
  ·rename_i h2
   obtain⟨rfl,rfl⟩:=Prod.mk.inj (Option.some.inj h);simp only[if_neg h2] at k;exact k
 ·cases h
def sW.f(a0 a1:ByteArray):Option (ByteArray×Int):=if two63 a0 a1 then(if iZ a0 a1=0 then some (wrS (aV a0*aV a1),wrE (aV a0*aV a1)) else some (⟨#[]⟩,iZ a0 a1)) else none
theorem sW.calls(a0 a1:ByteArray)(r0:ByteArray)(r1:Int)(w:World)(hG:GW w)(h:sW.f a0 a1=some (r0,r1)) :
 Calls Tryz.prog 26 #[.string a0,.string a1] w fun e w'=>e= .returned (.tuple #[.string r0,.int .i64 r1])∧Below w.heap.size w w':=by
 unfold sW.f at h
 split at h
 ·rename_i h1
  have k:=mul_walk a0 a1 w h1.1 h1.2 hG
  split at h
  ·rename_i h2
   obtain⟨rfl,rfl⟩:=Prod.mk.inj (Option.some.inj h);simp only[if_pos h2] at k;exact k
  ·rename_i h2
   obtain⟨rfl,rfl⟩:=Prod.mk.inj (Option.some.inj h);simp only[if_neg h2] at k;exact k
 ·cases h
def nO.f(a0 a1:ByteArray):Option (ByteArray×Int):=if two63 a0 a1 then some (dvS a0 a1 (Int.fdiv (aV a0) (aV a1)),dvE a0 a1) else none
theorem nO.calls(a0 a1:ByteArray)(r0:ByteArray)(r1:Int)(w:World)(hG:GW w)(h:nO.f a0 a1=some (r0,r1)) :
 Calls Tryz.prog 18 #[.string a0,.string a1] w fun e w'=>e= .returned (.tuple #[.string r0,.int .i64 r1])∧Below w.heap.size w w':=by
 unfold nO.f at h
 split at h
 ·rename_i h1
  obtain⟨rfl,rfl⟩:=Prod.mk.inj (Option.some.inj h);exact quo_walk a0 a1 w h1.1 h1.2 (divZ_all _ _) hG
 ·cases h
def jO.f(a0 a1:ByteArray):Option (ByteArray×Int):=if two63 a0 a1 then some (dvS a0 a1 (Int.fmod (aV a0) (aV a1)),dvE a0 a1) else none
theorem jO.calls(a0 a1:ByteArray)(r0:ByteArray)(r1:Int)(w:World)(hG:GW w)(h:jO.f a0 a1=some (r0,r1)) :
 Calls Tryz.prog 20 #[.string a0,.string a1] w fun e w'=>e= .returned (.tuple #[.string r0,.int .i64 r1])∧Below w.heap.size w w':=by
 unfold jO.f at h
 split at h
 ·rename_i h1
  obtain⟨rfl,rfl⟩:=Prod.mk.inj (Option.some.inj h);exact rem_walk a0 a1 w h1.1 h1.2 (divZ_all _ _) hG
 ·cases h
end Go.Proofs.YtignanmmgaldeaaGreatDoor
namespace Go.Proofs.YtignanmmgaldeaaGreatDoor
open Go.RowKit Go.Shelf Go.Proofs.YtignanmmgaldeaaGreatDoorW.PrintWords
open Go.Lib (decDigits)
theorem aFd(u:Nat):yP (decDigits u)=true:=by
 by_cases h:u=0
 ·subst h;rw[kJ aFx];rfl
 ·obtain⟨c,l,e,h1,h2⟩:=aB2 u h
  have ha:=lZ u;have hc:c≠48:=fun q=>by rw[q] at h1;simp at h1
  unfold yP;rw[ha,e]
  simp[hc]
theorem pF(z:Int):canon (text z).data.toList=true∧aV (text z)=z:=by
 unfold aV;have e:(text z).data.toList=Lib.itoa z:=rfl;rw[e];unfold Lib.itoa
 split
 ·rename_i h
  have hn:=aFd z.natAbs;have hv:=oK z.natAbs
  constructor
  ·show(yP (decDigits z.natAbs) && !(decDigits z.natAbs== [48]))=true
   rw[hn];have:decDigits z.natAbs≠ [48]:=fun q=>by rw[q] at hv;have:dval [48]=0:=rfl;omega
   simp[this]
  ·show -(dval (decDigits z.natAbs):Int)=z
   rw[hv];omega
 ·rename_i h
  have hn:=aFd z.toNat;have hv:=oK z.toNat
  have hh:∀r,decDigits z.toNat≠45::r:=fun r q=>by
   have:=lZ z.toNat;rw[q] at this
   simp[iP,uS] at this
  constructor
  ·unfold canon
   split
   ·rename_i r q
    exact absurd q (hh r)
   ·exact hn
  ·unfold ival
   split
   ·rename_i r q
    exact absurd q (hh r)
   ·rw[hv];omega
end Go.Proofs.YtignanmmgaldeaaGreatDoor
namespace Go.Proofs.YtignanmmgaldeaaGreatDoor
open Go.RowKit
theorem nJ(u m:Nat)(h:(Lib.decDigits u).length≤m):u<10 ^ m:=by
 have h1:=dval_lt _ (lZ u);rw[oK] at h1;exact Nat.lt_of_lt_of_le h1 (Nat.pow_le_pow_right aFx h)
theorem kK{u m:Nat}(h:u<10 ^ m)(hm:0<m):(Lib.decDigits u).length≤m:=by
 by_cases h0:u=0
 ·subst h0;rw[kJ aFx];show 1≤m;omega
 ·obtain⟨c,l,e,h1,h2⟩:=aB2 u h0
  have hp:=aC6 c l h1;rw[←e,oK] at hp;rw[e];show l.length+1≤m
  by_cases hle:l.length+1≤m
  ·exact hle
  ·have:=Nat.pow_le_pow_right (n:=10) aFx (show m≤l.length by omega)
   omega
theorem sizeN_le{z:Int}{m:Nat}(h:z.natAbs<10 ^ m):zI z≤m:=by
 unfold zI
 split
 ·omega
 ·rename_i h0
  by_cases hm:m=0
  ·subst hm;simp at h;omega
  ·exact kK h aFx
end Go.Proofs.YtignanmmgaldeaaGreatDoor
namespace Go.Proofs.YtignanmmgaldeaaGreatDoor
open Go.RowKit Go.Shelf
def Bd(m:Nat)(z:Int):Prop:=z.natAbs<10 ^ m
theorem Bd.mono{m k:Nat}{z:Int}(h:Bd m z)(hk:m≤k):Bd k z:=Nat.lt_of_lt_of_le h (Nat.pow_le_pow_right aFx hk)
theorem Bd.neg{m:Nat}{z:Int}(h:Bd m z):Bd m (-z):=by unfold Bd at *;rw[Int.natAbs_neg];exact h
theorem Bd.add{m:Nat}{x y:Int}(h:Bd m x)(k:Bd m y):Bd (m+1) (x+y):=by
 unfold Bd at *
 rw[Nat.pow_succ];generalize 10 ^ m=p at *
 omega
theorem Bd.mul{m k:Nat}{x y:Int}(h:Bd m x)(h2:Bd k y):Bd (m+k) (x*y):=by
 unfold Bd at *
 rw[Int.natAbs_mul,Nat.pow_add];exact Nat.mul_lt_mul'' h h2
theorem Bd.of_le{m:Nat}{x y:Int}(h:Bd m y)(hxy:x.natAbs≤y.natAbs):Bd m x:=Nat.lt_of_le_of_lt hxy h
theorem Bd.size{m:Nat}{z:Int}(h:Bd m z):zI z≤m:=sizeN_le h
theorem kV(z:Int):digN (text z)=(Lib.decDigits z.natAbs).length:=by
 unfold digN;rw[sS];unfold Lib.itoa
 split
 ·rename_i h
  have e1:Lib.hasPrefix (45::Lib.decDigits z.natAbs) [45]=true:=by simp[Lib.hasPrefix]
  simp[Lib.trimPrefix,e1]
 ·rename_i h
  have hm:=lW z.toNat;rw[show z.natAbs=z.toNat by omega];generalize Lib.decDigits z.toNat=l at hm;unfold Lib.trimPrefix
  split
  ·rename_i hp
   cases l with
   |nil=>rfl
   |cons c r=>
    have hc:45=c:=by have h:=hp;simp[Lib.hasPrefix,List.isPrefixOf] at h;exact h
    subst hc;exact absurd rfl (hm r)
  ·rfl
theorem chk_text{z:Int}{m:Nat}(h:Bd m z)(hm:1≤m)(h4:m≤4096):chkI (text z)=0:=by
 unfold chkI;have hd:=kK h hm;rw[if_pos (pF z).1,kV,if_neg aFx]
theorem bC(z:Int):aV (text z)=z:=(pF z).2
theorem size_text{z:Int}{m:Nat}(h:Bd m z)(hm:1≤m):(text z).size≤m+1:=by
 have hd:=kK h hm;rw[text_size,←Lib.decDigits_length]
 split <;> omega
theorem wE{x y:Int}{m:Nat}(hx:Bd m x)(hy:Bd m y)(hm:1≤m)(h4:m≤4096):two63 (text x) (text y):=by
 have h1:=size_text hx hm;have h2:=size_text hy hm;exact⟨by omega,by omega⟩
theorem sZ{x y:Int}{m:Nat}(hx:Bd m x)(hy:Bd m y)(hm:1≤m)(h4:m≤4096):iZ (text x) (text y)=0:=by
 unfold iZ;rw[chk_text hx hm h4,if_pos rfl,chk_text hy hm h4]
theorem wr_ok{z:Int}{m:Nat}(h:Bd m z)(h4:m≤4096):wrS z=text z∧wrE z=0:=by
 have:=h.size;unfold wrS wrE;rw[if_neg aFx,if_neg aFx];exact⟨rfl,rfl⟩
theorem add_at{x y:Int}(m:Nat)(hx:Bd m x)(hy:Bd m y)(hm:1≤m)(h4:m≤4095):qJ.f (text x) (text y)=some (text (x+y),0):=by
 unfold qJ.f;have hs:=wr_ok (hx.add hy) aFx;rw[if_pos (wE hx hy hm aFx),if_pos (sZ hx hy hm aFx),bC,bC,hs.1,hs.2]
theorem sub_at{x y:Int}(m:Nat)(hx:Bd m x)(hy:Bd m y)(hm:1≤m)(h4:m≤4095):qK.f (text x) (text y)=some (text (x+ -y),0):=by
 unfold qK.f;have hs:=wr_ok (hx.add hy.neg) aFx;rw[if_pos (wE hx hy hm aFx),if_pos (sZ hx hy hm aFx),bC,bC,hs.1,hs.2]
theorem mul_at{x y:Int}(m:Nat)(hx:Bd m x)(hy:Bd m y)(hm:1≤m)(h4:m≤2048):sW.f (text x) (text y)=some (text (x*y),0):=by
 unfold sW.f;have hs:=wr_ok (hx.mul hy) aFx;rw[if_pos (wE hx hy hm aFx),if_pos (sZ hx hy hm aFx),bC,bC,hs.1,hs.2]
theorem dvE_text{x y:Int}(m:Nat)(hx:Bd m x)(hy:Bd m y)(hm:1≤m)(h4:m≤4096):dvE (text x) (text y)=if y=0 then 19 else 0:=by
 unfold dvE;rw[if_pos (sZ hx hy hm h4),bC]
theorem quo_at{x y:Int}(m:Nat)(hx:Bd m x)(hy:Bd m y)(hm:1≤m)(h4:m≤4096):nO.f (text x) (text y)=some (if y=0 then(⟨#[]⟩,19) else(text (Int.fdiv x y),0)):=by
 unfold nO.f dvS;rw[if_pos (wE hx hy hm h4),dvE_text m hx hy hm h4,bC,bC]
 by_cases h:y=0
 ·rw[if_pos h,if_pos h];rfl
 ·rw[if_neg h,if_neg h];rfl
theorem aCa{x y:Int}(m:Nat)(hx:Bd m x)(hy:Bd m y)(hm:1≤m)(h4:m≤4096):jO.f (text x) (text y)=some (if y=0 then(⟨#[]⟩,19) else(text (Int.fmod x y),0)):=by
 unfold jO.f dvS;rw[if_pos (wE hx hy hm h4),dvE_text m hx hy hm h4,bC,bC]
 by_cases h:y=0
 ·rw[if_pos h,if_pos h];rfl
 ·rw[if_neg h,if_neg h];rfl
theorem compare_at{x y:Int}(m:Nat)(hx:Bd m x)(hy:Bd m y)(hm:1≤m)(h4:m≤4096):oL.f (text x) (text y)=some (sgnI (x-y),0):=by
 unfold oL.f cmpI;have h2:=wE hx hy hm h4;rw[if_pos ⟨h2.1,h2.2⟩,if_pos (sZ hx hy hm h4),sZ hx hy hm h4,bC,bC]
end Go.Proofs.YtignanmmgaldeaaGreatDoor
end
