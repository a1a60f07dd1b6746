/- Lemmas for the proof. -/
import Derived.RangeFuncNested
import Derived.RangeFuncBound
import Derived.Shelf.RegionOpen
import Derived.LoopNIn
import Derived.LoopIn
import Derived.Lib.Hide
import Derived.Test.YtignanmmgaldeaaGreatDoorProg
import Derived.Test.YtignanmmgaldeaaGreatDoorYB
import Derived.StillTailTactics
import Derived.Lib.Atoi
import Derived.Maps.OwnIn
import Derived.Lib.Strings
import Derived.Lib.ItoaNum
import Derived.Lib.AtoiAll
set_option linter.unusedVariables false
set_option linter.unusedSimpArgs false
set_option maxRecDepth 100000
set_option maxHeartbeats 8000000
namespace Go.Proofs.YtignanmmgaldeaaGreatDoor
open Go.RowKit Go.Shelf Go.Proofs.YtignanmmgaldeaaGreatDoorW.PrintWords
structure mP(B:Nat)(W W':World):Prop where
 same:∀o,W.heap[B]? =some o→W'.heap[B]? =some o
theorem mP.refl(B:Nat)(W:World):mP B W W:=⟨fun _ h=>h⟩
theorem mP.trans{B:Nat}{X Y Z:World}(h:mP B X Y)(k:mP B Y Z):mP B X Z:=⟨fun o e=>k.same o (h.same o e)⟩
theorem mP.cell{B:Nat}{X Y:World}(h:mP B X Y){o:Nat}{v:Value}(e:X.cell? ⟨B,o,none⟩=some v):Y.cell? ⟨B,o,none⟩=some v:=by
 cases hx:X.heap[B]? with
 |none=>simp[World.cell?,hx] at e
 |some ob=>
  have hy:=h.same ob hx;have:Y.cell? ⟨B,o,none⟩=X.cell? ⟨B,o,none⟩:=by simp[World.cell?,hx,hy]
  rw[this];exact e
theorem mP.of_grownBy{B:Nat}{X Y:World}{row:Option Nat}(hg:X.grownBy Y row)(hr:row≠some B):mP B X Y:=⟨fun o e=>(hg.block B (Array.getElem?_eq_some_iff.1 e).1 (fun q=>hr q.symm)).trans e⟩
theorem mP.of_below{B n:Nat}{X Y:World}(hb:Below n X Y)(hB:B<n):mP B X Y:=⟨fun o e=>(hb.block B hB).trans e⟩
theorem mP.setCell{B:Nat}{X Y:World}(h:mP B X Y){b:Nat}(hb:b≠B)(v:Value):mP B X (Y.setCell ⟨b,0,none⟩ v):=h.trans (.of_grownBy (grownBy_setCell' Y b v) (by simpa using hb))
theorem mP.drew{B:Nat}{X Y:World}(h:mP B X Y):mP B X Y.drew:=⟨h.same⟩
theorem mP.put{B:Nat}{X Y:World}(h:mP B X Y){l:Nat}(hl:l≠B)(o:Obj):mP B X (Y.putObj l o):=h.trans (.of_grownBy (grownBy_putObj' Y l o) (by simpa using hl))
theorem keepB_b{k:Nat}{w:World}(hk:k<w.heap.size)(W:World)(l:Nat)(o o':Obj)(hl:w.heap.size≤l)(_:W.heap[l]? =some o)(_:o.isCells=false)(_:o.isWalk=false):mP k W (W.putObj l o'):=(mP.refl k W).put aFx o'
end Go.Proofs.YtignanmmgaldeaaGreatDoor
namespace Go.Proofs.YtignanmmgaldeaaGreatDoor
open Go.RowKit Go.Shelf
variable {P:Program}
def NQ(Q:Exit→Act→World→Prop):Exit→Act→World→Prop:=fun e a w=>e= .normal∧Q .normal a w
theorem aF0(Q:Exit→Act→World→Prop):¬LetsOut (NQ Q):=fun⟨_,_,h,_⟩=>by cases h
theorem rowsIn_round{l n:Nat}{row:String}{args:Array Value}{w:World}{R:Value→World→Prop}(h:Rows P row args w R):RowsIn (Fence.wide.inRound l) n P row args w R:=fun c cs hb=>by
 obtain⟨v,w',r,s⟩:=h c cs;exact⟨v,w',r,stepsIn_wide.2 s⟩
theorem upon_round{l n:Nat}{o:Oper}{a:Act}{K K':Act→World→Prop}{Q:Exit→Act→World→Prop}(hK:∀a w,K a w→K' a w):∀(r:Result Next),o.upon P a K (NQ Q) r→o.uponIn (Fence.wide.inRound l) n P a K' Q r
 | .ok (.value v) w',h=>hK _ _ h
 | .ok .skip w',h=>hK _ _ h
 | .ok (.defer d) w',h=>hK _ _ h
 | .ok (.enter f args) w',h=>by
   refine⟨fun e=>(by cases e),CallsIn.inRound l (CallsIn.mono (callsIn_wide.2 h) ?_)⟩;intro e w'' he
   cases e with
   |returned v=>exact hK _ _ he
   |panicked ch=>cases he.1
   |outgrown=>exact absurd he (aF0 Q)
 | .ok (.row row args) w',h=>⟨fun e=>(by cases e),rowsIn_round (h.mono fun _ _ he=>hK _ _ he)⟩
 | .halt (.panic v) w',h=>by cases h.1
theorem wpOp_round{l n:Nat}{ops:Array Oper}{Q:Exit→Act→World→Prop}(hnd:∀(i:Nat) (o:Oper),ops[i]? =some o→∀c,o.op≠ .defer c){i:Nat}{K K':Act→World→Prop}(hK:∀a w,K a w→K' a w){a:Act}{w:World}
 (h:wpOp P ops (NQ Q) i K a w):wpOpIn (Fence.wide.inRound l) n P ops Q i K' a w:=by
 unfold wpOp at h;unfold wpOpIn
 split
 ·rename_i hn;rw[hn] at h;exact hK _ _ h
 ·rename_i o ho
  rw[ho] at h
  dsimp only at h
  split
  ·rename_i hw
   rw[if_pos hw] at h;rcases h with h|h
   ·refine⟨fun _ _=>trivial,?_⟩
    rw[Fence.inRound_round,Oper.semAt_some l _ o (hnd i o ho)];exact upon_round hK _ h
   ·exact absurd h.2 (aF0 Q)
  ·rename_i hw
   rw[if_neg hw] at h;exact⟨fun _ _=>trivial,hK _ _ h⟩
theorem aCp{l n:Nat}{md:Region.Mode}{ops:Array Oper}{Q:Exit→Act→World→Prop}(hnd:∀(i:Nat) (o:Oper),ops[i]? =some o→∀c,o.op≠ .defer c):∀(fuel:Nat) (listed:Array Bool) (a:Act) (w:World),
 wpAny P md ops (NQ Q) fuel listed a w→wpAnyIn (Fence.wide.inRound l) n P md ops Q fuel listed a w
 |0,_,_,_,h=>⟨h.1,h.2.2⟩
 |fuel+1,listed,a,w,h=>⟨fun e=>(h.1 e).2,fun i hi=>wpOp_round hnd (fun a w hk=>aCp hnd fuel _ a w hk) (h.2 i hi)⟩
theorem region_round{id l m:Nat}{Q:Exit→Act→World→Prop}{a:Act}{w:World}{ls:List Oper}(n:Nat)(hm:P.follows .mixedOrders=true)(hB:Region.lexTailB .any ls.toArray n=true)(hnd:ls.all (fun o=>match o.op with | .defer _=>false|_=>true)=true)
 (h:wpStill P ls.toArray {w with drawn:=w.drawn+1} (fun a'=>wpList P ls.toArray (NQ Q) (ls.drop n) a' {w with drawn:=w.drawn+1}) (ls.take n) a):(Code.region id ls.toArray true).wpIn (Fence.wide.inRound l) m P Q a w:=by
 refine wpIn_region_any hm (aCp ?_ _ _ _ _ ?_)
 ·intro i o ho c hc
  have hmem:o∈ls:=by
   have:=List.mem_of_getElem? (l:=ls) (i:=i) (by simpa using ho);exact this
  have:=List.all_eq_true.1 hnd o hmem;rw[hc] at this
  cases this
 ·simp only[Region.lexTailB,Bool.and_eq_true,decide_eq_true_eq] at hB
  obtain⟨⟨⟨⟨hsel,hn⟩,hs⟩,hc⟩,hlex⟩:=hB;have htl:(ls.take n).length=n:=by simp at hn;simp;omega
  have hdl:(ls.drop n).length=ls.toArray.size-n:=by simp
  have inv0:HeadInv .any ls.toArray n (Array.replicate ls.toArray.size false):=
   ⟨by simp,fun j oj _ hl=>(by rw[getD_replicate_false] at hl;cases hl),fun t _ ht=>getD_in (by simpa using ht) (getD_replicate_false _ _)⟩
  have H:=wpAnyL_lex (md:= .any) (g:=ls.toArray.size-n) hsel hs hc hn (ls.take n) 0 _ a (fun j hj=>by rw[htl] at hj;simp[hj]) (by simpa using htl) inv0 (by rw[htl];exact hlex) h
  have:=wpAny_of_head (Q':=NQ Q) (g:=ls.toArray.size-n) (fun listed a' hL=>by
   have:=wpAny_of_seq (md:= .any) (Q':=NQ Q) (ls.drop n) n listed a' {w with drawn:=w.drawn+1} (fun j=>by simp[List.getElem?_drop]) (by rw[hdl];exact hL.1) hL.2
   rwa [hdl] at this) _ _ _ H
  rw[htl,show n+(ls.toArray.size-n)=ls.toArray.size by simp at hn;simp;omega] at this;exact this
end Go.Proofs.YtignanmmgaldeaaGreatDoor
namespace Go.Proofs.YtignanmmgaldeaaGreatDoor
open Go.RowKit Go.Shelf
section
variable {P:Program} {ops:Array Oper} {vals:Nat→Value} {a0:Act}
def kT(ops:Array Oper)(i:Nat):Option Tmp:=(ops[i]?).bind (·.dst)
def need(ops:Array Oper)(i j:Nat):Bool:=match ops[i]? with
 |some o=>o.after.any fun e=>Region.binds .any e&&e.on==j
 |none=>false
structure Agree(ops:Array Oper)(vals:Nat→Value)(a0:Act)(L:Array Bool)(a:Act):Prop where
 defers:a.defers=a0.defers
 size:a.tmps.size=a0.tmps.size
 done:∀j d,kT ops j=some d→L.getD j false=true→a.tmps[d]? =some (vals j)
 rest:∀d,(∀j,kT ops j=some d→L.getD j false=false)→a.tmps[d]? =a0.tmps[d]?
theorem lY(L:Array Bool)(i j:Nat)(hi:i<L.size):(L.setIfInBounds i true).getD j false=if j=i then true else L.getD j false:=by
 simp only[Array.getD_eq_getD_getElem?,Array.getElem?_setIfInBounds]
 by_cases h:i=j
 ·subst h;simp[hi]
 ·have h':¬j=i:=fun e=>h e.symm
  simp[h,h']
theorem Agree.step{L:Array Bool}{a:Act}(h:Agree ops vals a0 L a){i:Nat}{o:Oper}(ho:ops[i]? =some o)(hi:i<L.size)(hL:L.getD i false=false)
 (hsz:∀j d,kT ops j=some d→d<a0.tmps.size) (hdis:∀i j d,kT ops i=some d→kT ops j=some d→i=j) :
 Agree ops vals a0 (L.setIfInBounds i true) (a.put o.dst (vals i)):=by
 have hd:kT ops i=o.dst:=by simp[kT,ho]
 cases hod:o.dst with
 |none=>
  rw[hod] at hd;refine⟨h.defers,h.size,fun j d hj hl=> ?_,fun d hj=> ?_⟩
  ·rw[lY _ _ _ hi] at hl
   by_cases e:j=i
   ·subst e;rw[hd] at hj;cases hj
   ·rw[if_neg e] at hl;exact h.done j d hj hl
  ·refine h.rest d (fun j hjd=> ?_)
   have:=hj j hjd;rw[lY _ _ _ hi] at this
   by_cases e:j=i
   ·rw[if_pos e] at this;cases this
   ·rwa [if_neg e] at this
 |some d0=>
  rw[hod] at hd;have hd0:d0<a.tmps.size:=by rw[h.size];exact hsz i d0 hd
  refine⟨h.defers,by simp[Act.put,h.size],fun j d hj hl=> ?_,fun d hj=> ?_⟩
  ·rw[lY _ _ _ hi] at hl
   by_cases e:j=i
   ·subst e
    rw[hd] at hj;cases hj
    simp[Act.put,hd0]
   ·rw[if_neg e] at hl
    have hne:d0≠d:=fun e2=>e (hdis j i d hj (by rw[hd,e2]))
    simp only[Act.put,Array.getElem?_setIfInBounds_ne hne];exact h.done j d hj hl
  ·have hne:d0≠d:=fun e2=>by
    have:=hj i (by rw[hd,e2]);rw[lY _ _ _ hi,if_pos rfl] at this
    cases this
   simp only[Act.put,Array.getElem?_setIfInBounds_ne hne];refine h.rest d (fun j hjd=> ?_);have:=hj j hjd;rw[lY _ _ _ hi] at this
   by_cases e:j=i
   ·rw[if_pos e] at this;cases this
   ·rwa [if_neg e] at this
theorem Agree.init:Agree ops vals a0 (Array.replicate ops.size false) a0:=
 ⟨rfl,rfl,fun j d _ hl=>(by rw[getD_replicate_false] at hl;cases hl),fun _ _=>rfl⟩
theorem Agree.unique{L:Array Bool}{a b:Act}(h:Agree ops vals a0 L a)(k:Agree ops vals a0 L b):a=b:=by
 have ht:a.tmps=b.tmps:=by
  apply Array.ext
  ·rw[h.size,k.size]
  ·intro d h1 h2
   have e:a.tmps[d]? =b.tmps[d]? :=by
    by_cases hx:∃j,kT ops j=some d∧L.getD j false=true
    ·obtain⟨j,hj,hl⟩:=hx
     rw[h.done j d hj hl,k.done j d hj hl]
    ·have hx':∀j,kT ops j=some d→L.getD j false=false:=fun j hj=>by
      cases e:L.getD j false with
      |true=>exact absurd ⟨j,hj,e⟩ hx
      |false=>rfl
     rw[h.rest d hx',k.rest d hx']
   rw[Array.getElem?_eq_getElem h1,Array.getElem?_eq_getElem h2] at e;exact Option.some.inj e
 cases a;cases b
 simp only[Act.mk.injEq];exact⟨ht,h.defers.trans k.defers.symm⟩
def aAg(vals:Nat→Value):List Oper→Nat→Act→Act
 | [],_,a=>a
 |o::r,i,a=>aAg vals r (i+1) (a.put o.dst (vals i))
structure Knows(ops:Array Oper)(vals:Nat→Value)(a0:Act)(i:Nat)(a:Act):Prop where
 done:∀j d,kT ops j=some d→need ops i j=true→a.eval (.tmp d)=vals j
 rest:∀d,(∀j,kT ops j≠some d)→a.eval (.tmp d)=a0.eval (.tmp d)
theorem eval_of{a:Act}{d:Nat}{v:Value}(h:a.tmps[d]? =some v):a.eval (.tmp d)=v:=by
 simp[Act.eval,Array.getD_eq_getD_getElem?,h]
theorem yK{i j:Nat}{o:Oper}(ho:ops[i]? =some o):need ops i j=true↔∃e∈o.after,Region.binds .any e=true∧e.on=j:=by
 simp only[need,ho];rw[Array.any_eq_true]
 constructor
 ·rintro⟨x,h,hp⟩
  rw[Bool.and_eq_true,beq_iff_eq] at hp;exact⟨o.after[x],Array.getElem_mem h,hp.1,hp.2⟩
 ·rintro⟨e,he,hb,hon⟩
  obtain⟨x,h,rfl⟩:=Array.getElem_of_mem he;exact⟨x,h,by rw[Bool.and_eq_true,beq_iff_eq];exact⟨hb,hon⟩⟩
theorem Agree.knows{L:Array Bool}{a:Act}(h:Agree ops vals a0 L a){i:Nat}(hr:i∈Region.ready .any ops L):Knows ops vals a0 i a:=by
 obtain⟨_,o,ho,hall⟩:=mem_ready.1 hr;refine⟨fun j d hj hn=> ?_,fun d hd=> ?_⟩
 ·obtain⟨e,he,hb,rfl⟩:=(yK ho).1 hn
  exact eval_of (h.done _ d hj (hall e he hb))
 ·have e:=h.rest d (fun j hj=>absurd hj (hd j))
  simp only[Act.eval,Array.getD_eq_getD_getElem?,e]
theorem getD_set_true(L:Array Bool)(i j:Nat)(hi:i<L.size):(L.setIfInBounds i true).getD j true=if j=i then true else L.getD j true:=by
 simp only[Array.getD_eq_getD_getElem?,Array.getElem?_setIfInBounds]
 by_cases h:i=j
 ·subst h;simp[hi]
 ·have h':¬j=i:=fun e=>h e.symm
  simp[h,h']
def undone(L:Array Bool):Nat:=(List.range L.size).countP fun j=> !L.getD j false
theorem aF1{L:Array Bool}{i:Nat}(hi:i<L.size)(hL:L.getD i false=false):undone (L.setIfInBounds i true)+1=undone L:=by
 unfold undone;rw[Array.size_setIfInBounds]
 have key:∀(l:List Nat),l.Nodup→(i∈l→(l.countP fun j=> !(L.setIfInBounds i true).getD j false)+1=l.countP fun j=> !L.getD j false)∧(i ∉ l→(l.countP fun j=> !(L.setIfInBounds i true).getD j false)=l.countP fun j=> !L.getD j false):=by
  intro l
  induction l with
  |nil=>intro _;exact⟨fun h=>(by cases h),fun _=>rfl⟩
  |cons x l ih=>
   intro hnd;obtain⟨h1,h2⟩:=ih (List.nodup_cons.1 hnd).2;have hx:=(List.nodup_cons.1 hnd).1;refine⟨fun hm=> ?_,fun hm=> ?_⟩
   ·rcases List.mem_cons.1 hm with rfl|hm'
    ·rw[List.countP_cons,List.countP_cons,h2 hx,lY _ _ _ hi,if_pos rfl,hL];simp
    ·have hne:x≠i:=fun e=>hx (e▸hm')
     rw[List.countP_cons,List.countP_cons,lY _ _ _ hi,if_neg hne];have:=h1 hm';omega
   ·have hne:x≠i:=fun e=>hm (by rw[e];exact List.mem_cons_self)
    rw[List.countP_cons,List.countP_cons,lY _ _ _ hi,if_neg hne,h2 (fun h=>hm (List.mem_cons_of_mem _ h))]
 exact(key _ List.nodup_range).1 (List.mem_range.2 hi)
theorem xY{L:Array Bool}(h:undone L=0)(j:Nat)(hj:j<L.size):L.getD j false=true:=by
 unfold undone at h;have:=List.countP_eq_zero.1 h j (List.mem_range.2 hj)
 simpa using this
theorem undone_pos{L:Array Bool}(h:undone L≠0):∃j,j<L.size∧L.getD j false=false:=by
 have:0<undone L:=by omega
 unfold undone at this;obtain⟨j,hj,hp⟩:=List.countP_pos_iff.1 this;exact⟨j,List.mem_range.1 hj,by simpa using hp⟩
theorem aF2{L:Array Bool}(hs:L.size=ops.size)(hac:∀i j,need ops i j=true→j<i)(h:Region.ready .any ops L= []):undone L=0:=by
 by_cases e:undone L=0
 ·exact e
 ·exfalso
  obtain⟨j,hj,hf⟩:=undone_pos e
  have key:∀n j,j≤n→j<L.size→L.getD j false=false→∃i,i∈Region.ready .any ops L:=by
   intro n
   induction n with
   |zero=>
    intro j hj hlt hf;obtain rfl:j=0:=by omega
    refine⟨0,mem_ready.2 ⟨by simpa[Array.getD_eq_getD_getElem?,Array.getElem?_eq_getElem hlt] using hf,ops[0]'aFx,by simp,fun e he hb=> ?_⟩⟩;exact absurd (hac 0 e.on ((yK (o:=ops[0]'aFx) aFz).2 ⟨e,he,hb,rfl⟩)) aFx
   |succ n ih=>
    intro j hj hlt hf
    by_cases hall:∀e∈(ops[j]'aFx).after,Region.binds .any e=true→L.getD e.on false=true
    ·exact⟨j,mem_ready.2 ⟨by simpa[Array.getD_eq_getD_getElem?,Array.getElem?_eq_getElem hlt] using hf,ops[j]'aFx,by simp,hall⟩⟩
    ·simp only[Classical.not_forall] at hall
     obtain⟨e,he,hb,hl⟩:=hall;have hlt2:=hac j e.on ((yK (o:=ops[j]'aFx) aFz).2 ⟨e,he,hb,rfl⟩);exact ih e.on aFx aFx (by simpa using hl)
  obtain⟨i,hi⟩:=key j j (Nat.le_refl _) hj hf;rw[h] at hi
  cases hi
theorem aDz(hsz:∀j d,kT ops j=some d→d<a0.tmps.size)(hdis:∀i j d,kT ops i=some d→kT ops j=some d→i=j) :
 ∀(ls:List Oper) (i:Nat) (L:Array Bool) (a:Act),(∀j,ls[j]? =ops[i+j]?)→ls.length+i=ops.size→L.size=ops.size→(∀j,j<ops.size→L.getD j false=decide (j<i))→Agree ops vals a0 L a →
  ∃L',L'.size=ops.size∧(∀j,j<ops.size→L'.getD j false=true)∧Agree ops vals a0 L' (aAg vals ls i a)
 | [],i,L,a,_,hlen,hs,hL,h=>⟨L,hs,fun j hj=>by rw[hL j hj];simp at hlen ⊢;omega,h⟩
 |o::r,i,L,a,hls,hlen,hs,hL,h=>by
  have ho:ops[i]? =some o:=by have:=hls 0;simpa using this.symm
  simp only[List.length_cons] at hlen;refine aDz hsz hdis r (i+1) (L.setIfInBounds i true) _ (fun j=> ?_) aFx (by simp[hs]) (fun j hj=> ?_) (h.step ho aFx (by rw[hL i aFx];simp) hsz hdis)
  ·have:=hls (j+1)
   rw[show i+(j+1)=i+1+j from by omega] at this
   simpa using this
  ·rw[lY _ _ _ aFx,hL j hj]
   by_cases e:j=i
   ·subst e;simp
   ·rw[if_neg e]
    by_cases h2:j<i
    ·simp[h2];omega
    ·simp[h2];omega
def Yields(r:Result Next)(v:Value)(W:World):Prop:=r= .ok (.value v) W∨(r= .ok .skip W∧v=undef)
theorem Yields.upon{r:Result Next}{v:Value}{W:World}{o:Oper}{a:Act}{next:Act→World→Prop}{Q:Exit→Act→World→Prop}(h:Yields r v W)(hn:next (a.put o.dst v) W):o.upon P a next Q r:=by
 rcases h with rfl|⟨rfl,rfl⟩
 ·exact hn
 ·exact hn
theorem wpAny_table{Q:Exit→Act→World→Prop}(m:Nat)(st:Nat→Nat)(W:Nat→World)
 (hac:∀i j,need ops i j=true→j<i) (hg:∀(i:Nat) (o:Oper),ops[i]? =some o→o.guard=none)
 (hsz:∀j d,kT ops j=some d→d<a0.tmps.size) (hdis:∀i j d,kT ops i=some d→kT ops j=some d→i=j)
 (hlt:∀t,t<m→st t<ops.size) (hinj:∀t u,t<m→u<m→st t=st u→t=u) (hchain:∀t,t+1<m→need ops (st (t+1)) (st t)=true)
 (hread:∀(i:Nat) (o:Oper),ops[i]? =some o→(∀t,t<m→st t≠i)→∀k,k≤m→(∀t,t<k→need ops (st t) i=false)→∀a,Knows ops vals a0 i a→(execOp a.eval o).run P (W k)= .ok (.value (vals i)) (W k))
 (hstore:∀t,t<m→∀o,ops[st t]? =some o→∀a,Knows ops vals a0 (st t) a→Yields ((execOp a.eval o).run P (W t)) (vals (st t)) (W (t+1)))
 (hfin:Q .normal (aAg vals ops.toList 0 a0) (W m)) :
 ∀(fuel:Nat) (L:Array Bool) (a:Act) (k:Nat),L.size=ops.size→undone L=fuel→Agree ops vals a0 L a→(∀i j,L.getD i false=true→need ops i j=true→L.getD j false=true) →
  k≤m→(∀t,t<m→L.getD (st t) false=decide (t<k))→wpAny P .any ops Q fuel L a (W k):=by
 have hend:∀(L:Array Bool) (a:Act) (k:Nat),L.size=ops.size→undone L=0→Agree ops vals a0 L a→k≤m→(∀t,t<m→L.getD (st t) false=decide (t<k))→Q .normal a (W k):=by
  intro L a k hs hu hag hk hst;obtain⟨L',hs',hall,hag'⟩:=aDz (vals:=vals) hsz hdis ops.toList 0 (Array.replicate ops.size false) a0 (fun j=>by simp) aFz aFz (fun j hj=>by rw[getD_replicate_false];simp) Agree.init
  have hLL:Agree ops vals a0 L' a:=⟨hag.defers,hag.size,fun j d hj _=>hag.done j d hj (xY hu j (by
   have:∃o,ops[j]? =some o:=by
    cases h:ops[j]? with
    |none=>simp[kT,h] at hj
    |some o=>exact⟨o,rfl⟩
   obtain⟨o,ho⟩:=this
   rw[hs];exact(Array.getElem?_eq_some_iff.1 ho).1)),fun d hd=>hag.rest d (fun j hj=>by
   have hlt':j<ops.size:=by
    cases h:ops[j]? with
    |none=>simp[kT,h] at hj
    |some o=>exact(Array.getElem?_eq_some_iff.1 h).1
   have:=hd j hj;rw[hall j hlt'] at this
   cases this)⟩
  rw[hLL.unique hag']
  have:k=m:=by
   by_cases e:k=m
   ·exact e
   ·have hkm:k<m:=by omega
    have:=hst k hkm;rw[xY hu (st k) (by rw[hs];exact hlt k hkm)] at this
    simp at this
  rw[this];exact hfin
 intro fuel
 induction fuel with
 |zero=>
  intro L a k hs hu hag hcl hk hst;refine⟨?_,hend L a k hs hu hag hk hst⟩;refine List.eq_nil_iff_forall_not_mem.2 (fun i hi=> ?_);obtain⟨h1,o,ho,_⟩:=mem_ready.1 hi;have hlt':=(Array.getElem?_eq_some_iff.1 ho).1;have h2:=xY hu i (by rw[hs];exact hlt')
  simp[Array.getD_eq_getD_getElem?,Array.getElem?_eq_getElem (show i<L.size by omega)] at h1 h2
  rw[h1] at h2
  cases h2
 |succ fuel ih=>
  intro L a k hs hu hag hcl hk hst;refine⟨fun hr=> ?_,fun i hi=> ?_⟩
  ·have:=aF2 hs hac hr
   omega
  ·obtain⟨h1,o,ho,hall⟩:=mem_ready.1 hi
   have hlt':=(Array.getElem?_eq_some_iff.1 ho).1
   have hLi:L.getD i false=false:=by
    simp[Array.getD_eq_getD_getElem?,Array.getElem?_eq_getElem (show i<L.size by omega)] at h1 ⊢
    exact h1
   have hkn:=hag.knows hi;have hstep:=hag.step ho aFx hLi hsz hdis;have hun:undone (L.setIfInBounds i true)=fuel:=by have:=aF1 (show i<L.size by omega) hLi;omega
   have hcl':∀x j,(L.setIfInBounds i true).getD x false=true→need ops x j=true→(L.setIfInBounds i true).getD j false=true:=by
    intro x j hx hn;rw[lY _ _ _ aFx] at hx ⊢
    by_cases e:x=i
    ·subst e
     obtain⟨ed,he,hb,rfl⟩:=(yK ho).1 hn;have:=hall ed he hb
     split
     ·rfl
     ·exact this
    ·rw[if_neg e] at hx
     have:=hcl x j hx hn
     split
     ·rfl
     ·exact this
   unfold wpOp;rw[ho]
   dsimp only
   rw[if_pos (by simp[Region.wanted,hg i o ho])]
   left
   unfold Oper.wp
   by_cases hs':∃t,t<m∧st t=i
   ·obtain⟨t,ht,rfl⟩:=hs'
    have hkt:k=t:=by
     have h2:=hst t ht;rw[hLi] at h2;have h3:¬t<k:=by simpa using h2.symm
     by_cases h4:t=0
     ·omega
     ·have hc:=hchain (t-1) aFx
      rw[show t-1+1=t from by omega] at hc;obtain⟨ed,he,hb,hon⟩:=(yK ho).1 hc;have h5:=hall ed he hb;rw[hon,hst (t-1) aFx] at h5;have:t-1<k:=by simpa using h5
      omega
    subst hkt;refine(hstore k ht o ho a hkn).upon ?_;refine ih _ _ (k+1) (by simp[hs]) hun hstep hcl' aFx (fun u hu'=> ?_);rw[lY _ _ _ aFx]
    by_cases e:st u=st k
    ·have:=hinj u k hu' ht e
     subst this
     simp
    ·rw[if_neg e,hst u hu']
     have:u≠k:=fun e2=>e (by rw[e2])
     by_cases h2:u<k
     ·simp[h2];omega
     ·simp[h2];omega
   ·have hns:∀t,t<m→st t≠i:=fun t ht e=>hs' ⟨t,ht,e⟩
    rw[hread i o ho hns k hk (fun t ht=>by
     cases hn:need ops (st t) i with
     |false=>rfl
     |true=>
      have:=hcl (st t) i (by rw[hst t aFx];simpa using ht) hn;rw[hLi] at this
      cases this) a hkn]
    refine ih _ _ k (by simp[hs]) hun hstep hcl' hk (fun u hu'=> ?_);rw[lY _ _ _ aFx,if_neg (hns u hu'),hst u hu']
def aCy(ls:List Oper)(sz:Nat)(sts:List Nat):Bool:=
 (List.range ls.length).all (fun i=>match ls[i]? with
   |some o=>o.guard.isNone&&o.after.all (fun e=> !Region.binds .any e||decide (e.on<i))&&(match o.dst with |some d=>decide (d<sz)&&(List.range i).all (fun j=>match ls[j]? with |some oj=> !(oj.dst==some d)|none=>true)|none=>true)&&(match o.op with | .defer _=>false|_=>true)
   |none=>false) &&
 (List.range sts.length).all (fun t=>decide (sts.getD t 0<ls.length)&&(List.range t).all (fun u=> !(sts.getD u 0==sts.getD t 0))&&(t==0||need ls.toArray (sts.getD t 0) (sts.getD (t-1) 0)))
theorem yL{ls:List Oper}{sz:Nat}{sts:List Nat}(h:aCy ls sz sts=true){i:Nat}{o:Oper}(ho:ls[i]? =some o) :
 o.guard=none∧(∀e∈o.after,Region.binds .any e=true→e.on<i)∧(∀d,o.dst=some d→d<sz∧∀j oj,j<i→ls[j]? =some oj→oj.dst≠some d)∧(∀c,o.op≠ .defer c):=by
 simp only[aCy,Bool.and_eq_true] at h;have hlt:=(List.getElem?_eq_some_iff.1 ho).1;have h1:=List.all_eq_true.1 h.1 i (List.mem_range.2 hlt);rw[ho] at h1;simp only[Bool.and_eq_true] at h1;obtain⟨⟨⟨g1,g2⟩,g3⟩,g4⟩:=h1;refine⟨by simpa using g1,fun e he hb=> ?_,fun d hd=> ?_,fun c hc=>by rw[hc] at g4;cases g4⟩
 ·obtain⟨x,hx,rfl⟩:=Array.getElem_of_mem he
  have:=(Array.all_eq_true.1 g2) x hx;rw[hb] at this
  simpa using this
 ·rw[hd] at g3
  simp only[Bool.and_eq_true,decide_eq_true_eq] at g3;refine⟨g3.1,fun j oj hj hoj e=> ?_⟩;have:=List.all_eq_true.1 g3.2 j (List.mem_range.2 hj);rw[hoj] at this
  simp[e] at this
def Reads(P:Program)(ops:Array Oper)(vals:Nat→Value)(a0:Act)(sts:List Nat)(W:Nat→World):List Oper→Nat→Prop
 | [],_=>True
 |o::r,i=>(sts.contains i=false→∀k,k≤sts.length→(List.range k).all (fun t=> !need ops (sts.getD t 0) i)=true→∀a,Knows ops vals a0 i a→(execOp a.eval o).run P (W k)= .ok (.value (vals i)) (W k))∧Reads P ops vals a0 sts W r (i+1)
theorem Reads.at_{sts:List Nat}{W:Nat→World}:∀(ls:List Oper) (i:Nat),Reads P ops vals a0 sts W ls i→∀j o,ls[j]? =some o→sts.contains (i+j)=false→∀k,k≤sts.length→(List.range k).all (fun t=> !need ops (sts.getD t 0) (i+j))=true→∀a,Knows ops vals a0 (i+j) a→(execOp a.eval o).run P (W k)= .ok (.value (vals (i+j))) (W k):=by
 intro ls
 induction ls with
 |nil=>
  intro i _ j o ho;rw[List.getElem?_nil] at ho
  cases ho
 |cons o' r ih=>
  intro i h j o ho
  cases j with
  |zero=>
   rw[List.getElem?_cons_zero] at ho
   cases ho
   rw[Nat.add_zero];exact h.1
  |succ j=>
   rw[List.getElem?_cons_succ] at ho;rw[show i+(j+1)=i+1+j from by omega];exact ih _ h.2 j o ho
theorem wpAny_tableL{ls:List Oper}{Q:Exit→Act→World→Prop}(sts:List Nat)(W:Nat→World)(hB:aCy ls a0.tmps.size sts=true)
 (hread:Reads P ls.toArray vals a0 sts W ls 0)
 (hstore:∀t,t<sts.length→∀o,ls[sts.getD t 0]? =some o→∀a,Knows ls.toArray vals a0 (sts.getD t 0) a→Yields ((execOp a.eval o).run P (W t)) (vals (sts.getD t 0)) (W (t+1)))
 (hfin:Q .normal (aAg vals ls 0 a0) (W sts.length)):wpAny P .any ls.toArray Q ls.toArray.size (Array.replicate ls.toArray.size false) a0 (W 0):=by
 have hop:∀{i:Nat} {o:Oper},ls.toArray[i]? =some o→ls[i]? =some o:=fun h=>by simpa using h
 have hst:∀t,t<sts.length→sts.getD t 0<ls.length∧(∀u,u<t→sts.getD u 0≠sts.getD t 0)∧(t≠0→need ls.toArray (sts.getD t 0) (sts.getD (t-1) 0)=true):=by
  intro t ht;have h2:=hB;simp only[aCy,Bool.and_eq_true] at h2;have:=List.all_eq_true.1 h2.2 t (List.mem_range.2 ht);simp only[Bool.and_eq_true,decide_eq_true_eq,Bool.or_eq_true] at this;refine⟨this.1.1,fun u hu e=> ?_,fun h0=> ?_⟩
  ·have h7:=List.all_eq_true.1 this.1.2 u (List.mem_range.2 hu)
   have h8:(sts.getD u 0==sts.getD t 0)=true:=by rw[e];exact beq_self_eq_true _
   simp only[h8] at h7
   cases h7
  ·rcases this.2 with h|h
   ·exact absurd (by simpa using h) h0
   ·exact h
 refine wpAny_table (ops:=ls.toArray) (vals:=vals) (a0:=a0) sts.length (fun t=>sts.getD t 0) W ?_ ?_ ?_ ?_ ?_ ?_ ?_ ?_ ?_ (by simpa using hfin) _ _ _ 0 aFz ?_ Agree.init ?_ (Nat.zero_le _) ?_
 ·intro i j hn
  cases ho:ls.toArray[i]? with
  |none=>simp[need,ho] at hn
  |some o=>
   obtain⟨e,he,hb,rfl⟩:=(yK ho).1 hn;exact(yL hB (hop ho)).2.1 e he hb
 ·intro i o ho
  exact(yL hB (hop ho)).1
 ·intro j d hj
  cases ho:ls.toArray[j]? with
  |none=>simp[kT,ho] at hj
  |some o=>
   have:o.dst=some d:=by simpa[kT,ho] using hj
   exact((yL hB (hop ho)).2.2.1 d this).1
 ·intro i j d hi hj
  cases hoi:ls.toArray[i]? with
  |none=>simp[kT,hoi] at hi
  |some oi=>
   cases hoj:ls.toArray[j]? with
   |none=>simp[kT,hoj] at hj
   |some oj=>
    have e1:oi.dst=some d:=by simpa[kT,hoi] using hi
    have e2:oj.dst=some d:=by simpa[kT,hoj] using hj
    rcases Nat.lt_trichotomy i j with h|h|h
    ·exact absurd e1 (((yL hB (hop hoj)).2.2.1 d e2).2 i oi h (hop hoi))
    ·exact h
    ·exact absurd e2 (((yL hB (hop hoi)).2.2.1 d e1).2 j oj h (hop hoj))
 ·intro t ht
  simpa using(hst t ht).1
 ·intro t u ht hu e
  rcases Nat.lt_trichotomy t u with h|h|h
  ·exact absurd e ((hst u hu).2.1 t h)
  ·exact h
  ·exact absurd e.symm ((hst t ht).2.1 u h)
 ·intro t ht
  exact(hst (t+1) ht).2.2 aFx
 ·intro i o ho hns k hk hall a hkn
  have:=Reads.at_ _ _ hread i o (hop ho) (by
   rw[Nat.zero_add]
   cases hc:sts.contains i with
   |false=>rfl
   |true=>
    obtain⟨t,ht,e⟩:=List.getElem_of_mem (List.contains_iff_mem.1 hc)
    exact absurd (by simp[List.getD_eq_getElem?_getD,List.getElem?_eq_getElem ht,e]) (hns t ht)) k hk (by
   rw[Nat.zero_add]
   exact List.all_eq_true.2 (fun t ht=>by rw[hall t (List.mem_range.1 ht)];rfl)) a (by rw[Nat.zero_add];exact hkn)
  rw[Nat.zero_add] at this;exact this
 ·intro t ht o ho a hkn
  exact hstore t ht o (hop ho) a hkn
 ·have:∀n,undone (Array.replicate n false)=n:=by
   intro n;unfold undone;rw[List.countP_eq_length.2 (fun j _=>by rw[getD_replicate_false];rfl)]
   simp
  exact this _
 ·intro i j hi
  rw[getD_replicate_false] at hi
  cases hi
 ·intro t ht
  rw[getD_replicate_false]
  simp
theorem aE0{id l n:Nat}{ls:List Oper}{Q:Exit→Act→World→Prop}{w:World}(hm:P.follows .mixedOrders=true)(vals:Nat→Value)(sts:List Nat)(W:Nat→World)(hB:aCy ls a0.tmps.size sts=true)(hW:W 0= {w with drawn:=w.drawn+1})
 (hread:Reads P ls.toArray vals a0 sts W ls 0)
 (hstore:∀t,t<sts.length→∀o,ls[sts.getD t 0]? =some o→∀a,Knows ls.toArray vals a0 (sts.getD t 0) a→Yields ((execOp a.eval o).run P (W t)) (vals (sts.getD t 0)) (W (t+1)))
 (hfin:Q .normal (aAg vals ls 0 a0) (W sts.length)):(Code.region id ls.toArray true).wpIn (Fence.wide.inRound l) n P Q a0 w:=by
 refine wpIn_region_any hm ?_;rw[←hW];refine aCp ?_ _ _ _ _ (wpAny_tableL sts W hB hread hstore ⟨rfl,hfin⟩);intro i o ho;exact(yL hB (by simpa using ho)).2.2.2
theorem Knows.rest'{ls:List Oper}{i:Nat}{a:Act}(h:Knows ls.toArray vals a0 i a)(d:Nat)(hd:ls.all (fun o=> !(o.dst==some d))=true):a.eval (.tmp d)=a0.eval (.tmp d):=
 h.rest d (fun j hj=>by
  cases ho:ls.toArray[j]? with
  |none=>simp[kT,ho] at hj
  |some o=>
   have e:o.dst=some d:=by simpa[kT,ho] using hj
   have:=List.all_eq_true.1 hd o (List.mem_of_getElem? (by simpa using ho))
   simp[e] at this)
end
end Go.Proofs.YtignanmmgaldeaaGreatDoor
namespace Go.Proofs.YtignanmmgaldeaaGreatDoor
open Go.RowKit Go.Shelf Go.Proofs.YtignanmmgaldeaaGreatDoorW.PrintWords
attribute [local go_sem] Oper.semAt_some
def bwl(n:Nat):Nat→List (Fin n)
 |0=> []
 |k+1=>bwl n k++(if h:k<n then[⟨n-1-k,by omega⟩] else[])
theorem uH(n k:Nat)(h:k<n):bwl n (k+1)=bwl n k++ [⟨n-1-k,by omega⟩]:=by simp[bwl,h]
theorem aBs(n:Nat):∀k,k≤n→(bwl n k).length=k
 |0,_=>rfl
 |k+1,h=>by rw[uH n k aFx,List.length_append,aBs n k aFx];rfl
theorem bwl_mono(n k:Nat):∀j,bwl n k <+: bwl n (k+j)
 |0=>List.prefix_refl _
 |j+1=>(bwl_mono n k j).trans (by rw[←Nat.add_assoc,bwl];exact List.prefix_append _ _)
def KpB(Bn n₀:Nat)(X Y:World):Prop:=mP Bn X Y∧Below n₀ X Y
theorem kpB_t{Bn n₀:Nat}{A B C:World}(h:KpB Bn n₀ A B)(k:KpB Bn n₀ B C):KpB Bn n₀ A C:=⟨h.1.trans k.1,h.2.trans k.2⟩
theorem kpB_b{Bn n₀:Nat}{w:World}(hk:Bn<w.heap.size)(h0:n₀≤w.heap.size)(W:World)(l:Nat)(o o':Obj)(hl:w.heap.size≤l)(h1:W.heap[l]? =some o)(h2:o.isCells=false)(h3:o.isWalk=false):KpB Bn n₀ W (W.putObj l o'):=
 ⟨keepB_b hk W l o o' hl h1 h2 h3,belowK_b h0 W l o o' hl h1 h2 h3⟩
theorem add_block(a:Addr)(j:Nat):(a.add j).block=a.block:=by unfold Addr.add;split <;> rfl
def RI(n₀:Nat)(W:World)(A:Option Addr)(n:Nat)(xs:List Int):Prop:=
 xs.length=n∧n≤9223372036854775807∧(0<n→∃ad,A=some ad∧ad.block<n₀∧∀j,j<n→W.cell? (ad.add j)=some (.int .i64 (xs[j]?.getD 0)))
theorem RI.below{n₀:Nat}{W W1:World}{A:Option Addr}{n:Nat}{xs:List Int}(h:RI n₀ W A n xs)(hb:Below n₀ W W1):RI n₀ W1 A n xs:=
 ⟨h.1,h.2.1,fun hn=>by
   obtain⟨ad,e,hlt,hc⟩:=h.2.2 hn
   exact⟨ad,e,hlt,fun j hj=>(hb.cell (p:=ad.add j) (by rw[add_block];exact hlt)).trans (hc j hj)⟩⟩
theorem RI.of_reads{w:World}{A:Option Addr}{n:Nat}{xs:List Int}(h:lS w .i64 A n xs):RI w.heap.size w A n xs:=
 ⟨h.1,h.2.1,fun hn=>by
   obtain⟨ad,e,hc⟩:=h.2.2 hn;refine⟨ad,e,?_,fun j hj=>by rw[hc j hj,List.getD_eq_getElem?_getD]⟩;have:=World.block_lt_of_cell? w _ (hc 0 hn)
   rwa [add_block] at this⟩
theorem bwd1_in(F:Fence)(n:Nat)(h8:F.fn 197)(hro:F.round=none)(hn:1≤n)(l Bs n₀:Nat)(A:Option Addr)(len cap:Nat)(xs:List Int)(J Jx:List (Fin len)→World→Prop)
 (hY:∀pre x W,J pre W→pre.length<len→YieldAt F (n-1) Tryz.prog l #[.int .i64 (x.val:Int),.int .i64 (xs[x.val]?.getD 0)] W fun e W'=>
   (e= .returned (.bool true)∧J (pre++ [x]) W'∧KpB Bs n₀ W W')∨(e= .returned (.bool false)∧Jx (pre++ [x]) W'))
 (W:World) (hBs:W.cell? ⟨Bs,0,none⟩=some (.slice A len cap)) (hI:RI n₀ W A len xs) (h0:J [] W) :
 CallsIn F n Tryz.prog 197 #[.func (.yield l) #[] #[],.pointer (some ⟨Bs,0,none⟩)] W fun e W'=>(∃v,e= .returned v) ∧
  ((∃ys,ys=bwl len len∧J ys W')∨(∃pre,pre <+: bwl len len∧Jx pre W')):=by
 have hmax:=hI.2.1;refine callsIn_of_wp Tryz.func197 rfl h8 ?_ hro;simp only[Tryz.ntmps197,List.size_toArray,List.length_cons,List.length_nil,Nat.reduceAdd,Nat.reduceSub,Array.replicate_succ,Array.replicate_zero,List.push_toArray,List.append_toArray,List.nil_append,List.cons_append]
 gi_wp2
 gi_loopw [3] (fun i wr=>∃k:Nat,k≤len∧i= .int .i64 ((len:Int)-1-k)∧J (bwl len k) wr∧KpB Bs n₀ W wr)
  (fun i _=>(intOf i+1).toNat)
 case atStart=>exact⟨0,Nat.zero_le _,by go_num,h0,mP.refl _ _,Below.refl _ _⟩
 case round=>
  obtain⟨k,hk,rfl,hJs,hnx,hbl⟩:=hrel;have hcb:wr.cell? ⟨Bs,0,none⟩=some (.slice A len cap):=hnx.cell hBs
  by_cases hlt:k<len
  ·obtain⟨ad,rfl,hb0,hc⟩:=hI.2.2 aFx
   obtain⟨m,hm⟩:∃m:Nat,m=len-1-k:=⟨_,rfl⟩
   have hmi:(len:Int)-1-k=(m:Int):=by omega
   have hcx:wr.cell? (ad.add m)=some (.int .i64 (xs[m]?.getD 0)):=(hbl.cell (p:=ad.add m) (by rw[add_block];exact hb0)).trans (hc m aFx);have hlm:m<len:=by omega
   obtain⟨fn,tmps,assign,body,hy,hR⟩:=hY _ ⟨m,hlm⟩ wr hJs (by rw[aBs _ _ aFx];exact hlt)
   dsimp only at hy
   have hstep:Hid (bwl len (k+1)=bwl len k++ [⟨m,hlm⟩]):=by rw[uH len k hlt];congr 2;exact Fin.ext hm.symm
   have hpre:Hid (bwl len (k+1) <+: bwl len len):=by
    have:=bwl_mono len (k+1) (len-(k+1))
    rwa [show k+1+(len-(k+1))=len from by omega] at this
   have HM:=Lib.hid hm;have HMI:=Lib.hid hmi;rw[hmi];clear hm hmi hc
   gi_wp2
   refine hR.mono ?_;rintro e W3 (⟨rfl,l9,hk3⟩|⟨rfl,hJx3⟩)
   ·gi_wp2
    go_roundw
    case rel=>exact⟨k+1,by omega,by have:=HM.out;go_num,by rw[hstep.out];exact l9,hnx.trans hk3.1,hbl.trans hk3.2⟩
    case measure=>first|(simp[intOf];done)|(simp[intOf];omega)
   ·gi_wp2
    refine bodyPost_ret (results_none rfl _ _ _) rfl ?_;exact⟨⟨_,rfl⟩,.inr ⟨_,by rw[←hstep.out];exact hpre.out,hJx3⟩⟩
  ·obtain rfl:k=len:=by omega
   rw[show(k:Int)-1-k= -1 from by omega]
   gi_wp2
   go_end0
   exact⟨⟨_,rfl⟩,.inl ⟨_,rfl,hJs⟩⟩
theorem bwd_in(F:Fence)(n:Nat)(h5:F.fn 166)(hro:F.round=none)(a:Option Addr)(len cap:Nat)(w:World) :
 CallsIn F n Tryz.prog 166 #[.slice a len cap] w fun e w'=>e= .returned (.func (.func 197) #[] #[.pointer (some ⟨w.heap.size,0,none⟩)])∧w'=w.alloc (.cells #[.slice a len cap] 79):=by
 refine callsIn_of_wp Tryz.func166 rfl h5 ?_ hro;simp only[Tryz.ntmps166,List.size_toArray,List.length_cons,List.length_nil,Nat.reduceAdd,Nat.reduceSub,Array.replicate_succ,Array.replicate_zero,List.push_toArray,List.append_toArray,List.nil_append,List.cons_append]
 gi_wp2
 go_ret
 exact⟨rfl,rfl⟩
theorem aCf(F:Fence)(n:Nat)(h8:F.fn 197)(hro:F.round=none)(hn:1≤n)(Bn n₀:Nat)(A:Option Addr)(len cap:Nat)(xs:List Int)(w:World)(hBn:Bn<w.heap.size)(h0:n₀≤w.heap.size)
 (hc:w.cell? ⟨Bn,0,none⟩=some (.slice A len cap)) (hI:RI n₀ w A len xs) :
 SeqStopsK F n Tryz.prog 197 #[.pointer (some ⟨Bn,0,none⟩)] (fun x:Fin len=>#[Value.int .i64 (x.val:Int),Value.int .i64 (xs[x.val]?.getD 0)]) (KpB Bn n₀) (fun ys=>ys=bwl len len) (fun pre=>pre <+: bwl len len) len w:=fun l J Jx W hW _ _ hY h0'=>
 bwd1_in F n h8 hro hn l Bn n₀ A len cap xs J Jx hY W ((hW.cell (p:=⟨Bn,0,none⟩) hBn).trans hc) (hI.below (hW.mono h0)) h0'
end Go.Proofs.YtignanmmgaldeaaGreatDoor
namespace Go.Proofs.YtignanmmgaldeaaGreatDoor
open Go.RowKit Go.Shelf Go.Proofs.YtignanmmgaldeaaGreatDoorW.PrintWords
attribute [local go_sem] Oper.semAt_some
def ordN(xs ys:List Int):Nat→Int
 |0=>0
 |m+1=>if xs[m]?.getD 0=ys[m]?.getD 0 then ordN xs ys m else wrap64 (xs[m]?.getD 0-ys[m]?.getD 0)
def ordL(xs ys:List Int):Int:=if xs.length=ys.length then ordN xs ys xs.length else(xs.length:Int)-ys.length
theorem bwl_prefix{n:Nat}{pre:List (Fin n)}(h:pre <+: bwl n n):pre=bwl n pre.length:=by
 have hl:pre.length≤n:=by have:=h.length_le;rwa [aBs n n (Nat.le_refl _)] at this
 have h2:=bwl_mono n pre.length (n-pre.length);rw[show pre.length+(n-pre.length)=n from by omega] at h2;have e:=List.prefix_of_prefix_length_le h h2 (by rw[aBs n _ hl];exact Nat.le_refl _);exact e.eq_of_length (by rw[aBs n _ hl])
theorem bwl_last{n:Nat}{pre:List (Fin n)}{x:Fin n}(h:(pre++ [x]) <+: bwl n n):pre=bwl n pre.length∧x.val=n-1-pre.length∧pre.length<n:=by
 have hl:(pre++ [x]).length≤n:=by have:=h.length_le;rwa [aBs n n (Nat.le_refl _)] at this
 have e:=bwl_prefix h;simp only[List.length_append,List.length_cons,List.length_nil] at e hl;rw[uH n pre.length aFx] at e;obtain⟨e1,e2⟩:=List.append_inj' e rfl;refine⟨e1,?_,by omega⟩;simp only[List.cons.injEq,and_true] at e2;rw[e2]
theorem ordN_eqs(xs ys:List Int)(n:Nat):∀k,k≤n→(∀i∈bwl n k,xs[i.val]?.getD 0=ys[i.val]?.getD 0)→ordN xs ys n=ordN xs ys (n-k)
 |0,_,_=>rfl
 |k+1,hk,h=>by
  rw[ordN_eqs xs ys n k aFx (fun i hi=>h i (by rw[uH n k aFx];exact List.mem_append_left _ hi))];have:=h ⟨n-1-k,by omega⟩ (by rw[uH n k aFx];simp)
  dsimp only at this
  rw[show n-k=(n-1-k)+1 from by omega,ordN,if_pos this,show n-(k+1)=n-1-k from by omega]
theorem ordN_stop(xs ys:List Int)(n:Nat)(pre:List (Fin n))(x:Fin n)(h:(pre++ [x]) <+: bwl n n)(he:∀i∈pre,xs[i.val]?.getD 0=ys[i.val]?.getD 0)(hx:¬xs[x.val]?.getD 0=ys[x.val]?.getD 0) :
 ordN xs ys n=wrap64 (xs[x.val]?.getD 0-ys[x.val]?.getD 0):=by
 obtain⟨e1,e2,e3⟩:=bwl_last h;rw[ordN_eqs xs ys n pre.length aFx (by rw[←e1];exact he)];rw[show n-pre.length=x.val+1 from by omega,ordN,if_neg hx]
theorem order_eq(A1 A2:Option Addr)(n c1 c2:Nat)(xs ys:List Int)(w:World)(hx:RI w.heap.size w A1 n xs)(hy:RI w.heap.size w A2 n ys) :
 Calls Tryz.prog 145 #[.slice A1 n c1,.slice A2 n c2] w fun e W'=>e= .returned (.int .i64 (ordN xs ys n))∧Below w.heap.size w W':=by
 have hmax:=hx.2.1;refine(callsIn_wide (n:=8)).1 ?_;have hro:Fence.wide.round=none:=rfl;have h1:1≤8:=by omega
 refine callsIn_of_wp_marks Tryz.func145 rfl trivial ?_ hro;simp only[Tryz.ntmps145,List.size_toArray,List.length_cons,List.length_nil,Nat.reduceAdd,Nat.reduceSub,Array.replicate_succ,Array.replicate_zero,List.push_toArray,List.append_toArray,List.nil_append,List.cons_append];have HX:=Lib.hid hx;have HY:=Lib.hid hy;clear hx hy
 gi_wp2_with (refine⟨trivial,?_⟩;gi_at_call 166;refine(bwd_in Fence.wide (8-1) trivial hro _ _ _ _).mono ?_;rintro e w' ⟨rfl,rfl⟩)
 have bY:=((Boxed.new w 79 (.slice A2 n c2)).alloc (.cells #[.int .i64 0] 3)).alloc (.cells #[.slice A1 n c1] 79);have bR:=(Boxed.new (w.alloc (.cells #[.slice A2 n c2] 79)) 3 (.int .i64 0)).alloc (.cells #[.slice A1 n c1] 79);have bX:=Boxed.new ((w.alloc (.cells #[.slice A2 n c2] 79)).alloc (.cells #[.int .i64 0] 3)) 79 (.slice A1 n c1);simp only[World.size_alloc] at bY bR bX;have hB0:Below w.heap.size w (((w.alloc (.cells #[.slice A2 n c2] 79)).alloc (.cells #[.int .i64 0] 3)).alloc (.cells #[.slice A1 n c1] 79)):=(((Below.refl _ w).alloc (Nat.le_refl _) _).alloc aFz _).alloc (by simp;omega) _;have hsz:(((w.alloc (.cells #[.slice A2 n c2] 79)).alloc (.cells #[.int .i64 0] 3)).alloc (.cells #[.slice A1 n c1] 79)).heap.size=w.heap.size+3:=by simp
 obtain⟨W0,hW0⟩:∃W0,((w.alloc (.cells #[.slice A2 n c2] 79)).alloc (.cells #[.int .i64 0] 3)).alloc (.cells #[.slice A1 n c1] 79)=W0:=⟨_,rfl⟩
 rw[hW0] at bY bR bX hB0 hsz ⊢;clear hW0
 refine wpIn_rangeFunc_ownF hro h1 (gf:=197) (lb:=#[.pointer (some ⟨w.heap.size+1+1,0,none⟩)]) rfl trivial (enters_of Tryz.func197 (by kernel_rfl) rfl)
  (aCf Fence.wide (8-1) trivial hro aFx (w.heap.size+1+1) w.heap.size A1 n c1 xs W0 aFx aFx bX.cell (HX.out.below hB0)) kpB_t (kpB_b aFx aFx) (Below.refl _ _) (fun _=>rfl)
  (fun pre W=>((Boxed W w.heap.size 79 (.slice A2 n c2)∧Boxed W (w.heap.size+1) 3 (.int .i64 0))∧(∀i∈pre,xs[i.val]?.getD 0=ys[i.val]?.getD 0))∧Below w.heap.size w W)
  (fun c pre W=>(Boxed W (w.heap.size+1) 3 (.int .i64 (ordN xs ys n))∨¬pre <+: bwl n n)∧c= .ret∧Below w.heap.size w W)
  (OwnFrom.and (OwnFrom.and (OwnFrom.and (Own.from (boxed_own _ _ _) _) (Own.from (boxed_own _ _ _) _)) (ownFrom_pure _ _)) (ownFrom_below (Nat.le_refl _) aFx))
  (fun c=>OwnFrom.and (fun s A B row hs hg hr=>hs.elim (fun hb=> .inl (boxed_own (w.heap.size+1) 3 (fun(_:Unit)=>Value.int .i64 (ordN xs ys n)) () A B row hb hg (fun r e=>(hr r e).2))) .inr) (OwnFrom.and (ownFrom_pure _ _) (ownFrom_below (Nat.le_refl _) aFx)))
  ⟨⟨⟨bY,bR⟩,fun i hi=>by cases hi⟩,hB0⟩
  (fun x=>{tmps:=#[.slice A1 n c1,.slice A2 n c2,undef,.pointer (some ⟨w.heap.size,0,none⟩),.pointer (some ⟨w.heap.size+1,0,none⟩),.int .i64 (x.val:Int),.int .i64 (xs[x.val]?.getD 0),.slice A1 n c1,.int .i64 (n:Int),.slice A2 n c2,.int .i64 (n:Int),.bool false,undef,undef,undef,undef,undef,.slice A1 n c1,.func (.func 197) #[] #[.pointer (some ⟨w.heap.size+1+1,0,none⟩)],.int .i64 (x.val:Int),.int .i64 (xs[x.val]?.getD 0),undef,undef,undef,undef,undef,undef,undef,undef,undef,undef,undef,undef],defers:= []}) ?assign ?body ?done ?stop
 case assign=>
  intro l x W K hK
  gi_wp2
  exact hK
 case body=>
  rintro l pre x W ⟨⟨⟨bY1,bR1⟩,hall⟩,hB1⟩ hlt;obtain⟨ad,rfl,hb0,hc⟩:=HY.out.2.2 (by have:=x.isLt;omega);have hcy:W.cell? (ad.add x.val)=some (.int .i64 (ys[x.val]?.getD 0)):=(hB1.cell (p:=ad.add x.val) (by rw[add_block];exact hb0)).trans (hc x.val x.isLt);have cY:=bY1.cell;have cR:=bR1.cell;have fR:=bR1.frozen;have hxlt:=x.isLt;clear hc
  by_cases he:xs[x.val]?.getD 0=ys[x.val]?.getD 0
  ·have e1:(xs[x.val]?.getD 0 != ys[x.val]?.getD 0)=false:=by simpa using he
   have e2:(xs[x.val]?.getD 0==ys[x.val]?.getD 0)=true:=by simpa using he
   have He:=Lib.hid he;clear he
   gi_wp2
   exact⟨KeepsOthers.refl _,⟨mP.refl _ _,Below.refl _ _⟩,⟨⟨bY1,bR1⟩,fun i hi=>by
    rcases List.mem_append.1 hi with h|h
    ·exact hall i h
    ·simp only[List.mem_cons,List.not_mem_nil,or_false] at h
     rw[h];exact He.out⟩,hB1⟩
  ·have e1:(xs[x.val]?.getD 0 != ys[x.val]?.getD 0)=true:=by simpa using he
   have e2:(xs[x.val]?.getD 0==ys[x.val]?.getD 0)=false:=by simpa using he
   have hend:Hid (Boxed (W.setCell ⟨w.heap.size+1,0,none⟩ (.int .i64 (wrap64 (xs[x.val]?.getD 0-ys[x.val]?.getD 0)))) (w.heap.size+1) 3 (.int .i64 (ordN xs ys n))∨¬(pre++ [x]) <+: bwl n n):=by
    by_cases hp:(pre++ [x]) <+: bwl n n
    ·left
     rw[ordN_stop xs ys n pre x hp hall he];exact bR1.set _
    ·exact .inr hp
   clear he hall
   gi_wp2
   exact⟨KeepsOthers.setCell _ _ _,hend.out,rfl,hB1.setCell (p:=⟨w.heap.size+1,0,none⟩) aFz _⟩
 case done=>
  rintro D zs W hD rfl ⟨⟨⟨bY1,bR1⟩,hall⟩,hB1⟩ hK;have hz:=ordN_eqs xs ys n n (Nat.le_refl _) hall;rw[Nat.sub_self] at hz;have cR:=bR1.cell;have fR:=bR1.frozen;have Hz:=Lib.hid hz;clear hz hall;have hK2:(W.setCell ⟨w.heap.size+1,0,none⟩ (.int .i64 0)).heap[D]? =some (.deferred (some [])):=(KeepsOthers.setCell W _ _).same D _ hK rfl;have bR2:=(boxed_own (w.heap.size+1) 3 (fun(_:Unit)=>Value.int .i64 0) () _ _ _ (bR1.set (.int .i64 0)) (grownBy_putObj' _ D (.deferred none)) (fun r e=>by cases e;exact⟨_,hK2,rfl⟩));have cR2:=bR2.cell
  gi_wp2
  refine⟨by simp,.inl ⟨_,_,rfl,run_takeDeferred hK2,?_⟩⟩;exact⟨_,by simp[results,Tryz.results145,go_sem,cR2];rfl,by rw[Hz.out];rfl,(hB1.setCell (p:=⟨w.heap.size+1,0,none⟩) aFz _).trans (belowK_b (w:=w) (Nat.le_refl _) _ D _ _ aFx hK2 rfl rfl)⟩
 case stop=>
  rintro D c pre W hD hpre ⟨hr,rfl,hB1⟩ hK
  have bR1:Boxed W (w.heap.size+1) 3 (.int .i64 (ordN xs ys n)):=by
   rcases hr with h|h
   ·exact h
   ·exact absurd hpre h
  clear hr;have bR2:=(boxed_own (w.heap.size+1) 3 (fun(_:Unit)=>Value.int .i64 (ordN xs ys n)) () _ _ _ bR1 (grownBy_putObj' _ D (.deferred none)) (fun r e=>by cases e;exact⟨_,hK,rfl⟩));have cR2:=bR2.cell
  gi_wp2
  refine⟨by simp,.inl ⟨_,_,rfl,run_takeDeferred hK,?_⟩⟩;exact⟨_,by simp[results,Tryz.results145,go_sem,cR2],rfl,hB1.trans (belowK_b (w:=w) (Nat.le_refl _) _ D _ _ aFx hK rfl rfl)⟩
theorem order_ne(A1 A2:Option Addr)(n1 n2 c1 c2:Nat)(w:World)(h1:n1≤9223372036854775807)(h2:n2≤9223372036854775807)(h:n1≠n2) :
 Calls Tryz.prog 145 #[.slice A1 n1 c1,.slice A2 n2 c2] w fun e W'=>e= .returned (.int .i64 ((n1:Int)-n2))∧Below w.heap.size w W':=by
 have e1:((n1:Int) != (n2:Int))=true:=by rw[bne_iff_ne];omega
 have e2:((n1:Int)==(n2:Int))=false:=by rw[beq_eq_false_iff_ne];omega
 have e3:(n1 != n2)=true:=by rw[bne_iff_ne];omega
 have e4:(n1==n2)=false:=by rw[beq_eq_false_iff_ne];omega
 go_enter Tryz.func145,Tryz.ntmps145
 go_wp2
 exact bodyPost_ret (v:= .int .i64 ((n1:Int)-n2)) (by simp[results,Tryz.results145,go_sem]) rfl ⟨rfl,((Below.refl _ _).alloc (Nat.le_refl _) _).alloc aFz _⟩
theorem aAh(A1 A2:Option Addr)(n1 n2 c1 c2:Nat)(xs ys:List Int)(w:World)(hx:RI w.heap.size w A1 n1 xs)(hy:RI w.heap.size w A2 n2 ys) :
 Calls Tryz.prog 145 #[.slice A1 n1 c1,.slice A2 n2 c2] w fun e W'=>e= .returned (.int .i64 (ordL xs ys))∧Below w.heap.size w W':=by
 unfold ordL
 by_cases h:n1=n2
 ·subst h
  rw[if_pos (hx.1.trans hy.1.symm),hx.1];exact order_eq A1 A2 n1 c1 c2 xs ys w hx hy
 ·rw[if_neg (by rw[hx.1,hy.1];exact h),hx.1,hy.1]
  exact order_ne A1 A2 n1 n2 c1 c2 w hx.2.1 hy.2.1 h
end Go.Proofs.YtignanmmgaldeaaGreatDoor
namespace Go.Proofs.YtignanmmgaldeaaGreatDoor
open Go.RowKit Go.Shelf Go.Proofs.YtignanmmgaldeaaGreatDoorW.PrintWords
def tlen(xs:List Int):Nat→Nat
 |0=>0
 |m+1=>if xs[m]?.getD 0=0 then tlen xs m else m+1
theorem nN(xs:List Int):∀m,tlen xs m≤m
 |0=>Nat.le_refl _
 |m+1=>by unfold tlen;split;exact Nat.le_succ_of_le (nN xs m);exact Nat.le_refl _
def tl(xs:List Int):List Int:=xs.take (tlen xs xs.length)
def sliceLen:Value→Nat
 | .slice _ n _=>n
 |_=>0
theorem yM(A:Option Addr)(n c:Nat)(xs:List Int)(w:World)(hr:lS w .i64 A n xs)(hnc:n≤c)(hc:c≤9223372036854775807) :
 Calls Tryz.prog 172 #[.slice A n c] w fun e w'=>e= .returned (.slice A (tlen xs n) c)∧w'=w:=by
 have hmax:=hr.2.1;have HR:=Lib.hid hr;clear hr;go_enter Tryz.func172,Tryz.ntmps172
 go_wp2
 go_loop [0] (fun v=>∃m:Nat,m≤n∧v= .slice A m c∧tlen xs n=tlen xs m) (fun v=>sliceLen v)
 case atStart=>exact⟨n,Nat.le_refl _,rfl,rfl⟩
 case round=>
  obtain⟨m,hm,rfl,ht⟩:=hrel;have Ht:=Lib.hid ht;clear ht
  by_cases h0:m=0
  ·subst h0
   have hz:Hid (tlen xs 0=0):=rfl;go_wp2
   go_ret
   exact⟨by rw[Ht.out,hz.out];rfl,rfl⟩
  ·obtain⟨j,rfl⟩:∃j,m=j+1:=⟨m-1,by omega⟩
   obtain⟨ad,rfl,hcell⟩:=HR.out.2.2 aFx;have hcj:w.cell? (ad.add j)=some (.int .i64 (xs[j]?.getD 0)):=by rw[hcell j aFx,List.getD_eq_getElem?_getD]
   clear hcell
   by_cases hz:xs[j]?.getD 0=0
   ·have e1:(xs[j]?.getD 0==0)=true:=by simpa using hz
    have hs:Hid (tlen xs (j+1)=tlen xs j):=by show tlen xs (j+1)=tlen xs j;rw[tlen,if_pos hz]
    clear hz;go_wp2
    all_goals
     go_round
     case rel=>exact⟨j,by omega,by simp,by rw[Ht.out,hs.out]⟩
     case measure=>simp[sliceLen]
   ·have e1:(xs[j]?.getD 0==0)=false:=by simpa using hz
    have hs:Hid (tlen xs (j+1)=j+1):=by show tlen xs (j+1)=j+1;rw[tlen,if_neg hz]
    clear hz;go_wp2
    go_ret
    exact⟨by rw[Ht.out,hs.out];rfl,rfl⟩
end Go.Proofs.YtignanmmgaldeaaGreatDoor
namespace Go.Proofs.YtignanmmgaldeaaGreatDoor
open Go.RowKit Go.Shelf Go.Proofs.YtignanmmgaldeaaGreatDoorW.PrintWords
attribute [local go_sem] Oper.semAt_some
theorem mP.setAt{B:Nat}{X Y:World}(h:mP B X Y){b:Nat}(hb:b≠B)(o:Nat)(v:Value):mP B X (Y.setCell ⟨b,o,none⟩ v):=h.trans ⟨fun ob e=>(Below.heap_setCell Y ⟨b,o,none⟩ v B (fun q=>hb q.symm)).trans e⟩
def Rowd(B:Nat)(xs:List Int)(W:World):Prop:=W.heap[B]? =some (.cells (nums .i64 xs).toArray 3 (0,0))
theorem Rowd.lt{B:Nat}{xs:List Int}{W:World}(h:Rowd B xs W):B<W.heap.size:=(Array.getElem?_eq_some_iff.1 h).1
theorem Rowd.cell{B:Nat}{xs:List Int}{W:World}(h:Rowd B xs W)(k:Nat)(hk:k<xs.length):W.cell? ⟨B,k,none⟩=some (.int .i64 (xs[k]?.getD 0)):=by
 simp[World.cell?,show W.heap[B]? =_ from h,nums,hk]
theorem Rowd.frozen{B:Nat}{xs:List Int}{W:World}(h:Rowd B xs W)(k:Nat):W.frozen? ⟨B,k,none⟩=false:=by simp[World.frozen?,show W.heap[B]? =_ from h]
theorem Rowd.alloc{B:Nat}{xs:List Int}{W:World}(h:Rowd B xs W)(o:Obj):Rowd B xs (W.alloc o):=(Below.heap_alloc W o B h.lt).trans h
theorem rowd_own(B:Nat){β:Type}(f:β→List Int):Own (fun(s:β) W=>Rowd B (f s) W):=fun s W W' row h hg hr=>(hg.block B (Rowd.lt h) (fun e=>by
 obtain⟨o,ho,hc⟩:=hr B e.symm;rw[show W.heap[B]? =_ from h] at ho
 cases ho
 cases hc)).trans h
theorem Rowd.other{B:Nat}{xs:List Int}{W:World}(h:Rowd B xs W){b:Nat}(hb:b≠B)(o:Nat)(v:Value):Rowd B xs (W.setCell ⟨b,o,none⟩ v):=(Below.heap_setCell W ⟨b,o,none⟩ v B (fun e=>hb e.symm)).trans h
theorem Rowd.store{B:Nat}{xs:List Int}{W:World}(h:Rowd B xs W)(k:Nat)(v:Int):Rowd B (xs.set k v) (W.setCell ⟨B,k,none⟩ (.int .i64 v)):=by
 obtain⟨hlt,he⟩:=Array.getElem?_eq_some_iff.1 h;show(W.heap.modify B _)[B]? =_;rw[Array.getElem?_eq_getElem (by rw[Array.size_modify];exact hlt),Array.getElem_modify_self,he]
 simp[nums,List.map_set]
theorem Rowd.made(W:World)(n:Nat):Rowd W.heap.size (List.replicate n 0) (W.alloc (.cells (madeCells #[.int .i64 0] n) 3)):=by
 have h:=World.alloc_heap_new W (.cells (madeCells #[.int .i64 0] n) 3);unfold Rowd;rw[h]
 congr 2
 apply Array.toList_inj.1
 apply List.ext_getElem
 ·simp[nums,madeCells]
 ·intro i h1 h2
  simp[nums,madeCells,Nat.mod_one]
theorem lI{B:Nat}{xs:List Int}{W:World}(h:Rowd B xs W)(hx:xs.length≤9223372036854775807:=by omega):lS W .i64 (some ⟨B,0,none⟩) xs.length xs:=⟨rfl,hx,fun _=>⟨_,rfl,fun j hj=>by
 have e:=h.cell j hj
 rw[List.getD_eq_getElem?_getD,←e,show(Addr.add ⟨B,0,none⟩ j)=⟨B,j,none⟩ from by simp only[Addr.add];split <;> simp_all]⟩⟩
theorem aCq{W:World}{B:Nat}{t:TypeId}{v:Value}(h:Boxed W B t v){b:Nat}(hb:b≠B)(o:Nat)(u:Value):Boxed (W.setCell ⟨b,o,none⟩ u) B t v:=(Below.heap_setCell W ⟨b,o,none⟩ u B (fun e=>hb e.symm)).trans h
def shF(d:Int)(xs:List Int){n:Nat}(pre:List (Fin n)):List Int×Int:=
 pre.foldl (fun s i=>(s.1.set i.val ((s.2*1000000000+xs[i.val]?.getD 0)/d),(s.2*1000000000+xs[i.val]?.getD 0)%d)) (List.replicate n 0,0)
theorem aC5(d:Int)(xs:List Int){n:Nat}(pre:List (Fin n))(x:Fin n):shF d xs (pre++ [x])=((shF d xs pre).1.set x.val (((shF d xs pre).2*1000000000+xs[x.val]?.getD 0)/d),((shF d xs pre).2*1000000000+xs[x.val]?.getD 0)%d):=by simp[shF]
theorem aDb(d:Int)(hd:1≤d)(xs:List Int){n:Nat}(pre:List (Fin n)):0≤(shF d xs pre).2∧(shF d xs pre).2<d:=by
 rcases List.eq_nil_or_concat pre with rfl|⟨l,x,rfl⟩
 ·simp[shF];omega
 ·rw[List.concat_eq_append,aC5]
  exact⟨Int.emod_nonneg _ aFx,Int.emod_lt_of_pos _ aFx⟩
theorem aBt(d:Int)(xs:List Int){n:Nat}(pre:List (Fin n)):(shF d xs pre).1.length=n:=by
 suffices H:∀(l:List (Fin n)) (s:List Int×Int),s.1.length=n→(l.foldl (fun s i=>(s.1.set i.val ((s.2*1000000000+xs[i.val]?.getD 0)/d),(s.2*1000000000+xs[i.val]?.getD 0)%d)) s).1.length=n from H pre _ aFz
 intro l
 induction l with
 |nil=>intro s h;exact h
 |cons i l ih=>intro s h;exact ih _ (by simpa using h)
theorem yN:(Tryz.prog.info? 3).map (fun i=>(i.zero,i.size,i.bytes))=some (some (.int .i64 0),1,8):=by kernel_rfl
theorem short_walk(A:Option Addr)(n c:Nat)(xs:List Int)(d:Int)(w:World)(hx:RI w.heap.size w A n xs)(hn:n≤35184372088832)(hd:1≤d)(hd2:d≤1000000000)(hb:∀i:Fin n,0≤xs[i.val]?.getD 0∧xs[i.val]?.getD 0<1000000000) :
 Calls Tryz.prog 171 #[.slice A n c,.int .i64 d] w fun e W'=>e= .returned (.tuple #[.slice (some ⟨w.heap.size+1,0,none⟩) (tlen (shF d xs (bwl n n)).1 n) n,.int .i64 (shF d xs (bwl n n)).2])∧Rowd (w.heap.size+1) (shF d xs (bwl n n)).1 W'∧Below w.heap.size w W':=by
 refine(callsIn_wide (n:=8)).1 ?_;have hro:Fence.wide.round=none:=rfl;have h1:1≤8:=by omega
 have hmix:Tryz.prog.follows .mixedOrders=true:=by kernel_rfl
 have hmk:=aAt (P:=Tryz.prog) 79 3 .i64 8 Tryz.underlying79 yN aG0 n aFx;refine callsIn_of_wp_marks Tryz.func171 rfl trivial ?_ hro;simp only[Tryz.ntmps171,List.size_toArray,List.length_cons,List.length_nil,Nat.reduceAdd,Nat.reduceSub,Array.replicate_succ,Array.replicate_zero,List.push_toArray,List.append_toArray,List.nil_append,List.cons_append];have HX:=Lib.hid hx;have HB:=Lib.hid hb;clear hx hb
 gi_wp2_with (refine⟨trivial,?_⟩;gi_at_call 166;refine(bwd_in Fence.wide (8-1) trivial hro _ _ _ _).mono ?_;rintro e w' ⟨rfl,rfl⟩)
 have bD:=((((Boxed.new w 3 (.int .i64 d)).alloc (.cells (madeCells #[.int .i64 0] n) 3)).alloc (.cells #[.slice (some ⟨w.heap.size+1,0,none⟩) n n] 79)).alloc (.cells #[.int .i64 0] 3)).alloc (.cells #[.slice A n c] 79);have bW:=(((Rowd.made (w.alloc (.cells #[.int .i64 d] 3)) n).alloc (.cells #[.slice (some ⟨w.heap.size+1,0,none⟩) n n] 79)).alloc (.cells #[.int .i64 0] 3)).alloc (.cells #[.slice A n c] 79);have bO:=((Boxed.new ((w.alloc (.cells #[.int .i64 d] 3)).alloc (.cells (madeCells #[.int .i64 0] n) 3)) 79 (.slice (some ⟨w.heap.size+1,0,none⟩) n n)).alloc (.cells #[.int .i64 0] 3)).alloc (.cells #[.slice A n c] 79);have bR:=(Boxed.new (((w.alloc (.cells #[.int .i64 d] 3)).alloc (.cells (madeCells #[.int .i64 0] n) 3)).alloc (.cells #[.slice (some ⟨w.heap.size+1,0,none⟩) n n] 79)) 3 (.int .i64 0)).alloc (.cells #[.slice A n c] 79);have bX:=Boxed.new ((((w.alloc (.cells #[.int .i64 d] 3)).alloc (.cells (madeCells #[.int .i64 0] n) 3)).alloc (.cells #[.slice (some ⟨w.heap.size+1,0,none⟩) n n] 79)).alloc (.cells #[.int .i64 0] 3)) 79 (.slice A n c);simp only[World.size_alloc] at bD bW bO bR bX;have hB0:Below w.heap.size w (((((w.alloc (.cells #[.int .i64 d] 3)).alloc (.cells (madeCells #[.int .i64 0] n) 3)).alloc (.cells #[.slice (some ⟨w.heap.size+1,0,none⟩) n n] 79)).alloc (.cells #[.int .i64 0] 3)).alloc (.cells #[.slice A n c] 79)):=(((((Below.refl _ w).alloc (Nat.le_refl _) _).alloc aFz _).alloc (by simp;omega) _).alloc (by simp;omega) _).alloc (by simp;omega) _;have hsz:(((((w.alloc (.cells #[.int .i64 d] 3)).alloc (.cells (madeCells #[.int .i64 0] n) 3)).alloc (.cells #[.slice (some ⟨w.heap.size+1,0,none⟩) n n] 79)).alloc (.cells #[.int .i64 0] 3)).alloc (.cells #[.slice A n c] 79)).heap.size=w.heap.size+5:=by simp
 obtain⟨W0,hW0⟩:∃W0,((((w.alloc (.cells #[.int .i64 d] 3)).alloc (.cells (madeCells #[.int .i64 0] n) 3)).alloc (.cells #[.slice (some ⟨w.heap.size+1,0,none⟩) n n] 79)).alloc (.cells #[.int .i64 0] 3)).alloc (.cells #[.slice A n c] 79)=W0:=⟨_,rfl⟩
 rw[hW0] at bD bW bO bR bX hB0 hsz ⊢;clear hW0 hmk
 refine wpIn_rangeFunc_ownF hro h1 (gf:=197) (lb:=#[.pointer (some ⟨w.heap.size+1+1+1+1,0,none⟩)]) rfl trivial (enters_of Tryz.func197 (by kernel_rfl) rfl)
  (aCf Fence.wide (8-1) trivial hro aFx (w.heap.size+1+1+1+1) w.heap.size A n c xs W0 aFx aFx bX.cell (HX.out.below hB0)) kpB_t (kpB_b aFx aFx) (Below.refl _ _) (fun _=>rfl)
  (fun pre W=>(((Boxed W w.heap.size 3 (.int .i64 d)∧Boxed W (w.heap.size+1+1) 79 (.slice (some ⟨w.heap.size+1,0,none⟩) n n))∧Boxed W (w.heap.size+1+1+1) 3 (.int .i64 (shF d xs pre).2))∧Rowd (w.heap.size+1) (shF d xs pre).1 W)∧Below w.heap.size w W)
  (fun _ _ _=>False)
  (OwnFrom.and (OwnFrom.and (OwnFrom.and (OwnFrom.and (Own.from (boxed_own _ _ _) _) (Own.from (boxed_own _ _ _) _)) (Own.from (boxed_own _ _ _) _)) (Own.from (rowd_own _ _) _)) (ownFrom_below (Nat.le_refl _) aFx))
  (fun _ _ _ _ _ hs _ _=>hs)
  ⟨⟨⟨⟨bD,bO⟩,bR⟩,bW⟩,hB0⟩
  (fun x=>{tmps:=#[.slice A n c,.int .i64 d,undef,.pointer (some ⟨w.heap.size,0,none⟩),.slice none 0 0,.int .i64 0,.pointer (some ⟨w.heap.size+1+1,0,none⟩),.pointer (some ⟨w.heap.size+1+1+1,0,none⟩),.int .i64 (x.val:Int),.int .i64 (xs[x.val]?.getD 0),.slice A n c,.int .i64 (n:Int),.slice (some ⟨w.heap.size+1,0,none⟩) n n,.slice A n c,.func (.func 197) #[] #[.pointer (some ⟨w.heap.size+1+1+1+1,0,none⟩)],.int .i64 (x.val:Int),.int .i64 (xs[x.val]?.getD 0),undef,undef,undef,undef,undef,undef,undef,undef,undef,undef,undef,undef,undef,undef,undef,undef],defers:= []}) ?assign ?body ?done ?stop
 case assign=>
  intro l x W K hK
  gi_wp2
  exact hK
 case body=>
  rintro l pre x W ⟨⟨⟨⟨bD1,bO1⟩,bR1⟩,bW1⟩,hB1⟩ hlt;have hxb:=HB.out x;have hrest:=aDb d hd xs pre;have hlen:=aBt d xs pre;have hstep:=Lib.hid (aC5 d xs pre x);have hxlt:=x.isLt;generalize shF d xs pre=st at *
  generalize xs[x.val]?.getD 0=v at *
  have hq:0≤st.2*1000000000+v∧st.2*1000000000+v<1000000000000000000:=by omega
  have cD:=bD1.cell;have cR:=bR1.cell;have fR:=bR1.frozen
  gi_wp2
  generalize st.snd*1000000000+v=t at *
  have hlR:=bR1.lt
  obtain⟨W1,hW1,k1,k2,d1,o1,r1,g1,b1⟩:∃W1,W1=W.setCell ⟨w.heap.size+1+1+1,0,none⟩ (.int .i64 t)∧KeepsOthers W W1∧KpB (w.heap.size+1+1+1+1) w.heap.size W W1∧Boxed W1 w.heap.size 3 (.int .i64 d)∧Boxed W1 (w.heap.size+1+1) 79 (.slice (some ⟨w.heap.size+1,0,none⟩) n n)∧Boxed W1 (w.heap.size+1+1+1) 3 (.int .i64 t)∧Rowd (w.heap.size+1) st.1 W1∧Below w.heap.size w W1:=
   ⟨_,rfl,KeepsOthers.setCell _ _ _,⟨(mP.refl _ W).setCell aFx _,(Below.refl _ W).setCell (p:=⟨w.heap.size+1+1+1,0,none⟩) (by simp;omega) _⟩,bD1.other aFx _,bO1.other aFx _,bR1.set _,bW1.other aFx _ _,hB1.setCell (p:=⟨w.heap.size+1+1+1,0,none⟩) (by simp;omega) _⟩
  rw[←hW1];clear hW1 bD1 bO1 bR1 bW1 cD cR fR hB1;have hd0:(d==0)=false:=by rw[beq_eq_false_iff_ne];omega
  have ht0:0≤t:=hq.1;have hdn:d≠0:=by omega
  have htq:t.tdiv d=t/d:=Int.tdiv_eq_ediv_of_nonneg ht0;have htm:t.tmod d=t%d:=Int.tmod_eq_emod_of_nonneg ht0
  have hqw:IntKind.i64.wrap (t/d)=t/d:=by
   have h1:0≤t/d:=Int.ediv_nonneg ht0 aFx;have h2:t/d≤t:=Int.ediv_le_self _ ht0;rw[IntKind.wrap_i64];omega
  obtain⟨V0,hV0⟩:∃V0:World,W1.drew=V0:=⟨_,rfl⟩
  have k1:KeepsOthers W V0:=hV0▸k1.trans (KeepsOthers.drew _);have k2:KpB (w.heap.size+1+1+1+1) w.heap.size W V0:=hV0▸⟨k2.1.drew,k2.2.drew⟩;have d0:Boxed V0 w.heap.size 3 (.int .i64 d):=hV0▸d1;have o0:Boxed V0 (w.heap.size+1+1) 79 (.slice (some ⟨w.heap.size+1,0,none⟩) n n):=hV0▸o1;have r0:Boxed V0 (w.heap.size+1+1+1) 3 (.int .i64 t):=hV0▸r1;have g0:Rowd (w.heap.size+1) st.1 V0:=hV0▸g1;have b0:Below w.heap.size w V0:=hV0▸b1.drew;clear d1 o1 r1 g1 b1;obtain⟨V1,hV1⟩:∃V1:World,V0.setCell ⟨w.heap.size+1,x.val,none⟩ (.int .i64 (t/d))=V1:=⟨_,rfl⟩
  have k1:KeepsOthers W V1:=hV1▸k1.trans (KeepsOthers.setCell _ _ _);have k2:KpB (w.heap.size+1+1+1+1) w.heap.size W V1:=hV1▸⟨k2.1.setAt (b:=w.heap.size+1) aFx _ _,k2.2.setCell (p:=⟨w.heap.size+1,x.val,none⟩) aFz _⟩;have d1:Boxed V1 w.heap.size 3 (.int .i64 d):=hV1▸aCq d0 aFx _ _;have o1:Boxed V1 (w.heap.size+1+1) 79 (.slice (some ⟨w.heap.size+1,0,none⟩) n n):=hV1▸aCq o0 aFx _ _;have r1:Boxed V1 (w.heap.size+1+1+1) 3 (.int .i64 t):=hV1▸aCq r0 aFx _ _;have g1:Rowd (w.heap.size+1) (st.1.set x.val (t/d)) V1:=hV1▸g0.store x.val (t/d);have b1:Below w.heap.size w V1:=hV1▸b0.setCell (p:=⟨w.heap.size+1,x.val,none⟩) aFz _;obtain⟨V2,hV2⟩:∃V2:World,V1.setCell ⟨w.heap.size+1+1+1,0,none⟩ (.int .i64 (t%d))=V2:=⟨_,rfl⟩
  have k1:KeepsOthers W V2:=hV2▸k1.trans (KeepsOthers.setCell _ _ _);have k2:KpB (w.heap.size+1+1+1+1) w.heap.size W V2:=hV2▸⟨k2.1.setCell (b:=w.heap.size+1+1+1) aFx _,k2.2.setCell (p:=⟨w.heap.size+1+1+1,0,none⟩) (by simp;omega) _⟩;have d2:Boxed V2 w.heap.size 3 (.int .i64 d):=hV2▸d1.other aFx _;have o2:Boxed V2 (w.heap.size+1+1) 79 (.slice (some ⟨w.heap.size+1,0,none⟩) n n):=hV2▸o1.other aFx _;have r2:Boxed V2 (w.heap.size+1+1+1) 3 (.int .i64 (t%d)):=hV2▸r1.set _;have g2:Rowd (w.heap.size+1) (st.1.set x.val (t/d)) V2:=hV2▸g1.other aFx _ _;have b2:Below w.heap.size w V2:=hV2▸b1.setCell (p:=⟨w.heap.size+1+1+1,0,none⟩) (by simp;omega) _;have cW:=g0.cell x.val aFx;have fW:=g0.frozen x.val;have cR:=r1.cell;have fR:=r1.frozen
  refine aE0 hmix (fun i=>([.slice (some ⟨w.heap.size+1,0,none⟩) n n,.int .i64 x.val,.int .i64 t,.int .i64 d,.int .i64 (t/d),.int .i64 t,.int .i64 d,.int .i64 (t%d),.pointer (some ⟨w.heap.size+1,x.val,none⟩),undef,undef]:List Value).getD i undef) [9,10]
   (fun k=>([V0,V1,V2]:List World).getD k V0) (by kernel_rfl) hV0.symm ?rd ?st ?fin
  case rd=>
   clear hrest hstep HB HX bD bW bO bR bX hB0 hxb hlt k1 k2;refine⟨?_,?_,?_,?_,?_,?_,?_,?_,?_,?_,?_,trivial⟩
   ·intro _ k hk hn a hK
    have e0:=hK.rest' 6 (by kernel_rfl);rcases k with _|_|_|k
    ·simp only[execOp,e0];simp[go_sem,o0.cell]
    ·exact absurd hn (by rw[Bool.not_eq_true];kernel_rfl)
    ·exact absurd hn (by rw[Bool.not_eq_true];kernel_rfl)
    ·exfalso;simp only[List.length_cons,List.length_nil] at hk;omega
   ·intro _ k hk hn a hK
    have e0:=hK.rest' 8 (by kernel_rfl);rcases k with _|_|_|k
    ·simp only[execOp,e0];simp[go_sem]
    ·exact absurd hn (by rw[Bool.not_eq_true];kernel_rfl)
    ·exact absurd hn (by rw[Bool.not_eq_true];kernel_rfl)
    ·exfalso;simp only[List.length_cons,List.length_nil] at hk;omega
   ·intro _ k hk hn a hK
    have e0:=hK.rest' 7 (by kernel_rfl);rcases k with _|_|_|k
    ·simp only[execOp,e0];simp[go_sem,r0.cell]
    ·exact absurd hn (by rw[Bool.not_eq_true];kernel_rfl)
    ·exact absurd hn (by rw[Bool.not_eq_true];kernel_rfl)
    ·exfalso;simp only[List.length_cons,List.length_nil] at hk;omega
   ·intro _ k hk hn a hK
    have e0:=hK.rest' 3 (by kernel_rfl);rcases k with _|_|_|k
    ·simp only[execOp,e0];simp[go_sem,d0.cell]
    ·exact absurd hn (by rw[Bool.not_eq_true];kernel_rfl)
    ·exact absurd hn (by rw[Bool.not_eq_true];kernel_rfl)
    ·exfalso;simp only[List.length_cons,List.length_nil] at hk;omega
   ·intro _ k hk hn a hK
    have e0:=hK.done 2 23 rfl (by kernel_rfl);have e1:=hK.done 3 24 rfl (by kernel_rfl);rcases k with _|_|_|k
    ·simp only[execOp,e0,e1];simp[go_sem,hdn,htq,htm,hqw]
    ·exact absurd hn (by rw[Bool.not_eq_true];kernel_rfl)
    ·exact absurd hn (by rw[Bool.not_eq_true];kernel_rfl)
    ·exfalso;simp only[List.length_cons,List.length_nil] at hk;omega
   ·intro _ k hk hn a hK
    have e0:=hK.rest' 7 (by kernel_rfl);rcases k with _|_|_|k
    ·simp only[execOp,e0];simp[go_sem,r0.cell]
    ·simp only[execOp,e0];simp[go_sem,r1.cell]
    ·exact absurd hn (by rw[Bool.not_eq_true];kernel_rfl)
    ·exfalso;simp only[List.length_cons,List.length_nil] at hk;omega
   ·intro _ k hk hn a hK
    have e0:=hK.rest' 3 (by kernel_rfl);rcases k with _|_|_|k
    ·simp only[execOp,e0];simp[go_sem,d0.cell]
    ·simp only[execOp,e0];simp[go_sem,d1.cell]
    ·exact absurd hn (by rw[Bool.not_eq_true];kernel_rfl)
    ·exfalso;simp only[List.length_cons,List.length_nil] at hk;omega
   ·intro _ k hk hn a hK
    have e0:=hK.done 5 26 rfl (by kernel_rfl);have e1:=hK.done 6 27 rfl (by kernel_rfl);rcases k with _|_|_|k
    ·simp only[execOp,e0,e1];simp[go_sem,hdn,htq,htm,hqw]
    ·simp only[execOp,e0,e1];simp[go_sem,hdn,htq,htm,hqw]
    ·exact absurd hn (by rw[Bool.not_eq_true];kernel_rfl)
    ·exfalso;simp only[List.length_cons,List.length_nil] at hk;omega
   ·intro _ k hk hn a hK
    have e0:=hK.done 0 21 rfl (by kernel_rfl);have e1:=hK.done 1 22 rfl (by kernel_rfl);rcases k with _|_|_|k
    ·simp only[execOp,e0,e1];simp[go_sem,hdn,htq,htm,hqw]
    ·exact absurd hn (by rw[Bool.not_eq_true];kernel_rfl)
    ·exact absurd hn (by rw[Bool.not_eq_true];kernel_rfl)
    ·exfalso;simp only[List.length_cons,List.length_nil] at hk;omega
   ·intro hc
    cases hc
   ·intro hc
    cases hc
  case st=>
   clear hrest hstep HB HX bD bW bO bR bX hB0 hxb hlt k1 k2;intro u hu o ho a hK;rcases u with _|_|u
   ·cases ho
    have e0:=hK.done 8 29 rfl (by kernel_rfl);have e1:=hK.done 4 25 rfl (by kernel_rfl);refine .inr ⟨?_,rfl⟩;simp only[execOp,e0,e1];simp[go_sem,cW,fW,hV1]
   ·cases ho
    have e0:=hK.rest' 7 (by kernel_rfl);have e1:=hK.done 7 28 rfl (by kernel_rfl);refine .inr ⟨?_,rfl⟩;simp only[execOp,e0,e1];simp[go_sem,cR,fR,hV2]
   ·exfalso;simp only[List.length_cons,List.length_nil] at hu;omega
  case fin=>
   refine⟨k1,k2,?_⟩;show(((Boxed V2 _ _ _∧Boxed V2 _ _ _)∧Boxed V2 _ _ (.int .i64 (shF d xs (pre++ [x])).2))∧Rowd _ (shF d xs (pre++ [x])).1 V2)∧Below _ _ V2;rw[hstep.out];exact⟨⟨⟨⟨d2,o2⟩,r2⟩,g2⟩,b2⟩
 case done=>
  rintro D zs W hD rfl ⟨⟨⟨⟨bD1,bO1⟩,bR1⟩,bW1⟩,hB1⟩ hK;have cO:=bO1.cell;have cR:=bR1.cell;have hlen:=aBt d xs (bwl n n);have HT:=Lib.hid (lI bW1);rw[hlen] at HT;have HW:=Lib.hid bW1;have HB1:=Lib.hid hB1;clear bD1 bO1 bR1 bW1 hB1 hB0 bX bR bO bW bD
  gi_wp2
  refine wpIn_region_quiet_lit hro (by kernel_rfl) (by kernel_rfl) ?_
  repeat(
   (refine wpQuietIn_step (by first|(simp[Oper.askedIn,Oper.about,Fence.list];exact fun _ _ _=>trivial)|quiet_asked_in) (fun K hK=> ?_)
    go_simp
    first
     |(refine hK _ ?_;clear hK K)
     |(apply Exists.intro
       refine⟨fun _=> ?_,hK _ ?_⟩
       ((gi_at_call 172;exact CallsIn.quiet_of_same (callsIn_wide.2 (yM _ _ _ _ _ (HT.out.drewN _) (Nat.le_refl _) aFx))))
       clear hK K)))
  refine wpQuietIn_nil ?_;rintro _ ⟨m,rfl⟩;have hK2:(W.drewN m).heap[D]? =some (.deferred (some [])):=hK
  gi_wp2
  refine⟨by simp,.inl ⟨_,_,rfl,run_takeDeferred hK2,?_⟩⟩;have hB2:Below w.heap.size w (W.drewN m):=⟨HB1.out.os,HB1.out.tape,HB1.out.output,HB1.out.size,HB1.out.block⟩;have hR:Rowd (w.heap.size+1) (shF d xs (bwl n n)).1 ((W.drewN m).putObj D (.deferred none)):=rowd_own (w.heap.size+1) (fun(_:Unit)=>(shF d xs (bwl n n)).1) () _ _ _ (show Rowd (w.heap.size+1) (shF d xs (bwl n n)).1 (W.drewN m) from HW.out) (grownBy_putObj' _ D (.deferred none)) (fun r e=>by cases e;exact⟨_,hK2,rfl⟩);exact⟨_,by simp[results,Tryz.results171,go_sem],rfl,hR,hB2.trans (belowK_b (w:=w) (Nat.le_refl _) _ D _ _ aFx hK2 rfl rfl)⟩
 case stop=>
  rintro D c pre W _ _ h _;exact h.elim
end Go.Proofs.YtignanmmgaldeaaGreatDoor
namespace Go.Proofs.YtignanmmgaldeaaGreatDoor
open Go.RowKit Go.Shelf Go.Proofs.YtignanmmgaldeaaGreatDoorW.PrintWords
def plS(xs ys:List Int)(k:Nat)(c:Int):Int:=c+(if k<xs.length then xs[k]?.getD 0 else 0)+(if k<ys.length then ys[k]?.getD 0 else 0)
def plF(xs ys:List Int):Nat→List Int×Int
 |0=>(List.replicate (xs.length+1) 0,0)
 |k+1=>((plF xs ys k).1.set k (plS xs ys k (plF xs ys k).2%1000000000),plS xs ys k (plF xs ys k).2/1000000000)
theorem aAi(xs ys:List Int):∀k,(plF xs ys k).1.length=xs.length+1
 |0=>by simp[plF]
 |k+1=>by simp[plF,aAi xs ys k]
def limbs(xs:List Int):Prop:=∀i:Nat,0≤xs[i]?.getD 0∧xs[i]?.getD 0<1000000000
theorem aE1{xs ys:List Int}(hx:limbs xs)(hy:limbs ys):∀k,0≤(plF xs ys k).2∧(plF xs ys k).2≤1
 |0=>by simp[plF]
 |k+1=>by
  have h:=aE1 hx hy k;have h1:=hx k;have h2:=hy k;simp only[plF,plS]
  split <;> split <;> omega
def plL(xs ys:List Int):List Int:=if xs.length<ys.length then(plF ys xs (ys.length+1)).1 else(plF xs ys (xs.length+1)).1
theorem plus_walk(A B:Option Addr)(n m c e:Nat)(xs ys:List Int)(w:World)(hx:RI w.heap.size w A n xs)(hy:RI w.heap.size w B m ys)(hxl:limbs xs)(hyl:limbs ys)(hn:n≤35184372088831)(hm:m≤35184372088831) :
 Calls Tryz.prog 174 #[.slice A n c,.slice B m e] w fun e w'=>e= .returned (.slice (some ⟨w.heap.size,0,none⟩) (tlen (plL xs ys) (plL xs ys).length) (plL xs ys).length)∧Rowd w.heap.size (plL xs ys) w'∧Below w.heap.size w w':=by
 have HX:=Lib.hid hx;have HY:=Lib.hid hy;have HXl:=Lib.hid hxl;have HYl:=Lib.hid hyl;clear hx hy hxl hyl;go_enter Tryz.func174,Tryz.ntmps174
 go_upto_if 12 with (fail)
 go_cut [0,1] (fun a b wx=>∃(A1 B1:Option Addr) (n1 m1 c1 e1:Nat) (xs1 ys1:List Int),a= .slice A1 n1 c1∧b= .slice B1 m1 e1∧wx=w∧m1≤n1∧n1≤35184372088831∧Hid (RI w.heap.size w A1 n1 xs1)∧Hid (RI w.heap.size w B1 m1 ys1)∧Hid (limbs xs1)∧Hid (limbs ys1)∧Hid (plL xs ys=(plF xs1 ys1 (n1+1)).1))
 case first=>
  by_cases h:n<m
  ·have hl:Hid (plL xs ys=(plF ys xs (m+1)).1):=by
    show plL xs ys=_;have h1:=HX.out.1;have h2:=HY.out.1;rw[plL,if_pos aFx,h2]
   go_wp2
   go_meet
   exact⟨B,A,m,n,e,c,ys,xs,rfl,rfl,rfl,by omega,hm,HY,HX,HYl,HXl,hl⟩
  ·have hl:Hid (plL xs ys=(plF xs ys (n+1)).1):=by
    show plL xs ys=_;have h1:=HX.out.1;have h2:=HY.out.1;rw[plL,if_neg aFx,h1]
   go_wp2
   go_meet
   exact⟨A,B,n,m,c,e,xs,ys,rfl,rfl,rfl,by omega,hn,HX,HY,HXl,HYl,hl⟩
 case rest=>
  obtain⟨A1,B1,n1,m1,c1,e1,xs1,ys1,rfl,rfl,rfl,hmn,hn1,HX1,HY1,HXl1,HYl1,HL⟩:=hcut;clear HX HY HXl HYl hn hm;have hmk:=aAt (P:=Tryz.prog) 79 3 .i64 8 Tryz.underlying79 yN aG0 (n1+1) aFx;simp only[Int.natCast_add,Int.cast_ofNat_Int] at hmk;go_wp2
  clear hmk
  go_loopw [6,21] (fun cv iv wr=>∃k:Nat,k≤n1+1∧iv= .int .i64 k∧cv= .int .i64 (plF xs1 ys1 k).2∧Hid (Rowd wc.heap.size (plF xs1 ys1 k).1 wr)∧Hid (Below wc.heap.size wc wr)) (fun _ i _=>n1+1-(intOf i).toNat)
  case atStart=>
   have h1:=HX1.out.1;exact⟨0,by omega,rfl,rfl,Lib.hid (by rw[plF,h1];exact Rowd.made wc (n1+1)),Lib.hid ((Below.refl _ wc).alloc (Nat.le_refl _) _)⟩
  case round=>
   obtain⟨k,hk,rfl,rfl,HR,HB⟩:=hrel
   by_cases h0:k<n1+1
   ·have hcar:=aE1 HXl1.out HYl1.out k
    have cW:=HR.out.cell k (by rw[aAi,HX1.out.1];omega);have fW:=HR.out.frozen k
    by_cases h1:k<n1
    ·obtain⟨ad1,rfl,hlt1,hc1⟩:=(HX1.out.below HB.out).2.2 aFx
     have cX:=hc1 k h1;have hv:=HXl1.out k;clear hc1
     by_cases h2:k<m1
     ·obtain⟨ad2,rfl,hlt2,hc2⟩:=(HY1.out.below HB.out).2.2 aFx
      have cY:=hc2 k h2;have hu:=HYl1.out k;clear hc2
      have HT:Hid (plS xs1 ys1 k (plF xs1 ys1 k).2=(plF xs1 ys1 k).2+xs1[k]?.getD 0+ys1[k]?.getD 0):=by
       show plS _ _ _ _=_;rw[plS,if_pos (by rw[HX1.out.1];omega),if_pos (by rw[HY1.out.1];omega)]
      generalize xs1[k]?.getD 0=v at *
      generalize ys1[k]?.getD 0=u at *
      generalize hcc:(plF xs1 ys1 k).2=cc at *
      have HC:=Lib.hid hcc;clear hcc;go_wp2
      refine⟨⟨k+1,by omega,rfl,?_,Lib.hid ?_,Lib.hid (HB.out.setCell (p:=⟨wc.heap.size,k,none⟩) (Nat.le_refl _) _)⟩,by simp only[intOf];omega⟩
      ·have e:plS xs1 ys1 k (plF xs1 ys1 k).2=cc+v+u:=by rw[HC.out,HT.out]
       simp only[plF,e]
      ·have e:plS xs1 ys1 k (plF xs1 ys1 k).2=cc+v+u:=by rw[HC.out,HT.out]
       simp only[plF,e];exact HR.out.store k _
     ·have HT:Hid (plS xs1 ys1 k (plF xs1 ys1 k).2=(plF xs1 ys1 k).2+xs1[k]?.getD 0+0):=by
       show plS _ _ _ _=_;rw[plS,if_pos (by rw[HX1.out.1];omega),if_neg (by rw[HY1.out.1];omega)]
      generalize xs1[k]?.getD 0=v at *
      generalize hcc:(plF xs1 ys1 k).2=cc at *
      have HC:=Lib.hid hcc;clear hcc;go_wp2
      refine⟨⟨k+1,by omega,rfl,?_,Lib.hid ?_,Lib.hid (HB.out.setCell (p:=⟨wc.heap.size,k,none⟩) (Nat.le_refl _) _)⟩,by simp only[intOf];omega⟩
      ·have e:plS xs1 ys1 k (plF xs1 ys1 k).2=cc+v:=by rw[HC.out,HT.out];omega
       simp only[plF,e]
      ·have e:plS xs1 ys1 k (plF xs1 ys1 k).2=cc+v:=by rw[HC.out,HT.out];omega
       simp only[plF,e];exact HR.out.store k _
    ·have h2:¬k<m1:=by omega
     have HT:Hid (plS xs1 ys1 k (plF xs1 ys1 k).2=(plF xs1 ys1 k).2+0+0):=by
      show plS _ _ _ _=_;rw[plS,if_neg (by rw[HX1.out.1];omega),if_neg (by rw[HY1.out.1];omega)]
     generalize hcc:(plF xs1 ys1 k).2=cc at *
     have HC:=Lib.hid hcc;clear hcc;go_wp2
     refine⟨⟨k+1,by omega,rfl,?_,Lib.hid ?_,Lib.hid (HB.out.setCell (p:=⟨wc.heap.size,k,none⟩) (Nat.le_refl _) _)⟩,by simp only[intOf];omega⟩
     ·have e:plS xs1 ys1 k (plF xs1 ys1 k).2=cc:=by rw[HC.out,HT.out];omega
      simp only[plF,e]
     ·have e:plS xs1 ys1 k (plF xs1 ys1 k).2=cc:=by rw[HC.out,HT.out];omega
      simp only[plF,e];exact HR.out.store k _
   ·have HT:=Lib.hid (lI HR.out (by rw[aAi,HX1.out.1];omega))
    rw[aAi,HX1.out.1] at HT;have hl:Hid ((plL xs ys).length=n1+1):=by show(plL xs ys).length=_;rw[HL.out,aAi,HX1.out.1]
    obtain rfl:k=n1+1:=by omega
    go_wp2_with(go_at_call 172;refine(yM _ _ _ _ _ HT.out (Nat.le_refl _) aFx).mono ?_;rintro e w' ⟨rfl,rfl⟩)
    go_ret
    exact⟨by rw[hl.out,HL.out];rfl,by rw[HL.out];exact HR.out,HB.out⟩
end Go.Proofs.YtignanmmgaldeaaGreatDoor
namespace Go.Proofs.YtignanmmgaldeaaGreatDoor
open Go.RowKit Go.Shelf Go.Proofs.YtignanmmgaldeaaGreatDoorW.PrintWords
def mnS(xs ys:List Int)(k:Nat)(b:Int):Int:=xs[k]?.getD 0-b-(if k<ys.length then ys[k]?.getD 0 else 0)
def mnF(xs ys:List Int):Nat→List Int×Int
 |0=>(List.replicate xs.length 0,0)
 |k+1=>if mnS xs ys k (mnF xs ys k).2<0 then((mnF xs ys k).1.set k (mnS xs ys k (mnF xs ys k).2+1000000000),1) else((mnF xs ys k).1.set k (mnS xs ys k (mnF xs ys k).2),0)
theorem sH(xs ys:List Int):∀k,(mnF xs ys k).1.length=xs.length
 |0=>by simp[mnF]
 |k+1=>by
  simp only[mnF]
  split <;> simp[sH xs ys k]
theorem aDc(xs ys:List Int):∀k,0≤(mnF xs ys k).2∧(mnF xs ys k).2≤1
 |0=>by simp[mnF]
 |k+1=>by
  simp only[mnF]
  split <;> simp
def mnL(xs ys:List Int):List Int:=(mnF xs ys xs.length).1
theorem aDd(A B:Option Addr)(n m c e:Nat)(xs ys:List Int)(w:World)(hx:RI w.heap.size w A n xs)(hy:RI w.heap.size w B m ys)(hxl:limbs xs)(hyl:limbs ys)(hn:n≤35184372088831)(hm:m≤35184372088831) :
 Calls Tryz.prog 175 #[.slice A n c,.slice B m e] w fun e w'=>e= .returned (.slice (some ⟨w.heap.size,0,none⟩) (tlen (mnL xs ys) (mnL xs ys).length) (mnL xs ys).length)∧Rowd w.heap.size (mnL xs ys) w'∧Below w.heap.size w w':=by
 have HX1:=Lib.hid hx;have HY1:=Lib.hid hy;have HXl1:=Lib.hid hxl;have HYl1:=Lib.hid hyl;have HL:Hid (mnL xs ys=(mnF xs ys n).1):=by show mnL xs ys=_;rw[mnL,hx.1]
 clear hx hy hxl hyl;have hmk:=aAt (P:=Tryz.prog) 79 3 .i64 8 Tryz.underlying79 yN aG0 n aFx;go_enter Tryz.func175,Tryz.ntmps175
 go_wp2
 clear hmk
 go_loopw [6,14] (fun cv iv wr=>∃k:Nat,k≤n∧iv= .int .i64 k∧cv= .int .i64 (mnF xs ys k).2∧Hid (Rowd w.heap.size (mnF xs ys k).1 wr)∧Hid (Below w.heap.size w wr)) (fun _ i _=>n-(intOf i).toNat)
 case atStart=>
  have h1:=HX1.out.1;exact⟨0,by omega,rfl,rfl,Lib.hid (by rw[mnF,h1];exact Rowd.made w n),Lib.hid ((Below.refl _ w).alloc (Nat.le_refl _) _)⟩
 case round=>
  obtain⟨k,hk,rfl,rfl,HR,HB⟩:=hrel
  by_cases h0:k<n
  ·have hbor:=aDc xs ys k
   have cW:=HR.out.cell k (by rw[sH,HX1.out.1];omega);have fW:=HR.out.frozen k;obtain⟨ad1,rfl,hlt1,hc1⟩:=(HX1.out.below HB.out).2.2 aFx;have cX:=hc1 k h0;have hv:=HXl1.out k;clear hc1
   by_cases h2:k<m
   ·obtain⟨ad2,rfl,hlt2,hc2⟩:=(HY1.out.below HB.out).2.2 aFx
    have cY:=hc2 k h2;have hu:=HYl1.out k;clear hc2
    have HT:Hid (mnS xs ys k (mnF xs ys k).2=xs[k]?.getD 0-(mnF xs ys k).2-ys[k]?.getD 0):=by
     show mnS _ _ _ _=_;rw[mnS,if_pos (by rw[HY1.out.1];omega)]
    generalize xs[k]?.getD 0=v at *
    generalize ys[k]?.getD 0=u at *
    generalize hcc:(mnF xs ys k).2=cc at *
    have HC:=Lib.hid hcc;clear hcc;have he:Hid (mnS xs ys k (mnF xs ys k).2=v-cc-u):=by show mnS xs ys k (mnF xs ys k).2=_;rw[HC.out,HT.out]
    by_cases hd:v-cc-u<0
    ·have hs:Hid (mnF xs ys (k+1)=((mnF xs ys k).1.set k (v-cc-u+1000000000),1)):=by
      show mnF xs ys (k+1)=_;rw[mnF,he.out,if_pos hd]
     go_wp2
     refine⟨⟨k+1,by omega,rfl,by rw[hs.out],Lib.hid ?_,Lib.hid (HB.out.setCell (p:=⟨w.heap.size,k,none⟩) (Nat.le_refl _) _)⟩,by simp only[intOf];omega⟩;rw[hs.out];exact HR.out.store k _
    ·have hs:Hid (mnF xs ys (k+1)=((mnF xs ys k).1.set k (v-cc-u),0)):=by
      show mnF xs ys (k+1)=_;rw[mnF,he.out,if_neg hd]
     go_wp2
     refine⟨⟨k+1,by omega,rfl,by rw[hs.out],Lib.hid ?_,Lib.hid (HB.out.setCell (p:=⟨w.heap.size,k,none⟩) (Nat.le_refl _) _)⟩,by simp only[intOf];omega⟩;rw[hs.out];exact HR.out.store k _
   ·have HT:Hid (mnS xs ys k (mnF xs ys k).2=xs[k]?.getD 0-(mnF xs ys k).2-0):=by
     show mnS _ _ _ _=_;rw[mnS,if_neg (by rw[HY1.out.1];omega)]
    generalize xs[k]?.getD 0=v at *
    generalize hcc:(mnF xs ys k).2=cc at *
    have HC:=Lib.hid hcc;clear hcc;have he:Hid (mnS xs ys k (mnF xs ys k).2=v-cc):=by show mnS xs ys k (mnF xs ys k).2=_;rw[HC.out,HT.out];omega
    by_cases hd:v-cc<0
    ·have hs:Hid (mnF xs ys (k+1)=((mnF xs ys k).1.set k (v-cc+1000000000),1)):=by
      show mnF xs ys (k+1)=_;rw[mnF,he.out,if_pos hd]
     go_wp2
     refine⟨⟨k+1,by omega,rfl,by rw[hs.out],Lib.hid ?_,Lib.hid (HB.out.setCell (p:=⟨w.heap.size,k,none⟩) (Nat.le_refl _) _)⟩,by simp only[intOf];omega⟩;rw[hs.out];exact HR.out.store k _
    ·have hs:Hid (mnF xs ys (k+1)=((mnF xs ys k).1.set k (v-cc),0)):=by
      show mnF xs ys (k+1)=_;rw[mnF,he.out,if_neg hd]
     go_wp2
     refine⟨⟨k+1,by omega,rfl,by rw[hs.out],Lib.hid ?_,Lib.hid (HB.out.setCell (p:=⟨w.heap.size,k,none⟩) (Nat.le_refl _) _)⟩,by simp only[intOf];omega⟩;rw[hs.out];exact HR.out.store k _
  ·have HT:=Lib.hid (lI HR.out (by rw[sH,HX1.out.1];omega))
   rw[sH,HX1.out.1] at HT;have hl:Hid ((mnL xs ys).length=n):=by show(mnL xs ys).length=_;rw[HL.out,sH,HX1.out.1]
   obtain rfl:k=n:=by omega
   go_wp2_with(go_at_call 172;refine(yM _ _ _ _ _ HT.out (Nat.le_refl _) aFx).mono ?_;rintro e w' ⟨rfl,rfl⟩)
   go_ret
   exact⟨by rw[hl.out,HL.out];rfl,by rw[HL.out];exact HR.out,HB.out⟩
end Go.Proofs.YtignanmmgaldeaaGreatDoor
namespace Go.Proofs.YtignanmmgaldeaaGreatDoor
open Go.RowKit Go.Shelf Go.Proofs.YtignanmmgaldeaaGreatDoorW.PrintWords
def aCz:Prop:=∀(s:ByteArray) (n:Int),s.size≤18→Lib.atoi s.data.toList=some n→∀w:World,Calls Tryz.prog 207 #[.string s] w fun e w'=>e= .returned (.tuple #[.int .i64 n,.nilIface])∧∃t,w'=Lib.bytesWorld w 5 t
def pY(s:ByteArray)(j:Nat):ByteArray:=s.extract (s.size-9*j-9) (s.size-9*j)
def jL(s:ByteArray):Nat:=(s.size+8)/9
def mO(v:Nat→Int)(k:Nat):List Int:=(List.range k).map v
theorem aEi(v:Nat→Int)(k:Nat):mO v (k+1)=mO v k++ [v k]:=by simp[mO,List.range_succ]
theorem aAu(v:Nat→Int)(k:Nat):(mO v k).length=k:=by simp[mO]
theorem chunkL_pre(v:Nat→Int)(k m:Nat)(h:k≤m):mO v k <+: mO v m:=by
 induction m with
 |zero=>
  have:k=0:=by omega
  rw[this];exact List.prefix_refl _
 |succ m ih=>
  by_cases e:k=m+1
  ·rw[e];exact List.prefix_refl _
  ·rw[aEi];exact(ih aFx).trans (List.prefix_append _ _)
theorem rY(w:World)(e:TypeId)(s:ByteArray):w.grownBy (Lib.bytesWorld w e s) none:=
 ⟨rfl,rfl,rfl,by rw[Lib.bytesWorld_size];omega,fun k hk _=>Lib.bytesWorld_at_old w e s k hk⟩
theorem aBn(w:World)(e:TypeId)(s:ByteArray)(B:Nat)(h:B≤w.heap.size):Below B w (Lib.bytesWorld w e s):=
 (Below.refl B w).grown (rY w e s) h (fun k e=>by cases e)
theorem sizeL{B:Nat}{a w:World}(h:Below B a w):a.heap.size≤w.heap.size:=h.size
theorem chunks1_in(hA:aCz)(n:Nat)(hn:1≤n)(l Bs n₀:Nat)(s:ByteArray)(v:Nat→Int)(J Jx:List Int→World→Prop)
 (hs:s.size≤9223372036854775807) (hv:∀j,j<jL s→Lib.atoi (pY s j).data.toList=some (v j))
 (hJ:∀pre W W',J pre W→W.grownBy W' none→J pre W')
 (hY:∀pre x W,J pre W→pre.length<jL s→YieldAt Fence.wide (n-1) Tryz.prog l #[.int .i64 x] W fun e W'=>
   (e= .returned (.bool true)∧J (pre++ [x]) W'∧KpB Bs n₀ W W')∨(e= .returned (.bool false)∧Jx (pre++ [x]) W'))
 (W:World) (hBs:W.cell? ⟨Bs,0,none⟩=some (.string s)) (hBl:Bs<W.heap.size) (h0l:n₀≤W.heap.size) (h0:J [] W) :
 CallsIn Fence.wide n Tryz.prog 206 #[.func (.yield l) #[] #[],.pointer (some ⟨Bs,0,none⟩)] W fun e W'=>(∃u,e= .returned u) ∧
  ((∃ys,ys=mO v (jL s)∧J ys W')∨(∃pre,pre <+: mO v (jL s)∧Jx pre W')):=by
 have hro:Fence.wide.round=none:=rfl;refine callsIn_of_wp Tryz.func206 rfl trivial ?_ hro;simp only[Tryz.ntmps206,List.size_toArray,List.length_cons,List.length_nil,Nat.reduceAdd,Nat.reduceSub,Array.replicate_succ,Array.replicate_zero,List.push_toArray,List.append_toArray,List.nil_append,List.cons_append]
 gi_wp2
 gi_loopw [3] (fun i wr=>∃k:Nat,k≤jL s∧i= .int .i64 ((s.size:Int)-9*k)∧J (mO v k) wr∧KpB Bs n₀ W wr)
  (fun i _=>(intOf i+9).toNat)
 case atStart=>exact⟨0,Nat.zero_le _,by go_num,h0,mP.refl _ _,Below.refl _ _⟩
 case round=>
  obtain⟨k,hk,rfl,hJs,hnx,hbl⟩:=hrel;have hcb:wr.cell? ⟨Bs,0,none⟩=some (.string s):=hnx.cell hBs;have hkN:k≤(s.size+8)/9:=hk
  by_cases hlt:k<jL s
  ·have hltN:k<(s.size+8)/9:=hlt
   have hat:=Lib.hid (hv k hlt);have hstep:=Lib.hid (aEi v k);have hpre:=Lib.hid (chunkL_pre v (k+1) (jL s) hlt);obtain⟨hi,hhi⟩:∃hi:Nat,(s.size:Int)-9*k=hi:=⟨s.size-9*k,by omega⟩
   have hi1:1≤hi:=by omega
   have hi2:hi≤s.size:=by omega
   have hsl:=Lib.hid (show s.extract (hi-9) hi=pY s k from by rw[pY,show s.size-9*k=hi from by omega]);have hsz:(pY s k).size≤18:=by rw[←hsl.out];simp;omega
   have HHI:=Lib.hid hhi;rw[hhi];clear hhi hkN;have hR0:=fun w' (hw:wr.grownBy w' none)=>hY (mO v k) (v k) w' (hJ _ _ _ hJs hw) (by rw[aAu];exact hlt)
   by_cases h9:hi≤9
   ·have o5:∀w':World,(Instr.slice 9 (.string s) (some (.int .i64 0)) (some (.int .i64 (hi:Int))) none).run Tryz.prog w'= .ok (.string (pY s k)) w':=fun w'=>by
     rw[run_slice_string _ _ _ _ _ _ _ (by kernel_rfl) aFx aFx aFx,←hsl.out,show hi-9=0 from by omega,Int.toNat_natCast];rfl
    gi_wp2_with (refine⟨trivial,?_⟩;gi_at_call 207;refine(callsIn_wide.2 (hA _ _ hsz hat.out _)).mono ?_;rintro e w' ⟨rfl,t,rfl⟩)
    obtain⟨fn,tmps,assign,body,hy,hR⟩:=hR0 _ (rY wr 5 t);have hw5:KpB Bs n₀ W (Lib.bytesWorld wr 5 t):=⟨hnx.trans (.of_grownBy (rY wr 5 t) aFz),hbl.trans (aBn wr 5 t n₀ (Nat.le_trans h0l (sizeL hbl)))⟩;rw[hy]
    gi_wp2
    refine hR.mono ?_;rintro e W3 (⟨rfl,l9,hk3⟩|⟨rfl,hJx3⟩)
    ·gi_wp2
     go_roundw
     case rel=>exact⟨k+1,hlt,by have:=HHI.out;go_num,by rw[hstep.out];exact l9,hw5.1.trans hk3.1,hw5.2.trans hk3.2⟩
     case measure=>first|(simp[intOf];done)|(simp[intOf];omega)
    ·gi_wp2
     refine bodyPost_ret (results_none rfl _ _ _) rfl ?_;exact⟨⟨_,rfl⟩,.inr ⟨_,by rw[←hstep.out];exact hpre.out,hJx3⟩⟩
   ·have o5:∀w':World,(Instr.slice 9 (.string s) (some (.int .i64 ((hi:Int)-9))) (some (.int .i64 (hi:Int))) none).run Tryz.prog w'= .ok (.string (pY s k)) w':=fun w'=>by
     rw[run_slice_string _ _ _ _ _ _ _ (by kernel_rfl) aFx aFx aFx,←hsl.out];have e1:((hi:Int)-9).toNat=hi-9:=by omega
     rw[e1,Int.toNat_natCast]
    gi_wp2_with (refine⟨trivial,?_⟩;gi_at_call 207;refine(callsIn_wide.2 (hA _ _ hsz hat.out _)).mono ?_;rintro e w' ⟨rfl,t,rfl⟩)
    obtain⟨fn,tmps,assign,body,hy,hR⟩:=hR0 _ (rY wr 5 t);have hw5:KpB Bs n₀ W (Lib.bytesWorld wr 5 t):=⟨hnx.trans (.of_grownBy (rY wr 5 t) aFz),hbl.trans (aBn wr 5 t n₀ (Nat.le_trans h0l (sizeL hbl)))⟩;rw[hy]
    gi_wp2
    refine hR.mono ?_;rintro e W3 (⟨rfl,l9,hk3⟩|⟨rfl,hJx3⟩)
    ·gi_wp2
     go_roundw
     case rel=>exact⟨k+1,hlt,by have:=HHI.out;go_num,by rw[hstep.out];exact l9,hw5.1.trans hk3.1,hw5.2.trans hk3.2⟩
     case measure=>first|(simp[intOf];done)|(simp[intOf];omega)
    ·gi_wp2
     refine bodyPost_ret (results_none rfl _ _ _) rfl ?_;exact⟨⟨_,rfl⟩,.inr ⟨_,by rw[←hstep.out];exact hpre.out,hJx3⟩⟩
  ·obtain rfl:k=jL s:=by omega
   have hle:(s.size:Int)-9*(jL s:Nat)≤0:=by
    have:s.size≤9*jL s:=by show s.size≤9*((s.size+8)/9);omega
    omega
   have hd:decide (9*((jL s:Nat):Int)<(s.size:Int))=false:=decide_eq_false aFx
   gi_wp2
   go_end0
   exact⟨⟨_,rfl⟩,.inl ⟨_,rfl,hJs⟩⟩
end Go.Proofs.YtignanmmgaldeaaGreatDoor
namespace Go.Proofs.YtignanmmgaldeaaGreatDoor
open Go.RowKit Go.Shelf Go.Proofs.YtignanmmgaldeaaGreatDoorW.PrintWords
theorem chunks_stops(hA:aCz)(n:Nat)(hn:1≤n)(Bn n₀:Nat)(s:ByteArray)(v:Nat→Int)(w:World)(hBn:Bn<w.heap.size)(h0:n₀≤w.heap.size)(hs:s.size≤9223372036854775807)
 (hv:∀j,j<jL s→Lib.atoi (pY s j).data.toList=some (v j)) (hc:w.cell? ⟨Bn,0,none⟩=some (.string s)) :
 SeqStopsK Fence.wide n Tryz.prog 206 #[.pointer (some ⟨Bn,0,none⟩)] (fun x:Int=>#[Value.int .i64 x]) (KpB Bn n₀) (fun ys=>ys=mO v (jL s)) (fun pre=>pre <+: mO v (jL s)) (jL s) w:=fun l J Jx W hW hJ _ hY h0'=>
 chunks1_in hA n hn l Bn n₀ s v J Jx hs hv (fun pre W1 W2 h hg=>hJ pre W1 W2 none h hg (fun r e=>by cases e)) hY W ((hW.cell (p:=⟨Bn,0,none⟩) hBn).trans hc) (Nat.lt_of_lt_of_le hBn hW.size) (Nat.le_trans h0 hW.size) h0'
theorem chunks_walk(s:ByteArray)(w:World) :
 Calls Tryz.prog 189 #[.string s] w fun e w'=>e= .returned (.func (.func 206) #[] #[.pointer (some ⟨w.heap.size,0,none⟩)])∧w'=w.alloc (.cells #[.string s] 9):=by
 go_enter Tryz.func189,Tryz.ntmps189
 go_wp2
 go_ret
 exact⟨rfl,rfl⟩
attribute [local go_sem] Oper.semAt_some
def OwnI(B:Nat)(v:Value)(xs:List Int)(W:World):Prop:=W.ownsRow B 3 1 v xs.length (xs.map (Value.int .i64))
theorem OwnI.kept{B:Nat}{v:Value}{xs:List Int}{W W':World}{row:Option Nat}(h:OwnI B v xs W)(hg:W.grownBy W' row)(hr:∀r,row=some r→r<B∨∃o:Obj,W.heap[r]? =some o∧o.isCells=false):OwnI B v xs W':=by
 refine World.ownsRow.kept h hg ?_;rcases h.2 with ⟨rfl,_⟩|⟨g,cap,cur,rfl,hB,hgb,_⟩
 ·exact .inl rfl
 ·refine .inr fun e'=> ?_
  rcases hr g (by simpa[Value.ownBlock] using e'.symm) with h1|⟨o,ho,hw⟩
  ·omega
  ·rw[hgb] at ho;cases ho;cases hw
theorem own_some{base n:Nat}{e:TypeId}{v:Value}{xs:List Value}{W:World}(h:W.ownsRow base e 1 v (n+1) xs):∃g cap,v= .slice (some ⟨g,0,none⟩) (n+1) cap∧base≤g:=by
 rcases h.2 with ⟨_,h0⟩|⟨g,cap,cur,e,hB,_⟩
 ·exact absurd h0 aFx
 ·exact⟨g,cap,e,hB⟩
def CI(w:World)(xs:List Int)(W:World):Prop:=(∃v,Boxed W w.heap.size 79 v∧OwnI (w.heap.size+1) v xs W)∧Below w.heap.size w W
theorem cI_own(w:World)(B:Nat)(hB:w.heap.size≤B):OwnFrom B (CI w):=fun xs W W' row h hg hr=>by
 obtain⟨⟨v,hb,ho⟩,hbl⟩:=h;refine⟨⟨v,?_,ho.kept hg (fun r e=> .inr (hr r e).2)⟩,hbl.grown hg hbl.size (fun k e=>Nat.le_trans hB (hr k e).1)⟩;exact boxed_own w.heap.size 79 (fun(_:Unit)=>v) () _ _ _ hb hg (fun r e=>(hr r e).2)
theorem info_int2:∃i,Tryz.prog.info? 3=some i∧i.zero=some (.int .i64 0)∧i.size=1∧i.bytes=8:=by
 have h:=yN
 cases hi:Tryz.prog.info? 3 with
 |none=>rw[hi] at h;cases h
 |some i=>
  rw[hi] at h;simp only[Option.map_some,Option.some.injEq,Prod.mk.injEq] at h;exact⟨i,rfl,h.1,h.2.1,h.2.2⟩
theorem append_walk(hA:aCz)(Bn:Nat)(s:ByteArray)(v:Nat→Int)(w:World)(hBn:Bn<w.heap.size)(hs:s.size≤140737488355328)
 (hv:∀j,j<jL s→Lib.atoi (pY s j).data.toList=some (v j)) (hc:w.cell? ⟨Bn,0,none⟩=some (.string s)) :
 Calls Tryz.prog 205 #[.slice none 0 0,.func (.func 206) #[] #[.pointer (some ⟨Bn,0,none⟩)]] w fun e w'=>∃u,e= .returned u∧OwnI (w.heap.size+1) u (mO v (jL s)) w'∧Below w.heap.size w w':=by
 refine(callsIn_wide (n:=8)).1 ?_;have hro:Fence.wide.round=none:=rfl;have h1:1≤8:=by omega
 have HV:=Lib.hid hv;clear hv;refine callsIn_of_wp_marks Tryz.func205 rfl trivial ?_ hro;simp only[Tryz.ntmps205,List.size_toArray,List.length_cons,List.length_nil,Nat.reduceAdd,Nat.reduceSub,Array.replicate_succ,Array.replicate_zero,List.push_toArray,List.append_toArray,List.nil_append,List.cons_append]
 gi_wp2
 have bS:=Boxed.new w 79 (.slice none 0 0);have hB0:Below w.heap.size w (w.alloc (.cells #[.slice none 0 0] 79)):=(Below.refl _ w).alloc (Nat.le_refl _) _;have hc0:(w.alloc (.cells #[.slice none 0 0] 79)).cell? ⟨Bn,0,none⟩=some (.string s):=(hB0.cell (p:=⟨Bn,0,none⟩) hBn).trans hc;have hsz:(w.alloc (.cells #[.slice none 0 0] 79)).heap.size=w.heap.size+1:=by simp
 obtain⟨W0,hW0⟩:∃W0,w.alloc (.cells #[.slice none 0 0] 79)=W0:=⟨_,rfl⟩
 rw[hW0] at bS hB0 hc0 hsz ⊢;clear hW0
 refine wpIn_rangeFunc_ownF hro h1 (gf:=206) (lb:=#[.pointer (some ⟨Bn,0,none⟩)]) rfl trivial (enters_of Tryz.func206 (by kernel_rfl) rfl)
  (chunks_stops hA (8-1) aFx Bn w.heap.size s v W0 aFx aFx aFx HV.out hc0) kpB_t (kpB_b aFx aFx) (Below.refl _ _) (fun _=>rfl)
  (CI w) (fun _ _ _=>False) (cI_own w _ aFx) (fun _ _ _ _ _ hs _ _=>hs)
  ⟨⟨_,bS,by constructor;rfl;exact .inl ⟨rfl,rfl⟩⟩,hB0⟩
  (fun x=>{tmps:=#[.slice none 0 0,.func (.func 206) #[] #[.pointer (some ⟨Bn,0,none⟩)],.pointer (some ⟨w.heap.size,0,none⟩),undef,.slice none 0 0,.int .i64 x,.func (.func 206) #[] #[.pointer (some ⟨Bn,0,none⟩)],.int .i64 x,undef,undef,undef,undef,undef],defers:= []}) ?assign ?body ?done ?stop
 case assign=>
  intro l x W K hK
  gi_wp2
  exact hK
 case body=>
  rintro l pre x W ⟨⟨u,hb,ho⟩,hbl⟩ hlt;have cS:=hb.cell;obtain⟨i0,hi,hz0,hz1,hz2⟩:=info_int2;have Hi:=Lib.hid hi;have Hz0:=Lib.hid hz0;have Hz1:=Lib.hid hz1;have Hz2:=Lib.hid hz2;clear hi hz0 hz1 hz2;have hlen:pre.length<(s.size+8)/9:=hlt;have hWs:=hbl.size;have HO:=Lib.hid ho;have HBL:=Lib.hid hbl;have HBX:=Lib.hid hb;clear ho hbl hb;have hOA:=Lib.hid (World.ownsRow.alloc HO.out (.cells #[.int .i64 x] 3));have hBA:=Lib.hid (HBX.out.alloc (.cells #[.int .i64 x] 3));have hBlt:=HBX.out.lt
  gi_wp2_with (gi_at_builtin;refine wpListIn_append_own _ rfl _ _ 79 rfl (w.heap.size+1) 3 i0 (.int .i64 0) 1 8 Tryz.underlying79 Hi.out Hz0.out Hz1.out Hz2.out rfl aG0 _ _ _ rfl hOA.out ⟨W.heap.size,0,none⟩ 1 1 [.int .i64 x] rfl rfl (cell_one_new _ _ _) (by simp[Value.oneCell']) (by simp[maxLen];omega) aFx (by simp;omega) ?_;intro v' w3 hown' hg3 hnil3;obtain⟨g',cap',rfl,hbase'⟩:=own_some hown';have hB3:Boxed w3 w.heap.size 79 u:=(hg3.block w.heap.size (by simp;omega) (fun e=>by have:=hOA.out.lt _ e.symm;omega)).trans hBA.out;have cS3:=hB3.cell;have fS3:=hB3.frozen;have l9:=Lib.hid hown';have HG3:=Lib.hid hg3;have HB3:=Lib.hid hB3;clear hown' hg3 hnil3 hB3;try go_frame)
  have hbW:Below w.heap.size W w3:=((Below.refl _ W).alloc hWs _).grown HG3.out (by simp;omega) (fun k e=>by have:=hOA.out.lt _ e;omega)
  have hk3:KeepsOthers W w3:=(KeepsOthers.alloc W _).trans (KeepsOthers.of_grownBy HG3.out (fun j o e ho=>by
   rcases hOA.out.2 with ⟨rfl,_⟩|⟨g,cap,cur,rfl,_,hgb,_⟩
   ·cases e
   ·cases e
    rw[hgb] at ho
    cases ho
    rfl))
  have hbW4:=hbW.setCell (p:=⟨w.heap.size,0,none⟩) (Nat.le_refl _) (.slice (some ⟨g',0,none⟩) (pre.length+1) cap');refine⟨hk3.trans (KeepsOthers.setCell _ _ _),⟨.of_below hbW4 hBn,hbW4⟩,⟨_,HB3.out.set _,?_⟩,HBL.out.trans hbW4⟩;have e:=OwnI.kept (B:=w.heap.size+1) (v:= .slice (some ⟨g',0,none⟩) (pre.length+1) cap') (xs:=pre++ [x]) (W:=w3) (by unfold OwnI;simpa using l9.out) (grownBy_setCell' w3 w.heap.size (.slice (some ⟨g',0,none⟩) (pre.length+1) cap')) (fun r e=>by cases e;left;omega);exact e
 case done=>
  rintro D zs W hD rfl ⟨⟨u,hb,ho⟩,hbl⟩ hK;have cS:=hb.cell;have HO:=Lib.hid ho;have HBL:=Lib.hid hbl;clear ho hbl hb
  gi_wp2
  refine⟨by simp,.inl ⟨_,_,rfl,run_takeDeferred hK,?_⟩⟩;exact⟨_,by simp[results,Tryz.results205,go_sem],⟨_,rfl,HO.out.kept (grownBy_putObj' W D (.deferred none)) (fun r e=>by cases e;exact .inr ⟨_,hK,rfl⟩),HBL.out.trans (belowK_b (w:=w) (Nat.le_refl _) _ D _ _ aFx hK rfl rfl)⟩⟩
 case stop=>
  rintro D c pre W _ _ h _;exact h.elim
theorem collect_walk(hA:aCz)(Bn:Nat)(s:ByteArray)(v:Nat→Int)(w:World)(hBn:Bn<w.heap.size)(hs:s.size≤140737488355328)
 (hv:∀j,j<jL s→Lib.atoi (pY s j).data.toList=some (v j)) (hc:w.cell? ⟨Bn,0,none⟩=some (.string s)) :
 Calls Tryz.prog 188 #[.func (.func 206) #[] #[.pointer (some ⟨Bn,0,none⟩)]] w fun e w'=>∃u,e= .returned u∧OwnI (w.heap.size+1) u (mO v (jL s)) w'∧Below w.heap.size w w':=by
 have HV:=Lib.hid hv;have HC:=Lib.hid hc;clear hv hc;go_enter Tryz.func188,Tryz.ntmps188
 go_wp2_with(go_at_call 205;refine(append_walk hA Bn s v _ hBn hs HV.out HC.out).mono ?_;rintro e w' ⟨u,rfl,hO,hB⟩;have HO:=Lib.hid hO;have HB:=Lib.hid hB;clear hO hB)
 go_ret
 exact⟨_,rfl,HO.out,HB.out⟩
end Go.Proofs.YtignanmmgaldeaaGreatDoor
namespace Go.Proofs.YtignanmmgaldeaaGreatDoor
open Go.RowKit Go.Shelf Go.Proofs.YtignanmmgaldeaaGreatDoorW.PrintWords
def CutOK:Prop:=∀(s p:ByteArray) (w:World),Calls Tryz.prog 187 #[.string s,.string p] w fun e w'=>e= .returned (.tuple #[.string ⟨(Lib.trimPrefix s.data.toList p.data.toList).toArray⟩,.bool (Lib.hasPrefix s.data.toList p.data.toList)])∧w'=w
theorem uZ{W:World}{B:Nat}{cs:Array Value}{t:TypeId}(h:W.heap[B]? =some (.cells cs t (0,0)))(k:Nat):W.cell? ⟨B,k,none⟩=cs[k]? :=by simp[World.cell?,h]
theorem gY{W:World}{B:Nat}{cs:Array Value}{t:TypeId}(h:W.heap[B]? =some (.cells cs t (0,0)))(k:Nat):W.frozen? ⟨B,k,none⟩=false:=by simp[World.frozen?,h]
theorem aAj{W:World}{A:Option Addr}{n:Nat}{xs:List Int}(h:lS W .i64 A n xs){p:Addr}(v:Value)(hp:∀ad,A=some ad→p.block≠ad.block):lS (W.setCell p v) .i64 A n xs:=
 ⟨h.1,h.2.1,fun hn=>by
   obtain⟨ad,e,hc⟩:=h.2.2 hn
   exact⟨ad,e,fun j hj=>(World.cell?_of_block (Below.heap_setCell W p v (ad.add j).block (by rw[add_block];exact fun e2=>hp ad e e2.symm))).trans (hc j hj)⟩⟩
theorem OwnI.slice{B:Nat}{u:Value}{xs:List Int}{W:World}(h:OwnI B u xs W):∃A c,u= .slice A xs.length c∧lS W .i64 A xs.length xs∧xs.length≤c∧c≤9223372036854775807∧(∀ad,A=some ad→B≤ad.block∧ad.block<W.heap.size):=by
 rcases h.2 with ⟨rfl,h0⟩|⟨g,cap,cur,rfl,hB,hgb,h1,h2,h3,h4⟩
 ·refine⟨none,0,by rw[h0],⟨rfl,by omega,fun hn=>by omega⟩,by omega,by omega,fun ad e=>by cases e⟩
 ·have h2':cap≤9223372036854775807:=by simpa[maxLen] using h2
  refine⟨some ⟨g,0,none⟩,cap,rfl,⟨rfl,by omega,fun hn=>⟨_,rfl,fun j hj=> ?_⟩⟩,h1,h2',fun ad e=>by cases e;exact⟨hB,(Array.getElem?_eq_some_iff.1 hgb).1⟩⟩
  have e:cur[j]? =some (.int .i64 (xs.getD j 0)):=by
   have h5:=congrArg (fun l=>l[j]?) h4;simp only[Nat.mul_one] at h5;rw[List.getElem?_take_of_lt hj,Array.getElem?_toList] at h5;rw[h5]
   simp[hj]
  have e2:(Addr.add ⟨g,0,none⟩ j)=⟨g,j,none⟩:=by simp only[Addr.add];split <;> simp_all
  rw[e2]
  simp[World.cell?,hgb,e]
theorem read_walk(hA:aCz)(hC:CutOK)(a:ByteArray)(v:Nat→Int)(w:World)(neg:Bool)(s:ByteArray)(hneg:Lib.hasPrefix a.data.toList [45]=neg)(hsx:(⟨(Lib.trimPrefix a.data.toList [45]).toArray⟩:ByteArray)=s)(hs:s.size≤140737488355328)
 (hv:∀j,j<jL s→Lib.atoi (pY s j).data.toList=some (v j)) :
 Calls Tryz.prog 144 #[.string a] w fun e w'=>∃A c,e= .returned (.agg #[.bool neg,.slice A (tlen (mO v (jL s)) (jL s)) c])∧lS w' .i64 A (jL s) (mO v (jL s))∧jL s≤c∧c≤9223372036854775807∧(∀ad,A=some ad→w.heap.size≤ad.block∧ad.block<w'.heap.size)∧Below w.heap.size w w':=by
 have HV:=Lib.hid hv;have HN:=Lib.hid hneg;have HS:=Lib.hid hsx;clear hv hneg hsx;go_enter Tryz.func144,Tryz.ntmps144
 have hcell:((w.alloc (.cells #[.bool false,.slice none 0 0] 81)).alloc (.cells #[.string s] 9)).cell? ⟨w.heap.size+1,0,none⟩=some (.string s):=by
  have:=(Boxed.new (w.alloc (.cells #[.bool false,.slice none 0 0] 81)) 9 (.string s)).cell
  rwa [World.size_alloc] at this
 have hblk:((w.alloc (.cells #[.bool false,.slice none 0 0] 81)).alloc (.cells #[.string s] 9)).heap[w.heap.size]? =some (.cells #[.bool false,.slice none 0 0] 81):=
  (Below.heap_alloc _ _ _ aFz).trans (World.alloc_heap_new w _)
 have HCL:=Lib.hid hcell;have HBK:=Lib.hid hblk;clear hcell hblk
 go_wp2_with(first
  |(go_at_call 187;refine(hC _ _ _).mono ?_;rintro e w' ⟨rfl,rfl⟩;rw[show(ByteArray.mk #[45]).data.toList= [45] from rfl,HN.out,HS.out])
  |(go_at_call 189;refine(chunks_walk _ _).mono ?_;rintro e w' ⟨rfl,rfl⟩)
  |(go_at_call 188;refine(collect_walk hA (w.heap.size+1) s v _ aFz hs HV.out HCL.out).mono ?_;rintro e w2 ⟨u,rfl,hO,hB⟩;obtain⟨A,c,rfl,hr,hnc,hc,hA'⟩:=hO.slice;rw[aAu] at hr hnc;rw[aAu];have HR:=Lib.hid hr;have HA':=Lib.hid hA';have HB:=Lib.hid hB;clear hr hA' hB hO)
  |(go_at_call 172;refine(yM _ _ _ _ _ HR.out hnc hc).mono ?_;rintro e w' ⟨rfl,rfl⟩;have hb2:=(HB.out.block w.heap.size (by simp;omega)).trans HBK.out;have c0:=uZ hb2 0;have c1:=uZ hb2 1;have f0:=gY hb2 0;have f1:=gY hb2 1;simp only[List.getElem?_toArray,List.getElem?_cons_zero,List.getElem?_cons_succ] at c0 c1;clear hb2))
 have hb2:=(HB.out.block w.heap.size (by simp;omega)).trans HBK.out
 have hAb:∀ad,A=some ad→w.heap.size≠ad.block:=fun ad e=>by
  have:=(HA'.out ad e).1
  simp at this
  omega
 have hBW:Below w.heap.size w w':=(((Below.refl _ w).alloc (Nat.le_refl _) _).alloc aFz _).trans (HB.out.mono (by simp;omega));have hBW2:=(hBW.setCell (p:=⟨w.heap.size,0,none⟩) (Nat.le_refl _) (.bool neg)).setCell (p:=⟨w.heap.size,1,none⟩) (Nat.le_refl _) (.slice A (tlen (mO v (jL s)) (jL s)) c);have hR2:=aAj (aAj HR.out (p:=⟨w.heap.size,0,none⟩) (.bool neg) hAb) (p:=⟨w.heap.size,1,none⟩) (.slice A (tlen (mO v (jL s)) (jL s)) c) hAb
 have hA2:∀ad,A=some ad→w.heap.size≤ad.block∧ad.block<((w'.setCell ⟨w.heap.size,0,none⟩ (.bool neg)).setCell ⟨w.heap.size,1,none⟩ (.slice A (tlen (mO v (jL s)) (jL s)) c)).heap.size:=fun ad e=>by
  have:=HA'.out ad e
  simp[World.setCell] at this ⊢
  omega
 refine bodyPost_ret (results_cell_row rfl _ _ w.heap.size 81 #[.bool neg,.slice A (tlen (mO v (jL s)) (jL s)) c] (0,0) _ rfl (iR (cs:=#[.bool neg,.slice none 0 0]) (iR (cs:=#[.bool false,.slice none 0 0]) hb2 0 _ rfl) 1 _ rfl) Tryz.underlying81 rfl (by kernel_rfl)) rfl ?_;exact⟨A,c,rfl,hR2,hnc,hc,hA2,hBW2⟩
end Go.Proofs.YtignanmmgaldeaaGreatDoor
namespace Go.Proofs.YtignanmmgaldeaaGreatDoor
open Go.RowKit Go.Shelf Go.Proofs.YtignanmmgaldeaaGreatDoorW.PrintWords
theorem RI.mono{n₀ n₁:Nat}{W:World}{A:Option Addr}{n:Nat}{xs:List Int}(h:RI n₀ W A n xs)(hn:n₀≤n₁):RI n₁ W A n xs:=⟨h.1,h.2.1,fun h0=>by
 obtain⟨ad,e,hlt,hc⟩:=h.2.2 h0
 exact⟨ad,e,by omega,hc⟩⟩
theorem fJ{W:World}{B:Nat}{cs:Array Value}{t:TypeId}(h:W.heap[B]? =some (.cells cs t (0,0)))(k:Nat)(v:Value)(hv:cs[k]? =some v):W.cell? ⟨B,k,none⟩=some v:=by simp[World.cell?,h,hv]
theorem neg_same(A B:Option Addr)(n m c e:Nat)(b b2:Bool)(w:World) :
 Calls Tryz.prog 192 #[.agg #[.bool b,.slice A n c],.agg #[.bool b2,.slice B m e]] w fun e w'=>e= .returned (.bool b)∧Below w.heap.size w w':=by
 go_enter Tryz.func192,Tryz.ntmps192
 go_wp2
 go_ret
 exact⟨rfl,((Below.refl _ w).alloc (Nat.le_refl _) _).alloc aFz _⟩
theorem neg_other(A B:Option Addr)(n m c e:Nat)(xs ys:List Int)(b b2:Bool)(w:World)(hx:RI w.heap.size w A n xs)(hy:RI w.heap.size w B m ys) :
 Calls Tryz.prog 194 #[.agg #[.bool b,.slice A n c],.agg #[.bool b2,.slice B m e]] w fun e w'=>e= .returned (.bool (decide (ordL xs ys<0) != b))∧Below w.heap.size w w':=by
 have HX:=Lib.hid hx;have HY:=Lib.hid hy;clear hx hy;go_enter Tryz.func194,Tryz.ntmps194
 go_wp2
 have hB0:Below w.heap.size w ((w.alloc (.cells #[.bool b,.slice A n c] 81)).alloc (.cells #[.bool b2,.slice B m e] 81)):=((Below.refl _ w).alloc (Nat.le_refl _) _).alloc aFz _;have h1:((w.alloc (.cells #[.bool b,.slice A n c] 81)).alloc (.cells #[.bool b2,.slice B m e] 81)).heap[w.heap.size]? =some (.cells #[.bool b,.slice A n c] 81):=(Below.heap_alloc _ _ _ aFz).trans (World.alloc_heap_new w _)
 have h2:((w.alloc (.cells #[.bool b,.slice A n c] 81)).alloc (.cells #[.bool b2,.slice B m e] 81)).heap[w.heap.size+1]? =some (.cells #[.bool b2,.slice B m e] 81):=by
  have:=World.alloc_heap_new (w.alloc (.cells #[.bool b,.slice A n c] 81)) (.cells #[.bool b2,.slice B m e] 81)
  rwa [World.size_alloc] at this
 have hsz:((w.alloc (.cells #[.bool b,.slice A n c] 81)).alloc (.cells #[.bool b2,.slice B m e] 81)).heap.size=w.heap.size+2:=by simp
 obtain⟨W0,hW0⟩:∃W0,(w.alloc (.cells #[.bool b,.slice A n c] 81)).alloc (.cells #[.bool b2,.slice B m e] 81)=W0:=⟨_,rfl⟩
 rw[hW0] at hB0 h1 h2 hsz ⊢;clear hW0;have c1:=fJ h1 0 _ rfl;have c2:=fJ h1 1 _ rfl;have c3:=fJ h2 1 _ rfl;have HB0:=Lib.hid hB0;have Hsz:=Lib.hid hsz;clear h1 h2 hB0 hsz;have hle:w.heap.size≤W0.drew.heap.size:=by show w.heap.size≤W0.heap.size;have:=Hsz.out;omega
 have HXD:=Lib.hid ((HX.out.below HB0.out.drew).mono hle);have HYD:=Lib.hid ((HY.out.below HB0.out.drew).mono hle);have hlt1:w.heap.size<W0.drew.heap.size:=by show w.heap.size<W0.heap.size;have:=Hsz.out;omega
 have hlt2:w.heap.size+1<W0.drew.heap.size:=by show w.heap.size+1<W0.heap.size;have:=Hsz.out;omega
 have keepc:∀w1,Below W0.drew.heap.size W0.drew w1→w1.cell? ⟨w.heap.size,0,none⟩=some (.bool b)∧w1.cell? ⟨w.heap.size,1,none⟩=some (.slice A n c)∧w1.cell? ⟨w.heap.size+1,1,none⟩=some (.slice B m e):=fun w1 hB=>
  ⟨(hB.cell (p:=⟨w.heap.size,0,none⟩) hlt1).trans c1,(hB.cell (p:=⟨w.heap.size,1,none⟩) hlt1).trans c2,(hB.cell (p:=⟨w.heap.size+1,1,none⟩) hlt2).trans c3⟩
 have hor:=aAh A B n m c e xs ys W0.drew HXD.out HYD.out;have HKC:=Lib.hid keepc;have HOR:=Lib.hid hor;clear keepc hor
 go_region_held3 (fun w'=>w'.cell? ⟨w.heap.size,0,none⟩=some (.bool b)∧w'.cell? ⟨w.heap.size,1,none⟩=some (.slice A n c)∧w'.cell? ⟨w.heap.size+1,1,none⟩=some (.slice B m e)) (first|exact⟨c1,c2,c3⟩|assumption) (first|(go_at_call 145;refine HOR.out.mono ?_;rintro e w1 ⟨rfl,hB⟩;have kk:=HKC.out _ hB;have HBZ:=Lib.hid hB))
 all_goals(go_wp2;go_ret;exact⟨rfl,HB0.out.drew.trans (HBZ.out.mono hle)⟩)
def dfL(xs ys:List Int):List Int:=if ordL xs ys<0 then mnL ys xs else mnL xs ys
theorem minus_other(A B:Option Addr)(n m c e:Nat)(xs ys:List Int)(w:World)(hx:RI w.heap.size w A n xs)(hy:RI w.heap.size w B m ys)(hxl:limbs xs)(hyl:limbs ys)(hn:n≤35184372088831)(hm:m≤35184372088831) :
 Calls Tryz.prog 193 #[.slice A n c,.slice B m e] w fun e w'=>∃A' c',e= .returned (.slice A' (tlen (dfL xs ys) (dfL xs ys).length) c')∧lS w' .i64 A' (dfL xs ys).length (dfL xs ys)∧(dfL xs ys).length≤c'∧c'≤9223372036854775807∧(∀ad,A'=some ad→w.heap.size≤ad.block∧ad.block<w'.heap.size)∧Below w.heap.size w w':=by
 have HX:=Lib.hid hx;have HY:=Lib.hid hy;have HXl:=Lib.hid hxl;have HYl:=Lib.hid hyl;clear hx hy hxl hyl;go_enter Tryz.func193,Tryz.ntmps193
 by_cases h:ordL xs ys<0
 ·have hl:Hid (dfL xs ys=mnL ys xs):=by show dfL xs ys=_;rw[dfL,if_pos h]
  have hlen:Hid ((mnL ys xs).length≤35184372088831):=by show _≤_;rw[mnL,sH,HY.out.1];exact hm
  go_wp2_with(first
   |(go_at_call 145;refine(aAh _ _ _ _ _ _ xs ys _ HX.out HY.out).mono ?_;rintro e w1 ⟨rfl,hB⟩;have HB:=Lib.hid hB;have hsz:=hB.size;clear hB)
   |(go_at_call 175;refine(aDd _ _ _ _ _ _ ys xs w1 ((HY.out.below HB.out).mono hsz) ((HX.out.below HB.out).mono hsz) HYl.out HXl.out hm hn).mono ?_;rintro e w2 ⟨rfl,hR,hB2⟩;have HR:=Lib.hid hR;have HB2:=Lib.hid hB2;clear hR hB2))
  go_ret
  refine⟨_,_,by rw[hl.out];rfl,by rw[hl.out];exact lI HR.out (by have:=hlen.out;omega),by rw[hl.out];exact Nat.le_refl _,by have:=hlen.out;omega,fun ad e=> ?_,HB.out.trans (HB2.out.mono hsz)⟩
  cases e
  exact⟨hsz,HR.out.lt⟩
 ·have hl:Hid (dfL xs ys=mnL xs ys):=by show dfL xs ys=_;rw[dfL,if_neg h]
  have hlen:Hid ((mnL xs ys).length≤35184372088831):=by show _≤_;rw[mnL,sH,HX.out.1];exact hn
  go_wp2_with(first
   |(go_at_call 145;refine(aAh _ _ _ _ _ _ xs ys _ HX.out HY.out).mono ?_;rintro e w1 ⟨rfl,hB⟩;have HB:=Lib.hid hB;have hsz:=hB.size;clear hB)
   |(go_at_call 175;refine(aDd _ _ _ _ _ _ xs ys w1 ((HX.out.below HB.out).mono hsz) ((HY.out.below HB.out).mono hsz) HXl.out HYl.out hn hm).mono ?_;rintro e w2 ⟨rfl,hR,hB2⟩;have HR:=Lib.hid hR;have HB2:=Lib.hid hB2;clear hR hB2))
  go_ret
  refine⟨_,_,by rw[hl.out];rfl,by rw[hl.out];exact lI HR.out (by have:=hlen.out;omega),by rw[hl.out];exact Nat.le_refl _,by have:=hlen.out;omega,fun ad e=> ?_,HB.out.trans (HB2.out.mono hsz)⟩
  cases e
  exact⟨hsz,HR.out.lt⟩
end Go.Proofs.YtignanmmgaldeaaGreatDoor
namespace Go.Proofs.YtignanmmgaldeaaGreatDoor
open Go.RowKit Go.Shelf Go.Proofs.YtignanmmgaldeaaGreatDoorW.PrintWords
theorem aCg(w:World) :
 Calls Tryz.prog 159 #[] w fun e w'=>e= .returned (.agg #[.func (.func 174) #[] #[],.func (.func 192) #[] #[],.func (.func 193) #[] #[],.func (.func 194) #[] #[]])∧Below w.heap.size w w':=by
 go_enter Tryz.func159,Tryz.ntmps159
 have HB0:=fun t=>World.alloc_heap_new w (.cells #[.nilFunc,.nilFunc,.nilFunc,.nilFunc] t)
 have hst:=fun(a:Addr) (f:Fn) (w':World)=>run_store Tryz.prog w' a (.func f #[] #[]) .plain rfl
 have c0:=fun t=>fJ (HB0 t) 0 _ rfl
 have c1:=fun t=>fJ (HB0 t) 1 _ rfl
 have c2:=fun t=>fJ (HB0 t) 2 _ rfl
 have c3:=fun t=>fJ (HB0 t) 3 _ rfl
 have f0:=fun t=>gY (HB0 t)
 clear HB0;go_wp2
 refine bodyPost_ret (results_cell_row rfl _ _ w.heap.size _ _ (0,0) _ rfl (World.alloc_heap_new w _) Tryz.underlying126 rfl (by kernel_rfl)) rfl ?_;exact⟨rfl,(Below.refl _ w).alloc (Nat.le_refl _) _⟩
end Go.Proofs.YtignanmmgaldeaaGreatDoor
namespace Go.Proofs.YtignanmmgaldeaaGreatDoor
open Go.RowKit Go.Shelf Go.Proofs.YtignanmmgaldeaaGreatDoorW.PrintWords
theorem plL_le(xs ys:List Int)(K:Nat)(hx:xs.length≤K)(hy:ys.length≤K):(plL xs ys).length≤K+1:=by
 unfold plL
 split <;> rw[aAi] <;> omega
theorem cell_far{W:World}{p q:Addr}(v:Value)(h:p.block≠q.block):(W.setCell p v).cell? q=W.cell? q:=World.cell?_of_block (Below.heap_setCell W p v q.block (fun e=>h e.symm))
theorem sum_same(A B:Option Addr)(n m c e:Nat)(xs ys:List Int)(b:Bool)(w:World)(hx:RI w.heap.size w A n xs)(hy:RI w.heap.size w B m ys)(hxl:limbs xs)(hyl:limbs ys)(hn:n≤35184372088831)(hm:m≤35184372088831) :
 Calls Tryz.prog 81 #[.agg #[.bool b,.slice A n c],.agg #[.bool b,.slice B m e]] w fun e w'=>∃A' c',e= .returned (.agg #[.bool b,.slice A' (tlen (plL xs ys) (plL xs ys).length) c'])∧lS w' .i64 A' (plL xs ys).length (plL xs ys)∧(plL xs ys).length≤c'∧c'≤9223372036854775807∧(∀ad,A'=some ad→w.heap.size≤ad.block∧ad.block<w'.heap.size)∧Below w.heap.size w w':=by
 have HPL:=Lib.hid (plL_le xs ys 35184372088831 (by rw[hx.1];exact hn) (by rw[hy.1];exact hm));have HX:=Lib.hid hx;have HY:=Lib.hid hy;have HXl:=Lib.hid hxl;have HYl:=Lib.hid hyl;clear hx hy hxl hyl;have hst:=fun(a:Addr) (f:Fn) (w':World)=>run_store Tryz.prog w' a (.func f #[] #[]) .plain rfl
 have c0:=fun(W:World) t=>fJ (World.alloc_heap_new W (.cells #[.nilFunc,.nilFunc] t)) 0 _ rfl
 have c1:=fun(W:World) t=>fJ (World.alloc_heap_new W (.cells #[.nilFunc,.nilFunc] t)) 1 _ rfl
 have f0:=fun(W:World) t=>gY (World.alloc_heap_new W (.cells #[.nilFunc,.nilFunc] t))
 have hix:=fun(f g h k:Value) (w':World)=>show(Instr.index 126 (.agg #[f,g,h,k]) (.int .i64 0)).run Tryz.prog w'= .ok (.agg #[f,g]) w' by
  simp[Instr.index,asIntOf,part,run_underlying Tryz.underlying126,go_sem,Tryz.isAgg125,Tryz.sizeOf125]
 go_enter Tryz.func81,Tryz.ntmps81
 go_wp2_with(go_at_call 159;refine(aCg _).mono ?_;rintro e w1 ⟨rfl,hB⟩;have HB:=Lib.hid hB;clear hB)
 have hx0:(((w.alloc (.cells #[.bool b,.slice A n c] 81)).alloc (.cells #[.bool b,.slice B m e] 81)).alloc (.cells #[.bool false,.slice none 0 0] 81)).heap[w.heap.size]? =some (.cells #[.bool b,.slice A n c] 81):=(Below.heap_alloc _ _ _ (by simp;omega)).trans ((Below.heap_alloc _ _ _ aFz).trans (World.alloc_heap_new w _));have hx1:(((w.alloc (.cells #[.bool b,.slice A n c] 81)).alloc (.cells #[.bool b,.slice B m e] 81)).alloc (.cells #[.bool false,.slice none 0 0] 81)).heap[w.heap.size+1]? =some (.cells #[.bool b,.slice B m e] 81):=(Below.heap_alloc _ _ _ aFz).trans (by have:=World.alloc_heap_new (w.alloc (.cells #[.bool b,.slice A n c] 81)) (.cells #[.bool b,.slice B m e] 81);rwa [World.size_alloc] at this);have hx2:(((w.alloc (.cells #[.bool b,.slice A n c] 81)).alloc (.cells #[.bool b,.slice B m e] 81)).alloc (.cells #[.bool false,.slice none 0 0] 81)).heap[w.heap.size+1+1]? =some (.cells #[.bool false,.slice none 0 0] 81):=by have:=World.alloc_heap_new ((w.alloc (.cells #[.bool b,.slice A n c] 81)).alloc (.cells #[.bool b,.slice B m e] 81)) (.cells #[.bool false,.slice none 0 0] 81);rwa [World.size_alloc,World.size_alloc] at this
 have hBa:Below w.heap.size w (((w.alloc (.cells #[.bool b,.slice A n c] 81)).alloc (.cells #[.bool b,.slice B m e] 81)).alloc (.cells #[.bool false,.slice none 0 0] 81)):=(((Below.refl _ w).alloc (Nat.le_refl _) _).alloc aFz _).alloc (by simp;omega) _;have hsa:(((w.alloc (.cells #[.bool b,.slice A n c] 81)).alloc (.cells #[.bool b,.slice B m e] 81)).alloc (.cells #[.bool false,.slice none 0 0] 81)).heap.size=w.heap.size+3:=by simp
 have o6:=HB.out.size;obtain⟨W5,hW5⟩:∃W5,w1.alloc (.cells #[.func (.func 174) #[] #[],.func (.func 192) #[] #[]] 125)=W5:=⟨_,rfl⟩
 have hy0:W5.heap[w.heap.size]? =some (.cells #[.bool b,.slice A n c] 81):=by rw[←hW5];exact(Below.heap_alloc _ _ _ aFx).trans ((HB.out.block _ aFx).trans hx0)
 have hy1:W5.heap[w.heap.size+1]? =some (.cells #[.bool b,.slice B m e] 81):=by rw[←hW5];exact(Below.heap_alloc _ _ _ aFx).trans ((HB.out.block _ aFx).trans hx1)
 have hy2:W5.heap[w.heap.size+1+1]? =some (.cells #[.bool false,.slice none 0 0] 81):=by rw[←hW5];exact(Below.heap_alloc _ _ _ aFx).trans ((HB.out.block _ aFx).trans hx2)
 have hy3:W5.heap[w1.heap.size]? =some (.cells #[.func (.func 174) #[] #[],.func (.func 192) #[] #[]] 125):=by rw[←hW5];exact World.alloc_heap_new w1 _
 have hB5:Below w.heap.size w W5:=by rw[←hW5];exact(hBa.trans (HB.out.mono aFx)).alloc aFx _
 have o5:w1.heap.size<W5.heap.size:=by rw[←hW5];simp
 rw[hW5];clear hx0 hx1 hx2 hBa hW5 hst c0 c1 f0 hix;have k5:W5.cell? ⟨w.heap.size,0,none⟩=some (.bool b)∧W5.cell? ⟨w.heap.size,1,none⟩=some (.slice A n c)∧W5.cell? ⟨w.heap.size+1,0,none⟩=some (.bool b)∧W5.cell? ⟨w.heap.size+1,1,none⟩=some (.slice B m e)∧W5.cell? ⟨w1.heap.size,0,none⟩=some (.func (.func 174) #[] #[])∧W5.cell? ⟨w1.heap.size,1,none⟩=some (.func (.func 192) #[] #[]):=⟨fJ hy0 0 _ rfl,fJ hy0 1 _ rfl,fJ hy1 0 _ rfl,fJ hy1 1 _ rfl,fJ hy3 0 _ rfl,fJ hy3 1 _ rfl⟩
 have keepc:∀v1 v2:World,w1.heap.size<v1.heap.size→Below v1.heap.size v1 v2→(v1.cell? ⟨w.heap.size,0,none⟩=some (.bool b)∧v1.cell? ⟨w.heap.size,1,none⟩=some (.slice A n c)∧v1.cell? ⟨w.heap.size+1,0,none⟩=some (.bool b)∧v1.cell? ⟨w.heap.size+1,1,none⟩=some (.slice B m e)∧v1.cell? ⟨w1.heap.size,0,none⟩=some (.func (.func 174) #[] #[])∧v1.cell? ⟨w1.heap.size,1,none⟩=some (.func (.func 192) #[] #[]))→v2.cell? ⟨w.heap.size,0,none⟩=some (.bool b)∧v2.cell? ⟨w.heap.size,1,none⟩=some (.slice A n c)∧v2.cell? ⟨w.heap.size+1,0,none⟩=some (.bool b)∧v2.cell? ⟨w.heap.size+1,1,none⟩=some (.slice B m e)∧v2.cell? ⟨w1.heap.size,0,none⟩=some (.func (.func 174) #[] #[])∧v2.cell? ⟨w1.heap.size,1,none⟩=some (.func (.func 192) #[] #[]):=fun v1 v2 hl hB ⟨a1,a2,a3,a4,a5,a6⟩=>
  ⟨(hB.cell (p:=⟨w.heap.size,0,none⟩) (by show w.heap.size<_;omega)).trans a1,(hB.cell (p:=⟨w.heap.size,1,none⟩) (by show w.heap.size<_;omega)).trans a2,(hB.cell (p:=⟨w.heap.size+1,0,none⟩) (by show w.heap.size+1<_;omega)).trans a3,(hB.cell (p:=⟨w.heap.size+1,1,none⟩) (by show w.heap.size+1<_;omega)).trans a4,(hB.cell (p:=⟨w1.heap.size,0,none⟩) hl).trans a5,(hB.cell (p:=⟨w1.heap.size,1,none⟩) hl).trans a6⟩
 have HKC:=Lib.hid keepc
 have keeps:∀(v1:World) (u v:Value),(v1.cell? ⟨w.heap.size,0,none⟩=some (.bool b)∧v1.cell? ⟨w.heap.size,1,none⟩=some (.slice A n c)∧v1.cell? ⟨w.heap.size+1,0,none⟩=some (.bool b)∧v1.cell? ⟨w.heap.size+1,1,none⟩=some (.slice B m e)∧v1.cell? ⟨w1.heap.size,0,none⟩=some (.func (.func 174) #[] #[])∧v1.cell? ⟨w1.heap.size,1,none⟩=some (.func (.func 192) #[] #[]))→((v1.setCell ⟨w.heap.size+1+1,0,none⟩ u).setCell ⟨w.heap.size+1+1,1,none⟩ v).cell? ⟨w.heap.size,0,none⟩=some (.bool b)∧((v1.setCell ⟨w.heap.size+1+1,0,none⟩ u).setCell ⟨w.heap.size+1+1,1,none⟩ v).cell? ⟨w.heap.size,1,none⟩=some (.slice A n c)∧((v1.setCell ⟨w.heap.size+1+1,0,none⟩ u).setCell ⟨w.heap.size+1+1,1,none⟩ v).cell? ⟨w.heap.size+1,0,none⟩=some (.bool b)∧((v1.setCell ⟨w.heap.size+1+1,0,none⟩ u).setCell ⟨w.heap.size+1+1,1,none⟩ v).cell? ⟨w.heap.size+1,1,none⟩=some (.slice B m e)∧((v1.setCell ⟨w.heap.size+1+1,0,none⟩ u).setCell ⟨w.heap.size+1+1,1,none⟩ v).cell? ⟨w1.heap.size,0,none⟩=some (.func (.func 174) #[] #[])∧((v1.setCell ⟨w.heap.size+1+1,0,none⟩ u).setCell ⟨w.heap.size+1+1,1,none⟩ v).cell? ⟨w1.heap.size,1,none⟩=some (.func (.func 192) #[] #[]):=fun v1 u v ⟨a1,a2,a3,a4,a5,a6⟩=>
  have h (q:Addr) (hq:w.heap.size+1+1≠q.block):((v1.setCell ⟨w.heap.size+1+1,0,none⟩ u).setCell ⟨w.heap.size+1+1,1,none⟩ v).cell? q=v1.cell? q:=(cell_far _ hq).trans (cell_far _ hq)
  ⟨(h _ (by show w.heap.size+1+1≠w.heap.size;omega)).trans a1,(h _ (by show w.heap.size+1+1≠w.heap.size;omega)).trans a2,(h _ (by show w.heap.size+1+1≠w.heap.size+1;omega)).trans a3,(h _ (by show w.heap.size+1+1≠w.heap.size+1;omega)).trans a4,(h _ (by show w.heap.size+1+1≠w1.heap.size;omega)).trans a5,(h _ (by show w.heap.size+1+1≠w1.heap.size;omega)).trans a6⟩
 have HKS:=Lib.hid keeps;have kd:W5.drew.cell? ⟨w.heap.size,0,none⟩=some (.bool b)∧W5.drew.cell? ⟨w.heap.size,1,none⟩=some (.slice A n c)∧W5.drew.cell? ⟨w.heap.size+1,0,none⟩=some (.bool b)∧W5.drew.cell? ⟨w.heap.size+1,1,none⟩=some (.slice B m e)∧W5.drew.cell? ⟨w1.heap.size,0,none⟩=some (.func (.func 174) #[] #[])∧W5.drew.cell? ⟨w1.heap.size,1,none⟩=some (.func (.func 192) #[] #[]):=k5;have hs5d:w1.heap.size<W5.drew.heap.size:=o5;have hzd:W5.drew.heap[w.heap.size+1+1]? =some (.cells #[.bool false,.slice none 0 0] 81):=hy2;have HZ:=Lib.hid hzd;have HBD:=Lib.hid hB5.drew;have hne:¬w1.heap.size=w.heap.size+1+1:=by omega
 clear hy0 hy1 hy2 hy3 keepc keeps hB5 hzd
 go_region_held3 (fun w'=>w'.cell? ⟨w.heap.size,0,none⟩=some (.bool b)∧w'.cell? ⟨w.heap.size,1,none⟩=some (.slice A n c)∧w'.cell? ⟨w.heap.size+1,0,none⟩=some (.bool b)∧w'.cell? ⟨w.heap.size+1,1,none⟩=some (.slice B m e)∧w'.cell? ⟨w1.heap.size,0,none⟩=some (.func (.func 174) #[] #[])∧w'.cell? ⟨w1.heap.size,1,none⟩=some (.func (.func 192) #[] #[])) (first|assumption|exact HKS.out _ _ _ (by assumption)) (first
  |(go_at_call 192;refine(neg_same A B n m c e b b W5.drew).mono ?_;rintro e w2 ⟨rfl,hB2⟩;have k2:=HKC.out _ _ hs5d hB2 kd;have HB2:=Lib.hid hB2;have o7:=hB2.size;clear hB2)
  |(go_at_call 174;refine(plus_walk A B n m c e xs ys w2 ((HX.out.below (HBD.out.trans (HB2.out.mono aFx))).mono aFx) ((HY.out.below (HBD.out.trans (HB2.out.mono aFx))).mono aFx) HXl.out HYl.out hn hm).mono ?_;rintro e w3 ⟨rfl,hR3,hB3⟩;have k3:=HKC.out _ _ aFx hB3 k2;have hb4:=(hB3.block (w.heap.size+1+1) aFx).trans ((HB2.out.block (w.heap.size+1+1) aFx).trans HZ.out);have z0:=fJ hb4 0 _ rfl;have z1:=fJ hb4 1 _ rfl;have y0:=gY hb4 0;have y1:=gY hb4 1;have l9:=Lib.hid hR3;have HB3:=Lib.hid hB3;have HB4:=Lib.hid hb4;clear hR3 hB3 hb4))
 all_goals(
  go_wp2
  refine bodyPost_ret (results_cell_row rfl _ _ (w.heap.size+1+1) 81 #[.bool b,.slice (some ⟨w2.heap.size,0,none⟩) (tlen (plL xs ys) (plL xs ys).length) (plL xs ys).length] (0,0) _ rfl (iR (cs:=#[.bool b,.slice none 0 0]) (iR (cs:=#[.bool false,.slice none 0 0]) HB4.out 0 _ rfl) 1 _ rfl) Tryz.underlying81 rfl (by kernel_rfl)) rfl ?_;have hpl:=HPL.out;have hbw:=HBD.out.trans ((HB2.out.mono aFx).trans (HB3.out.mono aFx));have hlt:=l9.out.lt;refine⟨_,_,rfl,aAj (aAj (lI l9.out aFx) _ (fun ad e=> ?_)) _ (fun ad e=> ?_),Nat.le_refl _,by omega,fun ad e=> ?_,(hbw.setCell (p:=⟨w.heap.size+1+1,0,none⟩) (by show w.heap.size≤w.heap.size+1+1;omega) _).setCell (p:=⟨w.heap.size+1+1,1,none⟩) (by show w.heap.size≤w.heap.size+1+1;omega) _⟩
  ·cases e;show w.heap.size+1+1≠w2.heap.size;omega
  ·cases e;show w.heap.size+1+1≠w2.heap.size;omega
  ·cases e;simp only[World.setCell,Array.size_modify];omega)
end Go.Proofs.YtignanmmgaldeaaGreatDoor
namespace Go.Proofs.YtignanmmgaldeaaGreatDoor
open Go.RowKit Go.Shelf Go.Proofs.YtignanmmgaldeaaGreatDoorW.PrintWords
theorem dfL_le(xs ys:List Int)(K:Nat)(hx:xs.length≤K)(hy:ys.length≤K):(dfL xs ys).length≤K:=by
 unfold dfL mnL
 split <;> rw[sH] <;> omega
theorem sum_other(A B:Option Addr)(n m c e:Nat)(xs ys:List Int)(b:Bool)(w:World)(hx:RI w.heap.size w A n xs)(hy:RI w.heap.size w B m ys)(hxl:limbs xs)(hyl:limbs ys)(hn:n≤35184372088831)(hm:m≤35184372088831) :
 Calls Tryz.prog 81 #[.agg #[.bool b,.slice A n c],.agg #[.bool (!b),.slice B m e]] w fun e w'=>∃A' c',e= .returned (.agg #[.bool (decide (ordL xs ys<0) != b),.slice A' (tlen (dfL xs ys) (dfL xs ys).length) c'])∧lS w' .i64 A' (dfL xs ys).length (dfL xs ys)∧(dfL xs ys).length≤c'∧c'≤9223372036854775807∧(∀ad,A'=some ad→w.heap.size≤ad.block∧ad.block<w'.heap.size)∧Below w.heap.size w w':=by
 have HPL:=Lib.hid (dfL_le xs ys 35184372088831 (by rw[hx.1];exact hn) (by rw[hy.1];exact hm));have HX:=Lib.hid hx;have HY:=Lib.hid hy;have HXl:=Lib.hid hxl;have HYl:=Lib.hid hyl;clear hx hy hxl hyl;have hst:=fun(a:Addr) (f:Fn) (w':World)=>run_store Tryz.prog w' a (.func f #[] #[]) .plain rfl
 have c0:=fun(W:World) t=>fJ (World.alloc_heap_new W (.cells #[.nilFunc,.nilFunc] t)) 0 _ rfl
 have c1:=fun(W:World) t=>fJ (World.alloc_heap_new W (.cells #[.nilFunc,.nilFunc] t)) 1 _ rfl
 have f0:=fun(W:World) t=>gY (World.alloc_heap_new W (.cells #[.nilFunc,.nilFunc] t))
 have hix:=fun(f g h k:Value) (w':World)=>show(Instr.index 126 (.agg #[f,g,h,k]) (.int .i64 1)).run Tryz.prog w'= .ok (.agg #[h,k]) w' by
  simp[Instr.index,asIntOf,part,run_underlying Tryz.underlying126,go_sem,Tryz.isAgg125,Tryz.sizeOf125]
 go_enter Tryz.func81,Tryz.ntmps81
 go_wp2_with(go_at_call 159;refine(aCg _).mono ?_;rintro e w1 ⟨rfl,hB⟩;have HB:=Lib.hid hB;clear hB)
 have hx0:(((w.alloc (.cells #[.bool b,.slice A n c] 81)).alloc (.cells #[.bool (!b),.slice B m e] 81)).alloc (.cells #[.bool false,.slice none 0 0] 81)).heap[w.heap.size]? =some (.cells #[.bool b,.slice A n c] 81):=(Below.heap_alloc _ _ _ (by simp;omega)).trans ((Below.heap_alloc _ _ _ aFz).trans (World.alloc_heap_new w _));have hx1:(((w.alloc (.cells #[.bool b,.slice A n c] 81)).alloc (.cells #[.bool (!b),.slice B m e] 81)).alloc (.cells #[.bool false,.slice none 0 0] 81)).heap[w.heap.size+1]? =some (.cells #[.bool (!b),.slice B m e] 81):=(Below.heap_alloc _ _ _ aFz).trans (by have:=World.alloc_heap_new (w.alloc (.cells #[.bool b,.slice A n c] 81)) (.cells #[.bool (!b),.slice B m e] 81);rwa [World.size_alloc] at this);have hx2:(((w.alloc (.cells #[.bool b,.slice A n c] 81)).alloc (.cells #[.bool (!b),.slice B m e] 81)).alloc (.cells #[.bool false,.slice none 0 0] 81)).heap[w.heap.size+1+1]? =some (.cells #[.bool false,.slice none 0 0] 81):=by have:=World.alloc_heap_new ((w.alloc (.cells #[.bool b,.slice A n c] 81)).alloc (.cells #[.bool (!b),.slice B m e] 81)) (.cells #[.bool false,.slice none 0 0] 81);rwa [World.size_alloc,World.size_alloc] at this
 have hBa:Below w.heap.size w (((w.alloc (.cells #[.bool b,.slice A n c] 81)).alloc (.cells #[.bool (!b),.slice B m e] 81)).alloc (.cells #[.bool false,.slice none 0 0] 81)):=(((Below.refl _ w).alloc (Nat.le_refl _) _).alloc aFz _).alloc (by simp;omega) _;have hsa:(((w.alloc (.cells #[.bool b,.slice A n c] 81)).alloc (.cells #[.bool (!b),.slice B m e] 81)).alloc (.cells #[.bool false,.slice none 0 0] 81)).heap.size=w.heap.size+3:=by simp
 have o7:=HB.out.size;obtain⟨W5,hW5⟩:∃W5,w1.alloc (.cells #[.func (.func 193) #[] #[],.func (.func 194) #[] #[]] 125)=W5:=⟨_,rfl⟩
 have hy0:W5.heap[w.heap.size]? =some (.cells #[.bool b,.slice A n c] 81):=by rw[←hW5];exact(Below.heap_alloc _ _ _ aFx).trans ((HB.out.block _ aFx).trans hx0)
 have hy1:W5.heap[w.heap.size+1]? =some (.cells #[.bool (!b),.slice B m e] 81):=by rw[←hW5];exact(Below.heap_alloc _ _ _ aFx).trans ((HB.out.block _ aFx).trans hx1)
 have hy2:W5.heap[w.heap.size+1+1]? =some (.cells #[.bool false,.slice none 0 0] 81):=by rw[←hW5];exact(Below.heap_alloc _ _ _ aFx).trans ((HB.out.block _ aFx).trans hx2)
 have hy3:W5.heap[w1.heap.size]? =some (.cells #[.func (.func 193) #[] #[],.func (.func 194) #[] #[]] 125):=by rw[←hW5];exact World.alloc_heap_new w1 _
 have hB5:Below w.heap.size w W5:=by rw[←hW5];exact(hBa.trans (HB.out.mono aFx)).alloc aFx _
 have o5:w1.heap.size<W5.heap.size:=by rw[←hW5];simp
 rw[hW5];clear hx0 hx1 hx2 hBa hW5 hst c0 c1 f0 hix;have k5:W5.cell? ⟨w.heap.size,0,none⟩=some (.bool b)∧W5.cell? ⟨w.heap.size,1,none⟩=some (.slice A n c)∧W5.cell? ⟨w.heap.size+1,0,none⟩=some (.bool (!b))∧W5.cell? ⟨w.heap.size+1,1,none⟩=some (.slice B m e)∧W5.cell? ⟨w1.heap.size,0,none⟩=some (.func (.func 193) #[] #[])∧W5.cell? ⟨w1.heap.size,1,none⟩=some (.func (.func 194) #[] #[]):=⟨fJ hy0 0 _ rfl,fJ hy0 1 _ rfl,fJ hy1 0 _ rfl,fJ hy1 1 _ rfl,fJ hy3 0 _ rfl,fJ hy3 1 _ rfl⟩
 have keepc:∀v1 v2:World,w1.heap.size<v1.heap.size→Below v1.heap.size v1 v2→(v1.cell? ⟨w.heap.size,0,none⟩=some (.bool b)∧v1.cell? ⟨w.heap.size,1,none⟩=some (.slice A n c)∧v1.cell? ⟨w.heap.size+1,0,none⟩=some (.bool (!b))∧v1.cell? ⟨w.heap.size+1,1,none⟩=some (.slice B m e)∧v1.cell? ⟨w1.heap.size,0,none⟩=some (.func (.func 193) #[] #[])∧v1.cell? ⟨w1.heap.size,1,none⟩=some (.func (.func 194) #[] #[]))→v2.cell? ⟨w.heap.size,0,none⟩=some (.bool b)∧v2.cell? ⟨w.heap.size,1,none⟩=some (.slice A n c)∧v2.cell? ⟨w.heap.size+1,0,none⟩=some (.bool (!b))∧v2.cell? ⟨w.heap.size+1,1,none⟩=some (.slice B m e)∧v2.cell? ⟨w1.heap.size,0,none⟩=some (.func (.func 193) #[] #[])∧v2.cell? ⟨w1.heap.size,1,none⟩=some (.func (.func 194) #[] #[]):=fun v1 v2 hl hB ⟨a1,a2,a3,a4,a5,a6⟩=>
  ⟨(hB.cell (p:=⟨w.heap.size,0,none⟩) (by show w.heap.size<_;omega)).trans a1,(hB.cell (p:=⟨w.heap.size,1,none⟩) (by show w.heap.size<_;omega)).trans a2,(hB.cell (p:=⟨w.heap.size+1,0,none⟩) (by show w.heap.size+1<_;omega)).trans a3,(hB.cell (p:=⟨w.heap.size+1,1,none⟩) (by show w.heap.size+1<_;omega)).trans a4,(hB.cell (p:=⟨w1.heap.size,0,none⟩) hl).trans a5,(hB.cell (p:=⟨w1.heap.size,1,none⟩) hl).trans a6⟩
 have HKC:=Lib.hid keepc
 have keeps:∀(v1:World) (u v:Value),(v1.cell? ⟨w.heap.size,0,none⟩=some (.bool b)∧v1.cell? ⟨w.heap.size,1,none⟩=some (.slice A n c)∧v1.cell? ⟨w.heap.size+1,0,none⟩=some (.bool (!b))∧v1.cell? ⟨w.heap.size+1,1,none⟩=some (.slice B m e)∧v1.cell? ⟨w1.heap.size,0,none⟩=some (.func (.func 193) #[] #[])∧v1.cell? ⟨w1.heap.size,1,none⟩=some (.func (.func 194) #[] #[]))→((v1.setCell ⟨w.heap.size+1+1,0,none⟩ u).setCell ⟨w.heap.size+1+1,1,none⟩ v).cell? ⟨w.heap.size,0,none⟩=some (.bool b)∧((v1.setCell ⟨w.heap.size+1+1,0,none⟩ u).setCell ⟨w.heap.size+1+1,1,none⟩ v).cell? ⟨w.heap.size,1,none⟩=some (.slice A n c)∧((v1.setCell ⟨w.heap.size+1+1,0,none⟩ u).setCell ⟨w.heap.size+1+1,1,none⟩ v).cell? ⟨w.heap.size+1,0,none⟩=some (.bool (!b))∧((v1.setCell ⟨w.heap.size+1+1,0,none⟩ u).setCell ⟨w.heap.size+1+1,1,none⟩ v).cell? ⟨w.heap.size+1,1,none⟩=some (.slice B m e)∧((v1.setCell ⟨w.heap.size+1+1,0,none⟩ u).setCell ⟨w.heap.size+1+1,1,none⟩ v).cell? ⟨w1.heap.size,0,none⟩=some (.func (.func 193) #[] #[])∧((v1.setCell ⟨w.heap.size+1+1,0,none⟩ u).setCell ⟨w.heap.size+1+1,1,none⟩ v).cell? ⟨w1.heap.size,1,none⟩=some (.func (.func 194) #[] #[]):=fun v1 u v ⟨a1,a2,a3,a4,a5,a6⟩=>
  have h (q:Addr) (hq:w.heap.size+1+1≠q.block):((v1.setCell ⟨w.heap.size+1+1,0,none⟩ u).setCell ⟨w.heap.size+1+1,1,none⟩ v).cell? q=v1.cell? q:=(cell_far _ hq).trans (cell_far _ hq)
  ⟨(h _ (by show w.heap.size+1+1≠w.heap.size;omega)).trans a1,(h _ (by show w.heap.size+1+1≠w.heap.size;omega)).trans a2,(h _ (by show w.heap.size+1+1≠w.heap.size+1;omega)).trans a3,(h _ (by show w.heap.size+1+1≠w.heap.size+1;omega)).trans a4,(h _ (by show w.heap.size+1+1≠w1.heap.size;omega)).trans a5,(h _ (by show w.heap.size+1+1≠w1.heap.size;omega)).trans a6⟩
 have HKS:=Lib.hid keeps;have kd:W5.drew.cell? ⟨w.heap.size,0,none⟩=some (.bool b)∧W5.drew.cell? ⟨w.heap.size,1,none⟩=some (.slice A n c)∧W5.drew.cell? ⟨w.heap.size+1,0,none⟩=some (.bool (!b))∧W5.drew.cell? ⟨w.heap.size+1,1,none⟩=some (.slice B m e)∧W5.drew.cell? ⟨w1.heap.size,0,none⟩=some (.func (.func 193) #[] #[])∧W5.drew.cell? ⟨w1.heap.size,1,none⟩=some (.func (.func 194) #[] #[]):=k5;have hs5d:w1.heap.size<W5.drew.heap.size:=o5;have hzd:W5.drew.heap[w.heap.size+1+1]? =some (.cells #[.bool false,.slice none 0 0] 81):=hy2;have HZ:=Lib.hid hzd;have HBD:=Lib.hid hB5.drew;have hne:¬w1.heap.size=w.heap.size+1+1:=by omega
 clear hy0 hy1 hy2 hy3 keepc keeps hB5 hzd
 go_region_held3 (fun w'=>w'.cell? ⟨w.heap.size,0,none⟩=some (.bool b)∧w'.cell? ⟨w.heap.size,1,none⟩=some (.slice A n c)∧w'.cell? ⟨w.heap.size+1,0,none⟩=some (.bool (!b))∧w'.cell? ⟨w.heap.size+1,1,none⟩=some (.slice B m e)∧w'.cell? ⟨w1.heap.size,0,none⟩=some (.func (.func 193) #[] #[])∧w'.cell? ⟨w1.heap.size,1,none⟩=some (.func (.func 194) #[] #[])) (first|assumption|exact HKS.out _ _ _ (by assumption)) (first
  |(go_at_call 194;refine(neg_other A B n m c e xs ys b (!b) W5.drew ((HX.out.below HBD.out).mono aFx) ((HY.out.below HBD.out).mono aFx)).mono ?_;rintro e w2 ⟨rfl,hB2⟩;have k2:=HKC.out _ _ hs5d hB2 kd;have HB2:=Lib.hid hB2;have o8:=hB2.size;clear hB2)
  |(go_at_call 193;refine(minus_other A B n m c e xs ys w2 ((HX.out.below (HBD.out.trans (HB2.out.mono aFx))).mono aFx) ((HY.out.below (HBD.out.trans (HB2.out.mono aFx))).mono aFx) HXl.out HYl.out hn hm).mono ?_;rintro e w3 ⟨A3,c3,rfl,hR3,hc3,hc4,hA3,hB3⟩;have k3:=HKC.out _ _ aFx hB3 k2;have hb4:=(hB3.block (w.heap.size+1+1) aFx).trans ((HB2.out.block (w.heap.size+1+1) aFx).trans HZ.out);have z0:=fJ hb4 0 _ rfl;have z1:=fJ hb4 1 _ rfl;have y0:=gY hb4 0;have y1:=gY hb4 1;have o6:=Lib.hid hR3;have l9:=Lib.hid hA3;have HB3:=Lib.hid hB3;have HB4:=Lib.hid hb4;clear hR3 hB3 hb4 hA3))
 all_goals(
  go_wp2
  refine bodyPost_ret (results_cell_row rfl _ _ (w.heap.size+1+1) 81 #[.bool (decide (ordL xs ys<0) != b),.slice A3 (tlen (dfL xs ys) (dfL xs ys).length) c3] (0,0) _ rfl (iR (cs:=#[.bool (decide (ordL xs ys<0) != b),.slice none 0 0]) (iR (cs:=#[.bool false,.slice none 0 0]) HB4.out 0 _ rfl) 1 _ rfl) Tryz.underlying81 rfl (by kernel_rfl)) rfl ?_;have hpl:=HPL.out;have hbw:=HBD.out.trans ((HB2.out.mono aFx).trans (HB3.out.mono aFx));refine⟨_,_,rfl,aAj (aAj o6.out _ (fun ad e=> ?_)) _ (fun ad e=> ?_),hc3,hc4,fun ad e=> ?_,(hbw.setCell (p:=⟨w.heap.size+1+1,0,none⟩) (by show w.heap.size≤w.heap.size+1+1;omega) _).setCell (p:=⟨w.heap.size+1+1,1,none⟩) (by show w.heap.size≤w.heap.size+1+1;omega) _⟩
  ·have:=(l9.out ad e).1;show w.heap.size+1+1≠ad.block;omega
  ·have:=(l9.out ad e).1;show w.heap.size+1+1≠ad.block;omega
  ·have:=l9.out ad e;simp only[World.setCell,Array.size_modify];omega)
end Go.Proofs.YtignanmmgaldeaaGreatDoor
namespace Go.Proofs.YtignanmmgaldeaaGreatDoor
open Go.Lib (decDigits itoa nDigits)
def dval(l:List UInt8):Nat:=l.foldl (fun n c=>n*10+(c.toNat-48)) 0
def uS(c:UInt8):Bool:=48≤c.toNat&&c.toNat≤57
def iP(l:List UInt8):Bool:=l.all uS
theorem dval_from(l:List UInt8):∀n,l.foldl (fun n c=>n*10+(c.toNat-48)) n=n*10 ^ l.length+dval l:=by
 unfold dval
 induction l with
 |nil=>intro n;simp
 |cons c l ih=>
  intro n;rw[List.foldl_cons,ih,List.foldl_cons,ih (0*10+(c.toNat-48)),List.length_cons,Nat.pow_succ];generalize 10 ^ l.length=p;rw[Nat.zero_mul,Nat.zero_add,Nat.add_mul,Nat.mul_assoc,Nat.mul_comm 10 p,Nat.add_assoc]
theorem aCr(l m:List UInt8):dval (l++m)=dval l*10 ^ m.length+dval m:=by
 unfold dval;rw[List.foldl_append,dval_from];rfl
theorem aE2(l:List UInt8)(c:UInt8):dval (l++ [c])=dval l*10+(c.toNat-48):=by
 rw[aCr];simp[dval]
theorem aCh(c:UInt8)(l:List UInt8):dval (c::l)=(c.toNat-48)*10 ^ l.length+dval l:=by
 have:=aCr [c] l;simpa[dval] using this
theorem oJ(c:UInt8):uS c=true↔48≤c.toNat∧c.toNat≤57:=by simp[uS]
theorem dval_lt:∀(l:List UInt8),iP l=true→dval l<10 ^ l.length
 | [],_=>by simp[dval]
 |c::l,h=>by
  simp only[iP,List.all_cons,Bool.and_eq_true] at h;have h1:=(oJ c).1 h.1;have h2:=dval_lt l h.2;rw[aCh,List.length_cons,Nat.pow_succ];have:(c.toNat-48)*10 ^ l.length≤9*10 ^ l.length:=Nat.mul_le_mul_right _ aFx;omega
theorem yO(d:Nat)(h:d<10):(UInt8.ofNat (48+d)).toNat=48+d:=by
 rw[UInt8.toNat_ofNat'];omega
theorem kJ{u:Nat}(h:u<10):decDigits u= [UInt8.ofNat (48+u)]:=by rw[decDigits,dif_pos h]
theorem pR{u:Nat}(h:¬u<10):decDigits u=decDigits (u/10)++ [UInt8.ofNat (48+u%10)]:=by rw[decDigits,dif_neg h]
theorem oK(u:Nat):dval (decDigits u)=u:=by
 induction u using Nat.strongRecOn with
 |_ u ih=>
  by_cases h:u<10
  ·rw[kJ h]
   have e:dval [UInt8.ofNat (48+u)]=(UInt8.ofNat (48+u)).toNat-48:=by unfold dval;rw[List.foldl_cons,List.foldl_nil];omega
   rw[e,yO u h];omega
  ·rw[pR h,aE2,ih (u/10) aFx,yO _ (Nat.mod_lt _ aFx)]
   omega
theorem aDu(l m:List UInt8):iP (l++m)=(iP l&&iP m):=by simp[iP]
theorem lZ(u:Nat):iP (decDigits u)=true:=by
 induction u using Nat.strongRecOn with
 |_ u ih=>
  by_cases h:u<10
  ·rw[kJ h]
   have:=yO u h;simp only[iP,List.all_cons,List.all_nil,Bool.and_true,oJ];omega
  ·rw[pR h,aDu,ih (u/10) aFx]
   have:=yO (u%10) (Nat.mod_lt _ aFx);simp only[iP,List.all_cons,List.all_nil,Bool.and_true,Bool.true_and,oJ];omega
theorem mV(u:Nat):decDigits u≠ []:=by
 by_cases h:u<10
 ·rw[kJ h];simp
 ·rw[pR h];simp
theorem aB2(u:Nat)(hu:u≠0):∃c l,decDigits u=c::l∧49≤c.toNat∧c.toNat≤57:=by
 induction u using Nat.strongRecOn with
 |_ u ih=>
  by_cases h:u<10
  ·have:=yO u h
   exact⟨_,[],kJ h,by omega,by omega⟩
  ·obtain⟨c,l,hc,h1,h2⟩:=ih (u/10) aFx aFx
   exact⟨c,l++ [UInt8.ofNat (48+u%10)],by rw[pR h,hc];rfl,h1,h2⟩
def yP(l:List UInt8):Bool:=l== [48]||(iP l && !(l.head? ==some 48) && !l.isEmpty)
def canon(l:List UInt8):Bool:=match l with
 |45::r=>yP r && !(r== [48])
 |l=>yP l
def ival(l:List UInt8):Int:=match l with
 |45::r=> -(dval r:Int)
 |l=>(dval l:Int)
theorem aC6(c:UInt8)(l:List UInt8)(h:49≤c.toNat):10 ^ l.length≤dval (c::l):=by
 rw[aCh];have:1*10 ^ l.length≤(c.toNat-48)*10 ^ l.length:=Nat.mul_le_mul_right _ aFx;omega
theorem aC7{a b:UInt8}(h:a.toNat=b.toNat):a=b:=UInt8.toNat_inj.1 h
theorem aD0(n d:Nat)(hn:n≠0)(hd:d<10):decDigits (n*10+d)=decDigits n++ [UInt8.ofNat (48+d)]:=by
 rw[pR aFx]
 congr 2
 ·congr 1;omega
 ·congr 2;omega
theorem aFs(l:List UInt8)(h:iP l=true)(hh:∃c r,l=c::r∧c≠48):decDigits (dval l)=l:=by
 obtain⟨c,r,rfl,hc⟩:=hh
 have hc':49≤c.toNat∧c.toNat≤57:=by
  simp only[iP,List.all_cons,Bool.and_eq_true] at h;have:=(oJ c).1 h.1;have:c.toNat≠48:=fun e=>hc (aC7 (by simpa using e))
  omega
 clear hc
 suffices H:∀(m:List UInt8) (k:Nat),m.length=k→iP (c::m)=true→decDigits (dval (c::m))=c::m from H r _ rfl h
 intro m k
 induction k generalizing m with
 |zero=>
  intro hm _;obtain rfl:m= []:=List.eq_nil_of_length_eq_zero hm;have e:dval [c]=c.toNat-48:=by simp[dval]
  rw[e,kJ aFx]
  congr 1
  exact aC7 (by rw[yO _ aFx];omega)
 |succ k ih=>
  intro hm hd;have hne:m≠ []:=by intro e;subst e;simp at hm
  obtain⟨m',x,rfl⟩:∃m' x,m=m'++ [x]:=⟨m.dropLast,m.getLast hne,(List.dropLast_concat_getLast hne).symm⟩
  have hd':iP (c::m')=true∧iP [x]=true:=by
   rw[←List.cons_append,aDu] at hd
   simpa using hd
  have hx:48≤x.toNat∧x.toNat≤57:=by
   have:=hd'.2;simp only[iP,List.all_cons,List.all_nil,Bool.and_true] at this;exact(oJ x).1 this
  have hpos:=aC6 c m' hc'.1;have hp:0<10 ^ m'.length:=Nat.pow_pos aFx;rw[←List.cons_append,aE2,aD0 _ _ aFx aFx,ih m' (by simp at hm;omega) hd'.1]
  congr 2
  exact aC7 (by rw[yO _ aFx];omega)
theorem aB1(l:List UInt8)(h:yP l=true):decDigits (dval l)=l:=by
 unfold yP at h;simp only[Bool.or_eq_true,Bool.and_eq_true,beq_iff_eq] at h;rcases h with rfl|⟨⟨h1,h2⟩,h3⟩
 ·have e:dval [48]=0:=by simp[dval]
  rw[e,kJ aFx];rfl
 ·refine aFs l h1 ?_
  cases l with
  |nil=>simp at h3
  |cons c r=>exact⟨c,r,rfl,by intro e;subst e;simp at h2⟩
theorem lW(u:Nat)(r:List UInt8):decDigits u≠45::r:=by
 intro e;have:=lZ u;rw[e] at this
 simp[iP,uS] at this
theorem ival_itoa(n:Int):ival (itoa n)=n:=by
 unfold itoa
 split
 ·simp only[ival,oK];omega
 ·have hm:=lW n.toNat
  have hv:=oK n.toNat;generalize decDigits n.toNat=l at hm hv;unfold ival
  split
  ·exact absurd rfl (hm _)
  ·omega
theorem itoa_ival(l:List UInt8)(h:canon l=true):itoa (ival l)=l:=by
 unfold canon at h
 split at h
 ·rename_i r
  simp only[Bool.and_eq_true,Bool.not_eq_true',beq_eq_false_iff_ne] at h;have hd:=aB1 r h.1
  have h0:dval r≠0:=by
   intro e;rw[e,kJ aFx] at hd;exact h.2 hd.symm
  have:ival (45::r)= -(dval r:Int):=rfl;rw[this];unfold itoa
  rw[if_pos aFx,show(-(dval r:Int)).natAbs=dval r from by omega,hd]
 ·rename_i hne
  have e:ival l=(dval l:Int):=by
   unfold ival;split
   ·exact absurd rfl (hne _)
   ·rfl
  rw[e];unfold itoa
  rw[if_neg aFx,show(dval l:Int).toNat=dval l from by omega];exact aB1 l h
def text(n:Int):ByteArray:=⟨(itoa n).toArray⟩
theorem sS(n:Int):(text n).data.toList=itoa n:=by simp[text]
theorem aC8{m n:Int}(h:text m=text n):m=n:=by
 have:=congrArg (fun s:ByteArray=>ival s.data.toList) h
 simpa[sS,ival_itoa] using this
theorem nZ{a b:ByteArray}(h:a.data.toList=b.data.toList):a=b:=by
 cases a;cases b;congr 1;exact Array.toList_inj.1 h
theorem lU(s:ByteArray)(h:canon s.data.toList=true):∃n,s=text n:=
 ⟨ival s.data.toList,nZ (by rw[sS,itoa_ival _ h])⟩
theorem text_size(n:Int):(text n).size=(if n<0 then 1 else 0)+nDigits n.natAbs:=by
 have:(text n).size=(itoa n).length:=by simp[text,ByteArray.size]
 rw[this];unfold itoa
 split
 ·rw[List.length_cons,Go.Lib.decDigits_length];omega
 ·rw[Go.Lib.decDigits_length];rw[show n.toNat=n.natAbs from by omega];omega
end Go.Proofs.YtignanmmgaldeaaGreatDoor
namespace Go.Proofs.YtignanmmgaldeaaGreatDoor
open Go.RowKit
def pval(xs:List Int):Nat→Int
 |0=>0
 |k+1=>pval xs k+xs[k]?.getD 0*1000000000 ^ k
def lval(xs:List Int):Int:=pval xs xs.length
theorem kQ(k:Nat):(0:Int)<1000000000 ^ k:=Int.pow_pos aFx
theorem nI(k:Nat):(1000000000:Int) ^ (k+1)=1000000000*1000000000 ^ k:=by rw[Int.pow_succ,Int.mul_comm]
theorem qW(xs:List Int)(k:Nat)(h:xs.length≤k):xs[k]?.getD 0=0:=by rw[List.getElem?_eq_none h];rfl
theorem zF{xs ys:List Int}:∀k,(∀i,i<k→xs[i]?.getD 0=ys[i]?.getD 0)→pval xs k=pval ys k
 |0,_=>rfl
 |k+1,h=>by rw[pval,pval,zF k (fun i hi=>h i aFx),h k aFx]
theorem pval_set(xs:List Int)(i:Nat)(v:Int)(k:Nat)(h:k≤i):pval (xs.set i v) k=pval xs k:=
 zF k (fun j hj=>by rw[List.getElem?_set_ne aFx])
theorem aA7(xs:List Int)(i:Nat)(v:Int)(h:i<xs.length):pval (xs.set i v) (i+1)=pval xs i+v*1000000000 ^ i:=by
 rw[pval,pval_set _ _ _ _ (Nat.le_refl _),List.getElem?_set_self h];rfl
theorem pval_long(xs:List Int)(k:Nat)(h:xs.length≤k):∀j,pval xs (k+j)=pval xs k
 |0=>rfl
 |j+1=>by rw[←Nat.add_assoc,pval,pval_long xs k h j,qW xs (k+j) aFx];omega
theorem aA8(xs:List Int)(k:Nat)(h:xs.length≤k):pval xs k=lval xs:=by
 obtain⟨j,rfl⟩:∃j,k=xs.length+j:=⟨k-xs.length,by omega⟩
 exact pval_long xs _ (Nat.le_refl _) j
theorem qH{xs:List Int}(hx:limbs xs):∀k,0≤pval xs k
 |0=>Int.le_refl _
 |k+1=>by
  have h:=Int.mul_nonneg (hx k).1 (Int.le_of_lt (kQ k));have:=qH hx k;rw[pval];omega
theorem aBu{xs:List Int}(hx:limbs xs):∀k,pval xs k<1000000000 ^ k
 |0=>by simp[pval]
 |k+1=>by
  have h:=aBu hx k;have h2:xs[k]?.getD 0*1000000000 ^ k≤999999999*1000000000 ^ k:=Int.mul_le_mul_of_nonneg_right (by have:=(hx k).2;omega) (Int.le_of_lt (kQ k));rw[pval,nI];omega
theorem rJ{xs:List Int}(hx:limbs xs):0≤lval xs:=qH hx _
theorem aB3{xs:List Int}(hx:limbs xs):lval xs<1000000000 ^ xs.length:=aBu hx _
theorem aE3(xs:List Int):∀n,pval xs (tlen xs n)=pval xs n
 |0=>rfl
 |n+1=>by
  unfold tlen
  split
  ·rename_i h
   rw[aE3 xs n,pval,h];omega
  ·rfl
theorem tlen_top(xs:List Int):∀n,tlen xs n=0∨xs[tlen xs n-1]?.getD 0≠0
 |0=>Or.inl rfl
 |n+1=>by
  unfold tlen
  split
  ·exact tlen_top xs n
  ·rename_i h
   exact Or.inr h
theorem aAk(xs:List Int)(m i:Nat)(h:i<m):(xs.take m)[i]?.getD 0=xs[i]?.getD 0:=by rw[List.getElem?_take_of_lt h]
theorem pval_take(xs:List Int)(m:Nat):pval (xs.take m) m=pval xs m:=zF m (fun i hi=>aAk xs m i hi)
theorem aF3{xs:List Int}(hx:limbs xs)(m:Nat):limbs (xs.take m):=fun i=>by
 by_cases h:i<m
 ·rw[aAk xs m i h];exact hx i
 ·rw[qW _ _ (by simp;omega)];omega
theorem aBi(xs:List Int):(tl xs).length=tlen xs xs.length:=by
 have:=nN xs xs.length
 simp[tl];omega
theorem tl_val(xs:List Int):lval (tl xs)=lval xs:=by
 rw[lval,aBi,tl,pval_take,aE3];rfl
theorem aB4{xs:List Int}(hx:limbs xs):limbs (tl xs):=aF3 hx _
def topped(xs:List Int):Prop:=xs.length=0∨xs[xs.length-1]?.getD 0≠0
theorem aE4(xs:List Int):topped (tl xs):=by
 unfold topped;rw[aBi];rcases tlen_top xs xs.length with h|h
 ·exact Or.inl h
 ·by_cases h0:tlen xs xs.length=0
  ·exact Or.inl h0
  ·exact Or.inr (by rw[tl,aAk _ _ _ aFx];exact h)
theorem aE5{xs:List Int}(hx:limbs xs)(ht:topped xs)(h:0<xs.length):1000000000 ^ (xs.length-1)≤lval xs:=by
 obtain⟨n,hn⟩:∃n,xs.length=n+1:=⟨xs.length-1,by omega⟩
 rcases ht with h0|ht
 ·omega
 ·rw[lval,hn,pval]
  rw[hn] at ht;simp only[Nat.add_sub_cancel] at ht ⊢;have h1:=qH hx n;have h2:=(hx n).1;have h3:1*1000000000 ^ n≤xs[n]?.getD 0*1000000000 ^ n:=Int.mul_le_mul_of_nonneg_right aFx (Int.le_of_lt (kQ n));omega
theorem base_mono{m n:Nat}(h:m≤n):(1000000000:Int) ^ m≤1000000000 ^ n:=by
 obtain⟨j,rfl⟩:=Nat.exists_eq_add_of_le h;rw[Int.pow_add];have h1:(1000000000:Int) ^ m*1≤1000000000 ^ m*1000000000 ^ j:=Int.mul_le_mul_of_nonneg_left (by have:=kQ j;omega) (Int.le_of_lt (kQ m));omega
theorem sU{xs:List Int}(hx:limbs xs)(ht:topped xs):lval xs=0↔xs.length=0:=by
 constructor
 ·intro h
  by_cases h0:xs.length=0
  ·exact h0
  ·have:=aE5 hx ht aFx
   have:=kQ (xs.length-1);omega
 ·intro h;rw[lval,h];rfl
theorem zG{xs ys:List Int}(hx:limbs xs)(hy:limbs ys)(ht:topped ys)(h:lval ys≤lval xs):ys.length≤xs.length:=by
 by_cases h0:ys.length≤xs.length
 ·exact h0
 ·have h1:=aE5 hy ht aFx
  have h2:=aB3 hx;have h3:=base_mono (m:=xs.length) (n:=ys.length-1) aFx;omega
theorem plS_eq(xs ys:List Int)(k:Nat)(c:Int):plS xs ys k c=c+xs[k]?.getD 0+ys[k]?.getD 0:=by
 unfold plS
 by_cases h1:k<xs.length
 ·by_cases h2:k<ys.length
  ·rw[if_pos h1,if_pos h2]
  ·rw[if_pos h1,if_neg h2,qW ys k aFx]
 ·by_cases h2:k<ys.length
  ·rw[if_neg h1,if_pos h2,qW xs k aFx]
  ·rw[if_neg h1,if_neg h2,qW xs k aFx,qW ys k aFx]
theorem carry_law(s p:Int):s%1000000000*p+s/1000000000*(1000000000*p)=s*p:=by
 have h:s%1000000000+1000000000*(s/1000000000)=s:=Int.emod_add_mul_ediv s 1000000000;have h2:=congrArg (· *p) h;simp only[Int.add_mul] at h2;rw[←h2]
 congr 1
 rw[Int.mul_left_comm,Int.mul_assoc]
theorem plF_val(xs ys:List Int):∀k,k≤xs.length+1→pval (plF xs ys k).1 k+(plF xs ys k).2*1000000000 ^ k=pval xs k+pval ys k
 |0,_=>by simp[plF,pval]
 |k+1,h=>by
  have ih:=plF_val xs ys k aFx;have hl:=aAi xs ys k;have hc:=carry_law (plS xs ys k (plF xs ys k).2) (1000000000 ^ k);rw[plF,aA7 _ _ _ aFx,nI,pval,pval]
  dsimp only
  rw[Int.add_assoc,hc,plS_eq,Int.add_mul,Int.add_mul];omega
theorem plF_limbs(xs ys:List Int):∀k,limbs (plF xs ys k).1
 |0=>fun i=>by
  by_cases h:i<xs.length+1
  ·simp[plF,List.getElem?_replicate,h]
  ·simp[plF,List.getElem?_replicate,h]
 |k+1=>fun i=>by
  rw[plF]
  dsimp only
  by_cases e:k=i
  ·subst e
   by_cases h:k<(plF xs ys k).1.length
   ·rw[List.getElem?_set_self h];simp only[Option.getD_some];omega
   ·rw[List.getElem?_eq_none (by simpa using h)];simp
  ·rw[List.getElem?_set_ne e];exact plF_limbs xs ys k i
theorem plF_all{xs ys:List Int}(hx:limbs xs)(hy:limbs ys)(hl:ys.length≤xs.length):lval (plF xs ys (xs.length+1)).1=lval xs+lval ys:=by
 have h:=plF_val xs ys (xs.length+1) (Nat.le_refl _)
 have hc:(plF xs ys (xs.length+1)).2=0:=by
  have:=aE1 hx hy xs.length;rw[plF]
  dsimp only
  rw[plS_eq,qW xs _ (Nat.le_refl _),qW ys _ hl];omega
 rw[hc,aA8 xs _ aFx,aA8 ys _ aFx] at h;rw[lval,aAi];omega
theorem plL_val{xs ys:List Int}(hx:limbs xs)(hy:limbs ys):lval (plL xs ys)=lval xs+lval ys:=by
 unfold plL
 split
 ·rw[plF_all hy hx aFx];omega
 ·exact plF_all hx hy aFx
theorem plL_limbs(xs ys:List Int):limbs (plL xs ys):=by
 unfold plL
 split <;> exact plF_limbs _ _ _
theorem mnS_eq(xs ys:List Int)(k:Nat)(c:Int):mnS xs ys k c=xs[k]?.getD 0-c-ys[k]?.getD 0:=by
 unfold mnS
 split
 ·rfl
 ·rw[qW ys k aFx]
theorem mnF_val(xs ys:List Int):∀k,k≤xs.length→pval (mnF xs ys k).1 k-(mnF xs ys k).2*1000000000 ^ k=pval xs k-pval ys k
 |0,_=>by simp[mnF,pval]
 |k+1,h=>by
  have ih:=mnF_val xs ys k aFx;have hl:=sH xs ys k;have hs:=mnS_eq xs ys k (mnF xs ys k).2;have hm:=congrArg (· *(1000000000:Int) ^ k) hs;simp only[Int.sub_mul] at hm;rw[mnF]
  split
  ·dsimp only
   rw[aA7 _ _ _ aFx,nI,pval,pval,Int.add_mul];omega
  ·dsimp only
   rw[aA7 _ _ _ aFx,pval,pval];omega
theorem mnF_limbs{xs ys:List Int}(hx:limbs xs)(hy:limbs ys):∀k,limbs (mnF xs ys k).1
 |0=>fun i=>by
  by_cases h:i<xs.length
  ·simp[mnF,List.getElem?_replicate,h]
  ·simp[mnF,List.getElem?_replicate,h]
 |k+1=>fun i=>by
  have hs:=mnS_eq xs ys k (mnF xs ys k).2;have hb:=aDc xs ys k;have h1:=hx k;have h2:=hy k;have ih:=mnF_limbs hx hy k;rw[mnF]
  split <;> dsimp only
  all_goals
   by_cases e:k=i
   ·subst e
    by_cases h:k<(mnF xs ys k).1.length
    ·rw[List.getElem?_set_self h];simp only[Option.getD_some];omega
    ·rw[List.getElem?_eq_none (by simpa using h)];simp
   ·rw[List.getElem?_set_ne e];exact ih i
theorem aCi{xs ys:List Int}(hx:limbs xs)(hy:limbs ys):limbs (mnL xs ys):=mnF_limbs hx hy _
theorem mnL_val{xs ys:List Int}(hx:limbs xs)(hy:limbs ys)(ht:topped ys)(hle:lval ys≤lval xs):lval (mnL xs ys)=lval xs-lval ys:=by
 have h:=mnF_val xs ys xs.length (Nat.le_refl _);have hlen:=zG hx hy ht hle;have hb:=aDc xs ys xs.length;have hv:=aB3 (aCi hx hy);rw[aA8 ys _ hlen,aA8 xs _ (Nat.le_refl _)] at h;have e:lval (mnL xs ys)=pval (mnF xs ys xs.length).1 xs.length:=by rw[lval,mnL,sH]
 rw[mnL,sH,←mnL] at hv;have hp:=kQ xs.length;rcases(show(mnF xs ys xs.length).2=0∨(mnF xs ys xs.length).2=1 by omega) with h0|h1
 ·rw[h0] at h;omega
 ·rw[h1] at h;omega
theorem ordN_val{xs ys:List Int}(hx:limbs xs)(hy:limbs ys):∀k,(ordN xs ys k<0↔pval xs k<pval ys k)∧(ordN xs ys k=0↔pval xs k=pval ys k)
 |0=>by simp[ordN,pval]
 |k+1=>by
  have ih:=ordN_val hx hy k;have h1:=hx k;have h2:=hy k;rw[ordN,pval,pval]
  split
  ·rename_i h;rw[h];constructor <;> omega
  ·rename_i h
   have hw:wrap64 (xs[k]?.getD 0-ys[k]?.getD 0)=xs[k]?.getD 0-ys[k]?.getD 0:=by unfold wrap64;omega
   rw[hw];have a1:=aBu hx k;have a2:=aBu hy k;have a3:=qH hx k;have a4:=qH hy k
   by_cases hlt:xs[k]?.getD 0<ys[k]?.getD 0
   ·have:=Int.mul_le_mul_of_nonneg_right (show xs[k]?.getD 0+1≤ys[k]?.getD 0 by omega) (Int.le_of_lt (kQ k))
    rw[Int.add_mul] at this
    constructor <;> omega
   ·have:=Int.mul_le_mul_of_nonneg_right (show ys[k]?.getD 0+1≤xs[k]?.getD 0 by omega) (Int.le_of_lt (kQ k))
    rw[Int.add_mul] at this
    constructor <;> omega
theorem aDe{xs ys:List Int}(hx:limbs xs)(hy:limbs ys)(tx:topped xs)(ty:topped ys):(ordL xs ys<0↔lval xs<lval ys)∧(ordL xs ys=0↔lval xs=lval ys):=by
 unfold ordL
 split
 ·rename_i h
  have:=ordN_val hx hy xs.length;rw[aA8 xs _ (Nat.le_refl _),aA8 ys _ aFx] at this;exact this
 ·rename_i h
  by_cases hlt:xs.length<ys.length
  ·have:¬lval ys≤lval xs:=fun hle=>by have:=zG hx hy ty hle;omega
   constructor <;> omega
  ·have:¬lval xs≤lval ys:=fun hle=>by have:=zG hy hx tx hle;omega
   constructor <;> omega
theorem dfL_limbs{xs ys:List Int}(hx:limbs xs)(hy:limbs ys):limbs (dfL xs ys):=by
 unfold dfL
 split
 ·exact aCi hy hx
 ·exact aCi hx hy
theorem dfL_val{xs ys:List Int}(hx:limbs xs)(hy:limbs ys)(tx:topped xs)(ty:topped ys):lval (dfL xs ys)=if lval xs<lval ys then lval ys-lval xs else lval xs-lval ys:=by
 have h:=(aDe hx hy tx ty).1;unfold dfL
 split
 ·rename_i h1
  rw[if_pos (h.1 h1),mnL_val hy hx tx (by have:=h.1 h1;omega)]
 ·rename_i h1
  have h2:¬lval xs<lval ys:=fun e=>h1 (h.2 e)
  rw[if_neg h2,mnL_val hx hy ty aFx]
end Go.Proofs.YtignanmmgaldeaaGreatDoor
namespace Go.Proofs.YtignanmmgaldeaaGreatDoor
open Go.RowKit Go.Shelf Go.Proofs.YtignanmmgaldeaaGreatDoorW.PrintWords
def Mag(w:World)(v:Value)(x:Int)(L:Nat):Prop:=∃A n c xs,v= .slice A n c∧RI w.heap.size w A n xs∧limbs xs∧topped xs∧n≤c∧True∧n≤L∧lval xs=x
def NumV(w:World)(v:Value)(z:Int)(L:Nat):Prop:=∃b u x,v= .agg #[.bool b,u]∧Mag w u x L∧z=if b then -x else x
theorem Mag.below{w w1:World}{v:Value}{x:Int}{L:Nat}(h:Mag w v x L)(hb:Below w.heap.size w w1):Mag w1 v x L:=by
 obtain⟨A,n,c,xs,rfl,h1,h2,h3,h4,h5,h6,h7⟩:=h;exact⟨A,n,c,xs,rfl,(h1.below hb).mono hb.size,h2,h3,h4,h5,h6,h7⟩
theorem NumV.below{w w1:World}{v:Value}{z:Int}{L:Nat}(h:NumV w v z L)(hb:Below w.heap.size w w1):NumV w1 v z L:=by
 obtain⟨b,u,x,rfl,h1,h2⟩:=h;exact⟨b,u,x,rfl,h1.below hb,h2⟩
theorem Mag.more{w:World}{v:Value}{x:Int}{L M:Nat}(h:Mag w v x L)(hM:L≤M):Mag w v x M:=by
 obtain⟨A,n,c,xs,rfl,h1,h2,h3,h4,h5,h6,h7⟩:=h;exact⟨A,n,c,xs,rfl,h1,h2,h3,h4,h5,by omega,h7⟩
theorem NumV.more{w:World}{v:Value}{z:Int}{L M:Nat}(h:NumV w v z L)(hM:L≤M):NumV w v z M:=by
 obtain⟨b,u,x,rfl,h1,h2⟩:=h;exact⟨b,u,x,rfl,h1.more hM,h2⟩
theorem Mag.nonneg{w:World}{v:Value}{x:Int}{L:Nat}(h:Mag w v x L):0≤x:=by
 obtain⟨A,n,c,xs,rfl,h1,h2,h3,h4,h5,h6,h7⟩:=h;rw[←h7];exact rJ h2
theorem tl_get(l:List Int)(j:Nat)(h:j<tlen l l.length):(tl l)[j]?.getD 0=l[j]?.getD 0:=aAk l _ j h
theorem oD{w:World}{A:Option Addr}{l:List Int}{c:Nat}{x:Int}{L:Nat}(h:lS w .i64 A l.length l)(hA:∀ad,A=some ad→ad.block<w.heap.size)(hl:limbs l)(hc:l.length≤c)(hc2:c≤9223372036854775807)(hL:tlen l l.length≤L)(hx:lval l=x):Mag w (.slice A (tlen l l.length) c) x L:=by
 have hle:=nN l l.length;refine⟨A,_,c,tl l,rfl,⟨aBi l,by have:=h.2.1;omega,fun h0=> ?_⟩,aB4 hl,aE4 l,by omega,trivial,hL,by rw[tl_val,hx]⟩;obtain⟨ad,e,hcell⟩:=h.2.2 aFx;refine⟨ad,e,hA ad e,fun j hj=> ?_⟩;rw[tl_get l j hj,hcell j aFx,List.getD_eq_getElem?_getD]
theorem sum_num(u v:Value)(x y:Int)(L:Nat)(w:World)(hu:NumV w u x L)(hv:NumV w v y L)(hL:L≤1000000) :
 Calls Tryz.prog 81 #[u,v] w fun e w'=>∃r,e= .returned r∧NumV w' r (x+y) (L+1)∧Below w.heap.size w w':=by
 obtain⟨b,u',x',rfl,hm,rfl⟩:=hu;obtain⟨b2,v',y',rfl,hm2,rfl⟩:=hv;obtain⟨A,n,c,xs,rfl,h1,h2,h3,h4,h5,h6,rfl⟩:=hm;obtain⟨B,m,e,ys,rfl,k1,k2,k3,k4,k5,k6,rfl⟩:=hm2
 by_cases hb:b2=b
 ·subst hb
  refine(sum_same A B n m c e xs ys b2 w h1 k1 h2 k2 aFx aFx).mono ?_;rintro E w' ⟨A',c',rfl,hr,hc1,hc2,hA,hB⟩;refine⟨_,rfl,⟨_,_,_,rfl,oD hr (fun ad e=>(hA ad e).2) (plL_limbs xs ys) hc1 hc2 (Nat.le_trans (nN _ _) (plL_le xs ys L (by rw[h1.1];exact h6) (by rw[k1.1];exact k6))) (plL_val h2 k2),?_⟩,hB⟩
  cases b2 <;> simp <;> omega
 ·obtain rfl:b2 = !b:=by cases b <;> cases b2 <;> simp_all
  refine(sum_other A B n m c e xs ys b w h1 k1 h2 k2 aFx aFx).mono ?_;rintro E w' ⟨A',c',rfl,hr,hc1,hc2,hA,hB⟩;refine⟨_,rfl,⟨_,_,_,rfl,oD hr (fun ad e=>(hA ad e).2) (dfL_limbs h2 k2) hc1 hc2 (Nat.le_trans (nN _ _) (Nat.le_succ_of_le (dfL_le xs ys L (by rw[h1.1];exact h6) (by rw[k1.1];exact k6)))) (dfL_val h2 k2 h3 k3),?_⟩,hB⟩;have ho:=(aDe h2 k2 h3 k3).1
  by_cases hlt:lval xs<lval ys
  ·have hd:decide (ordL xs ys<0)=true:=by simpa using ho.2 hlt
   rw[if_pos hlt,hd]
   cases b <;> simp <;> omega
  ·have hd:decide (ordL xs ys<0)=false:=decide_eq_false (fun e=>hlt (ho.1 e))
   rw[if_neg hlt,hd]
   cases b <;> simp <;> omega
theorem aE6:∀(l:List UInt8) (acc:Nat),iP l=true→Lib.decFrom acc l=some (acc*10 ^ l.length+dval l)
 | [],acc,_=>by simp[Lib.decFrom,dval]
 |c::l,acc,h=>by
  simp only[iP,List.all_cons,Bool.and_eq_true] at h;have h1:=(oJ c).1 h.1;have ih:=aE6 l (acc*10+(c.toNat-48)) h.2;rw[Lib.decFrom,Lib.digitVal,if_pos h1]
  dsimp only
  rw[ih,aCh,List.length_cons,Nat.pow_succ,Nat.add_mul]
  congr 1
  rw[show acc*10*10 ^ l.length=acc*(10 ^ l.length*10) from by rw[Nat.mul_assoc,Nat.mul_comm 10]];omega
theorem atoi_dig(l:List UInt8)(h:iP l=true)(h0:l≠ []):Lib.atoi l=some (dval l:Int):=by
 have hd:=aE6 l 0 h
 cases l with
 |nil=>exact absurd rfl h0
 |cons c r=>
  simp only[iP,List.all_cons,Bool.and_eq_true] at h;have h1:=(oJ c).1 h.1;have e1:(c==45)=false:=by simp only[beq_eq_false_iff_ne];intro e;subst e;simp at h1
  have e2:(c==43)=false:=by simp only[beq_eq_false_iff_ne];intro e;subst e;simp at h1
  have e3:((c::r).isEmpty)=false:=rfl
  simp[Lib.atoi,e1,e2,Lib.decNat,hd]
theorem aBa(s:ByteArray)(j:Nat):(pY s j).data.toList=(s.data.toList.take (s.size-9*j)).drop (s.size-9*j-9):=by
 simp[pY,ByteArray.data_extract,Array.toList_extract,List.extract_eq_take_drop,List.drop_take]
 try omega
theorem aF4{l m:List UInt8}(h:iP l=true)(hs:∀c,c∈m→c∈l):iP m=true:=List.all_eq_true.2 fun c hc=>List.all_eq_true.1 h c (hs c hc)
def chV(s:ByteArray)(j:Nat):Int:=(dval (pY s j).data.toList:Int)
theorem chunk_len(s:ByteArray)(j:Nat):(pY s j).data.toList.length≤9:=by rw[aBa];simp;omega
theorem chunk_dig(s:ByteArray)(h:iP s.data.toList=true)(j:Nat):iP (pY s j).data.toList=true:=by
 rw[aBa];exact aF4 h (fun c hc=>List.mem_of_mem_take (List.mem_of_mem_drop hc))
theorem chunk_atoi(s:ByteArray)(h:iP s.data.toList=true)(j:Nat)(hj:j<jL s):Lib.atoi (pY s j).data.toList=some (chV s j):=by
 refine atoi_dig _ (chunk_dig s h j) (fun e=> ?_);have hl:=congrArg List.length e;rw[aBa] at hl;have hz:s.data.toList.length=s.size:=(Lib.size_eq s).symm;unfold jL at hj;simp only[List.length_drop,List.length_take,List.length_nil,hz] at hl;omega
theorem aF5(v:Nat→Int)(k i:Nat):(mO v k)[i]?.getD 0=if i<k then v i else 0:=by
 unfold mO
 by_cases h:i<k
 ·rw[if_pos h,List.getElem?_map,List.getElem?_range h];rfl
 ·rw[if_neg h,List.getElem?_map,List.getElem?_eq_none (by simp;omega)];rfl
theorem chunkL_limbs(s:ByteArray)(h:iP s.data.toList=true)(k:Nat):limbs (mO (chV s) k):=fun i=>by
 rw[aF5]
 split
 ·have h1:=dval_lt _ (chunk_dig s h i)
  have h2:10 ^ (pY s i).data.toList.length≤10 ^ 9:=Nat.pow_le_pow_right aFx (chunk_len s i);unfold chV;have:(10:Nat) ^ 9=1000000000:=by decide
  omega
 ·omega
theorem aEj(s:ByteArray)(K:Nat)(hK:K=jL s):∀k,k≤K→pval (mO (chV s) K) k=(dval (s.data.toList.drop (s.size-9*k)):Int)
 |0,_=>by
  have hz:s.data.toList.length=s.size:=(Lib.size_eq s).symm;rw[Nat.mul_zero,Nat.sub_zero,←hz,List.drop_length];rfl
 |k+1,h=>by
  have hz:s.data.toList.length=s.size:=(Lib.size_eq s).symm;have hk:9*k<s.size:=by unfold jL at hK;omega
  have e:s.data.toList.drop (s.size-9*(k+1))=(pY s k).data.toList++s.data.toList.drop (s.size-9*k):=by
   rw[aBa,show s.size-9*(k+1)=s.size-9*k-9 from by omega];generalize s.data.toList=l at hz ⊢;have h1:l=l.take (s.size-9*k)++l.drop (s.size-9*k):=(List.take_append_drop _ l).symm
   conv=>lhs;rw[h1]
   rw[List.drop_append_of_le_length (by simp;omega)]
  have hl:(s.data.toList.drop (s.size-9*k)).length=9*k:=by simp;omega
  rw[pval,aEj s K hK k aFx,aF5,if_pos aFx,e,aCr,hl]
  have hp:(1000000000:Int) ^ k=((10 ^ (9*k):Nat):Int):=by
   rw[Nat.pow_mul,show(10:Nat) ^ 9=1000000000 from by decide,Int.natCast_pow];rfl
  rw[hp,chV]
  push_cast
  omega
theorem chunks_val(s:ByteArray):lval (mO (chV s) (jL s))=(dval s.data.toList:Int):=by
 rw[lval,aAu,aEj s _ rfl _ (Nat.le_refl _),show s.size-9*jL s=0 from by unfold jL;omega,List.drop_zero]
end Go.Proofs.YtignanmmgaldeaaGreatDoor
