/- Lemmas for the proof. -/
import Derived.Test.YtignanmmgaldeaaGreatDoorYH
import Derived.OpenShut
section
set_option linter.unusedVariables false
set_option linter.unusedSimpArgs false
namespace Go.Proofs.YtignanmmgaldeaaGreatDoor.RefP
open Go.RowKit Go.Proofs.YtignanmmgaldeaaGreatDoor.PRefA Go.Proofs.YtignanmmgaldeaaGreatDoorW.PrintWords Go.Proofs.YtignanmmgaldeaaGreatDoorW.PrintLast
theorem aBj(a:ByteArray)(i:Nat)(c:UInt8)(h:a.data.toList[i]? =some c):bt a i=(c.toNat:Int):=by
 have hl:=(List.getElem?_eq_some_iff.1 h).1;have hs:i<a.size:=by rw[Lib.size_eq];exact hl
 unfold bt;rw[Int.toNat_natCast,dif_pos hs]
 have e:a[i]=c:=by
  have:=(List.getElem?_eq_some_iff.1 h).2;rw[←this,ByteArray.getElem_eq_getElem_data]
  simp
 rw[e]
theorem toList_data(a:ByteArray):a.toList=a.data.toList:=by simp[ByteArray.toList_eq]
theorem form_loop(a:ByteArray)(h:a.size≤140737488351232):∀(k i:Nat),i≤a.size→a.size-i<k→bP.l0 k a i=some (iP (a.data.toList.drop i))
 |0,i,_,hk=>by omega
 |k+1,i,hi,hk=>by
  unfold bP.l0;have hz:=Lib.size_eq a
  by_cases hlt:i<a.size
  ·rw[if_pos aFx,if_pos aFx]
   have hl:i<a.data.toList.length:=by rw[←hz];exact hlt
   have hd:=List.drop_eq_getElem_cons hl;have hb:=aBj a i _ (List.getElem?_eq_getElem hl);generalize a.data.toList[i]=c at hd hb;have ih:=form_loop a h k (i+1) aFx aFx;have hw:wrap64 ((i:Int)+1)=((i+1:Nat):Int):=by unfold wrap64;omega
   rw[hb,hd,hw,ih];show _=some (List.all (c::_) uS);rw[List.all_cons]
   by_cases h1:(c.toNat:Int)<48
   ·have:uS c=false:=by simp[uS];omega
    rw[if_pos h1,this];rfl
   ·by_cases h2:(c.toNat:Int)>57
    ·have:uS c=false:=by simp[uS];omega
     rw[if_neg h1,if_pos h2,this];rfl
    ·have:uS c=true:=by simp[uS];omega
     rw[if_neg h1,if_neg h2,this];rfl
  ·rw[if_neg aFx,List.drop_of_length_le (by rw[←hz];omega)];rfl
theorem form_j1(a:ByteArray)(h:a.size≤140737488351232)(st:Nat)(hst:st≤a.size)(k:Nat)(hk:a.size+2≤k):bP.j1 (k+1) a st=some (!(a.data.toList.drop st).isEmpty && !((a.data.toList.drop st).head? ==some 48)&&iP (a.data.toList.drop st)):=by
 have hz:=Lib.size_eq a;obtain⟨k,rfl⟩:∃j,k=j+1:=⟨k-1,by omega⟩
 simp only[bP.j1]
 by_cases he:st=a.size
 ·rw[if_pos aFx,List.drop_of_length_le (by rw[←hz];omega)]
  simp only[bP.j2];rfl
 ·have hl:st<a.data.toList.length:=by rw[←hz];omega
  have hd:=List.drop_eq_getElem_cons hl;have hb:=aBj a st _ (List.getElem?_eq_getElem hl);have hloop:=form_loop a h k st hst aFx;rw[if_neg aFx,if_pos aFx,if_pos aFx,hb];simp only[bP.j2];rw[hloop];generalize a.data.toList[st]=c at hd hb;rw[hd]
  by_cases hc:c=48
  ·subst hc;rfl
  ·have hc2:c.toNat≠48:=fun e=>hc (aC7 e)
   have h1:((c.toNat:Int)==48)=false:=by simp;omega
   rw[h1]
   simp[hc]
theorem aB6(a:ByteArray)(h:a.size≤140737488351232)(k:Nat)(hk:a.size+2≤k):bP.f (k+2) a=some (canon a.data.toList):=by
 unfold bP.f;have hz:=Lib.size_eq a;rw[toList_data]
 by_cases h48:a.data.toList= [48]
 ·rw[if_pos h48,h48];rfl
 ·rw[if_neg h48,canon_eq]
  by_cases h0:a.size=0
  ·have hn:a.data.toList= []:=List.eq_nil_of_length_eq_zero (by rw[←hz];exact h0)
   rw[if_neg aFx,hn];simp only[bP.j0];rw[if_neg aFz];have:=form_j1 a h 0 aFx k hk;rw[hn] at this;exact this
  ·rw[if_pos aFx]
   try rw[if_pos aFx]
   obtain⟨c,r,hl⟩:∃c r,a.data.toList=c::r:=by
    cases hq:a.data.toList with
    |nil=>rw[hq] at hz;exact absurd hz h0
    |cons c r=>exact⟨c,r,rfl⟩
   have hb:=aBj a 0 c (by rw[hl];rfl);rw[show((0:Nat):Int)=0 from rfl] at hb;simp only[bP.j0];rw[hb]
   by_cases hc:c=45
   ·subst hc
    have e1:Lib.hasPrefix a.data.toList [45]=true:=by rw[hl];simp[Lib.hasPrefix]
    have e2:Lib.trimPrefix a.data.toList [45]=r:=by rw[Lib.trimPrefix,if_pos e1,hl];rfl
    have:=form_j1 a h 1 aFx k hk;rw[if_pos aG0,e1,e2];rw[hl] at this;rw[show((1:Int))=((1:Nat):Int) from rfl,this];show some (!r.isEmpty && !(r.head? ==some 48)&&iP r)=_
    by_cases hr:r= [48]
    ·rw[if_pos hr,hr];rfl
    ·rw[if_neg hr]
   ·have hc2:c.toNat≠45:=fun e=>hc (aC7 e)
    have e1:Lib.hasPrefix a.data.toList [45]=false:=by rw[hl];simp[Lib.hasPrefix,List.isPrefixOf,Ne.symm hc]
    have e2:Lib.trimPrefix a.data.toList [45]=a.data.toList:=by rw[Lib.trimPrefix,if_neg (by rw[e1];simp)]
    have:=form_j1 a h 0 aFx k hk;have h1:((c.toNat:Int)==45)=false:=by simp;omega
    rw[h1,if_neg aG0,e2,if_neg h48];exact this
theorem pG(a:ByteArray)(h0:0<a.size):aH.f a=some (Lib.hasPrefix a.data.toList [45]):=by
 unfold aH.f;have hz:=Lib.size_eq a
 obtain⟨c,r,hl⟩:∃c r,a.data.toList=c::r:=by
  cases hq:a.data.toList with
  |nil=>rw[hq] at hz;exact absurd hz (by simp only[List.length_nil];omega)
  |cons c r=>exact⟨c,r,rfl⟩
 have hb:=aBj a 0 c (by rw[hl];rfl);rw[show((0:Nat):Int)=0 from rfl] at hb;rw[if_pos aFx,hb,hl]
 by_cases hc:c=45
 ·subst hc;rfl
 ·have hc2:c.toNat≠45:=fun e=>hc (aC7 e)
  have h1:((c.toNat:Int)==45)=false:=by simp;omega
  rw[h1];simp[Lib.hasPrefix,List.isPrefixOf,Ne.symm hc]
theorem rF{a:ByteArray}(h:canon a.data.toList=true):0<a.size:=by
 rw[Lib.size_eq]
 cases hl:a.data.toList with
 |nil=>rw[hl] at h;exact absurd h aG0
 |cons c r=>simp
theorem zK(a:ByteArray)(h:a.size≤140737488351232)(h0:0<a.size):fQ.f a=some (digN a:Int):=by
 unfold fQ.f digN;have hz:=Lib.size_eq a;rw[pG a h0,Option.bind_some]
 by_cases hp:Lib.hasPrefix a.data.toList [45]=true
 ·rw[if_pos hp,Lib.trimPrefix,if_pos hp,List.length_drop,←hz]
  show some (wrap64 ((a.size:Int)-1))=some ((a.size-1:Nat):Int)
  congr 1
  unfold wrap64;omega
 ·rw[if_neg hp,Lib.trimPrefix,if_neg hp,←hz]
theorem qM(x:Int):∃s,(text x).data.toList=s++Lib.decDigits x.natAbs∧(s= []∨s= [45])∧(s= [45]↔x<0):=by
 rw[sS];unfold Lib.itoa
 split
 ·rename_i h;exact⟨[45],rfl,.inr rfl,by simp[h]⟩
 ·rename_i h;exact⟨[],by rw[show x.toNat=x.natAbs by omega];rfl,.inl rfl,by simp[h]⟩
theorem sV(L:List Int)(q:Nat):rd L (q:Int)=L[q]?.getD 0:=by
 unfold rd;rw[Int.toNat_natCast,List.getD_eq_getElem?_getD]
def dg(c:UInt8):Int:=(c.toNat:Int)-48
def dL(n:Nat):List Int:=((Lib.decDigits n).reverse).map dg
theorem rC(n:Nat):(dL n).length=(Lib.decDigits n).length:=by simp[dL]
def vD(L:List Int):Nat→Int
 |0=>0
 |q+1=>vD L q+L[q]?.getD 0*10 ^ q
theorem aDl{L M:List Int}:∀q,(∀i,i<q→L[i]?.getD 0=M[i]?.getD 0)→vD L q=vD M q
 |0,_=>rfl
 |q+1,h=>by rw[vD,vD,aDl q (fun i hi=>h i aFx),h q aFx]
theorem vD_dig:∀(D:List UInt8),iP D=true→vD (D.reverse.map dg) D.length=(dval D:Int)
 | [],_=>rfl
 |c::D,h=>by
  simp only[iP,List.all_cons,Bool.and_eq_true] at h;have h1:=(oJ c).1 h.1;have ih:=vD_dig D h.2;have e:((c::D).reverse.map dg)=D.reverse.map dg++ [dg c]:=by simp
  rw[e,List.length_cons,vD];have e1:vD (D.reverse.map dg++ [dg c]) D.length=vD (D.reverse.map dg) D.length:=aDl _ (fun i hi=>by rw[List.getElem?_append_left (by simpa using hi)])
  have e2:(D.reverse.map dg++ [dg c])[D.length]?.getD 0=dg c:=by
   rw[List.getElem?_append_right aFz]
   simp
  rw[e1,e2,ih,aCh];unfold dg;have:((10:Int) ^ D.length)=((10 ^ D.length:Nat):Int):=by rw[Int.natCast_pow];rfl
  rw[this]
  push_cast
  rw[show((c.toNat:Int)-48)=((c.toNat-48:Nat):Int) from by omega];omega
theorem vD_dL(n:Nat):vD (dL n) (dL n).length=(n:Int):=by
 have:=vD_dig (Lib.decDigits n) (lZ n);rw[oK] at this;rw[rC];exact this
def jD(L:List Int):Prop:=∀i:Nat,0≤L[i]?.getD 0∧L[i]?.getD 0<10
theorem qV(n:Nat):jD (dL n):=fun i=>by
 unfold dL
 by_cases h:i<(Lib.decDigits n).length
 ·have hi:i<(Lib.decDigits n).reverse.length:=by simpa using h
  rw[List.getElem?_map,List.getElem?_eq_getElem hi];have hm:(Lib.decDigits n).reverse[i]∈Lib.decDigits n:=List.mem_reverse.1 (List.getElem_mem hi);have:=(oJ _).1 (List.all_eq_true.1 (lZ n) _ hm);simp only[Option.map_some,Option.getD_some];unfold dg;omega
 ·rw[List.getElem?_eq_none (by simpa using h)]
  simp
theorem wI{L:List Int}(h:jD L):∀q,0≤vD L q∧vD L q<10 ^ q
 |0=>by simp[vD]
 |q+1=>by
  have ih:=wI h q;have hq:=h q;rw[vD,Int.pow_succ];have hp:(0:Int)<10 ^ q:=Int.pow_pos aFx;have h1:L[q]?.getD 0*10 ^ q≤9*10 ^ q:=Int.mul_le_mul_of_nonneg_right aFx (Int.le_of_lt hp);have h2:=Int.mul_nonneg hq.1 (Int.le_of_lt hp);omega
theorem aEq(a:ByteArray)(s D:List UInt8)(hs:s= []∨s= [45])(h:a.data.toList=s++D)(hD:iP D=true)(hz:a.size≤100000):∀(q:Nat) (acc:List Int) (k:Nat),q≤D.length→q+2≤k→acc.length+q≤100000→aX.l0 k a acc (((s.length+q:Nat):Int)-1)=some (acc++((D.take q).reverse.map dg))
 |0,acc,k,_,hk,_=>by
  obtain⟨k,rfl⟩:∃j,k=j+1:=⟨k-1,by omega⟩
  rw[aX.l0];rcases hs with rfl|rfl
  ·rw[if_neg aFz];simp
  ·have hsz:=Lib.size_eq a
   rw[h] at hsz;simp only[List.length_append,List.length_cons,List.length_nil] at hsz;have hb:=aBj a 0 45 (by rw[h];rfl);rw[if_pos aFz,if_pos aFz,if_pos (by simp;omega)];rw[show((([45]:List UInt8).length+0:Nat):Int)-1=((0:Nat):Int) from by simp,hb,if_pos (show((UInt8.toNat 45:Nat):Int)=45 from rfl)]
   simp
 |q+1,acc,k,hq,hk,ha=>by
  obtain⟨k,rfl⟩:∃j,k=j+1:=⟨k-1,by omega⟩
  have hsz:=Lib.size_eq a;rw[h,List.length_append] at hsz;have hl:q<D.length:=by omega
  have hsl:s.length≤1:=by rcases hs with rfl|rfl <;> simp
  have hc:a.data.toList[s.length+q]? =some D[q]:=by
   rw[h,List.getElem?_append_right aFx,show s.length+q-s.length=q by omega,List.getElem?_eq_getElem hl]
  have hb:=aBj a (s.length+q) _ hc;have hdig:=(oJ _).1 (List.all_eq_true.1 hD _ (List.getElem_mem hl));have ih:=aEq a s D hs h hD hz q (acc++ [dg D[q]]) k aFx aFx (by simp;omega);rw[aX.l0,show((s.length+(q+1):Nat):Int)-1=((s.length+q:Nat):Int) from by omega];rw[if_pos aFx,if_pos aFx,if_pos aFx,hb,if_neg aFx,if_pos aFx];rw[show((D[q].toNat:Int)-48)%256=dg D[q] from by unfold dg;omega,show wrap64 (((s.length+q:Nat):Int)-1)=((s.length+q:Nat):Int)-1 from by unfold wrap64;omega,ih];rw[List.take_succ_eq_append_getElem hl,List.reverse_append,List.map_append,List.append_assoc];rfl
theorem mQ{x:Int}{m:Nat}(hx:Bd m x)(hm:1≤m)(h4:m≤90000)(k:Nat)(hk:m+3≤k):aX.f k (text x)=some (dL x.natAbs):=by
 obtain⟨s,h1,h2,_⟩:=qM x;have hz:=size_text hx hm;have hd:=kK hx hm;have hsz:=Lib.size_eq (text x);rw[h1,List.length_append] at hsz;have:=aEq (text x) s (Lib.decDigits x.natAbs) h2 h1 (lZ _) aFx (Lib.decDigits x.natAbs).length [] k (Nat.le_refl _) aFx (by simp;omega);unfold aX.f;rw[show wrap64 (((text x).size:Int)-1)=((s.length+(Lib.decDigits x.natAbs).length:Nat):Int)-1 from by unfold wrap64;omega,this,List.take_length,List.nil_append];rfl
def cL(n:Nat):List Int:=if n=0 then[] else dL n
theorem dL_top(n:Nat)(h:n≠0):∃q,(dL n).length=q+1∧(dL n)[q]?.getD 0≠0:=by
 obtain⟨c,l,e,h1,h2⟩:=aB2 n h;refine⟨l.length,by rw[rC,e];rfl,?_⟩;unfold dL;rw[e,List.reverse_cons,List.map_append,List.getElem?_append_right aFz]
 simp
 unfold dg;omega
def wD(u:Nat):List UInt8:=if u=0 then[] else Lib.decDigits u
theorem wD_step(u:Nat)(h:u≠0):wD u=wD (u/10)++ [UInt8.ofNat (48+u%10)]:=by
 unfold wD;rw[if_neg h]
 by_cases h1:u<10
 ·rw[if_pos aFx,kJ h1,show u%10=u by omega];rfl
 ·rw[if_neg aFx,pR h1]
theorem ten_extract:∀d:Fin 10,(⟨#[48,49,50,51,52,53,54,55,56,57]⟩:ByteArray).extract d.val (d.val+1)=⟨#[UInt8.ofNat (48+d.val)]⟩:=by decide
theorem tmod_ten(m:Int):mx (Int.tmod m 10) (wrap64 (-(Int.tmod m 10)))=((m.natAbs%10:Nat):Int):=by
 have h:(0≤m∧Int.tmod m 10=m%10)∨(m<0∧Int.tmod m 10= -((-m)%10)):=by
  by_cases h0:0≤m
  ·exact .inl ⟨h0,Int.tmod_eq_emod_of_nonneg h0⟩
  ·refine .inr ⟨by omega,?_⟩
   have:=Int.neg_tmod (a:= -m) (b:=10);rw[Int.neg_neg] at this;rw[this,Int.tmod_eq_emod_of_nonneg aFx]
 unfold mx wrap64;rcases h with ⟨h1,h2⟩|⟨h1,h2⟩ <;> rw[h2] <;> split <;> omega
theorem tdiv_ten(m:Int):(Int.tdiv m 10).natAbs=m.natAbs/10:=by
 rw[Int.natAbs_tdiv];rfl
theorem aFh(n:Int):∀(k u F:Nat) (m:Int) (acc:ByteArray),m.natAbs=u→u≤9223372036854775808→u<10 ^ k→acc.size+k≤1000→k+1≤F→∃r,dW.l0 F n acc m=some r∧r.data.toList=(if n<0 then[45] else[])++(wD u++acc.data.toList)
 |k,0,F,m,acc,hm,_,_,ha,hF=>by
  obtain⟨F,rfl⟩:∃i,F=i+1:=⟨F-1,by omega⟩
  obtain rfl:m=0:=by omega
  rw[dW.l0,if_pos rfl]
  by_cases hn:n<0
  ·rw[if_pos hn,if_pos hn,if_pos aFx]
   exact⟨_,rfl,by simp[wD]⟩
  ·rw[if_neg hn,if_neg hn]
   exact⟨_,rfl,by simp[wD]⟩
 |0,u+1,F,m,acc,hm,_,hk,_,_=>by simp at hk
 |k+1,u+1,F,m,acc,hm,hu,hk,ha,hF=>by
  obtain⟨F,rfl⟩:∃i,F=i+1:=⟨F-1,by omega⟩
  have hlt:(u+1)/10<10 ^ k:=by
   rw[Nat.pow_succ] at hk;exact Nat.div_lt_of_lt_mul (by rw[Nat.mul_comm];exact hk)
  have hul:(u+1)/10≤9223372036854775808:=by clear hk hlt;omega
  clear hk;have hm0:m≠0:=by intro q;rw[q] at hm;cases hm
  have hd:(m.natAbs%10:Nat)<10:=Nat.mod_lt _ (Nat.zero_lt_succ 9);have hx:=ten_extract ⟨m.natAbs%10,hd⟩;have hw1:wrap64 (((m.natAbs%10:Nat):Int)+1)=((m.natAbs%10+1:Nat):Int):=by clear hlt;unfold wrap64;omega
  have hb: -9223372036854775808≤Int.tdiv m 10∧Int.tdiv m 10≤9223372036854775807:=by have:=tdiv_ten m;clear hlt hx;omega
  have hw2:wrap64 (Int.tdiv m 10)=Int.tdiv m 10:=by clear hlt hx;unfold wrap64;omega
  rw[dW.l0,if_neg hm0,tmod_ten,hw1,hw2];have hp1:(0:Int)≤((m.natAbs%10:Nat):Int):=Int.natCast_nonneg _;have l9:(⟨#[UInt8.ofNat (48+m.natAbs%10)]⟩:ByteArray).size=1:=rfl
  have hrest:∃r,dW.l0 F n (⟨#[UInt8.ofNat (48+m.natAbs%10)]⟩++acc) (Int.tdiv m 10)=some r∧r.data.toList=(if n<0 then[45] else[])++(wD (u+1)++acc.data.toList):=by
   obtain⟨r,h1,h2⟩:=aFh n k ((u+1)/10) F (Int.tdiv m 10) (⟨#[UInt8.ofNat (48+m.natAbs%10)]⟩++acc) (by rw[tdiv_ten,hm]) hul hlt (by rw[ByteArray.size_append,l9];clear hlt;omega) (by clear hlt;omega);refine⟨r,h1,?_⟩;rw[h2,wD_step (u+1) (Nat.succ_ne_zero u),hm]
   simp
  clear hlt;rw[show(((m.natAbs%10:Nat):Int)).toNat=m.natAbs%10 from Int.toNat_natCast _,show(((m.natAbs%10+1:Nat):Int)).toNat=m.natAbs%10+1 from Int.toNat_natCast _];rw[show(⟨#[48,49,50,51,52,53,54,55,56,57]⟩:ByteArray).extract (m.natAbs%10) (m.natAbs%10+1)=⟨#[UInt8.ofNat (48+m.natAbs%10)]⟩ from hx];clear hx;rw[if_pos aFx,if_pos aFx]
  first
   |exact hrest
   |(rw[if_pos aFx,if_pos (by rw[l9];omega)];exact hrest)
theorem aBr(n:Int)(h1: -9223372036854775808≤n)(h2:n≤9223372036854775807)(k:Nat)(hk:30≤k):dW.f k n=some (text n):=by
 unfold dW.f
 by_cases h0:n=0
 ·rw[if_pos h0,h0,vC]
 ·rw[if_neg h0]
  have hb:n.natAbs<10 ^ 20:=Nat.lt_of_lt_of_le (show n.natAbs<100000000000000000000 by omega) (by decide +kernel);obtain⟨r,e1,e2⟩:=aFh n 20 n.natAbs k n ⟨#[]⟩ rfl (by clear hb;omega) hb aG0 aFx;clear hb;rw[e1]
  congr 1
  refine nZ ?_;rw[e2,sS];unfold wD Lib.itoa;rw[if_neg (show ¬n.natAbs=0 by omega)]
  by_cases hn:n<0
  ·simp[hn]
  ·simp[hn,show n.toNat=n.natAbs by omega]
theorem num_step(V c:Nat)(hV:V<100000000000000000)(h1:48≤c)(h2:c≤57):wrap64 (wrap64 ((V:Int)*10)+((c:Int)-48)%256)=((V*10+(c-48):Nat):Int):=by unfold wrap64;omega
theorem small17(V:Nat){l:Nat}(h:V<10 ^ l)(hl:l≤17):V<100000000000000000:=
 Nat.lt_of_lt_of_le h (Nat.le_trans (Nat.pow_le_pow_right (Nat.zero_lt_succ 9) hl) (by decide +kernel))
theorem number_loop(a:ByteArray)(s D:List UInt8)(hs:s.length≤1)(h:a.data.toList=s++D)(hD:iP D=true)(hl:D.length≤17)(q:Nat):∀(j k:Nat),j+q=D.length→q+1≤k→dM.l0 k a (dval (D.take j):Int) ((s.length+j:Nat):Int)=(aH.f a).bind fun t=>if t=true then some (wrap64 (-(dval D:Int))) else some (dval D:Int):=by
 have hsz:=Lib.size_eq a;rw[h,List.length_append] at hsz
 induction q with
 |zero=>
  intro j k hj hk;obtain⟨k,rfl⟩:∃i,k=i+1:=⟨k-1,by omega⟩
  rw[dM.l0,if_neg aFx,show D.take j=D from List.take_of_length_le aFx]
 |succ q IH=>
  intro j k hj hk;obtain⟨k,rfl⟩:∃i,k=i+1:=⟨k-1,by omega⟩
  have hlt:j<D.length:=by omega
  have hc:a.data.toList[s.length+j]? =some D[j]:=by
   rw[h,List.getElem?_append_right aFx,show s.length+j-s.length=j by omega,List.getElem?_eq_getElem hlt]
  have hb:=aBj a (s.length+j) _ hc;have c1:((s.length+j:Nat):Int)<(a.size:Int):=by clear IH hb hc;omega
  have c2:(0:Int)≤((s.length+j:Nat):Int):=Int.natCast_nonneg _;have hdig:=(oJ _).1 (List.all_eq_true.1 hD _ (List.getElem_mem hlt));have c3:¬(D[j].toNat:Int)=45:=by clear IH hb hc;omega
  have hdt:iP (D.take j)=true:=aF4 hD (fun c hc=>List.mem_of_mem_take hc)
  have hnx:dval (D.take (j+1))=dval (D.take j)*10+(D[j].toNat-48):=by
   rw[List.take_succ_eq_append_getElem hlt,aE2]
  have e1:=num_step (dval (D.take j)) D[j].toNat (small17 _ (dval_lt _ hdt) (by rw[List.length_take];omega)) hdig.1 hdig.2;rw[←hnx] at e1;have e2:wrap64 (((s.length+j:Nat):Int)+1)=((s.length+(j+1):Nat):Int):=by clear e1 hdig hb hc IH;unfold wrap64;omega
  have ih:=IH (j+1) k aFx aFx;rw[dM.l0,if_pos c1,if_pos c2,hb,if_neg c3,e1,e2,ih]
theorem yC{x:Int}(hx:Bd 17 x)(k:Nat)(hk:25≤k):dM.f k (text x)=some x:=by
 obtain⟨s,h1,h2,h3⟩:=qM x;have hd:=kK hx aFx;have hne:=mV x.natAbs
 have hsz:0<(text x).size:=by
  rw[Lib.size_eq,h1,List.length_append];have:=List.length_pos_iff.2 hne;omega
 have hsl:s.length≤1:=by rcases h2 with rfl|rfl <;> simp
 have hxx:x.natAbs<100000000000000000:=Nat.lt_of_lt_of_le hx (by decide +kernel);clear hx;unfold dM.f
 have fin:∀k,(Lib.decDigits x.natAbs).length+1≤k→dM.l0 k (text x) 0 ((s.length:Nat):Int)=some x:=fun k hk=>by
  have:=number_loop (text x) s _ hsl h1 (lZ _) hd (Lib.decDigits x.natAbs).length 0 k aFx hk;rw[oK] at this;have e0:(dval ((Lib.decDigits x.natAbs).take 0):Int)=0:=rfl;rw[e0,Nat.add_zero] at this;rw[this,pG _ hsz,Option.bind_some,h1];rcases h2 with rfl|rfl
  ·have hx0:¬x<0:=fun q=>by have:=h3.2 q;cases this
   have hp:Lib.hasPrefix ([]++Lib.decDigits x.natAbs) [45]=false:=by
    have hm:=lW x.natAbs;rw[List.nil_append];generalize Lib.decDigits x.natAbs=l at hm hne
    cases l with
    |nil=>exact absurd rfl hne
    |cons c r=>
     by_cases hc:c=45
     ·subst hc;exact absurd rfl (hm r)
     ·simp[Lib.hasPrefix,List.isPrefixOf,Ne.symm hc]
   rw[hp,if_neg aFz]
   congr 1
   omega
  ·have hx0:x<0:=h3.1 rfl
   have hp:Lib.hasPrefix ([45]++Lib.decDigits x.natAbs) [45]=true:=by simp[Lib.hasPrefix]
   rw[hp,if_pos rfl]
   congr 1
   unfold wrap64;omega
 rcases h2 with rfl|rfl
 ·exact fin k aFx
 ·obtain⟨k,rfl⟩:∃i,k=i+1:=⟨k-1,by omega⟩
  have hb:=aBj (text x) 0 45 (by rw[h1];rfl);rw[show((0:Nat):Int)=0 from rfl] at hb;rw[dM.l0,if_pos aFx,if_pos aFx,hb,if_pos (show((UInt8.toNat 45:Nat):Int)=45 from rfl),show wrap64 (0+1)=1 from by decide +kernel];exact fin k aFx
def hv:List Int→Int
 | []=>0
 |d::T=>d+10*hv T
theorem vD_cons(d:Int)(T:List Int):∀q,vD (d::T) (q+1)=d+10*vD T q
 |0=>by simp[vD]
 |q+1=>by
  have ih:=vD_cons d T q;have e1:vD (d::T) (q+1+1)=vD (d::T) (q+1)+T[q]?.getD 0*10 ^ (q+1):=rfl;have e2:vD T (q+1)=vD T q+T[q]?.getD 0*10 ^ q:=rfl;rw[e1,e2,ih,Int.pow_succ,Int.mul_add];have:T[q]?.getD 0*(10 ^ q*10)=10*(T[q]?.getD 0*10 ^ q):=by ac_rfl
  omega
theorem tJ:∀L,vD L L.length=hv L
 | []=>rfl
 |d::T=>by rw[List.length_cons,vD_cons,tJ T];rfl
theorem cL_wD(n:Nat):cL n=((wD n).reverse).map dg:=by
 unfold cL wD dL
 by_cases h:n=0
 ·rw[if_pos h,if_pos h];rfl
 ·rw[if_neg h,if_neg h]
theorem dg_of(d:Nat)(h:d<10):dg (UInt8.ofNat (48+d))=(d:Int):=by
 have:∀d:Fin 10,dg (UInt8.ofNat (48+d.val))=(d.val:Int):=by decide
 exact this ⟨d,h⟩
theorem cL_step(n:Nat)(h:n≠0):cL n=((n%10:Nat):Int)::cL (n/10):=by
 rw[cL_wD,cL_wD,wD_step n h,List.reverse_append,List.map_append];show[dg (UInt8.ofNat (48+n%10))]++_=_;rw[dg_of _ (Nat.mod_lt _ aFx)];rfl
def topd(L:List Int):Prop:=L= []∨L[L.length-1]?.getD 0≠0
theorem cL_uniq:∀(L:List Int) (n:Nat),jD L→topd L→hv L=(n:Int)→L=cL n
 | [],n,_,_,h=>by
   have h':(0:Int)=(n:Int):=h;obtain rfl:n=0:=by omega
   rfl
 |d::T,n,hd,ht,h=>by
  have h0:=hd 0;simp only[List.getElem?_cons_zero,Option.getD_some] at h0;have hT:jD T:=fun i=>by have:=hd (i+1);rwa [List.getElem?_cons_succ] at this
  have htT:topd T:=by
   cases T with
   |nil=>exact .inl rfl
   |cons e R=>
    refine .inr ?_;rcases ht with ht|ht
    ·cases ht
    ·simpa using ht
  have hv0:d+10*hv T=(n:Int):=h;have hn:0≤hv T:=by have:=(wI hT T.length).1;rwa [tJ] at this
  have hne:n≠0:=by
   intro q;have e:=cL_uniq T 0 hT htT aFx;rcases ht with ht|ht
   ·cases ht
   ·apply ht
    rw[e];show((d::([]:List Int))[(d::([]:List Int)).length-1]?).getD 0=0;show d=0;omega
  have ih:=cL_uniq T (n/10) hT htT aFx;rw[cL_step n hne,←ih,show((n%10:Nat):Int)=d from by omega]
theorem cut_loop(L:List Int)(hL:L.length≤100000):∀(q k:Nat),q≤L.length→q+1≤k→∃n,n≤q∧aU.l0 k L (q:Int)=some (L.take n)∧(n=0∨L[n-1]?.getD 0≠0)∧vD L n=vD L q
 |0,k,_,hk=>by
  obtain⟨k,rfl⟩:∃j,k=j+1:=⟨k-1,by omega⟩
  refine⟨0,Nat.le_refl _,?_,.inl rfl,rfl⟩;rw[aU.l0,if_neg aFz,if_pos aFz,if_pos aFz];rfl
 |q+1,k,hq,hk=>by
  obtain⟨k,rfl⟩:∃j,k=j+1:=⟨k-1,by omega⟩
  have hw:wrap64 (((q+1:Nat):Int)-1)=(q:Int):=by unfold wrap64;omega
  rw[aU.l0,if_pos aFx,hw,if_pos aFx,if_pos aFx,sV]
  by_cases h0:L[q]?.getD 0=0
  ·obtain⟨n,h1,h2,h3,h4⟩:=cut_loop L hL q k aFx aFx
   rw[if_pos h0];exact⟨n,by omega,h2,h3,by rw[h4,vD,h0,Int.zero_mul,Int.add_zero]⟩
  ·rw[if_neg h0,if_pos aFx,if_pos aFx]
   exact⟨q+1,Nat.le_refl _,by rw[Int.toNat_natCast],.inr h0,rfl⟩
theorem aBz{L:List Int}(hd:jD L)(hL:L.length≤100000)(n:Nat)(hn:hv L=(n:Int))(k:Nat)(hk:L.length+1≤k):aU.f k L=some (cL n)∧(cL n).length≤L.length:=by
 obtain⟨m,h1,h2,h3,h4⟩:=cut_loop L hL L.length k (Nat.le_refl _) hk;have hlen:(L.take m).length=m:=by rw[List.length_take];omega
 have hget:∀i,i<m→(L.take m)[i]?.getD 0=L[i]?.getD 0:=fun i hi=>by rw[List.getElem?_take,if_pos hi]
 have e:L.take m=cL n:=by
  refine cL_uniq _ n ?_ ?_ ?_
  ·intro i
   by_cases hi:i<m
   ·rw[hget i hi];exact hd i
   ·rw[List.getElem?_eq_none (by rw[hlen];omega)];simp
  ·by_cases hm:m=0
   ·exact .inl (by rw[hm];rfl)
   ·refine .inr ?_
    rw[hlen,hget (m-1) aFx];rcases h3 with h3|h3
    ·exact absurd h3 hm
    ·exact h3
  ·rw[←tJ,hlen,aDl m hget,h4,tJ,hn]
 unfold aU.f;rw[h2,e];exact⟨rfl,by rw[←e,hlen];exact h1⟩
theorem aEc(D:List UInt8)(hD:iP D=true)(hl:D.length≤100000):∀(q:Nat) (acc:List Int) (k:Nat),q≤D.length→acc.length+q≤200000→q+1≤k→bV.l0 k (D.reverse.map dg) acc ((q:Int)-1)=some (strOfNums (acc++(D.drop (D.length-q)).map fun c=>(c.toNat:Int)))
 |0,acc,k,_,_,hk=>by
  obtain⟨k,rfl⟩:∃j,k=j+1:=⟨k-1,by omega⟩
  rw[bV.l0,if_neg aFz]
  simp
 |q+1,acc,k,hq,ha,hk=>by
  obtain⟨k,rfl⟩:∃j,k=j+1:=⟨k-1,by omega⟩
  have hi:D.length-(q+1)<D.length:=by omega
  have hdr:=List.drop_eq_getElem_cons hi;rw[show D.length-(q+1)+1=D.length-q by omega] at hdr;have hdig:=(oJ _).1 (List.all_eq_true.1 hD _ (List.getElem_mem hi))
  have hg:(D.reverse.map dg)[q]?.getD 0=dg D[D.length-(q+1)]:=by
   rw[List.getElem?_map,List.getElem?_reverse aFx,show D.length-1-q=D.length-(q+1) by omega,List.getElem?_eq_getElem hi];rfl
  have ih:=aEc D hD hl q (acc++ [(D[D.length-(q+1)].toNat:Int)]) k aFx (by simp;omega) aFx;have e1:wrap64 (48+dg D[D.length-(q+1)])%256=(D[D.length-(q+1)].toNat:Int):=by clear ih hg hdr;unfold dg wrap64;omega
  rw[bV.l0,show((q+1:Nat):Int)-1=(q:Int) from by omega];rw[if_pos aFx,if_pos aFx,if_pos (by rw[List.length_map,List.length_reverse];omega),if_pos aFx,sV,hg,e1,show wrap64 ((q:Int)-1)=(q:Int)-1 from by clear ih hg hdr e1;unfold wrap64;omega,ih,hdr]
  simp
theorem aCc{L:List Int}(hd:jD L)(hL:L.length≤100000)(n:Nat)(hn:hv L=(n:Int))(s:Bool)(k:Nat)(hk:L.length+5≤k):bV.f k L s=some (text (if s=true then -(n:Int) else(n:Int))):=by
 obtain⟨h1,h2⟩:=aBz hd hL n hn k aFx;unfold bV.f;rw[h1,Option.bind_some]
 by_cases h0:n=0
 ·subst h0
  rw[show cL 0= [] from rfl,if_pos (show((([]:List Int).length:Nat):Int)=0 from rfl)];rw[show(if s=true then -((0:Nat):Int) else((0:Nat):Int))=0 from by cases s <;> rfl,vC]
 ·have e:cL n=(Lib.decDigits n).reverse.map dg:=by rw[cL_wD,wD,if_neg h0]
  have hl:(Lib.decDigits n).length=(cL n).length:=by rw[e];simp
  have hp:0<(Lib.decDigits n).length:=List.length_pos_iff.2 (mV n);obtain⟨k,rfl⟩:∃j,k=j+1:=⟨k-1,by omega⟩
  have hw:wrap64 (((cL n).length:Int)-1)=((Lib.decDigits n).length:Int)-1:=by rw[hl];unfold wrap64;omega
  rw[if_neg aFx]
  cases s with
  |true=>
   have ml:=aEc (Lib.decDigits n) (lZ n) aFx (Lib.decDigits n).length [45] k (Nat.le_refl _) (by simp;omega) aFx;rw[if_pos rfl,if_pos aG0,bV.j0,hw,e,List.nil_append,ml]
   congr 1
   refine nZ ?_;rw[strOfNums_data,sS,if_pos rfl];unfold Lib.itoa;rw[if_pos aFx,Int.natAbs_neg,Int.natAbs_natCast]
   simp[Function.comp_def]
  |false=>
   have ml:=aEc (Lib.decDigits n) (lZ n) aFx (Lib.decDigits n).length [] k (Nat.le_refl _) (by simp;omega) aFx;rw[if_neg aFz,bV.j0,hw,e,ml]
   congr 1
   refine nZ ?_;rw[strOfNums_data,sS,if_neg aFz];unfold Lib.itoa;rw[if_neg aFx,Int.toNat_natCast]
   simp[Function.comp_def]
theorem vD_set{L:List Int}{i:Nat}(hi:i<L.length)(x:Int):∀q,vD (L.set i x) q=vD L q+(if i<q then(x-L[i]?.getD 0)*10 ^ i else 0)
 |0=>by simp[vD]
 |q+1=>by
  rw[vD,vD,vD_set hi x q]
  by_cases h:i=q
  ·subst h
   rw[if_neg aFx,if_pos aFx,List.getElem?_set_self hi];simp only[Option.getD_some];rw[Int.sub_mul];omega
  ·rw[List.getElem?_set_ne h]
   by_cases h2:i<q
   ·rw[if_pos h2,if_pos aFx];omega
   ·rw[if_neg h2,if_neg aFx];omega
theorem hv_set{L:List Int}{i:Nat}(hi:i<L.length)(x:Int):hv (L.set i x)=hv L+(x-L[i]?.getD 0)*10 ^ i:=by
 rw[←tJ,←tJ,List.length_set,vD_set hi,if_pos hi]
theorem digs_set{L:List Int}(h:jD L)(i:Nat){x:Int}(h0:0≤x)(h1:x<10):jD (L.set i x):=fun j=>by
 rw[List.getElem?_set]
 by_cases e:i=j
 ·rw[if_pos e]
  by_cases hl:i<L.length
  ·rw[if_pos hl];exact⟨h0,h1⟩
  ·rw[if_neg hl];simp
 ·rw[if_neg e];exact h j
theorem times_alg(o m c a B V b Q R c1:Int)(h:m+10*c1=c+(o+a*b)):(m-o)*(Q*R)+c1*((Q*R)*10)+a*(B-(V+b*R))*Q=c*(Q*R)+a*(B-V)*Q:=by
 obtain rfl:m=c+(o+a*b)-10*c1:=by omega
 simp only[Int.sub_mul,Int.mul_sub,Int.add_mul,Int.mul_add];have e1:a*(b*R)*Q=a*b*(Q*R):=by ac_rfl
 have e2:c1*(Q*R*10)=10*c1*(Q*R):=by ac_rfl
 omega
theorem times_in{a b:List Int}(ha:jD a)(hb:jD b)(hla:a.length≤10000)(hlb:b.length≤10000)(i:Nat)(hi:i<a.length):∀(r j:Nat) (out:List Int) (c:Int) (k:Nat),j+r=b.length→jD out→out.length=a.length+b.length→0≤c→c<10→r+1≤k→(∀p,i+b.length≤p→out[p]?.getD 0=0) →
 ∃out',jD out'∧out'.length=a.length+b.length∧(∀p,i+1+b.length≤p→out'[p]?.getD 0=0)∧hv out'=hv out+(c*(10 ^ i*10 ^ j)+a[i]?.getD 0*(vD b b.length-vD b j)*10 ^ i)∧dU.l1 k a b out (i:Int) c (j:Int)=dU.l0 (k-(r+1)) a b out' ((i+1:Nat):Int)
 |0,j,out,c,k,hj,ho,hl,hc0,hc1,hk,hz=>by
  obtain⟨k,rfl⟩:∃q,k=q+1:=⟨k-1,by omega⟩
  have hw:wrap64 ((i:Int)+(b.length:Int))=((i+b.length:Nat):Int):=by unfold wrap64;omega
  have hw1:wrap64 ((i:Int)+1)=((i+1:Nat):Int):=by unfold wrap64;omega
  refine⟨out.set (i+b.length) c,digs_set ho _ hc0 hc1,by rw[List.length_set];exact hl,fun p hp=> ?_,?_,?_⟩
  ·rw[List.getElem?_set_ne aFx];exact hz p aFx
  ·rw[hv_set aFx,hz _ (Nat.le_refl _),show j=b.length by omega,Int.sub_self,Int.mul_zero,Int.zero_mul,Int.add_zero,Int.sub_zero,Int.pow_add]
  ·rw[dU.l1,if_neg aFx,hw,if_pos aFx,if_pos aFx,hw1,Int.toNat_natCast]
   rfl
 |r+1,j,out,c,k,hj,ho,hl,hc0,hc1,hk,hz=>by
  obtain⟨k,rfl⟩:∃q,k=q+1:=⟨k-1,by omega⟩
  have hw:wrap64 ((i:Int)+(j:Int))=((i+j:Nat):Int):=by unfold wrap64;omega
  have hw1:wrap64 ((j:Int)+1)=((j+1:Nat):Int):=by unfold wrap64;omega
  have bo:=ho (i+j);have ba:=ha i;have bb:=hb j;generalize ea:a[i]?.getD 0=A at ba;generalize eb:b[j]?.getD 0=B at bb;generalize eo:out[i+j]?.getD 0=o at bo;have hp1:0≤A*B:=Int.mul_nonneg ba.1 bb.1;have hp2:A*B≤9*9:=Int.mul_le_mul aFx aFx bb.1 aFx;have e1:wrap64 (A*B)=A*B:=by generalize A*B=P at hp1 hp2;unfold wrap64;omega
  have e2:wrap64 (o+A*B)=o+A*B:=by generalize A*B=P at hp1 hp2;unfold wrap64;omega
  have e3:wrap64 (c+(o+A*B))=c+(o+A*B):=by generalize A*B=P at hp1 hp2;unfold wrap64;omega
  have t0:0≤c+(o+A*B):=by omega
  have t1:c+(o+A*B)<100:=by omega
  have e4:Int.tmod (c+(o+A*B)) 10=(c+(o+A*B))%10:=Int.tmod_eq_emod_of_nonneg t0;have e5:Int.tdiv (c+(o+A*B)) 10=(c+(o+A*B))/10:=Int.tdiv_eq_ediv_of_nonneg t0;have e6:wrap64 ((c+(o+A*B))/10)=(c+(o+A*B))/10:=by generalize c+(o+A*B)=T at t0 t1;unfold wrap64;omega
  have hm:(c+(o+A*B))%10+10*((c+(o+A*B))/10)=c+(o+A*B):=by omega
  have m0:0≤(c+(o+A*B))%10:=by omega
  have m1:(c+(o+A*B))%10<10:=by omega
  have d0:0≤(c+(o+A*B))/10:=by omega
  have d1:(c+(o+A*B))/10<10:=by omega
  obtain⟨out',q1,q2,q3,q4,q5⟩:=times_in ha hb hla hlb i hi r (j+1) (out.set (i+j) ((c+(o+A*B))%10)) ((c+(o+A*B))/10) k aFx (digs_set ho _ m0 m1) (by rw[List.length_set];exact hl) d0 d1 aFx
   (fun p hp=>by rw[List.getElem?_set_ne aFx];exact hz p aFx)
  refine⟨out',q1,q2,q3,?_,?_⟩
  ·have hs:vD b (j+1)=vD b j+B*10 ^ j:=by rw[vD,eb]
   have al:=times_alg o ((c+(o+A*B))%10) c A (vD b b.length) (vD b j) B (10 ^ i) (10 ^ j) ((c+(o+A*B))/10) hm;rw[q4,hv_set aFx,eo,ea,hs,Int.pow_add,Int.pow_succ,←Int.mul_assoc (10 ^ i) (10 ^ j) 10];omega
  ·rw[dU.l1,if_pos aFx,hw,if_pos aFx,if_pos aFx,if_pos aFx,if_pos aFx,if_pos aFx,hw1,Int.toNat_natCast,sV,sV,sV,ea,eb,eo,e1,e2,e3,e4,e5,e6,q5]
   rw[show k+1-(r+1+1)=k-(r+1) by omega]
theorem times_out{a b:List Int}(ha:jD a)(hb:jD b)(hla:a.length≤10000)(hlb:b.length≤10000)(N:Nat):∀(r i:Nat) (out:List Int) (k:Nat),i+r=a.length→jD out→out.length=a.length+b.length→(∀p,i+b.length≤p→out[p]?.getD 0=0)→r*(b.length+2)+(a.length+b.length)+2≤k→hv out+(vD a a.length-vD a i)*vD b b.length=(N:Int)→dU.l0 k a b out (i:Int)=some (cL N)∧(cL N).length≤a.length+b.length
 |0,i,out,k,hi,ho,hl,hz,hk,hN=>by
  obtain⟨k,rfl⟩:∃q,k=q+1:=⟨k-1,by omega⟩
  obtain rfl:i=a.length:=by omega
  rw[Int.sub_self,Int.zero_mul,Int.add_zero] at hN;obtain⟨h1,h2⟩:=aBz ho aFx N hN k aFx;rw[dU.l0,if_neg aFx,h1,Option.bind_some];exact⟨rfl,by omega⟩
 |r+1,i,out,k,hi,ho,hl,hz,hk,hN=>by
  rw[Nat.succ_mul] at hk;obtain⟨k,rfl⟩:∃q,k=q+1:=⟨k-1,by omega⟩
  obtain⟨out',q1,q2,q3,q4,q5⟩:=times_in ha hb hla hlb i aFx b.length 0 out 0 k aFx ho hl aFx aFx aFx hz;have e0:vD b 0=0:=rfl;rw[e0,Int.sub_zero,Int.zero_mul,Int.zero_add] at q4;have hs:vD a (i+1)=vD a i+a[i]?.getD 0*10 ^ i:=rfl
  have ih:=times_out ha hb hla hlb N r (i+1) out' (k-(b.length+1)) aFx q1 q2 q3 aFx (by
   rw[q4,hs,←hN];rw[Int.sub_mul,Int.sub_mul,Int.add_mul];have:a[i]?.getD 0*vD b b.length*10 ^ i=a[i]?.getD 0*10 ^ i*vD b b.length:=by ac_rfl
   omega)
  rw[dU.l0,if_pos aFx];rw[show((0:Nat):Int)=0 from rfl] at q5;rw[q5];exact ih
theorem times_val{a b:List Int}(ha:jD a)(hb:jD b)(hla:a.length≤10000)(hlb:b.length≤10000)(N:Nat)(hN:hv a*hv b=(N:Int))(k:Nat)(hk:a.length*(b.length+2)+(a.length+b.length)+2≤k):dU.f k a b=some (cL N)∧(cL N).length≤a.length+b.length:=by
 have hw:wrap64 ((a.length:Int)+(b.length:Int))=((a.length+b.length:Nat):Int):=by clear hk;unfold wrap64;omega
 unfold dU.f;rw[hw,if_pos aFx,Int.toNat_natCast,if_pos aFx]
 have hr:∀p:Nat,(List.replicate (a.length+b.length) (0:Int))[p]?.getD 0=0:=fun p=>by
  rw[List.getElem?_replicate];split <;> rfl
 have h0:∀q,vD (List.replicate (a.length+b.length) (0:Int)) q=0:=fun q=>by
  induction q with
  |zero=>rfl
  |succ q ih=>rw[vD,ih,hr,Int.zero_mul];rfl
 have hh:hv (List.replicate (a.length+b.length) (0:Int))=0:=by rw[←tJ,h0]
 exact times_out ha hb hla hlb N a.length 0 (List.replicate (a.length+b.length) 0) k aFx (fun p=>by rw[hr];omega) (List.length_replicate) (fun p _=>hr p) hk (by
  rw[hh,tJ,tJ,←hN];show 0+(hv a-0)*hv b=_
  rw[Int.sub_zero,Int.zero_add])
theorem pre_text(x:Int):Lib.hasPrefix (text x).data.toList [45]=decide (x<0):=by
 obtain⟨s,h1,h2,h3⟩:=qM x;have hne:=mV x.natAbs;rw[h1];rcases h2 with rfl|rfl
 ·have hx0:¬x<0:=fun q=>by have:=h3.2 q;cases this
  have hm:=lW x.natAbs;rw[decide_eq_false hx0,List.nil_append];generalize Lib.decDigits x.natAbs=l at hm hne
  cases l with
  |nil=>exact absurd rfl hne
  |cons c r=>
   by_cases hc:c=45
   ·subst hc;exact absurd rfl (hm r)
   ·simp[Lib.hasPrefix,List.isPrefixOf,Ne.symm hc]
 ·rw[decide_eq_true (h3.1 rfl)]
  simp[Lib.hasPrefix]
theorem sign_mul(x y:Int):(if(decide (x<0) != decide (y<0))=true then -((x.natAbs*y.natAbs:Nat):Int) else((x.natAbs*y.natAbs:Nat):Int))=x*y:=by
 rw[Int.natCast_mul]
 by_cases hx:x<0
 ·have ex:(x.natAbs:Int)= -x:=by omega
  by_cases hy:y<0
  ·have ey:(y.natAbs:Int)= -y:=by omega
   rw[ex,ey,decide_eq_true hx,decide_eq_true hy,if_neg aFz,Int.neg_mul_neg]
  ·have ey:(y.natAbs:Int)=y:=by omega
   rw[ex,ey,decide_eq_true hx,decide_eq_false hy,if_pos aG0,Int.neg_mul,Int.neg_neg]
 ·have ex:(x.natAbs:Int)=x:=by omega
  by_cases hy:y<0
  ·have ey:(y.natAbs:Int)= -y:=by omega
   rw[ex,ey,decide_eq_false hx,decide_eq_true hy,if_pos aG0,Int.mul_neg,Int.neg_neg]
  ·have ey:(y.natAbs:Int)=y:=by omega
   rw[ex,ey,decide_eq_false hx,decide_eq_false hy,if_neg aFz]
theorem yD(n:Nat):jD (cL n):=by
 unfold cL
 split
 ·intro i;simp
 ·exact qV n
theorem zL(n:Nat):hv (dL n)=(n:Int):=by rw[←tJ,vD_dL]
theorem yI(n:Nat):hv (cL n)=(n:Int):=by
 unfold cL
 split
 ·rename_i h;rw[h];rfl
 ·exact zL n
theorem product_text{x y:Int}{m:Nat}(hm:1≤m)(h4:m≤9000)(hx:Bd m x)(hy:Bd m y)(k:Nat)(hk:100000000≤k):oM.f k (text x) (text y)=some (text (x*y)):=by
 have sx:=size_text hx hm;have sy:=size_text hy hm;have lx:=kK hx hm;have ly:=kK hy hm;have px:=rF (pF x).1;have py:=rF (pF y).1;have nx:=List.length_pos_iff.2 (mV x.natAbs);have ny:=List.length_pos_iff.2 (mV y.natAbs);have hw:wrap64 (((Lib.decDigits x.natAbs).length:Int)+((Lib.decDigits y.natAbs).length:Int))=(((Lib.decDigits x.natAbs).length+(Lib.decDigits y.natAbs).length:Nat):Int):=by unfold wrap64;omega
 unfold oM.f;rw[zK _ aFx px,Option.bind_some,zK _ aFx py,Option.bind_some,kV,kV,hw]
 by_cases h:(Lib.decDigits x.natAbs).length+(Lib.decDigits y.natAbs).length≤18
 ·have bx:Bd 17 x:=nJ _ _ aFx
  have by':Bd 17 y:=nJ _ _ aFx
  have dx:Bd (Lib.decDigits x.natAbs).length x:=nJ _ _ (Nat.le_refl _);have dy:Bd (Lib.decDigits y.natAbs).length y:=nJ _ _ (Nat.le_refl _);have dm:Bd 18 (x*y):=(dx.mul dy).mono h;have hb:(x*y).natAbs<1000000000000000000:=Nat.lt_of_lt_of_le dm (by decide +kernel);clear dm;have hww:wrap64 (x*y)=x*y:=by generalize x*y=z at hb;unfold wrap64;omega
  rw[if_pos aFx,yC bx k aFx,Option.bind_some,yC by' k aFx,Option.bind_some,hww,aBr _ aFx aFx k aFx,Option.bind_some]
 ·have hdx:=rC x.natAbs
  have hdy:=rC y.natAbs;have hf:(dL x.natAbs).length*((dL y.natAbs).length+2)≤9000*9002:=Nat.mul_le_mul aFx aFx;obtain⟨t1,t2⟩:=times_val (qV x.natAbs) (qV y.natAbs) aFx aFx (x.natAbs*y.natAbs) (by rw[zL,zL,Int.natCast_mul]) k aFx
  rw[if_neg aFx,mQ hx aFx aFx k aFx,Option.bind_some,mQ hy aFx aFx k aFx,Option.bind_some,t1,Option.bind_some,pG _ px,Option.bind_some,pG _ py,Option.bind_some,pre_text,pre_text,
   aCc (yD _) aFx _ (yI _) _ k aFx,Option.bind_some,sign_mul]
theorem bK(y:Int):((text y).toList=([48]:List UInt8))↔y=0:=by
 constructor
 ·intro h
  refine aC8 ?_;rw[vC];refine nZ ?_;rw[←toList_data,h]
 ·intro h
  rw[h,vC,toList_data]
def cmpL(L M:List Int):Nat→Int
 |0=>0
 |q+1=>if L[q]?.getD 0=M[q]?.getD 0 then cmpL L M q else if L[q]?.getD 0<M[q]?.getD 0 then -1 else 1
theorem cmpL_val{L M:List Int}(hL:jD L)(hM:jD M):∀q,cmpL L M q=sgnI (vD L q-vD M q)
 |0=>rfl
 |q+1=>by
  have ih:=cmpL_val hL hM q;have b1:=wI hL q;have b2:=wI hM q;have hp:(0:Int)<10 ^ q:=Int.pow_pos aFx;rw[cmpL,vD,vD]
  split
  ·rename_i h
   rw[ih,h]
   congr 1
   omega
  ·rename_i h
   split
   ·rename_i h2
    have:=Int.mul_le_mul_of_nonneg_right (show L[q]?.getD 0+1≤M[q]?.getD 0 by omega) (Int.le_of_lt hp);rw[Int.add_mul] at this;unfold sgnI;rw[if_pos aFx]
   ·rename_i h2
    have:=Int.mul_le_mul_of_nonneg_right (show M[q]?.getD 0+1≤L[q]?.getD 0 by omega) (Int.le_of_lt hp);rw[Int.add_mul] at this;unfold sgnI;rw[if_neg aFx,if_neg aFx]
theorem xW(n:Nat)(k:Nat)(hk:2≤k)(hl:(dL n).length≤100000):aU.f k (dL n)=some (cL n):=by
 obtain⟨k,rfl⟩:∃j,k=j+2:=⟨k-2,by omega⟩
 unfold aU.f cL
 by_cases h:n=0
 ·subst h
  rw[if_pos rfl];have e:dL 0= [0]:=by unfold dL;rw[kJ aFx];rfl
  have hw:wrap64 ((([0]:List Int).length:Int)-1)=0:=by decide +kernel
  rw[e,aU.l0,if_pos aG0,hw,if_pos aG0,if_pos aG0,if_pos (show rd [0] 0=0 from rfl),aU.l0,if_neg aG0,if_pos aG0,if_pos aG0];rfl
 ·rw[if_neg h]
  obtain⟨q,hq,ht⟩:=dL_top n h;rw[aU.l0,hq];have hw:wrap64 (((q+1:Nat):Int)-1)=(q:Int):=by unfold wrap64;omega
  rw[if_pos aFx,hw,if_pos aFx,if_pos aFx,if_neg (by rw[sV];exact ht),if_pos aFx,if_pos aFx];rw[show((q+1:Nat):Int).toNat=(dL n).length from by omega,List.take_length]
theorem aFi{L M:List Int}(hl:L.length=M.length)(hL:L.length≤100000):∀(q k:Nat),q≤L.length→q+1≤k→dP.l0 k L M ((q:Int)-1)=some (cmpL L M q)
 |0,k,_,hk=>by
  obtain⟨k,rfl⟩:∃j,k=j+1:=⟨k-1,by omega⟩
  rw[dP.l0,if_neg aFz];rfl
 |q+1,k,hq,hk=>by
  obtain⟨k,rfl⟩:∃j,k=j+1:=⟨k-1,by omega⟩
  have ih:=aFi hl hL q k aFx aFx;rw[dP.l0,show((q+1:Nat):Int)-1=(q:Int) from by omega];rw[if_pos aFx,if_pos aFx,if_pos aFx,if_pos aFx,sV,sV,show wrap64 ((q:Int)-1)=(q:Int)-1 from by unfold wrap64;omega,ih,cmpL]
  split
  ·rfl
  ·split <;> rfl
theorem aB7(m n:Nat)(k:Nat)(h1:(dL m).length≤100000)(h2:(dL n).length≤100000)(hk:(dL m).length+2≤k):dP.f k (cL m) (cL n)=some (sgnI ((m:Int)-(n:Int))):=by
 have v:∀n,vD (cL n) (cL n).length=(n:Int):=fun n=>by
  unfold cL
  split
  ·rename_i h;rw[h];rfl
  ·exact vD_dL n
 have dgs:∀n,jD (cL n):=fun n=>by
  unfold cL
  split
  ·intro i;simp
  ·exact qV n
 have lens:∀n,(cL n).length≤(dL n).length:=fun n=>by
  unfold cL
  split
  ·simp
  ·exact Nat.le_refl _
 have low:∀n:Nat,(cL n).length≠0→(10:Int) ^ ((cL n).length-1)≤(n:Int):=fun n hn=>by
  have hv:=v n;unfold cL at *
  split at hn
  ·simp at hn
  ·rename_i h0
   rw[if_neg h0] at hv ⊢;obtain⟨q,hq,ht⟩:=dL_top n h0;rw[hq,vD] at hv;have hb:=wI (qV n) q;have hd:=qV n q;have hp:(0:Int)<10 ^ q:=Int.pow_pos aFx;have:=Int.mul_le_mul_of_nonneg_right (show 1≤(dL n)[q]?.getD 0 by omega) (Int.le_of_lt hp);rw[hq,Nat.add_sub_cancel];omega
 have up:∀n:Nat,(n:Int)<10 ^ (cL n).length:=fun n=>by
  have:=(wI (dgs n) (cL n).length).2;rw[v n] at this;exact this
 have mono:∀{p q:Nat},p≤q→(10:Int) ^ p≤10 ^ q:=fun {p q} hpq=>by
  have:=Nat.pow_le_pow_right (n:=10) aFx hpq;have h3:((10 ^ p:Nat):Int)≤((10 ^ q:Nat):Int):=by omega
  rw[Int.natCast_pow,Int.natCast_pow] at h3;exact h3
 have lm:=lens m;have ln:=lens n;unfold dP.f
 by_cases hlen:(cL m).length=(cL n).length
 ·rw[if_pos aFx]
  have h:=aFi hlen aFx (cL m).length k (Nat.le_refl _) aFx;rw[show wrap64 (((cL m).length:Int)-1)=((cL m).length:Int)-1 from by unfold wrap64;omega,h,cmpL_val (dgs m) (dgs n),v m];rw[hlen,v n]
 ·rw[if_neg aFx]
  by_cases hlt:(cL m).length<(cL n).length
  ·rw[if_pos aFx]
   have a:=up m;have b:=low n aFx;have c:=mono (show(cL m).length≤(cL n).length-1 by omega);unfold sgnI;rw[if_pos aFx]
  ·rw[if_neg aFx]
   have a:=up n;have b:=low m aFx;have c:=mono (show(cL n).length≤(cL m).length-1 by omega);unfold sgnI;rw[if_neg aFx,if_neg aFx]
theorem hv_snoc(L:List Int)(d:Int):hv (L++ [d])=hv L+d*10 ^ L.length:=by
 have e:vD (L++ [d]) (L.length+1)=vD (L++ [d]) L.length+(L++ [d])[L.length]?.getD 0*10 ^ L.length:=rfl;rw[←tJ (L++ [d]),List.length_append,←tJ L];show vD (L++ [d]) (L.length+1)=_;have e3:vD (L++ [d]) L.length=vD L L.length:=aDl _ (fun i hi=>by rw[List.getElem?_append_left hi]);rw[e,e3,List.getElem?_append_right (Nat.le_refl _),Nat.sub_self];rfl
theorem aEd{L:List Int}(h:jD L){d:Int}(h0:0≤d)(h1:d<10):jD (L++ [d]):=fun j=>by
 by_cases e:j<L.length
 ·rw[List.getElem?_append_left e];exact h j
 ·rw[List.getElem?_append_right aFx]
  by_cases e2:j-L.length=0
  ·rw[e2];exact⟨h0,h1⟩
  ·rw[List.getElem?_eq_none (by simp;omega)];simp
theorem vD_over(L:List Int):∀j,vD L (L.length+j)=hv L
 |0=>tJ L
 |j+1=>by
  show vD L (L.length+j)+L[L.length+j]?.getD 0*10 ^ (L.length+j)=_;rw[vD_over L j,List.getElem?_eq_none aFx]
  simp
theorem yX{L:List Int}(h:jD L):0≤hv L∧hv L<10 ^ L.length:=by rw[←tJ];exact wI h _
theorem aCd{p q:Nat}(hpq:p≤q):(10:Int) ^ p≤10 ^ q:=by
 have h3:((10 ^ p:Nat):Int)≤((10 ^ q:Nat):Int):=Int.ofNat_le.2 (Nat.pow_le_pow_right aFx hpq);rw[Int.natCast_pow,Int.natCast_pow] at h3;exact h3
theorem vD_full{L:List Int}(h:jD L)(n:Nat)(hn:hv L<10 ^ n):∀j,vD L (n+j)=vD L n
 |0=>rfl
 |j+1=>by
  have ih:=vD_full h n hn j;show vD L (n+j)+L[n+j]?.getD 0*10 ^ (n+j)=vD L n;rw[ih];have hd:=h (n+j)
  have up:∀p q,vD L p≤vD L (p+q):=fun p q=>by
   induction q with
   |zero=>exact Int.le_refl _
   |succ q IH=>
    have:=Int.mul_nonneg (h (p+q)).1 (Int.le_of_lt (Int.pow_pos (n:=10) (m:=p+q) aFx));show vD L p≤vD L (p+q)+L[p+q]?.getD 0*10 ^ (p+q);omega
  by_cases e:L[n+j]?.getD 0=0
  ·rw[e,Int.zero_mul,Int.add_zero]
  ·exfalso
   have hp:(0:Int)<10 ^ (n+j):=Int.pow_pos aFx;have h1:=Int.mul_le_mul_of_nonneg_right (show 1≤L[n+j]?.getD 0 by omega) (Int.le_of_lt hp);have h2:=aCd (show n≤n+j by omega);have h3:=(wI h n).1;have h4:vD L (n+j+1)=vD L n+L[n+j]?.getD 0*10 ^ (n+j):=by rw[←ih];rfl
   have hl:n+j<L.length:=by
    by_cases q:n+j<L.length
    ·exact q
    ·exact absurd (by rw[List.getElem?_eq_none aFx];rfl) e
   have h5:=up (n+j+1) (L.length-(n+j+1));rw[show n+j+1+(L.length-(n+j+1))=L.length by omega,tJ] at h5;omega
theorem vD_all{L:List Int}(h:jD L)(n:Nat)(hn:hv L<10 ^ n):vD L n=hv L:=by
 have h1:=vD_full h n hn L.length;rw[Nat.add_comm,vD_over] at h1;exact h1.symm
theorem carry_alg(O V W m c A B P c1:Int)(h:m+10*c1=c+(A+B))(hO:O+c*P=V+W):O+m*P+c1*(P*10)=V+A*P+(W+B*P):=by
 obtain rfl:m=c+(A+B)-10*c1:=by omega
 rw[Int.sub_mul,Int.add_mul,Int.add_mul];have e:c1*(P*10)=10*c1*P:=by ac_rfl
 omega
theorem aFj(O V W m c A B P c1:Int)(h:m-10*c1=A-B-c)(hO:O-c*P=V-W):O+m*P-c1*(P*10)=V+A*P-(W+B*P):=by
 obtain rfl:m=A-B-c+10*c1:=by omega
 rw[Int.add_mul,Int.sub_mul,Int.sub_mul];have e:c1*(P*10)=10*c1*P:=by ac_rfl
 omega
theorem carry_small{c A B:Int}(c0:0≤c)(c1:c≤1)(a0:0≤A)(a1:A<10)(b0:0≤B)(b1:B<10):(c+(A+B))%10+10*((c+(A+B))/10)=c+(A+B)∧0≤(c+(A+B))%10∧(c+(A+B))%10<10∧0≤(c+(A+B))/10∧(c+(A+B))/10≤1:=by omega
theorem carry_end{O c S P:Int}(hS:S<P)(hO:0≤O)(c0:0≤c)(c1:c≤1)(h:O+c*P=S):c=0:=by
 by_cases e:c=1
 ·subst e;omega
 ·omega
theorem borrow_end{O c S P:Int}(hS:0≤S)(hO:O<P)(c0:0≤c)(c1:c≤1)(h:O-c*P=S):c=0:=by
 by_cases e:c=1
 ·subst e;omega
 ·omega
theorem plus_lt{a b:List Int}(ha:jD a)(hb:jD b)(M:Nat)(h1:a.length≤M)(h2:b.length≤M):hv a+hv b<10 ^ (M+1):=by
 have x:=(yX ha).2;have y:=(yX hb).2;have u:=aCd h1;have v:=aCd h2;have hp:(0:Int)<10 ^ M:=Int.pow_pos aFx;rw[Int.pow_succ];omega
theorem at_val(L:List Int)(i:Nat):iV.f L (i:Int)=some (L[i]?.getD 0):=by
 unfold iV.f
 by_cases h:i<L.length
 ·rw[if_pos aFx,if_pos aFx,sV]
 ·rw[if_neg aFx,List.getElem?_eq_none aFx];rfl
theorem wrap_small{z:Int}(h0: -1000000000≤z)(h1:z≤1000000000):wrap64 z=z:=by unfold wrap64;omega
theorem wrap_succ(n:Nat)(h:n≤100000000):wrap64 ((n:Int)+1)=((n+1:Nat):Int):=by unfold wrap64;omega
theorem plus_round{a b out:List Int}{c:Int}{i M:Nat}(k:Nat)(hM:mx (a.length:Int) (b.length:Int)=(M:Int))(hi:i<M+1)(hm:M≤100000)(ho:out.length≤200000)(ha:jD a)(hb:jD b)(c0:0≤c)(c1:c≤1) :
 gQ.l0 (k+1) a b out c (i:Int)=gQ.l0 k a b (out++ [(c+(a[i]?.getD 0+b[i]?.getD 0))%10]) ((c+(a[i]?.getD 0+b[i]?.getD 0))/10) ((i+1:Nat):Int):=by
 have ba:=ha i;have bb:=hb i;rw[gQ.l0,hM,wrap_succ M aFx,if_pos aFx,at_val,Option.bind_some,at_val,Option.bind_some,if_pos aFx,wrap_succ i aFx];generalize a[i]?.getD 0=A at ba;generalize b[i]?.getD 0=B at bb;rw[wrap_small (z:=A+B) aFx aFx,wrap_small (z:=c+(A+B)) aFx aFx];have t0:0≤c+(A+B):=by omega
 rw[Int.tmod_eq_emod_of_nonneg t0,Int.tdiv_eq_ediv_of_nonneg t0,wrap_small (z:=(c+(A+B))/10) aFx aFx]
theorem plus_loop{a b:List Int}(ha:jD a)(hb:jD b)(M:Nat)(hM:mx (a.length:Int) (b.length:Int)=(M:Int))(hla:a.length≤M)(hlb:b.length≤M)(hm:M≤50000)(N:Nat)(hN:hv a+hv b=(N:Int)):∀(q i:Nat) (out:List Int) (c:Int) (k:Nat),i+q=M+1→out.length=i→jD out→0≤c→c≤1→hv out+c*10 ^ i=vD a i+vD b i→q+M+4≤k→gQ.l0 k a b out c (i:Int)=some (cL N)∧(cL N).length≤M+1
 |0,i,out,c,k,hi,hl,ho,c0,c1,hv0,hk=>by
  obtain⟨k,rfl⟩:∃j,k=j+1:=⟨k-1,by omega⟩
  have ea:vD a i=hv a:=by obtain⟨j,hj⟩:∃j,i=a.length+j:=⟨i-a.length,by omega⟩;rw[hj,vD_over]
  have eb:vD b i=hv b:=by obtain⟨j,hj⟩:∃j,i=b.length+j:=⟨i-b.length,by omega⟩;rw[hj,vD_over]
  have lt:=plus_lt ha hb M hla hlb;rw[show M+1=i by omega] at lt;rw[ea,eb] at hv0;have l9:=carry_end lt (yX ho).1 c0 c1 hv0;rw[l9,Int.zero_mul,Int.add_zero,hN] at hv0;clear lt ea eb;obtain⟨h1,h2⟩:=aBz ho aFx N hv0 k aFx;have hn:¬(i:Int)<((M+1:Nat):Int):=by omega
  rw[gQ.l0,hM,wrap_succ M aFx,if_neg hn,h1,Option.bind_some];exact⟨rfl,Nat.le_trans h2 (Nat.le_of_eq (hl.trans hi))⟩
 |q+1,i,out,c,k,hi,hl,ho,c0,c1,hv0,hk=>by
  obtain⟨k,rfl⟩:∃j,k=j+1:=⟨k-1,by omega⟩
  have cs:=carry_small c0 c1 (ha i).1 (ha i).2 (hb i).1 (hb i).2;rw[plus_round k hM aFx aFx aFx ha hb c0 c1];refine plus_loop ha hb M hM hla hlb hm N hN q (i+1) _ _ k aFx (by simp;omega) (aEd ho cs.2.1 cs.2.2.1) cs.2.2.2.1 cs.2.2.2.2 ?_ aFx;rw[hv_snoc,hl,Int.pow_succ];exact carry_alg _ _ _ _ _ _ _ _ _ cs.1 hv0
theorem plus_val{a b:List Int}(ha:jD a)(hb:jD b)(la:a.length≤50000)(lb:b.length≤50000)(N:Nat)(hN:hv a+hv b=(N:Int))(k:Nat)(hk:2*(a.length+b.length)+10≤k):gQ.f k a b=some (cL N)∧(cL N).length≤a.length+b.length+1:=by
 unfold gQ.f
 obtain⟨M,hM,h1,h2,h3,h4⟩:∃M:Nat,mx (a.length:Int) (b.length:Int)=(M:Int)∧a.length≤M∧b.length≤M∧M≤50000∧M≤a.length+b.length:=by
  refine⟨max a.length b.length,?_,by omega,by omega,by omega,by omega⟩;unfold mx
  split <;> omega
 have:=plus_loop ha hb M hM h1 h2 h3 N hN (M+1) 0 [] 0 k aFx rfl (fun j=>by simp) aFx aFx (by simp[hv,vD]) aFx;exact⟨this.1,by omega⟩
theorem borrow_small{c A B:Int}(c0:0≤c)(c1:c≤1)(a0:0≤A)(a1:A<10)(b0:0≤B)(b1:B<10):(A-B-c<0→0≤A-B-c+10∧A-B-c+10<10∧A-B-c+10-10*1=A-B-c)∧(¬A-B-c<0→0≤A-B-c∧A-B-c<10∧A-B-c-10*0=A-B-c):=by omega
theorem minus_round{a b out:List Int}{c:Int}{i:Nat}(k:Nat)(hi:i<a.length)(hm:a.length≤100000)(ho:out.length≤200000)(ha:jD a)(hb:jD b)(c0:0≤c)(c1:c≤1) :
 fB.l0 (k+1) a b out c (i:Int)=if a[i]?.getD 0-b[i]?.getD 0-c<0 then fB.l0 k a b (out++ [a[i]?.getD 0-b[i]?.getD 0-c+10]) 1 ((i+1:Nat):Int) else fB.l0 k a b (out++ [a[i]?.getD 0-b[i]?.getD 0-c]) 0 ((i+1:Nat):Int):=by
 have ba:=ha i;have bb:=hb i;rw[fB.l0,if_pos aFx,if_pos aFx,at_val,Option.bind_some,sV,wrap_succ i aFx,if_pos (show out.length<17592186044416 by omega),if_pos (show out.length<17592186044416 by omega)];generalize a[i]?.getD 0=A at ba;generalize b[i]?.getD 0=B at bb;rw[wrap_small (z:=A-B) aFx aFx,wrap_small (z:=A-B-c) aFx aFx,wrap_small (z:=A-B-c+10) aFx aFx]
theorem aDm{a b:List Int}(ha:jD a)(hb:jD b)(hm:a.length≤100000)(hle:hv b≤hv a)(N:Nat)(hN:hv a-hv b=(N:Int)):∀(q i:Nat) (out:List Int) (c:Int) (k:Nat),i+q=a.length→out.length=i→jD out→0≤c→c≤1→hv out-c*10 ^ i=vD a i-vD b i→q+a.length+4≤k→fB.l0 k a b out c (i:Int)=some (cL N)∧(cL N).length≤a.length
 |0,i,out,c,k,hi,hl,ho,c0,c1,hv0,hk=>by
  obtain⟨k,rfl⟩:∃j,k=j+1:=⟨k-1,by omega⟩
  obtain rfl:i=a.length:=by omega
  have lt:=(yX ha).2;have eb:=vD_all hb a.length (Int.lt_of_le_of_lt hle lt);rw[tJ,eb] at hv0;have lo:=(yX ho).2;rw[hl] at lo;have l9:=borrow_end (show 0≤hv a-hv b by omega) lo c0 c1 hv0;rw[l9,Int.zero_mul,Int.sub_zero,hN] at hv0;clear lt lo eb;obtain⟨h1,h2⟩:=aBz ho aFx N hv0 k aFx;rw[fB.l0,if_neg aFx,h1,Option.bind_some];exact⟨rfl,Nat.le_trans h2 (Nat.le_of_eq hl)⟩
 |q+1,i,out,c,k,hi,hl,ho,c0,c1,hv0,hk=>by
  obtain⟨k,rfl⟩:∃j,k=j+1:=⟨k-1,by omega⟩
  have cs:=borrow_small c0 c1 (ha i).1 (ha i).2 (hb i).1 (hb i).2;rw[minus_round k aFx aFx aFx ha hb c0 c1]
  by_cases hd:a[i]?.getD 0-b[i]?.getD 0-c<0
  ·obtain⟨e1,e2,e3⟩:=cs.1 hd
   rw[if_pos hd];refine aDm ha hb hm hle N hN q (i+1) _ _ k aFx (by simp;omega) (aEd ho e1 e2) aFx aFx ?_ aFx;rw[hv_snoc,hl,Int.pow_succ];exact aFj _ _ _ _ _ _ _ _ _ e3 hv0
  ·obtain⟨e1,e2,e3⟩:=cs.2 hd
   rw[if_neg hd];refine aDm ha hb hm hle N hN q (i+1) _ _ k aFx (by simp;omega) (aEd ho e1 e2) aFx aFx ?_ aFx;rw[hv_snoc,hl,Int.pow_succ];exact aFj _ _ _ _ _ _ _ _ _ e3 hv0
theorem aEe{a b:List Int}(ha:jD a)(hb:jD b)(la:a.length≤100000)(hle:hv b≤hv a)(N:Nat)(hN:hv a-hv b=(N:Int))(k:Nat)(hk:2*a.length+10≤k):fB.f k a b=some (cL N)∧(cL N).length≤a.length:=by
 unfold fB.f;exact aDm ha hb la hle N hN a.length 0 [] 0 k aFx rfl (fun j=>by simp) aFx aFx (by simp[hv,vD]) aFx
theorem cL_low(n:Nat)(hn:(cL n).length≠0):(10:Int) ^ ((cL n).length-1)≤(n:Int):=by
 have hv0:=tJ (cL n);rw[yI] at hv0;unfold cL at *
 split at hn
 ·simp at hn
 ·rename_i h0
  rw[if_neg h0] at hv0 ⊢;obtain⟨q,hq,ht⟩:=dL_top n h0;rw[hq,vD] at hv0;have hb:=wI (qV n) q;have hd:=qV n q;have hp:(0:Int)<10 ^ q:=Int.pow_pos aFx;have:=Int.mul_le_mul_of_nonneg_right (show 1≤(dL n)[q]?.getD 0 by omega) (Int.le_of_lt hp);rw[hq,Nat.add_sub_cancel];omega
theorem cL_le{n m:Nat}(h:n≤m):(cL n).length≤(cL m).length:=by
 by_cases e:(cL n).length=0
 ·omega
 ·have a:=cL_low n e
  have b:=(yX (yD m)).2;rw[yI] at b
  by_cases q:(cL n).length≤(cL m).length
  ·exact q
  ·have:=aCd (show(cL m).length≤(cL n).length-1 by omega)
   omega
theorem order_pos(R m k:Nat)(h1:(dL R).length≤100000)(h2:(dL m).length≤100000)(hk:(dL R).length+2≤k):∃o,dP.f k (cL R) (cL m)=some o∧(o≥0↔m≤R):=by
 refine⟨_,aB7 R m k h1 h2 hk,?_⟩;unfold sgnI
 split
 ·omega
 ·split <;> omega
theorem cL_len_dL(n:Nat):(cL n).length≤(dL n).length:=by
 unfold cL
 split
 ·simp
 ·exact Nat.le_refl _
theorem aCn(n:Nat):(dL n).length≤(cL n).length+1:=by
 unfold cL
 split
 ·rename_i h;subst h;decide +kernel
 ·omega
theorem set_same(Q:List Int)(i:Nat)(h:i<Q.length):Q.set i (Q[i]?.getD 0)=Q:=by
 rw[List.getElem?_eq_getElem h];exact List.set_getElem_self h
theorem split_in{a:List Int}{m i:Nat}(Lm:Nat)(hLm:(cL m).length≤Lm)(hL:Lm≤40000)(hi:i≤100000)(r:Nat)(hr:r<m):∀(t:Nat) (Q:List Int) (k:Nat),i<Q.length→t≤9→0≤Q[i]?.getD 0→Q[i]?.getD 0+(t:Int)≤1000→(cL (r+t*m)).length≤Lm+1→3*Lm+30+t≤k →
 dC.l1 k a (cL m) Q (cL (r+t*m)) (i:Int)=dC.l0 (k-(t+1)) a (cL m) (Q.set i (Q[i]?.getD 0+(t:Int))) (cL r) ((i:Int)-1)
 |0,Q,k,hQ,ht,q0,q1,hl,hk=>by
  obtain⟨k,rfl⟩:∃j,k=j+1:=⟨k-1,by omega⟩
  have e0:r+0*m=r:=by omega
  rw[e0] at hl ⊢;have d1:=aCn r;have d2:=aCn m;obtain⟨o,ho,hoi⟩:=order_pos r m k aFx aFx aFx;rw[dC.l1,ho,Option.bind_some,if_neg aFx,show wrap64 ((i:Int)-1)=(i:Int)-1 from wrap_small aFx aFx,show((0:Nat):Int)=0 from rfl,Int.add_zero,set_same Q i hQ];rfl
 |t+1,Q,k,hQ,ht,q0,q1,hl,hk=>by
  obtain⟨k,rfl⟩:∃j,k=j+1:=⟨k-1,by omega⟩
  have d1:=aCn (r+(t+1)*m);have d2:=aCn m;have es:r+(t+1)*m=r+t*m+m:=by rw[Nat.succ_mul];omega
  obtain⟨o,ho,hoi⟩:=order_pos (r+(t+1)*m) m k aFx aFx aFx;have hge:m≤r+(t+1)*m:=by omega
  obtain⟨mv,ml⟩:=aEe (yD (r+(t+1)*m)) (yD m) aFx (by rw[yI,yI];omega) (r+t*m) (by rw[yI,yI];omega) k aFx;have es2:(Q.set i (Q[i]?.getD 0+1))[i]?.getD 0=Q[i]?.getD 0+1:=by rw[List.getElem?_set_self hQ];rfl
  have hl2:(cL (r+t*m)).length≤Lm+1:=Nat.le_trans (cL_le (show r+t*m≤r+(t+1)*m by omega)) hl;have ih:=split_in (a:=a) Lm hLm hL hi r hr t (Q.set i (Q[i]?.getD 0+1)) k (by rw[List.length_set];exact hQ) aFx (by rw[es2];omega) (by rw[es2];omega) hl2 aFx;rw[dC.l1,ho,Option.bind_some,if_pos (hoi.2 hge),mv,Option.bind_some,if_pos aFx,if_pos aFx,sV,Int.toNat_natCast,show wrap64 (Q[i]?.getD 0+1)=Q[i]?.getD 0+1 from wrap_small aFx aFx,ih];rw[es2,List.set_set,show k+1-(t+1+1)=k-(t+1) by omega];rw[show Q[i]?.getD 0+1+(t:Int)=Q[i]?.getD 0+((t+1:Nat):Int) by omega]
theorem drop_step(a:List Int)(q:Nat)(h:q<a.length):hv (a.drop q)=a[q]?.getD 0+10*hv (a.drop (q+1)):=by
 rw[List.drop_eq_getElem_cons h,List.getElem?_eq_getElem h];rfl
theorem drop_set(Q:List Int)(q:Nat)(x:Int):(Q.set q x).drop (q+1)=Q.drop (q+1):=by
 rw[List.drop_set];exact if_pos aFx
theorem digs_drop{L:List Int}(h:jD L)(q:Nat):jD (L.drop q):=fun j=>by
 rw[List.getElem?_drop];exact h (q+j)
theorem split_out{a:List Int}{m:Nat}(ha:jD a)(hm:m≠0)(hla:a.length≤30000)(Lm:Nat)(hLm:(cL m).length≤Lm)(hL:Lm≤40000):∀(q:Nat) (Q X:List Int) (R:Nat) (k:Nat),q≤Q.length→Q.length≤a.length→q≤a.length→jD Q→(∀p,p<q→Q[p]?.getD 0=0)→jD X→X.length≤50000→hv X=(R:Int)→R<m→(q=0→X=cL R)→12*q+3*Lm+200000≤k →
 hv (a.drop q)=hv (Q.drop q)*(m:Int)+(R:Int) →
 ∃n d:Nat,dC.l0 k a (cL m) Q X ((q:Int)-1)=some (cL n,cL d)∧d<m∧hv a=(n:Int)*(m:Int)+(d:Int)∧(cL n).length≤Q.length
 |0,Q,X,R,k,hq,hQa,hqa,hQ,hz,hX,hXl,hXv,hR,hX0,hk,hv0=>by
  obtain⟨k,rfl⟩:∃j,k=j+1:=⟨k-1,by omega⟩
  have hn:0≤hv Q:=(yX hQ).1;obtain⟨n,hn2⟩:∃n:Nat,hv Q=(n:Int):=⟨(hv Q).toNat,by omega⟩
  obtain⟨c1,c2⟩:=aBz hQ aFx n hn2 k aFx;refine⟨n,R,?_,hR,?_,c2⟩
  ·rw[dC.l0,if_neg aFz,c1,Option.bind_some,hX0 rfl]
  ·rw[List.drop_zero,List.drop_zero,hn2] at hv0
   exact hv0
 |q+1,Q,X,R,k,hq,hQa,hqa,hQ,hz,hX,hXl,hXv,hR,hX0,hk,hv0=>by
  obtain⟨k,rfl⟩:∃j,k=j+1:=⟨k-1,by omega⟩
  have da:=ha q;obtain⟨A,hA,hA9⟩:∃A:Nat,a[q]?.getD 0=(A:Int)∧A≤9:=⟨(a[q]?.getD 0).toNat,by omega,by omega⟩
  have hcons:hv (a[q]?.getD 0::X)=((A+10*R:Nat):Int):=by
   show a[q]?.getD 0+10*hv X=_;rw[hXv,hA];omega
  have hdc:jD (a[q]?.getD 0::X):=fun j=>by
   cases j with
   |zero=>exact da
   |succ j=>exact hX j
  obtain⟨c1,c2⟩:=aBz hdc (by simp;omega) _ hcons k (by simp;omega);have hmp:0<m:=by omega
  have hdiv:(A+10*R)%m+(A+10*R)/m*m=A+10*R:=by
   have:=Nat.mod_add_div (A+10*R) m;rw[Nat.mul_comm ((A+10*R)/m) m];exact this
  have hmod:(A+10*R)%m<m:=Nat.mod_lt _ hmp
  have ht9:(A+10*R)/m≤9:=by
   have:(A+10*R)/m<10:=Nat.div_lt_of_lt_mul aFx;omega
  have hlen:(cL (A+10*R)).length≤Lm+1:=by
   have e1:A+10*R≤10*m:=by omega
   have e2:=cL_le e1;have e3:=cL_step (10*m) aFx;rw[show 10*m/10=m by omega] at e3;rw[e3] at e2;simp only[List.length_cons] at e2;omega
  generalize hd:(A+10*R)%m=d at hdiv hmod;generalize htt:(A+10*R)/m=t at hdiv ht9;have hQq:=hz q aFx;have si:=split_in (a:=a) (m:=m) (i:=q) Lm hLm hL aFx d hmod t Q k aFx ht9 aFx aFx (by rw[hdiv];exact hlen) aFx;rw[hdiv,hQq,Int.zero_add] at si;have hdig:jD (Q.set q (t:Int)):=digs_set hQ q aFx aFx
  have hzz:∀p,p<q→(Q.set q (t:Int))[p]?.getD 0=0:=fun p hp=>by
   rw[List.getElem?_set_ne aFx];exact hz p aFx
  have hval:hv (a.drop q)=hv ((Q.set q (t:Int)).drop q)*(m:Int)+(d:Int):=by
   rw[drop_step a q aFx,drop_step (Q.set q (t:Int)) q (by rw[List.length_set];omega),drop_set,hv0,List.getElem?_set_self aFx];simp only[Option.getD_some];rw[hA]
   have hdi:(d:Int)+(t:Int)*(m:Int)=(A:Int)+10*(R:Int):=by
    have:((d+t*m:Nat):Int)=((A+10*R:Nat):Int):=by rw[hdiv]
    rw[Int.natCast_add,Int.natCast_mul,Int.natCast_add,Int.natCast_mul] at this;exact this
   rw[Int.add_mul,Int.mul_assoc];generalize hv (Q.drop (q+1))*(m:Int)=Z;omega
  obtain⟨n,e,r1,r2,r3,r4⟩:=split_out ha hm hla Lm hLm hL q (Q.set q (t:Int)) (cL d) d (k-(t+1)) (by rw[List.length_set];omega) (by rw[List.length_set];omega) aFx hdig hzz (yD d) (by have:=cL_le (show d≤m by omega);omega) (yI d) hmod (fun _=>rfl) aFx hval;refine⟨n,e,?_,r2,r3,by rw[List.length_set] at r4;exact r4⟩;rw[dC.l0,show(((q+1:Nat):Int)-1)=(q:Int) from by omega,if_pos aFx,if_pos aFx,if_pos aFx,Option.bind_some,if_pos (by simp;omega),sV];show((aU.f k (a[q]?.getD 0::X)).bind _)=_;rw[c1,Option.bind_some,si];exact r1
theorem div_unique{N m n d:Nat}(hd:d<m)(h:(N:Int)=(n:Int)*(m:Int)+(d:Int)):n=N/m∧d=N%m:=by
 have h2:N=n*m+d:=by
  have:((n*m+d:Nat):Int)=(n:Int)*(m:Int)+(d:Int):=by rw[Int.natCast_add,Int.natCast_mul]
  omega
 subst h2
 constructor
 ·rw[Nat.mul_comm,Nat.mul_add_div aFx,Nat.div_eq_of_lt hd];rfl
 ·rw[Nat.mul_comm,Nat.mul_add_mod,Nat.mod_eq_of_lt hd]
theorem split_val{N m:Nat}(hm:m≠0)(l1:(cL N).length≤20000)(l2:(cL m).length≤20000)(k:Nat)(hk:1000000≤k):dC.f k (cL N) (cL m)=some (cL (N/m),cL (N%m))∧(cL (N/m)).length≤(cL N).length:=by
 have hmn:(cL m).length≠0:=by
  rw[cL_step m hm];simp
 have low:=cL_low m hmn
 obtain⟨q,hq,hq2,hq3⟩:∃q:Nat,mx 0 (wrap64 ((wrap64 (((cL N).length:Int)-((cL m).length:Int)))+1))=(q:Int)∧q≤(cL N).length∧(cL N).length-q≤(cL m).length-1:=by
  rw[wrap_small (z:=((cL N).length:Int)-((cL m).length:Int)) aFx aFx,wrap_small (z:=((cL N).length:Int)-((cL m).length:Int)+1) aFx aFx];refine⟨(cL N).length+1-(cL m).length,?_,by omega,by omega⟩;unfold mx
  split <;> omega
 have hdn:=yD N;have hX:=digs_drop hdn q;have hXb:=yX hX;rw[List.length_drop] at hXb;obtain⟨R,hR⟩:∃R:Nat,hv ((cL N).drop q)=(R:Int):=⟨(hv ((cL N).drop q)).toNat,by omega⟩
 have hRm:R<m:=by
  have:=aCd hq3;omega
 have hr:∀p:Nat,(List.replicate q (0:Int))[p]?.getD 0=0:=fun p=>by
  rw[List.getElem?_replicate];split <;> rfl
 have hz:hv ((List.replicate q (0:Int)).drop q)=0:=by
  rw[List.drop_of_length_le (by rw[List.length_replicate];exact Nat.le_refl _)];rfl
 obtain⟨n,d,r1,r2,r3,r4⟩:=split_out (a:=cL N) (m:=m) hdn hm aFx (cL m).length (Nat.le_refl _) aFx q (List.replicate q 0) ((cL N).drop q) R k (by rw[List.length_replicate];exact Nat.le_refl _) (by rw[List.length_replicate];exact hq2) hq2 (fun p=>by rw[hr];omega) (fun p _=>hr p) hX (by rw[List.length_drop];omega) hR hRm
  (fun q0=>by
    rw[q0,List.drop_zero] at hR ⊢;rw[yI] at hR
    rw[show R=N by omega]) aFx (by rw[hz,Int.zero_mul,Int.zero_add];exact hR)
 rw[yI] at r3;obtain⟨u1,u2⟩:=div_unique r2 r3;rw[List.length_replicate] at r4;unfold dC.f;rw[hq,if_pos aFx,Int.toNat_natCast,if_pos aFx,Option.bind_some,if_pos aFx,if_pos (by simp only[List.length_nil,List.length_drop];omega),List.nil_append,show wrap64 ((q:Int)-1)=(q:Int)-1 from wrap_small aFx aFx,r1,u1,u2];exact⟨rfl,by rw[←u1];omega⟩
end Go.Proofs.YtignanmmgaldeaaGreatDoor.RefP
end
section
set_option linter.unusedVariables false
set_option linter.unusedSimpArgs false
set_option maxHeartbeats 8000000
set_option maxRecDepth 100000
namespace Go.Proofs.YtignanmmgaldeaaGreatDoor.PRefA
open Go.RowKit Go.Proofs.YtignanmmgaldeaaGreatDoorW.PrintWords Go.Proofs.YtignanmmgaldeaaGreatDoorW.PrintLast Go.Proofs.YtignanmmgaldeaaGreatDoorW.PrintMore
theorem cut_ro(k:Nat)(A0:Option Addr)(c0:Nat)(l0 r:List Int)(w:World)(base:Nat)(ok:Nat→Prop)(hR:Kd.R (Kd.int .i64) 3 w base ok (.slice A0 l0.length c0) l0)(h:aU.f k l0=some r) :
 Calls Tryz.prog 155 #[.slice A0 l0.length c0] w fun e w'=>(e= .returned (.slice A0 r.length c0)∧∃n,n≤l0.length∧r=l0.take n)∧eQ w w':=by
 have o6:=aA.mk (Kd.dB hR).2.2;have o7:=aA.mk (Kd.dB hR).2.1;clear hR;have H':=aA.mk (show aU.l0 k l0 (l0.length:Int)=some r from h);clear h;go_enter Tryz.func155,Tryz.ntmps155
 go_wp2
 go_loopg [3] k (fun kq v3 w'=>∃(l9:Int),v3= .int .i64 l9∧aA (aU.l0 kq l0 l9=some r)∧aA (kq≤k)∧eQ w w')
 case atStart=>exact⟨(l0.length:Int),(by first|rfl|(simp;done)),H',⟨Nat.le_refl _⟩,by repeat(first|exact eQ.refl _|apply eQ.step)⟩
 case round=>
  clear H';obtain⟨x,rfl,HA,o5,⟨m1,rfl⟩⟩:=hrel
  cases gk with
  |zero=>exact absurd HA.out (by simp[aU.l0])
  |succ k1=>
   have H:=HA.out;clear HA;simp only[aU.l0] at H;obtain⟨i0,hi0,_,hsz0,_⟩:=info_parts info3
   have fin:∀(b0:0≤x) (b1:x≤(l0.length:Int)),∀W:World,(Instr.slice 79 (.slice A0 l0.length c0) none (some (.int .i64 x)) none).run Tryz.prog W= .ok (.slice A0 (l0.take x.toNat).length c0) W:=fun b0 b1 W=>by
    have:=cut_to (P:=Tryz.prog) 79 3 .i64 Tryz.underlying79 hi0 A0 l0.length c0 x b0 b1 o7.out W;rw[List.length_take,Nat.min_eq_left aFx];exact this
   clear hi0 hsz0
   by_cases c3:x>0
   ·rw[if_pos c3] at H
    have o8:decide (0<x)=true:=decide_eq_true c3;obtain⟨ji4,hji4⟩:∃j_:Int,(wrap64 (x-1))=j_:=⟨_,rfl⟩
    rw[hji4] at H;have hji4w:(IntKind.i64.wrap (x-1))=ji4:=(jM _).trans hji4
    by_cases c5:0≤ji4
    ·rw[if_pos c5] at H
     by_cases c6:ji4<(l0.length:Int)
     ·rw[if_pos c6] at H
      obtain⟨ad105,e105,hx105_0⟩:=Kd.nU o6.out ji4 c5 c6
      cases e105
      have p105:=eq_true c5;have q105:=eq_true c6;clear c3 c5 c6
      by_cases c7:(rd l0 ji4)=0
      ·rw[if_pos c7] at H
       have o9:((rd l0 ji4)==0)=true:=beq_iff_eq.mpr c7;clear c7 fin;have H':=aA.mk H;clear H;go_wp2
       repeat(go_quiet (fail);try go_wp2)
       go_roundg k1
       case measure=>have:=o5.out;omega
       case rel=>exact⟨ji4,(by first|rfl|(simp;done)|(simp only[←hji4] <;> (first|rfl|simp))|(simp[*];done)),H',⟨by have:=o5.out;omega⟩,by repeat(first|exact eQ.refl _|apply eQ.step)⟩
      ·rw[if_neg c7] at H
       have o9:((rd l0 ji4)==0)=false:=beq_eq_false_iff_ne.mpr c7;clear c7
       by_cases c8:0≤x
       ·rw[if_pos c8] at H
        by_cases c9:x≤(l0.length:Int)
        ·rw[if_pos c9] at H
         obtain rfl:=Option.some.inj H;have hcut:=fin c8 c9;have hle:x.toNat≤l0.length:=by omega
         clear fin H;generalize hr:l0.take x.toNat=r at hcut;go_wp2
         repeat(go_quiet (fail);try go_wp2)
         go_ret
         exact⟨⟨by first|rfl|(simp;done)|(simp[*];done),x.toNat,hle,rfl⟩,by repeat(first|exact eQ.refl _|apply eQ.step)⟩
        ·rw[if_neg c9] at H;exact absurd H aFz
       ·rw[if_neg c8] at H;exact absurd H aFz
     ·rw[if_neg c6] at H;exact absurd H aFz
    ·rw[if_neg c5] at H;exact absurd H aFz
   ·rw[if_neg c3] at H
    have o8:decide (0<x)=false:=decide_eq_false c3
    by_cases c8:0≤x
    ·rw[if_pos c8] at H
     by_cases c9:x≤(l0.length:Int)
     ·rw[if_pos c9] at H
      obtain rfl:=Option.some.inj H;have hcut:=fin c8 c9;have hle:x.toNat≤l0.length:=by omega
      clear fin H c3;generalize hr:l0.take x.toNat=r at hcut;go_wp2
      repeat(go_quiet (fail);try go_wp2)
      go_ret
      exact⟨⟨by first|rfl|(simp;done)|(simp[*];done),x.toNat,hle,rfl⟩,by repeat(first|exact eQ.refl _|apply eQ.step)⟩
     ·rw[if_neg c9] at H;exact absurd H aFz
    ·rw[if_neg c8] at H;exact absurd H aFz
theorem sum_short(k:Nat)(a b r:ByteArray)(x y:Int)(w:World)(h1:eU.f a 17=some true)(h2:eU.f b 17=some true)(hx:dM.f k a=some x)(hy:dM.f k b=some y)(hw:dW.f k (wrap64 (x+y))=some r) :
 Calls Tryz.prog 82 #[.string a,.string b] w fun e w'=>e= .returned (.string r)∧Below w.heap.size w w':=by
 have HB:=aA.mk (Below.refl w.heap.size w);go_enter Tryz.func82,Tryz.ntmps82
 go_wp2_with(first|((with_reducible refine aC (f:=150) rfl ?_);refine dF (some 8) rfl rfl Tryz.func150 (by kernel_rfl) rfl #[.string a,.int .i64 17] rfl (by(try simp only[List.map_toArray,List.map_cons,List.map_nil]);first|done|rfl) ?_;(with_reducible refine(eU.calls a 17 _ _ h1).mono ?_);rintro e w' ⟨rfl,⟨nd,rfl⟩⟩;refine⟨_,rfl,?_⟩)|(go_at_call 150;(with_reducible refine(eU.calls b 17 _ _ h2).mono ?_);rintro e w' ⟨rfl,⟨nd,rfl⟩⟩)|((with_reducible refine aC (f:=153) rfl ?_);refine dF (some 14) rfl rfl Tryz.func153 (by kernel_rfl) rfl #[.string a] rfl (by(try simp only[List.map_toArray,List.map_cons,List.map_nil]);first|done|rfl) ?_;(with_reducible refine(dM.calls k a x _ hx).mono ?_);rintro e w' ⟨rfl,⟨nd,rfl⟩⟩;refine⟨_,rfl,?_⟩)|((with_reducible refine aC (f:=153) rfl ?_);refine dF (some 16) rfl rfl Tryz.func153 (by kernel_rfl) rfl #[.string b] rfl (by(try simp only[List.map_toArray,List.map_cons,List.map_nil]);first|done|rfl) ?_;(with_reducible refine(dM.calls k b y _ hy).mono ?_);rintro e w' ⟨rfl,⟨nd,rfl⟩⟩;refine⟨_,rfl,?_⟩)|((with_reducible refine aC (f:=151) rfl ?_);refine dF (some 18) rfl rfl Tryz.func151 (by kernel_rfl) rfl #[.int .i64 (wrap64 (x+y))] rfl (by(try simp only[List.map_toArray,List.map_cons,List.map_nil]);first|done|rfl) ?_;(with_reducible refine(dW.calls k _ r _ hw).mono ?_);rintro e l9 ⟨rfl,hb⟩;refine⟨_,rfl,?_⟩;have n1_:=aA.mk (fM (by repeat(first|(with_reducible first|exact HB.out|apply aT|apply aI|apply aJ)|exact HB.out)) hb);clear HB;have HB:=n1_;clear n1_;(try clear hb)))
 go_ret
 exact⟨by first|rfl|(simp[*] <;> rfl),by repeat(first|(with_reducible first|exact HB.out|apply aT|apply aI|apply aJ)|exact HB.out)⟩
theorem sum_same(k:Nat)(a b r:ByteArray)(s1 s2 n1 n2:Bool)(x y p:List Int)(w:World)(h1:eU.f a 17=some s1)(h2:eU.f b 17=some s2)(hs:(s1&&s2)=false)(hx:aX.f k a=some x)(hy:aX.f k b=some y)(hn1:aH.f a=some n1)(hn2:aH.f b=some n2)(he:(n1==n2)=true)(hp:gQ.f k x y=some p)(hm:bV.f k p n1=some r) :
 Calls Tryz.prog 82 #[.string a,.string b] w fun e w'=>e= .returned (.string r)∧Below w.heap.size w w':=by
 have HB:=aA.mk (Below.refl w.heap.size w)
 cases s1 <;> cases s2 <;> first|(exact absurd hs aG0)|clear hs
 all_goals
  go_enter Tryz.func82,Tryz.ntmps82
  go_wp2_with(first|((with_reducible refine aC (f:=150) rfl ?_);refine dF (some 8) rfl rfl Tryz.func150 (by kernel_rfl) rfl #[.string a,.int .i64 17] rfl (by(try simp only[List.map_toArray,List.map_cons,List.map_nil]);first|done|rfl) ?_;(with_reducible refine(eU.calls a 17 _ _ h1).mono ?_);rintro e w' ⟨rfl,⟨nd,rfl⟩⟩;refine⟨_,rfl,?_⟩)|(go_at_call 150;(with_reducible refine(eU.calls b 17 _ _ h2).mono ?_);rintro e w' ⟨rfl,⟨nd,rfl⟩⟩)|((with_reducible refine aC (f:=156) rfl ?_);refine dF (some 20) rfl rfl Tryz.func156 (by kernel_rfl) rfl #[.string a] rfl (by(try simp only[List.map_toArray,List.map_cons,List.map_nil]);first|done|rfl) ?_;(with_reducible refine(aX.calls k a x _ hx).mono ?_);rintro e o5 ⟨v250,rfl,l9,hb⟩;refine⟨_,rfl,?_⟩;have n0_:=aA.mk (Kd.gU l9 (dJ (by repeat(first|(with_reducible first|exact HB.out|apply aT|apply aI|apply aJ)|exact HB.out))));have n1_:=aA.mk (fM (by repeat(first|(with_reducible first|exact HB.out|apply aT|apply aI|apply aJ)|exact HB.out)) hb);clear HB;have HX:=n0_;have HB:=n1_;clear n0_ n1_;(try clear hb);(try clear l9))|((with_reducible refine aC (f:=156) rfl ?_);refine dF (some 22) rfl rfl Tryz.func156 (by kernel_rfl) rfl #[.string b] rfl (by(try simp only[List.map_toArray,List.map_cons,List.map_nil]);first|done|rfl) ?_;(with_reducible refine(aX.calls k b y _ hy).mono ?_);rintro e o6 ⟨v253,rfl,l9,hb⟩;refine⟨_,rfl,?_⟩;have n0_:=aA.mk (Kd.mZ (by(with_reducible repeat(first|apply Kd.aQ|apply Kd.aN|apply Kd.aW));exact HX.out) (Kd.lM l9) hb);have n1_:=aA.mk (Kd.gU (Kd.lN l9 (Kd.R_lt (by(with_reducible repeat(first|apply Kd.aQ|apply Kd.aN|apply Kd.aW));exact HX.out))) (dJ (by repeat(first|(with_reducible first|exact HB.out|apply aT|apply aI|apply aJ)|exact HB.out))));have n2_:=aA.mk (fM (by repeat(first|(with_reducible first|exact HB.out|apply aT|apply aI|apply aJ)|exact HB.out)) hb);clear HX;clear HB;have HX:=n0_;have HY:=n1_;have HB:=n2_;clear n0_ n1_ n2_;(try clear hb);(try clear l9);obtain⟨Ax,cx,ex⟩:=Kd.fA HX.out;subst ex;obtain⟨Ay,cy,ey⟩:=Kd.fA HY.out;subst ey)|((with_reducible refine aC (f:=158) rfl ?_);refine dF (some 24) rfl rfl Tryz.func158 (by kernel_rfl) rfl #[.string a] rfl (by(try simp only[List.map_toArray,List.map_cons,List.map_nil]);first|done|rfl) ?_;(with_reducible refine(aH.calls a _ _ hn1).mono ?_);rintro e w' ⟨rfl,⟨nd,rfl⟩⟩;refine⟨_,rfl,?_⟩)|((with_reducible refine aC (f:=158) rfl ?_);refine dF (some 26) rfl rfl Tryz.func158 (by kernel_rfl) rfl #[.string b] rfl (by(try simp only[List.map_toArray,List.map_cons,List.map_nil]);first|done|rfl) ?_;(with_reducible refine(aH.calls b _ _ hn2).mono ?_);rintro e w' ⟨rfl,⟨nd,rfl⟩⟩;refine⟨_,rfl,?_⟩)|((with_reducible refine aC (f:=160) rfl ?_);refine dF (some 30) rfl rfl Tryz.func160 (by kernel_rfl) rfl #[.slice Ax x.length cx,.slice Ay y.length cy] rfl (by(try simp only[List.map_toArray,List.map_cons,List.map_nil]);first|done|rfl) ?_;(with_reducible refine(gQ.calls k _ _ x _ _ y p _ ?side1 ?side2 ?side3 ?side4 hp).mono ?_);(case side1=>repeat(first|exact(Kd.dB HX.out).2.2|(with_reducible refine Kd.gI ?_ _)|(with_reducible refine Kd.gJ ?_ _)|(with_reducible refine Kd.iJ ?_)));(case side2=>exact(Kd.dB HX.out).2.1);(case side3=>repeat(first|exact(Kd.dB HY.out).2.2|(with_reducible refine Kd.gI ?_ _)|(with_reducible refine Kd.gJ ?_ _)|(with_reducible refine Kd.iJ ?_)));(case side4=>exact(Kd.dB HY.out).2.1);rintro e o7 ⟨v256,rfl,l9,hb⟩;refine⟨_,rfl,?_⟩;have n0_:=aA.mk (Kd.gU l9 (dJ (by repeat(first|(with_reducible first|exact HB.out|apply aT|apply aI|apply aJ)|exact HB.out))));have n1_:=aA.mk (fM (by repeat(first|(with_reducible first|exact HB.out|apply aT|apply aI|apply aJ)|exact HB.out)) hb);clear HB;have HP:=n0_;have HB:=n1_;clear n0_ n1_;(try clear hb);(try clear l9);obtain⟨Ap,cp,ep⟩:=Kd.fA HP.out;subst ep)|((with_reducible refine aC (f:=158) rfl ?_);refine dF (some 32) rfl rfl Tryz.func158 (by kernel_rfl) rfl #[.string a] rfl (by(try simp only[List.map_toArray,List.map_cons,List.map_nil]);first|done|rfl) ?_;(with_reducible refine(aH.calls a _ _ hn1).mono ?_);rintro e w' ⟨rfl,⟨nd,rfl⟩⟩;refine⟨_,rfl,?_⟩)|((with_reducible refine aC (f:=157) rfl ?_);refine dF (some 33) rfl rfl Tryz.func157 (by kernel_rfl) rfl #[.slice Ap p.length cp,.bool n1] rfl (by(try simp only[List.map_toArray,List.map_cons,List.map_nil]);first|done|rfl) ?_;(with_reducible refine(bV.calls k (fun k_=>some k_=(.slice Ap p.length cp:Value).ownBlock) (.slice Ap p.length cp) p n1 r w _ ?side1 ?side2 hm).mono ?_);(case side1=>repeat(first|(with_reducible first|exact HB.out|apply aT|apply aI|apply aJ)|exact HB.out));(case side2=>exact Kd.kE rfl (by(with_reducible repeat(first|apply Kd.aQ|apply Kd.aN|apply Kd.aW));exact HP.out));rintro e o8 ⟨rfl,hb,hkp⟩;refine⟨_,rfl,?_⟩;have n2_:=aA.mk (hb);clear HB;have HB:=n2_;clear n2_;(try clear hb);(try clear hkp)))
  go_ret
  exact⟨by first|rfl|(simp[*] <;> rfl),by repeat(first|(with_reducible first|exact HB.out|apply aT|apply aI|apply aJ)|exact HB.out)⟩
theorem sum_ge(k:Nat)(a b r:ByteArray)(s1 s2 n1 n2:Bool)(x y p:List Int)(w:World)(h1:eU.f a 17=some s1)(h2:eU.f b 17=some s2)(hs:(s1&&s2)=false)(hx:aX.f k a=some x)(hy:aX.f k b=some y)(hn1:aH.f a=some n1)(hn2:aH.f b=some n2)(he:(n1==n2)=false)(xc yc:List Int)(hxc:aU.f k x=some xc)(hyc:aU.f k y=some yc)(o:Int)(ho:dP.f k xc yc=some o)(hd:decide (0≤o)=true)(hp:fB.f k x y=some p)(hm:bV.f k p n1=some r) :
 Calls Tryz.prog 82 #[.string a,.string b] w fun e w'=>e= .returned (.string r)∧Below w.heap.size w w':=by
 have HB:=aA.mk (Below.refl w.heap.size w)
 cases s1 <;> cases s2 <;> first|(exact absurd hs aG0)|clear hs
 all_goals
  go_enter Tryz.func82,Tryz.ntmps82
  go_wp2_with(first|((with_reducible refine aC (f:=150) rfl ?_);refine dF (some 8) rfl rfl Tryz.func150 (by kernel_rfl) rfl #[.string a,.int .i64 17] rfl (by(try simp only[List.map_toArray,List.map_cons,List.map_nil]);first|done|rfl) ?_;(with_reducible refine(eU.calls a 17 _ _ h1).mono ?_);rintro e w' ⟨rfl,⟨nd,rfl⟩⟩;refine⟨_,rfl,?_⟩)|(go_at_call 150;(with_reducible refine(eU.calls b 17 _ _ h2).mono ?_);rintro e w' ⟨rfl,⟨nd,rfl⟩⟩)|((with_reducible refine aC (f:=156) rfl ?_);refine dF (some 20) rfl rfl Tryz.func156 (by kernel_rfl) rfl #[.string a] rfl (by(try simp only[List.map_toArray,List.map_cons,List.map_nil]);first|done|rfl) ?_;(with_reducible refine(aX.calls k a x _ hx).mono ?_);rintro e o5 ⟨v250,rfl,l9,hb⟩;refine⟨_,rfl,?_⟩;have n0_:=aA.mk (Kd.gU l9 (dJ (by repeat(first|(with_reducible first|exact HB.out|apply aT|apply aI|apply aJ)|exact HB.out))));have n1_:=aA.mk (fM (by repeat(first|(with_reducible first|exact HB.out|apply aT|apply aI|apply aJ)|exact HB.out)) hb);clear HB;have HX:=n0_;have HB:=n1_;clear n0_ n1_;(try clear hb);(try clear l9))|((with_reducible refine aC (f:=156) rfl ?_);refine dF (some 22) rfl rfl Tryz.func156 (by kernel_rfl) rfl #[.string b] rfl (by(try simp only[List.map_toArray,List.map_cons,List.map_nil]);first|done|rfl) ?_;(with_reducible refine(aX.calls k b y _ hy).mono ?_);rintro e o6 ⟨v253,rfl,l9,hb⟩;refine⟨_,rfl,?_⟩;have n0_:=aA.mk (Kd.mZ (by(with_reducible repeat(first|apply Kd.aQ|apply Kd.aN|apply Kd.aW));exact HX.out) (Kd.lM l9) hb);have n1_:=aA.mk (Kd.gU (Kd.lN l9 (Kd.R_lt (by(with_reducible repeat(first|apply Kd.aQ|apply Kd.aN|apply Kd.aW));exact HX.out))) (dJ (by repeat(first|(with_reducible first|exact HB.out|apply aT|apply aI|apply aJ)|exact HB.out))));have n2_:=aA.mk (fM (by repeat(first|(with_reducible first|exact HB.out|apply aT|apply aI|apply aJ)|exact HB.out)) hb);clear HX;clear HB;have HX:=n0_;have HY:=n1_;have HB:=n2_;clear n0_ n1_ n2_;(try clear hb);(try clear l9);obtain⟨Ax,cx,ex⟩:=Kd.fA HX.out;subst ex;obtain⟨Ay,cy,ey⟩:=Kd.fA HY.out;subst ey)|((with_reducible refine aC (f:=158) rfl ?_);refine dF (some 24) rfl rfl Tryz.func158 (by kernel_rfl) rfl #[.string a] rfl (by(try simp only[List.map_toArray,List.map_cons,List.map_nil]);first|done|rfl) ?_;(with_reducible refine(aH.calls a _ _ hn1).mono ?_);rintro e w' ⟨rfl,⟨nd,rfl⟩⟩;refine⟨_,rfl,?_⟩)|((with_reducible refine aC (f:=158) rfl ?_);refine dF (some 26) rfl rfl Tryz.func158 (by kernel_rfl) rfl #[.string b] rfl (by(try simp only[List.map_toArray,List.map_cons,List.map_nil]);first|done|rfl) ?_;(with_reducible refine(aH.calls b _ _ hn2).mono ?_);rintro e w' ⟨rfl,⟨nd,rfl⟩⟩;refine⟨_,rfl,?_⟩)|((with_reducible refine aC (f:=155) rfl ?_);refine dF (some 35) rfl rfl Tryz.func155 (by kernel_rfl) rfl #[.slice Ax x.length cx] rfl (by(try simp only[List.map_toArray,List.map_cons,List.map_nil]);first|done|rfl) ?_;(with_reducible refine(cut_ro k Ax cx x xc _ _ _ (by(with_reducible repeat(first|apply Kd.aQ|apply Kd.aN|apply Kd.aW));exact HX.out) hxc).mono ?_);rintro e w' ⟨⟨rfl,m_,hm_,em_⟩,⟨nd,rfl⟩⟩;refine⟨_,rfl,?_⟩;have hl_:xc.length=m_:=(by rw[em_,List.length_take];omega);have n0_:=aA.mk (show Kd.R (Kd.int .i64) 3 _ _ _ (.slice Ax xc.length cx) xc from(by rw[hl_,em_];exact Kd.aCw HX.out hm_));have HXC:=n0_;clear n0_ hl_ hm_ em_)|((with_reducible refine aC (f:=155) rfl ?_);refine dF (some 37) rfl rfl Tryz.func155 (by kernel_rfl) rfl #[.slice Ay y.length cy] rfl (by(try simp only[List.map_toArray,List.map_cons,List.map_nil]);first|done|rfl) ?_;(with_reducible refine(cut_ro k Ay cy y yc _ _ _ (by(with_reducible repeat(first|apply Kd.aQ|apply Kd.aN|apply Kd.aW));exact HY.out) hyc).mono ?_);rintro e w' ⟨⟨rfl,m_,hm_,em_⟩,⟨nd,rfl⟩⟩;refine⟨_,rfl,?_⟩;have hl_:yc.length=m_:=(by rw[em_,List.length_take];omega);have n0_:=aA.mk (show Kd.R (Kd.int .i64) 3 _ _ _ (.slice Ay yc.length cy) yc from(by rw[hl_,em_];exact Kd.aCw HY.out hm_));have HYC:=n0_;clear n0_ hl_ hm_ em_)|((with_reducible refine aC (f:=161) rfl ?_);refine dF (some 38) rfl rfl Tryz.func161 (by kernel_rfl) rfl #[.slice Ax xc.length cx,.slice Ay yc.length cy] rfl (by(try simp only[List.map_toArray,List.map_cons,List.map_nil]);first|done|rfl) ?_;(with_reducible refine(dP.calls k _ _ xc _ _ yc o _ ?side1 ?side2 ?side3 ?side4 ho).mono ?_);(case side1=>repeat(first|exact(Kd.dB HXC.out).2.2|(with_reducible refine Kd.gI ?_ _)|(with_reducible refine Kd.gJ ?_ _)|(with_reducible refine Kd.iJ ?_)));(case side2=>exact(Kd.dB HXC.out).2.1);(case side3=>repeat(first|exact(Kd.dB HYC.out).2.2|(with_reducible refine Kd.gI ?_ _)|(with_reducible refine Kd.gJ ?_ _)|(with_reducible refine Kd.iJ ?_)));(case side4=>exact(Kd.dB HYC.out).2.1);rintro e w' ⟨rfl,⟨nd,rfl⟩⟩;refine⟨_,rfl,?_⟩)|((with_reducible refine aC (f:=162) rfl ?_);refine dF (some 42) rfl rfl Tryz.func162 (by kernel_rfl) rfl #[.slice Ax x.length cx,.slice Ay y.length cy] rfl (by(try simp only[List.map_toArray,List.map_cons,List.map_nil]);first|done|rfl) ?_;(with_reducible refine(fB.calls k _ _ x _ _ y p _ ?side1 ?side2 ?side3 ?side4 hp).mono ?_);(case side1=>repeat(first|exact(Kd.dB HX.out).2.2|(with_reducible refine Kd.gI ?_ _)|(with_reducible refine Kd.gJ ?_ _)|(with_reducible refine Kd.iJ ?_)));(case side2=>exact(Kd.dB HX.out).2.1);(case side3=>repeat(first|exact(Kd.dB HY.out).2.2|(with_reducible refine Kd.gI ?_ _)|(with_reducible refine Kd.gJ ?_ _)|(with_reducible refine Kd.iJ ?_)));(case side4=>exact(Kd.dB HY.out).2.1);rintro e o7 ⟨v256,rfl,l9,hb⟩;refine⟨_,rfl,?_⟩;have n0_:=aA.mk (Kd.gU l9 (dJ (by repeat(first|(with_reducible first|exact HB.out|apply aT|apply aI|apply aJ)|exact HB.out))));have n1_:=aA.mk (fM (by repeat(first|(with_reducible first|exact HB.out|apply aT|apply aI|apply aJ)|exact HB.out)) hb);clear HB;have HP:=n0_;have HB:=n1_;clear n0_ n1_;(try clear hb);(try clear l9);obtain⟨Ap,cp,ep⟩:=Kd.fA HP.out;subst ep)|((with_reducible refine aC (f:=158) rfl ?_);refine dF (some 44) rfl rfl Tryz.func158 (by kernel_rfl) rfl #[.string a] rfl (by(try simp only[List.map_toArray,List.map_cons,List.map_nil]);first|done|rfl) ?_;(with_reducible refine(aH.calls a _ _ hn1).mono ?_);rintro e w' ⟨rfl,⟨nd,rfl⟩⟩;refine⟨_,rfl,?_⟩)|((with_reducible refine aC (f:=157) rfl ?_);refine dF (some 45) rfl rfl Tryz.func157 (by kernel_rfl) rfl #[.slice Ap p.length cp,.bool n1] rfl (by(try simp only[List.map_toArray,List.map_cons,List.map_nil]);first|done|rfl) ?_;(with_reducible refine(bV.calls k (fun k_=>some k_=(.slice Ap p.length cp:Value).ownBlock) (.slice Ap p.length cp) p n1 r w _ ?side1 ?side2 hm).mono ?_);(case side1=>repeat(first|(with_reducible first|exact HB.out|apply aT|apply aI|apply aJ)|exact HB.out));(case side2=>exact Kd.kE rfl (by(with_reducible repeat(first|apply Kd.aQ|apply Kd.aN|apply Kd.aW));exact HP.out));rintro e o8 ⟨rfl,hb,hkp⟩;refine⟨_,rfl,?_⟩;have n2_:=aA.mk (hb);clear HB;have HB:=n2_;clear n2_;(try clear hb);(try clear hkp)))
  go_ret
  exact⟨by first|rfl|(simp[*] <;> rfl),by repeat(first|(with_reducible first|exact HB.out|apply aT|apply aI|apply aJ)|exact HB.out)⟩
theorem sum_lt(k:Nat)(a b r:ByteArray)(s1 s2 n1 n2:Bool)(x y p:List Int)(w:World)(h1:eU.f a 17=some s1)(h2:eU.f b 17=some s2)(hs:(s1&&s2)=false)(hx:aX.f k a=some x)(hy:aX.f k b=some y)(hn1:aH.f a=some n1)(hn2:aH.f b=some n2)(he:(n1==n2)=false)(xc yc:List Int)(hxc:aU.f k x=some xc)(hyc:aU.f k y=some yc)(o:Int)(ho:dP.f k xc yc=some o)(hd:decide (0≤o)=false)(hp:fB.f k y x=some p)(hm:bV.f k p n2=some r) :
 Calls Tryz.prog 82 #[.string a,.string b] w fun e w'=>e= .returned (.string r)∧Below w.heap.size w w':=by
 have HB:=aA.mk (Below.refl w.heap.size w)
 cases s1 <;> cases s2 <;> first|(exact absurd hs aG0)|clear hs
 all_goals
  go_enter Tryz.func82,Tryz.ntmps82
  go_wp2_with(first|((with_reducible refine aC (f:=150) rfl ?_);refine dF (some 8) rfl rfl Tryz.func150 (by kernel_rfl) rfl #[.string a,.int .i64 17] rfl (by(try simp only[List.map_toArray,List.map_cons,List.map_nil]);first|done|rfl) ?_;(with_reducible refine(eU.calls a 17 _ _ h1).mono ?_);rintro e w' ⟨rfl,⟨nd,rfl⟩⟩;refine⟨_,rfl,?_⟩)|(go_at_call 150;(with_reducible refine(eU.calls b 17 _ _ h2).mono ?_);rintro e w' ⟨rfl,⟨nd,rfl⟩⟩)|((with_reducible refine aC (f:=156) rfl ?_);refine dF (some 20) rfl rfl Tryz.func156 (by kernel_rfl) rfl #[.string a] rfl (by(try simp only[List.map_toArray,List.map_cons,List.map_nil]);first|done|rfl) ?_;(with_reducible refine(aX.calls k a x _ hx).mono ?_);rintro e o5 ⟨v250,rfl,l9,hb⟩;refine⟨_,rfl,?_⟩;have n0_:=aA.mk (Kd.gU l9 (dJ (by repeat(first|(with_reducible first|exact HB.out|apply aT|apply aI|apply aJ)|exact HB.out))));have n1_:=aA.mk (fM (by repeat(first|(with_reducible first|exact HB.out|apply aT|apply aI|apply aJ)|exact HB.out)) hb);clear HB;have HX:=n0_;have HB:=n1_;clear n0_ n1_;(try clear hb);(try clear l9))|((with_reducible refine aC (f:=156) rfl ?_);refine dF (some 22) rfl rfl Tryz.func156 (by kernel_rfl) rfl #[.string b] rfl (by(try simp only[List.map_toArray,List.map_cons,List.map_nil]);first|done|rfl) ?_;(with_reducible refine(aX.calls k b y _ hy).mono ?_);rintro e o6 ⟨v253,rfl,l9,hb⟩;refine⟨_,rfl,?_⟩;have n0_:=aA.mk (Kd.mZ (by(with_reducible repeat(first|apply Kd.aQ|apply Kd.aN|apply Kd.aW));exact HX.out) (Kd.lM l9) hb);have n1_:=aA.mk (Kd.gU (Kd.lN l9 (Kd.R_lt (by(with_reducible repeat(first|apply Kd.aQ|apply Kd.aN|apply Kd.aW));exact HX.out))) (dJ (by repeat(first|(with_reducible first|exact HB.out|apply aT|apply aI|apply aJ)|exact HB.out))));have n2_:=aA.mk (fM (by repeat(first|(with_reducible first|exact HB.out|apply aT|apply aI|apply aJ)|exact HB.out)) hb);clear HX;clear HB;have HX:=n0_;have HY:=n1_;have HB:=n2_;clear n0_ n1_ n2_;(try clear hb);(try clear l9);obtain⟨Ax,cx,ex⟩:=Kd.fA HX.out;subst ex;obtain⟨Ay,cy,ey⟩:=Kd.fA HY.out;subst ey)|((with_reducible refine aC (f:=158) rfl ?_);refine dF (some 24) rfl rfl Tryz.func158 (by kernel_rfl) rfl #[.string a] rfl (by(try simp only[List.map_toArray,List.map_cons,List.map_nil]);first|done|rfl) ?_;(with_reducible refine(aH.calls a _ _ hn1).mono ?_);rintro e w' ⟨rfl,⟨nd,rfl⟩⟩;refine⟨_,rfl,?_⟩)|((with_reducible refine aC (f:=158) rfl ?_);refine dF (some 26) rfl rfl Tryz.func158 (by kernel_rfl) rfl #[.string b] rfl (by(try simp only[List.map_toArray,List.map_cons,List.map_nil]);first|done|rfl) ?_;(with_reducible refine(aH.calls b _ _ hn2).mono ?_);rintro e w' ⟨rfl,⟨nd,rfl⟩⟩;refine⟨_,rfl,?_⟩)|((with_reducible refine aC (f:=155) rfl ?_);refine dF (some 35) rfl rfl Tryz.func155 (by kernel_rfl) rfl #[.slice Ax x.length cx] rfl (by(try simp only[List.map_toArray,List.map_cons,List.map_nil]);first|done|rfl) ?_;(with_reducible refine(cut_ro k Ax cx x xc _ _ _ (by(with_reducible repeat(first|apply Kd.aQ|apply Kd.aN|apply Kd.aW));exact HX.out) hxc).mono ?_);rintro e w' ⟨⟨rfl,m_,hm_,em_⟩,⟨nd,rfl⟩⟩;refine⟨_,rfl,?_⟩;have hl_:xc.length=m_:=(by rw[em_,List.length_take];omega);have n0_:=aA.mk (show Kd.R (Kd.int .i64) 3 _ _ _ (.slice Ax xc.length cx) xc from(by rw[hl_,em_];exact Kd.aCw HX.out hm_));have HXC:=n0_;clear n0_ hl_ hm_ em_)|((with_reducible refine aC (f:=155) rfl ?_);refine dF (some 37) rfl rfl Tryz.func155 (by kernel_rfl) rfl #[.slice Ay y.length cy] rfl (by(try simp only[List.map_toArray,List.map_cons,List.map_nil]);first|done|rfl) ?_;(with_reducible refine(cut_ro k Ay cy y yc _ _ _ (by(with_reducible repeat(first|apply Kd.aQ|apply Kd.aN|apply Kd.aW));exact HY.out) hyc).mono ?_);rintro e w' ⟨⟨rfl,m_,hm_,em_⟩,⟨nd,rfl⟩⟩;refine⟨_,rfl,?_⟩;have hl_:yc.length=m_:=(by rw[em_,List.length_take];omega);have n0_:=aA.mk (show Kd.R (Kd.int .i64) 3 _ _ _ (.slice Ay yc.length cy) yc from(by rw[hl_,em_];exact Kd.aCw HY.out hm_));have HYC:=n0_;clear n0_ hl_ hm_ em_)|((with_reducible refine aC (f:=161) rfl ?_);refine dF (some 38) rfl rfl Tryz.func161 (by kernel_rfl) rfl #[.slice Ax xc.length cx,.slice Ay yc.length cy] rfl (by(try simp only[List.map_toArray,List.map_cons,List.map_nil]);first|done|rfl) ?_;(with_reducible refine(dP.calls k _ _ xc _ _ yc o _ ?side1 ?side2 ?side3 ?side4 ho).mono ?_);(case side1=>repeat(first|exact(Kd.dB HXC.out).2.2|(with_reducible refine Kd.gI ?_ _)|(with_reducible refine Kd.gJ ?_ _)|(with_reducible refine Kd.iJ ?_)));(case side2=>exact(Kd.dB HXC.out).2.1);(case side3=>repeat(first|exact(Kd.dB HYC.out).2.2|(with_reducible refine Kd.gI ?_ _)|(with_reducible refine Kd.gJ ?_ _)|(with_reducible refine Kd.iJ ?_)));(case side4=>exact(Kd.dB HYC.out).2.1);rintro e w' ⟨rfl,⟨nd,rfl⟩⟩;refine⟨_,rfl,?_⟩)|((with_reducible refine aC (f:=162) rfl ?_);refine dF (some 48) rfl rfl Tryz.func162 (by kernel_rfl) rfl #[.slice Ay y.length cy,.slice Ax x.length cx] rfl (by(try simp only[List.map_toArray,List.map_cons,List.map_nil]);first|done|rfl) ?_;(with_reducible refine(fB.calls k _ _ y _ _ x p _ ?side1 ?side2 ?side3 ?side4 hp).mono ?_);(case side1=>repeat(first|exact(Kd.dB HY.out).2.2|(with_reducible refine Kd.gI ?_ _)|(with_reducible refine Kd.gJ ?_ _)|(with_reducible refine Kd.iJ ?_)));(case side2=>exact(Kd.dB HY.out).2.1);(case side3=>repeat(first|exact(Kd.dB HX.out).2.2|(with_reducible refine Kd.gI ?_ _)|(with_reducible refine Kd.gJ ?_ _)|(with_reducible refine Kd.iJ ?_)));(case side4=>exact(Kd.dB HX.out).2.1);rintro e o7 ⟨v256,rfl,l9,hb⟩;refine⟨_,rfl,?_⟩;have n0_:=aA.mk (Kd.gU l9 (dJ (by repeat(first|(with_reducible first|exact HB.out|apply aT|apply aI|apply aJ)|exact HB.out))));have n1_:=aA.mk (fM (by repeat(first|(with_reducible first|exact HB.out|apply aT|apply aI|apply aJ)|exact HB.out)) hb);clear HB;have HP:=n0_;have HB:=n1_;clear n0_ n1_;(try clear hb);(try clear l9);obtain⟨Ap,cp,ep⟩:=Kd.fA HP.out;subst ep)|((with_reducible refine aC (f:=158) rfl ?_);refine dF (some 50) rfl rfl Tryz.func158 (by kernel_rfl) rfl #[.string b] rfl (by(try simp only[List.map_toArray,List.map_cons,List.map_nil]);first|done|rfl) ?_;(with_reducible refine(aH.calls b _ _ hn2).mono ?_);rintro e w' ⟨rfl,⟨nd,rfl⟩⟩;refine⟨_,rfl,?_⟩)|((with_reducible refine aC (f:=157) rfl ?_);refine dF (some 51) rfl rfl Tryz.func157 (by kernel_rfl) rfl #[.slice Ap p.length cp,.bool n2] rfl (by(try simp only[List.map_toArray,List.map_cons,List.map_nil]);first|done|rfl) ?_;(with_reducible refine(bV.calls k (fun k_=>some k_=(.slice Ap p.length cp:Value).ownBlock) (.slice Ap p.length cp) p n2 r w _ ?side1 ?side2 hm).mono ?_);(case side1=>repeat(first|(with_reducible first|exact HB.out|apply aT|apply aI|apply aJ)|exact HB.out));(case side2=>exact Kd.kE rfl (by(with_reducible repeat(first|apply Kd.aQ|apply Kd.aN|apply Kd.aW));exact HP.out));rintro e o8 ⟨rfl,hb,hkp⟩;refine⟨_,rfl,?_⟩;have n2_:=aA.mk (hb);clear HB;have HB:=n2_;clear n2_;(try clear hb);(try clear hkp)))
  go_ret
  exact⟨by first|rfl|(simp[*] <;> rfl),by repeat(first|(with_reducible first|exact HB.out|apply aT|apply aI|apply aJ)|exact HB.out)⟩
end Go.Proofs.YtignanmmgaldeaaGreatDoor.PRefA
end
section
set_option linter.unusedVariables false
set_option linter.unusedSimpArgs false
namespace Go.Proofs.YtignanmmgaldeaaGreatDoor.RefP
open Go.RowKit Go.Proofs.YtignanmmgaldeaaGreatDoor.PRefA Go.Proofs.YtignanmmgaldeaaGreatDoorW.PrintWords Go.Proofs.YtignanmmgaldeaaGreatDoorW.PrintLast
theorem short_text{x:Int}{m:Nat}(hx:Bd m x)(hm:1≤m)(h4:m≤90000):eU.f (text x) 17=some (decide ((Lib.decDigits x.natAbs).length≤17)):=by
 have s:=size_text hx hm;unfold eU.f;rw[zK _ aFx (rF (pF x).1),Option.bind_some,kV]
 congr 1
 exact decide_eq_decide.2 aFx
theorem uM(x:Int):aH.f (text x)=some (decide (x<0)):=by
 rw[pG _ (rF (pF x).1),pre_text]
theorem sum_sign{x y:Int}(h:(decide (x<0)==decide (y<0))=true):(if decide (x<0)=true then -((x.natAbs+y.natAbs:Nat):Int) else((x.natAbs+y.natAbs:Nat):Int))=x+y:=by
 by_cases hx:x<0
 ·have hy:y<0:=by simp[hx] at h;exact h
  rw[if_pos (decide_eq_true hx)];omega
 ·have hy:¬y<0:=by simp[hx] at h;omega
  rw[if_neg (by simp[hx])];omega
theorem aEr{x y:Int}(h:(decide (x<0)==decide (y<0))=false)(hg:y.natAbs≤x.natAbs):(if decide (x<0)=true then -((x.natAbs-y.natAbs:Nat):Int) else((x.natAbs-y.natAbs:Nat):Int))=x+y:=by
 by_cases hx:x<0
 ·have hy:¬y<0:=by simp[hx] at h;omega
  rw[if_pos (decide_eq_true hx)];omega
 ·have hy:y<0:=by simp[hx] at h;exact h
  rw[if_neg (by simp[hx])];omega
theorem sum_calls{x y:Int}(hx:Bd 9000 x)(hy:Bd 9000 y)(w:World) :
 Calls Tryz.prog 82 #[.string (text x),.string (text y)] w fun e w'=>e= .returned (.string (text (x+y)))∧Below w.heap.size w w':=by
 have sx:=short_text hx aFx aFx;have sy:=short_text hy aFx aFx;obtain⟨k,hk⟩:∃k:Nat,k=1000000:=⟨_,rfl⟩
 by_cases hs:(Lib.decDigits x.natAbs).length≤17∧(Lib.decDigits y.natAbs).length≤17
 ·have bx:Bd 17 x:=nJ _ _ hs.1
  have by':Bd 17 y:=nJ _ _ hs.2
  rw[decide_eq_true hs.1] at sx;rw[decide_eq_true hs.2] at sy;have b1:x.natAbs<100000000000000000:=Nat.lt_of_lt_of_le bx (by decide +kernel);have b2:y.natAbs<100000000000000000:=Nat.lt_of_lt_of_le by' (by decide +kernel)
  have hw:wrap64 (x+y)=x+y:=by clear bx by' hx hy;unfold wrap64;omega
  exact PRefA.sum_short k _ _ _ x y w sx sy (yC bx k aFx) (yC by' k aFx) (by rw[hw];exact aBr _ aFx aFx k aFx)
 ·have hb:(decide ((Lib.decDigits x.natAbs).length≤17)&&decide ((Lib.decDigits y.natAbs).length≤17))=false:=by
   rw[Bool.and_eq_false_iff]
   by_cases h1:(Lib.decDigits x.natAbs).length≤17
   ·exact .inr (decide_eq_false fun q=>hs ⟨h1,q⟩)
   ·exact .inl (decide_eq_false h1)
  have lx:=kK hx aFx;have ly:=kK hy aFx;have dx:=rC x.natAbs;have dy:=rC y.natAbs;have tx:=mQ hx aFx aFx k aFx;have ty:=mQ hy aFx aFx k aFx
  cases he:(decide (x<0)==decide (y<0)) with
  |true=>
   obtain⟨p1,p2⟩:=plus_val (qV x.natAbs) (qV y.natAbs) aFx aFx (x.natAbs+y.natAbs) (by rw[zL,zL];omega) k aFx;have mv:=aCc (yD _) aFx _ (yI (x.natAbs+y.natAbs)) (decide (x<0)) k aFx;rw[sum_sign he] at mv;exact PRefA.sum_same k _ _ _ _ _ _ _ _ _ _ w sx sy hb tx ty (uM x) (uM y) he p1 mv
  |false=>
   have cx:=xW x.natAbs k aFx aFx;have cy:=xW y.natAbs k aFx aFx;have ov:=aB7 x.natAbs y.natAbs k aFx aFx aFx
   by_cases hg:y.natAbs≤x.natAbs
   ·have hd:decide (0≤sgnI ((x.natAbs:Int)-(y.natAbs:Int)))=true:=by
     refine decide_eq_true ?_;unfold sgnI
     split
     ·omega
     ·split <;> omega
    obtain⟨p1,p2⟩:=aEe (qV x.natAbs) (qV y.natAbs) aFx (by rw[zL,zL];omega) (x.natAbs-y.natAbs) (by rw[zL,zL];omega) k aFx;have mv:=aCc (yD _) aFx _ (yI (x.natAbs-y.natAbs)) (decide (x<0)) k aFx;rw[aEr he hg] at mv;exact PRefA.sum_ge k _ _ _ _ _ _ _ _ _ _ w sx sy hb tx ty (uM x) (uM y) he _ _ cx cy _ ov hd p1 mv
   ·have hd:decide (0≤sgnI ((x.natAbs:Int)-(y.natAbs:Int)))=false:=by
     refine decide_eq_false ?_;unfold sgnI
     split
     ·omega
     ·split <;> omega
    obtain⟨p1,p2⟩:=aEe (qV y.natAbs) (qV x.natAbs) aFx (by rw[zL,zL];omega) (y.natAbs-x.natAbs) (by rw[zL,zL];omega) k aFx;have mv:=aCc (yD _) aFx _ (yI (y.natAbs-x.natAbs)) (decide (y<0)) k aFx;have he2:(decide (y<0)==decide (x<0))=false:=by rw[Bool.beq_comm];exact he
    rw[aEr he2 aFx,Int.add_comm] at mv;exact PRefA.sum_lt k _ _ _ _ _ _ _ _ _ _ w sx sy hb tx ty (uM x) (uM y) he _ _ cx cy _ ov hd p1 mv
end Go.Proofs.YtignanmmgaldeaaGreatDoor.RefP
namespace Go.Proofs.YtignanmmgaldeaaGreatDoor
open Go.RowKit Go.Proofs.YtignanmmgaldeaaGreatDoor.RefP Go.Proofs.YtignanmmgaldeaaGreatDoorW.PrintWords Go.Proofs.YtignanmmgaldeaaGreatDoorW.PrintLast
def okR(a:ByteArray):Prop:=canon a.data.toList=true∧digN a≤9000
instance (a:ByteArray):Decidable (okR a):=inferInstanceAs (Decidable (_∧_))
theorem oN{x:Int}(m:Nat)(h:(Lib.decDigits x.natAbs).length≤m):Bd m x:=nJ _ _ h
theorem yY{a:ByteArray}(h:okR a):∃x,a=text x∧Bd 9000 x:=by
 obtain⟨x,rfl⟩:=lU a h.1;refine⟨x,rfl,oN _ ?_⟩;rw[←kV];exact h.2
theorem yZ{x:Int}{m:Nat}(h:Bd m x)(hm:1≤m)(h4:m≤9000):okR (text x):=⟨(pF x).1,by rw[kV];have:=kK h hm;omega⟩
def oO.f(a0 a1:ByteArray):Option ByteArray:=if okR a0∧okR a1 then some (text (aV a0+aV a1)) else none
theorem oO.calls(a0 a1 r0:ByteArray)(w:World)(h:oO.f a0 a1=some r0) :
 Calls Tryz.prog 82 #[.string a0,.string a1] w fun e w'=>e= .returned (.string r0)∧Below w.heap.size w w':=by
 unfold oO.f at h
 split at h
 ·rename_i hs
  obtain⟨x,rfl,bx⟩:=yY hs.1;obtain⟨y,rfl,by'⟩:=yY hs.2;obtain rfl:=Option.some.inj h;rw[bC,bC];exact sum_calls bx by' w
 ·cases h
theorem aD6{x y:Int}{m:Nat}(hx:Bd m x)(hy:Bd m y)(hm:1≤m)(h4:m≤9000):oO.f (text x) (text y)=some (text (x+y)):=by
 unfold oO.f;rw[if_pos ⟨yZ hx hm h4,yZ hy hm h4⟩,bC,bC]
end Go.Proofs.YtignanmmgaldeaaGreatDoor
end
section
set_option linter.unusedVariables false
set_option linter.unusedSimpArgs false
set_option maxHeartbeats 8000000
set_option maxRecDepth 100000
namespace Go.Proofs.YtignanmmgaldeaaGreatDoor.PRefA
open Go.RowKit Go.Proofs.YtignanmmgaldeaaGreatDoor.RefP Go.Proofs.YtignanmmgaldeaaGreatDoorW.PrintWords Go.Proofs.YtignanmmgaldeaaGreatDoorW.PrintLast Go.Proofs.YtignanmmgaldeaaGreatDoorW.PrintMore
attribute [local go_sem] dQ dR eH eP
def iD.f(a0:ByteArray)(a1:ByteArray):Option (ByteArray):=(kP.f a1).bind fun t102=>((oO.f a0 t102).bind fun t103=>(some t103))
theorem iD.calls(a0:ByteArray)(a1:ByteArray)(r:ByteArray)(w:World)(h:iD.f a0 a1=some r) :
 Calls Tryz.prog 84 #[.string a0,.string a1] w fun e w'=>e= .returned (.string r)∧Below w.heap.size w w':=by
 have HB:=aA.mk (Below.refl w.heap.size w);have H:((kP.f a1).bind fun l9=>((oO.f a0 l9).bind fun o5=>(some o5)))=some r:=h;clear h;replace H:=Option.bind_eq_some_iff.mp H;obtain⟨l9,o6,H⟩:=H;replace H:((oO.f a0 l9).bind fun o5=>(some o5))=some r:=H;have A3:=aA.mk o6;clear o6;replace H:=Option.bind_eq_some_iff.mp H;obtain⟨o5,o7,H⟩:=H;replace H:(some o5)=some r:=H;have A4:=aA.mk o7;clear o7;obtain rfl:=Option.some.inj H;go_enter Tryz.func84,Tryz.ntmps84
 go_wp2_with(first|((with_reducible refine aC (f:=163) rfl ?_);refine dF (some 7) rfl rfl Tryz.func163 (by kernel_rfl) rfl #[.string a1] rfl (by(try simp only[List.map_toArray,List.map_cons,List.map_nil]);first|done|rfl|(simp only[List.length_drop,List.length_take];rfl)) ?_;(with_reducible refine(kP.calls a1 l9 _ A3.out).mono ?_);rintro e w' ⟨rfl,⟨nd,rfl⟩⟩;refine⟨_,rfl,?_⟩)|((with_reducible refine aC (f:=82) rfl ?_);refine dF (some 8) rfl rfl Tryz.func82 (by kernel_rfl) rfl #[.string a0,.string l9] rfl (by(try simp only[List.map_toArray,List.map_cons,List.map_nil]);first|done|rfl|(simp only[List.length_drop,List.length_take];rfl)) ?_;(with_reducible refine(oO.calls a0 l9 o5 _ A4.out).mono ?_);rintro e w5 ⟨rfl,hb⟩;refine⟨_,rfl,?_⟩;have n0_:=aA.mk (fM (by repeat(first|(with_reducible first|exact HB.out|apply aT|apply aI|apply aJ)|exact HB.out)) hb);clear HB;have HB:=n0_;clear n0_;(try clear hb);(try clear hb2);(try clear hk);(try clear hi)))
 go_ret
 exact⟨by first|rfl|(simp[dZ,eF] <;> rfl)|(simp[*,dZ,eF] <;> rfl),by repeat(first|(with_reducible first|exact HB.out|apply aT|apply aI|apply aJ)|exact HB.out)⟩
def fV.j0:Nat→ByteArray→ByteArray→Bool→Option (ByteArray)
 |0,_,_,_=>none
 |k+1,x0,x1,x13=>if x13=true then((dM.f k x0).bind fun t174=>((dM.f k x1).bind fun t175=>((lJ.f t174 t175).bind fun t176=>((dW.f k t176).bind fun t177=>(some t177))))) else((aX.f k x0).bind fun t178=>((aU.f k t178).bind fun t181=>((aX.f k x1).bind fun t184=>((aU.f k t184).bind fun t187=>((dC.f k t181 t187).bind fun bt190=>((aH.f x0).bind fun t196=>((aH.f x1).bind fun t197=>((bV.f k bt190.1 (t196 != t197)).bind fun t198=>((aH.f x0).bind fun t199=>((aH.f x1).bind fun t200=>(if(t199 != t200)=true then(if(bt190.2.length:Int)>0 then((iD.f t198 (⟨#[49]⟩:ByteArray)).bind fun t201=>(some t201)) else(some t198)) else(some t198))))))))))))
def fV.f(k:Nat)(a0:ByteArray)(a1:ByteArray):Option (ByteArray):=(eU.f a0 17).bind fun t172=>(if t172=true then((eU.f a1 17).bind fun t173=>(fV.j0 k a0 a1 t173)) else(fV.j0 k a0 a1 false))
theorem fV.calls(k:Nat)(a0:ByteArray)(a1:ByteArray)(r:ByteArray)(w:World)(h:fV.f k a0 a1=some r) :
 Calls Tryz.prog 77 #[.string a0,.string a1] w fun e w'=>e= .returned (.string r)∧Below w.heap.size w w':=by
 have HB:=aA.mk (Below.refl w.heap.size w);have H:((eU.f a0 17).bind fun H8=>(if H8=true then((eU.f a1 17).bind fun G9=>(fV.j0 k a0 a1 G9)) else(fV.j0 k a0 a1 false)))=some r:=h;clear h;have I4:=aA.mk H;clear H;go_enter Tryz.func77,Tryz.ntmps77
 go_upto_region 1 with (fail)
 go_cut [13] (fun v13 wc=>∃(kq:Nat) (H9:Bool),v13= .bool H9∧aA (fV.j0 kq a0 a1 H9=some r)∧aA (kq≤k)∧aA (Below w.heap.size w wc))
 case first=>
  have H:=I4.out;clear I4;replace H:=Option.bind_eq_some_iff.mp H;obtain⟨H8,U7,H⟩:=H;replace H:(if H8=true then((eU.f a1 17).bind fun G9=>(fV.j0 k a0 a1 G9)) else(fV.j0 k a0 a1 false))=some r:=H;have A4:=aA.mk U7;clear U7
  by_cases c5:H8=true
  ·subst c5
   have H1:((eU.f a1 17).bind fun G9=>(fV.j0 k a0 a1 G9))=some r:=by rw[if_pos rfl] at H;exact H
   clear H;have H:=H1;clear H1;replace H:=Option.bind_eq_some_iff.mp H;obtain⟨G9,U8,H⟩:=H;replace H:(fV.j0 k a0 a1 G9)=some r:=H;have A6:=aA.mk U8;clear U8;have H':=aA.mk H;clear H
   go_wp2_with(first|((with_reducible refine aC (f:=150) rfl ?_);refine dF (some 9) rfl rfl Tryz.func150 (by kernel_rfl) rfl #[.string a0,.int .i64 17] rfl (by(try simp only[List.map_toArray,List.map_cons,List.map_nil]);first|done|rfl|(simp only[List.length_drop,List.length_take];rfl)) ?_;(with_reducible refine(eU.calls a0 17 true _ A4.out).mono ?_);rintro e w' ⟨rfl,⟨nd,rfl⟩⟩;refine⟨_,rfl,?_⟩)|(go_at_call 150;(with_reducible refine(eU.calls a1 17 G9 _ A6.out).mono ?_);rintro e w' ⟨rfl,⟨nd,rfl⟩⟩))
   go_meet
   case rel=>exact⟨_,(G9),aG1,H',le_,⟨by repeat(first|(with_reducible first|exact HB.out|apply aT|apply aI|apply aJ)|exact HB.out)⟩⟩
  ·replace c5:=Bool.eq_false_iff.mpr c5
   subst c5;have H1:(fV.j0 k a0 a1 false)=some r:=by rw[if_neg (show ¬(false=true) by decide)] at H;exact H
   clear H;have H:=H1;clear H1;have H':=aA.mk H;clear H
   go_wp2_with(first|((with_reducible refine aC (f:=150) rfl ?_);refine dF (some 9) rfl rfl Tryz.func150 (by kernel_rfl) rfl #[.string a0,.int .i64 17] rfl (by(try simp only[List.map_toArray,List.map_cons,List.map_nil]);first|done|rfl|(simp only[List.length_drop,List.length_take];rfl)) ?_;(with_reducible refine(eU.calls a0 17 false _ A4.out).mono ?_);rintro e w' ⟨rfl,⟨nd,rfl⟩⟩;refine⟨_,rfl,?_⟩))
   go_meet
   case rel=>exact⟨_,(false),aG1,H',le_,⟨by repeat(first|(with_reducible first|exact HB.out|apply aT|apply aI|apply aJ)|exact HB.out)⟩⟩
 case rest=>
  clear I4;try clear c1
  try clear p2
  try clear c5
  obtain⟨kq,H9,rfl,HA,gp,HB⟩:=hcut
  cases kq with
  |zero=>exact absurd HA.out (by simp[fV.j0])
  |succ kj2=>
   have H:=HA.out;clear HA;simp only[fV.j0] at H
   by_cases c7:H9=true
   ·subst c7
    have H1:((dM.f kj2 a0).bind fun H6=>((dM.f kj2 a1).bind fun H5=>((lJ.f H6 H5).bind fun G7=>((dW.f kj2 G7).bind fun G8=>(some G8)))))=some r:=by rw[if_pos rfl] at H;exact H
    clear H;have H:=H1;clear H1;replace H:=Option.bind_eq_some_iff.mp H;obtain⟨H6,U9,H⟩:=H;replace H:((dM.f kj2 a1).bind fun H5=>((lJ.f H6 H5).bind fun G7=>((dW.f kj2 G7).bind fun G8=>(some G8))))=some r:=H;have A8:=aA.mk U9;clear U9;replace H:=Option.bind_eq_some_iff.mp H;obtain⟨H5,V3,H⟩:=H;replace H:((lJ.f H6 H5).bind fun G7=>((dW.f kj2 G7).bind fun G8=>(some G8)))=some r:=H;have A9:=aA.mk V3;clear V3;replace H:=Option.bind_eq_some_iff.mp H;obtain⟨G7,V4,H⟩:=H;replace H:((dW.f kj2 G7).bind fun G8=>(some G8))=some r:=H;have Y5:=aA.mk V4;clear V4;replace H:=Option.bind_eq_some_iff.mp H;obtain⟨G8,V5,H⟩:=H;replace H:(some G8)=some r:=H;have Y7:=aA.mk V5;clear V5;obtain rfl:=Option.some.inj H
    go_wp2_with(first|((with_reducible refine aC (f:=153) rfl ?_);refine dF (some 15) rfl rfl Tryz.func153 (by kernel_rfl) rfl #[.string a0] rfl (by(try simp only[List.map_toArray,List.map_cons,List.map_nil]);first|done|rfl|(simp only[List.length_drop,List.length_take];rfl)) ?_;(with_reducible refine(dM.calls kj2 a0 H6 _ A8.out).mono ?_);rintro e w' ⟨rfl,⟨nd,rfl⟩⟩;refine⟨_,rfl,?_⟩)|((with_reducible refine aC (f:=153) rfl ?_);refine dF (some 17) rfl rfl Tryz.func153 (by kernel_rfl) rfl #[.string a1] rfl (by(try simp only[List.map_toArray,List.map_cons,List.map_nil]);first|done|rfl|(simp only[List.length_drop,List.length_take];rfl)) ?_;(with_reducible refine(dM.calls kj2 a1 H5 _ A9.out).mono ?_);rintro e w' ⟨rfl,⟨nd,rfl⟩⟩;refine⟨_,rfl,?_⟩)|((with_reducible refine aC (f:=152) rfl ?_);refine dF (some 18) rfl rfl Tryz.func152 (by kernel_rfl) rfl #[.int .i64 H6,.int .i64 H5] rfl (by(try simp only[List.map_toArray,List.map_cons,List.map_nil]);first|done|rfl|(simp only[List.length_drop,List.length_take];rfl)) ?_;(with_reducible refine(lJ.calls H6 H5 G7 _ Y5.out).mono ?_);rintro e w' ⟨rfl,⟨nd,rfl⟩⟩;refine⟨_,rfl,?_⟩)|((with_reducible refine aC (f:=151) rfl ?_);refine dF (some 19) rfl rfl Tryz.func151 (by kernel_rfl) rfl #[.int .i64 G7] rfl (by(try simp only[List.map_toArray,List.map_cons,List.map_nil]);first|done|rfl|(simp only[List.length_drop,List.length_take];rfl)) ?_;(with_reducible refine(dW.calls kj2 G7 G8 _ Y7.out).mono ?_);rintro e gq ⟨rfl,hb⟩;refine⟨_,rfl,?_⟩;have n0_:=aA.mk (fM (by repeat(first|(with_reducible first|exact HB.out|apply aT|apply aI|apply aJ)|exact HB.out)) hb);clear HB;have HB:=n0_;clear n0_;(try clear hb);(try clear hb2);(try clear hk);(try clear hi)))
    go_ret
    exact⟨by first|rfl|(simp[dZ,eF] <;> rfl)|(simp[*,dZ,eF] <;> rfl),by repeat(first|(with_reducible first|exact HB.out|apply aT|apply aI|apply aJ)|exact HB.out)⟩
   ·replace c7:=Bool.eq_false_iff.mpr c7
    subst c7;have H1:((aX.f kj2 a0).bind fun D8=>((aU.f kj2 D8).bind fun D6=>((aX.f kj2 a1).bind fun D7=>((aU.f kj2 D7).bind fun y8=>((dC.f kj2 D6 y8).bind fun F5=>((aH.f a0).bind fun D5=>((aH.f a1).bind fun y9=>((bV.f kj2 F5.1 (D5 != y9)).bind fun o6=>((aH.f a0).bind fun o9=>((aH.f a1).bind fun o8=>(if(o9 != o8)=true then(if(F5.2.length:Int)>0 then((iD.f o6 (⟨#[49]⟩:ByteArray)).bind fun C9=>(some C9)) else(some o6)) else(some o6))))))))))))=some r:=by rw[if_neg (show ¬(false=true) by decide)] at H;exact H
    clear H;have H:=H1;clear H1;replace H:=Option.bind_eq_some_iff.mp H;obtain⟨D8,V6,H⟩:=H;replace H:((aU.f kj2 D8).bind fun D6=>((aX.f kj2 a1).bind fun D7=>((aU.f kj2 D7).bind fun y8=>((dC.f kj2 D6 y8).bind fun F5=>((aH.f a0).bind fun D5=>((aH.f a1).bind fun y9=>((bV.f kj2 F5.1 (D5 != y9)).bind fun o6=>((aH.f a0).bind fun o9=>((aH.f a1).bind fun o8=>(if(o9 != o8)=true then(if(F5.2.length:Int)>0 then((iD.f o6 (⟨#[49]⟩:ByteArray)).bind fun C9=>(some C9)) else(some o6)) else(some o6)))))))))))=some r:=H;have I5:=aA.mk V6;clear V6;replace H:=Option.bind_eq_some_iff.mp H;obtain⟨D6,V7,H⟩:=H;replace H:((aX.f kj2 a1).bind fun D7=>((aU.f kj2 D7).bind fun y8=>((dC.f kj2 D6 y8).bind fun F5=>((aH.f a0).bind fun D5=>((aH.f a1).bind fun y9=>((bV.f kj2 F5.1 (D5 != y9)).bind fun o6=>((aH.f a0).bind fun o9=>((aH.f a1).bind fun o8=>(if(o9 != o8)=true then(if(F5.2.length:Int)>0 then((iD.f o6 (⟨#[49]⟩:ByteArray)).bind fun C9=>(some C9)) else(some o6)) else(some o6))))))))))=some r:=H;have I7:=aA.mk V7;clear V7;replace H:=Option.bind_eq_some_iff.mp H;obtain⟨D7,V8,H⟩:=H;replace H:((aU.f kj2 D7).bind fun y8=>((dC.f kj2 D6 y8).bind fun F5=>((aH.f a0).bind fun D5=>((aH.f a1).bind fun y9=>((bV.f kj2 F5.1 (D5 != y9)).bind fun o6=>((aH.f a0).bind fun o9=>((aH.f a1).bind fun o8=>(if(o9 != o8)=true then(if(F5.2.length:Int)>0 then((iD.f o6 (⟨#[49]⟩:ByteArray)).bind fun C9=>(some C9)) else(some o6)) else(some o6)))))))))=some r:=H;have I8:=aA.mk V8;clear V8;replace H:=Option.bind_eq_some_iff.mp H;obtain⟨y8,V9,H⟩:=H;replace H:((dC.f kj2 D6 y8).bind fun F5=>((aH.f a0).bind fun D5=>((aH.f a1).bind fun y9=>((bV.f kj2 F5.1 (D5 != y9)).bind fun o6=>((aH.f a0).bind fun o9=>((aH.f a1).bind fun o8=>(if(o9 != o8)=true then(if(F5.2.length:Int)>0 then((iD.f o6 (⟨#[49]⟩:ByteArray)).bind fun C9=>(some C9)) else(some o6)) else(some o6))))))))=some r:=H;have I9:=aA.mk V9;clear V9;replace H:=Option.bind_eq_some_iff.mp H;obtain⟨⟨D9,F6⟩,X4,H⟩:=H;replace H:((aH.f a0).bind fun D5=>((aH.f a1).bind fun y9=>((bV.f kj2 D9 (D5 != y9)).bind fun o6=>((aH.f a0).bind fun o9=>((aH.f a1).bind fun o8=>(if(o9 != o8)=true then(if(F6.length:Int)>0 then((iD.f o6 (⟨#[49]⟩:ByteArray)).bind fun C9=>(some C9)) else(some o6)) else(some o6)))))))=some r:=H;have J3:=aA.mk X4;clear X4;replace H:=Option.bind_eq_some_iff.mp H;obtain⟨D5,X5,H⟩:=H;replace H:((aH.f a1).bind fun y9=>((bV.f kj2 D9 (D5 != y9)).bind fun o6=>((aH.f a0).bind fun o9=>((aH.f a1).bind fun o8=>(if(o9 != o8)=true then(if(F6.length:Int)>0 then((iD.f o6 (⟨#[49]⟩:ByteArray)).bind fun C9=>(some C9)) else(some o6)) else(some o6))))))=some r:=H;have J4:=aA.mk X5;clear X5;replace H:=Option.bind_eq_some_iff.mp H;obtain⟨y9,X7,H⟩:=H;replace H:((bV.f kj2 D9 (D5 != y9)).bind fun o6=>((aH.f a0).bind fun o9=>((aH.f a1).bind fun o8=>(if(o9 != o8)=true then(if(F6.length:Int)>0 then((iD.f o6 (⟨#[49]⟩:ByteArray)).bind fun C9=>(some C9)) else(some o6)) else(some o6)))))=some r:=H;have J5:=aA.mk X7;clear X7;replace H:=Option.bind_eq_some_iff.mp H;obtain⟨o6,X8,H⟩:=H;replace H:((aH.f a0).bind fun o9=>((aH.f a1).bind fun o8=>(if(o9 != o8)=true then(if(F6.length:Int)>0 then((iD.f o6 (⟨#[49]⟩:ByteArray)).bind fun C9=>(some C9)) else(some o6)) else(some o6))))=some r:=H;have J6:=aA.mk X8;clear X8;replace H:=Option.bind_eq_some_iff.mp H;obtain⟨o9,X9,H⟩:=H;replace H:((aH.f a1).bind fun o8=>(if(o9 != o8)=true then(if(F6.length:Int)>0 then((iD.f o6 (⟨#[49]⟩:ByteArray)).bind fun C9=>(some C9)) else(some o6)) else(some o6)))=some r:=H;have J7:=aA.mk X9;clear X9;replace H:=Option.bind_eq_some_iff.mp H;obtain⟨o8,Y0,H⟩:=H;replace H:(if(o9 != o8)=true then(if(F6.length:Int)>0 then((iD.f o6 (⟨#[49]⟩:ByteArray)).bind fun C9=>(some C9)) else(some o6)) else(some o6))=some r:=H
    have J8:=aA.mk Y0;clear Y0
    by_cases F8:(o9 != o8)=true
    ·rw[if_pos F8] at H
     have Y8:(o9 != o8)=true:=F8
     (try(have Y9:decide (o9=o8)=false:=by simpa using F8))
     (try(have Z7:(o9==o8)=false:=by simpa using F8))
     (try(have gz:¬(o9=o8):=by simpa using F8))
     clear F8
     by_cases H7:(F6.length:Int)>0
     ·rw[if_pos H7] at H
      have Z8:decide (0<(F6.length:Int))=true:=decide_eq_true H7;have Z9:decide (0<F6.length)=true:=decide_eq_true aFx;clear H7;replace H:=Option.bind_eq_some_iff.mp H;obtain⟨C9,Y4,H⟩:=H;replace H:(some C9)=some r:=H;have ae:=aA.mk Y4;clear Y4;obtain rfl:=Option.some.inj H
      go_wp2_with(first|((with_reducible refine aC (f:=156) rfl ?_);refine dF (some 22) rfl rfl Tryz.func156 (by kernel_rfl) rfl #[.string a0] rfl (by(try simp only[List.map_toArray,List.map_cons,List.map_nil]);first|done|rfl|(simp only[List.length_drop,List.length_take];rfl)) ?_;(with_reducible refine(aX.calls kj2 a0 D8 _ I5.out).mono ?_);rintro e ig ⟨v179,rfl,o5,hb⟩;refine⟨_,rfl,?_⟩;have n0_:=aA.mk (Kd.gU o5 (dJ (by repeat(first|(with_reducible first|exact HB.out|apply aT|apply aI|apply aJ)|exact HB.out))));have n1_:=aA.mk (fM (by repeat(first|(with_reducible first|exact HB.out|apply aT|apply aI|apply aJ)|exact HB.out)) hb);clear HB;have F9:=n0_;have HB:=n1_;clear n0_ n1_;(try clear hb);(try clear hb2);(try clear hk);(try clear hi);(try clear o5);obtain⟨J9,L6,af⟩:=Kd.fA F9.out;subst af)|((with_reducible refine aC (f:=155) rfl ?_);refine dF (some 23) rfl rfl Tryz.func155 (by kernel_rfl) rfl #[.slice J9 D8.length L6] rfl (by(try simp only[List.map_toArray,List.map_cons,List.map_nil]);first|done|rfl|(simp only[List.length_drop,List.length_take];rfl)) ?_;(with_reducible refine(aU.calls kj2 (fun k_=>some k_=(.slice J9 D8.length L6:Value).ownBlock) (.slice J9 D8.length L6) D8 D6 w _ ?side1 ?side2 I7.out).mono ?_);(case side1=>repeat(first|(with_reducible first|exact HB.out|apply aT|apply aI|apply aJ)|exact HB.out));(case side2=>exact Kd.kE rfl F9.out);rintro e ik ⟨v182,rfl,o5,hb,hkp⟩;refine⟨_,rfl,?_⟩;have n0_:=aA.mk (Kd.dK (ok':=fun k_=>True) o5 (fun k_ hk_=>trivial));have n1_:=aA.mk (hb);clear HB;clear F9;have l9:=n0_;have HB:=n1_;clear n0_ n1_;(try clear hb);(try clear hkp);(try clear o5))|((with_reducible refine aC (f:=156) rfl ?_);refine dF (some 25) rfl rfl Tryz.func156 (by kernel_rfl) rfl #[.string a1] rfl (by(try simp only[List.map_toArray,List.map_cons,List.map_nil]);first|done|rfl|(simp only[List.length_drop,List.length_take];rfl)) ?_;(with_reducible refine(aX.calls kj2 a1 D7 _ I8.out).mono ?_);rintro e iq ⟨v185,rfl,o5,hb⟩;refine⟨_,rfl,?_⟩;have n0_:=aA.mk (Kd.mZ (by(with_reducible repeat(first|apply Kd.aQ|apply Kd.aN|apply Kd.aW));exact l9.out) (Kd.lM o5) hb);have n1_:=aA.mk (Kd.gU (Kd.lN o5 (Kd.R_lt (by(with_reducible repeat(first|apply Kd.aQ|apply Kd.aN|apply Kd.aW));exact l9.out))) (dJ (by repeat(first|(with_reducible first|exact HB.out|apply aT|apply aI|apply aJ)|exact HB.out))));have n2_:=aA.mk (fM (by repeat(first|(with_reducible first|exact HB.out|apply aT|apply aI|apply aJ)|exact HB.out)) hb);clear l9;clear HB;have l9:=n0_;have G5:=n1_;have HB:=n2_;clear n0_ n1_ n2_;(try clear hb);(try clear hb2);(try clear hk);(try clear hi);(try clear o5);obtain⟨L8,L9,ag⟩:=Kd.fA G5.out;subst ag)|((with_reducible refine aC (f:=155) rfl ?_);refine dF (some 26) rfl rfl Tryz.func155 (by kernel_rfl) rfl #[.slice L8 D7.length L9] rfl (by(try simp only[List.map_toArray,List.map_cons,List.map_nil]);first|done|rfl|(simp only[List.length_drop,List.length_take];rfl)) ?_;(with_reducible refine(aU.calls kj2 (fun k_=>some k_=(.slice L8 D7.length L9:Value).ownBlock) (.slice L8 D7.length L9) D7 y8 w _ ?side1 ?side2 I9.out).mono ?_);(case side1=>repeat(first|(with_reducible first|exact HB.out|apply aT|apply aI|apply aJ)|exact HB.out));(case side2=>exact Kd.kE rfl G5.out);rintro e iw ⟨v188,rfl,o5,hb,hkp⟩;refine⟨_,rfl,?_⟩;have n0_:=aA.mk (Kd.dK (ok':=fun k_=>some k_≠(v188:Value).ownBlock) (Kd.mY (l9.out) hkp (fun k_ hk_ hs_=>(hk_.2) hs_)) (fun k_ hk_=>fun e_=>Or.elim (o5.1 k_ e_.symm) (fun hs_=>hk_.2.1 hs_) (fun hn_=>Nat.not_le.2 hk_.2.2 hn_)));have n1_:=aA.mk (Kd.dK (ok':=fun k_=>some k_≠(v182:Value).ownBlock) o5 (fun k_ hk_=>Or.elim hk_ (fun hs_=>fun e_=>(((l9.out).1 k_ e_.symm).2) hs_) (fun hn_=>(Kd.fresh' (Kd.R_lt (by(with_reducible repeat(first|apply Kd.aQ|apply Kd.aN|apply Kd.aW));exact l9.out)) k_ hn_))));have n2_:=aA.mk (hb);clear l9;clear HB;clear G5;have l9:=n0_;have o7:=n1_;have HB:=n2_;clear n0_ n1_ n2_;(try clear hb);(try clear hkp);(try clear o5);obtain⟨N7,N8,ah⟩:=Kd.fA l9.out;subst ah;obtain⟨N9,O0,ai⟩:=Kd.fA o7.out;subst ai)|((with_reducible refine aC (f:=154) rfl ?_);refine dF (some 27) rfl rfl Tryz.func154 (by kernel_rfl) rfl #[.slice N7 D6.length N8,.slice N9 y8.length O0] rfl (by(try simp only[List.map_toArray,List.map_cons,List.map_nil]);first|done|rfl|(simp only[List.length_drop,List.length_take];rfl)) ?_;(with_reducible refine(dC.calls kj2 _ _ D6 _ _ y8 D9 F6 _ ?side1 ?side2 ?side3 ?side4 J3.out).mono ?_);(case side1=>repeat(first|exact(Kd.dB l9.out).2.2|(with_reducible refine Kd.gI ?_ _)|(with_reducible refine Kd.gJ ?_ _)|(with_reducible refine Kd.iJ ?_)));(case side2=>exact(Kd.dB l9.out).2.1);(case side3=>repeat(first|exact(Kd.dB o7.out).2.2|(with_reducible refine Kd.gI ?_ _)|(with_reducible refine Kd.gJ ?_ _)|(with_reducible refine Kd.iJ ?_)));(case side4=>exact(Kd.dB o7.out).2.1);rintro e ja ⟨v192,v194,rfl,o5,F7,hb⟩;refine⟨_,rfl,?_⟩;have n0_:=aA.mk (Kd.dK (Kd.xR (Kd.xR (Kd.R_old (by(with_reducible repeat(first|apply Kd.aQ|apply Kd.aN|apply Kd.aW));exact l9.out) hb) (Kd.lM o5)) (Kd.lM F7)) (fun _ h_=>h_.1));have n1_:=aA.mk (Kd.dK (Kd.xR (Kd.xR (Kd.R_old (by(with_reducible repeat(first|apply Kd.aQ|apply Kd.aN|apply Kd.aW));exact o7.out) hb) (Kd.lM o5)) (Kd.lM F7)) (fun _ h_=>h_.1));have n2_:=aA.mk (Kd.gU (Kd.lN (Kd.lN o5 (Kd.R_lt (by(with_reducible repeat(first|apply Kd.aQ|apply Kd.aN|apply Kd.aW));exact l9.out))) (Kd.R_lt (by(with_reducible repeat(first|apply Kd.aQ|apply Kd.aN|apply Kd.aW));exact o7.out))) (dJ (by repeat(first|(with_reducible first|exact HB.out|apply aT|apply aI|apply aJ)|exact HB.out))));have n3_:=aA.mk (Kd.gU (Kd.lN (Kd.lN F7 (Kd.R_lt (by(with_reducible repeat(first|apply Kd.aQ|apply Kd.aN|apply Kd.aW));exact l9.out))) (Kd.R_lt (by(with_reducible repeat(first|apply Kd.aQ|apply Kd.aN|apply Kd.aW));exact o7.out))) (dJ (by repeat(first|(with_reducible first|exact HB.out|apply aT|apply aI|apply aJ)|exact HB.out))));have n4_:=aA.mk (fM (by repeat(first|(with_reducible first|exact HB.out|apply aT|apply aI|apply aJ)|exact HB.out)) hb);clear l9;clear o7;clear HB;have l9:=n0_;have o7:=n1_;have G6:=n2_;have E8:=n3_;have HB:=n4_;clear n0_ n1_ n2_ n3_ n4_;(try clear hb);(try clear hb2);(try clear hk);(try clear hi);(try clear o5);(try clear F7))|((with_reducible refine aC (f:=158) rfl ?_);refine dF (some 32) rfl rfl Tryz.func158 (by kernel_rfl) rfl #[.string a0] rfl (by(try simp only[List.map_toArray,List.map_cons,List.map_nil]);first|done|rfl|(simp only[List.length_drop,List.length_take];rfl)) ?_;(with_reducible refine(aH.calls a0 D5 _ J4.out).mono ?_);rintro e w' ⟨rfl,⟨nd,rfl⟩⟩;refine⟨_,rfl,?_⟩)|((with_reducible refine aC (f:=158) rfl ?_);refine dF (some 34) rfl rfl Tryz.func158 (by kernel_rfl) rfl #[.string a1] rfl (by(try simp only[List.map_toArray,List.map_cons,List.map_nil]);first|done|rfl|(simp only[List.length_drop,List.length_take];rfl)) ?_;(with_reducible refine(aH.calls a1 y9 _ J5.out).mono ?_);rintro e w' ⟨rfl,⟨nd,rfl⟩⟩;refine⟨_,rfl,?_⟩;obtain⟨O1,O3,aj⟩:=Kd.fA G6.out;subst aj)|((with_reducible refine aC (f:=157) rfl ?_);refine dF (some 36) rfl rfl Tryz.func157 (by kernel_rfl) rfl #[.slice O1 D9.length O3,.bool (D5 != y9)] rfl (by(try simp only[List.map_toArray,List.map_cons,List.map_nil]);first|done|rfl|(simp only[List.length_drop,List.length_take];rfl)) ?_;(with_reducible refine(bV.calls kj2 (fun k_=>some k_=(.slice O1 D9.length O3:Value).ownBlock) (.slice O1 D9.length O3) D9 (D5 != y9) o6 w _ ?side1 ?side2 J6.out).mono ?_);(case side1=>repeat(first|(with_reducible first|exact HB.out|apply aT|apply aI|apply aJ)|exact HB.out));(case side2=>exact Kd.kE rfl G6.out);rintro e jb ⟨rfl,hb,hkp⟩;refine⟨_,rfl,?_⟩;have n0_:=aA.mk (Kd.dK (ok':=fun k_=>some k_≠(.slice N9 y8.length O0:Value).ownBlock∧some k_≠(v194:Value).ownBlock) (Kd.mY (l9.out) hkp (fun k_ hk_ hs_=>(hk_.1.2) hs_)) (fun k_ hk_=>⟨hk_.1.1.1,hk_.1.2⟩));have n1_:=aA.mk (Kd.dK (ok':=fun k_=>some k_≠(.slice N7 D6.length N8:Value).ownBlock∧some k_≠(v194:Value).ownBlock) (Kd.mY (o7.out) hkp (fun k_ hk_ hs_=>(hk_.1.2) hs_)) (fun k_ hk_=>⟨hk_.1.1.1,hk_.1.2⟩));have n2_:=aA.mk (Kd.dK (ok':=fun k_=>some k_≠(.slice N7 D6.length N8:Value).ownBlock∧some k_≠(.slice N9 y8.length O0:Value).ownBlock) (Kd.mY (E8.out) hkp (fun k_ hk_ hs_=>(hk_.1.1) hs_)) (fun k_ hk_=>⟨hk_.1.1.2,hk_.1.2⟩));have n3_:=aA.mk (hb);clear l9;clear o7;clear E8;clear HB;clear G6;have l9:=n0_;have o7:=n1_;have E8:=n2_;have HB:=n3_;clear n0_ n1_ n2_ n3_;(try clear hb);(try clear hkp))|((with_reducible refine aC (f:=158) rfl ?_);refine dF (some 38) rfl rfl Tryz.func158 (by kernel_rfl) rfl #[.string a0] rfl (by(try simp only[List.map_toArray,List.map_cons,List.map_nil]);first|done|rfl|(simp only[List.length_drop,List.length_take];rfl)) ?_;(with_reducible refine(aH.calls a0 o9 _ J7.out).mono ?_);rintro e w' ⟨rfl,⟨nd,rfl⟩⟩;refine⟨_,rfl,?_⟩)|((with_reducible refine aC (f:=158) rfl ?_);refine dF (some 40) rfl rfl Tryz.func158 (by kernel_rfl) rfl #[.string a1] rfl (by(try simp only[List.map_toArray,List.map_cons,List.map_nil]);first|done|rfl|(simp only[List.length_drop,List.length_take];rfl)) ?_;(with_reducible refine(aH.calls a1 o8 _ J8.out).mono ?_);rintro e w' ⟨rfl,⟨nd,rfl⟩⟩;refine⟨_,rfl,?_⟩;obtain⟨jc,jd,ak⟩:=Kd.fA E8.out;subst ak)|((with_reducible refine aC (f:=84) rfl ?_);refine dF (some 48) rfl rfl Tryz.func84 (by kernel_rfl) rfl #[.string o6,.string (⟨#[49]⟩:ByteArray)] rfl (by(try simp only[List.map_toArray,List.map_cons,List.map_nil]);first|done|rfl|(simp only[List.length_drop,List.length_take];rfl)) ?_;(with_reducible refine(iD.calls o6 (⟨#[49]⟩:ByteArray) C9 _ ae.out).mono ?_);rintro e je ⟨rfl,hb⟩;refine⟨_,rfl,?_⟩;have n0_:=aA.mk (Kd.dD (by(with_reducible repeat(first|apply Kd.aQ|apply Kd.aN|apply Kd.aW));exact l9.out) hb);have n1_:=aA.mk (Kd.dD (by(with_reducible repeat(first|apply Kd.aQ|apply Kd.aN|apply Kd.aW));exact o7.out) hb);have n2_:=aA.mk (Kd.dD (by(with_reducible repeat(first|apply Kd.aQ|apply Kd.aN|apply Kd.aW));exact E8.out) hb);have n3_:=aA.mk (fM (by repeat(first|(with_reducible first|exact HB.out|apply aT|apply aI|apply aJ)|exact HB.out)) hb);clear l9;clear o7;clear E8;clear HB;have l9:=n0_;have o7:=n1_;have E8:=n2_;have HB:=n3_;clear n0_ n1_ n2_ n3_;(try clear hb);(try clear hb2);(try clear hk);(try clear hi)))
      go_ret
      exact⟨by first|rfl|(simp[dZ,eF] <;> rfl)|(simp[*,dZ,eF] <;> rfl),by repeat(first|(with_reducible first|exact HB.out|apply aT|apply aI|apply aJ)|exact HB.out)⟩
     ·rw[if_neg H7] at H
      have Z8:decide (0<(F6.length:Int))=false:=decide_eq_false H7;have Z9:decide (0<F6.length)=false:=decide_eq_false aFx;clear H7;obtain rfl:=Option.some.inj H
      go_wp2_with(first|((with_reducible refine aC (f:=156) rfl ?_);refine dF (some 22) rfl rfl Tryz.func156 (by kernel_rfl) rfl #[.string a0] rfl (by(try simp only[List.map_toArray,List.map_cons,List.map_nil]);first|done|rfl|(simp only[List.length_drop,List.length_take];rfl)) ?_;(with_reducible refine(aX.calls kj2 a0 D8 _ I5.out).mono ?_);rintro e jf ⟨v179,rfl,o5,hb⟩;refine⟨_,rfl,?_⟩;have n0_:=aA.mk (Kd.gU o5 (dJ (by repeat(first|(with_reducible first|exact HB.out|apply aT|apply aI|apply aJ)|exact HB.out))));have n1_:=aA.mk (fM (by repeat(first|(with_reducible first|exact HB.out|apply aT|apply aI|apply aJ)|exact HB.out)) hb);clear HB;have F9:=n0_;have HB:=n1_;clear n0_ n1_;(try clear hb);(try clear hb2);(try clear hk);(try clear hi);(try clear o5);obtain⟨O4,O5,au⟩:=Kd.fA F9.out;subst au)|((with_reducible refine aC (f:=155) rfl ?_);refine dF (some 23) rfl rfl Tryz.func155 (by kernel_rfl) rfl #[.slice O4 D8.length O5] rfl (by(try simp only[List.map_toArray,List.map_cons,List.map_nil]);first|done|rfl|(simp only[List.length_drop,List.length_take];rfl)) ?_;(with_reducible refine(aU.calls kj2 (fun k_=>some k_=(.slice O4 D8.length O5:Value).ownBlock) (.slice O4 D8.length O5) D8 D6 w _ ?side1 ?side2 I7.out).mono ?_);(case side1=>repeat(first|(with_reducible first|exact HB.out|apply aT|apply aI|apply aJ)|exact HB.out));(case side2=>exact Kd.kE rfl F9.out);rintro e jg ⟨v182,rfl,o5,hb,hkp⟩;refine⟨_,rfl,?_⟩;have n0_:=aA.mk (Kd.dK (ok':=fun k_=>True) o5 (fun k_ hk_=>trivial));have n1_:=aA.mk (hb);clear HB;clear F9;have l9:=n0_;have HB:=n1_;clear n0_ n1_;(try clear hb);(try clear hkp);(try clear o5))|((with_reducible refine aC (f:=156) rfl ?_);refine dF (some 25) rfl rfl Tryz.func156 (by kernel_rfl) rfl #[.string a1] rfl (by(try simp only[List.map_toArray,List.map_cons,List.map_nil]);first|done|rfl|(simp only[List.length_drop,List.length_take];rfl)) ?_;(with_reducible refine(aX.calls kj2 a1 D7 _ I8.out).mono ?_);rintro e jh ⟨v185,rfl,o5,hb⟩;refine⟨_,rfl,?_⟩;have n0_:=aA.mk (Kd.mZ (by(with_reducible repeat(first|apply Kd.aQ|apply Kd.aN|apply Kd.aW));exact l9.out) (Kd.lM o5) hb);have n1_:=aA.mk (Kd.gU (Kd.lN o5 (Kd.R_lt (by(with_reducible repeat(first|apply Kd.aQ|apply Kd.aN|apply Kd.aW));exact l9.out))) (dJ (by repeat(first|(with_reducible first|exact HB.out|apply aT|apply aI|apply aJ)|exact HB.out))));have n2_:=aA.mk (fM (by repeat(first|(with_reducible first|exact HB.out|apply aT|apply aI|apply aJ)|exact HB.out)) hb);clear l9;clear HB;have l9:=n0_;have G5:=n1_;have HB:=n2_;clear n0_ n1_ n2_;(try clear hb);(try clear hb2);(try clear hk);(try clear hi);(try clear o5);obtain⟨O6,O7,ax⟩:=Kd.fA G5.out;subst ax)|((with_reducible refine aC (f:=155) rfl ?_);refine dF (some 26) rfl rfl Tryz.func155 (by kernel_rfl) rfl #[.slice O6 D7.length O7] rfl (by(try simp only[List.map_toArray,List.map_cons,List.map_nil]);first|done|rfl|(simp only[List.length_drop,List.length_take];rfl)) ?_;(with_reducible refine(aU.calls kj2 (fun k_=>some k_=(.slice O6 D7.length O7:Value).ownBlock) (.slice O6 D7.length O7) D7 y8 w _ ?side1 ?side2 I9.out).mono ?_);(case side1=>repeat(first|(with_reducible first|exact HB.out|apply aT|apply aI|apply aJ)|exact HB.out));(case side2=>exact Kd.kE rfl G5.out);rintro e ji ⟨v188,rfl,o5,hb,hkp⟩;refine⟨_,rfl,?_⟩;have n0_:=aA.mk (Kd.dK (ok':=fun k_=>some k_≠(v188:Value).ownBlock) (Kd.mY (l9.out) hkp (fun k_ hk_ hs_=>(hk_.2) hs_)) (fun k_ hk_=>fun e_=>Or.elim (o5.1 k_ e_.symm) (fun hs_=>hk_.2.1 hs_) (fun hn_=>Nat.not_le.2 hk_.2.2 hn_)));have n1_:=aA.mk (Kd.dK (ok':=fun k_=>some k_≠(v182:Value).ownBlock) o5 (fun k_ hk_=>Or.elim hk_ (fun hs_=>fun e_=>(((l9.out).1 k_ e_.symm).2) hs_) (fun hn_=>(Kd.fresh' (Kd.R_lt (by(with_reducible repeat(first|apply Kd.aQ|apply Kd.aN|apply Kd.aW));exact l9.out)) k_ hn_))));have n2_:=aA.mk (hb);clear l9;clear HB;clear G5;have l9:=n0_;have o7:=n1_;have HB:=n2_;clear n0_ n1_ n2_;(try clear hb);(try clear hkp);(try clear o5);obtain⟨O8,O9,ay⟩:=Kd.fA l9.out;subst ay;obtain⟨P7,P8,az⟩:=Kd.fA o7.out;subst az)|((with_reducible refine aC (f:=154) rfl ?_);refine dF (some 27) rfl rfl Tryz.func154 (by kernel_rfl) rfl #[.slice O8 D6.length O9,.slice P7 y8.length P8] rfl (by(try simp only[List.map_toArray,List.map_cons,List.map_nil]);first|done|rfl|(simp only[List.length_drop,List.length_take];rfl)) ?_;(with_reducible refine(dC.calls kj2 _ _ D6 _ _ y8 D9 F6 _ ?side1 ?side2 ?side3 ?side4 J3.out).mono ?_);(case side1=>repeat(first|exact(Kd.dB l9.out).2.2|(with_reducible refine Kd.gI ?_ _)|(with_reducible refine Kd.gJ ?_ _)|(with_reducible refine Kd.iJ ?_)));(case side2=>exact(Kd.dB l9.out).2.1);(case side3=>repeat(first|exact(Kd.dB o7.out).2.2|(with_reducible refine Kd.gI ?_ _)|(with_reducible refine Kd.gJ ?_ _)|(with_reducible refine Kd.iJ ?_)));(case side4=>exact(Kd.dB o7.out).2.1);rintro e jk ⟨v192,v194,rfl,o5,F7,hb⟩;refine⟨_,rfl,?_⟩;have n0_:=aA.mk (Kd.dK (Kd.xR (Kd.xR (Kd.R_old (by(with_reducible repeat(first|apply Kd.aQ|apply Kd.aN|apply Kd.aW));exact l9.out) hb) (Kd.lM o5)) (Kd.lM F7)) (fun _ h_=>h_.1));have n1_:=aA.mk (Kd.dK (Kd.xR (Kd.xR (Kd.R_old (by(with_reducible repeat(first|apply Kd.aQ|apply Kd.aN|apply Kd.aW));exact o7.out) hb) (Kd.lM o5)) (Kd.lM F7)) (fun _ h_=>h_.1));have n2_:=aA.mk (Kd.gU (Kd.lN (Kd.lN o5 (Kd.R_lt (by(with_reducible repeat(first|apply Kd.aQ|apply Kd.aN|apply Kd.aW));exact l9.out))) (Kd.R_lt (by(with_reducible repeat(first|apply Kd.aQ|apply Kd.aN|apply Kd.aW));exact o7.out))) (dJ (by repeat(first|(with_reducible first|exact HB.out|apply aT|apply aI|apply aJ)|exact HB.out))));have n3_:=aA.mk (Kd.gU (Kd.lN (Kd.lN F7 (Kd.R_lt (by(with_reducible repeat(first|apply Kd.aQ|apply Kd.aN|apply Kd.aW));exact l9.out))) (Kd.R_lt (by(with_reducible repeat(first|apply Kd.aQ|apply Kd.aN|apply Kd.aW));exact o7.out))) (dJ (by repeat(first|(with_reducible first|exact HB.out|apply aT|apply aI|apply aJ)|exact HB.out))));have n4_:=aA.mk (fM (by repeat(first|(with_reducible first|exact HB.out|apply aT|apply aI|apply aJ)|exact HB.out)) hb);clear l9;clear o7;clear HB;have l9:=n0_;have o7:=n1_;have G6:=n2_;have E8:=n3_;have HB:=n4_;clear n0_ n1_ n2_ n3_ n4_;(try clear hb);(try clear hb2);(try clear hk);(try clear hi);(try clear o5);(try clear F7))|((with_reducible refine aC (f:=158) rfl ?_);refine dF (some 32) rfl rfl Tryz.func158 (by kernel_rfl) rfl #[.string a0] rfl (by(try simp only[List.map_toArray,List.map_cons,List.map_nil]);first|done|rfl|(simp only[List.length_drop,List.length_take];rfl)) ?_;(with_reducible refine(aH.calls a0 D5 _ J4.out).mono ?_);rintro e w' ⟨rfl,⟨nd,rfl⟩⟩;refine⟨_,rfl,?_⟩)|((with_reducible refine aC (f:=158) rfl ?_);refine dF (some 34) rfl rfl Tryz.func158 (by kernel_rfl) rfl #[.string a1] rfl (by(try simp only[List.map_toArray,List.map_cons,List.map_nil]);first|done|rfl|(simp only[List.length_drop,List.length_take];rfl)) ?_;(with_reducible refine(aH.calls a1 y9 _ J5.out).mono ?_);rintro e w' ⟨rfl,⟨nd,rfl⟩⟩;refine⟨_,rfl,?_⟩;obtain⟨P9,Q3,bn⟩:=Kd.fA G6.out;subst bn)|((with_reducible refine aC (f:=157) rfl ?_);refine dF (some 36) rfl rfl Tryz.func157 (by kernel_rfl) rfl #[.slice P9 D9.length Q3,.bool (D5 != y9)] rfl (by(try simp only[List.map_toArray,List.map_cons,List.map_nil]);first|done|rfl|(simp only[List.length_drop,List.length_take];rfl)) ?_;(with_reducible refine(bV.calls kj2 (fun k_=>some k_=(.slice P9 D9.length Q3:Value).ownBlock) (.slice P9 D9.length Q3) D9 (D5 != y9) o6 w _ ?side1 ?side2 J6.out).mono ?_);(case side1=>repeat(first|(with_reducible first|exact HB.out|apply aT|apply aI|apply aJ)|exact HB.out));(case side2=>exact Kd.kE rfl G6.out);rintro e jl ⟨rfl,hb,hkp⟩;refine⟨_,rfl,?_⟩;have n0_:=aA.mk (Kd.dK (ok':=fun k_=>some k_≠(.slice P7 y8.length P8:Value).ownBlock∧some k_≠(v194:Value).ownBlock) (Kd.mY (l9.out) hkp (fun k_ hk_ hs_=>(hk_.1.2) hs_)) (fun k_ hk_=>⟨hk_.1.1.1,hk_.1.2⟩));have n1_:=aA.mk (Kd.dK (ok':=fun k_=>some k_≠(.slice O8 D6.length O9:Value).ownBlock∧some k_≠(v194:Value).ownBlock) (Kd.mY (o7.out) hkp (fun k_ hk_ hs_=>(hk_.1.2) hs_)) (fun k_ hk_=>⟨hk_.1.1.1,hk_.1.2⟩));have n2_:=aA.mk (Kd.dK (ok':=fun k_=>some k_≠(.slice O8 D6.length O9:Value).ownBlock∧some k_≠(.slice P7 y8.length P8:Value).ownBlock) (Kd.mY (E8.out) hkp (fun k_ hk_ hs_=>(hk_.1.1) hs_)) (fun k_ hk_=>⟨hk_.1.1.2,hk_.1.2⟩));have n3_:=aA.mk (hb);clear l9;clear o7;clear E8;clear HB;clear G6;have l9:=n0_;have o7:=n1_;have E8:=n2_;have HB:=n3_;clear n0_ n1_ n2_ n3_;(try clear hb);(try clear hkp))|((with_reducible refine aC (f:=158) rfl ?_);refine dF (some 38) rfl rfl Tryz.func158 (by kernel_rfl) rfl #[.string a0] rfl (by(try simp only[List.map_toArray,List.map_cons,List.map_nil]);first|done|rfl|(simp only[List.length_drop,List.length_take];rfl)) ?_;(with_reducible refine(aH.calls a0 o9 _ J7.out).mono ?_);rintro e w' ⟨rfl,⟨nd,rfl⟩⟩;refine⟨_,rfl,?_⟩)|((with_reducible refine aC (f:=158) rfl ?_);refine dF (some 40) rfl rfl Tryz.func158 (by kernel_rfl) rfl #[.string a1] rfl (by(try simp only[List.map_toArray,List.map_cons,List.map_nil]);first|done|rfl|(simp only[List.length_drop,List.length_take];rfl)) ?_;(with_reducible refine(aH.calls a1 o8 _ J8.out).mono ?_);rintro e w' ⟨rfl,⟨nd,rfl⟩⟩;refine⟨_,rfl,?_⟩;obtain⟨jm,jo,df⟩:=Kd.fA E8.out;subst df))
      go_ret
      exact⟨by first|rfl|(simp[dZ,eF] <;> rfl)|(simp[*,dZ,eF] <;> rfl),by repeat(first|(with_reducible first|exact HB.out|apply aT|apply aI|apply aJ)|exact HB.out)⟩
    ·rw[if_neg F8] at H
     have Y8:(o9 != o8)=false:=by simpa using F8
     (try(have Y9:decide (o9=o8)=true:=by simpa using F8))
     (try(have Z7:(o9==o8)=true:=by simpa using F8))
     clear F8;obtain rfl:=Option.some.inj H
     go_wp2_with(first|((with_reducible refine aC (f:=156) rfl ?_);refine dF (some 22) rfl rfl Tryz.func156 (by kernel_rfl) rfl #[.string a0] rfl (by(try simp only[List.map_toArray,List.map_cons,List.map_nil]);first|done|rfl|(simp only[List.length_drop,List.length_take];rfl)) ?_;(with_reducible refine(aX.calls kj2 a0 D8 _ I5.out).mono ?_);rintro e jq ⟨v179,rfl,o5,hb⟩;refine⟨_,rfl,?_⟩;have n0_:=aA.mk (Kd.gU o5 (dJ (by repeat(first|(with_reducible first|exact HB.out|apply aT|apply aI|apply aJ)|exact HB.out))));have n1_:=aA.mk (fM (by repeat(first|(with_reducible first|exact HB.out|apply aT|apply aI|apply aJ)|exact HB.out)) hb);clear HB;have F9:=n0_;have HB:=n1_;clear n0_ n1_;(try clear hb);(try clear hb2);(try clear hk);(try clear hi);(try clear o5);obtain⟨Q4,Q5,dh⟩:=Kd.fA F9.out;subst dh)|((with_reducible refine aC (f:=155) rfl ?_);refine dF (some 23) rfl rfl Tryz.func155 (by kernel_rfl) rfl #[.slice Q4 D8.length Q5] rfl (by(try simp only[List.map_toArray,List.map_cons,List.map_nil]);first|done|rfl|(simp only[List.length_drop,List.length_take];rfl)) ?_;(with_reducible refine(aU.calls kj2 (fun k_=>some k_=(.slice Q4 D8.length Q5:Value).ownBlock) (.slice Q4 D8.length Q5) D8 D6 w _ ?side1 ?side2 I7.out).mono ?_);(case side1=>repeat(first|(with_reducible first|exact HB.out|apply aT|apply aI|apply aJ)|exact HB.out));(case side2=>exact Kd.kE rfl F9.out);rintro e jr ⟨v182,rfl,o5,hb,hkp⟩;refine⟨_,rfl,?_⟩;have n0_:=aA.mk (Kd.dK (ok':=fun k_=>True) o5 (fun k_ hk_=>trivial));have n1_:=aA.mk (hb);clear HB;clear F9;have l9:=n0_;have HB:=n1_;clear n0_ n1_;(try clear hb);(try clear hkp);(try clear o5))|((with_reducible refine aC (f:=156) rfl ?_);refine dF (some 25) rfl rfl Tryz.func156 (by kernel_rfl) rfl #[.string a1] rfl (by(try simp only[List.map_toArray,List.map_cons,List.map_nil]);first|done|rfl|(simp only[List.length_drop,List.length_take];rfl)) ?_;(with_reducible refine(aX.calls kj2 a1 D7 _ I8.out).mono ?_);rintro e jw ⟨v185,rfl,o5,hb⟩;refine⟨_,rfl,?_⟩;have n0_:=aA.mk (Kd.mZ (by(with_reducible repeat(first|apply Kd.aQ|apply Kd.aN|apply Kd.aW));exact l9.out) (Kd.lM o5) hb);have n1_:=aA.mk (Kd.gU (Kd.lN o5 (Kd.R_lt (by(with_reducible repeat(first|apply Kd.aQ|apply Kd.aN|apply Kd.aW));exact l9.out))) (dJ (by repeat(first|(with_reducible first|exact HB.out|apply aT|apply aI|apply aJ)|exact HB.out))));have n2_:=aA.mk (fM (by repeat(first|(with_reducible first|exact HB.out|apply aT|apply aI|apply aJ)|exact HB.out)) hb);clear l9;clear HB;have l9:=n0_;have G5:=n1_;have HB:=n2_;clear n0_ n1_ n2_;(try clear hb);(try clear hb2);(try clear hk);(try clear hi);(try clear o5);obtain⟨Q7,Q8,di⟩:=Kd.fA G5.out;subst di)|((with_reducible refine aC (f:=155) rfl ?_);refine dF (some 26) rfl rfl Tryz.func155 (by kernel_rfl) rfl #[.slice Q7 D7.length Q8] rfl (by(try simp only[List.map_toArray,List.map_cons,List.map_nil]);first|done|rfl|(simp only[List.length_drop,List.length_take];rfl)) ?_;(with_reducible refine(aU.calls kj2 (fun k_=>some k_=(.slice Q7 D7.length Q8:Value).ownBlock) (.slice Q7 D7.length Q8) D7 y8 w _ ?side1 ?side2 I9.out).mono ?_);(case side1=>repeat(first|(with_reducible first|exact HB.out|apply aT|apply aI|apply aJ)|exact HB.out));(case side2=>exact Kd.kE rfl G5.out);rintro e jy ⟨v188,rfl,o5,hb,hkp⟩;refine⟨_,rfl,?_⟩;have n0_:=aA.mk (Kd.dK (ok':=fun k_=>some k_≠(v188:Value).ownBlock) (Kd.mY (l9.out) hkp (fun k_ hk_ hs_=>(hk_.2) hs_)) (fun k_ hk_=>fun e_=>Or.elim (o5.1 k_ e_.symm) (fun hs_=>hk_.2.1 hs_) (fun hn_=>Nat.not_le.2 hk_.2.2 hn_)));have n1_:=aA.mk (Kd.dK (ok':=fun k_=>some k_≠(v182:Value).ownBlock) o5 (fun k_ hk_=>Or.elim hk_ (fun hs_=>fun e_=>(((l9.out).1 k_ e_.symm).2) hs_) (fun hn_=>(Kd.fresh' (Kd.R_lt (by(with_reducible repeat(first|apply Kd.aQ|apply Kd.aN|apply Kd.aW));exact l9.out)) k_ hn_))));have n2_:=aA.mk (hb);clear l9;clear HB;clear G5;have l9:=n0_;have o7:=n1_;have HB:=n2_;clear n0_ n1_ n2_;(try clear hb);(try clear hkp);(try clear o5);obtain⟨Q9,S9,dw⟩:=Kd.fA l9.out;subst dw;obtain⟨U3,U4,eu⟩:=Kd.fA o7.out;subst eu)|((with_reducible refine aC (f:=154) rfl ?_);refine dF (some 27) rfl rfl Tryz.func154 (by kernel_rfl) rfl #[.slice Q9 D6.length S9,.slice U3 y8.length U4] rfl (by(try simp only[List.map_toArray,List.map_cons,List.map_nil]);first|done|rfl|(simp only[List.length_drop,List.length_take];rfl)) ?_;(with_reducible refine(dC.calls kj2 _ _ D6 _ _ y8 D9 F6 _ ?side1 ?side2 ?side3 ?side4 J3.out).mono ?_);(case side1=>repeat(first|exact(Kd.dB l9.out).2.2|(with_reducible refine Kd.gI ?_ _)|(with_reducible refine Kd.gJ ?_ _)|(with_reducible refine Kd.iJ ?_)));(case side2=>exact(Kd.dB l9.out).2.1);(case side3=>repeat(first|exact(Kd.dB o7.out).2.2|(with_reducible refine Kd.gI ?_ _)|(with_reducible refine Kd.gJ ?_ _)|(with_reducible refine Kd.iJ ?_)));(case side4=>exact(Kd.dB o7.out).2.1);rintro e ku ⟨v192,v194,rfl,o5,F7,hb⟩;refine⟨_,rfl,?_⟩;have n0_:=aA.mk (Kd.dK (Kd.xR (Kd.xR (Kd.R_old (by(with_reducible repeat(first|apply Kd.aQ|apply Kd.aN|apply Kd.aW));exact l9.out) hb) (Kd.lM o5)) (Kd.lM F7)) (fun _ h_=>h_.1));have n1_:=aA.mk (Kd.dK (Kd.xR (Kd.xR (Kd.R_old (by(with_reducible repeat(first|apply Kd.aQ|apply Kd.aN|apply Kd.aW));exact o7.out) hb) (Kd.lM o5)) (Kd.lM F7)) (fun _ h_=>h_.1));have n2_:=aA.mk (Kd.gU (Kd.lN (Kd.lN o5 (Kd.R_lt (by(with_reducible repeat(first|apply Kd.aQ|apply Kd.aN|apply Kd.aW));exact l9.out))) (Kd.R_lt (by(with_reducible repeat(first|apply Kd.aQ|apply Kd.aN|apply Kd.aW));exact o7.out))) (dJ (by repeat(first|(with_reducible first|exact HB.out|apply aT|apply aI|apply aJ)|exact HB.out))));have n3_:=aA.mk (Kd.gU (Kd.lN (Kd.lN F7 (Kd.R_lt (by(with_reducible repeat(first|apply Kd.aQ|apply Kd.aN|apply Kd.aW));exact l9.out))) (Kd.R_lt (by(with_reducible repeat(first|apply Kd.aQ|apply Kd.aN|apply Kd.aW));exact o7.out))) (dJ (by repeat(first|(with_reducible first|exact HB.out|apply aT|apply aI|apply aJ)|exact HB.out))));have n4_:=aA.mk (fM (by repeat(first|(with_reducible first|exact HB.out|apply aT|apply aI|apply aJ)|exact HB.out)) hb);clear l9;clear o7;clear HB;have l9:=n0_;have o7:=n1_;have G6:=n2_;have E8:=n3_;have HB:=n4_;clear n0_ n1_ n2_ n3_ n4_;(try clear hb);(try clear hb2);(try clear hk);(try clear hi);(try clear o5);(try clear F7))|((with_reducible refine aC (f:=158) rfl ?_);refine dF (some 32) rfl rfl Tryz.func158 (by kernel_rfl) rfl #[.string a0] rfl (by(try simp only[List.map_toArray,List.map_cons,List.map_nil]);first|done|rfl|(simp only[List.length_drop,List.length_take];rfl)) ?_;(with_reducible refine(aH.calls a0 D5 _ J4.out).mono ?_);rintro e w' ⟨rfl,⟨nd,rfl⟩⟩;refine⟨_,rfl,?_⟩)|((with_reducible refine aC (f:=158) rfl ?_);refine dF (some 34) rfl rfl Tryz.func158 (by kernel_rfl) rfl #[.string a1] rfl (by(try simp only[List.map_toArray,List.map_cons,List.map_nil]);first|done|rfl|(simp only[List.length_drop,List.length_take];rfl)) ?_;(with_reducible refine(aH.calls a1 y9 _ J5.out).mono ?_);rintro e w' ⟨rfl,⟨nd,rfl⟩⟩;refine⟨_,rfl,?_⟩;obtain⟨U5,U6,gm⟩:=Kd.fA G6.out;subst gm)|((with_reducible refine aC (f:=157) rfl ?_);refine dF (some 36) rfl rfl Tryz.func157 (by kernel_rfl) rfl #[.slice U5 D9.length U6,.bool (D5 != y9)] rfl (by(try simp only[List.map_toArray,List.map_cons,List.map_nil]);first|done|rfl|(simp only[List.length_drop,List.length_take];rfl)) ?_;(with_reducible refine(bV.calls kj2 (fun k_=>some k_=(.slice U5 D9.length U6:Value).ownBlock) (.slice U5 D9.length U6) D9 (D5 != y9) o6 w _ ?side1 ?side2 J6.out).mono ?_);(case side1=>repeat(first|(with_reducible first|exact HB.out|apply aT|apply aI|apply aJ)|exact HB.out));(case side2=>exact Kd.kE rfl G6.out);rintro e kw ⟨rfl,hb,hkp⟩;refine⟨_,rfl,?_⟩;have n0_:=aA.mk (Kd.dK (ok':=fun k_=>some k_≠(.slice U3 y8.length U4:Value).ownBlock∧some k_≠(v194:Value).ownBlock) (Kd.mY (l9.out) hkp (fun k_ hk_ hs_=>(hk_.1.2) hs_)) (fun k_ hk_=>⟨hk_.1.1.1,hk_.1.2⟩));have n1_:=aA.mk (Kd.dK (ok':=fun k_=>some k_≠(.slice Q9 D6.length S9:Value).ownBlock∧some k_≠(v194:Value).ownBlock) (Kd.mY (o7.out) hkp (fun k_ hk_ hs_=>(hk_.1.2) hs_)) (fun k_ hk_=>⟨hk_.1.1.1,hk_.1.2⟩));have n2_:=aA.mk (Kd.dK (ok':=fun k_=>some k_≠(.slice Q9 D6.length S9:Value).ownBlock∧some k_≠(.slice U3 y8.length U4:Value).ownBlock) (Kd.mY (E8.out) hkp (fun k_ hk_ hs_=>(hk_.1.1) hs_)) (fun k_ hk_=>⟨hk_.1.1.2,hk_.1.2⟩));have n3_:=aA.mk (hb);clear l9;clear o7;clear E8;clear HB;clear G6;have l9:=n0_;have o7:=n1_;have E8:=n2_;have HB:=n3_;clear n0_ n1_ n2_ n3_;(try clear hb);(try clear hkp))|((with_reducible refine aC (f:=158) rfl ?_);refine dF (some 38) rfl rfl Tryz.func158 (by kernel_rfl) rfl #[.string a0] rfl (by(try simp only[List.map_toArray,List.map_cons,List.map_nil]);first|done|rfl|(simp only[List.length_drop,List.length_take];rfl)) ?_;(with_reducible refine(aH.calls a0 o9 _ J7.out).mono ?_);rintro e w' ⟨rfl,⟨nd,rfl⟩⟩;refine⟨_,rfl,?_⟩)|((with_reducible refine aC (f:=158) rfl ?_);refine dF (some 40) rfl rfl Tryz.func158 (by kernel_rfl) rfl #[.string a1] rfl (by(try simp only[List.map_toArray,List.map_cons,List.map_nil]);first|done|rfl|(simp only[List.length_drop,List.length_take];rfl)) ?_;(with_reducible refine(aH.calls a1 o8 _ J8.out).mono ?_);rintro e w' ⟨rfl,⟨nd,rfl⟩⟩;refine⟨_,rfl,?_⟩))
     go_ret
     exact⟨by first|rfl|(simp[dZ,eF] <;> rfl)|(simp[*,dZ,eF] <;> rfl),by repeat(first|(with_reducible first|exact HB.out|apply aT|apply aI|apply aJ)|exact HB.out)⟩
end Go.Proofs.YtignanmmgaldeaaGreatDoor.PRefA
end
section
set_option linter.unusedVariables false
set_option linter.unusedSimpArgs false
namespace Go.Proofs.YtignanmmgaldeaaGreatDoor.RefP
open Go.RowKit Go.Proofs.YtignanmmgaldeaaGreatDoor.PRefA Go.Proofs.YtignanmmgaldeaaGreatDoorW.PrintWords Go.Proofs.YtignanmmgaldeaaGreatDoorW.PrintLast
theorem aAy{x:Int}{m:Nat}(hx:Bd m x)(hm:1≤m)(h4:m≤90000):kP.f (text x)=some (text (-x)):=by
 have hs:=size_text hx hm;unfold kP.f
 by_cases h0:x=0
 ·rw[if_pos ((bK x).2 h0),h0];rfl
 ·rw[if_neg (fun q=>h0 ((bK x).1 q)),uM,Option.bind_some]
  obtain⟨s,h1,h2,h3⟩:=qM x;obtain⟨s',g1,g2,g3⟩:=qM (-x);have hsz:0<(text x).size:=rF (pF x).1;rw[Int.natAbs_neg] at g1
  by_cases hx0:x<0
  ·rw[if_pos (decide_eq_true hx0)]
   have es:s= [45]:=h3.2 hx0
   have es':s'= []:=by
    rcases g2 with h|h
    ·exact h
    ·have:=g3.1 h;omega
   rw[if_pos aFx]
   congr 1
   refine nZ ?_;have hz:=Lib.size_eq (text x);rw[h1,es] at hz;rw[g1,es',List.nil_append,Lib.extract_data,h1,es]
   simp[hz]
  ·rw[if_neg (by simp[hx0])]
   have es:s= []:=by
    rcases h2 with h|h
    ·exact h
    ·have:=h3.1 h;omega
   have es':s'= [45]:=g3.2 aFx;rw[if_pos aFx]
   congr 1
   refine nZ ?_;rw[g1,es']
   simp[h1,es]
theorem diff_text{x y:Int}{m:Nat}(hx:Bd m x)(hy:Bd m y)(hm:1≤m)(h4:m≤9000):iD.f (text x) (text y)=some (text (x-y)):=by
 unfold iD.f;rw[aAy hy hm aFx,Option.bind_some,aD6 hx hy.neg hm h4,Option.bind_some];rfl
theorem floor_int{x y:Int}(hy:y≠0)(hx:x.natAbs<100000000000000000)(hy2:y.natAbs<100000000000000000):lJ.f x y=some (Int.fdiv x y)∧ -100000000000000001≤Int.fdiv x y∧Int.fdiv x y≤100000000000000001:=by
 have hq:=Int.natAbs_tdiv x y;have hql:x.natAbs/y.natAbs≤x.natAbs:=Nat.div_le_self _ _
 have hb:(Int.tdiv x y).natAbs<100000000000000000:=by
  rw[hq];exact Nat.lt_of_le_of_lt hql hx
 have hw:wrap64 (Int.tdiv x y)=Int.tdiv x y:=by clear hq hql;unfold wrap64;omega
 have hw2:wrap64 (Int.tdiv x y-1)=Int.tdiv x y-1:=by clear hq hql;unfold wrap64;omega
 have hf:=Int.fdiv_eq_tdiv (a:=x) (b:=y);unfold lJ.f;rw[if_neg hy,hw,hw2]
 by_cases hd:Int.tmod x y=0
 ·have hdv:y∣x:=Int.dvd_of_tmod_eq_zero hd
  rw[if_pos hd];have e:Int.fdiv x y=Int.tdiv x y:=by rw[hf,if_pos hdv,Int.sub_zero]
  rw[e];exact⟨rfl,by omega,by omega⟩
 ·have hdv:¬y∣x:=fun q=>hd (Int.tmod_eq_zero_of_dvd q)
  rw[if_neg hd]
  have e:Int.fdiv x y=Int.tdiv x y-(if(decide (x<0) != decide (y<0))=true then 1 else 0):=by
   rw[hf,if_neg hdv];have hx0:x≠0:=fun q=>hdv (by rw[q];exact Int.dvd_zero _)
   by_cases a:0≤x
   ·by_cases b:0≤y
    ·rw[if_pos a,if_pos b,if_neg (by simp;omega)]
    ·rw[if_pos a,if_neg b,if_pos (by simp;omega)]
   ·by_cases b:0≤y
    ·rw[if_neg a,if_pos b,if_pos (by simp;omega),Int.sign_eq_one_of_pos aFx]
    ·rw[if_neg a,if_neg b,if_neg (by simp;omega),Int.sign_eq_neg_one_of_neg aFx];rfl
  rw[e]
  split
  ·exact⟨rfl,by omega,by omega⟩
  ·rw[Int.sub_zero];exact⟨rfl,by omega,by omega⟩
theorem aBe(X Y:Nat):((Y:Int)∣(X:Int))↔X%Y=0:=by
 rw[Int.natCast_dvd_natCast];exact Nat.dvd_iff_mod_eq_zero
theorem aDn(X Y:Nat):Int.fdiv (X:Int) (Y:Int)=((X/Y:Nat):Int):=by
 rw[Int.fdiv_eq_ediv_of_nonneg _ (Int.natCast_nonneg _)];rfl
theorem fdiv_mag{x y:Int}(hy:y≠0):Int.fdiv x y=if(decide (x<0) != decide (y<0))=true then(if x.natAbs%y.natAbs=0 then -((x.natAbs/y.natAbs:Nat):Int) else -((x.natAbs/y.natAbs:Nat):Int)-1) else((x.natAbs/y.natAbs:Nat):Int):=by
 have hY:(y.natAbs:Int)≠0:=by omega
 by_cases a:x<0
 ·have ex:x= -(x.natAbs:Int):=by omega
  by_cases b:y<0
  ·have ey:y= -(y.natAbs:Int):=by omega
   rw[if_neg (by simp[a,b])]
   conv=>lhs;rw[ex,ey]
   rw[Int.neg_fdiv_neg,aDn]
  ·have ey:y=(y.natAbs:Int):=by omega
   rw[if_pos (by simp[a,b])]
   conv=>lhs;rw[ex,ey]
   rw[Int.neg_fdiv,aDn]
   by_cases d:x.natAbs%y.natAbs=0
   ·rw[if_pos d,if_pos (.inr ((aBe _ _).2 d)),Int.sub_zero]
   ·rw[if_neg d,if_neg (by rintro(q|q);exact hY q;exact d ((aBe _ _).1 q))]
 ·have ex:x=(x.natAbs:Int):=by omega
  by_cases b:y<0
  ·have ey:y= -(y.natAbs:Int):=by omega
   rw[if_pos (by simp[a,b])]
   conv=>lhs;rw[ex,ey]
   rw[Int.fdiv_neg hY,aDn]
   by_cases d:x.natAbs%y.natAbs=0
   ·rw[if_pos d,if_pos ((aBe _ _).2 d)]
   ·rw[if_neg d,if_neg (fun q=>d ((aBe _ _).1 q))]
  ·have ey:y=(y.natAbs:Int):=by omega
   rw[if_neg (by simp[a,b])]
   conv=>lhs;rw[ex,ey]
   rw[aDn]
theorem cL_pos(n:Nat):((cL n).length:Int)>0↔n≠0:=by
 by_cases h:n=0
 ·subst h;exact⟨fun q=>absurd q aG0,fun q=>absurd rfl q⟩
 ·have:(cL n).length≠0:=by rw[cL_step n h];simp
  exact⟨fun _=>h,fun _=>by omega⟩
theorem floor_long{x y:Int}(hy0:y≠0){m:Nat}(hx:Bd m x)(hy:Bd m y)(hm:1≤m)(h4:m≤9000)(k:Nat)(hk:2000000≤k):fV.j0 (k+1) (text x) (text y) false=some (text (Int.fdiv x y)):=by
 have lx:=kK hx hm;have ly:=kK hy hm;have dx:=rC x.natAbs;have dy:=rC y.natAbs;have cx:=cL_len_dL x.natAbs;have cy:=cL_len_dL y.natAbs;have hy1:y.natAbs≠0:=by omega
 obtain⟨sv,sl⟩:=split_val (N:=x.natAbs) (m:=y.natAbs) hy1 aFx aFx k aFx;have mv:=aCc (yD _) aFx _ (yI (x.natAbs/y.natAbs)) (decide (x<0) != decide (y<0)) k aFx
 rw[fV.j0,if_neg aFz,mQ hx hm aFx k aFx,Option.bind_some,xW _ k aFx aFx,Option.bind_some,mQ hy hm aFx k aFx,Option.bind_some,xW _ k aFx aFx,Option.bind_some,sv,Option.bind_some,
  uM,uM,Option.bind_some,Option.bind_some,mv,Option.bind_some,Option.bind_some,Option.bind_some,fdiv_mag hy0]
 by_cases hs:(decide (x<0) != decide (y<0))=true
 ·rw[if_pos hs,if_pos hs,if_pos hs]
  by_cases hr:x.natAbs%y.natAbs=0
  ·rw[if_neg (fun q=>(cL_pos _).1 q hr),if_pos hr]
  ·have bq:Bd m (-((x.natAbs/y.natAbs:Nat):Int)):=by
    unfold Bd at *
    rw[Int.natAbs_neg,Int.natAbs_natCast];exact Nat.lt_of_le_of_lt (Nat.div_le_self _ _) hx
   have b1:Bd m 1:=by
    show(1:Nat)<10 ^ m;exact Nat.one_lt_pow aFx aFx
   have e1:(⟨#[49]⟩:ByteArray)=text 1:=by decide +kernel
   rw[if_pos ((cL_pos _).2 hr),if_neg hr,e1,diff_text bq b1 hm h4,Option.bind_some]
 ·rw[if_neg hs,if_neg hs,if_neg hs]
theorem floor_text{x y:Int}(hy0:y≠0){m:Nat}(hx:Bd m x)(hy:Bd m y)(hm:1≤m)(h4:m≤9000)(k:Nat)(hk:3000000≤k):fV.f k (text x) (text y)=some (text (Int.fdiv x y)):=by
 obtain⟨k,rfl⟩:∃j,k=j+1:=⟨k-1,by omega⟩
 have fl:=floor_long hy0 hx hy hm h4 k aFx;unfold fV.f;rw[short_text hx hm aFx,Option.bind_some]
 by_cases h1:(Lib.decDigits x.natAbs).length≤17
 ·rw[if_pos (decide_eq_true h1),short_text hy hm aFx,Option.bind_some]
  by_cases h2:(Lib.decDigits y.natAbs).length≤17
  ·have bx:Bd 17 x:=nJ _ _ h1
   have by':Bd 17 y:=nJ _ _ h2
   have c1:x.natAbs<100000000000000000:=Nat.lt_of_lt_of_le bx (by decide +kernel);have c2:y.natAbs<100000000000000000:=Nat.lt_of_lt_of_le by' (by decide +kernel)
   obtain⟨f1,f2,f3⟩:=floor_int hy0 c1 c2;rw[decide_eq_true h2,fV.j0,if_pos rfl,yC bx k aFx,Option.bind_some,yC by' k aFx,Option.bind_some,f1,Option.bind_some,aBr _ aFx aFx k aFx,Option.bind_some]
  ·rw[decide_eq_false h2];exact fl
 ·rw[if_neg (by simp[h1])];exact fl
end Go.Proofs.YtignanmmgaldeaaGreatDoor.RefP
namespace Go.Proofs.YtignanmmgaldeaaGreatDoor
open Go.RowKit Go.Proofs.YtignanmmgaldeaaGreatDoor.PRefA Go.Proofs.YtignanmmgaldeaaGreatDoor.RefP Go.Proofs.YtignanmmgaldeaaGreatDoorW.PrintWords Go.Proofs.YtignanmmgaldeaaGreatDoorW.PrintLast
def iE.f(a0 a1:ByteArray):Option ByteArray:=if okR a0∧okR a1 then some (text (aV a0-aV a1)) else none
theorem iE.calls(a0 a1 r0:ByteArray)(w:World)(h:iE.f a0 a1=some r0) :
 Calls Tryz.prog 84 #[.string a0,.string a1] w fun e w'=>e= .returned (.string r0)∧Below w.heap.size w w':=by
 unfold iE.f at h
 split at h
 ·rename_i hs
  obtain⟨x,rfl,bx⟩:=yY hs.1;obtain⟨y,rfl,by'⟩:=yY hs.2;obtain rfl:=Option.some.inj h;rw[bC,bC];refine iD.calls _ _ _ w ?_;unfold iD.f;have e:oO.f (text x) (text (-y))=some (text (x-y)):=aD6 bx by'.neg aFx aFx
  rw[aAy by' aFx aFx,Option.bind_some,e,Option.bind_some]
 ·cases h
theorem uN{x y:Int}{m:Nat}(hx:Bd m x)(hy:Bd m y)(hm:1≤m)(h4:m≤9000):iE.f (text x) (text y)=some (text (x-y)):=by
 unfold iE.f;rw[if_pos ⟨yZ hx hm aFx,yZ hy hm aFx⟩,bC,bC]
def gG.f(a0 a1:ByteArray):Option ByteArray:=if okR a0∧okR a1 then some (text (aV a0*aV a1)) else none
theorem gG.calls(a0 a1 r0:ByteArray)(w:World)(h:gG.f a0 a1=some r0) :
 Calls Tryz.prog 86 #[.string a0,.string a1] w fun e w'=>e= .returned (.string r0)∧Below w.heap.size w w':=by
 unfold gG.f at h
 split at h
 ·rename_i hs
  obtain⟨x,rfl,bx⟩:=yY hs.1;obtain⟨y,rfl,by'⟩:=yY hs.2;obtain rfl:=Option.some.inj h;rw[bC,bC];obtain⟨k,hk⟩:∃k:Nat,k=100000000:=⟨_,rfl⟩
  exact oM.calls k _ _ _ w (product_text aFx aFx bx by' k aFx)
 ·cases h
theorem oG{x y:Int}{m:Nat}(hx:Bd m x)(hy:Bd m y)(hm:1≤m)(h4:m≤9000):gG.f (text x) (text y)=some (text (x*y)):=by
 unfold gG.f;rw[if_pos ⟨yZ hx hm h4,yZ hy hm h4⟩,bC,bC]
def jR.f(a0 a1:ByteArray):Option ByteArray:=if okR a0∧okR a1∧aV a1≠0 then some (text (Int.fdiv (aV a0) (aV a1))) else none
theorem jR.calls(a0 a1 r0:ByteArray)(w:World)(h:jR.f a0 a1=some r0) :
 Calls Tryz.prog 77 #[.string a0,.string a1] w fun e w'=>e= .returned (.string r0)∧Below w.heap.size w w':=by
 unfold jR.f at h
 split at h
 ·rename_i hs
  obtain⟨x,rfl,bx⟩:=yY hs.1;obtain⟨y,rfl,by'⟩:=yY hs.2.1;obtain rfl:=Option.some.inj h;have h0:=hs.2.2;rw[bC] at h0;rw[bC,bC];obtain⟨k,hk⟩:∃k:Nat,k=100000000:=⟨_,rfl⟩
  exact fV.calls k _ _ _ w (floor_text h0 bx by' aFx aFx k aFx)
 ·cases h
theorem vP{x y:Int}{m:Nat}(hx:Bd m x)(hy:Bd m y)(hm:1≤m)(h4:m≤9000)(h0:y≠0):jR.f (text x) (text y)=some (text (Int.fdiv x y)):=by
 unfold jR.f;rw[if_pos ⟨yZ hx hm h4,yZ hy hm h4,by rw[bC];exact h0⟩,bC,bC]
end Go.Proofs.YtignanmmgaldeaaGreatDoor
end
section
set_option linter.unusedVariables false
set_option linter.unusedSimpArgs false
set_option maxHeartbeats 8000000
set_option maxRecDepth 100000
namespace Go.Proofs.YtignanmmgaldeaaGreatDoor.PRefA
open Go.RowKit Go.Proofs.YtignanmmgaldeaaGreatDoor.RefP Go.Proofs.YtignanmmgaldeaaGreatDoorW.PrintWords Go.Proofs.YtignanmmgaldeaaGreatDoorW.PrintLast Go.Proofs.YtignanmmgaldeaaGreatDoorW.PrintMore
attribute [local go_sem] dQ dR eH eP
def gZ.f(a0:ByteArray)(a1:ByteArray):Option (ByteArray):=(jR.f a0 a1).bind fun t101=>((gG.f a1 t101).bind fun t102=>((iE.f a0 t102).bind fun t103=>(some t103)))
theorem gZ.calls(a0:ByteArray)(a1:ByteArray)(r:ByteArray)(w:World)(h:gZ.f a0 a1=some r) :
 Calls Tryz.prog 78 #[.string a0,.string a1] w fun e w'=>e= .returned (.string r)∧Below w.heap.size w w':=by
 have HB:=aA.mk (Below.refl w.heap.size w);have H:((jR.f a0 a1).bind fun o6=>((gG.f a1 o6).bind fun l9=>((iE.f a0 l9).bind fun o5=>(some o5))))=some r:=h;clear h;replace H:=Option.bind_eq_some_iff.mp H;obtain⟨o6,o7,H⟩:=H;replace H:((gG.f a1 o6).bind fun l9=>((iE.f a0 l9).bind fun o5=>(some o5)))=some r:=H;have A3:=aA.mk o7;clear o7;replace H:=Option.bind_eq_some_iff.mp H;obtain⟨l9,o8,H⟩:=H;replace H:((iE.f a0 l9).bind fun o5=>(some o5))=some r:=H;have A4:=aA.mk o8;clear o8;replace H:=Option.bind_eq_some_iff.mp H;obtain⟨o5,o9,H⟩:=H;replace H:(some o5)=some r:=H;have A5:=aA.mk o9;clear o9;obtain rfl:=Option.some.inj H;go_enter Tryz.func78,Tryz.ntmps78
 go_wp2_with(first|((with_reducible refine aC (f:=77) rfl ?_);refine dF (some 9) rfl rfl Tryz.func77 (by kernel_rfl) rfl #[.string a0,.string a1] rfl (by(try simp only[List.map_toArray,List.map_cons,List.map_nil]);first|done|rfl|(simp only[List.length_drop,List.length_take];rfl)) ?_;(with_reducible refine(jR.calls a0 a1 o6 _ A3.out).mono ?_);rintro e w6 ⟨rfl,hb⟩;refine⟨_,rfl,?_⟩;have n0_:=aA.mk (fM (by repeat(first|(with_reducible first|exact HB.out|apply aT|apply aI|apply aJ)|exact HB.out)) hb);clear HB;have HB:=n0_;clear n0_;(try clear hb);(try clear hb2);(try clear hk);(try clear hi))|((with_reducible refine aC (f:=86) rfl ?_);refine dF (some 10) rfl rfl Tryz.func86 (by kernel_rfl) rfl #[.string a1,.string o6] rfl (by(try simp only[List.map_toArray,List.map_cons,List.map_nil]);first|done|rfl|(simp only[List.length_drop,List.length_take];rfl)) ?_;(with_reducible refine(gG.calls a1 o6 l9 _ A4.out).mono ?_);rintro e w7 ⟨rfl,hb⟩;refine⟨_,rfl,?_⟩;have n0_:=aA.mk (fM (by repeat(first|(with_reducible first|exact HB.out|apply aT|apply aI|apply aJ)|exact HB.out)) hb);clear HB;have HB:=n0_;clear n0_;(try clear hb);(try clear hb2);(try clear hk);(try clear hi))|((with_reducible refine aC (f:=84) rfl ?_);refine dF (some 11) rfl rfl Tryz.func84 (by kernel_rfl) rfl #[.string a0,.string l9] rfl (by(try simp only[List.map_toArray,List.map_cons,List.map_nil]);first|done|rfl|(simp only[List.length_drop,List.length_take];rfl)) ?_;(with_reducible refine(iE.calls a0 l9 o5 _ A5.out).mono ?_);rintro e w8 ⟨rfl,hb⟩;refine⟨_,rfl,?_⟩;have n0_:=aA.mk (fM (by repeat(first|(with_reducible first|exact HB.out|apply aT|apply aI|apply aJ)|exact HB.out)) hb);clear HB;have HB:=n0_;clear n0_;(try clear hb);(try clear hb2);(try clear hk);(try clear hi)))
 go_ret
 exact⟨by first|rfl|(simp[dZ,eF] <;> rfl)|(simp[*,dZ,eF] <;> rfl),by repeat(first|(with_reducible first|exact HB.out|apply aT|apply aI|apply aJ)|exact HB.out)⟩
end Go.Proofs.YtignanmmgaldeaaGreatDoor.PRefA
end
section
set_option linter.unusedVariables false
set_option linter.unusedSimpArgs false
namespace Go.Proofs.YtignanmmgaldeaaGreatDoor.RefP
open Go.RowKit Go.Proofs.YtignanmmgaldeaaGreatDoor.PRefA Go.Proofs.YtignanmmgaldeaaGreatDoorW.PrintWords Go.Proofs.YtignanmmgaldeaaGreatDoorW.PrintLast
theorem nP{x:Int}{m:Nat}(hx:Bd m x)(hm:1≤m)(h4:m≤90000):cZ.f (text x)=some (text (x.natAbs:Int)):=by
 have hs:=size_text hx hm;have hsz:0<(text x).size:=rF (pF x).1;unfold cZ.f;rw[uM,Option.bind_some]
 by_cases h:x<0
 ·obtain⟨s,h1,h2,h3⟩:=qM x
  rw[if_pos (decide_eq_true h),if_pos aFx]
  congr 1
  refine nZ ?_;have hz:=Lib.size_eq (text x);rw[h1,h3.2 h] at hz;rw[sS,Lib.extract_data,h1,h3.2 h];unfold Lib.itoa;rw[if_neg aFx,Int.toNat_natCast]
  simp[hz]
 ·rw[if_neg (by simp[h])]
  rw[show(x.natAbs:Int)=x by omega]
theorem aAp{x y:Int}(hy0:y≠0){m:Nat}(hx:Bd m x)(hy:Bd m y)(hm:1≤m)(h4:m≤4400):gZ.f (text x) (text y)=some (text (Int.fmod x y)):=by
 have hf:=hx.fdiv hy0;have hp:Bd (m+m) (y*Int.fdiv x y):=hy.mul hf;unfold gZ.f;rw[vP hx hy hm aFx hy0,Option.bind_some,oG hy hf hm aFx,Option.bind_some,uN (m:=m+m) (hx.mono aFx) hp aFx aFx,Option.bind_some];have:=Int.mul_fdiv_add_fmod x y;rw[show x-y*Int.fdiv x y=Int.fmod x y by omega]
end Go.Proofs.YtignanmmgaldeaaGreatDoor.RefP
namespace Go.Proofs.YtignanmmgaldeaaGreatDoor
open Go.RowKit Go.Proofs.YtignanmmgaldeaaGreatDoor.PRefA Go.Proofs.YtignanmmgaldeaaGreatDoor.RefP Go.Proofs.YtignanmmgaldeaaGreatDoorW.PrintWords Go.Proofs.YtignanmmgaldeaaGreatDoorW.PrintLast
def okN(n:Nat)(a:ByteArray):Prop:=canon a.data.toList=true∧digN a≤n
instance (n:Nat)(a:ByteArray):Decidable (okN n a):=inferInstanceAs (Decidable (_∧_))
theorem kR{n:Nat}{a:ByteArray}(h:okN n a):∃x,a=text x∧Bd n x:=by
 obtain⟨x,rfl⟩:=lU a h.1;refine⟨x,rfl,oN _ ?_⟩;rw[←kV];exact h.2
theorem kS{x:Int}{m n:Nat}(h:Bd m x)(hm:1≤m)(h4:m≤n):okN n (text x):=⟨(pF x).1,by rw[kV];have:=kK h hm;omega⟩
def lT.f(a0 a1:ByteArray):Option ByteArray:=if okN 4400 a0∧okN 4400 a1∧aV a1≠0 then some (text (Int.fmod (aV a0) (aV a1))) else none
theorem lT.calls(a0 a1 r0:ByteArray)(w:World)(h:lT.f a0 a1=some r0) :
 Calls Tryz.prog 78 #[.string a0,.string a1] w fun e w'=>e= .returned (.string r0)∧Below w.heap.size w w':=by
 unfold lT.f at h
 split at h
 ·rename_i hs
  obtain⟨x,rfl,bx⟩:=kR hs.1;obtain⟨y,rfl,by'⟩:=kR hs.2.1;obtain rfl:=Option.some.inj h;have h0:=hs.2.2;rw[bC] at h0;rw[bC,bC];exact gZ.calls _ _ _ w (aAp h0 bx by' aFx aFx)
 ·cases h
theorem aB8{x y:Int}{m:Nat}(hx:Bd m x)(hy:Bd m y)(hm:1≤m)(h4:m≤4400)(h0:y≠0):lT.f (text x) (text y)=some (text (Int.fmod x y)):=by
 unfold lT.f;rw[if_pos ⟨kS hx hm h4,kS hy hm h4,by rw[bC];exact h0⟩,bC,bC]
def iW.f(a0:ByteArray):Option Int:=if 0<a0.size∧a0.size≤140737488351232 then some (digN a0:Int) else none
theorem iW.calls(a0:ByteArray)(r0:Int)(w:World)(h:iW.f a0=some r0) :
 Calls Tryz.prog 149 #[.string a0] w fun e w'=>e= .returned (.int .i64 r0)∧eQ w w':=by
 unfold iW.f at h
 split at h
 ·rename_i hs
  obtain rfl:=Option.some.inj h;exact fQ.calls _ _ w (zK a0 hs.2 hs.1)
 ·cases h
theorem aDo{x:Int}{m:Nat}(hx:Bd m x)(hm:1≤m)(h4:m≤90000):iW.f (text x)=some ((Lib.decDigits x.natAbs).length:Int):=by
 have:=size_text hx hm;unfold iW.f;rw[if_pos ⟨rF (pF x).1,by omega⟩,kV]
theorem mD(z:Int):sgnI z<0↔z<0:=by
 unfold sgnI
 split
 ·omega
 ·split <;> omega
def pV.f(a0:ByteArray):Option ByteArray:=if okN 9000 a0 then some (text ((aV a0).natAbs:Int)) else none
theorem pV.calls(a0 r0:ByteArray)(w:World)(h:pV.f a0=some r0) :
 Calls Tryz.prog 92 #[.string a0] w fun e w'=>e= .returned (.string r0)∧eQ w w':=by
 unfold pV.f at h
 split at h
 ·rename_i hs
  obtain⟨x,rfl,bx⟩:=kR hs;obtain rfl:=Option.some.inj h;rw[bC];exact cZ.calls _ _ w (nP bx aFx aFx)
 ·cases h
theorem magnitude_val{x:Int}{m:Nat}(hx:Bd m x)(hm:1≤m)(h4:m≤9000):pV.f (text x)=some (text (x.natAbs:Int)):=by
 unfold pV.f;rw[if_pos (kS hx hm h4),bC]
end Go.Proofs.YtignanmmgaldeaaGreatDoor
end
section
set_option linter.unusedVariables false
set_option linter.unusedSimpArgs false
namespace Go.Proofs.YtignanmmgaldeaaGreatDoor.PCongI
open Go.RowKit Go.Proofs.YtignanmmgaldeaaGreatDoorW.PrintWords Go.Proofs.YtignanmmgaldeaaGreatDoorW.PrintLast Go.Proofs.YtignanmmgaldeaaGreatDoorW.PrintMore
attribute [local go_sem] dQ dR eH eP
def errW:Option Int→Value
 |none=> .nilIface
 |some c=> .iface 0 (.int .i64 c)
theorem dZ:errW none= .nilIface:=rfl
theorem eF(c:Int):errW (some c)= .iface 0 (.int .i64 c):=rfl
end Go.Proofs.YtignanmmgaldeaaGreatDoor.PCongI
end
section
set_option linter.unusedVariables false
set_option linter.unusedSimpArgs false
namespace Go.Proofs.YtignanmmgaldeaaGreatDoor.PCongI
open Go.RowKit Go.Proofs.YtignanmmgaldeaaGreatDoorW.PrintWords Go.Proofs.YtignanmmgaldeaaGreatDoorW.PrintLast Go.Proofs.YtignanmmgaldeaaGreatDoorW.PrintMore
attribute [local go_sem] dQ dR eH eP
theorem yJ(d:Nat)(w:World)(x0 y0:Bool)(x1 y1:ByteArray)(x2 y2:ByteArray) :
 (Op.equalIn (d+2) 36 (.agg #[.bool x0,.string x1,.string x2]) (.agg #[.bool y0,.string y1,.string y2])).run Tryz.prog w= .ok (x0==y0&&(x1.toList==y1.toList&&(x2.toList==y2.toList))) w:=by
 refine aD5 Tryz.underlying36 (by kernel_rfl) ?_;refine qY (by rfl) (by go_simp;rfl) (by go_simp;rfl) (by go_simp) ?_;refine qY (by rfl) (by go_simp;rfl) (by go_simp;rfl) (by go_simp) ?_;exact aB5 (by rfl) (by go_simp;rfl) (by go_simp;rfl) (by go_simp)
end Go.Proofs.YtignanmmgaldeaaGreatDoor.PCongI
end
section
set_option linter.unusedVariables false
set_option linter.unusedSimpArgs false
set_option maxHeartbeats 8000000
set_option maxRecDepth 100000
namespace Go.Proofs.YtignanmmgaldeaaGreatDoor.PCongI
open Go.RowKit Go.Proofs.YtignanmmgaldeaaGreatDoorW.PrintWords Go.Proofs.YtignanmmgaldeaaGreatDoorW.PrintLast Go.Proofs.YtignanmmgaldeaaGreatDoorW.PrintMore
attribute [local go_sem] dQ dR eH eP
def oC.f(a0:Int)(a1:Int):Option (Int):=some a0
theorem oC.calls(a0:Int)(a1:Int)(r:Int)(w:World)(h:oC.f a0 a1=some r) :
 Calls Tryz.prog 185 #[.int .i64 a0,.int .i64 a1] w fun e w'=>e= .returned (.int .i64 r)∧eQ w w':=by
 have H:(some a0)=some r:=h;clear h;obtain rfl:=Option.some.inj H;go_enter Tryz.func185,Tryz.ntmps185
 go_wp2
 go_ret
 exact dr_
def iF.f(a0:ByteArray)(a1:ByteArray):Option (Bool):=(oL.f a0 a1).bind fun bt101=>((oC.f bt101.1 bt101.2).bind fun t103=>(some (decide (t103<0))))
theorem iF.calls(a0:ByteArray)(a1:ByteArray)(r:Bool)(w:World)(h:iF.f a0 a1=some r) :
 Calls Tryz.prog 134 #[.string a0,.string a1] w fun e w'=>e= .returned (.bool r)∧Below w.heap.size w w':=by
 have HB:=aA.mk (Below.refl w.heap.size w);have H:((oL.f a0 a1).bind fun o5=>((oC.f o5.1 o5.2).bind fun l9=>(some (decide (l9<0)))))=some r:=h;clear h;obtain⟨⟨o6,o7⟩,A3,H⟩:=bi H;try dsimp only at H
 obtain⟨l9,A4,H⟩:=bi H;try dsimp only at H
 obtain rfl:=Option.some.inj H;go_enter Tryz.func134,Tryz.ntmps134
 go_wp2_with(first|((with_reducible refine aC (f:=69) rfl ?_);refine gM 7 Tryz.func69 (oL.calls (w:=_) (h:=A3.out)) (h:= ?_);intro w5 hb;replace HB:=pkB HB hb;try clear hb)|((with_reducible refine aC (f:=185) rfl ?_);refine gl_ 10 Tryz.func185 #[.int .i64 o6,.int .i64 o7] (h:= ?_);(with_reducible refine(oC.calls o6 o7 l9 _ A4.out).mono ?_);rintro e w' ⟨rfl,⟨nd,rfl⟩⟩;refine⟨_,rfl,?_⟩))
 go_ret
 exact pkE HB
def stringslite_HasPrefix.f(a0:ByteArray)(a1:ByteArray):Option (Bool):=if(a0.size:Int)≥(a1.size:Int) then(if 0≤(a1.size:Int) then(if(a1.size:Int)≤(a0.size:Int) then(some ((a0.extract 0 ((a1.size:Int):Int).toNat).toList==a1.toList)) else(none)) else(none)) else(some false)
theorem stringslite_HasPrefix.calls(a0:ByteArray)(a1:ByteArray)(r:Bool)(w:World)(h:stringslite_HasPrefix.f a0 a1=some r) :
 Calls Tryz.prog 220 #[.string a0,.string a1] w fun e w'=>e= .returned (.bool r)∧eQ w w':=by
 have H:(if(a0.size:Int)≥(a1.size:Int) then(if 0≤(a1.size:Int) then(if(a1.size:Int)≤(a0.size:Int) then(some ((a0.extract 0 ((a1.size:Int):Int).toNat).toList==a1.toList)) else(none)) else(none)) else(some false))=some r:=h;clear h
 by_cases c3:(a0.size:Int)≥(a1.size:Int)
 ·rw[if_pos c3] at H
  have l9:=decide_eq_true c3;have o5:decide (a1.size≤a0.size)=true:=decide_eq_true (Int.ofNat_le.mp c3);clear c3
  by_cases c4:0≤(a1.size:Int)
  ·rw[if_pos c4] at H
   have o6:=eq_true c4;have o7:=decide_eq_true c4;clear c4
   by_cases c5:(a1.size:Int)≤(a0.size:Int)
   ·rw[if_pos c5] at H
    have o8:=eq_true c5;have o9:=decide_eq_true c5;clear c5;obtain rfl:=Option.some.inj H;go_enter Tryz.func220,Tryz.ntmps220
    go_wp2
    go_ret
    exact dr_
   ·rw[if_neg c5] at H
    exact absurd H aFz
  ·rw[if_neg c4] at H
   exact absurd H aFz
 ·rw[if_neg c3] at H
  have l9:=decide_eq_false c3;have o5:decide (a1.size≤a0.size)=false:=decide_eq_false (fun h=>c3 (Int.ofNat_le.mpr h));clear c3;obtain rfl:=Option.some.inj H;go_enter Tryz.func220,Tryz.ntmps220
  go_wp2
  go_ret
  exact dr_
def stringslite_TrimPrefix.f(a0:ByteArray)(a1:ByteArray):Option (ByteArray):=(stringslite_HasPrefix.f a0 a1).bind fun t104=>(if t104=true then(if 0≤(a1.size:Int) then(if(a1.size:Int)≤(a0.size:Int) then(some (a0.extract ((a1.size:Int):Int).toNat a0.size)) else(none)) else(none)) else(some a0))
theorem stringslite_TrimPrefix.calls(a0:ByteArray)(a1:ByteArray)(r:ByteArray)(w:World)(h:stringslite_TrimPrefix.f a0 a1=some r) :
 Calls Tryz.prog 215 #[.string a0,.string a1] w fun e w'=>e= .returned (.string r)∧eQ w w':=by
 have H:((stringslite_HasPrefix.f a0 a1).bind fun l9=>(if l9=true then(if 0≤(a1.size:Int) then(if(a1.size:Int)≤(a0.size:Int) then(some (a0.extract ((a1.size:Int):Int).toNat a0.size)) else(none)) else(none)) else(some a0)))=some r:=h;clear h;obtain⟨l9,A3,H⟩:=bi H;try dsimp only at H
 by_cases c4:l9=true
 ·subst c4
  rw[if_pos rfl] at H
  by_cases c5:0≤(a1.size:Int)
  ·rw[if_pos c5] at H
   have o5:=eq_true c5;have o6:=decide_eq_true c5;clear c5
   by_cases c6:(a1.size:Int)≤(a0.size:Int)
   ·rw[if_pos c6] at H
    have o7:=eq_true c6;have o8:=decide_eq_true c6;clear c6;obtain rfl:=Option.some.inj H;go_enter Tryz.func215,Tryz.ntmps215
    go_wp2_with(first|((with_reducible refine aC (f:=220) rfl ?_);refine gl_ 7 Tryz.func220 #[.string a0,.string a1] (h:= ?_);(with_reducible refine(stringslite_HasPrefix.calls a0 a1 true _ A3.out).mono ?_);rintro e w' ⟨rfl,⟨nd,rfl⟩⟩;refine⟨_,rfl,?_⟩))
    go_ret
    exact dr_
   ·rw[if_neg c6] at H
    exact absurd H aFz
  ·rw[if_neg c5] at H
   exact absurd H aFz
 ·replace c4:=Bool.eq_false_iff.mpr c4
  subst c4;rw[if_neg (show ¬(false=true) by decide)] at H;obtain rfl:=Option.some.inj H;go_enter Tryz.func215,Tryz.ntmps215
  go_wp2_with(first|((with_reducible refine aC (f:=220) rfl ?_);refine gl_ 7 Tryz.func220 #[.string a0,.string a1] (h:= ?_);(with_reducible refine(stringslite_HasPrefix.calls a0 a1 false _ A3.out).mono ?_);rintro e w' ⟨rfl,⟨nd,rfl⟩⟩;refine⟨_,rfl,?_⟩))
  go_ret
  exact dr_
def strings_TrimPrefix.f(a0:ByteArray)(a1:ByteArray):Option (ByteArray):=(stringslite_TrimPrefix.f a0 a1).bind fun t105=>(some t105)
theorem strings_TrimPrefix.calls(a0:ByteArray)(a1:ByteArray)(r:ByteArray)(w:World)(h:strings_TrimPrefix.f a0 a1=some r) :
 Calls Tryz.prog 191 #[.string a0,.string a1] w fun e w'=>e= .returned (.string r)∧eQ w w':=by
 have H:((stringslite_TrimPrefix.f a0 a1).bind fun l9=>(some l9))=some r:=h;clear h;obtain⟨l9,A3,H⟩:=bi H;try dsimp only at H
 obtain rfl:=Option.some.inj H;go_enter Tryz.func191,Tryz.ntmps191
 go_wp2_with(first|((with_reducible refine aC (f:=215) rfl ?_);refine gl_ 7 Tryz.func215 #[.string a0,.string a1] (h:= ?_);(with_reducible refine(stringslite_TrimPrefix.calls a0 a1 l9 _ A3.out).mono ?_);rintro e w' ⟨rfl,⟨nd,rfl⟩⟩;refine⟨_,rfl,?_⟩))
 go_ret
 exact dr_
def kC.f(a0:ByteArray):Option (Bool):=(strings_TrimPrefix.f a0 (⟨#[45]⟩:ByteArray)).bind fun t106=>(some (decide ((t106.size:Int)>100)))
theorem kC.calls(a0:ByteArray)(r:Bool)(w:World)(h:kC.f a0=some r) :
 Calls Tryz.prog 183 #[.string a0] w fun e w'=>e= .returned (.bool r)∧eQ w w':=by
 have H:((strings_TrimPrefix.f a0 (⟨#[45]⟩:ByteArray)).bind fun l9=>(some (decide ((l9.size:Int)>100))))=some r:=h;clear h;obtain⟨l9,A2,H⟩:=bi H;try dsimp only at H
 obtain rfl:=Option.some.inj H;go_enter Tryz.func183,Tryz.ntmps183
 go_wp2_with(first|((with_reducible refine aC (f:=191) rfl ?_);refine gl_ 4 Tryz.func191 #[.string a0,.string (⟨#[45]⟩:ByteArray)] (h:= ?_);(with_reducible refine(strings_TrimPrefix.calls a0 (⟨#[45]⟩:ByteArray) l9 _ A2.out).mono ?_);rintro e w' ⟨rfl,⟨nd,rfl⟩⟩;refine⟨_,rfl,?_⟩))
 go_ret
 exact dr_
def iI.j0:Nat→Int→Bool→Option (Int)
 |0,_,_=>none
 |k+1,x3,x15=>if x15=true then(some 10) else(if x3=0 then(some 0) else(some x3))
def iI.f(k:Nat)(a0:ByteArray):Option (Int):=(iQ.f a0).bind fun t107=>(if t107=10 then(iI.j0 k t107 true) else(if t107=0 then((kC.f a0).bind fun t108=>(iI.j0 k t107 t108)) else(iI.j0 k t107 false)))
theorem iI.calls(k:Nat)(a0:ByteArray)(r:Int)(w:World)(h:iI.f k a0=some r) :
 Calls Tryz.prog 140 #[.string a0] w fun e w'=>e= .returned (.int .i64 r)∧Below w.heap.size w w':=by
 have HB:=aA.mk (Below.refl w.heap.size w);have H:((iQ.f a0).bind fun l9=>(if l9=10 then(iI.j0 k l9 true) else(if l9=0 then((kC.f a0).bind fun o6=>(iI.j0 k l9 o6)) else(iI.j0 k l9 false))))=some r:=h;clear h;obtain⟨l9,A2,H⟩:=bi H;try dsimp only at H
 have o8:=aA.mk H;clear H;go_enter Tryz.func140,Tryz.ntmps140
 go_upto_region 2 with (first|((with_reducible refine aC (f:=73) rfl ?_);refine gM 5 Tryz.func73 (iQ.calls (w:=_) (h:=A2.out)) (h:= ?_);intro w4 hb;replace HB:=pkB HB hb;try clear hb))
 (try simp only[Act.put,List.setIfInBounds_toArray,List.set_cons_zero,List.set_cons_succ])
 go_cut [15] (fun v15 wc=>∃(kq:Nat) (o7:Bool),v15= .bool o7∧aA (iI.j0 kq l9 o7=some r)∧aA (kq≤k)∧aA (Below w.heap.size w wc))
 case first=>
  have H:=o8.out;clear o8
  by_cases c5:l9=10
  ·rw[if_pos c5] at H
   obtain⟨o5,o9⟩:=bT c5;clear c5
   (first|rw[o5]|(simp only[jM,jX];rw[o5])|skip)
   have H':=aA.mk H;clear H;go_wp2
   go_meet
   case rel=>exact⟨_,(true),aG1,H',le_,⟨pkL HB⟩⟩
  ·rw[if_neg c5] at H
   obtain⟨o5,o9⟩:=bF c5
   (first|rw[o5]|(simp only[jM,jX];rw[o5])|skip)
   by_cases c6:l9=0
   ·rw[if_pos c6] at H
    obtain⟨y8,y9⟩:=bT c6;clear c6;obtain⟨o6,A7,H⟩:=bi H;try dsimp only at H
    have H':=aA.mk H;clear H
    go_wp2_with(first|(go_at_call 183;(with_reducible refine(kC.calls a0 o6 _ A7.out).mono ?_);rintro e w' ⟨rfl,⟨nd,rfl⟩⟩))
    go_meet
    case rel=>exact⟨_,(o6),aG1,H',le_,⟨pkL HB⟩⟩
   ·rw[if_neg c6] at H
    obtain⟨y8,y9⟩:=bF c6;have H':=aA.mk H;clear H;go_wp2
    go_meet
    case rel=>exact⟨_,(false),aG1,H',le_,⟨pkL HB⟩⟩
 case rest=>
  clear o8;obtain⟨kq,o7,rfl,HA,D6,HB⟩:=hcut
  cases kq with
  |zero=>exact absurd HA.out (by simp[iI.j0])
  |succ kj2=>
   have H:=HA.out;clear HA;simp only[iI.j0] at H;refine byC (P:=o7=true) (fun c8=> ?a1) (fun c8=> ?b1)
   case' a1=>
    subst c8;rw[if_pos rfl] at H;obtain rfl:=Option.some.inj H
   case' b1=>
    replace c8:=Bool.eq_false_iff.mpr c8;subst c8;rw[if_neg (show ¬(false=true) by decide)] at H;refine byC (P:=l9=0) (fun c9=> ?a2) (fun c9=> ?b2)
    case' a2=>
     rw[if_pos c9] at H;obtain⟨C9,D5⟩:=bT c9;clear c9;obtain rfl:=Option.some.inj H
    case' b2=>
     rw[if_neg c9] at H;obtain⟨C9,D5⟩:=bF c9;obtain rfl:=Option.some.inj H
   all_goals
    go_wp2
    go_ret
    exact pkE HB
def dV.l0:Nat→List ByteArray→Int→Int→Bool→ByteArray→ByteArray→Option (Int)
 |0,_,_,_,_,_,_=>none
 |k+1,x20,x21,x22,x110000,x110001,x110002=>if x22<x21 then(if 0≤x22 then(if x22<(x20.length:Int) then((iI.f k (rdOf ByteArray.empty x20 x22)).bind fun t114=>(if t114=0 then(dV.l0 k x20 x21 (wrap64 (x22+1)) x110000 x110001 x110002) else(some t114))) else(none)) else(none)) else((iF.f x110001 (⟨#[48]⟩:ByteArray)).bind fun t115=>(if t115=true then(some 2) else(if x110001.toList=([48]:List UInt8) then(some 0) else((iF.f x110002 (⟨#[48]⟩:ByteArray)).bind fun t116=>(if t116=true then(some 2) else((iF.f x110002 x110001).bind fun t117=>(if t117=true then(some 0) else(some 2))))))))
def dV.f(k:Nat)(a0_0:Bool)(a0_1:ByteArray)(a0_2:ByteArray):Option (Int):=if a0_0=true then(if a0_1.toList=([]:List UInt8) then(if a0_2.toList=([]:List UInt8) then(some 0) else(some 3)) else(some 3)) else((some (([a0_1,a0_2]:List ByteArray):List ByteArray)).bind fun y110=>(dV.l0 k y110 (y110.length:Int) 0 a0_0 a0_1 a0_2))
theorem dV.calls(k:Nat)(y8:Bool)(o6:ByteArray)(o5:ByteArray)(r:Int)(w:World)(h:dV.f k y8 o6 o5=some r) :
 Calls Tryz.prog 66 #[.agg #[.bool y8,.string o6,.string o5]] w fun e w'=>e= .returned (.int .i64 r)∧Below w.heap.size w w':=by
 have hu36:=Tryz.underlying36;have HB:=aA.mk (Below.refl w.heap.size w);have H:(if y8=true then(if o6.toList=([]:List UInt8) then(if o5.toList=([]:List UInt8) then(some 0) else(some 3)) else(some 3)) else((some (([o6,o5]:List ByteArray):List ByteArray)).bind fun o7=>(dV.l0 k o7 (o7.length:Int) 0 y8 o6 o5)))=some r:=h;clear h
 by_cases c2:y8=true
 ·subst c2
  rw[if_pos rfl] at H;go_enter Tryz.func66,Tryz.ntmps66
  refine byC (P:=o6.toList=([]:List UInt8)) (fun c3=> ?a3) (fun c3=> ?b3)
  case' a3=>
   rw[if_pos c3] at H;obtain⟨H6,H7⟩:=bT c3;clear c3;refine byC (P:=o5.toList=([]:List UInt8)) (fun c4=> ?a4) (fun c4=> ?b4)
   case' a4=>
    rw[if_pos c4] at H;obtain⟨H8,H9⟩:=bT c4;clear c4;obtain rfl:=Option.some.inj H
   case' b4=>
    rw[if_neg c4] at H;obtain⟨H8,H9⟩:=bF c4;obtain rfl:=Option.some.inj H
  case' b3=>
   rw[if_neg c3] at H;obtain⟨H6,H7⟩:=bF c3;obtain rfl:=Option.some.inj H
  all_goals
   go_wp2_with(first|((with_reducible refine aG (N:=1) rfl ?_);refine bx_ 1 36 #[.bool true,.string o6,.string o5] (h:= ?_);intro G5 hg w5 y9 hb;have l9:=aA.mk (y9);have F8:=pkG HB hg;have I4:=F8;replace HB:=pkB HB hb;clear hb y9 hg;obtain⟨⟨O1,O3,O4⟩,O5,O6,O7⟩:=pk3 l9))
   go_ret
   exact pkE HB
 ·replace c2:=Bool.eq_false_iff.mpr c2
  subst c2;rw[if_neg (show ¬(false=true) by decide)] at H;obtain⟨o7,C9⟩:∃y_:List ByteArray,y_=(([o6,o5]:List ByteArray)):=⟨_,rfl⟩
  replace H:(dV.l0 k o7 (o7.length:Int) 0 false o6 o5)=some r:=by first|(rw[C9];with_reducible exact H)|(have H2_:=(Option.bind_some _ _).symm.trans H;rw[C9];with_reducible exact H2_)|(have H2_:=(Option.bind_some _ _).symm.trans H;with_reducible exact H2_)|with_reducible exact H|(rw[C9];exact H)|exact H
  have G6:=aA.mk C9;clear C9;have H':=aA.mk H;clear H;go_enter Tryz.func66,Tryz.ntmps66
  go_wp2_with(first|((with_reducible refine aG (N:=1) rfl ?_);refine bx_ 1 36 #[.bool false,.string o6,.string o5] (h:= ?_);intro G5 hg O8 y9 hb;have l9:=aA.mk (y9);have F8:=pkG HB hg;have I4:=F8;replace HB:=pkB HB hb;clear hb y9 hg;obtain⟨⟨I5,I7,I8⟩,I9,J3,J4⟩:=pk3 l9)|((with_reducible refine aG (N:=20) rfl ?_);refine Kd.sQ Kd.string _ 22 ?hg (N:=20) ?hd (xs:=([o6,o5]:List ByteArray)) (inner:= [.string o6,.string o5]) (ok:=fun _=>True) (okp:=fun _=>True) ?hr ?hp (fun _ hk=>hk) trivial (Below.refl _ _) (Nat.le_refl _) aFz ?_;(case hd=>rfl);(case hg=>rfl);(case hr=>first|(go_simp;done)|(go_simp;rfl));(case hp=>exact(Reps.one (show Kd.M Kd.string _ _ _ o6 [.string o6] from rfl) (Reps.one (show Kd.M Kd.string _ _ _ o5 [.string o5] from rfl) (Reps.none _ _))));intro v111 O9 D5 hb hg_ hnew_;clear hg_ hnew_;(first|rw[←G6.out] at D5|(simp only[Int.reduceToNat] at D5;rw[←G6.out] at D5));have G7:=aA.mk (Kd.gU D5 (dJ (pkL HB)));replace l9:=pkK l9 hb;replace HB:=pkB HB hb;clear hb D5;obtain⟨J5,J6,J7⟩:=Kd.fA G7.out;subst J7))
  go_loopg [22] k (fun kq v22 w'=>∃(o8:Int),v22= .int .i64 o8∧aA (dV.l0 kq o7 (o7.length:Int) o8 false o6 o5=some r)∧aA (kq≤k)∧aA (Kd.R Kd.string 22 w' w.heap.size (fun _=>True) (.slice J5 o7.length J6) o7)∧aA (w'.heap[G5]? =some (.cells #[.bool false,.string o6,.string o5] 36 (0,0)))∧aA (Below w.heap.size w w'))
  case atStart=>exact⟨(0),aG1,H',⟨Nat.le_refl _⟩,⟨by(with_reducible repeat(first|apply Kd.aQ|apply Kd.aN|apply Kd.aW));exact G7.out⟩,⟨pkW l9⟩,⟨pkL HB⟩⟩
  case round=>
   clear H' I5 I7 I8 I9 J3 J4;obtain⟨o8,rfl,HA,G8,HO_20,l9,HB⟩:=hrel
   cases gk with
   |zero=>exact absurd HA.out (by simp[dV.l0])
   |succ k1=>
    have H:=HA.out;clear HA;simp only[dV.l0] at H
    by_cases o9:o8<(o7.length:Int)
    ·rw[if_pos o9] at H
     have J8:=decide_eq_true o9;clear o9
     by_cases D9:0≤o8
     ·rw[if_pos D9] at H
      have P7:=decide_eq_true D9;clear D9
      by_cases E8:o8<(o7.length:Int)
      ·rw[if_pos E8] at H
       have P8:=decide_eq_true E8;clear E8;obtain⟨J9,G9,H⟩:=bi H;try dsimp only at H
       by_cases D6:J9=0
       ·rw[if_pos D6] at H
        obtain⟨L6,L8⟩:=bT D6;clear D6;have H':=aA.mk H;clear H;have p113:0≤(o8:Int):=of_decide_eq_true asm_;have q113:o8<(o7.length:Int):=of_decide_eq_true asm_;obtain⟨ad113,e113,hx113_0⟩:=Kd.aAf (Kd.dB HO_20.out).2.2 o8 p113 q113
        cases e113
        replace p113:=eq_true p113;replace q113:=eq_true q113
        go_wp2_with(first|((with_reducible refine aC (f:=140) rfl ?_);refine gM 27 Tryz.func140 (iI.calls (w:=_) (h:=G9.out)) (h:= ?_);intro P9 hb;replace HO_20:=aA.mk (Kd.dD (by(with_reducible repeat(first|apply Kd.aQ|apply Kd.aN|apply Kd.aW));exact HO_20.out) hb);replace l9:=pkK l9 hb;replace HB:=pkB HB hb;try clear hb))
        go_roundg k1
        case measure=>have:=G8.out;omega
        case rel=>exact⟨(wrap64 (o8+1)),aG1,H',⟨by have:=G8.out;omega⟩,⟨by(with_reducible repeat(first|apply Kd.aQ|apply Kd.aN|apply Kd.aW));exact HO_20.out⟩,⟨pkW l9⟩,⟨pkL HB⟩⟩
       ·rw[if_neg D6] at H
        obtain⟨L6,L8⟩:=bF D6;obtain rfl:=Option.some.inj H;have p113:0≤(o8:Int):=of_decide_eq_true asm_;have q113:o8<(o7.length:Int):=of_decide_eq_true asm_;obtain⟨ad113,e113,hx113_0⟩:=Kd.aAf (Kd.dB HO_20.out).2.2 o8 p113 q113
        cases e113
        replace p113:=eq_true p113;replace q113:=eq_true q113
        go_wp2_with(first|((with_reducible refine aC (f:=140) rfl ?_);refine gM 27 Tryz.func140 (iI.calls (w:=_) (h:=G9.out)) (h:= ?_);intro Q3 hb;replace HO_20:=aA.mk (Kd.dD (by(with_reducible repeat(first|apply Kd.aQ|apply Kd.aN|apply Kd.aW));exact HO_20.out) hb);replace l9:=pkK l9 hb;replace HB:=pkB HB hb;try clear hb))
        go_ret
        exact pkE HB
      ·rw[if_neg E8] at H
       exact absurd H aFz
     ·rw[if_neg D9] at H
      exact absurd H aFz
    ·rw[if_neg o9] at H
     have J8:=decide_eq_false o9;clear o9;obtain⟨L9,D7,H⟩:=bi H;try dsimp only at H
     by_cases F5:L9=true
     ·subst F5
      rw[if_pos rfl] at H;obtain rfl:=Option.some.inj H;obtain⟨⟨Q4,Q5,Q7⟩,Q8,Q9,S9⟩:=pk3 l9
      go_wp2_with(first|((with_reducible refine aC (f:=134) rfl ?_);refine gM 34 Tryz.func134 (iF.calls (w:=_) (h:=D7.out)) (h:= ?_);intro U3 hb;replace HO_20:=aA.mk (Kd.dD (by(with_reducible repeat(first|apply Kd.aQ|apply Kd.aN|apply Kd.aW));exact HO_20.out) hb);replace l9:=pkK l9 hb;replace HB:=pkB HB hb;try clear hb))
      go_ret
      exact pkE HB
     ·replace F5:=Bool.eq_false_iff.mpr F5
      subst F5;rw[if_neg (show ¬(false=true) by decide)] at H
      by_cases D8:o6.toList=([48]:List UInt8)
      ·rw[if_pos D8] at H
       obtain⟨N7,N8⟩:=bT D8;clear D8;obtain rfl:=Option.some.inj H;obtain⟨⟨U4,U5,U6⟩,U7,U8,U9⟩:=pk3 l9
       go_wp2_with(first|((with_reducible refine aC (f:=134) rfl ?_);refine gM 34 Tryz.func134 (iF.calls (w:=_) (h:=D7.out)) (h:= ?_);intro V3 hb;replace HO_20:=aA.mk (Kd.dD (by(with_reducible repeat(first|apply Kd.aQ|apply Kd.aN|apply Kd.aW));exact HO_20.out) hb);replace l9:=pkK l9 hb;replace HB:=pkB HB hb;try clear hb;obtain⟨⟨V4,V5,V6⟩,V7,V8,V9⟩:=pk3 l9))
       go_ret
       exact pkE HB
      ·rw[if_neg D8] at H
       obtain⟨N7,N8⟩:=bF D8;obtain⟨N9,F9,H⟩:=bi H;try dsimp only at H
       by_cases F6:N9=true
       ·subst F6
        rw[if_pos rfl] at H;obtain rfl:=Option.some.inj H;obtain⟨⟨X4,X5,X7⟩,X8,X9,Y0⟩:=pk3 l9
        go_wp2_with(first|((with_reducible refine aC (f:=134) rfl ?_);refine gM 34 Tryz.func134 (iF.calls (w:=_) (h:=D7.out)) (h:= ?_);intro Y4 hb;replace HO_20:=aA.mk (Kd.dD (by(with_reducible repeat(first|apply Kd.aQ|apply Kd.aN|apply Kd.aW));exact HO_20.out) hb);replace l9:=pkK l9 hb;replace HB:=pkB HB hb;try clear hb;obtain⟨⟨Y5,Y7,Y8⟩,Y9,Z7,Z8⟩:=pk3 l9)|(go_at_call 134;(with_reducible refine(iF.calls o5 (⟨#[48]⟩:ByteArray) true _ F9.out).mono ?_);rintro e Z9 ⟨rfl,hb⟩;replace HO_20:=aA.mk (Kd.dD (by(with_reducible repeat(first|apply Kd.aQ|apply Kd.aN|apply Kd.aW));exact HO_20.out) hb);replace l9:=pkK l9 hb;replace HB:=pkB HB hb;try clear hb))
        go_ret
        exact pkE HB
       ·replace F6:=Bool.eq_false_iff.mpr F6
        subst F6;rw[if_neg (show ¬(false=true) by decide)] at H;obtain⟨O0,H5,H⟩:=bi H;try dsimp only at H
        by_cases F7:O0=true
        ·subst F7
         rw[if_pos rfl] at H;obtain rfl:=Option.some.inj H;obtain⟨⟨ae,af,ag⟩,ah,ai,aj⟩:=pk3 l9
         go_wp2_with(first|((with_reducible refine aC (f:=134) rfl ?_);refine gM 34 Tryz.func134 (iF.calls (w:=_) (h:=D7.out)) (h:= ?_);intro ak hb;replace HO_20:=aA.mk (Kd.dD (by(with_reducible repeat(first|apply Kd.aQ|apply Kd.aN|apply Kd.aW));exact HO_20.out) hb);replace l9:=pkK l9 hb;replace HB:=pkB HB hb;try clear hb;obtain⟨⟨au,ax,ay⟩,az,bn,df⟩:=pk3 l9)|(go_at_call 134;(with_reducible refine(iF.calls o5 (⟨#[48]⟩:ByteArray) false _ F9.out).mono ?_);rintro e dh ⟨rfl,hb⟩;replace HO_20:=aA.mk (Kd.dD (by(with_reducible repeat(first|apply Kd.aQ|apply Kd.aN|apply Kd.aW));exact HO_20.out) hb);replace l9:=pkK l9 hb;replace HB:=pkB HB hb;try clear hb;obtain⟨⟨di,dw,eu⟩,gm,gp,gq⟩:=pk3 l9)|(go_at_call 134;(with_reducible refine(iF.calls o5 o6 true _ H5.out).mono ?_);rintro e gz ⟨rfl,hb⟩;replace HO_20:=aA.mk (Kd.dD (by(with_reducible repeat(first|apply Kd.aQ|apply Kd.aN|apply Kd.aW));exact HO_20.out) hb);replace l9:=pkK l9 hb;replace HB:=pkB HB hb;try clear hb))
         go_ret
         exact pkE HB
        ·replace F7:=Bool.eq_false_iff.mpr F7
         subst F7;rw[if_neg (show ¬(false=true) by decide)] at H;obtain rfl:=Option.some.inj H;obtain⟨⟨ig,ik,iq⟩,iw,ja,jb⟩:=pk3 l9
         go_wp2_with(first|((with_reducible refine aC (f:=134) rfl ?_);refine gM 34 Tryz.func134 (iF.calls (w:=_) (h:=D7.out)) (h:= ?_);intro jc hb;replace HO_20:=aA.mk (Kd.dD (by(with_reducible repeat(first|apply Kd.aQ|apply Kd.aN|apply Kd.aW));exact HO_20.out) hb);replace l9:=pkK l9 hb;replace HB:=pkB HB hb;try clear hb;obtain⟨⟨jd,je,jf⟩,jg,jh,ji⟩:=pk3 l9)|(go_at_call 134;(with_reducible refine(iF.calls o5 (⟨#[48]⟩:ByteArray) false _ F9.out).mono ?_);rintro e jk ⟨rfl,hb⟩;replace HO_20:=aA.mk (Kd.dD (by(with_reducible repeat(first|apply Kd.aQ|apply Kd.aN|apply Kd.aW));exact HO_20.out) hb);replace l9:=pkK l9 hb;replace HB:=pkB HB hb;try clear hb;obtain⟨⟨jl,jm,jo⟩,jq,jr,jw⟩:=pk3 l9)|(go_at_call 134;(with_reducible refine(iF.calls o5 o6 false _ H5.out).mono ?_);rintro e jy ⟨rfl,hb⟩;replace HO_20:=aA.mk (Kd.dD (by(with_reducible repeat(first|apply Kd.aQ|apply Kd.aN|apply Kd.aW));exact HO_20.out) hb);replace l9:=pkK l9 hb;replace HB:=pkB HB hb;try clear hb))
         go_ret
         exact pkE HB
def jC.f:Option (Bool×ByteArray×ByteArray):=some (false,(⟨#[49]⟩:ByteArray),(⟨#[48]⟩:ByteArray))
theorem jC.calls(r1:Bool)(r2:ByteArray)(r3:ByteArray)(w:World)(h:jC.f=some (r1,r2,r3)) :
 Calls Tryz.prog 99 #[] w fun e w'=>e= .returned (.agg #[.bool r1,.string r2,.string r3])∧Below w.heap.size w w':=by
 have hu36:=Tryz.underlying36;have HB:=aA.mk (Below.refl w.heap.size w);have H:(some (false,(⟨#[49]⟩:ByteArray),(⟨#[48]⟩:ByteArray)))=some (r1,r2,r3):=h;clear h;simp only[Option.some.injEq,Prod.mk.injEq] at H;obtain⟨rfl,rfl,rfl⟩:=H;go_enter Tryz.func99,Tryz.ntmps99
 go_wp2_with(first|((with_reducible refine aG (N:=0) rfl ?_);refine bx_ 0 36 #[.bool false,.string (⟨#[]⟩:ByteArray),.string (⟨#[]⟩:ByteArray)] (h:= ?_);intro o6 hg w1 l9 hb;have o5:=aA.mk (l9);have o7:=pkG HB hg;have o8:=o7;replace HB:=pkB HB hb;clear hb l9 hg;obtain⟨⟨o9,y8,y9⟩,C9,D5,D6⟩:=pk3 o5))
 refine bodyPost_ret (results_cell_row rfl _ _ o6 36 #[.bool false,.string (⟨#[49]⟩:ByteArray),.string (⟨#[48]⟩:ByteArray)] (0,0) _ rfl (pkS3 o5) Tryz.underlying36 rfl (by kernel_rfl)) rfl ?_;exact pkE HB
def iK.f(a0:ByteArray)(a1:Int):Option (ByteArray):=some a0
theorem iK.calls(a0:ByteArray)(a1:Int)(r:ByteArray)(w:World)(h:iK.f a0 a1=some r) :
 Calls Tryz.prog 128 #[.string a0,.int .i64 a1] w fun e w'=>e= .returned (.string r)∧eQ w w':=by
 have H:(some a0)=some r:=h;clear h;obtain rfl:=Option.some.inj H;go_enter Tryz.func128,Tryz.ntmps128
 go_wp2
 go_ret
 exact dr_
def dS.j0:Nat→ByteArray→ByteArray→Option (Bool×ByteArray×ByteArray)
 |0,_,_=>none
 |k+1,x0,x1=>(kC.f x0).bind fun t126=>(if t126=true then((jC.f).bind fun bt127=>(some (bt127.1,bt127.2.1,bt127.2.2))) else((kC.f x1).bind fun t130=>(if t130=true then((jC.f).bind fun bt131=>(some (bt131.1,bt131.2.1,bt131.2.2))) else(some (false,x0,x1)))))
def dS.f(k:Nat)(a0:ByteArray)(a1:ByteArray):Option (Bool×ByteArray×ByteArray):=(tC.f a0).bind fun bt120=>((iK.f bt120.1 bt120.2).bind fun t122=>(if t122.toList=([48]:List UInt8) then(dS.j0 k t122 a1) else((jO.f a1 t122).bind fun bt123=>((iK.f bt123.1 bt123.2).bind fun t125=>(dS.j0 k t122 t125)))))
theorem dS.calls(k:Nat)(a0:ByteArray)(a1:ByteArray)(r1:Bool)(r2:ByteArray)(r3:ByteArray)(w:World)(hG:GW w)(h:dS.f k a0 a1=some (r1,r2,r3)) :
 Calls Tryz.prog 109 #[.string a0,.string a1] w fun e w'=>e= .returned (.agg #[.bool r1,.string r2,.string r3])∧Below w.heap.size w w':=by
 have HG:=aA.mk hG;clear hG;have hu36:=Tryz.underlying36;have HB:=aA.mk (Below.refl w.heap.size w);have H:((tC.f a0).bind fun D6=>((iK.f D6.1 D6.2).bind fun o5=>(if o5.toList=([48]:List UInt8) then(dS.j0 k o5 a1) else((jO.f a1 o5).bind fun D7=>((iK.f D7.1 D7.2).bind fun o9=>(dS.j0 k o5 o9))))))=some (r1,r2,r3):=h;clear h;obtain⟨⟨D8,D9⟩,A3,H⟩:=bi H;try dsimp only at H
 obtain⟨o5,A4,H⟩:=bi H;try dsimp only at H
 have C9:=aA.mk H;clear H;go_enter Tryz.func109,Tryz.ntmps109
 go_upto_if 11 with (first|((with_reducible refine aG (N:=4) rfl ?_);refine bx_ 4 36 #[.bool false,.string (⟨#[]⟩:ByteArray),.string (⟨#[]⟩:ByteArray)] (h:= ?_);intro o6 hg w6 E8 hb;have l9:=aA.mk (E8);have F8:=pkG HB hg;have I5:=F8;replace HB:=pkB HB hb;clear hb E8 hg)|((with_reducible refine aC (f:=182) rfl ?_);refine gM 6 Tryz.func182 (tC.calls (w:=_) (h:=A3.out)) (h:= ?_);intro w7 hb;replace l9:=pkK l9 hb;replace HB:=pkB HB hb;try clear hb)|((with_reducible refine aC (f:=128) rfl ?_);refine gl_ 9 Tryz.func128 #[.string D8,.int .i64 D9] (h:= ?_);(with_reducible refine(iK.calls D8 D9 o5 _ A4.out).mono ?_);rintro e w' ⟨rfl,⟨nd,rfl⟩⟩;refine⟨_,rfl,?_⟩))
 (try simp only[Act.put,List.setIfInBounds_toArray,List.set_cons_zero,List.set_cons_succ])
 go_cut [1] (fun v1 wc=>∃(kq:Nat) (o7:ByteArray),v1= .string o7∧aA (dS.j0 kq o5 o7=some (r1,r2,r3))∧aA (kq≤k)∧aA (wc.heap[o6]? =some (.cells #[.bool false,.string (⟨#[]⟩:ByteArray),.string (⟨#[]⟩:ByteArray)] 36 (0,0)))∧aA (Below w.heap.size w wc))
 case first=>
  have H:=C9.out;clear C9
  by_cases c8:o5.toList=([48]:List UInt8)
  ·rw[if_pos c8] at H
   obtain⟨o8,F9⟩:=bT c8;clear c8
   (first|rw[o8]|(simp only[jM,jX];rw[o8])|skip)
   have H':=aA.mk H;clear H;go_wp2
   go_meet
   case rel=>exact⟨_,(a1),aG1,H',le_,⟨pkW l9⟩,⟨pkL HB⟩⟩
  ·rw[if_neg c8] at H
   obtain⟨o8,F9⟩:=bF c8
   (first|rw[o8]|(simp only[jM,jX];rw[o8])|skip)
   obtain⟨⟨F5,F6⟩,A9,H⟩:=bi H;try dsimp only at H
   obtain⟨o9,G5,H⟩:=bi H;try dsimp only at H
   have H':=aA.mk H;clear H
   go_wp2_with(first|((with_reducible refine aC (f:=20) rfl ?_);refine gM 14 Tryz.func20 (jO.calls (hG:=HG.out.below (pkL HB)) (h:=A9.out)) (h:= ?_);intro I7 hb;replace l9:=pkK l9 hb;replace HB:=pkB HB hb;try clear hb)|((with_reducible refine aC (f:=128) rfl ?_);refine gl_ 17 Tryz.func128 #[.string F5,.int .i64 F6] (h:= ?_);(with_reducible refine(iK.calls F5 F6 o9 _ G5.out).mono ?_);rintro e w' ⟨rfl,⟨nd,rfl⟩⟩;refine⟨_,rfl,?_⟩))
   go_meet
   case rel=>exact⟨_,(o9),aG1,H',le_,⟨pkW l9⟩,⟨pkL HB⟩⟩
 case rest=>
  clear C9;obtain⟨kq,o7,rfl,HA,I8,l9,HB⟩:=hcut
  cases kq with
  |zero=>exact absurd HA.out (by simp[dS.j0])
  |succ kj4=>
   have H:=HA.out;clear HA;simp only[dS.j0] at H;obtain⟨G6,D5,H⟩:=bi H;try dsimp only at H
   by_cases y8:G6=true
   ·subst y8
    rw[if_pos rfl] at H;obtain⟨⟨G7,G8,G9⟩,H5,H⟩:=bi H;try dsimp only at H
    simp only[Option.some.injEq,Prod.mk.injEq] at H;obtain⟨rfl,rfl,rfl⟩:=H
    go_wp2_with(first|((with_reducible refine aC (f:=183) rfl ?_);refine gl_ 19 Tryz.func183 #[.string o5] (h:= ?_);(with_reducible refine(kC.calls o5 true _ D5.out).mono ?_);rintro e w' ⟨rfl,⟨nd,rfl⟩⟩;refine⟨_,rfl,?_⟩;(try(rw[jS wc];generalize hq_:World.drewN wc _=wc;have n0_:aA (wc.heap[o6]? =some (.cells #[.bool false,.string (⟨#[]⟩:ByteArray),.string (⟨#[]⟩:ByteArray)] 36 (0,0))):=⟨by rw[←hq_];exact(pkW l9)⟩;have n1_:aA (Below w.heap.size w wc):=⟨by rw[←hq_];exact(pkL HB)⟩;clear l9 HB hq_;have l9:=n0_;have HB:=n1_;clear n0_ n1_)))|((with_reducible refine aC (f:=99) rfl ?_);refine gM 24 Tryz.func99 (jC.calls (w:=_) (h:=H5.out)) (h:= ?_);intro I9 hb;replace l9:=pkK l9 hb;replace HB:=pkB HB hb;try clear hb;obtain⟨⟨J3,J4,J5⟩,J6,J7,J8⟩:=pk3 l9))
    refine bodyPost_ret (results_cell_row rfl _ _ o6 36 #[.bool G7,.string G8,.string G9] (0,0) _ rfl (pkS3 l9) Tryz.underlying36 rfl (by kernel_rfl)) rfl ?_;exact pkE HB
   ·replace y8:=Bool.eq_false_iff.mpr y8
    subst y8;rw[if_neg (show ¬(false=true) by decide)] at H;obtain⟨H6,F7,H⟩:=bi H;try dsimp only at H
    by_cases y9:H6=true
    ·subst y9
     rw[if_pos rfl] at H;obtain⟨⟨H7,H8,H9⟩,I4,H⟩:=bi H;try dsimp only at H
     simp only[Option.some.injEq,Prod.mk.injEq] at H;obtain⟨rfl,rfl,rfl⟩:=H
     go_wp2_with(first|((with_reducible refine aC (f:=183) rfl ?_);refine gl_ 19 Tryz.func183 #[.string o5] (h:= ?_);(with_reducible refine(kC.calls o5 false _ D5.out).mono ?_);rintro e w' ⟨rfl,⟨nd,rfl⟩⟩;refine⟨_,rfl,?_⟩;(try(rw[jS wc];generalize hq_:World.drewN wc _=wc;have n0_:aA (wc.heap[o6]? =some (.cells #[.bool false,.string (⟨#[]⟩:ByteArray),.string (⟨#[]⟩:ByteArray)] 36 (0,0))):=⟨by rw[←hq_];exact(pkW l9)⟩;have n1_:aA (Below w.heap.size w wc):=⟨by rw[←hq_];exact(pkL HB)⟩;clear l9 HB hq_;have l9:=n0_;have HB:=n1_;clear n0_ n1_)))|(go_at_call 183;(with_reducible refine(kC.calls o7 true _ F7.out).mono ?_);rintro e w' ⟨rfl,⟨nd,rfl⟩⟩;(try(rw[jS wc];generalize hq_:World.drewN wc _=wc;have n0_:aA (wc.heap[o6]? =some (.cells #[.bool false,.string (⟨#[]⟩:ByteArray),.string (⟨#[]⟩:ByteArray)] 36 (0,0))):=⟨by rw[←hq_];exact(pkW l9)⟩;have n1_:aA (Below w.heap.size w wc):=⟨by rw[←hq_];exact(pkL HB)⟩;clear l9 HB hq_;have l9:=n0_;have HB:=n1_;clear n0_ n1_)))|((with_reducible refine aC (f:=99) rfl ?_);refine gM 24 Tryz.func99 (jC.calls (w:=_) (h:=I4.out)) (h:= ?_);intro J9 hb;replace l9:=pkK l9 hb;replace HB:=pkB HB hb;try clear hb;obtain⟨⟨L6,L8,L9⟩,N7,N8,N9⟩:=pk3 l9))
     refine bodyPost_ret (results_cell_row rfl _ _ o6 36 #[.bool H7,.string H8,.string H9] (0,0) _ rfl (pkS3 l9) Tryz.underlying36 rfl (by kernel_rfl)) rfl ?_;exact pkE HB
    ·replace y9:=Bool.eq_false_iff.mpr y9
     subst y9;rw[if_neg (show ¬(false=true) by decide)] at H;simp only[Option.some.injEq,Prod.mk.injEq] at H;obtain⟨rfl,rfl,rfl⟩:=H
     go_wp2_with(first|((with_reducible refine aC (f:=183) rfl ?_);refine gl_ 19 Tryz.func183 #[.string o5] (h:= ?_);(with_reducible refine(kC.calls o5 false _ D5.out).mono ?_);rintro e w' ⟨rfl,⟨nd,rfl⟩⟩;refine⟨_,rfl,?_⟩;(try(rw[jS wc];generalize hq_:World.drewN wc _=wc;have n0_:aA (wc.heap[o6]? =some (.cells #[.bool false,.string (⟨#[]⟩:ByteArray),.string (⟨#[]⟩:ByteArray)] 36 (0,0))):=⟨by rw[←hq_];exact(pkW l9)⟩;have n1_:aA (Below w.heap.size w wc):=⟨by rw[←hq_];exact(pkL HB)⟩;clear l9 HB hq_;have l9:=n0_;have HB:=n1_;clear n0_ n1_)))|(go_at_call 183;(with_reducible refine(kC.calls o7 false _ F7.out).mono ?_);rintro e w' ⟨rfl,⟨nd,rfl⟩⟩;(try(rw[jS wc];generalize hq_:World.drewN wc _=wc;have n0_:aA (wc.heap[o6]? =some (.cells #[.bool false,.string (⟨#[]⟩:ByteArray),.string (⟨#[]⟩:ByteArray)] 36 (0,0))):=⟨by rw[←hq_];exact(pkW l9)⟩;have n1_:aA (Below w.heap.size w wc):=⟨by rw[←hq_];exact(pkL HB)⟩;clear l9 HB hq_;have l9:=n0_;have HB:=n1_;clear n0_ n1_));obtain⟨⟨O0,O1,O3⟩,O4,O5,O6⟩:=pk3 l9))
     refine bodyPost_ret (results_cell_row rfl _ _ o6 36 #[.bool false,.string o5,.string o7] (0,0) _ rfl (pkS3 l9) Tryz.underlying36 rfl (by kernel_rfl)) rfl ?_;exact pkE HB
end Go.Proofs.YtignanmmgaldeaaGreatDoor.PCongI
end
section
set_option linter.unusedVariables false
set_option linter.unusedSimpArgs false
set_option maxHeartbeats 8000000
set_option maxRecDepth 100000
namespace Go.Proofs.YtignanmmgaldeaaGreatDoor.PCongI
open Go.RowKit Go.Proofs.YtignanmmgaldeaaGreatDoorW.PrintWords Go.Proofs.YtignanmmgaldeaaGreatDoorW.PrintLast Go.Proofs.YtignanmmgaldeaaGreatDoorW.PrintMore
attribute [local go_sem] dQ dR eH eP
def jP.f(k:Nat)(a0_0:Bool)(a0_1:ByteArray)(a0_2:ByteArray)(a1_0:Bool)(a1_1:ByteArray)(a1_2:ByteArray):Option (Int):=(dV.f k a0_0 a0_1 a0_2).bind fun t156=>(if t156=0 then((dV.f k a1_0 a1_1 a1_2).bind fun t157=>(some t157)) else(some t156))
theorem jP.calls(k:Nat)(o7:Bool)(o8:ByteArray)(o9:ByteArray)(y8:Bool)(y9:ByteArray)(C9:ByteArray)(r:Int)(w:World)(h:jP.f k o7 o8 o9 y8 y9 C9=some r) :
 Calls Tryz.prog 106 #[.agg #[.bool o7,.string o8,.string o9],.agg #[.bool y8,.string y9,.string C9]] w fun e w'=>e= .returned (.int .i64 r)∧Below w.heap.size w w':=by
 have hu36:=Tryz.underlying36;have HB:=aA.mk (Below.refl w.heap.size w);have H:((dV.f k o7 o8 o9).bind fun D5=>(if D5=0 then((dV.f k y8 y9 C9).bind fun D6=>(some D6)) else(some D5)))=some r:=h;clear h;obtain⟨D5,A3,H⟩:=bi H;try dsimp only at H
 go_enter Tryz.func106,Tryz.ntmps106
 refine byC (P:=D5=0) (fun c4=> ?a1) (fun c4=> ?b1)
 case' a1=>
  rw[if_pos c4] at H;obtain⟨D7,D8⟩:=bT c4;clear c4;obtain⟨D6,A5,H⟩:=bi H;try dsimp only at H
  obtain rfl:=Option.some.inj H
 case' b1=>
  rw[if_neg c4] at H;obtain⟨D7,D8⟩:=bF c4;obtain rfl:=Option.some.inj H
 all_goals
  go_wp2_with(first|((with_reducible refine aG (N:=2) rfl ?_);refine bx_ 2 36 #[.bool o7,.string o8,.string o9] (h:= ?_);intro F7 hg w6 o5 hb;have l9:=aA.mk (o5);have D9:=pkG HB hg;have F8:=D9;replace HB:=pkB HB hb;clear hb o5 hg)|((with_reducible refine aG (N:=3) rfl ?_);refine bx_ 3 36 #[.bool y8,.string y9,.string C9] (h:= ?_);intro F9 hg w7 o5 hb;have o6:=aA.mk (o5);have E8:=pkG HB hg;have G5:=E8;obtain⟨F5,F6,_,_⟩:=pkQ l9 hg;replace l9:=pkK l9 hb;replace HB:=pkB HB hb;clear hb o5 hg;have G6:=F5.out;have G7:=F6.out;obtain⟨⟨G8,G9,H5⟩,H6,H7,H8⟩:=pk3 l9)|((with_reducible refine aC (f:=66) rfl ?_);refine gM 7 Tryz.func66 (dV.calls (w:=_) (h:=A3.out)) (h:= ?_);intro H9 hb;replace l9:=pkK l9 hb;replace o6:=pkK o6 hb;replace HB:=pkB HB hb;try clear hb;obtain⟨⟨I4,I5,I7⟩,I8,I9,J3⟩:=pk3 o6)|((with_reducible refine aC (f:=66) rfl ?_);refine gM 12 Tryz.func66 (dV.calls (w:=_) (h:=A5.out)) (h:= ?_);intro J4 hb;replace l9:=pkK l9 hb;replace o6:=pkK o6 hb;replace HB:=pkB HB hb;try clear hb))
  go_ret
  exact pkE HB
def jQ.f(a0:ByteArray)(a1:ByteArray):Option (ByteArray):=(qK.f a0 a1).bind fun bt158=>((iK.f bt158.1 bt158.2).bind fun t160=>(some t160))
theorem jQ.calls(a0:ByteArray)(a1:ByteArray)(r:ByteArray)(w:World)(hG:GW w)(h:jQ.f a0 a1=some r) :
 Calls Tryz.prog 111 #[.string a0,.string a1] w fun e w'=>e= .returned (.string r)∧Below w.heap.size w w':=by
 have HG:=aA.mk hG;clear hG;have HB:=aA.mk (Below.refl w.heap.size w);have H:((qK.f a0 a1).bind fun o5=>((iK.f o5.1 o5.2).bind fun l9=>(some l9)))=some r:=h;clear h;obtain⟨⟨o6,o7⟩,A3,H⟩:=bi H;try dsimp only at H
 obtain⟨l9,A4,H⟩:=bi H;try dsimp only at H
 obtain rfl:=Option.some.inj H;go_enter Tryz.func111,Tryz.ntmps111
 go_wp2_with(first|((with_reducible refine aC (f:=24) rfl ?_);refine gM 7 Tryz.func24 (qK.calls (hG:=HG.out.below (pkL HB)) (h:=A3.out)) (h:= ?_);intro w5 hb;replace HB:=pkB HB hb;try clear hb)|((with_reducible refine aC (f:=128) rfl ?_);refine gl_ 10 Tryz.func128 #[.string o6,.int .i64 o7] (h:= ?_);(with_reducible refine(iK.calls o6 o7 l9 _ A4.out).mono ?_);rintro e w' ⟨rfl,⟨nd,rfl⟩⟩;refine⟨_,rfl,?_⟩))
 go_ret
 exact pkE HB
def iG.f(a0:ByteArray)(a1:ByteArray):Option (Bool):=if a0.toList=([48]:List UInt8) then(some (a1.toList==([48]:List UInt8))) else((jO.f a1 a0).bind fun bt161=>((iK.f bt161.1 bt161.2).bind fun t163=>(some (t163.toList==([48]:List UInt8)))))
theorem iG.calls(a0:ByteArray)(a1:ByteArray)(r:Bool)(w:World)(hG:GW w)(h:iG.f a0 a1=some r) :
 Calls Tryz.prog 177 #[.string a0,.string a1] w fun e w'=>e= .returned (.bool r)∧Below w.heap.size w w':=by
 have HG:=aA.mk hG;clear hG;have HB:=aA.mk (Below.refl w.heap.size w);have H:(if a0.toList=([48]:List UInt8) then(some (a1.toList==([48]:List UInt8))) else((jO.f a1 a0).bind fun o5=>((iK.f o5.1 o5.2).bind fun l9=>(some (l9.toList==([48]:List UInt8))))))=some r:=h;clear h;go_enter Tryz.func177,Tryz.ntmps177
 refine byC (P:=a0.toList=([48]:List UInt8)) (fun c3=> ?a2) (fun c3=> ?b2)
 case' a2=>
  rw[if_pos c3] at H;obtain⟨o8,o9⟩:=bT c3;clear c3;obtain rfl:=Option.some.inj H
 case' b2=>
  rw[if_neg c3] at H;obtain⟨o8,o9⟩:=bF c3;obtain⟨⟨o6,o7⟩,A4,H⟩:=bi H;try dsimp only at H
  obtain⟨l9,A5,H⟩:=bi H;try dsimp only at H
  obtain rfl:=Option.some.inj H
 all_goals
  go_wp2_with(first|((with_reducible refine aC (f:=20) rfl ?_);refine gM 11 Tryz.func20 (jO.calls (hG:=HG.out.below (pkL HB)) (h:=A4.out)) (h:= ?_);intro w6 hb;replace HB:=pkB HB hb;try clear hb)|((with_reducible refine aC (f:=128) rfl ?_);refine gl_ 14 Tryz.func128 #[.string o6,.int .i64 o7] (h:= ?_);(with_reducible refine(iK.calls o6 o7 l9 _ A5.out).mono ?_);rintro e w' ⟨rfl,⟨nd,rfl⟩⟩;refine⟨_,rfl,?_⟩))
  go_ret
  exact pkE HB
end Go.Proofs.YtignanmmgaldeaaGreatDoor.PCongI
end
section
set_option linter.unusedVariables false
set_option linter.unusedSimpArgs false
set_option maxHeartbeats 8000000
set_option maxRecDepth 100000
namespace Go.Proofs.YtignanmmgaldeaaGreatDoor.PCongI
open Go.RowKit Go.Proofs.YtignanmmgaldeaaGreatDoorW.PrintWords Go.Proofs.YtignanmmgaldeaaGreatDoorW.PrintLast Go.Proofs.YtignanmmgaldeaaGreatDoorW.PrintMore
attribute [local go_sem] dQ dR eH eP
def dI.j0:Nat→Bool→Bool→ByteArray→ByteArray→Bool→ByteArray→ByteArray→Option (Bool)
 |0,_,_,_,_,_,_,_=>none
 |k+1,x10,x165000,x165001,x165002,x166000,x166001,x166002=>if x10=true then(some x165000) else((iG.f x166001 x165001).bind fun t166=>(if t166=true then((jQ.f x165002 x166002).bind fun t167=>((iG.f x166001 t167).bind fun t168=>(some t168))) else(some false)))
def dI.f(k:Nat)(a0_0:Bool)(a0_1:ByteArray)(a0_2:ByteArray)(a1_0:Bool)(a1_1:ByteArray)(a1_2:ByteArray):Option (Bool):=if a0_0=true then(dI.j0 k true a0_0 a0_1 a0_2 a1_0 a1_1 a1_2) else(dI.j0 k a1_0 a0_0 a0_1 a0_2 a1_0 a1_1 a1_2)
def dI.T3:Bool×List (List Nat×List Nat):=(true,[([],[]),([0],[0]),([],[]),([2],[2]),([1,3],[1,3]),([4,4],[4]),([5],[5]),([6,5],[5,6]),([5],[5]),([8,5],[5,8]),([5],[5]),([10,5],[5,10]),([9,11,5,5],[5,9,11]),([7,12,12,5],[5,7,12]),([5,13],[5,13]),([14,13,0,1,2,3,4,5,6,7,8,9,10,11,12,13,14],[14])])
def dI.B3:List Nat:= [0,1,0,4,15,31,63,127,63,319,63,1087,3903,8191,16383,32767]
theorem dI.tab3:rtab .any (opsOf Tryz.f107 3)=dI.T3:=by kernel_rfl
theorem dI.bits3:kX dI.T3.2 dI.B3=true:=by kernel_rfl
theorem dI.calls(k:Nat)(o6:Bool)(o8:ByteArray)(o9:ByteArray)(o7:Bool)(y8:ByteArray)(y9:ByteArray)(r:Bool)(w:World)(hG:GW w)(h:dI.f k o6 o8 o9 o7 y8 y9=some r) :
 Calls Tryz.prog 107 #[.agg #[.bool o6,.string o8,.string o9],.agg #[.bool o7,.string y8,.string y9]] w fun e w'=>e= .returned (.bool r)∧Below w.heap.size w w':=by
 have HG:=aA.mk hG;clear hG;have hu36:=Tryz.underlying36;have HB:=aA.mk (Below.refl w.heap.size w);have H:(if o6=true then(dI.j0 k true o6 o8 o9 o7 y8 y9) else(dI.j0 k o7 o6 o8 o9 o7 y8 y9))=some r:=h;clear h;have E8:=aA.mk H;clear H;go_enter Tryz.func107,Tryz.ntmps107
 go_upto_region 1 with (first|((with_reducible refine aG (N:=2) rfl ?_);refine bx_ 2 36 #[.bool o6,.string o8,.string o9] (h:= ?_);intro C9 hg w4 D6 hb;have l9:=aA.mk (D6);have F8:=pkG HB hg;have G8:=F8;replace HB:=pkB HB hb;clear hb D6 hg)|((with_reducible refine aG (N:=3) rfl ?_);refine bx_ 3 36 #[.bool o7,.string y8,.string y9] (h:= ?_);intro D5 hg w5 D6 hb;have o5:=aA.mk (D6);have F9:=pkG HB hg;have G9:=F9;obtain⟨F5,F6,_,_⟩:=pkQ l9 hg;replace l9:=pkK l9 hb;replace HB:=pkB HB hb;clear hb D6 hg))
 (try simp only[Act.put,List.setIfInBounds_toArray,List.set_cons_zero,List.set_cons_succ])
 go_cut [10] (fun v10 wc=>∃(kq:Nat) (D7:Bool),v10= .bool D7∧aA (dI.j0 kq D7 o6 o8 o9 o7 y8 y9=some r)∧aA (kq≤k)∧aA (wc.heap[C9]? =some (.cells #[.bool o6,.string o8,.string o9] 36 (0,0)))∧aA (wc.heap[D5]? =some (.cells #[.bool o7,.string y8,.string y9] 36 (0,0)))∧aA (Below w.heap.size w wc))
 case first=>
  have H:=E8.out;clear E8
  by_cases c6:o6=true
  ·subst c6
   rw[if_pos rfl] at H;have H':=aA.mk H;clear H;have H5:=F5.out;have H6:=F6.out;obtain⟨⟨H7,H8,H9⟩,I4,I5,I7⟩:=pk3 l9;go_wp2
   go_meet
   case rel=>exact⟨_,(true),aG1,H',le_,⟨pkW l9⟩,⟨pkW o5⟩,⟨pkL HB⟩⟩
  ·replace c6:=Bool.eq_false_iff.mpr c6
   subst c6;rw[if_neg (show ¬(false=true) by decide)] at H;have H':=aA.mk H;clear H;have I8:=F5.out;have I9:=F6.out;obtain⟨⟨J3,J4,J5⟩,J6,J7,J8⟩:=pk3 l9;obtain⟨⟨J9,L6,L8⟩,L9,N7,N8⟩:=pk3 o5;go_wp2
   go_meet
   case rel=>exact⟨_,(o7),aG1,H',le_,⟨pkW l9⟩,⟨pkW o5⟩,⟨pkL HB⟩⟩
 case rest=>
  clear E8;obtain⟨kq,D7,rfl,HA,N9,l9,o5,HB⟩:=hcut
  cases kq with
  |zero=>exact absurd HA.out (by simp[dI.j0])
  |succ kj2=>
   have H:=HA.out;clear HA;simp only[dI.j0] at H
   by_cases D8:D7=true
   ·subst D8
    rw[if_pos rfl] at H;obtain rfl:=Option.some.inj H;have O0:=F5.out;have O1:=F6.out;obtain⟨⟨O3,O4,O5⟩,O6,O7,O8⟩:=pk3 l9;go_wp2
    go_ret
    exact pkE HB
   ·replace D8:=Bool.eq_false_iff.mpr D8
    subst D8;rw[if_neg (show ¬(false=true) by decide)] at H;obtain⟨G5,F7,H⟩:=bi H;try dsimp only at H
    by_cases D9:G5=true
    ·subst D9
     rw[if_pos rfl] at H;obtain⟨O9,G6,H⟩:=bi H;try dsimp only at H
     obtain⟨P7,G7,H⟩:=bi H;try dsimp only at H
     obtain rfl:=Option.some.inj H
     try go_wp2
     replace l9:=aA.mk (aK l9.out);replace o5:=aA.mk (aK o5.out);replace HB:=aA.mk (aJ HB.out)
     refine kF (n:=16) (S:=fun w'=>w'.cell? ⟨D5,0,none⟩=some (.bool o7)∧w'.cell? ⟨D5,1,none⟩=some (.string y8)∧w'.cell? ⟨D5,2,none⟩=some (.string y9)∧w'.cell? ⟨C9,0,none⟩=some (.bool o6)∧w'.cell? ⟨C9,1,none⟩=some (.string o8)∧w'.cell? ⟨C9,2,none⟩=some (.string o9)) (ds:= []) #[false,false,false,false,false,false,false,false,false,false,false,false,false,false,false,false] (by kernel_rfl) rfl rfl (pc3 o5 (pcL l9)) (fun hHeld=> ?_);refine jZ dI.tab3 dI.bits3 (fun HT_ HW_=> ?_)
     generalize wc.drew=P8 at l9 o5 HB hHeld ⊢;refine pr_ 0 13 (h:= ?_);refine pr_ 2 15 (h:= ?_);refine tk_ 1 14 hHeld (hy:=hy6) (h:= ?_);refine tk_ 3 16 hHeld (hy:=hy6) (h:= ?_);refine on_ 4 17 (h:=fun K hK=> ?_);refine gR Tryz.func177 (iG.calls (hG:=HG.out.below (pkL HB)) (h:=F7.out)) (h:= ?_);intro P9 hb;replace l9:=pkK l9 hb;replace o5:=pkK o5 hb;replace HB:=pkB HB hb
     clear hb;refine hK.out _ _ (pc3 o5 (pcL l9)) (fun hHeld=> ?_);clear hK K;refine nm_ (h:= ?_);refine pr_ 5 18 (h:= ?_);refine pr_ 6 19 (h:= ?_);refine pr_ 8 21 (h:= ?_);refine pr_ 10 23 (h:= ?_);refine tk_ 7 20 hHeld (hy:=hy6) (h:= ?_);refine tk_ 9 22 hHeld (hy:=hy6) (h:= ?_);refine tk_ 11 24 hHeld (hy:=hy6) (h:= ?_);refine on_ 12 25 (h:=fun K hK=> ?_);refine gR Tryz.func111 (jQ.calls (hG:=HG.out.below (pkL HB)) (h:=G6.out)) (h:= ?_);intro Q3 hb;replace l9:=pkK l9 hb;replace o5:=pkK o5 hb;replace HB:=pkB HB hb
     clear hb;refine hK.out _ _ (pc3 o5 (pcL l9)) (fun hHeld=> ?_);clear hK K;refine nm_ (h:= ?_);refine on_ 13 26 (h:=fun K hK=> ?_);refine gR Tryz.func177 (iG.calls (hG:=HG.out.below (pkL HB)) (h:=G7.out)) (h:= ?_);intro Q4 hb;replace l9:=pkK l9 hb;replace o5:=pkK o5 hb;replace HB:=pkB HB hb
     clear hb;refine hK.out _ _ (pc3 o5 (pcL l9)) (fun hHeld=> ?_);clear hK K;refine nm_ (h:= ?_);refine pr_ 14 27 (h:= ?_);refine pr_ 15 4 (h:= ?_);refine kY (lK HT_.out (by kernel_rfl)) ?_
     try go_wp2
     go_ret
     exact pkE HB
    ·replace D9:=Bool.eq_false_iff.mpr D9
     subst D9;rw[if_neg (show ¬(false=true) by decide)] at H;obtain rfl:=Option.some.inj H
     try go_wp2
     replace l9:=aA.mk (aK l9.out);replace o5:=aA.mk (aK o5.out);replace HB:=aA.mk (aJ HB.out)
     refine kF (n:=16) (S:=fun w'=>w'.cell? ⟨D5,0,none⟩=some (.bool o7)∧w'.cell? ⟨D5,1,none⟩=some (.string y8)∧w'.cell? ⟨D5,2,none⟩=some (.string y9)∧w'.cell? ⟨C9,0,none⟩=some (.bool o6)∧w'.cell? ⟨C9,1,none⟩=some (.string o8)∧w'.cell? ⟨C9,2,none⟩=some (.string o9)) (ds:= []) #[false,false,false,false,false,false,false,false,false,false,false,false,false,false,false,false] (by kernel_rfl) rfl rfl (pc3 o5 (pcL l9)) (fun hHeld=> ?_);refine jZ dI.tab3 dI.bits3 (fun HT_ HW_=> ?_)
     generalize wc.drew=Q5 at l9 o5 HB hHeld ⊢;refine pr_ 0 13 (h:= ?_);refine pr_ 2 15 (h:= ?_);refine tk_ 1 14 hHeld (hy:=hy6) (h:= ?_);refine tk_ 3 16 hHeld (hy:=hy6) (h:= ?_);refine on_ 4 17 (h:=fun K hK=> ?_);refine gR Tryz.func177 (iG.calls (hG:=HG.out.below (pkL HB)) (h:=F7.out)) (h:= ?_);intro Q7 hb;replace l9:=pkK l9 hb;replace o5:=pkK o5 hb;replace HB:=pkB HB hb
     clear hb;refine hK.out _ _ (pc3 o5 (pcL l9)) (fun hHeld=> ?_);clear hK K;refine nm_ (h:= ?_);refine pr_ 5 18 (h:= ?_);refine oW (i:=6) (N:=some 19) (v:=undef) (a':= ?_) #[true,true,true,true,true,true,true,false,false,false,false,false,false,false,false,false] rfl rfl (nK HT_.out (by kernel_rfl)) (fun _ _ _ h=>h) (Or.inr ⟨by rfl,rfl⟩) ?_ ?_
     rotate_left
     ·simp only[Act.put,List.setIfInBounds_toArray,List.set_cons_zero,List.set_cons_succ,jM,jX]
      rfl
     refine oW (i:=7) (N:=some 20) (v:=undef) (a':= ?_) #[true,true,true,true,true,true,true,true,false,false,false,false,false,false,false,false] rfl rfl (nK HT_.out (by kernel_rfl)) (fun _ _ _ h=>h) (Or.inr ⟨by rfl,rfl⟩) ?_ ?_
     rotate_left
     ·simp only[Act.put,List.setIfInBounds_toArray,List.set_cons_zero,List.set_cons_succ,jM,jX]
      rfl
     refine oW (i:=8) (N:=some 21) (v:=undef) (a':= ?_) #[true,true,true,true,true,true,true,true,true,false,false,false,false,false,false,false] rfl rfl (nK HT_.out (by kernel_rfl)) (fun _ _ _ h=>h) (Or.inr ⟨by rfl,rfl⟩) ?_ ?_
     rotate_left
     ·simp only[Act.put,List.setIfInBounds_toArray,List.set_cons_zero,List.set_cons_succ,jM,jX]
      rfl
     refine oW (i:=9) (N:=some 22) (v:=undef) (a':= ?_) #[true,true,true,true,true,true,true,true,true,true,false,false,false,false,false,false] rfl rfl (nK HT_.out (by kernel_rfl)) (fun _ _ _ h=>h) (Or.inr ⟨by rfl,rfl⟩) ?_ ?_
     rotate_left
     ·simp only[Act.put,List.setIfInBounds_toArray,List.set_cons_zero,List.set_cons_succ,jM,jX]
      rfl
     refine oW (i:=10) (N:=some 23) (v:=undef) (a':= ?_) #[true,true,true,true,true,true,true,true,true,true,true,false,false,false,false,false] rfl rfl (nK HT_.out (by kernel_rfl)) (fun _ _ _ h=>h) (Or.inr ⟨by rfl,rfl⟩) ?_ ?_
     rotate_left
     ·simp only[Act.put,List.setIfInBounds_toArray,List.set_cons_zero,List.set_cons_succ,jM,jX]
      rfl
     refine oW (i:=11) (N:=some 24) (v:=undef) (a':= ?_) #[true,true,true,true,true,true,true,true,true,true,true,true,false,false,false,false] rfl rfl (nK HT_.out (by kernel_rfl)) (fun _ _ _ h=>h) (Or.inr ⟨by rfl,rfl⟩) ?_ ?_
     rotate_left
     ·simp only[Act.put,List.setIfInBounds_toArray,List.set_cons_zero,List.set_cons_succ,jM,jX]
      rfl
     refine oW (i:=12) (N:=some 25) (v:=undef) (a':= ?_) #[true,true,true,true,true,true,true,true,true,true,true,true,true,false,false,false] rfl rfl (nK HT_.out (by kernel_rfl)) (fun _ _ _ h=>h) (Or.inr ⟨by rfl,rfl⟩) ?_ ?_
     rotate_left
     ·simp only[Act.put,List.setIfInBounds_toArray,List.set_cons_zero,List.set_cons_succ,jM,jX]
      rfl
     refine oW (i:=13) (N:=some 26) (v:=undef) (a':= ?_) #[true,true,true,true,true,true,true,true,true,true,true,true,true,true,false,false] rfl rfl (nK HT_.out (by kernel_rfl)) (fun _ _ _ h=>h) (Or.inr ⟨by rfl,rfl⟩) ?_ ?_
     rotate_left
     ·simp only[Act.put,List.setIfInBounds_toArray,List.set_cons_zero,List.set_cons_succ,jM,jX]
      rfl
     refine pr_ 14 27 (h:= ?_);refine pr_ 15 4 (h:= ?_);refine kY (lK HT_.out (by kernel_rfl)) ?_
     try go_wp2
     go_ret
     exact pkE HB
def fU.f(a0:ByteArray)(a1:ByteArray):Option (ByteArray):=(wG.f a0 a1).bind fun bt173=>((iK.f bt173.1 bt173.2).bind fun t175=>(some t175))
theorem fU.calls(a0:ByteArray)(a1:ByteArray)(r:ByteArray)(w:World)(hG:GW w)(h:fU.f a0 a1=some r) :
 Calls Tryz.prog 110 #[.string a0,.string a1] w fun e w'=>e= .returned (.string r)∧Below w.heap.size w w':=by
 have HG:=aA.mk hG;clear hG;have HB:=aA.mk (Below.refl w.heap.size w);have H:((wG.f a0 a1).bind fun o5=>((iK.f o5.1 o5.2).bind fun l9=>(some l9)))=some r:=h;clear h;obtain⟨⟨o6,o7⟩,A3,H⟩:=bi H;try dsimp only at H
 obtain⟨l9,A4,H⟩:=bi H;try dsimp only at H
 obtain rfl:=Option.some.inj H;go_enter Tryz.func110,Tryz.ntmps110
 go_wp2_with(first|((with_reducible refine aC (f:=28) rfl ?_);refine gM 7 Tryz.func28 (wG.calls (hG:=HG.out.below (pkL HB)) (h:=A3.out)) (h:= ?_);intro w5 hb;replace HB:=pkB HB hb;try clear hb)|((with_reducible refine aC (f:=128) rfl ?_);refine gl_ 10 Tryz.func128 #[.string o6,.int .i64 o7] (h:= ?_);(with_reducible refine(iK.calls o6 o7 l9 _ A4.out).mono ?_);rintro e w' ⟨rfl,⟨nd,rfl⟩⟩;refine⟨_,rfl,?_⟩))
 go_ret
 exact pkE HB
end Go.Proofs.YtignanmmgaldeaaGreatDoor.PCongI
end
section
set_option linter.unusedVariables false
set_option linter.unusedSimpArgs false
set_option maxHeartbeats 8000000
set_option maxRecDepth 100000
namespace Go.Proofs.YtignanmmgaldeaaGreatDoor.PCongI
open Go.RowKit Go.Proofs.YtignanmmgaldeaaGreatDoorW.PrintWords Go.Proofs.YtignanmmgaldeaaGreatDoorW.PrintLast Go.Proofs.YtignanmmgaldeaaGreatDoorW.PrintMore
attribute [local go_sem] dQ dR eH eP
def kL.f(k:Nat)(a0_0:Bool)(a0_1:ByteArray)(a0_2:ByteArray)(a1_0:Bool)(a1_1:ByteArray)(a1_2:ByteArray):Option (Bool×ByteArray×ByteArray×Int):=(jP.f k a0_0 a0_1 a0_2 a1_0 a1_1 a1_2).bind fun t179=>(if t179=0 then(if a0_0=true then(some (a1_0,a1_1,a1_2,0)) else(if a1_0=true then(some (a0_0,a0_1,a0_2,0)) else((fU.f a0_1 a1_1).bind fun t180=>((jQ.f a0_2 a1_2).bind fun t181=>((fU.f t180 t181).bind fun t182=>((dS.f k t182 a0_2).bind fun bt183=>(some (bt183.1,bt183.2.1,bt183.2.2,0)))))))) else(some (false,(⟨#[]⟩:ByteArray),(⟨#[]⟩:ByteArray),t179)))
def kL.T8:Bool×List (List Nat×List Nat):=(true,[([],[]),([0],[0]),([],[]),([2],[2]),([1,3],[1,3]),([],[]),([5],[5]),([],[]),([7],[7]),([6,8,4],[6,8]),([4,9,9],[4,9]),([],[]),([11],[11]),([10,12,10],[10,12]),([13,13,0,1,2,3,4,5,6,7,8,9,10,11,12,13],[13]),([14,0,1,2,3,4,5,6,7,8,9,10,11,12,13,14],[])])
def kL.B8:List Nat:= [0,1,0,4,15,0,32,0,128,511,1023,0,2048,8191,16383,32767]
theorem kL.tab8:rtab .any (opsOf Tryz.f42 8)=kL.T8:=by kernel_rfl
theorem kL.bits8:kX kL.T8.2 kL.B8=true:=by kernel_rfl
theorem kL.calls(k:Nat)(E8:Bool)(C9:ByteArray)(y9:ByteArray)(D9:Bool)(D5:ByteArray)(D6:ByteArray)(r1:Bool)(r2:ByteArray)(r3:ByteArray)(r4:Int)(w:World)(hG:GW w)(h:kL.f k E8 C9 y9 D9 D5 D6=some (r1,r2,r3,r4)) :
 Calls Tryz.prog 42 #[.agg #[.bool E8,.string C9,.string y9],.agg #[.bool D9,.string D5,.string D6]] w fun e w'=>e= .returned (.tuple #[.agg #[.bool r1,.string r2,.string r3],.int .i64 r4])∧Below w.heap.size w w':=by
 have HG:=aA.mk hG;clear hG;have hu36:=Tryz.underlying36;have HB:=aA.mk (Below.refl w.heap.size w);have H:((jP.f k E8 C9 y9 D9 D5 D6).bind fun G7=>(if G7=0 then(if E8=true then(some (D9,D5,D6,0)) else(if D9=true then(some (E8,C9,y9,0)) else((fU.f C9 D5).bind fun H9=>((jQ.f y9 D6).bind fun I4=>((fU.f H9 I4).bind fun I5=>((dS.f k I5 y9).bind fun G9=>(some (G9.1,G9.2.1,G9.2.2,0)))))))) else(some (false,(⟨#[]⟩:ByteArray),(⟨#[]⟩:ByteArray),G7))))=some (r1,r2,r3,r4):=h;clear h;obtain⟨G7,A3,H⟩:=bi H;try dsimp only at H
 go_enter Tryz.func42,Tryz.ntmps42
 by_cases c4:G7=0
 ·rw[if_pos c4] at H
  obtain⟨I7,I8⟩:=bT c4;clear c4
  by_cases c5:E8=true
  ·subst c5
   rw[if_pos rfl] at H;simp only[Option.some.injEq,Prod.mk.injEq] at H;obtain⟨rfl,rfl,rfl,rfl⟩:=H
   go_wp2_with(first|((with_reducible refine aG (N:=2) rfl ?_);refine bx_ 2 36 #[.bool true,.string C9,.string y9] (h:= ?_);intro G5 hg w6 o6 hb;have l9:=aA.mk (o6);have F5:=pkG HB hg;have H5:=F5;replace HB:=pkB HB hb;clear hb o6 hg)|((with_reducible refine aG (N:=3) rfl ?_);refine bx_ 3 36 #[.bool D9,.string D5,.string D6] (h:= ?_);intro G6 hg w7 o6 hb;have o5:=aA.mk (o6);have F6:=pkG HB hg;have H6:=F6;obtain⟨F7,F8,_,_⟩:=pkQ l9 hg;replace l9:=pkK l9 hb;replace HB:=pkB HB hb;clear hb o6 hg)|((with_reducible refine aG (N:=4) rfl ?_);refine bx_ 4 36 #[.bool false,.string (⟨#[]⟩:ByteArray),.string (⟨#[]⟩:ByteArray)] (h:= ?_);intro o8 hg w8 o6 hb;have o7:=aA.mk (o6);have F9:=pkG HB hg;have H7:=F9;obtain⟨o9,D7,_,_⟩:=pkQ l9 hg;obtain⟨y8,D8,_,_⟩:=pkQ o5 hg;replace l9:=pkK l9 hb;replace o5:=pkK o5 hb;replace HB:=pkB HB hb;clear hb o6 hg;have L6:=F7.out;have L8:=F8.out;have L9:=o9.out;have N7:=D7.out;obtain⟨⟨N8,N9,O0⟩,O1,O3,O4⟩:=pk3 l9;have O5:=y8.out;have O6:=D8.out;obtain⟨⟨O7,O8,O9⟩,P7,P8,P9⟩:=pk3 o5)|((with_reducible refine aC (f:=106) rfl ?_);refine gM 9 Tryz.func106 (jP.calls (w:=_) (h:=A3.out)) (h:= ?_);intro Q3 hb;replace l9:=pkK l9 hb;replace o5:=pkK o5 hb;replace o7:=pkK o7 hb;replace HB:=pkB HB hb;try clear hb;obtain⟨⟨Q4,Q5,Q7⟩,Q8,Q9,S9⟩:=pk3 l9;obtain⟨⟨U3,U4,U5⟩,U6,U7,U8⟩:=pk3 o5;obtain⟨⟨U9,V3,V4⟩,V5,V6,V7⟩:=pk3 o7))
   refine bodyPost_ret (gW rfl _ _ o8 36 #[.bool D9,.string D5,.string D6] (0,0) _ rfl (pkS3 o7) Tryz.underlying36 rfl (by kernel_rfl)) rfl ?_;exact pkE HB
  ·replace c5:=Bool.eq_false_iff.mpr c5
   subst c5;rw[if_neg (show ¬(false=true) by decide)] at H
   by_cases G8:D9=true
   ·subst G8
    rw[if_pos rfl] at H;simp only[Option.some.injEq,Prod.mk.injEq] at H;obtain⟨rfl,rfl,rfl,rfl⟩:=H
    go_wp2_with(first|((with_reducible refine aG (N:=2) rfl ?_);refine bx_ 2 36 #[.bool false,.string C9,.string y9] (h:= ?_);intro G5 hg V8 o6 hb;have l9:=aA.mk (o6);have F5:=pkG HB hg;have H5:=F5;replace HB:=pkB HB hb;clear hb o6 hg)|((with_reducible refine aG (N:=3) rfl ?_);refine bx_ 3 36 #[.bool true,.string D5,.string D6] (h:= ?_);intro G6 hg V9 o6 hb;have o5:=aA.mk (o6);have F6:=pkG HB hg;have H6:=F6;obtain⟨F7,F8,_,_⟩:=pkQ l9 hg;replace l9:=pkK l9 hb;replace HB:=pkB HB hb;clear hb o6 hg)|((with_reducible refine aG (N:=4) rfl ?_);refine bx_ 4 36 #[.bool false,.string (⟨#[]⟩:ByteArray),.string (⟨#[]⟩:ByteArray)] (h:= ?_);intro o8 hg X4 o6 hb;have o7:=aA.mk (o6);have F9:=pkG HB hg;have H7:=F9;obtain⟨o9,D7,_,_⟩:=pkQ l9 hg;obtain⟨y8,D8,_,_⟩:=pkQ o5 hg;replace l9:=pkK l9 hb;replace o5:=pkK o5 hb;replace HB:=pkB HB hb;clear hb o6 hg;have X5:=F7.out;have X7:=F8.out;have X8:=o9.out;have X9:=D7.out;obtain⟨⟨Y0,Y4,Y5⟩,Y7,Y8,Y9⟩:=pk3 l9;have Z7:=y8.out;have Z8:=D8.out;obtain⟨⟨Z9,ae,af⟩,ag,ah,ai⟩:=pk3 o5)|((with_reducible refine aC (f:=106) rfl ?_);refine gM 9 Tryz.func106 (jP.calls (w:=_) (h:=A3.out)) (h:= ?_);intro aj hb;replace l9:=pkK l9 hb;replace o5:=pkK o5 hb;replace o7:=pkK o7 hb;replace HB:=pkB HB hb;try clear hb;obtain⟨⟨ak,au,ax⟩,ay,az,bn⟩:=pk3 l9;obtain⟨⟨df,dh,di⟩,dw,eu,gm⟩:=pk3 o5;obtain⟨⟨gp,gq,gz⟩,ig,ik,iq⟩:=pk3 o7))
    refine bodyPost_ret (gW rfl _ _ o8 36 #[.bool false,.string C9,.string y9] (0,0) _ rfl (pkS3 o7) Tryz.underlying36 rfl (by kernel_rfl)) rfl ?_;exact pkE HB
   ·replace G8:=Bool.eq_false_iff.mpr G8
    subst G8;rw[if_neg (show ¬(false=true) by decide)] at H;obtain⟨H9,I9,H⟩:=bi H;try dsimp only at H
    obtain⟨I4,J3,H⟩:=bi H;try dsimp only at H
    obtain⟨I5,J4,H⟩:=bi H;try dsimp only at H
    obtain⟨⟨J5,J6,J7⟩,J8,H⟩:=bi H;try dsimp only at H
    simp only[Option.some.injEq,Prod.mk.injEq] at H;obtain⟨rfl,rfl,rfl,rfl⟩:=H
    try go_wp2_with(first|((with_reducible refine aG (N:=2) rfl ?_);refine bx_ 2 36 #[.bool false,.string C9,.string y9] (h:= ?_);intro G5 hg iw o6 hb;have l9:=aA.mk (o6);have F5:=pkG HB hg;have H5:=F5;replace HB:=pkB HB hb;clear hb o6 hg)|((with_reducible refine aG (N:=3) rfl ?_);refine bx_ 3 36 #[.bool false,.string D5,.string D6] (h:= ?_);intro G6 hg ja o6 hb;have o5:=aA.mk (o6);have F6:=pkG HB hg;have H6:=F6;obtain⟨F7,F8,_,_⟩:=pkQ l9 hg;replace l9:=pkK l9 hb;replace HB:=pkB HB hb;clear hb o6 hg)|((with_reducible refine aG (N:=4) rfl ?_);refine bx_ 4 36 #[.bool false,.string (⟨#[]⟩:ByteArray),.string (⟨#[]⟩:ByteArray)] (h:= ?_);intro o8 hg jb o6 hb;have o7:=aA.mk (o6);have F9:=pkG HB hg;have H7:=F9;obtain⟨o9,D7,_,_⟩:=pkQ l9 hg;obtain⟨y8,D8,_,_⟩:=pkQ o5 hg;replace l9:=pkK l9 hb;replace o5:=pkK o5 hb;replace HB:=pkB HB hb;clear hb o6 hg;have jc:=F7.out;have jd:=F8.out;have je:=o9.out;have jf:=D7.out;obtain⟨⟨jg,jh,ji⟩,jk,jl,jm⟩:=pk3 l9;have jo:=y8.out;have jq:=D8.out;obtain⟨⟨jr,jw,jy⟩,ku,kw,kz⟩:=pk3 o5)|((with_reducible refine aC (f:=106) rfl ?_);refine gM 9 Tryz.func106 (jP.calls (w:=_) (h:=A3.out)) (h:= ?_);intro J9 hb;replace l9:=pkK l9 hb;replace o5:=pkK o5 hb;replace o7:=pkK o7 hb;replace HB:=pkB HB hb;try clear hb;obtain⟨⟨lg,lh,lq⟩,lu,lw,mf⟩:=pk3 l9;obtain⟨⟨mg,mi,mr⟩,ng,ni,nz⟩:=pk3 o5))
    replace l9:=aA.mk (aK l9.out);replace o5:=aA.mk (aK o5.out);replace o7:=aA.mk (aK o7.out);replace HB:=aA.mk (aJ HB.out)
    refine kF (n:=16) (S:=fun w'=>w'.cell? ⟨G5,0,none⟩=some (.bool false)∧w'.cell? ⟨G5,1,none⟩=some (.string C9)∧w'.cell? ⟨G5,2,none⟩=some (.string y9)∧w'.cell? ⟨G6,0,none⟩=some (.bool false)∧w'.cell? ⟨G6,1,none⟩=some (.string D5)∧w'.cell? ⟨G6,2,none⟩=some (.string D6)) (ds:= []) #[false,false,false,false,false,false,false,false,false,false,false,false,false,false,false,false] (by kernel_rfl) rfl rfl (pc3 l9 (pcL o5)) (fun hHeld=> ?_);refine jZ kL.tab8 kL.bits8 (fun HT_ HW_=> ?_)
    generalize J9.drew=oh at l9 o5 o7 HB hHeld ⊢;refine pr_ 0 20 (h:= ?_);refine pr_ 2 22 (h:= ?_);refine pr_ 5 25 (h:= ?_);refine pr_ 7 27 (h:= ?_);refine pr_ 11 31 (h:= ?_);refine tk_ 1 21 hHeld (hy:=hy6) (h:= ?_);refine tk_ 3 23 hHeld (hy:=hy6) (h:= ?_);refine tk_ 6 26 hHeld (hy:=hy6) (h:= ?_);refine tk_ 8 28 hHeld (hy:=hy6) (h:= ?_);refine tk_ 12 32 hHeld (hy:=hy6) (h:= ?_);refine on_ 4 24 (h:=fun K hK=> ?_);refine gR Tryz.func110 (fU.calls (hG:=HG.out.below (pkL HB)) (h:=I9.out)) (h:= ?_);intro oq hb;replace l9:=pkK l9 hb;replace o5:=pkK o5 hb;replace o7:=pkK o7 hb;replace HB:=pkB HB hb
    clear hb;refine hK.out _ _ (pc3 l9 (pcL o5)) (fun hHeld=> ?_);clear hK K;refine nm_ (h:= ?_);refine on_ 9 29 (h:=fun K hK=> ?_);refine gR Tryz.func111 (jQ.calls (hG:=HG.out.below (pkL HB)) (h:=J3.out)) (h:= ?_);intro ou hb;replace l9:=pkK l9 hb;replace o5:=pkK o5 hb;replace o7:=pkK o7 hb;replace HB:=pkB HB hb
    clear hb;refine hK.out _ _ (pc3 l9 (pcL o5)) (fun hHeld=> ?_);clear hK K;refine nm_ (h:= ?_);refine on_ 10 30 (h:=fun K hK=> ?_);refine gR Tryz.func110 (fU.calls (hG:=HG.out.below (pkL HB)) (h:=J4.out)) (h:= ?_);intro oz hb;replace l9:=pkK l9 hb;replace o5:=pkK o5 hb;replace o7:=pkK o7 hb;replace HB:=pkB HB hb
    clear hb;refine hK.out _ _ (pc3 l9 (pcL o5)) (fun hHeld=> ?_);clear hK K;refine nm_ (h:= ?_);refine on_ 13 33 (h:=fun K hK=> ?_);refine gR Tryz.func109 (dS.calls (hG:=HG.out.below (pkL HB)) (h:=J8.out)) (h:= ?_);intro H8 hb;replace l9:=pkK l9 hb;replace o5:=pkK o5 hb;replace o7:=pkK o7 hb;replace HB:=pkB HB hb
    clear hb;refine hK.out _ _ (pc3 l9 (pcL o5)) (fun hHeld=> ?_);clear hK K;refine nm_ (h:= ?_);refine one_ (i:=14) (N:=none) #[true,true,true,true,true,true,true,true,true,true,true,true,true,true,true,false] rfl rfl (tH HT_.out (by kernel_rfl)) aG0 (fun K hK=> ?_);have pg:H8.cell? ⟨o8,0,none⟩=some (.bool false):=(fF o7.out 0).trans rfl;have pq:=eG o7.out 0;have pz:=o9.out;have qc:=y8.out;have qf:=D7.out;have qg:=D8.out;have qh:H8.cell? ⟨o8,1,none⟩=some (.string (⟨#[]⟩:ByteArray)):=(fF o7.out 1).trans rfl;have qi:=eG o7.out 1;have qj:=o9.out;have ql:=y8.out;have qm:=D7.out;have qo:=D8.out;have qp:H8.cell? ⟨o8,2,none⟩=some (.string (⟨#[]⟩:ByteArray)):=(fF o7.out 2).trans rfl;have qw:=eG o7.out 2;have qx:=o9.out;have qy:=y8.out;have rf:=D7.out;have rq:=D8.out;refine uQ (w1:= ?_) (by rfl) rfl ?_ ?_
    rotate_left
    ·go_simp
     rfl
    refine hK.out _ _ ⟨((aG2 (p:=⟨o8,_,none⟩) o9.out _).trans (((aG2 (p:=⟨o8,_,none⟩) o9.out _).trans (((aG2 (p:=⟨o8,_,none⟩) o9.out _).trans (hHeld.1)))))),((aG2 (p:=⟨o8,_,none⟩) o9.out _).trans (((aG2 (p:=⟨o8,_,none⟩) o9.out _).trans (((aG2 (p:=⟨o8,_,none⟩) o9.out _).trans (hHeld.2.1)))))),((aG2 (p:=⟨o8,_,none⟩) o9.out _).trans (((aG2 (p:=⟨o8,_,none⟩) o9.out _).trans (((aG2 (p:=⟨o8,_,none⟩) o9.out _).trans (hHeld.2.2.1)))))),((aG2 (p:=⟨o8,_,none⟩) y8.out _).trans (((aG2 (p:=⟨o8,_,none⟩) y8.out _).trans (((aG2 (p:=⟨o8,_,none⟩) y8.out _).trans (hHeld.2.2.2.1)))))),((aG2 (p:=⟨o8,_,none⟩) y8.out _).trans (((aG2 (p:=⟨o8,_,none⟩) y8.out _).trans (((aG2 (p:=⟨o8,_,none⟩) y8.out _).trans (hHeld.2.2.2.2.1)))))),((aG2 (p:=⟨o8,_,none⟩) y8.out _).trans (((aG2 (p:=⟨o8,_,none⟩) y8.out _).trans (((aG2 (p:=⟨o8,_,none⟩) y8.out _).trans (hHeld.2.2.2.2.2))))))⟩ (fun hHeld=> ?_);clear hK K;refine pr_ 15 5 (h:= ?_);refine kY (lK HT_.out (by kernel_rfl)) ?_
    try go_wp2
    refine bodyPost_ret (gW rfl _ _ o8 36 #[.bool J5,.string J6,.string J7] (0,0) _ rfl (pkS3 o7) Tryz.underlying36 rfl (by kernel_rfl)) rfl ?_;exact pkE HB
 ·rw[if_neg c4] at H
  obtain⟨I7,I8⟩:=bF c4;simp only[Option.some.injEq,Prod.mk.injEq] at H;obtain⟨rfl,rfl,rfl,rfl⟩:=H
  go_wp2_with(first|((with_reducible refine aG (N:=2) rfl ?_);refine bx_ 2 36 #[.bool E8,.string C9,.string y9] (h:= ?_);intro G5 hg ru o6 hb;have l9:=aA.mk (o6);have F5:=pkG HB hg;have H5:=F5;replace HB:=pkB HB hb;clear hb o6 hg)|((with_reducible refine aG (N:=3) rfl ?_);refine bx_ 3 36 #[.bool D9,.string D5,.string D6] (h:= ?_);intro G6 hg ry o6 hb;have o5:=aA.mk (o6);have F6:=pkG HB hg;have H6:=F6;obtain⟨F7,F8,_,_⟩:=pkQ l9 hg;replace l9:=pkK l9 hb;replace HB:=pkB HB hb;clear hb o6 hg)|((with_reducible refine aG (N:=4) rfl ?_);refine bx_ 4 36 #[.bool false,.string (⟨#[]⟩:ByteArray),.string (⟨#[]⟩:ByteArray)] (h:= ?_);intro o8 hg su o6 hb;have o7:=aA.mk (o6);have F9:=pkG HB hg;have H7:=F9;obtain⟨o9,D7,_,_⟩:=pkQ l9 hg;obtain⟨y8,D8,_,_⟩:=pkQ o5 hg;replace l9:=pkK l9 hb;replace o5:=pkK o5 hb;replace HB:=pkB HB hb;clear hb o6 hg;have tq:=F7.out;have tu:=F8.out;have uf:=o9.out;have ug:=D7.out;obtain⟨⟨uh,ui,uj⟩,uk,ul,um⟩:=pk3 l9;have uo:=y8.out;have uq:=D8.out;obtain⟨⟨ut,uu,uw⟩,uy,uz,ve⟩:=pk3 o5)|((with_reducible refine aC (f:=106) rfl ?_);refine gM 9 Tryz.func106 (jP.calls (w:=_) (h:=A3.out)) (h:= ?_);intro vg hb;replace l9:=pkK l9 hb;replace o5:=pkK o5 hb;replace o7:=pkK o7 hb;replace HB:=pkB HB hb;try clear hb;obtain⟨⟨vk,vw,vz⟩,wo,wu,ww⟩:=pk3 o7))
  refine bodyPost_ret (gW rfl _ _ o8 36 #[.bool false,.string (⟨#[]⟩:ByteArray),.string (⟨#[]⟩:ByteArray)] (0,0) _ rfl (pkS3 o7) Tryz.underlying36 rfl (by kernel_rfl)) rfl ?_;exact pkE HB
def nR.f(a0:ByteArray)(a1:ByteArray):Option (ByteArray):=(qJ.f a0 a1).bind fun bt186=>((iK.f bt186.1 bt186.2).bind fun t188=>(some t188))
theorem nR.calls(a0:ByteArray)(a1:ByteArray)(r:ByteArray)(w:World)(hG:GW w)(h:nR.f a0 a1=some r) :
 Calls Tryz.prog 119 #[.string a0,.string a1] w fun e w'=>e= .returned (.string r)∧Below w.heap.size w w':=by
 have HG:=aA.mk hG;clear hG;have HB:=aA.mk (Below.refl w.heap.size w);have H:((qJ.f a0 a1).bind fun o5=>((iK.f o5.1 o5.2).bind fun l9=>(some l9)))=some r:=h;clear h;obtain⟨⟨o6,o7⟩,A3,H⟩:=bi H;try dsimp only at H
 obtain⟨l9,A4,H⟩:=bi H;try dsimp only at H
 obtain rfl:=Option.some.inj H;go_enter Tryz.func119,Tryz.ntmps119
 go_wp2_with(first|((with_reducible refine aC (f:=22) rfl ?_);refine gM 7 Tryz.func22 (qJ.calls (hG:=HG.out.below (pkL HB)) (h:=A3.out)) (h:= ?_);intro w5 hb;replace HB:=pkB HB hb;try clear hb)|((with_reducible refine aC (f:=128) rfl ?_);refine gl_ 10 Tryz.func128 #[.string o6,.int .i64 o7] (h:= ?_);(with_reducible refine(iK.calls o6 o7 l9 _ A4.out).mono ?_);rintro e w' ⟨rfl,⟨nd,rfl⟩⟩;refine⟨_,rfl,?_⟩))
 go_ret
 exact pkE HB
def jG.f(a0:ByteArray)(a1:ByteArray):Option (ByteArray):=(sW.f a0 a1).bind fun bt189=>((iK.f bt189.1 bt189.2).bind fun t191=>(some t191))
theorem jG.calls(a0:ByteArray)(a1:ByteArray)(r:ByteArray)(w:World)(hG:GW w)(h:jG.f a0 a1=some r) :
 Calls Tryz.prog 124 #[.string a0,.string a1] w fun e w'=>e= .returned (.string r)∧Below w.heap.size w w':=by
 have HG:=aA.mk hG;clear hG;have HB:=aA.mk (Below.refl w.heap.size w);have H:((sW.f a0 a1).bind fun o5=>((iK.f o5.1 o5.2).bind fun l9=>(some l9)))=some r:=h;clear h;obtain⟨⟨o6,o7⟩,A3,H⟩:=bi H;try dsimp only at H
 obtain⟨l9,A4,H⟩:=bi H;try dsimp only at H
 obtain rfl:=Option.some.inj H;go_enter Tryz.func124,Tryz.ntmps124
 go_wp2_with(first|((with_reducible refine aC (f:=26) rfl ?_);refine gM 7 Tryz.func26 (sW.calls (hG:=HG.out.below (pkL HB)) (h:=A3.out)) (h:= ?_);intro w5 hb;replace HB:=pkB HB hb;try clear hb)|((with_reducible refine aC (f:=128) rfl ?_);refine gl_ 10 Tryz.func128 #[.string o6,.int .i64 o7] (h:= ?_);(with_reducible refine(iK.calls o6 o7 l9 _ A4.out).mono ?_);rintro e w' ⟨rfl,⟨nd,rfl⟩⟩;refine⟨_,rfl,?_⟩))
 go_ret
 exact pkE HB
def kZ.f:Option (Bool×ByteArray×ByteArray):=some (true,(⟨#[]⟩:ByteArray),(⟨#[]⟩:ByteArray))
theorem kZ.calls(r1:Bool)(r2:ByteArray)(r3:ByteArray)(w:World)(h:kZ.f=some (r1,r2,r3)) :
 Calls Tryz.prog 176 #[] w fun e w'=>e= .returned (.agg #[.bool r1,.string r2,.string r3])∧Below w.heap.size w w':=by
 have hu36:=Tryz.underlying36;have HB:=aA.mk (Below.refl w.heap.size w);have H:(some (true,(⟨#[]⟩:ByteArray),(⟨#[]⟩:ByteArray)))=some (r1,r2,r3):=h;clear h;simp only[Option.some.injEq,Prod.mk.injEq] at H;obtain⟨rfl,rfl,rfl⟩:=H;go_enter Tryz.func176,Tryz.ntmps176
 go_wp2_with(first|((with_reducible refine aG (N:=0) rfl ?_);refine bx_ 0 36 #[.bool false,.string (⟨#[]⟩:ByteArray),.string (⟨#[]⟩:ByteArray)] (h:= ?_);intro o6 hg w1 l9 hb;have o5:=aA.mk (l9);have o7:=pkG HB hg;have o8:=o7;replace HB:=pkB HB hb;clear hb l9 hg;obtain⟨⟨o9,y8,y9⟩,C9,D5,D6⟩:=pk3 o5))
 refine bodyPost_ret (results_cell_row rfl _ _ o6 36 #[.bool true,.string (⟨#[]⟩:ByteArray),.string (⟨#[]⟩:ByteArray)] (0,0) _ rfl (pkS3 o5) Tryz.underlying36 rfl (by kernel_rfl)) rfl ?_;exact pkE HB
end Go.Proofs.YtignanmmgaldeaaGreatDoor.PCongI
end
