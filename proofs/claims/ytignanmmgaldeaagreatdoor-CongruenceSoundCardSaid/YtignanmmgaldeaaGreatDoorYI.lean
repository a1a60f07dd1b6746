/- Lemmas for the proof. -/
import Derived.Test.YtignanmmgaldeaaGreatDoorYH
import Derived.OpenShut
section
set_option linter.unusedVariables false
set_option linter.unusedSimpArgs false
namespace Go.Proofs.YtignanmmgaldeaaGreatDoor.RefP
open Go.RowKit Go.Proofs.YtignanmmgaldeaaGreatDoor.PRefA Go.Proofs.YtignanmmgaldeaaGreatDoorW.PrintWords Go.Proofs.YtignanmmgaldeaaGreatDoorW.PrintLast
theorem zT(a:ByteArray)(i:Nat)(c:UInt8)(h:a.data.toList[i]? =some c):bt a i=(c.toNat:Int):=by
 have hl:=(List.getElem?_eq_some_iff.1 h).1;have hs:i<a.size:=by rw[Lib.size_eq];exact hl
 unfold bt;rw[Int.toNat_natCast,dif_pos hs]
 have e:a[i]=c:=by
  have:=(List.getElem?_eq_some_iff.1 h).2;rw[←this,ByteArray.getElem_eq_getElem_data]
  simp
 rw[e]
theorem toList_data(a:ByteArray):a.toList=a.data.toList:=by simp[ByteArray.toList_eq]
theorem form_loop(a:ByteArray)(h:a.size≤140737488351232):∀(k i:Nat),i≤a.size→a.size-i<k→aW.l0 k a i=some (fE (a.data.toList.drop i))
 |0,i,_,hk=>by omega
 |k+1,i,hi,hk=>by
  unfold aW.l0;have hz:=Lib.size_eq a
  by_cases hlt:i<a.size
  ·rw[if_pos aCo,if_pos aCo]
   have hl:i<a.data.toList.length:=by rw[←hz];exact hlt
   have hd:=List.drop_eq_getElem_cons hl;have hb:=zT a i _ (List.getElem?_eq_getElem hl);generalize a.data.toList[i]=c at hd hb;have ih:=form_loop a h k (i+1) aCo aCo;have hw:wrap64 ((i:Int)+1)=((i+1:Nat):Int):=by unfold wrap64;omega
   rw[hb,hd,hw,ih];show _=some (List.all (c::_) oH);rw[List.all_cons]
   by_cases h1:(c.toNat:Int)<48
   ·have:oH c=false:=by simp[oH];omega
    rw[if_pos h1,this];rfl
   ·by_cases h2:(c.toNat:Int)>57
    ·have:oH c=false:=by simp[oH];omega
     rw[if_neg h1,if_pos h2,this];rfl
    ·have:oH c=true:=by simp[oH];omega
     rw[if_neg h1,if_neg h2,this];rfl
  ·rw[if_neg aCo,List.drop_of_length_le (by rw[←hz];omega)];rfl
theorem form_j1(a:ByteArray)(h:a.size≤140737488351232)(st:Nat)(hst:st≤a.size)(k:Nat)(hk:a.size+2≤k):aW.j1 (k+1) a st=some (!(a.data.toList.drop st).isEmpty && !((a.data.toList.drop st).head? ==some 48)&&fE (a.data.toList.drop st)):=by
 have hz:=Lib.size_eq a;obtain⟨k,rfl⟩:∃j,k=j+1:=⟨k-1,by omega⟩
 simp only[aW.j1]
 by_cases he:st=a.size
 ·rw[if_pos aCo,List.drop_of_length_le (by rw[←hz];omega)]
  simp only[aW.j2];rfl
 ·have hl:st<a.data.toList.length:=by rw[←hz];omega
  have hd:=List.drop_eq_getElem_cons hl;have hb:=zT a st _ (List.getElem?_eq_getElem hl);have hloop:=form_loop a h k st hst aCo;rw[if_neg aCo,if_pos aCo,if_pos aCo,hb];simp only[aW.j2];rw[hloop];generalize a.data.toList[st]=c at hd hb;rw[hd]
  by_cases hc:c=48
  ·subst hc;rfl
  ·have hc2:c.toNat≠48:=fun e=>hc (xY e)
   have h1:((c.toNat:Int)==48)=false:=by simp;omega
   rw[h1]
   simp[hc]
theorem ref_form(a:ByteArray)(h:a.size≤140737488351232)(k:Nat)(hk:a.size+2≤k):aW.f (k+2) a=some (canon a.data.toList):=by
 unfold aW.f;have hz:=Lib.size_eq a;rw[toList_data]
 by_cases h48:a.data.toList= [48]
 ·rw[if_pos h48,h48];rfl
 ·rw[if_neg h48,canon_eq]
  by_cases h0:a.size=0
  ·have hn:a.data.toList= []:=List.eq_nil_of_length_eq_zero (by rw[←hz];exact h0)
   rw[if_neg aCo,hn];simp only[aW.j0];rw[if_neg aCq];have:=form_j1 a h 0 aCo k hk;rw[hn] at this;exact this
  ·rw[if_pos aCo]
   try rw[if_pos aCo]
   obtain⟨c,r,hl⟩:∃c r,a.data.toList=c::r:=by
    cases hq:a.data.toList with
    |nil=>rw[hq] at hz;exact absurd hz h0
    |cons c r=>exact⟨c,r,rfl⟩
   have hb:=zT a 0 c (by rw[hl];rfl);rw[show((0:Nat):Int)=0 from rfl] at hb;simp only[aW.j0];rw[hb]
   by_cases hc:c=45
   ·subst hc
    have e1:Lib.hasPrefix a.data.toList [45]=true:=by rw[hl];simp[Lib.hasPrefix]
    have e2:Lib.trimPrefix a.data.toList [45]=r:=by rw[Lib.trimPrefix,if_pos e1,hl];rfl
    have:=form_j1 a h 1 aCo k hk;rw[if_pos aCr,e1,e2];rw[hl] at this;rw[show((1:Int))=((1:Nat):Int) from rfl,this];show some (!r.isEmpty && !(r.head? ==some 48)&&fE r)=_
    by_cases hr:r= [48]
    ·rw[if_pos hr,hr];rfl
    ·rw[if_neg hr]
   ·have hc2:c.toNat≠45:=fun e=>hc (xY e)
    have e1:Lib.hasPrefix a.data.toList [45]=false:=by rw[hl];simp[Lib.hasPrefix,List.isPrefixOf,Ne.symm hc]
    have e2:Lib.trimPrefix a.data.toList [45]=a.data.toList:=by rw[Lib.trimPrefix,if_neg (by rw[e1];simp)]
    have:=form_j1 a h 0 aCo k hk;have h1:((c.toNat:Int)==45)=false:=by simp;omega
    rw[h1,if_neg aCr,e2,if_neg h48];exact this
theorem aAx(a:ByteArray)(h0:0<a.size):dR.f a=some (Lib.hasPrefix a.data.toList [45]):=by
 unfold dR.f;have hz:=Lib.size_eq a
 obtain⟨c,r,hl⟩:∃c r,a.data.toList=c::r:=by
  cases hq:a.data.toList with
  |nil=>rw[hq] at hz;exact absurd hz (by simp only[List.length_nil];omega)
  |cons c r=>exact⟨c,r,rfl⟩
 have hb:=zT a 0 c (by rw[hl];rfl);rw[show((0:Nat):Int)=0 from rfl] at hb;rw[if_pos aCo,hb,hl]
 by_cases hc:c=45
 ·subst hc;rfl
 ·have hc2:c.toNat≠45:=fun e=>hc (xY e)
  have h1:((c.toNat:Int)==45)=false:=by simp;omega
  rw[h1];simp[Lib.hasPrefix,List.isPrefixOf,Ne.symm hc]
theorem canon_size{a:ByteArray}(h:canon a.data.toList=true):0<a.size:=by
 rw[Lib.size_eq]
 cases hl:a.data.toList with
 |nil=>rw[hl] at h;exact absurd h aCr
 |cons c r=>simp
theorem aC3(a:ByteArray)(h:a.size≤140737488351232)(h0:0<a.size):gW.f a=some (digN a:Int):=by
 unfold gW.f digN;have hz:=Lib.size_eq a;rw[aAx a h0,Option.bind_some]
 by_cases hp:Lib.hasPrefix a.data.toList [45]=true
 ·rw[if_pos hp,Lib.trimPrefix,if_pos hp,List.length_drop,←hz]
  show some (wrap64 ((a.size:Int)-1))=some ((a.size-1:Nat):Int)
  congr 1
  unfold wrap64;omega
 ·rw[if_neg hp,Lib.trimPrefix,if_neg hp,←hz]
theorem ref_check(a:ByteArray)(h:a.size≤140737488351232)(k:Nat)(hk:a.size+4≤k):kY.f k a=some (chkI a):=by
 obtain⟨k,rfl⟩:∃j,k=j+2:=⟨k-2,by omega⟩
 unfold kY.f chkI;rw[ref_form a h k aCo,Option.bind_some]
 by_cases hc:canon a.data.toList=true
 ·have h0:=canon_size hc
  rw[if_pos hc,if_pos hc,aC3 a h h0,Option.bind_some]
  by_cases hd:4096<digN a
  ·rw[if_pos aCo,if_pos hd]
  ·rw[if_neg aCo,if_neg hd]
 ·rw[if_neg hc,if_neg hc]
theorem aC4(x:Int):∃s,(text x).data.toList=s++Lib.decDigits x.natAbs∧(s= []∨s= [45])∧(s= [45]↔x<0):=by
 rw[wO];unfold Lib.itoa
 split
 ·rename_i h;exact⟨[45],rfl,.inr rfl,by simp[h]⟩
 ·rename_i h;exact⟨[],by rw[show x.toNat=x.natAbs by omega];rfl,.inl rfl,by simp[h]⟩
theorem rY(L:List Int)(q:Nat):rd L (q:Int)=L[q]?.getD 0:=by
 unfold rd;rw[Int.toNat_natCast,List.getD_eq_getElem?_getD]
def dg(c:UInt8):Int:=(c.toNat:Int)-48
def dL(n:Nat):List Int:=((Lib.decDigits n).reverse).map dg
theorem dL_len(n:Nat):(dL n).length=(Lib.decDigits n).length:=by simp[dL]
def vD(L:List Int):Nat→Int
 |0=>0
 |q+1=>vD L q+L[q]?.getD 0*10 ^ q
theorem vD_congr{L M:List Int}:∀q,(∀i,i<q→L[i]?.getD 0=M[i]?.getD 0)→vD L q=vD M q
 |0,_=>rfl
 |q+1,h=>by rw[vD,vD,vD_congr q (fun i hi=>h i aCo),h q aCo]
theorem vD_dig:∀(D:List UInt8),fE D=true→vD (D.reverse.map dg) D.length=(dval D:Int)
 | [],_=>rfl
 |c::D,h=>by
  simp only[fE,List.all_cons,Bool.and_eq_true] at h;have h1:=(lM c).1 h.1;have ih:=vD_dig D h.2;have e:((c::D).reverse.map dg)=D.reverse.map dg++ [dg c]:=by simp
  rw[e,List.length_cons,vD];have e1:vD (D.reverse.map dg++ [dg c]) D.length=vD (D.reverse.map dg) D.length:=vD_congr _ (fun i hi=>by rw[List.getElem?_append_left (by simpa using hi)])
  have e2:(D.reverse.map dg++ [dg c])[D.length]?.getD 0=dg c:=by
   rw[List.getElem?_append_right aCq]
   simp
  rw[e1,e2,ih,yM];unfold dg;have:((10:Int) ^ D.length)=((10 ^ D.length:Nat):Int):=by rw[Int.natCast_pow];rfl
  rw[this]
  push_cast
  rw[show((c.toNat:Int)-48)=((c.toNat-48:Nat):Int) from by omega];omega
theorem vD_dL(n:Nat):vD (dL n) (dL n).length=(n:Int):=by
 have:=vD_dig (Lib.decDigits n) (jZ n);rw[lD] at this;rw[dL_len];exact this
def digs10(L:List Int):Prop:=∀i:Nat,0≤L[i]?.getD 0∧L[i]?.getD 0<10
theorem digs_dL(n:Nat):digs10 (dL n):=fun i=>by
 unfold dL
 by_cases h:i<(Lib.decDigits n).length
 ·have hi:i<(Lib.decDigits n).reverse.length:=by simpa using h
  rw[List.getElem?_map,List.getElem?_eq_getElem hi];have hm:(Lib.decDigits n).reverse[i]∈Lib.decDigits n:=List.mem_reverse.1 (List.getElem_mem hi);have:=(lM _).1 (List.all_eq_true.1 (jZ n) _ hm);simp only[Option.map_some,Option.getD_some];unfold dg;omega
 ·rw[List.getElem?_eq_none (by simpa using h)]
  simp
theorem yE{L:List Int}(h:digs10 L):∀q,0≤vD L q∧vD L q<10 ^ q
 |0=>by simp[vD]
 |q+1=>by
  have ih:=yE h q;have hq:=h q;rw[vD,Int.pow_succ];have hp:(0:Int)<10 ^ q:=Int.pow_pos aCo;have h1:L[q]?.getD 0*10 ^ q≤9*10 ^ q:=Int.mul_le_mul_of_nonneg_right aCo (Int.le_of_lt hp);have h2:=Int.mul_nonneg hq.1 (Int.le_of_lt hp);omega
theorem aBc(a:ByteArray)(s D:List UInt8)(hs:s= []∨s= [45])(h:a.data.toList=s++D)(hD:fE D=true)(hz:a.size≤100000):∀(q:Nat) (acc:List Int) (k:Nat),q≤D.length→q+2≤k→acc.length+q≤100000→bZ.l0 k a acc (((s.length+q:Nat):Int)-1)=some (acc++((D.take q).reverse.map dg))
 |0,acc,k,_,hk,_=>by
  obtain⟨k,rfl⟩:∃j,k=j+1:=⟨k-1,by omega⟩
  rw[bZ.l0];rcases hs with rfl|rfl
  ·rw[if_neg aCq];simp
  ·have hsz:=Lib.size_eq a
   rw[h] at hsz;simp only[List.length_append,List.length_cons,List.length_nil] at hsz;have hb:=zT a 0 45 (by rw[h];rfl);rw[if_pos aCq,if_pos aCq,if_pos (by simp;omega)];rw[show((([45]:List UInt8).length+0:Nat):Int)-1=((0:Nat):Int) from by simp,hb,if_pos (show((UInt8.toNat 45:Nat):Int)=45 from rfl)]
   simp
 |q+1,acc,k,hq,hk,ha=>by
  obtain⟨k,rfl⟩:∃j,k=j+1:=⟨k-1,by omega⟩
  have hsz:=Lib.size_eq a;rw[h,List.length_append] at hsz;have hl:q<D.length:=by omega
  have hsl:s.length≤1:=by rcases hs with rfl|rfl <;> simp
  have hc:a.data.toList[s.length+q]? =some D[q]:=by
   rw[h,List.getElem?_append_right aCo,show s.length+q-s.length=q by omega,List.getElem?_eq_getElem hl]
  have hb:=zT a (s.length+q) _ hc;have hdig:=(lM _).1 (List.all_eq_true.1 hD _ (List.getElem_mem hl));have ih:=aBc a s D hs h hD hz q (acc++ [dg D[q]]) k aCo aCo (by simp;omega);rw[bZ.l0,show((s.length+(q+1):Nat):Int)-1=((s.length+q:Nat):Int) from by omega];rw[if_pos aCo,if_pos aCo,if_pos aCo,hb,if_neg aCo,if_pos aCo];rw[show((D[q].toNat:Int)-48)%256=dg D[q] from by unfold dg;omega,show wrap64 (((s.length+q:Nat):Int)-1)=((s.length+q:Nat):Int)-1 from by unfold wrap64;omega,ih];rw[List.take_succ_eq_append_getElem hl,List.reverse_append,List.map_append,List.append_assoc];rfl
theorem aBd{x:Int}{m:Nat}(hx:Bd m x)(hm:1≤m)(h4:m≤90000)(k:Nat)(hk:m+3≤k):bZ.f k (text x)=some (dL x.natAbs):=by
 obtain⟨s,h1,h2,_⟩:=aC4 x;have hz:=size_text hx hm;have hd:=lZ hx hm;have hsz:=Lib.size_eq (text x);rw[h1,List.length_append] at hsz;have:=aBc (text x) s (Lib.decDigits x.natAbs) h2 h1 (jZ _) aCo (Lib.decDigits x.natAbs).length [] k (Nat.le_refl _) aCo (by simp;omega);unfold bZ.f;rw[show wrap64 (((text x).size:Int)-1)=((s.length+(Lib.decDigits x.natAbs).length:Nat):Int)-1 from by unfold wrap64;omega,this,List.take_length,List.nil_append];rfl
def cL(n:Nat):List Int:=if n=0 then[] else dL n
theorem dL_top(n:Nat)(h:n≠0):∃q,(dL n).length=q+1∧(dL n)[q]?.getD 0≠0:=by
 obtain⟨c,l,e,h1,h2⟩:=rF n h;refine⟨l.length,by rw[dL_len,e];rfl,?_⟩;unfold dL;rw[e,List.reverse_cons,List.map_append,List.getElem?_append_right aCq]
 simp
 unfold dg;omega
def wD(u:Nat):List UInt8:=if u=0 then[] else Lib.decDigits u
def hv:List Int→Int
 | []=>0
 |d::T=>d+10*hv T
theorem cut_loop(L:List Int)(hL:L.length≤100000):∀(q k:Nat),q≤L.length→q+1≤k→∃n,n≤q∧bU.l0 k L (q:Int)=some (L.take n)∧(n=0∨L[n-1]?.getD 0≠0)∧vD L n=vD L q
 |0,k,_,hk=>by
  obtain⟨k,rfl⟩:∃j,k=j+1:=⟨k-1,by omega⟩
  refine⟨0,Nat.le_refl _,?_,.inl rfl,rfl⟩;rw[bU.l0,if_neg aCq,if_pos aCq,if_pos aCq];rfl
 |q+1,k,hq,hk=>by
  obtain⟨k,rfl⟩:∃j,k=j+1:=⟨k-1,by omega⟩
  have hw:wrap64 (((q+1:Nat):Int)-1)=(q:Int):=by unfold wrap64;omega
  rw[bU.l0,if_pos aCo,hw,if_pos aCo,if_pos aCo,rY]
  by_cases h0:L[q]?.getD 0=0
  ·obtain⟨n,h1,h2,h3,h4⟩:=cut_loop L hL q k aCo aCo
   rw[if_pos h0];exact⟨n,by omega,h2,h3,by rw[h4,vD,h0,Int.zero_mul,Int.add_zero]⟩
  ·rw[if_neg h0,if_pos aCo,if_pos aCo]
   exact⟨q+1,Nat.le_refl _,by rw[Int.toNat_natCast],.inr h0,rfl⟩
theorem fJ(y:Int):((text y).toList=([48]:List UInt8))↔y=0:=by
 constructor
 ·intro h
  refine text_inj ?_;rw[vH];refine wP ?_;rw[←toList_data,h]
 ·intro h
  rw[h,vH,toList_data]
theorem ref_sign(x:Int){m:Nat}(hx:Bd m x)(hm:1≤m):fP.f (text x)=some (sgnI x):=by
 unfold fP.f
 by_cases h:x=0
 ·rw[if_pos ((fJ x).2 h),h];rfl
 ·rw[if_neg (fun q=>h ((fJ x).1 q))]
  obtain⟨s,h1,h2,h3⟩:=aC4 x;have hne:=aBg x.natAbs
  have hsz:0<(text x).size:=by
   rw[Lib.size_eq,h1,List.length_append];have:=List.length_pos_iff.2 hne;omega
  rw[aAx _ hsz,Option.bind_some,h1];unfold sgnI;rcases h2 with rfl|rfl
  ·have hx0:¬x<0:=fun q=>by have:=h3.2 q;cases this
   have hp:Lib.hasPrefix ([]++Lib.decDigits x.natAbs) [45]=false:=by
    have hm:=nJ x.natAbs;rw[List.nil_append];generalize Lib.decDigits x.natAbs=l at hm hne
    cases l with
    |nil=>exact absurd rfl hne
    |cons c r=>
     by_cases hc:c=45
     ·subst hc;exact absurd rfl (hm r)
     ·simp[Lib.hasPrefix,List.isPrefixOf,Ne.symm hc]
   rw[hp,if_neg aCq,if_neg hx0,if_neg h]
  ·have hx0:x<0:=h3.1 rfl
   have hp:Lib.hasPrefix ([45]++Lib.decDigits x.natAbs) [45]=true:=by simp[Lib.hasPrefix]
   rw[hp,if_pos rfl,if_pos hx0]
def cmpL(L M:List Int):Nat→Int
 |0=>0
 |q+1=>if L[q]?.getD 0=M[q]?.getD 0 then cmpL L M q else if L[q]?.getD 0<M[q]?.getD 0 then -1 else 1
theorem cmpL_val{L M:List Int}(hL:digs10 L)(hM:digs10 M):∀q,cmpL L M q=sgnI (vD L q-vD M q)
 |0=>rfl
 |q+1=>by
  have ih:=cmpL_val hL hM q;have b1:=yE hL q;have b2:=yE hM q;have hp:(0:Int)<10 ^ q:=Int.pow_pos aCo;rw[cmpL,vD,vD]
  split
  ·rename_i h
   rw[ih,h]
   congr 1
   omega
  ·rename_i h
   split
   ·rename_i h2
    have:=Int.mul_le_mul_of_nonneg_right (show L[q]?.getD 0+1≤M[q]?.getD 0 by omega) (Int.le_of_lt hp);rw[Int.add_mul] at this;unfold sgnI;rw[if_pos aCo]
   ·rename_i h2
    have:=Int.mul_le_mul_of_nonneg_right (show M[q]?.getD 0+1≤L[q]?.getD 0 by omega) (Int.le_of_lt hp);rw[Int.add_mul] at this;unfold sgnI;rw[if_neg aCo,if_neg aCo]
theorem cut_dL(n:Nat)(k:Nat)(hk:2≤k)(hl:(dL n).length≤100000):bU.f k (dL n)=some (cL n):=by
 obtain⟨k,rfl⟩:∃j,k=j+2:=⟨k-2,by omega⟩
 unfold bU.f cL
 by_cases h:n=0
 ·subst h
  rw[if_pos rfl];have e:dL 0= [0]:=by unfold dL;rw[iJ aCo];rfl
  have hw:wrap64 ((([0]:List Int).length:Int)-1)=0:=by decide +kernel
  rw[e,bU.l0,if_pos aCr,hw,if_pos aCr,if_pos aCr,if_pos (show rd [0] 0=0 from rfl),bU.l0,if_neg aCr,if_pos aCr,if_pos aCr];rfl
 ·rw[if_neg h]
  obtain⟨q,hq,ht⟩:=dL_top n h;rw[bU.l0,hq];have hw:wrap64 (((q+1:Nat):Int)-1)=(q:Int):=by unfold wrap64;omega
  rw[if_pos aCo,hw,if_pos aCo,if_pos aCo,if_neg (by rw[rY];exact ht),if_pos aCo,if_pos aCo];rw[show((q+1:Nat):Int).toNat=(dL n).length from by omega,List.take_length]
theorem aC5{L M:List Int}(hl:L.length=M.length)(hL:L.length≤100000):∀(q k:Nat),q≤L.length→q+1≤k→eU.l0 k L M ((q:Int)-1)=some (cmpL L M q)
 |0,k,_,hk=>by
  obtain⟨k,rfl⟩:∃j,k=j+1:=⟨k-1,by omega⟩
  rw[eU.l0,if_neg aCq];rfl
 |q+1,k,hq,hk=>by
  obtain⟨k,rfl⟩:∃j,k=j+1:=⟨k-1,by omega⟩
  have ih:=aC5 hl hL q k aCo aCo;rw[eU.l0,show((q+1:Nat):Int)-1=(q:Int) from by omega];rw[if_pos aCo,if_pos aCo,if_pos aCo,if_pos aCo,rY,rY,show wrap64 ((q:Int)-1)=(q:Int)-1 from by unfold wrap64;omega,ih,cmpL]
  split
  ·rfl
  ·split <;> rfl
theorem order_cL(m n:Nat)(k:Nat)(h1:(dL m).length≤100000)(h2:(dL n).length≤100000)(hk:(dL m).length+2≤k):eU.f k (cL m) (cL n)=some (sgnI ((m:Int)-(n:Int))):=by
 have v:∀n,vD (cL n) (cL n).length=(n:Int):=fun n=>by
  unfold cL
  split
  ·rename_i h;rw[h];rfl
  ·exact vD_dL n
 have dgs:∀n,digs10 (cL n):=fun n=>by
  unfold cL
  split
  ·intro i;simp
  ·exact digs_dL n
 have lens:∀n,(cL n).length≤(dL n).length:=fun n=>by
  unfold cL
  split
  ·simp
  ·exact Nat.le_refl _
 have low:∀n:Nat,(cL n).length≠0→(10:Int) ^ ((cL n).length-1)≤(n:Int):=fun n hn=>by
  have hv:=v n;unfold cL at *
  split at hn
  ·simp at hn
  ·rename_i h0
   rw[if_neg h0] at hv ⊢;obtain⟨q,hq,ht⟩:=dL_top n h0;rw[hq,vD] at hv;have hb:=yE (digs_dL n) q;have hd:=digs_dL n q;have hp:(0:Int)<10 ^ q:=Int.pow_pos aCo;have:=Int.mul_le_mul_of_nonneg_right (show 1≤(dL n)[q]?.getD 0 by omega) (Int.le_of_lt hp);rw[hq,Nat.add_sub_cancel];omega
 have up:∀n:Nat,(n:Int)<10 ^ (cL n).length:=fun n=>by
  have:=(yE (dgs n) (cL n).length).2;rw[v n] at this;exact this
 have mono:∀{p q:Nat},p≤q→(10:Int) ^ p≤10 ^ q:=fun {p q} hpq=>by
  have:=Nat.pow_le_pow_right (n:=10) aCo hpq;have h3:((10 ^ p:Nat):Int)≤((10 ^ q:Nat):Int):=by omega
  rw[Int.natCast_pow,Int.natCast_pow] at h3;exact h3
 have lm:=lens m;have ln:=lens n;unfold eU.f
 by_cases hlen:(cL m).length=(cL n).length
 ·rw[if_pos aCo]
  have h:=aC5 hlen aCo (cL m).length k (Nat.le_refl _) aCo;rw[show wrap64 (((cL m).length:Int)-1)=((cL m).length:Int)-1 from by unfold wrap64;omega,h,cmpL_val (dgs m) (dgs n),v m];rw[hlen,v n]
 ·rw[if_neg aCo]
  by_cases hlt:(cL m).length<(cL n).length
  ·rw[if_pos aCo]
   have a:=up m;have b:=low n aCo;have c:=mono (show(cL m).length≤(cL n).length-1 by omega);unfold sgnI;rw[if_pos aCo]
  ·rw[if_neg aCo]
   have a:=up n;have b:=low m aCo;have c:=mono (show(cL n).length≤(cL m).length-1 by omega);unfold sgnI;rw[if_neg aCo,if_neg aCo]
end Go.Proofs.YtignanmmgaldeaaGreatDoor.RefP
end
section
set_option linter.unusedVariables false
set_option linter.unusedSimpArgs false
set_option maxHeartbeats 8000000
set_option maxRecDepth 100000
namespace Go.Proofs.YtignanmmgaldeaaGreatDoor.PRefA
open Go.RowKit Go.Proofs.YtignanmmgaldeaaGreatDoorW.PrintWords Go.Proofs.YtignanmmgaldeaaGreatDoorW.PrintLast Go.Proofs.YtignanmmgaldeaaGreatDoorW.PrintMore
theorem sum_same(k:Nat)(a b r:ByteArray)(s1 s2 n1 n2:Bool)(x y p:List Int)(w:World)(h1:kJ.f a 17=some s1)(h2:kJ.f b 17=some s2)(hs:(s1&&s2)=false)(hx:bZ.f k a=some x)(hy:bZ.f k b=some y)(hn1:dR.f a=some n1)(hn2:dR.f b=some n2)(he:(n1==n2)=true)(hp:gQ.f k x y=some p)(hm:dY.f k p n1=some r) :
 Calls Tryz.prog 82 #[.string a,.string b] w fun e w'=>e= .returned (.string r)∧Below w.heap.size w w':=by
 have HB:=aA.mk (Below.refl w.heap.size w)
 cases s1 <;> cases s2 <;> first|(exact absurd hs aCr)|clear hs
 all_goals
  go_enter Tryz.func82,Tryz.ntmps82
  go_wp2_with(first|((with_reducible refine aG (f:=150) rfl ?_);refine jE (some 8) rfl rfl Tryz.func150 (by kernel_rfl) rfl #[.string a,.int .i64 17] rfl (by(try simp only[List.map_toArray,List.map_cons,List.map_nil]);first|done|rfl) ?_;(with_reducible refine(kJ.calls a 17 _ _ h1).mono ?_);rintro e w' ⟨rfl,⟨nd,rfl⟩⟩;refine⟨_,rfl,?_⟩)|(go_at_call 150;(with_reducible refine(kJ.calls b 17 _ _ h2).mono ?_);rintro e w' ⟨rfl,⟨nd,rfl⟩⟩)|((with_reducible refine aG (f:=156) rfl ?_);refine jE (some 20) rfl rfl Tryz.func156 (by kernel_rfl) rfl #[.string a] rfl (by(try simp only[List.map_toArray,List.map_cons,List.map_nil]);first|done|rfl) ?_;(with_reducible refine(bZ.calls k a x _ hx).mono ?_);rintro e w16 ⟨v250,rfl,ho0,hb⟩;refine⟨_,rfl,?_⟩;have n0_:=aA.mk (Kd.jF ho0 (dU (by repeat(first|(with_reducible first|exact HB.out|apply cZ|apply bH|apply bG)|exact HB.out))));have n1_:=aA.mk (rE (by repeat(first|(with_reducible first|exact HB.out|apply cZ|apply bH|apply bG)|exact HB.out)) hb);clear HB;have HX:=n0_;have HB:=n1_;clear n0_ n1_;(try clear hb);(try clear ho0))|((with_reducible refine aG (f:=156) rfl ?_);refine jE (some 22) rfl rfl Tryz.func156 (by kernel_rfl) rfl #[.string b] rfl (by(try simp only[List.map_toArray,List.map_cons,List.map_nil]);first|done|rfl) ?_;(with_reducible refine(bZ.calls k b y _ hy).mono ?_);rintro e w17 ⟨v253,rfl,ho0,hb⟩;refine⟨_,rfl,?_⟩;have n0_:=aA.mk (Kd.aA0 (by(with_reducible repeat(first|apply Kd.aX|apply Kd.aY|apply Kd.bP));exact HX.out) (Kd.R_base ho0) hb);have n1_:=aA.mk (Kd.jF (Kd.R_new' ho0 (Kd.R_lt (by(with_reducible repeat(first|apply Kd.aX|apply Kd.aY|apply Kd.bP));exact HX.out))) (dU (by repeat(first|(with_reducible first|exact HB.out|apply cZ|apply bH|apply bG)|exact HB.out))));have n2_:=aA.mk (rE (by repeat(first|(with_reducible first|exact HB.out|apply cZ|apply bH|apply bG)|exact HB.out)) hb);clear HX;clear HB;have HX:=n0_;have HY:=n1_;have HB:=n2_;clear n0_ n1_ n2_;(try clear hb);(try clear ho0);obtain⟨Ax,cx,ex⟩:=Kd.gY HX.out;subst ex;obtain⟨Ay,cy,ey⟩:=Kd.gY HY.out;subst ey)|((with_reducible refine aG (f:=158) rfl ?_);refine jE (some 24) rfl rfl Tryz.func158 (by kernel_rfl) rfl #[.string a] rfl (by(try simp only[List.map_toArray,List.map_cons,List.map_nil]);first|done|rfl) ?_;(with_reducible refine(dR.calls a _ _ hn1).mono ?_);rintro e w' ⟨rfl,⟨nd,rfl⟩⟩;refine⟨_,rfl,?_⟩)|((with_reducible refine aG (f:=158) rfl ?_);refine jE (some 26) rfl rfl Tryz.func158 (by kernel_rfl) rfl #[.string b] rfl (by(try simp only[List.map_toArray,List.map_cons,List.map_nil]);first|done|rfl) ?_;(with_reducible refine(dR.calls b _ _ hn2).mono ?_);rintro e w' ⟨rfl,⟨nd,rfl⟩⟩;refine⟨_,rfl,?_⟩)|((with_reducible refine aG (f:=160) rfl ?_);refine jE (some 30) rfl rfl Tryz.func160 (by kernel_rfl) rfl #[.slice Ax x.length cx,.slice Ay y.length cy] rfl (by(try simp only[List.map_toArray,List.map_cons,List.map_nil]);first|done|rfl) ?_;(with_reducible refine(gQ.calls k _ _ x _ _ y p _ ?side1 ?side2 ?side3 ?side4 hp).mono ?_);(case side1=>repeat(first|exact(Kd.dH HX.out).2.2|(with_reducible refine Kd.iZ ?_ _)|(with_reducible refine Kd.jA ?_ _)|(with_reducible refine Kd.jR ?_)));(case side2=>exact(Kd.dH HX.out).2.1);(case side3=>repeat(first|exact(Kd.dH HY.out).2.2|(with_reducible refine Kd.iZ ?_ _)|(with_reducible refine Kd.jA ?_ _)|(with_reducible refine Kd.jR ?_)));(case side4=>exact(Kd.dH HY.out).2.1);rintro e w20 ⟨v256,rfl,ho0,hb⟩;refine⟨_,rfl,?_⟩;have n0_:=aA.mk (Kd.jF ho0 (dU (by repeat(first|(with_reducible first|exact HB.out|apply cZ|apply bH|apply bG)|exact HB.out))));have n1_:=aA.mk (rE (by repeat(first|(with_reducible first|exact HB.out|apply cZ|apply bH|apply bG)|exact HB.out)) hb);clear HB;have HP:=n0_;have HB:=n1_;clear n0_ n1_;(try clear hb);(try clear ho0);obtain⟨Ap,cp,ep⟩:=Kd.gY HP.out;subst ep)|((with_reducible refine aG (f:=158) rfl ?_);refine jE (some 32) rfl rfl Tryz.func158 (by kernel_rfl) rfl #[.string a] rfl (by(try simp only[List.map_toArray,List.map_cons,List.map_nil]);first|done|rfl) ?_;(with_reducible refine(dR.calls a _ _ hn1).mono ?_);rintro e w' ⟨rfl,⟨nd,rfl⟩⟩;refine⟨_,rfl,?_⟩)|((with_reducible refine aG (f:=157) rfl ?_);refine jE (some 33) rfl rfl Tryz.func157 (by kernel_rfl) rfl #[.slice Ap p.length cp,.bool n1] rfl (by(try simp only[List.map_toArray,List.map_cons,List.map_nil]);first|done|rfl) ?_;(with_reducible refine(dY.calls k (fun k_=>some k_=(.slice Ap p.length cp:Value).ownBlock) (.slice Ap p.length cp) p n1 r w _ ?side1 ?side2 hm).mono ?_);(case side1=>repeat(first|(with_reducible first|exact HB.out|apply cZ|apply bH|apply bG)|exact HB.out));(case side2=>exact Kd.uG rfl (by(with_reducible repeat(first|apply Kd.aX|apply Kd.aY|apply Kd.bP));exact HP.out));rintro e w22 ⟨rfl,hb,hkp⟩;refine⟨_,rfl,?_⟩;have n2_:=aA.mk (hb);clear HB;have HB:=n2_;clear n2_;(try clear hb);(try clear hkp)))
  go_ret
  exact⟨by first|rfl|(simp[*] <;> rfl),by repeat(first|(with_reducible first|exact HB.out|apply cZ|apply bH|apply bG)|exact HB.out)⟩
end Go.Proofs.YtignanmmgaldeaaGreatDoor.PRefA
end
section
set_option linter.unusedVariables false
set_option linter.unusedSimpArgs false
namespace Go.Proofs.YtignanmmgaldeaaGreatDoor
open Go.RowKit Go.Proofs.YtignanmmgaldeaaGreatDoor.RefP Go.Proofs.YtignanmmgaldeaaGreatDoorW.PrintWords Go.Proofs.YtignanmmgaldeaaGreatDoorW.PrintLast
theorem pG{x:Int}(m:Nat)(h:(Lib.decDigits x.natAbs).length≤m):Bd m x:=yB _ _ h
end Go.Proofs.YtignanmmgaldeaaGreatDoor
end
section
set_option linter.unusedVariables false
set_option linter.unusedSimpArgs false
namespace Go.Proofs.YtignanmmgaldeaaGreatDoor.RefP
open Go.RowKit Go.Proofs.YtignanmmgaldeaaGreatDoor.PRefA Go.Proofs.YtignanmmgaldeaaGreatDoorW.PrintWords Go.Proofs.YtignanmmgaldeaaGreatDoorW.PrintLast
theorem aC6{x y:Int}{m:Nat}(hx:Bd m x)(hy:Bd m y)(hm:1≤m)(h4:m≤9000)(k:Nat)(hk:20000≤k):jK.f k (text x) (text y)=some (sgnI (x-y)):=by
 have lx:(dL x.natAbs).length≤9000:=by rw[dL_len];exact Nat.le_trans (lZ hx hm) h4
 have ly:(dL y.natAbs).length≤9000:=by rw[dL_len];exact Nat.le_trans (lZ hy hm) h4
 unfold jK.f;rw[ref_sign x hx hm,Option.bind_some,ref_sign y hy hm,Option.bind_some];rw[aBd hx hm aCo k aCo,Option.bind_some,cut_dL _ k aCo aCo,Option.bind_some,aBd hy hm aCo k aCo,Option.bind_some,cut_dL _ k aCo aCo,Option.bind_some,order_cL _ _ k aCo aCo aCo,Option.bind_some];unfold sgnI
 by_cases x0:x<0
 ·rw[if_pos x0]
  by_cases y0:y<0
  ·rw[if_pos y0,if_pos rfl]
   by_cases h:x<y
   ·rw[if_neg (show ¬((x.natAbs:Int)-(y.natAbs:Int)<0) by omega),if_neg (show ¬((x.natAbs:Int)-(y.natAbs:Int)=0) by omega),if_pos (show x-y<0 by omega)];(first|rfl|decide +kernel)
   ·by_cases h2:x=y
    ·rw[if_neg (show ¬((x.natAbs:Int)-(y.natAbs:Int)<0) by omega),if_pos (show((x.natAbs:Int)-(y.natAbs:Int)=0) by omega),if_neg (show ¬x-y<0 by omega),if_pos (show x-y=0 by omega)];(first|rfl|decide +kernel)
    ·rw[if_pos (show((x.natAbs:Int)-(y.natAbs:Int)<0) by omega),if_neg (show ¬x-y<0 by omega),if_neg (show ¬x-y=0 by omega)];(first|rfl|decide +kernel)
  ·rw[if_neg y0]
   rw[if_pos (show x-y<0 by omega)]
   by_cases y1:y=0
   ·rw[if_pos y1];(first|rfl|decide +kernel)
   ·rw[if_neg y1];(first|rfl|decide +kernel)
 ·rw[if_neg x0]
  by_cases x1:x=0
  ·rw[if_pos x1]
   by_cases y0:y<0
   ·rw[if_pos y0,if_neg (show ¬x-y<0 by omega),if_neg (show ¬x-y=0 by omega)];(first|rfl|decide +kernel)
   ·rw[if_neg y0]
    by_cases y1:y=0
    ·rw[if_pos y1,if_pos rfl,if_neg (show ¬x-y<0 by omega),if_pos (show x-y=0 by omega),if_neg (show ¬((x.natAbs:Int)-(y.natAbs:Int)<0) by omega),if_pos (show((x.natAbs:Int)-(y.natAbs:Int)=0) by omega)];(first|rfl|decide +kernel)
    ·rw[if_neg y1,if_pos (show x-y<0 by omega)];(first|rfl|decide +kernel)
  ·rw[if_neg x1]
   by_cases y0:y<0
   ·rw[if_pos y0,if_neg (show ¬x-y<0 by omega),if_neg (show ¬x-y=0 by omega)];(first|rfl|decide +kernel)
   ·rw[if_neg y0]
    by_cases y1:y=0
    ·rw[if_pos y1,if_neg (show ¬x-y<0 by omega),if_neg (show ¬x-y=0 by omega)];(first|rfl|decide +kernel)
    ·rw[if_neg y1,if_pos rfl]
     by_cases h:x<y
     ·rw[if_pos (show((x.natAbs:Int)-(y.natAbs:Int)<0) by omega),if_pos (show x-y<0 by omega)];(first|rfl|decide +kernel)
     ·by_cases h2:x=y
      ·rw[if_neg (show ¬((x.natAbs:Int)-(y.natAbs:Int)<0) by omega),if_pos (show((x.natAbs:Int)-(y.natAbs:Int)=0) by omega),if_neg (show ¬x-y<0 by omega),if_pos (show x-y=0 by omega)];(first|rfl|decide +kernel)
      ·rw[if_neg (show ¬((x.natAbs:Int)-(y.natAbs:Int)<0) by omega),if_neg (show ¬((x.natAbs:Int)-(y.natAbs:Int)=0) by omega),if_neg (show ¬x-y<0 by omega),if_neg (show ¬x-y=0 by omega)];(first|rfl|decide +kernel)
end Go.Proofs.YtignanmmgaldeaaGreatDoor.RefP
namespace Go.Proofs.YtignanmmgaldeaaGreatDoor
open Go.RowKit Go.Proofs.YtignanmmgaldeaaGreatDoor.PRefA Go.Proofs.YtignanmmgaldeaaGreatDoor.RefP Go.Proofs.YtignanmmgaldeaaGreatDoorW.PrintWords Go.Proofs.YtignanmmgaldeaaGreatDoorW.PrintLast
def okN(n:Nat)(a:ByteArray):Prop:=canon a.data.toList=true∧digN a≤n
instance (n:Nat)(a:ByteArray):Decidable (okN n a):=inferInstanceAs (Decidable (_∧_))
theorem yF{n:Nat}{a:ByteArray}(h:okN n a):∃x,a=text x∧Bd n x:=by
 obtain⟨x,rfl⟩:=lQ a h.1;refine⟨x,rfl,pG _ ?_⟩;rw[←kQ];exact h.2
theorem text_okN{x:Int}{m n:Nat}(h:Bd m x)(hm:1≤m)(h4:m≤n):okN n (text x):=⟨(rO x).1,by rw[kQ];have:=lZ h hm;omega⟩
def pU.f(a0:ByteArray):Option Bool:=if a0.size≤140737488351232 then some (canon a0.data.toList) else none
theorem pU.calls(a0:ByteArray)(r0:Bool)(w:World)(h:pU.f a0=some r0) :
 Calls Tryz.prog 184 #[.string a0] w fun e w'=>e= .returned (.bool r0)∧aZ w w':=by
 unfold pU.f at h
 split at h
 ·rename_i hs
  obtain rfl:=Option.some.inj h;exact aW.calls (a0.size+2+2) _ _ w (ref_form a0 hs _ (Nat.le_refl _))
 ·cases h
def qY.f(a0:ByteArray):Option Int:=if a0.size≤140737488351232 then some (chkI a0) else none
theorem qY.calls(a0:ByteArray)(r0:Int)(w:World)(h:qY.f a0=some r0) :
 Calls Tryz.prog 115 #[.string a0] w fun e w'=>e= .returned (.int .i64 r0)∧aZ w w':=by
 unfold qY.f at h
 split at h
 ·rename_i hs
  obtain rfl:=Option.some.inj h;exact kY.calls (a0.size+4) _ _ w (ref_check a0 hs _ (Nat.le_refl _))
 ·cases h
def nP.f(a0:ByteArray):Option Int:=if 0<a0.size∧a0.size≤140737488351232 then some (digN a0:Int) else none
theorem nP.calls(a0:ByteArray)(r0:Int)(w:World)(h:nP.f a0=some r0) :
 Calls Tryz.prog 149 #[.string a0] w fun e w'=>e= .returned (.int .i64 r0)∧aZ w w':=by
 unfold nP.f at h
 split at h
 ·rename_i hs
  obtain rfl:=Option.some.inj h;exact gW.calls _ _ w (aC3 a0 hs.2 hs.1)
 ·cases h
def kD.f(a0:ByteArray):Option Int:=if okN 9000 a0 then some (sgnI (aN a0)) else none
theorem kD.calls(a0:ByteArray)(r0:Int)(w:World)(h:kD.f a0=some r0) :
 Calls Tryz.prog 142 #[.string a0] w fun e w'=>e= .returned (.int .i64 r0)∧aZ w w':=by
 unfold kD.f at h
 split at h
 ·rename_i hs
  obtain⟨x,rfl,bx⟩:=yF hs;obtain rfl:=Option.some.inj h;rw[dQ];exact fP.calls _ _ w (ref_sign x bx aCo)
 ·cases h
theorem sign_val{x:Int}{m:Nat}(hx:Bd m x)(hm:1≤m)(h4:m≤9000):kD.f (text x)=some (sgnI x):=by
 unfold kD.f;rw[if_pos (text_okN hx hm h4),dQ]
def aAy.f(a0 a1:ByteArray):Option Int:=if okN 9000 a0∧okN 9000 a1 then some (sgnI (aN a0-aN a1)) else none
theorem aAy.calls(a0 a1:ByteArray)(r0:Int)(w:World)(h:aAy.f a0 a1=some r0) :
 Calls Tryz.prog 186 #[.string a0,.string a1] w fun e w'=>e= .returned (.int .i64 r0)∧Below w.heap.size w w':=by
 unfold aAy.f at h
 split at h
 ·rename_i hs
  obtain⟨x,rfl,bx⟩:=yF hs.1;obtain⟨y,rfl,by'⟩:=yF hs.2;obtain rfl:=Option.some.inj h;rw[dQ,dQ];obtain⟨k,hk⟩:∃k:Nat,k=20000:=⟨_,rfl⟩
  exact jK.calls k _ _ _ w (aC6 bx by' aCo aCo k aCo)
 ·cases h
theorem vS(z:Int):sgnI z<0↔z<0:=by
 unfold sgnI
 split
 ·omega
 ·split <;> omega
def pV.f(a0 a1:ByteArray):Option Bool:=if okN 9000 a0∧okN 9000 a1 then some (decide (aN a0<aN a1)) else none
theorem pV.calls(a0 a1:ByteArray)(r0:Bool)(w:World)(h:pV.f a0 a1=some r0) :
 Calls Tryz.prog 143 #[.string a0,.string a1] w fun e w'=>e= .returned (.bool r0)∧Below w.heap.size w w':=by
 unfold pV.f at h
 split at h
 ·rename_i hs
  obtain⟨x,rfl,bx⟩:=yF hs.1;obtain⟨y,rfl,by'⟩:=yF hs.2;obtain rfl:=Option.some.inj h;rw[dQ,dQ];obtain⟨k,hk⟩:∃k:Nat,k=20000:=⟨_,rfl⟩
  refine nO.calls k _ _ _ w ?_;unfold nO.f;rw[aC6 bx by' aCo aCo k aCo,Option.bind_some]
  congr 1
  exact decide_eq_decide.2 (by rw[vS];omega)
 ·cases h
theorem less_val{x y:Int}{m:Nat}(hx:Bd m x)(hy:Bd m y)(hm:1≤m)(h4:m≤9000):pV.f (text x) (text y)=some (decide (x<y)):=by
 unfold pV.f;rw[if_pos ⟨text_okN hx hm h4,text_okN hy hm h4⟩,dQ,dQ]
end Go.Proofs.YtignanmmgaldeaaGreatDoor
end
section
set_option linter.unusedVariables false
set_option linter.unusedSimpArgs false
namespace Go.Proofs.YtignanmmgaldeaaGreatDoor.PCongI
open Go.RowKit Go.Proofs.YtignanmmgaldeaaGreatDoorW.PrintWords Go.Proofs.YtignanmmgaldeaaGreatDoorW.PrintLast Go.Proofs.YtignanmmgaldeaaGreatDoorW.PrintMore
attribute [local go_sem] gI gJ iE iF
def errW:Option Int→Value
 |none=> .nilIface
 |some c=> .iface 0 (.int .i64 c)
theorem dW:errW none= .nilIface:=rfl
theorem dX(c:Int):errW (some c)= .iface 0 (.int .i64 c):=rfl
end Go.Proofs.YtignanmmgaldeaaGreatDoor.PCongI
end
section
set_option linter.unusedVariables false
set_option linter.unusedSimpArgs false
namespace Go.Proofs.YtignanmmgaldeaaGreatDoor.PCongI
open Go.RowKit Go.Proofs.YtignanmmgaldeaaGreatDoorW.PrintWords Go.Proofs.YtignanmmgaldeaaGreatDoorW.PrintLast Go.Proofs.YtignanmmgaldeaaGreatDoorW.PrintMore
attribute [local go_sem] gI gJ iE iF
theorem eqA36(d:Nat)(w:World)(x0 y0:Bool)(x1 y1:ByteArray)(x2 y2:ByteArray) :
 (Op.equalIn (d+2) 36 (.agg #[.bool x0,.string x1,.string x2]) (.agg #[.bool y0,.string y1,.string y2])).run Tryz.prog w= .ok (x0==y0&&(x1.toList==y1.toList&&(x2.toList==y2.toList))) w:=by
 refine eqA_of Tryz.underlying36 (by kernel_rfl) ?_;refine vP (by rfl) (by go_simp;rfl) (by go_simp;rfl) (by go_simp) ?_;refine vP (by rfl) (by go_simp;rfl) (by go_simp;rfl) (by go_simp) ?_;exact eqf_last (by rfl) (by go_simp;rfl) (by go_simp;rfl) (by go_simp)
end Go.Proofs.YtignanmmgaldeaaGreatDoor.PCongI
end
section
set_option linter.unusedVariables false
set_option linter.unusedSimpArgs false
set_option maxHeartbeats 8000000
set_option maxRecDepth 100000
namespace Go.Proofs.YtignanmmgaldeaaGreatDoor.PCongI
open Go.RowKit Go.Proofs.YtignanmmgaldeaaGreatDoorW.PrintWords Go.Proofs.YtignanmmgaldeaaGreatDoorW.PrintLast Go.Proofs.YtignanmmgaldeaaGreatDoorW.PrintMore
attribute [local go_sem] gI gJ iE iF
def kK.f(a0:Int)(a1:Int):Option (Int):=some a0
theorem kK.calls(a0:Int)(a1:Int)(r:Int)(w:World)(h:kK.f a0 a1=some r) :
 Calls Tryz.prog 185 #[.int .i64 a0,.int .i64 a1] w fun e w'=>e= .returned (.int .i64 r)∧aZ w w':=by
 have H:(some a0)=some r:=h;clear h;obtain rfl:=Option.some.inj H;go_enter Tryz.func185,Tryz.ntmps185
 go_wp2
 go_ret
 exact⟨by first|rfl|(simp;done)|(simp[*];done),by repeat(first|exact aZ.refl _|apply aZ.step)⟩
def eF.f(a0:ByteArray)(a1:ByteArray):Option (Bool):=(kN.f a0 a1).bind fun bt101=>((kK.f bt101.1 bt101.2).bind fun t103=>(some (decide (t103<0))))
theorem eF.calls(a0:ByteArray)(a1:ByteArray)(r:Bool)(w:World)(h:eF.f a0 a1=some r) :
 Calls Tryz.prog 134 #[.string a0,.string a1] w fun e w'=>e= .returned (.bool r)∧Below w.heap.size w w':=by
 have HB:=aA.mk (Below.refl w.heap.size w);have H:((kN.f a0 a1).bind fun bt101=>((kK.f bt101.1 bt101.2).bind fun t103=>(some (decide (t103<0)))))=some r:=h;clear h;obtain⟨⟨t101,t102⟩,A3,H⟩:=bi H;try dsimp only at H
 obtain⟨t103,A4,H⟩:=bi H;try dsimp only at H
 obtain rfl:=Option.some.inj H;go_enter Tryz.func134,Tryz.ntmps134
 go_wp2_with(first|((with_reducible refine aG (f:=69) rfl ?_);refine gl_ 7 Tryz.func69 #[.string a0,.string a1] (h:= ?_);(with_reducible refine(kN.calls a0 a1 t101 t102 _ A3.out).mono ?_);rintro e w5 ⟨rfl,hb⟩;refine⟨_,rfl,?_⟩;replace HB:=pkB HB hb;try clear hb)|((with_reducible refine aG (f:=185) rfl ?_);refine gl_ 10 Tryz.func185 #[.int .i64 t101,.int .i64 t102] (h:= ?_);(with_reducible refine(kK.calls t101 t102 t103 _ A4.out).mono ?_);rintro e w' ⟨rfl,⟨nd,rfl⟩⟩;refine⟨_,rfl,?_⟩))
 go_ret
 exact pkE HB
def stringslite_HasPrefix.f(a0:ByteArray)(a1:ByteArray):Option (Bool):=if(a0.size:Int)≥(a1.size:Int) then(if 0≤(a1.size:Int) then(if(a1.size:Int)≤(a0.size:Int) then(some ((a0.extract 0 ((a1.size:Int):Int).toNat).toList==a1.toList)) else(none)) else(none)) else(some false)
theorem stringslite_HasPrefix.calls(a0:ByteArray)(a1:ByteArray)(r:Bool)(w:World)(h:stringslite_HasPrefix.f a0 a1=some r) :
 Calls Tryz.prog 220 #[.string a0,.string a1] w fun e w'=>e= .returned (.bool r)∧aZ w w':=by
 have H:(if(a0.size:Int)≥(a1.size:Int) then(if 0≤(a1.size:Int) then(if(a1.size:Int)≤(a0.size:Int) then(some ((a0.extract 0 ((a1.size:Int):Int).toNat).toList==a1.toList)) else(none)) else(none)) else(some false))=some r:=h;clear h
 by_cases c3:(a0.size:Int)≥(a1.size:Int)
 ·rw[if_pos c3] at H
  have c3b0:decide ((a1.size:Int)≤(a0.size:Int))=true:=decide_eq_true c3;have c3b1:decide (a1.size≤a0.size)=true:=decide_eq_true (Int.ofNat_le.mp c3);clear c3
  by_cases c4:0≤(a1.size:Int)
  ·rw[if_pos c4] at H
   have c4b0:=eq_true c4;have c4b1:decide (0≤(a1.size:Int))=true:=decide_eq_true c4;clear c4
   by_cases c5:(a1.size:Int)≤(a0.size:Int)
   ·rw[if_pos c5] at H
    have c5b0:=eq_true c5;have c5b1:decide ((a1.size:Int)≤(a0.size:Int))=true:=decide_eq_true c5;clear c5;obtain rfl:=Option.some.inj H;go_enter Tryz.func220,Tryz.ntmps220
    go_wp2
    go_ret
    exact⟨by first|rfl|(simp;done)|(simp[*];done),by repeat(first|exact aZ.refl _|apply aZ.step)⟩
   ·rw[if_neg c5] at H
    exact absurd H aCq
  ·rw[if_neg c4] at H
   exact absurd H aCq
 ·rw[if_neg c3] at H
  have c3b0:decide ((a1.size:Int)≤(a0.size:Int))=false:=decide_eq_false c3;have c3b1:decide (a1.size≤a0.size)=false:=decide_eq_false (fun h=>c3 (Int.ofNat_le.mpr h));clear c3;obtain rfl:=Option.some.inj H;go_enter Tryz.func220,Tryz.ntmps220
  go_wp2
  go_ret
  exact⟨by first|rfl|(simp;done)|(simp[*];done),by repeat(first|exact aZ.refl _|apply aZ.step)⟩
def stringslite_TrimPrefix.f(a0:ByteArray)(a1:ByteArray):Option (ByteArray):=(stringslite_HasPrefix.f a0 a1).bind fun t104=>(if t104=true then(if 0≤(a1.size:Int) then(if(a1.size:Int)≤(a0.size:Int) then(some (a0.extract ((a1.size:Int):Int).toNat a0.size)) else(none)) else(none)) else(some a0))
theorem stringslite_TrimPrefix.calls(a0:ByteArray)(a1:ByteArray)(r:ByteArray)(w:World)(h:stringslite_TrimPrefix.f a0 a1=some r) :
 Calls Tryz.prog 215 #[.string a0,.string a1] w fun e w'=>e= .returned (.string r)∧aZ w w':=by
 have H:((stringslite_HasPrefix.f a0 a1).bind fun t104=>(if t104=true then(if 0≤(a1.size:Int) then(if(a1.size:Int)≤(a0.size:Int) then(some (a0.extract ((a1.size:Int):Int).toNat a0.size)) else(none)) else(none)) else(some a0)))=some r:=h;clear h;obtain⟨t104,A3,H⟩:=bi H;try dsimp only at H
 by_cases c4:t104=true
 ·subst c4
  rw[if_pos rfl] at H
  by_cases c5:0≤(a1.size:Int)
  ·rw[if_pos c5] at H
   have c5b0:=eq_true c5;have c5b1:decide (0≤(a1.size:Int))=true:=decide_eq_true c5;clear c5
   by_cases c6:(a1.size:Int)≤(a0.size:Int)
   ·rw[if_pos c6] at H
    have c6b0:=eq_true c6;have c6b1:decide ((a1.size:Int)≤(a0.size:Int))=true:=decide_eq_true c6;clear c6;obtain rfl:=Option.some.inj H;go_enter Tryz.func215,Tryz.ntmps215
    go_wp2_with(first|((with_reducible refine aG (f:=220) rfl ?_);refine gl_ 7 Tryz.func220 #[.string a0,.string a1] (h:= ?_);(with_reducible refine(stringslite_HasPrefix.calls a0 a1 true _ A3.out).mono ?_);rintro e w' ⟨rfl,⟨nd,rfl⟩⟩;refine⟨_,rfl,?_⟩))
    go_ret
    exact⟨by first|rfl|(simp;done)|(simp[*];done),by repeat(first|exact aZ.refl _|apply aZ.step)⟩
   ·rw[if_neg c6] at H
    exact absurd H aCq
  ·rw[if_neg c5] at H
   exact absurd H aCq
 ·replace c4:=Bool.eq_false_iff.mpr c4
  subst c4;rw[if_neg (show ¬(false=true) by decide)] at H;obtain rfl:=Option.some.inj H;go_enter Tryz.func215,Tryz.ntmps215
  go_wp2_with(first|((with_reducible refine aG (f:=220) rfl ?_);refine gl_ 7 Tryz.func220 #[.string a0,.string a1] (h:= ?_);(with_reducible refine(stringslite_HasPrefix.calls a0 a1 false _ A3.out).mono ?_);rintro e w' ⟨rfl,⟨nd,rfl⟩⟩;refine⟨_,rfl,?_⟩))
  go_ret
  exact⟨by first|rfl|(simp;done)|(simp[*];done),by repeat(first|exact aZ.refl _|apply aZ.step)⟩
def strings_TrimPrefix.f(a0:ByteArray)(a1:ByteArray):Option (ByteArray):=(stringslite_TrimPrefix.f a0 a1).bind fun t105=>(some t105)
theorem strings_TrimPrefix.calls(a0:ByteArray)(a1:ByteArray)(r:ByteArray)(w:World)(h:strings_TrimPrefix.f a0 a1=some r) :
 Calls Tryz.prog 191 #[.string a0,.string a1] w fun e w'=>e= .returned (.string r)∧aZ w w':=by
 have H:((stringslite_TrimPrefix.f a0 a1).bind fun t105=>(some t105))=some r:=h;clear h;obtain⟨t105,A3,H⟩:=bi H;try dsimp only at H
 obtain rfl:=Option.some.inj H;go_enter Tryz.func191,Tryz.ntmps191
 go_wp2_with(first|((with_reducible refine aG (f:=215) rfl ?_);refine gl_ 7 Tryz.func215 #[.string a0,.string a1] (h:= ?_);(with_reducible refine(stringslite_TrimPrefix.calls a0 a1 t105 _ A3.out).mono ?_);rintro e w' ⟨rfl,⟨nd,rfl⟩⟩;refine⟨_,rfl,?_⟩))
 go_ret
 exact⟨by first|rfl|(simp;done)|(simp[*];done),by repeat(first|exact aZ.refl _|apply aZ.step)⟩
def iG.f(a0:ByteArray):Option (Bool):=(strings_TrimPrefix.f a0 (⟨#[45]⟩:ByteArray)).bind fun t106=>(some (decide ((t106.size:Int)>100)))
theorem iG.calls(a0:ByteArray)(r:Bool)(w:World)(h:iG.f a0=some r) :
 Calls Tryz.prog 183 #[.string a0] w fun e w'=>e= .returned (.bool r)∧aZ w w':=by
 have H:((strings_TrimPrefix.f a0 (⟨#[45]⟩:ByteArray)).bind fun t106=>(some (decide ((t106.size:Int)>100))))=some r:=h;clear h;obtain⟨t106,A2,H⟩:=bi H;try dsimp only at H
 obtain rfl:=Option.some.inj H;go_enter Tryz.func183,Tryz.ntmps183
 go_wp2_with(first|((with_reducible refine aG (f:=191) rfl ?_);refine gl_ 4 Tryz.func191 #[.string a0,.string (⟨#[45]⟩:ByteArray)] (h:= ?_);(with_reducible refine(strings_TrimPrefix.calls a0 (⟨#[45]⟩:ByteArray) t106 _ A2.out).mono ?_);rintro e w' ⟨rfl,⟨nd,rfl⟩⟩;refine⟨_,rfl,?_⟩))
 go_ret
 exact⟨by first|rfl|(simp;done)|(simp[*];done),by repeat(first|exact aZ.refl _|apply aZ.step)⟩
def eH.j0:Nat→Int→Bool→Option (Int)
 |0,_,_=>none
 |k+1,x3,x15=>if x15=true then(some 10) else(if x3=0 then(some 0) else(some x3))
def eH.f(k:Nat)(a0:ByteArray):Option (Int):=(fA.f a0).bind fun t107=>(if t107=10 then(eH.j0 k t107 true) else(if t107=0 then((iG.f a0).bind fun t108=>(eH.j0 k t107 t108)) else(eH.j0 k t107 false)))
theorem eH.calls(k:Nat)(a0:ByteArray)(r:Int)(w:World)(h:eH.f k a0=some r) :
 Calls Tryz.prog 140 #[.string a0] w fun e w'=>e= .returned (.int .i64 r)∧Below w.heap.size w w':=by
 have HB:=aA.mk (Below.refl w.heap.size w);have H:((fA.f a0).bind fun t107=>(if t107=10 then(eH.j0 k t107 true) else(if t107=0 then((iG.f a0).bind fun t108=>(eH.j0 k t107 t108)) else(eH.j0 k t107 false))))=some r:=h;clear h;obtain⟨t107,A2,H⟩:=bi H;try dsimp only at H
 have HC3:=aA.mk H;clear H;go_enter Tryz.func140,Tryz.ntmps140
 go_upto_region 2 with (first|((with_reducible refine aG (f:=73) rfl ?_);refine gl_ 5 Tryz.func73 #[.string a0] (h:= ?_);(with_reducible refine(fA.calls a0 t107 _ A2.out).mono ?_);rintro e w4 ⟨rfl,hb⟩;refine⟨_,rfl,?_⟩;replace HB:=pkB HB hb;try clear hb))
 (try simp only[Act.put,List.setIfInBounds_toArray,List.set_cons_zero,List.set_cons_succ])
 go_cut [15] (fun v15 wc=>∃(kq:Nat) (x15_2:Bool),v15= .bool x15_2∧aA (eH.j0 kq t107 x15_2=some r)∧aA (kq≤k)∧aA (Below w.heap.size w wc))
 case first=>
  have H:=HC3.out;clear HC3
  by_cases c5:t107=10
  ·rw[if_pos c5] at H
   have c5b0:(t107==10)=true:=beq_iff_eq.mpr c5;have c5b1:(t107 != 10)=false:=bne_eq_false_iff_eq.mpr c5;clear c5
   (first|rw[c5b0]|(simp only[dE,dM];rw[c5b0])|skip)
   have H':=aA.mk H;clear H;go_wp2
   go_meet
   case rel=>exact⟨_,(true),aCs,H',⟨by first|omega|exact Nat.le_refl _⟩,⟨pkL HB⟩⟩
  ·rw[if_neg c5] at H
   have c5b0:(t107==10)=false:=beq_eq_false_iff_ne.mpr c5;have c5b1:(t107 != 10)=true:=bne_iff_ne.mpr c5
   (first|rw[c5b0]|(simp only[dE,dM];rw[c5b0])|skip)
   by_cases c6:t107=0
   ·rw[if_pos c6] at H
    have c6b0:(t107==0)=true:=beq_iff_eq.mpr c6;have c6b1:(t107 != 0)=false:=bne_eq_false_iff_eq.mpr c6;clear c6;obtain⟨t108,A7,H⟩:=bi H;try dsimp only at H
    have H':=aA.mk H;clear H
    go_wp2_with(first|(go_at_call 183;(with_reducible refine(iG.calls a0 t108 _ A7.out).mono ?_);rintro e w' ⟨rfl,⟨nd,rfl⟩⟩))
    go_meet
    case rel=>exact⟨_,(t108),aCs,H',⟨by first|omega|exact Nat.le_refl _⟩,⟨pkL HB⟩⟩
   ·rw[if_neg c6] at H
    have c6b0:(t107==0)=false:=beq_eq_false_iff_ne.mpr c6;have c6b1:(t107 != 0)=true:=bne_iff_ne.mpr c6;have H':=aA.mk H;clear H;go_wp2
    go_meet
    case rel=>exact⟨_,(false),aCs,H',⟨by first|omega|exact Nat.le_refl _⟩,⟨pkL HB⟩⟩
 case rest=>
  clear HC3;try clear c5
  try clear c5b0
  try clear c5b1
  try clear c6
  try clear c6b0
  try clear c6b1
  obtain⟨kq,x15_2,rfl,HA,HJ2,HB⟩:=hcut
  cases kq with
  |zero=>exact absurd HA.out (by simp[eH.j0])
  |succ kj2=>
   have H:=HA.out;clear HA;simp only[eH.j0] at H
   by_cases c8:x15_2=true
   ·subst c8
    rw[if_pos rfl] at H;obtain rfl:=Option.some.inj H;go_wp2
    go_ret
    exact pkE HB
   ·replace c8:=Bool.eq_false_iff.mpr c8
    subst c8;rw[if_neg (show ¬(false=true) by decide)] at H
    by_cases c9:t107=0
    ·rw[if_pos c9] at H
     have c9b0:(t107==0)=true:=beq_iff_eq.mpr c9;have c9b1:(t107 != 0)=false:=bne_eq_false_iff_eq.mpr c9;clear c9;obtain rfl:=Option.some.inj H;go_wp2
     go_ret
     exact pkE HB
    ·rw[if_neg c9] at H
     have c9b0:(t107==0)=false:=beq_eq_false_iff_ne.mpr c9;have c9b1:(t107 != 0)=true:=bne_iff_ne.mpr c9;obtain rfl:=Option.some.inj H;go_wp2
     go_ret
     exact pkE HB
def bQ.l0:Nat→List ByteArray→Int→Int→Bool→ByteArray→ByteArray→Option (Int)
 |0,_,_,_,_,_,_=>none
 |k+1,x20,x21,x22,x110000,x110001,x110002=>if x22<x21 then(if 0≤x22 then(if x22<(x20.length:Int) then((eH.f k (rdOf ByteArray.empty x20 x22)).bind fun t114=>(if t114=0 then(bQ.l0 k x20 x21 (wrap64 (x22+1)) x110000 x110001 x110002) else(some t114))) else(none)) else(none)) else((eF.f x110001 (⟨#[48]⟩:ByteArray)).bind fun t115=>(if t115=true then(some 2) else(if x110001.toList=([48]:List UInt8) then(some 0) else((eF.f x110002 (⟨#[48]⟩:ByteArray)).bind fun t116=>(if t116=true then(some 2) else((eF.f x110002 x110001).bind fun t117=>(if t117=true then(some 0) else(some 2))))))))
def bQ.f(k:Nat)(a0_0:Bool)(a0_1:ByteArray)(a0_2:ByteArray):Option (Int):=if a0_0=true then(if a0_1.toList=([]:List UInt8) then(if a0_2.toList=([]:List UInt8) then(some 0) else(some 3)) else(some 3)) else((some (([a0_1,a0_2]:List ByteArray):List ByteArray)).bind fun y110=>(bQ.l0 k y110 (y110.length:Int) 0 a0_0 a0_1 a0_2))
theorem bQ.calls(k:Nat)(a0_0:Bool)(a0_1:ByteArray)(a0_2:ByteArray)(r:Int)(w:World)(h:bQ.f k a0_0 a0_1 a0_2=some r) :
 Calls Tryz.prog 66 #[.agg #[.bool a0_0,.string a0_1,.string a0_2]] w fun e w'=>e= .returned (.int .i64 r)∧Below w.heap.size w w':=by
 have hu36:=Tryz.underlying36;have HB:=aA.mk (Below.refl w.heap.size w);have H:(if a0_0=true then(if a0_1.toList=([]:List UInt8) then(if a0_2.toList=([]:List UInt8) then(some 0) else(some 3)) else(some 3)) else((some (([a0_1,a0_2]:List ByteArray):List ByteArray)).bind fun y110=>(bQ.l0 k y110 (y110.length:Int) 0 a0_0 a0_1 a0_2)))=some r:=h;clear h
 by_cases c2:a0_0=true
 ·subst c2
  rw[if_pos rfl] at H
  by_cases c3:a0_1.toList=([]:List UInt8)
  ·rw[if_pos c3] at H
   have c3b0:(a0_1.toList==([]:List UInt8))=true:=beq_iff_eq.mpr c3;have c3b1:(a0_1.toList != ([]:List UInt8))=false:=bne_eq_false_iff_eq.mpr c3;clear c3
   by_cases c4:a0_2.toList=([]:List UInt8)
   ·rw[if_pos c4] at H
    have c4b0:(a0_2.toList==([]:List UInt8))=true:=beq_iff_eq.mpr c4;have c4b1:(a0_2.toList != ([]:List UInt8))=false:=bne_eq_false_iff_eq.mpr c4;clear c4;obtain rfl:=Option.some.inj H;go_enter Tryz.func66,Tryz.ntmps66
    go_wp2_with(first|((with_reducible refine aJ (N:=1) rfl ?_);refine bx_ 1 36 #[.bool true,.string a0_1,.string a0_2] (h:= ?_);intro gb109 hg w5 hbox hb;have BK109:=aA.mk (hbox);have GW109:=pkG HB hg;have GE109:=GW109;replace HB:=pkB HB hb;clear hb hbox hg;obtain⟨⟨hcz6_0,hcz6_1,hcz6_2⟩,hfz6_0,hfz6_1,hfz6_2⟩:=pk3 BK109))
    go_ret
    exact pkE HB
   ·rw[if_neg c4] at H
    have c4b0:(a0_2.toList==([]:List UInt8))=false:=beq_eq_false_iff_ne.mpr c4;have c4b1:(a0_2.toList != ([]:List UInt8))=true:=bne_iff_ne.mpr c4;obtain rfl:=Option.some.inj H;go_enter Tryz.func66,Tryz.ntmps66
    go_wp2_with(first|((with_reducible refine aJ (N:=1) rfl ?_);refine bx_ 1 36 #[.bool true,.string a0_1,.string a0_2] (h:= ?_);intro gb109 hg w7 hbox hb;have BK109:=aA.mk (hbox);have GW109:=pkG HB hg;have GE109:=GW109;replace HB:=pkB HB hb;clear hb hbox hg;obtain⟨⟨hcz8_0,hcz8_1,hcz8_2⟩,hfz8_0,hfz8_1,hfz8_2⟩:=pk3 BK109))
    go_ret
    exact pkE HB
  ·rw[if_neg c3] at H
   have c3b0:(a0_1.toList==([]:List UInt8))=false:=beq_eq_false_iff_ne.mpr c3;have c3b1:(a0_1.toList != ([]:List UInt8))=true:=bne_iff_ne.mpr c3;obtain rfl:=Option.some.inj H;go_enter Tryz.func66,Tryz.ntmps66
   go_wp2_with(first|((with_reducible refine aJ (N:=1) rfl ?_);refine bx_ 1 36 #[.bool true,.string a0_1,.string a0_2] (h:= ?_);intro gb109 hg w9 hbox hb;have BK109:=aA.mk (hbox);have GW109:=pkG HB hg;have GE109:=GW109;replace HB:=pkB HB hb;clear hb hbox hg;obtain⟨⟨hcz10_0,hcz10_1,hcz10_2⟩,hfz10_0,hfz10_1,hfz10_2⟩:=pk3 BK109))
   go_ret
   exact pkE HB
 ·replace c2:=Bool.eq_false_iff.mpr c2
  subst c2;rw[if_neg (show ¬(false=true) by decide)] at H;obtain⟨y110,hy110⟩:∃y_:List ByteArray,y_=(([a0_1,a0_2]:List ByteArray)):=⟨_,rfl⟩
  replace H:(bQ.l0 k y110 (y110.length:Int) 0 false a0_1 a0_2)=some r:=by first|(rw[hy110];with_reducible exact H)|(have H2_:=(Option.bind_some _ _).symm.trans H;rw[hy110];with_reducible exact H2_)|(have H2_:=(Option.bind_some _ _).symm.trans H;with_reducible exact H2_)|with_reducible exact H|(rw[hy110];exact H)|exact H
  have Ny110:=aA.mk hy110;clear hy110;have H':=aA.mk H;clear H;go_enter Tryz.func66,Tryz.ntmps66
  go_wp2_with(first|((with_reducible refine aJ (N:=1) rfl ?_);refine bx_ 1 36 #[.bool false,.string a0_1,.string a0_2] (h:= ?_);intro gb109 hg w11 hbox hb;have BK109:=aA.mk (hbox);have GW109:=pkG HB hg;have GE109:=GW109;replace HB:=pkB HB hb;clear hb hbox hg;obtain⟨⟨hcz12_0,hcz12_1,hcz12_2⟩,hfz12_0,hfz12_1,hfz12_2⟩:=pk3 BK109)|((with_reducible refine aJ (N:=20) rfl ?_);refine Kd.lV Kd.string _ 22 ?hg (N:=20) ?hd (xs:=([a0_1,a0_2]:List ByteArray)) (inner:= [.string a0_1,.string a0_2]) (ok:=fun _=>True) (okp:=fun _=>True) ?hr ?hp (fun _ hk=>hk) trivial (Below.refl _ _) (Nat.le_refl _) aCq ?_;(case hd=>rfl);(case hg=>rfl);(case hr=>first|(go_simp;done)|(go_simp;rfl));(case hp=>exact(Reps.one (show Kd.M Kd.string _ _ _ a0_1 [.string a0_1] from rfl) (Reps.one (show Kd.M Kd.string _ _ _ a0_2 [.string a0_2] from rfl) (Reps.none _ _))));intro v111 w13 ho14 hb hg_ hnew_;clear hg_ hnew_;(first|rw[←Ny110.out] at ho14|(simp only[Int.reduceToNat] at ho14;rw[←Ny110.out] at ho14));have HO112:=aA.mk (Kd.jF ho14 (dU (pkL HB)));replace BK109:=pkK BK109 hb;replace HB:=pkB HB hb;clear hb ho14;obtain⟨Ao15,co15,eo15⟩:=Kd.gY HO112.out;subst eo15))
  go_loopg [22] k (fun kq v22 w'=>∃(x22_1:Int),v22= .int .i64 x22_1∧aA (bQ.l0 kq y110 (y110.length:Int) x22_1 false a0_1 a0_2=some r)∧aA (kq≤k)∧aA (Kd.R Kd.string 22 w' w.heap.size (fun _=>True) (.slice Ao15 y110.length co15) y110)∧aA (w'.heap[gb109]? =some (.cells #[.bool false,.string a0_1,.string a0_2] 36 (0,0)))∧aA (Below w.heap.size w w'))
  case atStart=>exact⟨(0),aCs,H',⟨Nat.le_refl _⟩,⟨by(with_reducible repeat(first|apply Kd.aX|apply Kd.aY|apply Kd.bP));exact HO112.out⟩,⟨pkW BK109⟩,⟨pkL HB⟩⟩
  case round=>
   clear H';try clear c2
   try clear c3
   try clear c3b0
   try clear c3b1
   try clear c4
   try clear c4b0
   try clear c4b1
   try clear hcz10_0
   try clear hcz10_1
   try clear hcz10_2
   try clear hcz12_0
   try clear hcz12_1
   try clear hcz12_2
   try clear hcz6_0
   try clear hcz6_1
   try clear hcz6_2
   try clear hcz8_0
   try clear hcz8_1
   try clear hcz8_2
   try clear hfz10_0
   try clear hfz10_1
   try clear hfz10_2
   try clear hfz12_0
   try clear hfz12_1
   try clear hfz12_2
   try clear hfz6_0
   try clear hfz6_1
   try clear hfz6_2
   try clear hfz8_0
   try clear hfz8_1
   try clear hfz8_2
   obtain⟨x22_1,rfl,HA,HK1,HO_20,BK109,HB⟩:=hrel
   cases gk with
   |zero=>exact absurd HA.out (by simp[bQ.l0])
   |succ k1=>
    have H:=HA.out;clear HA;simp only[bQ.l0] at H
    by_cases c16:x22_1<(y110.length:Int)
    ·rw[if_pos c16] at H
     have c16b0:decide (x22_1<(y110.length:Int))=true:=decide_eq_true c16;clear c16
     by_cases c17:0≤x22_1
     ·rw[if_pos c17] at H
      have c17b0:decide (0≤x22_1)=true:=decide_eq_true c17;clear c17
      by_cases c18:x22_1<(y110.length:Int)
      ·rw[if_pos c18] at H
       have c18b0:decide (x22_1<(y110.length:Int))=true:=decide_eq_true c18;clear c18;obtain⟨t114,A19,H⟩:=bi H;try dsimp only at H
       by_cases c20:t114=0
       ·rw[if_pos c20] at H
        have c20b0:(t114==0)=true:=beq_iff_eq.mpr c20;have c20b1:(t114 != 0)=false:=bne_eq_false_iff_eq.mpr c20;clear c20;have H':=aA.mk H;clear H;have p113:0≤(x22_1:Int):=of_decide_eq_true (by first|(with_reducible assumption)|assumption);have q113:x22_1<(y110.length:Int):=of_decide_eq_true (by first|(with_reducible assumption)|assumption);obtain⟨ad113,e113,hx113_0⟩:=Kd.oW (Kd.dH HO_20.out).2.2 x22_1 p113 q113
        cases e113
        replace p113:=eq_true p113;replace q113:=eq_true q113
        go_wp2_with(first|((with_reducible refine aG (f:=140) rfl ?_);refine gl_ 27 Tryz.func140 #[.string (rdOf ByteArray.empty y110 x22_1)] (h:= ?_);(with_reducible refine(eH.calls k1 (rdOf ByteArray.empty y110 x22_1) t114 _ A19.out).mono ?_);rintro e w21 ⟨rfl,hb⟩;refine⟨_,rfl,?_⟩;replace HO_20:=aA.mk (Kd.dD (by(with_reducible repeat(first|apply Kd.aX|apply Kd.aY|apply Kd.bP));exact HO_20.out) hb);replace BK109:=pkK BK109 hb;replace HB:=pkB HB hb;try clear hb))
        go_roundg k1
        case measure=>have:=HK1.out;omega
        case rel=>exact⟨(wrap64 (x22_1+1)),aCs,H',⟨by have:=HK1.out;omega⟩,⟨by(with_reducible repeat(first|apply Kd.aX|apply Kd.aY|apply Kd.bP));exact HO_20.out⟩,⟨pkW BK109⟩,⟨pkL HB⟩⟩
       ·rw[if_neg c20] at H
        have c20b0:(t114==0)=false:=beq_eq_false_iff_ne.mpr c20;have c20b1:(t114 != 0)=true:=bne_iff_ne.mpr c20;obtain rfl:=Option.some.inj H;have p113:0≤(x22_1:Int):=of_decide_eq_true (by first|(with_reducible assumption)|assumption);have q113:x22_1<(y110.length:Int):=of_decide_eq_true (by first|(with_reducible assumption)|assumption);obtain⟨ad113,e113,hx113_0⟩:=Kd.oW (Kd.dH HO_20.out).2.2 x22_1 p113 q113
        cases e113
        replace p113:=eq_true p113;replace q113:=eq_true q113
        go_wp2_with(first|((with_reducible refine aG (f:=140) rfl ?_);refine gl_ 27 Tryz.func140 #[.string (rdOf ByteArray.empty y110 x22_1)] (h:= ?_);(with_reducible refine(eH.calls k1 (rdOf ByteArray.empty y110 x22_1) t114 _ A19.out).mono ?_);rintro e w22 ⟨rfl,hb⟩;refine⟨_,rfl,?_⟩;replace HO_20:=aA.mk (Kd.dD (by(with_reducible repeat(first|apply Kd.aX|apply Kd.aY|apply Kd.bP));exact HO_20.out) hb);replace BK109:=pkK BK109 hb;replace HB:=pkB HB hb;try clear hb))
        go_ret
        exact pkE HB
      ·rw[if_neg c18] at H
       exact absurd H aCq
     ·rw[if_neg c17] at H
      exact absurd H aCq
    ·rw[if_neg c16] at H
     have c16b0:decide (x22_1<(y110.length:Int))=false:=decide_eq_false c16;clear c16;obtain⟨t115,A23,H⟩:=bi H;try dsimp only at H
     by_cases c24:t115=true
     ·subst c24
      rw[if_pos rfl] at H;obtain rfl:=Option.some.inj H;obtain⟨⟨hcz25_0,hcz25_1,hcz25_2⟩,hfz25_0,hfz25_1,hfz25_2⟩:=pk3 BK109
      go_wp2_with(first|((with_reducible refine aG (f:=134) rfl ?_);refine gl_ 34 Tryz.func134 #[.string a0_1,.string (⟨#[48]⟩:ByteArray)] (h:= ?_);(with_reducible refine(eF.calls a0_1 (⟨#[48]⟩:ByteArray) true _ A23.out).mono ?_);rintro e w26 ⟨rfl,hb⟩;refine⟨_,rfl,?_⟩;replace HO_20:=aA.mk (Kd.dD (by(with_reducible repeat(first|apply Kd.aX|apply Kd.aY|apply Kd.bP));exact HO_20.out) hb);replace BK109:=pkK BK109 hb;replace HB:=pkB HB hb;try clear hb))
      go_ret
      exact pkE HB
     ·replace c24:=Bool.eq_false_iff.mpr c24
      subst c24;rw[if_neg (show ¬(false=true) by decide)] at H
      by_cases c27:a0_1.toList=([48]:List UInt8)
      ·rw[if_pos c27] at H
       have c27b0:(a0_1.toList==([48]:List UInt8))=true:=beq_iff_eq.mpr c27;have c27b1:(a0_1.toList != ([48]:List UInt8))=false:=bne_eq_false_iff_eq.mpr c27;clear c27;obtain rfl:=Option.some.inj H;obtain⟨⟨hcz28_0,hcz28_1,hcz28_2⟩,hfz28_0,hfz28_1,hfz28_2⟩:=pk3 BK109
       go_wp2_with(first|((with_reducible refine aG (f:=134) rfl ?_);refine gl_ 34 Tryz.func134 #[.string a0_1,.string (⟨#[48]⟩:ByteArray)] (h:= ?_);(with_reducible refine(eF.calls a0_1 (⟨#[48]⟩:ByteArray) false _ A23.out).mono ?_);rintro e w29 ⟨rfl,hb⟩;refine⟨_,rfl,?_⟩;replace HO_20:=aA.mk (Kd.dD (by(with_reducible repeat(first|apply Kd.aX|apply Kd.aY|apply Kd.bP));exact HO_20.out) hb);replace BK109:=pkK BK109 hb;replace HB:=pkB HB hb;try clear hb;obtain⟨⟨hcz30_0,hcz30_1,hcz30_2⟩,hfz30_0,hfz30_1,hfz30_2⟩:=pk3 BK109))
       go_ret
       exact pkE HB
      ·rw[if_neg c27] at H
       have c27b0:(a0_1.toList==([48]:List UInt8))=false:=beq_eq_false_iff_ne.mpr c27;have c27b1:(a0_1.toList != ([48]:List UInt8))=true:=bne_iff_ne.mpr c27;obtain⟨t116,A31,H⟩:=bi H;try dsimp only at H
       by_cases c32:t116=true
       ·subst c32
        rw[if_pos rfl] at H;obtain rfl:=Option.some.inj H;obtain⟨⟨hcz33_0,hcz33_1,hcz33_2⟩,hfz33_0,hfz33_1,hfz33_2⟩:=pk3 BK109
        go_wp2_with(first|((with_reducible refine aG (f:=134) rfl ?_);refine gl_ 34 Tryz.func134 #[.string a0_1,.string (⟨#[48]⟩:ByteArray)] (h:= ?_);(with_reducible refine(eF.calls a0_1 (⟨#[48]⟩:ByteArray) false _ A23.out).mono ?_);rintro e w34 ⟨rfl,hb⟩;refine⟨_,rfl,?_⟩;replace HO_20:=aA.mk (Kd.dD (by(with_reducible repeat(first|apply Kd.aX|apply Kd.aY|apply Kd.bP));exact HO_20.out) hb);replace BK109:=pkK BK109 hb;replace HB:=pkB HB hb;try clear hb;obtain⟨⟨hcz35_0,hcz35_1,hcz35_2⟩,hfz35_0,hfz35_1,hfz35_2⟩:=pk3 BK109)|(go_at_call 134;(with_reducible refine(eF.calls a0_2 (⟨#[48]⟩:ByteArray) true _ A31.out).mono ?_);rintro e w36 ⟨rfl,hb⟩;replace HO_20:=aA.mk (Kd.dD (by(with_reducible repeat(first|apply Kd.aX|apply Kd.aY|apply Kd.bP));exact HO_20.out) hb);replace BK109:=pkK BK109 hb;replace HB:=pkB HB hb;try clear hb))
        go_ret
        exact pkE HB
       ·replace c32:=Bool.eq_false_iff.mpr c32
        subst c32;rw[if_neg (show ¬(false=true) by decide)] at H;obtain⟨t117,A37,H⟩:=bi H;try dsimp only at H
        by_cases c38:t117=true
        ·subst c38
         rw[if_pos rfl] at H;obtain rfl:=Option.some.inj H;obtain⟨⟨hcz39_0,hcz39_1,hcz39_2⟩,hfz39_0,hfz39_1,hfz39_2⟩:=pk3 BK109
         go_wp2_with(first|((with_reducible refine aG (f:=134) rfl ?_);refine gl_ 34 Tryz.func134 #[.string a0_1,.string (⟨#[48]⟩:ByteArray)] (h:= ?_);(with_reducible refine(eF.calls a0_1 (⟨#[48]⟩:ByteArray) false _ A23.out).mono ?_);rintro e w40 ⟨rfl,hb⟩;refine⟨_,rfl,?_⟩;replace HO_20:=aA.mk (Kd.dD (by(with_reducible repeat(first|apply Kd.aX|apply Kd.aY|apply Kd.bP));exact HO_20.out) hb);replace BK109:=pkK BK109 hb;replace HB:=pkB HB hb;try clear hb;obtain⟨⟨hcz41_0,hcz41_1,hcz41_2⟩,hfz41_0,hfz41_1,hfz41_2⟩:=pk3 BK109)|(go_at_call 134;(with_reducible refine(eF.calls a0_2 (⟨#[48]⟩:ByteArray) false _ A31.out).mono ?_);rintro e w42 ⟨rfl,hb⟩;replace HO_20:=aA.mk (Kd.dD (by(with_reducible repeat(first|apply Kd.aX|apply Kd.aY|apply Kd.bP));exact HO_20.out) hb);replace BK109:=pkK BK109 hb;replace HB:=pkB HB hb;try clear hb;obtain⟨⟨hcz43_0,hcz43_1,hcz43_2⟩,hfz43_0,hfz43_1,hfz43_2⟩:=pk3 BK109)|(go_at_call 134;(with_reducible refine(eF.calls a0_2 a0_1 true _ A37.out).mono ?_);rintro e w44 ⟨rfl,hb⟩;replace HO_20:=aA.mk (Kd.dD (by(with_reducible repeat(first|apply Kd.aX|apply Kd.aY|apply Kd.bP));exact HO_20.out) hb);replace BK109:=pkK BK109 hb;replace HB:=pkB HB hb;try clear hb))
         go_ret
         exact pkE HB
        ·replace c38:=Bool.eq_false_iff.mpr c38
         subst c38;rw[if_neg (show ¬(false=true) by decide)] at H;obtain rfl:=Option.some.inj H;obtain⟨⟨hcz45_0,hcz45_1,hcz45_2⟩,hfz45_0,hfz45_1,hfz45_2⟩:=pk3 BK109
         go_wp2_with(first|((with_reducible refine aG (f:=134) rfl ?_);refine gl_ 34 Tryz.func134 #[.string a0_1,.string (⟨#[48]⟩:ByteArray)] (h:= ?_);(with_reducible refine(eF.calls a0_1 (⟨#[48]⟩:ByteArray) false _ A23.out).mono ?_);rintro e w46 ⟨rfl,hb⟩;refine⟨_,rfl,?_⟩;replace HO_20:=aA.mk (Kd.dD (by(with_reducible repeat(first|apply Kd.aX|apply Kd.aY|apply Kd.bP));exact HO_20.out) hb);replace BK109:=pkK BK109 hb;replace HB:=pkB HB hb;try clear hb;obtain⟨⟨hcz47_0,hcz47_1,hcz47_2⟩,hfz47_0,hfz47_1,hfz47_2⟩:=pk3 BK109)|(go_at_call 134;(with_reducible refine(eF.calls a0_2 (⟨#[48]⟩:ByteArray) false _ A31.out).mono ?_);rintro e w48 ⟨rfl,hb⟩;replace HO_20:=aA.mk (Kd.dD (by(with_reducible repeat(first|apply Kd.aX|apply Kd.aY|apply Kd.bP));exact HO_20.out) hb);replace BK109:=pkK BK109 hb;replace HB:=pkB HB hb;try clear hb;obtain⟨⟨hcz49_0,hcz49_1,hcz49_2⟩,hfz49_0,hfz49_1,hfz49_2⟩:=pk3 BK109)|(go_at_call 134;(with_reducible refine(eF.calls a0_2 a0_1 false _ A37.out).mono ?_);rintro e w50 ⟨rfl,hb⟩;replace HO_20:=aA.mk (Kd.dD (by(with_reducible repeat(first|apply Kd.aX|apply Kd.aY|apply Kd.bP));exact HO_20.out) hb);replace BK109:=pkK BK109 hb;replace HB:=pkB HB hb;try clear hb))
         go_ret
         exact pkE HB
def fB.f:Option (Bool×ByteArray×ByteArray):=some (false,(⟨#[49]⟩:ByteArray),(⟨#[48]⟩:ByteArray))
theorem fB.calls(r1:Bool)(r2:ByteArray)(r3:ByteArray)(w:World)(h:fB.f=some (r1,r2,r3)) :
 Calls Tryz.prog 99 #[] w fun e w'=>e= .returned (.agg #[.bool r1,.string r2,.string r3])∧Below w.heap.size w w':=by
 have hu36:=Tryz.underlying36;have HB:=aA.mk (Below.refl w.heap.size w);have H:(some (false,(⟨#[49]⟩:ByteArray),(⟨#[48]⟩:ByteArray)))=some (r1,r2,r3):=h;clear h;simp only[Option.some.injEq,Prod.mk.injEq] at H;obtain⟨rfl,rfl,rfl⟩:=H;go_enter Tryz.func99,Tryz.ntmps99
 go_wp2_with(first|((with_reducible refine aJ (N:=0) rfl ?_);refine bx_ 0 36 #[.bool false,.string (⟨#[]⟩:ByteArray),.string (⟨#[]⟩:ByteArray)] (h:= ?_);intro gb118 hg w1 hbox hb;have BK118:=aA.mk (hbox);have GW118:=pkG HB hg;have GE118:=GW118;replace HB:=pkB HB hb;clear hb hbox hg;obtain⟨⟨hcz2_0,hcz2_1,hcz2_2⟩,hfz2_0,hfz2_1,hfz2_2⟩:=pk3 BK118))
 refine bodyPost_ret (results_cell_row rfl _ _ gb118 36 #[.bool false,.string (⟨#[49]⟩:ByteArray),.string (⟨#[48]⟩:ByteArray)] (0,0) _ rfl (pkS3 BK118) Tryz.underlying36 rfl (by kernel_rfl)) rfl ?_;exact pkE HB
def eQ.f(a0:ByteArray)(a1:Int):Option (ByteArray):=some a0
theorem eQ.calls(a0:ByteArray)(a1:Int)(r:ByteArray)(w:World)(h:eQ.f a0 a1=some r) :
 Calls Tryz.prog 128 #[.string a0,.int .i64 a1] w fun e w'=>e= .returned (.string r)∧aZ w w':=by
 have H:(some a0)=some r:=h;clear h;obtain rfl:=Option.some.inj H;go_enter Tryz.func128,Tryz.ntmps128
 go_wp2
 go_ret
 exact⟨by first|rfl|(simp;done)|(simp[*];done),by repeat(first|exact aZ.refl _|apply aZ.step)⟩
def bI.j0:Nat→ByteArray→ByteArray→Option (Bool×ByteArray×ByteArray)
 |0,_,_=>none
 |k+1,x0,x1=>(iG.f x0).bind fun t126=>(if t126=true then((fB.f).bind fun bt127=>(some (bt127.1,bt127.2.1,bt127.2.2))) else((iG.f x1).bind fun t130=>(if t130=true then((fB.f).bind fun bt131=>(some (bt131.1,bt131.2.1,bt131.2.2))) else(some (false,x0,x1)))))
def bI.f(k:Nat)(a0:ByteArray)(a1:ByteArray):Option (Bool×ByteArray×ByteArray):=(nN.f a0).bind fun bt120=>((eQ.f bt120.1 bt120.2).bind fun t122=>(if t122.toList=([48]:List UInt8) then(bI.j0 k t122 a1) else((fC.f a1 t122).bind fun bt123=>((eQ.f bt123.1 bt123.2).bind fun t125=>(bI.j0 k t122 t125)))))
theorem bI.calls(k:Nat)(a0:ByteArray)(a1:ByteArray)(r1:Bool)(r2:ByteArray)(r3:ByteArray)(w:World)(hG:GW w)(h:bI.f k a0 a1=some (r1,r2,r3)) :
 Calls Tryz.prog 109 #[.string a0,.string a1] w fun e w'=>e= .returned (.agg #[.bool r1,.string r2,.string r3])∧Below w.heap.size w w':=by
 have HG:=aA.mk hG;clear hG;have hu36:=Tryz.underlying36;have HB:=aA.mk (Below.refl w.heap.size w);have H:((nN.f a0).bind fun bt120=>((eQ.f bt120.1 bt120.2).bind fun t122=>(if t122.toList=([48]:List UInt8) then(bI.j0 k t122 a1) else((fC.f a1 t122).bind fun bt123=>((eQ.f bt123.1 bt123.2).bind fun t125=>(bI.j0 k t122 t125))))))=some (r1,r2,r3):=h;clear h;obtain⟨⟨t120,t121⟩,A3,H⟩:=bi H;try dsimp only at H
 obtain⟨t122,A4,H⟩:=bi H;try dsimp only at H
 have HC5:=aA.mk H;clear H;go_enter Tryz.func109,Tryz.ntmps109
 go_upto_if 11 with (first|((with_reducible refine aJ (N:=4) rfl ?_);refine bx_ 4 36 #[.bool false,.string (⟨#[]⟩:ByteArray),.string (⟨#[]⟩:ByteArray)] (h:= ?_);intro gb119 hg w6 hbox hb;have BK119:=aA.mk (hbox);have GW119:=pkG HB hg;have GE119:=GW119;replace HB:=pkB HB hb;clear hb hbox hg)|((with_reducible refine aG (f:=182) rfl ?_);refine gl_ 6 Tryz.func182 #[.string a0] (h:= ?_);(with_reducible refine(nN.calls a0 t120 t121 _ A3.out).mono ?_);rintro e w7 ⟨rfl,hb⟩;refine⟨_,rfl,?_⟩;replace BK119:=pkK BK119 hb;replace HB:=pkB HB hb;try clear hb)|((with_reducible refine aG (f:=128) rfl ?_);refine gl_ 9 Tryz.func128 #[.string t120,.int .i64 t121] (h:= ?_);(with_reducible refine(eQ.calls t120 t121 t122 _ A4.out).mono ?_);rintro e w' ⟨rfl,⟨nd,rfl⟩⟩;refine⟨_,rfl,?_⟩))
 (try simp only[Act.put,List.setIfInBounds_toArray,List.set_cons_zero,List.set_cons_succ])
 go_cut [1] (fun v1 wc=>∃(kq:Nat) (x1_4:ByteArray),v1= .string x1_4∧aA (bI.j0 kq t122 x1_4=some (r1,r2,r3))∧aA (kq≤k)∧aA (wc.heap[gb119]? =some (.cells #[.bool false,.string (⟨#[]⟩:ByteArray),.string (⟨#[]⟩:ByteArray)] 36 (0,0)))∧aA (Below w.heap.size w wc))
 case first=>
  have H:=HC5.out;clear HC5
  by_cases c8:t122.toList=([48]:List UInt8)
  ·rw[if_pos c8] at H
   have c8b0:(t122.toList==([48]:List UInt8))=true:=beq_iff_eq.mpr c8;have c8b1:(t122.toList != ([48]:List UInt8))=false:=bne_eq_false_iff_eq.mpr c8;clear c8
   (first|rw[c8b0]|(simp only[dE,dM];rw[c8b0])|skip)
   have H':=aA.mk H;clear H;go_wp2
   go_meet
   case rel=>exact⟨_,(a1),aCs,H',⟨by first|omega|exact Nat.le_refl _⟩,⟨pkW BK119⟩,⟨pkL HB⟩⟩
  ·rw[if_neg c8] at H
   have c8b0:(t122.toList==([48]:List UInt8))=false:=beq_eq_false_iff_ne.mpr c8;have c8b1:(t122.toList != ([48]:List UInt8))=true:=bne_iff_ne.mpr c8
   (first|rw[c8b0]|(simp only[dE,dM];rw[c8b0])|skip)
   obtain⟨⟨t123,t124⟩,A9,H⟩:=bi H;try dsimp only at H
   obtain⟨t125,A10,H⟩:=bi H;try dsimp only at H
   have H':=aA.mk H;clear H
   go_wp2_with(first|((with_reducible refine aG (f:=20) rfl ?_);refine gl_ 14 Tryz.func20 #[.string a1,.string t122] (h:= ?_);(with_reducible refine(fC.calls (hG:=HG.out.below (pkL HB)) a1 t122 t123 t124 _ A9.out).mono ?_);rintro e w11 ⟨rfl,hb⟩;refine⟨_,rfl,?_⟩;replace BK119:=pkK BK119 hb;replace HB:=pkB HB hb;try clear hb)|((with_reducible refine aG (f:=128) rfl ?_);refine gl_ 17 Tryz.func128 #[.string t123,.int .i64 t124] (h:= ?_);(with_reducible refine(eQ.calls t123 t124 t125 _ A10.out).mono ?_);rintro e w' ⟨rfl,⟨nd,rfl⟩⟩;refine⟨_,rfl,?_⟩))
   go_meet
   case rel=>exact⟨_,(t125),aCs,H',⟨by first|omega|exact Nat.le_refl _⟩,⟨pkW BK119⟩,⟨pkL HB⟩⟩
 case rest=>
  clear HC5;try clear c8
  try clear c8b0
  try clear c8b1
  obtain⟨kq,x1_4,rfl,HA,HJ4,BK119,HB⟩:=hcut
  cases kq with
  |zero=>exact absurd HA.out (by simp[bI.j0])
  |succ kj4=>
   have H:=HA.out;clear HA;simp only[bI.j0] at H;obtain⟨t126,A12,H⟩:=bi H;try dsimp only at H
   by_cases c13:t126=true
   ·subst c13
    rw[if_pos rfl] at H;obtain⟨⟨t127,t128,t129⟩,A14,H⟩:=bi H;try dsimp only at H
    simp only[Option.some.injEq,Prod.mk.injEq] at H;obtain⟨rfl,rfl,rfl⟩:=H
    go_wp2_with(first|((with_reducible refine aG (f:=183) rfl ?_);refine gl_ 19 Tryz.func183 #[.string t122] (h:= ?_);(with_reducible refine(iG.calls t122 true _ A12.out).mono ?_);rintro e w' ⟨rfl,⟨nd,rfl⟩⟩;refine⟨_,rfl,?_⟩;(try(rw[nI wc];generalize hq_:World.drewN wc _=wc;have n0_:aA (wc.heap[gb119]? =some (.cells #[.bool false,.string (⟨#[]⟩:ByteArray),.string (⟨#[]⟩:ByteArray)] 36 (0,0))):=⟨by rw[←hq_];exact(pkW BK119)⟩;have n1_:aA (Below w.heap.size w wc):=⟨by rw[←hq_];exact(pkL HB)⟩;clear BK119 HB hq_;have BK119:=n0_;have HB:=n1_;clear n0_ n1_)))|((with_reducible refine aG (f:=99) rfl ?_);refine gl_ 24 Tryz.func99 #[] (h:= ?_);(with_reducible refine(fB.calls t127 t128 t129 _ A14.out).mono ?_);rintro e w15 ⟨rfl,hb⟩;refine⟨_,rfl,?_⟩;replace BK119:=pkK BK119 hb;replace HB:=pkB HB hb;try clear hb;obtain⟨⟨hcz16_0,hcz16_1,hcz16_2⟩,hfz16_0,hfz16_1,hfz16_2⟩:=pk3 BK119))
    refine bodyPost_ret (results_cell_row rfl _ _ gb119 36 #[.bool t127,.string t128,.string t129] (0,0) _ rfl (pkS3 BK119) Tryz.underlying36 rfl (by kernel_rfl)) rfl ?_;exact pkE HB
   ·replace c13:=Bool.eq_false_iff.mpr c13
    subst c13;rw[if_neg (show ¬(false=true) by decide)] at H;obtain⟨t130,A17,H⟩:=bi H;try dsimp only at H
    by_cases c18:t130=true
    ·subst c18
     rw[if_pos rfl] at H;obtain⟨⟨t131,t132,t133⟩,A19,H⟩:=bi H;try dsimp only at H
     simp only[Option.some.injEq,Prod.mk.injEq] at H;obtain⟨rfl,rfl,rfl⟩:=H
     go_wp2_with(first|((with_reducible refine aG (f:=183) rfl ?_);refine gl_ 19 Tryz.func183 #[.string t122] (h:= ?_);(with_reducible refine(iG.calls t122 false _ A12.out).mono ?_);rintro e w' ⟨rfl,⟨nd,rfl⟩⟩;refine⟨_,rfl,?_⟩;(try(rw[nI wc];generalize hq_:World.drewN wc _=wc;have n0_:aA (wc.heap[gb119]? =some (.cells #[.bool false,.string (⟨#[]⟩:ByteArray),.string (⟨#[]⟩:ByteArray)] 36 (0,0))):=⟨by rw[←hq_];exact(pkW BK119)⟩;have n1_:aA (Below w.heap.size w wc):=⟨by rw[←hq_];exact(pkL HB)⟩;clear BK119 HB hq_;have BK119:=n0_;have HB:=n1_;clear n0_ n1_)))|(go_at_call 183;(with_reducible refine(iG.calls x1_4 true _ A17.out).mono ?_);rintro e w' ⟨rfl,⟨nd,rfl⟩⟩;(try(rw[nI wc];generalize hq_:World.drewN wc _=wc;have n0_:aA (wc.heap[gb119]? =some (.cells #[.bool false,.string (⟨#[]⟩:ByteArray),.string (⟨#[]⟩:ByteArray)] 36 (0,0))):=⟨by rw[←hq_];exact(pkW BK119)⟩;have n1_:aA (Below w.heap.size w wc):=⟨by rw[←hq_];exact(pkL HB)⟩;clear BK119 HB hq_;have BK119:=n0_;have HB:=n1_;clear n0_ n1_)))|((with_reducible refine aG (f:=99) rfl ?_);refine gl_ 24 Tryz.func99 #[] (h:= ?_);(with_reducible refine(fB.calls t131 t132 t133 _ A19.out).mono ?_);rintro e w20 ⟨rfl,hb⟩;refine⟨_,rfl,?_⟩;replace BK119:=pkK BK119 hb;replace HB:=pkB HB hb;try clear hb;obtain⟨⟨hcz21_0,hcz21_1,hcz21_2⟩,hfz21_0,hfz21_1,hfz21_2⟩:=pk3 BK119))
     refine bodyPost_ret (results_cell_row rfl _ _ gb119 36 #[.bool t131,.string t132,.string t133] (0,0) _ rfl (pkS3 BK119) Tryz.underlying36 rfl (by kernel_rfl)) rfl ?_;exact pkE HB
    ·replace c18:=Bool.eq_false_iff.mpr c18
     subst c18;rw[if_neg (show ¬(false=true) by decide)] at H;simp only[Option.some.injEq,Prod.mk.injEq] at H;obtain⟨rfl,rfl,rfl⟩:=H
     go_wp2_with(first|((with_reducible refine aG (f:=183) rfl ?_);refine gl_ 19 Tryz.func183 #[.string t122] (h:= ?_);(with_reducible refine(iG.calls t122 false _ A12.out).mono ?_);rintro e w' ⟨rfl,⟨nd,rfl⟩⟩;refine⟨_,rfl,?_⟩;(try(rw[nI wc];generalize hq_:World.drewN wc _=wc;have n0_:aA (wc.heap[gb119]? =some (.cells #[.bool false,.string (⟨#[]⟩:ByteArray),.string (⟨#[]⟩:ByteArray)] 36 (0,0))):=⟨by rw[←hq_];exact(pkW BK119)⟩;have n1_:aA (Below w.heap.size w wc):=⟨by rw[←hq_];exact(pkL HB)⟩;clear BK119 HB hq_;have BK119:=n0_;have HB:=n1_;clear n0_ n1_)))|(go_at_call 183;(with_reducible refine(iG.calls x1_4 false _ A17.out).mono ?_);rintro e w' ⟨rfl,⟨nd,rfl⟩⟩;(try(rw[nI wc];generalize hq_:World.drewN wc _=wc;have n0_:aA (wc.heap[gb119]? =some (.cells #[.bool false,.string (⟨#[]⟩:ByteArray),.string (⟨#[]⟩:ByteArray)] 36 (0,0))):=⟨by rw[←hq_];exact(pkW BK119)⟩;have n1_:aA (Below w.heap.size w wc):=⟨by rw[←hq_];exact(pkL HB)⟩;clear BK119 HB hq_;have BK119:=n0_;have HB:=n1_;clear n0_ n1_));obtain⟨⟨hcz22_0,hcz22_1,hcz22_2⟩,hfz22_0,hfz22_1,hfz22_2⟩:=pk3 BK119))
     refine bodyPost_ret (results_cell_row rfl _ _ gb119 36 #[.bool false,.string t122,.string x1_4] (0,0) _ rfl (pkS3 BK119) Tryz.underlying36 rfl (by kernel_rfl)) rfl ?_;exact pkE HB
end Go.Proofs.YtignanmmgaldeaaGreatDoor.PCongI
end
section
set_option linter.unusedVariables false
set_option linter.unusedSimpArgs false
set_option maxHeartbeats 8000000
set_option maxRecDepth 100000
namespace Go.Proofs.YtignanmmgaldeaaGreatDoor.PCongI
open Go.RowKit Go.Proofs.YtignanmmgaldeaaGreatDoorW.PrintWords Go.Proofs.YtignanmmgaldeaaGreatDoorW.PrintLast Go.Proofs.YtignanmmgaldeaaGreatDoorW.PrintMore
attribute [local go_sem] gI gJ iE iF
def fZ.l0:Nat→ByteArray→ByteArray→List ByteArray→Int→Int→Option (Bool×ByteArray×ByteArray×Int)
 |0,_,_,_,_,_=>none
 |k+1,x0,x1,x11,x12,x13=>if x13<x12 then(if 0≤x13 then(if x13<(x11.length:Int) then((fA.f (rdOf ByteArray.empty x11 x13)).bind fun t139=>(if t139=0 then(fZ.l0 k x0 x1 x11 x12 (wrap64 (x13+1))) else(some (false,(⟨#[]⟩:ByteArray),(⟨#[]⟩:ByteArray),t139)))) else(none)) else(none)) else((bI.f k x0 x1).bind fun bt140=>(some (bt140.1,bt140.2.1,bt140.2.2,0)))
def fZ.f(k:Nat)(a0:ByteArray)(a1:ByteArray):Option (Bool×ByteArray×ByteArray×Int):=(some (([a0,a1]:List ByteArray):List ByteArray)).bind fun y135=>(fZ.l0 k a0 a1 y135 (y135.length:Int) 0)
theorem fZ.calls(k:Nat)(a0:ByteArray)(a1:ByteArray)(r1:Bool)(r2:ByteArray)(r3:ByteArray)(r4:Int)(w:World)(hG:GW w)(h:fZ.f k a0 a1=some (r1,r2,r3,r4)) :
 Calls Tryz.prog 58 #[.string a0,.string a1] w fun e w'=>e= .returned (.tuple #[.agg #[.bool r1,.string r2,.string r3],.int .i64 r4])∧Below w.heap.size w w':=by
 have HG:=aA.mk hG;clear hG;have hu36:=Tryz.underlying36;have HB:=aA.mk (Below.refl w.heap.size w);have H:((some (([a0,a1]:List ByteArray):List ByteArray)).bind fun y135=>(fZ.l0 k a0 a1 y135 (y135.length:Int) 0))=some (r1,r2,r3,r4):=h;clear h;obtain⟨y135,hy135⟩:∃y_:List ByteArray,y_=(([a0,a1]:List ByteArray)):=⟨_,rfl⟩
 replace H:(fZ.l0 k a0 a1 y135 (y135.length:Int) 0)=some (r1,r2,r3,r4):=by first|(rw[hy135];with_reducible exact H)|(have H2_:=(Option.bind_some _ _).symm.trans H;rw[hy135];with_reducible exact H2_)|(have H2_:=(Option.bind_some _ _).symm.trans H;with_reducible exact H2_)|with_reducible exact H|(rw[hy135];exact H)|exact H
 have Ny135:=aA.mk hy135;clear hy135;have H':=aA.mk H;clear H;go_enter Tryz.func58,Tryz.ntmps58
 go_wp2_with(first|((with_reducible refine aJ (N:=4) rfl ?_);refine bx_ 4 36 #[.bool false,.string (⟨#[]⟩:ByteArray),.string (⟨#[]⟩:ByteArray)] (h:= ?_);intro gb134 hg w3 hbox hb;have BK134:=aA.mk (hbox);have GW134:=pkG HB hg;have GE134:=GW134;replace HB:=pkB HB hb;clear hb hbox hg)|((with_reducible refine aJ (N:=11) rfl ?_);refine Kd.lV Kd.string _ 22 ?hg (N:=11) ?hd (xs:=([a0,a1]:List ByteArray)) (inner:= [.string a0,.string a1]) (ok:=fun _=>True) (okp:=fun _=>True) ?hr ?hp (fun _ hk=>hk) trivial (Below.refl _ _) (Nat.le_refl _) aCq ?_;(case hd=>rfl);(case hg=>rfl);(case hr=>first|(go_simp;done)|(go_simp;rfl));(case hp=>exact(Reps.one (show Kd.M Kd.string _ _ _ a0 [.string a0] from rfl) (Reps.one (show Kd.M Kd.string _ _ _ a1 [.string a1] from rfl) (Reps.none _ _))));intro v136 w4 ho5 hb hg_ hnew_;clear hg_ hnew_;(first|rw[←Ny135.out] at ho5|(simp only[Int.reduceToNat] at ho5;rw[←Ny135.out] at ho5));have HO137:=aA.mk (Kd.jF ho5 (dU (pkL HB)));replace BK134:=pkK BK134 hb;replace HB:=pkB HB hb;clear hb ho5;obtain⟨Ao6,co6,eo6⟩:=Kd.gY HO137.out;subst eo6))
 go_loopg [13] k (fun kq v13 w'=>∃(x13_1:Int) (x135000_1:Bool) (x135001_1:ByteArray) (x135002_1:ByteArray),v13= .int .i64 x13_1∧aA (fZ.l0 kq a0 a1 y135 (y135.length:Int) x13_1=some (r1,r2,r3,r4))∧aA (kq≤k)∧aA (Kd.R Kd.string 22 w' w.heap.size (fun _=>True) (.slice Ao6 y135.length co6) y135)∧aA (w'.heap[gb134]? =some (.cells #[.bool x135000_1,.string x135001_1,.string x135002_1] 36 (0,0)))∧aA (Below w.heap.size w w'))
 case atStart=>exact⟨(0),(false),((⟨#[]⟩:ByteArray)),((⟨#[]⟩:ByteArray)),aCs,H',⟨Nat.le_refl _⟩,⟨by(with_reducible repeat(first|apply Kd.aX|apply Kd.aY|apply Kd.bP));exact HO137.out⟩,⟨pkW BK134⟩,⟨pkL HB⟩⟩
 case round=>
  clear H';obtain⟨x13_1,x135000_1,x135001_1,x135002_1,rfl,HA,HK1,HO_11,BK134,HB⟩:=hrel
  cases gk with
  |zero=>exact absurd HA.out (by simp[fZ.l0])
  |succ k1=>
   have H:=HA.out;clear HA;simp only[fZ.l0] at H
   by_cases c7:x13_1<(y135.length:Int)
   ·rw[if_pos c7] at H
    have c7b0:decide (x13_1<(y135.length:Int))=true:=decide_eq_true c7;clear c7
    by_cases c8:0≤x13_1
    ·rw[if_pos c8] at H
     have c8b0:decide (0≤x13_1)=true:=decide_eq_true c8;clear c8
     by_cases c9:x13_1<(y135.length:Int)
     ·rw[if_pos c9] at H
      have c9b0:decide (x13_1<(y135.length:Int))=true:=decide_eq_true c9;clear c9;obtain⟨t139,A10,H⟩:=bi H;try dsimp only at H
      by_cases c11:t139=0
      ·rw[if_pos c11] at H
       have c11b0:(t139==0)=true:=beq_iff_eq.mpr c11;have c11b1:(t139 != 0)=false:=bne_eq_false_iff_eq.mpr c11;clear c11;have H':=aA.mk H;clear H;have p138:0≤(x13_1:Int):=of_decide_eq_true (by first|(with_reducible assumption)|assumption);have q138:x13_1<(y135.length:Int):=of_decide_eq_true (by first|(with_reducible assumption)|assumption);obtain⟨ad138,e138,hx138_0⟩:=Kd.oW (Kd.dH HO_11.out).2.2 x13_1 p138 q138
       cases e138
       replace p138:=eq_true p138;replace q138:=eq_true q138
       go_wp2_with(first|((with_reducible refine aG (f:=73) rfl ?_);refine gl_ 18 Tryz.func73 #[.string (rdOf ByteArray.empty y135 x13_1)] (h:= ?_);(with_reducible refine(fA.calls (rdOf ByteArray.empty y135 x13_1) t139 _ A10.out).mono ?_);rintro e w12 ⟨rfl,hb⟩;refine⟨_,rfl,?_⟩;replace HO_11:=aA.mk (Kd.dD (by(with_reducible repeat(first|apply Kd.aX|apply Kd.aY|apply Kd.bP));exact HO_11.out) hb);replace BK134:=pkK BK134 hb;replace HB:=pkB HB hb;try clear hb))
       go_roundg k1
       case measure=>have:=HK1.out;omega
       case rel=>exact⟨(wrap64 (x13_1+1)),(x135000_1),(x135001_1),(x135002_1),aCs,H',⟨by have:=HK1.out;omega⟩,⟨by(with_reducible repeat(first|apply Kd.aX|apply Kd.aY|apply Kd.bP));exact HO_11.out⟩,⟨pkW BK134⟩,⟨pkL HB⟩⟩
      ·rw[if_neg c11] at H
       have c11b0:(t139==0)=false:=beq_eq_false_iff_ne.mpr c11;have c11b1:(t139 != 0)=true:=bne_iff_ne.mpr c11;simp only[Option.some.injEq,Prod.mk.injEq] at H;obtain⟨rfl,rfl,rfl,rfl⟩:=H;have p138:0≤(x13_1:Int):=of_decide_eq_true (by first|(with_reducible assumption)|assumption);have q138:x13_1<(y135.length:Int):=of_decide_eq_true (by first|(with_reducible assumption)|assumption);obtain⟨ad138,e138,hx138_0⟩:=Kd.oW (Kd.dH HO_11.out).2.2 x13_1 p138 q138
       cases e138
       replace p138:=eq_true p138;replace q138:=eq_true q138
       go_wp2_with(first|((with_reducible refine aG (f:=73) rfl ?_);refine gl_ 18 Tryz.func73 #[.string (rdOf ByteArray.empty y135 x13_1)] (h:= ?_);(with_reducible refine(fA.calls (rdOf ByteArray.empty y135 x13_1) t139 _ A10.out).mono ?_);rintro e w13 ⟨rfl,hb⟩;refine⟨_,rfl,?_⟩;replace HO_11:=aA.mk (Kd.dD (by(with_reducible repeat(first|apply Kd.aX|apply Kd.aY|apply Kd.bP));exact HO_11.out) hb);replace BK134:=pkK BK134 hb;replace HB:=pkB HB hb;try clear hb;obtain⟨⟨hcz14_0,hcz14_1,hcz14_2⟩,hfz14_0,hfz14_1,hfz14_2⟩:=pk3 BK134))
       refine bodyPost_ret (jG rfl _ _ gb134 36 #[.bool false,.string (⟨#[]⟩:ByteArray),.string (⟨#[]⟩:ByteArray)] (0,0) _ rfl (pkS3 BK134) Tryz.underlying36 rfl (by kernel_rfl)) rfl ?_;exact pkE HB
     ·rw[if_neg c9] at H
      exact absurd H aCq
    ·rw[if_neg c8] at H
     exact absurd H aCq
   ·rw[if_neg c7] at H
    have c7b0:decide (x13_1<(y135.length:Int))=false:=decide_eq_false c7;clear c7;obtain⟨⟨t140,t141,t142⟩,A15,H⟩:=bi H;try dsimp only at H
    simp only[Option.some.injEq,Prod.mk.injEq] at H;obtain⟨rfl,rfl,rfl,rfl⟩:=H
    go_wp2_with(first|((with_reducible refine aG (f:=109) rfl ?_);refine gl_ 26 Tryz.func109 #[.string a0,.string a1] (h:= ?_);(with_reducible refine(bI.calls (hG:=HG.out.below (pkL HB)) k1 a0 a1 t140 t141 t142 _ A15.out).mono ?_);rintro e w16 ⟨rfl,hb⟩;refine⟨_,rfl,?_⟩;replace HO_11:=aA.mk (Kd.dD (by(with_reducible repeat(first|apply Kd.aX|apply Kd.aY|apply Kd.bP));exact HO_11.out) hb);replace BK134:=pkK BK134 hb;replace HB:=pkB HB hb;try clear hb;obtain⟨⟨hcz17_0,hcz17_1,hcz17_2⟩,hfz17_0,hfz17_1,hfz17_2⟩:=pk3 BK134))
    refine bodyPost_ret (jG rfl _ _ gb134 36 #[.bool t140,.string t141,.string t142] (0,0) _ rfl (pkS3 BK134) Tryz.underlying36 rfl (by kernel_rfl)) rfl ?_;exact pkE HB
def qE.f(k:Nat)(a0:ByteArray):Option (Bool×ByteArray×ByteArray×Int):=(fZ.f k (⟨#[48]⟩:ByteArray) a0).bind fun bt144=>(some (bt144.1,bt144.2.1,bt144.2.2.1,bt144.2.2.2))
theorem qE.calls(k:Nat)(a0:ByteArray)(r1:Bool)(r2:ByteArray)(r3:ByteArray)(r4:Int)(w:World)(hG:GW w)(h:qE.f k a0=some (r1,r2,r3,r4)) :
 Calls Tryz.prog 56 #[.string a0] w fun e w'=>e= .returned (.tuple #[.agg #[.bool r1,.string r2,.string r3],.int .i64 r4])∧Below w.heap.size w w':=by
 have HG:=aA.mk hG;clear hG;have hu36:=Tryz.underlying36;have HB:=aA.mk (Below.refl w.heap.size w);have H:((fZ.f k (⟨#[48]⟩:ByteArray) a0).bind fun bt144=>(some (bt144.1,bt144.2.1,bt144.2.2.1,bt144.2.2.2)))=some (r1,r2,r3,r4):=h;clear h;obtain⟨⟨t144,t145,t146,t147⟩,A2,H⟩:=bi H;try dsimp only at H
 simp only[Option.some.injEq,Prod.mk.injEq] at H;obtain⟨rfl,rfl,rfl,rfl⟩:=H;go_enter Tryz.func56,Tryz.ntmps56
 go_wp2_with(first|((with_reducible refine aJ (N:=2) rfl ?_);refine bx_ 2 36 #[.bool false,.string (⟨#[]⟩:ByteArray),.string (⟨#[]⟩:ByteArray)] (h:= ?_);intro gb143 hg w3 hbox hb;have BK143:=aA.mk (hbox);have GW143:=pkG HB hg;have GE143:=GW143;replace HB:=pkB HB hb;clear hb hbox hg)|((with_reducible refine aG (f:=58) rfl ?_);refine gl_ 5 Tryz.func58 #[.string (⟨#[48]⟩:ByteArray),.string a0] (h:= ?_);(with_reducible refine(fZ.calls (hG:=HG.out.below (pkL HB)) k (⟨#[48]⟩:ByteArray) a0 t144 t145 t146 t147 _ A2.out).mono ?_);rintro e w4 ⟨rfl,hb⟩;refine⟨_,rfl,?_⟩;replace BK143:=pkK BK143 hb;replace HB:=pkB HB hb;try clear hb;obtain⟨⟨hcz5_0,hcz5_1,hcz5_2⟩,hfz5_0,hfz5_1,hfz5_2⟩:=pk3 BK143))
 refine bodyPost_ret (jG rfl _ _ gb143 36 #[.bool t144,.string t145,.string t146] (0,0) _ rfl (pkS3 BK143) Tryz.underlying36 rfl (by kernel_rfl)) rfl ?_;exact pkE HB
def iH.f(k:Nat)(a0_0:Bool)(a0_1:ByteArray)(a0_2:ByteArray)(a1:ByteArray):Option (Bool×Int):=(bQ.f k a0_0 a0_1 a0_2).bind fun t149=>(if t149=0 then((fA.f a1).bind fun t150=>(if t150=0 then(if a0_0=true then(some (false,0)) else(if a0_1.toList=([48]:List UInt8) then(some ((a1.toList==a0_2.toList),0)) else((fC.f a1 a0_1).bind fun bt151=>((eQ.f bt151.1 bt151.2).bind fun t153=>(some ((t153.toList==a0_2.toList),0)))))) else(some (false,t150)))) else(some (false,t149)))
def iH.T11:Bool×List (List Nat×List Nat):=(true,[([],[]),([],[]),([1],[1]),([0,2],[0,2]),([3],[3]),([3],[3]),([4,5,3],[4,5]),([],[]),([7],[7]),([6,8],[6,8]),([9,6,0,1,2,3,4,5,6,7,8,9],[9]),([10,0,1,2,3,4,5,6,7,8,9,10],[])])
def iH.B11:List Nat:= [0,0,2,7,15,15,63,0,128,511,1023,2047]
theorem iH.tab11:rtab .any (opsOf Tryz.f60 11)=iH.T11:=by kernel_rfl
theorem iH.bits11:kV iH.T11.2 iH.B11=true:=by kernel_rfl
theorem iH.calls(k:Nat)(a0_0:Bool)(a0_1:ByteArray)(a0_2:ByteArray)(a1:ByteArray)(r1:Bool)(r2:Int)(w:World)(hG:GW w)(h:iH.f k a0_0 a0_1 a0_2 a1=some (r1,r2)) :
 Calls Tryz.prog 60 #[.agg #[.bool a0_0,.string a0_1,.string a0_2],.string a1] w fun e w'=>e= .returned (.tuple #[.bool r1,.int .i64 r2])∧Below w.heap.size w w':=by
 have HG:=aA.mk hG;clear hG;have hu36:=Tryz.underlying36;have HB:=aA.mk (Below.refl w.heap.size w);have H:((bQ.f k a0_0 a0_1 a0_2).bind fun t149=>(if t149=0 then((fA.f a1).bind fun t150=>(if t150=0 then(if a0_0=true then(some (false,0)) else(if a0_1.toList=([48]:List UInt8) then(some ((a1.toList==a0_2.toList),0)) else((fC.f a1 a0_1).bind fun bt151=>((eQ.f bt151.1 bt151.2).bind fun t153=>(some ((t153.toList==a0_2.toList),0)))))) else(some (false,t150)))) else(some (false,t149))))=some (r1,r2):=h;clear h;obtain⟨t149,A3,H⟩:=bi H;try dsimp only at H
 by_cases c4:t149=0
 ·rw[if_pos c4] at H
  have c4b0:(t149==0)=true:=beq_iff_eq.mpr c4;have c4b1:(t149 != 0)=false:=bne_eq_false_iff_eq.mpr c4;clear c4;obtain⟨t150,A5,H⟩:=bi H;try dsimp only at H
  by_cases c6:t150=0
  ·rw[if_pos c6] at H
   have c6b0:(t150==0)=true:=beq_iff_eq.mpr c6;have c6b1:(t150 != 0)=false:=bne_eq_false_iff_eq.mpr c6;clear c6
   by_cases c7:a0_0=true
   ·subst c7
    rw[if_pos rfl] at H;simp only[Option.some.injEq,Prod.mk.injEq] at H;obtain⟨rfl,rfl⟩:=H;go_enter Tryz.func60,Tryz.ntmps60
    go_wp2_with(first|((with_reducible refine aJ (N:=2) rfl ?_);refine bx_ 2 36 #[.bool true,.string a0_1,.string a0_2] (h:= ?_);intro gb148 hg w8 hbox hb;have BK148:=aA.mk (hbox);have GW148:=pkG HB hg;have GE148:=GW148;replace HB:=pkB HB hb;clear hb hbox hg;obtain⟨⟨hcz9_0,hcz9_1,hcz9_2⟩,hfz9_0,hfz9_1,hfz9_2⟩:=pk3 BK148)|((with_reducible refine aG (f:=66) rfl ?_);refine gl_ 9 Tryz.func66 #[.agg #[.bool true,.string a0_1,.string a0_2]] (h:= ?_);(with_reducible refine(bQ.calls k true a0_1 a0_2 t149 _ A3.out).mono ?_);rintro e w10 ⟨rfl,hb⟩;refine⟨_,rfl,?_⟩;replace BK148:=pkK BK148 hb;replace HB:=pkB HB hb;try clear hb)|((with_reducible refine aG (f:=73) rfl ?_);refine gl_ 14 Tryz.func73 #[.string a1] (h:= ?_);(with_reducible refine(fA.calls a1 t150 _ A5.out).mono ?_);rintro e w11 ⟨rfl,hb⟩;refine⟨_,rfl,?_⟩;replace BK148:=pkK BK148 hb;replace HB:=pkB HB hb;try clear hb;obtain⟨⟨hcz12_0,hcz12_1,hcz12_2⟩,hfz12_0,hfz12_1,hfz12_2⟩:=pk3 BK148))
    go_ret2
    exact pkE HB
   ·replace c7:=Bool.eq_false_iff.mpr c7
    subst c7;rw[if_neg (show ¬(false=true) by decide)] at H
    by_cases c13:a0_1.toList=([48]:List UInt8)
    ·rw[if_pos c13] at H
     have c13b0:(a0_1.toList==([48]:List UInt8))=true:=beq_iff_eq.mpr c13;have c13b1:(a0_1.toList != ([48]:List UInt8))=false:=bne_eq_false_iff_eq.mpr c13;clear c13;simp only[Option.some.injEq,Prod.mk.injEq] at H;obtain⟨rfl,rfl⟩:=H;go_enter Tryz.func60,Tryz.ntmps60
     go_wp2_with(first|((with_reducible refine aJ (N:=2) rfl ?_);refine bx_ 2 36 #[.bool false,.string a0_1,.string a0_2] (h:= ?_);intro gb148 hg w14 hbox hb;have BK148:=aA.mk (hbox);have GW148:=pkG HB hg;have GE148:=GW148;replace HB:=pkB HB hb;clear hb hbox hg;obtain⟨⟨hcz15_0,hcz15_1,hcz15_2⟩,hfz15_0,hfz15_1,hfz15_2⟩:=pk3 BK148)|((with_reducible refine aG (f:=66) rfl ?_);refine gl_ 9 Tryz.func66 #[.agg #[.bool false,.string a0_1,.string a0_2]] (h:= ?_);(with_reducible refine(bQ.calls k false a0_1 a0_2 t149 _ A3.out).mono ?_);rintro e w16 ⟨rfl,hb⟩;refine⟨_,rfl,?_⟩;replace BK148:=pkK BK148 hb;replace HB:=pkB HB hb;try clear hb)|((with_reducible refine aG (f:=73) rfl ?_);refine gl_ 14 Tryz.func73 #[.string a1] (h:= ?_);(with_reducible refine(fA.calls a1 t150 _ A5.out).mono ?_);rintro e w17 ⟨rfl,hb⟩;refine⟨_,rfl,?_⟩;replace BK148:=pkK BK148 hb;replace HB:=pkB HB hb;try clear hb;obtain⟨⟨hcz18_0,hcz18_1,hcz18_2⟩,hfz18_0,hfz18_1,hfz18_2⟩:=pk3 BK148))
     go_ret2
     exact pkE HB
    ·rw[if_neg c13] at H
     have c13b0:(a0_1.toList==([48]:List UInt8))=false:=beq_eq_false_iff_ne.mpr c13;have c13b1:(a0_1.toList != ([48]:List UInt8))=true:=bne_iff_ne.mpr c13;obtain⟨⟨t151,t152⟩,A19,H⟩:=bi H;try dsimp only at H
     obtain⟨t153,A20,H⟩:=bi H;try dsimp only at H
     simp only[Option.some.injEq,Prod.mk.injEq] at H;obtain⟨rfl,rfl⟩:=H;go_enter Tryz.func60,Tryz.ntmps60
     try go_wp2_with(first|((with_reducible refine aJ (N:=2) rfl ?_);refine bx_ 2 36 #[.bool false,.string a0_1,.string a0_2] (h:= ?_);intro gb148 hg w21 hbox hb;have BK148:=aA.mk (hbox);have GW148:=pkG HB hg;have GE148:=GW148;replace HB:=pkB HB hb;clear hb hbox hg;obtain⟨⟨hcz22_0,hcz22_1,hcz22_2⟩,hfz22_0,hfz22_1,hfz22_2⟩:=pk3 BK148)|((with_reducible refine aG (f:=66) rfl ?_);refine gl_ 9 Tryz.func66 #[.agg #[.bool false,.string a0_1,.string a0_2]] (h:= ?_);(with_reducible refine(bQ.calls k false a0_1 a0_2 t149 _ A3.out).mono ?_);rintro e w23 ⟨rfl,hb⟩;refine⟨_,rfl,?_⟩;replace BK148:=pkK BK148 hb;replace HB:=pkB HB hb;try clear hb)|((with_reducible refine aG (f:=73) rfl ?_);refine gl_ 14 Tryz.func73 #[.string a1] (h:= ?_);(with_reducible refine(fA.calls a1 t150 _ A5.out).mono ?_);rintro e w24 ⟨rfl,hb⟩;refine⟨_,rfl,?_⟩;replace BK148:=pkK BK148 hb;replace HB:=pkB HB hb;try clear hb;obtain⟨⟨hcz25_0,hcz25_1,hcz25_2⟩,hfz25_0,hfz25_1,hfz25_2⟩:=pk3 BK148))
     replace BK148:=aA.mk (aQ BK148.out);replace HB:=aA.mk (bG HB.out)
     refine jY (n:=12) (S:=fun w'=>w'.cell? ⟨gb148,0,none⟩=some (.bool false)∧w'.cell? ⟨gb148,1,none⟩=some (.string a0_1)∧w'.cell? ⟨gb148,2,none⟩=some (.string a0_2)) (ds:= []) #[false,false,false,false,false,false,false,false,false,false,false,false] (by kernel_rfl) rfl rfl ⟨(aC BK148.out 0).trans rfl,(aC BK148.out 1).trans rfl,(aC BK148.out 2).trans rfl⟩ (fun hHeld=> ?_);refine kP iH.tab11 iH.bits11 (fun HT_ HW_=> ?_)
     generalize w24.drew=w26 at BK148 HB hHeld ⊢;refine pr_ 0 27 (h:= ?_);refine pr_ 1 28 (h:= ?_);refine pr_ 7 34 (h:= ?_);refine tk_ 2 29 hHeld (hy:=by rintro w' ⟨s0,s1,s2⟩;go_simp;with_reducible rfl) (h:= ?_);refine tk_ 8 35 hHeld (hy:=by rintro w' ⟨s0,s1,s2⟩;go_simp;with_reducible rfl) (h:= ?_);refine on_ 3 30 (h:=fun K hK=> ?_);refine g1_ Tryz.func20 #[.string a1,.string a0_1] (h:= ?_);with_reducible refine(fC.calls (hG:=HG.out.below (pkL HB)) a1 a0_1 t151 t152 _ A19.out).mono ?_
     rintro e w27 ⟨rfl,hb⟩;refine⟨_,rfl,?_⟩;replace BK148:=pkK BK148 hb;replace HB:=pkB HB hb
     (try clear hb)
     (try clear hb2)
     (try clear hk)
     (try clear hi)
     refine hK.out _ _ ⟨(aC BK148.out 0).trans rfl,(aC BK148.out 1).trans rfl,(aC BK148.out 2).trans rfl⟩ (fun hHeld=> ?_);clear hK K;refine gG (a':= ?_) ?_ ?_
     rotate_left
     ·show Act.put _ (some 30) _=_
      simp only[Act.put,List.setIfInBounds_toArray,List.set_cons_zero,List.set_cons_succ,dE,dM];rfl
     refine pr_ 4 31 (h:= ?_);refine pr_ 5 32 (h:= ?_);refine on_ 6 33 (h:=fun K hK=> ?_);refine g1_ Tryz.func128 #[.string t151,.int .i64 t152] (h:= ?_);with_reducible refine(eQ.calls t151 t152 t153 _ A20.out).mono ?_
     rintro e w' ⟨rfl,⟨nd,rfl⟩⟩;refine⟨_,rfl,?_⟩;refine hK.out _ _ ⟨(aC BK148.out 0).trans rfl,(aC BK148.out 1).trans rfl,(aC BK148.out 2).trans rfl⟩ (fun hHeld=> ?_);clear hK K;refine gG (a':= ?_) ?_ ?_
     rotate_left
     ·show Act.put _ (some 33) _=_
      simp only[Act.put,List.setIfInBounds_toArray,List.set_cons_zero,List.set_cons_succ,dE,dM];rfl
     refine pr_ 9 36 (h:= ?_);refine pr_ 10 4 (h:= ?_);refine pr_ 11 5 (h:= ?_);refine kT (mG HT_.out (by kernel_rfl)) ?_
     try go_wp2
     go_ret2
     exact pkE HB
  ·rw[if_neg c6] at H
   have c6b0:(t150==0)=false:=beq_eq_false_iff_ne.mpr c6;have c6b1:(t150 != 0)=true:=bne_iff_ne.mpr c6;simp only[Option.some.injEq,Prod.mk.injEq] at H;obtain⟨rfl,rfl⟩:=H;go_enter Tryz.func60,Tryz.ntmps60
   go_wp2_with(first|((with_reducible refine aJ (N:=2) rfl ?_);refine bx_ 2 36 #[.bool a0_0,.string a0_1,.string a0_2] (h:= ?_);intro gb148 hg w28 hbox hb;have BK148:=aA.mk (hbox);have GW148:=pkG HB hg;have GE148:=GW148;replace HB:=pkB HB hb;clear hb hbox hg;obtain⟨⟨hcz29_0,hcz29_1,hcz29_2⟩,hfz29_0,hfz29_1,hfz29_2⟩:=pk3 BK148)|((with_reducible refine aG (f:=66) rfl ?_);refine gl_ 9 Tryz.func66 #[.agg #[.bool a0_0,.string a0_1,.string a0_2]] (h:= ?_);(with_reducible refine(bQ.calls k a0_0 a0_1 a0_2 t149 _ A3.out).mono ?_);rintro e w30 ⟨rfl,hb⟩;refine⟨_,rfl,?_⟩;replace BK148:=pkK BK148 hb;replace HB:=pkB HB hb;try clear hb)|((with_reducible refine aG (f:=73) rfl ?_);refine gl_ 14 Tryz.func73 #[.string a1] (h:= ?_);(with_reducible refine(fA.calls a1 t150 _ A5.out).mono ?_);rintro e w31 ⟨rfl,hb⟩;refine⟨_,rfl,?_⟩;replace BK148:=pkK BK148 hb;replace HB:=pkB HB hb;try clear hb))
   go_ret2
   exact pkE HB
 ·rw[if_neg c4] at H
  have c4b0:(t149==0)=false:=beq_eq_false_iff_ne.mpr c4;have c4b1:(t149 != 0)=true:=bne_iff_ne.mpr c4;simp only[Option.some.injEq,Prod.mk.injEq] at H;obtain⟨rfl,rfl⟩:=H;go_enter Tryz.func60,Tryz.ntmps60
  go_wp2_with(first|((with_reducible refine aJ (N:=2) rfl ?_);refine bx_ 2 36 #[.bool a0_0,.string a0_1,.string a0_2] (h:= ?_);intro gb148 hg w32 hbox hb;have BK148:=aA.mk (hbox);have GW148:=pkG HB hg;have GE148:=GW148;replace HB:=pkB HB hb;clear hb hbox hg;obtain⟨⟨hcz33_0,hcz33_1,hcz33_2⟩,hfz33_0,hfz33_1,hfz33_2⟩:=pk3 BK148)|((with_reducible refine aG (f:=66) rfl ?_);refine gl_ 9 Tryz.func66 #[.agg #[.bool a0_0,.string a0_1,.string a0_2]] (h:= ?_);(with_reducible refine(bQ.calls k a0_0 a0_1 a0_2 t149 _ A3.out).mono ?_);rintro e w34 ⟨rfl,hb⟩;refine⟨_,rfl,?_⟩;replace BK148:=pkK BK148 hb;replace HB:=pkB HB hb;try clear hb))
  go_ret2
  exact pkE HB
def gB.f(k:Nat)(a0_0:Bool)(a0_1:ByteArray)(a0_2:ByteArray)(a1_0:Bool)(a1_1:ByteArray)(a1_2:ByteArray):Option (Int):=(bQ.f k a0_0 a0_1 a0_2).bind fun t156=>(if t156=0 then((bQ.f k a1_0 a1_1 a1_2).bind fun t157=>(some t157)) else(some t156))
theorem gB.calls(k:Nat)(a0_0:Bool)(a0_1:ByteArray)(a0_2:ByteArray)(a1_0:Bool)(a1_1:ByteArray)(a1_2:ByteArray)(r:Int)(w:World)(h:gB.f k a0_0 a0_1 a0_2 a1_0 a1_1 a1_2=some r) :
 Calls Tryz.prog 106 #[.agg #[.bool a0_0,.string a0_1,.string a0_2],.agg #[.bool a1_0,.string a1_1,.string a1_2]] w fun e w'=>e= .returned (.int .i64 r)∧Below w.heap.size w w':=by
 have hu36:=Tryz.underlying36;have HB:=aA.mk (Below.refl w.heap.size w);have H:((bQ.f k a0_0 a0_1 a0_2).bind fun t156=>(if t156=0 then((bQ.f k a1_0 a1_1 a1_2).bind fun t157=>(some t157)) else(some t156)))=some r:=h;clear h;obtain⟨t156,A3,H⟩:=bi H;try dsimp only at H
 by_cases c4:t156=0
 ·rw[if_pos c4] at H
  have c4b0:(t156==0)=true:=beq_iff_eq.mpr c4;have c4b1:(t156 != 0)=false:=bne_eq_false_iff_eq.mpr c4;clear c4;obtain⟨t157,A5,H⟩:=bi H;try dsimp only at H
  obtain rfl:=Option.some.inj H;go_enter Tryz.func106,Tryz.ntmps106
  go_wp2_with(first|((with_reducible refine aJ (N:=2) rfl ?_);refine bx_ 2 36 #[.bool a0_0,.string a0_1,.string a0_2] (h:= ?_);intro gb154 hg w6 hbox hb;have BK154:=aA.mk (hbox);have GW154:=pkG HB hg;have GE154:=GW154;replace HB:=pkB HB hb;clear hb hbox hg)|((with_reducible refine aJ (N:=3) rfl ?_);refine bx_ 3 36 #[.bool a1_0,.string a1_1,.string a1_2] (h:= ?_);intro gb155 hg w7 hbox hb;have BK155:=aA.mk (hbox);have GW155:=pkG HB hg;have GE155:=GW155;obtain⟨NB154_155,NB155_154,_,_⟩:=pkQ BK154 hg;replace BK154:=pkK BK154 hb;replace HB:=pkB HB hb;clear hb hbox hg;have hnb8:=NB154_155.out;have hnc8:=NB155_154.out;obtain⟨⟨hcz9_0,hcz9_1,hcz9_2⟩,hfz9_0,hfz9_1,hfz9_2⟩:=pk3 BK154)|((with_reducible refine aG (f:=66) rfl ?_);refine gl_ 7 Tryz.func66 #[.agg #[.bool a0_0,.string a0_1,.string a0_2]] (h:= ?_);(with_reducible refine(bQ.calls k a0_0 a0_1 a0_2 t156 _ A3.out).mono ?_);rintro e w10 ⟨rfl,hb⟩;refine⟨_,rfl,?_⟩;replace BK154:=pkK BK154 hb;replace BK155:=pkK BK155 hb;replace HB:=pkB HB hb;try clear hb;obtain⟨⟨hcz11_0,hcz11_1,hcz11_2⟩,hfz11_0,hfz11_1,hfz11_2⟩:=pk3 BK155)|((with_reducible refine aG (f:=66) rfl ?_);refine gl_ 12 Tryz.func66 #[.agg #[.bool a1_0,.string a1_1,.string a1_2]] (h:= ?_);(with_reducible refine(bQ.calls k a1_0 a1_1 a1_2 t157 _ A5.out).mono ?_);rintro e w12 ⟨rfl,hb⟩;refine⟨_,rfl,?_⟩;replace BK154:=pkK BK154 hb;replace BK155:=pkK BK155 hb;replace HB:=pkB HB hb;try clear hb))
  go_ret
  exact pkE HB
 ·rw[if_neg c4] at H
  have c4b0:(t156==0)=false:=beq_eq_false_iff_ne.mpr c4;have c4b1:(t156 != 0)=true:=bne_iff_ne.mpr c4;obtain rfl:=Option.some.inj H;go_enter Tryz.func106,Tryz.ntmps106
  go_wp2_with(first|((with_reducible refine aJ (N:=2) rfl ?_);refine bx_ 2 36 #[.bool a0_0,.string a0_1,.string a0_2] (h:= ?_);intro gb154 hg w13 hbox hb;have BK154:=aA.mk (hbox);have GW154:=pkG HB hg;have GE154:=GW154;replace HB:=pkB HB hb;clear hb hbox hg)|((with_reducible refine aJ (N:=3) rfl ?_);refine bx_ 3 36 #[.bool a1_0,.string a1_1,.string a1_2] (h:= ?_);intro gb155 hg w14 hbox hb;have BK155:=aA.mk (hbox);have GW155:=pkG HB hg;have GE155:=GW155;obtain⟨NB154_155,NB155_154,_,_⟩:=pkQ BK154 hg;replace BK154:=pkK BK154 hb;replace HB:=pkB HB hb;clear hb hbox hg;have hnb15:=NB154_155.out;have hnc15:=NB155_154.out;obtain⟨⟨hcz16_0,hcz16_1,hcz16_2⟩,hfz16_0,hfz16_1,hfz16_2⟩:=pk3 BK154)|((with_reducible refine aG (f:=66) rfl ?_);refine gl_ 7 Tryz.func66 #[.agg #[.bool a0_0,.string a0_1,.string a0_2]] (h:= ?_);(with_reducible refine(bQ.calls k a0_0 a0_1 a0_2 t156 _ A3.out).mono ?_);rintro e w17 ⟨rfl,hb⟩;refine⟨_,rfl,?_⟩;replace BK154:=pkK BK154 hb;replace BK155:=pkK BK155 hb;replace HB:=pkB HB hb;try clear hb))
  go_ret
  exact pkE HB
def gV.f(a0:ByteArray)(a1:ByteArray):Option (ByteArray):=(jS.f a0 a1).bind fun bt158=>((eQ.f bt158.1 bt158.2).bind fun t160=>(some t160))
theorem gV.calls(a0:ByteArray)(a1:ByteArray)(r:ByteArray)(w:World)(hG:GW w)(h:gV.f a0 a1=some r) :
 Calls Tryz.prog 111 #[.string a0,.string a1] w fun e w'=>e= .returned (.string r)∧Below w.heap.size w w':=by
 have HG:=aA.mk hG;clear hG;have HB:=aA.mk (Below.refl w.heap.size w);have H:((jS.f a0 a1).bind fun bt158=>((eQ.f bt158.1 bt158.2).bind fun t160=>(some t160)))=some r:=h;clear h;obtain⟨⟨t158,t159⟩,A3,H⟩:=bi H;try dsimp only at H
 obtain⟨t160,A4,H⟩:=bi H;try dsimp only at H
 obtain rfl:=Option.some.inj H;go_enter Tryz.func111,Tryz.ntmps111
 go_wp2_with(first|((with_reducible refine aG (f:=24) rfl ?_);refine gl_ 7 Tryz.func24 #[.string a0,.string a1] (h:= ?_);(with_reducible refine(jS.calls (hG:=HG.out.below (pkL HB)) a0 a1 t158 t159 _ A3.out).mono ?_);rintro e w5 ⟨rfl,hb⟩;refine⟨_,rfl,?_⟩;replace HB:=pkB HB hb;try clear hb)|((with_reducible refine aG (f:=128) rfl ?_);refine gl_ 10 Tryz.func128 #[.string t158,.int .i64 t159] (h:= ?_);(with_reducible refine(eQ.calls t158 t159 t160 _ A4.out).mono ?_);rintro e w' ⟨rfl,⟨nd,rfl⟩⟩;refine⟨_,rfl,?_⟩))
 go_ret
 exact pkE HB
def eG.f(a0:ByteArray)(a1:ByteArray):Option (Bool):=if a0.toList=([48]:List UInt8) then(some (a1.toList==([48]:List UInt8))) else((fC.f a1 a0).bind fun bt161=>((eQ.f bt161.1 bt161.2).bind fun t163=>(some (t163.toList==([48]:List UInt8)))))
theorem eG.calls(a0:ByteArray)(a1:ByteArray)(r:Bool)(w:World)(hG:GW w)(h:eG.f a0 a1=some r) :
 Calls Tryz.prog 177 #[.string a0,.string a1] w fun e w'=>e= .returned (.bool r)∧Below w.heap.size w w':=by
 have HG:=aA.mk hG;clear hG;have HB:=aA.mk (Below.refl w.heap.size w);have H:(if a0.toList=([48]:List UInt8) then(some (a1.toList==([48]:List UInt8))) else((fC.f a1 a0).bind fun bt161=>((eQ.f bt161.1 bt161.2).bind fun t163=>(some (t163.toList==([48]:List UInt8))))))=some r:=h;clear h
 by_cases c3:a0.toList=([48]:List UInt8)
 ·rw[if_pos c3] at H
  have c3b0:(a0.toList==([48]:List UInt8))=true:=beq_iff_eq.mpr c3;have c3b1:(a0.toList != ([48]:List UInt8))=false:=bne_eq_false_iff_eq.mpr c3;clear c3;obtain rfl:=Option.some.inj H;go_enter Tryz.func177,Tryz.ntmps177
  go_wp2
  go_ret
  exact pkE HB
 ·rw[if_neg c3] at H
  have c3b0:(a0.toList==([48]:List UInt8))=false:=beq_eq_false_iff_ne.mpr c3;have c3b1:(a0.toList != ([48]:List UInt8))=true:=bne_iff_ne.mpr c3;obtain⟨⟨t161,t162⟩,A4,H⟩:=bi H;try dsimp only at H
  obtain⟨t163,A5,H⟩:=bi H;try dsimp only at H
  obtain rfl:=Option.some.inj H;go_enter Tryz.func177,Tryz.ntmps177
  go_wp2_with(first|((with_reducible refine aG (f:=20) rfl ?_);refine gl_ 11 Tryz.func20 #[.string a1,.string a0] (h:= ?_);(with_reducible refine(fC.calls (hG:=HG.out.below (pkL HB)) a1 a0 t161 t162 _ A4.out).mono ?_);rintro e w6 ⟨rfl,hb⟩;refine⟨_,rfl,?_⟩;replace HB:=pkB HB hb;try clear hb)|((with_reducible refine aG (f:=128) rfl ?_);refine gl_ 14 Tryz.func128 #[.string t161,.int .i64 t162] (h:= ?_);(with_reducible refine(eQ.calls t161 t162 t163 _ A5.out).mono ?_);rintro e w' ⟨rfl,⟨nd,rfl⟩⟩;refine⟨_,rfl,?_⟩))
  go_ret
  exact pkE HB
end Go.Proofs.YtignanmmgaldeaaGreatDoor.PCongI
end
section
set_option linter.unusedVariables false
set_option linter.unusedSimpArgs false
set_option maxHeartbeats 8000000
set_option maxRecDepth 100000
namespace Go.Proofs.YtignanmmgaldeaaGreatDoor.PCongI
open Go.RowKit Go.Proofs.YtignanmmgaldeaaGreatDoorW.PrintWords Go.Proofs.YtignanmmgaldeaaGreatDoorW.PrintLast Go.Proofs.YtignanmmgaldeaaGreatDoorW.PrintMore
attribute [local go_sem] gI gJ iE iF
def bC.j0:Nat→Bool→Bool→ByteArray→ByteArray→Bool→ByteArray→ByteArray→Option (Bool)
 |0,_,_,_,_,_,_,_=>none
 |k+1,x10,x165000,x165001,x165002,x166000,x166001,x166002=>if x10=true then(some x165000) else((eG.f x166001 x165001).bind fun t166=>(if t166=true then((gV.f x165002 x166002).bind fun t167=>((eG.f x166001 t167).bind fun t168=>(some t168))) else(some false)))
def bC.f(k:Nat)(a0_0:Bool)(a0_1:ByteArray)(a0_2:ByteArray)(a1_0:Bool)(a1_1:ByteArray)(a1_2:ByteArray):Option (Bool):=if a0_0=true then(bC.j0 k true a0_0 a0_1 a0_2 a1_0 a1_1 a1_2) else(bC.j0 k a1_0 a0_0 a0_1 a0_2 a1_0 a1_1 a1_2)
def bC.T3:Bool×List (List Nat×List Nat):=(true,[([],[]),([0],[0]),([],[]),([2],[2]),([1,3],[1,3]),([4,4],[4]),([5],[5]),([6,5],[5,6]),([5],[5]),([8,5],[5,8]),([5],[5]),([10,5],[5,10]),([9,11,5,5],[5,9,11]),([7,12,12,5],[5,7,12]),([5,13],[5,13]),([14,13,0,1,2,3,4,5,6,7,8,9,10,11,12,13,14],[14])])
def bC.B3:List Nat:= [0,1,0,4,15,31,63,127,63,319,63,1087,3903,8191,16383,32767]
theorem bC.tab3:rtab .any (opsOf Tryz.f107 3)=bC.T3:=by kernel_rfl
theorem bC.bits3:kV bC.T3.2 bC.B3=true:=by kernel_rfl
theorem bC.calls(k:Nat)(a0_0:Bool)(a0_1:ByteArray)(a0_2:ByteArray)(a1_0:Bool)(a1_1:ByteArray)(a1_2:ByteArray)(r:Bool)(w:World)(hG:GW w)(h:bC.f k a0_0 a0_1 a0_2 a1_0 a1_1 a1_2=some r) :
 Calls Tryz.prog 107 #[.agg #[.bool a0_0,.string a0_1,.string a0_2],.agg #[.bool a1_0,.string a1_1,.string a1_2]] w fun e w'=>e= .returned (.bool r)∧Below w.heap.size w w':=by
 have HG:=aA.mk hG;clear hG;have hu36:=Tryz.underlying36;have HB:=aA.mk (Below.refl w.heap.size w);have H:(if a0_0=true then(bC.j0 k true a0_0 a0_1 a0_2 a1_0 a1_1 a1_2) else(bC.j0 k a1_0 a0_0 a0_1 a0_2 a1_0 a1_1 a1_2))=some r:=h;clear h;have HC3:=aA.mk H;clear H;go_enter Tryz.func107,Tryz.ntmps107
 go_upto_region 1 with (first|((with_reducible refine aJ (N:=2) rfl ?_);refine bx_ 2 36 #[.bool a0_0,.string a0_1,.string a0_2] (h:= ?_);intro gb164 hg w4 hbox hb;have BK164:=aA.mk (hbox);have GW164:=pkG HB hg;have GE164:=GW164;replace HB:=pkB HB hb;clear hb hbox hg)|((with_reducible refine aJ (N:=3) rfl ?_);refine bx_ 3 36 #[.bool a1_0,.string a1_1,.string a1_2] (h:= ?_);intro gb165 hg w5 hbox hb;have BK165:=aA.mk (hbox);have GW165:=pkG HB hg;have GE165:=GW165;obtain⟨NB164_165,NB165_164,_,_⟩:=pkQ BK164 hg;replace BK164:=pkK BK164 hb;replace HB:=pkB HB hb;clear hb hbox hg))
 (try simp only[Act.put,List.setIfInBounds_toArray,List.set_cons_zero,List.set_cons_succ])
 go_cut [10] (fun v10 wc=>∃(kq:Nat) (x10_2:Bool),v10= .bool x10_2∧aA (bC.j0 kq x10_2 a0_0 a0_1 a0_2 a1_0 a1_1 a1_2=some r)∧aA (kq≤k)∧aA (wc.heap[gb164]? =some (.cells #[.bool a0_0,.string a0_1,.string a0_2] 36 (0,0)))∧aA (wc.heap[gb165]? =some (.cells #[.bool a1_0,.string a1_1,.string a1_2] 36 (0,0)))∧aA (Below w.heap.size w wc))
 case first=>
  have H:=HC3.out;clear HC3
  by_cases c6:a0_0=true
  ·subst c6
   rw[if_pos rfl] at H;have H':=aA.mk H;clear H;have hnb7:=NB164_165.out;have hnc7:=NB165_164.out;obtain⟨⟨hcz8_0,hcz8_1,hcz8_2⟩,hfz8_0,hfz8_1,hfz8_2⟩:=pk3 BK164;go_wp2
   go_meet
   case rel=>exact⟨_,(true),aCs,H',⟨by first|omega|exact Nat.le_refl _⟩,⟨pkW BK164⟩,⟨pkW BK165⟩,⟨pkL HB⟩⟩
  ·replace c6:=Bool.eq_false_iff.mpr c6
   subst c6;rw[if_neg (show ¬(false=true) by decide)] at H;have H':=aA.mk H;clear H;have hnb9:=NB164_165.out;have hnc9:=NB165_164.out;obtain⟨⟨hcz10_0,hcz10_1,hcz10_2⟩,hfz10_0,hfz10_1,hfz10_2⟩:=pk3 BK164;obtain⟨⟨hcz11_0,hcz11_1,hcz11_2⟩,hfz11_0,hfz11_1,hfz11_2⟩:=pk3 BK165;go_wp2
   go_meet
   case rel=>exact⟨_,(a1_0),aCs,H',⟨by first|omega|exact Nat.le_refl _⟩,⟨pkW BK164⟩,⟨pkW BK165⟩,⟨pkL HB⟩⟩
 case rest=>
  clear HC3;try clear c6
  try clear hcz10_0
  try clear hcz10_1
  try clear hcz10_2
  try clear hcz11_0
  try clear hcz11_1
  try clear hcz11_2
  try clear hcz8_0
  try clear hcz8_1
  try clear hcz8_2
  try clear hfz10_0
  try clear hfz10_1
  try clear hfz10_2
  try clear hfz11_0
  try clear hfz11_1
  try clear hfz11_2
  try clear hfz8_0
  try clear hfz8_1
  try clear hfz8_2
  obtain⟨kq,x10_2,rfl,HA,HJ2,BK164,BK165,HB⟩:=hcut
  cases kq with
  |zero=>exact absurd HA.out (by simp[bC.j0])
  |succ kj2=>
   have H:=HA.out;clear HA;simp only[bC.j0] at H
   by_cases c12:x10_2=true
   ·subst c12
    rw[if_pos rfl] at H;obtain rfl:=Option.some.inj H;have hnb13:=NB164_165.out;have hnc13:=NB165_164.out;obtain⟨⟨hcz14_0,hcz14_1,hcz14_2⟩,hfz14_0,hfz14_1,hfz14_2⟩:=pk3 BK164;go_wp2
    go_ret
    exact pkE HB
   ·replace c12:=Bool.eq_false_iff.mpr c12
    subst c12;rw[if_neg (show ¬(false=true) by decide)] at H;obtain⟨t166,A15,H⟩:=bi H;try dsimp only at H
    by_cases c16:t166=true
    ·subst c16
     rw[if_pos rfl] at H;obtain⟨t167,A17,H⟩:=bi H;try dsimp only at H
     obtain⟨t168,A18,H⟩:=bi H;try dsimp only at H
     obtain rfl:=Option.some.inj H
     try go_wp2
     replace BK164:=aA.mk (aQ BK164.out);replace BK165:=aA.mk (aQ BK165.out);replace HB:=aA.mk (bG HB.out)
     refine jY (n:=16) (S:=fun w'=>w'.cell? ⟨gb165,0,none⟩=some (.bool a1_0)∧w'.cell? ⟨gb165,1,none⟩=some (.string a1_1)∧w'.cell? ⟨gb165,2,none⟩=some (.string a1_2)∧w'.cell? ⟨gb164,0,none⟩=some (.bool a0_0)∧w'.cell? ⟨gb164,1,none⟩=some (.string a0_1)∧w'.cell? ⟨gb164,2,none⟩=some (.string a0_2)) (ds:= []) #[false,false,false,false,false,false,false,false,false,false,false,false,false,false,false,false] (by kernel_rfl) rfl rfl ⟨(aC BK165.out 0).trans rfl,(aC BK165.out 1).trans rfl,(aC BK165.out 2).trans rfl,(aC BK164.out 0).trans rfl,(aC BK164.out 1).trans rfl,(aC BK164.out 2).trans rfl⟩ (fun hHeld=> ?_);refine kP bC.tab3 bC.bits3 (fun HT_ HW_=> ?_)
     generalize wc.drew=w19 at BK164 BK165 HB hHeld ⊢;refine pr_ 0 13 (h:= ?_);refine pr_ 2 15 (h:= ?_);refine tk_ 1 14 hHeld (hy:=by rintro w' ⟨s0,s1,s2,s3,s4,s5⟩;go_simp;with_reducible rfl) (h:= ?_);refine tk_ 3 16 hHeld (hy:=by rintro w' ⟨s0,s1,s2,s3,s4,s5⟩;go_simp;with_reducible rfl) (h:= ?_);refine on_ 4 17 (h:=fun K hK=> ?_);refine g1_ Tryz.func177 #[.string a1_1,.string a0_1] (h:= ?_);with_reducible refine(eG.calls (hG:=HG.out.below (pkL HB)) a1_1 a0_1 true _ A15.out).mono ?_
     rintro e w20 ⟨rfl,hb⟩;refine⟨_,rfl,?_⟩;replace BK164:=pkK BK164 hb;replace BK165:=pkK BK165 hb;replace HB:=pkB HB hb
     (try clear hb)
     (try clear hb2)
     (try clear hk)
     (try clear hi)
     refine hK.out _ _ ⟨(aC BK165.out 0).trans rfl,(aC BK165.out 1).trans rfl,(aC BK165.out 2).trans rfl,(aC BK164.out 0).trans rfl,(aC BK164.out 1).trans rfl,(aC BK164.out 2).trans rfl⟩ (fun hHeld=> ?_);clear hK K;refine gG (a':= ?_) ?_ ?_
     rotate_left
     ·show Act.put _ (some 17) _=_
      simp only[Act.put,List.setIfInBounds_toArray,List.set_cons_zero,List.set_cons_succ,dE,dM];rfl
     refine pr_ 5 18 (h:= ?_);refine pr_ 6 19 (h:= ?_);refine pr_ 8 21 (h:= ?_);refine pr_ 10 23 (h:= ?_);refine tk_ 7 20 hHeld (hy:=by rintro w' ⟨s0,s1,s2,s3,s4,s5⟩;go_simp;with_reducible rfl) (h:= ?_);refine tk_ 9 22 hHeld (hy:=by rintro w' ⟨s0,s1,s2,s3,s4,s5⟩;go_simp;with_reducible rfl) (h:= ?_);refine tk_ 11 24 hHeld (hy:=by rintro w' ⟨s0,s1,s2,s3,s4,s5⟩;go_simp;with_reducible rfl) (h:= ?_);refine on_ 12 25 (h:=fun K hK=> ?_);refine g1_ Tryz.func111 #[.string a0_2,.string a1_2] (h:= ?_);with_reducible refine(gV.calls (hG:=HG.out.below (pkL HB)) a0_2 a1_2 t167 _ A17.out).mono ?_
     rintro e w21 ⟨rfl,hb⟩;refine⟨_,rfl,?_⟩;replace BK164:=pkK BK164 hb;replace BK165:=pkK BK165 hb;replace HB:=pkB HB hb
     (try clear hb)
     (try clear hb2)
     (try clear hk)
     (try clear hi)
     refine hK.out _ _ ⟨(aC BK165.out 0).trans rfl,(aC BK165.out 1).trans rfl,(aC BK165.out 2).trans rfl,(aC BK164.out 0).trans rfl,(aC BK164.out 1).trans rfl,(aC BK164.out 2).trans rfl⟩ (fun hHeld=> ?_);clear hK K;refine gG (a':= ?_) ?_ ?_
     rotate_left
     ·show Act.put _ (some 25) _=_
      simp only[Act.put,List.setIfInBounds_toArray,List.set_cons_zero,List.set_cons_succ,dE,dM];rfl
     refine on_ 13 26 (h:=fun K hK=> ?_);refine g1_ Tryz.func177 #[.string a1_1,.string t167] (h:= ?_);with_reducible refine(eG.calls (hG:=HG.out.below (pkL HB)) a1_1 t167 t168 _ A18.out).mono ?_
     rintro e w22 ⟨rfl,hb⟩;refine⟨_,rfl,?_⟩;replace BK164:=pkK BK164 hb;replace BK165:=pkK BK165 hb;replace HB:=pkB HB hb
     (try clear hb)
     (try clear hb2)
     (try clear hk)
     (try clear hi)
     refine hK.out _ _ ⟨(aC BK165.out 0).trans rfl,(aC BK165.out 1).trans rfl,(aC BK165.out 2).trans rfl,(aC BK164.out 0).trans rfl,(aC BK164.out 1).trans rfl,(aC BK164.out 2).trans rfl⟩ (fun hHeld=> ?_);clear hK K;refine gG (a':= ?_) ?_ ?_
     rotate_left
     ·show Act.put _ (some 26) _=_
      simp only[Act.put,List.setIfInBounds_toArray,List.set_cons_zero,List.set_cons_succ,dE,dM];rfl
     refine pr_ 14 27 (h:= ?_);refine pr_ 15 4 (h:= ?_);refine kT (mG HT_.out (by kernel_rfl)) ?_
     try go_wp2
     go_ret
     exact pkE HB
    ·replace c16:=Bool.eq_false_iff.mpr c16
     subst c16;rw[if_neg (show ¬(false=true) by decide)] at H;obtain rfl:=Option.some.inj H
     try go_wp2
     replace BK164:=aA.mk (aQ BK164.out);replace BK165:=aA.mk (aQ BK165.out);replace HB:=aA.mk (bG HB.out)
     refine jY (n:=16) (S:=fun w'=>w'.cell? ⟨gb165,0,none⟩=some (.bool a1_0)∧w'.cell? ⟨gb165,1,none⟩=some (.string a1_1)∧w'.cell? ⟨gb165,2,none⟩=some (.string a1_2)∧w'.cell? ⟨gb164,0,none⟩=some (.bool a0_0)∧w'.cell? ⟨gb164,1,none⟩=some (.string a0_1)∧w'.cell? ⟨gb164,2,none⟩=some (.string a0_2)) (ds:= []) #[false,false,false,false,false,false,false,false,false,false,false,false,false,false,false,false] (by kernel_rfl) rfl rfl ⟨(aC BK165.out 0).trans rfl,(aC BK165.out 1).trans rfl,(aC BK165.out 2).trans rfl,(aC BK164.out 0).trans rfl,(aC BK164.out 1).trans rfl,(aC BK164.out 2).trans rfl⟩ (fun hHeld=> ?_);refine kP bC.tab3 bC.bits3 (fun HT_ HW_=> ?_)
     generalize wc.drew=w23 at BK164 BK165 HB hHeld ⊢;refine pr_ 0 13 (h:= ?_);refine pr_ 2 15 (h:= ?_);refine tk_ 1 14 hHeld (hy:=by rintro w' ⟨s0,s1,s2,s3,s4,s5⟩;go_simp;with_reducible rfl) (h:= ?_);refine tk_ 3 16 hHeld (hy:=by rintro w' ⟨s0,s1,s2,s3,s4,s5⟩;go_simp;with_reducible rfl) (h:= ?_);refine on_ 4 17 (h:=fun K hK=> ?_);refine g1_ Tryz.func177 #[.string a1_1,.string a0_1] (h:= ?_);with_reducible refine(eG.calls (hG:=HG.out.below (pkL HB)) a1_1 a0_1 false _ A15.out).mono ?_
     rintro e w24 ⟨rfl,hb⟩;refine⟨_,rfl,?_⟩;replace BK164:=pkK BK164 hb;replace BK165:=pkK BK165 hb;replace HB:=pkB HB hb
     (try clear hb)
     (try clear hb2)
     (try clear hk)
     (try clear hi)
     refine hK.out _ _ ⟨(aC BK165.out 0).trans rfl,(aC BK165.out 1).trans rfl,(aC BK165.out 2).trans rfl,(aC BK164.out 0).trans rfl,(aC BK164.out 1).trans rfl,(aC BK164.out 2).trans rfl⟩ (fun hHeld=> ?_);clear hK K;refine gG (a':= ?_) ?_ ?_
     rotate_left
     ·show Act.put _ (some 17) _=_
      simp only[Act.put,List.setIfInBounds_toArray,List.set_cons_zero,List.set_cons_succ,dE,dM];rfl
     refine pr_ 5 18 (h:= ?_);refine pure_ (i:=6) (N:=some 19) (v:=undef) (a':= ?_) #[true,true,true,true,true,true,true,false,false,false,false,false,false,false,false,false] rfl rfl (vI HT_.out (by kernel_rfl)) (fun _ _ _ h=>h) (Or.inr ⟨by rfl,rfl⟩) ?_ ?_
     rotate_left
     ·simp only[Act.put,List.setIfInBounds_toArray,List.set_cons_zero,List.set_cons_succ,dE,dM]
      rfl
     refine pure_ (i:=7) (N:=some 20) (v:=undef) (a':= ?_) #[true,true,true,true,true,true,true,true,false,false,false,false,false,false,false,false] rfl rfl (vI HT_.out (by kernel_rfl)) (fun _ _ _ h=>h) (Or.inr ⟨by rfl,rfl⟩) ?_ ?_
     rotate_left
     ·simp only[Act.put,List.setIfInBounds_toArray,List.set_cons_zero,List.set_cons_succ,dE,dM]
      rfl
     refine pure_ (i:=8) (N:=some 21) (v:=undef) (a':= ?_) #[true,true,true,true,true,true,true,true,true,false,false,false,false,false,false,false] rfl rfl (vI HT_.out (by kernel_rfl)) (fun _ _ _ h=>h) (Or.inr ⟨by rfl,rfl⟩) ?_ ?_
     rotate_left
     ·simp only[Act.put,List.setIfInBounds_toArray,List.set_cons_zero,List.set_cons_succ,dE,dM]
      rfl
     refine pure_ (i:=9) (N:=some 22) (v:=undef) (a':= ?_) #[true,true,true,true,true,true,true,true,true,true,false,false,false,false,false,false] rfl rfl (vI HT_.out (by kernel_rfl)) (fun _ _ _ h=>h) (Or.inr ⟨by rfl,rfl⟩) ?_ ?_
     rotate_left
     ·simp only[Act.put,List.setIfInBounds_toArray,List.set_cons_zero,List.set_cons_succ,dE,dM]
      rfl
     refine pure_ (i:=10) (N:=some 23) (v:=undef) (a':= ?_) #[true,true,true,true,true,true,true,true,true,true,true,false,false,false,false,false] rfl rfl (vI HT_.out (by kernel_rfl)) (fun _ _ _ h=>h) (Or.inr ⟨by rfl,rfl⟩) ?_ ?_
     rotate_left
     ·simp only[Act.put,List.setIfInBounds_toArray,List.set_cons_zero,List.set_cons_succ,dE,dM]
      rfl
     refine pure_ (i:=11) (N:=some 24) (v:=undef) (a':= ?_) #[true,true,true,true,true,true,true,true,true,true,true,true,false,false,false,false] rfl rfl (vI HT_.out (by kernel_rfl)) (fun _ _ _ h=>h) (Or.inr ⟨by rfl,rfl⟩) ?_ ?_
     rotate_left
     ·simp only[Act.put,List.setIfInBounds_toArray,List.set_cons_zero,List.set_cons_succ,dE,dM]
      rfl
     refine pure_ (i:=12) (N:=some 25) (v:=undef) (a':= ?_) #[true,true,true,true,true,true,true,true,true,true,true,true,true,false,false,false] rfl rfl (vI HT_.out (by kernel_rfl)) (fun _ _ _ h=>h) (Or.inr ⟨by rfl,rfl⟩) ?_ ?_
     rotate_left
     ·simp only[Act.put,List.setIfInBounds_toArray,List.set_cons_zero,List.set_cons_succ,dE,dM]
      rfl
     refine pure_ (i:=13) (N:=some 26) (v:=undef) (a':= ?_) #[true,true,true,true,true,true,true,true,true,true,true,true,true,true,false,false] rfl rfl (vI HT_.out (by kernel_rfl)) (fun _ _ _ h=>h) (Or.inr ⟨by rfl,rfl⟩) ?_ ?_
     rotate_left
     ·simp only[Act.put,List.setIfInBounds_toArray,List.set_cons_zero,List.set_cons_succ,dE,dM]
      rfl
     refine pr_ 14 27 (h:= ?_);refine pr_ 15 4 (h:= ?_);refine kT (mG HT_.out (by kernel_rfl)) ?_
     try go_wp2
     go_ret
     exact pkE HB
def oN.f(k:Nat)(a0_0:Bool)(a0_1:ByteArray)(a0_2:ByteArray)(a1_0:Bool)(a1_1:ByteArray)(a1_2:ByteArray):Option (Bool×Int):=(gB.f k a0_0 a0_1 a0_2 a1_0 a1_1 a1_2).bind fun t171=>(if t171=0 then((bC.f k a0_0 a0_1 a0_2 a1_0 a1_1 a1_2).bind fun t172=>(some (t172,t171))) else(some (false,t171)))
theorem oN.calls(k:Nat)(a0_0:Bool)(a0_1:ByteArray)(a0_2:ByteArray)(a1_0:Bool)(a1_1:ByteArray)(a1_2:ByteArray)(r1:Bool)(r2:Int)(w:World)(hG:GW w)(h:oN.f k a0_0 a0_1 a0_2 a1_0 a1_1 a1_2=some (r1,r2)) :
 Calls Tryz.prog 40 #[.agg #[.bool a0_0,.string a0_1,.string a0_2],.agg #[.bool a1_0,.string a1_1,.string a1_2]] w fun e w'=>e= .returned (.tuple #[.bool r1,.int .i64 r2])∧Below w.heap.size w w':=by
 have HG:=aA.mk hG;clear hG;have hu36:=Tryz.underlying36;have HB:=aA.mk (Below.refl w.heap.size w);have H:((gB.f k a0_0 a0_1 a0_2 a1_0 a1_1 a1_2).bind fun t171=>(if t171=0 then((bC.f k a0_0 a0_1 a0_2 a1_0 a1_1 a1_2).bind fun t172=>(some (t172,t171))) else(some (false,t171))))=some (r1,r2):=h;clear h;obtain⟨t171,A3,H⟩:=bi H;try dsimp only at H
 by_cases c4:t171=0
 ·rw[if_pos c4] at H
  have c4b0:(t171==0)=true:=beq_iff_eq.mpr c4;have c4b1:(t171 != 0)=false:=bne_eq_false_iff_eq.mpr c4;clear c4;obtain⟨t172,A5,H⟩:=bi H;try dsimp only at H
  simp only[Option.some.injEq,Prod.mk.injEq] at H;obtain⟨rfl,rfl⟩:=H;go_enter Tryz.func40,Tryz.ntmps40
  go_wp2_with(first|((with_reducible refine aJ (N:=2) rfl ?_);refine bx_ 2 36 #[.bool a0_0,.string a0_1,.string a0_2] (h:= ?_);intro gb169 hg w6 hbox hb;have BK169:=aA.mk (hbox);have GW169:=pkG HB hg;have GE169:=GW169;replace HB:=pkB HB hb;clear hb hbox hg)|((with_reducible refine aJ (N:=3) rfl ?_);refine bx_ 3 36 #[.bool a1_0,.string a1_1,.string a1_2] (h:= ?_);intro gb170 hg w7 hbox hb;have BK170:=aA.mk (hbox);have GW170:=pkG HB hg;have GE170:=GW170;obtain⟨NB169_170,NB170_169,_,_⟩:=pkQ BK169 hg;replace BK169:=pkK BK169 hb;replace HB:=pkB HB hb;clear hb hbox hg;have hnb8:=NB169_170.out;have hnc8:=NB170_169.out;obtain⟨⟨hcz9_0,hcz9_1,hcz9_2⟩,hfz9_0,hfz9_1,hfz9_2⟩:=pk3 BK169;obtain⟨⟨hcz10_0,hcz10_1,hcz10_2⟩,hfz10_0,hfz10_1,hfz10_2⟩:=pk3 BK170)|((with_reducible refine aG (f:=106) rfl ?_);refine gl_ 9 Tryz.func106 #[.agg #[.bool a0_0,.string a0_1,.string a0_2],.agg #[.bool a1_0,.string a1_1,.string a1_2]] (h:= ?_);(with_reducible refine(gB.calls k a0_0 a0_1 a0_2 a1_0 a1_1 a1_2 t171 _ A3.out).mono ?_);rintro e w11 ⟨rfl,hb⟩;refine⟨_,rfl,?_⟩;replace BK169:=pkK BK169 hb;replace BK170:=pkK BK170 hb;replace HB:=pkB HB hb;try clear hb;obtain⟨⟨hcz12_0,hcz12_1,hcz12_2⟩,hfz12_0,hfz12_1,hfz12_2⟩:=pk3 BK169;obtain⟨⟨hcz13_0,hcz13_1,hcz13_2⟩,hfz13_0,hfz13_1,hfz13_2⟩:=pk3 BK170)|(go_at_call 107;(with_reducible refine(bC.calls (hG:=HG.out.below (pkL HB)) k a0_0 a0_1 a0_2 a1_0 a1_1 a1_2 t172 _ A5.out).mono ?_);rintro e w14 ⟨rfl,hb⟩;replace BK169:=pkK BK169 hb;replace BK170:=pkK BK170 hb;replace HB:=pkB HB hb;try clear hb))
  go_ret2
  exact pkE HB
 ·rw[if_neg c4] at H
  have c4b0:(t171==0)=false:=beq_eq_false_iff_ne.mpr c4;have c4b1:(t171 != 0)=true:=bne_iff_ne.mpr c4;simp only[Option.some.injEq,Prod.mk.injEq] at H;obtain⟨rfl,rfl⟩:=H;go_enter Tryz.func40,Tryz.ntmps40
  go_wp2_with(first|((with_reducible refine aJ (N:=2) rfl ?_);refine bx_ 2 36 #[.bool a0_0,.string a0_1,.string a0_2] (h:= ?_);intro gb169 hg w15 hbox hb;have BK169:=aA.mk (hbox);have GW169:=pkG HB hg;have GE169:=GW169;replace HB:=pkB HB hb;clear hb hbox hg)|((with_reducible refine aJ (N:=3) rfl ?_);refine bx_ 3 36 #[.bool a1_0,.string a1_1,.string a1_2] (h:= ?_);intro gb170 hg w16 hbox hb;have BK170:=aA.mk (hbox);have GW170:=pkG HB hg;have GE170:=GW170;obtain⟨NB169_170,NB170_169,_,_⟩:=pkQ BK169 hg;replace BK169:=pkK BK169 hb;replace HB:=pkB HB hb;clear hb hbox hg;have hnb17:=NB169_170.out;have hnc17:=NB170_169.out;obtain⟨⟨hcz18_0,hcz18_1,hcz18_2⟩,hfz18_0,hfz18_1,hfz18_2⟩:=pk3 BK169;obtain⟨⟨hcz19_0,hcz19_1,hcz19_2⟩,hfz19_0,hfz19_1,hfz19_2⟩:=pk3 BK170)|((with_reducible refine aG (f:=106) rfl ?_);refine gl_ 9 Tryz.func106 #[.agg #[.bool a0_0,.string a0_1,.string a0_2],.agg #[.bool a1_0,.string a1_1,.string a1_2]] (h:= ?_);(with_reducible refine(gB.calls k a0_0 a0_1 a0_2 a1_0 a1_1 a1_2 t171 _ A3.out).mono ?_);rintro e w20 ⟨rfl,hb⟩;refine⟨_,rfl,?_⟩;replace BK169:=pkK BK169 hb;replace BK170:=pkK BK170 hb;replace HB:=pkB HB hb;try clear hb))
  go_ret2
  exact pkE HB
def dO.f(a0:ByteArray)(a1:ByteArray):Option (ByteArray):=(pO.f a0 a1).bind fun bt173=>((eQ.f bt173.1 bt173.2).bind fun t175=>(some t175))
theorem dO.calls(a0:ByteArray)(a1:ByteArray)(r:ByteArray)(w:World)(hG:GW w)(h:dO.f a0 a1=some r) :
 Calls Tryz.prog 110 #[.string a0,.string a1] w fun e w'=>e= .returned (.string r)∧Below w.heap.size w w':=by
 have HG:=aA.mk hG;clear hG;have HB:=aA.mk (Below.refl w.heap.size w);have H:((pO.f a0 a1).bind fun bt173=>((eQ.f bt173.1 bt173.2).bind fun t175=>(some t175)))=some r:=h;clear h;obtain⟨⟨t173,t174⟩,A3,H⟩:=bi H;try dsimp only at H
 obtain⟨t175,A4,H⟩:=bi H;try dsimp only at H
 obtain rfl:=Option.some.inj H;go_enter Tryz.func110,Tryz.ntmps110
 go_wp2_with(first|((with_reducible refine aG (f:=28) rfl ?_);refine gl_ 7 Tryz.func28 #[.string a0,.string a1] (h:= ?_);(with_reducible refine(pO.calls (hG:=HG.out.below (pkL HB)) a0 a1 t173 t174 _ A3.out).mono ?_);rintro e w5 ⟨rfl,hb⟩;refine⟨_,rfl,?_⟩;replace HB:=pkB HB hb;try clear hb)|((with_reducible refine aG (f:=128) rfl ?_);refine gl_ 10 Tryz.func128 #[.string t173,.int .i64 t174] (h:= ?_);(with_reducible refine(eQ.calls t173 t174 t175 _ A4.out).mono ?_);rintro e w' ⟨rfl,⟨nd,rfl⟩⟩;refine⟨_,rfl,?_⟩))
 go_ret
 exact pkE HB
end Go.Proofs.YtignanmmgaldeaaGreatDoor.PCongI
end
section
set_option linter.unusedVariables false
set_option linter.unusedSimpArgs false
set_option maxHeartbeats 8000000
set_option maxRecDepth 100000
namespace Go.Proofs.YtignanmmgaldeaaGreatDoor.PCongI
open Go.RowKit Go.Proofs.YtignanmmgaldeaaGreatDoorW.PrintWords Go.Proofs.YtignanmmgaldeaaGreatDoorW.PrintLast Go.Proofs.YtignanmmgaldeaaGreatDoorW.PrintMore
attribute [local go_sem] gI gJ iE iF
def iK.f(k:Nat)(a0_0:Bool)(a0_1:ByteArray)(a0_2:ByteArray)(a1_0:Bool)(a1_1:ByteArray)(a1_2:ByteArray):Option (Bool×ByteArray×ByteArray×Int):=(gB.f k a0_0 a0_1 a0_2 a1_0 a1_1 a1_2).bind fun t179=>(if t179=0 then(if a0_0=true then(some (a1_0,a1_1,a1_2,0)) else(if a1_0=true then(some (a0_0,a0_1,a0_2,0)) else((dO.f a0_1 a1_1).bind fun t180=>((gV.f a0_2 a1_2).bind fun t181=>((dO.f t180 t181).bind fun t182=>((bI.f k t182 a0_2).bind fun bt183=>(some (bt183.1,bt183.2.1,bt183.2.2,0)))))))) else(some (false,(⟨#[]⟩:ByteArray),(⟨#[]⟩:ByteArray),t179)))
def iK.T8:Bool×List (List Nat×List Nat):=(true,[([],[]),([0],[0]),([],[]),([2],[2]),([1,3],[1,3]),([],[]),([5],[5]),([],[]),([7],[7]),([6,8,4],[6,8]),([4,9,9],[4,9]),([],[]),([11],[11]),([10,12,10],[10,12]),([13,13,0,1,2,3,4,5,6,7,8,9,10,11,12,13],[13]),([14,0,1,2,3,4,5,6,7,8,9,10,11,12,13,14],[])])
def iK.B8:List Nat:= [0,1,0,4,15,0,32,0,128,511,1023,0,2048,8191,16383,32767]
theorem iK.tab8:rtab .any (opsOf Tryz.f42 8)=iK.T8:=by kernel_rfl
theorem iK.bits8:kV iK.T8.2 iK.B8=true:=by kernel_rfl
theorem iK.calls(k:Nat)(a0_0:Bool)(a0_1:ByteArray)(a0_2:ByteArray)(a1_0:Bool)(a1_1:ByteArray)(a1_2:ByteArray)(r1:Bool)(r2:ByteArray)(r3:ByteArray)(r4:Int)(w:World)(hG:GW w)(h:iK.f k a0_0 a0_1 a0_2 a1_0 a1_1 a1_2=some (r1,r2,r3,r4)) :
 Calls Tryz.prog 42 #[.agg #[.bool a0_0,.string a0_1,.string a0_2],.agg #[.bool a1_0,.string a1_1,.string a1_2]] w fun e w'=>e= .returned (.tuple #[.agg #[.bool r1,.string r2,.string r3],.int .i64 r4])∧Below w.heap.size w w':=by
 have HG:=aA.mk hG;clear hG;have hu36:=Tryz.underlying36;have HB:=aA.mk (Below.refl w.heap.size w);have H:((gB.f k a0_0 a0_1 a0_2 a1_0 a1_1 a1_2).bind fun t179=>(if t179=0 then(if a0_0=true then(some (a1_0,a1_1,a1_2,0)) else(if a1_0=true then(some (a0_0,a0_1,a0_2,0)) else((dO.f a0_1 a1_1).bind fun t180=>((gV.f a0_2 a1_2).bind fun t181=>((dO.f t180 t181).bind fun t182=>((bI.f k t182 a0_2).bind fun bt183=>(some (bt183.1,bt183.2.1,bt183.2.2,0)))))))) else(some (false,(⟨#[]⟩:ByteArray),(⟨#[]⟩:ByteArray),t179))))=some (r1,r2,r3,r4):=h;clear h;obtain⟨t179,A3,H⟩:=bi H;try dsimp only at H
 by_cases c4:t179=0
 ·rw[if_pos c4] at H
  have c4b0:(t179==0)=true:=beq_iff_eq.mpr c4;have c4b1:(t179 != 0)=false:=bne_eq_false_iff_eq.mpr c4;clear c4
  by_cases c5:a0_0=true
  ·subst c5
   rw[if_pos rfl] at H;simp only[Option.some.injEq,Prod.mk.injEq] at H;obtain⟨rfl,rfl,rfl,rfl⟩:=H;go_enter Tryz.func42,Tryz.ntmps42
   go_wp2_with(first|((with_reducible refine aJ (N:=2) rfl ?_);refine bx_ 2 36 #[.bool true,.string a0_1,.string a0_2] (h:= ?_);intro gb176 hg w6 hbox hb;have BK176:=aA.mk (hbox);have GW176:=pkG HB hg;have GE176:=GW176;replace HB:=pkB HB hb;clear hb hbox hg)|((with_reducible refine aJ (N:=3) rfl ?_);refine bx_ 3 36 #[.bool a1_0,.string a1_1,.string a1_2] (h:= ?_);intro gb177 hg w7 hbox hb;have BK177:=aA.mk (hbox);have GW177:=pkG HB hg;have GE177:=GW177;obtain⟨NB176_177,NB177_176,_,_⟩:=pkQ BK176 hg;replace BK176:=pkK BK176 hb;replace HB:=pkB HB hb;clear hb hbox hg)|((with_reducible refine aJ (N:=4) rfl ?_);refine bx_ 4 36 #[.bool false,.string (⟨#[]⟩:ByteArray),.string (⟨#[]⟩:ByteArray)] (h:= ?_);intro gb178 hg w8 hbox hb;have BK178:=aA.mk (hbox);have GW178:=pkG HB hg;have GE178:=GW178;obtain⟨NB176_178,NB178_176,_,_⟩:=pkQ BK176 hg;obtain⟨NB177_178,NB178_177,_,_⟩:=pkQ BK177 hg;replace BK176:=pkK BK176 hb;replace BK177:=pkK BK177 hb;replace HB:=pkB HB hb;clear hb hbox hg;have hnb9:=NB176_177.out;have hnc9:=NB177_176.out;have hnb10:=NB176_178.out;have hnc10:=NB178_176.out;obtain⟨⟨hcz11_0,hcz11_1,hcz11_2⟩,hfz11_0,hfz11_1,hfz11_2⟩:=pk3 BK176;have hnb12:=NB177_178.out;have hnc12:=NB178_177.out;obtain⟨⟨hcz13_0,hcz13_1,hcz13_2⟩,hfz13_0,hfz13_1,hfz13_2⟩:=pk3 BK177)|((with_reducible refine aG (f:=106) rfl ?_);refine gl_ 9 Tryz.func106 #[.agg #[.bool true,.string a0_1,.string a0_2],.agg #[.bool a1_0,.string a1_1,.string a1_2]] (h:= ?_);(with_reducible refine(gB.calls k true a0_1 a0_2 a1_0 a1_1 a1_2 t179 _ A3.out).mono ?_);rintro e w14 ⟨rfl,hb⟩;refine⟨_,rfl,?_⟩;replace BK176:=pkK BK176 hb;replace BK177:=pkK BK177 hb;replace BK178:=pkK BK178 hb;replace HB:=pkB HB hb;try clear hb;obtain⟨⟨hcz15_0,hcz15_1,hcz15_2⟩,hfz15_0,hfz15_1,hfz15_2⟩:=pk3 BK176;obtain⟨⟨hcz16_0,hcz16_1,hcz16_2⟩,hfz16_0,hfz16_1,hfz16_2⟩:=pk3 BK177;obtain⟨⟨hcz17_0,hcz17_1,hcz17_2⟩,hfz17_0,hfz17_1,hfz17_2⟩:=pk3 BK178))
   refine bodyPost_ret (jG rfl _ _ gb178 36 #[.bool a1_0,.string a1_1,.string a1_2] (0,0) _ rfl (pkS3 BK178) Tryz.underlying36 rfl (by kernel_rfl)) rfl ?_;exact pkE HB
  ·replace c5:=Bool.eq_false_iff.mpr c5
   subst c5;rw[if_neg (show ¬(false=true) by decide)] at H
   by_cases c18:a1_0=true
   ·subst c18
    rw[if_pos rfl] at H;simp only[Option.some.injEq,Prod.mk.injEq] at H;obtain⟨rfl,rfl,rfl,rfl⟩:=H;go_enter Tryz.func42,Tryz.ntmps42
    go_wp2_with(first|((with_reducible refine aJ (N:=2) rfl ?_);refine bx_ 2 36 #[.bool false,.string a0_1,.string a0_2] (h:= ?_);intro gb176 hg w19 hbox hb;have BK176:=aA.mk (hbox);have GW176:=pkG HB hg;have GE176:=GW176;replace HB:=pkB HB hb;clear hb hbox hg)|((with_reducible refine aJ (N:=3) rfl ?_);refine bx_ 3 36 #[.bool true,.string a1_1,.string a1_2] (h:= ?_);intro gb177 hg w20 hbox hb;have BK177:=aA.mk (hbox);have GW177:=pkG HB hg;have GE177:=GW177;obtain⟨NB176_177,NB177_176,_,_⟩:=pkQ BK176 hg;replace BK176:=pkK BK176 hb;replace HB:=pkB HB hb;clear hb hbox hg)|((with_reducible refine aJ (N:=4) rfl ?_);refine bx_ 4 36 #[.bool false,.string (⟨#[]⟩:ByteArray),.string (⟨#[]⟩:ByteArray)] (h:= ?_);intro gb178 hg w21 hbox hb;have BK178:=aA.mk (hbox);have GW178:=pkG HB hg;have GE178:=GW178;obtain⟨NB176_178,NB178_176,_,_⟩:=pkQ BK176 hg;obtain⟨NB177_178,NB178_177,_,_⟩:=pkQ BK177 hg;replace BK176:=pkK BK176 hb;replace BK177:=pkK BK177 hb;replace HB:=pkB HB hb;clear hb hbox hg;have hnb22:=NB176_177.out;have hnc22:=NB177_176.out;have hnb23:=NB176_178.out;have hnc23:=NB178_176.out;obtain⟨⟨hcz24_0,hcz24_1,hcz24_2⟩,hfz24_0,hfz24_1,hfz24_2⟩:=pk3 BK176;have hnb25:=NB177_178.out;have hnc25:=NB178_177.out;obtain⟨⟨hcz26_0,hcz26_1,hcz26_2⟩,hfz26_0,hfz26_1,hfz26_2⟩:=pk3 BK177)|((with_reducible refine aG (f:=106) rfl ?_);refine gl_ 9 Tryz.func106 #[.agg #[.bool false,.string a0_1,.string a0_2],.agg #[.bool true,.string a1_1,.string a1_2]] (h:= ?_);(with_reducible refine(gB.calls k false a0_1 a0_2 true a1_1 a1_2 t179 _ A3.out).mono ?_);rintro e w27 ⟨rfl,hb⟩;refine⟨_,rfl,?_⟩;replace BK176:=pkK BK176 hb;replace BK177:=pkK BK177 hb;replace BK178:=pkK BK178 hb;replace HB:=pkB HB hb;try clear hb;obtain⟨⟨hcz28_0,hcz28_1,hcz28_2⟩,hfz28_0,hfz28_1,hfz28_2⟩:=pk3 BK176;obtain⟨⟨hcz29_0,hcz29_1,hcz29_2⟩,hfz29_0,hfz29_1,hfz29_2⟩:=pk3 BK177;obtain⟨⟨hcz30_0,hcz30_1,hcz30_2⟩,hfz30_0,hfz30_1,hfz30_2⟩:=pk3 BK178))
    refine bodyPost_ret (jG rfl _ _ gb178 36 #[.bool false,.string a0_1,.string a0_2] (0,0) _ rfl (pkS3 BK178) Tryz.underlying36 rfl (by kernel_rfl)) rfl ?_;exact pkE HB
   ·replace c18:=Bool.eq_false_iff.mpr c18
    subst c18;rw[if_neg (show ¬(false=true) by decide)] at H;obtain⟨t180,A31,H⟩:=bi H;try dsimp only at H
    obtain⟨t181,A32,H⟩:=bi H;try dsimp only at H
    obtain⟨t182,A33,H⟩:=bi H;try dsimp only at H
    obtain⟨⟨t183,t184,t185⟩,A34,H⟩:=bi H;try dsimp only at H
    simp only[Option.some.injEq,Prod.mk.injEq] at H;obtain⟨rfl,rfl,rfl,rfl⟩:=H;go_enter Tryz.func42,Tryz.ntmps42
    try go_wp2_with(first|((with_reducible refine aJ (N:=2) rfl ?_);refine bx_ 2 36 #[.bool false,.string a0_1,.string a0_2] (h:= ?_);intro gb176 hg w35 hbox hb;have BK176:=aA.mk (hbox);have GW176:=pkG HB hg;have GE176:=GW176;replace HB:=pkB HB hb;clear hb hbox hg)|((with_reducible refine aJ (N:=3) rfl ?_);refine bx_ 3 36 #[.bool false,.string a1_1,.string a1_2] (h:= ?_);intro gb177 hg w36 hbox hb;have BK177:=aA.mk (hbox);have GW177:=pkG HB hg;have GE177:=GW177;obtain⟨NB176_177,NB177_176,_,_⟩:=pkQ BK176 hg;replace BK176:=pkK BK176 hb;replace HB:=pkB HB hb;clear hb hbox hg)|((with_reducible refine aJ (N:=4) rfl ?_);refine bx_ 4 36 #[.bool false,.string (⟨#[]⟩:ByteArray),.string (⟨#[]⟩:ByteArray)] (h:= ?_);intro gb178 hg w37 hbox hb;have BK178:=aA.mk (hbox);have GW178:=pkG HB hg;have GE178:=GW178;obtain⟨NB176_178,NB178_176,_,_⟩:=pkQ BK176 hg;obtain⟨NB177_178,NB178_177,_,_⟩:=pkQ BK177 hg;replace BK176:=pkK BK176 hb;replace BK177:=pkK BK177 hb;replace HB:=pkB HB hb;clear hb hbox hg;have hnb38:=NB176_177.out;have hnc38:=NB177_176.out;have hnb39:=NB176_178.out;have hnc39:=NB178_176.out;obtain⟨⟨hcz40_0,hcz40_1,hcz40_2⟩,hfz40_0,hfz40_1,hfz40_2⟩:=pk3 BK176;have hnb41:=NB177_178.out;have hnc41:=NB178_177.out;obtain⟨⟨hcz42_0,hcz42_1,hcz42_2⟩,hfz42_0,hfz42_1,hfz42_2⟩:=pk3 BK177)|((with_reducible refine aG (f:=106) rfl ?_);refine gl_ 9 Tryz.func106 #[.agg #[.bool false,.string a0_1,.string a0_2],.agg #[.bool false,.string a1_1,.string a1_2]] (h:= ?_);(with_reducible refine(gB.calls k false a0_1 a0_2 false a1_1 a1_2 t179 _ A3.out).mono ?_);rintro e w43 ⟨rfl,hb⟩;refine⟨_,rfl,?_⟩;replace BK176:=pkK BK176 hb;replace BK177:=pkK BK177 hb;replace BK178:=pkK BK178 hb;replace HB:=pkB HB hb;try clear hb;obtain⟨⟨hcz44_0,hcz44_1,hcz44_2⟩,hfz44_0,hfz44_1,hfz44_2⟩:=pk3 BK176;obtain⟨⟨hcz45_0,hcz45_1,hcz45_2⟩,hfz45_0,hfz45_1,hfz45_2⟩:=pk3 BK177))
    replace BK176:=aA.mk (aQ BK176.out);replace BK177:=aA.mk (aQ BK177.out);replace BK178:=aA.mk (aQ BK178.out);replace HB:=aA.mk (bG HB.out)
    refine jY (n:=16) (S:=fun w'=>w'.cell? ⟨gb176,0,none⟩=some (.bool false)∧w'.cell? ⟨gb176,1,none⟩=some (.string a0_1)∧w'.cell? ⟨gb176,2,none⟩=some (.string a0_2)∧w'.cell? ⟨gb177,0,none⟩=some (.bool false)∧w'.cell? ⟨gb177,1,none⟩=some (.string a1_1)∧w'.cell? ⟨gb177,2,none⟩=some (.string a1_2)) (ds:= []) #[false,false,false,false,false,false,false,false,false,false,false,false,false,false,false,false] (by kernel_rfl) rfl rfl ⟨(aC BK176.out 0).trans rfl,(aC BK176.out 1).trans rfl,(aC BK176.out 2).trans rfl,(aC BK177.out 0).trans rfl,(aC BK177.out 1).trans rfl,(aC BK177.out 2).trans rfl⟩ (fun hHeld=> ?_);refine kP iK.tab8 iK.bits8 (fun HT_ HW_=> ?_)
    generalize w43.drew=w46 at BK176 BK177 BK178 HB hHeld ⊢;refine pr_ 0 20 (h:= ?_);refine pr_ 2 22 (h:= ?_);refine pr_ 5 25 (h:= ?_);refine pr_ 7 27 (h:= ?_);refine pr_ 11 31 (h:= ?_);refine tk_ 1 21 hHeld (hy:=by rintro w' ⟨s0,s1,s2,s3,s4,s5⟩;go_simp;with_reducible rfl) (h:= ?_);refine tk_ 3 23 hHeld (hy:=by rintro w' ⟨s0,s1,s2,s3,s4,s5⟩;go_simp;with_reducible rfl) (h:= ?_);refine tk_ 6 26 hHeld (hy:=by rintro w' ⟨s0,s1,s2,s3,s4,s5⟩;go_simp;with_reducible rfl) (h:= ?_);refine tk_ 8 28 hHeld (hy:=by rintro w' ⟨s0,s1,s2,s3,s4,s5⟩;go_simp;with_reducible rfl) (h:= ?_);refine tk_ 12 32 hHeld (hy:=by rintro w' ⟨s0,s1,s2,s3,s4,s5⟩;go_simp;with_reducible rfl) (h:= ?_);refine on_ 4 24 (h:=fun K hK=> ?_);refine g1_ Tryz.func110 #[.string a0_1,.string a1_1] (h:= ?_);with_reducible refine(dO.calls (hG:=HG.out.below (pkL HB)) a0_1 a1_1 t180 _ A31.out).mono ?_
    rintro e w47 ⟨rfl,hb⟩;refine⟨_,rfl,?_⟩;replace BK176:=pkK BK176 hb;replace BK177:=pkK BK177 hb;replace BK178:=pkK BK178 hb;replace HB:=pkB HB hb
    (try clear hb)
    (try clear hb2)
    (try clear hk)
    (try clear hi)
    refine hK.out _ _ ⟨(aC BK176.out 0).trans rfl,(aC BK176.out 1).trans rfl,(aC BK176.out 2).trans rfl,(aC BK177.out 0).trans rfl,(aC BK177.out 1).trans rfl,(aC BK177.out 2).trans rfl⟩ (fun hHeld=> ?_);clear hK K;refine gG (a':= ?_) ?_ ?_
    rotate_left
    ·show Act.put _ (some 24) _=_
     simp only[Act.put,List.setIfInBounds_toArray,List.set_cons_zero,List.set_cons_succ,dE,dM];rfl
    refine on_ 9 29 (h:=fun K hK=> ?_);refine g1_ Tryz.func111 #[.string a0_2,.string a1_2] (h:= ?_);with_reducible refine(gV.calls (hG:=HG.out.below (pkL HB)) a0_2 a1_2 t181 _ A32.out).mono ?_
    rintro e w48 ⟨rfl,hb⟩;refine⟨_,rfl,?_⟩;replace BK176:=pkK BK176 hb;replace BK177:=pkK BK177 hb;replace BK178:=pkK BK178 hb;replace HB:=pkB HB hb
    (try clear hb)
    (try clear hb2)
    (try clear hk)
    (try clear hi)
    refine hK.out _ _ ⟨(aC BK176.out 0).trans rfl,(aC BK176.out 1).trans rfl,(aC BK176.out 2).trans rfl,(aC BK177.out 0).trans rfl,(aC BK177.out 1).trans rfl,(aC BK177.out 2).trans rfl⟩ (fun hHeld=> ?_);clear hK K;refine gG (a':= ?_) ?_ ?_
    rotate_left
    ·show Act.put _ (some 29) _=_
     simp only[Act.put,List.setIfInBounds_toArray,List.set_cons_zero,List.set_cons_succ,dE,dM];rfl
    refine on_ 10 30 (h:=fun K hK=> ?_);refine g1_ Tryz.func110 #[.string t180,.string t181] (h:= ?_);with_reducible refine(dO.calls (hG:=HG.out.below (pkL HB)) t180 t181 t182 _ A33.out).mono ?_
    rintro e w49 ⟨rfl,hb⟩;refine⟨_,rfl,?_⟩;replace BK176:=pkK BK176 hb;replace BK177:=pkK BK177 hb;replace BK178:=pkK BK178 hb;replace HB:=pkB HB hb
    (try clear hb)
    (try clear hb2)
    (try clear hk)
    (try clear hi)
    refine hK.out _ _ ⟨(aC BK176.out 0).trans rfl,(aC BK176.out 1).trans rfl,(aC BK176.out 2).trans rfl,(aC BK177.out 0).trans rfl,(aC BK177.out 1).trans rfl,(aC BK177.out 2).trans rfl⟩ (fun hHeld=> ?_);clear hK K;refine gG (a':= ?_) ?_ ?_
    rotate_left
    ·show Act.put _ (some 30) _=_
     simp only[Act.put,List.setIfInBounds_toArray,List.set_cons_zero,List.set_cons_succ,dE,dM];rfl
    refine on_ 13 33 (h:=fun K hK=> ?_);refine g1_ Tryz.func109 #[.string t182,.string a0_2] (h:= ?_);with_reducible refine(bI.calls (hG:=HG.out.below (pkL HB)) k t182 a0_2 t183 t184 t185 _ A34.out).mono ?_
    rintro e w50 ⟨rfl,hb⟩;refine⟨_,rfl,?_⟩;replace BK176:=pkK BK176 hb;replace BK177:=pkK BK177 hb;replace BK178:=pkK BK178 hb;replace HB:=pkB HB hb
    (try clear hb)
    (try clear hb2)
    (try clear hk)
    (try clear hi)
    refine hK.out _ _ ⟨(aC BK176.out 0).trans rfl,(aC BK176.out 1).trans rfl,(aC BK176.out 2).trans rfl,(aC BK177.out 0).trans rfl,(aC BK177.out 1).trans rfl,(aC BK177.out 2).trans rfl⟩ (fun hHeld=> ?_);clear hK K;refine gG (a':= ?_) ?_ ?_
    rotate_left
    ·show Act.put _ (some 33) _=_
     simp only[Act.put,List.setIfInBounds_toArray,List.set_cons_zero,List.set_cons_succ,dE,dM];rfl
    refine one_ (i:=14) (N:=none) #[true,true,true,true,true,true,true,true,true,true,true,true,true,true,true,false] rfl rfl (yA HT_.out (by kernel_rfl)) aCr (fun K hK=> ?_);have hs51:w50.cell? ⟨gb178,0,none⟩=some (.bool false):=(aC BK178.out 0).trans rfl;have hfs51:=aI BK178.out 0;have hns51_0:=NB176_178.out;have hns51_1:=NB177_178.out;have hms51_0:=NB178_176.out;have hms51_1:=NB178_177.out;have hs52:w50.cell? ⟨gb178,1,none⟩=some (.string (⟨#[]⟩:ByteArray)):=(aC BK178.out 1).trans rfl;have hfs52:=aI BK178.out 1;have hns52_0:=NB176_178.out;have hns52_1:=NB177_178.out;have hms52_0:=NB178_176.out;have hms52_1:=NB178_177.out;have hs53:w50.cell? ⟨gb178,2,none⟩=some (.string (⟨#[]⟩:ByteArray)):=(aC BK178.out 2).trans rfl;have hfs53:=aI BK178.out 2;have hns53_0:=NB176_178.out;have hns53_1:=NB177_178.out;have hms53_0:=NB178_176.out;have hms53_1:=NB178_177.out;refine skip_ (w1:= ?_) (by rfl) rfl ?_ ?_
    rotate_left
    ·go_simp
     rfl
    refine hK.out _ _ ⟨((aCt (p:=⟨gb178,_,none⟩) NB176_178.out _).trans (((aCt (p:=⟨gb178,_,none⟩) NB176_178.out _).trans (((aCt (p:=⟨gb178,_,none⟩) NB176_178.out _).trans (hHeld.1)))))),((aCt (p:=⟨gb178,_,none⟩) NB176_178.out _).trans (((aCt (p:=⟨gb178,_,none⟩) NB176_178.out _).trans (((aCt (p:=⟨gb178,_,none⟩) NB176_178.out _).trans (hHeld.2.1)))))),((aCt (p:=⟨gb178,_,none⟩) NB176_178.out _).trans (((aCt (p:=⟨gb178,_,none⟩) NB176_178.out _).trans (((aCt (p:=⟨gb178,_,none⟩) NB176_178.out _).trans (hHeld.2.2.1)))))),((aCt (p:=⟨gb178,_,none⟩) NB177_178.out _).trans (((aCt (p:=⟨gb178,_,none⟩) NB177_178.out _).trans (((aCt (p:=⟨gb178,_,none⟩) NB177_178.out _).trans (hHeld.2.2.2.1)))))),((aCt (p:=⟨gb178,_,none⟩) NB177_178.out _).trans (((aCt (p:=⟨gb178,_,none⟩) NB177_178.out _).trans (((aCt (p:=⟨gb178,_,none⟩) NB177_178.out _).trans (hHeld.2.2.2.2.1)))))),((aCt (p:=⟨gb178,_,none⟩) NB177_178.out _).trans (((aCt (p:=⟨gb178,_,none⟩) NB177_178.out _).trans (((aCt (p:=⟨gb178,_,none⟩) NB177_178.out _).trans (hHeld.2.2.2.2.2))))))⟩ (fun hHeld=> ?_);clear hK K;refine pr_ 15 5 (h:= ?_);refine kT (mG HT_.out (by kernel_rfl)) ?_
    try go_wp2
    refine bodyPost_ret (jG rfl _ _ gb178 36 #[.bool t183,.string t184,.string t185] (0,0) _ rfl (pkS3 BK178) Tryz.underlying36 rfl (by kernel_rfl)) rfl ?_;exact pkE HB
 ·rw[if_neg c4] at H
  have c4b0:(t179==0)=false:=beq_eq_false_iff_ne.mpr c4;have c4b1:(t179 != 0)=true:=bne_iff_ne.mpr c4;simp only[Option.some.injEq,Prod.mk.injEq] at H;obtain⟨rfl,rfl,rfl,rfl⟩:=H;go_enter Tryz.func42,Tryz.ntmps42
  go_wp2_with(first|((with_reducible refine aJ (N:=2) rfl ?_);refine bx_ 2 36 #[.bool a0_0,.string a0_1,.string a0_2] (h:= ?_);intro gb176 hg w54 hbox hb;have BK176:=aA.mk (hbox);have GW176:=pkG HB hg;have GE176:=GW176;replace HB:=pkB HB hb;clear hb hbox hg)|((with_reducible refine aJ (N:=3) rfl ?_);refine bx_ 3 36 #[.bool a1_0,.string a1_1,.string a1_2] (h:= ?_);intro gb177 hg w55 hbox hb;have BK177:=aA.mk (hbox);have GW177:=pkG HB hg;have GE177:=GW177;obtain⟨NB176_177,NB177_176,_,_⟩:=pkQ BK176 hg;replace BK176:=pkK BK176 hb;replace HB:=pkB HB hb;clear hb hbox hg)|((with_reducible refine aJ (N:=4) rfl ?_);refine bx_ 4 36 #[.bool false,.string (⟨#[]⟩:ByteArray),.string (⟨#[]⟩:ByteArray)] (h:= ?_);intro gb178 hg w56 hbox hb;have BK178:=aA.mk (hbox);have GW178:=pkG HB hg;have GE178:=GW178;obtain⟨NB176_178,NB178_176,_,_⟩:=pkQ BK176 hg;obtain⟨NB177_178,NB178_177,_,_⟩:=pkQ BK177 hg;replace BK176:=pkK BK176 hb;replace BK177:=pkK BK177 hb;replace HB:=pkB HB hb;clear hb hbox hg;have hnb57:=NB176_177.out;have hnc57:=NB177_176.out;have hnb58:=NB176_178.out;have hnc58:=NB178_176.out;obtain⟨⟨hcz59_0,hcz59_1,hcz59_2⟩,hfz59_0,hfz59_1,hfz59_2⟩:=pk3 BK176;have hnb60:=NB177_178.out;have hnc60:=NB178_177.out;obtain⟨⟨hcz61_0,hcz61_1,hcz61_2⟩,hfz61_0,hfz61_1,hfz61_2⟩:=pk3 BK177)|((with_reducible refine aG (f:=106) rfl ?_);refine gl_ 9 Tryz.func106 #[.agg #[.bool a0_0,.string a0_1,.string a0_2],.agg #[.bool a1_0,.string a1_1,.string a1_2]] (h:= ?_);(with_reducible refine(gB.calls k a0_0 a0_1 a0_2 a1_0 a1_1 a1_2 t179 _ A3.out).mono ?_);rintro e w62 ⟨rfl,hb⟩;refine⟨_,rfl,?_⟩;replace BK176:=pkK BK176 hb;replace BK177:=pkK BK177 hb;replace BK178:=pkK BK178 hb;replace HB:=pkB HB hb;try clear hb;obtain⟨⟨hcz63_0,hcz63_1,hcz63_2⟩,hfz63_0,hfz63_1,hfz63_2⟩:=pk3 BK178))
  refine bodyPost_ret (jG rfl _ _ gb178 36 #[.bool false,.string (⟨#[]⟩:ByteArray),.string (⟨#[]⟩:ByteArray)] (0,0) _ rfl (pkS3 BK178) Tryz.underlying36 rfl (by kernel_rfl)) rfl ?_;exact pkE HB
def kG.f(a0:ByteArray)(a1:ByteArray):Option (ByteArray):=(kM.f a0 a1).bind fun bt186=>((eQ.f bt186.1 bt186.2).bind fun t188=>(some t188))
theorem kG.calls(a0:ByteArray)(a1:ByteArray)(r:ByteArray)(w:World)(hG:GW w)(h:kG.f a0 a1=some r) :
 Calls Tryz.prog 119 #[.string a0,.string a1] w fun e w'=>e= .returned (.string r)∧Below w.heap.size w w':=by
 have HG:=aA.mk hG;clear hG;have HB:=aA.mk (Below.refl w.heap.size w);have H:((kM.f a0 a1).bind fun bt186=>((eQ.f bt186.1 bt186.2).bind fun t188=>(some t188)))=some r:=h;clear h;obtain⟨⟨t186,t187⟩,A3,H⟩:=bi H;try dsimp only at H
 obtain⟨t188,A4,H⟩:=bi H;try dsimp only at H
 obtain rfl:=Option.some.inj H;go_enter Tryz.func119,Tryz.ntmps119
 go_wp2_with(first|((with_reducible refine aG (f:=22) rfl ?_);refine gl_ 7 Tryz.func22 #[.string a0,.string a1] (h:= ?_);(with_reducible refine(kM.calls (hG:=HG.out.below (pkL HB)) a0 a1 t186 t187 _ A3.out).mono ?_);rintro e w5 ⟨rfl,hb⟩;refine⟨_,rfl,?_⟩;replace HB:=pkB HB hb;try clear hb)|((with_reducible refine aG (f:=128) rfl ?_);refine gl_ 10 Tryz.func128 #[.string t186,.int .i64 t187] (h:= ?_);(with_reducible refine(eQ.calls t186 t187 t188 _ A4.out).mono ?_);rintro e w' ⟨rfl,⟨nd,rfl⟩⟩;refine⟨_,rfl,?_⟩))
 go_ret
 exact pkE HB
def fK.f(a0:ByteArray)(a1:ByteArray):Option (ByteArray):=(lK.f a0 a1).bind fun bt189=>((eQ.f bt189.1 bt189.2).bind fun t191=>(some t191))
theorem fK.calls(a0:ByteArray)(a1:ByteArray)(r:ByteArray)(w:World)(hG:GW w)(h:fK.f a0 a1=some r) :
 Calls Tryz.prog 124 #[.string a0,.string a1] w fun e w'=>e= .returned (.string r)∧Below w.heap.size w w':=by
 have HG:=aA.mk hG;clear hG;have HB:=aA.mk (Below.refl w.heap.size w);have H:((lK.f a0 a1).bind fun bt189=>((eQ.f bt189.1 bt189.2).bind fun t191=>(some t191)))=some r:=h;clear h;obtain⟨⟨t189,t190⟩,A3,H⟩:=bi H;try dsimp only at H
 obtain⟨t191,A4,H⟩:=bi H;try dsimp only at H
 obtain rfl:=Option.some.inj H;go_enter Tryz.func124,Tryz.ntmps124
 go_wp2_with(first|((with_reducible refine aG (f:=26) rfl ?_);refine gl_ 7 Tryz.func26 #[.string a0,.string a1] (h:= ?_);(with_reducible refine(lK.calls (hG:=HG.out.below (pkL HB)) a0 a1 t189 t190 _ A3.out).mono ?_);rintro e w5 ⟨rfl,hb⟩;refine⟨_,rfl,?_⟩;replace HB:=pkB HB hb;try clear hb)|((with_reducible refine aG (f:=128) rfl ?_);refine gl_ 10 Tryz.func128 #[.string t189,.int .i64 t190] (h:= ?_);(with_reducible refine(eQ.calls t189 t190 t191 _ A4.out).mono ?_);rintro e w' ⟨rfl,⟨nd,rfl⟩⟩;refine⟨_,rfl,?_⟩))
 go_ret
 exact pkE HB
def iY.f:Option (Bool×ByteArray×ByteArray):=some (true,(⟨#[]⟩:ByteArray),(⟨#[]⟩:ByteArray))
theorem iY.calls(r1:Bool)(r2:ByteArray)(r3:ByteArray)(w:World)(h:iY.f=some (r1,r2,r3)) :
 Calls Tryz.prog 176 #[] w fun e w'=>e= .returned (.agg #[.bool r1,.string r2,.string r3])∧Below w.heap.size w w':=by
 have hu36:=Tryz.underlying36;have HB:=aA.mk (Below.refl w.heap.size w);have H:(some (true,(⟨#[]⟩:ByteArray),(⟨#[]⟩:ByteArray)))=some (r1,r2,r3):=h;clear h;simp only[Option.some.injEq,Prod.mk.injEq] at H;obtain⟨rfl,rfl,rfl⟩:=H;go_enter Tryz.func176,Tryz.ntmps176
 go_wp2_with(first|((with_reducible refine aJ (N:=0) rfl ?_);refine bx_ 0 36 #[.bool false,.string (⟨#[]⟩:ByteArray),.string (⟨#[]⟩:ByteArray)] (h:= ?_);intro gb192 hg w1 hbox hb;have BK192:=aA.mk (hbox);have GW192:=pkG HB hg;have GE192:=GW192;replace HB:=pkB HB hb;clear hb hbox hg;obtain⟨⟨hcz2_0,hcz2_1,hcz2_2⟩,hfz2_0,hfz2_1,hfz2_2⟩:=pk3 BK192))
 refine bodyPost_ret (results_cell_row rfl _ _ gb192 36 #[.bool true,.string (⟨#[]⟩:ByteArray),.string (⟨#[]⟩:ByteArray)] (0,0) _ rfl (pkS3 BK192) Tryz.underlying36 rfl (by kernel_rfl)) rfl ?_;exact pkE HB
end Go.Proofs.YtignanmmgaldeaaGreatDoor.PCongI
end
section
set_option linter.unusedVariables false
set_option linter.unusedSimpArgs false
set_option maxHeartbeats 8000000
set_option maxRecDepth 100000
namespace Go.Proofs.YtignanmmgaldeaaGreatDoor.PCongI
open Go.RowKit Go.Proofs.YtignanmmgaldeaaGreatDoorW.PrintWords Go.Proofs.YtignanmmgaldeaaGreatDoorW.PrintLast Go.Proofs.YtignanmmgaldeaaGreatDoorW.PrintMore
attribute [local go_sem] gI gJ iE iF
def dA.j0:Nat→ByteArray→ByteArray→Bool→Bool→ByteArray→ByteArray→Bool→ByteArray→ByteArray→Option (Bool×ByteArray×ByteArray)
 |0,_,_,_,_,_,_,_,_,_=>none
 |k+1,x5,x6,x43,x194000,x194001,x194002,x195000,x195001,x195002=>if x43=true then((iY.f).bind fun bt201=>(some (bt201.1,bt201.2.1,bt201.2.2))) else((lU.f x194001 x195001).bind fun bt204=>((jT.f x6 x5).bind fun bt208=>((eQ.f bt208.1 bt208.2).bind fun t210=>((fK.f bt204.2.1 t210).bind fun t211=>((pR.f x194001 x195001).bind fun bt212=>((eQ.f bt212.1 bt212.2).bind fun t214=>((fK.f t211 x194001).bind fun t215=>((kG.f x194002 t215).bind fun t216=>((bI.f k t214 t216).bind fun bt217=>(some (bt217.1,bt217.2.1,bt217.2.2)))))))))))
def dA.f(k:Nat)(a0_0:Bool)(a0_1:ByteArray)(a0_2:ByteArray)(a1_0:Bool)(a1_1:ByteArray)(a1_2:ByteArray):Option (Bool×ByteArray×ByteArray):=(bC.f k a0_0 a0_1 a0_2 a1_0 a1_1 a1_2).bind fun t196=>(if t196=true then(some (a0_0,a0_1,a0_2)) else((bC.f k a1_0 a1_1 a1_2 a0_0 a0_1 a0_2).bind fun t197=>(if t197=true then(some (a1_0,a1_1,a1_2)) else((dO.f a0_1 a1_1).bind fun t198=>((gV.f a1_2 a0_2).bind fun t199=>(if a0_1.toList=([48]:List UInt8) then(dA.j0 k t198 t199 true a0_0 a0_1 a0_2 a1_0 a1_1 a1_2) else(if a1_1.toList=([48]:List UInt8) then(dA.j0 k t198 t199 true a0_0 a0_1 a0_2 a1_0 a1_1 a1_2) else((eG.f t198 t199).bind fun t200=>(dA.j0 k t198 t199 (!t200) a0_0 a0_1 a0_2 a1_0 a1_1 a1_2)))))))))
def dA.T11:Bool×List (List Nat×List Nat):=(true,[([],[]),([0],[0]),([],[]),([2],[2]),([1,3],[1,3]),([4],[4]),([4],[4]),([5,6,4],[5,6]),([],[]),([8],[8]),([],[]),([],[]),([11],[11]),([10,12,7],[10,12]),([9,13,13],[9,13]),([7,14,14],[7,14]),([15,15,0,1,2,3,4,5,6,7,8,9,10,11,12,13,14,15],[15])])
def dA.B11:List Nat:= [0,1,0,4,15,31,31,127,0,256,0,0,2048,7423,16383,32767,65535]
theorem dA.tab11:rtab .any (opsOf Tryz.f113 11)=dA.T11:=by kernel_rfl
theorem dA.bits11:kV dA.T11.2 dA.B11=true:=by kernel_rfl
theorem dA.calls(k:Nat)(a0_0:Bool)(a0_1:ByteArray)(a0_2:ByteArray)(a1_0:Bool)(a1_1:ByteArray)(a1_2:ByteArray)(r1:Bool)(r2:ByteArray)(r3:ByteArray)(w:World)(hG:GW w)(h:dA.f k a0_0 a0_1 a0_2 a1_0 a1_1 a1_2=some (r1,r2,r3)) :
 Calls Tryz.prog 113 #[.agg #[.bool a0_0,.string a0_1,.string a0_2],.agg #[.bool a1_0,.string a1_1,.string a1_2]] w fun e w'=>e= .returned (.agg #[.bool r1,.string r2,.string r3])∧Below w.heap.size w w':=by
 have HG:=aA.mk hG;clear hG;have hu36:=Tryz.underlying36;have HB:=aA.mk (Below.refl w.heap.size w);have H:((bC.f k a0_0 a0_1 a0_2 a1_0 a1_1 a1_2).bind fun t196=>(if t196=true then(some (a0_0,a0_1,a0_2)) else((bC.f k a1_0 a1_1 a1_2 a0_0 a0_1 a0_2).bind fun t197=>(if t197=true then(some (a1_0,a1_1,a1_2)) else((dO.f a0_1 a1_1).bind fun t198=>((gV.f a1_2 a0_2).bind fun t199=>(if a0_1.toList=([48]:List UInt8) then(dA.j0 k t198 t199 true a0_0 a0_1 a0_2 a1_0 a1_1 a1_2) else(if a1_1.toList=([48]:List UInt8) then(dA.j0 k t198 t199 true a0_0 a0_1 a0_2 a1_0 a1_1 a1_2) else((eG.f t198 t199).bind fun t200=>(dA.j0 k t198 t199 (!t200) a0_0 a0_1 a0_2 a1_0 a1_1 a1_2))))))))))=some (r1,r2,r3):=h;clear h;obtain⟨t196,A3,H⟩:=bi H;try dsimp only at H
 by_cases c4:t196=true
 ·subst c4
  rw[if_pos rfl] at H;simp only[Option.some.injEq,Prod.mk.injEq] at H;obtain⟨rfl,rfl,rfl⟩:=H;go_enter Tryz.func113,Tryz.ntmps113
  go_wp2_with(first|((with_reducible refine aJ (N:=2) rfl ?_);refine bx_ 2 36 #[.bool a0_0,.string a0_1,.string a0_2] (h:= ?_);intro gb193 hg w5 hbox hb;have BK193:=aA.mk (hbox);have GW193:=pkG HB hg;have GE193:=GW193;replace HB:=pkB HB hb;clear hb hbox hg)|((with_reducible refine aJ (N:=3) rfl ?_);refine bx_ 3 36 #[.bool a1_0,.string a1_1,.string a1_2] (h:= ?_);intro gb194 hg w6 hbox hb;have BK194:=aA.mk (hbox);have GW194:=pkG HB hg;have GE194:=GW194;obtain⟨NB193_194,NB194_193,_,_⟩:=pkQ BK193 hg;replace BK193:=pkK BK193 hb;replace HB:=pkB HB hb;clear hb hbox hg)|((with_reducible refine aJ (N:=4) rfl ?_);refine bx_ 4 36 #[.bool false,.string (⟨#[]⟩:ByteArray),.string (⟨#[]⟩:ByteArray)] (h:= ?_);intro gb195 hg w7 hbox hb;have BK195:=aA.mk (hbox);have GW195:=pkG HB hg;have GE195:=GW195;obtain⟨NB193_195,NB195_193,_,_⟩:=pkQ BK193 hg;obtain⟨NB194_195,NB195_194,_,_⟩:=pkQ BK194 hg;replace BK193:=pkK BK193 hb;replace BK194:=pkK BK194 hb;replace HB:=pkB HB hb;clear hb hbox hg;have hnb8:=NB193_194.out;have hnc8:=NB194_193.out;have hnb9:=NB193_195.out;have hnc9:=NB195_193.out;obtain⟨⟨hcz10_0,hcz10_1,hcz10_2⟩,hfz10_0,hfz10_1,hfz10_2⟩:=pk3 BK193;have hnb11:=NB194_195.out;have hnc11:=NB195_194.out;obtain⟨⟨hcz12_0,hcz12_1,hcz12_2⟩,hfz12_0,hfz12_1,hfz12_2⟩:=pk3 BK194)|((with_reducible refine aG (f:=107) rfl ?_);refine gl_ 14 Tryz.func107 #[.agg #[.bool a0_0,.string a0_1,.string a0_2],.agg #[.bool a1_0,.string a1_1,.string a1_2]] (h:= ?_);(with_reducible refine(bC.calls (hG:=HG.out.below (pkL HB)) k a0_0 a0_1 a0_2 a1_0 a1_1 a1_2 true _ A3.out).mono ?_);rintro e w13 ⟨rfl,hb⟩;refine⟨_,rfl,?_⟩;replace BK193:=pkK BK193 hb;replace BK194:=pkK BK194 hb;replace BK195:=pkK BK195 hb;replace HB:=pkB HB hb;try clear hb;obtain⟨⟨hcz14_0,hcz14_1,hcz14_2⟩,hfz14_0,hfz14_1,hfz14_2⟩:=pk3 BK193;obtain⟨⟨hcz15_0,hcz15_1,hcz15_2⟩,hfz15_0,hfz15_1,hfz15_2⟩:=pk3 BK195))
  refine bodyPost_ret (results_cell_row rfl _ _ gb195 36 #[.bool a0_0,.string a0_1,.string a0_2] (0,0) _ rfl (pkS3 BK195) Tryz.underlying36 rfl (by kernel_rfl)) rfl ?_;exact pkE HB
 ·replace c4:=Bool.eq_false_iff.mpr c4
  subst c4;rw[if_neg (show ¬(false=true) by decide)] at H;obtain⟨t197,A16,H⟩:=bi H;try dsimp only at H
  by_cases c17:t197=true
  ·subst c17
   rw[if_pos rfl] at H;simp only[Option.some.injEq,Prod.mk.injEq] at H;obtain⟨rfl,rfl,rfl⟩:=H;go_enter Tryz.func113,Tryz.ntmps113
   go_wp2_with(first|((with_reducible refine aJ (N:=2) rfl ?_);refine bx_ 2 36 #[.bool a0_0,.string a0_1,.string a0_2] (h:= ?_);intro gb193 hg w18 hbox hb;have BK193:=aA.mk (hbox);have GW193:=pkG HB hg;have GE193:=GW193;replace HB:=pkB HB hb;clear hb hbox hg)|((with_reducible refine aJ (N:=3) rfl ?_);refine bx_ 3 36 #[.bool a1_0,.string a1_1,.string a1_2] (h:= ?_);intro gb194 hg w19 hbox hb;have BK194:=aA.mk (hbox);have GW194:=pkG HB hg;have GE194:=GW194;obtain⟨NB193_194,NB194_193,_,_⟩:=pkQ BK193 hg;replace BK193:=pkK BK193 hb;replace HB:=pkB HB hb;clear hb hbox hg)|((with_reducible refine aJ (N:=4) rfl ?_);refine bx_ 4 36 #[.bool false,.string (⟨#[]⟩:ByteArray),.string (⟨#[]⟩:ByteArray)] (h:= ?_);intro gb195 hg w20 hbox hb;have BK195:=aA.mk (hbox);have GW195:=pkG HB hg;have GE195:=GW195;obtain⟨NB193_195,NB195_193,_,_⟩:=pkQ BK193 hg;obtain⟨NB194_195,NB195_194,_,_⟩:=pkQ BK194 hg;replace BK193:=pkK BK193 hb;replace BK194:=pkK BK194 hb;replace HB:=pkB HB hb;clear hb hbox hg;have hnb21:=NB193_194.out;have hnc21:=NB194_193.out;have hnb22:=NB193_195.out;have hnc22:=NB195_193.out;obtain⟨⟨hcz23_0,hcz23_1,hcz23_2⟩,hfz23_0,hfz23_1,hfz23_2⟩:=pk3 BK193;have hnb24:=NB194_195.out;have hnc24:=NB195_194.out;obtain⟨⟨hcz25_0,hcz25_1,hcz25_2⟩,hfz25_0,hfz25_1,hfz25_2⟩:=pk3 BK194)|((with_reducible refine aG (f:=107) rfl ?_);refine gl_ 14 Tryz.func107 #[.agg #[.bool a0_0,.string a0_1,.string a0_2],.agg #[.bool a1_0,.string a1_1,.string a1_2]] (h:= ?_);(with_reducible refine(bC.calls (hG:=HG.out.below (pkL HB)) k a0_0 a0_1 a0_2 a1_0 a1_1 a1_2 false _ A3.out).mono ?_);rintro e w26 ⟨rfl,hb⟩;refine⟨_,rfl,?_⟩;replace BK193:=pkK BK193 hb;replace BK194:=pkK BK194 hb;replace BK195:=pkK BK195 hb;replace HB:=pkB HB hb;try clear hb;obtain⟨⟨hcz27_0,hcz27_1,hcz27_2⟩,hfz27_0,hfz27_1,hfz27_2⟩:=pk3 BK194;obtain⟨⟨hcz28_0,hcz28_1,hcz28_2⟩,hfz28_0,hfz28_1,hfz28_2⟩:=pk3 BK193)|((with_reducible refine aG (f:=107) rfl ?_);refine gl_ 18 Tryz.func107 #[.agg #[.bool a1_0,.string a1_1,.string a1_2],.agg #[.bool a0_0,.string a0_1,.string a0_2]] (h:= ?_);(with_reducible refine(bC.calls (hG:=HG.out.below (pkL HB)) k a1_0 a1_1 a1_2 a0_0 a0_1 a0_2 true _ A16.out).mono ?_);rintro e w29 ⟨rfl,hb⟩;refine⟨_,rfl,?_⟩;replace BK193:=pkK BK193 hb;replace BK194:=pkK BK194 hb;replace BK195:=pkK BK195 hb;replace HB:=pkB HB hb;try clear hb;obtain⟨⟨hcz30_0,hcz30_1,hcz30_2⟩,hfz30_0,hfz30_1,hfz30_2⟩:=pk3 BK194;obtain⟨⟨hcz31_0,hcz31_1,hcz31_2⟩,hfz31_0,hfz31_1,hfz31_2⟩:=pk3 BK195))
   refine bodyPost_ret (results_cell_row rfl _ _ gb195 36 #[.bool a1_0,.string a1_1,.string a1_2] (0,0) _ rfl (pkS3 BK195) Tryz.underlying36 rfl (by kernel_rfl)) rfl ?_;exact pkE HB
  ·replace c17:=Bool.eq_false_iff.mpr c17
   subst c17;rw[if_neg (show ¬(false=true) by decide)] at H;obtain⟨t198,A32,H⟩:=bi H;try dsimp only at H
   obtain⟨t199,A33,H⟩:=bi H;try dsimp only at H
   have HC34:=aA.mk H;clear H;go_enter Tryz.func113,Tryz.ntmps113
   go_upto_region 7 with (first|((with_reducible refine aJ (N:=2) rfl ?_);refine bx_ 2 36 #[.bool a0_0,.string a0_1,.string a0_2] (h:= ?_);intro gb193 hg w35 hbox hb;have BK193:=aA.mk (hbox);have GW193:=pkG HB hg;have GE193:=GW193;replace HB:=pkB HB hb;clear hb hbox hg)|((with_reducible refine aJ (N:=3) rfl ?_);refine bx_ 3 36 #[.bool a1_0,.string a1_1,.string a1_2] (h:= ?_);intro gb194 hg w36 hbox hb;have BK194:=aA.mk (hbox);have GW194:=pkG HB hg;have GE194:=GW194;obtain⟨NB193_194,NB194_193,_,_⟩:=pkQ BK193 hg;replace BK193:=pkK BK193 hb;replace HB:=pkB HB hb;clear hb hbox hg)|((with_reducible refine aJ (N:=4) rfl ?_);refine bx_ 4 36 #[.bool false,.string (⟨#[]⟩:ByteArray),.string (⟨#[]⟩:ByteArray)] (h:= ?_);intro gb195 hg w37 hbox hb;have BK195:=aA.mk (hbox);have GW195:=pkG HB hg;have GE195:=GW195;obtain⟨NB193_195,NB195_193,_,_⟩:=pkQ BK193 hg;obtain⟨NB194_195,NB195_194,_,_⟩:=pkQ BK194 hg;replace BK193:=pkK BK193 hb;replace BK194:=pkK BK194 hb;replace HB:=pkB HB hb;clear hb hbox hg;have hnb38:=NB193_194.out;have hnc38:=NB194_193.out;have hnb39:=NB193_195.out;have hnc39:=NB195_193.out;obtain⟨⟨hcz40_0,hcz40_1,hcz40_2⟩,hfz40_0,hfz40_1,hfz40_2⟩:=pk3 BK193;have hnb41:=NB194_195.out;have hnc41:=NB195_194.out;obtain⟨⟨hcz42_0,hcz42_1,hcz42_2⟩,hfz42_0,hfz42_1,hfz42_2⟩:=pk3 BK194)|((with_reducible refine aG (f:=107) rfl ?_);refine gl_ 14 Tryz.func107 #[.agg #[.bool a0_0,.string a0_1,.string a0_2],.agg #[.bool a1_0,.string a1_1,.string a1_2]] (h:= ?_);(with_reducible refine(bC.calls (hG:=HG.out.below (pkL HB)) k a0_0 a0_1 a0_2 a1_0 a1_1 a1_2 false _ A3.out).mono ?_);rintro e w43 ⟨rfl,hb⟩;refine⟨_,rfl,?_⟩;replace BK193:=pkK BK193 hb;replace BK194:=pkK BK194 hb;replace BK195:=pkK BK195 hb;replace HB:=pkB HB hb;try clear hb;obtain⟨⟨hcz44_0,hcz44_1,hcz44_2⟩,hfz44_0,hfz44_1,hfz44_2⟩:=pk3 BK194;obtain⟨⟨hcz45_0,hcz45_1,hcz45_2⟩,hfz45_0,hfz45_1,hfz45_2⟩:=pk3 BK193)|((with_reducible refine aG (f:=107) rfl ?_);refine gl_ 18 Tryz.func107 #[.agg #[.bool a1_0,.string a1_1,.string a1_2],.agg #[.bool a0_0,.string a0_1,.string a0_2]] (h:= ?_);(with_reducible refine(bC.calls (hG:=HG.out.below (pkL HB)) k a1_0 a1_1 a1_2 a0_0 a0_1 a0_2 false _ A16.out).mono ?_);rintro e w46 ⟨rfl,hb⟩;refine⟨_,rfl,?_⟩;replace BK193:=pkK BK193 hb;replace BK194:=pkK BK194 hb;replace BK195:=pkK BK195 hb;replace HB:=pkB HB hb;try clear hb;obtain⟨⟨hcz47_0,hcz47_1,hcz47_2⟩,hfz47_0,hfz47_1,hfz47_2⟩:=pk3 BK193;obtain⟨⟨hcz48_0,hcz48_1,hcz48_2⟩,hfz48_0,hfz48_1,hfz48_2⟩:=pk3 BK194)|((with_reducible refine aG (f:=110) rfl ?_);refine gl_ 24 Tryz.func110 #[.string a0_1,.string a1_1] (h:= ?_);(with_reducible refine(dO.calls (hG:=HG.out.below (pkL HB)) a0_1 a1_1 t198 _ A32.out).mono ?_);rintro e w49 ⟨rfl,hb⟩;refine⟨_,rfl,?_⟩;replace BK193:=pkK BK193 hb;replace BK194:=pkK BK194 hb;replace BK195:=pkK BK195 hb;replace HB:=pkB HB hb;try clear hb;obtain⟨⟨hcz50_0,hcz50_1,hcz50_2⟩,hfz50_0,hfz50_1,hfz50_2⟩:=pk3 BK194;obtain⟨⟨hcz51_0,hcz51_1,hcz51_2⟩,hfz51_0,hfz51_1,hfz51_2⟩:=pk3 BK193)|((with_reducible refine aG (f:=111) rfl ?_);refine gl_ 29 Tryz.func111 #[.string a1_2,.string a0_2] (h:= ?_);(with_reducible refine(gV.calls (hG:=HG.out.below (pkL HB)) a1_2 a0_2 t199 _ A33.out).mono ?_);rintro e w52 ⟨rfl,hb⟩;refine⟨_,rfl,?_⟩;replace BK193:=pkK BK193 hb;replace BK194:=pkK BK194 hb;replace BK195:=pkK BK195 hb;replace HB:=pkB HB hb;try clear hb))
   (try simp only[Act.put,List.setIfInBounds_toArray,List.set_cons_zero,List.set_cons_succ])
   go_cut [43] (fun v43 wc=>∃(kq:Nat) (x43_33:Bool),v43= .bool x43_33∧aA (dA.j0 kq t198 t199 x43_33 a0_0 a0_1 a0_2 a1_0 a1_1 a1_2=some (r1,r2,r3))∧aA (kq≤k)∧aA (wc.heap[gb193]? =some (.cells #[.bool a0_0,.string a0_1,.string a0_2] 36 (0,0)))∧aA (wc.heap[gb194]? =some (.cells #[.bool a1_0,.string a1_1,.string a1_2] 36 (0,0)))∧aA (wc.heap[gb195]? =some (.cells #[.bool false,.string (⟨#[]⟩:ByteArray),.string (⟨#[]⟩:ByteArray)] 36 (0,0)))∧aA (Below w.heap.size w wc))
   case first=>
    have H:=HC34.out;clear HC34
    by_cases c53:a0_1.toList=([48]:List UInt8)
    ·rw[if_pos c53] at H
     have c53b0:(a0_1.toList==([48]:List UInt8))=true:=beq_iff_eq.mpr c53;have c53b1:(a0_1.toList != ([48]:List UInt8))=false:=bne_eq_false_iff_eq.mpr c53;clear c53
     (first|rw[c53b0]|(simp only[dE,dM];rw[c53b0])|skip)
     have H':=aA.mk H;clear H;have hnb54:=NB193_194.out;have hnc54:=NB194_193.out;have hnb55:=NB193_195.out;have hnc55:=NB195_193.out;obtain⟨⟨hcz56_0,hcz56_1,hcz56_2⟩,hfz56_0,hfz56_1,hfz56_2⟩:=pk3 BK193;go_wp2
     go_meet
     case rel=>exact⟨_,(true),aCs,H',⟨by first|omega|exact Nat.le_refl _⟩,⟨pkW BK193⟩,⟨pkW BK194⟩,⟨pkW BK195⟩,⟨pkL HB⟩⟩
    ·rw[if_neg c53] at H
     have c53b0:(a0_1.toList==([48]:List UInt8))=false:=beq_eq_false_iff_ne.mpr c53;have c53b1:(a0_1.toList != ([48]:List UInt8))=true:=bne_iff_ne.mpr c53
     (first|rw[c53b0]|(simp only[dE,dM];rw[c53b0])|skip)
     by_cases c57:a1_1.toList=([48]:List UInt8)
     ·rw[if_pos c57] at H
      have c57b0:(a1_1.toList==([48]:List UInt8))=true:=beq_iff_eq.mpr c57;have c57b1:(a1_1.toList != ([48]:List UInt8))=false:=bne_eq_false_iff_eq.mpr c57;clear c57;have H':=aA.mk H;clear H;have hnb58:=NB193_194.out;have hnc58:=NB194_193.out;have hnb59:=NB193_195.out;have hnc59:=NB195_193.out;obtain⟨⟨hcz60_0,hcz60_1,hcz60_2⟩,hfz60_0,hfz60_1,hfz60_2⟩:=pk3 BK193;have hnb61:=NB194_195.out;have hnc61:=NB195_194.out;obtain⟨⟨hcz62_0,hcz62_1,hcz62_2⟩,hfz62_0,hfz62_1,hfz62_2⟩:=pk3 BK194;go_wp2
      go_meet
      case rel=>exact⟨_,(true),aCs,H',⟨by first|omega|exact Nat.le_refl _⟩,⟨pkW BK193⟩,⟨pkW BK194⟩,⟨pkW BK195⟩,⟨pkL HB⟩⟩
     ·rw[if_neg c57] at H
      have c57b0:(a1_1.toList==([48]:List UInt8))=false:=beq_eq_false_iff_ne.mpr c57;have c57b1:(a1_1.toList != ([48]:List UInt8))=true:=bne_iff_ne.mpr c57;obtain⟨t200,A63,H⟩:=bi H;try dsimp only at H
      have H':=aA.mk H;clear H;have hnb64:=NB193_194.out;have hnc64:=NB194_193.out;have hnb65:=NB193_195.out;have hnc65:=NB195_193.out;obtain⟨⟨hcz66_0,hcz66_1,hcz66_2⟩,hfz66_0,hfz66_1,hfz66_2⟩:=pk3 BK193;have hnb67:=NB194_195.out;have hnc67:=NB195_194.out;obtain⟨⟨hcz68_0,hcz68_1,hcz68_2⟩,hfz68_0,hfz68_1,hfz68_2⟩:=pk3 BK194
      go_wp2_with(first|(go_at_call 177;(with_reducible refine(eG.calls (hG:=HG.out.below (pkL HB)) t198 t199 t200 _ A63.out).mono ?_);rintro e w69 ⟨rfl,hb⟩;replace BK193:=pkK BK193 hb;replace BK194:=pkK BK194 hb;replace BK195:=pkK BK195 hb;replace HB:=pkB HB hb;try clear hb))
      go_meet
      case rel=>exact⟨_,(!t200),aCs,H',⟨by first|omega|exact Nat.le_refl _⟩,⟨pkW BK193⟩,⟨pkW BK194⟩,⟨pkW BK195⟩,⟨pkL HB⟩⟩
   case rest=>
    clear HC34;try clear c4
    try clear c17
    try clear c53
    try clear c53b0
    try clear c53b1
    try clear c57
    try clear c57b0
    try clear c57b1
    try clear hcz10_0
    try clear hcz10_1
    try clear hcz10_2
    try clear hcz12_0
    try clear hcz12_1
    try clear hcz12_2
    try clear hcz14_0
    try clear hcz14_1
    try clear hcz14_2
    try clear hcz15_0
    try clear hcz15_1
    try clear hcz15_2
    try clear hcz23_0
    try clear hcz23_1
    try clear hcz23_2
    try clear hcz25_0
    try clear hcz25_1
    try clear hcz25_2
    try clear hcz27_0
    try clear hcz27_1
    try clear hcz27_2
    try clear hcz28_0
    try clear hcz28_1
    try clear hcz28_2
    try clear hcz30_0
    try clear hcz30_1
    try clear hcz30_2
    try clear hcz31_0
    try clear hcz31_1
    try clear hcz31_2
    try clear hcz40_0
    try clear hcz40_1
    try clear hcz40_2
    try clear hcz42_0
    try clear hcz42_1
    try clear hcz42_2
    try clear hcz44_0
    try clear hcz44_1
    try clear hcz44_2
    try clear hcz45_0
    try clear hcz45_1
    try clear hcz45_2
    try clear hcz47_0
    try clear hcz47_1
    try clear hcz47_2
    try clear hcz48_0
    try clear hcz48_1
    try clear hcz48_2
    try clear hcz50_0
    try clear hcz50_1
    try clear hcz50_2
    try clear hcz51_0
    try clear hcz51_1
    try clear hcz51_2
    try clear hcz56_0
    try clear hcz56_1
    try clear hcz56_2
    try clear hcz60_0
    try clear hcz60_1
    try clear hcz60_2
    try clear hcz62_0
    try clear hcz62_1
    try clear hcz62_2
    try clear hcz66_0
    try clear hcz66_1
    try clear hcz66_2
    try clear hcz68_0
    try clear hcz68_1
    try clear hcz68_2
    try clear hfz10_0
    try clear hfz10_1
    try clear hfz10_2
    try clear hfz12_0
    try clear hfz12_1
    try clear hfz12_2
    try clear hfz14_0
    try clear hfz14_1
    try clear hfz14_2
    try clear hfz15_0
    try clear hfz15_1
    try clear hfz15_2
    try clear hfz23_0
    try clear hfz23_1
    try clear hfz23_2
    try clear hfz25_0
    try clear hfz25_1
    try clear hfz25_2
    try clear hfz27_0
    try clear hfz27_1
    try clear hfz27_2
    try clear hfz28_0
    try clear hfz28_1
    try clear hfz28_2
    try clear hfz30_0
    try clear hfz30_1
    try clear hfz30_2
    try clear hfz31_0
    try clear hfz31_1
    try clear hfz31_2
    try clear hfz40_0
    try clear hfz40_1
    try clear hfz40_2
    try clear hfz42_0
    try clear hfz42_1
    try clear hfz42_2
    try clear hfz44_0
    try clear hfz44_1
    try clear hfz44_2
    try clear hfz45_0
    try clear hfz45_1
    try clear hfz45_2
    try clear hfz47_0
    try clear hfz47_1
    try clear hfz47_2
    try clear hfz48_0
    try clear hfz48_1
    try clear hfz48_2
    try clear hfz50_0
    try clear hfz50_1
    try clear hfz50_2
    try clear hfz51_0
    try clear hfz51_1
    try clear hfz51_2
    try clear hfz56_0
    try clear hfz56_1
    try clear hfz56_2
    try clear hfz60_0
    try clear hfz60_1
    try clear hfz60_2
    try clear hfz62_0
    try clear hfz62_1
    try clear hfz62_2
    try clear hfz66_0
    try clear hfz66_1
    try clear hfz66_2
    try clear hfz68_0
    try clear hfz68_1
    try clear hfz68_2
    obtain⟨kq,x43_33,rfl,HA,HJ33,BK193,BK194,BK195,HB⟩:=hcut
    cases kq with
    |zero=>exact absurd HA.out (by simp[dA.j0])
    |succ kj33=>
     have H:=HA.out;clear HA;simp only[dA.j0] at H
     by_cases c70:x43_33=true
     ·subst c70
      rw[if_pos rfl] at H;obtain⟨⟨t201,t202,t203⟩,A71,H⟩:=bi H;try dsimp only at H
      simp only[Option.some.injEq,Prod.mk.injEq] at H;obtain⟨rfl,rfl,rfl⟩:=H
      go_wp2_with(first|((with_reducible refine aG (f:=176) rfl ?_);refine gl_ 44 Tryz.func176 #[] (h:= ?_);(with_reducible refine(iY.calls t201 t202 t203 _ A71.out).mono ?_);rintro e w72 ⟨rfl,hb⟩;refine⟨_,rfl,?_⟩;replace BK193:=pkK BK193 hb;replace BK194:=pkK BK194 hb;replace BK195:=pkK BK195 hb;replace HB:=pkB HB hb;try clear hb;have hnb73:=NB195_193.out;have hnc73:=NB193_195.out;have hnb74:=NB195_194.out;have hnc74:=NB194_195.out;obtain⟨⟨hcz75_0,hcz75_1,hcz75_2⟩,hfz75_0,hfz75_1,hfz75_2⟩:=pk3 BK195))
      refine bodyPost_ret (results_cell_row rfl _ _ gb195 36 #[.bool t201,.string t202,.string t203] (0,0) _ rfl (pkS3 BK195) Tryz.underlying36 rfl (by kernel_rfl)) rfl ?_;exact pkE HB
     ·replace c70:=Bool.eq_false_iff.mpr c70
      subst c70;rw[if_neg (show ¬(false=true) by decide)] at H;obtain⟨⟨t204,t205,t206,t207⟩,A76,H⟩:=bi H;try dsimp only at H
      obtain⟨⟨t208,t209⟩,A77,H⟩:=bi H;try dsimp only at H
      obtain⟨t210,A78,H⟩:=bi H;try dsimp only at H
      obtain⟨t211,A79,H⟩:=bi H;try dsimp only at H
      obtain⟨⟨t212,t213⟩,A80,H⟩:=bi H;try dsimp only at H
      obtain⟨t214,A81,H⟩:=bi H;try dsimp only at H
      obtain⟨t215,A82,H⟩:=bi H;try dsimp only at H
      obtain⟨t216,A83,H⟩:=bi H;try dsimp only at H
      obtain⟨⟨t217,t218,t219⟩,A84,H⟩:=bi H;try dsimp only at H
      simp only[Option.some.injEq,Prod.mk.injEq] at H;obtain⟨rfl,rfl,rfl⟩:=H;have hnb85:=NB193_194.out;have hnc85:=NB194_193.out;have hnb86:=NB193_195.out;have hnc86:=NB195_193.out;obtain⟨⟨hcz87_0,hcz87_1,hcz87_2⟩,hfz87_0,hfz87_1,hfz87_2⟩:=pk3 BK193;have hnb88:=NB194_195.out;have hnc88:=NB195_194.out;obtain⟨⟨hcz89_0,hcz89_1,hcz89_2⟩,hfz89_0,hfz89_1,hfz89_2⟩:=pk3 BK194
      try go_wp2_with(first|((with_reducible refine aG (f:=32) rfl ?_);refine gl_ 50 Tryz.func32 #[.string a0_1,.string a1_1] (h:= ?_);(with_reducible refine(lU.calls (hG:=HG.out.below (pkL HB)) a0_1 a1_1 t204 t205 t206 t207 _ A76.out).mono ?_);rintro e w90 ⟨rfl,hb⟩;refine⟨_,rfl,?_⟩;replace BK193:=pkK BK193 hb;replace BK194:=pkK BK194 hb;replace BK195:=pkK BK195 hb;replace HB:=pkB HB hb;try clear hb)|((with_reducible refine aG (f:=18) rfl ?_);refine gl_ 58 Tryz.func18 #[.string t199,.string t198] (h:= ?_);(with_reducible refine(jT.calls (hG:=HG.out.below (pkL HB)) t199 t198 t208 t209 _ A77.out).mono ?_);rintro e w91 ⟨rfl,hb⟩;refine⟨_,rfl,?_⟩;replace BK193:=pkK BK193 hb;replace BK194:=pkK BK194 hb;replace BK195:=pkK BK195 hb;replace HB:=pkB HB hb;try clear hb)|((with_reducible refine aG (f:=128) rfl ?_);refine gl_ 61 Tryz.func128 #[.string t208,.int .i64 t209] (h:= ?_);(with_reducible refine(eQ.calls t208 t209 t210 _ A78.out).mono ?_);rintro e w' ⟨rfl,⟨nd,rfl⟩⟩;refine⟨_,rfl,?_⟩;(try(rw[nI w91];generalize hq_:World.drewN w91 _=w91;have n0_:aA (w91.heap[gb193]? =some (.cells #[.bool a0_0,.string a0_1,.string a0_2] 36 (0,0))):=⟨by rw[←hq_];exact(pkW BK193)⟩;have n1_:aA (w91.heap[gb194]? =some (.cells #[.bool a1_0,.string a1_1,.string a1_2] 36 (0,0))):=⟨by rw[←hq_];exact(pkW BK194)⟩;have n2_:aA (w91.heap[gb195]? =some (.cells #[.bool false,.string (⟨#[]⟩:ByteArray),.string (⟨#[]⟩:ByteArray)] 36 (0,0))):=⟨by rw[←hq_];exact(pkW BK195)⟩;have n3_:aA (Below w.heap.size w w91):=⟨by rw[←hq_];exact(pkL HB)⟩;clear BK193 BK194 BK195 HB hq_;have BK193:=n0_;have BK194:=n1_;have BK195:=n2_;have HB:=n3_;clear n0_ n1_ n2_ n3_)))|((with_reducible refine aG (f:=124) rfl ?_);refine gl_ 62 Tryz.func124 #[.string t205,.string t210] (h:= ?_);(with_reducible refine(fK.calls (hG:=HG.out.below (pkL HB)) t205 t210 t211 _ A79.out).mono ?_);rintro e w92 ⟨rfl,hb⟩;refine⟨_,rfl,?_⟩;replace BK193:=pkK BK193 hb;replace BK194:=pkK BK194 hb;replace BK195:=pkK BK195 hb;replace HB:=pkB HB hb;try clear hb))
      replace BK193:=aA.mk (aQ BK193.out);replace BK194:=aA.mk (aQ BK194.out);replace BK195:=aA.mk (aQ BK195.out);replace HB:=aA.mk (bG HB.out)
      refine jY (n:=17) (S:=fun w'=>w'.cell? ⟨gb193,0,none⟩=some (.bool a0_0)∧w'.cell? ⟨gb193,1,none⟩=some (.string a0_1)∧w'.cell? ⟨gb193,2,none⟩=some (.string a0_2)∧w'.cell? ⟨gb194,0,none⟩=some (.bool a1_0)∧w'.cell? ⟨gb194,1,none⟩=some (.string a1_1)∧w'.cell? ⟨gb194,2,none⟩=some (.string a1_2)) (ds:= []) #[false,false,false,false,false,false,false,false,false,false,false,false,false,false,false,false,false] (by kernel_rfl) rfl rfl ⟨(aC BK193.out 0).trans rfl,(aC BK193.out 1).trans rfl,(aC BK193.out 2).trans rfl,(aC BK194.out 0).trans rfl,(aC BK194.out 1).trans rfl,(aC BK194.out 2).trans rfl⟩ (fun hHeld=> ?_);refine kP dA.tab11 dA.bits11 (fun HT_ HW_=> ?_)
      generalize w92.drew=w93 at BK193 BK194 BK195 HB hHeld ⊢;refine pr_ 0 63 (h:= ?_);refine pr_ 2 65 (h:= ?_);refine pr_ 8 71 (h:= ?_);refine pr_ 10 73 (h:= ?_);refine pr_ 11 74 (h:= ?_);refine tk_ 1 64 hHeld (hy:=by rintro w' ⟨s0,s1,s2,s3,s4,s5⟩;go_simp;with_reducible rfl) (h:= ?_);refine tk_ 3 66 hHeld (hy:=by rintro w' ⟨s0,s1,s2,s3,s4,s5⟩;go_simp;with_reducible rfl) (h:= ?_);refine tk_ 9 72 hHeld (hy:=by rintro w' ⟨s0,s1,s2,s3,s4,s5⟩;go_simp;with_reducible rfl) (h:= ?_);refine tk_ 12 75 hHeld (hy:=by rintro w' ⟨s0,s1,s2,s3,s4,s5⟩;go_simp;with_reducible rfl) (h:= ?_);refine on_ 4 67 (h:=fun K hK=> ?_);refine g1_ Tryz.func30 #[.string a0_1,.string a1_1] (h:= ?_);with_reducible refine(pR.calls (hG:=HG.out.below (pkL HB)) a0_1 a1_1 t212 t213 _ A80.out).mono ?_
      rintro e w94 ⟨rfl,hb⟩;refine⟨_,rfl,?_⟩;replace BK193:=pkK BK193 hb;replace BK194:=pkK BK194 hb;replace BK195:=pkK BK195 hb;replace HB:=pkB HB hb
      (try clear hb)
      (try clear hb2)
      (try clear hk)
      (try clear hi)
      refine hK.out _ _ ⟨(aC BK193.out 0).trans rfl,(aC BK193.out 1).trans rfl,(aC BK193.out 2).trans rfl,(aC BK194.out 0).trans rfl,(aC BK194.out 1).trans rfl,(aC BK194.out 2).trans rfl⟩ (fun hHeld=> ?_);clear hK K;refine gG (a':= ?_) ?_ ?_
      rotate_left
      ·show Act.put _ (some 67) _=_
       simp only[Act.put,List.setIfInBounds_toArray,List.set_cons_zero,List.set_cons_succ,dE,dM];rfl
      refine pr_ 5 68 (h:= ?_);refine pr_ 6 69 (h:= ?_);refine on_ 7 70 (h:=fun K hK=> ?_);refine g1_ Tryz.func128 #[.string t212,.int .i64 t213] (h:= ?_);with_reducible refine(eQ.calls t212 t213 t214 _ A81.out).mono ?_
      rintro e w' ⟨rfl,⟨nd,rfl⟩⟩;refine⟨_,rfl,?_⟩;refine hK.out _ _ ⟨(aC BK193.out 0).trans rfl,(aC BK193.out 1).trans rfl,(aC BK193.out 2).trans rfl,(aC BK194.out 0).trans rfl,(aC BK194.out 1).trans rfl,(aC BK194.out 2).trans rfl⟩ (fun hHeld=> ?_);clear hK K;refine gG (a':= ?_) ?_ ?_
      rotate_left
      ·show Act.put _ (some 70) _=_
       simp only[Act.put,List.setIfInBounds_toArray,List.set_cons_zero,List.set_cons_succ,dE,dM];rfl
      refine on_ 13 76 (h:=fun K hK=> ?_);refine g1_ Tryz.func124 #[.string t211,.string a0_1] (h:= ?_);with_reducible refine(fK.calls (hG:=HG.out.below (pkL HB)) t211 a0_1 t215 _ A82.out).mono ?_
      rintro e w95 ⟨rfl,hb⟩;refine⟨_,rfl,?_⟩;replace BK193:=pkK BK193 hb;replace BK194:=pkK BK194 hb;replace BK195:=pkK BK195 hb;replace HB:=pkB HB hb
      (try clear hb)
      (try clear hb2)
      (try clear hk)
      (try clear hi)
      refine hK.out _ _ ⟨(aC BK193.out 0).trans rfl,(aC BK193.out 1).trans rfl,(aC BK193.out 2).trans rfl,(aC BK194.out 0).trans rfl,(aC BK194.out 1).trans rfl,(aC BK194.out 2).trans rfl⟩ (fun hHeld=> ?_);clear hK K;refine gG (a':= ?_) ?_ ?_
      rotate_left
      ·show Act.put _ (some 76) _=_
       simp only[Act.put,List.setIfInBounds_toArray,List.set_cons_zero,List.set_cons_succ,dE,dM];rfl
      refine on_ 14 77 (h:=fun K hK=> ?_);refine g1_ Tryz.func119 #[.string a0_2,.string t215] (h:= ?_);with_reducible refine(kG.calls (hG:=HG.out.below (pkL HB)) a0_2 t215 t216 _ A83.out).mono ?_
      rintro e w96 ⟨rfl,hb⟩;refine⟨_,rfl,?_⟩;replace BK193:=pkK BK193 hb;replace BK194:=pkK BK194 hb;replace BK195:=pkK BK195 hb;replace HB:=pkB HB hb
      (try clear hb)
      (try clear hb2)
      (try clear hk)
      (try clear hi)
      refine hK.out _ _ ⟨(aC BK193.out 0).trans rfl,(aC BK193.out 1).trans rfl,(aC BK193.out 2).trans rfl,(aC BK194.out 0).trans rfl,(aC BK194.out 1).trans rfl,(aC BK194.out 2).trans rfl⟩ (fun hHeld=> ?_);clear hK K;refine gG (a':= ?_) ?_ ?_
      rotate_left
      ·show Act.put _ (some 77) _=_
       simp only[Act.put,List.setIfInBounds_toArray,List.set_cons_zero,List.set_cons_succ,dE,dM];rfl
      refine on_ 15 78 (h:=fun K hK=> ?_);refine g1_ Tryz.func109 #[.string t214,.string t216] (h:= ?_);with_reducible refine(bI.calls (hG:=HG.out.below (pkL HB)) kj33 t214 t216 t217 t218 t219 _ A84.out).mono ?_
      rintro e w97 ⟨rfl,hb⟩;refine⟨_,rfl,?_⟩;replace BK193:=pkK BK193 hb;replace BK194:=pkK BK194 hb;replace BK195:=pkK BK195 hb;replace HB:=pkB HB hb
      (try clear hb)
      (try clear hb2)
      (try clear hk)
      (try clear hi)
      refine hK.out _ _ ⟨(aC BK193.out 0).trans rfl,(aC BK193.out 1).trans rfl,(aC BK193.out 2).trans rfl,(aC BK194.out 0).trans rfl,(aC BK194.out 1).trans rfl,(aC BK194.out 2).trans rfl⟩ (fun hHeld=> ?_);clear hK K;refine gG (a':= ?_) ?_ ?_
      rotate_left
      ·show Act.put _ (some 78) _=_
       simp only[Act.put,List.setIfInBounds_toArray,List.set_cons_zero,List.set_cons_succ,dE,dM];rfl
      refine one_ (i:=16) (N:=none) #[true,true,true,true,true,true,true,true,true,true,true,true,true,true,true,true,true] rfl rfl (yA HT_.out (by kernel_rfl)) aCr (fun K hK=> ?_);have hs98:w97.cell? ⟨gb195,0,none⟩=some (.bool false):=(aC BK195.out 0).trans rfl;have hfs98:=aI BK195.out 0;have hns98_0:=NB193_195.out;have hns98_1:=NB194_195.out;have hms98_0:=NB195_193.out;have hms98_1:=NB195_194.out;have hs99:w97.cell? ⟨gb195,1,none⟩=some (.string (⟨#[]⟩:ByteArray)):=(aC BK195.out 1).trans rfl;have hfs99:=aI BK195.out 1;have hns99_0:=NB193_195.out;have hns99_1:=NB194_195.out;have hms99_0:=NB195_193.out;have hms99_1:=NB195_194.out;have hs100:w97.cell? ⟨gb195,2,none⟩=some (.string (⟨#[]⟩:ByteArray)):=(aC BK195.out 2).trans rfl;have hfs100:=aI BK195.out 2;have hns100_0:=NB193_195.out;have hns100_1:=NB194_195.out;have hms100_0:=NB195_193.out;have hms100_1:=NB195_194.out;refine skip_ (w1:= ?_) (by rfl) rfl ?_ ?_
      rotate_left
      ·go_simp
       rfl
      refine hK.out _ _ ⟨((aCt (p:=⟨gb195,_,none⟩) NB193_195.out _).trans (((aCt (p:=⟨gb195,_,none⟩) NB193_195.out _).trans (((aCt (p:=⟨gb195,_,none⟩) NB193_195.out _).trans (hHeld.1)))))),((aCt (p:=⟨gb195,_,none⟩) NB193_195.out _).trans (((aCt (p:=⟨gb195,_,none⟩) NB193_195.out _).trans (((aCt (p:=⟨gb195,_,none⟩) NB193_195.out _).trans (hHeld.2.1)))))),((aCt (p:=⟨gb195,_,none⟩) NB193_195.out _).trans (((aCt (p:=⟨gb195,_,none⟩) NB193_195.out _).trans (((aCt (p:=⟨gb195,_,none⟩) NB193_195.out _).trans (hHeld.2.2.1)))))),((aCt (p:=⟨gb195,_,none⟩) NB194_195.out _).trans (((aCt (p:=⟨gb195,_,none⟩) NB194_195.out _).trans (((aCt (p:=⟨gb195,_,none⟩) NB194_195.out _).trans (hHeld.2.2.2.1)))))),((aCt (p:=⟨gb195,_,none⟩) NB194_195.out _).trans (((aCt (p:=⟨gb195,_,none⟩) NB194_195.out _).trans (((aCt (p:=⟨gb195,_,none⟩) NB194_195.out _).trans (hHeld.2.2.2.2.1)))))),((aCt (p:=⟨gb195,_,none⟩) NB194_195.out _).trans (((aCt (p:=⟨gb195,_,none⟩) NB194_195.out _).trans (((aCt (p:=⟨gb195,_,none⟩) NB194_195.out _).trans (hHeld.2.2.2.2.2))))))⟩ (fun hHeld=> ?_);clear hK K;refine kT (mG HT_.out (by kernel_rfl)) ?_
      try go_wp2
      refine bodyPost_ret (results_cell_row rfl _ _ gb195 36 #[.bool t217,.string t218,.string t219] (0,0) _ rfl (pkS3 BK195) Tryz.underlying36 rfl (by kernel_rfl)) rfl ?_;exact pkE HB
def dB.f(a0:ByteArray):Option (Bool×ByteArray×ByteArray):=some (false,(⟨#[48]⟩:ByteArray),a0)
theorem dB.calls(a0:ByteArray)(r1:Bool)(r2:ByteArray)(r3:ByteArray)(w:World)(h:dB.f a0=some (r1,r2,r3)) :
 Calls Tryz.prog 116 #[.string a0] w fun e w'=>e= .returned (.agg #[.bool r1,.string r2,.string r3])∧Below w.heap.size w w':=by
 have hu36:=Tryz.underlying36;have HB:=aA.mk (Below.refl w.heap.size w);have H:(some (false,(⟨#[48]⟩:ByteArray),a0))=some (r1,r2,r3):=h;clear h;simp only[Option.some.injEq,Prod.mk.injEq] at H;obtain⟨rfl,rfl,rfl⟩:=H;go_enter Tryz.func116,Tryz.ntmps116
 go_wp2_with(first|((with_reducible refine aJ (N:=2) rfl ?_);refine bx_ 2 36 #[.bool false,.string (⟨#[]⟩:ByteArray),.string (⟨#[]⟩:ByteArray)] (h:= ?_);intro gb220 hg w2 hbox hb;have BK220:=aA.mk (hbox);have GW220:=pkG HB hg;have GE220:=GW220;replace HB:=pkB HB hb;clear hb hbox hg;obtain⟨⟨hcz3_0,hcz3_1,hcz3_2⟩,hfz3_0,hfz3_1,hfz3_2⟩:=pk3 BK220))
 refine bodyPost_ret (results_cell_row rfl _ _ gb220 36 #[.bool false,.string (⟨#[48]⟩:ByteArray),.string a0] (0,0) _ rfl (pkS3 BK220) Tryz.underlying36 rfl (by kernel_rfl)) rfl ?_;exact pkE HB
end Go.Proofs.YtignanmmgaldeaaGreatDoor.PCongI
end
section
set_option linter.unusedVariables false
set_option linter.unusedSimpArgs false
set_option maxHeartbeats 8000000
set_option maxRecDepth 100000
namespace Go.Proofs.YtignanmmgaldeaaGreatDoor.PCongI
open Go.RowKit Go.Proofs.YtignanmmgaldeaaGreatDoorW.PrintWords Go.Proofs.YtignanmmgaldeaaGreatDoorW.PrintLast Go.Proofs.YtignanmmgaldeaaGreatDoorW.PrintMore
attribute [local go_sem] gI gJ iE iF
attribute [local go_sem high] eqA36
def gZ.f(k:Nat)(a0_0:Bool)(a0_1:ByteArray)(a0_2:ByteArray)(a1_0:Bool)(a1_1:ByteArray)(a1_2:ByteArray):Option (Bool×ByteArray×ByteArray):=(dB.f (⟨#[48]⟩:ByteArray)).bind fun bt224=>(if(a1_0==bt224.1&&(a1_1.toList==bt224.2.1.toList&&(a1_2.toList==bt224.2.2.toList)))=true then((iY.f).bind fun bt227=>(some (bt227.1,bt227.2.1,bt227.2.2))) else(if a1_1.toList=([48]:List UInt8) then((eG.f a1_2 a0_1).bind fun t230=>(if t230=true then((jT.f a0_1 a1_2).bind fun bt231=>((eQ.f bt231.1 bt231.2).bind fun t233=>((jT.f a0_2 a1_2).bind fun bt234=>((eQ.f bt234.1 bt234.2).bind fun t236=>((bI.f k t233 t236).bind fun bt237=>(some (bt237.1,bt237.2.1,bt237.2.2))))))) else((fB.f).bind fun bt240=>(some (bt240.1,bt240.2.1,bt240.2.2))))) else((dB.f (⟨#[48]⟩:ByteArray)).bind fun bt243=>(if(a0_0==bt243.1&&(a0_1.toList==bt243.2.1.toList&&(a0_2.toList==bt243.2.2.toList)))=true then(some (a0_0,a0_1,a0_2)) else((fB.f).bind fun bt246=>(some (bt246.1,bt246.2.1,bt246.2.2)))))))
def gZ.T8:Bool×List (List Nat×List Nat):=(true,[([],[]),([0],[0]),([],[]),([2],[2]),([1,3],[1,3]),([4],[4]),([4],[4]),([5,6,4],[5,6]),([],[]),([8],[8]),([],[]),([10],[10]),([9,11,7],[9,11]),([12],[12]),([12],[12]),([13,14,12],[13,14]),([7,15,15],[7,15]),([16,16,0,1,2,3,4,5,6,7,8,9,10,11,12,13,14,15,16],[16])])
def gZ.B8:List Nat:= [0,1,0,4,15,31,31,127,0,256,0,1024,4095,8191,8191,32767,65535,131071]
theorem gZ.tab8:rtab .any (opsOf Tryz.f100 8)=gZ.T8:=by kernel_rfl
theorem gZ.bits8:kV gZ.T8.2 gZ.B8=true:=by kernel_rfl
theorem gZ.calls(k:Nat)(a0_0:Bool)(a0_1:ByteArray)(a0_2:ByteArray)(a1_0:Bool)(a1_1:ByteArray)(a1_2:ByteArray)(r1:Bool)(r2:ByteArray)(r3:ByteArray)(w:World)(hG:GW w)(h:gZ.f k a0_0 a0_1 a0_2 a1_0 a1_1 a1_2=some (r1,r2,r3)) :
 Calls Tryz.prog 100 #[.agg #[.bool a0_0,.string a0_1,.string a0_2],.agg #[.bool a1_0,.string a1_1,.string a1_2]] w fun e w'=>e= .returned (.agg #[.bool r1,.string r2,.string r3])∧Below w.heap.size w w':=by
 have HG:=aA.mk hG;clear hG;have hu36:=Tryz.underlying36;have HB:=aA.mk (Below.refl w.heap.size w);have H:((dB.f (⟨#[48]⟩:ByteArray)).bind fun bt224=>(if(a1_0==bt224.1&&(a1_1.toList==bt224.2.1.toList&&(a1_2.toList==bt224.2.2.toList)))=true then((iY.f).bind fun bt227=>(some (bt227.1,bt227.2.1,bt227.2.2))) else(if a1_1.toList=([48]:List UInt8) then((eG.f a1_2 a0_1).bind fun t230=>(if t230=true then((jT.f a0_1 a1_2).bind fun bt231=>((eQ.f bt231.1 bt231.2).bind fun t233=>((jT.f a0_2 a1_2).bind fun bt234=>((eQ.f bt234.1 bt234.2).bind fun t236=>((bI.f k t233 t236).bind fun bt237=>(some (bt237.1,bt237.2.1,bt237.2.2))))))) else((fB.f).bind fun bt240=>(some (bt240.1,bt240.2.1,bt240.2.2))))) else((dB.f (⟨#[48]⟩:ByteArray)).bind fun bt243=>(if(a0_0==bt243.1&&(a0_1.toList==bt243.2.1.toList&&(a0_2.toList==bt243.2.2.toList)))=true then(some (a0_0,a0_1,a0_2)) else((fB.f).bind fun bt246=>(some (bt246.1,bt246.2.1,bt246.2.2))))))))=some (r1,r2,r3):=h;clear h;obtain⟨⟨t224,t225,t226⟩,A3,H⟩:=bi H;try dsimp only at H
 by_cases c4:(a1_0==t224&&(a1_1.toList==t225.toList&&(a1_2.toList==t226.toList)))=true
 ·rw[if_pos c4] at H
  have c4b0:(a1_0==t224&&(a1_1.toList==t225.toList&&(a1_2.toList==t226.toList)))=true:=c4
  (try(have c4b1:decide (a1_0=t224&&(a1_1.toList==t225.toList&&(a1_2.toList==t226.toList)))=true:=by simpa using c4))
  (try(have c4b2:(a1_0==t224&&(a1_1.toList==t225.toList&&(a1_2.toList==t226.toList)))=true:=by simpa using c4))
  clear c4;obtain⟨⟨t227,t228,t229⟩,A5,H⟩:=bi H;try dsimp only at H
  simp only[Option.some.injEq,Prod.mk.injEq] at H;obtain⟨rfl,rfl,rfl⟩:=H;go_enter Tryz.func100,Tryz.ntmps100
  try go_wp2_with(first|((with_reducible refine aJ (N:=2) rfl ?_);refine bx_ 2 36 #[.bool a0_0,.string a0_1,.string a0_2] (h:= ?_);intro gb221 hg w6 hbox hb;have BK221:=aA.mk (hbox);have GW221:=pkG HB hg;have GE221:=GW221;replace HB:=pkB HB hb;clear hb hbox hg)|((with_reducible refine aJ (N:=3) rfl ?_);refine bx_ 3 36 #[.bool a1_0,.string a1_1,.string a1_2] (h:= ?_);intro gb222 hg w7 hbox hb;have BK222:=aA.mk (hbox);have GW222:=pkG HB hg;have GE222:=GW222;obtain⟨NB221_222,NB222_221,_,_⟩:=pkQ BK221 hg;replace BK221:=pkK BK221 hb;replace HB:=pkB HB hb;clear hb hbox hg)|((with_reducible refine aJ (N:=4) rfl ?_);refine bx_ 4 36 #[.bool false,.string (⟨#[]⟩:ByteArray),.string (⟨#[]⟩:ByteArray)] (h:= ?_);intro gb223 hg w8 hbox hb;have BK223:=aA.mk (hbox);have GW223:=pkG HB hg;have GE223:=GW223;obtain⟨NB221_223,NB223_221,_,_⟩:=pkQ BK221 hg;obtain⟨NB222_223,NB223_222,_,_⟩:=pkQ BK222 hg;replace BK221:=pkK BK221 hb;replace BK222:=pkK BK222 hb;replace HB:=pkB HB hb;clear hb hbox hg))
  replace BK221:=aA.mk (aQ BK221.out);replace BK222:=aA.mk (aQ BK222.out);replace BK223:=aA.mk (aQ BK223.out);replace HB:=aA.mk (bG HB.out)
  refine jY (n:=4) (S:=fun w'=>w'.cell? ⟨gb222,0,none⟩=some (.bool a1_0)∧w'.cell? ⟨gb222,1,none⟩=some (.string a1_1)∧w'.cell? ⟨gb222,2,none⟩=some (.string a1_2)) (ds:= []) #[false,false,false,false] (by kernel_rfl) rfl rfl ⟨(aC BK222.out 0).trans rfl,(aC BK222.out 1).trans rfl,(aC BK222.out 2).trans rfl⟩ (fun hHeld=> ?_);generalize w8.drew=w9 at BK221 BK222 BK223 HB hHeld ⊢;refine tk_ 0 6 hHeld (hy:=by rintro w' ⟨s0,s1,s2⟩;go_simp;with_reducible rfl) (h:= ?_);refine on_ 1 7 (h:=fun K hK=> ?_);refine g1_ Tryz.func116 #[.string (⟨#[48]⟩:ByteArray)] (h:= ?_);with_reducible refine(dB.calls (⟨#[48]⟩:ByteArray) t224 t225 t226 _ A3.out).mono ?_
  rintro e w10 ⟨rfl,hb⟩;refine⟨_,rfl,?_⟩;replace BK221:=pkK BK221 hb;replace BK222:=pkK BK222 hb;replace BK223:=pkK BK223 hb;replace HB:=pkB HB hb
  (try clear hb)
  (try clear hb2)
  (try clear hk)
  (try clear hi)
  refine hK.out _ _ ⟨(aC BK222.out 0).trans rfl,(aC BK222.out 1).trans rfl,(aC BK222.out 2).trans rfl⟩ (fun hHeld=> ?_);clear hK K;refine gG (a':= ?_) ?_ ?_
  rotate_left
  ·show Act.put _ (some 7) _=_
   simp only[Act.put,List.setIfInBounds_toArray,List.set_cons_zero,List.set_cons_succ,dE,dM];rfl
  refine pr_ 2 8 (h:= ?_);refine pr_ 3 5 (h:= ?_);refine kT (by kernel_rfl) ?_
  try go_wp2_with(first|((with_reducible refine aG (f:=176) rfl ?_);refine gl_ 9 Tryz.func176 #[] (h:= ?_);(with_reducible refine(iY.calls t227 t228 t229 _ A5.out).mono ?_);rintro e w11 ⟨rfl,hb⟩;refine⟨_,rfl,?_⟩;replace BK221:=pkK BK221 hb;replace BK222:=pkK BK222 hb;replace BK223:=pkK BK223 hb;replace HB:=pkB HB hb;try clear hb;have hnb12:=NB223_221.out;have hnc12:=NB221_223.out;have hnb13:=NB223_222.out;have hnc13:=NB222_223.out;obtain⟨⟨hcz14_0,hcz14_1,hcz14_2⟩,hfz14_0,hfz14_1,hfz14_2⟩:=pk3 BK223))
  refine bodyPost_ret (results_cell_row rfl _ _ gb223 36 #[.bool t227,.string t228,.string t229] (0,0) _ rfl (pkS3 BK223) Tryz.underlying36 rfl (by kernel_rfl)) rfl ?_;exact pkE HB
 ·rw[if_neg c4] at H
  have c4b0:(a1_0==t224&&(a1_1.toList==t225.toList&&(a1_2.toList==t226.toList)))=false:=by simpa using c4
  (try(have c4b1:decide (a1_0=t224&&(a1_1.toList==t225.toList&&(a1_2.toList==t226.toList)))=false:=by simpa using c4))
  (try(have c4b2:(a1_0==t224&&(a1_1.toList==t225.toList&&(a1_2.toList==t226.toList)))=false:=by simpa using c4))
  (try(have c4b3:¬(a1_0=t224&&(a1_1.toList==t225.toList&&(a1_2.toList==t226.toList))):=by simpa using c4))
  clear c4
  by_cases c15:a1_1.toList=([48]:List UInt8)
  ·rw[if_pos c15] at H
   have c15b0:(a1_1.toList==([48]:List UInt8))=true:=beq_iff_eq.mpr c15;have c15b1:(a1_1.toList != ([48]:List UInt8))=false:=bne_eq_false_iff_eq.mpr c15;clear c15;obtain⟨t230,A16,H⟩:=bi H;try dsimp only at H
   by_cases c17:t230=true
   ·subst c17
    rw[if_pos rfl] at H;obtain⟨⟨t231,t232⟩,A18,H⟩:=bi H;try dsimp only at H
    obtain⟨t233,A19,H⟩:=bi H;try dsimp only at H
    obtain⟨⟨t234,t235⟩,A20,H⟩:=bi H;try dsimp only at H
    obtain⟨t236,A21,H⟩:=bi H;try dsimp only at H
    obtain⟨⟨t237,t238,t239⟩,A22,H⟩:=bi H;try dsimp only at H
    simp only[Option.some.injEq,Prod.mk.injEq] at H;obtain⟨rfl,rfl,rfl⟩:=H;go_enter Tryz.func100,Tryz.ntmps100
    try go_wp2_with(first|((with_reducible refine aJ (N:=2) rfl ?_);refine bx_ 2 36 #[.bool a0_0,.string a0_1,.string a0_2] (h:= ?_);intro gb221 hg w23 hbox hb;have BK221:=aA.mk (hbox);have GW221:=pkG HB hg;have GE221:=GW221;replace HB:=pkB HB hb;clear hb hbox hg)|((with_reducible refine aJ (N:=3) rfl ?_);refine bx_ 3 36 #[.bool a1_0,.string a1_1,.string a1_2] (h:= ?_);intro gb222 hg w24 hbox hb;have BK222:=aA.mk (hbox);have GW222:=pkG HB hg;have GE222:=GW222;obtain⟨NB221_222,NB222_221,_,_⟩:=pkQ BK221 hg;replace BK221:=pkK BK221 hb;replace HB:=pkB HB hb;clear hb hbox hg)|((with_reducible refine aJ (N:=4) rfl ?_);refine bx_ 4 36 #[.bool false,.string (⟨#[]⟩:ByteArray),.string (⟨#[]⟩:ByteArray)] (h:= ?_);intro gb223 hg w25 hbox hb;have BK223:=aA.mk (hbox);have GW223:=pkG HB hg;have GE223:=GW223;obtain⟨NB221_223,NB223_221,_,_⟩:=pkQ BK221 hg;obtain⟨NB222_223,NB223_222,_,_⟩:=pkQ BK222 hg;replace BK221:=pkK BK221 hb;replace BK222:=pkK BK222 hb;replace HB:=pkB HB hb;clear hb hbox hg))
    replace BK221:=aA.mk (aQ BK221.out);replace BK222:=aA.mk (aQ BK222.out);replace BK223:=aA.mk (aQ BK223.out);replace HB:=aA.mk (bG HB.out)
    refine jY (n:=4) (S:=fun w'=>w'.cell? ⟨gb222,0,none⟩=some (.bool a1_0)∧w'.cell? ⟨gb222,1,none⟩=some (.string a1_1)∧w'.cell? ⟨gb222,2,none⟩=some (.string a1_2)) (ds:= []) #[false,false,false,false] (by kernel_rfl) rfl rfl ⟨(aC BK222.out 0).trans rfl,(aC BK222.out 1).trans rfl,(aC BK222.out 2).trans rfl⟩ (fun hHeld=> ?_);generalize w25.drew=w26 at BK221 BK222 BK223 HB hHeld ⊢;refine tk_ 0 6 hHeld (hy:=by rintro w' ⟨s0,s1,s2⟩;go_simp;with_reducible rfl) (h:= ?_);refine on_ 1 7 (h:=fun K hK=> ?_);refine g1_ Tryz.func116 #[.string (⟨#[48]⟩:ByteArray)] (h:= ?_);with_reducible refine(dB.calls (⟨#[48]⟩:ByteArray) t224 t225 t226 _ A3.out).mono ?_
    rintro e w27 ⟨rfl,hb⟩;refine⟨_,rfl,?_⟩;replace BK221:=pkK BK221 hb;replace BK222:=pkK BK222 hb;replace BK223:=pkK BK223 hb;replace HB:=pkB HB hb
    (try clear hb)
    (try clear hb2)
    (try clear hk)
    (try clear hi)
    refine hK.out _ _ ⟨(aC BK222.out 0).trans rfl,(aC BK222.out 1).trans rfl,(aC BK222.out 2).trans rfl⟩ (fun hHeld=> ?_);clear hK K;refine gG (a':= ?_) ?_ ?_
    rotate_left
    ·show Act.put _ (some 7) _=_
     simp only[Act.put,List.setIfInBounds_toArray,List.set_cons_zero,List.set_cons_succ,dE,dM];rfl
    refine pr_ 2 8 (h:= ?_);refine pr_ 3 5 (h:= ?_);refine kT (by kernel_rfl) ?_;have hnb28:=NB222_221.out;have hnc28:=NB221_222.out;have hnb29:=NB222_223.out;have hnc29:=NB223_222.out;obtain⟨⟨hcz30_0,hcz30_1,hcz30_2⟩,hfz30_0,hfz30_1,hfz30_2⟩:=pk3 BK222;have hnb31:=NB221_223.out;have hnc31:=NB223_221.out;obtain⟨⟨hcz32_0,hcz32_1,hcz32_2⟩,hfz32_0,hfz32_1,hfz32_2⟩:=pk3 BK221
    try go_wp2_with(first|((with_reducible refine aG (f:=177) rfl ?_);refine gl_ 24 Tryz.func177 #[.string a1_2,.string a0_1] (h:= ?_);(with_reducible refine(eG.calls (hG:=HG.out.below (pkL HB)) a1_2 a0_1 true _ A16.out).mono ?_);rintro e w33 ⟨rfl,hb⟩;refine⟨_,rfl,?_⟩;replace BK221:=pkK BK221 hb;replace BK222:=pkK BK222 hb;replace BK223:=pkK BK223 hb;replace HB:=pkB HB hb;try clear hb))
    replace BK221:=aA.mk (aQ BK221.out);replace BK222:=aA.mk (aQ BK222.out);replace BK223:=aA.mk (aQ BK223.out);replace HB:=aA.mk (bG HB.out)
    refine jY (n:=18) (S:=fun w'=>w'.cell? ⟨gb221,0,none⟩=some (.bool a0_0)∧w'.cell? ⟨gb221,1,none⟩=some (.string a0_1)∧w'.cell? ⟨gb221,2,none⟩=some (.string a0_2)∧w'.cell? ⟨gb222,0,none⟩=some (.bool a1_0)∧w'.cell? ⟨gb222,1,none⟩=some (.string a1_1)∧w'.cell? ⟨gb222,2,none⟩=some (.string a1_2)) (ds:= []) #[false,false,false,false,false,false,false,false,false,false,false,false,false,false,false,false,false,false] (by kernel_rfl) rfl rfl ⟨(aC BK221.out 0).trans rfl,(aC BK221.out 1).trans rfl,(aC BK221.out 2).trans rfl,(aC BK222.out 0).trans rfl,(aC BK222.out 1).trans rfl,(aC BK222.out 2).trans rfl⟩ (fun hHeld=> ?_);refine kP gZ.tab8 gZ.bits8 (fun HT_ HW_=> ?_)
    generalize w33.drew=w34 at BK221 BK222 BK223 HB hHeld ⊢;refine pr_ 0 25 (h:= ?_);refine pr_ 2 27 (h:= ?_);refine pr_ 8 33 (h:= ?_);refine pr_ 10 35 (h:= ?_);refine tk_ 1 26 hHeld (hy:=by rintro w' ⟨s0,s1,s2,s3,s4,s5⟩;go_simp;with_reducible rfl) (h:= ?_);refine tk_ 3 28 hHeld (hy:=by rintro w' ⟨s0,s1,s2,s3,s4,s5⟩;go_simp;with_reducible rfl) (h:= ?_);refine tk_ 9 34 hHeld (hy:=by rintro w' ⟨s0,s1,s2,s3,s4,s5⟩;go_simp;with_reducible rfl) (h:= ?_);refine tk_ 11 36 hHeld (hy:=by rintro w' ⟨s0,s1,s2,s3,s4,s5⟩;go_simp;with_reducible rfl) (h:= ?_);refine on_ 4 29 (h:=fun K hK=> ?_);refine g1_ Tryz.func18 #[.string a0_1,.string a1_2] (h:= ?_);with_reducible refine(jT.calls (hG:=HG.out.below (pkL HB)) a0_1 a1_2 t231 t232 _ A18.out).mono ?_
    rintro e w35 ⟨rfl,hb⟩;refine⟨_,rfl,?_⟩;replace BK221:=pkK BK221 hb;replace BK222:=pkK BK222 hb;replace BK223:=pkK BK223 hb;replace HB:=pkB HB hb
    (try clear hb)
    (try clear hb2)
    (try clear hk)
    (try clear hi)
    refine hK.out _ _ ⟨(aC BK221.out 0).trans rfl,(aC BK221.out 1).trans rfl,(aC BK221.out 2).trans rfl,(aC BK222.out 0).trans rfl,(aC BK222.out 1).trans rfl,(aC BK222.out 2).trans rfl⟩ (fun hHeld=> ?_);clear hK K;refine gG (a':= ?_) ?_ ?_
    rotate_left
    ·show Act.put _ (some 29) _=_
     simp only[Act.put,List.setIfInBounds_toArray,List.set_cons_zero,List.set_cons_succ,dE,dM];rfl
    refine pr_ 5 30 (h:= ?_);refine pr_ 6 31 (h:= ?_);refine on_ 7 32 (h:=fun K hK=> ?_);refine g1_ Tryz.func128 #[.string t231,.int .i64 t232] (h:= ?_);with_reducible refine(eQ.calls t231 t232 t233 _ A19.out).mono ?_
    rintro e w' ⟨rfl,⟨nd,rfl⟩⟩;refine⟨_,rfl,?_⟩;refine hK.out _ _ ⟨(aC BK221.out 0).trans rfl,(aC BK221.out 1).trans rfl,(aC BK221.out 2).trans rfl,(aC BK222.out 0).trans rfl,(aC BK222.out 1).trans rfl,(aC BK222.out 2).trans rfl⟩ (fun hHeld=> ?_);clear hK K;refine gG (a':= ?_) ?_ ?_
    rotate_left
    ·show Act.put _ (some 32) _=_
     simp only[Act.put,List.setIfInBounds_toArray,List.set_cons_zero,List.set_cons_succ,dE,dM];rfl
    refine on_ 12 37 (h:=fun K hK=> ?_);refine g1_ Tryz.func18 #[.string a0_2,.string a1_2] (h:= ?_);with_reducible refine(jT.calls (hG:=HG.out.below (pkL HB)) a0_2 a1_2 t234 t235 _ A20.out).mono ?_
    rintro e w36 ⟨rfl,hb⟩;refine⟨_,rfl,?_⟩;replace BK221:=pkK BK221 hb;replace BK222:=pkK BK222 hb;replace BK223:=pkK BK223 hb;replace HB:=pkB HB hb
    (try clear hb)
    (try clear hb2)
    (try clear hk)
    (try clear hi)
    refine hK.out _ _ ⟨(aC BK221.out 0).trans rfl,(aC BK221.out 1).trans rfl,(aC BK221.out 2).trans rfl,(aC BK222.out 0).trans rfl,(aC BK222.out 1).trans rfl,(aC BK222.out 2).trans rfl⟩ (fun hHeld=> ?_);clear hK K;refine gG (a':= ?_) ?_ ?_
    rotate_left
    ·show Act.put _ (some 37) _=_
     simp only[Act.put,List.setIfInBounds_toArray,List.set_cons_zero,List.set_cons_succ,dE,dM];rfl
    refine pr_ 13 38 (h:= ?_);refine pr_ 14 39 (h:= ?_);refine on_ 15 40 (h:=fun K hK=> ?_);refine g1_ Tryz.func128 #[.string t234,.int .i64 t235] (h:= ?_);with_reducible refine(eQ.calls t234 t235 t236 _ A21.out).mono ?_
    rintro e w' ⟨rfl,⟨nd,rfl⟩⟩;refine⟨_,rfl,?_⟩;refine hK.out _ _ ⟨(aC BK221.out 0).trans rfl,(aC BK221.out 1).trans rfl,(aC BK221.out 2).trans rfl,(aC BK222.out 0).trans rfl,(aC BK222.out 1).trans rfl,(aC BK222.out 2).trans rfl⟩ (fun hHeld=> ?_);clear hK K;refine gG (a':= ?_) ?_ ?_
    rotate_left
    ·show Act.put _ (some 40) _=_
     simp only[Act.put,List.setIfInBounds_toArray,List.set_cons_zero,List.set_cons_succ,dE,dM];rfl
    refine on_ 16 41 (h:=fun K hK=> ?_);refine g1_ Tryz.func109 #[.string t233,.string t236] (h:= ?_);with_reducible refine(bI.calls (hG:=HG.out.below (pkL HB)) k t233 t236 t237 t238 t239 _ A22.out).mono ?_
    rintro e w37 ⟨rfl,hb⟩;refine⟨_,rfl,?_⟩;replace BK221:=pkK BK221 hb;replace BK222:=pkK BK222 hb;replace BK223:=pkK BK223 hb;replace HB:=pkB HB hb
    (try clear hb)
    (try clear hb2)
    (try clear hk)
    (try clear hi)
    refine hK.out _ _ ⟨(aC BK221.out 0).trans rfl,(aC BK221.out 1).trans rfl,(aC BK221.out 2).trans rfl,(aC BK222.out 0).trans rfl,(aC BK222.out 1).trans rfl,(aC BK222.out 2).trans rfl⟩ (fun hHeld=> ?_);clear hK K;refine gG (a':= ?_) ?_ ?_
    rotate_left
    ·show Act.put _ (some 41) _=_
     simp only[Act.put,List.setIfInBounds_toArray,List.set_cons_zero,List.set_cons_succ,dE,dM];rfl
    refine one_ (i:=17) (N:=none) #[true,true,true,true,true,true,true,true,true,true,true,true,true,true,true,true,true,true] rfl rfl (yA HT_.out (by kernel_rfl)) aCr (fun K hK=> ?_);have hs38:w37.cell? ⟨gb223,0,none⟩=some (.bool false):=(aC BK223.out 0).trans rfl;have hfs38:=aI BK223.out 0;have hns38_0:=NB221_223.out;have hns38_1:=NB222_223.out;have hms38_0:=NB223_221.out;have hms38_1:=NB223_222.out;have hs39:w37.cell? ⟨gb223,1,none⟩=some (.string (⟨#[]⟩:ByteArray)):=(aC BK223.out 1).trans rfl;have hfs39:=aI BK223.out 1;have hns39_0:=NB221_223.out;have hns39_1:=NB222_223.out;have hms39_0:=NB223_221.out;have hms39_1:=NB223_222.out;have hs40:w37.cell? ⟨gb223,2,none⟩=some (.string (⟨#[]⟩:ByteArray)):=(aC BK223.out 2).trans rfl;have hfs40:=aI BK223.out 2;have hns40_0:=NB221_223.out;have hns40_1:=NB222_223.out;have hms40_0:=NB223_221.out;have hms40_1:=NB223_222.out;refine skip_ (w1:= ?_) (by rfl) rfl ?_ ?_
    rotate_left
    ·go_simp
     rfl
    refine hK.out _ _ ⟨((aCt (p:=⟨gb223,_,none⟩) NB221_223.out _).trans (((aCt (p:=⟨gb223,_,none⟩) NB221_223.out _).trans (((aCt (p:=⟨gb223,_,none⟩) NB221_223.out _).trans (hHeld.1)))))),((aCt (p:=⟨gb223,_,none⟩) NB221_223.out _).trans (((aCt (p:=⟨gb223,_,none⟩) NB221_223.out _).trans (((aCt (p:=⟨gb223,_,none⟩) NB221_223.out _).trans (hHeld.2.1)))))),((aCt (p:=⟨gb223,_,none⟩) NB221_223.out _).trans (((aCt (p:=⟨gb223,_,none⟩) NB221_223.out _).trans (((aCt (p:=⟨gb223,_,none⟩) NB221_223.out _).trans (hHeld.2.2.1)))))),((aCt (p:=⟨gb223,_,none⟩) NB222_223.out _).trans (((aCt (p:=⟨gb223,_,none⟩) NB222_223.out _).trans (((aCt (p:=⟨gb223,_,none⟩) NB222_223.out _).trans (hHeld.2.2.2.1)))))),((aCt (p:=⟨gb223,_,none⟩) NB222_223.out _).trans (((aCt (p:=⟨gb223,_,none⟩) NB222_223.out _).trans (((aCt (p:=⟨gb223,_,none⟩) NB222_223.out _).trans (hHeld.2.2.2.2.1)))))),((aCt (p:=⟨gb223,_,none⟩) NB222_223.out _).trans (((aCt (p:=⟨gb223,_,none⟩) NB222_223.out _).trans (((aCt (p:=⟨gb223,_,none⟩) NB222_223.out _).trans (hHeld.2.2.2.2.2))))))⟩ (fun hHeld=> ?_);clear hK K;refine kT (mG HT_.out (by kernel_rfl)) ?_
    try go_wp2
    refine bodyPost_ret (results_cell_row rfl _ _ gb223 36 #[.bool t237,.string t238,.string t239] (0,0) _ rfl (pkS3 BK223) Tryz.underlying36 rfl (by kernel_rfl)) rfl ?_;exact pkE HB
   ·replace c17:=Bool.eq_false_iff.mpr c17
    subst c17;rw[if_neg (show ¬(false=true) by decide)] at H;obtain⟨⟨t240,t241,t242⟩,A41,H⟩:=bi H;try dsimp only at H
    simp only[Option.some.injEq,Prod.mk.injEq] at H;obtain⟨rfl,rfl,rfl⟩:=H;go_enter Tryz.func100,Tryz.ntmps100
    try go_wp2_with(first|((with_reducible refine aJ (N:=2) rfl ?_);refine bx_ 2 36 #[.bool a0_0,.string a0_1,.string a0_2] (h:= ?_);intro gb221 hg w42 hbox hb;have BK221:=aA.mk (hbox);have GW221:=pkG HB hg;have GE221:=GW221;replace HB:=pkB HB hb;clear hb hbox hg)|((with_reducible refine aJ (N:=3) rfl ?_);refine bx_ 3 36 #[.bool a1_0,.string a1_1,.string a1_2] (h:= ?_);intro gb222 hg w43 hbox hb;have BK222:=aA.mk (hbox);have GW222:=pkG HB hg;have GE222:=GW222;obtain⟨NB221_222,NB222_221,_,_⟩:=pkQ BK221 hg;replace BK221:=pkK BK221 hb;replace HB:=pkB HB hb;clear hb hbox hg)|((with_reducible refine aJ (N:=4) rfl ?_);refine bx_ 4 36 #[.bool false,.string (⟨#[]⟩:ByteArray),.string (⟨#[]⟩:ByteArray)] (h:= ?_);intro gb223 hg w44 hbox hb;have BK223:=aA.mk (hbox);have GW223:=pkG HB hg;have GE223:=GW223;obtain⟨NB221_223,NB223_221,_,_⟩:=pkQ BK221 hg;obtain⟨NB222_223,NB223_222,_,_⟩:=pkQ BK222 hg;replace BK221:=pkK BK221 hb;replace BK222:=pkK BK222 hb;replace HB:=pkB HB hb;clear hb hbox hg))
    replace BK221:=aA.mk (aQ BK221.out);replace BK222:=aA.mk (aQ BK222.out);replace BK223:=aA.mk (aQ BK223.out);replace HB:=aA.mk (bG HB.out)
    refine jY (n:=4) (S:=fun w'=>w'.cell? ⟨gb222,0,none⟩=some (.bool a1_0)∧w'.cell? ⟨gb222,1,none⟩=some (.string a1_1)∧w'.cell? ⟨gb222,2,none⟩=some (.string a1_2)) (ds:= []) #[false,false,false,false] (by kernel_rfl) rfl rfl ⟨(aC BK222.out 0).trans rfl,(aC BK222.out 1).trans rfl,(aC BK222.out 2).trans rfl⟩ (fun hHeld=> ?_);generalize w44.drew=w45 at BK221 BK222 BK223 HB hHeld ⊢;refine tk_ 0 6 hHeld (hy:=by rintro w' ⟨s0,s1,s2⟩;go_simp;with_reducible rfl) (h:= ?_);refine on_ 1 7 (h:=fun K hK=> ?_);refine g1_ Tryz.func116 #[.string (⟨#[48]⟩:ByteArray)] (h:= ?_);with_reducible refine(dB.calls (⟨#[48]⟩:ByteArray) t224 t225 t226 _ A3.out).mono ?_
    rintro e w46 ⟨rfl,hb⟩;refine⟨_,rfl,?_⟩;replace BK221:=pkK BK221 hb;replace BK222:=pkK BK222 hb;replace BK223:=pkK BK223 hb;replace HB:=pkB HB hb
    (try clear hb)
    (try clear hb2)
    (try clear hk)
    (try clear hi)
    refine hK.out _ _ ⟨(aC BK222.out 0).trans rfl,(aC BK222.out 1).trans rfl,(aC BK222.out 2).trans rfl⟩ (fun hHeld=> ?_);clear hK K;refine gG (a':= ?_) ?_ ?_
    rotate_left
    ·show Act.put _ (some 7) _=_
     simp only[Act.put,List.setIfInBounds_toArray,List.set_cons_zero,List.set_cons_succ,dE,dM];rfl
    refine pr_ 2 8 (h:= ?_);refine pr_ 3 5 (h:= ?_);refine kT (by kernel_rfl) ?_;have hnb47:=NB222_221.out;have hnc47:=NB221_222.out;have hnb48:=NB222_223.out;have hnc48:=NB223_222.out;obtain⟨⟨hcz49_0,hcz49_1,hcz49_2⟩,hfz49_0,hfz49_1,hfz49_2⟩:=pk3 BK222;have hnb50:=NB221_223.out;have hnc50:=NB223_221.out;obtain⟨⟨hcz51_0,hcz51_1,hcz51_2⟩,hfz51_0,hfz51_1,hfz51_2⟩:=pk3 BK221
    try go_wp2_with(first|((with_reducible refine aG (f:=177) rfl ?_);refine gl_ 24 Tryz.func177 #[.string a1_2,.string a0_1] (h:= ?_);(with_reducible refine(eG.calls (hG:=HG.out.below (pkL HB)) a1_2 a0_1 false _ A16.out).mono ?_);rintro e w52 ⟨rfl,hb⟩;refine⟨_,rfl,?_⟩;replace BK221:=pkK BK221 hb;replace BK222:=pkK BK222 hb;replace BK223:=pkK BK223 hb;replace HB:=pkB HB hb;try clear hb)|((with_reducible refine aG (f:=99) rfl ?_);refine gl_ 42 Tryz.func99 #[] (h:= ?_);(with_reducible refine(fB.calls t240 t241 t242 _ A41.out).mono ?_);rintro e w53 ⟨rfl,hb⟩;refine⟨_,rfl,?_⟩;replace BK221:=pkK BK221 hb;replace BK222:=pkK BK222 hb;replace BK223:=pkK BK223 hb;replace HB:=pkB HB hb;try clear hb;obtain⟨⟨hcz54_0,hcz54_1,hcz54_2⟩,hfz54_0,hfz54_1,hfz54_2⟩:=pk3 BK223))
    refine bodyPost_ret (results_cell_row rfl _ _ gb223 36 #[.bool t240,.string t241,.string t242] (0,0) _ rfl (pkS3 BK223) Tryz.underlying36 rfl (by kernel_rfl)) rfl ?_;exact pkE HB
  ·rw[if_neg c15] at H
   have c15b0:(a1_1.toList==([48]:List UInt8))=false:=beq_eq_false_iff_ne.mpr c15;have c15b1:(a1_1.toList != ([48]:List UInt8))=true:=bne_iff_ne.mpr c15;obtain⟨⟨t243,t244,t245⟩,A55,H⟩:=bi H;try dsimp only at H
   by_cases c56:(a0_0==t243&&(a0_1.toList==t244.toList&&(a0_2.toList==t245.toList)))=true
   ·rw[if_pos c56] at H
    have c56b0:(a0_0==t243&&(a0_1.toList==t244.toList&&(a0_2.toList==t245.toList)))=true:=c56
    (try(have c56b1:decide (a0_0=t243&&(a0_1.toList==t244.toList&&(a0_2.toList==t245.toList)))=true:=by simpa using c56))
    (try(have c56b2:(a0_0==t243&&(a0_1.toList==t244.toList&&(a0_2.toList==t245.toList)))=true:=by simpa using c56))
    clear c56;simp only[Option.some.injEq,Prod.mk.injEq] at H;obtain⟨rfl,rfl,rfl⟩:=H;go_enter Tryz.func100,Tryz.ntmps100
    try go_wp2_with(first|((with_reducible refine aJ (N:=2) rfl ?_);refine bx_ 2 36 #[.bool a0_0,.string a0_1,.string a0_2] (h:= ?_);intro gb221 hg w57 hbox hb;have BK221:=aA.mk (hbox);have GW221:=pkG HB hg;have GE221:=GW221;replace HB:=pkB HB hb;clear hb hbox hg)|((with_reducible refine aJ (N:=3) rfl ?_);refine bx_ 3 36 #[.bool a1_0,.string a1_1,.string a1_2] (h:= ?_);intro gb222 hg w58 hbox hb;have BK222:=aA.mk (hbox);have GW222:=pkG HB hg;have GE222:=GW222;obtain⟨NB221_222,NB222_221,_,_⟩:=pkQ BK221 hg;replace BK221:=pkK BK221 hb;replace HB:=pkB HB hb;clear hb hbox hg)|((with_reducible refine aJ (N:=4) rfl ?_);refine bx_ 4 36 #[.bool false,.string (⟨#[]⟩:ByteArray),.string (⟨#[]⟩:ByteArray)] (h:= ?_);intro gb223 hg w59 hbox hb;have BK223:=aA.mk (hbox);have GW223:=pkG HB hg;have GE223:=GW223;obtain⟨NB221_223,NB223_221,_,_⟩:=pkQ BK221 hg;obtain⟨NB222_223,NB223_222,_,_⟩:=pkQ BK222 hg;replace BK221:=pkK BK221 hb;replace BK222:=pkK BK222 hb;replace HB:=pkB HB hb;clear hb hbox hg))
    replace BK221:=aA.mk (aQ BK221.out);replace BK222:=aA.mk (aQ BK222.out);replace BK223:=aA.mk (aQ BK223.out);replace HB:=aA.mk (bG HB.out)
    refine jY (n:=4) (S:=fun w'=>w'.cell? ⟨gb222,0,none⟩=some (.bool a1_0)∧w'.cell? ⟨gb222,1,none⟩=some (.string a1_1)∧w'.cell? ⟨gb222,2,none⟩=some (.string a1_2)) (ds:= []) #[false,false,false,false] (by kernel_rfl) rfl rfl ⟨(aC BK222.out 0).trans rfl,(aC BK222.out 1).trans rfl,(aC BK222.out 2).trans rfl⟩ (fun hHeld=> ?_);generalize w59.drew=w60 at BK221 BK222 BK223 HB hHeld ⊢;refine tk_ 0 6 hHeld (hy:=by rintro w' ⟨s0,s1,s2⟩;go_simp;with_reducible rfl) (h:= ?_);refine on_ 1 7 (h:=fun K hK=> ?_);refine g1_ Tryz.func116 #[.string (⟨#[48]⟩:ByteArray)] (h:= ?_);with_reducible refine(dB.calls (⟨#[48]⟩:ByteArray) t224 t225 t226 _ A3.out).mono ?_
    rintro e w61 ⟨rfl,hb⟩;refine⟨_,rfl,?_⟩;replace BK221:=pkK BK221 hb;replace BK222:=pkK BK222 hb;replace BK223:=pkK BK223 hb;replace HB:=pkB HB hb
    (try clear hb)
    (try clear hb2)
    (try clear hk)
    (try clear hi)
    refine hK.out _ _ ⟨(aC BK222.out 0).trans rfl,(aC BK222.out 1).trans rfl,(aC BK222.out 2).trans rfl⟩ (fun hHeld=> ?_);clear hK K;refine gG (a':= ?_) ?_ ?_
    rotate_left
    ·show Act.put _ (some 7) _=_
     simp only[Act.put,List.setIfInBounds_toArray,List.set_cons_zero,List.set_cons_succ,dE,dM];rfl
    refine pr_ 2 8 (h:= ?_);refine pr_ 3 5 (h:= ?_);refine kT (by kernel_rfl) ?_;have hnb62:=NB222_221.out;have hnc62:=NB221_222.out;have hnb63:=NB222_223.out;have hnc63:=NB223_222.out;obtain⟨⟨hcz64_0,hcz64_1,hcz64_2⟩,hfz64_0,hfz64_1,hfz64_2⟩:=pk3 BK222
    try go_wp2
    replace BK221:=aA.mk (aQ BK221.out);replace BK222:=aA.mk (aQ BK222.out);replace BK223:=aA.mk (aQ BK223.out);replace HB:=aA.mk (bG HB.out)
    refine jY (n:=3) (S:=fun w'=>w'.cell? ⟨gb221,0,none⟩=some (.bool a0_0)∧w'.cell? ⟨gb221,1,none⟩=some (.string a0_1)∧w'.cell? ⟨gb221,2,none⟩=some (.string a0_2)) (ds:= []) #[false,false,false] (by kernel_rfl) rfl rfl ⟨(aC BK221.out 0).trans rfl,(aC BK221.out 1).trans rfl,(aC BK221.out 2).trans rfl⟩ (fun hHeld=> ?_);generalize w61.drew=w65 at BK221 BK222 BK223 HB hHeld ⊢;refine tk_ 0 14 hHeld (hy:=by rintro w' ⟨s0,s1,s2⟩;go_simp;with_reducible rfl) (h:= ?_);refine on_ 1 15 (h:=fun K hK=> ?_);refine g1_ Tryz.func116 #[.string (⟨#[48]⟩:ByteArray)] (h:= ?_);with_reducible refine(dB.calls (⟨#[48]⟩:ByteArray) t243 t244 t245 _ A55.out).mono ?_
    rintro e w66 ⟨rfl,hb⟩;refine⟨_,rfl,?_⟩;replace BK221:=pkK BK221 hb;replace BK222:=pkK BK222 hb;replace BK223:=pkK BK223 hb;replace HB:=pkB HB hb
    (try clear hb)
    (try clear hb2)
    (try clear hk)
    (try clear hi)
    refine hK.out _ _ ⟨(aC BK221.out 0).trans rfl,(aC BK221.out 1).trans rfl,(aC BK221.out 2).trans rfl⟩ (fun hHeld=> ?_);clear hK K;refine gG (a':= ?_) ?_ ?_
    rotate_left
    ·show Act.put _ (some 15) _=_
     simp only[Act.put,List.setIfInBounds_toArray,List.set_cons_zero,List.set_cons_succ,dE,dM];rfl
    refine pr_ 2 16 (h:= ?_);refine kT (by kernel_rfl) ?_;have hnb67:=NB221_223.out;have hnc67:=NB223_221.out;obtain⟨⟨hcz68_0,hcz68_1,hcz68_2⟩,hfz68_0,hfz68_1,hfz68_2⟩:=pk3 BK221;obtain⟨⟨hcz69_0,hcz69_1,hcz69_2⟩,hfz69_0,hfz69_1,hfz69_2⟩:=pk3 BK223
    try go_wp2
    refine bodyPost_ret (results_cell_row rfl _ _ gb223 36 #[.bool a0_0,.string a0_1,.string a0_2] (0,0) _ rfl (pkS3 BK223) Tryz.underlying36 rfl (by kernel_rfl)) rfl ?_;exact pkE HB
   ·rw[if_neg c56] at H
    have c56b0:(a0_0==t243&&(a0_1.toList==t244.toList&&(a0_2.toList==t245.toList)))=false:=by simpa using c56
    (try(have c56b1:decide (a0_0=t243&&(a0_1.toList==t244.toList&&(a0_2.toList==t245.toList)))=false:=by simpa using c56))
    (try(have c56b2:(a0_0==t243&&(a0_1.toList==t244.toList&&(a0_2.toList==t245.toList)))=false:=by simpa using c56))
    (try(have c56b3:¬(a0_0=t243&&(a0_1.toList==t244.toList&&(a0_2.toList==t245.toList))):=by simpa using c56))
    clear c56;obtain⟨⟨t246,t247,t248⟩,A70,H⟩:=bi H;try dsimp only at H
    simp only[Option.some.injEq,Prod.mk.injEq] at H;obtain⟨rfl,rfl,rfl⟩:=H;go_enter Tryz.func100,Tryz.ntmps100
    try go_wp2_with(first|((with_reducible refine aJ (N:=2) rfl ?_);refine bx_ 2 36 #[.bool a0_0,.string a0_1,.string a0_2] (h:= ?_);intro gb221 hg w71 hbox hb;have BK221:=aA.mk (hbox);have GW221:=pkG HB hg;have GE221:=GW221;replace HB:=pkB HB hb;clear hb hbox hg)|((with_reducible refine aJ (N:=3) rfl ?_);refine bx_ 3 36 #[.bool a1_0,.string a1_1,.string a1_2] (h:= ?_);intro gb222 hg w72 hbox hb;have BK222:=aA.mk (hbox);have GW222:=pkG HB hg;have GE222:=GW222;obtain⟨NB221_222,NB222_221,_,_⟩:=pkQ BK221 hg;replace BK221:=pkK BK221 hb;replace HB:=pkB HB hb;clear hb hbox hg)|((with_reducible refine aJ (N:=4) rfl ?_);refine bx_ 4 36 #[.bool false,.string (⟨#[]⟩:ByteArray),.string (⟨#[]⟩:ByteArray)] (h:= ?_);intro gb223 hg w73 hbox hb;have BK223:=aA.mk (hbox);have GW223:=pkG HB hg;have GE223:=GW223;obtain⟨NB221_223,NB223_221,_,_⟩:=pkQ BK221 hg;obtain⟨NB222_223,NB223_222,_,_⟩:=pkQ BK222 hg;replace BK221:=pkK BK221 hb;replace BK222:=pkK BK222 hb;replace HB:=pkB HB hb;clear hb hbox hg))
    replace BK221:=aA.mk (aQ BK221.out);replace BK222:=aA.mk (aQ BK222.out);replace BK223:=aA.mk (aQ BK223.out);replace HB:=aA.mk (bG HB.out)
    refine jY (n:=4) (S:=fun w'=>w'.cell? ⟨gb222,0,none⟩=some (.bool a1_0)∧w'.cell? ⟨gb222,1,none⟩=some (.string a1_1)∧w'.cell? ⟨gb222,2,none⟩=some (.string a1_2)) (ds:= []) #[false,false,false,false] (by kernel_rfl) rfl rfl ⟨(aC BK222.out 0).trans rfl,(aC BK222.out 1).trans rfl,(aC BK222.out 2).trans rfl⟩ (fun hHeld=> ?_);generalize w73.drew=w74 at BK221 BK222 BK223 HB hHeld ⊢;refine tk_ 0 6 hHeld (hy:=by rintro w' ⟨s0,s1,s2⟩;go_simp;with_reducible rfl) (h:= ?_);refine on_ 1 7 (h:=fun K hK=> ?_);refine g1_ Tryz.func116 #[.string (⟨#[48]⟩:ByteArray)] (h:= ?_);with_reducible refine(dB.calls (⟨#[48]⟩:ByteArray) t224 t225 t226 _ A3.out).mono ?_
    rintro e w75 ⟨rfl,hb⟩;refine⟨_,rfl,?_⟩;replace BK221:=pkK BK221 hb;replace BK222:=pkK BK222 hb;replace BK223:=pkK BK223 hb;replace HB:=pkB HB hb
    (try clear hb)
    (try clear hb2)
    (try clear hk)
    (try clear hi)
    refine hK.out _ _ ⟨(aC BK222.out 0).trans rfl,(aC BK222.out 1).trans rfl,(aC BK222.out 2).trans rfl⟩ (fun hHeld=> ?_);clear hK K;refine gG (a':= ?_) ?_ ?_
    rotate_left
    ·show Act.put _ (some 7) _=_
     simp only[Act.put,List.setIfInBounds_toArray,List.set_cons_zero,List.set_cons_succ,dE,dM];rfl
    refine pr_ 2 8 (h:= ?_);refine pr_ 3 5 (h:= ?_);refine kT (by kernel_rfl) ?_;have hnb76:=NB222_221.out;have hnc76:=NB221_222.out;have hnb77:=NB222_223.out;have hnc77:=NB223_222.out;obtain⟨⟨hcz78_0,hcz78_1,hcz78_2⟩,hfz78_0,hfz78_1,hfz78_2⟩:=pk3 BK222
    try go_wp2
    replace BK221:=aA.mk (aQ BK221.out);replace BK222:=aA.mk (aQ BK222.out);replace BK223:=aA.mk (aQ BK223.out);replace HB:=aA.mk (bG HB.out)
    refine jY (n:=3) (S:=fun w'=>w'.cell? ⟨gb221,0,none⟩=some (.bool a0_0)∧w'.cell? ⟨gb221,1,none⟩=some (.string a0_1)∧w'.cell? ⟨gb221,2,none⟩=some (.string a0_2)) (ds:= []) #[false,false,false] (by kernel_rfl) rfl rfl ⟨(aC BK221.out 0).trans rfl,(aC BK221.out 1).trans rfl,(aC BK221.out 2).trans rfl⟩ (fun hHeld=> ?_);generalize w75.drew=w79 at BK221 BK222 BK223 HB hHeld ⊢;refine tk_ 0 14 hHeld (hy:=by rintro w' ⟨s0,s1,s2⟩;go_simp;with_reducible rfl) (h:= ?_);refine on_ 1 15 (h:=fun K hK=> ?_);refine g1_ Tryz.func116 #[.string (⟨#[48]⟩:ByteArray)] (h:= ?_);with_reducible refine(dB.calls (⟨#[48]⟩:ByteArray) t243 t244 t245 _ A55.out).mono ?_
    rintro e w80 ⟨rfl,hb⟩;refine⟨_,rfl,?_⟩;replace BK221:=pkK BK221 hb;replace BK222:=pkK BK222 hb;replace BK223:=pkK BK223 hb;replace HB:=pkB HB hb
    (try clear hb)
    (try clear hb2)
    (try clear hk)
    (try clear hi)
    refine hK.out _ _ ⟨(aC BK221.out 0).trans rfl,(aC BK221.out 1).trans rfl,(aC BK221.out 2).trans rfl⟩ (fun hHeld=> ?_);clear hK K;refine gG (a':= ?_) ?_ ?_
    rotate_left
    ·show Act.put _ (some 15) _=_
     simp only[Act.put,List.setIfInBounds_toArray,List.set_cons_zero,List.set_cons_succ,dE,dM];rfl
    refine pr_ 2 16 (h:= ?_);refine kT (by kernel_rfl) ?_
    try go_wp2_with(first|((with_reducible refine aG (f:=99) rfl ?_);refine gl_ 18 Tryz.func99 #[] (h:= ?_);(with_reducible refine(fB.calls t246 t247 t248 _ A70.out).mono ?_);rintro e w81 ⟨rfl,hb⟩;refine⟨_,rfl,?_⟩;replace BK221:=pkK BK221 hb;replace BK222:=pkK BK222 hb;replace BK223:=pkK BK223 hb;replace HB:=pkB HB hb;try clear hb;have hnb82:=NB223_221.out;have hnc82:=NB221_223.out;obtain⟨⟨hcz83_0,hcz83_1,hcz83_2⟩,hfz83_0,hfz83_1,hfz83_2⟩:=pk3 BK223))
    refine bodyPost_ret (results_cell_row rfl _ _ gb223 36 #[.bool t246,.string t247,.string t248] (0,0) _ rfl (pkS3 BK223) Tryz.underlying36 rfl (by kernel_rfl)) rfl ?_;exact pkE HB
end Go.Proofs.YtignanmmgaldeaaGreatDoor.PCongI
end
