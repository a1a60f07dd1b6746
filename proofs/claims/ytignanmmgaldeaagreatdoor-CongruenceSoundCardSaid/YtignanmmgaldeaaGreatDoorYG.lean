/- Lemmas for the proof. -/
import Derived.Test.YtignanmmgaldeaaGreatDoorYF
section
set_option linter.unusedVariables false
set_option linter.unusedSimpArgs false
set_option maxRecDepth 100000
set_option maxHeartbeats 4000000
namespace Go.Proofs.YtignanmmgaldeaaGreatDoor
open Go.RowKit Go.Shelf Go.Proofs.YtignanmmgaldeaaGreatDoorW.PrintWords
def RowN(g:Nat)(L:List Int)(w:World):Prop:=∃base cap,w.ownsRow base 3 1 (.slice (some ⟨g,0,none⟩) L.length cap) L.length (nums .i64 L)
theorem RowN.cell{g:Nat}{L:List Int}{w:World}(h:RowN g L w)(k:Nat)(hk:k<L.length):w.cell? ⟨g,k,none⟩=some (.int .i64 (L[k]?.getD 0)):=by
 obtain⟨base,cap,ho⟩:=h;have:=(own_at ho (k:Int) aCo aCo).1
 rwa [rY,Int.toNat_natCast] at this
theorem RowN.frozen{g:Nat}{L:List Int}{w:World}(h:RowN g L w)(k:Nat):w.frozen? ⟨g,k,none⟩=false:=by
 obtain⟨base,cap,ho⟩:=h;rcases ho.2 with ⟨h',_⟩|⟨g',cap',cur,h',_,hh,_⟩
 ·cases h'
 ·have:g=g':=by injection h' with h';injection h' with h';injection h' with h'
  subst this
  simp[World.frozen?,hh]
theorem RowN.store{g:Nat}{L:List Int}{w:World}(h:RowN g L w)(k:Nat)(v:Int):RowN g (L.set k v) (w.setCell ⟨g,k,none⟩ (.int .i64 v)):=by
 obtain⟨base,cap,ho⟩:=h;have:=(own_store ho (k:Int) v).1;rw[Int.toNat_natCast] at this;exact⟨base,cap,by rw[List.length_set];exact this⟩
theorem RI.nC{B1:Nat}{w:World}{A:Option Addr}{n:Nat}{xs:List Int}{g:Nat}(h:RI B1 w A n xs)(hne:∀ad,A=some ad→ad.block≠g)(o:Nat)(v:Value):RI B1 (w.setCell ⟨g,o,none⟩ v) A n xs:=by
 refine⟨h.1,h.2.1,fun h0=> ?_⟩;obtain⟨ad,e,hl,hc⟩:=h.2.2 h0;refine⟨ad,e,hl,fun i hi=> ?_⟩;have hb:(ad.add i).block=ad.block:=by simp only[Addr.add];split <;> rfl
 exact(cell_far (p:=⟨g,o,none⟩) v (by rw[hb];exact fun q=>hne ad e q.symm)).trans (hc i hi)
def Only(g:Nat)(w wr:World):Prop:=w.heap.size≤wr.heap.size∧∀b,b<w.heap.size→b≠g→wr.heap[b]? =w.heap[b]?
theorem Only.refl(g:Nat)(w:World):Only g w w:=⟨Nat.le_refl _,fun _ _ _=>rfl⟩
theorem Only.trans{g:Nat}{w v u:World}(h:Only g w v)(k:Only g v u):Only g w u:=⟨Nat.le_trans h.1 k.1,fun b hb hg=>(k.2 b (Nat.lt_of_lt_of_le hb h.1) hg).trans (h.2 b hb hg)⟩
theorem Only.put{g:Nat}{w wr:World}(h:Only g w wr)(o:Nat)(v:Value):Only g w (wr.setCell ⟨g,o,none⟩ v):=
 ⟨Nat.le_trans h.1 ((Below.refl 0 wr).setCell (p:=⟨g,o,none⟩) (Nat.zero_le _) v).size,fun b hb hg=>(Below.heap_setCell wr ⟨g,o,none⟩ v b hg).trans (h.2 b hb hg)⟩
theorem Only.drewN{g:Nat}{w wr:World}(h:Only g w wr)(k:Nat):Only g w (wr.drewN k):=h
def sbS(ys:List Int)(q:Int)(k:Nat)(c:Int):Int:=if k<ys.length then c+q*ys[k]?.getD 0 else c
def sbF(L:List Int)(j:Nat)(ys:List Int)(q:Int):Nat→List Int×Int
 |0=>(L,0)
 |k+1=>
  if(sbF L j ys q k).1[j+k]?.getD 0-sbS ys q k (sbF L j ys q k).2%1000000000<0
  then((sbF L j ys q k).1.set (j+k) ((sbF L j ys q k).1[j+k]?.getD 0-sbS ys q k (sbF L j ys q k).2%1000000000+1000000000),sbS ys q k (sbF L j ys q k).2/1000000000+1)
  else((sbF L j ys q k).1.set (j+k) ((sbF L j ys q k).1[j+k]?.getD 0-sbS ys q k (sbF L j ys q k).2%1000000000),sbS ys q k (sbF L j ys q k).2/1000000000)
theorem nD(L:List Int)(j:Nat)(ys:List Int)(q:Int):∀k,(sbF L j ys q k).1.length=L.length
 |0=>rfl
 |k+1=>by
  simp only[sbF]
  split <;> simp[nD L j ys q k]
theorem nG(L:List Int)(j:Nat)(ys:List Int)(q:Int)(i:Nat):∀k,i<j∨j+k≤i→(sbF L j ys q k).1[i]? =L[i]?
 |0,_=>rfl
 |k+1,h=>by
  have ih:=nG L j ys q i k aCo;simp only[sbF]
  split <;> (dsimp only;rw[List.getElem?_set_ne aCo,ih])
theorem oC{q v:Int}(hq0:0≤q)(hq1:q<1000000000)(hv0:0≤v)(hv1:v<1000000000):0≤q*v∧q*v≤999999998000000001:=by
 refine⟨Int.mul_nonneg hq0 hv0,?_⟩;have h1:q*v≤999999999*v:=Int.mul_le_mul_of_nonneg_right aCo hv0;omega
theorem aBx{ys:List Int}(hy:limbs ys){q:Int}(hq0:0≤q)(hq1:q<1000000000)(k:Nat){c:Int}(h0:0≤c)(h1:c≤1000000000):0≤sbS ys q k c∧sbS ys q k c≤999999999000000001:=by
 have hp:=oC hq0 hq1 (hy k).1 (hy k).2;unfold sbS
 split <;> omega
theorem yR(L:List Int)(j:Nat){ys:List Int}(hy:limbs ys){q:Int}(hq0:0≤q)(hq1:q<1000000000):∀k,0≤(sbF L j ys q k).2∧(sbF L j ys q k).2≤1000000000
 |0=>by simp[sbF]
 |k+1=>by
  have ih:=yR L j hy hq0 hq1 k;have hb:=aBx hy hq0 hq1 k ih.1 ih.2;simp only[sbF]
  split <;> (dsimp only;omega)
theorem kW(g j n c:Nat)(B:Option Addr)(m e:Nat)(L ys:List Int)(q:Int)(B0:Nat)(w0 w:World)(hR:RowN g L w)(hg:B0≤g)(hB:Below B0 w0 w)(hj:j+n≤L.length)(B1:Nat)(hy:RI B1 w B m ys)(hne:∀ad,B=some ad→ad.block≠g)(hL:limbs L)(hyl:limbs ys)(hq0:0≤q)(hq1:q<1000000000)(hn:n≤35184372088831)(hm:m≤35184372088831) :
 Calls Tryz.prog 203 #[.slice (some ⟨g,j,none⟩) n c,.slice B m e,.int .i64 q] w fun E w'=>E= .returned (.bool ((sbF L j ys q n).2==0))∧RowN g (sbF L j ys q n).1 w'∧Below B0 w0 w'∧RI B1 w' B m ys∧Only g w w':=by
 have HR0:=Lib.hid hR;have HB0:=Lib.hid hB;have HY:=Lib.hid hy;have HL:=Lib.hid hL;have HYL:=Lib.hid hyl;clear hR hB hy hL hyl;go_enter Tryz.func203,Tryz.ntmps203
 go_wp2_with fail
 go_loopw [7,12] (fun cv iv wr=>∃k:Nat,k≤n∧iv= .int .i64 k∧cv= .int .i64 (sbF L j ys q k).2∧Hid (RowN g (sbF L j ys q k).1 wr)∧Hid (Below B0 w0 wr)∧Hid (RI B1 wr B m ys)∧Hid (Only g w wr)) (fun _ i _=>n-(intOf i).toNat)
 case atStart=>exact⟨0,by omega,rfl,rfl,HR0,HB0,HY,Lib.hid (Only.refl g w)⟩
 case round=>
  obtain⟨k,hk,rfl,rfl,HR,HB,HYr,HNr⟩:=hrel
  by_cases h0:k<n
  ·have hcar:=yR L j HYL.out hq0 hq1 k
   have cW:=HR.out.cell (j+k) (by rw[nD];omega);rw[nG L j ys q (j+k) k aCo] at cW;have fW:=HR.out.frozen (j+k);have hv:=HL.out (j+k)
   have hs:Hid (sbF L j ys q (k+1)=if L[j+k]?.getD 0-sbS ys q k (sbF L j ys q k).2%1000000000<0 then((sbF L j ys q k).1.set (j+k) (L[j+k]?.getD 0-sbS ys q k (sbF L j ys q k).2%1000000000+1000000000),sbS ys q k (sbF L j ys q k).2/1000000000+1) else((sbF L j ys q k).1.set (j+k) (L[j+k]?.getD 0-sbS ys q k (sbF L j ys q k).2%1000000000),sbS ys q k (sbF L j ys q k).2/1000000000)):=by
    show sbF L j ys q (k+1)=_;rw[sbF,nG L j ys q (j+k) k aCo]
   generalize L[j+k]?.getD 0=v at *
   by_cases h2:k<m
   ·obtain⟨ad2,rfl,hlt2,hc2⟩:=HYr.out.2.2 aCo
    have cY:=hc2 k h2;have hu:=HYL.out k;have hp:=oC hq0 hq1 hu.1 hu.2;clear hc2
    have HT:Hid (sbS ys q k (sbF L j ys q k).2=(sbF L j ys q k).2+q*ys[k]?.getD 0):=by
     show sbS _ _ _ _=_;rw[sbS,if_pos (by rw[HY.out.1];omega)]
    generalize ys[k]?.getD 0=u at *
    generalize hcc:(sbF L j ys q k).2=cc at *
    have HC:=Lib.hid hcc;clear hcc
    by_cases hd:v-(cc+q*u)%1000000000<0
    ·have ht:Hid (sbF L j ys q (k+1)=((sbF L j ys q k).1.set (j+k) (v-(cc+q*u)%1000000000+1000000000),(cc+q*u)/1000000000+1)):=by
      show sbF L j ys q (k+1)=_;rw[hs.out,HT.out,if_pos hd]
     go_wp2
     refine⟨⟨k+1,by omega,rfl,by rw[ht.out],Lib.hid ?_,Lib.hid (HB.out.setCell (p:=⟨g,j+k,none⟩) hg _),Lib.hid (HYr.out.nC hne (j+k) _),Lib.hid (HNr.out.put (j+k) _)⟩,by simp only[intOf];omega⟩;rw[ht.out];exact HR.out.store (j+k) _
    ·have ht:Hid (sbF L j ys q (k+1)=((sbF L j ys q k).1.set (j+k) (v-(cc+q*u)%1000000000),(cc+q*u)/1000000000)):=by
      show sbF L j ys q (k+1)=_;rw[hs.out,HT.out,if_neg hd]
     go_wp2
     refine⟨⟨k+1,by omega,rfl,by rw[ht.out],Lib.hid ?_,Lib.hid (HB.out.setCell (p:=⟨g,j+k,none⟩) hg _),Lib.hid (HYr.out.nC hne (j+k) _),Lib.hid (HNr.out.put (j+k) _)⟩,by simp only[intOf];omega⟩;rw[ht.out];exact HR.out.store (j+k) _
   ·have HT:Hid (sbS ys q k (sbF L j ys q k).2=(sbF L j ys q k).2):=by
     show sbS _ _ _ _=_;rw[sbS,if_neg (by rw[HY.out.1];omega)]
    generalize hcc:(sbF L j ys q k).2=cc at *
    have HC:=Lib.hid hcc;clear hcc
    by_cases hd:v-(cc)%1000000000<0
    ·have ht:Hid (sbF L j ys q (k+1)=((sbF L j ys q k).1.set (j+k) (v-(cc)%1000000000+1000000000),(cc)/1000000000+1)):=by
      show sbF L j ys q (k+1)=_;rw[hs.out,HT.out,if_pos hd]
     go_wp2
     refine⟨⟨k+1,by omega,rfl,by rw[ht.out],Lib.hid ?_,Lib.hid (HB.out.setCell (p:=⟨g,j+k,none⟩) hg _),Lib.hid (HYr.out.nC hne (j+k) _),Lib.hid (HNr.out.put (j+k) _)⟩,by simp only[intOf];omega⟩;rw[ht.out];exact HR.out.store (j+k) _
    ·have ht:Hid (sbF L j ys q (k+1)=((sbF L j ys q k).1.set (j+k) (v-(cc)%1000000000),(cc)/1000000000)):=by
      show sbF L j ys q (k+1)=_;rw[hs.out,HT.out,if_neg hd]
     go_wp2
     refine⟨⟨k+1,by omega,rfl,by rw[ht.out],Lib.hid ?_,Lib.hid (HB.out.setCell (p:=⟨g,j+k,none⟩) hg _),Lib.hid (HYr.out.nC hne (j+k) _),Lib.hid (HNr.out.put (j+k) _)⟩,by simp only[intOf];omega⟩;rw[ht.out];exact HR.out.store (j+k) _
  ·obtain rfl:k=n:=by omega
   go_wp2_with fail
   go_ret
   exact⟨rfl,HR.out,HB.out,HYr.out,HNr.out⟩
def wval(L:List Int)(j:Nat):Nat→Int
 |0=>0
 |k+1=>wval L j k+L[j+k]?.getD 0*1000000000 ^ k
theorem wZ{L M:List Int}(j:Nat):∀k,(∀i,i<k→L[j+i]?.getD 0=M[j+i]?.getD 0)→wval L j k=wval M j k
 |0,_=>rfl
 |k+1,h=>by
  rw[wval,wval,wZ j k (fun i hi=>h i aCo),h k aCo]
theorem lJ{L:List Int}(hL:limbs L)(j:Nat):∀k,0≤wval L j k
 |0=>Int.le_refl 0
 |k+1=>by
  have ih:=lJ hL j k;have h:=Int.mul_nonneg (hL (j+k)).1 (Int.le_of_lt (iR k));rw[wval];omega
theorem xM{L:List Int}(hL:limbs L)(j:Nat):∀k,wval L j k<1000000000 ^ k
 |0=>by simp[wval]
 |k+1=>by
  have ih:=xM hL j k;have h1:L[j+k]?.getD 0*1000000000 ^ k≤999999999*1000000000 ^ k:=Int.mul_le_mul_of_nonneg_right (by have:=(hL (j+k)).2;omega) (Int.le_of_lt (iR k));rw[wval,kC];omega
theorem rM(L:List Int)(j:Nat):∀k,pval L (j+k)=pval L j+wval L j k*1000000000 ^ j
 |0=>by simp[wval]
 |k+1=>by
  rw[←Nat.add_assoc,pval,rM L j k,wval,Int.add_mul,Int.mul_assoc,←Int.pow_add,Nat.add_comm k j];omega
theorem sbS_eq(ys:List Int)(q:Int)(k:Nat)(c:Int):sbS ys q k c=c+q*ys[k]?.getD 0:=by
 unfold sbS
 split
 ·rfl
 ·rw[lS ys k aCo];omega
theorem lY{L:List Int}(hL:limbs L)(j:Nat){ys:List Int}(hy:limbs ys){q:Int}(hq0:0≤q)(hq1:q<1000000000):∀k,limbs (sbF L j ys q k).1
 |0=>hL
 |k+1=>by
  have ih:=lY hL j hy hq0 hq1 k;have hc:=yR L j hy hq0 hq1 k;have hb:=aBx hy hq0 hq1 k hc.1 hc.2;have hv:=ih (j+k);simp only[sbF]
  split <;> exact uO ih _ _ aCo
theorem sbF_val{L:List Int}(hL:limbs L)(j:Nat){ys:List Int}(hy:limbs ys){q:Int}(hq0:0≤q)(hq1:q<1000000000):∀k,j+k≤L.length→wval (sbF L j ys q k).1 j k-(sbF L j ys q k).2*1000000000 ^ k=wval L j k-q*pval ys k
 |0,_=>by simp[sbF,wval,pval]
 |k+1,hk=>by
  have ih:=sbF_val hL j hy hq0 hq1 k aCo;have hlen:=nD L j ys q k;have hfar:=nG L j ys q (j+k) k aCo
  have hw (x:Int):wval ((sbF L j ys q k).1.set (j+k) x) j (k+1)=wval (sbF L j ys q k).1 j k+x*1000000000 ^ k:=by
   rw[wval,wZ (M:=(sbF L j ys q k).1) j k (fun i hi=>by rw[List.getElem?_set_ne aCo]),List.getElem?_set_self aCo];rfl
  have hs:=sbS_eq ys q k (sbF L j ys q k).2;have hdm:=Int.emod_add_mul_ediv (sbS ys q k (sbF L j ys q k).2) 1000000000;have hq:q*pval ys (k+1)=q*pval ys k+q*ys[k]?.getD 0*1000000000 ^ k:=by rw[pval,Int.mul_add,Int.mul_assoc]
  have hL1:wval L j (k+1)=wval L j k+L[j+k]?.getD 0*1000000000 ^ k:=rfl;rw[hq,hL1];simp only[sbF,hfar];generalize sbS ys q k (sbF L j ys q k).2=S at *
  generalize q*ys[k]?.getD 0=Y at *
  generalize wval L j k=A at *
  generalize q*pval ys k=C at *
  generalize L[j+k]?.getD 0=v at *
  generalize hcc:(sbF L j ys q k).2=cc at *
  split <;> (dsimp only;rw[hw,kC];generalize wval (sbF L j ys q k).1 j k=D at *;generalize (1000000000:Int) ^ k=p at *)
  ·have h1:(v-S%1000000000+1000000000)*p=v*p-S%1000000000*p+1000000000*p:=by rw[Int.add_mul,Int.sub_mul]
   have h2:(S/1000000000+1)*(1000000000*p)=1000000000*(S/1000000000)*p+1000000000*p:=by rw[Int.add_mul,Int.one_mul,←Int.mul_assoc,Int.mul_comm (S/1000000000)]
   have h3:=congrArg (· *p) hdm;simp only[Int.add_mul] at h3;have h4:S*p=cc*p+Y*p:=by rw[hs,Int.add_mul]
   omega
  ·have h1:(v-S%1000000000)*p=v*p-S%1000000000*p:=by rw[Int.sub_mul]
   have h2:(S/1000000000)*(1000000000*p)=1000000000*(S/1000000000)*p:=by rw[←Int.mul_assoc,Int.mul_comm (S/1000000000)]
   have h3:=congrArg (· *p) hdm;simp only[Int.add_mul] at h3;have h4:S*p=cc*p+Y*p:=by rw[hs,Int.add_mul]
   omega
def adF(L:List Int)(j:Nat)(ys:List Int)(n:Nat):Nat→List Int×Int
 |0=>(L,0)
 |k+1=>
  let s:=(adF L j ys n k).2+(adF L j ys n k).1[j+k]?.getD 0+(if k<n then ys[k]?.getD 0 else 0)
  ((adF L j ys n k).1.set (j+k) (s%1000000000),s/1000000000)
theorem qH(L:List Int)(j:Nat)(ys:List Int)(n:Nat):∀k,(adF L j ys n k).1.length=L.length
 |0=>rfl
 |k+1=>by simp[adF,qH L j ys n k]
theorem lH(L:List Int)(j:Nat)(ys:List Int)(n:Nat)(i:Nat):∀k,i<j∨j+k≤i→(adF L j ys n k).1[i]? =L[i]?
 |0,_=>rfl
 |k+1,h=>by
  have ih:=lH L j ys n i k aCo;simp only[adF];rw[List.getElem?_set_ne aCo,ih]
theorem uQ{L:List Int}(hL:limbs L)(j:Nat){ys:List Int}(hy:limbs ys)(n:Nat):∀k,0≤(adF L j ys n k).2∧(adF L j ys n k).2≤1
 |0=>by simp[adF]
 |k+1=>by
  have ih:=uQ hL j hy n k;have h1:=hL (j+k);have h2:=hy k;simp only[adF,lH L j ys n (j+k) k aCo]
  split <;> omega
theorem uS{L:List Int}(hL:limbs L)(j:Nat)(ys:List Int)(n:Nat):∀k,limbs (adF L j ys n k).1
 |0=>hL
 |k+1=>by
  simp only[adF];exact uO (uS hL j ys n k) _ _ aCo
theorem adF_val{L:List Int}(hL:limbs L)(j:Nat){ys:List Int}(n:Nat)(hn:ys.length≤n):∀k,j+k≤L.length→wval (adF L j ys n k).1 j k+(adF L j ys n k).2*1000000000 ^ k=wval L j k+pval ys k
 |0,_=>by simp[adF,wval,pval]
 |k+1,hk=>by
  have ih:=adF_val hL j n hn k aCo;have hlen:=qH L j ys n k
  have hw (x:Int):wval ((adF L j ys n k).1.set (j+k) x) j (k+1)=wval (adF L j ys n k).1 j k+x*1000000000 ^ k:=by
   rw[wval,wZ (M:=(adF L j ys n k).1) j k (fun i hi=>by rw[List.getElem?_set_ne aCo]),List.getElem?_set_self aCo];rfl
  have hi:(if k<n then ys[k]?.getD 0 else 0)=ys[k]?.getD 0:=by
   split
   ·rfl
   ·rw[lS ys k aCo]
  have hL1:wval L j (k+1)=wval L j k+L[j+k]?.getD 0*1000000000 ^ k:=rfl;rw[pval,hL1];simp only[adF,lH L j ys n (j+k) k aCo,hi];rw[hw,kC];generalize L[j+k]?.getD 0=v at *
  generalize ys[k]?.getD 0=y at *
  generalize hcc:(adF L j ys n k).2=cc at *
  have hdm:=Int.emod_add_mul_ediv (cc+v+y) 1000000000;generalize hS:cc+v+y=S at *
  generalize wval (adF L j ys n k).1 j k=D at *
  generalize (1000000000:Int) ^ k=p at *
  have h2:(S/1000000000)*(1000000000*p)=1000000000*(S/1000000000)*p:=by rw[←Int.mul_assoc,Int.mul_comm (S/1000000000)]
  have h3:=congrArg (· *p) hdm;simp only[Int.add_mul] at h3;have h4:S*p=cc*p+v*p+y*p:=by rw[←hS,Int.add_mul,Int.add_mul]
  omega
end Go.Proofs.YtignanmmgaldeaaGreatDoor
namespace Go.Proofs.YtignanmmgaldeaaGreatDoor
open Go.RowKit Go.Shelf Go.Proofs.YtignanmmgaldeaaGreatDoorW.PrintWords Go.Proofs.YtignanmmgaldeaaGreatDoorW.PrintLast Go.Proofs.YtignanmmgaldeaaGreatDoorW.PrintMore
attribute [local go_sem] gI gJ iE iF
theorem est_up{W V T v1 p q:Int}(hp:0<p)(hV:v1*p≤V)(hW:W<(T+1)*p)(hq:T+1≤(q+1)*v1)(hq0:0≤q):W<(q+1)*V:=by
 have h1:(T+1)*p≤(q+1)*v1*p:=Int.mul_le_mul_of_nonneg_right hq (Int.le_of_lt hp);have h2:(q+1)*(v1*p)≤(q+1)*V:=Int.mul_le_mul_of_nonneg_left hV aCo;rw[←Int.mul_assoc] at h2;omega
theorem est_mul(q v1 v2:Int):q*(v1*1000000000+v2)=q*v1*1000000000+q*v2:=by rw[Int.mul_add,Int.mul_assoc]
theorem est_dec{W V T v1 v2 u2 q p:Int}(hp:0<p)(hV:(v1*1000000000+v2)*p≤V)(hW:W<(T*1000000000+u2+1)*p)(hq0:0≤q)(hc:(T-q*v1)*1000000000+u2<q*v2):W<q*V:=by
 have h0:=est_mul q v1 v2;have h1:(T*1000000000+u2+1)*p≤q*(v1*1000000000+v2)*p:=Int.mul_le_mul_of_nonneg_right aCo (Int.le_of_lt hp);have h2:q*((v1*1000000000+v2)*p)≤q*V:=Int.mul_le_mul_of_nonneg_left hV hq0;rw[←Int.mul_assoc] at h2;omega
theorem est_ok{W V T v1 v2 u2 q p:Int}(hp:0<p)(hV:V<(v1*1000000000+v2+1)*p)(hV0:0≤V)(hW:(T*1000000000+u2)*p≤W)(hW0:0≤W)(hq0:0≤q)(hq1:q≤999999999)(hv1:1≤v1)(hv2:0≤v2∧v2<1000000000)(hu2:0≤u2)(hx:1000000000≤T-q*v1∨q*v2≤(T-q*v1)*1000000000+u2):(q-1)*V≤W:=by
 by_cases h:q=0
 ·subst h;omega
 ·have hb:=oC hq0 (by omega:q<1000000000) hv2.1 hv2.2
  have h1:(q-1)*V≤(q-1)*((v1*1000000000+v2+1)*p):=Int.mul_le_mul_of_nonneg_left (Int.le_of_lt hV) aCo
  have h2:(q-1)*(v1*1000000000+v2+1)=q*v1*1000000000+q*v2+q-v1*1000000000-v2-1:=by
   rw[Int.sub_mul,Int.one_mul,Int.mul_add,Int.mul_add,Int.mul_one,Int.mul_assoc];omega
  have h3:(q-1)*(v1*1000000000+v2+1)*p≤(T*1000000000+u2)*p:=Int.mul_le_mul_of_nonneg_right (by rw[h2];rcases hx with hx|hx <;> omega) (Int.le_of_lt hp);rw[←Int.mul_assoc] at h1;omega
theorem est_fin{W V q r:Int}(hV:0<V)(h:r+V*q=W)(h0:0≤r)(h1:r<V):W/V=q∧W%V=r:=(Int.ediv_emod_unique hV).2 ⟨h,h0,h1⟩
theorem wval_top{L:List Int}(hL:limbs L)(j n:Nat):((L[j+(n+2)]?.getD 0*1000000000+L[j+(n+1)]?.getD 0)*1000000000+L[j+n]?.getD 0)*1000000000 ^ n≤wval L j (n+2+1)∧wval L j (n+2+1)<((L[j+(n+2)]?.getD 0*1000000000+L[j+(n+1)]?.getD 0)*1000000000+L[j+n]?.getD 0+1)*1000000000 ^ n∧wval L j (n+2+1)<(L[j+(n+2)]?.getD 0*1000000000+L[j+(n+1)]?.getD 0+1)*1000000000 ^ (n+1):=by
 have h0:=lJ hL j n;have h1:=xM hL j n;have h2:=xM hL j (n+1);have e1:wval L j (n+1)=wval L j n+L[j+n]?.getD 0*1000000000 ^ n:=rfl;have e:wval L j (n+2+1)=wval L j (n+1)+L[j+(n+1)]?.getD 0*1000000000 ^ (n+1)+L[j+(n+2)]?.getD 0*1000000000 ^ (n+1+1):=rfl;rw[kC (n+1)] at e;generalize L[j+(n+2)]?.getD 0=a at *
 generalize L[j+(n+1)]?.getD 0=b at *
 generalize L[j+n]?.getD 0=c at *
 rw[e]
 have k1:(a*1000000000+b+1)*1000000000 ^ (n+1)=a*(1000000000*1000000000 ^ (n+1))+b*1000000000 ^ (n+1)+1000000000 ^ (n+1):=by
  rw[Int.add_mul,Int.add_mul,Int.one_mul,Int.mul_assoc]
 refine⟨?_,?_,by omega⟩
 all_goals(
  rw[kC n] at *
  have k2:((a*1000000000+b)*1000000000+c)*1000000000 ^ n=a*(1000000000*(1000000000*1000000000 ^ n))+b*(1000000000*1000000000 ^ n)+c*1000000000 ^ n:=by
   simp only[Int.add_mul,Int.mul_assoc]
  have k3:((a*1000000000+b)*1000000000+c+1)*1000000000 ^ n=a*(1000000000*(1000000000*1000000000 ^ n))+b*(1000000000*1000000000 ^ n)+c*1000000000 ^ n+1000000000 ^ n:=by
   simp only[Int.add_mul,Int.mul_assoc,Int.one_mul]
  omega)
theorem lval_top{ys:List Int}(hy:limbs ys)(n:Nat)(hn:ys.length=n+2):(ys[n+1]?.getD 0*1000000000+ys[n]?.getD 0)*1000000000 ^ n≤lval ys∧lval ys<(ys[n+1]?.getD 0*1000000000+ys[n]?.getD 0+1)*1000000000 ^ n∧ys[n+1]?.getD 0*1000000000 ^ (n+1)≤lval ys:=by
 have h0:=lI hy n;have h1:=xH hy n;have h2:=lI hy (n+1);have e1:pval ys (n+1)=pval ys n+ys[n]?.getD 0*1000000000 ^ n:=rfl;have e:lval ys=pval ys (n+1)+ys[n+1]?.getD 0*1000000000 ^ (n+1):=by rw[lval,hn];rfl
 generalize ys[n+1]?.getD 0=b at *
 generalize ys[n]?.getD 0=c at *
 rw[e];refine⟨?_,?_,by omega⟩
 all_goals(
  rw[kC n] at *
  have k2:(b*1000000000+c)*1000000000 ^ n=b*(1000000000*1000000000 ^ n)+c*1000000000 ^ n:=by
   simp only[Int.add_mul,Int.mul_assoc]
  have k3:(b*1000000000+c+1)*1000000000 ^ n=b*(1000000000*1000000000 ^ n)+c*1000000000 ^ n+1000000000 ^ n:=by
   simp only[Int.add_mul,Int.mul_assoc,Int.one_mul]
  omega)
theorem est_sub{L:List Int}(hL:limbs L)(j m:Nat){ys:List Int}(hy:limbs ys)(hm:ys.length≤m){q:Int}(hq0:0≤q)(hq1:q<1000000000)(hj:j+m≤L.length)(hV:0<lval ys)(hVm:lval ys<1000000000 ^ m)(h1:(q-1)*lval ys≤wval L j m)(h2:wval L j m<(q+1)*lval ys) :
 ((sbF L j ys q m).2=0∧wval L j m/lval ys=q∧wval (sbF L j ys q m).1 j m=wval L j m%lval ys) ∨
 ((sbF L j ys q m).2≠0∧wval L j m/lval ys=q-1∧1≤q∧wval (adF (sbF L j ys q m).1 j ys ys.length m).1 j m=wval L j m%lval ys):=by
 have hs:=sbF_val hL j hy hq0 hq1 m hj;have hc:=yR L j hy hq0 hq1 m;have hlb:=lY hL j hy hq0 hq1 m;have hw0:=lJ hlb j m;have hw1:=xM hlb j m;have ha:=adF_val hlb j ys.length (Nat.le_refl _) m (by rw[nD];exact hj);have hac:=uQ hlb j hy ys.length m;have hal:=uS hlb j ys ys.length m;have hx0:=lJ hal j m;have hx1:=xM hal j m;have hW0:=lJ hL j m;rw[sH ys m hm] at hs ha;generalize (sbF L j ys q m).2=c at *
 generalize wval (sbF L j ys q m).1 j m=S at *
 generalize wval (adF (sbF L j ys q m).1 j ys ys.length m).1 j m=A at *
 generalize (adF (sbF L j ys q m).1 j ys ys.length m).2=c2 at *
 generalize wval L j m=W at *
 generalize lval ys=V at *
 generalize (1000000000:Int) ^ m=P at *
 have e1:(q-1)*V=q*V-V:=by rw[Int.sub_mul,Int.one_mul]
 have e2:(q+1)*V=q*V+V:=by rw[Int.add_mul,Int.one_mul]
 by_cases h0:c=0
 ·subst h0
  left
  have:=est_fin (W:=W) (V:=V) (q:=q) (r:=S) hV (by rw[Int.mul_comm V q];omega) hw0 aCo;exact⟨rfl,this.1,this.2.symm⟩
 ·right
  have c1:c=1:=by
   by_cases h:2≤c
   ·have:2*P≤c*P:=Int.mul_le_mul_of_nonneg_right h aCo
    omega
   ·omega
  subst c1
  have c3:c2=1:=by
   by_cases h:c2=0
   ·subst h;omega
   ·omega
  subst c3
  have hq:1≤q:=by
   by_cases h:q=0
   ·subst h;omega
   ·omega
  have:=est_fin (W:=W) (V:=V) (q:=q-1) (r:=A) hV (by rw[Int.mul_comm V (q-1)];omega) hx0 aCo;exact⟨h0,this.1,hq,this.2.symm⟩
theorem estimate_walk(g j n c:Nat)(B:Option Addr)(e:Nat)(L ys:List Int)(B0:Nat)(w0 w:World)(hR:RowN g L w)(hg:B0≤g)(hB:Below B0 w0 w)(hj:j+(n+2+1)≤L.length)(B1:Nat)(hy:RI B1 w B (n+2) ys)(hne:∀ad,B=some ad→ad.block≠g)(hL:limbs L)(hyl:limbs ys)(hv1:1≤ys[n+1]?.getD 0)(hn:n≤1000000)(hW:wval L j (n+2+1)<1000000000*lval ys) :
 Calls Tryz.prog 173 #[.slice (some ⟨g,j,none⟩) (n+2+1) c,.slice B (n+2) e] w fun E w'=>E= .returned (.int .i64 (wval L j (n+2+1)/lval ys))∧(∃M,RowN g M w'∧limbs M∧M.length=L.length∧(∀i,i<j∨j+(n+2+1)≤i→M[i]? =L[i]?)∧wval M j (n+2+1)=wval L j (n+2+1)%lval ys)∧Below B0 w0 w'∧RI B1 w' B (n+2) ys∧Only g w w':=by
 have HR:=Lib.hid hR;have HB:=Lib.hid hB;have HY:=Lib.hid hy;have HL:=Lib.hid hL;have HYL:=Lib.hid hyl;obtain⟨ad,rfl,hlt,hc⟩:=hy.2.2 aCo;have y1:=hc (n+1) aCo;have y2:=hc n aCo;have u0:=hR.cell (j+(n+2)) aCo;have u1:=hR.cell (j+(n+1)) aCo;have u2:=hR.cell (j+n) aCo;have b0:=hL (j+(n+2));have b1:=hL (j+(n+1));have b2:=hL (j+n);have d1:=hyl (n+1);have d2:=hyl n;have HW1:=Lib.hid (wval_top hL j n);have HV3:=Lib.hid (lval_top hyl n hy.1);have HYn:=Lib.hid hy.1;clear hR hB hy hL hyl hc;generalize hU0:L[j+(n+2)]?.getD 0=U0 at *
 have HU0:=Lib.hid hU0;clear hU0;generalize hU1:L[j+(n+1)]?.getD 0=U1 at *
 have HU1:=Lib.hid hU1;clear hU1;generalize hU2:L[j+n]?.getD 0=U2 at *
 have HU2:=Lib.hid hU2;clear hU2;generalize hV1:ys[n+1]?.getD 0=V1 at *
 have HV1:=Lib.hid hV1;clear hV1;generalize hV2:ys[n]?.getD 0=V2 at *
 have HV2:=Lib.hid hV2;clear hV2;have e1:((n+2:Nat):Int)-1=((n+1:Nat):Int):=by omega
 have e2:((n+2:Nat):Int)-2=((n:Nat):Int):=by omega
 go_enter Tryz.func173,Tryz.ntmps173
 go_wp2_with fail
 go_quiet (fail)
 have hR1:RowN g L (w.drewN nq):=HR.out;have hB1:=bH HB.out nq;have HYq:Hid (RI B1 (w.drewN nq) (some ad) (n+2) ys):=Lib.hid (show RI B1 w (some ad) (n+2) ys from HY.out);have HN1:Hid (Only g w (w.drewN nq)):=Lib.hid ((Only.refl g w).drewN nq);obtain⟨w1,hw1⟩:∃w1,w.drewN nq=w1:=⟨_,rfl⟩
 rw[hw1] at hR1 hB1 HYq HN1 ⊢;clear hw1 u0 u1 u2 y1 y2 HR HB;have HR:=Lib.hid hR1;have HB:=Lib.hid hB1;have HY1:Hid (RI B1 w1 (some ad) (n+2) ys):=HYq;clear HY;obtain⟨_,hea,_,hc⟩:=HY1.out.2.2 aCo
 cases hea
 have y1:w1.cell? ⟨ad.block,ad.off+(n+1),none⟩=some (.int .i64 V1):=by
  have:=hc (n+1) aCo;rw[HV1.out] at this
  simpa[Addr.add] using this
 have y2:=hc n aCo;rw[HV2.out] at y2;have u2:=hR1.cell (j+n) aCo;rw[HU2.out] at u2;clear hR1 hB1 hc;have hT:0≤U0*1000000000+U1∧U0*1000000000+U1<1000000000000000000:=by omega
 generalize U0*1000000000+U1=T at *
 have HV0:Hid (0<lval ys):=Lib.hid (Int.lt_of_lt_of_le (Int.mul_pos (by omega:0<V1*1000000000+V2) (iR n)) HV3.out.1);have z1:(V1==0)=false:=by rw[beq_eq_false_iff_ne];omega
 have z2:V1≠0:=by omega
 have z3:T.tdiv V1=T/V1:=Int.tdiv_eq_ediv_of_nonneg hT.1;have z4:0≤T/V1:=Int.ediv_nonneg hT.1 aCo;have z5:T/V1≤T:=Int.ediv_le_self _ hT.1;have z6:IntKind.i64.wrap (T/V1)=T/V1:=by rw[IntKind.wrap_i64];omega
 have hq0:T+1≤(T/V1+1)*V1:=Int.lt_ediv_add_one_mul_self T aCo;have hqv:T/V1*V1≤T:=Int.ediv_mul_le T z2
 have r1:wrap64 (T-wrap64 (T/V1*V1))=T-T/V1*V1:=by
  have:=Int.mul_nonneg z4 d1.1;unfold wrap64;omega
 have r2:wrap64 (T-wrap64 (999999999*V1))=T-999999999*V1:=by unfold wrap64;omega
 have HS1:Hid (wval L j (n+2+1)<(T/V1+1)*lval ys):=Lib.hid (est_up (iR (n+1)) HV3.out.2.2 HW1.out.2.2 hq0 z4);have HS2:Hid (wval L j (n+2+1)<(999999999+1)*lval ys):=Lib.hid aCo;have HR1:=HR;have HB1:=HB;clear HR HB u2 y2 hq0 e1 e2 hW
 by_cases hm:T/V1≤999999999
 ·have HQ0:Hid (T/V1*V1≤T):=Lib.hid hqv
  have HQ1:Hid (0≤T/V1∧T/V1≤999999999):=Lib.hid ⟨z4,hm⟩;clear hqv HS2
  go_wp2_with fail
  (try rw[r1])
  clear r1 r2 z1 z2 z3 z4 z5 z6 hm
  go_loopw [7,8] (fun qv rv wr=>∃q:Int,qv= .int .i64 q∧rv= .int .i64 (T-q*V1)∧0≤q∧q≤999999999∧0≤T-q*V1∧Hid (wval L j (n+2+1)<(q+1)*lval ys)∧Hid (RowN g L wr)∧Hid (Below B0 w0 wr)∧Hid (RI B1 wr (some ad) (n+2) ys)∧Hid (Only g w wr)) (fun _ r _=>(1000000000-intOf r).toNat)
  case atStart=>exact⟨T/V1,rfl,rfl,HQ1.out.1,HQ1.out.2,by have:=HQ0.out;omega,HS1,HR1,HB1,HY1,HN1⟩
  case round=>
   obtain⟨q,rfl,rfl,hq0,hq1,hr0,HQ,HR,HB,HY,HN⟩:=hrel;have hR1:=HR.out;obtain⟨_,hea,hlt2,hc⟩:=HY.out.2.2 aCo
   cases hea
   have y1:wr.cell? ⟨ad.block,ad.off+(n+1),none⟩=some (.int .i64 V1):=by
    have:=hc (n+1) aCo;rw[HV1.out] at this
    simpa[Addr.add] using this
   have y2:=hc n aCo;rw[HV2.out] at y2;have u2:=hR1.cell (j+n) aCo;rw[HU2.out] at u2;clear hR1 hc;have hp1:=oC hq0 (by omega:q<1000000000) d2.1 d2.2;have hp2:=oC hq0 (by omega:q<1000000000) d1.1 d1.2
   by_cases hE:T-q*V1<1000000000∧(T-q*V1)*1000000000+U2<q*V2
   ·obtain⟨hE1,hE2⟩:=hE
    have hdec:=est_dec (iR n) HV3.out.1 HW1.out.2.1 hq0 hE2;have HDC:=Lib.hid hdec;clear hdec;have hsub:(q-1)*V1=q*V1-V1:=by rw[Int.sub_mul,Int.one_mul]
    go_wp2_with fail
    go_quiet (fail)
    go_wp2_with fail
    have hq2:1≤q:=by
     by_cases h:q=0
     ·subst h;omega
     ·omega
    exact⟨⟨q-1,rfl,congrArg (Value.int .i64) (by rw[hsub];omega),by omega,by omega,by rw[hsub];omega,Lib.hid (by rw[Int.sub_add_cancel];exact HDC.out),Lib.hid (show RowN g L (wr.drewN nq) from HR.out),Lib.hid (bH HB.out nq),Lib.hid (show RI B1 (wr.drewN nq) (some ad) (n+2) ys from HY.out),Lib.hid (HN.out.drewN nq)⟩,by simp only[intOf];omega⟩
   ·have hx:1000000000≤T-q*V1∨q*V2≤(T-q*V1)*1000000000+U2:=by omega
    have hok:=est_ok (iR n) HV3.out.2.1 (Int.le_of_lt HV0.out) HW1.out.1 (lJ HL.out j _) hq0 hq1 hv1 d2 b2.1 hx;have HES:=Lib.hid (est_sub HL.out j (n+2+1) HYL.out (by rw[HYn.out];omega) hq0 (by omega:q<1000000000) hj HV0.out (Int.lt_of_lt_of_le (vN HYL.out) (by rw[HYn.out,kC (n+2)];have:=iR (n+2);omega)) hok HQ.out);clear hok
    by_cases hE1:T-q*V1<1000000000
    ·have hE2:¬((T-q*V1)*1000000000+U2<q*V2):=fun h=>hE ⟨hE1,h⟩
     go_wp2_with fail
     go_quiet (fail)
     have HR3:=Lib.hid (show RowN g L (wr.drewN nq) from HR.out);have HB3:=Lib.hid (bH HB.out nq);have HY3:Hid (RI B1 (wr.drewN nq) (some ad) (n+2) ys):=Lib.hid HY.out;clear HY;rcases HES.out with ⟨hz,hdiv,hmod⟩|⟨hz,hdiv,hq2,hmod⟩
     ·have zz:((sbF L j ys q (n+2+1)).2==0)=true:=by rw[hz];rfl
      have HDV:=Lib.hid hdiv;have HMD:=Lib.hid hmod;clear hz hdiv hmod HES
      go_wp2_with(go_at_call 203;refine(kW g j (n+2+1) c (some ad) (n+2) e L ys q B0 w0 _ HR3.out hg HB3.out hj B1 HY3.out hne HL.out HYL.out hq0 aCo aCo aCo).mono ?_;rintro E w2 ⟨rfl,hR2,hB2,hY2,hN2⟩;have HN2:=Lib.hid ((HN.out.drewN nq).trans hN2);have HR2:=Lib.hid hR2;have HB2:=Lib.hid hB2;have HY2:=Lib.hid hY2;clear hR2 hB2 hY2 hN2)
      go_ret
      exact⟨by rw[HDV.out];rfl,⟨_,HR2.out,lY HL.out j HYL.out hq0 aCo _,nD L j ys q _,fun i hi=>nG L j ys q i _ hi,HMD.out⟩,HB2.out,HY2.out,HN2.out⟩
     ·have zz:((sbF L j ys q (n+2+1)).2==0)=false:=by simpa using hz
      have HDV:=Lib.hid hdiv;have HMD:=Lib.hid hmod;clear hz hdiv hmod HES
      go_wp2_with(go_at_call 203;refine(kW g j (n+2+1) c (some ad) (n+2) e L ys q B0 w0 _ HR3.out hg HB3.out hj B1 HY3.out hne HL.out HYL.out hq0 aCo aCo aCo).mono ?_;rintro E w2 ⟨rfl,hR2,hB2,hY2,hN2⟩;have HN2:=Lib.hid ((HN.out.drewN nq).trans hN2);have HR2:=Lib.hid hR2;have HB2:=Lib.hid hB2;have HY2:=Lib.hid hY2;clear hR2 hB2 hY2 hN2)
      have hSl:=lY HL.out j HYL.out hq0 (by omega:q<1000000000) (n+2+1);have hSn:=nD L j ys q (n+2+1);have HSF:=Lib.hid (fun i hi=>nG L j ys q i (n+2+1) hi);rw[HYn.out] at HMD;generalize (sbF L j ys q (n+2+1)).1=S at *
      have HSL:=Lib.hid hSl;clear hSl;have HR5:=HR2;have HB5:=HB2;have HY5:=HY2;have HN5:=HN2;clear HR2 HB2 HY2 HN2 HN HR3 HB3 HR HB y1 y2 u2 hp1 hp2
      go_loopw [9,79] (fun cv iv wz=>∃k:Nat,k≤n+2+1∧iv= .int .i64 k∧cv= .int .i64 (adF S j ys (n+2) k).2∧Hid (RowN g (adF S j ys (n+2) k).1 wz)∧Hid (Below B0 w0 wz)∧Hid (RI B1 wz (some ad) (n+2) ys)∧Hid (Only g w wz)) (fun _ i _=>(n+2+1)-(intOf i).toNat)
      case atStart=>exact⟨0,by omega,rfl,rfl,HR5,HB5,HY5,HN5⟩
      case round=>
       obtain⟨k,hk,rfl,rfl,HR,HB,HY,HN⟩:=hrel
       by_cases h0:k<n+2+1
       ·have hcar:=uQ HSL.out j HYL.out (n+2) k
        have cW:=HR.out.cell (j+k) (by rw[qH];omega);rw[lH S j ys (n+2) (j+k) k aCo] at cW;have fW:=HR.out.frozen (j+k);have hv:=HSL.out (j+k)
        have hs:Hid (adF S j ys (n+2) (k+1)=((adF S j ys (n+2) k).1.set (j+k) (((adF S j ys (n+2) k).2+S[j+k]?.getD 0+(if k<n+2 then ys[k]?.getD 0 else 0))%1000000000),((adF S j ys (n+2) k).2+S[j+k]?.getD 0+(if k<n+2 then ys[k]?.getD 0 else 0))/1000000000)):=by
         show adF S j ys (n+2) (k+1)=_;simp only[adF,lH S j ys (n+2) (j+k) k aCo]
        generalize S[j+k]?.getD 0=v at *
        by_cases h2:k<n+2
        ·obtain⟨ad3,hea,hlt3,hc2⟩:=HY.out.2.2 aCo
         cases hea
         have cY:=hc2 k h2;have hu:=HYL.out k;clear hc2;rw[if_pos h2] at hs;generalize ys[k]?.getD 0=u at *
         generalize hcc:(adF S j ys (n+2) k).2=cc at *
         have HC:=Lib.hid hcc;clear hcc
         go_wp2_with fail
         refine⟨⟨k+1,by omega,rfl,by rw[hs.out],Lib.hid ?_,Lib.hid (HB.out.setCell (p:=⟨g,j+k,none⟩) hg _),Lib.hid (HY.out.nC hne (j+k) _),Lib.hid (HN.out.put (j+k) _)⟩,by simp only[intOf];omega⟩;rw[hs.out];exact HR.out.store (j+k) _
        ·rw[if_neg h2,Int.add_zero] at hs
         generalize hcc:(adF S j ys (n+2) k).2=cc at *
         have HC:=Lib.hid hcc;clear hcc
         go_wp2_with fail
         refine⟨⟨k+1,by omega,rfl,by rw[hs.out],Lib.hid ?_,Lib.hid (HB.out.setCell (p:=⟨g,j+k,none⟩) hg _),Lib.hid (HY.out.nC hne (j+k) _),Lib.hid (HN.out.put (j+k) _)⟩,by simp only[intOf];omega⟩;rw[hs.out];exact HR.out.store (j+k) _
       ·obtain rfl:k=n+2+1:=by omega
        go_wp2_with fail
        go_ret
        exact⟨by rw[HDV.out];rfl,⟨_,HR.out,uS HSL.out j ys _ _,(qH S j ys _ _).trans hSn,fun i hi=>(lH S j ys _ i _ hi).trans (HSF.out i hi),HMD.out⟩,HB.out,HY.out,HN.out⟩
    ·have hf:decide (T-q*V1<1000000000)=false:=decide_eq_false hE1
     clear hx
     go_wp2_with fail
     go_quiet (fail)
     have HR3:=Lib.hid (show RowN g L (wr.drewN nq) from HR.out);have HB3:=Lib.hid (bH HB.out nq);have HY3:Hid (RI B1 (wr.drewN nq) (some ad) (n+2) ys):=Lib.hid HY.out;clear HY;rcases HES.out with ⟨hz,hdiv,hmod⟩|⟨hz,hdiv,hq2,hmod⟩
     ·have zz:((sbF L j ys q (n+2+1)).2==0)=true:=by rw[hz];rfl
      have HDV:=Lib.hid hdiv;have HMD:=Lib.hid hmod;clear hz hdiv hmod HES
      go_wp2_with(go_at_call 203;refine(kW g j (n+2+1) c (some ad) (n+2) e L ys q B0 w0 _ HR3.out hg HB3.out hj B1 HY3.out hne HL.out HYL.out hq0 aCo aCo aCo).mono ?_;rintro E w2 ⟨rfl,hR2,hB2,hY2,hN2⟩;have HN2:=Lib.hid ((HN.out.drewN nq).trans hN2);have HR2:=Lib.hid hR2;have HB2:=Lib.hid hB2;have HY2:=Lib.hid hY2;clear hR2 hB2 hY2 hN2)
      go_ret
      exact⟨by rw[HDV.out];rfl,⟨_,HR2.out,lY HL.out j HYL.out hq0 aCo _,nD L j ys q _,fun i hi=>nG L j ys q i _ hi,HMD.out⟩,HB2.out,HY2.out,HN2.out⟩
     ·have zz:((sbF L j ys q (n+2+1)).2==0)=false:=by simpa using hz
      have HDV:=Lib.hid hdiv;have HMD:=Lib.hid hmod;clear hz hdiv hmod HES
      go_wp2_with(go_at_call 203;refine(kW g j (n+2+1) c (some ad) (n+2) e L ys q B0 w0 _ HR3.out hg HB3.out hj B1 HY3.out hne HL.out HYL.out hq0 aCo aCo aCo).mono ?_;rintro E w2 ⟨rfl,hR2,hB2,hY2,hN2⟩;have HN2:=Lib.hid ((HN.out.drewN nq).trans hN2);have HR2:=Lib.hid hR2;have HB2:=Lib.hid hB2;have HY2:=Lib.hid hY2;clear hR2 hB2 hY2 hN2)
      have hSl:=lY HL.out j HYL.out hq0 (by omega:q<1000000000) (n+2+1);have hSn:=nD L j ys q (n+2+1);have HSF:=Lib.hid (fun i hi=>nG L j ys q i (n+2+1) hi);rw[HYn.out] at HMD;generalize (sbF L j ys q (n+2+1)).1=S at *
      have HSL:=Lib.hid hSl;clear hSl;have HR5:=HR2;have HB5:=HB2;have HY5:=HY2;have HN5:=HN2;clear HR2 HB2 HY2 HN2 HN HR3 HB3 HR HB y1 y2 u2 hp1 hp2
      go_loopw [9,79] (fun cv iv wz=>∃k:Nat,k≤n+2+1∧iv= .int .i64 k∧cv= .int .i64 (adF S j ys (n+2) k).2∧Hid (RowN g (adF S j ys (n+2) k).1 wz)∧Hid (Below B0 w0 wz)∧Hid (RI B1 wz (some ad) (n+2) ys)∧Hid (Only g w wz)) (fun _ i _=>(n+2+1)-(intOf i).toNat)
      case atStart=>exact⟨0,by omega,rfl,rfl,HR5,HB5,HY5,HN5⟩
      case round=>
       obtain⟨k,hk,rfl,rfl,HR,HB,HY,HN⟩:=hrel
       by_cases h0:k<n+2+1
       ·have hcar:=uQ HSL.out j HYL.out (n+2) k
        have cW:=HR.out.cell (j+k) (by rw[qH];omega);rw[lH S j ys (n+2) (j+k) k aCo] at cW;have fW:=HR.out.frozen (j+k);have hv:=HSL.out (j+k)
        have hs:Hid (adF S j ys (n+2) (k+1)=((adF S j ys (n+2) k).1.set (j+k) (((adF S j ys (n+2) k).2+S[j+k]?.getD 0+(if k<n+2 then ys[k]?.getD 0 else 0))%1000000000),((adF S j ys (n+2) k).2+S[j+k]?.getD 0+(if k<n+2 then ys[k]?.getD 0 else 0))/1000000000)):=by
         show adF S j ys (n+2) (k+1)=_;simp only[adF,lH S j ys (n+2) (j+k) k aCo]
        generalize S[j+k]?.getD 0=v at *
        by_cases h2:k<n+2
        ·obtain⟨ad3,hea,hlt3,hc2⟩:=HY.out.2.2 aCo
         cases hea
         have cY:=hc2 k h2;have hu:=HYL.out k;clear hc2;rw[if_pos h2] at hs;generalize ys[k]?.getD 0=u at *
         generalize hcc:(adF S j ys (n+2) k).2=cc at *
         have HC:=Lib.hid hcc;clear hcc
         go_wp2_with fail
         refine⟨⟨k+1,by omega,rfl,by rw[hs.out],Lib.hid ?_,Lib.hid (HB.out.setCell (p:=⟨g,j+k,none⟩) hg _),Lib.hid (HY.out.nC hne (j+k) _),Lib.hid (HN.out.put (j+k) _)⟩,by simp only[intOf];omega⟩;rw[hs.out];exact HR.out.store (j+k) _
        ·rw[if_neg h2,Int.add_zero] at hs
         generalize hcc:(adF S j ys (n+2) k).2=cc at *
         have HC:=Lib.hid hcc;clear hcc
         go_wp2_with fail
         refine⟨⟨k+1,by omega,rfl,by rw[hs.out],Lib.hid ?_,Lib.hid (HB.out.setCell (p:=⟨g,j+k,none⟩) hg _),Lib.hid (HY.out.nC hne (j+k) _),Lib.hid (HN.out.put (j+k) _)⟩,by simp only[intOf];omega⟩;rw[hs.out];exact HR.out.store (j+k) _
       ·obtain rfl:k=n+2+1:=by omega
        go_wp2_with fail
        go_ret
        exact⟨by rw[HDV.out];rfl,⟨_,HR.out,uS HSL.out j ys _ _,(qH S j ys _ _).trans hSn,fun i hi=>(lH S j ys _ i _ hi).trans (HSF.out i hi),HMD.out⟩,HB.out,HY.out,HN.out⟩
 ·have hm2:999999999*V1≤T:=by
   have:999999999*V1≤T/V1*V1:=Int.mul_le_mul_of_nonneg_right aCo d1.1;omega
  have HQ0:Hid (999999999*V1≤T):=Lib.hid hm2;clear hqv HS1
  go_wp2_with fail
  (try rw[r2])
  clear r1 r2 z1 z2 z3 z4 z5 z6 hm hm2
  go_loopw [7,8] (fun qv rv wr=>∃q:Int,qv= .int .i64 q∧rv= .int .i64 (T-q*V1)∧0≤q∧q≤999999999∧0≤T-q*V1∧Hid (wval L j (n+2+1)<(q+1)*lval ys)∧Hid (RowN g L wr)∧Hid (Below B0 w0 wr)∧Hid (RI B1 wr (some ad) (n+2) ys)∧Hid (Only g w wr)) (fun _ r _=>(1000000000-intOf r).toNat)
  case atStart=>exact⟨999999999,rfl,rfl,by omega,by omega,by have:=HQ0.out;omega,HS2,HR1,HB1,HY1,HN1⟩
  case round=>
   obtain⟨q,rfl,rfl,hq0,hq1,hr0,HQ,HR,HB,HY,HN⟩:=hrel;have hR1:=HR.out;obtain⟨_,hea,hlt2,hc⟩:=HY.out.2.2 aCo
   cases hea
   have y1:wr.cell? ⟨ad.block,ad.off+(n+1),none⟩=some (.int .i64 V1):=by
    have:=hc (n+1) aCo;rw[HV1.out] at this
    simpa[Addr.add] using this
   have y2:=hc n aCo;rw[HV2.out] at y2;have u2:=hR1.cell (j+n) aCo;rw[HU2.out] at u2;clear hR1 hc;have hp1:=oC hq0 (by omega:q<1000000000) d2.1 d2.2;have hp2:=oC hq0 (by omega:q<1000000000) d1.1 d1.2
   by_cases hE:T-q*V1<1000000000∧(T-q*V1)*1000000000+U2<q*V2
   ·obtain⟨hE1,hE2⟩:=hE
    have hdec:=est_dec (iR n) HV3.out.1 HW1.out.2.1 hq0 hE2;have HDC:=Lib.hid hdec;clear hdec;have hsub:(q-1)*V1=q*V1-V1:=by rw[Int.sub_mul,Int.one_mul]
    go_wp2_with fail
    go_quiet (fail)
    go_wp2_with fail
    have hq2:1≤q:=by
     by_cases h:q=0
     ·subst h;omega
     ·omega
    exact⟨⟨q-1,rfl,congrArg (Value.int .i64) (by rw[hsub];omega),by omega,by omega,by rw[hsub];omega,Lib.hid (by rw[Int.sub_add_cancel];exact HDC.out),Lib.hid (show RowN g L (wr.drewN nq) from HR.out),Lib.hid (bH HB.out nq),Lib.hid (show RI B1 (wr.drewN nq) (some ad) (n+2) ys from HY.out),Lib.hid (HN.out.drewN nq)⟩,by simp only[intOf];omega⟩
   ·have hx:1000000000≤T-q*V1∨q*V2≤(T-q*V1)*1000000000+U2:=by omega
    have hok:=est_ok (iR n) HV3.out.2.1 (Int.le_of_lt HV0.out) HW1.out.1 (lJ HL.out j _) hq0 hq1 hv1 d2 b2.1 hx;have HES:=Lib.hid (est_sub HL.out j (n+2+1) HYL.out (by rw[HYn.out];omega) hq0 (by omega:q<1000000000) hj HV0.out (Int.lt_of_lt_of_le (vN HYL.out) (by rw[HYn.out,kC (n+2)];have:=iR (n+2);omega)) hok HQ.out);clear hok
    by_cases hE1:T-q*V1<1000000000
    ·have hE2:¬((T-q*V1)*1000000000+U2<q*V2):=fun h=>hE ⟨hE1,h⟩
     go_wp2_with fail
     go_quiet (fail)
     have HR3:=Lib.hid (show RowN g L (wr.drewN nq) from HR.out);have HB3:=Lib.hid (bH HB.out nq);have HY3:Hid (RI B1 (wr.drewN nq) (some ad) (n+2) ys):=Lib.hid HY.out;clear HY;rcases HES.out with ⟨hz,hdiv,hmod⟩|⟨hz,hdiv,hq2,hmod⟩
     ·have zz:((sbF L j ys q (n+2+1)).2==0)=true:=by rw[hz];rfl
      have HDV:=Lib.hid hdiv;have HMD:=Lib.hid hmod;clear hz hdiv hmod HES
      go_wp2_with(go_at_call 203;refine(kW g j (n+2+1) c (some ad) (n+2) e L ys q B0 w0 _ HR3.out hg HB3.out hj B1 HY3.out hne HL.out HYL.out hq0 aCo aCo aCo).mono ?_;rintro E w2 ⟨rfl,hR2,hB2,hY2,hN2⟩;have HN2:=Lib.hid ((HN.out.drewN nq).trans hN2);have HR2:=Lib.hid hR2;have HB2:=Lib.hid hB2;have HY2:=Lib.hid hY2;clear hR2 hB2 hY2 hN2)
      go_ret
      exact⟨by rw[HDV.out];rfl,⟨_,HR2.out,lY HL.out j HYL.out hq0 aCo _,nD L j ys q _,fun i hi=>nG L j ys q i _ hi,HMD.out⟩,HB2.out,HY2.out,HN2.out⟩
     ·have zz:((sbF L j ys q (n+2+1)).2==0)=false:=by simpa using hz
      have HDV:=Lib.hid hdiv;have HMD:=Lib.hid hmod;clear hz hdiv hmod HES
      go_wp2_with(go_at_call 203;refine(kW g j (n+2+1) c (some ad) (n+2) e L ys q B0 w0 _ HR3.out hg HB3.out hj B1 HY3.out hne HL.out HYL.out hq0 aCo aCo aCo).mono ?_;rintro E w2 ⟨rfl,hR2,hB2,hY2,hN2⟩;have HN2:=Lib.hid ((HN.out.drewN nq).trans hN2);have HR2:=Lib.hid hR2;have HB2:=Lib.hid hB2;have HY2:=Lib.hid hY2;clear hR2 hB2 hY2 hN2)
      have hSl:=lY HL.out j HYL.out hq0 (by omega:q<1000000000) (n+2+1);have hSn:=nD L j ys q (n+2+1);have HSF:=Lib.hid (fun i hi=>nG L j ys q i (n+2+1) hi);rw[HYn.out] at HMD;generalize (sbF L j ys q (n+2+1)).1=S at *
      have HSL:=Lib.hid hSl;clear hSl;have HR5:=HR2;have HB5:=HB2;have HY5:=HY2;have HN5:=HN2;clear HR2 HB2 HY2 HN2 HN HR3 HB3 HR HB y1 y2 u2 hp1 hp2
      go_loopw [9,79] (fun cv iv wz=>∃k:Nat,k≤n+2+1∧iv= .int .i64 k∧cv= .int .i64 (adF S j ys (n+2) k).2∧Hid (RowN g (adF S j ys (n+2) k).1 wz)∧Hid (Below B0 w0 wz)∧Hid (RI B1 wz (some ad) (n+2) ys)∧Hid (Only g w wz)) (fun _ i _=>(n+2+1)-(intOf i).toNat)
      case atStart=>exact⟨0,by omega,rfl,rfl,HR5,HB5,HY5,HN5⟩
      case round=>
       obtain⟨k,hk,rfl,rfl,HR,HB,HY,HN⟩:=hrel
       by_cases h0:k<n+2+1
       ·have hcar:=uQ HSL.out j HYL.out (n+2) k
        have cW:=HR.out.cell (j+k) (by rw[qH];omega);rw[lH S j ys (n+2) (j+k) k aCo] at cW;have fW:=HR.out.frozen (j+k);have hv:=HSL.out (j+k)
        have hs:Hid (adF S j ys (n+2) (k+1)=((adF S j ys (n+2) k).1.set (j+k) (((adF S j ys (n+2) k).2+S[j+k]?.getD 0+(if k<n+2 then ys[k]?.getD 0 else 0))%1000000000),((adF S j ys (n+2) k).2+S[j+k]?.getD 0+(if k<n+2 then ys[k]?.getD 0 else 0))/1000000000)):=by
         show adF S j ys (n+2) (k+1)=_;simp only[adF,lH S j ys (n+2) (j+k) k aCo]
        generalize S[j+k]?.getD 0=v at *
        by_cases h2:k<n+2
        ·obtain⟨ad3,hea,hlt3,hc2⟩:=HY.out.2.2 aCo
         cases hea
         have cY:=hc2 k h2;have hu:=HYL.out k;clear hc2;rw[if_pos h2] at hs;generalize ys[k]?.getD 0=u at *
         generalize hcc:(adF S j ys (n+2) k).2=cc at *
         have HC:=Lib.hid hcc;clear hcc
         go_wp2_with fail
         refine⟨⟨k+1,by omega,rfl,by rw[hs.out],Lib.hid ?_,Lib.hid (HB.out.setCell (p:=⟨g,j+k,none⟩) hg _),Lib.hid (HY.out.nC hne (j+k) _),Lib.hid (HN.out.put (j+k) _)⟩,by simp only[intOf];omega⟩;rw[hs.out];exact HR.out.store (j+k) _
        ·rw[if_neg h2,Int.add_zero] at hs
         generalize hcc:(adF S j ys (n+2) k).2=cc at *
         have HC:=Lib.hid hcc;clear hcc
         go_wp2_with fail
         refine⟨⟨k+1,by omega,rfl,by rw[hs.out],Lib.hid ?_,Lib.hid (HB.out.setCell (p:=⟨g,j+k,none⟩) hg _),Lib.hid (HY.out.nC hne (j+k) _),Lib.hid (HN.out.put (j+k) _)⟩,by simp only[intOf];omega⟩;rw[hs.out];exact HR.out.store (j+k) _
       ·obtain rfl:k=n+2+1:=by omega
        go_wp2_with fail
        go_ret
        exact⟨by rw[HDV.out];rfl,⟨_,HR.out,uS HSL.out j ys _ _,(qH S j ys _ _).trans hSn,fun i hi=>(lH S j ys _ i _ hi).trans (HSF.out i hi),HMD.out⟩,HB.out,HY.out,HN.out⟩
    ·have hf:decide (T-q*V1<1000000000)=false:=decide_eq_false hE1
     clear hx
     go_wp2_with fail
     go_quiet (fail)
     have HR3:=Lib.hid (show RowN g L (wr.drewN nq) from HR.out);have HB3:=Lib.hid (bH HB.out nq);have HY3:Hid (RI B1 (wr.drewN nq) (some ad) (n+2) ys):=Lib.hid HY.out;clear HY;rcases HES.out with ⟨hz,hdiv,hmod⟩|⟨hz,hdiv,hq2,hmod⟩
     ·have zz:((sbF L j ys q (n+2+1)).2==0)=true:=by rw[hz];rfl
      have HDV:=Lib.hid hdiv;have HMD:=Lib.hid hmod;clear hz hdiv hmod HES
      go_wp2_with(go_at_call 203;refine(kW g j (n+2+1) c (some ad) (n+2) e L ys q B0 w0 _ HR3.out hg HB3.out hj B1 HY3.out hne HL.out HYL.out hq0 aCo aCo aCo).mono ?_;rintro E w2 ⟨rfl,hR2,hB2,hY2,hN2⟩;have HN2:=Lib.hid ((HN.out.drewN nq).trans hN2);have HR2:=Lib.hid hR2;have HB2:=Lib.hid hB2;have HY2:=Lib.hid hY2;clear hR2 hB2 hY2 hN2)
      go_ret
      exact⟨by rw[HDV.out];rfl,⟨_,HR2.out,lY HL.out j HYL.out hq0 aCo _,nD L j ys q _,fun i hi=>nG L j ys q i _ hi,HMD.out⟩,HB2.out,HY2.out,HN2.out⟩
     ·have zz:((sbF L j ys q (n+2+1)).2==0)=false:=by simpa using hz
      have HDV:=Lib.hid hdiv;have HMD:=Lib.hid hmod;clear hz hdiv hmod HES
      go_wp2_with(go_at_call 203;refine(kW g j (n+2+1) c (some ad) (n+2) e L ys q B0 w0 _ HR3.out hg HB3.out hj B1 HY3.out hne HL.out HYL.out hq0 aCo aCo aCo).mono ?_;rintro E w2 ⟨rfl,hR2,hB2,hY2,hN2⟩;have HN2:=Lib.hid ((HN.out.drewN nq).trans hN2);have HR2:=Lib.hid hR2;have HB2:=Lib.hid hB2;have HY2:=Lib.hid hY2;clear hR2 hB2 hY2 hN2)
      have hSl:=lY HL.out j HYL.out hq0 (by omega:q<1000000000) (n+2+1);have hSn:=nD L j ys q (n+2+1);have HSF:=Lib.hid (fun i hi=>nG L j ys q i (n+2+1) hi);rw[HYn.out] at HMD;generalize (sbF L j ys q (n+2+1)).1=S at *
      have HSL:=Lib.hid hSl;clear hSl;have HR5:=HR2;have HB5:=HB2;have HY5:=HY2;have HN5:=HN2;clear HR2 HB2 HY2 HN2 HN HR3 HB3 HR HB y1 y2 u2 hp1 hp2
      go_loopw [9,79] (fun cv iv wz=>∃k:Nat,k≤n+2+1∧iv= .int .i64 k∧cv= .int .i64 (adF S j ys (n+2) k).2∧Hid (RowN g (adF S j ys (n+2) k).1 wz)∧Hid (Below B0 w0 wz)∧Hid (RI B1 wz (some ad) (n+2) ys)∧Hid (Only g w wz)) (fun _ i _=>(n+2+1)-(intOf i).toNat)
      case atStart=>exact⟨0,by omega,rfl,rfl,HR5,HB5,HY5,HN5⟩
      case round=>
       obtain⟨k,hk,rfl,rfl,HR,HB,HY,HN⟩:=hrel
       by_cases h0:k<n+2+1
       ·have hcar:=uQ HSL.out j HYL.out (n+2) k
        have cW:=HR.out.cell (j+k) (by rw[qH];omega);rw[lH S j ys (n+2) (j+k) k aCo] at cW;have fW:=HR.out.frozen (j+k);have hv:=HSL.out (j+k)
        have hs:Hid (adF S j ys (n+2) (k+1)=((adF S j ys (n+2) k).1.set (j+k) (((adF S j ys (n+2) k).2+S[j+k]?.getD 0+(if k<n+2 then ys[k]?.getD 0 else 0))%1000000000),((adF S j ys (n+2) k).2+S[j+k]?.getD 0+(if k<n+2 then ys[k]?.getD 0 else 0))/1000000000)):=by
         show adF S j ys (n+2) (k+1)=_;simp only[adF,lH S j ys (n+2) (j+k) k aCo]
        generalize S[j+k]?.getD 0=v at *
        by_cases h2:k<n+2
        ·obtain⟨ad3,hea,hlt3,hc2⟩:=HY.out.2.2 aCo
         cases hea
         have cY:=hc2 k h2;have hu:=HYL.out k;clear hc2;rw[if_pos h2] at hs;generalize ys[k]?.getD 0=u at *
         generalize hcc:(adF S j ys (n+2) k).2=cc at *
         have HC:=Lib.hid hcc;clear hcc
         go_wp2_with fail
         refine⟨⟨k+1,by omega,rfl,by rw[hs.out],Lib.hid ?_,Lib.hid (HB.out.setCell (p:=⟨g,j+k,none⟩) hg _),Lib.hid (HY.out.nC hne (j+k) _),Lib.hid (HN.out.put (j+k) _)⟩,by simp only[intOf];omega⟩;rw[hs.out];exact HR.out.store (j+k) _
        ·rw[if_neg h2,Int.add_zero] at hs
         generalize hcc:(adF S j ys (n+2) k).2=cc at *
         have HC:=Lib.hid hcc;clear hcc
         go_wp2_with fail
         refine⟨⟨k+1,by omega,rfl,by rw[hs.out],Lib.hid ?_,Lib.hid (HB.out.setCell (p:=⟨g,j+k,none⟩) hg _),Lib.hid (HY.out.nC hne (j+k) _),Lib.hid (HN.out.put (j+k) _)⟩,by simp only[intOf];omega⟩;rw[hs.out];exact HR.out.store (j+k) _
       ·obtain rfl:k=n+2+1:=by omega
        go_wp2_with fail
        go_ret
        exact⟨by rw[HDV.out];rfl,⟨_,HR.out,uS HSL.out j ys _ _,(qH S j ys _ _).trans hSn,fun i hi=>(lH S j ys _ i _ hi).trans (HSF.out i hi),HMD.out⟩,HB.out,HY.out,HN.out⟩
end Go.Proofs.YtignanmmgaldeaaGreatDoor
namespace Go.Proofs.YtignanmmgaldeaaGreatDoor
open Go.RowKit Go.Shelf Go.Proofs.YtignanmmgaldeaaGreatDoorW.PrintWords
theorem div_end{X Y s Q R:Int}(hs:1≤s)(hY:0<Y)(h:R+Y*s*Q=X*s)(h0:0≤R)(h1:R<Y*s):X/Y=Q∧X%Y=R/s:=by
 have e:R=(X-Y*Q)*s:=by
  rw[Int.sub_mul,Int.mul_assoc Y Q s,Int.mul_comm Q s,←Int.mul_assoc];omega
 have e2:R/s=X-Y*Q:=by rw[e,Int.mul_ediv_cancel _ aCo]
 have a0:0≤X-Y*Q:=by
  by_cases h:X-Y*Q≤ -1
  ·have:(X-Y*Q)*s≤ -1*s:=Int.mul_le_mul_of_nonneg_right h aCo
   omega
  ·omega
 have a1:X-Y*Q<Y:=by
  by_cases h:Y≤X-Y*Q
  ·have:Y*s≤(X-Y*Q)*s:=Int.mul_le_mul_of_nonneg_right h aCo
   omega
  ·omega
 rw[e2];exact est_fin hY aCo a0 a1
theorem wval_down(L:List Int)(j n:Nat):wval L j (n+1)=L[j]?.getD 0+1000000000*wval L (j+1) n:=by
 induction n with
 |zero=>simp[wval]
 |succ k ih=>
  rw[wval,ih,wval,show j+1+k=j+(k+1) from by omega,Int.mul_add,kC]
  have:1000000000*(L[j+(k+1)]?.getD 0*1000000000 ^ k)=L[j+(k+1)]?.getD 0*(1000000000*1000000000 ^ k):=by
   rw[←Int.mul_assoc,Int.mul_comm 1000000000 (L[j+(k+1)]?.getD 0),Int.mul_assoc]
  omega
theorem win_lt{L:List Int}(hL:limbs L)(j n:Nat){V:Int}(h:wval L (j+1) n<V):wval L j (n+1)<1000000000*V:=by
 have:=hL j;rw[wval_down];omega
theorem win_change{L M:List Int}(j k N:Nat)(hN:j+k≤N)(h:∀i,i<j∨j+k≤i→M[i]? =L[i]?):pval M N-pval L N=(wval M j k-wval L j k)*1000000000 ^ j:=by
 obtain⟨d,rfl⟩:∃d,N=j+k+d:=⟨N-(j+k),by omega⟩
 rw[rM M (j+k) d,rM L (j+k) d,rM M j k,rM L j k,wZ (M:=L) (j+k) d (fun i hi=>by rw[h _ aCo]),rG (ys:=L) j (fun i hi=>by rw[h _ aCo]),Int.sub_mul];omega
theorem win_top{L:List Int}(hL:limbs L)(j n:Nat)(h:wval L j (n+1)<1000000000 ^ n):L[j+n]?.getD 0=0∧wval L j n=wval L j (n+1):=by
 have h0:=lJ hL j n;have h1:=(hL (j+n)).1;have e:wval L j (n+1)=wval L j n+L[j+n]?.getD 0*1000000000 ^ n:=rfl
 by_cases hz:L[j+n]?.getD 0=0
 ·rw[hz,Int.zero_mul] at e
  exact⟨hz,by omega⟩
 ·have:1*(1000000000:Int) ^ n≤L[j+n]?.getD 0*1000000000 ^ n:=Int.mul_le_mul_of_nonneg_right aCo (Int.le_of_lt (iR n))
  omega
theorem out_step(O:List Int)(j:Nat)(q:Int)(hj:j<O.length)(h0:O[j]?.getD 0=0):lval (O.set j q)=lval O+q*1000000000 ^ j:=by
 have:=qW O j q hj O.length hj;rw[h0,Int.sub_zero] at this;rw[lval,List.length_set];exact this
end Go.Proofs.YtignanmmgaldeaaGreatDoor
namespace Go.Proofs.YtignanmmgaldeaaGreatDoor
open Go.RowKit Go.Shelf Go.Proofs.YtignanmmgaldeaaGreatDoorW.PrintWords Go.Proofs.YtignanmmgaldeaaGreatDoorW.PrintLast Go.Proofs.YtignanmmgaldeaaGreatDoorW.PrintMore
theorem own_of_rowd{g k base:Nat}{R:List Int}{w:World}(h:Rowd g R w)(hb:base≤g)(hk:k≤R.length)(hR:R.length≤2000000):w.ownsRow base 3 1 (.slice (some ⟨g,0,none⟩) k R.length) (R.take k).length (nums .i64 (R.take k)):=by
 have e:(R.take k).length=k:=by rw[List.length_take];omega
 refine⟨by simp[nums],.inr ⟨g,R.length,(nums .i64 R).toArray,by rw[e],hb,h,by omega,by simp only[maxLen];omega,by simp[nums],?_⟩⟩;rw[e]
 simp[nums,List.map_take]
theorem aA8{a b:Nat}(h:a≤b):(1000000000:Int) ^ a≤1000000000 ^ b:=by
 obtain⟨k,rfl⟩:∃k,b=a+k:=⟨b-a,by omega⟩
 rw[Int.pow_add];have h1:=iR a;have h2:=iR k;have h3:(1000000000:Int) ^ a*1≤1000000000 ^ a*1000000000 ^ k:=Int.mul_le_mul_of_nonneg_left aCo aCo;omega
theorem xA{xs:List Int}(hx:limbs xs)(ht:topped xs)(h:xs.length≠0):(1000000000:Int) ^ (xs.length-1)≤lval xs:=by
 have ht:xs[xs.length-1]?.getD 0≠0:=by rcases ht with h'|h';exact absurd h' h;exact h'
 have h0:=lI hx (xs.length-1);have h1:=(hx (xs.length-1)).1
 have e:lval xs=pval xs (xs.length-1)+xs[xs.length-1]?.getD 0*1000000000 ^ (xs.length-1):=by
  rw[lval];obtain⟨k,hk⟩:∃k,xs.length=k+1:=⟨xs.length-1,by omega⟩
  rw[hk];rfl
 have h2:1*(1000000000:Int) ^ (xs.length-1)≤xs[xs.length-1]?.getD 0*1000000000 ^ (xs.length-1):=Int.mul_le_mul_of_nonneg_right aCo (Int.le_of_lt (iR _));omega
theorem last0_lt{l:List Int}(hl:limbs l)(h:l[l.length-1]?.getD 0=0)(h1:1≤l.length):lval l<1000000000 ^ (l.length-1):=by
 have h0:=xH hl (l.length-1)
 have e:lval l=pval l (l.length-1)+l[l.length-1]?.getD 0*1000000000 ^ (l.length-1):=by
  rw[lval];obtain⟨k,hk⟩:∃k,l.length=k+1:=⟨l.length-1,by omega⟩
  rw[hk];rfl
 rw[h,Int.zero_mul] at e;omega
theorem scaled_len{X D:Int}{l v:List Int}(hl:limbs l)(hz:l[l.length-1]?.getD 0=0)(h1:1≤l.length)(hv:limbs v)(ht:topped v)(hvl:lval v=D)(hll:lval l=X)(hDX:D≤X){m:Nat}(hD:(1000000000:Int) ^ (m+1)≤D):m+2≤v.length∧v.length+1≤l.length:=by
 have a1:m+2≤v.length:=by
  by_cases h:v.length≤m+1
  ·have:=aA8 h
   have:=vN hv;omega
  ·omega
 have a2:=xA hv ht aCo;have a3:=last0_lt hl hz h1;refine⟨a1,?_⟩
 by_cases h:l.length-1≤v.length-1
 ·have:=aA8 h
  omega
 ·omega
theorem tlen_zero(M:List Int)(N:Nat)(h:∀i,N≤i→M[i]?.getD 0=0):∀d,tlen M (N+d)≤N
 |0=>kF M N
 |d+1=>by
  rw[←Nat.add_assoc,tlen,if_pos (h (N+d) aCo)];exact tlen_zero M N h d
theorem pval_zero(M:List Int)(N:Nat)(h:∀i,N≤i→M[i]?.getD 0=0):∀d,pval M (N+d)=pval M N
 |0=>rfl
 |d+1=>by rw[←Nat.add_assoc,pval,h (N+d) aCo,pval_zero M N h d];omega
theorem own_kept{g n cap base:Nat}{xs:List Value}{w w1:World}(h:w.ownsRow base 3 1 (.slice (some ⟨g,0,none⟩) n cap) n xs)(hw:w1.heap[g]? =w.heap[g]?):w1.ownsRow base 3 1 (.slice (some ⟨g,0,none⟩) n cap) n xs:=by
 refine⟨h.1,?_⟩;rcases h.2 with h|⟨g',cap',cur,he,hb,hh,h1,h2,h3,h4⟩
 ·exact .inl h
 ·cases he
  exact .inr ⟨g,cap,cur,rfl,hb,hw.trans hh,h1,h2,h3,h4⟩
theorem aBy(l:List Int):lval (l++ [0])=lval l:=by
 have e:(l++ [0]).length=l.length+1:=by simp
 rw[lval,e,pval,rG (ys:=l) l.length (fun i hi=>by rw[List.getElem?_append_left hi])]
 simp[lval]
theorem aB9{l:List Int}(h:limbs l):limbs (l++ [0]):=fun i=>by
 rw[List.getElem?_append]
 split
 ·exact h i
 ·cases hi:i-l.length with
  |zero=>simp
  |succ k=>simp
theorem divide_long(A B:Option Addr)(n m c e:Nat)(xs ys:List Int)(w:World)(hx:RI w.heap.size w A n xs)(hy:RI w.heap.size w B (m+2) ys)(hxl:limbs xs)(hyl:limbs ys)(hyt:topped ys)(hn:n≤100000)(hm:m+2≤100000)(h:¬ordL xs ys<0)(hlt:lval ys≤lval xs) :
 Calls Tryz.prog 90 #[.slice A n c,.slice B (m+2) e] w fun E w'=>∃A' n' c' B' m' c2,E= .returned (.tuple #[.slice A' n' c',.slice B' m' c2])∧Mag w' (.slice A' n' c') (lval xs/lval ys) (n+1)∧Mag w' (.slice B' m' c2) (lval xs%lval ys) (n+1)∧Below w.heap.size w w':=by
 have HO:=Lib.hid (uI A B n (m+2) c e xs ys w hx hy);have h1:decide (ordL xs ys<0)=false:=by simpa using h
 generalize ordL xs ys=o at HO h1;obtain⟨ad,rfl,hb,hc⟩:=hy.2.2 aCo;have hcell:=hc (m+1) aCo;have hcell':w.cell? ⟨ad.block,ad.off+(m+1),none⟩=some (.int .i64 (ys[m+1]?.getD 0)):=by simpa[Addr.add] using hcell
 have HC:=Lib.hid hcell';have hY:=hyl (m+1)
 have hY1:1≤ys[m+1]?.getD 0:=by
  rcases hyt with h|h
  ·have:=hy.1;omega
  ·rw[hy.1,show m+2-1=m+1 from rfl] at h
   omega
 have HX:=Lib.hid hx;have HY:=Lib.hid hy;have HXL:=Lib.hid hxl;have HYL:=Lib.hid hyl;have HYT:=Lib.hid hyt;have HLT:=Lib.hid hlt;clear hx hy hxl hyl hyt hlt hc hcell hcell';generalize hYe:ys[m+1]?.getD 0=Y at *
 have HYe:=Lib.hid hYe;clear hYe;have z1:(Y+1==0)=false:=by rw[beq_eq_false_iff_ne];omega
 have z2:Y+1≠0:=by omega
 have z3:(1000000000:Int).tdiv (Y+1)=1000000000/(Y+1):=Int.tdiv_eq_ediv_of_nonneg aCo
 have z4:1≤(1000000000:Int)/(Y+1):=by
  have:=Int.lt_ediv_add_one_mul_self 1000000000 (b:=Y+1) aCo
  by_cases h:(1000000000:Int)/(Y+1)≤0
  ·have h2:((1000000000:Int)/(Y+1)+1)*(Y+1)≤1*(Y+1):=Int.mul_le_mul_of_nonneg_right aCo aCo
   omega
  ·omega
 have z5:(1000000000:Int)/(Y+1)≤1000000000:=Int.ediv_le_self _ aCo;have z6:(1000000000:Int)/(Y+1)*(Y+1)≤1000000000:=Int.ediv_mul_le _ z2;have z7:IntKind.i64.wrap ((1000000000:Int)/(Y+1))=1000000000/(Y+1):=by rw[IntKind.wrap_i64];omega
 go_enter Tryz.func90,Tryz.ntmps90
 go_wp2_with(go_at_call 145;refine HO.out.mono ?_;rintro e w1 ⟨rfl,hB⟩;have hz1:=hB.size;have cw:=(hB.cell (p:=⟨ad.block,ad.off+(m+1),none⟩) hb).trans HC.out;have HB:=Lib.hid hB;clear hB HO)
 have z8:(1000000000:Int)/(Y+1)*2≤1000000000:=by
  have:(1000000000:Int)/(Y+1)*2≤(1000000000:Int)/(Y+1)*(Y+1):=Int.mul_le_mul_of_nonneg_left aCo aCo;omega
 generalize hs:(1000000000:Int)/(Y+1)=s at *
 have hBa:Below w1.heap.size w1 (w1.alloc (.cells #[.int .i64 s] 3)):=(Below.refl _ w1).alloc (Nat.le_refl _) _;have hsz:(w1.alloc (.cells #[.int .i64 s] 3)).heap.size=w1.heap.size+1:=by simp
 have hsb:(w1.alloc (.cells #[.int .i64 s] 3)).heap[w1.heap.size]? =some (.cells #[.int .i64 s] 3):=World.alloc_heap_new w1 _;have hXa:=(HX.out.below (HB.out.trans (hBa.mono hz1))).mono (by rw[hsz];omega:w.heap.size≤(w1.alloc (.cells #[.int .i64 s] 3)).heap.size);have hYa:=(HY.out.below (HB.out.trans (hBa.mono hz1))).mono (by rw[hsz];omega:w.heap.size≤(w1.alloc (.cells #[.int .i64 s] 3)).heap.size);have HBW:=Lib.hid (HB.out.trans (hBa.mono hz1));obtain⟨W2,hW2⟩:∃W2,w1.alloc (.cells #[.int .i64 s] 3)=W2:=⟨_,rfl⟩
 rw[hW2] at hsz hsb hXa hYa HBW ⊢;clear hW2 hBa
 have HSC:Hid (∀v:World,Below W2.heap.size W2 v→RI v.heap.size v (some ⟨w1.heap.size,0,none⟩) 1 [s]):=Lib.hid fun v hv=>by
  have hb:=(hv.block w1.heap.size aCo).trans hsb;have hl:=(Array.getElem?_eq_some_iff.1 hb).1;refine⟨rfl,by omega,fun _=>⟨_,rfl,hl,fun j hj=> ?_⟩⟩;obtain rfl:j=0:=by omega
  simpa[Addr.add] using dG hb 0 _ rfl
 have hsl:limbs [s]:=fun i=>by
  match i with
  |0=>simp;omega
  |i+1=>simp
 have HSL:=Lib.hid hsl;have HXa:=Lib.hid hXa;have HYa:=Lib.hid hYa;have HSZ:=Lib.hid hsz;clear hsl hXa hYa hsz hsb cw HC HX HY z1 z2 z3 z7 hb;refine(times_own A (some ⟨w1.heap.size,0,none⟩) n 1 c 1 xs [s] W2 HXa.out (HSC.out _ (Below.refl _ _)) HXL.out HSL.out aCo aCo).mono ?_;rintro E w2 ⟨rfl,hR2,hB2⟩;have hl2:(rowF xs [s] n).length=n+1:=by rw[lT,HXa.out.1];rfl
 have hv2:lval (rowF xs [s] n)=lval xs*lval [s]:=by have:=rowF_all xs [s];rwa [HXa.out.1] at this
 have hk2:=xK HXL.out HSL.out n;generalize rowF xs [s] n=R at *
 have ht2:=kF R (n+1);have HOU:=Lib.hid (own_of_rowd (base:=W2.heap.size) hR2 (Nat.le_refl _) (k:=tlen R (n+1)) aCo aCo);rw[hl2] at HOU;have HB2:=Lib.hid hB2;have HLR:=Lib.hid hl2;have HKR:=Lib.hid hk2;have HVR:=Lib.hid hv2;have hz2:=hB2.size;have htl:(R.take (tlen R (n+1))).length=tlen R (n+1):=by rw[List.length_take];omega
 clear hl2 hk2 hv2 hB2 hR2
 go_wp2_with((with_reducible refine mQ (b:= .append) (xs:=#[.tmp 47,.tmp 48]) rfl ?_);at_builtin;go_loud (refine xQ (w0:=W2) (W:=w2) W2.heap.size rfl _ _ 79 3 .i64 8 rfl Tryz.underlying79 qP aCr (.slice (some ⟨W2.heap.size,0,none⟩) (tlen R (n+1)) (n+1)) (R.take (tlen R (n+1))) 0 rfl rfl HOU.out HB2.out hz2 (by rw[htl];omega) ?_);intro v1 w3 hown hB3 hg3 hat3;obtain⟨g,cap,rfl,hgb,hgl⟩:=hown.form aCq;have HO3:=Lib.hid hown;have HB3:=Lib.hid hB3;clear hown hB3 hg3 hat3)
 have hz3:=HB3.out.size;refine(times_own (some ad) (some ⟨w1.heap.size,0,none⟩) (m+2) 1 e 1 ys [s] w3 ((HYa.out.below HB3.out).mono hz3) (HSC.out _ HB3.out) HYL.out HSL.out aCo aCo).mono ?_;rintro E w4 ⟨rfl,hR4,hB4⟩;have hl4:(rowF ys [s] (m+2)).length=m+2+1:=by rw[lT,HYa.out.1];rfl
 have hv4:lval (rowF ys [s] (m+2))=lval ys*lval [s]:=by have:=rowF_all ys [s];rwa [HYa.out.1] at this
 have hk4:=xK HYL.out HSL.out (m+2);generalize rowF ys [s] (m+2)=V at *
 have HR4:=Lib.hid hR4;have HB4:=Lib.hid hB4;have HL4:=Lib.hid hl4;have HK4:=Lib.hid hk4;have HV4:=Lib.hid hv4;have hz4:=hB4.size;clear hl4 hk4 hv4 hB4 hR4;have hlk:limbs (R.take (tlen R (n+1))++ [0]):=aB9 (aBq HKR.out _)
 have hvk:lval (R.take (tlen R (n+1))++ [0])=lval xs*lval [s]:=by
  rw[aBy,lval,htl,pval_take,aAo,←HVR.out,lval,HLR.out]
 have hlz:(R.take (tlen R (n+1))++ [0]).length=tlen R (n+1)+1:=by simp only[List.length_append,htl,List.length_cons,List.length_nil]
 have hol:=own_kept HO3.out (HB4.out.block g hgl);have HOL:=Lib.hid hol;have HLK:=Lib.hid hlk;have HVK:=Lib.hid hvk;have HLZ:Hid ((R.take (tlen R (n+1))++ [0])[(R.take (tlen R (n+1))++ [0]).length-1]?.getD 0=0):=Lib.hid (by rw[hlz,Nat.add_sub_cancel,List.getElem?_append_right aCo,htl];simp);generalize R.take (tlen R (n+1))++ [0]=l at *
 have HBT:=Lib.hid (HB3.out.trans (HB4.out.mono hz3));clear hol hlk hvk HO3 HB3
 go_wp2_with fail
 go_loopw [9] (fun uv wr=>∃(g cap:Nat) (l:List Int),uv= .slice (some ⟨g,0,none⟩) l.length cap∧1≤l.length∧l.length≤n+2∧g≠w3.heap.size∧Hid (wr.ownsRow W2.heap.size 3 1 (.slice (some ⟨g,0,none⟩) l.length cap) l.length (nums .i64 l))∧Hid (lval l=lval xs*lval [s])∧Hid (limbs l)∧Hid (l[l.length-1]?.getD 0=0)∧Hid (Rowd w3.heap.size V wr)∧Hid (Below W2.heap.size W2 wr)) (fun uv _=>n+1-sliceLen uv)
 case atStart=>exact⟨g,cap,l,by rw[hlz],by omega,by omega,by omega,HOL,HVK,HLK,HLZ,HR4,HBT⟩
 case round=>
  obtain⟨g,cap,l,rfl,hl1,hl2,hgw,HO,HV,HL,HZ,HRV,HB⟩:=hrel
  by_cases hle:l.length≤n
  ·have hzr:=HB.out.size
   have hrl:=HRV.out.lt
   go_wp2_with((with_reducible refine mQ (b:= .append) (xs:=#[.tmp 58,.tmp 59]) rfl ?_);at_builtin;go_loud (refine xQ (w0:=W2) (W:=wr) W2.heap.size rfl _ _ 79 3 .i64 8 rfl Tryz.underlying79 qP aCr (.slice (some ⟨g,0,none⟩) l.length cap) l 0 rfl rfl HO.out HB.out hzr aCo ?_);intro v1 w5 hown hB5 hg5 hat5;obtain⟨g5,cap5,rfl,hgb5,hgl5⟩:=hown.form aCq;have HO5:=Lib.hid hown;have HB5:=Lib.hid hB5;have HG5:=Lib.hid hg5;have HAT5:=Lib.hid hat5;clear hown hB5 hg5 hat5)
   have hll:(l++ [0]).length=l.length+1:=by simp
   refine⟨⟨g5,cap5,l++ [0],by rw[hll],by omega,by omega,?_,HO5,Lib.hid (by rw[aBy];exact HV.out),Lib.hid (aB9 HL.out),Lib.hid (by rw[hll,Nat.add_sub_cancel,List.getElem?_append_right (Nat.le_refl _)];simp),Lib.hid ?_,HB5⟩,by simp only[sliceLen,hll];omega⟩
   ·rcases HAT5.out with h|⟨b,h,hb⟩
    ·cases h;exact hgw
    ·have e:g5=b:=by cases h;rfl
     subst e;omega
   ·exact(HG5.out.block w3.heap.size hrl (fun e=>by cases e;exact hgw rfl)).trans HRV.out
  ·have hsv:lval [s]=s:=by simp[lval,pval]
   have hV':limbs (tl V)∧topped (tl V)∧lval (tl V)=lval ys*s∧(tl V).length=tlen V (m+2+1):=⟨vO HK4.out,aAp V,by rw[tl_val,HV4.out,hsv],by rw[wQ,HL4.out]⟩
   have hD:(1000000000:Int) ^ (m+1)≤lval ys*s:=by
    have h1:=xA HYL.out HYT.out (by rw[HYa.out.1];omega);rw[HYa.out.1] at h1;have h2:lval ys*1≤lval ys*s:=Int.mul_le_mul_of_nonneg_left z4 (lX HYL.out);have e:m+2-1=m+1:=by omega
    rw[e] at h1;omega
   have hXY:lval ys*s≤lval xs*s:=Int.mul_le_mul_of_nonneg_right HLT.out aCo;have hlen:=scaled_len HL.out HZ.out hl1 hV'.1 hV'.2.1 hV'.2.2.1 (by rw[HV.out,hsv]) hXY hD;rw[hV'.2.2.2] at hlen;have HVV:=Lib.hid hV';have HD:=Lib.hid hD;have HXY:=Lib.hid hXY;clear hV' hD hXY;have htn:=kF V (m+2+1);generalize tlen V (m+2+1)=N at *
   have hmk:=uY (P:=Tryz.prog) 79 3 .i64 8 Tryz.underlying79 qP aCr (l.length-N) aCo;rw[Int.ofNat_sub (by omega:N≤l.length)] at hmk;have HRN:Hid (RowN g l wr):=Lib.hid ⟨W2.heap.size,cap,HO.out⟩
   have hcap:l.length≤cap:=by
    rcases HO.out.2 with ⟨h,_⟩|⟨_,_,_,he,_,_,h,_⟩
    ·cases h
    ·cases he;exact h
   have hgl2:g<wr.heap.size:=by
    rcases HO.out.2 with ⟨h,_⟩|⟨_,_,_,he,_,hh,_⟩
    ·cases h
    ·cases he;exact(Array.getElem?_eq_some_iff.1 hh).1
   have hgW:W2.heap.size≤g:=by
    rcases HO.out.2 with ⟨h,_⟩|⟨_,_,_,he,hb,_⟩
    ·cases h
    ·cases he;exact hb
   have hrw:=HB.out.size
   go_wp2_with fail
   clear hmk;obtain⟨gO,hgO⟩:∃gO,wr.heap.size=gO:=⟨_,rfl⟩
   have hgO2:gO≠g:=by omega
   have hgw3:w3.heap.size<gO:=hgO▸HRV.out.lt;have hRO0:Rowd gO (List.replicate (l.length-N) 0) (wr.alloc (.cells (madeCells #[.int .i64 0] (l.length-N)) 3)):=by rw[←hgO];exact Rowd.made wr _
   have HRO0:=Lib.hid hRO0;clear hRO0;rw[hgO]
   go_loopw [13] (fun jv wz=>∃(k:Nat) (M O:List Int),k≤l.length-N∧jv= .int .i64 ((k:Int)-1)∧M.length=l.length∧O.length=l.length-N∧Hid (RowN g M wz)∧Hid (limbs M)∧Hid (Rowd gO O wz)∧Hid (limbs O)∧Hid (∀i,i<k→O[i]?.getD 0=0)∧Hid (∀i,k+N≤i→M[i]?.getD 0=0)∧Hid (wval M k N<lval ys*s)∧Hid (pval M l.length+lval ys*s*lval O=lval xs*s)∧Hid (Rowd w3.heap.size V wz)∧Hid (Below W2.heap.size W2 wz)) (fun jv _=>(1+intOf jv).toNat)
   case atStart=>
    have hw:wval l (l.length-N) N<lval ys*s:=by
     obtain⟨N',hN'⟩:∃N',N=N'+1:=⟨N-1,by omega⟩
     have a:=xA HVV.out.1 HVV.out.2.1 (by rw[HVV.out.2.2.2];omega);rw[HVV.out.2.2.2,HVV.out.2.2.1,hN',Nat.add_sub_cancel] at a;have b:=xM HL.out (l.length-(N'+1)) N';rw[hN',wval,show l.length-(N'+1)+N'=l.length-1 from by omega,HZ.out,Int.zero_mul,Int.add_zero];omega
    have hz0:lval (List.replicate (l.length-N) 0)=0:=wY _ _;have hzl:limbs (List.replicate (l.length-N) 0):=fun i=>by by_cases h:i<l.length-N <;> simp[List.getElem?_replicate,h]
    refine⟨l.length-N,l,List.replicate (l.length-N) 0,Nat.le_refl _,congrArg (Value.int .i64) aCo,rfl,by simp,Lib.hid ?_,HL,HRO0,Lib.hid hzl,Lib.hid (fun i hi=>by simp[List.getElem?_replicate,hi]),Lib.hid (fun i hi=>lS l i aCo),Lib.hid hw,Lib.hid ?_,Lib.hid (HRV.out.alloc _),Lib.hid (HB.out.alloc hrw _)⟩
    ·obtain⟨b6,c6,ho6⟩:=HRN.out
     exact⟨b6,c6,own_kept ho6 (Below.heap_alloc _ _ _ hgl2)⟩
    ·rw[hz0,Int.mul_zero,Int.add_zero]
     exact HV.out.trans (by rw[hsv])
   case round=>
    obtain⟨k,M,O,hk,rfl,hM,hO,HRM,HLM,HRO,HLO,HZO,HZM,HW,HS,HRV2,HB2⟩:=hrel
    by_cases hk0:k=0
    ·subst hk0
     have hru:jX wr .i64 (some ⟨g,0,none⟩) l.length M:=⟨hM,by omega,fun _=>⟨_,rfl,fun i hi=>by
      have:=HRM.out.cell i aCo
      rw[List.getD_eq_getElem?_getD,←this,show(Addr.add ⟨g,0,none⟩ i)=⟨g,i,none⟩ from by simp only[Addr.add];split <;> simp_all]⟩⟩
     have HRU:Hid (jX wr.drew .i64 (some ⟨g,0,none⟩) l.length M):=Lib.hid hru
     have hcm:cap≤9223372036854775807:=by
      obtain⟨_,_,ho⟩:=HRN.out;rcases HO.out.2 with ⟨h,_⟩|⟨_,_,_,he,_,_,_,h,_⟩
      ·cases h
      ·cases he;exact h
     have kd:wr.drew.cell? ⟨w1.heap.size,0,none⟩=some (.int .i64 s):=by
      obtain⟨_,e,_,hc⟩:=(HSC.out _ HB2.out).2.2 aCo
      cases e
      simpa[Addr.add] using hc 0 aCo
     have hRT:RI wr.drew.heap.size wr.drew (some ⟨g,0,none⟩) (tlen M l.length) (tl M):=by
      refine⟨by rw[wQ,hM],by have:=kF M l.length;omega,fun _=>⟨_,rfl,?_,fun i hi=> ?_⟩⟩
      ·have hh:=HRM.out.frozen 0
       obtain⟨_,_,ho⟩:=HRM.out;rcases ho.2 with ⟨h,_⟩|⟨_,_,_,he,_,hh,_⟩
       ·cases h
       ·cases he;exact(Array.getElem?_eq_some_iff.1 hh).1
      ·have hlt:=kF M l.length
       have:=HRM.out.cell i aCo;rw[show(Addr.add ⟨g,0,none⟩ i)=⟨g,i,none⟩ from by simp only[Addr.add];split <;> simp_all];rw[tl,uM M _ i (by rw[hM];exact hi)];exact this
     have HSH:=Lib.hid (short_walk (some ⟨g,0,none⟩) (tlen M l.length) cap (tl M) s wr.drew hRT (by have:=kF M l.length;omega) z4 aCo (fun i=>vO HLM.out i.val));clear hru hRT
     go_wp2_with fail
     go_region_held3 (fun w'=>w'.cell? ⟨w1.heap.size,0,none⟩=some (.int .i64 s)) (first|assumption) (first
      |(go_at_call 172;refine(qO _ _ _ M _ HRU.out hcap hcm).mono ?_;rintro e w6 ⟨rfl,rfl⟩)
      |(go_at_call 171;refine HSH.out.mono ?_;rintro E w7 ⟨rfl,hR7,hB7⟩;have k7:w7.cell? ⟨w1.heap.size,0,none⟩=some (.int .i64 s):=(hB7.cell (p:=⟨w1.heap.size,0,none⟩) (by show w1.heap.size<wr.heap.size;have h1:=HSZ.out;have h2:=HB2.out.size;omega)).trans kd;have HR7:=Lib.hid hR7;have HB7:=Lib.hid hB7;clear hR7 hB7 HSH))
     all_goals(
      have hO7:Rowd gO O w7:=(HB7.out.block gO HRO.out.lt).trans HRO.out;have HT7:=Lib.hid (jH hO7 aCo);rw[hO] at HT7;have HO7:=Lib.hid hO7;clear hO7
      go_wp2_with(go_at_call 172;refine(qO _ _ _ O _ HT7.out (Nat.le_refl _) aCo).mono ?_;rintro e w8 ⟨rfl,rfl⟩)
      go_ret2
      have hZM:∀i,N≤i→M[i]?.getD 0=0:=fun i hi=>HZM.out i aCo
      have hP:pval M l.length=wval M 0 N:=by
       have h1:=pval_zero M N hZM (l.length-N);rw[show N+(l.length-N)=l.length from by omega] at h1;have h2:=rM M 0 N;rw[Nat.zero_add] at h2;rw[h1,h2]
       simp[pval]
      have hT:lval (tl M)=pval M l.length:=by rw[tl_val,lval,hM]
      have htN:tlen M l.length≤N:=by
       have:=tlen_zero M N hZM (l.length-N)
       rwa [show N+(l.length-N)=l.length from by omega] at this
      have ht:(tl M).length=tlen M l.length:=by rw[wQ,hM]
      have hY0:0<lval ys:=by
       have h1:=xA HYL.out HYT.out (by rw[HYa.out.1];omega);exact Int.lt_of_lt_of_le (iR _) h1
      have hend:=div_end (X:=lval xs) (Y:=lval ys) (Q:=lval O) (R:=pval M l.length) z4 hY0 HS.out (lI HLM.out _) (by rw[hP];exact HW.out);have hsv2:=short_val s z4 (vO HLM.out) (tlen M l.length) ht;have hsl2:=aAt s z4 (vO HLM.out) (tlen M l.length) (tlen M l.length) (Nat.le_refl _);have hl7:(shF s (tl M) (bwl (tlen M l.length) (tlen M l.length))).1.length=tlen M l.length:=xG s (tl M) _;have hq1:Mag w8 (.slice (some ⟨gO,0,none⟩) (tlen O O.length) (l.length-N)) (lval xs/lval ys) (n+1):=kL (jH HO7.out aCo) (fun ad e=>by cases e;exact HO7.out.lt) HLO.out aCo aCo (Nat.le_trans (kF _ _) aCo) hend.1.symm;rw[hO] at hq1;have hq2:=kL (L:=n+1) (c:=tlen M l.length) (x:=lval xs%lval ys) (jH HR7.out (by rw[hl7];omega)) (fun ad e=>by cases e;exact HR7.out.lt) hsl2 (by rw[hl7];exact Nat.le_refl _) aCo (Nat.le_trans (kF _ _) (by rw[hl7];omega)) (by rw[hsv2.1,hT,hend.2]);rw[hl7] at hq2
      exact⟨_,_,_,_,_,_,rfl,hq1,hq2,HBW.out.trans ((HB2.out.drew.trans (HB7.out.mono HB2.out.size)).mono HBW.out.size)⟩)
    ·obtain⟨k,rfl⟩:∃k',k=k'+1:=⟨k-1,by omega⟩
     have e1:((k+1:Nat):Int)-1=(k:Int):=by omega
     rw[e1];have hN:tlen V V.length=N:=(wQ V).symm.trans HVV.out.2.2.2;have hMV:=kL (L:=N) (c:=m+2+1) (x:=lval ys*s) (jH HRV2.out (by rw[HL4.out];omega)) (fun ad e=>by cases e;exact HRV2.out.lt) HK4.out (by rw[HL4.out];omega) aCo (by rw[hN];exact Nat.le_refl _) (by rw[HV4.out,hsv]);rw[hN] at hMV;obtain⟨_,_,_,vs,he,hri,hvl,hvt,_,_,_,hvv⟩:=hMV
     cases he
     obtain⟨N2,hN2⟩:∃N2,N=N2+2:=⟨N-2,by omega⟩
     have hv1:1≤vs[N2+1]?.getD 0:=by
      have h1:=(hvl (N2+1)).1;rcases hvt with h|h
      ·rw[hri.1] at h;omega
      ·rw[hri.1,show N-1=N2+1 from by omega] at h;omega
     have hE:=estimate_walk g k N2 (cap-k) (some ⟨w3.heap.size,0,none⟩) (m+2+1) M vs W2.heap.size W2 wr HRM.out hgW HB2.out aCo _ (hN2▸hri) (fun ad e=>by cases e;exact fun q=>hgw q.symm) HLM.out hvl hv1 aCo (by rw[hvv];exact win_lt HLM.out k (N2+2) (hN2▸HW.out));rw[←hN2,hvv] at hE;have HE:=Lib.hid hE;clear hE hri hvl hvt hvv hv1 hN hN2
     go_wp2_with(go_at_call 173;rw[show k+N+1-k=N+1 from by omega];refine HE.out.mono ?_;rintro E w6 ⟨rfl,⟨M2,hR6,hl6,hn6,hf6,hw6⟩,hB6,hY6,hN6⟩;have hO6:Rowd gO O w6:=(hN6.2 gO HRO.out.lt hgO2).trans HRO.out;have hV6:Rowd w3.heap.size V w6:=(hN6.2 w3.heap.size HRV2.out.lt (fun q=>hgw q.symm)).trans HRV2.out;have fO:=hO6.frozen k;have cO:=hO6.cell k aCo;have HO6:=Lib.hid hO6;have HV6:=Lib.hid hV6;have HR6:=Lib.hid hR6;have HB6:=Lib.hid hB6;clear hR6 hB6 hY6 hN6 hO6 hV6)
     have hD0:0<lval ys*s:=Int.lt_of_lt_of_le (iR _) HD.out;have hW0:=lJ HLM.out k (N+1);have hq0:0≤wval M k (N+1)/(lval ys*s):=Int.ediv_nonneg hW0 (Int.le_of_lt hD0);have hwl:=win_lt HLM.out k N HW.out;have hq1:wval M k (N+1)/(lval ys*s)<1000000000:=Int.ediv_lt_of_lt_mul hD0 hwl;have hr1:wval M k (N+1)%(lval ys*s)<lval ys*s:=Int.emod_lt_of_pos _ hD0;have hDN:lval ys*s<1000000000 ^ N:=by have:=vN HVV.out.1;rw[HVV.out.2.2.1,HVV.out.2.2.2] at this;exact this
     have hwt:=win_top hl6 k N (by rw[hw6];omega);have hch:=win_change k (N+1) l.length aCo hf6;have hdm:=Int.emod_add_mul_ediv (wval M k (N+1)) (lval ys*s);have hos:=out_step O k (wval M k (N+1)/(lval ys*s)) aCo (HZO.out k aCo);rw[hw6] at hch;refine⟨⟨k,M2,O.set k (wval M k (N+1)/(lval ys*s)),by omega,rfl,hn6.trans hM,by rw[List.length_set];exact hO,Lib.hid ?_,Lib.hid hl6,Lib.hid (HO6.out.store k _),Lib.hid (uO HLO.out _ _ ⟨hq0,hq1⟩),Lib.hid ?_,Lib.hid ?_,Lib.hid (by rw[hwt.2,hw6];exact hr1),Lib.hid ?_,Lib.hid (HV6.out.other aCo _ _),Lib.hid (HB6.out.setCell (p:=⟨gO,k,none⟩) (by show W2.heap.size≤gO;omega) _)⟩,by simp only[intOf];omega⟩
     ·obtain⟨b6,c6,ho6⟩:=HR6.out
      exact⟨b6,c6,own_kept ho6 (Below.heap_setCell _ _ _ _ (fun q=>hgO2 q.symm))⟩
     ·intro i hi
      rw[List.getElem?_set_ne aCo];exact HZO.out i aCo
     ·intro i hi
      by_cases h:i=k+N
      ·subst h;exact hwt.1
      ·rw[hf6 i aCo]
       exact HZM.out i aCo
     ·rw[hos]
      have hSum:=HS.out;generalize pval M2 l.length=P2 at *
      generalize pval M l.length=P1 at *
      generalize wval M k (N+1)=Wk at *
      have h1:(Wk%(lval ys*s)-Wk)*1000000000 ^ k= -(lval ys*s*(Wk/(lval ys*s)*1000000000 ^ k)):=by
       rw[show Wk%(lval ys*s)-Wk= -(lval ys*s*(Wk/(lval ys*s))) from by omega,Int.neg_mul,Int.mul_assoc]
      rw[h1] at hch;rw[Int.mul_add];omega
end Go.Proofs.YtignanmmgaldeaaGreatDoor
namespace Go.Proofs.YtignanmmgaldeaaGreatDoor
open Go.RowKit Go.Shelf Go.Proofs.YtignanmmgaldeaaGreatDoorW.PrintWords
theorem div_all{xs ys:List Int}(hx:limbs xs)(hy:limbs ys)(tx:topped xs)(ty:topped ys)(hn:xs.length≤100000)(hm:ys.length≤100000)(h0:0<lval ys):DivH xs ys (xs.length+1):=by
 by_cases hs:lval xs<lval ys∨lval ys<1000000000
 ·exact div_small hx hy tx ty aCo h0 hs
 ·intro A B n m c e w hX hY hnc hme
  have ho:=(aA4 hx hy tx ty).1
  have h2:2≤ys.length:=by
   by_cases h:ys.length≤1
   ·have h1:=vN hy
    have h2:=aA8 h;rw[Int.pow_one] at h2;omega
   ·omega
  obtain⟨k,hk⟩:∃k,m=k+2:=⟨m-2,by have:=hY.1;omega⟩
  subst hk;have hl:=hX.1;rw[hl];have hl2:=hY.1;exact divide_long A B n k c e xs ys w hX hY hx hy ty aCo aCo (fun h=>hs (.inl (ho.1 h))) aCo
end Go.Proofs.YtignanmmgaldeaaGreatDoor
end
section
set_option linter.unusedVariables false
set_option linter.unusedSimpArgs false
set_option maxRecDepth 100000
set_option maxHeartbeats 4000000
namespace Go.Proofs.YtignanmmgaldeaaGreatDoor
open Go.RowKit Go.Shelf Go.Proofs.YtignanmmgaldeaaGreatDoorW.PrintWords
theorem DivH.more{xs ys:List Int}{K M:Nat}(h:DivH xs ys K)(hM:K≤M):DivH xs ys M:=by
 intro A B n m c e w h1 h2 h3 h4;refine(h A B n m c e w h1 h2 h3 h4).mono ?_;rintro E w' ⟨A',n',c',B',m',c2,he,k1,k2,hB⟩;exact⟨A',n',c',B',m',c2,he,k1.more hM,k2.more hM,hB⟩
def DivZ(x y:Int):Prop:=∀(xs ys:List Int) (b b2:Bool),limbs xs→limbs ys→topped xs→topped ys→xs.length≤456→ys.length≤456→x=(if b then -lval xs else lval xs)→y=(if b2 then -lval ys else lval ys)→0<lval ys→DivH xs ys 457
theorem divZ_small{x y:Int}(h:y<1000000000∧ -1000000000<y):DivZ x y:=by
 intro xs ys b b2 h1 h2 h3 h4 h5 h6 hx hy h0;refine(div_small h1 h2 h3 h4 aCo h0 (.inr ?_)).more aCo
 cases b2 <;> simp at hy <;> omega
theorem aA9{w:World}{d:Bool}{A:Option Addr}{n c:Nat}{z:Int}{L:Nat}(h:NumV w (.agg #[.bool d,.slice A n c]) z L):∃xs,RI w.heap.size w A n xs∧limbs xs∧topped xs∧n≤c∧n≤L∧z=(if d=true then -lval xs else lval xs)∧n=xs.length:=by
 obtain⟨b,u,x,he,⟨A',n',c',xs,rfl,h1,h2,h3,h4,h5,h6,rfl⟩,rfl⟩:=h
 simp at he
 obtain⟨rfl,rfl,rfl,rfl⟩:=he;exact⟨xs,h1,h2,h3,h4,h6,rfl,h1.1.symm⟩
theorem divided_err(a b:ByteArray)(w:World)(c:Int)(hc:fM a b=c)(h0:c≠0)(ha:a.size≤9223372036854775807)(hb:b.size≤9223372036854775807) :
 Calls Tryz.prog 74 #[.string a,.string b] w fun e w'=>e= .returned (.tuple #[.string ⟨#[]⟩,.string ⟨#[]⟩,.int .i64 c])∧Below w.heap.size w w':=by
 have HP:Hid (∀w:World,Calls Tryz.prog 79 #[.string a,.string b] w fun e w'=>∃d A n c1 d2 B m c2,e= .returned (.tuple #[.agg #[.bool d,.slice A n c1],.agg #[.bool d2,.slice B m c2],.int .i64 c])∧Below w.heap.size w w'):=Lib.hid (fun w=>qR a b w c hc h0 ha hb);have e1:(c != 0)=true:=by simpa using h0
 go_enter Tryz.func74,Tryz.ntmps74
 clear hc ha hb
 go_wp2_with(go_at_call 79;refine(HP.out _).mono ?_;rintro e w1 ⟨d,A,n,c1,d2,B,m,c2,rfl,hB⟩;have HB:=Lib.hid hB;clear hB HP)
 go_ret3
 exact⟨rfl,HB.out.trans ((((Below.refl _ w1).alloc (Nat.le_refl _) _).alloc aCq _).mono HB.out.size)⟩
theorem divided_zero(a b:ByteArray)(w:World)(ha0:chkI a=0)(hb0:chkI b=0)(ha:a.size≤9223372036854775807)(hb:b.size≤9223372036854775807)(hz:aN b=0) :
 Calls Tryz.prog 74 #[.string a,.string b] w fun e w'=>e= .returned (.tuple #[.string ⟨#[]⟩,.string ⟨#[]⟩,.int .i64 19])∧Below w.heap.size w w':=by
 have HP:Hid (∀w:World,Calls Tryz.prog 79 #[.string a,.string b] w fun e w'=>∃d A n c1 d2 B c2,e= .returned (.tuple #[.agg #[.bool d,.slice A n c1],.agg #[.bool d2,.slice B 0 c2],.int .i64 0])∧Below w.heap.size w w'):=Lib.hid (fun w=>(kU a b w ha0 hb0 ha hb).mono (by
  rintro e w' ⟨d,A,n,c,d2,B,m,c2,rfl,h1,h2,hB⟩;obtain⟨ys,k1,k2,k3,k4,k5,k6,k7⟩:=aA9 h2;have:lval ys=0:=by rw[hz] at k6;cases d2 <;> simp at k6 <;> omega
  have:m=0:=by rw[k7];exact(nK k2 k3).1 this
  subst this
  exact⟨_,_,_,_,_,_,_,rfl,hB⟩))
 go_enter Tryz.func74,Tryz.ntmps74
 clear ha0 hb0 ha hb hz
 go_wp2_with(go_at_call 79;refine(HP.out _).mono ?_;rintro e w1 ⟨d,A,n,c1,d2,B,c2,rfl,hB⟩;have HB:=Lib.hid hB;clear hB HP)
 go_ret3
 exact⟨rfl,HB.out.trans ((((Below.refl _ w1).alloc (Nat.le_refl _) _).alloc aCq _).mono HB.out.size)⟩
theorem divided_ok(a b:ByteArray)(w:World)(ha0:chkI a=0)(hb0:chkI b=0)(ha:a.size≤9223372036854775807)(hb:b.size≤9223372036854775807)(hz:aN b≠0)(hD:DivZ (aN a) (aN b))(hG:GW w) :
 Calls Tryz.prog 74 #[.string a,.string b] w fun e w'=>e= .returned (.tuple #[.string (text (Int.fdiv (aN a) (aN b))),.string (text (Int.fmod (aN a) (aN b))),.int .i64 0])∧Below w.heap.size w w':=by
 have HP:=Lib.hid (fun w=>kU a b w ha0 hb0 ha hb);have HG:=Lib.hid hG;go_enter Tryz.func74,Tryz.ntmps74
 clear ha0 hb0 ha hb hG
 go_wp2_with(go_at_call 79;refine(HP.out _).mono ?_;rintro e w1 ⟨d,A,n,c,d2,B,m,c2,rfl,hn1,hn2,hB⟩;obtain⟨xs,x1,x2,x3,x4,x5,x6,x7⟩:=aA9 hn1;obtain⟨ys,y1,y2,y3,y4,y5,y6,y7⟩:=aA9 hn2;have hm0:m≠0:=(fun e0=>hz (by rw[y6,(nK y2 y3).2 (by rw[←y7];exact e0)];cases d2 <;> rfl));have hm1:decide ((m:Int)=0)=false:=(by simpa using hm0);have hm2:((m:Int)==0)=false:=(by simpa using hm0);have HB:=Lib.hid hB;have HD:=Lib.hid (hD xs ys d d2 x2 y2 x3 y3 aCo aCo x6 y6 (by have:=lX y2;have:lval ys≠0:=(fun e0=>hm0 (y7.trans ((nK y2 y3).1 e0)));omega));have H0:=Lib.hid (show 0<lval ys by have:=lX y2;have:lval ys≠0:=(fun e0=>hm0 (y7.trans ((nK y2 y3).1 e0)));omega);have X6:=Lib.hid x6;have Y6:=Lib.hid y6;have X1:=Lib.hid x1;have X2:=Lib.hid x2;have Y1:=Lib.hid y1;have Y2:=Lib.hid y2;have Y3:=Lib.hid y3;clear hn1 hn2 hB HP hD x1 x2 x3 y1 y2 y3 x6 y6)
 have hba:Below w1.heap.size w1 ((w1.alloc (.cells #[.bool d,.slice A n c] 81)).alloc (.cells #[.bool d2,.slice B m c2] 81)):=((Below.refl _ w1).alloc (Nat.le_refl _) _).alloc aCq _;have hsa:((w1.alloc (.cells #[.bool d,.slice A n c] 81)).alloc (.cells #[.bool d2,.slice B m c2] 81)).heap.size=w1.heap.size+2:=by simp
 have hrx:=(X1.out.below hba).mono hba.size;have hry:=(Y1.out.below hba).mono hba.size;subst x7;subst y7;refine(aAu A B _ _ c c2 xs ys d d2 457 _ hrx hry x4 y4 HD.out X2.out Y2.out Y3.out aCo aCo aCo H0.out).mono ?_;rintro E w2 ⟨d1,A1,n1,c1,d3,A2,n2,c3,rfl,q1,q2,hB2⟩;rw[←X6.out,←Y6.out] at q1 q2;have hb2:=HB.out.trans ((hba.trans (hB2.mono (by rw[hsa];omega))).mono HB.out.size);have HB2:=Lib.hid hb2;have HG2:=Lib.hid (HG.out.below hb2);have HQ:=Lib.hid q1;have HR:=Lib.hid q2;clear q1 q2 hb2 hB2 hba hsa hrx hry HB HG X1 X2 X6 Y1 Y2 Y3 Y6 HD H0;go_wp2
 have hb0:((w2.alloc (.cells #[.bool d1,.slice A1 n1 c1] 81)).alloc (.cells #[.bool d3,.slice A2 n2 c3] 81)).heap[w2.heap.size]? =some (.cells #[.bool d1,.slice A1 n1 c1] 81):=(Below.heap_alloc _ _ _ aCq).trans (World.alloc_heap_new w2 _)
 have hb1:((w2.alloc (.cells #[.bool d1,.slice A1 n1 c1] 81)).alloc (.cells #[.bool d3,.slice A2 n2 c3] 81)).heap[w2.heap.size+1]? =some (.cells #[.bool d3,.slice A2 n2 c3] 81):=by
  have:=World.alloc_heap_new (w2.alloc (.cells #[.bool d1,.slice A1 n1 c1] 81)) (.cells #[.bool d3,.slice A2 n2 c3] 81)
  rwa [World.size_alloc] at this
 have hBa:Below w2.heap.size w2 ((w2.alloc (.cells #[.bool d1,.slice A1 n1 c1] 81)).alloc (.cells #[.bool d3,.slice A2 n2 c3] 81)):=((Below.refl _ w2).alloc (Nat.le_refl _) _).alloc aCq _;have hsz:((w2.alloc (.cells #[.bool d1,.slice A1 n1 c1] 81)).alloc (.cells #[.bool d3,.slice A2 n2 c3] 81)).heap.size=w2.heap.size+2:=by simp
 obtain⟨W5,hW5⟩:∃W5,(w2.alloc (.cells #[.bool d1,.slice A1 n1 c1] 81)).alloc (.cells #[.bool d3,.slice A2 n2 c3] 81)=W5:=⟨_,rfl⟩
 rw[hW5] at hb0 hb1 hBa hsz ⊢;clear hW5;have c0:=dG hb0 0 _ rfl;have c1':=dG hb0 1 _ rfl;have c3':=dG hb1 0 _ rfl;have c4:=dG hb1 1 _ rfl
 have HKC:Hid (∀v1 v2:World,w2.heap.size+1<v1.heap.size→Below v1.heap.size v1 v2→(v1.cell? ⟨w2.heap.size,0,none⟩=some (.bool d1)∧v1.cell? ⟨w2.heap.size,1,none⟩=some (.slice A1 n1 c1)∧v1.cell? ⟨w2.heap.size+1,0,none⟩=some (.bool d3)∧v1.cell? ⟨w2.heap.size+1,1,none⟩=some (.slice A2 n2 c3))→v2.cell? ⟨w2.heap.size,0,none⟩=some (.bool d1)∧v2.cell? ⟨w2.heap.size,1,none⟩=some (.slice A1 n1 c1)∧v2.cell? ⟨w2.heap.size+1,0,none⟩=some (.bool d3)∧v2.cell? ⟨w2.heap.size+1,1,none⟩=some (.slice A2 n2 c3)):=Lib.hid fun v1 v2 hl hB ⟨a1,a2,a3,a4⟩=>
  ⟨(hB.cell (p:=⟨w2.heap.size,0,none⟩) (by show w2.heap.size<_;omega)).trans a1,(hB.cell (p:=⟨w2.heap.size,1,none⟩) (by show w2.heap.size<_;omega)).trans a2,(hB.cell (p:=⟨w2.heap.size+1,0,none⟩) hl).trans a3,(hB.cell (p:=⟨w2.heap.size+1,1,none⟩) hl).trans a4⟩
 have kd:W5.drew.cell? ⟨w2.heap.size,0,none⟩=some (.bool d1)∧W5.drew.cell? ⟨w2.heap.size,1,none⟩=some (.slice A1 n1 c1)∧W5.drew.cell? ⟨w2.heap.size+1,0,none⟩=some (.bool d3)∧W5.drew.cell? ⟨w2.heap.size+1,1,none⟩=some (.slice A2 n2 c3):=⟨c0,c1',c3',c4⟩;have HBD:=Lib.hid hBa.drew;have hsd:w2.heap.size+2=W5.drew.heap.size:=hsz.symm;have HT1:Hid (∀v:World,Below w2.heap.size w2 v→Calls Tryz.prog 88 #[.agg #[.bool d1,.slice A1 n1 c1]] v fun e w'=>e= .returned (.string (text (Int.fdiv (aN a) (aN b))))∧Below v.heap.size v w'):=Lib.hid fun v hv=>qV _ _ 458 v (HQ.out.below hv) aCo (HG2.out.below hv)
 have HT2:Hid (∀v:World,Below w2.heap.size w2 v→Calls Tryz.prog 88 #[.agg #[.bool d3,.slice A2 n2 c3]] v fun e w'=>e= .returned (.string (text (Int.fmod (aN a) (aN b))))∧Below v.heap.size v w'):=Lib.hid fun v hv=>qV _ _ 458 v (HR.out.below hv) aCo (HG2.out.below hv)
 clear hb0 hb1 hBa hsz c0 c1' c3' c4
 go_region_held3 (fun w'=>w'.cell? ⟨w2.heap.size,0,none⟩=some (.bool d1)∧w'.cell? ⟨w2.heap.size,1,none⟩=some (.slice A1 n1 c1)∧w'.cell? ⟨w2.heap.size+1,0,none⟩=some (.bool d3)∧w'.cell? ⟨w2.heap.size+1,1,none⟩=some (.slice A2 n2 c3)) (first|assumption) (first
  |(go_at_call 88;refine(HT1.out _ HBD.out).mono ?_;rintro e w3 ⟨rfl,hB2⟩;have k2:=HKC.out _ _ aCo hB2 kd;have HB3:=Lib.hid (HBD.out.trans (hB2.mono aCo));have hs2:=hB2.size;clear hB2 HT1)
  |(go_at_call 88;refine(HT2.out _ HB3.out).mono ?_;rintro e w4 ⟨rfl,hB3⟩;have k3:=HKC.out _ _ aCo hB3 k2;have HB4:=Lib.hid (HB3.out.trans (hB3.mono aCo));have hs3:=hB3.size;clear hB3 HT2))
 all_goals(
  go_wp2
  go_ret3
  exact⟨rfl,HB2.out.trans (HB4.out.mono HB2.out.size)⟩)
def dvE(a b:ByteArray):Int:=if fM a b=0 then(if aN b=0 then 19 else 0) else fM a b
def dvS(a b:ByteArray)(z:Int):ByteArray:=if dvE a b=0 then text z else⟨#[]⟩
theorem aAv(a b:ByteArray)(w:World)(ha:a.size≤9223372036854775807)(hb:b.size≤9223372036854775807)(hD:DivZ (aN a) (aN b))(hG:GW w) :
 Calls Tryz.prog 74 #[.string a,.string b] w fun e w'=>e= .returned (.tuple #[.string (dvS a b (Int.fdiv (aN a) (aN b))),.string (dvS a b (Int.fmod (aN a) (aN b))),.int .i64 (dvE a b)])∧Below w.heap.size w w':=by
 unfold dvS dvE
 by_cases h:fM a b=0
 ·have h':=h
  unfold fM at h'
  split at h'
  ·rename_i h1
   by_cases hz:aN b=0
   ·simp only[h,hz,if_pos,if_neg]
    exact divided_zero a b w h1 h' ha hb hz
   ·simp only[h,hz,if_pos,if_neg]
    exact divided_ok a b w h1 h' ha hb hz hD hG
  ·rename_i h1
   exact absurd h' h1
 ·simp only[h,if_neg,if_false,not_false_eq_true]
  exact divided_err a b w _ rfl h ha hb
theorem quo_walk(a b:ByteArray)(w:World)(ha:a.size≤9223372036854775807)(hb:b.size≤9223372036854775807)(hD:DivZ (aN a) (aN b))(hG:GW w) :
 Calls Tryz.prog 18 #[.string a,.string b] w fun e w'=>e= .returned (.tuple #[.string (dvS a b (Int.fdiv (aN a) (aN b))),.int .i64 (dvE a b)])∧Below w.heap.size w w':=by
 have HP:=Lib.hid (aAv a b w ha hb hD hG);go_enter Tryz.func18,Tryz.ntmps18
 clear ha hb hD hG
 go_wp2_with(go_at_call 74;refine HP.out.mono ?_;rintro e w1 ⟨rfl,hB⟩;have HB:=Lib.hid hB;clear hB HP)
 go_ret2
 exact⟨rfl,HB.out⟩
theorem rem_walk(a b:ByteArray)(w:World)(ha:a.size≤9223372036854775807)(hb:b.size≤9223372036854775807)(hD:DivZ (aN a) (aN b))(hG:GW w) :
 Calls Tryz.prog 20 #[.string a,.string b] w fun e w'=>e= .returned (.tuple #[.string (dvS a b (Int.fmod (aN a) (aN b))),.int .i64 (dvE a b)])∧Below w.heap.size w w':=by
 have HP:=Lib.hid (aAv a b w ha hb hD hG);go_enter Tryz.func20,Tryz.ntmps20
 clear ha hb hD hG
 go_wp2_with(go_at_call 74;refine HP.out.mono ?_;rintro e w1 ⟨rfl,hB⟩;have HB:=Lib.hid hB;clear hB HP)
 go_ret2
 exact⟨rfl,HB.out⟩
theorem of_walk(n:Int)(h0: -9223372036854775808≤n)(h1:n≤9223372036854775807)(w:World)(hG:GW w) :
 Calls Tryz.prog 94 #[.int .i64 n] w fun e w'=>e= .returned (.string ⟨(Lib.itoa n).toArray⟩)∧Below w.heap.size w w':=by
 have HP:=Lib.hid (yO n h0 h1 w hG);go_enter Tryz.func94,Tryz.ntmps94
 clear h0 h1 hG
 go_wp2_with(go_at_call 167;refine HP.out.mono ?_;rintro e w1 ⟨rfl,hB⟩;have HB:=Lib.hid hB;clear hB HP)
 go_ret
 exact⟨rfl,HB.out⟩
end Go.Proofs.YtignanmmgaldeaaGreatDoor
namespace Go.Proofs.YtignanmmgaldeaaGreatDoor
open Go.RowKit Go.Shelf Go.Proofs.YtignanmmgaldeaaGreatDoorW.PrintWords
def two63(a b:ByteArray):Prop:=a.size≤9223372036854775807∧b.size≤9223372036854775807
instance (a b:ByteArray):Decidable (two63 a b):=by unfold two63;infer_instance
def fits(n:Int):Prop:= -9223372036854775808≤n∧n≤9223372036854775807
theorem divZ_all(x y:Int):DivZ x y:=fun xs ys b b2 h1 h2 h3 h4 h5 h6 hx hy h0=>(div_all h1 h2 h3 h4 aCo aCo h0).more aCo
def kM.f(a0 a1:ByteArray):Option (ByteArray×Int):=if two63 a0 a1 then(if fM a0 a1=0 then some (wrS (aN a0+aN a1),wrE (aN a0+aN a1)) else some (⟨#[]⟩,fM a0 a1)) else none
theorem kM.calls(a0 a1:ByteArray)(r0:ByteArray)(r1:Int)(w:World)(hG:GW w)(h:kM.f a0 a1=some (r0,r1)) :
 Calls Tryz.prog 22 #[.string a0,.string a1] w fun e w'=>e= .returned (.tuple #[.string r0,.int .i64 r1])∧Below w.heap.size w w':=by
 unfold kM.f at h
 split at h
 ·rename_i h1
  have k:=add_walk a0 a1 w h1.1 h1.2 hG
  split at h
  ·rename_i h2
   obtain⟨rfl,rfl⟩:=Prod.mk.inj (Option.some.inj h);simp only[if_pos h2] at k;exact k
  ·rename_i h2
   obtain⟨rfl,rfl⟩:=Prod.mk.inj (Option.some.inj h);simp only[if_neg h2] at k;exact k
 ·cases h
def jS.f(a0 a1:ByteArray):Option (ByteArray×Int):=if two63 a0 a1 then(if fM a0 a1=0 then some (wrS (aN a0+ -aN a1),wrE (aN a0+ -aN a1)) else some (⟨#[]⟩,fM a0 a1)) else none
theorem jS.calls(a0 a1:ByteArray)(r0:ByteArray)(r1:Int)(w:World)(hG:GW w)(h:jS.f a0 a1=some (r0,r1)) :
 Calls Tryz.prog 24 #[.string a0,.string a1] w fun e w'=>e= .returned (.tuple #[.string r0,.int .i64 r1])∧Below w.heap.size w w':=by
 unfold jS.f at h
 split at h
 ·rename_i h1
  have k:=sub_walk a0 a1 w h1.1 h1.2 hG
  split at h
  ·rename_i h2
   obtain⟨rfl,rfl⟩:=Prod.mk.inj (Option.some.inj h);simp only[if_pos h2] at k;exact k
  ·rename_i h2
   obtain⟨rfl,rfl⟩:=Prod.mk.inj (Option.some.inj h);simp only[if_neg h2] at k;exact k
 ·cases h
def lK.f(a0 a1:ByteArray):Option (ByteArray×Int):=if two63 a0 a1 then(if fM a0 a1=0 then some (wrS (aN a0*aN a1),wrE (aN a0*aN a1)) else some (⟨#[]⟩,fM a0 a1)) else none
theorem lK.calls(a0 a1:ByteArray)(r0:ByteArray)(r1:Int)(w:World)(hG:GW w)(h:lK.f a0 a1=some (r0,r1)) :
 Calls Tryz.prog 26 #[.string a0,.string a1] w fun e w'=>e= .returned (.tuple #[.string r0,.int .i64 r1])∧Below w.heap.size w w':=by
 unfold lK.f at h
 split at h
 ·rename_i h1
  have k:=mul_walk a0 a1 w h1.1 h1.2 hG
  split at h
  ·rename_i h2
   obtain⟨rfl,rfl⟩:=Prod.mk.inj (Option.some.inj h);simp only[if_pos h2] at k;exact k
  ·rename_i h2
   obtain⟨rfl,rfl⟩:=Prod.mk.inj (Option.some.inj h);simp only[if_neg h2] at k;exact k
 ·cases h
def jT.f(a0 a1:ByteArray):Option (ByteArray×Int):=if two63 a0 a1 then some (dvS a0 a1 (Int.fdiv (aN a0) (aN a1)),dvE a0 a1) else none
theorem jT.calls(a0 a1:ByteArray)(r0:ByteArray)(r1:Int)(w:World)(hG:GW w)(h:jT.f a0 a1=some (r0,r1)) :
 Calls Tryz.prog 18 #[.string a0,.string a1] w fun e w'=>e= .returned (.tuple #[.string r0,.int .i64 r1])∧Below w.heap.size w w':=by
 unfold jT.f at h
 split at h
 ·rename_i h1
  obtain⟨rfl,rfl⟩:=Prod.mk.inj (Option.some.inj h);exact quo_walk a0 a1 w h1.1 h1.2 (divZ_all _ _) hG
 ·cases h
def fC.f(a0 a1:ByteArray):Option (ByteArray×Int):=if two63 a0 a1 then some (dvS a0 a1 (Int.fmod (aN a0) (aN a1)),dvE a0 a1) else none
theorem fC.calls(a0 a1:ByteArray)(r0:ByteArray)(r1:Int)(w:World)(hG:GW w)(h:fC.f a0 a1=some (r0,r1)) :
 Calls Tryz.prog 20 #[.string a0,.string a1] w fun e w'=>e= .returned (.tuple #[.string r0,.int .i64 r1])∧Below w.heap.size w w':=by
 unfold fC.f at h
 split at h
 ·rename_i h1
  obtain⟨rfl,rfl⟩:=Prod.mk.inj (Option.some.inj h);exact rem_walk a0 a1 w h1.1 h1.2 (divZ_all _ _) hG
 ·cases h
end Go.Proofs.YtignanmmgaldeaaGreatDoor
namespace Go.Proofs.YtignanmmgaldeaaGreatDoor
open Go.RowKit Go.Shelf Go.Proofs.YtignanmmgaldeaaGreatDoorW.PrintWords
open Go.Lib (decDigits)
theorem aBz(u:Nat):oL (decDigits u)=true:=by
 by_cases h:u=0
 ·subst h;rw[iJ aCo];rfl
 ·obtain⟨c,l,e,h1,h2⟩:=rF u h
  have ha:=jZ u;have hc:c≠48:=fun q=>by rw[q] at h1;simp at h1
  unfold oL;rw[ha,e]
  simp[hc]
theorem rO(z:Int):canon (text z).data.toList=true∧aN (text z)=z:=by
 unfold aN;have e:(text z).data.toList=Lib.itoa z:=rfl;rw[e];unfold Lib.itoa
 split
 ·rename_i h
  have hn:=aBz z.natAbs;have hv:=lD z.natAbs
  constructor
  ·show(oL (decDigits z.natAbs) && !(decDigits z.natAbs== [48]))=true
   rw[hn];have:decDigits z.natAbs≠ [48]:=fun q=>by rw[q] at hv;have:dval [48]=0:=rfl;omega
   simp[this]
  ·show -(dval (decDigits z.natAbs):Int)=z
   rw[hv];omega
 ·rename_i h
  have hn:=aBz z.toNat;have hv:=lD z.toNat
  have hh:∀r,decDigits z.toNat≠45::r:=fun r q=>by
   have:=jZ z.toNat;rw[q] at this
   simp[fE,oH] at this
  constructor
  ·unfold canon
   split
   ·rename_i r q
    exact absurd q (hh r)
   ·exact hn
  ·unfold ival
   split
   ·rename_i r q
    exact absurd q (hh r)
   ·rw[hv];omega
end Go.Proofs.YtignanmmgaldeaaGreatDoor
namespace Go.Proofs.YtignanmmgaldeaaGreatDoor
open Go.RowKit
theorem yB(u m:Nat)(h:(Lib.decDigits u).length≤m):u<10 ^ m:=by
 have h1:=dval_lt _ (jZ u);rw[lD] at h1;exact Nat.lt_of_lt_of_le h1 (Nat.pow_le_pow_right aCo h)
theorem sizeN_lt{z:Int}{m:Nat}(h:pJ z≤m):z.natAbs<10 ^ m:=by
 unfold pJ at h
 split at h
 ·rename_i h0
  subst h0;exact Nat.pow_pos aCo
 ·exact yB _ _ h
theorem lZ{u m:Nat}(h:u<10 ^ m)(hm:0<m):(Lib.decDigits u).length≤m:=by
 by_cases h0:u=0
 ·subst h0;rw[iJ aCo];show 1≤m;omega
 ·obtain⟨c,l,e,h1,h2⟩:=rF u h0
  have hp:=xX c l h1;rw[←e,lD] at hp;rw[e];show l.length+1≤m
  by_cases hle:l.length+1≤m
  ·exact hle
  ·have:=Nat.pow_le_pow_right (n:=10) aCo (show m≤l.length by omega)
   omega
theorem sizeN_le{z:Int}{m:Nat}(h:z.natAbs<10 ^ m):pJ z≤m:=by
 unfold pJ
 split
 ·omega
 ·rename_i h0
  by_cases hm:m=0
  ·subst hm;simp at h;omega
  ·exact lZ h aCo
end Go.Proofs.YtignanmmgaldeaaGreatDoor
namespace Go.Proofs.YtignanmmgaldeaaGreatDoor
open Go.RowKit Go.Shelf
def Bd(m:Nat)(z:Int):Prop:=z.natAbs<10 ^ m
theorem Bd.mono{m k:Nat}{z:Int}(h:Bd m z)(hk:m≤k):Bd k z:=Nat.lt_of_lt_of_le h (Nat.pow_le_pow_right aCo hk)
theorem Bd.neg{m:Nat}{z:Int}(h:Bd m z):Bd m (-z):=by unfold Bd at *;rw[Int.natAbs_neg];exact h
theorem Bd.add{m:Nat}{x y:Int}(h:Bd m x)(k:Bd m y):Bd (m+1) (x+y):=by
 unfold Bd at *
 rw[Nat.pow_succ];generalize 10 ^ m=p at *
 omega
theorem Bd.mul{m k:Nat}{x y:Int}(h:Bd m x)(h2:Bd k y):Bd (m+k) (x*y):=by
 unfold Bd at *
 rw[Int.natAbs_mul,Nat.pow_add];exact Nat.mul_lt_mul'' h h2
theorem Bd.of_le{m:Nat}{x y:Int}(h:Bd m y)(hxy:x.natAbs≤y.natAbs):Bd m x:=Nat.lt_of_le_of_lt hxy h
theorem Bd.size{m:Nat}{z:Int}(h:Bd m z):pJ z≤m:=sizeN_le h
theorem kQ(z:Int):digN (text z)=(Lib.decDigits z.natAbs).length:=by
 unfold digN;rw[wO];unfold Lib.itoa
 split
 ·rename_i h
  have e1:Lib.hasPrefix (45::Lib.decDigits z.natAbs) [45]=true:=by simp[Lib.hasPrefix]
  simp[Lib.trimPrefix,e1]
 ·rename_i h
  have hm:=nJ z.toNat;rw[show z.natAbs=z.toNat by omega];generalize Lib.decDigits z.toNat=l at hm;unfold Lib.trimPrefix
  split
  ·rename_i hp
   cases l with
   |nil=>rfl
   |cons c r=>
    have hc:45=c:=by have h:=hp;simp[Lib.hasPrefix,List.isPrefixOf] at h;exact h
    subst hc;exact absurd rfl (hm r)
  ·rfl
theorem chk_text{z:Int}{m:Nat}(h:Bd m z)(hm:1≤m)(h4:m≤4096):chkI (text z)=0:=by
 unfold chkI;have hd:=lZ h hm;rw[if_pos (rO z).1,kQ,if_neg aCo]
theorem dQ(z:Int):aN (text z)=z:=(rO z).2
theorem size_text{z:Int}{m:Nat}(h:Bd m z)(hm:1≤m):(text z).size≤m+1:=by
 have hd:=lZ h hm;rw[text_size,←Lib.decDigits_length]
 split <;> omega
theorem pK{x y:Int}{m:Nat}(hx:Bd m x)(hy:Bd m y)(hm:1≤m)(h4:m≤4096):two63 (text x) (text y):=by
 have h1:=size_text hx hm;have h2:=size_text hy hm;exact⟨by omega,by omega⟩
theorem nM{x y:Int}{m:Nat}(hx:Bd m x)(hy:Bd m y)(hm:1≤m)(h4:m≤4096):fM (text x) (text y)=0:=by
 unfold fM;rw[chk_text hx hm h4,if_pos rfl,chk_text hy hm h4]
theorem wr_ok{z:Int}{m:Nat}(h:Bd m z)(h4:m≤4096):wrS z=text z∧wrE z=0:=by
 have:=h.size;unfold wrS wrE;rw[if_neg aCo,if_neg aCo];exact⟨rfl,rfl⟩
theorem add_at{x y:Int}(m:Nat)(hx:Bd m x)(hy:Bd m y)(hm:1≤m)(h4:m≤4095):kM.f (text x) (text y)=some (text (x+y),0):=by
 unfold kM.f;have hs:=wr_ok (hx.add hy) aCo;rw[if_pos (pK hx hy hm aCo),if_pos (nM hx hy hm aCo),dQ,dQ,hs.1,hs.2]
theorem sub_at{x y:Int}(m:Nat)(hx:Bd m x)(hy:Bd m y)(hm:1≤m)(h4:m≤4095):jS.f (text x) (text y)=some (text (x+ -y),0):=by
 unfold jS.f;have hs:=wr_ok (hx.add hy.neg) aCo;rw[if_pos (pK hx hy hm aCo),if_pos (nM hx hy hm aCo),dQ,dQ,hs.1,hs.2]
theorem mul_at{x y:Int}(m:Nat)(hx:Bd m x)(hy:Bd m y)(hm:1≤m)(h4:m≤2048):lK.f (text x) (text y)=some (text (x*y),0):=by
 unfold lK.f;have hs:=wr_ok (hx.mul hy) aCo;rw[if_pos (pK hx hy hm aCo),if_pos (nM hx hy hm aCo),dQ,dQ,hs.1,hs.2]
theorem dvE_text{x y:Int}(m:Nat)(hx:Bd m x)(hy:Bd m y)(hm:1≤m)(h4:m≤4096):dvE (text x) (text y)=if y=0 then 19 else 0:=by
 unfold dvE;rw[if_pos (nM hx hy hm h4),dQ]
theorem quo_at{x y:Int}(m:Nat)(hx:Bd m x)(hy:Bd m y)(hm:1≤m)(h4:m≤4096):jT.f (text x) (text y)=some (if y=0 then(⟨#[]⟩,19) else(text (Int.fdiv x y),0)):=by
 unfold jT.f dvS;rw[if_pos (pK hx hy hm h4),dvE_text m hx hy hm h4,dQ,dQ]
 by_cases h:y=0
 ·rw[if_pos h,if_pos h];rfl
 ·rw[if_neg h,if_neg h];rfl
theorem wR{x y:Int}(m:Nat)(hx:Bd m x)(hy:Bd m y)(hm:1≤m)(h4:m≤4096):fC.f (text x) (text y)=some (if y=0 then(⟨#[]⟩,19) else(text (Int.fmod x y),0)):=by
 unfold fC.f dvS;rw[if_pos (pK hx hy hm h4),dvE_text m hx hy hm h4,dQ,dQ]
 by_cases h:y=0
 ·rw[if_pos h,if_pos h];rfl
 ·rw[if_neg h,if_neg h];rfl
theorem compare_at{x y:Int}(m:Nat)(hx:Bd m x)(hy:Bd m y)(hm:1≤m)(h4:m≤4096):kN.f (text x) (text y)=some (sgnI (x-y),0):=by
 unfold kN.f cmpI;have h2:=pK hx hy hm h4;rw[if_pos ⟨h2.1,h2.2⟩,if_pos (nM hx hy hm h4),nM hx hy hm h4,dQ,dQ]
end Go.Proofs.YtignanmmgaldeaaGreatDoor
end
section
set_option linter.unusedVariables false
set_option linter.unusedSimpArgs false
set_option maxRecDepth 100000
set_option maxHeartbeats 4000000
namespace Go.Proofs.YtignanmmgaldeaaGreatDoor
open Go.RowKit Go.Shelf Go.Proofs.YtignanmmgaldeaaGreatDoorW.PrintWords
theorem Mag.le{w:World}{u v:Value}{x y:Int}{L M:Nat}(h:Mag w u x L)(k:Mag w v y M)(hxy:x≤y):Mag w u x M:=by
 obtain⟨A,n,c,xs,rfl,h1,h2,h3,h4,h5,h6,rfl⟩:=h;obtain⟨B,m,e,ys,rfl,k1,k2,k3,k4,k5,k6,rfl⟩:=k;have hl:=rH k2 h2 h3 hxy;have a1:=h1.1;have a2:=k1.1;exact⟨A,n,c,xs,rfl,h1,h2,h3,h4,h5,by omega,rfl⟩
def rdW(w:World)(A:Option Addr)(n:Nat):List Int:=(List.range n).map fun i=>match A with
 |some ad=>(match w.cell? (ad.add i) with
  |some (.int _ v)=>v
  |_=>0)
 |none=>0
def magN(w:World)(v:Value):Nat:=match v with
 | .slice A n _=>(lval (rdW w A n)).toNat
 |_=>0
theorem magN_of{w:World}{v:Value}{x:Int}{L:Nat}(h:Mag w v x L):magN w v=x.toNat:=by
 obtain⟨A,n,c,xs,rfl,h1,h2,h3,h4,h5,h6,rfl⟩:=h;show(lval (rdW w A n)).toNat=_;have hl:(rdW w A n).length=n:=by simp[rdW]
 rw[lval,lval,hl,h1.1]
 congr 1
 refine rG n (fun i hi=> ?_);obtain⟨ad,rfl,_,hc⟩:=h1.2.2 aCo;have hci:=hc i hi
 simp[rdW,hi,hci]
theorem aAa(u v:Value)(x y:Int)(L M:Nat)(w:World)(hu:Mag w u x L)(hv:Mag w v y M)(h0:0<y)(hL:L≤100000)(hM:M≤100000) :
 Calls Tryz.prog 90 #[u,v] w fun E w'=>∃A n c B m e,E= .returned (.tuple #[.slice A n c,.slice B m e])∧Mag w' (.slice A n c) (x/y) L∧Mag w' (.slice B m e) (x%y) M∧Below w.heap.size w w':=by
 have hu0:=hu;have hv0:=hv;have hx0:=hu.nonneg;obtain⟨A,n,c,xs,rfl,h1,h2,h3,h4,h5,h6,rfl⟩:=hu;obtain⟨B,m,e,ys,rfl,k1,k2,k3,k4,k5,k6,rfl⟩:=hv;have a1:=h1.1;have a2:=k1.1;refine(div_all h2 k2 h3 k3 aCo aCo h0 A B n m c e w h1 k1 h4 k4).mono ?_;rintro E w' ⟨A',n',c',B',m',c2,rfl,q1,q2,hB⟩;refine⟨_,_,_,_,_,_,rfl,q1.le (hu0.below hB) ?_,q2.le (hv0.below hB) ?_,hB⟩
 ·exact Int.ediv_le_self _ hx0
 ·exact Int.le_of_lt (Int.emod_lt_of_pos _ h0)
def gcdI(x y:Int):Int:=(Nat.gcd x.natAbs y.natAbs:Nat)
theorem yS{x:Int}(h:0≤x):gcdI x 0=x:=by
 unfold gcdI;rw[Int.natAbs_zero,Nat.gcd_zero_right];omega
theorem aAw{x y:Int}(hx:0≤x)(hy:0<y):gcdI y (x%y)=gcdI x y:=by
 unfold gcdI
 have e:(x%y).natAbs=x.natAbs%y.natAbs:=by
  obtain⟨a,rfl⟩:=Int.eq_ofNat_of_zero_le hx;obtain⟨b,rfl⟩:=Int.eq_ofNat_of_zero_le (Int.le_of_lt hy);rfl
 rw[e,Nat.gcd_comm y.natAbs,←Nat.gcd_rec y.natAbs x.natAbs,Nat.gcd_comm y.natAbs]
theorem aC0(u v:Value)(x y:Int)(L:Nat)(w:World)(hu:Mag w u x L)(hv:Mag w v y L)(hL:L≤100000) :
 Calls Tryz.prog 87 #[u,v] w fun E w'=>∃A n c,E= .returned (.slice A n c)∧Mag w' (.slice A n c) (gcdI x y) L∧Below w.heap.size w w':=by
 have HU:=Lib.hid hu;have HV:=Lib.hid hv;obtain⟨A0,n0,c0,xs,rfl,_⟩:=hu;obtain⟨B0,m0,e0,ys,rfl,_⟩:=hv;have HD:=Lib.hid (fun(u v:Value) (x y:Int) (w:World) (hu:Mag w u x L) (hv:Mag w v y L) (h0:0<y)=>aAa u v x y L L w hu hv h0 hL hL);go_enter Tryz.func87,Tryz.ntmps87
 go_wp2_with fail
 go_loopw [0,1] (fun xv yv wr=>∃A n c B m e X Y,xv= .slice A n c∧yv= .slice B m e∧Hid (Mag wr (.slice A n c) X L)∧Hid (Mag wr (.slice B m e) Y L)∧Hid (gcdI X Y=gcdI x y)∧Hid (Below w.heap.size w wr)) (fun _ yv wz=>magN wz yv)
 case atStart=>exact⟨A0,n0,c0,B0,m0,e0,x,y,rfl,rfl,HU,HV,Lib.hid rfl,Lib.hid (Below.refl _ _)⟩
 case round=>
  obtain⟨A,n,c,B,m,e,X,Y,rfl,rfl,HX,HY,HE,HB⟩:=hrel;have hX0:=HX.out.nonneg;have hY0:=HY.out.nonneg;have hz:=mW HY.out
  by_cases h0:m=0
  ·subst h0
   obtain rfl:Y=0:=hz.2 rfl
   go_wp2_with fail
   go_ret
   refine⟨_,_,_,rfl,?_,HB.out⟩;rw[←HE.out,yS hX0];exact HX.out
  ·have hY1:0<Y:=by have:Y≠0:=fun q=>h0 (hz.1 q);omega
   have hm1:decide ((0:Int)<(m:Int))=true:=decide_eq_true aCo;have hm2:(0:Int)<(m:Int):=by omega
   clear hz
   go_wp2_with(go_at_call 90;refine(HD.out _ _ X Y _ HX.out HY.out hY1).mono ?_;rintro E w1 ⟨A1,n1,c1,A2,n2,c2,rfl,q1,q2,hB1⟩;have HQ:=Lib.hid q2;have HY2:=Lib.hid (HY.out.below hB1);have HB2:=Lib.hid (HB.out.trans (hB1.mono HB.out.size));clear q1 q2 hB1)
   refine⟨⟨B,m,e,A2,n2,c2,Y,X%Y,rfl,rfl,HY2,HQ,Lib.hid ?_,HB2⟩,?_⟩
   ·rw[aAw hX0 hY1];exact HE.out
   ·rw[magN_of HQ.out,magN_of HY.out]
    have h1:=Int.emod_lt_of_pos X hY1;have h2:=Int.emod_nonneg X (show Y≠0 by omega);omega
end Go.Proofs.YtignanmmgaldeaaGreatDoor
namespace Go.Proofs.YtignanmmgaldeaaGreatDoor
open Go.RowKit
def bezL:Nat→Int→Int→Int→Int→Int
 |0,_,_,p,_=>p
 |k+1,r,s,p,q=>if s=0 then p else bezL k s (r%s) q (p+ -((r/s)*q))
def BezOK(Y r s p q:Int):Prop:=((0≤p∧q≤0∧p*s-q*r=Y)∨(p≤0∧0≤q∧q*r-p*s=Y))∧p.natAbs≤Y.toNat∧q.natAbs≤Y.toNat
theorem bezOK_start{X Y:Int}(hX:0≤X)(hY:0<Y):BezOK Y X Y 1 0:=⟨.inl ⟨by omega,by omega,by omega⟩,by omega,by omega⟩
theorem bezOK_step{Y r s p q:Int}(h:BezOK Y r s p q)(hr:0≤r)(hs:0<s):BezOK Y s (r%s) q (p+ -((r/s)*q)):=by
 obtain⟨h1,h2,h3⟩:=h;have hQ:0≤r/s:=Int.ediv_nonneg hr (Int.le_of_lt hs);have hm:0≤r%s:=Int.emod_nonneg r aCo;have hd:=Int.emod_add_mul_ediv r s;generalize r/s=Q at *
 generalize r%s=m at *
 have e:∀t:Int,(p+ -(Q*q))*s-q*(r-s*Q)=p*s-q*r:=fun _=>by
  rw[Int.add_mul,Int.mul_sub,Int.neg_mul,show Q*q*s=q*(s*Q) from by rw[Int.mul_comm Q q,Int.mul_assoc,Int.mul_comm Q s]];omega
 have e0:=e 0;have em:r-s*Q=m:=by omega
 rw[em] at e0;rcases h1 with ⟨a,b,c⟩|⟨a,b,c⟩
 ·have hq:0≤p+ -(Q*q):=by have:=Int.mul_nonpos_of_nonneg_of_nonpos hQ b;omega
  have hle:(p+ -(Q*q))*1≤(p+ -(Q*q))*s:=Int.mul_le_mul_of_nonneg_left aCo hq;have hn:q*m≤0:=Int.mul_nonpos_of_nonpos_of_nonneg b hm;refine⟨.inr ⟨b,hq,by omega⟩,h3,by omega⟩
 ·have hq:p+ -(Q*q)≤0:=by have:=Int.mul_nonneg hQ b;omega
  have hle:(p+ -(Q*q))*s≤(p+ -(Q*q))*1:=Int.mul_le_mul_of_nonpos_left hq aCo;have hn:0≤q*m:=Int.mul_nonneg b hm;refine⟨.inl ⟨b,hq,by omega⟩,h3,by omega⟩
theorem bezL_val(X Y:Int):∀(k:Nat) (r s p q:Int),0≤r→0≤s→s.toNat≤k→(∃t,p*X+t*Y=r)→(∃t,q*X+t*Y=s)→∃t,bezL k r s p q*X+t*Y=gcdI r s
 |0,r,s,p,q,hr,hs,hk,h1,h2=>by
  obtain rfl:s=0:=by omega
  rw[yS hr];exact h1
 |k+1,r,s,p,q,hr,hs,hk,h1,h2=>by
  unfold bezL
  split
  ·rename_i h0
   subst h0;rw[yS hr];exact h1
  ·rename_i h0
   have hlt:=Int.emod_lt_of_pos r (show 0<s by omega);have hnn:=Int.emod_nonneg r h0;rw[←aAw hr (show 0<s by omega)];refine bezL_val X Y k s (r%s) q _ hs hnn aCo h2 ?_;obtain⟨t,h1⟩:=h1;obtain⟨u,h2⟩:=h2;refine⟨t+ -((r/s)*u),?_⟩;have hd:=Int.emod_add_mul_ediv r s;have e:(r/s)*(q*X+u*Y)=(r/s)*q*X+(r/s)*u*Y:=by rw[Int.mul_add,Int.mul_assoc,Int.mul_assoc]
   rw[h2,Int.mul_comm] at e;rw[Int.add_mul,Int.add_mul,Int.neg_mul,Int.neg_mul];omega
def bezP(a b:Int):Int:=if a<0 then -bezL b.natAbs a.natAbs b.natAbs 1 0 else bezL b.natAbs a.natAbs b.natAbs 1 0
def bezU(a b:Int):Int:=if b=0 then sgnI a else Int.fmod (bezP a b) ((b.natAbs:Int)/gcdI a b)
def bezV(a b:Int):Int:=if b=0 then 0 else Int.fdiv (gcdI a b+ -(a*bezU a b)) b
theorem aAb(a b:Int):gcdI (a.natAbs:Int) (b.natAbs:Int)=gcdI a b:=by unfold gcdI;simp
theorem yC{a b:Int}(h:b≠0):0<gcdI a b:=by
 unfold gcdI;have:=Nat.gcd_pos_of_pos_right a.natAbs (show 0<b.natAbs by omega);omega
theorem gcdI_nonneg(a b:Int):0≤gcdI a b:=by unfold gcdI;omega
theorem kR(a b:Int):gcdI a b∣a:=by
 unfold gcdI;exact Int.dvd_natAbs.1 (Int.ofNat_dvd.2 (Nat.gcd_dvd_left _ _))
theorem jM(a b:Int):gcdI a b∣b:=by
 unfold gcdI;exact Int.dvd_natAbs.1 (Int.ofNat_dvd.2 (Nat.gcd_dvd_right _ _))
theorem bezP_val(a b:Int)(hb:b≠0):∃t,bezP a b*a+t*b=gcdI a b:=by
 obtain⟨t,h⟩:=bezL_val (a.natAbs:Int) (b.natAbs:Int) b.natAbs a.natAbs b.natAbs 1 0 aCo aCo aCo ⟨0,by omega⟩ ⟨1,by omega⟩;rw[aAb] at h
 have hs:∃u,u*b=t*(b.natAbs:Int):=by
  rcases Int.lt_or_le b 0 with hneg|hneg
  ·exact⟨-t,by rw[show(b.natAbs:Int)= -b by omega,Int.neg_mul,Int.mul_neg]⟩
  ·exact⟨t,by rw[show(b.natAbs:Int)=b by omega]⟩
 obtain⟨u,hu⟩:=hs;refine⟨u,?_⟩;rw[hu];unfold bezP
 split
 ·rename_i ha
  rw[show(a.natAbs:Int)= -a by omega] at h ⊢;rw[Int.mul_neg] at h;rw[Int.neg_mul];exact h
 ·rename_i ha
  rw[show(a.natAbs:Int)=a by omega] at h ⊢;exact h
theorem bez_val(a b:Int):a*bezU a b+b*bezV a b=gcdI a b:=by
 unfold bezV bezU
 by_cases hb:b=0
 ·subst hb
  rw[if_pos rfl,if_pos rfl];unfold gcdI sgnI
  split
  ·rw[Int.natAbs_zero,Nat.gcd_zero_right];omega
  ·split
   ·rename_i h;rw[h];decide
   ·rw[Int.natAbs_zero,Nat.gcd_zero_right];omega
 ·rw[if_neg hb,if_neg hb]
  obtain⟨t,ht⟩:=bezP_val a b hb;have hg:=yC (a:=a) hb;obtain⟨x,hx⟩:=kR a b;have hab:gcdI a b∣(b.natAbs:Int):=Int.dvd_natAbs.2 (jM a b);obtain⟨y,hy⟩:=hab;have hq:(b.natAbs:Int)/gcdI a b=y:=by rw[hy];exact Int.mul_ediv_cancel_left _ aCo
  rw[hq];have hm:=Int.fmod_add_mul_fdiv (bezP a b) y;generalize Int.fmod (bezP a b) y=u at *
  generalize Int.fdiv (bezP a b) y=f at *
  generalize gcdI a b=g at *
  have hb2:b∣(b.natAbs:Int):=Int.dvd_natAbs.2 (Int.dvd_refl b);obtain⟨s,hs⟩:=hb2
  have key:b∣g+ -(a*u):=by
   refine⟨t+s*x*f,?_⟩;have e1:bezP a b*a=a*u+a*(y*f):=by rw[←hm,Int.add_mul,Int.mul_comm u a,Int.mul_comm (y*f) a]
   have e2:a*(y*f)=b*(s*x*f):=by
    rw[show a*(y*f)=(g*y)*(x*f) from by rw[hx];simp only[Int.mul_comm,Int.mul_assoc,Int.mul_left_comm],←hy,hs];simp only[Int.mul_comm,Int.mul_assoc,Int.mul_left_comm]
   rw[Int.mul_add,←e2,Int.mul_comm b t];omega
  obtain⟨v,hv⟩:=key;rw[hv,Int.mul_fdiv_cancel_left _ hb];omega
end Go.Proofs.YtignanmmgaldeaaGreatDoor
namespace Go.Proofs.YtignanmmgaldeaaGreatDoor
open Go.RowKit Go.Shelf Go.Proofs.YtignanmmgaldeaaGreatDoorW.PrintWords
theorem oD{w:World}{d:Bool}{v:Value}{z:Int}{L:Nat}(h:NumV w (.agg #[.bool d,v]) z L):Mag w v (z.natAbs:Int) L:=by
 obtain⟨b,u,x,he,hm,rfl⟩:=h
 simp at he
 obtain⟨rfl,rfl⟩:=he;have:=hm.nonneg;have e:(((if d=true then -x else x):Int).natAbs:Int)=x:=by cases d <;> simp <;> omega
 rw[e];exact hm
theorem qX{w:World}{v:Value}{x:Int}{L:Nat}(h:Mag w v x L):NumV w (.agg #[.bool false,v]) x L:=⟨false,v,x,rfl,h,rfl⟩
theorem Mag.cast{w:World}{v:Value}{x y:Int}{L:Nat}(h:Mag w v x L)(e:x=y):Mag w v y L:=e▸h
theorem times_num(u v:Value)(x y:Int)(L M:Nat)(w:World)(hu:Mag w u x L)(hv:Mag w v y M)(hL:L≤1000000)(hM:M≤1000000) :
 Calls Tryz.prog 91 #[u,v] w fun e w'=>∃A n c,e= .returned (.slice A n c)∧Mag w' (.slice A n c) (x*y) (L+M)∧Below w.heap.size w w':=by
 obtain⟨A,n,c,xs,rfl,h1,h2,h3,h4,h5,h6,rfl⟩:=hu;obtain⟨B,m,e,ys,rfl,k1,k2,k3,k4,k5,k6,rfl⟩:=hv;refine(times_mag A B n m c e xs ys w h1 k1 h2 k2 aCo aCo h4 k4).mono ?_;rintro E w' ⟨A',n',c',rfl,hM,hB⟩;exact⟨_,_,_,rfl,hM.more aCo,hB⟩
theorem gcd_ok(a b:ByteArray)(w:World)(ha0:chkI a=0)(hb0:chkI b=0)(ha:a.size≤9223372036854775807)(hb:b.size≤9223372036854775807)(hG:GW w) :
 Calls Tryz.prog 28 #[.string a,.string b] w fun e w'=>e= .returned (.tuple #[.string (text (gcdI (aN a) (aN b))),.int .i64 0])∧Below w.heap.size w w':=by
 have HP:=Lib.hid (fun w=>kU a b w ha0 hb0 ha hb);have HG:=Lib.hid hG;go_enter Tryz.func28,Tryz.ntmps28
 clear ha0 hb0 ha hb hG
 go_wp2_with(first
  |(go_at_call 79;refine(HP.out _).mono ?_;rintro e w1 ⟨d,A,n,c,d2,B,m,c2,rfl,hn1,hn2,hB⟩;have HN1:=Lib.hid (oD hn1);have HN2:=Lib.hid (oD hn2);have HB:=Lib.hid hB;clear hn1 hn2 hB HP)
  |(go_at_call 87;refine(aC0 _ _ _ _ 456 _ (HN1.out.below (((Below.refl _ w1).alloc (Nat.le_refl _) _).alloc aCq _)) (HN2.out.below (((Below.refl _ w1).alloc (Nat.le_refl _) _).alloc aCq _)) aCo).mono ?_;rintro e w3 ⟨A3,n3,c3,rfl,hr,hB3⟩;have hB4:=HB.out.trans (((((Below.refl _ w1).alloc (Nat.le_refl _) _).alloc aCq _).trans (hB3.mono (by simp;omega))).mono HB.out.size);have hg3:=HG.out.below hB4;have HR:=Lib.hid (qX (hr.cast (aAb _ _)));have HB4:=Lib.hid hB4;have HG3:=Lib.hid hg3;clear hr hB3 hB4 hg3)
  |(go_at_call 88;refine(qV _ _ 456 w3 HR.out aCo HG3.out).mono ?_;rintro e w4 ⟨rfl,hB5⟩;have HB5:=Lib.hid hB5;clear hB5))
 go_ret2
 exact⟨rfl,HB4.out.trans (HB5.out.mono HB4.out.size)⟩
theorem gcd_err(a b:ByteArray)(w:World)(c:Int)(hc:fM a b=c)(h0:c≠0)(ha:a.size≤9223372036854775807)(hb:b.size≤9223372036854775807) :
 Calls Tryz.prog 28 #[.string a,.string b] w fun e w'=>e= .returned (.tuple #[.string ⟨#[]⟩,.int .i64 c])∧Below w.heap.size w w':=by
 have HP:Hid (∀w:World,Calls Tryz.prog 79 #[.string a,.string b] w fun e w'=>∃d A n c1 d2 B m c2,e= .returned (.tuple #[.agg #[.bool d,.slice A n c1],.agg #[.bool d2,.slice B m c2],.int .i64 c])∧Below w.heap.size w w'):=Lib.hid (fun w=>qR a b w c hc h0 ha hb);have e1:(c != 0)=true:=by simpa using h0
 go_enter Tryz.func28,Tryz.ntmps28
 clear hc ha hb
 go_wp2_with(go_at_call 79;refine(HP.out _).mono ?_;rintro e w1 ⟨d,A,n,c1,d2,B,m,c2,rfl,hB⟩;have HB:=Lib.hid hB;clear hB HP)
 go_ret2
 exact⟨rfl,HB.out.trans ((((Below.refl _ w1).alloc (Nat.le_refl _) _).alloc aCq _).mono HB.out.size)⟩
def lcmI(x y:Int):Int:=if x=0∨y=0 then 0 else(x.natAbs:Int)/gcdI x y*(y.natAbs:Int)
theorem lcm_err(a b:ByteArray)(w:World)(c:Int)(hc:fM a b=c)(h0:c≠0)(ha:a.size≤9223372036854775807)(hb:b.size≤9223372036854775807) :
 Calls Tryz.prog 30 #[.string a,.string b] w fun e w'=>e= .returned (.tuple #[.string ⟨#[]⟩,.int .i64 c])∧Below w.heap.size w w':=by
 have HP:Hid (∀w:World,Calls Tryz.prog 79 #[.string a,.string b] w fun e w'=>∃d A n c1 d2 B m c2,e= .returned (.tuple #[.agg #[.bool d,.slice A n c1],.agg #[.bool d2,.slice B m c2],.int .i64 c])∧Below w.heap.size w w'):=Lib.hid (fun w=>qR a b w c hc h0 ha hb);have e1:(c != 0)=true:=by simpa using h0
 go_enter Tryz.func30,Tryz.ntmps30
 clear hc ha hb
 go_wp2_with(go_at_call 79;refine(HP.out _).mono ?_;rintro e w1 ⟨d,A,n,c1,d2,B,m,c2,rfl,hB⟩;have HB:=Lib.hid hB;clear hB HP)
 go_ret2
 exact⟨rfl,HB.out.trans ((((Below.refl _ w1).alloc (Nat.le_refl _) _).alloc aCq _).mono HB.out.size)⟩
theorem lcm_zero(a b:ByteArray)(w:World)(ha0:chkI a=0)(hb0:chkI b=0)(ha:a.size≤9223372036854775807)(hb:b.size≤9223372036854775807)(hz:aN a=0∨aN b=0) :
 Calls Tryz.prog 30 #[.string a,.string b] w fun e w'=>e= .returned (.tuple #[.string ⟨#[48]⟩,.int .i64 0])∧Below w.heap.size w w':=by
 have HP:=Lib.hid (fun w=>kU a b w ha0 hb0 ha hb);have HZ:=Lib.hid hz;go_enter Tryz.func30,Tryz.ntmps30
 clear ha0 hb0 ha hb hz
 go_wp2_with fail
 refine(HP.out _).mono ?_;rintro e w1 ⟨d,A,n,c,d2,B,m,c2,rfl,hn1,hn2,hB⟩;have h1:=mW (oD hn1);have h2:=mW (oD hn2);have HB:=Lib.hid hB;have hz:=HZ.out;clear hn1 hn2 hB HP HZ
 by_cases hn:n=0
 ·subst hn
  clear h1 h2 hz;go_wp2
  go_ret2
  exact⟨rfl,HB.out.trans ((((Below.refl _ w1).alloc (Nat.le_refl _) _).alloc aCq _).mono HB.out.size)⟩
 ·have hm:m=0:=by
   rcases hz with h|h
   ·exact absurd (h1.1 aCo) hn
   ·exact h2.1 aCo
  subst hm;have e1:((n:Int)==0)=false:=by simpa using hn
  have e2:¬(n:Int)=0:=by omega
  clear h1 h2 hz;go_wp2
  go_ret2
  exact⟨rfl,HB.out.trans ((((Below.refl _ w1).alloc (Nat.le_refl _) _).alloc aCq _).mono HB.out.size)⟩
theorem lcm_ok(a b:ByteArray)(w:World)(ha0:chkI a=0)(hb0:chkI b=0)(ha:a.size≤9223372036854775807)(hb:b.size≤9223372036854775807)(hz1:aN a≠0)(hz2:aN b≠0)(hG:GW w) :
 Calls Tryz.prog 30 #[.string a,.string b] w fun e w'=>e= .returned (.tuple #[.string (wrS (lcmI (aN a) (aN b))),.int .i64 (wrE (lcmI (aN a) (aN b)))])∧Below w.heap.size w w':=by
 have hlcm:lcmI (aN a) (aN b)=((aN a).natAbs:Int)/gcdI ((aN a).natAbs:Int) ((aN b).natAbs:Int)*((aN b).natAbs:Int):=by
  unfold lcmI;rw[if_neg (by simp[hz1,hz2]),aAb]
 rw[hlcm];clear hlcm;have HP:=Lib.hid (fun w=>kU a b w ha0 hb0 ha hb);have HG:=Lib.hid hG;have hX:0<((aN a).natAbs:Int):=by omega
 have hY:0<((aN b).natAbs:Int):=by omega
 have hg0:0<gcdI ((aN a).natAbs:Int) ((aN b).natAbs:Int):=yC aCo;have HNM:Hid (∀(w:World) d v L,NumV w (.agg #[.bool d,v]) (aN a) L→Mag w v ((aN a).natAbs:Int) L):=Lib.hid fun w d v L h=>oD h
 have HNM2:Hid (∀(w:World) d v L,NumV w (.agg #[.bool d,v]) (aN b) L→Mag w v ((aN b).natAbs:Int) L):=Lib.hid fun w d v L h=>oD h
 generalize ((aN a).natAbs:Int)=X at *
 generalize ((aN b).natAbs:Int)=Y at *
 go_enter Tryz.func30,Tryz.ntmps30
 clear ha0 hb0 ha hb hG hz1 hz2
 go_wp2_with fail
 refine(HP.out _).mono ?_;rintro e w1 ⟨d,A,n,c,d2,B,m,c2,rfl,hn1,hn2,hB⟩;have hm1:=HNM.out _ _ _ _ hn1;have hm2:=HNM2.out _ _ _ _ hn2;have hn0:n≠0:=fun q=>by have:=(mW hm1).2 q;omega
 have hm0:m≠0:=fun q=>by have:=(mW hm2).2 q;omega
 have e1:((n:Int)==0)=false:=by simpa using hn0
 have e2:¬(n:Int)=0:=by omega
 have e3:((m:Int)==0)=false:=by simpa using hm0
 have e4:¬(m:Int)=0:=by omega
 have HN1:=Lib.hid hm1;have HN2:=Lib.hid hm2;have HB:=Lib.hid hB;have hb0:((w1.alloc (.cells #[.bool d,.slice A n c] 81)).alloc (.cells #[.bool d2,.slice B m c2] 81)).heap[w1.heap.size]? =some (.cells #[.bool d,.slice A n c] 81):=(Below.heap_alloc _ _ _ aCq).trans (World.alloc_heap_new w1 _)
 have hb1:((w1.alloc (.cells #[.bool d,.slice A n c] 81)).alloc (.cells #[.bool d2,.slice B m c2] 81)).heap[w1.heap.size+1]? =some (.cells #[.bool d2,.slice B m c2] 81):=by
  have:=World.alloc_heap_new (w1.alloc (.cells #[.bool d,.slice A n c] 81)) (.cells #[.bool d2,.slice B m c2] 81)
  rwa [World.size_alloc] at this
 have hBa:Below w1.heap.size w1 ((w1.alloc (.cells #[.bool d,.slice A n c] 81)).alloc (.cells #[.bool d2,.slice B m c2] 81)):=((Below.refl _ w1).alloc (Nat.le_refl _) _).alloc aCq _;have hsz:((w1.alloc (.cells #[.bool d,.slice A n c] 81)).alloc (.cells #[.bool d2,.slice B m c2] 81)).heap.size=w1.heap.size+2:=by simp
 clear hn1 hn2 hm1 hm2 hB HP HNM HNM2 hn0 hm0
 go_wp2_with fail
 obtain⟨W5,hW5⟩:∃W5,(w1.alloc (.cells #[.bool d,.slice A n c] 81)).alloc (.cells #[.bool d2,.slice B m c2] 81)=W5:=⟨_,rfl⟩
 rw[hW5] at hb0 hb1 hBa hsz ⊢;clear hW5;have kd:W5.drew.cell? ⟨w1.heap.size,1,none⟩=some (.slice A n c)∧W5.drew.cell? ⟨w1.heap.size+1,1,none⟩=some (.slice B m c2):=⟨dG hb0 1 _ rfl,dG hb1 1 _ rfl⟩;have HBD:=Lib.hid hBa.drew;have hsd:w1.heap.size+2=W5.drew.heap.size:=hsz.symm
 have HKC:Hid (∀v1 v2:World,w1.heap.size+1<v1.heap.size→Below v1.heap.size v1 v2→(v1.cell? ⟨w1.heap.size,1,none⟩=some (.slice A n c)∧v1.cell? ⟨w1.heap.size+1,1,none⟩=some (.slice B m c2))→v2.cell? ⟨w1.heap.size,1,none⟩=some (.slice A n c)∧v2.cell? ⟨w1.heap.size+1,1,none⟩=some (.slice B m c2)):=Lib.hid fun v1 v2 hl hB ⟨a2,a4⟩=>
  ⟨(hB.cell (p:=⟨w1.heap.size,1,none⟩) (by show w1.heap.size<_;omega)).trans a2,(hB.cell (p:=⟨w1.heap.size+1,1,none⟩) hl).trans a4⟩
 have HCM:=Lib.hid (aC0 _ _ _ _ 456 W5.drew (HN1.out.below HBD.out) (HN2.out.below HBD.out) aCo);clear hb0 hb1 hBa hsz
 go_region_held3 (fun w'=>w'.cell? ⟨w1.heap.size,1,none⟩=some (.slice A n c)∧w'.cell? ⟨w1.heap.size+1,1,none⟩=some (.slice B m c2)) (first|assumption) (first
  |(go_at_call 87;refine HCM.out.mono ?_;rintro e w2 ⟨A3,n3,c3,rfl,hr,hB2⟩;have k2:=HKC.out _ _ aCo hB2 kd;have HR:=Lib.hid hr;have HB2:=Lib.hid hB2;have hs2:=hB2.size;clear hB2 hr HCM)
  |(go_at_call 90;refine(aAa _ _ X (gcdI X Y) 456 456 w2 (HN1.out.below (HBD.out.trans (HB2.out.mono aCo))) HR.out hg0 aCo aCo).mono ?_;rintro e w3 ⟨A4,n4,c4,A5,n5,c5,rfl,hq,_,hB3⟩;have k3:=HKC.out _ _ aCo hB3 k2;have HQ:=Lib.hid hq;have HB3:=Lib.hid hB3;have hs3:=hB3.size;clear hB3 hq))
 all_goals(
  have c1:=k3.1;have c2':=k3.2;have hW3:=HBD.out.trans ((HB2.out.mono aCo).trans (HB3.out.mono aCo));have HW3:=Lib.hid hW3;have HY3:=Lib.hid (HN2.out.below hW3);have HG3:=Lib.hid (HG.out.below (HB.out.trans (hW3.mono HB.out.size)));clear hW3
  go_wp2_with(first
   |(go_at_call 91;refine(times_num _ _ _ _ 456 456 _ HQ.out HY3.out aCo aCo).mono ?_;rintro e w6 ⟨A6,n6,c6,rfl,ht,hB6⟩;have HT:=Lib.hid (qX ht);have HB6:=Lib.hid hB6;have HG6:=Lib.hid (HG3.out.below hB6);clear ht hB6)
   |(go_at_call 80;refine(wI _ _ (456+456) w6 HT.out aCo HG6.out).mono ?_;rintro e w7 ⟨rfl,hB7⟩;have HB7:=Lib.hid hB7;clear hB7))
  go_ret2
  exact⟨rfl,HB.out.trans ((HW3.out.trans ((HB6.out.mono aCo).trans (HB7.out.mono (by have:=HB6.out.size;omega)))).mono HB.out.size)⟩)
end Go.Proofs.YtignanmmgaldeaaGreatDoor
namespace Go.Proofs.YtignanmmgaldeaaGreatDoor
open Go
section
variable {P:Program} {ops:Array Oper} {Q:Exit→Act→World→Prop} {md:Region.Mode} {S:Array Bool→World→Prop}
def rZ(P:Program)(md:Region.Mode)(ops:Array Oper)(Q:Exit→Act→World→Prop)(S:Array Bool→World→Prop):Nat→Array Bool→Act→World→Prop
 |0,listed,a,w=>Region.ready md ops listed= []∧Q .normal a w
 |fuel+1,listed,a,w=>
  (Region.ready md ops listed= []→Q .normal a w) ∧
  ∀i∈Region.ready md ops listed,wpOp P ops Q i (fun a' w'=>S (listed.setIfInBounds i true) w'∧rZ P md ops Q S fuel (listed.setIfInBounds i true) a' w') a w
theorem aC1:∀(fuel:Nat) (listed:Array Bool) (a:Act) (w:World),rZ P md ops Q S fuel listed a w→wpAny P md ops Q fuel listed a w
 |0,_,_,_,h=>h
 |fuel+1,_,_,_,h=>⟨h.1,fun i hi=>wpOp_mono (fun a' w' h'=>aC1 fuel _ a' w' h'.2) (h.2 i hi)⟩
theorem wpAnyT_first{i k:Nat}{oi ok:Oper}{v:Value}{Y:World→Prop}(hi:ops[i]? =some oi)(hok:ops[k]? =some ok)(hki:∃e∈ok.after,Region.binds md e=true∧e.on=i)(hik:k≠i)
 (hY:∀L w,L.getD k true=false→S L w→Y w) (hSi:∀(L:Array Bool) w,S (L.setIfInBounds i true) w↔S L w) (hsel:∀(j:Nat) (o:Oper) cs b,ops[j]? =some o→o.op≠ .select cs b)
 (hQ:∀c a w,Q (.panic c) (a.put oi.dst v) w→Q (.panic c) a w) :
 ∀(fuel:Nat) (listed:Array Bool) (a:Act) (w:World),
  (∀j oj,ops[j]? =some oj→j≠i→listed.getD j true=false→(∀e∈oj.after,Region.binds md e=true→e.on≠i)→oi.apart ops oj=true) →
  i∈Region.ready md ops listed→listed.getD k true=false→YieldsIf P ops Y oi v a→S listed w →
  rZ P md ops Q S fuel (listed.setIfInBounds i true) (a.put oi.dst v) w→rZ P md ops Q S (fuel+1) listed a w:=by
 intro fuel
 induction fuel with
 |zero=>
  intro listed a w _ hr hlk hy hS H;refine⟨fun h=>(by rw[h] at hr;cases hr),fun j hj=> ?_⟩
  by_cases hji:j=i
  ·subst hji;exact hy.wpOp hi (hY _ _ hlk hS) ⟨(hSi _ _).2 hS,H⟩
  ·have:=ready_mono hj hji
   rw[H.1] at this
   cases this
 |succ fuel ih=>
  intro listed a w hfree hr hlk hy hS H;refine⟨fun h=>(by rw[h] at hr;cases hr),fun j hj=> ?_⟩
  by_cases hji:j=i
  ·subst hji;exact hy.wpOp hi (hY _ _ hlk hS) ⟨(hSi _ _).2 hS,H⟩
  ·have h1:=H.2 j (ready_mono hj hji)
   obtain⟨hjun,oj,hoj,hall⟩:=mem_ready.1 hj
   have hnot:∀e∈oj.after,Region.binds md e=true→e.on≠i:=fun e he hb heq=>by
    have h1:=hall e he hb;have h0:=(mem_ready.1 hr).1;rw[heq] at h1;rcases Nat.lt_or_ge i listed.size with h'|h'
    ·simp[h'] at h0 h1;rw[h0] at h1;cases h1
    ·simp[Array.getElem?_eq_none h'] at h1
   have hjk:j≠k:=fun q=>by
    subst q;obtain⟨e,he,hb,heq⟩:=hki;rw[hok] at hoj
    cases hoj
    exact hnot e he hb heq
   have h2:=wpOp_putIf hoj (hfree j oj hoj hji hjun hnot) (fun cs b=>hsel i oi cs b hi) (fun cs b=>hsel j oj cs b hoj) hQ hy h1
   have hfree':∀k ok,ops[k]? =some ok→k≠i→(listed.setIfInBounds j true).getD k true=false →
    (∀e∈ok.after,Region.binds md e=true→e.on≠i)→oi.apart ops ok=true:=fun k ok hk hki hun hno=>by
    refine hfree k ok hk hki ?_ hno
    by_cases hjk:j=k
    ·subst hjk;exact hjun
    ·rw[getD_set_ne true hjk] at hun;exact hun
   refine wpOp_mono (fun a' w' h3=> ?_) h2;have hc:(listed.setIfInBounds i true).setIfInBounds j true=(listed.setIfInBounds j true).setIfInBounds i true:=Array.setIfInBounds_comm _ _ (Ne.symm hji)
   have hS2:S (listed.setIfInBounds j true) w':=by
    have:=h3.2.1;rw[hc] at this;exact(hSi _ _).1 this
   refine⟨hS2,ih (listed.setIfInBounds j true) a' w' hfree' (ready_mono hr (Ne.symm hji)) ?_ h3.1 hS2 ?_⟩
   ·rw[getD_set_ne true hjk];exact hlk
   ·rw[←hc]
    exact h3.2.2
theorem qI(i k:Nat){oi ok:Oper}{v:Value}(Y:World→Prop){fuel:Nat}{listed:Array Bool}{a:Act}{w:World}(hi:ops[i]? =some oi)(hok:ops[k]? =some ok)(hki:(ok.after.any fun e=>Region.binds md e&&e.on==i)=true)(hik:k≠i)
 (hs:Region.noSelect ops=true) (hf:Region.free md ops listed i=true) (hr:(Region.ready md ops listed).contains i=true) (hlk:listed.getD k true=false)
 (hQ:∀c a w,Q (.panic c) (a.put oi.dst v) w→Q (.panic c) a w) (hSi:∀(L:Array Bool) w,S (L.setIfInBounds i true) w↔S L w) (hY:∀L w,L.getD k true=false→S L w→Y w) (hS:S listed w)
 (hw:Region.wanted oi (yielded ops a.tmps)=true) (hy:∀w,Y w→(execOp a.eval oi).run P w= .ok (.value v) w)
 (h:S (listed.setIfInBounds i true) w→rZ P md ops Q S fuel (listed.setIfInBounds i true) (a.put oi.dst v) w):rZ P md ops Q S (fuel+1) listed a w:=by
 have hki':∃e∈ok.after,Region.binds md e=true∧e.on=i:=by
  rw[Array.any_eq_true'] at hki;obtain⟨e,he,hb⟩:=hki;simp only[Bool.and_eq_true,beq_iff_eq] at hb;exact⟨e,he,hb.1,hb.2⟩
 exact wpAnyT_first hi hok hki' hik hY hSi (Region.noSelect_spec hs) hQ fuel listed a w (Region.free_spec hi hf) (by simpa using hr) hlk (Or.inl ⟨hw,hy⟩) hS (h ((hSi _ _).2 hS))
theorem pM(i:Nat){o:Oper}{fuel:Nat}{listed:Array Bool}{a:Act}{w:World}(hr:Region.ready md ops listed= [i])(ho:ops[i]? =some o)
 (h:∀K':Act→World→Prop,Shut (∀a w,S (listed.setIfInBounds i true) w→rZ P md ops Q S fuel (listed.setIfInBounds i true) a w→K' a w)→if Region.wanted o (yielded ops a.tmps)=true then Oper.wp P o a w K' Q else K' (a.put o.dst undef) w):rZ P md ops Q S (fuel+1) listed a w:=
 ⟨fun h0=>absurd (hr.symm.trans h0) aCq,fun j hj=>by
   rw[hr] at hj;obtain rfl:j=i:=by simpa using hj
   exact wpOp_step ho (fun K' hK=>h K' (fun a w hS hW=>hK a w ⟨hS,hW⟩))⟩
theorem aBa{listed:Array Bool}{a:Act}{w:World}(hr:Region.ready md ops listed= [])(h:Q .normal a w):∀fuel,rZ P md ops Q S fuel listed a w
 |0=>⟨hr,h⟩
 |_+1=>⟨fun _=>h,by rw[hr];simp⟩
theorem aBb{id:Nat}{a:Act}{w:World}(hm:P.follows .mixedOrders=true)(h:rZ P .any ops Q S ops.size (Array.replicate ops.size false) a w.drew):(Code.region id ops true).wp P Q a w:=
 wp_region_any hm (aC1 _ _ _ _ h)
end
end Go.Proofs.YtignanmmgaldeaaGreatDoor
namespace Go.Proofs.YtignanmmgaldeaaGreatDoor
open Go
section
variable {P:Program} {ops:Array Oper} {Q:Exit→Act→World→Prop} {a0:Act}
theorem jV{a:Act}{d:Nat}{v:Value}(h:a.eval (.tmp d)=v):a.tmps[d]?.getD undef=v:=by simpa[Act.eval] using h
theorem Agree.congr{vals vals':Nat→Value}{L:Array Bool}{a:Act}(h:Agree ops vals a0 L a)(hv:∀j,L.getD j false=true→vals' j=vals j):Agree ops vals' a0 L a:=
 ⟨h.defers,h.size,fun j d hj hl=>by rw[hv j hl];exact h.done j d hj hl,h.rest⟩
theorem wpAny_J(F:Array Bool→(Nat→Value)→World→Prop)(hsz:∀j d,iT ops j=some d→d<a0.tmps.size)(hdis:∀i j d,iT ops i=some d→iT ops j=some d→i=j)(hac:∀i j,need ops i j=true→j<i)
 (hstep:∀L vals a w i o,ops[i]? =some o→L.getD i false=false→L.size=ops.size→(∀j,need ops i j=true→L.getD j false=true)→Knows ops vals a0 i a→F L vals w→∀K:Act→World→Prop,(∀v w',F (L.setIfInBounds i true) (fun j=>if j=i then v else vals j) w'→K (a.put o.dst v) w')→if Region.wanted o (yielded ops a.tmps)=true then Oper.wp P o a w K Q else K (a.put o.dst undef) w)
 (hend:∀vals a w L,(∀j,j<ops.size→L.getD j false=true)→Agree ops vals a0 L a→F L vals w→Q .normal a w) :
 ∀(n:Nat) (L:Array Bool) (vals:Nat→Value) (a:Act) (w:World),undone L≤n→L.size=ops.size→Agree ops vals a0 L a→F L vals w→wpAny P .any ops Q n L a w
 |0,L,vals,a,w,hn,hs,hA,hF=>by
  have h0:undone L=0:=by omega
  refine⟨?_,hend vals a w L (fun j hj=>qG h0 j aCo) hA hF⟩
  cases hr:Region.ready .any ops L with
  |nil=>rfl
  |cons i r=>
   obtain⟨hu,o,ho,_⟩:=mem_ready.1 (show i∈Region.ready .any ops L by rw[hr];exact List.mem_cons_self);have hlt:i<L.size:=by rw[hs];exact(Array.getElem?_eq_some_iff.1 ho).1
   have h1:=qG h0 i hlt;rw[Array.getD_eq_getD_getElem?,Array.getElem?_eq_getElem hlt] at h1 hu
   simp at h1 hu
   rw[h1] at hu
   cases hu
 |n+1,L,vals,a,w,hn,hs,hA,hF=>by
  refine⟨fun hr=> ?_,fun i hi=> ?_⟩
  ·exact hend vals a w L (fun j hj=>qG (aBp hs hac hr) j aCo) hA hF
  ·obtain⟨hu,o,ho,hall⟩:=mem_ready.1 hi
   have hlt:i<L.size:=by rw[hs];exact(Array.getElem?_eq_some_iff.1 ho).1
   have hf:L.getD i false=false:=by
    rw[Array.getD_eq_getD_getElem?,Array.getElem?_eq_getElem hlt] at hu ⊢
    simpa using hu
   refine wpOp_step ho (fun K' hK=>hstep L vals a w i o ho hf hs (fun j hj=> ?_) (hA.knows hi) hF K' (fun v w' hF'=>hK _ _ ?_))
   ·obtain⟨e,he,hb,rfl⟩:=(qM ho).1 hj
    exact hall e he hb
   ·have hund:=aBo hlt hf
    have hA':Agree ops (fun j=>if j=i then v else vals j) a0 L a:=hA.congr (fun j hj=>if_neg (fun e=>by subst e;rw[hf] at hj;cases hj));have hst:=hA'.step ho hlt hf hsz hdis;rw[if_pos rfl] at hst;exact wpAny_J F hsz hdis hac hstep hend n _ _ _ _ aCo (by simp[hs]) hst hF'
theorem region_J{id:Nat}{ls:List Oper}{w:World}(hm:P.follows .mixedOrders=true)(F:Array Bool→(Nat→Value)→World→Prop)(hB:zK ls a0.tmps.size []=true)(h0:F (Array.replicate ls.length false) (fun _=>undef) w.drew)
 (hstep:∀L vals a w i o,ls[i]? =some o→L.getD i false=false→L.size=ls.length→(∀j,need ls.toArray i j=true→L.getD j false=true)→Knows ls.toArray vals a0 i a→F L vals w→∀K:Act→World→Prop,(∀v w',F (L.setIfInBounds i true) (fun j=>if j=i then v else vals j) w'→K (a.put o.dst v) w')→if Region.wanted o (yielded ls.toArray a.tmps)=true then Oper.wp P o a w K Q else K (a.put o.dst undef) w)
 (hend:∀vals w L,(∀j,j<ls.length→L.getD j false=true)→F L vals w→Q .normal (uH vals ls 0 a0) w):(Code.region id ls.toArray true).wp P Q a0 w:=by
 have hop:∀i o,ls.toArray[i]? =some o→_:=fun i o ho=>qN hB (i:=i) (o:=o) (by simpa using ho)
 have hsz:∀j d,iT ls.toArray j=some d→d<a0.tmps.size:=fun j d hj=>by
  cases ho:ls.toArray[j]? with
  |none=>simp[iT,ho] at hj
  |some o=>simp only[iT,ho,Option.bind_some] at hj;exact((hop j o ho).2.2.1 d hj).1
 have hdis:∀i j d,iT ls.toArray i=some d→iT ls.toArray j=some d→i=j:=fun i j d hi hj=>by
  cases ho:ls.toArray[i]? with
  |none=>simp[iT,ho] at hi
  |some oi=>
   cases ho2:ls.toArray[j]? with
   |none=>simp[iT,ho2] at hj
   |some oj=>
    simp only[iT,ho,ho2,Option.bind_some] at hi hj;rcases Nat.lt_trichotomy i j with h|h|h
    ·exact absurd hi (((hop j oj ho2).2.2.1 d hj).2 i oi h (by simpa using ho))
    ·exact h
    ·exact absurd hj (((hop i oi ho).2.2.1 d hi).2 j oj h (by simpa using ho2))
 have hac:∀i j,need ls.toArray i j=true→j<i:=fun i j hn=>by
  cases ho:ls.toArray[i]? with
  |none=>simp[need,ho] at hn
  |some o=>
   obtain⟨e,he,hb,rfl⟩:=(qM ho).1 hn;exact(hop i o ho).2.1 e he hb
 refine wp_region_any hm (wpAny_J F hsz hdis hac (fun L vals a w i o ho hf hs hn hk hF K hK=>hstep L vals a w i o (by simpa using ho) hf (by simpa using hs) hn hk hF K hK) ?_ _ _ (fun _=>undef) _ _ ?_ aCq Agree.init (by simpa using h0))
 ·intro vals a w L hall hA hF
  obtain⟨L',hs',hall',hA'⟩:=aAl (vals:=vals) hsz hdis ls 0 (Array.replicate ls.toArray.size false) a0 (fun j=>by simp) aCq aCq (fun j hj=>by rw[getD_replicate_false];simp) Agree.init
  have:a=uH vals ls 0 a0:=hA.unique (L:=L) ⟨hA'.defers,hA'.size,fun j d hj hl=>by
   have hlt:j<ls.toArray.size:=by
    cases ho:ls.toArray[j]? with
    |none=>simp[iT,ho] at hj
    |some o=>exact(Array.getElem?_eq_some_iff.1 ho).1
   exact hA'.done j d hj (hall' j hlt),fun d hd=>by
   refine hA'.rest d (fun j hj=> ?_)
   have hlt:j<ls.toArray.size:=by
    cases ho:ls.toArray[j]? with
    |none=>simp[iT,ho] at hj
    |some o=>exact(Array.getElem?_eq_some_iff.1 ho).1
   have:=hd j hj;rw[hall j hlt] at this
   cases this⟩
  rw[this];exact hend vals w L (fun j hj=>hall j (by simpa using hj)) hF
 ·have:undone (Array.replicate ls.toArray.size false)≤(Array.replicate ls.toArray.size false).size:=by
   unfold undone;refine Nat.le_trans List.countP_le_length ?_
   simp
  simpa using this
end
end Go.Proofs.YtignanmmgaldeaaGreatDoor
namespace Go.Proofs.YtignanmmgaldeaaGreatDoor
open Go.RowKit Go.Shelf Go.Proofs.YtignanmmgaldeaaGreatDoorW.PrintWords
theorem NumV.le{w:World}{u v:Value}{z y:Int}{L M:Nat}(h:NumV w u z L)(k:Mag w v y M)(hz:(z.natAbs:Int)≤y):NumV w u z M:=by
 obtain⟨b,u',x,rfl,h1,rfl⟩:=h;refine⟨b,u',x,rfl,h1.le k ?_,rfl⟩;have:=h1.nonneg
 cases b <;> simp at hz <;> omega
theorem quot_mag(u v:Value)(x y:Int)(L M:Nat)(w:World)(hu:Mag w u x L)(hv:Mag w v y M)(h0:0<y)(hL:L≤100000)(hM:M≤100000) :
 Calls Tryz.prog 95 #[.agg #[.bool false,u],.agg #[.bool false,v]] w fun E w'=>∃A1 n1 c1 A2 n2 c2,E= .returned (.tuple #[.agg #[.bool false,.slice A1 n1 c1],.agg #[.bool false,.slice A2 n2 c2]])∧Mag w' (.slice A1 n1 c1) (x/y) L∧Mag w' (.slice A2 n2 c2) (x%y) M∧Below w.heap.size w w':=by
 have hu0:=hu;have hv0:=hv;have hx0:=hu.nonneg;obtain⟨A,n,c,xs,rfl,h1,h2,h3,h4,h5,h6,rfl⟩:=hu;obtain⟨B,m,e,ys,rfl,k1,k2,k3,k4,k5,k6,rfl⟩:=hv;have a1:=h1.1;have a2:=k1.1;refine(quot_same A B n m c e xs ys false (xs.length+1) w h1 k1 h4 k4 (div_all h2 k2 h3 k3 aCo aCo h0)).mono ?_;rintro E w' ⟨A',n',c',B',m',c2,rfl,q1,q2,hB⟩;exact⟨_,_,_,_,_,_,rfl,q1.le (hu0.below hB) (Int.ediv_le_self _ hx0),q2.le (hv0.below hB) (Int.le_of_lt (Int.emod_lt_of_pos _ h0)),hB⟩
theorem quot_numV(u v:Value)(x y:Int)(L M K:Nat)(w:World)(hu:NumV w u x L)(hv:NumV w v y M)(h0:y≠0)(hL:L<K)(hM:M≤K)(hK:K≤99999) :
 Calls Tryz.prog 95 #[u,v] w fun E w'=>∃d1 A1 n1 c1 d2 A2 n2 c2,E= .returned (.tuple #[.agg #[.bool d1,.slice A1 n1 c1],.agg #[.bool d2,.slice A2 n2 c2]])∧NumV w' (.agg #[.bool d1,.slice A1 n1 c1]) (Int.fdiv x y) (K+1)∧NumV w' (.agg #[.bool d2,.slice A2 n2 c2]) (Int.fmod x y) (K+1)∧Below w.heap.size w w':=by
 obtain⟨b,u',x',rfl,⟨A,n,c,xs,rfl,h1,h2,h3,h4,h5,h6,rfl⟩,rfl⟩:=hu;obtain⟨b2,v',y',rfl,⟨B,m,e,ys,rfl,k1,k2,k3,k4,k5,k6,rfl⟩,rfl⟩:=hv;have a1:=h1.1;have a2:=k1.1;have hp:=lX k2;have hY:0<lval ys:=by cases b2 <;> simp at h0 <;> omega
 exact aAu A B n m c e xs ys b b2 K w h1 k1 h4 k4 ((div_all h2 k2 h3 k3 aCo aCo hY).more aCo) h2 k2 k3 aCo aCo aCo hY
theorem sum_shape(u v:Value)(x y:Int)(L:Nat)(w:World)(hu:NumV w u x L)(hv:NumV w v y L)(hL:L≤1000000) :
 Calls Tryz.prog 81 #[u,v] w fun e w'=>∃d A n c,e= .returned (.agg #[.bool d,.slice A n c])∧NumV w' (.agg #[.bool d,.slice A n c]) (x+y) (L+1)∧Below w.heap.size w w':=by
 refine(sum_num u v x y L w hu hv hL).mono ?_;rintro e w' ⟨r,he,hr,hB⟩;obtain⟨d,A,n,c,rfl,hr⟩:=num_open hr;exact⟨d,A,n,c,he,hr,hB⟩
theorem aAi(u v:Value)(x y:Int)(L M:Nat)(w:World)(hu:NumV w u x L)(hv:NumV w v y M)(hL:L≤1000000)(hM:M≤1000000) :
 Calls Tryz.prog 85 #[u,v] w fun e w'=>∃d A n c,e= .returned (.agg #[.bool d,.slice A n c])∧NumV w' (.agg #[.bool d,.slice A n c]) (x*y) (L+M)∧Below w.heap.size w w':=by
 refine(aB8 u v x y L M w hu hv hL hM).mono ?_;rintro e w' ⟨r,he,hr,hB⟩;obtain⟨d,A,n,c,rfl,hr⟩:=num_open hr;exact⟨d,A,n,c,he,hr,hB⟩
theorem numV_sign{w:World}{d:Bool}{v:Value}{z:Int}{L:Nat}(h:NumV w (.agg #[.bool d,v]) z L):if d=true then z≤0 else 0≤z:=by
 obtain⟨b,u,x,he,hm,rfl⟩:=h
 simp at he
 obtain⟨rfl,rfl⟩:=he;have:=hm.nonneg
 cases d <;> simp <;> omega
theorem bezL_none(k:Nat)(Y:Int)(hY:0<Y):bezL (k) 0 Y 1 0=if k=0 then 1 else 0:=by
 cases k with
 |zero=>rfl
 |succ k=>
  rw[bezL,if_neg aCo,if_neg aCo]
  cases k with
  |zero=>rfl
  |succ k=>rw[bezL,Int.zero_emod,if_pos rfl]
def NB(W:World)(g:Nat)(d:Bool)(A:Option Addr)(n c:Nat):Prop:=W.heap[g]? =some (.cells #[.bool d,.slice A n c] 81 (0,0))
theorem NB.c0{W:World}{g:Nat}{d:Bool}{A:Option Addr}{n c:Nat}(h:NB W g d A n c):W.cell? ⟨g,0,none⟩=some (.bool d):=dG h 0 _ rfl
theorem NB.c1{W:World}{g:Nat}{d:Bool}{A:Option Addr}{n c:Nat}(h:NB W g d A n c):W.cell? ⟨g,1,none⟩=some (.slice A n c):=dG h 1 _ rfl
theorem NB.f0{W:World}{g:Nat}{d:Bool}{A:Option Addr}{n c:Nat}(h:NB W g d A n c):W.frozen? ⟨g,0,none⟩=false:=dV h 0
theorem NB.f1{W:World}{g:Nat}{d:Bool}{A:Option Addr}{n c:Nat}(h:NB W g d A n c):W.frozen? ⟨g,1,none⟩=false:=dV h 1
theorem NB.lt{W:World}{g:Nat}{d:Bool}{A:Option Addr}{n c:Nat}(h:NB W g d A n c):g<W.heap.size:=(Array.getElem?_eq_some_iff.1 h).1
theorem NB.below{W W':World}{g:Nat}{d:Bool}{A:Option Addr}{n c:Nat}(h:NB W g d A n c)(hB:Below W.heap.size W W'):NB W' g d A n c:=(hB.block g h.lt).trans h
theorem NB.far{W:World}{g k:Nat}{d:Bool}{A:Option Addr}{n c:Nat}(h:NB W g d A n c)(hk:g≠k)(u v:Value):NB ((W.setCell ⟨k,0,none⟩ u).setCell ⟨k,1,none⟩ v) g d A n c:=(pI hk u v).trans h
theorem NB.put{W:World}{g:Nat}{d:Bool}{A:Option Addr}{n c:Nat}(h:NB W g d A n c)(d2:Bool)(B:Option Addr)(m e:Nat):NB ((W.setCell ⟨g,0,none⟩ (.bool d2)).setCell ⟨g,1,none⟩ (.slice B m e)) g d2 B m e:=nZ h d2 B m e
theorem NB.oM{W:World}{g:Nat}{d:Bool}{A:Option Addr}{n c:Nat}(h:NB W g d A n c){v:Value}{x:Int}{L:Nat}(hm:Mag W v x L)(d2:Bool)(B:Option Addr)(m e:Nat):Mag ((W.setCell ⟨g,0,none⟩ (.bool d2)).setCell ⟨g,1,none⟩ (.slice B m e)) v x L:=lG hm h d2 B m e
theorem NB.qJ{W:World}{g:Nat}{d:Bool}{A:Option Addr}{n c:Nat}(h:NB W g d A n c){v:Value}{x:Int}{L:Nat}(hm:NumV W v x L)(d2:Bool)(B:Option Addr)(m e:Nat):NumV ((W.setCell ⟨g,0,none⟩ (.bool d2)).setCell ⟨g,1,none⟩ (.slice B m e)) v x L:=hm.set2 h d2 B m e
theorem NB.alloc{W:World}{g:Nat}{d:Bool}{A:Option Addr}{n c:Nat}(h:NB W g d A n c)(o:Obj):NB (W.alloc o) g d A n c:=(Below.heap_alloc _ _ _ h.lt).trans h
theorem NB.new(W:World)(d:Bool)(A:Option Addr)(n c:Nat):NB (W.alloc (.cells #[.bool d,.slice A n c] 81)) W.heap.size d A n c:=World.alloc_heap_new W _
theorem zS(W:World)(d d2:Bool)(A B:Option Addr)(n c m c2:Nat):NB ((W.alloc (.cells #[.bool d,.slice A n c] 81)).alloc (.cells #[.bool d2,.slice B m c2] 81)) W.heap.size d A n c∧NB ((W.alloc (.cells #[.bool d,.slice A n c] 81)).alloc (.cells #[.bool d2,.slice B m c2] 81)) (W.heap.size+1) d2 B m c2∧Below W.heap.size W ((W.alloc (.cells #[.bool d,.slice A n c] 81)).alloc (.cells #[.bool d2,.slice B m c2] 81))∧((W.alloc (.cells #[.bool d,.slice A n c] 81)).alloc (.cells #[.bool d2,.slice B m c2] 81)).heap.size=W.heap.size+2:=
 ⟨(NB.new W d A n c).alloc _,by have:=NB.new (W.alloc (.cells #[.bool d,.slice A n c] 81)) d2 B m c2;rwa [World.size_alloc] at this,((Below.refl _ W).alloc (Nat.le_refl _) _).alloc aCq _,by simp⟩
theorem bez_start(W:World):NB (((W.alloc (.cells #[.int .i64 1] 3)).alloc (.cells #[.bool false,.slice (some ⟨W.heap.size,0,none⟩) 1 1] 81)).alloc (.cells #[.bool false,.slice none 0 0] 81)) (W.heap.size+1) false (some ⟨W.heap.size,0,none⟩) 1 1 ∧
 NB (((W.alloc (.cells #[.int .i64 1] 3)).alloc (.cells #[.bool false,.slice (some ⟨W.heap.size,0,none⟩) 1 1] 81)).alloc (.cells #[.bool false,.slice none 0 0] 81)) (W.heap.size+1+1) false none 0 0 ∧
 Mag (((W.alloc (.cells #[.int .i64 1] 3)).alloc (.cells #[.bool false,.slice (some ⟨W.heap.size,0,none⟩) 1 1] 81)).alloc (.cells #[.bool false,.slice none 0 0] 81)) (.slice (some ⟨W.heap.size,0,none⟩) 1 1) 1 456 ∧
 Below W.heap.size W (((W.alloc (.cells #[.int .i64 1] 3)).alloc (.cells #[.bool false,.slice (some ⟨W.heap.size,0,none⟩) 1 1] 81)).alloc (.cells #[.bool false,.slice none 0 0] 81)):=by
 obtain⟨t1,t2,t3,t4⟩:=zS (W.alloc (.cells #[.int .i64 1] 3)) false false (some ⟨W.heap.size,0,none⟩) none 1 1 0 0;rw[World.size_alloc] at t1 t2;exact⟨t1,t2,(mag_one W 456 aCo).below t3,(((Below.refl _ W).alloc (Nat.le_refl _) _).alloc aCq _).alloc (by simp;omega) _⟩
theorem yD{fn:Func}{t u v x:Tmp}(h:fn.results= #[.tmp t,.tmp u,.tmp v,.tmp x])(tmps:Array Value)(P:Program)(w:World) :
 (results fn tmps).run P w= .ok (.tuple #[tmps.getD t undef,tmps.getD u undef,tmps.getD v undef,tmps.getD x undef]) w:=by
 simp[results,h]
def BG(r x u y:Value)(p s V:Int)(B:Nat):Nat→Value→Bool→World→Prop
 |0,z,_,_=>z=r
 |1,z,_,_=>z=x
 |2,z,_,_=>z=u
 |3,z,_,w=>∃d A n c,z= .agg #[.bool d,.slice A n c]∧NumV w z p 914
 |4,z,_,w=>∃d A n c,z= .agg #[.bool d,.slice A n c]∧NumV w z (-p) 914
 |5,z,_,w=>∃d A n c,z= .agg #[.bool d,.slice A n c]∧NumV w z s 915
 |6,z,_,_=>z=y
 |7,z,_,w=>∃d A n c d2 A2 n2 c2,z= .tuple #[.agg #[.bool d,.slice A n c],.agg #[.bool d2,.slice A2 n2 c2]]∧NumV w (.agg #[.bool d,.slice A n c]) V 917
 |8,z,_,w=>∃d A n c d2 A2 n2 c2,z= .tuple #[.agg #[.bool d,.slice A n c],.agg #[.bool d2,.slice A2 n2 c2]]∧NumV w (.agg #[.bool d,.slice A n c]) V 917
 |9,z,_,w=>∃d A n c,z= .agg #[.bool d,.slice A n c]∧NumV w z V 917
 |10,z,_,w=>∃d A n c,z= .agg #[.bool d,.slice A n c]
 |11,z,t,w=>∃g d A n c,z= .pointer (some ⟨g,0,none⟩)∧NB w g d A n c∧B≤g∧(t=true→NumV w (.agg #[.bool d,.slice A n c]) V 917)
 |12,z,_,w=>∃g d A n c,z= .pointer (some ⟨g,0,none⟩)∧NB w g d A n c∧B≤g
 |_,_,_,_=>True
def BF(r x u y:Value)(p s V:Int)(W9:World)(L:Array Bool)(vals:Nat→Value)(w:World):Prop:=
 Below W9.heap.size W9 w∧(L.getD 11 false=true→L.getD 12 false=true→vals 11≠vals 12)∧(L.getD 13 false=true→L.getD 11 false=true)∧∀j,L.getD j false=true→BG r x u y p s V W9.heap.size j (vals j) (L.getD 13 false) w
theorem BG.below{r x u y:Value}{p s V:Int}{B:Nat}{w w':World}(hB:Below w.heap.size w w'):∀(j:Nat) (z:Value) (t:Bool),BG r x u y p s V B j z t w→BG r x u y p s V B j z t w'
 |0,_,_,h=>h
 |1,_,_,h=>h
 |2,_,_,h=>h
 |3,_,_,⟨d,A,n,c,e,h⟩=>⟨d,A,n,c,e,h.below hB⟩
 |4,_,_,⟨d,A,n,c,e,h⟩=>⟨d,A,n,c,e,h.below hB⟩
 |5,_,_,⟨d,A,n,c,e,h⟩=>⟨d,A,n,c,e,h.below hB⟩
 |6,_,_,h=>h
 |7,_,_,⟨d,A,n,c,d2,A2,n2,c2,e,h⟩=>⟨d,A,n,c,d2,A2,n2,c2,e,h.below hB⟩
 |8,_,_,⟨d,A,n,c,d2,A2,n2,c2,e,h⟩=>⟨d,A,n,c,d2,A2,n2,c2,e,h.below hB⟩
 |9,_,_,⟨d,A,n,c,e,h⟩=>⟨d,A,n,c,e,h.below hB⟩
 |10,_,_,h=>h
 |11,_,_,⟨g,d,A,n,c,e,h,h2,h3⟩=>⟨g,d,A,n,c,e,h.below hB,h2,fun ht=>(h3 ht).below hB⟩
 |12,_,_,⟨g,d,A,n,c,e,h,h2⟩=>⟨g,d,A,n,c,e,h.below hB,h2⟩
 |_+13,_,_,h=>h
theorem BF.step{r x u y:Value}{p s V:Int}{W9:World}{L:Array Bool}{vals:Nat→Value}{w:World}(h:BF r x u y p s V W9 L vals w){i:Nat}(hi:i<L.size)(h13:i≠13){w':World}(hB:Below w.heap.size w w'){v:Value}
 (hG:BG r x u y p s V W9.heap.size i v (L.getD 13 false) w') (hne:(i=11→L.getD 12 false=true→v≠vals 12)∧(i=12→L.getD 11 false=true→vals 11≠v)):BF r x u y p s V W9 (L.setIfInBounds i true) (fun j=>if j=i then v else vals j) w':=by
 refine⟨h.1.trans (hB.mono h.1.size),fun h1 h2=> ?_,fun h1=> ?_,fun j hj=> ?_⟩
 ·rw[jI _ _ _ hi] at h1 h2
  dsimp only
  by_cases e1:11=i
  ·have e2:¬12=i:=by omega
   rw[if_neg e2] at h2;rw[if_pos e1,if_neg e2];exact hne.1 e1.symm h2
  ·rw[if_neg e1] at h1
   by_cases e2:12=i
   ·rw[if_neg e1,if_pos e2]
    exact hne.2 e2.symm h1
   ·rw[if_neg e2] at h2
    rw[if_neg e1,if_neg e2];exact h.2.1 h1 h2
 ·rw[jI _ _ _ hi,if_neg (Ne.symm h13)] at h1
  rw[jI _ _ _ hi]
  split
  ·rfl
  ·exact h.2.2.1 h1
 ·rw[jI _ _ _ hi] at hj
  rw[jI _ _ _ hi,if_neg (Ne.symm h13)]
  dsimp only
  by_cases e:j=i
  ·rw[if_pos e,e];exact hG
  ·rw[if_neg e] at hj ⊢
   exact BG.below hB j _ _ (h.2.2.2 j hj)
theorem BF.store{r x u y:Value}{p s V:Int}{W9:World}{L:Array Bool}{vals:Nat→Value}{w:World}(h:BF r x u y p s V W9 L vals w){i:Nat}(hi:i<L.size){g:Nat}{d0:Bool}{A0:Option Addr}{n0 c0:Nat}(hN:NB w g d0 A0 n0 c0)(hg:W9.heap.size≤g)(d:Bool)(A:Option Addr)(n c:Nat)
 (hc:(i=13∧vals 11= .pointer (some ⟨g,0,none⟩)∧NumV w (.agg #[.bool d,.slice A n c]) V 917∧L.getD 11 false=true)∨(i=14∧vals 12= .pointer (some ⟨g,0,none⟩)∧L.getD 12 false=true)) :
 BF r x u y p s V W9 (L.setIfInBounds i true) (fun j=>if j=i then undef else vals j) ((w.setCell ⟨g,0,none⟩ (.bool d)).setCell ⟨g,1,none⟩ (.slice A n c)):=by
 refine⟨jL h.1 hg _ _,fun h1 h2=> ?_,fun h1=> ?_,fun j hj=> ?_⟩
 ·rw[jI _ _ _ hi,if_neg aCo] at h1 h2
  dsimp only
  rw[if_neg aCo,if_neg aCo];exact h.2.1 h1 h2
 ·rw[jI _ _ _ hi] at h1 ⊢
  rw[if_neg aCo];rcases hc with ⟨q,_,_,hl⟩|⟨q,_,_⟩
  ·exact hl
  ·rw[if_neg aCo] at h1
   exact h.2.2.1 h1
 ·rw[jI _ _ _ hi] at hj
  dsimp only
  have keep:∀{z:Value} {q:Int} {M:Nat},NumV w z q M→NumV ((w.setCell ⟨g,0,none⟩ (.bool d)).setCell ⟨g,1,none⟩ (.slice A n c)) z q M:=fun hz=>hN.qJ hz d A n c
  by_cases e:j=i
  ·rw[if_pos e,e]
   rcases hc with ⟨q,_⟩|⟨q,_⟩ <;> subst q <;> trivial
  ·rw[if_neg e] at hj ⊢
   have hk:=h.2.2.2 j hj;have hlt:j<13∨13≤j:=by omega
   rcases hlt with hlt|hlt
   ·obtain rfl|rfl|rfl|rfl|rfl|rfl|rfl|rfl|rfl|rfl|rfl|rfl|rfl:j=0∨j=1∨j=2∨j=3∨j=4∨j=5∨j=6∨j=7∨j=8∨j=9∨j=10∨j=11∨j=12:=by omega
    ·exact hk
    ·exact hk
    ·exact hk
    ·obtain⟨d',A',n',c',e',h'⟩:=hk;exact⟨d',A',n',c',e',keep h'⟩
    ·obtain⟨d',A',n',c',e',h'⟩:=hk;exact⟨d',A',n',c',e',keep h'⟩
    ·obtain⟨d',A',n',c',e',h'⟩:=hk;exact⟨d',A',n',c',e',keep h'⟩
    ·exact hk
    ·obtain⟨d',A',n',c',d2,A2,n2,c2,e',h'⟩:=hk;exact⟨d',A',n',c',d2,A2,n2,c2,e',keep h'⟩
    ·obtain⟨d',A',n',c',d2,A2,n2,c2,e',h'⟩:=hk;exact⟨d',A',n',c',d2,A2,n2,c2,e',keep h'⟩
    ·obtain⟨d',A',n',c',e',h'⟩:=hk;exact⟨d',A',n',c',e',keep h'⟩
    ·exact hk
    ·obtain⟨g',d',A',n',c',e',h',h2,h3⟩:=hk
     rcases hc with ⟨q,hv,hnum,_⟩|⟨q,hv,hl⟩
     ·rw[hv] at e'
      injection e' with e'
      injection e' with e'
      injection e' with e'
      subst e';exact⟨g,d,A,n,c,hv,h'.put d A n c,h2,fun _=>keep hnum⟩
     ·have hne:=h.2.1 hj hl
      rw[hv,e'] at hne;have hne2:g'≠g:=fun q=>hne (by rw[q])
      refine⟨g',d',A',n',c',e',h'.far hne2 _ _,h2,fun ht=>keep (h3 ?_)⟩;rw[jI _ _ _ hi,if_neg aCo] at ht;exact ht
    ·obtain⟨g',d',A',n',c',e',h',h2⟩:=hk
     rcases hc with ⟨q,hv,hnum,hl⟩|⟨q,hv,_⟩
     ·have hne:=h.2.1 hl hj
      rw[hv,e'] at hne;have hne2:g'≠g:=fun q=>hne (by rw[q])
      exact⟨g',d',A',n',c',e',h'.far hne2 _ _,h2⟩
     ·rw[hv] at e'
      injection e' with e'
      injection e' with e'
      injection e' with e'
      subst e';exact⟨g,d,A,n,c,hv,h'.put d A n c,h2⟩
   ·obtain⟨k,rfl⟩:∃k,j=k+13:=⟨j-13,by omega⟩
    trivial
structure BezW(W0:World)(B0 gr gs gb gn:Nat)(Y F g:Int)(R S:Int)(wr:World):Prop where
 h:∃(k:Nat) (P Q:Int) (Ar As:Option Addr) (nr cr ns cs:Nat) (db dn:Bool) (Ab An:Option Addr) (nb cb nn cn:Nat),
  NB wr gr false Ar nr cr∧NB wr gs false As ns cs∧NB wr gb db Ab nb cb∧NB wr gn dn An nn cn ∧
  Mag wr (.slice Ar nr cr) R 456∧Mag wr (.slice As ns cs) S 456∧NumV wr (.agg #[.bool db,.slice Ab nb cb]) P 456∧NumV wr (.agg #[.bool dn,.slice An nn cn]) Q 456 ∧
  BezOK Y R S P Q∧S.toNat≤k∧bezL k R S P Q=F∧gcdI R S=g
 b:Below B0 W0 wr
end Go.Proofs.YtignanmmgaldeaaGreatDoor
end
section
set_option linter.unusedVariables false
set_option linter.unusedSimpArgs false
set_option maxRecDepth 100000
set_option maxHeartbeats 4000000
namespace Go.Proofs.YtignanmmgaldeaaGreatDoor
open Go.RowKit Go.Shelf Go.Proofs.YtignanmmgaldeaaGreatDoorW.PrintWords
theorem sgn_fits(z:Int): -9223372036854775808≤sgnI z∧sgnI z≤9223372036854775807:=by
 unfold sgnI
 split
 ·omega
 ·split <;> omega
theorem bezout_ok(a b:ByteArray)(w:World)(ha0:chkI a=0)(hb0:chkI b=0)(ha:a.size≤9223372036854775807)(hb:b.size≤9223372036854775807)(hz:aN b≠0)(hG:GW w) :
 Calls Tryz.prog 32 #[.string a,.string b] w fun e w'=>e= .returned (.tuple #[.string (text (gcdI (aN a) (aN b))),.string (text (bezU (aN a) (aN b))),.string (text (bezV (aN a) (aN b))),.int .i64 0])∧Below w.heap.size w w':=by
 have HP:=Lib.hid (fun w=>kU a b w ha0 hb0 ha hb);have HG:=Lib.hid hG;have HZ:=Lib.hid hz;go_enter Tryz.func32,Tryz.ntmps32
 clear ha0 hb0 ha hb hG hz
 go_wp2_with fail
 refine(HP.out _).mono ?_;rintro e w1 ⟨d,A,n,c,d2,B,m,c2,rfl,hn1,hn2,hB⟩;have hm1:=oD hn1;have hm2:=oD hn2;have hm0:m≠0:=fun q=>HZ.out (by have:=(mW hm2).2 q;omega)
 have e3:((m:Int)==0)=false:=by simpa using hm0
 have e4:¬(m:Int)=0:=by omega
 have hb0:((w1.alloc (.cells #[.bool d,.slice A n c] 81)).alloc (.cells #[.bool d2,.slice B m c2] 81)).heap[w1.heap.size]? =some (.cells #[.bool d,.slice A n c] 81):=(Below.heap_alloc _ _ _ aCq).trans (World.alloc_heap_new w1 _)
 have hb1:((w1.alloc (.cells #[.bool d,.slice A n c] 81)).alloc (.cells #[.bool d2,.slice B m c2] 81)).heap[w1.heap.size+1]? =some (.cells #[.bool d2,.slice B m c2] 81):=by
  have:=World.alloc_heap_new (w1.alloc (.cells #[.bool d,.slice A n c] 81)) (.cells #[.bool d2,.slice B m c2] 81)
  rwa [World.size_alloc] at this
 have hBa:Below w1.heap.size w1 ((w1.alloc (.cells #[.bool d,.slice A n c] 81)).alloc (.cells #[.bool d2,.slice B m c2] 81)):=((Below.refl _ w1).alloc (Nat.le_refl _) _).alloc aCq _;have hsz:((w1.alloc (.cells #[.bool d,.slice A n c] 81)).alloc (.cells #[.bool d2,.slice B m c2] 81)).heap.size=w1.heap.size+2:=by simp
 have HN1:=Lib.hid (hn1.below hBa);have HN2:=Lib.hid (hn2.below hBa);have HM1:=Lib.hid (hm1.below hBa);have HM2:=Lib.hid (hm2.below hBa);have HB:=Lib.hid (hB.trans (hBa.mono hB.size));have hsw:=hB.size;clear hn1 hn2 hm1 hm2 hB HP hm0
 go_wp2_with fail
 obtain⟨W5,hW5⟩:∃W5,(w1.alloc (.cells #[.bool d,.slice A n c] 81)).alloc (.cells #[.bool d2,.slice B m c2] 81)=W5:=⟨_,rfl⟩
 rw[hW5] at hb0 hb1 hsz HN1 HN2 HM1 HM2 HB ⊢;clear hW5 hBa;have NX:NB W5 w1.heap.size d A n c:=hb0;have NY:NB W5 (w1.heap.size+1) d2 B m c2:=hb1;clear hb0 hb1;have HS0:=Lib.hid hsz;have HKB:Hid (∀v:World,Below W5.heap.size W5 v→v.cell? ⟨w1.heap.size,1,none⟩=some (.slice A n c)∧v.cell? ⟨w1.heap.size+1,1,none⟩=some (.slice B m c2)):=Lib.hid fun v hB=>⟨(NX.below hB).c1,(NY.below hB).c1⟩
 have HNX:=Lib.hid NX;have HNY:=Lib.hid NY;clear HZ NX NY
 go_upto_region 7 with fail
 go_cut [12,13] (fun s12 s13 wx=>∃(gr gs:Nat) (W7:World),W7=wx∧s12= .pointer (some ⟨gr,0,none⟩)∧s13= .pointer (some ⟨gs,0,none⟩)∧W5.heap.size≤gr∧W5.heap.size≤gs∧gs≠gr∧Hid (NB W7 gr false A n c)∧Hid (NB W7 gs false B m c2)∧Hid (Below W5.heap.size W5 W7))
 case first=>
  go_region_held3 (fun w'=>w'.cell? ⟨w1.heap.size,1,none⟩=some (.slice A n c)∧w'.cell? ⟨w1.heap.size+1,1,none⟩=some (.slice B m c2)) (first|assumption|exact HKB.out _ (by repeat(first|exact Below.refl _ _|apply cZ|apply bG))) (fail)
  all_goals(
   first
    |(obtain⟨t1,t2,t3,t4⟩:=zS W5 false false A B n c m c2
      rw[hsz] at t1 t2
      go_wp2_with fail
      go_meet
      exact⟨_,_,_,rfl,rfl,rfl,Nat.le_of_eq hsz,by omega,by omega,Lib.hid t1,Lib.hid t2,Lib.hid t3.drew⟩)
    |(obtain⟨t1,t2,t3,t4⟩:=zS W5 false false B A m c2 n c
      rw[hsz] at t1 t2
      go_wp2_with fail
      go_meet
      exact⟨_,_,_,rfl,rfl,rfl,by omega,Nat.le_of_eq hsz,by omega,Lib.hid t2,Lib.hid t1,Lib.hid t3.drew⟩))
 case rest=>
  obtain⟨gr,gs,W7,hW7,rfl,rfl,o1,o2,o3,HR7,HS7,HB7⟩:=hcut;subst hW7;clear HKB
  go_wp2_with fail
  obtain⟨l1,l2,l3,l4⟩:=bez_start W7;have l5:=HR7.out.lt;have l6:=HS7.out.lt;have hY0:=HM2.out.nonneg;have hX0:=HM1.out.nonneg
  have hY1:0<((aN b).natAbs:Int):=by
   have:((aN b).natAbs:Int)≠0:=fun q=>e4 (by exact_mod_cast (mW HM2.out).1 q)
   omega
  obtain⟨WL,hWL⟩:∃WL,(((W7.alloc (.cells #[.int .i64 1] 3)).alloc (.cells #[.bool false,.slice (some ⟨W7.heap.size,0,none⟩) 1 1] 81)).alloc (.cells #[.bool false,.slice none 0 0] 81))=WL:=⟨_,rfl⟩
  rw[hWL] at l1 l2 l3 l4 ⊢;have l7:W5.heap.size≤W7.heap.size+1:=by have:=HB7.out.size;omega
  have l8:W5.heap.size≤W7.heap.size+1+1:=by omega
  have d1:gr≠W7.heap.size+1:=by omega
  have d2':gr≠W7.heap.size+1+1:=by omega
  have d3:gs≠W7.heap.size+1:=by omega
  have d4:gs≠W7.heap.size+1+1:=by omega
  have d5:W7.heap.size+1+1≠W7.heap.size+1:=by omega
  have HST:Hid (∃R S,BezW W5 W5.heap.size gr gs (W7.heap.size+1) (W7.heap.size+1+1) (aN b).natAbs (bezL (aN b).natAbs (aN a).natAbs (aN b).natAbs 1 0) (gcdI (aN a).natAbs (aN b).natAbs) R S WL):=
   Lib.hid ⟨_,_,⟨(aN b).natAbs,1,0,_,_,_,_,_,_,_,_,_,_,_,_,_,_,HR7.out.below l4,HS7.out.below l4,l1,l2,HM1.out.below (HB7.out.trans (l4.mono HB7.out.size)),HM2.out.below (HB7.out.trans (l4.mono HB7.out.size)),qX l3,⟨false,_,0,rfl,mag_nil _ _,rfl⟩,bezOK_start hX0 hY1,by omega,rfl,rfl⟩,HB7.out.trans (l4.mono HB7.out.size)⟩
  clear l1 l2 l3 l4 l5 l6 HR7 HS7 hWL;generalize W7.heap.size+1+1=gn at l8 d2' d4 d5 HST ⊢;generalize W7.heap.size+1=gb at l7 d1 d3 d5 HST ⊢;clear HB7
  go_loopw [] (fun wr=>Hid (∃R S,BezW W5 W5.heap.size gr gs gb gn (aN b).natAbs (bezL (aN b).natAbs (aN a).natAbs (aN b).natAbs 1 0) (gcdI (aN a).natAbs (aN b).natAbs) R S wr)) (fun wz=>magN wz ((wz.cell? ⟨gs,1,none⟩).getD undef))
  case atStart=>exact HST
  case round=>
   clear HST;obtain⟨R,Z,⟨k,P,Q,Ar,As,nr,cr,ns,cs,db,dn,Ab,An,nb,cb,nn,cn,n1,n2,n3,n4,m1,m2,v1,v2,hok,hk,hF,hg⟩,hBr⟩:=hrel.out;have hS0:=m2.nonneg;have hR0:=m1.nonneg;have hz:=mW m2
   by_cases h0:ns=0
   ·obtain rfl:Z=0:=hz.2 h0
    subst h0
    have hPF:P=bezL (aN b).natAbs (aN a).natAbs (aN b).natAbs 1 0:=by
     rw[←hF]
     cases k <;> simp[bezL]
    have hRg:R=gcdI (aN a) (aN b):=by rw[yS hR0,aAb] at hg;exact hg
    subst hRg;have hbz:aN b≠0:=by omega
    have hg0:0<gcdI (aN a) (aN b):=yC hbz;have hq0:0<((aN b).natAbs:Int)/gcdI (aN a) (aN b):=Int.ediv_pos_of_pos_of_dvd hY1 (Int.le_of_lt hg0) (Int.dvd_natAbs.2 (jM _ _));have nx:=HNX.out.below hBr;have ny:=HNY.out.below hBr;have s0:=n2.c0;have s1:=n2.c1;have xa:=nx.c0;have ya:=ny.c1;have ra:=n1.c1;have hxb:w1.heap.size≠gb:=by omega
    have hyb:w1.heap.size+1≠gb:=by omega
    clear hz hok hk hF hg v2 n4 m2 hrel
    go_upto_if 75 with fail
    go_cut [] (fun wx=>∃(wD:World) (db':Bool),wD=wx∧Hid (NB wD gr false Ar nr cr)∧Hid (NB wD gb db' Ab nb cb)∧Hid (NB wD w1.heap.size d A n c)∧Hid (NB wD (w1.heap.size+1) d2 B m c2)∧Hid (Mag wD (.slice Ar nr cr) (gcdI (aN a) (aN b)) 456)∧Hid (NumV wD (.agg #[.bool db',.slice Ab nb cb]) (bezP (aN a) (aN b)) 456)∧Hid (Below W5.heap.size W5 wD))
    case first=>
     cases d with
     |false=>
      have hP:P=bezP (aN a) (aN b):=by
       have h1:=numV_sign HN1.out;unfold bezP;rw[if_neg (by simp at h1;omega)];exact hPF
      subst hP
      go_wp2_with fail
      go_meet
      exact⟨_,_,rfl,Lib.hid n1,Lib.hid n3,Lib.hid nx,Lib.hid ny,Lib.hid m1,Lib.hid v1,Lib.hid hBr⟩
     |true=>
      have hP: -P=bezP (aN a) (aN b):=by
       have h1:=numV_sign HN1.out;unfold bezP
       by_cases ha0:aN a<0
       ·rw[if_pos ha0,hPF]
       ·rw[if_neg ha0,hPF]
        have:aN a=0:=by simp at h1;omega
        rw[this,Int.natAbs_zero,show((0:Nat):Int)=0 from rfl,bezL_none _ _ aCo,if_neg aCo];rfl
      have ba:=n3.c0;have bb:=n3.c1
      go_wp2_with fail
      refine(qU db Ab nb cb wr).mono ?_;rintro e w2 ⟨rfl,hB2⟩;have k3:=n3.below hB2;have bc:=k3.c0;have bd:=k3.c1;have be:=k3.f0;have bf:=k3.f1
      go_wp2_with fail
      go_meet
      refine⟨_,!db,rfl,Lib.hid ((n1.below hB2).far d1 _ _),Lib.hid (k3.put _ _ _ _),Lib.hid ((nx.below hB2).far hxb _ _),Lib.hid ((ny.below hB2).far hyb _ _),Lib.hid (k3.oM (m1.below hB2) _ _ _ _),Lib.hid ?_,Lib.hid (jL (hBr.trans (hB2.mono hBr.size)) l7 _ _)⟩;rw[←hP];exact k3.qJ ((v1.neg).below hB2) _ _ _ _
    case rest=>
     obtain⟨wD,db',hwD,G1',G3',GX',GY',MR',NP',BD'⟩:=hcut;subst hwD;clear s0 s1 xa ya ra n1 n3 nx ny m1 v1 hBr hPF;have NX':=Lib.hid (HN1.out.below BD'.out);have NY':=Lib.hid (HN2.out.below BD'.out);have MY':=Lib.hid (HM2.out.below BD'.out);have y0:=GY'.out.c1;have y1:=G1'.out.c1
     go_wp2_with fail
     clear y0 y1;refine(aAa _ _ _ _ 456 456 wD MY'.out MR'.out hg0 aCo aCo).mono ?_;rintro e w3 ⟨A3,n3,c3,A4,n4,c4,rfl,hst,_,hB3⟩;have y0:=(G3'.out.below hB3).c0;have y1:=(G3'.out.below hB3).c1;have HST:=Lib.hid hst;have HB3:=Lib.hid hB3;clear hst hB3
     go_wp2_with fail
     refine(quot_numV _ _ _ _ 456 456 457 w3 (NP'.out.below HB3.out) (qX HST.out) aCo aCo aCo aCo).mono ?_;rintro e w4 ⟨d5,A5,n5,c5,d6,A6,n6,c6,rfl,_,hu,hB4⟩;have HU:=Lib.hid hu;have HB4:=Lib.hid (HB3.out.trans (hB4.mono HB3.out.size));clear hu hB4 y0 y1
     go_wp2_with fail
     obtain⟨t1,t2,t3,t4⟩:=zS w4 d5 d6 A5 A6 n5 c5 n6 c6;obtain⟨W9,hW9⟩:∃W9,(w4.alloc (.cells #[.bool d5,.slice A5 n5 c5] 81)).alloc (.cells #[.bool d6,.slice A6 n6 c6] 81)=W9:=⟨_,rfl⟩
     rw[hW9] at t1 t2 t3 t4 ⊢;have b9:Below wD.heap.size wD W9.drew:=(HB4.out.trans (t3.mono HB4.out.size)).drew;have g1:NB W9.drew gr false Ar nr cr:=G1'.out.below b9;have gx:NB W9.drew w1.heap.size d A n c:=GX'.out.below b9;have gy:NB W9.drew (w1.heap.size+1) d2 B m c2:=GY'.out.below b9;have gu:NB W9.drew (w4.heap.size+1) d6 A6 n6 c6:=t2;have hU:bezU (aN a) (aN b)=Int.fmod (bezP (aN a) (aN b)) ((aN b).natAbs/gcdI (aN a) (aN b)):=if_neg hbz;have hV:bezV (aN a) (aN b)=Int.fdiv (gcdI (aN a) (aN b)+ -(aN a*bezU (aN a) (aN b))) (aN b):=if_neg hbz;have nu:NumV W9.drew (.agg #[.bool d6,.slice A6 n6 c6]) (bezU (aN a) (aN b)) 458:=by rw[hU];exact HU.out.below t3.drew
     have GU:=Lib.hid gu;have G1:=Lib.hid g1;have NU:=Lib.hid nu;have NX9:=Lib.hid (NX'.out.below b9);have NY9:=Lib.hid (NY'.out.below b9);have MR9:=Lib.hid (MR'.out.below b9);have B9:=Lib.hid (BD'.out.trans (b9.mono BD'.out.size));have HV:=Lib.hid hV;have HK9:Hid (∀v:World,Below W9.drew.heap.size W9.drew v→v.cell? ⟨gr,0,none⟩=some (.bool false)∧v.cell? ⟨gr,1,none⟩=some (.slice Ar nr cr)∧v.cell? ⟨w1.heap.size,0,none⟩=some (.bool d)∧v.cell? ⟨w1.heap.size,1,none⟩=some (.slice A n c)∧v.cell? ⟨w4.heap.size+1,0,none⟩=some (.bool d6)∧v.cell? ⟨w4.heap.size+1,1,none⟩=some (.slice A6 n6 c6)∧v.cell? ⟨w1.heap.size+1,0,none⟩=some (.bool d2)∧v.cell? ⟨w1.heap.size+1,1,none⟩=some (.slice B m c2)):=Lib.hid fun v hB=>⟨(g1.below hB).c0,(g1.below hB).c1,(gx.below hB).c0,(gx.below hB).c1,(gu.below hB).c0,(gu.below hB).c1,(gy.below hB).c0,(gy.below hB).c1⟩
     have kd:=HK9.out W9.drew (Below.refl _ _);clear g1 gx gy gu nu t1 t2 t3 t4 b9 G1' G3' GX' GY' NX' NY' MY' MR' NP' BD' HST HU HB3 HB4 hU hV hW9;refine region_J (by kernel_rfl) (BF (.agg #[.bool false,.slice Ar nr cr]) (.agg #[.bool d,.slice A n c]) (.agg #[.bool d6,.slice A6 n6 c6]) (.agg #[.bool d2,.slice B m c2]) (aN a*bezU (aN a) (aN b)) (gcdI (aN a) (aN b)+ -(aN a*bezU (aN a) (aN b))) (bezV (aN a) (aN b)) W9.drew) (by kernel_rfl) ⟨Below.refl _ _,fun h=>by(rw[getD_replicate_false] at h;cases h),fun h=>by(rw[getD_replicate_false] at h;cases h),fun j h=>by(rw[getD_replicate_false] at h;cases h)⟩ ?_ ?_
     ·intro L vals ac wv i o ho hf hs hn hk hF K hK
      have hlt:i<15:=(List.getElem?_eq_some_iff.1 ho).1;have hi:i<L.size:=by rw[hs];exact hlt
      have hx:=HK9.out wv hF.1;have hall:=Lib.hid hF.2.2.2;have HFF:=Lib.hid hF;clear hF kd;obtain rfl|rfl|rfl|rfl|rfl|rfl|rfl|rfl|rfl|rfl|rfl|rfl|rfl|rfl|rfl:i=0∨i=1∨i=2∨i=3∨i=4∨i=5∨i=6∨i=7∨i=8∨i=9∨i=10∨i=11∨i=12∨i=13∨i=14:=by omega
      all_goals(obtain rfl:=Option.some.inj ho)
      ·have e0:ac.tmps[12]?.getD undef= .pointer (some ⟨gr,0,none⟩):=jV ((hk.rest' 12 (by kernel_rfl)).trans rfl)
       go_simp
       exact hK _ _ (HFF.out.step hi aCr (Below.refl _ _) rfl ⟨fun e=>absurd e aCr,fun e=>absurd e aCr⟩)
      ·have e0:ac.tmps[8]?.getD undef= .pointer (some ⟨w1.heap.size,0,none⟩):=jV ((hk.rest' 8 (by kernel_rfl)).trans rfl)
       go_simp
       exact hK _ _ (HFF.out.step hi aCr (Below.refl _ _) rfl ⟨fun e=>absurd e aCr,fun e=>absurd e aCr⟩)
      ·have e0:ac.tmps[21]?.getD undef= .pointer (some ⟨w4.heap.size+1,0,none⟩):=jV ((hk.rest' 21 (by kernel_rfl)).trans rfl)
       go_simp
       exact hK _ _ (HFF.out.step hi aCr (Below.refl _ _) rfl ⟨fun e=>absurd e aCr,fun e=>absurd e aCr⟩)
      ·have e0:ac.tmps[95]?.getD undef= .agg #[.bool d,.slice A n c]:=jV ((hk.done 1 95 rfl (by kernel_rfl)).trans (hall.out 1 (hn 1 (by kernel_rfl))))
       have e1:ac.tmps[96]?.getD undef= .agg #[.bool d6,.slice A6 n6 c6]:=jV ((hk.done 2 96 rfl (by kernel_rfl)).trans (hall.out 2 (hn 2 (by kernel_rfl))))
       go_simp
       go_at_call 85
       refine(aAi _ _ (aN a) (bezU (aN a) (aN b)) 456 458 wv (NX9.out.below HFF.out.1) (NU.out.below HFF.out.1) aCo aCo).mono ?_;rintro e v1 ⟨dp,Ap,np,cp,rfl,hp,hB5⟩
       dsimp only
       exact hK _ _ (HFF.out.step hi aCr hB5 ⟨_,_,_,_,rfl,hp⟩ ⟨fun e=>absurd e aCr,fun e=>absurd e aCr⟩)
      ·obtain⟨dp,Ap,np,cp,hv,hp⟩:=hall.out 3 (hn 3 (by kernel_rfl))
       have e0:=jV (hk.done 3 97 rfl (by kernel_rfl));rw[hv] at e0 hp
       go_simp
       go_at_call 83
       refine(qU dp Ap np cp wv).mono ?_;rintro e v1 ⟨rfl,hB5⟩
       dsimp only
       exact hK _ _ (HFF.out.step hi aCr hB5 ⟨_,_,_,_,rfl,hp.neg.below hB5⟩ ⟨fun e=>absurd e aCr,fun e=>absurd e aCr⟩)
      ·obtain⟨dp,Ap,np,cp,hv,hp⟩:=hall.out 4 (hn 4 (by kernel_rfl))
       have e0:=jV (hk.done 4 98 rfl (by kernel_rfl));rw[hv] at e0 hp;have e1:ac.tmps[94]?.getD undef= .agg #[.bool false,.slice Ar nr cr]:=jV ((hk.done 0 94 rfl (by kernel_rfl)).trans (hall.out 0 (hn 0 (by kernel_rfl))))
       go_simp
       go_at_call 81
       refine(sum_shape _ _ (gcdI (aN a) (aN b)) (-(aN a*bezU (aN a) (aN b))) 914 wv ((qX (MR9.out.below HFF.out.1)).more aCo) hp aCo).mono ?_;rintro e v1 ⟨ds,As,ns,cs,rfl,hs',hB5⟩
       dsimp only
       exact hK _ _ (HFF.out.step hi aCr hB5 ⟨_,_,_,_,rfl,hs'⟩ ⟨fun e=>absurd e aCr,fun e=>absurd e aCr⟩)
      ·have e0:ac.tmps[9]?.getD undef= .pointer (some ⟨w1.heap.size+1,0,none⟩):=jV ((hk.rest' 9 (by kernel_rfl)).trans rfl)
       go_simp
       exact hK _ _ (HFF.out.step hi aCr (Below.refl _ _) rfl ⟨fun e=>absurd e aCr,fun e=>absurd e aCr⟩)
      ·obtain⟨dp,Ap,np,cp,hv,hp⟩:=hall.out 5 (hn 5 (by kernel_rfl))
       have e0:=jV (hk.done 5 99 rfl (by kernel_rfl));rw[hv] at e0 hp;have e1:ac.tmps[100]?.getD undef= .agg #[.bool d2,.slice B m c2]:=jV ((hk.done 6 100 rfl (by kernel_rfl)).trans (hall.out 6 (hn 6 (by kernel_rfl))))
       go_simp
       go_at_call 95
       refine(quot_numV _ _ _ (aN b) 915 456 916 wv hp (NY9.out.below HFF.out.1) hbz aCo aCo aCo).mono ?_;rintro e v1 ⟨d7,A7,n7,c7,d8,A8,n8,c8,rfl,hv',_,hB5⟩
       dsimp only
       exact hK _ _ (HFF.out.step hi aCr hB5 ⟨_,_,_,_,_,_,_,_,rfl,by rw[HV.out];exact hv'⟩ ⟨fun e=>absurd e aCr,fun e=>absurd e aCr⟩)
      ·obtain⟨d7,A7,n7,c7,d8,A8,n8,c8,hv,hp⟩:=hall.out 7 (hn 7 (by kernel_rfl))
       have e0:=jV (hk.done 7 101 rfl (by kernel_rfl));rw[hv] at e0
       go_simp
       exact hK _ _ (HFF.out.step hi aCr (Below.refl _ _) ⟨_,_,_,_,_,_,_,_,rfl,hp⟩ ⟨fun e=>absurd e aCr,fun e=>absurd e aCr⟩)
      ·obtain⟨d7,A7,n7,c7,d8,A8,n8,c8,hv,hp⟩:=hall.out 8 (hn 8 (by kernel_rfl))
       have e0:=jV (hk.done 8 93 rfl (by kernel_rfl));rw[hv] at e0
       go_simp
       exact hK _ _ (HFF.out.step hi aCr (Below.refl _ _) ⟨_,_,_,_,rfl,hp⟩ ⟨fun e=>absurd e aCr,fun e=>absurd e aCr⟩)
      ·obtain⟨d7,A7,n7,c7,d8,A8,n8,c8,hv,hp⟩:=hall.out 8 (hn 8 (by kernel_rfl))
       have e0:=jV (hk.done 8 93 rfl (by kernel_rfl));rw[hv] at e0
       go_simp
       exact hK _ _ (HFF.out.step hi aCr (Below.refl _ _) ⟨_,_,_,_,rfl⟩ ⟨fun e=>absurd e aCr,fun e=>absurd e aCr⟩)
      ·go_simp
       refine hK _ _ (HFF.out.step hi aCr ((Below.refl _ wv).alloc (Nat.le_refl _) _) ⟨_,_,_,_,_,rfl,NB.new wv _ _ _ _,HFF.out.1.size,fun ht=>absurd (HFF.out.2.2.1 ht) (by rw[hf];decide)⟩ ⟨fun _ hl=> ?_,fun e=>absurd e aCr⟩);obtain⟨g',d',A',n',c',e',h',_⟩:=hall.out 12 hl;rw[e'];intro q
       injection q with q
       injection q with q
       injection q with q
       have:=h'.lt;omega
      ·go_simp
       refine hK _ _ (HFF.out.step hi aCr ((Below.refl _ wv).alloc (Nat.le_refl _) _) ⟨_,_,_,_,_,rfl,NB.new wv _ _ _ _,HFF.out.1.size⟩ ⟨fun e=>absurd e aCr,fun _ hl=> ?_⟩);obtain⟨g',d',A',n',c',e',h',_⟩:=hall.out 11 hl;rw[e'];intro q
       injection q with q
       injection q with q
       injection q with q
       have:=h'.lt;omega
      ·obtain⟨d7,A7,n7,c7,hv,hp⟩:=hall.out 9 (hn 9 (by kernel_rfl))
       obtain⟨g',d',A',n',c',e',h',hg',_⟩:=hall.out 11 (hn 11 (by kernel_rfl));have e0:=jV (hk.done 9 102 rfl (by kernel_rfl));have e1:=jV (hk.done 11 22 rfl (by kernel_rfl));rw[hv] at e0 hp;rw[e'] at e1;have y0:=h'.c0;have y1:=h'.c1;have y2:=h'.f0;have y3:=h'.f1
       go_simp
       exact hK _ _ (HFF.out.store hi h' hg' d7 A7 n7 c7 (.inl ⟨rfl,e',hp,hn 11 (by kernel_rfl)⟩))
      ·obtain⟨d7,A7,n7,c7,hv⟩:=hall.out 10 (hn 10 (by kernel_rfl))
       obtain⟨g',d',A',n',c',e',h',hg'⟩:=hall.out 12 (hn 12 (by kernel_rfl));have e0:=jV (hk.done 10 103 rfl (by kernel_rfl));have e1:=jV (hk.done 12 23 rfl (by kernel_rfl));rw[hv] at e0;rw[e'] at e1;have y0:=h'.c0;have y1:=h'.c1;have y2:=h'.f0;have y3:=h'.f1
       go_simp
       exact hK _ _ (HFF.out.store hi h' hg' d7 A7 n7 c7 (.inr ⟨rfl,e',hn 12 (by kernel_rfl)⟩))
     ·intro vals wv L hl hF
      obtain⟨gv,dv,Av,nv,cv,e',h',hg',hnum⟩:=hF.2.2.2 11 (hl 11 aCr);have hV9:=hnum (hl 13 aCr);simp only[uH,Act.put,List.setIfInBounds_toArray,List.set_cons_zero,List.set_cons_succ];rw[e'];have r1:=G1.out.below hF.1;have r2:=GU.out.below hF.1;have hW:=B9.out.trans (hF.1.mono B9.out.size);have HMR:=Lib.hid (qX (MR9.out.below hF.1));have HNU:=Lib.hid (NU.out.below hF.1);have HNV:=Lib.hid hV9;have HWW:=Lib.hid (HB.out.trans (hW.mono HB.out.size));have HGV:=Lib.hid (HG.out.below HWW.out);have HT1:Hid (∀v:World,Below wv.heap.size wv v→Calls Tryz.prog 88 #[.agg #[.bool false,.slice Ar nr cr]] v fun e w'=>e= .returned (.string (text (gcdI (aN a) (aN b))))∧Below v.heap.size v w'):=Lib.hid fun v hv=>qV _ _ 456 v (HMR.out.below hv) aCo (HGV.out.below hv)
      have HT2:Hid (∀v:World,Below wv.heap.size wv v→Calls Tryz.prog 88 #[.agg #[.bool d6,.slice A6 n6 c6]] v fun e w'=>e= .returned (.string (text (bezU (aN a) (aN b))))∧Below v.heap.size v w'):=Lib.hid fun v hv=>qV _ _ 458 v (HNU.out.below hv) aCo (HGV.out.below hv)
      have HT3:Hid (∀v:World,Below wv.heap.size wv v→Calls Tryz.prog 88 #[.agg #[.bool dv,.slice Av nv cv]] v fun e w'=>e= .returned (.string (text (bezV (aN a) (aN b))))∧Below v.heap.size v w'):=Lib.hid fun v hv=>qV _ _ 917 v (HNV.out.below hv) aCo (HGV.out.below hv)
      have HKC:Hid (∀v:World,Below wv.heap.size wv v→v.cell? ⟨gr,0,none⟩=some (.bool false)∧v.cell? ⟨gr,1,none⟩=some (.slice Ar nr cr)∧v.cell? ⟨w4.heap.size+1,0,none⟩=some (.bool d6)∧v.cell? ⟨w4.heap.size+1,1,none⟩=some (.slice A6 n6 c6)∧v.cell? ⟨gv,0,none⟩=some (.bool dv)∧v.cell? ⟨gv,1,none⟩=some (.slice Av nv cv)):=Lib.hid fun v hB=>⟨(r1.below hB).c0,(r1.below hB).c1,(r2.below hB).c0,(r2.below hB).c1,(h'.below hB).c0,(h'.below hB).c1⟩
      have BQ0:=Lib.hid ((Below.refl wv.heap.size wv).drew);have kd0:=HKC.out _ BQ0.out;clear hF hl hnum hV9 hW r1 r2 h' hg' e' kd HK9 NX9 NY9 MR9 NU GU G1 B9 HV HN1 HN2 HM1 HM2 HNX HNY HMR HNU HNV
      go_wp2_with fail
      go_region_held3 (fun v=>v.cell? ⟨gr,0,none⟩=some (.bool false)∧v.cell? ⟨gr,1,none⟩=some (.slice Ar nr cr)∧v.cell? ⟨w4.heap.size+1,0,none⟩=some (.bool d6)∧v.cell? ⟨w4.heap.size+1,1,none⟩=some (.slice A6 n6 c6)∧v.cell? ⟨gv,0,none⟩=some (.bool dv)∧v.cell? ⟨gv,1,none⟩=some (.slice Av nv cv)) (first|assumption) (first
       |(go_at_call 88;refine(HT1.out _ BQ0.out).mono ?_;rintro e v1 ⟨rfl,hb⟩;have hb2:=BQ0.out.trans (hb.mono BQ0.out.size);have kd1:=HKC.out _ hb2;have BQ1:=Lib.hid hb2;clear hb hb2 HT1)
       |(go_at_call 88;refine(HT2.out _ BQ1.out).mono ?_;rintro e v2 ⟨rfl,hb⟩;have hb2:=BQ1.out.trans (hb.mono BQ1.out.size);have kd2:=HKC.out _ hb2;have BQ2:=Lib.hid hb2;clear hb hb2 HT2)
       |(go_at_call 88;refine(HT3.out _ BQ2.out).mono ?_;rintro e v3 ⟨rfl,hb⟩;have hb2:=BQ2.out.trans (hb.mono BQ2.out.size);have kd3:=HKC.out _ hb2;have BQ3:=Lib.hid hb2;clear hb hb2 HT3))
      all_goals(
       go_wp2_with fail
       (try simp only[Exit.inBlock,Exit.then])
       refine bodyPost_ret (yD rfl _ _ _) rfl ?_
       exact⟨rfl,HWW.out.trans (BQ3.out.mono HWW.out.size)⟩)
   ·have hS1:0<Z:=by have:Z≠0:=fun q=>h0 (hz.1 q);omega
    have e5:decide ((0:Int)<(ns:Int))=true:=decide_eq_true aCo;have e6:(0:Int)<(ns:Int):=by omega
    have r0:=n1.c0;have r1:=n1.c1;have s0:=n2.c0;have s1:=n2.c1;have HMS:Hid (magN wr ((wr.cell? ⟨gs,1,none⟩).getD undef)=Z.toNat):=Lib.hid (by rw[s1];exact magN_of m2);have HQ:=Lib.hid (quot_mag _ _ R Z 456 456 wr m1 m2 hS1 aCo aCo);have N1:=Lib.hid n1;have N2:=Lib.hid n2;have N3:=Lib.hid n3;have N4:=Lib.hid n4;have M1:=Lib.hid m1;have M2:=Lib.hid m2;have V1:=Lib.hid v1;have V2:=Lib.hid v2;have OK:=Lib.hid hok;have HK:=Lib.hid hk;have HF:=Lib.hid hF;have HGC:=Lib.hid hg;have HBR:=Lib.hid hBr;clear n1 n2 n3 n4 m1 m2 v1 v2 hok hk hF hg hBr hz h0 hrel
    go_wp2_with(go_at_call 95;refine HQ.out.mono ?_;rintro E w2 ⟨A1,k1,c1,A2,k2,c2',rfl,q1,q2,hB2⟩;have HQ1:=Lib.hid q1;have HQ2:=Lib.hid q2;have HB2:=Lib.hid hB2;clear q1 q2 hB2 HQ r0 r1 s0 s1)
    obtain⟨t1,t2,t3,t4⟩:=zS w2 false false A1 A2 k1 c1 k2 c2';obtain⟨W3,hW3⟩:∃W3,(w2.alloc (.cells #[.bool false,.slice A1 k1 c1] 81)).alloc (.cells #[.bool false,.slice A2 k2 c2'] 81)=W3:=⟨_,rfl⟩
    rw[hW3] at t1 t2 t3 t4 ⊢;have p1:NB W3 gr false Ar nr cr:=(N1.out.below HB2.out).below t3;have p2:NB W3 gs false As ns cs:=(N2.out.below HB2.out).below t3;have p3:NB W3 gb db Ab nb cb:=(N3.out.below HB2.out).below t3;have p4:NB W3 gn dn An nn cn:=(N4.out.below HB2.out).below t3;have p5:NB W3 w2.heap.size false A1 k1 c1:=t1;have p6:NB W3 (w2.heap.size+1) false A2 k2 c2':=t2;have f1:w2.heap.size+1≠gr:=by have:=(N1.out.below HB2.out).lt;omega
    have f2:w2.heap.size+1≠gs:=by have:=(N2.out.below HB2.out).lt;omega
    have f3:w2.heap.size≠gr:=by have:=(N1.out.below HB2.out).lt;omega
    have f4:w2.heap.size≠gs:=by have:=(N2.out.below HB2.out).lt;omega
    have f5:w2.heap.size≠gb:=by have:=(N3.out.below HB2.out).lt;omega
    have f6:w2.heap.size≠gn:=by have:=(N4.out.below HB2.out).lt;omega
    have P2:=Lib.hid p2;have P3:=Lib.hid p3;have P4:=Lib.hid p4;have P5:=Lib.hid p5;have P6:=Lib.hid p6;have P1:=Lib.hid p1;have x0:=p1.c0;have x1:=p1.c1;have x2:=p1.f0;have x3:=p1.f1;have T3:=Lib.hid (HBR.out.trans ((HB2.out.trans (t3.mono HB2.out.size)).mono HBR.out.size)).drew;clear hW3 t1 t2 p1 p2 p3 p4 p5 p6 N1 N2 N3 N4;refine aBb (S:=fun L W=>(L.getD 3 true=false→W.cell? ⟨gs,0,none⟩=some (.bool false)∧W.cell? ⟨gs,1,none⟩=some (.slice As ns cs))∧W.cell? ⟨w2.heap.size+1,0,none⟩=some (.bool false)∧W.cell? ⟨w2.heap.size+1,1,none⟩=some (.slice A2 k2 c2')) (by kernel_rfl) ?_;refine qI 0 3 (fun W=>W.cell? ⟨gs,0,none⟩=some (.bool false)∧W.cell? ⟨gs,1,none⟩=some (.slice As ns cs)) (v:= .agg #[.bool false,.slice As ns cs]) rfl rfl (by kernel_rfl) aCr (by kernel_rfl) (by kernel_rfl) (by kernel_rfl) (by kernel_rfl) (fun _ _ _ h=>h) (fun L W=>by rw[getD_set_ne true (show(0:Nat)≠3 by decide)]) (fun L W hl h=>h.1 hl) ⟨fun _=>⟨P2.out.c0,P2.out.c1⟩,P6.out.c0,P6.out.c1⟩ rfl (fun W hW=>by obtain⟨y0,y1⟩:=hW;go_simp) (fun hS=> ?_)
    try simp only[Act.put,List.setIfInBounds_toArray,List.set_cons_zero,List.set_cons_succ]
    refine qI 1 3 (fun W=>W.cell? ⟨w2.heap.size+1,0,none⟩=some (.bool false)∧W.cell? ⟨w2.heap.size+1,1,none⟩=some (.slice A2 k2 c2')) (v:= .agg #[.bool false,.slice A2 k2 c2']) rfl rfl (by kernel_rfl) aCr (by kernel_rfl) (by kernel_rfl) (by kernel_rfl) (by kernel_rfl) (fun _ _ _ h=>h) (fun L W=>by rw[getD_set_ne true (show(1:Nat)≠3 by decide)]) (fun L W hl h=>h.2) hS rfl (fun W hW=>by obtain⟨y0,y1⟩:=hW;go_simp) (fun hS=> ?_)
    try simp only[Act.put,List.setIfInBounds_toArray,List.set_cons_zero,List.set_cons_succ]
    refine pM 2 (by kernel_rfl) rfl (fun K' hK=> ?_)
    go_simp
    refine hK.out _ _ ⟨fun _=>⟨((P2.out.far o3 (.bool false) (.slice As ns cs))).c0,(P2.out.far o3 (.bool false) (.slice As ns cs)).c1⟩,(P6.out.far f1 (.bool false) (.slice As ns cs)).c0,(P6.out.far f1 (.bool false) (.slice As ns cs)).c1⟩ ?_
    try simp only[Act.put,List.setIfInBounds_toArray,List.set_cons_zero,List.set_cons_succ]
    clear hK K' hS;have q1:=P1.out.put false As ns cs;have q2:=P2.out.far o3 (.bool false) (.slice As ns cs);have q3:=P3.out.far (Ne.symm d1) (.bool false) (.slice As ns cs);have q4:=P4.out.far (Ne.symm d2') (.bool false) (.slice As ns cs);have q5:=P5.out.far f3 (.bool false) (.slice As ns cs);have q6:=P6.out.far f1 (.bool false) (.slice As ns cs);have hbt:=HB2.out.trans (t3.mono HB2.out.size);have u2:=P1.out.oM (M2.out.below hbt) false As ns cs;have u3:=P1.out.qJ (V1.out.below hbt) false As ns cs;have u4:=P1.out.qJ (V2.out.below hbt) false As ns cs;have u5:=P1.out.oM (HQ1.out.below t3) false As ns cs;have u6:=P1.out.oM (HQ2.out.below t3) false As ns cs;have b1:=jL T3.out o1 (.bool false) (.slice As ns cs);obtain⟨W4,hW4⟩:∃W4,(W3.setCell ⟨gr,0,none⟩ (.bool false)).setCell ⟨gr,1,none⟩ (.slice As ns cs)=W4:=⟨_,rfl⟩
    rw[hW4] at q1 q2 q3 q4 q5 q6 u2 u3 u4 u5 u6;have b2:Below W5.heap.size W5 W4:=by rw[←hW4];exact jL (HBR.out.trans (hbt.mono HBR.out.size)) o1 _ _
    try rw[hW4]
    have y0:=q2.c0;have y1:=q2.c1;have y2:=q2.f0;have y3:=q2.f1;clear x0 x1 x2 x3 hW4 T3 b1 P1 P2 P3 P4 P5 P6;refine pM 3 (by kernel_rfl) rfl (fun K' hK=> ?_)
    go_simp
    refine hK.out _ _ ⟨fun h=>absurd (show true=false from h) aCr,(q6.far f2 (.bool false) (.slice A2 k2 c2')).c0,(q6.far f2 (.bool false) (.slice A2 k2 c2')).c1⟩ ?_;clear hK K';refine aBa (by kernel_rfl) ?_ _;have r1:=q1.far (Ne.symm o3) (.bool false) (.slice A2 k2 c2');have r2:=q2.put false A2 k2 c2';have r3:=q3.far (Ne.symm d3) (.bool false) (.slice A2 k2 c2');have r4:=q4.far (Ne.symm d4) (.bool false) (.slice A2 k2 c2');have r5:=q5.far f4 (.bool false) (.slice A2 k2 c2');have v2:=q2.oM u2 false A2 k2 c2';have v3:=q2.qJ u3 false A2 k2 c2';have v4:=q2.qJ u4 false A2 k2 c2';have v5:=q2.oM u5 false A2 k2 c2';have v6:=q2.oM u6 false A2 k2 c2';have b3:=jL b2 o2 (.bool false) (.slice A2 k2 c2');clear q1 q2 q3 q4 q5 q6 u2 u3 u4 u5 u6 b2 y0 y1 y2 y3 t3 t4 hbt M1 M2 V1 V2 HQ1 HQ2 HBR
    go_wp2_with fail
    obtain⟨W8,hW8⟩:∃W8,((W4.setCell ⟨gs,0,none⟩ (.bool false)).setCell ⟨gs,1,none⟩ (.slice A2 k2 c2')).drew=W8:=⟨_,rfl⟩
    rw[hW8];have e1:NB W8.drew gr false As ns cs:=by rw[←hW8];exact r1
    have e2:NB W8.drew gs false A2 k2 c2':=by rw[←hW8];exact r2
    have e3:NB W8.drew gb db Ab nb cb:=by rw[←hW8];exact r3
    have e4:NB W8.drew gn dn An nn cn:=by rw[←hW8];exact r4
    have e5':NB W8.drew w2.heap.size false A1 k1 c1:=by rw[←hW8];exact r5
    have z2:Mag W8.drew (.slice As ns cs) Z 456:=by rw[←hW8];exact v2
    have z3:NumV W8.drew (.agg #[.bool db,.slice Ab nb cb]) P 456:=by rw[←hW8];exact v3
    have z4:NumV W8.drew (.agg #[.bool dn,.slice An nn cn]) Q 456:=by rw[←hW8];exact v4
    have z5:Mag W8.drew (.slice A1 k1 c1) (R/Z) 456:=by rw[←hW8];exact v5
    have z6:Mag W8.drew (.slice A2 k2 c2') (R%Z) 456:=by rw[←hW8];exact v6
    have b4:Below W5.heap.size W5 W8.drew:=by rw[←hW8];exact b3.drew.drew
    have E1:=Lib.hid e1;have E2:=Lib.hid e2;have E3:=Lib.hid e3;have E4:=Lib.hid e4;have E5:=Lib.hid e5';have Z2:=Lib.hid z2;have Z3:=Lib.hid z3;have Z4:=Lib.hid z4;have Z5:=Lib.hid z5;have Z6:=Lib.hid z6;have B4:=Lib.hid b4;clear r1 r2 r3 r4 r5 v2 v3 v4 v5 v6 b3 hW8 e1 e2 e3 e4 e5' z2 z3 z4 z5 z6 b4;refine aBb (S:=fun L W=>(W.cell? ⟨w2.heap.size,0,none⟩=some (.bool false)∧W.cell? ⟨w2.heap.size,1,none⟩=some (.slice A1 k1 c1))∧(L.getD 7 true=false→W.cell? ⟨gb,0,none⟩=some (.bool db)∧W.cell? ⟨gb,1,none⟩=some (.slice Ab nb cb))∧(L.getD 8 true=false→W.cell? ⟨gn,0,none⟩=some (.bool dn)∧W.cell? ⟨gn,1,none⟩=some (.slice An nn cn))) (by kernel_rfl) ?_;refine qI 0 8 (fun W=>W.cell? ⟨gn,0,none⟩=some (.bool dn)∧W.cell? ⟨gn,1,none⟩=some (.slice An nn cn)) (v:= .agg #[.bool dn,.slice An nn cn]) rfl rfl (by kernel_rfl) aCr (by kernel_rfl) (by kernel_rfl) (by kernel_rfl) (by kernel_rfl) (fun _ _ _ h=>h) (fun L W=>by rw[getD_set_ne true (show(0:Nat)≠8 by decide),getD_set_ne true (show(0:Nat)≠7 by decide)]) (fun L W hl h=>h.2.2 hl) ⟨⟨E5.out.c0,E5.out.c1⟩,fun _=>⟨E3.out.c0,E3.out.c1⟩,fun _=>⟨E4.out.c0,E4.out.c1⟩⟩ rfl (fun W hW=>by obtain⟨y0,y1⟩:=hW;go_simp) (fun hS=> ?_)
    try simp only[Act.put,List.setIfInBounds_toArray,List.set_cons_zero,List.set_cons_succ]
    refine qI 1 7 (fun W=>W.cell? ⟨gb,0,none⟩=some (.bool db)∧W.cell? ⟨gb,1,none⟩=some (.slice Ab nb cb)) (v:= .agg #[.bool db,.slice Ab nb cb]) rfl rfl (by kernel_rfl) aCr (by kernel_rfl) (by kernel_rfl) (by kernel_rfl) (by kernel_rfl) (fun _ _ _ h=>h) (fun L W=>by rw[getD_set_ne true (show(1:Nat)≠8 by decide),getD_set_ne true (show(1:Nat)≠7 by decide)]) (fun L W hl h=>h.2.1 hl) hS rfl (fun W hW=>by obtain⟨y0,y1⟩:=hW;go_simp) (fun hS=> ?_)
    try simp only[Act.put,List.setIfInBounds_toArray,List.set_cons_zero,List.set_cons_succ]
    refine qI 2 8 (fun W=>W.cell? ⟨w2.heap.size,0,none⟩=some (.bool false)∧W.cell? ⟨w2.heap.size,1,none⟩=some (.slice A1 k1 c1)) (v:= .agg #[.bool false,.slice A1 k1 c1]) rfl rfl (by kernel_rfl) aCr (by kernel_rfl) (by kernel_rfl) (by kernel_rfl) (by kernel_rfl) (fun _ _ _ h=>h) (fun L W=>by rw[getD_set_ne true (show(2:Nat)≠8 by decide),getD_set_ne true (show(2:Nat)≠7 by decide)]) (fun L W hl h=>h.1) hS rfl (fun W hW=>by obtain⟨y0,y1⟩:=hW;go_simp) (fun hS=> ?_)
    try simp only[Act.put,List.setIfInBounds_toArray,List.set_cons_zero,List.set_cons_succ]
    refine qI 3 8 (fun W=>W.cell? ⟨gn,0,none⟩=some (.bool dn)∧W.cell? ⟨gn,1,none⟩=some (.slice An nn cn)) (v:= .agg #[.bool dn,.slice An nn cn]) rfl rfl (by kernel_rfl) aCr (by kernel_rfl) (by kernel_rfl) (by kernel_rfl) (by kernel_rfl) (fun _ _ _ h=>h) (fun L W=>by rw[getD_set_ne true (show(3:Nat)≠8 by decide),getD_set_ne true (show(3:Nat)≠7 by decide)]) (fun L W hl h=>h.2.2 hl) hS rfl (fun W hW=>by obtain⟨y0,y1⟩:=hW;go_simp) (fun hS=> ?_)
    try simp only[Act.put,List.setIfInBounds_toArray,List.set_cons_zero,List.set_cons_succ]
    clear hS;refine pM 4 (by kernel_rfl) rfl (fun K' hK=> ?_)
    go_simp
    go_at_call 85
    refine(aAi _ _ (R/Z) Q 456 456 W8.drew (qX Z5.out) Z4.out aCo aCo).mono ?_;rintro e w5 ⟨dp,Ap,np,cp,rfl,hp,hB5⟩
    dsimp only
    have i1:=E1.out.below hB5;have i2:=E2.out.below hB5;have i3:=E3.out.below hB5;have i4:=E4.out.below hB5;have i5:=E5.out.below hB5;have j2:=Z2.out.below hB5;have j3:=Z3.out.below hB5;have j4:=Z4.out.below hB5;have j6:=Z6.out.below hB5;have b5:=B4.out.trans (hB5.mono B4.out.size);have HNP:=Lib.hid hp.neg;clear hp hB5 E1 E2 E3 E4 E5 Z2 Z3 Z4 Z5 Z6 B4;refine hK.out _ _ ⟨⟨i5.c0,i5.c1⟩,fun _=>⟨i3.c0,i3.c1⟩,fun _=>⟨i4.c0,i4.c1⟩⟩ ?_
    try simp only[Act.put,List.setIfInBounds_toArray,List.set_cons_zero,List.set_cons_succ]
    clear hK K';refine pM 5 (by kernel_rfl) rfl (fun K' hK=> ?_)
    go_simp
    go_at_call 83
    refine(qU dp Ap np cp w5).mono ?_;rintro e w6 ⟨rfl,hB6⟩
    dsimp only
    have k1:=i1.below hB6;have k2':=i2.below hB6;have k3:=i3.below hB6;have k4:=i4.below hB6;have k5:=i5.below hB6;have m2:=j2.below hB6;have m3:=j3.below hB6;have m4:=j4.below hB6;have m6:=j6.below hB6;have m7:=HNP.out.below hB6;have b6:=b5.trans (hB6.mono b5.size);clear i1 i2 i3 i4 i5 j2 j3 j4 j6 b5 hB6 HNP;refine hK.out _ _ ⟨⟨k5.c0,k5.c1⟩,fun _=>⟨k3.c0,k3.c1⟩,fun _=>⟨k4.c0,k4.c1⟩⟩ ?_
    try simp only[Act.put,List.setIfInBounds_toArray,List.set_cons_zero,List.set_cons_succ]
    clear hK K';refine pM 6 (by kernel_rfl) rfl (fun K' hK=> ?_)
    go_simp
    go_at_call 81
    refine(sum_shape _ _ P (-(R/Z*Q)) 912 w6 (m3.more aCo) m7 aCo).mono ?_;rintro e w9 ⟨ds,Au,nu,cu,rfl,hsu,hB9⟩
    dsimp only
    have i1:=k1.below hB9;have i2:=k2'.below hB9;have i3:=k3.below hB9;have i4:=k4.below hB9;have i5:=k5.below hB9;have j2:=m2.below hB9;have j4:=m4.below hB9;have j6:=m6.below hB9;have b9:=b6.trans (hB9.mono b6.size);clear k1 k2' k3 k4 k5 m2 m3 m4 m6 m7 b6 hB9;refine hK.out _ _ ⟨⟨i5.c0,i5.c1⟩,fun _=>⟨i3.c0,i3.c1⟩,fun _=>⟨i4.c0,i4.c1⟩⟩ ?_
    try simp only[Act.put,List.setIfInBounds_toArray,List.set_cons_zero,List.set_cons_succ]
    clear hK K';have y0:=i3.c0;have y1:=i3.c1;have y2:=i3.f0;have y3:=i3.f1;refine pM 7 (by kernel_rfl) rfl (fun K' hK=> ?_)
    go_simp
    have q1:=i1.far d1 (.bool dn) (.slice An nn cn);have q2:=i2.far d3 (.bool dn) (.slice An nn cn);have q3:=i3.put dn An nn cn;have q4:=i4.far d5 (.bool dn) (.slice An nn cn);have q5:=i5.far f5 (.bool dn) (.slice An nn cn);have u2:=i3.oM j2 dn An nn cn;have u4:=i3.qJ j4 dn An nn cn;have u6:=i3.oM j6 dn An nn cn;have u7:=i3.qJ hsu dn An nn cn;have b10:=jL b9 l7 (.bool dn) (.slice An nn cn);refine hK.out _ _ ⟨⟨q5.c0,q5.c1⟩,fun h=>absurd (show true=false from h) aCr,fun _=>⟨q4.c0,q4.c1⟩⟩ ?_;clear hK K' i1 i2 i3 i4 i5 j2 j4 j6 b9 hsu y0 y1 y2 y3;obtain⟨W10,hW10⟩:∃W10,(w9.setCell ⟨gb,0,none⟩ (.bool dn)).setCell ⟨gb,1,none⟩ (.slice An nn cn)=W10:=⟨_,rfl⟩
    rw[hW10] at q1 q2 q3 q4 q5 u2 u4 u6 u7 b10 ⊢;clear hW10;have y0:=q4.c0;have y1:=q4.c1;have y2:=q4.f0;have y3:=q4.f1;refine pM 8 (by kernel_rfl) rfl (fun K' hK=> ?_)
    go_simp
    refine hK.out _ _ ⟨⟨(q5.far f6 (.bool ds) (.slice Au nu cu)).c0,(q5.far f6 (.bool ds) (.slice Au nu cu)).c1⟩,fun h=>absurd (show true=false from h) aCr,fun h=>absurd (show true=false from h) aCr⟩ ?_;clear hK K';refine aBa (by kernel_rfl) ?_ _;have r1:=q1.far d2' (.bool ds) (.slice Au nu cu);have r2:=q2.far d4 (.bool ds) (.slice Au nu cu);have r3:=q3.far (Ne.symm d5) (.bool ds) (.slice Au nu cu);have r4:=q4.put ds Au nu cu;have v2:=q4.oM u2 ds Au nu cu;have v4:=q4.qJ u4 ds Au nu cu;have v6:=q4.oM u6 ds Au nu cu;have v7:=q4.qJ u7 ds Au nu cu;have b11:=jL b10 l8 (.bool ds) (.slice Au nu cu);clear q1 q2 q3 q4 q5 u2 u4 u6 u7 b10 y0 y1 y2 y3
    go_wp2_with fail
    have hst:=bezOK_step OK.out hR0 hS1;obtain⟨k',hk'⟩:∃k',k=k'+1:=⟨k-1,by have:=HK.out;omega⟩
    have hlt:=Int.emod_lt_of_pos R hS1;have hnn:=Int.emod_nonneg R (show Z≠0 by omega);have hFF:=HF.out;rw[hk',bezL,if_neg (show ¬Z=0 by omega)] at hFF;refine⟨Lib.hid ⟨Z,R%Z,⟨k',Q,P+ -(R/Z*Q),_,_,_,_,_,_,_,_,_,_,_,_,_,_,r1,r2,r3,r4,v2,v6,v4,v7.le (HM2.out.below b11) (by have:=hst.2.2;omega),hst,by have:=HK.out;omega,hFF,by rw[aAw hR0 hS1];exact HGC.out⟩,b11⟩,?_⟩;rw[HMS.out,r2.c1];show magN _ (.slice A2 k2 c2')<_;rw[magN_of v6];omega
theorem bezout_err(a b:ByteArray)(w:World)(c:Int)(hc:fM a b=c)(h0:c≠0)(ha:a.size≤9223372036854775807)(hb:b.size≤9223372036854775807) :
 Calls Tryz.prog 32 #[.string a,.string b] w fun e w'=>e= .returned (.tuple #[.string ⟨#[]⟩,.string ⟨#[]⟩,.string ⟨#[]⟩,.int .i64 c])∧Below w.heap.size w w':=by
 have HP:Hid (∀w:World,Calls Tryz.prog 79 #[.string a,.string b] w fun e w'=>∃d A n c1 d2 B m c2,e= .returned (.tuple #[.agg #[.bool d,.slice A n c1],.agg #[.bool d2,.slice B m c2],.int .i64 c])∧Below w.heap.size w w'):=Lib.hid (fun w=>qR a b w c hc h0 ha hb);have e1:(c != 0)=true:=by simpa using h0
 go_enter Tryz.func32,Tryz.ntmps32
 clear hc ha hb
 go_wp2_with(go_at_call 79;refine(HP.out _).mono ?_;rintro e w1 ⟨d,A,n,c1,d2,B,m,c2,rfl,hB⟩;have HB:=Lib.hid hB;clear hB HP)
 (try simp only[Exit.inBlock,Exit.then])
 refine bodyPost_ret (yD rfl _ _ _) rfl ?_;exact⟨rfl,HB.out.trans ((((Below.refl _ w1).alloc (Nat.le_refl _) _).alloc aCq _).mono HB.out.size)⟩
theorem bezout_zero(a b:ByteArray)(w:World)(ha0:chkI a=0)(hb0:chkI b=0)(ha:a.size≤9223372036854775807)(hb:b.size≤9223372036854775807)(hz:aN b=0)(hG:GW w) :
 Calls Tryz.prog 32 #[.string a,.string b] w fun e w'=>e= .returned (.tuple #[.string (text ((aN a).natAbs:Int)),.string (text (sgnI (aN a))),.string ⟨#[48]⟩,.int .i64 0])∧Below w.heap.size w w':=by
 have HP:=Lib.hid (fun w=>kU a b w ha0 hb0 ha hb);have HG:=Lib.hid hG;have HZ:=Lib.hid hz;go_enter Tryz.func32,Tryz.ntmps32
 clear ha0 hb0 ha hb hG hz
 go_wp2_with fail
 refine(HP.out _).mono ?_;rintro e w1 ⟨d,A,n,c,d2,B,m,c2,rfl,hn1,hn2,hB⟩;obtain rfl:m=0:=(mW (oD hn2)).1 (by rw[HZ.out];rfl);have HN1:=Lib.hid hn1;have HB:=Lib.hid hB;have hba:Below w1.heap.size w1 ((w1.alloc (.cells #[.bool d,.slice A n c] 81)).alloc (.cells #[.bool d2,.slice B 0 c2] 81)):=((Below.refl _ w1).alloc (Nat.le_refl _) _).alloc aCq _;have HBA:=Lib.hid hba;have hx:NB ((w1.alloc (.cells #[.bool d,.slice A n c] 81)).alloc (.cells #[.bool d2,.slice B 0 c2] 81)) w1.heap.size d A n c:=(NB.new w1 d A n c).alloc _;have HX:=Lib.hid hx;have hsr:=sgn_fits (aN a);clear hn1 hn2 hB hba HP HZ hx
 go_wp2_with fail
 refine(sign_num _ _ 456 _ (HN1.out.below HBA.out)).mono ?_;rintro e w2 ⟨rfl,hB2⟩;have x1:=(HX.out.below hB2).c1;have HB2:=Lib.hid (HBA.out.trans (hB2.mono HBA.out.size));clear hB2
 go_wp2_with fail
 refine(qV _ _ 456 _ (qX ((oD HN1.out).below HB2.out)) aCo (HG.out.below (HB.out.trans (HB2.out.mono HB.out.size)))).mono ?_;rintro e w3 ⟨rfl,hB3⟩;have HB3:=Lib.hid (HB2.out.trans (hB3.mono HB2.out.size));clear hB3 x1
 go_wp2_with fail
 refine(of_walk (sgnI (aN a)) hsr.1 hsr.2 _ (HG.out.below (HB.out.trans (HB3.out.mono HB.out.size)))).mono ?_;rintro e w4 ⟨rfl,hB4⟩
 go_wp2_with fail
 (try simp only[Exit.inBlock,Exit.then])
 refine bodyPost_ret (yD rfl _ _ _) rfl ?_;exact⟨rfl,HB.out.trans ((HB3.out.trans (hB4.mono HB3.out.size)).mono HB.out.size)⟩
end Go.Proofs.YtignanmmgaldeaaGreatDoor
end
section
set_option linter.unusedVariables false
set_option linter.unusedSimpArgs false
namespace Go.Proofs.YtignanmmgaldeaaGreatDoor
open Go.RowKit Go.Shelf
theorem mD{a b:ByteArray}(h:fM a b=0):chkI a=0∧chkI b=0:=by
 unfold fM at h
 split at h
 ·rename_i h1;exact⟨h1,h⟩
 ·rename_i h1;exact absurd h h1
def pO.f(a0 a1:ByteArray):Option (ByteArray×Int):=if two63 a0 a1 then(if fM a0 a1=0 then some (text (gcdI (aN a0) (aN a1)),0) else some (⟨#[]⟩,fM a0 a1)) else none
theorem pO.calls(a0 a1:ByteArray)(r0:ByteArray)(r1:Int)(w:World)(hG:GW w)(h:pO.f a0 a1=some (r0,r1)) :
 Calls Tryz.prog 28 #[.string a0,.string a1] w fun e w'=>e= .returned (.tuple #[.string r0,.int .i64 r1])∧Below w.heap.size w w':=by
 unfold pO.f at h
 split at h
 ·rename_i h1
  split at h
  ·rename_i h2
   obtain⟨rfl,rfl⟩:=Prod.mk.inj (Option.some.inj h);exact gcd_ok a0 a1 w (mD h2).1 (mD h2).2 h1.1 h1.2 hG
  ·rename_i h2
   obtain⟨rfl,rfl⟩:=Prod.mk.inj (Option.some.inj h);exact gcd_err a0 a1 w _ rfl h2 h1.1 h1.2
 ·cases h
theorem wr_zero:wrS 0=⟨#[48]⟩∧wrE 0=0:=by
 unfold wrS wrE pJ;rw[if_pos rfl,if_neg aCo,if_neg aCo];exact⟨vH,rfl⟩
def pR.f(a0 a1:ByteArray):Option (ByteArray×Int):=if two63 a0 a1 then(if fM a0 a1=0 then some (wrS (lcmI (aN a0) (aN a1)),wrE (lcmI (aN a0) (aN a1))) else some (⟨#[]⟩,fM a0 a1)) else none
theorem pR.calls(a0 a1:ByteArray)(r0:ByteArray)(r1:Int)(w:World)(hG:GW w)(h:pR.f a0 a1=some (r0,r1)) :
 Calls Tryz.prog 30 #[.string a0,.string a1] w fun e w'=>e= .returned (.tuple #[.string r0,.int .i64 r1])∧Below w.heap.size w w':=by
 unfold pR.f at h
 split at h
 ·rename_i h1
  split at h
  ·rename_i h2
   obtain⟨rfl,rfl⟩:=Prod.mk.inj (Option.some.inj h)
   by_cases hz:aN a0=0∨aN a1=0
   ·have e:lcmI (aN a0) (aN a1)=0:=if_pos hz
    rw[e,wr_zero.1,wr_zero.2];exact lcm_zero a0 a1 w (mD h2).1 (mD h2).2 h1.1 h1.2 hz
   ·exact lcm_ok a0 a1 w (mD h2).1 (mD h2).2 h1.1 h1.2 (fun e=>hz (.inl e)) (fun e=>hz (.inr e)) hG
  ·rename_i h2
   obtain⟨rfl,rfl⟩:=Prod.mk.inj (Option.some.inj h);exact lcm_err a0 a1 w _ rfl h2 h1.1 h1.2
 ·cases h
def lU.f(a0 a1:ByteArray):Option (ByteArray×ByteArray×ByteArray×Int):=if two63 a0 a1 then(if fM a0 a1=0 then some (text (gcdI (aN a0) (aN a1)),text (bezU (aN a0) (aN a1)),text (bezV (aN a0) (aN a1)),0) else some (⟨#[]⟩,⟨#[]⟩,⟨#[]⟩,fM a0 a1)) else none
theorem lU.calls(a0 a1:ByteArray)(r0 r1 r2:ByteArray)(r3:Int)(w:World)(hG:GW w)(h:lU.f a0 a1=some (r0,r1,r2,r3)) :
 Calls Tryz.prog 32 #[.string a0,.string a1] w fun e w'=>e= .returned (.tuple #[.string r0,.string r1,.string r2,.int .i64 r3])∧Below w.heap.size w w':=by
 unfold lU.f at h
 split at h
 ·rename_i h1
  split at h
  ·rename_i h2
   have h3:=Option.some.inj h;simp only[Prod.mk.injEq] at h3;obtain⟨rfl,rfl,rfl,rfl⟩:=h3
   by_cases hz:aN a1=0
   ·have e1:gcdI (aN a0) (aN a1)=((aN a0).natAbs:Int):=by rw[hz];unfold gcdI;simp
    have e2:bezU (aN a0) (aN a1)=sgnI (aN a0):=if_pos hz;have e3:bezV (aN a0) (aN a1)=0:=if_pos hz;rw[e1,e2,e3,vH];exact bezout_zero a0 a1 w (mD h2).1 (mD h2).2 h1.1 h1.2 hz hG
   ·exact bezout_ok a0 a1 w (mD h2).1 (mD h2).2 h1.1 h1.2 hz hG
  ·rename_i h2
   have h3:=Option.some.inj h;simp only[Prod.mk.injEq] at h3;obtain⟨rfl,rfl,rfl,rfl⟩:=h3;exact bezout_err a0 a1 w _ rfl h2 h1.1 h1.2
 ·cases h
end Go.Proofs.YtignanmmgaldeaaGreatDoor
end
section
set_option linter.unusedVariables false
set_option linter.unusedSimpArgs false
set_option maxRecDepth 100000
set_option maxHeartbeats 2000000
namespace Go.Proofs.YtignanmmgaldeaaGreatDoor
open Go.RowKit Go.Shelf Go.Proofs.YtignanmmgaldeaaGreatDoorW.PrintWords
def absS(a:ByteArray):ByteArray:=⟨(Lib.trimPrefix a.data.toList [45]).toArray⟩
theorem abs_walk(a:ByteArray)(w:World)(ha:a.size≤9223372036854775807) :
 Calls Tryz.prog 182 #[.string a] w fun e w'=>e= .returned (.tuple #[.string (if chkI a=0 then absS a else⟨#[]⟩),.int .i64 (chkI a)])∧Below w.heap.size w w':=by
 have HA:=Lib.hid (fun w=>rJ a w ha);have ht:=fun w=>aAh a ⟨#[45]⟩ w
 rw[show(ByteArray.mk #[45]).data.toList= [45] from rfl] at ht;have HT:Hid (∀w:World,Calls Tryz.prog 191 #[.string a,.string ⟨#[45]⟩] w fun e w'=>e= .returned (.string (absS a))∧w'=w):=Lib.hid ht;clear ht ha
 by_cases h:chkI a=0
 ·rw[if_pos h,h]
  rw[h] at HA;go_enter Tryz.func182,Tryz.ntmps182
  go_wp2_with(first
   |(go_at_call 73;refine(HA.out _).mono ?_;rintro e w1 ⟨rfl,hB1⟩;have HB1:=Lib.hid hB1;clear hB1 HA)
   |(go_at_call 191;refine(HT.out _).mono ?_;rintro e w2 ⟨rfl,rfl⟩))
  go_ret2
  exact⟨rfl,HB1.out⟩
 ·rw[if_neg h]
  generalize chkI a=c at h HA ⊢;have e1:(c != 0)=true:=by simpa using h
  go_enter Tryz.func182,Tryz.ntmps182
  go_wp2_with(go_at_call 73;refine(HA.out _).mono ?_;rintro e w1 ⟨rfl,hB1⟩;have HB1:=Lib.hid hB1;clear hB1 HA)
  go_ret2
  exact⟨rfl,HB1.out⟩
def nN.f(a0:ByteArray):Option (ByteArray×Int):=if a0.size≤9223372036854775807 then some (if chkI a0=0 then absS a0 else⟨#[]⟩,chkI a0) else none
theorem nN.calls(a0:ByteArray)(r0:ByteArray)(r1:Int)(w:World)(h:nN.f a0=some (r0,r1)) :
 Calls Tryz.prog 182 #[.string a0] w fun e w'=>e= .returned (.tuple #[.string r0,.int .i64 r1])∧Below w.heap.size w w':=by
 unfold nN.f at h
 split at h
 ·rename_i h1
  obtain⟨rfl,rfl⟩:=Prod.mk.inj (Option.some.inj h);exact abs_walk a0 w h1
 ·cases h
theorem abs_text(x:Int):absS (text x)=text (x.natAbs:Int):=by
 unfold absS;rw[wO]
 have e2:text (x.natAbs:Int)=⟨(Lib.decDigits x.natAbs).toArray⟩:=by
  unfold text Lib.itoa;rw[if_neg aCo,show((x.natAbs:Nat):Int).toNat=x.natAbs from by omega]
 rw[e2];unfold Lib.itoa
 split
 ·rename_i h
  have e1:Lib.hasPrefix (45::Lib.decDigits x.natAbs) [45]=true:=by simp[Lib.hasPrefix]
  simp[Lib.trimPrefix,e1]
 ·rename_i h
  have hm:=nJ x.toNat;rw[show x.natAbs=x.toNat by omega];generalize Lib.decDigits x.toNat=l at hm
  have e1:Lib.hasPrefix l [45]=false:=by
   cases l with
   |nil=>rfl
   |cons c r=>
    by_cases hc:c=45
    ·subst hc;exact absurd rfl (hm r)
    ·simp[Lib.hasPrefix,List.isPrefixOf,Ne.symm hc]
  simp[Lib.trimPrefix,e1]
theorem aC2(x y:Int)(hy:y≠0):(Int.fmod x y).natAbs<y.natAbs∧(0<y→0≤Int.fmod x y)∧(y<0→Int.fmod x y≤0)∧Int.fmod x y+y*Int.fdiv x y=x:=by
 have main:∀x y:Int,0<y→0≤Int.fmod x y∧Int.fmod x y<y:=by
  intro x y hy;rw[Int.fmod_eq_emod_of_nonneg _ aCo];exact⟨Int.emod_nonneg _ aCo,Int.emod_lt_of_pos _ hy⟩
 have hd:=Int.fmod_add_mul_fdiv x y;rcases Int.lt_or_gt_of_ne hy with h|h
 ·have:=main (-x) (-y) aCo
  rw[Int.neg_fmod_neg] at this;exact⟨by omega,fun e=>by omega,fun _=>by omega,hd⟩
 ·have:=main x y h
  exact⟨by omega,fun _=>this.1,fun e=>by omega,hd⟩
theorem Bd.fmod{m:Nat}{x y:Int}(h:Bd m y)(hy:y≠0):Bd m (Int.fmod x y):=h.of_le (Nat.le_of_lt (aC2 x y hy).1)
theorem Bd.fdiv{m:Nat}{x y:Int}(h:Bd m x)(hy:y≠0):Bd m (Int.fdiv x y):=by
 refine h.of_le ?_;obtain⟨h1,_,_,h2⟩:=aC2 x y hy;generalize Int.fdiv x y=q at *
 generalize Int.fmod x y=r at *
 by_cases hle:q.natAbs≤x.natAbs
 ·exact hle
 ·exfalso
  have h3:(y*q).natAbs≤x.natAbs+r.natAbs:=by omega
  rw[Int.natAbs_mul] at h3;have h4:y.natAbs*(x.natAbs+1)≤y.natAbs*q.natAbs:=Nat.mul_le_mul_left _ aCo;rw[Nat.mul_add,Nat.mul_one] at h4;have h5:1*x.natAbs≤y.natAbs*x.natAbs:=Nat.mul_le_mul_right _ aCo;omega
end Go.Proofs.YtignanmmgaldeaaGreatDoor
end
section
set_option linter.unusedVariables false
set_option linter.unusedSimpArgs false
namespace Go.Proofs.YtignanmmgaldeaaGreatDoor.PRefA
open Go.RowKit Go.Proofs.YtignanmmgaldeaaGreatDoorW.PrintWords Go.Proofs.YtignanmmgaldeaaGreatDoorW.PrintLast Go.Proofs.YtignanmmgaldeaaGreatDoorW.PrintMore
attribute [local go_sem] gI gJ iE iF
def errW:Option Int→Value
 |none=> .nilIface
 |some c=> .iface 0 (.int .i64 c)
theorem dW:errW none= .nilIface:=rfl
theorem dX(c:Int):errW (some c)= .iface 0 (.int .i64 c):=rfl
theorem info3:(Tryz.prog.info? 3).map (fun i=>(i.zero,i.size,i.bytes))=some (some (.int .i64 0),1,8):=by kernel_rfl
theorem info5:(Tryz.prog.info? 5).map (fun i=>(i.zero,i.size,i.bytes))=some (some (.int .u8 0),1,1):=by kernel_rfl
end Go.Proofs.YtignanmmgaldeaaGreatDoor.PRefA
end
section
set_option linter.unusedVariables false
set_option linter.unusedSimpArgs false
set_option maxHeartbeats 8000000
set_option maxRecDepth 100000
namespace Go.Proofs.YtignanmmgaldeaaGreatDoor.PRefA
open Go.RowKit Go.Proofs.YtignanmmgaldeaaGreatDoorW.PrintWords Go.Proofs.YtignanmmgaldeaaGreatDoorW.PrintLast Go.Proofs.YtignanmmgaldeaaGreatDoorW.PrintMore
attribute [local go_sem] gI gJ iE iF
def bU.l0:Nat→List Int→Int→Option (List Int)
 |0,_,_=>none
 |k+1,x0,x3=>if x3>0 then(if 0≤(wrap64 (x3-1)) then(if(wrap64 (x3-1))<(x0.length:Int) then(if(rd x0 (wrap64 (x3-1)))=0 then(bU.l0 k x0 (wrap64 (x3-1))) else(if 0≤x3 then(if x3≤(x0.length:Int) then(some (x0.take (x3:Int).toNat)) else(none)) else(none))) else(none)) else(none)) else(if 0≤x3 then(if x3≤(x0.length:Int) then(some (x0.take (x3:Int).toNat)) else(none)) else(none))
def bU.f(k:Nat)(l0:List Int):Option (List Int):=bU.l0 k l0 (l0.length:Int)
theorem bU.calls(k:Nat)(P0_:Nat→Prop)(u9000_:Value)(l0:List Int)(r:List Int)(w0 w:World)(hB:Below w0.heap.size w0 w)(ho0:Kd.R (Kd.int .i64) 3 w w0.heap.size P0_ u9000_ l0)(h:bU.f k l0=some r) :
 Calls Tryz.prog 155 #[u9000_] w fun e w'=>∃v0_:Value,e= .returned (v0_)∧Kd.R (Kd.int .i64) 3 w' w0.heap.size (fun k_=>(P0_ k_∨w.heap.size≤k_)) v0_ r∧Below w0.heap.size w0 w'∧Kept w w' (fun k_=>P0_ k_):=by
 have HO0:=aA.mk (show Kd.R (Kd.int .i64) 3 w w0.heap.size (fun k_=>(P0_ k_∨w.heap.size≤k_)) u9000_ l0 from Kd.jO ho0 (fun k_ hk=>(.inl hk)));have HK:=aA.mk (Kept.refl w (fun k_=>P0_ k_));have HW0:=aA.mk hB.size;have HB:=aA.mk hB;clear hB;have H:(bU.l0 k l0 (l0.length:Int))=some r:=h;clear h;have H':=aA.mk H;clear H;obtain⟨Ao2,co2,eo2⟩:=Kd.gY HO0.out;subst eo2;go_enter Tryz.func155,Tryz.ntmps155
 go_wp2
 go_loopg [3] k (fun kq v3 w'=>∃(x3_1:Int),v3= .int .i64 x3_1∧aA (bU.l0 kq l0 x3_1=some r)∧aA (kq≤k)∧aA (Kd.R (Kd.int .i64) 3 w' w0.heap.size (fun k_=>(P0_ k_∨w.heap.size≤k_)) (.slice Ao2 l0.length co2) l0)∧aA (Kept w w' (fun k_=>P0_ k_))∧aA (Below w0.heap.size w0 w'))
 case atStart=>exact⟨((l0.length:Int)),aCs,H',⟨Nat.le_refl _⟩,⟨by(with_reducible repeat(first|apply Kd.aX|apply Kd.aY|apply Kd.bP));exact HO0.out⟩,⟨by repeat(first|(with_reducible first|exact HK.out|apply Kept.alloc|apply Kept.drewN|apply Kept.drew)|exact HK.out)⟩,⟨pkL HB⟩⟩
 case round=>
  clear H';obtain⟨x3_1,rfl,HA,HK1,HO_0,HK,HB⟩:=hrel
  cases gk with
  |zero=>exact absurd HA.out (by simp[bU.l0])
  |succ k1=>
   have H:=HA.out;clear HA;simp only[bU.l0] at H
   by_cases c3:x3_1>0
   ·rw[if_pos c3] at H
    have c3b0:decide (0<x3_1)=true:=decide_eq_true c3;clear c3;obtain⟨ji4,hji4⟩:∃j_:Int,(wrap64 (x3_1-1))=j_:=⟨_,rfl⟩
    replace H:(if 0≤(ji4) then(if(ji4)<(l0.length:Int) then(if(rd l0 (ji4))=0 then(bU.l0 k1 l0 ji4) else(if 0≤x3_1 then(if x3_1≤(l0.length:Int) then(some (l0.take (x3_1:Int).toNat)) else(none)) else(none))) else(none)) else(none))=some r:=by first|(rw[hji4] at H;exact H)|(simp only[hji4] at H ⊢;exact H)
    have hji4w:(IntKind.i64.wrap (x3_1-1))=ji4:=(dE _).trans hji4
    by_cases c5:0≤(ji4)
    ·rw[if_pos c5] at H
     have c5b0:decide (0≤(ji4))=true:=decide_eq_true c5;clear c5
     by_cases c6:(ji4)<(l0.length:Int)
     ·rw[if_pos c6] at H
      have c6b0:decide ((ji4)<(l0.length:Int))=true:=decide_eq_true c6;clear c6
      by_cases c7:(rd l0 (ji4))=0
      ·rw[if_pos c7] at H
       have c7b0:((rd l0 (ji4))==0)=true:=beq_iff_eq.mpr c7;have c7b1:((rd l0 (ji4)) != 0)=false:=bne_eq_false_iff_eq.mpr c7;clear c7;have H':=aA.mk H;clear H;have p101:0≤((ji4):Int):=of_decide_eq_true (by first|(with_reducible assumption)|assumption);have q101:(ji4)<(l0.length:Int):=of_decide_eq_true (by first|(with_reducible assumption)|assumption);obtain⟨ad101,e101,hx101_0⟩:=Kd.kS (Kd.dH HO_0.out).2.2 (ji4) p101 q101
       cases e101
       replace p101:=eq_true p101;replace q101:=eq_true q101;go_wp2
       go_roundg k1
       case measure=>have:=HK1.out;omega
       case rel=>exact⟨(ji4),(by first|rfl|(simp;done)|(simp only[←hji4] <;> (first|rfl|simp))|(simp[*];done)),H',⟨by have:=HK1.out;omega⟩,⟨by(with_reducible repeat(first|apply Kd.aX|apply Kd.aY|apply Kd.bP));exact HO_0.out⟩,⟨by repeat(first|(with_reducible first|exact HK.out|apply Kept.alloc|apply Kept.drewN|apply Kept.drew)|exact HK.out)⟩,⟨pkL HB⟩⟩
      ·rw[if_neg c7] at H
       have c7b0:((rd l0 (ji4))==0)=false:=beq_eq_false_iff_ne.mpr c7;have c7b1:((rd l0 (ji4)) != 0)=true:=bne_iff_ne.mpr c7
       by_cases c8:0≤x3_1
       ·rw[if_pos c8] at H
        have c8b0:=eq_true c8;have c8b1:decide (0≤x3_1)=true:=decide_eq_true c8;clear c8
        by_cases c9:x3_1≤(l0.length:Int)
        ·rw[if_pos c9] at H
         have c9b0:=eq_true c9;have c9b1:decide (x3_1≤(l0.length:Int))=true:=decide_eq_true c9;clear c9;obtain⟨y102,hy102⟩:∃y_:List Int,y_=(l0.take (x3_1:Int).toNat):=⟨_,rfl⟩
         replace H:(some y102)=some r:=by first|(rw[hy102];with_reducible exact H)|(have H2_:=(Option.bind_some _ _).symm.trans H;rw[hy102];with_reducible exact H2_)|(have H2_:=(Option.bind_some _ _).symm.trans H;with_reducible exact H2_)|with_reducible exact H|(rw[hy102];exact H)|exact H
         have Ny102:=aA.mk hy102;clear hy102;obtain rfl:=Option.some.inj H;have p101:0≤((ji4):Int):=of_decide_eq_true (by first|(with_reducible assumption)|assumption);have q101:(ji4)<(l0.length:Int):=of_decide_eq_true (by first|(with_reducible assumption)|assumption);obtain⟨ad101,e101,hx101_0⟩:=Kd.kS (Kd.dH HO_0.out).2.2 (ji4) p101 q101
         cases e101
         replace p101:=eq_true p101;replace q101:=eq_true q101;have q10:(x3_1:Int)≤((l0.length:Int):Int):=of_decide_eq_true (by first|(with_reducible assumption)|assumption);obtain⟨i010,hi010,_,hsz10,_⟩:=info_parts info3;have hcut10:=cut_to (P:=Tryz.prog) 79 3 .i64 Tryz.underlying79 hi010 (some ad101) l0.length co2 x3_1 (of_decide_eq_true (by first|(with_reducible assumption)|assumption)) q10 (Kd.dH HO_0.out).2.1;have hr10:=Kd.R_take (m:=(x3_1:Int).toNat) HO_0.out aCo;have hy10:y102.length=(x3_1:Int).toNat:=(by rw[Ny102.out,List.length_take];omega);rw[←Ny102.out] at hr10;rw[←hy10] at hr10 hcut10;clear hy10 hi010 hsz10 HO_0;have HO104:=aA.mk hr10;clear hr10;replace q10:=eq_true q10;go_wp2
         go_ret
         exact⟨_,by first|rfl|(simp[dW,dX] <;> rfl)|(simp only[←hji4];first|rfl|(simp[dW,dX] <;> rfl))|(simp[*,dW,dX] <;> rfl),by(with_reducible repeat(first|apply Kd.aX|apply Kd.aY|apply Kd.bP));exact HO104.out,by repeat(first|(with_reducible first|exact HB.out|apply cZ|apply bH|apply bG)|exact HB.out),by repeat(first|(with_reducible first|exact HK.out|apply Kept.alloc|apply Kept.drewN|apply Kept.drew)|exact HK.out)⟩
        ·rw[if_neg c9] at H
         exact absurd H aCq
       ·rw[if_neg c8] at H
        exact absurd H aCq
     ·rw[if_neg c6] at H
      exact absurd H aCq
    ·rw[if_neg c5] at H
     exact absurd H aCq
   ·rw[if_neg c3] at H
    have c3b0:decide (0<x3_1)=false:=decide_eq_false c3;clear c3
    by_cases c11:0≤x3_1
    ·rw[if_pos c11] at H
     have c11b0:=eq_true c11;have c11b1:decide (0≤x3_1)=true:=decide_eq_true c11;clear c11
     by_cases c12:x3_1≤(l0.length:Int)
     ·rw[if_pos c12] at H
      have c12b0:=eq_true c12;have c12b1:decide (x3_1≤(l0.length:Int))=true:=decide_eq_true c12;clear c12;obtain⟨y105,hy105⟩:∃y_:List Int,y_=(l0.take (x3_1:Int).toNat):=⟨_,rfl⟩
      replace H:(some y105)=some r:=by first|(rw[hy105];with_reducible exact H)|(have H2_:=(Option.bind_some _ _).symm.trans H;rw[hy105];with_reducible exact H2_)|(have H2_:=(Option.bind_some _ _).symm.trans H;with_reducible exact H2_)|with_reducible exact H|(rw[hy105];exact H)|exact H
      have Ny105:=aA.mk hy105;clear hy105;obtain rfl:=Option.some.inj H;have q13:(x3_1:Int)≤((l0.length:Int):Int):=of_decide_eq_true (by first|(with_reducible assumption)|assumption);obtain⟨i013,hi013,_,hsz13,_⟩:=info_parts info3;have hcut13:=cut_to (P:=Tryz.prog) 79 3 .i64 Tryz.underlying79 hi013 Ao2 l0.length co2 x3_1 (of_decide_eq_true (by first|(with_reducible assumption)|assumption)) q13 (Kd.dH HO_0.out).2.1;have hr13:=Kd.R_take (m:=(x3_1:Int).toNat) HO_0.out aCo;have hy13:y105.length=(x3_1:Int).toNat:=(by rw[Ny105.out,List.length_take];omega);rw[←Ny105.out] at hr13;rw[←hy13] at hr13 hcut13;clear hy13 hi013 hsz13 HO_0;have HO107:=aA.mk hr13;clear hr13;replace q13:=eq_true q13;go_wp2
      go_ret
      exact⟨_,by first|rfl|(simp[dW,dX] <;> rfl)|(simp[*,dW,dX] <;> rfl),by(with_reducible repeat(first|apply Kd.aX|apply Kd.aY|apply Kd.bP));exact HO107.out,by repeat(first|(with_reducible first|exact HB.out|apply cZ|apply bH|apply bG)|exact HB.out),by repeat(first|(with_reducible first|exact HK.out|apply Kept.alloc|apply Kept.drewN|apply Kept.drew)|exact HK.out)⟩
     ·rw[if_neg c12] at H
      exact absurd H aCq
    ·rw[if_neg c11] at H
     exact absurd H aCq
def jJ.f(l0:List Int)(a1:Int):Option (Int):=if a1<(l0.length:Int) then(if 0≤a1 then(some (rd l0 a1)) else(none)) else(some 0)
theorem jJ.calls(A0:Option Addr)(c0:Nat)(l0:List Int)(a1:Int)(r:Int)(w:World)(hr0:Kd.C (Kd.int .i64) w A0 l0.length l0)(hc0:l0.length≤c0)(h:jJ.f l0 a1=some r) :
 Calls Tryz.prog 195 #[.slice A0 l0.length c0,.int .i64 a1] w fun e w'=>e= .returned (.int .i64 r)∧aZ w w':=by
 have HR0:=aA.mk hr0;have HC0:=aA.mk hc0;clear hr0 hc0;have H:(if a1<(l0.length:Int) then(if 0≤a1 then(some (rd l0 a1)) else(none)) else(some 0))=some r:=h;clear h
 by_cases c3:a1<(l0.length:Int)
 ·rw[if_pos c3] at H
  have c3b0:decide (a1<(l0.length:Int))=true:=decide_eq_true c3;clear c3
  by_cases c4:0≤a1
  ·rw[if_pos c4] at H
   have c4b0:decide (0≤a1)=true:=decide_eq_true c4;clear c4;obtain rfl:=Option.some.inj H;have p108:0≤(a1:Int):=of_decide_eq_true (by first|(with_reducible assumption)|assumption);have q108:a1<(l0.length:Int):=of_decide_eq_true (by first|(with_reducible assumption)|assumption);obtain⟨ad108,e108,hx108_0⟩:=Kd.kS HR0.out a1 p108 q108
   cases e108
   replace p108:=eq_true p108;replace q108:=eq_true q108;go_enter Tryz.func195,Tryz.ntmps195
   go_wp2
   go_ret
   exact⟨by first|rfl|(simp;done)|(simp[*];done),by repeat(first|exact aZ.refl _|apply aZ.step)⟩
  ·rw[if_neg c4] at H
   exact absurd H aCq
 ·rw[if_neg c3] at H
  have c3b0:decide (a1<(l0.length:Int))=false:=decide_eq_false c3;clear c3;obtain rfl:=Option.some.inj H;go_enter Tryz.func195,Tryz.ntmps195
  go_wp2
  go_ret
  exact⟨by first|rfl|(simp;done)|(simp[*];done),by repeat(first|exact aZ.refl _|apply aZ.step)⟩
def gQ.l0:Nat→List Int→List Int→List Int→Int→Int→Option (List Int)
 |0,_,_,_,_,_=>none
 |k+1,x0,x1,x5,x6,x7=>if x7<(wrap64 ((mx (x0.length:Int) (x1.length:Int))+1)) then((jJ.f x0 x7).bind fun t109=>((jJ.f x1 x7).bind fun t110=>(if x5.length<17592186044416 then(gQ.l0 k x0 x1 (x5++ [Int.tmod (wrap64 (x6+(wrap64 (t109+t110)))) 10]) (wrap64 (Int.tdiv (wrap64 (x6+(wrap64 (t109+t110)))) 10)) (wrap64 (x7+1))) else(none)))) else((bU.f k x5).bind fun t114=>(some t114))
def gQ.f(k:Nat)(l0:List Int)(l1:List Int):Option (List Int):=gQ.l0 k l0 l1 ([]:List Int) 0 0
theorem gQ.calls(k:Nat)(A0:Option Addr)(c0:Nat)(l0:List Int)(A1:Option Addr)(c1:Nat)(l1:List Int)(r:List Int)(w:World)(hr0:Kd.C (Kd.int .i64) w A0 l0.length l0)(hc0:l0.length≤c0)(hr1:Kd.C (Kd.int .i64) w A1 l1.length l1)(hc1:l1.length≤c1)(h:gQ.f k l0 l1=some r) :
 Calls Tryz.prog 160 #[.slice A0 l0.length c0,.slice A1 l1.length c1] w fun e w'=>∃v0_:Value,e= .returned (v0_)∧Kd.R (Kd.int .i64) 3 w' w.heap.size (fun _=>True) v0_ r∧Below w.heap.size w w':=by
 have HR0:=aA.mk hr0;have HC0:=aA.mk hc0;clear hr0 hc0;have HR1:=aA.mk hr1;have HC1:=aA.mk hc1;clear hr1 hc1;have HB:=aA.mk (Below.refl w.heap.size w);have H:(gQ.l0 k l0 l1 ([]:List Int) 0 0)=some r:=h;clear h;have H':=aA.mk H;clear H;go_enter Tryz.func160,Tryz.ntmps160
 go_wp2
 go_loopg [5,6,7] k (fun kq v5 v6 v7 w'=>∃(x5_1:List Int) (x6_1:Int) (x7_1:Int),v6= .int .i64 x6_1∧v7= .int .i64 x7_1∧aA (gQ.l0 kq l0 l1 x5_1 x6_1 x7_1=some r)∧aA (kq≤k)∧aA (Kd.R (Kd.int .i64) 3 w' w.heap.size (fun _=>True) v5 x5_1)∧aA (Below w.heap.size w w'))
 case atStart=>exact⟨(([]:List Int)),(0),(0),aCs,aCs,H',⟨Nat.le_refl _⟩,⟨by first|exact Kd.R_nil _ _ _ _ _|exact Kd.N_nil _ _ _ _ _|exact Kd.V_nil _ _ _ _ _|exact Kd.Q_nil _ _ _ _ _|exact Kd.S_nil _ _ _ _ _⟩,⟨pkL HB⟩⟩
 case round=>
  clear H';try clear c1
  obtain⟨x5_1,x6_1,x7_1,rfl,rfl,HA,HK1,HO_5,HB⟩:=hrel
  cases gk with
  |zero=>exact absurd HA.out (by simp[gQ.l0])
  |succ k1=>
   have H:=HA.out;clear HA;simp only[gQ.l0] at H;obtain⟨ji3,hji3⟩:∃j_:Int,(mx (l0.length:Int) (l1.length:Int))=j_:=⟨_,rfl⟩
   replace H:(if x7_1<(wrap64 ((ji3)+1)) then((jJ.f l0 x7_1).bind fun t109=>((jJ.f l1 x7_1).bind fun t110=>(if x5_1.length<17592186044416 then(gQ.l0 k1 l0 l1 (x5_1++ [Int.tmod (wrap64 (x6_1+(wrap64 (t109+t110)))) 10]) (wrap64 (Int.tdiv (wrap64 (x6_1+(wrap64 (t109+t110)))) 10)) (wrap64 (x7_1+1))) else(none)))) else((bU.f k1 x5_1).bind fun t114=>(some t114)))=some r:=by first|(rw[hji3] at H;exact H)|(simp only[hji3] at H ⊢;exact H)
   have hji3_:(if(l0.length:Int)<(l1.length:Int) then(l1.length:Int) else(l0.length:Int))=ji3:=hji3
   have hmax0_:((l0.length:Int)<(l1.length:Int)∧ji3=(l1.length:Int))∨(¬(l0.length:Int)<(l1.length:Int)∧ji3=(l0.length:Int)):=by
    by_cases hq_:(l0.length:Int)<(l1.length:Int)
    ·exact .inl ⟨hq_,by rw[←hji3_,if_pos hq_]⟩
    ·exact .inr ⟨hq_,by rw[←hji3_,if_neg hq_]⟩
   rcases hmax0_ with ⟨hmax1_,hmax2_⟩|⟨hmax1_,hmax2_⟩
   ·subst hmax2_
    by_cases c4:x7_1<(wrap64 (((l1.length:Int))+1))
    ·rw[if_pos c4] at H
     have c4b0:decide (x7_1<(wrap64 (((l1.length:Int))+1)))=true:=decide_eq_true c4;clear c4;obtain⟨t109,A5,H⟩:=bi H;try dsimp only at H
     obtain⟨t110,A6,H⟩:=bi H;try dsimp only at H
     by_cases c7:x5_1.length<17592186044416
     ·rw[if_pos c7] at H
      have LMc7:=aA.mk c7;clear c7;obtain⟨y111,hy111⟩:∃y_:List Int,y_=(x5_1++ [Int.tmod (wrap64 (x6_1+(wrap64 (t109+t110)))) 10]):=⟨_,rfl⟩
      replace H:(gQ.l0 k1 l0 l1 y111 (wrap64 (Int.tdiv (wrap64 (x6_1+(wrap64 (t109+t110)))) 10)) (wrap64 (x7_1+1)))=some r:=by first|(rw[hy111];with_reducible exact H)|(have H2_:=(Option.bind_some _ _).symm.trans H;rw[hy111];with_reducible exact H2_)|(have H2_:=(Option.bind_some _ _).symm.trans H;with_reducible exact H2_)|with_reducible exact H|(rw[hy111];exact H)|exact H
      have Ny111:=aA.mk hy111;clear hy111;have H':=aA.mk H;clear H
      go_wp2_with(first|((with_reducible refine aG (f:=195) rfl ?_);refine gl_ 21 Tryz.func195 #[.slice A0 l0.length c0,.int .i64 x7_1] (h:= ?_);(with_reducible refine(jJ.calls _ _ l0 x7_1 t109 _ ?side1 ?side2 A5.out).mono ?_);(case side1=>repeat(first|exact(Kd.qF HR0.out HB.out)|(with_reducible refine Kd.iZ ?_ _)|(with_reducible refine Kd.jA ?_ _)|(with_reducible refine Kd.jR ?_)));(case side2=>exact HC0.out);rintro e w' ⟨rfl,⟨nd,rfl⟩⟩;refine⟨_,rfl,?_⟩)|((with_reducible refine aG (f:=195) rfl ?_);refine gl_ 24 Tryz.func195 #[.slice A1 l1.length c1,.int .i64 x7_1] (h:= ?_);(with_reducible refine(jJ.calls _ _ l1 x7_1 t110 _ ?side1 ?side2 A6.out).mono ?_);(case side1=>repeat(first|exact(Kd.qF HR1.out (pkL HB))|(with_reducible refine Kd.iZ ?_ _)|(with_reducible refine Kd.jA ?_ _)|(with_reducible refine Kd.jR ?_)));(case side2=>exact HC1.out);rintro e w' ⟨rfl,⟨nd,rfl⟩⟩;refine⟨_,rfl,?_⟩)|((with_reducible refine mQ (b:= .append) (xs:=#[.tmp 27,.tmp 30]) rfl ?_);at_builtin;refine Kd.xU (Kd.int .i64) (w0:=w) w.heap.size rfl (.tmp 27) (.tmp 30) 79 3 (.int .i64 0) 8 rfl Tryz.underlying79 info3 rfl aCr aCo u5 x5_1 (Int.tmod (wrap64 (x6_1+(wrap64 (t109+t110)))) 10) [.int .i64 (Int.tmod (wrap64 (x6_1+(wrap64 (t109+t110)))) 10)] (fun _=>True) (fun _=>False) rfl rfl ?aP (fun _ hk=>hk.elim) ?aF ?aO ?aB ?aS ?aL ?_;(case aP=>exact rfl);(case aB=>exact(pkL HB));(case aF=>exact(fun _ _=>trivial));(case aO=>exact(by(with_reducible repeat(first|apply Kd.aX|apply Kd.aY|apply Kd.bP));exact HO_5.out));(case aS=>exact(dU (pkL HB)));(case aL=>have:=LMc7.out;omega);intro v112 w8 ho hb hg hat;rw[←Ny111.out] at ho;have HO113:=aA.mk (ho);replace HB:=aA.mk (hb);clear ho hb hg hat))
      go_roundg k1
      case measure=>have:=HK1.out;omega
      case rel=>exact⟨(y111),(wrap64 (Int.tdiv (wrap64 (x6_1+(wrap64 (t109+t110)))) 10)),(wrap64 (x7_1+1)),aCs,aCs,H',⟨by have:=HK1.out;omega⟩,⟨by(with_reducible repeat(first|apply Kd.aX|apply Kd.aY|apply Kd.bP));exact HO113.out⟩,⟨pkL HB⟩⟩
     ·rw[if_neg c7] at H
      exact absurd H aCq
    ·rw[if_neg c4] at H
     have c4b0:decide (x7_1<(wrap64 (((l1.length:Int))+1)))=false:=decide_eq_false c4;clear c4;obtain⟨t114,A9,H⟩:=bi H;try dsimp only at H
     obtain rfl:=Option.some.inj H;obtain⟨Ao10,co10,eo10⟩:=Kd.gY HO_5.out;subst eo10
     go_wp2_with(first|((with_reducible refine aG (f:=155) rfl ?_);refine gl_ 35 Tryz.func155 #[.slice Ao10 x5_1.length co10] (h:= ?_);(with_reducible refine(bU.calls k1 (fun k_=>some k_=(.slice Ao10 x5_1.length co10:Value).ownBlock) (.slice Ao10 x5_1.length co10) x5_1 t114 w _ ?side1 ?side2 A9.out).mono ?_);(case side1=>repeat(first|(with_reducible first|exact HB.out|apply cZ|apply bH|apply bG)|exact HB.out));(case side2=>exact Kd.uG rfl HO_5.out);rintro e w11 ⟨v115,rfl,ho0,hb,hkp⟩;refine⟨_,rfl,?_⟩;have HO116:=aA.mk (Kd.jO (ok':=fun k_=>True) ho0 (fun k_ hk_=>trivial));replace HB:=aA.mk (hb);(try clear hb);(try clear hkp);(try clear ho0)))
     go_ret
     exact⟨_,by first|rfl|(simp[dW,dX] <;> rfl)|(simp only[←hji3];first|rfl|(simp[dW,dX] <;> rfl))|(simp[*,dW,dX] <;> rfl),by(with_reducible repeat(first|apply Kd.aX|apply Kd.aY|apply Kd.bP));exact HO116.out,by repeat(first|(with_reducible first|exact HB.out|apply cZ|apply bH|apply bG)|exact HB.out)⟩
   ·subst hmax2_
    by_cases c4:x7_1<(wrap64 (((l0.length:Int))+1))
    ·rw[if_pos c4] at H
     have c4b0:decide (x7_1<(wrap64 (((l0.length:Int))+1)))=true:=decide_eq_true c4;clear c4;obtain⟨t109,A5,H⟩:=bi H;try dsimp only at H
     obtain⟨t110,A6,H⟩:=bi H;try dsimp only at H
     by_cases c7:x5_1.length<17592186044416
     ·rw[if_pos c7] at H
      have LMc7:=aA.mk c7;clear c7;obtain⟨y111,hy111⟩:∃y_:List Int,y_=(x5_1++ [Int.tmod (wrap64 (x6_1+(wrap64 (t109+t110)))) 10]):=⟨_,rfl⟩
      replace H:(gQ.l0 k1 l0 l1 y111 (wrap64 (Int.tdiv (wrap64 (x6_1+(wrap64 (t109+t110)))) 10)) (wrap64 (x7_1+1)))=some r:=by first|(rw[hy111];with_reducible exact H)|(have H2_:=(Option.bind_some _ _).symm.trans H;rw[hy111];with_reducible exact H2_)|(have H2_:=(Option.bind_some _ _).symm.trans H;with_reducible exact H2_)|with_reducible exact H|(rw[hy111];exact H)|exact H
      have Ny111:=aA.mk hy111;clear hy111;have H':=aA.mk H;clear H
      go_wp2_with(first|((with_reducible refine aG (f:=195) rfl ?_);refine gl_ 21 Tryz.func195 #[.slice A0 l0.length c0,.int .i64 x7_1] (h:= ?_);(with_reducible refine(jJ.calls _ _ l0 x7_1 t109 _ ?side1 ?side2 A5.out).mono ?_);(case side1=>repeat(first|exact(Kd.qF HR0.out HB.out)|(with_reducible refine Kd.iZ ?_ _)|(with_reducible refine Kd.jA ?_ _)|(with_reducible refine Kd.jR ?_)));(case side2=>exact HC0.out);rintro e w' ⟨rfl,⟨nd,rfl⟩⟩;refine⟨_,rfl,?_⟩)|((with_reducible refine aG (f:=195) rfl ?_);refine gl_ 24 Tryz.func195 #[.slice A1 l1.length c1,.int .i64 x7_1] (h:= ?_);(with_reducible refine(jJ.calls _ _ l1 x7_1 t110 _ ?side1 ?side2 A6.out).mono ?_);(case side1=>repeat(first|exact(Kd.qF HR1.out (pkL HB))|(with_reducible refine Kd.iZ ?_ _)|(with_reducible refine Kd.jA ?_ _)|(with_reducible refine Kd.jR ?_)));(case side2=>exact HC1.out);rintro e w' ⟨rfl,⟨nd,rfl⟩⟩;refine⟨_,rfl,?_⟩)|((with_reducible refine mQ (b:= .append) (xs:=#[.tmp 27,.tmp 30]) rfl ?_);at_builtin;refine Kd.xU (Kd.int .i64) (w0:=w) w.heap.size rfl (.tmp 27) (.tmp 30) 79 3 (.int .i64 0) 8 rfl Tryz.underlying79 info3 rfl aCr aCo u5 x5_1 (Int.tmod (wrap64 (x6_1+(wrap64 (t109+t110)))) 10) [.int .i64 (Int.tmod (wrap64 (x6_1+(wrap64 (t109+t110)))) 10)] (fun _=>True) (fun _=>False) rfl rfl ?aP (fun _ hk=>hk.elim) ?aF ?aO ?aB ?aS ?aL ?_;(case aP=>exact rfl);(case aB=>exact(pkL HB));(case aF=>exact(fun _ _=>trivial));(case aO=>exact(by(with_reducible repeat(first|apply Kd.aX|apply Kd.aY|apply Kd.bP));exact HO_5.out));(case aS=>exact(dU (pkL HB)));(case aL=>have:=LMc7.out;omega);intro v112 w8 ho hb hg hat;rw[←Ny111.out] at ho;have HO113:=aA.mk (ho);replace HB:=aA.mk (hb);clear ho hb hg hat))
      go_roundg k1
      case measure=>have:=HK1.out;omega
      case rel=>exact⟨(y111),(wrap64 (Int.tdiv (wrap64 (x6_1+(wrap64 (t109+t110)))) 10)),(wrap64 (x7_1+1)),aCs,aCs,H',⟨by have:=HK1.out;omega⟩,⟨by(with_reducible repeat(first|apply Kd.aX|apply Kd.aY|apply Kd.bP));exact HO113.out⟩,⟨pkL HB⟩⟩
     ·rw[if_neg c7] at H
      exact absurd H aCq
    ·rw[if_neg c4] at H
     have c4b0:decide (x7_1<(wrap64 (((l0.length:Int))+1)))=false:=decide_eq_false c4;clear c4;obtain⟨t114,A9,H⟩:=bi H;try dsimp only at H
     obtain rfl:=Option.some.inj H;obtain⟨Ao10,co10,eo10⟩:=Kd.gY HO_5.out;subst eo10
     go_wp2_with(first|((with_reducible refine aG (f:=155) rfl ?_);refine gl_ 35 Tryz.func155 #[.slice Ao10 x5_1.length co10] (h:= ?_);(with_reducible refine(bU.calls k1 (fun k_=>some k_=(.slice Ao10 x5_1.length co10:Value).ownBlock) (.slice Ao10 x5_1.length co10) x5_1 t114 w _ ?side1 ?side2 A9.out).mono ?_);(case side1=>repeat(first|(with_reducible first|exact HB.out|apply cZ|apply bH|apply bG)|exact HB.out));(case side2=>exact Kd.uG rfl HO_5.out);rintro e w11 ⟨v115,rfl,ho0,hb,hkp⟩;refine⟨_,rfl,?_⟩;have HO116:=aA.mk (Kd.jO (ok':=fun k_=>True) ho0 (fun k_ hk_=>trivial));replace HB:=aA.mk (hb);(try clear hb);(try clear hkp);(try clear ho0)))
     go_ret
     exact⟨_,by first|rfl|(simp[dW,dX] <;> rfl)|(simp only[←hji3];first|rfl|(simp[dW,dX] <;> rfl))|(simp[*,dW,dX] <;> rfl),by(with_reducible repeat(first|apply Kd.aX|apply Kd.aY|apply Kd.bP));exact HO116.out,by repeat(first|(with_reducible first|exact HB.out|apply cZ|apply bH|apply bG)|exact HB.out)⟩
end Go.Proofs.YtignanmmgaldeaaGreatDoor.PRefA
end
