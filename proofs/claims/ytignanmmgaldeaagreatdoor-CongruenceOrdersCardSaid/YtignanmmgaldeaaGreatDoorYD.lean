/- Lemmas for the proof. -/
import Derived.Test.YtignanmmgaldeaaGreatDoorYA
import Derived.Test.YtignanmmgaldeaaGreatDoorYC
set_option linter.unusedVariables false
set_option linter.unusedSimpArgs false
set_option maxRecDepth 100000
set_option maxHeartbeats 4000000
namespace Go.Proofs.YtignanmmgaldeaaGreatDoor
open Go.RowKit Go.Shelf
theorem cut_ok:CutOK:=fun s p w=>Any.strings_CutPrefix lay103 s p w
theorem atoi_ok:aCz:=fun s n hl h w=>Any.strconv_Atoi lay172 s n hl h w
theorem aDv(s p:ByteArray)(w:World):Calls Tryz.prog 191 #[.string s,.string p] w fun e w'=>e= .returned (.string ⟨(Lib.trimPrefix s.data.toList p.data.toList).toArray⟩)∧w'=w:=Any.strings_TrimPrefix lay101 s p w
def digs:ByteArray:=⟨#[48,49,50,51,52,53,54,55,56,57]⟩
theorem trim_ok(s:ByteArray)(w:World)(hs:s.size≤9223372036854775807):Calls Tryz.prog 190 #[.string s,.string digs] w fun e w'=>e= .returned (.string ⟨(Lib.trimS s.data.toList digs.data.toList).toArray⟩)∧Below w.heap.size w w':=by
 have hcon:=Any.strings_Trim_laid lay160 (by kernel_rfl) s digs w hs aG0 (ascii_of_all aG0);exact hcon
end Go.Proofs.YtignanmmgaldeaaGreatDoor
namespace Go.Proofs.YtignanmmgaldeaaGreatDoor
open Go.RowKit Go.Shelf Go.Proofs.YtignanmmgaldeaaGreatDoorW.PrintWords
theorem dig_in(c:UInt8):digs.data.toList.contains c=uS c:=by
 have e:digs.data.toList= [48,49,50,51,52,53,54,55,56,57]:=rfl;rw[e,Bool.eq_iff_iff,oJ];simp only[List.contains_eq_mem,List.mem_cons,List.not_mem_nil,or_false,decide_eq_true_eq,←UInt8.toNat_inj];simp only[show(48:UInt8).toNat=48 from rfl,show(49:UInt8).toNat=49 from rfl,show(50:UInt8).toNat=50 from rfl,show(51:UInt8).toNat=51 from rfl,show(52:UInt8).toNat=52 from rfl,show(53:UInt8).toNat=53 from rfl,show(54:UInt8).toNat=54 from rfl,show(55:UInt8).toNat=55 from rfl,show(56:UInt8).toNat=56 from rfl,show(57:UInt8).toNat=57 from rfl];omega
theorem trimS_digs(l:List UInt8):(Lib.trimS l digs.data.toList= [])↔iP l=true:=by
 have hd:∀c:UInt8,digs.data.toList.contains c=uS c:=fun c=>dig_in c
 have h1:∀m:List UInt8,Lib.trimLeftS m digs.data.toList= []↔iP m=true:=by
  intro m;unfold Lib.trimLeftS iP
  induction m with
  |nil=>simp
  |cons c m ih=>
   rw[List.dropWhile_cons,hd c,List.all_cons]
   cases uS c
   ·simp
   ·simpa using ih
 have h2:Lib.trimRightS l digs.data.toList=(Lib.trimLeftS l.reverse digs.data.toList).reverse:=rfl;have h3:∀m:List UInt8,iP m.reverse=iP m:=fun m=>by unfold iP;rw[List.all_reverse]
 unfold Lib.trimS;rw[h1,h2,h3]
 constructor
 ·intro h
  have h4:iP (Lib.trimLeftS l.reverse digs.data.toList)=true:=h
  have h5:∀m:List UInt8,iP (Lib.trimLeftS m digs.data.toList)=true→iP m=true:=by
   intro m;unfold Lib.trimLeftS iP
   induction m with
   |nil=>simp
   |cons c m ih=>
    rw[List.dropWhile_cons,hd c,List.all_cons]
    cases hc:uS c
    ·simp[hc]
    ·simpa using ih
  rw[←h3];exact h5 _ h4
 ·intro h
  rw[(h1 l.reverse).2 (by rw[h3];exact h)];rfl
theorem canon_eq(l:List UInt8):canon l=if Lib.trimPrefix l [45]= [48] then !(Lib.hasPrefix l [45]) else(!(Lib.trimPrefix l [45]).isEmpty && !((Lib.trimPrefix l [45]).head? ==some 48)&&iP (Lib.trimPrefix l [45])):=by
 have key:∀t:List UInt8,t≠ [48]→yP t=(!t.isEmpty && !(t.head? ==some 48)&&iP t):=by
  intro t ht;unfold yP;have:(t== [48])=false:=by simpa using ht
  rw[this,Bool.false_or]
  cases iP t <;> cases (t.head? ==some 48) <;> cases t.isEmpty <;> rfl
 unfold canon
 split
 ·rename_i r
  have e1:Lib.hasPrefix (45::r) [45]=true:=by simp[Lib.hasPrefix]
  have e2:Lib.trimPrefix (45::r) [45]=r:=by simp[Lib.trimPrefix,e1]
  rw[e1,e2]
  split
  ·rename_i h;subst h;rfl
  ·rename_i h
   have:(r== [48])=false:=by simpa using h
   rw[this,key r h];simp
 ·rename_i hne
  have e1:Lib.hasPrefix l [45]=false:=by
   cases l with
   |nil=>rfl
   |cons c l=>
    by_cases hc:c=45
    ·subst hc;exact absurd rfl (hne l)
    ·simp[Lib.hasPrefix,List.isPrefixOf,Ne.symm hc]
  have e2:Lib.trimPrefix l [45]=l:=by simp[Lib.trimPrefix,e1]
  rw[e1,e2]
  split
  ·rename_i h;subst h;rfl
  ·rename_i h
   exact key l h
theorem aFt(a:ByteArray)(w:World)(ha:a.size≤9223372036854775807) :
 Calls Tryz.prog 147 #[.string a] w fun e w'=>e= .returned (.bool (canon a.data.toList))∧Below w.heap.size w w':=by
 have hcut:=fun w=>cut_ok a ⟨#[45]⟩ w
 rw[show(ByteArray.mk #[45]).data.toList= [45] from rfl] at hcut
 have hl:(Lib.trimPrefix a.data.toList [45]).length≤a.size:=by
  rw[Lib.size_eq];unfold Lib.trimPrefix;split <;> simp
 rw[canon_eq];generalize Lib.hasPrefix a.data.toList [45]=neg at hcut ⊢;generalize Lib.trimPrefix a.data.toList [45]=t at hcut hl ⊢;have HC:=Lib.hid hcut;clear hcut
 by_cases h48:t= [48]
 ·subst h48
  rw[if_pos rfl];go_enter Tryz.func147,Tryz.ntmps147
  go_wp2_with(go_at_call 187;refine(HC.out _).mono ?_;rintro e w' ⟨rfl,rfl⟩)
  go_ret
  exact⟨rfl,Below.refl _ _⟩
 ·rw[if_neg h48]
  cases t with
  |nil=>
   go_enter Tryz.func147,Tryz.ntmps147
   go_wp2_with(go_at_call 187;refine(HC.out _).mono ?_;rintro e w' ⟨rfl,rfl⟩)
   go_ret
   exact⟨rfl,Below.refl _ _⟩
  |cons c r=>
   have hsz:(ByteArray.mk (c::r).toArray).size≤9223372036854775807:=by rw[Lib.size_eq];simp at hl ⊢;omega
   have htrim:∀w,Calls Tryz.prog 190 #[.string (ByteArray.mk (c::r).toArray),.string ⟨#[48,49,50,51,52,53,54,55,56,57]⟩] w fun e w'=>e= .returned (.string ⟨(Lib.trimS (ByteArray.mk (c::r).toArray).data.toList digs.data.toList).toArray⟩)∧Below w.heap.size w w':=fun w=>trim_ok (ByteArray.mk (c::r).toArray) w hsz
   rw[show(ByteArray.mk (c::r).toArray).data.toList=c::r from rfl] at htrim;have htl:(ByteArray.mk (c::r).toArray).toList=c::r:=by simp[ByteArray.toList_eq]
   have hpos:0<(ByteArray.mk (c::r).toArray).size:=by rw[Lib.size_eq];simp
   have hget:∀h:0<(ByteArray.mk (c::r).toArray).size,((ByteArray.mk (c::r).toArray)[0]'h).toNat=c.toNat:=fun h=>by simp[ByteArray.getElem_eq_getElem_data]
   have hT:=trimS_digs (c::r);generalize (ByteArray.mk (c::r).toArray)=s at HC htrim htl hget hpos;have HT:=Lib.hid htrim;clear htrim;have b1:(s.toList== [48])=false:=by rw[htl];simpa using h48
   have b2:s.toList.isEmpty=false:=by rw[htl];rfl
   have b3:¬s.toList= []:=by rw[htl];simp
   have hg:=hget hpos;clear htl hget
   by_cases hc:c=48
   ·subst hc
    have g1:(((s[0]'hpos).toNat:Int) != 48)=false:=by rw[hg];rfl
    clear hg;go_enter Tryz.func147,Tryz.ntmps147
    go_wp2_with(go_at_call 187;refine(HC.out _).mono ?_;rintro e w' ⟨rfl,rfl⟩)
    go_ret
    exact⟨by simp,Below.refl _ _⟩
   ·have hc2:c.toNat≠48:=fun e=>hc (aC7 e)
    have g1:(((s[0]'hpos).toNat:Int) != 48)=true:=by rw[hg];simp;omega
    clear hg;have HR:Hid ((!(c::r).isEmpty && !((c::r).head? ==some 48)&&iP (c::r))=iP (c::r)):=by show _=_;simp[hc]
    by_cases hd:iP (c::r)=true
    ·have HZ:=Lib.hid (hT.2 hd)
     have HD:=Lib.hid hd;clear hd hT;go_enter Tryz.func147,Tryz.ntmps147
     go_wp2_with(first
      |(go_at_call 187;refine(HC.out _).mono ?_;rintro e w' ⟨rfl,rfl⟩)
      |(go_at_call 190;refine(HT.out _).mono ?_;rintro e w' ⟨rfl,hB⟩;rw[HZ.out];have HB:=Lib.hid hB;clear hB))
     go_ret
     exact⟨by rw[HR.out,HD.out];rfl,HB.out⟩
    ·obtain⟨b,z,hz⟩:∃b z,Lib.trimS (c::r) digs.data.toList=b::z:=by
      cases h:Lib.trimS (c::r) digs.data.toList with
      |nil=>exact absurd (hT.1 h) hd
      |cons b z=>exact⟨b,z,rfl⟩
     have HZ:=Lib.hid hz;have HD:=Lib.hid (Bool.eq_false_iff.2 hd);clear hd hT hz;go_enter Tryz.func147,Tryz.ntmps147
     go_wp2_with(first
      |(go_at_call 187;refine(HC.out _).mono ?_;rintro e w' ⟨rfl,rfl⟩)
      |(go_at_call 190;refine(HT.out _).mono ?_;rintro e w' ⟨rfl,hB⟩;rw[HZ.out];have HB:=Lib.hid hB;clear hB))
     go_ret
     exact⟨by rw[HR.out,HD.out];rfl,HB.out⟩
def digN(a:ByteArray):Nat:=(Lib.trimPrefix a.data.toList [45]).length
theorem digN_le(a:ByteArray):digN a≤a.size:=by
 rw[Lib.size_eq];unfold digN Lib.trimPrefix;split <;> simp
theorem digits_walk(a:ByteArray)(w:World)(ha:a.size≤9223372036854775807) :
 Calls Tryz.prog 148 #[.string a] w fun e w'=>e= .returned (.int .i64 (digN a))∧w'=w:=by
 have hcut:=fun w=>aDv a ⟨#[45]⟩ w
 rw[show(ByteArray.mk #[45]).data.toList= [45] from rfl] at hcut;have hl:=digN_le a;have hs:(ByteArray.mk (Lib.trimPrefix a.data.toList [45]).toArray).size=digN a:=by rw[Lib.size_eq];rfl
 generalize (ByteArray.mk (Lib.trimPrefix a.data.toList [45]).toArray)=s at hcut hs;generalize digN a=n at hl hs ⊢;have HC:=Lib.hid hcut;clear hcut;subst hs;go_enter Tryz.func148,Tryz.ntmps148
 go_wp2_with(go_at_call 191;refine(HC.out _).mono ?_;rintro e w' ⟨rfl,rfl⟩)
 go_ret
 exact⟨rfl,rfl⟩
def chkI(a:ByteArray):Int:=if canon a.data.toList=true then(if 4096<digN a then 10 else 0) else 3
theorem zH(a:ByteArray)(w:World)(ha:a.size≤9223372036854775807) :
 Calls Tryz.prog 73 #[.string a] w fun e w'=>e= .returned (.int .i64 (chkI a))∧Below w.heap.size w w':=by
 have HC:=Lib.hid (fun w=>aFt a w ha);have HN:=Lib.hid (fun w=>digits_walk a w ha);unfold chkI;generalize canon a.data.toList=b at HC ⊢;generalize digN a=n at HN ⊢
 cases b with
 |false=>
  go_enter Tryz.func73,Tryz.ntmps73
  go_wp2_with(go_at_call 147;refine(HC.out _).mono ?_;rintro e w' ⟨rfl,hB⟩;have HB:=Lib.hid hB;clear hB)
  go_ret
  exact⟨rfl,HB.out⟩
 |true=>
  by_cases h:4096<n
  ·have h1:decide ((4096:Int)<(n:Int))=true:=by simp;omega
   rw[if_pos rfl,if_pos h];go_enter Tryz.func73,Tryz.ntmps73
   go_wp2_with(first
    |(go_at_call 147;refine(HC.out _).mono ?_;rintro e w' ⟨rfl,hB⟩;have HB:=Lib.hid hB;clear hB)
    |(go_at_call 148;refine(HN.out _).mono ?_;rintro e w' ⟨rfl,rfl⟩))
   go_ret
   exact⟨rfl,HB.out⟩
  ·have h1:decide ((4096:Int)<(n:Int))=false:=by simp;omega
   rw[if_pos rfl,if_neg h];go_enter Tryz.func73,Tryz.ntmps73
   go_wp2_with(first
    |(go_at_call 147;refine(HC.out _).mono ?_;rintro e w' ⟨rfl,hB⟩;have HB:=Lib.hid hB;clear hB)
    |(go_at_call 148;refine(HN.out _).mono ?_;rintro e w' ⟨rfl,rfl⟩))
   go_ret
   exact⟨rfl,HB.out⟩
end Go.Proofs.YtignanmmgaldeaaGreatDoor
namespace Go.Proofs.YtignanmmgaldeaaGreatDoor
open Go.RowKit Go.Shelf Go.Proofs.YtignanmmgaldeaaGreatDoorW.PrintWords
theorem aF6{l:List UInt8}(h:yP l=true):iP l=true:=by
 unfold yP at h;simp only[Bool.or_eq_true,Bool.and_eq_true,beq_iff_eq] at h;rcases h with rfl|h
 ·rfl
 ·exact h.1.1
theorem canon_parts(l:List UInt8)(h:canon l=true):iP (Lib.trimPrefix l [45])=true∧ival l=(if Lib.hasPrefix l [45]=true then -(dval (Lib.trimPrefix l [45]):Int) else(dval (Lib.trimPrefix l [45]):Int)):=by
 unfold canon at h
 split at h
 ·rename_i r
  simp only[Bool.and_eq_true] at h;have e1:Lib.hasPrefix (45::r) [45]=true:=by simp[Lib.hasPrefix]
  have e2:Lib.trimPrefix (45::r) [45]=r:=by simp[Lib.trimPrefix,e1]
  rw[e1,e2];exact⟨aF6 h.1,rfl⟩
 ·rename_i hne
  have e1:Lib.hasPrefix l [45]=false:=by
   cases l with
   |nil=>rfl
   |cons c l=>
    by_cases hc:c=45
    ·subst hc;exact absurd rfl (hne l)
    ·simp[Lib.hasPrefix,List.isPrefixOf,Ne.symm hc]
  have e2:Lib.trimPrefix l [45]=l:=by simp[Lib.trimPrefix,e1]
  rw[e1,e2];refine⟨aF6 h,?_⟩;unfold ival
  split
  ·exact absurd rfl (hne _)
  ·rfl
def aV(a:ByteArray):Int:=ival a.data.toList
theorem read_num(a:ByteArray)(w:World)(hc:canon a.data.toList=true)(hd:digN a≤140737488355328) :
 Calls Tryz.prog 144 #[.string a] w fun e w'=>∃r,e= .returned r∧NumV w' r (aV a) ((digN a+8)/9)∧Below w.heap.size w w':=by
 obtain⟨h1,h2⟩:=canon_parts _ hc;have hs:(ByteArray.mk (Lib.trimPrefix a.data.toList [45]).toArray).size=digN a:=by rw[Lib.size_eq];rfl
 refine(read_walk atoi_ok cut_ok a (chV (ByteArray.mk (Lib.trimPrefix a.data.toList [45]).toArray)) w _ (ByteArray.mk (Lib.trimPrefix a.data.toList [45]).toArray) rfl rfl (by rw[hs];exact hd) (fun j hj=>chunk_atoi _ h1 j hj)).mono ?_;rintro e w' ⟨A,c,rfl,hr,hn,hm,hA,hB⟩;have hl:=aAu (chV (ByteArray.mk (Lib.trimPrefix a.data.toList [45]).toArray)) (jL (ByteArray.mk (Lib.trimPrefix a.data.toList [45]).toArray));have hN:jL (ByteArray.mk (Lib.trimPrefix a.data.toList [45]).toArray)=(digN a+8)/9:=by rw[jL,hs]
 have hv:=chunks_val (ByteArray.mk (Lib.trimPrefix a.data.toList [45]).toArray);have hlb:=chunkL_limbs (ByteArray.mk (Lib.trimPrefix a.data.toList [45]).toArray) h1 (jL (ByteArray.mk (Lib.trimPrefix a.data.toList [45]).toArray));generalize mO (chV (ByteArray.mk (Lib.trimPrefix a.data.toList [45]).toArray)) (jL (ByteArray.mk (Lib.trimPrefix a.data.toList [45]).toArray))=l at hr hl hv hlb ⊢;rw[hN] at hr hl hn ⊢;rw[←hl] at hr hn ⊢;refine⟨_,rfl,⟨_,_,_,rfl,oD hr (fun ad e=>(hA ad e).2) hlb hn hm (Nat.le_trans (nN _ _) (Nat.le_refl _)) hv,?_⟩,hB⟩;exact h2
def iZ(a b:ByteArray):Int:=if chkI a=0 then chkI b else chkI a
theorem xU{a:ByteArray}(h:chkI a=0):canon a.data.toList=true∧digN a≤4096:=by
 unfold chkI at h
 split at h
 ·rename_i h1
  split at h
  ·omega
  ·exact⟨h1,by omega⟩
 ·omega
theorem aCs{P:Program}{fn:Func}{p q u:Tmp}{ty:TypeId}(h:fn.results= #[.cell p ty,.cell q ty,.tmp u])(tmps:Array Value)(w:World)(g g2:Nat)(t:TypeId)(cs cs2:Array Value)(fr fr2:Nat×Nat)(d:TypeDesc)
 (hp:tmps.getD p undef= .pointer (some ⟨g,0,none⟩)) (hg:w.heap[g]? =some (.cells cs t fr)) (hq:tmps.getD q undef= .pointer (some ⟨g2,0,none⟩)) (hg2:w.heap[g2]? =some (.cells cs2 t fr2))
 (hu:P.underlying ty=some d) (hd:(match d with | .struct _| .array _ _=>true|_=>false)=true) (hi:(P.info? ty).map (·.size)=some cs.size) (hi2:(P.info? ty).map (·.size)=some cs2.size) :
 (results fn tmps).run P w= .ok (.tuple #[.agg cs,.agg cs2,tmps.getD u undef]) w:=by
 have hp':tmps[p]?.getD undef= .pointer (some ⟨g,0,none⟩):=by simpa using hp
 have hq':tmps[q]?.getD undef= .pointer (some ⟨g2,0,none⟩):=by simpa using hq
 simp[results,h,hp',hq',asAddr,run_loadVar_row w g t ty cs fr d hg hu hd hi,run_loadVar_row w g2 t ty cs2 fr2 d hg2 hu hd hi2]
theorem yQ(a b:ByteArray)(w:World)(c:Int)(hc:iZ a b=c)(h0:c≠0)(ha:a.size≤9223372036854775807)(hb:b.size≤9223372036854775807) :
 Calls Tryz.prog 79 #[.string a,.string b] w fun e w'=>∃d A n c1 d2 B m c2,e= .returned (.tuple #[.agg #[.bool d,.slice A n c1],.agg #[.bool d2,.slice B m c2],.int .i64 c])∧Below w.heap.size w w':=by
 have HA:=Lib.hid (fun w=>zH a w ha);have HB:=Lib.hid (fun w=>zH b w hb);unfold iZ at hc;generalize chkI a=ca at HA hc;generalize chkI b=cb at HB hc;have e0:(c==0)=false:=by simpa using h0
 have e1:(c != 0)=true:=by simpa using h0
 go_enter Tryz.func79,Tryz.ntmps79
 have hix0:=fun(f g:Value) (w':World)=>show(Instr.index 122 (.agg #[f,g]) (.int .i64 0)).run Tryz.prog w'= .ok f w' by
  simp[Instr.index,asIntOf,part,run_underlying Tryz.underlying122,go_sem,Tryz.isAgg22,Tryz.sizeOf22]
 have hix1:=fun(f g:Value) (w':World)=>show(Instr.index 122 (.agg #[f,g]) (.int .i64 1)).run Tryz.prog w'= .ok g w' by
  simp[Instr.index,asIntOf,part,run_underlying Tryz.underlying122,go_sem,Tryz.isAgg22,Tryz.sizeOf22]
 go_wp2
 have hx0:((w.alloc (.cells #[.bool false,.slice none 0 0] 81)).alloc (.cells #[.bool false,.slice none 0 0] 81)).heap[w.heap.size]? =some (.cells #[.bool false,.slice none 0 0] 81):=(Below.heap_alloc _ _ _ aFz).trans (World.alloc_heap_new w _);have hx1:((w.alloc (.cells #[.bool false,.slice none 0 0] 81)).alloc (.cells #[.bool false,.slice none 0 0] 81)).heap[w.heap.size+1]? =some (.cells #[.bool false,.slice none 0 0] 81):=by have:=World.alloc_heap_new (w.alloc (.cells #[.bool false,.slice none 0 0] 81)) (.cells #[.bool false,.slice none 0 0] 81);rwa [World.size_alloc] at this
 have hsz:((w.alloc (.cells #[.bool false,.slice none 0 0] 81)).alloc (.cells #[.bool false,.slice none 0 0] 81)).heap.size=w.heap.size+2:=by simp
 have hBw:Below w.heap.size w ((w.alloc (.cells #[.bool false,.slice none 0 0] 81)).alloc (.cells #[.bool false,.slice none 0 0] 81)):=((Below.refl _ w).alloc (Nat.le_refl _) _).alloc aFz _;obtain⟨W0,hW0⟩:∃W0,(w.alloc (.cells #[.bool false,.slice none 0 0] 81)).alloc (.cells #[.bool false,.slice none 0 0] 81)=W0:=⟨_,rfl⟩
 rw[hW0] at hx0 hx1 hsz hBw ⊢;have HX0:=Lib.hid hx0;have HX1:=Lib.hid hx1;have HSZ:=Lib.hid hsz;have HBW:=Lib.hid hBw;clear hx0 hx1 hW0 hsz hBw
 go_loopw [13] (fun iv wr=>∃k:Nat,k≤1∧iv= .int .i64 k∧(k=1→ca=0)∧Hid (Below W0.heap.size W0 wr)) (fun i _=>2-(intOf i).toNat)
 case atStart=>exact⟨0,by omega,rfl,by omega,Lib.hid (Below.refl _ _)⟩
 case round=>
  obtain⟨k,hk,rfl,hca,HBr⟩:=hrel
  by_cases h0':k=0
  ·subst h0'
   by_cases hz:ca=0
   ·subst hz
    clear hca
    go_wp2_with(go_at_call 73;refine(HA.out _).mono ?_;rintro e w1 ⟨rfl,hB1⟩;have HB1:=Lib.hid hB1;clear hB1)
    exact⟨⟨1,by omega,rfl,by simp,Lib.hid (HBr.out.trans (HB1.out.mono HBr.out.size))⟩,by simp[intOf]⟩
   ·rw[if_neg hz] at hc
    subst hc;clear hca
    go_wp2_with(go_at_call 73;refine(HA.out _).mono ?_;rintro e w1 ⟨rfl,hB1⟩;have hB2:=HBr.out.trans (hB1.mono HBr.out.size);have b0:=(hB2.block w.heap.size (by rw[HSZ.out];omega)).trans HX0.out;have b1:=(hB2.block (w.heap.size+1) (by rw[HSZ.out];omega)).trans HX1.out;have HB2:=Lib.hid hB2;clear hB1 hB2;have c0:=uZ b0 0;have c1:=uZ b0 1;have d0:=uZ b1 0;have d1:=uZ b1 1;have f0:=gY b0 0;have f1:=gY b0 1;have g0:=gY b1 0;have g1:=gY b1 1;simp only[List.getElem?_toArray,List.getElem?_cons_zero,List.getElem?_cons_succ] at c0 c1 d0 d1;have HB0:=Lib.hid b0;have HB1:=Lib.hid b1;clear b0 b1)
    have z0:=(Below.heap_setCell _ ⟨w.heap.size+1,1,none⟩ (.slice none 0 0) w.heap.size (by show w.heap.size≠w.heap.size+1;omega)).trans ((Below.heap_setCell _ ⟨w.heap.size+1,0,none⟩ (.bool false) w.heap.size (by show w.heap.size≠w.heap.size+1;omega)).trans (iR (cs:=#[.bool false,.slice none 0 0]) (iR (cs:=#[.bool false,.slice none 0 0]) HB0.out 0 (.bool false) rfl) 1 (.slice none 0 0) rfl));have z1:=iR (cs:=#[.bool false,.slice none 0 0]) (iR (cs:=#[.bool false,.slice none 0 0]) ((Below.heap_setCell _ ⟨w.heap.size,1,none⟩ (.slice none 0 0) (w.heap.size+1) (by show w.heap.size+1≠w.heap.size;omega)).trans ((Below.heap_setCell _ ⟨w.heap.size,0,none⟩ (.bool false) (w.heap.size+1) (by show w.heap.size+1≠w.heap.size;omega)).trans HB1.out)) 0 (.bool false) rfl) 1 (.slice none 0 0) rfl;refine bodyPost_ret (aCs rfl _ _ w.heap.size (w.heap.size+1) 81 _ _ (0,0) (0,0) _ rfl z0 rfl z1 Tryz.underlying81 rfl (by kernel_rfl) (by kernel_rfl)) rfl ?_;exact⟨_,_,_,_,_,_,_,_,rfl,((((HBW.out.trans (HB2.out.mono (by rw[HSZ.out];omega))).setCell (p:=⟨w.heap.size,0,none⟩) (Nat.le_refl _) _).setCell (p:=⟨w.heap.size,1,none⟩) (Nat.le_refl _) _).setCell (p:=⟨w.heap.size+1,0,none⟩) (Nat.le_succ _) _).setCell (p:=⟨w.heap.size+1,1,none⟩) (Nat.le_succ _) _⟩
  ·obtain rfl:k=1:=by omega
   obtain rfl:=hca rfl;rw[if_pos rfl] at hc;subst hc;clear hca
   go_wp2_with(go_at_call 73;refine(HB.out _).mono ?_;rintro e w1 ⟨rfl,hB1⟩;have hB2:=HBr.out.trans (hB1.mono HBr.out.size);have b0:=(hB2.block w.heap.size (by rw[HSZ.out];omega)).trans HX0.out;have b1:=(hB2.block (w.heap.size+1) (by rw[HSZ.out];omega)).trans HX1.out;have HB2:=Lib.hid hB2;clear hB1 hB2;have c0:=uZ b0 0;have c1:=uZ b0 1;have d0:=uZ b1 0;have d1:=uZ b1 1;have f0:=gY b0 0;have f1:=gY b0 1;have g0:=gY b1 0;have g1:=gY b1 1;simp only[List.getElem?_toArray,List.getElem?_cons_zero,List.getElem?_cons_succ] at c0 c1 d0 d1;have HB0:=Lib.hid b0;have HB1:=Lib.hid b1;clear b0 b1)
   have z0:=(Below.heap_setCell _ ⟨w.heap.size+1,1,none⟩ (.slice none 0 0) w.heap.size (by show w.heap.size≠w.heap.size+1;omega)).trans ((Below.heap_setCell _ ⟨w.heap.size+1,0,none⟩ (.bool false) w.heap.size (by show w.heap.size≠w.heap.size+1;omega)).trans (iR (cs:=#[.bool false,.slice none 0 0]) (iR (cs:=#[.bool false,.slice none 0 0]) HB0.out 0 (.bool false) rfl) 1 (.slice none 0 0) rfl));have z1:=iR (cs:=#[.bool false,.slice none 0 0]) (iR (cs:=#[.bool false,.slice none 0 0]) ((Below.heap_setCell _ ⟨w.heap.size,1,none⟩ (.slice none 0 0) (w.heap.size+1) (by show w.heap.size+1≠w.heap.size;omega)).trans ((Below.heap_setCell _ ⟨w.heap.size,0,none⟩ (.bool false) (w.heap.size+1) (by show w.heap.size+1≠w.heap.size;omega)).trans HB1.out)) 0 (.bool false) rfl) 1 (.slice none 0 0) rfl;refine bodyPost_ret (aCs rfl _ _ w.heap.size (w.heap.size+1) 81 _ _ (0,0) (0,0) _ rfl z0 rfl z1 Tryz.underlying81 rfl (by kernel_rfl) (by kernel_rfl)) rfl ?_;exact⟨_,_,_,_,_,_,_,_,rfl,((((HBW.out.trans (HB2.out.mono (by rw[HSZ.out];omega))).setCell (p:=⟨w.heap.size,0,none⟩) (Nat.le_refl _) _).setCell (p:=⟨w.heap.size,1,none⟩) (Nat.le_refl _) _).setCell (p:=⟨w.heap.size+1,0,none⟩) (Nat.le_succ _) _).setCell (p:=⟨w.heap.size+1,1,none⟩) (Nat.le_succ _) _⟩
end Go.Proofs.YtignanmmgaldeaaGreatDoor
namespace Go.Proofs.YtignanmmgaldeaaGreatDoor
open Go.RowKit Go.Shelf Go.Proofs.YtignanmmgaldeaaGreatDoorW.PrintWords
theorem num_shape{e:Ending}{r:Value}{w w':World}{z:Int}{L:Nat}(h1:e= .returned r)(h2:NumV w' r z L)(h3:Below w.heap.size w w'):∃d A n c,e= .returned (.agg #[.bool d,.slice A n c])∧NumV w' (.agg #[.bool d,.slice A n c]) z L∧Below w.heap.size w w':=by
 obtain⟨b,u,x,rfl,⟨A,n,c,xs,rfl,h⟩,hz⟩:=h2;exact⟨b,A,n,c,h1,⟨b,_,x,rfl,⟨A,n,c,xs,rfl,h⟩,hz⟩,h3⟩
theorem Mag.set{w:World}{v:Value}{x:Int}{L:Nat}(h:Mag w v x L){g:Nat}{cs:Array Value}{t:TypeId}(hg:w.heap[g]? =some (.cells cs t (0,0)))(hcs:∀(k:Nat) (i:Int),cs[k]? ≠some (.int .i64 i))(o:Nat)(u:Value):Mag (w.setCell ⟨g,o,none⟩ u) v x L:=by
 obtain⟨A,n,c,xs,rfl,h1,h2,h3,h4,h5,h6,h7⟩:=h;refine⟨A,n,c,xs,rfl,⟨h1.1,h1.2.1,fun hn=> ?_⟩,h2,h3,h4,h5,h6,h7⟩;obtain⟨ad,e,hlt,hc⟩:=h1.2.2 hn
 have hne:ad.block≠g:=by
  intro e2;have h0:=hc 0 hn;rw[World.cell?,add_block,e2,hg] at h0
  dsimp only at h0
  split at h0
  ·cases h0
  ·exact hcs _ _ h0
 exact⟨ad,e,by simpa[World.setCell] using hlt,fun j hj=>(cell_far u (by rw[add_block];exact fun q=>hne q.symm)).trans (hc j hj)⟩
theorem NumV.set{w:World}{v:Value}{x:Int}{L:Nat}(h:NumV w v x L){g:Nat}{cs:Array Value}{t:TypeId}(hg:w.heap[g]? =some (.cells cs t (0,0)))(hcs:∀(k:Nat) (i:Int),cs[k]? ≠some (.int .i64 i))(o:Nat)(u:Value):NumV (w.setCell ⟨g,o,none⟩ u) v x L:=by
 obtain⟨b,u',x',rfl,h1,h2⟩:=h;exact⟨b,u',x',rfl,h1.set hg hcs o u,h2⟩
theorem aBv(b:Bool)(A:Option Addr)(n c:Nat):∀(k:Nat) (i:Int),(#[Value.bool b,Value.slice A n c]:Array Value)[k]? ≠some (.int .i64 i):=by
 intro k i
 match k with
 |0=>simp
 |1=>simp
 |k+2=>simp
theorem NumV.set2{w:World}{v:Value}{x:Int}{L:Nat}(h:NumV w v x L){g:Nat}{b:Bool}{A:Option Addr}{n c:Nat}{t:TypeId}(hg:w.heap[g]? =some (.cells #[.bool b,.slice A n c] t (0,0)))(d:Bool)(B:Option Addr)(m e:Nat):NumV ((w.setCell ⟨g,0,none⟩ (.bool d)).setCell ⟨g,1,none⟩ (.slice B m e)) v x L:=
 (h.set hg (aBv b A n c) 0 _).set (iR (cs:=#[.bool b,.slice A n c]) hg 0 (.bool d) rfl) (aBv d A n c) 1 _
theorem uI{w:World}{g:Nat}{b:Bool}{A:Option Addr}{n c:Nat}{t:TypeId}(hg:w.heap[g]? =some (.cells #[.bool b,.slice A n c] t (0,0)))(d:Bool)(B:Option Addr)(m e:Nat):((w.setCell ⟨g,0,none⟩ (.bool d)).setCell ⟨g,1,none⟩ (.slice B m e)).heap[g]? =some (.cells #[.bool d,.slice B m e] t (0,0)):=
 iR (cs:=#[.bool d,.slice A n c]) (iR (cs:=#[.bool b,.slice A n c]) hg 0 (.bool d) rfl) 1 (.slice B m e) rfl
theorem wB{w:World}{g k:Nat}(h:k≠g)(d u:Value):((w.setCell ⟨g,0,none⟩ d).setCell ⟨g,1,none⟩ u).heap[k]? =w.heap[k]? :=
 (Below.heap_setCell _ ⟨g,1,none⟩ u k h).trans (Below.heap_setCell _ ⟨g,0,none⟩ d k h)
theorem mM{B:Nat}{w0 w:World}(h:Below B w0 w){g:Nat}(hg:B≤g)(d u:Value):Below B w0 ((w.setCell ⟨g,0,none⟩ d).setCell ⟨g,1,none⟩ u):=(h.setCell (p:=⟨g,0,none⟩) hg d).setCell (p:=⟨g,1,none⟩) hg u
theorem pair_num(a b:ByteArray)(w:World)(ha0:chkI a=0)(hb0:chkI b=0)(ha:a.size≤9223372036854775807)(hb:b.size≤9223372036854775807) :
 Calls Tryz.prog 79 #[.string a,.string b] w fun e w'=>∃u v,e= .returned (.tuple #[u,v,.int .i64 0])∧NumV w' u (aV a) 456∧NumV w' v (aV b) 456∧Below w.heap.size w w':=by
 have HA:=Lib.hid (fun w=>zH a w ha);have HB:=Lib.hid (fun w=>zH b w hb);obtain⟨ca,da⟩:=xU ha0;obtain⟨cb,db⟩:=xU hb0
 have HRA:Hid (∀w:World,Calls Tryz.prog 144 #[.string a] w fun e w'=>∃d A n c,e= .returned (.agg #[.bool d,.slice A n c])∧NumV w' (.agg #[.bool d,.slice A n c]) (aV a) 456∧Below w.heap.size w w'):=Lib.hid fun w=>(read_num a w ca aFx).mono fun e w' h=>by
  obtain⟨r,h1,h2,h3⟩:=h;exact num_shape h1 (h2.more aFx) h3
 have HRB:Hid (∀w:World,Calls Tryz.prog 144 #[.string b] w fun e w'=>∃d A n c,e= .returned (.agg #[.bool d,.slice A n c])∧NumV w' (.agg #[.bool d,.slice A n c]) (aV b) 456∧Below w.heap.size w w'):=Lib.hid fun w=>(read_num b w cb aFx).mono fun e w' h=>by
  obtain⟨r,h1,h2,h3⟩:=h;exact num_shape h1 (h2.more aFx) h3
 rw[ha0] at HA;rw[hb0] at HB;clear ca da cb db ha0 hb0;go_enter Tryz.func79,Tryz.ntmps79
 have hix0:=fun(f g:Value) (w':World)=>show(Instr.index 122 (.agg #[f,g]) (.int .i64 0)).run Tryz.prog w'= .ok f w' by
  simp[Instr.index,asIntOf,part,run_underlying Tryz.underlying122,go_sem,Tryz.isAgg22,Tryz.sizeOf22]
 have hix1:=fun(f g:Value) (w':World)=>show(Instr.index 122 (.agg #[f,g]) (.int .i64 1)).run Tryz.prog w'= .ok g w' by
  simp[Instr.index,asIntOf,part,run_underlying Tryz.underlying122,go_sem,Tryz.isAgg22,Tryz.sizeOf22]
 go_wp2
 have hx0:((w.alloc (.cells #[.bool false,.slice none 0 0] 81)).alloc (.cells #[.bool false,.slice none 0 0] 81)).heap[w.heap.size]? =some (.cells #[.bool false,.slice none 0 0] 81):=(Below.heap_alloc _ _ _ aFz).trans (World.alloc_heap_new w _);have hx1:((w.alloc (.cells #[.bool false,.slice none 0 0] 81)).alloc (.cells #[.bool false,.slice none 0 0] 81)).heap[w.heap.size+1]? =some (.cells #[.bool false,.slice none 0 0] 81):=by have:=World.alloc_heap_new (w.alloc (.cells #[.bool false,.slice none 0 0] 81)) (.cells #[.bool false,.slice none 0 0] 81);rwa [World.size_alloc] at this
 have hsz:((w.alloc (.cells #[.bool false,.slice none 0 0] 81)).alloc (.cells #[.bool false,.slice none 0 0] 81)).heap.size=w.heap.size+2:=by simp
 have hBw:Below w.heap.size w ((w.alloc (.cells #[.bool false,.slice none 0 0] 81)).alloc (.cells #[.bool false,.slice none 0 0] 81)):=((Below.refl _ w).alloc (Nat.le_refl _) _).alloc aFz _;obtain⟨W0,hW0⟩:∃W0,(w.alloc (.cells #[.bool false,.slice none 0 0] 81)).alloc (.cells #[.bool false,.slice none 0 0] 81)=W0:=⟨_,rfl⟩
 rw[hW0] at hx0 hx1 hsz hBw ⊢;have HX0:=Lib.hid hx0;have HX1:=Lib.hid hx1;have HSZ:=Lib.hid hsz;have HBW:=Lib.hid hBw;clear hx0 hx1 hW0 hsz hBw
 go_loopw [13] (fun iv wr=>∃k:Nat,k≤2∧iv= .int .i64 k∧Hid (Below W0.heap.size W0 wr)) (fun i _=>2-(intOf i).toNat)
 case atStart=>exact⟨0,by omega,rfl,Lib.hid (Below.refl _ _)⟩
 case round=>
  obtain⟨k,hk,rfl,HBr⟩:=hrel
  by_cases h0:k=0
  ·subst h0
   go_wp2_with(go_at_call 73;refine(HA.out _).mono ?_;rintro e w1 ⟨rfl,hB1⟩;have HB1:=Lib.hid hB1;clear hB1)
   exact⟨⟨1,by omega,rfl,Lib.hid (HBr.out.trans (HB1.out.mono HBr.out.size))⟩,by simp[intOf]⟩
  ·by_cases h1:k=1
   ·subst h1
    go_wp2_with(go_at_call 73;refine(HB.out _).mono ?_;rintro e w1 ⟨rfl,hB1⟩;have HB1:=Lib.hid hB1;clear hB1)
    exact⟨⟨2,by omega,rfl,Lib.hid (HBr.out.trans (HB1.out.mono HBr.out.size))⟩,by simp[intOf]⟩
   ·obtain rfl:k=2:=by omega
    clear h0 h1 HA HB;have HY0:=Lib.hid ((HBr.out.block w.heap.size (by rw[HSZ.out];omega)).trans HX0.out);have HY1:=Lib.hid ((HBr.out.block (w.heap.size+1) (by rw[HSZ.out];omega)).trans HX1.out);have HWr:=Lib.hid (HBW.out.trans (HBr.out.mono (by rw[HSZ.out];omega)));have HSr:=Lib.hid (show w.heap.size+2≤wr.heap.size by have:=HBr.out.size;rw[HSZ.out] at this;omega);clear HX0 HX1 HBr HBW HSZ;have cc0:=fun(W:World) (h:W.heap[w.heap.size]? =some (.cells #[.bool false,.slice none 0 0] 81 (0,0)))=>(⟨fJ h 0 _ rfl,fJ h 1 _ rfl,gY h 0,gY h 1⟩:W.cell? ⟨w.heap.size,0,none⟩=some (.bool false)∧W.cell? ⟨w.heap.size,1,none⟩=some (.slice none 0 0)∧W.frozen? ⟨w.heap.size,0,none⟩=false∧W.frozen? ⟨w.heap.size,1,none⟩=false)
    have cc1:=fun(W:World) (h:W.heap[w.heap.size+1]? =some (.cells #[.bool false,.slice none 0 0] 81 (0,0)))=>(⟨fJ h 0 _ rfl,fJ h 1 _ rfl,gY h 0,gY h 1⟩:W.cell? ⟨w.heap.size+1,0,none⟩=some (.bool false)∧W.cell? ⟨w.heap.size+1,1,none⟩=some (.slice none 0 0)∧W.frozen? ⟨w.heap.size+1,0,none⟩=false∧W.frozen? ⟨w.heap.size+1,1,none⟩=false)
    have CC0:=Lib.hid cc0;have CC1:=Lib.hid cc1;clear cc0 cc1;clear hix0 hix1 ha hb
    go_wp2_with(first
     |(go_at_call 144;refine(HRA.out _).mono ?_;rintro e w1 ⟨d1,A1,n1,c1,rfl,hn1,hB1⟩;have HN1:=Lib.hid hn1;have HB1:=Lib.hid hB1;clear hn1 hB1 HRA)
     |(go_at_call 144;refine(HRB.out _).mono ?_;rintro e w2 ⟨d2,A2,n2,c2,rfl,hn2,hB2⟩;have hB3:=HB1.out.trans (hB2.mono HB1.out.size);have l9:=hB3.size;have hb0:=(hB3.block w.heap.size (by have:=HSr.out;omega)).trans HY0.out;have hb1:=(hB3.block (w.heap.size+1) (by have:=HSr.out;omega)).trans HY1.out;obtain⟨p0,p1,p2,p3⟩:=CC0.out _ hb0;obtain⟨q0,q1,q2,q3⟩:=CC1.out _ hb1;have HZ0:=Lib.hid hb0;have HZ1:=Lib.hid hb1;have HN2:=Lib.hid hn2;have HB2:=Lib.hid hB2;have HB3:=Lib.hid hB3;clear hn2 hB2 hB3 l9 hb0 hb1))
    have y1:=(wB (w:=w2) (g:=w.heap.size) (k:=w.heap.size+1) aFx (.bool d1) (.slice A1 n1 c1)).trans HZ1.out;have z0:=(wB (w:=(w2.setCell ⟨w.heap.size,0,none⟩ (.bool d1)).setCell ⟨w.heap.size,1,none⟩ (.slice A1 n1 c1)) (g:=w.heap.size+1) (k:=w.heap.size) aFx (.bool d2) (.slice A2 n2 c2)).trans (uI HZ0.out d1 A1 n1 c1);have z1:=uI y1 d2 A2 n2 c2;refine bodyPost_ret (aCs rfl _ _ w.heap.size (w.heap.size+1) 81 _ _ (0,0) (0,0) _ rfl z0 rfl z1 Tryz.underlying81 rfl (by kernel_rfl) (by kernel_rfl)) rfl ?_;exact⟨_,_,rfl,((HN1.out.below HB2.out).set2 HZ0.out _ _ _ _).set2 y1 _ _ _ _,(HN2.out.set2 HZ0.out _ _ _ _).set2 y1 _ _ _ _,mM (mM (HWr.out.trans (HB3.out.mono (by have:=HSr.out;omega))) (Nat.le_refl _) _ _) (Nat.le_succ _) _ _⟩
end Go.Proofs.YtignanmmgaldeaaGreatDoor
namespace Go.Proofs.YtignanmmgaldeaaGreatDoor
open Go.RowKit Go.Shelf Go.Proofs.YtignanmmgaldeaaGreatDoorW.PrintWords
theorem NumV.neg{w:World}{d:Bool}{u:Value}{z:Int}{L:Nat}(h:NumV w (.agg #[.bool d,u]) z L):NumV w (.agg #[.bool (!d),u]) (-z) L:=by
 obtain⟨b,v,x,he,h1,h2⟩:=h
 injection he with he
 simp only[Array.mk.injEq,List.cons.injEq,Value.bool.injEq,and_true] at he;obtain⟨rfl,rfl⟩:=he;exact⟨!d,u,x,rfl,h1,by rw[h2];cases d <;> simp⟩
theorem yR(d:Bool)(A:Option Addr)(n c:Nat)(w:World) :
 Calls Tryz.prog 83 #[.agg #[.bool d,.slice A n c]] w fun e w'=>e= .returned (.agg #[.bool (!d),.slice A n c])∧Below w.heap.size w w':=by
 go_enter Tryz.func83,Tryz.ntmps83
 go_wp2
 have hb:((w.alloc (.cells #[.bool d,.slice A n c] 81)).alloc (.cells #[.bool (!d),.slice A n c] 81)).heap[w.heap.size+1]? =some (.cells #[.bool (!d),.slice A n c] 81):=by
  have:=World.alloc_heap_new (w.alloc (.cells #[.bool d,.slice A n c] 81)) (.cells #[.bool (!d),.slice A n c] 81)
  rwa [World.size_alloc] at this
 refine bodyPost_ret (results_cell_row rfl _ _ (w.heap.size+1) 81 #[.bool (!d),.slice A n c] (0,0) _ rfl hb Tryz.underlying81 rfl (by kernel_rfl)) rfl ?_;exact⟨rfl,((Below.refl _ w).alloc (Nat.le_refl _) _).alloc aFz _⟩
def sgnI(z:Int):Int:=if z<0 then -1 else if z=0 then 0 else 1
theorem sign_walk(d:Bool)(A:Option Addr)(n c:Nat)(w:World)(hn:n≤9223372036854775807) :
 Calls Tryz.prog 93 #[.agg #[.bool d,.slice A n c]] w fun e w'=>e= .returned (.int .i64 (if n=0 then 0 else if d=true then -1 else 1))∧Below w.heap.size w w':=by
 by_cases h:n=0
 ·subst h
  go_enter Tryz.func93,Tryz.ntmps93
  go_wp2
  go_ret
  exact⟨rfl,(Below.refl _ w).alloc (Nat.le_refl _) _⟩
 ·rw[if_neg h]
  have h1:((n:Int)==0)=false:=by simp;omega
  have h2:¬(n:Int)=0:=by omega
  cases d with
  |true=>
   go_enter Tryz.func93,Tryz.ntmps93
   go_wp2
   go_ret
   exact⟨rfl,(Below.refl _ w).alloc (Nat.le_refl _) _⟩
  |false=>
   go_enter Tryz.func93,Tryz.ntmps93
   go_wp2
   go_ret
   exact⟨rfl,(Below.refl _ w).alloc (Nat.le_refl _) _⟩
theorem sign_num(u:Value)(z:Int)(L:Nat)(w:World)(h:NumV w u z L) :
 Calls Tryz.prog 93 #[u] w fun e w'=>e= .returned (.int .i64 (sgnI z))∧Below w.heap.size w w':=by
 obtain⟨b,v,x,rfl,⟨A,n,c,xs,rfl,h1,h2,h3,h4,h5,h6,h7⟩,hz⟩:=h
 have he:(if n=0 then(0:Int) else if b=true then -1 else 1)=sgnI z:=by
  have hz0:=sU h2 h3;have hp:=rJ h2;rw[h7,h1.1] at hz0;unfold sgnI
  by_cases h0:n=0
  ·have:=hz0.2 h0
   rw[if_pos h0,hz,this];cases b <;> simp
  ·have hx:x≠0:=fun e=>h0 (hz0.1 e)
   rw[if_neg h0,hz]
   cases b
   ·rw[if_neg aFz,if_neg (by simp;omega),if_neg (by simpa using hx)]
   ·rw[if_pos rfl,if_pos (by simp;omega)]
 rw[←he];exact sign_walk b A n c w h1.2.1
theorem oZ(a b:ByteArray)(w:World)(ha0:chkI a=0)(hb0:chkI b=0)(ha:a.size≤9223372036854775807)(hb:b.size≤9223372036854775807) :
 Calls Tryz.prog 79 #[.string a,.string b] w fun e w'=>∃d A n c d2 B m c2,e= .returned (.tuple #[.agg #[.bool d,.slice A n c],.agg #[.bool d2,.slice B m c2],.int .i64 0])∧NumV w' (.agg #[.bool d,.slice A n c]) (aV a) 456∧NumV w' (.agg #[.bool d2,.slice B m c2]) (aV b) 456∧Below w.heap.size w w':=by
 refine(pair_num a b w ha0 hb0 ha hb).mono ?_;rintro e w' ⟨u,v,he,h1,h2,h3⟩;have k1:=h1;have k2:=h2;obtain⟨d,u',x,rfl,⟨A,n,c,xs,rfl,h⟩,hz⟩:=h1;obtain⟨d2,u2,x2,rfl,⟨B,m,c2,ys,rfl,h'⟩,hz2⟩:=h2;exact⟨d,A,n,c,d2,B,m,c2,he,k1,k2,h3⟩
theorem compare_ok(a b:ByteArray)(w:World)(ha0:chkI a=0)(hb0:chkI b=0)(ha:a.size≤9223372036854775807)(hb:b.size≤9223372036854775807) :
 Calls Tryz.prog 69 #[.string a,.string b] w fun e w'=>e= .returned (.tuple #[.int .i64 (sgnI (aV a-aV b)),.int .i64 0])∧Below w.heap.size w w':=by
 have HP:=Lib.hid (fun w=>oZ a b w ha0 hb0 ha hb);go_enter Tryz.func69,Tryz.ntmps69
 clear ha0 hb0 ha hb
 go_wp2_with(go_at_call 79;refine(HP.out _).mono ?_;rintro e w1 ⟨d,A,n,c,d2,B,m,c2,rfl,hn1,hn2,hB⟩;have HN1:=Lib.hid hn1;have HN2:=Lib.hid hn2;have HB:=Lib.hid hB;clear hn1 hn2 hB HP)
 have hb0:((w1.alloc (.cells #[.bool d,.slice A n c] 81)).alloc (.cells #[.bool d2,.slice B m c2] 81)).heap[w1.heap.size]? =some (.cells #[.bool d,.slice A n c] 81):=(Below.heap_alloc _ _ _ aFz).trans (World.alloc_heap_new w1 _)
 have hb1:((w1.alloc (.cells #[.bool d,.slice A n c] 81)).alloc (.cells #[.bool d2,.slice B m c2] 81)).heap[w1.heap.size+1]? =some (.cells #[.bool d2,.slice B m c2] 81):=by
  have:=World.alloc_heap_new (w1.alloc (.cells #[.bool d,.slice A n c] 81)) (.cells #[.bool d2,.slice B m c2] 81)
  rwa [World.size_alloc] at this
 have hBa:Below w1.heap.size w1 ((w1.alloc (.cells #[.bool d,.slice A n c] 81)).alloc (.cells #[.bool d2,.slice B m c2] 81)):=((Below.refl _ w1).alloc (Nat.le_refl _) _).alloc aFz _;have hsz:((w1.alloc (.cells #[.bool d,.slice A n c] 81)).alloc (.cells #[.bool d2,.slice B m c2] 81)).heap.size=w1.heap.size+2:=by simp
 obtain⟨W5,hW5⟩:∃W5,(w1.alloc (.cells #[.bool d,.slice A n c] 81)).alloc (.cells #[.bool d2,.slice B m c2] 81)=W5:=⟨_,rfl⟩
 rw[hW5] at hb0 hb1 hBa hsz ⊢;clear hW5;have c0:=fJ hb0 0 _ rfl;have c1:=fJ hb0 1 _ rfl;have c3:=fJ hb1 0 _ rfl;have c4:=fJ hb1 1 _ rfl
 have HKC:Hid (∀v1 v2:World,w1.heap.size+1<v1.heap.size→Below v1.heap.size v1 v2→(v1.cell? ⟨w1.heap.size,0,none⟩=some (.bool d)∧v1.cell? ⟨w1.heap.size,1,none⟩=some (.slice A n c)∧v1.cell? ⟨w1.heap.size+1,0,none⟩=some (.bool d2)∧v1.cell? ⟨w1.heap.size+1,1,none⟩=some (.slice B m c2))→v2.cell? ⟨w1.heap.size,0,none⟩=some (.bool d)∧v2.cell? ⟨w1.heap.size,1,none⟩=some (.slice A n c)∧v2.cell? ⟨w1.heap.size+1,0,none⟩=some (.bool d2)∧v2.cell? ⟨w1.heap.size+1,1,none⟩=some (.slice B m c2)):=Lib.hid fun v1 v2 hl hB ⟨a1,a2,a3,a4⟩=>
  ⟨(hB.cell (p:=⟨w1.heap.size,0,none⟩) (by show w1.heap.size<_;omega)).trans a1,(hB.cell (p:=⟨w1.heap.size,1,none⟩) (by show w1.heap.size<_;omega)).trans a2,(hB.cell (p:=⟨w1.heap.size+1,0,none⟩) hl).trans a3,(hB.cell (p:=⟨w1.heap.size+1,1,none⟩) hl).trans a4⟩
 have kd:W5.drew.cell? ⟨w1.heap.size,0,none⟩=some (.bool d)∧W5.drew.cell? ⟨w1.heap.size,1,none⟩=some (.slice A n c)∧W5.drew.cell? ⟨w1.heap.size+1,0,none⟩=some (.bool d2)∧W5.drew.cell? ⟨w1.heap.size+1,1,none⟩=some (.slice B m c2):=⟨c0,c1,c3,c4⟩;have HBD:=Lib.hid hBa.drew;have hsd:w1.heap.size+2=W5.drew.heap.size:=hsz.symm;clear hb0 hb1 hBa hsz
 go_region_held3 (fun w'=>w'.cell? ⟨w1.heap.size,0,none⟩=some (.bool d)∧w'.cell? ⟨w1.heap.size,1,none⟩=some (.slice A n c)∧w'.cell? ⟨w1.heap.size+1,0,none⟩=some (.bool d2)∧w'.cell? ⟨w1.heap.size+1,1,none⟩=some (.slice B m c2)) (first|assumption) (first
  |(go_at_call 83;refine(yR d2 B m c2 W5.drew).mono ?_;rintro e w2 ⟨rfl,hB2⟩;have k2:=HKC.out _ _ aFx hB2 kd;have HB2:=Lib.hid hB2;have l9:=hB2.size;clear hB2)
  |(go_at_call 81;refine(sum_num _ _ (aV a) (-aV b) 456 w2 (HN1.out.below (HBD.out.trans (HB2.out.mono aFx))) (HN2.out.neg.below (HBD.out.trans (HB2.out.mono aFx))) aFx).mono ?_;rintro e w3 ⟨r,rfl,hr,hB3⟩;have k3:=HKC.out _ _ aFx hB3 k2;have HR:=Lib.hid hr;have HB3:=Lib.hid hB3;have o5:=hB3.size;clear hB3 hr)
  |(go_at_call 93;refine(sign_num r _ _ w3 HR.out).mono ?_;rintro e w4 ⟨rfl,hB4⟩;have k4:=HKC.out _ _ aFx hB4 k3;have HB4:=Lib.hid hB4;clear hB4))
 all_goals(
  go_wp2
  go_ret2
  exact⟨by rw[Int.sub_eq_add_neg];rfl,HB.out.trans ((HBD.out.trans ((HB2.out.mono aFx).trans ((HB3.out.mono aFx).trans (HB4.out.mono aFx)))).mono HB.out.size)⟩)
theorem compare_err(a b:ByteArray)(w:World)(c:Int)(hc:iZ a b=c)(h0:c≠0)(ha:a.size≤9223372036854775807)(hb:b.size≤9223372036854775807) :
 Calls Tryz.prog 69 #[.string a,.string b] w fun e w'=>e= .returned (.tuple #[.int .i64 0,.int .i64 c])∧Below w.heap.size w w':=by
 have HP:Hid (∀w:World,Calls Tryz.prog 79 #[.string a,.string b] w fun e w'=>∃d A n c1 d2 B m c2,e= .returned (.tuple #[.agg #[.bool d,.slice A n c1],.agg #[.bool d2,.slice B m c2],.int .i64 c])∧Below w.heap.size w w'):=Lib.hid (fun w=>yQ a b w c hc h0 ha hb);have e1:(c != 0)=true:=by simpa using h0
 go_enter Tryz.func69,Tryz.ntmps69
 clear hc ha hb
 go_wp2_with(go_at_call 79;refine(HP.out _).mono ?_;rintro e w1 ⟨d,A,n,c1,d2,B,m,c2,rfl,hB⟩;have HB:=Lib.hid hB;clear hB HP)
 go_ret2
 exact⟨rfl,HB.out.trans ((((Below.refl _ w1).alloc (Nat.le_refl _) _).alloc aFz _).mono HB.out.size)⟩
def cmpI(a b:ByteArray):Int:=if iZ a b=0 then sgnI (aV a-aV b) else 0
theorem compare_walk(a b:ByteArray)(w:World)(ha:a.size≤9223372036854775807)(hb:b.size≤9223372036854775807) :
 Calls Tryz.prog 69 #[.string a,.string b] w fun e w'=>e= .returned (.tuple #[.int .i64 (cmpI a b),.int .i64 (iZ a b)])∧Below w.heap.size w w':=by
 by_cases h:iZ a b=0
 ·rw[cmpI,if_pos h,h]
  unfold iZ at h
  split at h
  ·rename_i h1
   exact compare_ok a b w h1 h ha hb
  ·rename_i h1
   exact absurd h h1
 ·rw[cmpI,if_neg h]
  exact compare_err a b w _ rfl h ha hb
end Go.Proofs.YtignanmmgaldeaaGreatDoor
namespace Go.Proofs.YtignanmmgaldeaaGreatDoor
open Go.RowKit
def oL.f(a0 a1:ByteArray):Option (Int×Int):=if a0.size≤9223372036854775807∧a1.size≤9223372036854775807 then some (cmpI a0 a1,iZ a0 a1) else none
theorem oL.calls(a0 a1:ByteArray)(r0 r1:Int)(w:World)(h:oL.f a0 a1=some (r0,r1)) :
 Calls Tryz.prog 69 #[.string a0,.string a1] w fun e w'=>e= .returned (.tuple #[.int .i64 r0,.int .i64 r1])∧Below w.heap.size w w':=by
 unfold oL.f at h
 split at h
 ·rename_i hs
  cases h
  exact compare_walk a0 a1 w hs.1 hs.2
 ·cases h
def iQ.f(a0:ByteArray):Option Int:=if a0.size≤9223372036854775807 then some (chkI a0) else none
theorem iQ.calls(a0:ByteArray)(r0:Int)(w:World)(h:iQ.f a0=some r0) :
 Calls Tryz.prog 73 #[.string a0] w fun e w'=>e= .returned (.int .i64 r0)∧Below w.heap.size w w':=by
 unfold iQ.f at h
 split at h
 ·rename_i hs
  cases h
  exact zH a0 w hs
 ·cases h
end Go.Proofs.YtignanmmgaldeaaGreatDoor
