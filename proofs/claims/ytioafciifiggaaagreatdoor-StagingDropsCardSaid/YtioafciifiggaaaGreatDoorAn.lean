/- Staging: contracts of its functions (An). No condition but those named. -/
import Derived.Test.YtioafciifiggaaaGreatDoorAm
set_option linter.unusedVariables false
set_option linter.unusedSimpArgs false
namespace Go.Proofs.YtioafciifiggaaaGreatDoor
open Go.Proofs Go.AL
set_option maxRecDepth 100000
set_option maxHeartbeats 1000000
attribute [local irreducible] endA AW aops thenA blockA hold
attribute [local irreducible] numG
instance :RowEnc byteL 1:=⟨fun _=>rfl,fun _=>rfl,fun l x hx=>by
 simp only[byteL,List.mem_cons,List.not_mem_nil,or_false]at hx;subst hx
 exact encL_noId l⟩
@[go_sem] theorem beqTT:(true==true)=true:=rfl
@[go_sem] theorem beqTF:(true==false)=false:=rfl
@[go_sem] theorem beqFT:(false==true)=false:=rfl
@[go_sem] theorem beqFF:(false==false)=true:=rfl
@[go_sem] theorem notT9:(!true)=false:=rfl
@[go_sem] theorem notF9:(!false)=true:=rfl
theorem gHv(l:List (List Int))(k:Nat)(h:k<l.length):(encL byteL l)[k]? =some (byteL (l.getD k [])):=encL_get [] h
theorem gBl(l:List Bool)(k:Nat)(h:k<l.length):(encL boolRow l)[k]? =some (boolRow (l.getD k false)):=encL_get false h
theorem bchk_p(a:Asm)(hl:a.have_.length≤1000000)(hl2:a.seen.length≤1000000)(hl3:∀x∈a.have_,x.length≤1000000):PC 132 [.agg (encA a)] (zV (asmE a)):=by
 refine pstart Tryz.func132 Tryz.ntmps132 (.c _) ?_;obtain⟨n,p,s,h,e⟩:=a;have hE:asmE ⟨n,p,s,h,e⟩=if n<1∨1073741824<n∨p<1∨65536<p∨s<0∨4294967295<s∨(h.length:Int)≠p∨(e.length:Int)≠p then 3 else if(List.range h.length).all (pieceOK ⟨n,p,s,h,e⟩)=true then 0 else 3:=rfl
 have hp:∀i,pieceOK ⟨n,p,s,h,e⟩ i=((decide (0<(h.getD i []).length)==e.getD i false)&&decide ((h.getD i []).length≤4096)):=fun i=>rfl
 generalize asmE ⟨n,p,s,h,e⟩=M at*;generalize pieceOK ⟨n,p,s,h,e⟩=q at*;unfold encA;simp only[]at*;by_cases g:n<1
 ·rw[if_pos (.inl g)]at hE
  subst hE;clear hl3 hp;refine zgo ?_;exact zfin
 have g1:¬(n<1):=g;clear g;by_cases g:1073741824<n
 ·rw[if_pos (.inr (.inl g))]at hE
  subst hE;clear hl3 hp;refine zgo ?_;exact zfin
 have g2:¬(1073741824<n):=g;clear g;by_cases g:p<1
 ·rw[if_pos (.inr (.inr (.inl g)))]at hE
  subst hE;clear hl3 hp;refine zgo ?_;exact zfin
 have g3:¬(p<1):=g;clear g;by_cases g:65536<p
 ·rw[if_pos (.inr (.inr (.inr (.inl g))))]at hE
  subst hE;clear hl3 hp;refine zgo ?_;exact zfin
 have g4:¬(65536<p):=g;clear g;by_cases g:s<0
 ·rw[if_pos (.inr (.inr (.inr (.inr (.inl g)))))]at hE
  subst hE;clear hl3 hp;refine zgo ?_;exact zfin
 have g5:¬(s<0):=g;clear g;by_cases g:4294967295<s
 ·rw[if_pos (.inr (.inr (.inr (.inr (.inr (.inl g))))))]at hE
  subst hE;clear hl3 hp;refine zgo ?_;exact zfin
 have g6:¬(4294967295<s):=g;clear g;by_cases g:(h.length:Int)≠p
 ·rw[if_pos (.inr (.inr (.inr (.inr (.inr (.inr (.inl g)))))))]at hE
  subst hE;clear hl3 hp;refine zgo ?_;exact zfin
 have g7:¬((h.length:Int)≠p):=g;clear g;by_cases g:(e.length:Int)≠p
 ·rw[if_pos (.inr (.inr (.inr (.inr (.inr (.inr (.inr g)))))))]at hE
  subst hE;clear hl3 hp;refine zgo ?_;exact zfin
 have g8:¬((e.length:Int)≠p):=g;clear g
 rw[if_neg (by
  rintro(h|h|h|h|h|h|h|h)
  ·exact g1 h
  ·exact g2 h
  ·exact g3 h
  ·exact g4 h
  ·exact g5 h
  ·exact g6 h
  ·exact g7 h
  ·exact g8 h)]at hE
 have g7':(h.length:Int)=p:=Classical.not_not.1 g7;have g8':(e.length:Int)=p:=Classical.not_not.1 g8;clear g7 g8;subst g7';have hgh:=gHv h;have hge:=gBl e;refine zgo ?_;refine zfor (α:=Unit) h.length (fun k _=> [(52,true,zV k),(51,true,zV h.length),(50,true,.snap (encL byteL h)),(1,true,.ptr 0 0 0)]) (fun _ _=> [(0,some (.cells 161 5 [[zV n,zV h.length,zV s,.snap (encL byteL h),.snap (encL boolRow e)]] true false))]) (fun k m _=>1≤m∧∀i,i<k→q i=true) ⟨100,(),⟨by omega,fun i hi=>by omega⟩,zholds⟩ (fun k m _ hk hR=> ?_) (fun m _ hR=> ?_)
 ·obtain⟨hm,hR⟩:=hR
  have k1:(encL byteL h)[k]? =some [.snap (encL byteRow (h.getD k []))]:=hgh k hk;have k2:(encL boolRow e)[k]? =some [bV (e.getD k false)]:=hge k (by omega)
  have k3:=hl3 _ (getD_mem' [] hk);have hpk:=hp k
  have hR2:Lat (q k=true→∀i,i<k+1→q i=true):=⟨fun hq i hi=>by
   rcases Nat.lt_succ_iff_lt_or_eq.1 hi with h|h
   ·exact hR i h
   ·subst h;exact hq⟩
  have hE2:Lat (q k=false→M=3):=⟨fun hq=>by rw[hE,if_neg];intro h5;rw[List.all_eq_true]at h5;rw[h5 k (by simpa using hk)]at hq;cases hq⟩
  clear hgh hge hp hR hE hl3;generalize h.getD k []=l at*;generalize e.getD k false=b at*;by_cases g9:0<l.length
  ·have g9':(0:Int)<l.length:=by omega
   cases b with
   |true=>
    by_cases g10:l.length≤4096
    ·have hq:q k=true:=by rw[hpk];simp[g9,g10]
     have hR3:=Lat.mk (hR2.out hq);have g10':¬(4096:Int)<l.length:=by omega
     clear hpk hR2 hE2 hq;refine zgo ?_;exact⟨m+60,(),⟨by omega,hR3.out⟩,zholds⟩
    ·have hq:q k=false:=by rw[hpk];simp[g9,g10]
     obtain rfl:=hE2.out hq;have g10':(4096:Int)<l.length:=by omega
     clear hpk hR2 hE2 hq;refine zgo ?_;exact zfin
   |false=>
    have hq:q k=false:=by rw[hpk];simp[g9]
    obtain rfl:=hE2.out hq;clear hpk hR2 hE2 hq;by_cases g10:(4096:Int)<l.length
    ·refine zgo ?_
     exact zfin
    ·refine zgo ?_
     exact zfin
  ·have g9':¬(0:Int)<l.length:=by omega
   have g10:¬(4096:Int)<l.length:=by omega
   cases b with
   |true=>
    have hq:q k=false:=by rw[hpk];simp[g9]
    obtain rfl:=hE2.out hq;clear hpk hR2 hE2 hq;refine zgo ?_;exact zfin
   |false=>
    have hq:q k=true:=by rw[hpk];simp[g9];omega
    have hR3:=Lat.mk (hR2.out hq);clear hpk hR2 hE2 hq;refine zgo ?_;exact⟨m+60,(),⟨by omega,hR3.out⟩,zholds⟩
 ·rw[if_pos (List.all_eq_true.2 fun i hi=>hR.2 i (by simpa using hi))]at hE
  subst hE;clear hR hgh hge hp hl3;refine zgo ?_;exact zfin
theorem qchk_p(a:Asm)(hl:a.have_.length≤1000000)(hl2:a.seen.length≤1000000)(hl3:∀x∈a.have_,x.length≤1000000):PC 164 [.agg (encA a)] (zV (asmE a)):=by
 refine pstart Tryz.func164 Tryz.ntmps164 (.c _) ?_;obtain⟨n,p,s,h,e⟩:=a;have hE:asmE ⟨n,p,s,h,e⟩=if n<1∨1073741824<n∨p<1∨65536<p∨s<0∨4294967295<s∨(h.length:Int)≠p∨(e.length:Int)≠p then 3 else if(List.range h.length).all (pieceOK ⟨n,p,s,h,e⟩)=true then 0 else 3:=rfl
 have hp:∀i,pieceOK ⟨n,p,s,h,e⟩ i=((decide (0<(h.getD i []).length)==e.getD i false)&&decide ((h.getD i []).length≤4096)):=fun i=>rfl
 generalize asmE ⟨n,p,s,h,e⟩=M at*;generalize pieceOK ⟨n,p,s,h,e⟩=q at*;unfold encA;simp only[]at*;by_cases g:n<1
 ·rw[if_pos (.inl g)]at hE
  subst hE;clear hl3 hp;refine zgo ?_;exact zfin
 have g1:¬(n<1):=g;clear g;by_cases g:1073741824<n
 ·rw[if_pos (.inr (.inl g))]at hE
  subst hE;clear hl3 hp;refine zgo ?_;exact zfin
 have g2:¬(1073741824<n):=g;clear g;by_cases g:p<1
 ·rw[if_pos (.inr (.inr (.inl g)))]at hE
  subst hE;clear hl3 hp;refine zgo ?_;exact zfin
 have g3:¬(p<1):=g;clear g;by_cases g:65536<p
 ·rw[if_pos (.inr (.inr (.inr (.inl g))))]at hE
  subst hE;clear hl3 hp;refine zgo ?_;exact zfin
 have g4:¬(65536<p):=g;clear g;by_cases g:s<0
 ·rw[if_pos (.inr (.inr (.inr (.inr (.inl g)))))]at hE
  subst hE;clear hl3 hp;refine zgo ?_;exact zfin
 have g5:¬(s<0):=g;clear g;by_cases g:4294967295<s
 ·rw[if_pos (.inr (.inr (.inr (.inr (.inr (.inl g))))))]at hE
  subst hE;clear hl3 hp;refine zgo ?_;exact zfin
 have g6:¬(4294967295<s):=g;clear g;by_cases g:(h.length:Int)≠p
 ·rw[if_pos (.inr (.inr (.inr (.inr (.inr (.inr (.inl g)))))))]at hE
  subst hE;clear hl3 hp;refine zgo ?_;exact zfin
 have g7:¬((h.length:Int)≠p):=g;clear g;by_cases g:(e.length:Int)≠p
 ·rw[if_pos (.inr (.inr (.inr (.inr (.inr (.inr (.inr g)))))))]at hE
  subst hE;clear hl3 hp;refine zgo ?_;exact zfin
 have g8:¬((e.length:Int)≠p):=g;clear g
 rw[if_neg (by
  rintro(h|h|h|h|h|h|h|h)
  ·exact g1 h
  ·exact g2 h
  ·exact g3 h
  ·exact g4 h
  ·exact g5 h
  ·exact g6 h
  ·exact g7 h
  ·exact g8 h)]at hE
 have g7':(h.length:Int)=p:=Classical.not_not.1 g7;have g8':(e.length:Int)=p:=Classical.not_not.1 g8;clear g7 g8;subst g7';have hgh:=gHv h;have hge:=gBl e;refine zgo ?_;refine zfor (α:=Unit) h.length (fun k _=> [(3,true,zV k),(1,true,.ptr 0 0 0)]) (fun _ _=> [(0,some (.cells 161 5 [[zV n,zV h.length,zV s,.snap (encL byteL h),.snap (encL boolRow e)]] true false))]) (fun k m _=>1≤m∧∀i,i<k→q i=true) ⟨100,(),⟨by omega,fun i hi=>by omega⟩,zholds⟩ (fun k m _ hk hR=> ?_) (fun m _ hR=> ?_)
 ·obtain⟨hm,hR⟩:=hR
  have k1:(encL byteL h)[k]? =some [.snap (encL byteRow (h.getD k []))]:=hgh k hk;have k2:(encL boolRow e)[k]? =some [bV (e.getD k false)]:=hge k (by omega)
  have k3:=hl3 _ (getD_mem' [] hk);have hpk:=hp k
  have hR2:Lat (q k=true→∀i,i<k+1→q i=true):=⟨fun hq i hi=>by
   rcases Nat.lt_succ_iff_lt_or_eq.1 hi with h|h
   ·exact hR i h
   ·subst h;exact hq⟩
  have hE2:Lat (q k=false→M=3):=⟨fun hq=>by rw[hE,if_neg];intro h5;rw[List.all_eq_true]at h5;rw[h5 k (by simpa using hk)]at hq;cases hq⟩
  clear hgh hge hp hR hE hl3;have hkp:(k:Int)<h.length:=by omega
  generalize h.getD k []=l at*;generalize e.getD k false=b at*;by_cases g9:0<l.length
  ·have g9':(0:Int)<l.length:=by omega
   cases b with
   |true=>
    by_cases g10:l.length≤4096
    ·have hq:q k=true:=by rw[hpk];simp[g9,g10]
     have hR3:=Lat.mk (hR2.out hq);have g10':¬(4096:Int)<l.length:=by omega
     clear hpk hR2 hE2 hq;refine zgo2 ?_;exact⟨m+60,(),⟨by omega,hR3.out⟩,zholds⟩
    ·have hq:q k=false:=by rw[hpk];simp[g9,g10]
     obtain rfl:=hE2.out hq;have g10':(4096:Int)<l.length:=by omega
     clear hpk hR2 hE2 hq;refine zgo2 ?_;exact zfin
   |false=>
    have hq:q k=false:=by rw[hpk];simp[g9]
    obtain rfl:=hE2.out hq;clear hpk hR2 hE2 hq;by_cases g10:(4096:Int)<l.length
    ·refine zgo2 ?_
     exact zfin
    ·refine zgo2 ?_
     exact zfin
  ·have g9':¬(0:Int)<l.length:=by omega
   have g10:¬(4096:Int)<l.length:=by omega
   cases b with
   |true=>
    have hq:q k=false:=by rw[hpk];simp[g9]
    obtain rfl:=hE2.out hq;clear hpk hR2 hE2 hq;refine zgo2 ?_;exact zfin
   |false=>
    have hq:q k=true:=by rw[hpk];simp[g9];omega
    have hR3:=Lat.mk (hR2.out hq);clear hpk hR2 hE2 hq;refine zgo2 ?_;exact⟨m+60,(),⟨by omega,hR3.out⟩,zholds⟩
 ·rw[if_pos (List.all_eq_true.2 fun i hi=>hR.2 i (by simpa using hi))]at hE
  subst hE;clear hR hgh hge hp hl3;refine zgo ?_;exact zfin
end Go.Proofs.YtioafciifiggaaaGreatDoor
namespace Go.Proofs.YtioafciifiggaaaGreatDoor
open Go.Proofs Go.AL
set_option maxRecDepth 100000
set_option maxHeartbeats 1000000
attribute [local irreducible] endA AW aops thenA blockA hold
attribute [local irreducible] numG
theorem parE_ok{b:List Int}(hb:∀x∈b,ByteOK x)(h:(parE b).2=0):1≤(parE b).1.number∧(parE b).1.number≤1073741824∧0≤(parE b).1.index∧(parE b).1.index<(parE b).1.parts∧(parE b).1.parts≤65536∧0≤(parE b).1.sum∧(parE b).1.sum≤4294967295∧1≤(parE b).1.piece.length∧(parE b).1.piece.length≤4096∧(∀x∈(parE b).1.piece,ByteOK x)∧(parE b).1.piece.length≤b.length:=by
 rw[parE_eq]at h⊢;have k1:=intE_ok hb;have k2:=intE_ok k1.1;have k3:=intE_ok k2.1;have k4:=intE_ok k3.1;have n2:=intE_nn k1.1;have n4:=intE_nn k3.1;generalize intE (intE (intE (intE b).2.1).2.1).2.1=V at*;generalize intE (intE (intE b).2.1).2.1=Z at*;generalize intE (intE b).2.1=Y at*;generalize intE b=X at*;obtain⟨x,xr,xe⟩:=X;obtain⟨y,yr,ye⟩:=Y;obtain⟨z,zr,ze⟩:=Z;obtain⟨v,vr,ve⟩:=V;unfold parG at h⊢
 simp only[]at*;by_cases g1:xe=0
 ·rw[if_pos g1]at h⊢
  by_cases g2:ye=0
  ·rw[if_pos g2]at h⊢
   by_cases g3:ze=0
   ·rw[if_pos g3]at h⊢
    by_cases g4:ve=0
    ·rw[if_pos g4]at h⊢
     by_cases g5:badP x y z v vr
     ·rw[if_pos g5]at h
      exact absurd h (by decide)
     ·rw[if_neg g5]
      unfold badP at g5;have hv:vr≠[]:=fun e=>g5 (.inr (.inr (.inr (.inr (.inr (.inl e))))))
      have hv2:=List.length_pos_iff.2 hv;have a1:¬x<1:=fun e=>g5 (.inl e)
      have a2:¬1073741824<x:=fun e=>g5 (.inr (.inl e))
      have a3:¬z≤y:=fun e=>g5 (.inr (.inr (.inl e)))
      have a4:¬65536<z:=fun e=>g5 (.inr (.inr (.inr (.inl e))))
      have a5:¬4294967295<v:=fun e=>g5 (.inr (.inr (.inr (.inr (.inl e)))))
      have a6:¬4096<vr.length:=fun e=>g5 (.inr (.inr (.inr (.inr (.inr (.inr e))))))
      exact⟨Int.not_lt.1 a1,Int.not_lt.1 a2,n2,Int.not_le.1 a3,Int.not_lt.1 a4,n4,Int.not_lt.1 a5,hv2,Nat.not_lt.1 a6,k4.1,by have:=k4.2;have:=k3.2;have:=k2.2;have:=k1.2;simp only[]at*;omega⟩
    ·rw[if_neg g4]at h;exact absurd h g4
   ·rw[if_neg g3]at h;exact absurd h g3
  ·rw[if_neg g2]at h;exact absurd h g2
 ·rw[if_neg g1]at h;exact absurd h g1
def nilR:List AV:=[.c (.slice none 0 0)]
def nilRows(n i:Nat)(p:List Int):List (List AV):=(List.replicate n nilR).set i [.snap (encL byteRow p)]
theorem nilRows_len(n i:Nat)(p:List Int):(nilRows n i p).length=n:=by simp[nilRows]
theorem wkr_get9{a b:List (List AV)}(hl:a.length=b.length)(h:∀(i:Nat) r r',a[i]? =some r→b[i]? =some r'→r.length=r'.length∧∀(k:Nat) x y,r[k]? =some x→r'[k]? =some y→Wk x y):Wkr a b:=⟨hl,h⟩
theorem nilRows_wk(n i:Nat)(p:List Int):Wkr (nilRows n i p) (encL byteL ((List.replicate n []).set i p)):=by
 refine wkr_get9 (by rw[nilRows_len,encL_len];simp) fun k r r' h1 h2=> ?_
 unfold nilRows at h1;simp only[encL,List.getElem?_map,List.getElem?_set,List.length_replicate,List.getElem?_replicate]at h1 h2;by_cases hk:i=k
 ·subst hk
  by_cases hn:i<n
  ·simp[hn]at h1 h2
   subst h1 h2
   exact⟨rfl,fun j x y h3 h4=>by
    have h5:some x=some y:=by rw[←h3,←h4];rfl
    injection h5 with h5
    subst h5
    exact .refl _⟩
  ·simp[hn]at h1
 ·simp only[hk,if_false]at h1 h2
  by_cases hn:k<n
  ·simp[hn]at h1 h2
   subst h1 h2;refine⟨rfl,fun j x y h3 h4=> ?_⟩
   cases j with
   |zero=>
    simp only[nilR,byteL,List.getElem?_cons_zero,Option.some.injEq]at h3 h4;subst h3 h4;exact .nil
   |succ j=>simp[nilR]at h3
  ·simp[hn]at h1
theorem nilRows_expo(G:Nat→Option Blk)(k n i:Nat)(p:List Int):(nilRows n i p).map (fun row=>row.map (expoD G k))=nilRows n i p:=by
 have h:∀row∈nilRows n i p,row.map (expoD G k)=row:=fun row hr=>by
  unfold nilRows at hr;rcases List.mem_or_eq_of_mem_set hr with h|h
  ·rw[(List.mem_replicate.1 h).2]
   cases k<;>simp[nilR,expoD]
  ·subst h
   cases k<;>simp[expoD]
 rw[List.map_congr_left h,List.map_id']
theorem nilRows_no(n i:Nat)(p:List Int):∀row∈nilRows n i p,∀x∈row,NoId x:=fun row hr x hx=>by
 unfold nilRows at hr;rcases List.mem_or_eq_of_mem_set hr with h|h
 ·rw[(List.mem_replicate.1 h).2]at hx
  simp only[nilR,List.mem_cons,List.not_mem_nil,or_false]at hx;subst hx;exact .c _
 ·subst h
  simp only[List.mem_cons,List.not_mem_nil,or_false]at hx;subst hx;exact encL_noId p
theorem boolRows_expo(G:Nat→Option Blk)(k:Nat)(l:List Bool):(encL boolRow l).map (fun row=>row.map (expoD G k))=encL boolRow l:=encL_expoD (fun a x hx=>by simp[boolRow]at hx;exact⟨_,hx⟩) G k l
theorem nilRows_set(n i:Nat)(p:List Int):(List.replicate n [AV.c (.slice none 0 0)]).set i [.snap (encL byteRow p)]=nilRows n i p:=rfl
attribute [local irreducible] nilRows
theorem bbeg_p(b:List Int)(hb:∀x∈b,ByteOK x)(hl:b.length≤100000):PC 71 [.snap (encL byteRow b)] (.tup [.agg (encA (begE b).1),zV (begE b).2]):=by
 refine pstartD Tryz.func71 Tryz.ntmps71 (by simp only[go_sem,encA]) ?_
 have c1:=bparse_p b hb hl;have hE:begE b=if(parE b).2=0 then(⟨(parE b).1.number,(parE b).1.parts,(parE b).1.sum,(List.replicate (parE b).1.parts.toNat []).set (parE b).1.index.toNat (parE b).1.piece,(List.replicate (parE b).1.parts.toNat false).set (parE b).1.index.toNat true⟩,0)else(zAsm,(parE b).2):=rfl
 have hok:=parE_ok hb;generalize begE b=M at*;generalize parE b=R at*;obtain⟨⟨n,i,p,s,l⟩,e⟩:=R;simp only[]at*;by_cases g:e=0
 ·rw[if_pos g]at hE
  subst hE g;obtain⟨h1,h2,h3,h4,h5,h6,h7,h8,h9,h10,h11⟩:=hok rfl;obtain⟨i,rfl⟩:=Int.eq_ofNat_of_zero_le h3;obtain⟨p,rfl⟩:=Int.eq_ofNat_of_zero_le (by omega:0≤p)
  have hset:=nilRows_set p i l;have hrep:(List.replicate p [AV.c (.slice none 0 0)])[i]? =some [AV.c (.slice none 0 0)]:=by rw[List.getElem?_replicate,if_pos (by omega)]
  have hrepb:(encL boolRow (List.replicate p false))[i]? =some [bV false]:=by rw[←bools_repl,List.getElem?_replicate,if_pos (by omega)]
  have hex:=fun G k=>nilRows_expo G k p i l
  have hbx:=fun G k=>boolRows_expo G k ((List.replicate p false).set i true)
  have hno:(∀row,row∈nilRows p i l→∀x,x∈row→NoId x)=True:=eq_true (nilRows_no p i l);have hln:=nilRows_len p i l;have hwk:=nilRows_wk p i l;have htk:(nilRows p i l).take p=nilRows p i l:=List.take_of_length_le (by rw[nilRows_len];exact Nat.le_refl _)
  have htb:((List.replicate p false).set i true).take p=(List.replicate p false).set i true:=List.take_of_length_le (by simp)
  have hnb:(∀row,row∈encL boolRow ((List.replicate p false).set i true)→∀x,x∈row→NoId x)=True:=eq_true (encL_ids _);simp only[Int.toNat_natCast]at*;clear hok h8 h9 h10 h11 hb;unfold encA;simp only[];refine zgo2 ?_;refine⟨?_,?_⟩
  ·(simp(maxSteps:=2000000) (disch:=omega) only[go_sem,noId_c,noId_agg,noId_tup,noId_snap,false_implies,implies_true, *])
  ·(simp(maxSteps:=2000000) (disch:=omega) only[go_sem,noId_c,noId_agg,noId_tup,noId_snap,false_implies,implies_true, *];(repeat (first|exact .refl _|exact .nil|exact wks_nil|refine wks_cons ?_ ?_|refine wk_tup ?_|refine wk_agg ?_|refine wk_snap ?_|exact wkr_nil|exact hwk|refine wkr_cons ?_ ?_)))
 ·rw[if_neg g]at hE
  subst hE;unfold encA zAsm;clear hok hb;refine zgo2 ?_;exact zfin
end Go.Proofs.YtioafciifiggaaaGreatDoor
