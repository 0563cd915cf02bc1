/- Staging: contracts of its functions (As). No condition but those named. -/
import Derived.Test.YtioafciifiggaaaGreatDoorAr
set_option linter.unusedVariables false
set_option linter.unusedSimpArgs false
namespace Go.Proofs.YtioafciifiggaaaGreatDoor
open Go.Proofs Go.AL
set_option maxRecDepth 100000
set_option maxHeartbeats 4000000
attribute [local irreducible] endA AW aops thenA blockA hold
attribute [local irreducible] numG
theorem qcor_p(j:Jr)(x:Stg)(hj:jE j=0)(hl:j.sizes.length≤100000)(hx:StgLen x):PC 91 [.agg (encJ j),.agg (stgRow x)] (bV (corS j x)):=by
 refine pstart Tryz.func91 Tryz.ntmps91 (.c _) ?_;have c1:=qasm_p x;have c2:=qchk_p (asm x) (by have:=hx.asm.have_;omega) (by have:=hx.asm.seen;omega) (fun y hy=>by have:=(hx.asm.one y hy).1;omega)
 have c3:=qcyc_p (asm x) hx.asm;have c4:=rnext_p j hl;rw[if_pos hj]at c4;obtain⟨-,-,-,f1,f2,-⟩:=jE_ok hj;have hN:jN j=j.first+j.sizes.length:=if_pos hj
 have hsn:seenN x=cntB x.seen:=rfl;have hnn:needN x=if x.closed=true then cntB x.seen+1 else cntB x.seen:=rfl
 have hrec:=hx.records;have hseen:x.seen.length≤100000:=hx.asm.seen;obtain⟨M,hM⟩:∃M,corS j x=M:=⟨_,rfl⟩;rw[hM];unfold corS at hM;rw[hN,hsn,hnn]at hM;have h3:=asmE_3 (a:=asm x);generalize asmE (asm x)=ae at*;generalize acyE (asm x)=cy at*;obtain⟨⟨cb,cn,ct,cp,cw⟩,ce⟩:=cy;clear hN hsn hnn hx;obtain⟨n,p,s,h,e,r,cl⟩:=x;obtain⟨js,jc,jh,jt,jf,jz⟩:=j;unfold encJ stgRow encC encA asm at*;simp only[]at*;generalize hNN:jf+(jz.length:Int)=N at*
 by_cases g1:ae=0
 case neg=>
  rw[if_neg g1]at hM;subst hM;have h3:=h3 g1;subst h3;clear c3 c4;refine zgo ?_;exact zfin
 rw[if_pos g1]at hM;subst g1;clear h3;have hge:=gBl e;have hgr:=gI r;refine zgo ?_;refine zfor1 e.length 100 [(0,some (.cells 30 6 [[zV js,zV jc,zV jh,zV jt,zV jf,.snap (encL intRow jz)]] true false)),(1,some (.cells 64 7 [[zV n,zV p,zV s,.snap (encL byteL h),.snap (encL boolRow e),.snap (encL intRow r),bV cl]] true false)),(2,some (.cells 161 5 [[zV n,zV p,zV s,.snap (encL byteL h),.snap (encL boolRow e)]] true false))] (fun k=> [(7,true,zV k),(6,true,zV (cntB (e.take k))),(5,true,.ptr 2 0 0),(3,true,.ptr 1 0 0),(2,true,.ptr 0 0 0)]) zholds (fun k m hk hm=> ?_) (fun m hm=> ?_)
 ·have hgk:(encL boolRow e)[k]? =some [bV (e.getD k false)]:=hge k hk
  have hs:=cntB_snoc hk;have hle:=cntB_le (e.take k);have hle2:(e.take k).length≤100000:=by rw[List.length_take];omega
  generalize e.getD k false=b at*;clear hge hgr c1 c2 c3 c4 hM;cases b with
  |true=>
   rw[if_pos rfl]at hs;generalize cntB (e.take k)=q at*;generalize cntB (e.take (k+1))=q' at*;subst hs;refine zgo ?_;exact⟨m+20,by omega,zholds⟩
  |false=>
   rw[if_neg (by decide),Nat.add_zero]at hs
   generalize cntB (e.take k)=q at*;generalize cntB (e.take (k+1))=q' at*;subst hs;refine zgo ?_;exact⟨m+20,by omega,zholds⟩
 rw[List.take_length];have hle:=cntB_le e;generalize cntB e=q at*;clear hge;by_cases g2:q=0
 ·rw[if_pos g2]at hM
  subst hM;have g2':(q:Int)=0:=by omega
  clear g2 hgr c1 c2 c3 c4;refine zgo ?_;exact zfin
 rw[if_neg g2]at hM;have g2':¬(q:Int)=0:=by omega
 cases cl with
 |false=>
  rw[if_neg (by simp),if_neg (by decide:¬(false=true))]at hM
  clear c1 c2 c3;refine zgo ?_;refine zfor (α:=Int) r.length (fun k last=> [(10,true,zV k),(6,true,zV q),(3,true,.ptr 1 0 0),(2,true,.ptr 0 0 0)]) (fun _ _=> [(0,some (.cells 30 6 [[zV js,zV jc,zV jh,zV jt,zV jf,.snap (encL intRow jz)]] true false)),(1,some (.cells 64 7 [[zV n,zV p,zV s,.snap (encL byteL h),.snap (encL boolRow e),.snap (encL intRow r),bV false]] true false)),(2,some (.cells 161 5 [[zV n,zV p,zV s,.snap (encL byteL h),.snap (encL boolRow e)]] true false))]) (fun k m last=>3≤m∧jf-1≤last∧(k=0→last=jf-1)∧(0<k→last=r.getD (k-1) 0)∧recG last N (r.drop k)=recG (jf-1) N r) ⟨m+200,jf-1,⟨by omega,by omega,fun _=>rfl,fun h=>absurd h (by omega),rfl⟩,zholds⟩ (fun k m' last hk hR=> ?_) (fun m' last hR=> ?_)
  ·obtain⟨hm',hlo,hk0,hk1,hR⟩:=hR
   have hgk:=hgr k hk;rw[drop_at 0 hk,recG_cons]at hR;have hF:recG (jf-1) N r=false→M=false:=fun h=>by rw[if_neg (by rw[h];decide)]at hM;exact hM.symm
   obtain⟨v,hv⟩:∃v,r.getD k 0=v:=⟨_,rfl⟩;rw[hv]at hgk hR;clear hM;by_cases g5:v<jf
   ·rw[if_pos (.inl (by omega))]at hR
    obtain rfl:=hF hR.symm;clear hR hF hgr hk0 hk1 hv;refine zgo2 ?_;exact zfin
   by_cases g6:N≤v
   ·rw[if_pos (.inr g6)]at hR
    obtain rfl:=hF hR.symm;clear hR hF hgr hk0 hk1 hv;refine zgo2 ?_;exact zfin
   cases k with
   |zero=>
    have g7:=hk0 rfl;rw[if_neg (by omega)]at hR
    have hR3:=Lat.mk hR;have hv:=Lat.mk hv;clear hR hF hgr hk0 hk1;refine zgo2 ?_;exact⟨m'+100,v,⟨by omega,by omega,fun h=>absurd h (by omega),fun _=>hv.out.symm,hR3.out⟩,zholds⟩
   |succ p0=>
    have g7:=hk1 (by omega)
    rw[Nat.add_sub_cancel]at g7;have hgp:=hgr p0 (by omega)
    rw[←g7]at hgp;have w1:IntKind.i64.wrap ((p0:Int)+1-1)=p0:=by rw[IntWalk.i64_in _ (by omega)];omega
    have w2:(0:Int)<(p0:Int)+1:=by omega
    have w3:IntKind.i64.wrap (((p0+1:Nat):Int)-1)=p0:=by rw[IntWalk.i64_in _ (by omega)];omega
    have w4:(0:Int)<((p0+1:Nat):Int):=by omega
    have w5:p0<r.length:=by omega
    clear g7;by_cases g5:v≤last
    ·rw[if_pos (.inl g5)]at hR
     obtain rfl:=hF hR.symm;clear hR hF hgr hk0 hk1 hv;refine zgo2 ?_;exact zfin
    ·rw[if_neg (by omega)]at hR
     have hR3:=Lat.mk hR;have hv:=Lat.mk hv;clear hR hF hgr hk0 hk1;refine zgo2 ?_;exact⟨m'+100,v,⟨by omega,by omega,fun h=>absurd h (by omega),fun _=>hv.out.symm,hR3.out⟩,zholds⟩
  ·obtain⟨hm',-,-,-,hR⟩:=hR
   rw[List.drop_length]at hR;have hR1:recG (jf-1) N r=true:=by rw[←hR];rfl
   rw[if_pos hR1]at hM;clear hR hR1 hgr c4;by_cases g5:r.length=q
   ·have hd:decide (r.length=q)=true:=by simp[g5]
    rw[hd]at hM;subst hM;have g5':((r.length:Int)==(q:Int))=true:=by simpa using(by omega:(r.length:Int)=(q:Int))
    clear g5 hd;refine zgo ?_;exact zfin
   ·have hd:decide (r.length=q)=false:=by simp[g5]
    rw[hd]at hM;subst hM;have g5':((r.length:Int)==(q:Int))=false:=beq_eq_false_iff_ne.2 (by omega)
    clear g5 hd;refine zgo ?_;exact zfin
 |true=>
  rw[if_pos rfl]at hM;by_cases g3:ce=0
  ·subst g3
   rw[if_neg (by simp)]at hM
   obtain⟨nd,hnd⟩:∃nd,nd=q+1:=⟨_,rfl⟩;have hnd2:(nd:Int)=(q:Int)+1:=by omega
   rw[←hnd]at hM;clear hnd;clear c2;refine zgo ?_;refine zfor (α:=Int) r.length (fun k last=> [(10,true,zV k),(6,true,zV nd),(3,true,.ptr 1 0 0),(2,true,.ptr 0 0 0)]) (fun _ _=> [(0,some (.cells 30 6 [[zV js,zV jc,zV jh,zV jt,zV jf,.snap (encL intRow jz)]] true false)),(1,some (.cells 64 7 [[zV n,zV p,zV s,.snap (encL byteL h),.snap (encL boolRow e),.snap (encL intRow r),bV true]] true false)),(2,some (.cells 161 5 [[zV n,zV p,zV s,.snap (encL byteL h),.snap (encL boolRow e)]] true false))]) (fun k m last=>3≤m∧jf-1≤last∧(k=0→last=jf-1)∧(0<k→last=r.getD (k-1) 0)∧recG last N (r.drop k)=recG (jf-1) N r) ⟨m+200,jf-1,⟨by omega,by omega,fun _=>rfl,fun h=>absurd h (by omega),rfl⟩,zholds⟩ (fun k m' last hk hR=> ?_) (fun m' last hR=> ?_)
   ·obtain⟨hm',hlo,hk0,hk1,hR⟩:=hR
    have hgk:=hgr k hk;rw[drop_at 0 hk,recG_cons]at hR;have hF:recG (jf-1) N r=false→M=false:=fun h=>by rw[if_neg (by rw[h];decide)]at hM;exact hM.symm
    obtain⟨v,hv⟩:∃v,r.getD k 0=v:=⟨_,rfl⟩;rw[hv]at hgk hR;clear hM c1 c3;by_cases g5:v<jf
    ·rw[if_pos (.inl (by omega))]at hR
     obtain rfl:=hF hR.symm;clear hR hF hgr hk0 hk1 hv;refine zgo2 ?_;exact zfin
    by_cases g6:N≤v
    ·rw[if_pos (.inr g6)]at hR
     obtain rfl:=hF hR.symm;clear hR hF hgr hk0 hk1 hv;refine zgo2 ?_;exact zfin
    cases k with
    |zero=>
     have g7:=hk0 rfl;rw[if_neg (by omega)]at hR
     have hR3:=Lat.mk hR;have hv:=Lat.mk hv;clear hR hF hgr hk0 hk1;refine zgo2 ?_;exact⟨m'+100,v,⟨by omega,by omega,fun h=>absurd h (by omega),fun _=>hv.out.symm,hR3.out⟩,zholds⟩
    |succ p0=>
     have g7:=hk1 (by omega)
     rw[Nat.add_sub_cancel]at g7;have hgp:=hgr p0 (by omega)
     rw[←g7]at hgp;have w1:IntKind.i64.wrap ((p0:Int)+1-1)=p0:=by rw[IntWalk.i64_in _ (by omega)];omega
     have w2:(0:Int)<(p0:Int)+1:=by omega
     have w3:IntKind.i64.wrap (((p0+1:Nat):Int)-1)=p0:=by rw[IntWalk.i64_in _ (by omega)];omega
     have w4:(0:Int)<((p0+1:Nat):Int):=by omega
     have w5:p0<r.length:=by omega
     clear g7;by_cases g5:v≤last
     ·rw[if_pos (.inl g5)]at hR
      obtain rfl:=hF hR.symm;clear hR hF hgr hk0 hk1 hv;refine zgo2 ?_;exact zfin
     ·rw[if_neg (by omega)]at hR
      have hR3:=Lat.mk hR;have hv:=Lat.mk hv;clear hR hF hgr hk0 hk1;refine zgo2 ?_;exact⟨m'+100,v,⟨by omega,by omega,fun h=>absurd h (by omega),fun _=>hv.out.symm,hR3.out⟩,zholds⟩
   ·obtain⟨hm',-,-,-,hR⟩:=hR
    rw[List.drop_length]at hR;have hR1:recG (jf-1) N r=true:=by rw[←hR];rfl
    rw[if_pos hR1]at hM;clear hR hR1 hgr c4 hnd2;by_cases g5:r.length=nd
    ·have hd:decide (r.length=nd)=true:=by simp[g5]
     rw[hd]at hM;subst hM;have g5':((r.length:Int)==(nd:Int))=true:=by simpa using(by omega:(r.length:Int)=(nd:Int))
     clear g5 hd;refine zgo ?_;exact zfin
    ·have hd:decide (r.length=nd)=false:=by simp[g5]
     rw[hd]at hM;subst hM;have g5':((r.length:Int)==(nd:Int))=false:=beq_eq_false_iff_ne.2 (by omega)
     clear g5 hd;refine zgo ?_;exact zfin
  ·rw[if_pos ⟨rfl,g3⟩]at hM
   subst hM;clear c2 c4 hgr;refine zgo ?_;exact zfin
end Go.Proofs.YtioafciifiggaaaGreatDoor
namespace Go.Proofs.YtioafciifiggaaaGreatDoor
open Go.Proofs Go.AL
set_option maxRecDepth 100000
set_option maxHeartbeats 4000000
attribute [local irreducible] endA AW aops thenA blockA hold
attribute [local irreducible] numG
theorem has_p(l:List Int)(n:Int)(hl:l.length≤100000):PC 92 [.snap (encL intRow l),zV n] (bV (l.contains n)):=by
 refine pstart Tryz.func92 Tryz.ntmps92 (.c _) ?_;have hg:=gI l;obtain⟨M,hM⟩:∃M,l.contains n=M:=⟨_,rfl⟩;rw[hM];refine zgo ?_;refine zfor (α:=Unit) l.length (fun k _=> [(5,true,zV k),(1,true,zV n),(0,true,.snap (encL intRow l))]) (fun _ _=> []) (fun k m _=>∀i,i<k→l.getD i 0≠n) ⟨100,(),(fun i hi=>absurd hi (by omega)),zholds⟩ (fun k m _ hk hR=> ?_) (fun m _ hR=> ?_)
 ·have hgk:=hg k hk
  clear hg;obtain⟨v,hv⟩:∃v,l.getD k 0=v:=⟨_,rfl⟩;rw[hv]at hgk;by_cases g:v=n
  ·have h1:l.contains n=true:=by
    rw[List.contains_iff_mem,←g,←hv];exact getD_mem' 0 hk
   rw[h1]at hM;subst hM g;clear hR hv h1;have hd:(v==v)=true:=by simp
   refine zgo ?_;exact zfin
  ·have hR2:Lat (∀i,i<k+1→l.getD i 0≠n):=⟨fun i hi=>by
    rcases Nat.lt_or_ge i k with h1|h1
    ·exact hR i h1
    ·rw[show i=k by omega,hv];exact g⟩
   have hd:(v==n)=false:=by simpa using g
   clear hR hv g hM;refine zgo ?_;exact⟨m,(),hR2.out,zholds⟩
 ·have h1:l.contains n=false:=by
   rw[Bool.eq_false_iff];intro h;rw[List.contains_iff_mem]at h;obtain⟨i,h3,rfl⟩:=List.mem_iff_getElem.1 h;exact hR i h3 (by simp[h3])
  rw[h1]at hM;subst hM;clear hR h1;refine zgo ?_;exact zfin
theorem stG_inv{j:Jr}{p:Option Int}{own:List Int}{x:Stg}{l:List Stg}(h:stG j p own (x::l)=true):corS j x=true∧(∀n,p=some n→n<x.number)∧stG j (some x.number) (own++x.records) l=true:=by
 rw[stG_cons]at h;by_cases g1:corS j x=true
 ·rw[if_pos g1]at h
  by_cases g3:x.records.any (fun n=>own.contains n)=true
  ·exfalso
   rw[if_pos g3]at h;split at h<;>exact absurd h (by simp)
  ·rw[if_neg g3]at h
   cases p with
   |none=>exact⟨g1,fun n hn=>by simp at hn,by simpa using h⟩
   |some n=>
    by_cases g2:x.number≤n
    ·rw[if_pos (by simpa using g2)]at h
     exact absurd h (by decide)
    ·rw[if_neg (by simpa using g2)]at h
     exact⟨g1,fun n' hn=>by injection hn with hn;omega,h⟩
 ·rw[if_neg g1]at h
  exact absurd h (by decide)
theorem stG_pair(j:Jr):∀(l:List Stg) (p:Option Int) (own:List Int),stG j p own l=true→l.Pairwise (fun a b=>a.number<b.number)∧∀n,p=some n→∀x∈l,n<x.number
 |[],_,_,_=>⟨List.Pairwise.nil,fun _ _ x hx=>absurd hx (by simp)⟩
 |x::l,p,own,h=>by
  obtain⟨-,h0,h⟩:=stG_inv h;obtain⟨h1,h2⟩:=stG_pair j l _ _ h;have h3:=h2 _ rfl;refine⟨List.Pairwise.cons h3 h1,fun n hp y hy=> ?_⟩
  have h4:=h0 n hp;rcases List.mem_cons.1 hy with rfl|hy
  ·exact h4
  ·have:=h3 y hy
   omega
theorem stG_sort{j:Jr}{l:List Stg}(h:stG j none [] l=true):SortS l:=fun i k hik hk=>by
 have h1:=List.pairwise_iff_getElem.1 (stG_pair j l none [] h).1 i k (by omega) hk hik
 have h2:l.getD i zStg=l[i]:=by simp[show i<l.length by omega]
 have h3:l.getD k zStg=l[k]:=by simp[hk]
 rw[h2,h3];exact h1
theorem stG_cor(j:Jr):∀(l:List Stg) (p:Option Int) (own:List Int),stG j p own l=true→∀x∈l,corS j x=true
 |[],_,_,_=>fun x hx=>absurd hx (by simp)
 |x::l,p,own,h=>by
  obtain⟨g1,-,h⟩:=stG_inv h;intro y hy;rcases List.mem_cons.1 hy with rfl|hy
  ·exact g1
  ·exact stG_cor j l _ _ h y hy
def ownT(l:List Stg)(k:Nat):List Int:=(l.take k).flatMap Stg.records
theorem ownT_s{l:List Stg}{k:Nat}(h:k<l.length):ownT l (k+1)=ownT l k++(l.getD k zStg).records:=by
 unfold ownT;rw[take_snoc9 zStg h,List.flatMap_append];simp
theorem ownT_mem{l:List Stg}{k:Nat}{v:Int}(hk:k≤l.length)(h:v∈ownT l k):∃i,i<k∧v∈(l.getD i zStg).records:=by
 unfold ownT at h;obtain⟨x,hx,hv⟩:=List.mem_flatMap.1 h;obtain⟨i,hi,rfl⟩:=List.mem_iff_getElem.1 hx;rw[List.length_take]at hi;refine⟨i,by omega,?_⟩
 rw[List.getElem_take]at hv;have h2:l.getD i zStg=l[i]:=by simp[show i<l.length by omega]
 rw[h2];exact hv
theorem mem_ownT{l:List Stg}{k i:Nat}{v:Int}(hk:k≤l.length)(hi:i<k)(h:v∈(l.getD i zStg).records):v∈ownT l k:=by
 unfold ownT;refine List.mem_flatMap.2 ⟨l.getD i zStg,?_,h⟩;have h2:l.getD i zStg=l[i]:=by simp[show i<l.length by omega]
 rw[h2];refine List.mem_iff_getElem.2 ⟨i,by rw[List.length_take];omega,?_⟩
 rw[List.getElem_take]
theorem qstchk_p(s:Stag)(hs:StagLen s):PC 39 [.agg (encSt s)] (zV (stgE s)):=by
 refine pstart Tryz.func39 Tryz.ntmps39 (.c _) ?_;have c1:=rchk14_p s.j hs.sizes;obtain⟨M,hM⟩:∃M,stgE s=M:=⟨_,rfl⟩;rw[hM];unfold stgE at hM;obtain⟨j,l⟩:=s;have hl:=hs.cycles;have hone:=hs.one;have hjl:=hs.sizes;simp only[]at*;have hencJ:encJ j=[zV j.start,zV j.count,zV j.head,zV j.tail,zV j.first,.snap (encL intRow j.sizes)]:=rfl
 rw[hencJ]at c1;unfold encSt;simp only[];by_cases g1:jE j=0
 case neg=>
  rw[if_neg g1]at hM;subst hM;clear hone hencJ;generalize jE j=e at*;refine zgo ?_;exact zfin
 rw[if_pos g1]at hM;rw[g1]at c1;by_cases g2:1024<l.length
 ·rw[if_pos g2]at hM
  subst hM;have g2':(1024:Int)<l.length:=by omega
  clear hone hencJ g1;refine zgo ?_;exact zfin
 rw[if_neg g2]at hM;have g2':¬(1024:Int)<l.length:=by omega
 have hg:=gSt l;have hcor:∀k,k<l.length→PC 91 [.agg (encJ j),.agg (stgRow (l.getD k zStg))] (bV (corS j (l.getD k zStg))):=fun k hk=>qcor_p j _ g1 hjl (hone _ (getD_mem' zStg hk))
 rw[hencJ]at hcor;clear g2 g1 hencJ hs;refine zgo ?_;refine zfor (α:=Unit) l.length (fun k _=> [(4,true,zV k),(1,true,.ptr 0 0 0)]) (fun _ _=> [(0,some (.cells 33 7 [[zV j.start,zV j.count,zV j.head,zV j.tail,zV j.first,.snap (encL intRow j.sizes),.snap (encL stgRow l)]] true false))]) (fun k m _=>1≤m∧stG j (prevS l k) (ownT l k) (l.drop k)=stG j none [] l) ⟨100,(),⟨by omega,rfl⟩,zholds⟩ (fun k m _ hk hR=> ?_) (fun m _ hR=> ?_)
 ·obtain⟨hm,hR⟩:=hR
  rw[drop_at zStg hk,stG_cons]at hR;have hF:stG j none [] l=false→M=3:=fun h=>by rw[if_neg (by rw[h];decide)]at hM;exact hM.symm
  have hgk:=hg k hk;have ck:=hcor k hk;have hrl:=(hone _ (getD_mem' zStg hk)).records;have hps:prevS l (k+1)=some (l.getD k zStg).number:=rfl;rw[stgRow_eq]at ck hgk;by_cases g3:corS j (l.getD k zStg)=true
  case neg=>
   rw[if_neg g3]at hR;obtain rfl:=hF hR.symm;have g3':corS j (l.getD k zStg)=false:=by simpa using g3
   rw[g3']at ck;clear hR hF hM hg hcor hone hrl hps;generalize l.getD k zStg=x at*;refine zgo2 ?_;exact zfin
  rw[if_pos g3]at hR;rw[g3]at ck;clear hM hcor g3;have hot:=ownT_s hk;cases k with
  |zero=>
   have hp0:prevS l 0=none:=rfl;rw[hp0]at hR;rw[if_neg (by simp)]at hR
   clear hp0
   replace hps:=Lat.mk hps
   replace hF:=Lat.mk hF
   replace hR:=Lat.mk hR
   replace hot:=Lat.mk hot
   replace hone:=Lat.mk hone
   replace hg:=Lat.mk hg
   obtain⟨x,hx⟩:∃x,l.getD 0 zStg=x:=⟨_,rfl⟩;rw[hx]at ck hgk hrl hps hR hot
   replace hx:=Lat.mk hx
   obtain⟨xn,xp,xs,xh,xe,r,xc⟩:=x;simp only[]at*;have hgr:=gI r;refine zgo2 ?_;refine zfor (α:=Unit) 0 (fun q _=> [(6,true,zV q),(5,true,.ptr m 0 0),(4,true,zV 0),(1,true,.ptr 0 0 0)]) (fun q _=> [(0,some (.cells 33 7 [[zV j.start,zV j.count,zV j.head,zV j.tail,zV j.first,.snap (encL intRow j.sizes),.snap (encL stgRow l)]] true false)),(m,some (.cells 64 7 [[zV xn,zV xp,zV xs,.snap (encL byteL xh),.snap (encL boolRow xe),.snap (encL intRow r),bV xc]] true false))]) (fun q m' _=>m+1≤m'∧∀i,i<q→∀v∈r,v∉(l.getD i zStg).records) ⟨m+200,(),⟨by omega,fun i hi=>absurd hi (by omega)⟩,zholds⟩ (fun q m' _ hq hR2=> ?_) (fun m' _ hR2=> ?_)
   ·exact absurd hq (by omega)
   ·obtain⟨hm',hR2⟩:=hR2
    have hR:=hR.out
    rw[if_neg (fun h=>by
     obtain⟨v,h1,h2⟩:=List.any_eq_true.1 h;rw[List.contains_iff_mem]at h2;obtain⟨i,h3,h4⟩:=ownT_mem (by omega) h2
     exact hR2 i h3 v h1 h4)]at hR
    replace hR:=Lat.mk hR
    clear hgr hR2 hF;refine zgo2 ?_;exact⟨m'+20,(),⟨by omega,by rw[hps.out,hot.out];exact hR.out⟩,zholds⟩
  |succ p0=>
   have hgp:=hg p0 (by omega)
   rw[stgRow_eq]at hgp;have w1:IntKind.i64.wrap ((p0:Int)+1-1)=p0:=by rw[IntWalk.i64_in _ (by omega)];omega
   have w2:(0:Int)<(p0:Int)+1:=by omega
   have w3:IntKind.i64.wrap (((p0+1:Nat):Int)-1)=p0:=by rw[IntWalk.i64_in _ (by omega)];omega
   have w4:(0:Int)<((p0+1:Nat):Int):=by omega
   have w5:p0<l.length:=by omega
   have hpp:prevS l (p0+1)=some (l.getD p0 zStg).number:=rfl;rw[hpp]at hR;by_cases g4:(l.getD (p0+1) zStg).number≤(l.getD p0 zStg).number
   ·rw[if_pos (by simpa using g4)]at hR
    obtain rfl:=hF hR.symm;clear hR hF hg hrl hps hpp hone hot;generalize l.getD (p0+1) zStg=x at*;generalize l.getD p0 zStg=y at*;refine zgo2 ?_;exact zfin
   rw[if_neg (by simpa using g4)]at hR
   clear hpp
   replace hps:=Lat.mk hps
   replace hF:=Lat.mk hF
   replace hR:=Lat.mk hR
   replace hot:=Lat.mk hot
   replace hone:=Lat.mk hone
   replace hg:=Lat.mk hg
   obtain⟨x,hx⟩:∃x,l.getD (p0+1) zStg=x:=⟨_,rfl⟩;rw[hx]at ck hgk hrl hps hR hot g4
   replace hx:=Lat.mk hx
   obtain⟨xn,xp,xs,xh,xe,r,xc⟩:=x;simp only[]at*;have hgr:=gI r;refine zgo2 ?_;refine zfor (α:=Unit) (p0+1) (fun q _=> [(6,true,zV q),(5,true,.ptr m 0 0),(4,true,zV (p0+1)),(1,true,.ptr 0 0 0)]) (fun q _=> [(0,some (.cells 33 7 [[zV j.start,zV j.count,zV j.head,zV j.tail,zV j.first,.snap (encL intRow j.sizes),.snap (encL stgRow l)]] true false)),(m,some (.cells 64 7 [[zV xn,zV xp,zV xs,.snap (encL byteL xh),.snap (encL boolRow xe),.snap (encL intRow r),bV xc]] true false))]) (fun q m' _=>m+1≤m'∧∀i,i<q→∀v∈r,v∉(l.getD i zStg).records) ⟨m+200,(),⟨by omega,fun i hi=>absurd hi (by omega)⟩,zholds⟩ (fun q m' _ hq hR2=> ?_) (fun m' _ hR2=> ?_)
   ·obtain⟨hm',hR2⟩:=hR2
    have hgq:=hg.out q (by omega)
    have hrq:=(hone.out _ (getD_mem' zStg (show q<l.length by omega))).records
    rw[stgRow_eq]at hgq;obtain⟨y,hy⟩:∃y,l.getD q zStg=y:=⟨_,rfl⟩;rw[hy]at hgq hrq;obtain⟨yn,yp,ys,yh,ye,yr,yc⟩:=y;simp only[]at*
    replace hy:=Lat.mk hy
    replace hR2:=Lat.mk hR2
    clear ck hgk;refine zgo2 ?_;refine zfor (α:=Unit) r.length (fun i _=> [(7,true,zV i),(6,true,zV q),(5,true,.ptr m 0 0),(4,true,zV (p0+1)),(1,true,.ptr 0 0 0)]) (fun q _=> [(0,some (.cells 33 7 [[zV j.start,zV j.count,zV j.head,zV j.tail,zV j.first,.snap (encL intRow j.sizes),.snap (encL stgRow l)]] true false)),(m,some (.cells 64 7 [[zV xn,zV xp,zV xs,.snap (encL byteL xh),.snap (encL boolRow xe),.snap (encL intRow r),bV xc]] true false))]) (fun i m' _=>m+1≤m'∧∀z,z<i→r.getD z 0∉yr) ⟨m'+200,(),⟨by omega,fun i hi=>absurd hi (by omega)⟩,zholds⟩ (fun i m2 _ hi hR3=> ?_) (fun m2 _ hR3=> ?_)
    ·obtain⟨hm2,hR3⟩:=hR3
     have hgi:=hgr i hi;obtain⟨v,hv⟩:∃v,r.getD i 0=v:=⟨_,rfl⟩;rw[hv]at hgi;have ch:=has_p yr v hrq;obtain⟨b,hb⟩:∃b,yr.contains v=b:=⟨_,rfl⟩;rw[hb]at ch;cases b with
     |true=>
      have hR:=hR.out;rw[List.contains_iff_mem]at hb
      rw[if_pos (List.any_eq_true.2 ⟨v,by rw[←hv];exact getD_mem' 0 hi,by
       have h1:=mem_ownT (l:=l) (k:=p0+1) (i:=q) (v:=v) (by omega) hq (by rw[hy.out];exact hb)
       simpa using h1⟩)]at hR
      obtain rfl:=hF.out hR.symm;clear hR hF hR2 hR3 hps hb hv hgr hot hone hg hx hy;refine zgo2 ?_;exact zfin
     |false=>
      have hR4:Lat (∀z,z<i+1→r.getD z 0∉yr):=⟨fun z hz=>by
       rcases Nat.lt_or_ge z i with h4|h4
       ·exact hR3 z h4
       ·rw[show z=i by omega,hv]
        intro h;rw[←List.contains_iff_mem,hb]at h
        exact absurd h (by decide)⟩
      clear hR3 hv hb hgr;refine zgo2 ?_;exact⟨m2+200,(),⟨by omega,hR4.out⟩,zholds⟩
    ·obtain⟨hm2,hR3⟩:=hR3
     have hR4:Lat (∀i,i<q+1→∀v∈r,v∉(l.getD i zStg).records):=⟨fun i hi v hv=>by
      rcases Nat.lt_or_ge i q with h4|h4
      ·exact hR2.out i h4 v hv
      ·rw[show i=q by omega,hy.out]
       obtain⟨z,h3,rfl⟩:=List.mem_iff_getElem.1 hv;have:=hR3 z h3
       simpa[h3]using this⟩
     clear hR3 hR2 hgr;refine zgo2 ?_;exact⟨m2+200,(),⟨by omega,hR4.out⟩,zholds⟩
   ·obtain⟨hm',hR2⟩:=hR2
    have hR:=hR.out
    rw[if_neg (fun h=>by
     obtain⟨v,h1,h2⟩:=List.any_eq_true.1 h;rw[List.contains_iff_mem]at h2;obtain⟨i,h3,h4⟩:=ownT_mem (by omega) h2
     exact hR2 i h3 v h1 h4)]at hR
    replace hR:=Lat.mk hR
    clear hgr hR2 hF;refine zgo2 ?_;exact⟨m'+20,(),⟨by omega,by rw[hps.out,hot.out];exact hR.out⟩,zholds⟩
 ·obtain⟨hm,hR⟩:=hR
  rw[List.drop_length]at hR;have hR1:stG j none [] l=true:=by rw[←hR];rfl
  rw[if_pos hR1]at hM;subst hM;clear hR hR1 hone hcor hg;refine zgo ?_;exact zfin
end Go.Proofs.YtioafciifiggaaaGreatDoor
