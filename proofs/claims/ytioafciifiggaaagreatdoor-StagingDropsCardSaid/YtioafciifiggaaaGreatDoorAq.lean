/- Staging: contracts of its functions (Aq). No condition but those named. -/
import Derived.Test.YtioafciifiggaaaGreatDoorAp
set_option linter.unusedVariables false
set_option linter.unusedSimpArgs false
namespace Go.Proofs.YtioafciifiggaaaGreatDoor
open Go.Proofs Go.AL
set_option maxRecDepth 100000
set_option maxHeartbeats 1000000
attribute [local irreducible] endA AW aops thenA blockA hold
structure Stg where
 number:Int
 parts:Int
 sum:Int
 have_:List (List Int)
 seen:List Bool
 records:List Int
 closed:Bool
def asm(x:Stg):Asm:=⟨x.number,x.parts,x.sum,x.have_,x.seen⟩
def stgRow(x:Stg):List AV:=[zV x.number,zV x.parts,zV x.sum,.snap (encL byteL x.have_),.snap (encL boolRow x.seen),.snap (encL intRow x.records),bV x.closed]
theorem stgRow_eq(x:Stg):stgRow x=[zV x.number,zV x.parts,zV x.sum,.snap (encL byteL x.have_),.snap (encL boolRow x.seen),.snap (encL intRow x.records),bV x.closed]:=rfl
def zStg:Stg:=⟨0,0,0,[],[],[],false⟩
instance :RowEnc stgRow 7:=⟨fun _=>rfl,fun _=>rfl,fun x a ha=>by
 simp only[stgRow,List.mem_cons,List.not_mem_nil,or_false]at ha;rcases ha with rfl|rfl|rfl|rfl|rfl|rfl|rfl
 ·exact .c _
 ·exact .c _
 ·exact .c _
 ·exact encL_noId _
 ·exact encL_noId _
 ·exact encL_noId _
 ·exact .c _⟩
theorem gSt(l:List Stg)(k:Nat)(h:k<l.length):(encL stgRow l)[k]? =some (stgRow (l.getD k zStg)):=encL_get zStg h
structure Stag where
 j:Jr
 cycles:List Stg
def encSt(s:Stag):List AV:=[zV s.j.start,zV s.j.count,zV s.j.head,zV s.j.tail,zV s.j.first,.snap (encL intRow s.j.sizes),.snap (encL stgRow s.cycles)]
def zStag:Stag:=⟨zJr,[]⟩
def jN(j:Jr):Int:=if jE j=0 then j.first+j.sizes.length else 0
def recG(last next:Int):List Int→Bool
 |[]=>true
 |n::l=>if n≤last∨next≤n then false else recG n next l
theorem recG_cons(last next n:Int)(l:List Int):recG last next (n::l)=if n≤last∨next≤n then false else recG n next l:=rfl
def seenN(x:Stg):Nat:=(x.seen.filter id).length
def needN(x:Stg):Nat:=if x.closed=true then seenN x+1 else seenN x
def corS(j:Jr)(x:Stg):Bool:=
 if asmE (asm x)=0 then
  if seenN x=0 then false
  else if x.closed=true∧(acyE (asm x)).2≠0 then false
  else if recG (j.first-1) (jN j) x.records=true then decide (x.records.length=needN x)else false
 else false
def stG(j:Jr):Option Int→List Int→List Stg→Bool
 |_,_,[]=>true
 |p,own,x::l=>
  if corS j x=true then
   if(match p with|none=>false|some n=>decide (x.number≤n))=true then false
   else if x.records.any (fun n=>own.contains n)=true then false
   else stG j (some x.number) (own++x.records) l
  else false
theorem stG_cons(j:Jr)(p:Option Int)(own:List Int)(x:Stg)(l:List Stg):stG j p own (x::l)=if corS j x=true then
   if(match p with|none=>false|some n=>decide (x.number≤n))=true then false
   else if x.records.any (fun n=>own.contains n)=true then false
   else stG j (some x.number) (own++x.records) l
  else false:=rfl
def stgE(s:Stag):Int:=
 if jE s.j=0 then
  if 1024<s.cycles.length then 6
  else if stG s.j none [] s.cycles=true then 0 else 3
 else jE s.j
structure StgLen(x:Stg):Prop where
 asm:AsmLen (asm x)
 records:x.records.length≤100000
structure StagLen(s:Stag):Prop where
 sizes:s.j.sizes.length≤100000
 cycles:s.cycles.length≤100000
 one:∀x∈s.cycles,StgLen x
theorem recG_mem:∀(l:List Int) (last next:Int),recG last next l=true→∀n∈l,last<n∧n<next
 |[],_,_,_,n,hn=>by simp at hn
 |x::l,last,next,h,n,hn=>by
  rw[recG_cons]at h;split at h
  ·exact absurd h (by decide)
  ·rename_i g
   rcases List.mem_cons.1 hn with rfl|hn
   ·omega
   ·have:=recG_mem l x next h n hn
    omega
theorem recG_nodup:∀(l:List Int) (last next:Int),recG last next l=true→l.Nodup
 |[],_,_,_=>List.nodup_nil
 |x::l,last,next,h=>by
  rw[recG_cons]at h;split at h
  ·exact absurd h (by decide)
  ·rename_i g
   refine List.nodup_cons.2 ⟨fun hx=> ?_,recG_nodup l x next h⟩
   have:=recG_mem l x next h x hx
   omega
end Go.Proofs.YtioafciifiggaaaGreatDoor
namespace Go.Proofs.YtioafciifiggaaaGreatDoor
open Go.Proofs Go.AL
set_option maxRecDepth 100000
set_option maxHeartbeats 1000000
attribute [local irreducible] endA AW aops thenA blockA hold
theorem nan_p(a:Int):PC 197 [zV a] (bV false):=by
 refine pstart Tryz.func197 Tryz.ntmps197 (.c _) ?_;have h:(a !=a)=false:=by simp
 refine zgo ?_;exact zfin
def cmpZ(a b:Int):Int:=if a<b then-1 else if b<a then 1 else 0
theorem cmp_p(a b:Int):PC 147 [zV a,zV b] (zV (cmpZ a b)):=by
 refine pstart Tryz.func147 Tryz.ntmps147 (.c _) ?_;have c1:=nan_p a;have c2:=nan_p b;unfold cmpZ;by_cases g1:a<b
 ·rw[if_pos g1]
  refine zgo ?_;exact zfin
 ·rw[if_neg g1]
  by_cases g2:b<a
  ·rw[if_pos g2]
   refine zgo ?_;exact zfin
  ·rw[if_neg g2]
   refine zgo ?_;exact zfin
theorem find1_p(x:Stg)(n:Int):PC 146 [.agg (stgRow x),zV n] (zV (cmpZ x.number n)):=by
 refine pstart Tryz.func146 Tryz.ntmps146 (.c _) ?_;have c1:=cmp_p x.number n;unfold stgRow;refine zgo ?_;exact zfin
def SortS(l:List Stg):Prop:=∀i k,i<k→k<l.length→(l.getD i zStg).number<(l.getD k zStg).number
def fndI(l:List Stg)(n:Int):Nat:=l.findIdx (fun x=>decide (n≤x.number))
theorem fndI_le(l:List Stg)(n:Int):fndI l n≤l.length:=List.findIdx_le_length
theorem fndI_lt{l:List Stg}{n:Int}{i:Nat}(h:i<fndI l n):(l.getD i zStg).number<n:=by
 have h2:=List.not_of_lt_findIdx h;have hi:i<l.length:=Nat.lt_of_lt_of_le h (fndI_le l n);simp only[decide_eq_false_iff_not,Int.not_le]at h2;simpa[hi]using h2
theorem fndI_ge{l:List Stg}(hs:SortS l){n:Int}{i:Nat}(h:fndI l n≤i)(hi:i<l.length):n≤(l.getD i zStg).number:=by
 have h1:fndI l n<l.length:=by omega
 have h2:decide (n≤(l[fndI l n]).number)=true:=List.findIdx_getElem (w:=h1);have h3:n≤(l.getD (fndI l n) zStg).number:=by simpa[h1]using h2
 rcases Nat.lt_or_ge (fndI l n) i with h4|h4
 ·have:=hs _ _ h4 hi
  omega
 ·rw[show i=fndI l n by omega]
  exact h3
def fndB(l:List Stg)(n:Int):Bool:=decide (fndI l n<l.length)&&decide ((l.getD (fndI l n) zStg).number=n)
theorem bsearch_p(l:List Stg)(n:Int)(hs:SortS l)(hl:l.length≤100000):PC 145 [.snap (encL stgRow l),zV n,.fn (.func 146) [] []] (.tup [zV (fndI l n),bV (fndB l n)]):=by
 refine pstart Tryz.func145 Tryz.ntmps145 (by simp only[go_sem]) ?_
 have hg:=gSt l;have hfl:=fndI_le l n;refine zgo ?_;refine zwhile (α:=Nat×Nat) (fun a=> [(9,true,zV a.1),(10,true,zV a.2),(8,true,zV l.length),(2,true,.fn (.func 146) [] []),(1,true,zV n),(0,true,.snap (encL stgRow l))]) (fun _=> []) (fun m a=>a.1≤fndI l n∧fndI l n≤a.2∧a.2≤l.length) (fun a=>a.2-a.1) (0,l.length) ⟨0,⟨by omega,hfl,Nat.le_refl _⟩,zholds⟩ ?_
 rintro m ⟨i,j⟩ ⟨h1,h2,h3⟩;simp only[]at h1 h2 h3⊢;by_cases hij:i<j
 ·obtain⟨q,hq⟩:∃q,q=(i+j)/2:=⟨_,rfl⟩
  have hq1:i≤q:=by omega
  have hq2:q<j:=by omega
  have hij':(i:Int)<j:=by omega
  have w1:IntKind.i64.wrap ((i:Int)+j)=(i:Int)+j:=IntWalk.i64_in _ (by omega)
  have w2:IntKind.u64.wrap ((i:Int)+j)=(i:Int)+j:=by
   have:IntKind.u64.wrap ((i:Int)+j)=((i:Int)+j) % 18446744073709551616:=by simp[IntKind.wrap,IntKind.bits,IntKind.signed]
   rw[this];omega
  have w3:((i:Int)+j).fdiv (2 ^ min 1 64)=(q:Int):=by
   rw[show min 1 64=1 from rfl,Int.pow_one,Int.fdiv_eq_ediv_of_nonneg _ (by decide)]
   omega
  have w4:IntKind.i64.wrap (q:Int)=q:=IntWalk.i64_in _ (by omega)
  have c1:=find1_p (l.getD q zStg) n;have hgq:=hg q (by omega)
  rw[stgRow_eq]at hgq c1
  have k1:(l.getD q zStg).number<n→q<fndI l n:=fun h=>by
   rcases Nat.lt_or_ge q (fndI l n)with h4|h4
   ·exact h4
   ·have:=fndI_ge hs h4 (by omega);omega
  have k2:¬(l.getD q zStg).number<n→fndI l n≤q:=fun h=>by
   rcases Nat.lt_or_ge q (fndI l n)with h4|h4
   ·exact absurd (fndI_lt h4) h
   ·exact h4
  generalize fndI l n=F at*;clear hg hq;unfold cmpZ at c1;by_cases g:(l.getD q zStg).number<n
  ·have k3:=k1 g
   rw[if_pos g]at c1;clear k1 k2 g;refine zgo ?_;exact⟨m+20,(q+1,j),by simp only[];omega,⟨by simp only[];omega,h2,h3⟩,zholds⟩
  ·have k3:=k2 g
   rw[if_neg g]at c1;clear k1 k2;by_cases g2:n<(l.getD q zStg).number
   ·rw[if_pos g2]at c1
    clear g g2;refine zgo ?_;exact⟨m+20,(i,q),by simp only[];omega,⟨h1,by simp only[];omega,by simp only[];omega⟩,zholds⟩
   ·rw[if_neg g2]at c1
    clear g g2;refine zgo ?_;exact⟨m+20,(i,q),by simp only[];omega,⟨h1,by simp only[];omega,by simp only[];omega⟩,zholds⟩
 ·have hij':¬(i:Int)<j:=by omega
  have he:i=fndI l n:=by omega
  unfold fndB;by_cases g:i<l.length
  ·have g':(i:Int)<l.length:=by omega
   have c1:=find1_p (l.getD i zStg) n;have hgi:=hg i g;rw[stgRow_eq]at hgi c1;rw[←he];clear hg hfl he;unfold cmpZ at c1;by_cases g1:(l.getD i zStg).number<n
   ·have g2:¬(l.getD i zStg).number=n:=by omega
    rw[if_pos g1]at c1;refine zgo ?_;exact zfin
   ·rw[if_neg g1]at c1
    by_cases g3:n<(l.getD i zStg).number
    ·have g2:¬(l.getD i zStg).number=n:=by omega
     rw[if_pos g3]at c1;refine zgo ?_;exact zfin
    ·have g2:(l.getD i zStg).number=n:=by omega
     rw[if_neg g3]at c1;have hd:decide ((l.getD i zStg).number=n)=true:=by simp only[g2,decide_true]
     have hd2:decide (i<l.length)=true:=by simp only[g,decide_true]
     rw[hd,hd2];clear g2 g1 g3 hd hd2;refine zgo ?_;exact zfin
  ·have g':¬(i:Int)<l.length:=by omega
   rw[←he];have hd2:decide (i<l.length)=false:=by simp only[g,decide_false]
   rw[hd2];clear hg hfl he hd2;refine zgo ?_;exact zfin
theorem sfind_p(l:List Stg)(n:Int)(hs:SortS l)(hl:l.length≤100000):PC 70 [.snap (encL stgRow l),zV n] (.tup [zV (fndI l n),bV (fndB l n)]):=by
 refine pstart Tryz.func70 Tryz.ntmps70 (by simp only[go_sem]) ?_
 have c1:=bsearch_p l n hs hl;clear hs;refine zgo ?_;exact zfin
end Go.Proofs.YtioafciifiggaaaGreatDoor
namespace Go.Proofs.YtioafciifiggaaaGreatDoor
open Go.Proofs Go.AL
set_option maxRecDepth 100000
set_option maxHeartbeats 1000000
attribute [local irreducible] endA AW aops thenA blockA hold
attribute [local irreducible] numG
theorem asm_p(x:Stg):PC 75 [.agg (stgRow x)] (.agg (encA (asm x))):=by
 refine pstart Tryz.func75 Tryz.ntmps75 (by simp only[go_sem,encA]) ?_
 unfold stgRow encA asm;refine zgo2 ?_;exact zfin
theorem qasm_p(x:Stg):PC 95 [.agg (stgRow x)] (.agg (encA (asm x))):=by
 refine pstart Tryz.func95 Tryz.ntmps95 (by simp only[go_sem,encA]) ?_
 unfold stgRow encA asm;refine zgo2 ?_;exact zfin
def cntB(l:List Bool):Nat:=(l.filter id).length
theorem cntB_le(l:List Bool):cntB l≤l.length:=List.length_filter_le _ _
theorem cntB_snoc{l:List Bool}{k:Nat}(h:k<l.length):cntB (l.take (k+1))=cntB (l.take k)+(if l.getD k false=true then 1 else 0):=by
 rw[take_snoc9 false h];unfold cntB;rw[List.filter_append,List.length_append];congr 1;cases l.getD k false<;>rfl
theorem bcor_p(j:Jr)(x:Stg)(hj:jE j=0)(hl:j.sizes.length≤100000)(hx:StgLen x):PC 55 [.agg (encJ j),.agg (stgRow x)] (bV (corS j x)):=by
 refine pstart Tryz.func55 Tryz.ntmps55 (.c _) ?_;have c1:=asm_p x;have c2:=bchk_p (asm x) (by have:=hx.asm.have_;omega) (by have:=hx.asm.seen;omega) (fun y hy=>by have:=(hx.asm.one y hy).1;omega)
 have c3:=bcyc_p (asm x) hx.asm;have c4:=jnext_p j hl;rw[if_pos hj]at c4;obtain⟨-,-,-,f1,f2,-⟩:=jE_ok hj;have hN:jN j=j.first+j.sizes.length:=if_pos hj
 have hsn:seenN x=cntB x.seen:=rfl;have hnn:needN x=if x.closed=true then cntB x.seen+1 else cntB x.seen:=rfl
 have hrec:=hx.records;have hseen:x.seen.length≤100000:=hx.asm.seen;obtain⟨M,hM⟩:∃M,corS j x=M:=⟨_,rfl⟩;rw[hM];unfold corS at hM;rw[hN,hsn,hnn]at hM;have h3:=asmE_3 (a:=asm x);generalize asmE (asm x)=ae at*;generalize acyE (asm x)=cy at*;obtain⟨⟨cb,cn,ct,cp,cw⟩,ce⟩:=cy;clear hN hsn hnn hx;obtain⟨n,p,s,h,e,r,cl⟩:=x;obtain⟨js,jc,jh,jt,jf,jz⟩:=j;unfold encJ stgRow encC encA asm at*;simp only[]at*;generalize hNN:jf+(jz.length:Int)=N at*
 by_cases g1:ae=0
 case neg=>
  rw[if_neg g1]at hM;subst hM;have h3:=h3 g1;subst h3;clear c3 c4;refine zgo ?_;exact zfin
 rw[if_pos g1]at hM;subst g1;clear h3;have hge:=gBl e;have hgr:=gI r;have w0:IntKind.i64.wrap (jf-1)=jf-1:=IntWalk.i64_in _ (by omega)
 refine zgo ?_;refine zfor1 e.length 100 [(0,some (.cells 30 6 [[zV js,zV jc,zV jh,zV jt,zV jf,.snap (encL intRow jz)]] true false)),(1,some (.cells 64 7 [[zV n,zV p,zV s,.snap (encL byteL h),.snap (encL boolRow e),.snap (encL intRow r),bV cl]] true false))] (fun k=> [(20,true,zV k),(19,true,zV e.length),(18,true,.snap (encL boolRow e)),(5,true,zV (cntB (e.take k))),(3,true,.ptr 1 0 0),(2,true,.ptr 0 0 0)]) zholds (fun k m hk hm=> ?_) (fun m hm=> ?_)
 ·have hgk:(encL boolRow e)[k]? =some [bV (e.getD k false)]:=hge k hk
  have hs:=cntB_snoc hk;have hle:=cntB_le (e.take k);have hle2:(e.take k).length≤100000:=by rw[List.length_take];omega
  generalize e.getD k false=b at*;clear hge hgr c1 c2 c3 c4 hM;cases b with
  |true=>
   rw[if_pos rfl]at hs;generalize cntB (e.take k)=q at*;generalize cntB (e.take (k+1))=q' at*;subst hs;refine zgo ?_;exact⟨m+20,by omega,zholds⟩
  |false=>
   rw[if_neg (by decide),Nat.add_zero]at hs
   generalize cntB (e.take k)=q at*;generalize cntB (e.take (k+1))=q' at*;subst hs;refine zgo ?_;exact⟨m+20,by omega,zholds⟩
 rw[List.take_length];have hle:=cntB_le e;generalize cntB e=q at*;clear hge;by_cases g2:q=0
 ·rw[if_pos g2]at hM
  subst hM;have g2':(q:Int)=0:=by omega
  clear g2 hgr c1 c2 c3 c4;refine zgo ?_;exact zfin
 rw[if_neg g2]at hM;have g2':¬(q:Int)=0:=by omega
 cases cl with
 |false=>
  rw[if_neg (by simp),if_neg (by decide:¬(false=true))]at hM
  clear c1 c2 c3;refine zgo ?_;refine zfor (α:=Int) r.length (fun k last=> [(48,true,zV k),(47,true,zV r.length),(46,true,.snap (encL intRow r)),(10,true,zV last),(5,true,zV q),(3,true,.ptr 1 0 0),(2,true,.ptr 0 0 0)]) (fun _ _=> [(0,some (.cells 30 6 [[zV js,zV jc,zV jh,zV jt,zV jf,.snap (encL intRow jz)]] true false)),(1,some (.cells 64 7 [[zV n,zV p,zV s,.snap (encL byteL h),.snap (encL boolRow e),.snap (encL intRow r),bV false]] true false))]) (fun k m last=>1≤m∧recG last N (r.drop k)=recG (jf-1) N r) ⟨m+200,jf-1,⟨by omega,rfl⟩,zholds⟩ (fun k m' last hk hR=> ?_) (fun m' last hR=> ?_)
  ·obtain⟨hm',hR⟩:=hR
   have hgk:=hgr k hk;rw[drop_at 0 hk,recG_cons]at hR;have hF:recG (jf-1) N r=false→M=false:=fun h=>by rw[if_neg (by rw[h];decide)]at hM;exact hM.symm
   generalize r.getD k 0=v at*;clear hgr hM;by_cases g5:v≤last
   ·rw[if_pos (.inl g5)]at hR
    obtain rfl:=hF hR.symm;clear hR hF;refine zgo ?_;exact zfin
   ·by_cases g6:N≤v
    ·rw[if_pos (.inr g6)]at hR
     obtain rfl:=hF hR.symm;clear hR hF;refine zgo ?_;exact zfin
    ·rw[if_neg (by omega)]at hR
     have hR3:=Lat.mk hR;clear hR hF;refine zgo ?_;exact⟨m'+60,v,⟨by omega,hR3.out⟩,zholds⟩
  ·obtain⟨hm',hR⟩:=hR
   rw[List.drop_length]at hR;have hR1:recG (jf-1) N r=true:=by rw[←hR];rfl
   rw[if_pos hR1]at hM;clear hR hR1 hgr c4;by_cases g5:r.length=q
   ·have hd:decide (r.length=q)=true:=by simp[g5]
    rw[hd]at hM;subst hM;have g5':((r.length:Int)==(q:Int))=true:=by simpa using(by omega:(r.length:Int)=(q:Int))
    clear g5 hd;refine zgo ?_;exact zfin
   ·have hd:decide (r.length=q)=false:=by simp[g5]
    rw[hd]at hM;subst hM;have g5':((r.length:Int)==(q:Int))=false:=beq_eq_false_iff_ne.2 (by omega)
    clear g5 hd;refine zgo ?_;exact zfin
 |true=>
  rw[if_pos rfl]at hM;by_cases g3:ce=0
  ·subst g3
   rw[if_neg (by simp)]at hM
   obtain⟨nd,hnd⟩:∃nd,nd=q+1:=⟨_,rfl⟩;have hnd2:(nd:Int)=(q:Int)+1:=by omega
   rw[←hnd]at hM;clear hnd;clear c2;refine zgo ?_;refine zfor (α:=Int) r.length (fun k last=> [(48,true,zV k),(47,true,zV r.length),(46,true,.snap (encL intRow r)),(10,true,zV last),(5,true,zV nd),(3,true,.ptr 1 0 0),(2,true,.ptr 0 0 0)]) (fun _ _=> [(0,some (.cells 30 6 [[zV js,zV jc,zV jh,zV jt,zV jf,.snap (encL intRow jz)]] true false)),(1,some (.cells 64 7 [[zV n,zV p,zV s,.snap (encL byteL h),.snap (encL boolRow e),.snap (encL intRow r),bV true]] true false))]) (fun k m last=>1≤m∧recG last N (r.drop k)=recG (jf-1) N r) ⟨m+200,jf-1,⟨by omega,rfl⟩,zholds⟩ (fun k m' last hk hR=> ?_) (fun m' last hR=> ?_)
   ·obtain⟨hm',hR⟩:=hR
    have hgk:=hgr k hk;rw[drop_at 0 hk,recG_cons]at hR;have hF:recG (jf-1) N r=false→M=false:=fun h=>by rw[if_neg (by rw[h];decide)]at hM;exact hM.symm
    generalize r.getD k 0=v at*;clear hgr hM;by_cases g5:v≤last
    ·rw[if_pos (.inl g5)]at hR
     obtain rfl:=hF hR.symm;clear hR hF;refine zgo ?_;exact zfin
    ·by_cases g6:N≤v
     ·rw[if_pos (.inr g6)]at hR
      obtain rfl:=hF hR.symm;clear hR hF;refine zgo ?_;exact zfin
     ·rw[if_neg (by omega)]at hR
      have hR3:=Lat.mk hR;clear hR hF;refine zgo ?_;exact⟨m'+60,v,⟨by omega,hR3.out⟩,zholds⟩
   ·obtain⟨hm',hR⟩:=hR
    rw[List.drop_length]at hR;have hR1:recG (jf-1) N r=true:=by rw[←hR];rfl
    rw[if_pos hR1]at hM;clear hR hR1 hgr c4 hnd2;by_cases g5:r.length=nd
    ·have hd:decide (r.length=nd)=true:=by simp[g5]
     rw[hd]at hM;subst hM;have g5':((r.length:Int)==(nd:Int))=true:=by simpa using(by omega:(r.length:Int)=(nd:Int))
     clear g5 hd;refine zgo ?_;exact zfin
    ·have hd:decide (r.length=nd)=false:=by simp[g5]
     rw[hd]at hM;subst hM;have g5':((r.length:Int)==(nd:Int))=false:=beq_eq_false_iff_ne.2 (by omega)
     clear g5 hd;refine zgo ?_;exact zfin
  ·rw[if_pos ⟨rfl,g3⟩]at hM
   subst hM;clear c2 c4 hgr;refine zgo ?_;exact zfin
end Go.Proofs.YtioafciifiggaaaGreatDoor
