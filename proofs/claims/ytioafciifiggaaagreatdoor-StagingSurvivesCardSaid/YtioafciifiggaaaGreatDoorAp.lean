/- Staging. No condition. -/
import Derived.Test.YtioafciifiggaaaGreatDoorL0
import Derived.Test.YtioafciifiggaaaGreatDoorAo
set_option linter.all false
namespace Go.Proofs.YtioafciifiggaaaGreatDoor
open Go.Proofs Go.AL
set_option maxRecDepth 100000
set_option maxHeartbeats 1000000
attribute [local irreducible] cH AW b9 dR eH hold
structure aW where
 number:Int
 parts:Int
 sum:Int
 bS:List (List Int)
 seen:List Bool
 records:List Int
 closed:Bool
def bF(x:aW):nT:=⟨x.number,x.parts,x.sum,x.bS,x.seen⟩
def bQ(x:aW):List AV:=[zV x.number,zV x.parts,zV x.sum,.snap (aA dF x.bS),.snap (aA eJ x.seen),.snap (aA bD x.records),bV x.closed]
theorem iK(x:aW):bQ x=[zV x.number,zV x.parts,zV x.sum,.snap (aA dF x.bS),.snap (aA eJ x.seen),.snap (aA bD x.records),bV x.closed]:=rfl
def aY:aW:=⟨0,0,0,[],[],[],false⟩
instance :wF bQ 7:=⟨fun _=>rfl,fun _=>rfl,fun x a ha=>by
 simp only[bQ,cG,jF,or_false]at ha;rcases ha with rfl|rfl|rfl|rfl|rfl|rfl|rfl
 ·exact .c _
 ·exact .c _
 ·exact .c _
 ·exact kL _
 ·exact kL _
 ·exact kL _
 ·exact .c _⟩
theorem BR(l:List aW)(k:Nat)(h:k<l.length):(aA bQ l)[k]? =some (bQ (l.getD k aY)):=pD aY h
structure cX where
 j:Jr
 aR:List aW
def dG(s:cX):List AV:=[zV s.j.start,zV s.j.count,zV s.j.head,zV s.j.tail,zV s.j.first,.snap (aA bD s.j.b8),.snap (aA bQ s.aR)]
def lZ:cX:=⟨j9,[]⟩
def jN(j:Jr):Int:=if jE j=0 then j.first+j.b8.length else 0
def oY(last next:Int):List Int->Bool
 |[]=>true
 |n::l=>if n<=last\/next<=n then false else oY n next l
theorem ES(last next n:Int)(l:List Int):oY last next (n::l)=if n<=last\/next<=n then false else oY n next l:=rfl
def vL(x:aW):Nat:=(x.seen.filter id).length
def tU(x:aW):Nat:=if x.closed=true then vL x+1 else vL x
def nU(j:Jr)(x:aW):Bool:=
 if qF (bF x)=0 then
  if vL x=0 then false
  else if x.closed=true/\(rM (bF x)).2≠0 then false
  else if oY (j.first-1) (jN j) x.records=true then decide (x.records.length=tU x)else false
 else false
def uQ(j:Jr):Option Int->List Int->List aW->Bool
 |_,_,[]=>true
 |p,own,x::l=>
  if nU j x=true then
   if(match p with|none=>false|some n=>decide (x.number<=n))=true then false
   else if x.records.any (fun n=>own.contains n)=true then false
   else uQ j (some x.number) (own++x.records) l
  else false
theorem Aq(j:Jr)(p:Option Int)(own:List Int)(x:aW)(l:List aW):uQ j p own (x::l)=if nU j x=true then
   if(match p with|none=>false|some n=>decide (x.number<=n))=true then false
   else if x.records.any (fun n=>own.contains n)=true then false
   else uQ j (some x.number) (own++x.records) l
  else false:=rfl
def mK(s:cX):Int:=
 if jE s.j=0 then
  if 1024<s.aR.length then 6
  else if uQ s.j none [] s.aR=true then 0 else 3
 else jE s.j
structure GQ(x:aW):Prop where
 bF:V8 (bF x)
 records:x.records.length<=100000
structure rA(s:cX):Prop where
 b8:s.j.b8.length<=100000
 aR:s.aR.length<=100000
 one:∀x∈s.aR,GQ x
theorem P8:∀(l:List Int) (last next:Int),oY last next l=true->∀n∈l,last<n/\n<next
 |[],_,_,_,n,hn=>by simp at hn
 |x::l,last,next,h,n,hn=>by
  rw[ES]at h;split at h
  ·exact absurd h (by decide)
  ·rename_i g
   rcases cG.1 hn with rfl|hn
   ·omega
   ·have:=P8 l x next h n hn
    omega
theorem Yq:∀(l:List Int) (last next:Int),oY last next l=true->l.Nodup
 |[],_,_,_=>aF1
 |x::l,last,next,h=>by
  rw[ES]at h;split at h
  ·exact absurd h (by decide)
  ·rename_i g
   refine Fv.2 ⟨fun hx=> ?_,Yq l x next h⟩
   have:=P8 l x next h x hx
   omega
theorem Yr(a:Int):PC 197 [zV a] (bV false):=by
 refine bI Tryz.func197 Tryz.ntmps197 (.c _) ?_;have h:(a !=a)=false:=by simp
 refine aG ?_;exact aC
def V9(a b:Int):Int:=if a<b then-1 else if b<a then 1 else 0
theorem bf1(a b:Int):PC 147 [zV a,zV b] (zV (V9 a b)):=by
 refine bI Tryz.func147 Tryz.ntmps147 (.c _) ?_;have c1:=Yr a;have c2:=Yr b;unfold V9;by_cases g1:a<b
 ·rw[if_pos g1]
  refine aG ?_;exact aC
 ·rw[if_neg g1]
  by_cases g2:b<a
  ·rw[if_pos g2]
   refine aG ?_;exact aC
  ·rw[if_neg g2]
   refine aG ?_;exact aC
theorem Ys(x:aW)(n:Int):PC 146 [.agg (bQ x),zV n] (zV (V9 x.number n)):=by
 refine bI Tryz.func146 Tryz.ntmps146 (.c _) ?_;have c1:=bf1 x.number n;unfold bQ;refine aG ?_;exact aC
def L3(l:List aW):Prop:=∀i k,i<k->k<l.length->(l.getD i aY).number<(l.getD k aY).number
def bT(l:List aW)(n:Int):Nat:=l.findIdx (fun x=>decide (n<=x.number))
theorem Ar(l:List aW)(n:Int):bT l n<=l.length:=List.findIdx_le_length
theorem Jf{l:List aW}{n:Int}{i:Nat}(h:i<bT l n):(l.getD i aY).number<n:=by
 have h2:=List.not_of_lt_findIdx h;have hi:i<l.length:=vF h (Ar l n);simp only[decide_eq_false_iff_not,Int.not_le]at h2;simpa[hi]using h2
theorem Jg{l:List aW}(hs:L3 l){n:Int}{i:Nat}(h:bT l n<=i)(hi:i<l.length):n<=(l.getD i aY).number:=by
 have h1:bT l n<l.length:=by omega
 have h2:decide (n<=(l[bT l n]).number)=true:=List.findIdx_getElem (w:=h1);have h3:n<=(l.getD (bT l n) aY).number:=by simpa[h1]using h2
 rcases oA (bT l n) i with h4|h4
 ·have:=hs _ _ h4 hi
  omega
 ·rw[show i=bT l n by omega]
  exact h3
def nW(l:List aW)(n:Int):Bool:=decide (bT l n<l.length)&&decide ((l.getD (bT l n) aY).number=n)
theorem bf2(l:List aW)(n:Int)(hs:L3 l)(hl:l.length<=100000):PC 145 [.snap (aA bQ l),zV n,.fn (.func 146) [] []] (.aU [zV (bT l n),bV (nW l n)]):=by
 refine bI Tryz.func145 Tryz.ntmps145 (by simp only[go_sem]) ?_
 have hg:=BR l;have oI:=Ar l n;refine aG ?_;refine KK (α:=Nat×Nat) (fun a=> [(9,true,zV a.1),(10,true,zV a.2),(8,true,zV l.length),(2,true,.fn (.func 146) [] []),(1,true,zV n),(0,true,.snap (aA bQ l))]) (fun _=> []) (fun m a=>a.1<=bT l n/\bT l n<=a.2/\a.2<=l.length) (fun a=>a.2-a.1) (0,l.length) ⟨0,⟨by omega,oI,cE _⟩,aT⟩ ?_
 rintro m ⟨i,j⟩ ⟨h1,h2,h3⟩;simp only[]at h1 h2 h3⊢;by_cases mL:i<j
 ·obtain⟨q,hq⟩:∃q,q=(i+j)/2:=⟨_,rfl⟩
  have zY:i<=q:=by omega
  have oH:q<j:=by omega
  have bf3:(i:Int)<j:=by omega
  have w1:IntKind.i64.wrap ((i:Int)+j)=(i:Int)+j:=IntWalk.i64_in _ (by omega)
  have w2:IntKind.u64.wrap ((i:Int)+j)=(i:Int)+j:=by
   have:IntKind.u64.wrap ((i:Int)+j)=((i:Int)+j) % 18446744073709551616:=by simp[IntKind.wrap,IntKind.bits,IntKind.signed]
   rw[this];omega
  have w3:((i:Int)+j).fdiv (2 ^ min 1 64)=(q:Int):=by
   rw[show min 1 64=1 from rfl,Int.pow_one,Tk _ (by decide)]
   omega
  have w4:IntKind.i64.wrap (q:Int)=q:=IntWalk.i64_in _ (by omega)
  have c1:=Ys (l.getD q aY) n;have VA:=hg q (by omega)
  rw[iK]at VA c1
  have k1:(l.getD q aY).number<n->q<bT l n:=fun h=>by
   rcases oA q (bT l n)with h4|h4
   ·exact h4
   ·have:=Jg hs h4 (by omega);omega
  have k2:¬(l.getD q aY).number<n->bT l n<=q:=fun h=>by
   rcases oA q (bT l n)with h4|h4
   ·exact absurd (Jf h4) h
   ·exact h4
  generalize bT l n=F at*;clear hg hq;unfold V9 at c1;by_cases g:(l.getD q aY).number<n
  ·have k3:=k1 g
   rw[if_pos g]at c1;clear k1 k2 g;refine aG ?_;exact⟨m+20,(q+1,j),by simp only[];omega,⟨by simp only[];omega,h2,h3⟩,aT⟩
  ·have k3:=k2 g
   rw[if_neg g]at c1;clear k1 k2;by_cases g2:n<(l.getD q aY).number
   ·rw[if_pos g2]at c1
    clear g g2;refine aG ?_;exact⟨m+20,(i,q),by simp only[];omega,⟨h1,by simp only[];omega,by simp only[];omega⟩,aT⟩
   ·rw[if_neg g2]at c1
    clear g g2;refine aG ?_;exact⟨m+20,(i,q),by simp only[];omega,⟨h1,by simp only[];omega,by simp only[];omega⟩,aT⟩
 ·have bf3:¬(i:Int)<j:=by omega
  have he:i=bT l n:=by omega
  unfold nW;by_cases g:i<l.length
  ·have g':(i:Int)<l.length:=by omega
   have c1:=Ys (l.getD i aY) n;have k8:=hg i g;rw[iK]at k8 c1;rw[<-he];clear hg oI he;unfold V9 at c1;by_cases g1:(l.getD i aY).number<n
   ·have g2:¬(l.getD i aY).number=n:=by omega
    rw[if_pos g1]at c1;refine aG ?_;exact aC
   ·rw[if_neg g1]at c1
    by_cases g3:n<(l.getD i aY).number
    ·have g2:¬(l.getD i aY).number=n:=by omega
     rw[if_pos g3]at c1;refine aG ?_;exact aC
    ·have g2:(l.getD i aY).number=n:=by omega
     rw[if_neg g3]at c1;have hd:decide ((l.getD i aY).number=n)=true:=by simp only[g2,decide_true]
     have A9:decide (i<l.length)=true:=by simp only[g,decide_true]
     rw[hd,A9];clear g2 g1 g3 hd A9;refine aG ?_;exact aC
  ·have g':¬(i:Int)<l.length:=by omega
   rw[<-he];have A9:decide (i<l.length)=false:=by simp only[g,decide_false]
   rw[A9];clear hg oI he A9;refine aG ?_;exact aC
theorem P9(l:List aW)(n:Int)(hs:L3 l)(hl:l.length<=100000):PC 70 [.snap (aA bQ l),zV n] (.aU [zV (bT l n),bV (nW l n)]):=by
 refine bI Tryz.func70 Tryz.ntmps70 (by simp only[go_sem]) ?_
 have c1:=bf2 l n hs hl;clear hs;refine aG ?_;exact aC
end Go.Proofs.YtioafciifiggaaaGreatDoor
namespace Go.Proofs.YtioafciifiggaaaGreatDoor
open Go.Proofs Go.AL
set_option maxRecDepth 100000
set_option maxHeartbeats 1000000
attribute [local irreducible] cH AW b9 dR eH hold
attribute [local irreducible] jI
theorem L4(x:aW):PC 75 [.agg (bQ x)] (.agg (iZ (bF x))):=by
 refine bI Tryz.func75 Tryz.ntmps75 (by simp only[go_sem,iZ]) ?_
 unfold bQ iZ bF;refine aD ?_;exact aC
theorem Yt(x:aW):PC 95 [.agg (bQ x)] (.agg (iZ (bF x))):=by
 refine bI Tryz.func95 Tryz.ntmps95 (by simp only[go_sem,iZ]) ?_
 unfold bQ iZ bF;refine aD ?_;exact aC
def AA(l:List Bool):Nat:=(l.filter id).length
theorem Yu(l:List Bool):AA l<=l.length:=KB _ _
theorem bf4{l:List Bool}{k:Nat}(h:k<l.length):AA (l.take (k+1))=AA (l.take k)+(if l.getD k false=true then 1 else 0):=by
 rw[A8 false h];unfold AA;rw[KC,bP];congr 1;cases l.getD k false<;>rfl
theorem bf5(j:Jr)(x:aW)(hj:jE j=0)(hl:j.b8.length<=100000)(hx:GQ x):PC 55 [.agg (eZ j),.agg (bQ x)] (bV (nU j x)):=by
 refine bI Tryz.func55 Tryz.ntmps55 (.c _) ?_;have c1:=L4 x;have c2:=Iz (bF x) (by have:=hx.bF.bS;omega) (by have:=hx.bF.seen;omega) (fun y hy=>by have:=(hx.bF.one y hy).1;omega)
 have c3:=Ap (bF x) hx.bF;have c4:=Ao j hl;rw[if_pos hj]at c4;obtain⟨-,-,-,f1,f2,-⟩:=uP hj;have hN:jN j=j.first+j.b8.length:=if_pos hj
 have jS:vL x=AA x.seen:=rfl;have VB:tU x=if x.closed=true then AA x.seen+1 else AA x.seen:=rfl
 have tV:=hx.records;have cD0:x.seen.length<=100000:=hx.bF.seen;obtain⟨M,hM⟩:∃M,nU j x=M:=⟨_,rfl⟩;rw[hM];unfold nU at hM;rw[hN,jS,VB]at hM;have h3:=Je (a:=bF x);generalize qF (bF x)=ae at*;generalize rM (bF x)=cy at*;obtain⟨⟨cb,cn,ct,cp,cw⟩,ce⟩:=cy;clear hN jS VB hx;obtain⟨n,p,s,h,e,r,cl⟩:=x;obtain⟨js,jc,jh,jt,jf,jz⟩:=j;unfold eZ bQ mI iZ bF at*;simp only[]at*;generalize hNN:jf+(jz.length:Int)=N at*
 by_cases g1:ae=0
 case neg=>
  rw[if_neg g1]at hM;subst hM;have h3:=h3 g1;subst h3;clear c3 c4;refine aG ?_;exact aC
 rw[if_pos g1]at hM;subst g1;clear h3;have sZ:=IP e;have vM:=gI r;have w0:IntKind.i64.wrap (jf-1)=jf-1:=IntWalk.i64_in _ (by omega)
 refine aG ?_;refine zS e.length 100 [(0,some (.cells 30 6 [[zV js,zV jc,zV jh,zV jt,zV jf,.snap (aA bD jz)]] true false)),(1,some (.cells 64 7 [[zV n,zV p,zV s,.snap (aA dF h),.snap (aA eJ e),.snap (aA bD r),bV cl]] true false))] (fun k=> [(20,true,zV k),(19,true,zV e.length),(18,true,.snap (aA eJ e)),(5,true,zV (AA (e.take k))),(3,true,.ptr 1 0 0),(2,true,.ptr 0 0 0)]) aT (fun k m hk hm=> ?_) (fun m hm=> ?_)
 ·have fD:(aA eJ e)[k]? =some [bV (e.getD k false)]:=sZ k hk
  have hs:=bf4 hk;have hle:=Yu (e.take k);have Jh:(e.take k).length<=100000:=by rw[cU];omega
  generalize e.getD k false=b at*;clear sZ vM c1 c2 c3 c4 hM;cases b with
  |true=>
   rw[if_pos rfl]at hs;generalize AA (e.take k)=q at*;generalize AA (e.take (k+1))=q' at*;subst hs;refine aG ?_;exact⟨m+20,by omega,aT⟩
  |false=>
   rw[if_neg (by decide),zN]at hs
   generalize AA (e.take k)=q at*;generalize AA (e.take (k+1))=q' at*;subst hs;refine aG ?_;exact⟨m+20,by omega,aT⟩
 rw[lI];have hle:=Yu e;generalize AA e=q at*;clear sZ;by_cases g2:q=0
 ·rw[if_pos g2]at hM
  subst hM;have ER:(q:Int)=0:=by omega
  clear g2 vM c1 c2 c3 c4;refine aG ?_;exact aC
 rw[if_neg g2]at hM;have ER:¬(q:Int)=0:=by omega
 cases cl with
 |false=>
  rw[if_neg (by simp),if_neg (by decide:¬(false=true))]at hM
  clear c1 c2 c3;refine aG ?_;refine fK (α:=Int) r.length (fun k last=> [(48,true,zV k),(47,true,zV r.length),(46,true,.snap (aA bD r)),(10,true,zV last),(5,true,zV q),(3,true,.ptr 1 0 0),(2,true,.ptr 0 0 0)]) (fun _ _=> [(0,some (.cells 30 6 [[zV js,zV jc,zV jh,zV jt,zV jf,.snap (aA bD jz)]] true false)),(1,some (.cells 64 7 [[zV n,zV p,zV s,.snap (aA dF h),.snap (aA eJ e),.snap (aA bD r),bV false]] true false))]) (fun k m last=>1<=m/\oY last N (r.drop k)=oY (jf-1) N r) ⟨m+200,jf-1,⟨by omega,rfl⟩,aT⟩ (fun k m' last hk hR=> ?_) (fun m' last hR=> ?_)
  ·obtain⟨sU,hR⟩:=hR
   have fD:=vM k hk;rw[uL 0 hk,ES]at hR;have hF:oY (jf-1) N r=false->M=false:=fun h=>by rw[if_neg (by rw[h];decide)]at hM;exact hM.symm
   generalize r.getD k 0=v at*;clear vM hM;by_cases g5:v<=last
   ·rw[if_pos (.inl g5)]at hR
    obtain rfl:=hF hR.symm;clear hR hF;refine aG ?_;exact aC
   ·by_cases g6:N<=v
    ·rw[if_pos (.inr g6)]at hR
     obtain rfl:=hF hR.symm;clear hR hF;refine aG ?_;exact aC
    ·rw[if_neg (by omega)]at hR
     have qZ:=bB.mk hR;clear hR hF;refine aG ?_;exact⟨m'+60,v,⟨by omega,qZ.out⟩,aT⟩
  ·obtain⟨sU,hR⟩:=hR
   rw[BB]at hR;have pY:oY (jf-1) N r=true:=by rw[<-hR];rfl
   rw[if_pos pY]at hM;clear hR pY vM c4;by_cases g5:r.length=q
   ·have hd:decide (r.length=q)=true:=by simp[g5]
    rw[hd]at hM;subst hM;have DD:((r.length:Int)==(q:Int))=true:=by simpa using(by omega:(r.length:Int)=(q:Int))
    clear g5 hd;refine aG ?_;exact aC
   ·have hd:decide (r.length=q)=false:=by simp[g5]
    rw[hd]at hM;subst hM;have DD:((r.length:Int)==(q:Int))=false:=beq_eq_false_iff_ne.2 (by omega)
    clear g5 hd;refine aG ?_;exact aC
 |true=>
  rw[if_pos rfl]at hM;by_cases g3:ce=0
  ·subst g3
   rw[if_neg (by simp)]at hM
   obtain⟨nd,nR⟩:∃nd,nd=q+1:=⟨_,rfl⟩;have bf6:(nd:Int)=(q:Int)+1:=by omega
   rw[<-nR]at hM;clear nR;clear c2;refine aG ?_;refine fK (α:=Int) r.length (fun k last=> [(48,true,zV k),(47,true,zV r.length),(46,true,.snap (aA bD r)),(10,true,zV last),(5,true,zV nd),(3,true,.ptr 1 0 0),(2,true,.ptr 0 0 0)]) (fun _ _=> [(0,some (.cells 30 6 [[zV js,zV jc,zV jh,zV jt,zV jf,.snap (aA bD jz)]] true false)),(1,some (.cells 64 7 [[zV n,zV p,zV s,.snap (aA dF h),.snap (aA eJ e),.snap (aA bD r),bV true]] true false))]) (fun k m last=>1<=m/\oY last N (r.drop k)=oY (jf-1) N r) ⟨m+200,jf-1,⟨by omega,rfl⟩,aT⟩ (fun k m' last hk hR=> ?_) (fun m' last hR=> ?_)
   ·obtain⟨sU,hR⟩:=hR
    have fD:=vM k hk;rw[uL 0 hk,ES]at hR;have hF:oY (jf-1) N r=false->M=false:=fun h=>by rw[if_neg (by rw[h];decide)]at hM;exact hM.symm
    generalize r.getD k 0=v at*;clear vM hM;by_cases g5:v<=last
    ·rw[if_pos (.inl g5)]at hR
     obtain rfl:=hF hR.symm;clear hR hF;refine aG ?_;exact aC
    ·by_cases g6:N<=v
     ·rw[if_pos (.inr g6)]at hR
      obtain rfl:=hF hR.symm;clear hR hF;refine aG ?_;exact aC
     ·rw[if_neg (by omega)]at hR
      have qZ:=bB.mk hR;clear hR hF;refine aG ?_;exact⟨m'+60,v,⟨by omega,qZ.out⟩,aT⟩
   ·obtain⟨sU,hR⟩:=hR
    rw[BB]at hR;have pY:oY (jf-1) N r=true:=by rw[<-hR];rfl
    rw[if_pos pY]at hM;clear hR pY vM c4 bf6;by_cases g5:r.length=nd
    ·have hd:decide (r.length=nd)=true:=by simp[g5]
     rw[hd]at hM;subst hM;have DD:((r.length:Int)==(nd:Int))=true:=by simpa using(by omega:(r.length:Int)=(nd:Int))
     clear g5 hd;refine aG ?_;exact aC
    ·have hd:decide (r.length=nd)=false:=by simp[g5]
     rw[hd]at hM;subst hM;have DD:((r.length:Int)==(nd:Int))=false:=beq_eq_false_iff_ne.2 (by omega)
     clear g5 hd;refine aG ?_;exact aC
  ·rw[if_pos ⟨rfl,g3⟩]at hM
   subst hM;clear c2 c4 vM;refine aG ?_;exact aC
end Go.Proofs.YtioafciifiggaaaGreatDoor
