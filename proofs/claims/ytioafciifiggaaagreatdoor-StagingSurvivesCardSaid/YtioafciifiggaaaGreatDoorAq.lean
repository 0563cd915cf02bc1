/- Staging. No condition. -/
import Derived.Test.YtioafciifiggaaaGreatDoorL0
import Derived.Test.YtioafciifiggaaaGreatDoorAp
set_option linter.all false
namespace Go.Proofs.YtioafciifiggaaaGreatDoor
open Go.Proofs Go.AL
set_option maxRecDepth 100000
set_option maxHeartbeats 1000000
attribute [local irreducible] cH AW b9 dR eH hold
attribute [local irreducible] jI
def BS(own:List Int):List (Value×AV):=own.map fun n=>(.int .i64 n,bV true)
theorem As(own:List Int):xO (.int .i64) (BS own)=true:=by
 unfold xO BS;rw[gK];intro p hp;obtain⟨n,_,rfl⟩:=kV.1 hp;rfl
theorem Ji:∀{own:List Int} {n:Int},n∈own->rI (.int .i64 n) (BS own)=some (bV true)
 |m::own,n,h=>by
  simp only[BS,gJ,rI];by_cases he:m=n
  ·subst he
   rw[if_pos (by simp[qW])]
  ·rw[if_neg (by simp[qW,he])]
   rcases cG.1 h with h|h
   ·exact absurd h.symm he
   ·exact Ji h
theorem Yv{own:List Int}{n:Int}(h:n∉own):∀p∈BS own,qW p.1 (.int .i64 n)=false:=fun p hp=>by
 obtain⟨m,hm,rfl⟩:=kV.1 hp;have:m≠n:=fun e=>h (e▸hm)
 simp[qW,this]
theorem Yw{own:List Int}{n:Int}(h:n∉own):rI (.int .i64 n) (BS own)=none:=Jj (Yv h)
theorem Yx{own:List Int}{n:Int}(h:n∉own):tR (.int .i64 n) (bV true) (BS own)=BS (own++[n]):=by
 rw[Jk (Yv h)];simp[BS]
def Au(l:List aW):Nat->Option Int
 |0=>none
 |k+1=>some (l.getD k aY).number
theorem Yy{j:Jr}{x:aW}(h:nU j x=true):oY (j.first-1) (jN j) x.records=true:=by
 unfold nU at h;split at h
 ·split at h
  ·exact absurd h (by decide)
  ·split at h
   ·exact absurd h (by decide)
   ·split at h
    ·rename_i g;exact g
    ·exact absurd h (by decide)
 ·exact absurd h (by decide)
theorem Yz{r:List Int}(h:r.Nodup){q:Nat}(hq:q<r.length):r.getD q 0∉r.take q:=fun hm=>by
 obtain⟨i,hi,he⟩:=wA.1 hm;rw[cU]at hi;rw[Tl]at he;have h1:r.getD q 0=r[q]:=by simp[hq]
 rw[h1]at he;exact TK.1 h i q (by omega) hq (by omega) he
theorem PA(s:cX)(hs:rA s):PC 21 [.agg (dG s)] (zV (mK s)):=by
 refine bI Tryz.func21 Tryz.ntmps21 (.c _) ?_;have c1:=be9 s.j hs.b8;obtain⟨M,hM⟩:∃M,mK s=M:=⟨_,rfl⟩;rw[hM];unfold mK at hM;obtain⟨j,l⟩:=s;have hl:=hs.aR;have gG:=hs.one;have tA:=hs.b8;simp only[]at*;have VC:eZ j=[zV j.start,zV j.count,zV j.head,zV j.tail,zV j.first,.snap (aA bD j.b8)]:=rfl
 rw[VC]at c1;unfold dG;simp only[];by_cases g1:jE j=0
 case neg=>
  rw[if_neg g1]at hM;subst hM;clear gG VC;generalize jE j=e at*;refine aG ?_;exact aC
 rw[if_pos g1]at hM;rw[g1]at c1;by_cases g2:1024<l.length
 ·rw[if_pos g2]at hM
  subst hM;have ER:(1024:Int)<l.length:=by omega
  clear gG VC g1;refine aG ?_;exact aC
 rw[if_neg g2]at hM;have ER:¬(1024:Int)<l.length:=by omega
 have hg:=BR l;have mM:∀k,k<l.length->PC 55 [.agg (eZ j),.agg (bQ (l.getD k aY))] (bV (nU j (l.getD k aY))):=fun k hk=>bf5 j _ g1 tA (gG _ (cQ aY hk))
 rw[VC]at mM;clear g2 g1 VC hs;refine aG ?_;refine fK (α:=List Int) l.length (fun k own=> [(23,true,zV k),(22,true,zV l.length),(21,true,.snap (aA bQ l)),(4,true,.omap 1),(1,true,.ptr 0 0 0)]) (fun k own=> [(0,some (.cells 33 7 [[zV j.start,zV j.count,zV j.head,zV j.tail,zV j.first,.snap (aA bD j.b8),.snap (aA bQ l)]] true false)),(1,some (.map (BS own)))]) (fun k m own=>2<=m/\uQ j (Au l k) own (l.drop k)=uQ j none [] l) ⟨100,[],⟨by omega,rfl⟩,aT⟩ (fun k m own hk hR=> ?_) (fun m own hR=> ?_)
 ·obtain⟨hm,hR⟩:=hR
  rw[uL aY hk,Aq]at hR;have hF:uQ j none [] l=false->M=3:=fun h=>by rw[if_neg (by rw[h];decide)]at hM;exact hM.symm
  have fD:=hg k hk;have ck:=mM k hk;have iR:=(gG _ (cQ aY hk)).records;have tV:= @Yy j (l.getD k aY);have pM:Au l (k+1)=some (l.getD k aY).number:=rfl;rw[iK]at ck fD;by_cases g3:nU j (l.getD k aY)=true
  case neg=>
   rw[if_neg g3]at hR;obtain rfl:=hF hR.symm;have xW:nU j (l.getD k aY)=false:=by simpa using g3
   rw[xW]at ck;clear hR hF hM hg mM gG tV iR pM;generalize l.getD k aY=x at*;refine aD ?_;exact aC
  rw[if_pos g3]at hR;have nR:=Yq _ _ _ (tV g3);rw[g3]at ck;clear tV hM mM gG g3;cases k with
  |zero=>
   have ID:Au l 0=none:=rfl;rw[ID]at hR;rw[if_neg (by simp)]at hR
   clear ID;clear hg;have pM:=bB.mk pM;generalize l.getD 0 aY=x at*;obtain⟨xn,xp,xs,xh,xe,r,xc⟩:=x;simp only[]at*;have vM:=gI r;have hF:=bB.mk hF;have hR:=bB.mk hR;have nR:=bB.mk nR;refine aD ?_;refine fK (α:=Unit) r.length (fun q _=> [(52,true,zV q),(51,true,zV r.length),(50,true,.snap (aA bD r)),(23,true,zV 0),(22,true,zV l.length),(21,true,.snap (aA bQ l)),(4,true,.omap 1),(1,true,.ptr 0 0 0)]) (fun q _=> [(0,some (.cells 33 7 [[zV j.start,zV j.count,zV j.head,zV j.tail,zV j.first,.snap (aA bD j.b8),.snap (aA bQ l)]] true false)),(1,some (.map (BS (own++r.take q))))]) (fun q m' _=>2<=m'/\∀i,i<q->r.getD i 0∉own) ⟨m+200,(),⟨by omega,fun i hi=>absurd hi (by omega)⟩,aT⟩ (fun q m' _ hq cP=> ?_) (fun m' _ cP=> ?_)
   ·obtain⟨sU,cP⟩:=cP
    have VA:=vM q hq;have iI:=A8 0 hq;rw[iI,<-fF];clear iI vM fD ck;obtain⟨v,hv⟩:∃v,r.getD q 0=v:=⟨_,rfl⟩;rw[hv]at VA⊢;by_cases g5:v∈own
    ·have hR:=hR.out
     rw[if_pos (vX.2 ⟨v,by rw[<-hv];exact cQ 0 hq,by simpa using g5⟩)]at hR
     obtain rfl:=hF.out hR.symm;have kN:=Ji (own:=own++r.take q) (wB _ g5);have h3:=As (own++r.take q);unfold xO tS at h3;have qA:(IntKind.i64==IntKind.i64)=true:=rfl;clear hR hF cP pM nR g5 hv;refine aD ?_;exact aC
    ·have L5:v∉own++r.take q:=fun h=>by
      rcases lS.1 h with h|h
      ·exact g5 h
      ·rw[<-hv]at h
       exact Yz nR.out hq h
     have h1:=Yw L5;have h2:=Yx L5;have h3:=As (own++r.take q);unfold xO tS at h3;have qA:(IntKind.i64==IntKind.i64)=true:=rfl
     have qZ:bB (∀i,i<q+1->r.getD i 0∉own):=⟨fun i hi=>by
      rcases oA i q with h4|h4
      ·exact cP i h4
      ·rw[show i=q by omega,hv];exact g5⟩
     clear L5 g5 cP hv;generalize own++r.take q=O at*;refine aD ?_;exact⟨m'+20,(),⟨by omega,qZ.out⟩,aT⟩
   ·obtain⟨sU,cP⟩:=cP
    rw[lI];have hR:=hR.out
    rw[if_neg (fun h=>by
     obtain⟨v,h1,h2⟩:=vX.1 h;obtain⟨i,h3,rfl⟩:=wA.1 h1
     exact cP i h3 (by simpa[h3]using h2))]at hR
    have hR:=bB.mk hR;clear vM cP nR hF;refine aD ?_;exact⟨m'+20,own++r,⟨by omega,by rw[pM.out];exact hR.out⟩,aT⟩
  |succ p0=>
   have Jl:=hg p0 (by omega)
   rw[iK]at Jl;have w1:IntKind.i64.wrap ((p0:Int)+1-1)=p0:=by rw[IntWalk.i64_in _ (by omega)];omega
   have w2:(0:Int)<(p0:Int)+1:=by omega
   have w3:IntKind.i64.wrap (((p0+1:Nat):Int)-1)=p0:=by rw[IntWalk.i64_in _ (by omega)];omega
   have w4:(0:Int)<((p0+1:Nat):Int):=by omega
   have w5:p0<l.length:=by omega
   have VD:Au l (p0+1)=some (l.getD p0 aY).number:=rfl;rw[VD]at hR;generalize l.getD p0 aY=y at*;by_cases g4:(l.getD (p0+1) aY).number<=y.number
   ·rw[if_pos (by simpa using g4)]at hR
    obtain rfl:=hF hR.symm;clear hR hF hg iR pM VD nR;generalize l.getD (p0+1) aY=x at*;refine aD ?_;exact aC
   rw[if_neg (by simpa using g4)]at hR
   clear VD;clear hg;have pM:=bB.mk pM;generalize l.getD (p0+1) aY=x at*;obtain⟨xn,xp,xs,xh,xe,r,xc⟩:=x;simp only[]at*;have vM:=gI r;have hF:=bB.mk hF;have hR:=bB.mk hR;have nR:=bB.mk nR;refine aD ?_;refine fK (α:=Unit) r.length (fun q _=> [(52,true,zV q),(51,true,zV r.length),(50,true,.snap (aA bD r)),(23,true,zV (p0+1)),(22,true,zV l.length),(21,true,.snap (aA bQ l)),(4,true,.omap 1),(1,true,.ptr 0 0 0)]) (fun q _=> [(0,some (.cells 33 7 [[zV j.start,zV j.count,zV j.head,zV j.tail,zV j.first,.snap (aA bD j.b8),.snap (aA bQ l)]] true false)),(1,some (.map (BS (own++r.take q))))]) (fun q m' _=>2<=m'/\∀i,i<q->r.getD i 0∉own) ⟨m+200,(),⟨by omega,fun i hi=>absurd hi (by omega)⟩,aT⟩ (fun q m' _ hq cP=> ?_) (fun m' _ cP=> ?_)
   ·obtain⟨sU,cP⟩:=cP
    have VA:=vM q hq;have iI:=A8 0 hq;rw[iI,<-fF];clear iI vM fD ck;obtain⟨v,hv⟩:∃v,r.getD q 0=v:=⟨_,rfl⟩;rw[hv]at VA⊢;by_cases g5:v∈own
    ·have hR:=hR.out
     rw[if_pos (vX.2 ⟨v,by rw[<-hv];exact cQ 0 hq,by simpa using g5⟩)]at hR
     obtain rfl:=hF.out hR.symm;have kN:=Ji (own:=own++r.take q) (wB _ g5);have h3:=As (own++r.take q);unfold xO tS at h3;have qA:(IntKind.i64==IntKind.i64)=true:=rfl;clear hR hF cP pM nR g5 hv;refine aD ?_;exact aC
    ·have L5:v∉own++r.take q:=fun h=>by
      rcases lS.1 h with h|h
      ·exact g5 h
      ·rw[<-hv]at h
       exact Yz nR.out hq h
     have h1:=Yw L5;have h2:=Yx L5;have h3:=As (own++r.take q);unfold xO tS at h3;have qA:(IntKind.i64==IntKind.i64)=true:=rfl
     have qZ:bB (∀i,i<q+1->r.getD i 0∉own):=⟨fun i hi=>by
      rcases oA i q with h4|h4
      ·exact cP i h4
      ·rw[show i=q by omega,hv];exact g5⟩
     clear L5 g5 cP hv;generalize own++r.take q=O at*;refine aD ?_;exact⟨m'+20,(),⟨by omega,qZ.out⟩,aT⟩
   ·obtain⟨sU,cP⟩:=cP
    rw[lI];have hR:=hR.out
    rw[if_neg (fun h=>by
     obtain⟨v,h1,h2⟩:=vX.1 h;obtain⟨i,h3,rfl⟩:=wA.1 h1
     exact cP i h3 (by simpa[h3]using h2))]at hR
    have hR:=bB.mk hR;clear vM cP nR hF;refine aD ?_;exact⟨m'+20,own++r,⟨by omega,by rw[pM.out];exact hR.out⟩,aT⟩
 ·obtain⟨hm,hR⟩:=hR
  rw[BB]at hR;have pY:uQ j none [] l=true:=by rw[<-hR];rfl
  rw[if_pos pY]at hM;subst hM;clear hR pY gG mM hg;refine aG ?_;exact aC
set_option maxHeartbeats 4000000
theorem Jm{e:List Bool}(h:∀i,i<e.length->e.getD i false=true):e.all id=true:=by
 rw[gK];intro b hb;obtain⟨i,hi,rfl⟩:=wA.1 hb;have:=h i hi;simpa[hi]using this
theorem Jn{j:Jr}{p:Option Int}{own:List Int}{x:aW}{l:List aW}(h:uQ j p own (x::l)=true):nU j x=true/\(∀n,p=some n->n<x.number)/\uQ j (some x.number) (own++x.records) l=true:=by
 rw[Aq]at h;by_cases g1:nU j x=true
 ·rw[if_pos g1]at h
  by_cases g3:x.records.any (fun n=>own.contains n)=true
  ·exfalso
   rw[if_pos g3]at h;split at h<;>exact absurd h (by simp)
  ·rw[if_neg g3]at h
   cases p with
   |none=>exact⟨g1,fun n hn=>by simp at hn,by simpa using h⟩
   |some n=>
    by_cases g2:x.number<=n
    ·rw[if_pos (by simpa using g2)]at h
     exact absurd h (by decide)
    ·rw[if_neg (by simpa using g2)]at h
     exact⟨g1,fun n' hn=>by injection hn with hn;omega,h⟩
 ·rw[if_neg g1]at h
  exact absurd h (by decide)
theorem VE(j:Jr):∀(l:List aW) (p:Option Int) (own:List Int),uQ j p own l=true->l.Pairwise (fun a b=>a.number<b.number)/\∀n,p=some n->∀x∈l,n<x.number
 |[],_,_,_=>⟨List.Pairwise.nil,fun _ _ x hx=>absurd hx (by simp)⟩
 |x::l,p,own,h=>by
  obtain⟨-,h0,h⟩:=Jn h;obtain⟨h1,h2⟩:=VE j l _ _ h;have h3:=h2 _ rfl;refine⟨List.Pairwise.cons h3 h1,fun n hp y hy=> ?_⟩
  have h4:=h0 n hp;rcases cG.1 hy with rfl|hy
  ·exact h4
  ·have:=h3 y hy
   omega
theorem Jo{j:Jr}{l:List aW}(h:uQ j none [] l=true):L3 l:=fun i k iH hk=>by
 have h1:=TK.1 (VE j l none [] h).1 i k (by omega) hk iH
 have h2:l.getD i aY=l[i]:=by simp[show i<l.length by omega]
 have h3:l.getD k aY=l[k]:=by simp[hk]
 rw[h2,h3];exact h1
theorem ET(j:Jr):∀(l:List aW) (p:Option Int) (own:List Int),uQ j p own l=true->∀x∈l,nU j x=true
 |[],_,_,_=>fun x hx=>absurd hx (by simp)
 |x::l,p,own,h=>by
  obtain⟨g1,-,h⟩:=Jn h;intro y hy;rcases cG.1 hy with rfl|hy
  ·exact g1
  ·exact ET j l _ _ h y hy
def L6(s:cX)(n:Int):jJ×Int:=
 if mK s=0 then
  if nW s.aR n=true then
   if(s.aR.getD (bT s.aR n) aY).closed=true then rM (bF (s.aR.getD (bT s.aR n) aY))else(sX,12)
  else(sX,7)
 else(sX,mK s)
def BU(s:cX):List Int:=if mK s=0 then(s.aR.filter aW.closed).map aW.number else []
theorem BV{s:cX}(h:mK s=0):jE s.j=0/\s.aR.length<=1024/\uQ s.j none [] s.aR=true:=by
 unfold mK at h;by_cases g1:jE s.j=0
 ·rw[if_pos g1]at h
  by_cases g2:1024<s.aR.length
  ·rw[if_pos g2]at h;exact absurd h (by decide)
  ·rw[if_neg g2]at h
   by_cases g3:uQ s.j none [] s.aR=true
   ·exact⟨g1,by omega,g3⟩
   ·rw[if_neg g3]at h;exact absurd h (by decide)
 ·rw[if_neg g1]at h;exact absurd h g1
theorem yR{l:List aW}{n:Int}(h:nW l n=true):bT l n<l.length/\(l.getD (bT l n) aY).number=n:=by
 unfold nW at h;rw[k6,decide_eq_true_eq,decide_eq_true_eq]at h;exact h
theorem Za(s:cX)(n:Int)(hs:rA s):PC 31 [.agg (dG s),zV n] (.aU [.agg (mI (L6 s n).1),zV (L6 s n).2]):=by
 refine bI Tryz.func31 Tryz.ntmps31 (by simp only[go_sem,mI]) ?_
 have c1:=PA s hs;have Yj:mI sX=[zV 0,zV 0,zV 0,.snap (aA bD []),.snap (aA bJ [])]:=rfl;obtain⟨M,hM⟩:∃M,L6 s n=M:=⟨_,rfl⟩;rw[hM];unfold L6 at hM;have hG:= @BV s;have gG:=hs.one;have hl:=hs.aR;clear hs;obtain⟨j,l⟩:=s;unfold dG at*;simp only[]at*;generalize mK ⟨j,l⟩=e at*;by_cases g1:e=0
 case neg=>
  rw[if_neg g1]at hM;subst hM;clear hG gG;refine aG ?_;exact aC
 rw[if_pos g1]at hM;obtain⟨-,-,h3⟩:=hG g1;have hs:=Jo h3;subst g1;have c2:=P9 l n hs hl;clear hG h3 hs;have hg:=BR l;by_cases g2:nW l n=true
 case neg=>
  rw[if_neg g2]at hM;subst hM;have ER:nW l n=false:=by simpa using g2
  rw[ER]at c2;clear gG hg g2 ER;generalize bT l n=i at*;refine aG ?_;exact aC
 rw[if_pos g2]at hM;obtain⟨hi,-⟩:=yR g2;rw[g2]at c2;clear g2;generalize bT l n=i at*;have k8:=hg i hi;have hx:=gG _ (cQ aY hi);generalize l.getD i aY=x at*;have c3:=L4 x;have c4:=Ap (bF x) hx.bF;generalize rM (bF x)=cy at*;obtain⟨⟨cb,cn,ct,cp,cw⟩,ce⟩:=cy;clear gG hg hx;obtain⟨xn,xp,xs,xh,xe,xr,xc⟩:=x;rw[iK]at k8 c3;unfold iZ bF mI at*;simp only[]at*;cases xc with
 |false=>
  rw[if_neg (by decide)]at hM
  subst hM;clear c3 c4;refine aG ?_;exact aC
 |true=>
  rw[if_pos rfl]at hM;subst hM;refine aG ?_;exact aC
theorem Zb(s:cX)(hs:rA s):PC 23 [.agg (dG s)] (.snap (aA bD (BU s))):=by
 refine bI Tryz.func23 Tryz.ntmps23 (by simp only[go_sem]) ?_
 have c1:=PA s hs;obtain⟨M,hM⟩:∃M,BU s=M:=⟨_,rfl⟩;rw[hM];unfold BU at hM;have hl:=hs.aR;clear hs;obtain⟨j,l⟩:=s;unfold dG at*;simp only[]at*;generalize mK ⟨j,l⟩=e at*;by_cases g1:e=0
 case neg=>
  rw[if_neg g1]at hM;subst hM;refine aG ?_;exact aC
 rw[if_pos g1]at hM;subst g1;have hg:=BR l;refine aG ?_;refine fK (α:=Nat) l.length (fun k id=> [(12,true,zV k),(11,true,zV l.length),(10,true,.snap (aA bQ l)),(3,true,uO (((l.take k).filter aW.closed).map aW.number).length id),(1,true,.ptr 0 0 0)]) (fun k id=>(0,some (.cells 33 7 [[zV j.start,zV j.count,zV j.head,zV j.tail,zV j.first,.snap (aA bD j.b8),.snap (aA bQ l)]] true false))::wM 3 1 (aA bD (((l.take k).filter aW.closed).map aW.number)) (((l.take k).filter aW.closed).map aW.number).length id) (fun k m id=>(1<=m/\(((l.take k).filter aW.closed).map aW.number).length<=k)/\(0<(((l.take k).filter aW.closed).map aW.number).length->1<=id/\id<m)) ⟨100,0,⟨⟨by omega,by simp⟩,fun h=>absurd h (by simp)⟩,aT⟩ (fun k m id hk hR=> ?_) (fun m id hR=> ?_)
 ·obtain⟨⟨hm,yQ⟩,hR⟩:=hR
  have fD:=hg k hk;rw[iK]at fD;have iI:=A8 aY hk;rw[iI,KC,vY];clear iI hg hM;generalize l.getD k aY=x at*;generalize ((l.take k).filter aW.closed).map aW.number=F at*;obtain⟨xn,xp,xs,xh,xe,xr,xc⟩:=x;simp only[]at*;cases xc with
  |false=>
   rw[show List.map aW.number (List.filter aW.closed [⟨xn,xp,xs,xh,xe,xr,false⟩])=[]from rfl,mD]
   cases hF:F.length with
   |zero=>
    have m5:F=[]:=jQ hF;subst m5;clear hR hF;refine aG ?_;exact⟨m+20,0,⟨⟨by omega,by omega⟩,fun h=>absurd h (by simp)⟩,aT⟩
   |succ q=>
    obtain⟨i1,i2⟩:=hR (by omega)
    clear hR;refine aG ?_;exact⟨m+20,id,⟨⟨by omega,by omega⟩,fun _=>by omega⟩,aT⟩
  |true=>
   rw[show List.map aW.number (List.filter aW.closed [⟨xn,xp,xs,xh,xe,xr,true⟩])=[xn]from rfl]
   cases hF:F.length with
   |zero=>
    have m5:F=[]:=jQ hF;subst m5;clear hR hF;refine aG ?_;exact⟨m+20,m+1+1+1,⟨⟨by omega,by simp⟩,fun _=>by omega⟩,aT⟩
   |succ q=>
    obtain⟨i1,i2⟩:=hR (by omega)
    have pG:(F++[xn]).length=q+1+1:=by simp[hF]
    rw[pG];clear hR pG;refine aG ?_;exact⟨m+20,m+1+1+1,⟨⟨by omega,by omega⟩,fun _=>by omega⟩,aT⟩
 ·rw[lI]at hR⊢
  rw[hM]at hR⊢;obtain⟨⟨hm,yQ⟩,hR⟩:=hR;clear hg hM;cases hF:M.length with
  |zero=>
   have m5:M=[]:=jQ hF;subst m5;clear hR hF;refine aG ?_;exact aC
  |succ q=>
   obtain⟨i1,i2⟩:=hR (by omega)
   have iI:M.take (q+1)=M:=eD (by omega)
   refine aG ?_;exact aC
end Go.Proofs.YtioafciifiggaaaGreatDoor
