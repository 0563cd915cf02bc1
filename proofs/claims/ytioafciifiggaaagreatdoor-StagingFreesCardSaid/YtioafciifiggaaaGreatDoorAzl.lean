/- Staging. No condition. -/
import Derived.Test.YtioafciifiggaaaGreatDoorL0
import Derived.Test.YtioafciifiggaaaGreatDoorAzk
import Derived.Test.YtioafciifiggaaaGreatDoorLg
import Derived.Test.YtioafciifiggaaaGreatDoorAzi
import Derived.Test.YtioafciifiggaaaGreatDoorAx
import Derived.Test.YtioafciifiggaaaGreatDoorAw
import Derived.Test.YtioafciifiggaaaGreatDoorAu
import Derived.Test.YtioafciifiggaaaGreatDoorAv
import Derived.Test.YtioafciifiggaaaGreatDoorAzf
import Derived.Test.YtioafciifiggaaaGreatDoorAze
import Derived.Test.YtioafciifiggaaaGreatDoorAy
set_option linter.all false
namespace Go.Proofs.YtioafciifiggaaaGreatDoor
open Go.Proofs Go.AL
set_option maxRecDepth 100000
set_option maxHeartbeats 8000000
attribute [local irreducible] cH AW b9 dR eH hold
attribute [local irreducible] jI
theorem bD7(l:List aW)(m:Int)(r:Rec)(hb:∀x∈r.cT,aV x)(hl:r.cT.length<=4096)(ho:(bZ r.cT).2≠0)(id:Nat):
  l6 Tryz.prog 114 [.ptr id 0 0,.agg (kI r)] id (rW l m) (some (rW l m)) (zV 3) 300:=by
 refine DT Tryz.func114 Tryz.ntmps114 ?_;intro N G aB jL hG;have c2:=Iy r.cT hb (by omega)
 obtain⟨rk,rq,p⟩:=r;unfold kI rW at*;simp only[]at*;generalize bZ p=R at*;obtain⟨⟨n',pi,pp,ps,pl⟩,e⟩:=R;simp only[]at*;have gx:(e !=0)=true:=by simpa using ho
 clear ho hb;refine bW ?_;exact rT
theorem bD8(l:List aW)(m:Int)(r:Rec)(hb:∀x∈r.cT,aV x)(hl:r.cT.length<=4096)(ho:¬((aP r.cT).2.2=0/\(aP r.cT).2.1=[]))(id:Nat):
  l6 Tryz.prog 115 [.ptr id 0 0,.agg (kI r)] id (rW l m) (some (rW l m)) (zV 3) 300:=by
 refine DT Tryz.func115 Tryz.ntmps115 ?_;intro N G aB jL hG;have c2:=D1 r.cT hb (by omega)
 obtain⟨rk,rq,p⟩:=r;unfold kI rW at*;simp only[]at*;generalize aP p=R at*;obtain⟨v,rest,e⟩:=R;simp only[]at*;by_cases g1:e=0
 ·subst g1
  have g2:0<(rest.length:Int):=by
   have:rest≠[]:=fun h=>ho ⟨rfl,h⟩
   have:=O2.2 this;omega
  clear ho hb;refine bW ?_;exact rT
 ·have gx:(e !=0)=true:=by simpa using g1
  clear ho hb g1;refine bW ?_;exact rT
theorem bD9(l:List aW)(m:Int)(r:Rec)(n:Nat)(h:rU l n)(hn:n<=90000)(hb:∀x∈r.cT,aV x)(hl:r.cT.length<=4096)(hk:r.kind=2)(ho:(aP r.cT).2.2=0/\(aP r.cT).2.1=[])(id:Nat):
  l6 Tryz.prog 115 [.ptr id 0 0,.agg (kI r)] id (rW l m) (some (rW (k9 l r).1 m)) (zV 0) 300:=by
 refine DT Tryz.func115 Tryz.ntmps115 ?_;intro N G aB jL hG;have c2:=D1 r.cT hb (by omega)
 have zA:=h.len;have c4:=P9 l (aP r.cT).1 h.pw.sort (by omega)
 have JG:=fun x=>Kn l x h.pw.sort (by omega)
 obtain⟨M,hM⟩:∃M,(k9 l r).1=M:=⟨_,rfl⟩;rw[hM]
 have dO:oK r=true:=by
  unfold oK;rw[if_pos hk];exact decide_eq_true ho
 have J5:iD r=(aP r.cT).1:=by
  unfold iD;rw[if_pos hk]
 unfold k9 at hM;rw[if_pos dO,if_pos hk,J5]at hM;rw[ho.1,ho.2]at c2;clear dO J5 ho;obtain⟨rk,rq,p⟩:=r;unfold kI rW at*;simp only[]at*;generalize (aP p).1=q at*;by_cases g3:nW l q=true
 case neg=>
  have xW:nW l q=false:=by simpa using g3
  rw[xW]at c4;rw[if_neg (fun hh=>g3 hh.1)]at hM
  simp only[]at hM;subst hM;clear g3 xW JG hb h;generalize bT l q=i at*;refine bW ?_;exact rT
 obtain⟨hi,-⟩:=yR g3;rw[g3]at c4;have k8:=BR l (bT l q) hi;have hx:=(h.one _ (cQ aY hi)).Mx (by omega)
 have DO:=(h.one _ (cQ aY hi)).ne;have c9:=Ap (bF (l.getD (bT l q) aY)) hx.bF;have M7:=L4 (l.getD (bT l q) aY);have iR:=hx.records;have uU:=ZE (l.getD (bT l q) aY).records DO (by omega)
 have sL:=LD (bF (l.getD (bT l q) aY)) ((l.getD (bT l q) aY).records++[rq]) true hx.bF.bS hx.bF.seen (fun x hy=>(hx.bF.one x hy).1) (by rw[bP];simp only[dK,fJ];omega)
 have C5:=JG (iT (bF (l.getD (bT l q) aY)) ((l.getD (bT l q) aY).records++[rq]) true);clear JG hb h hx DO;generalize bT l q=i at*;generalize l.getD i aY=x at*;by_cases g4:x.closed=false
 case neg=>
  have g4x:x.closed=true:=by simpa using g4
  rw[if_neg (fun hh=>g4 hh.2.1)]at hM
  simp only[]at hM;subst hM;rw[iK]at k8;obtain⟨xn,xp,xs,xh,xe,xr,xc⟩:=x;simp only[]at*;subst g4x;clear g4 c9 uU sL C5 M7 iR g3;refine bW ?_;exact rT
 by_cases g5:(rM (bF x)).2=0
 case neg=>
  have gx:((rM (bF x)).2==0)=false:=by simpa using g5
  rw[if_neg (fun hh=>g5 hh.2.2)]at hM
  simp only[]at hM;subst hM;generalize rM (bF x)=Y at*;obtain⟨⟨y1,y2,y3⟩,ye⟩:=Y;rw[iK]at k8 M7;obtain⟨xn,xp,xs,xh,xe,xr,xc⟩:=x;unfold iZ bF mI at*;simp only[]at*;subst g4;clear g5 uU sL C5 iR g3;refine bW ?_;exact rT
 ·rw[if_pos ⟨g3,g4,g5⟩]at hM
  simp only[]at hM;rw[hM]at C5;rw[g5]at c9;generalize rM (bF x)=Y at*;obtain⟨⟨y1,y2,y3⟩,ye⟩:=Y;rw[iK]at k8 M7 sL C5;obtain⟨xn,xp,xs,xh,xe,xr,xc⟩:=x;unfold iT iZ bF mI at*;simp only[]at*;subst g4;have iI:(xr++[rq]).take (xr.length+1)=xr++[rq]:=eD (by simp)
  clear g5 g3 hM;refine bW ?_;refine J0 ?_;refine bW ?_;exact rT
theorem bE0(l:List aW)(m:Nat)(r:Rec)(n:Nat)(h:rU l n)(hn:n<=90000)(hb:∀x∈r.cT,aV x)(hl:r.cT.length<=4096)(ho:oK r=true)(id:Nat):
  l6 Tryz.prog 49 [.ptr id 0 0,.agg (kI r)] id (rW l m) (some (rW (k9 l r).1 (max m (k9 l r).1.length:Nat))) (zV 0) 600:=by
 refine DT Tryz.func49 Tryz.ntmps49 ?_;intro N G aB jL hG;have Dh:(if((k9 l r).1.length:Int)>(m:Int)then((k9 l r).1.length:Int)else(m:Int))=((max m (k9 l r).1.length:Nat):Int):=by split<;>omega
 have iH:(IntKind.i64==IntKind.i64)=true:=rfl;by_cases hk:r.kind=2
 ·have hq:(aP r.cT).2.2=0/\(aP r.cT).2.1=[]:=by
   unfold oK at ho;rw[if_pos hk]at ho;exact of_decide_eq_true ho
  have c1:=bD9 l m r n h hn hb hl hk hq id;generalize (k9 l r).1=M at*;obtain⟨rk,rq,p⟩:=r;unfold kI rW at*;simp only[]at*;subst hk;clear ho hq hb h;refine vQ ?_;refine DX ?_;refine tF ?_;refine gT ?_;refine vQ ?_;refine X0 _ ?_;refine tF ?_;refine bW ?_;exact rT
 ·have hq:r.kind=1/\(bZ r.cT).2=0:=by
   unfold oK at ho;rw[if_neg hk]at ho;exact of_decide_eq_true ho
  have c1:=bD6 l m r n h hn hb hl hq.1 hq.2 id;generalize (k9 l r).1=M at*;obtain⟨rk,rq,p⟩:=r;obtain⟨h1,h2⟩:=hq;unfold kI rW at*;simp only[]at*;subst h1;clear ho h2 hb h hk;refine vQ ?_;refine DX ?_;refine tF ?_;refine gT ?_;refine vQ ?_;refine X0 _ ?_;refine tF ?_;refine bW ?_;exact rT
theorem bE1(l:List aW)(m:Nat)(r:Rec)(hb:∀x∈r.cT,aV x)(hl:r.cT.length<=4096)(ho:oK r=false)(id:Nat):
  l6 Tryz.prog 49 [.ptr id 0 0,.agg (kI r)] id (rW l m) none (zV 3) 600:=by
 refine DT Tryz.func49 Tryz.ntmps49 ?_;intro N G aB jL hG;have iH:(IntKind.i64==IntKind.i64)=true:=rfl;by_cases hk:r.kind=2
 ·have hq:¬((aP r.cT).2.2=0/\(aP r.cT).2.1=[]):=by
   unfold oK at ho;rw[if_pos hk]at ho;exact of_decide_eq_false ho
  have c1:=bD8 l m r hb hl hq id;obtain⟨rk,rq,p⟩:=r;unfold kI rW at*;simp only[]at*;subst hk;clear ho hq hb;refine vQ ?_;refine DX ?_;refine tF ?_;refine gT ?_;refine vQ ?_;refine X0 _ ?_;refine tF ?_;refine bW ?_;exact rT
 ·have hq:¬(r.kind=1/\(bZ r.cT).2=0):=by
   unfold oK at ho;rw[if_neg hk]at ho;exact of_decide_eq_false ho
  by_cases h1:r.kind=1
  ·have c1:=bD7 l m r hb hl (fun h=>hq ⟨h1,h⟩) id
   obtain⟨rk,rq,p⟩:=r;unfold kI rW at*;simp only[]at*;subst h1;clear ho hq hb hk;refine vQ ?_;refine DX ?_;refine tF ?_;refine gT ?_;refine vQ ?_;refine X0 _ ?_;refine tF ?_;refine bW ?_;exact rT
  ·obtain⟨rk,rq,p⟩:=r
   unfold kI rW at*;simp only[]at*;have k1:((1:Int)==rk)=false:=by simp;omega
   have k2:((2:Int)==rk)=false:=by simp;omega
   clear ho hq hb hk h1;refine vQ ?_;refine DX ?_;refine tF ?_;refine gT ?_;refine vQ ?_;refine X0 _ ?_;refine tF ?_;refine bW ?_;exact rT
set_option maxHeartbeats 1000000
theorem eU.args{P:Program}{n:FuncId}{args an3:List AV}{Q:AV->Prop}(h:eU P n an3 Q)(hw:C9 args an3):eU P n args Q:=
 ⟨h.1,fun L W vs hL hr=>h.2 L W vs hL ⟨by rw[<-hw.1];exact hr.1,fun i y v h1 h2=>by
   have hi:i<args.length:=by
    have:=(dV.1 h1).1;have:=hw.1;omega
   exact(hr.2 i _ v (eQ hi) h2).wk (hw.2 i _ y (eQ hi) h1)⟩⟩
theorem an4{d:bL}{a c:Int}(hk:∀s∈fA d.st d.ca,dC s)(h:(mV d a c).2=0):∃n f,n<=4080/\JF (mV d a c).1.2.1 f n:=by
 unfold mV at h⊢;split at h
 ·rename_i g0
  rw[if_pos g0];split at h
  ·rename_i g1
   rw[if_pos g1];split at h
   ·rename_i g2
    rw[if_pos g2];obtain⟨h0,h1,f1,f2⟩:=am4 (a:=a) (c:=c) hk g2;have hv:=IS g1.1;obtain⟨n,hn⟩:∃n:Nat,c-16=n:=⟨(c-16).toNat,by omega⟩
    obtain⟨hC,DV,dS⟩:=am5 g1.1 g1.2 hk hn;have QC:=am3 (jV (tD d a c) (jO d a c).1.1.toNat) (jO d a c).1.2 (Mz DV _);rw[yW (by omega),hC]at QC
    exact⟨n,_,by omega,QC.take _⟩
   ·rename_i g2
    exact absurd h g2
  ·exact absurd h (by decide)
 ·rename_i g0
  exact absurd h g0
def JH(R:List Rec)(i:Nat):Nat:=i+((R.take i).map fun r=>r.cT.length).sum
theorem bE2{R:List Rec}{i:Nat}(h:i<R.length):JH R (i+1)=JH R i+1+(R.getD i iU).cT.length:=by
 unfold JH;rw[Gg,vY,TJ,eQ h,eP,eQ h];simp only[Option.toList_some,gJ,tK,qP,OD,vZ];omega
theorem bE3{R:List Rec}{i:Nat}(h:i<=R.length):JH R i<=R.length+(R.map fun r=>r.cT.length).sum:=by
 unfold JH;have:=My (R.map fun r=>r.cT.length) i
 rw[<-TH]at this;omega
theorem bE4{R:List Rec}{i:Nat}{l:List aW}{m:Nat}(h:i<R.length):rB (R.drop i) l m=if oK (R.getD i iU)=true then rB (R.drop (i+1)) (k9 l (R.getD i iU)).1 (max m (k9 l (R.getD i iU)).1.length)else(([],0),3):=by
 rw[uL iU h]
 show(if(k9 l (R.getD i iU)).2=0 then rB (R.drop (i+1)) (k9 l (R.getD i iU)).1 (max m (k9 l (R.getD i iU)).1.length)else(([],0),(k9 l (R.getD i iU)).2))=_
 rw[ag6];by_cases k:oK (R.getD i iU)=true
 ·rw[if_pos k,if_pos k,if_pos rfl]
 ·rw[if_neg k,if_neg k,if_neg (by decide)]
theorem bE5{R:List Rec}{l:List aW}{m:Nat}:rB (R.drop R.length) l m=((l,m),0):=by
 rw[BB];rfl
set_option maxHeartbeats 8000000
theorem Ng(d:bL)(a c:Int)(hs:d.st.length<=1000000)(h2:d.ca.length<=1000000)(hk:∀s∈fA d.st d.ca,dC s):PC 16 [.agg (bM d),.agg [zV a,zV c]] (.aU [.agg (dG (p5 d a c).1),.snap (aA bJ (p5 d a c).2.1),zV (p5 d a c).2.2]):=by
 refine BI Tryz.func16 Tryz.ntmps16 (by simp only[go_sem,dG]) ?_
 have c0:=bD4 d a c hs h2 hk;obtain⟨M,hM⟩:∃M,p5 d a c=M:=⟨_,rfl⟩;rw[hM];unfold p5 at hM;by_cases g0:(mV d a c).2=0
 case neg=>
  rw[if_neg g0]at hM;subst hM;generalize mV d a c=J at*;obtain⟨⟨j,R,O⟩,e⟩:=J;obtain⟨js,jc,jh,jt,jf,jz⟩:=j;simp only[]at*;have gx:(e !=0)=true:=by simpa using g0
  obtain⟨st,ca⟩:=d;unfold eZ bM dG lZ j9 at*;simp only[]at*;clear hk g0;refine aD ?_;exact oD
 rw[if_pos g0]at hM;obtain⟨n,f,hn,hR⟩:=an4 hk g0;rw[g0]at c0;generalize mV d a c=J at*;obtain⟨⟨j,R,O⟩,e⟩:=J;simp only[]at*;have GY:=hR.len;have WX:=hR.cT;have m6:bB (∀i,i<R.length->(R.getD i iU).cT.length<=4096/\∀x∈(R.getD i iU).cT,aV x):=⟨fun i hi=>(hR.one _ (cQ iU hi)).2⟩
 have FE:bB (∀k,k<R.length->(aA kI R)[k]? =some (kI (R.getD k iU))):=⟨fun k hk=>pD iU hk⟩
 obtain⟨js,jc,jh,jt,jf,jz⟩:=j;obtain⟨st,ca⟩:=d;unfold eZ bM dG at*;simp only[]at*;clear hk g0 hR
 replace hM:=bB.mk hM
 refine aD ?_;refine an2 (rws:=[[.c (.slice none 0 0),.c (.int .i64 0)]]) 5 [[.snap (aA bQ []),zV 0]] (yN (jH .nil (jH (.refl _) sD)) CY) ?_
 refine fK (α:=List aW×Nat) R.length (fun i _=> [(31,true,zV i),(30,true,zV R.length),(29,true,.snap (aA kI R)),(11,true,.ptr 5 0 0),(9,true,.snap (aA bJ O)),(7,true,.ptr 3 0 0),(6,true,.c (.int .i64 0)),(5,true,.c (.slice none 0 0)),(4,true,.ptr 2 0 0)])
  (fun i x=>(2,some (.cells 33 7 [[.c (.int .i64 0),.c (.int .i64 0),.c (.int .i64 0),.c (.int .i64 0),.c (.int .i64 0),.c (.slice none 0 0),.c (.slice none 0 0)]] true false))::(3,some (.cells 30 6 [[zV js,zV jc,zV jh,zV jt,zV jf,.snap (aA bD jz)]] true false))::(5,some (.cells 109 2 [[.snap (aA bQ x.1),zV x.2]] true false))::[])
  (fun i m2 x=>6<=m2/\rU x.1 (JH R i)/\rB (R.drop i) x.1 x.2=rB R [] 0) ⟨100,([],0),⟨by omega,rU.nil,rfl⟩,aT⟩ (fun i m2 x hi cP=> ?_) (fun m2 x cP=> ?_)
 ·obtain⟨l,m⟩:=x
  obtain⟨wI,hA,aO⟩:=cP;simp only[]at hA aO⊢;have GL:=bE3 (R:=R) (i:=i) (by omega)
  have hn9:JH R i<=90000:=by omega
  obtain⟨lQ,X1⟩:=m6.out i hi;have hg:=FE.out i hi;have eG:=bE4 (l:=l) (m:=m) hi;rw[aO]at eG;have pM:=bE2 hi;have l9:=hM.out;by_cases ho:oK (R.getD i iU)=true
  ·rw[if_pos ho]at eG
   have c1:=bE0 l m (R.getD i iU) (JH R i) hA hn9 X1 lQ ho 5;have hB:=al7 hA (r:=R.getD i iU) X1;rw[<-pM]at hB;generalize hX:(k9 l (R.getD i iU)).1=X at*
   replace eG:=bB.mk eG
   replace hB:=bB.mk hB
   generalize R.getD i iU=r at*;obtain⟨rk,rq,p⟩:=r;have PQ:kI ⟨rk,rq,p⟩=[zV rk,zV rq,.snap (aA aN p)]:=rfl;rw[PQ]at hg c1;clear PQ;unfold rW at c1;clear m6 FE lQ X1 hA aO l9 hX ho c0;refine bW ?_;refine⟨m2+700,(X,max m X.length),⟨by omega,hB.out,eG.out.symm⟩,?_⟩
   simp only[];exact aT
  ·rw[if_neg ho]at eG
   have c1:=bE1 l m (R.getD i iU) X1 lQ (by simpa using ho) 5
   rw[eG,if_neg (by decide)]at l9
   simp only[]at l9;subst l9;generalize R.getD i iU=r at*;obtain⟨rk,rq,p⟩:=r;have PQ:kI ⟨rk,rq,p⟩=[zV rk,zV rq,.snap (aA aN p)]:=rfl;rw[PQ]at hg c1;clear PQ;unfold rW at c1;unfold lZ j9;simp only[];clear m6 FE lQ X1 hA aO ho c0 hM eG;refine bW ?_;exact oD
 ·obtain⟨l,m⟩:=x
  obtain⟨wI,hA,aO⟩:=cP;simp only[]at hA aO⊢;have l9:=hM.out;rw[<-aO,bE5,if_pos rfl]at l9;simp only[]at l9;by_cases g1:1024<m
  ·rw[if_pos g1]at l9
   subst l9;have JD:(m:Int)>1024:=by omega
   unfold lZ j9;simp only[];clear m6 FE hA aO c0 hM;refine aD ?_;exact oD
  ·rw[if_neg g1]at l9
   subst l9;have JD:¬(m:Int)>1024:=by omega
   simp only[];clear m6 FE hA aO c0 hM;refine aD ?_;exact oD
set_option maxHeartbeats 1000000
theorem Nh:∀(l:List Bool) (p:Nat),(kQ l p).length<=l.length/\∀x∈kQ l p,x.2<=l.length
 |[],p=>⟨by simp[kQ],fun x h=>by simp[kQ]at h⟩
 |false::l,p=>by
  obtain⟨h1,h2⟩:=Nh l (p+1);rw[ag8];exact⟨by simp only[dK];omega,fun x hx=>by have:=h2 x hx;simp only[dK];omega⟩
 |true::l,p=>by
  obtain⟨h1,h2⟩:=Nh l (p+1);rw[Ch];cases hr:kQ l (p+1)with
  |nil=>exact⟨by simp,fun x hx=>by simp only[cG,jF,or_false]at hx;subst hx;simp⟩
  |cons y r=>
   rw[hr]at h1 h2;obtain⟨q,n⟩:=y;have hy:=h2 (q,n) (by simp)
   simp only[dK]at h1 hy⊢;split
   ·refine⟨by simp only[dK];omega,fun x hx=> ?_⟩
    rcases cG.1 hx with rfl|hx
    ·simp only[];omega
    ·have:=h2 x (by simp[hx])
     omega
   ·refine⟨by simp only[dK];omega,fun x hx=> ?_⟩
    rcases cG.1 hx with rfl|hx
    ·simp only[];omega
    ·have:=h2 x hx
     omega
theorem bE7(a:Int)(L:List Bool):(J3 a L).length<=L.length+1/\∀w∈J3 a L,w.2.2.length<=L.length:=by
 obtain⟨h1,h2⟩:=Nh L 0;rw[am0];refine⟨?_,fun w hw=> ?_⟩
 ·rw[bP,l4]
  split<;>simp<;>omega
 ·rcases lS.1 hw with h|h
  ·obtain⟨r,hr,rfl⟩:=kV.1 h
   have:=h2 r hr;simp only[rV,s6];exact this
  ·split at h
   ·simp at h
   ·simp only[cG,jF,or_false]at h
    subst h;simp
theorem an5:∀(R:List Rec) (l:List aW) (m n:Nat),rU l n->(∀r∈R,∀y∈r.cT,aV y)->rU (rB R l m).1.1 (n+R.length+(R.map fun r=>r.cT.length).sum)
 |[],l,m,n,h,_=>by
  show rU l _
  exact h.mono (by simp)
 |r::R,l,m,n,h,hb=>by
  have h1:=al7 h (r:=r) (hb r (by simp))
  have h2:=an5 R (k9 l r).1 (max m (k9 l r).1.length) _ h1 (fun x hx=>hb x (by simp[hx]))
  show rU (if(k9 l r).2=0 then rB R (k9 l r).1 (max m (k9 l r).1.length)else(([],0),(k9 l r).2)).1.1 _
  split
  ·refine h2.mono ?_
   simp only[dK,gJ,qP];omega
  ·exact rU.nil.mono (iG _)
theorem bE8{d:bL}{a c:Int}(h:(mV d a c).2=0):(mV d a c).1.1.b8.length=(mV d a c).1.2.1.length/\(mV d a c).1.2.2.length<=d.st.length+1/\∀w∈(mV d a c).1.2.2,w.2.2.length<=d.st.length:=by
 unfold mV at h⊢;split at h
 ·rename_i g0
  rw[if_pos g0];split at h
  ·rename_i g1
   rw[if_pos g1];split at h
   ·rename_i g2
    rw[if_pos g2];simp only[]
    have hl:∀u q,(AN (tD d a c) (c-16) (jO d a c).1.1 u q).length<=d.st.length:=fun u q=>by
     unfold AN;rw[l4,KF];unfold tD;rw[cU,eF,wJ];omega
    have h9:=bE7 a (AN (tD d a c) (c-16) (jO d a c).1.1 (fL (AO (tD d a c) (jO d a c).1.1 (jO d a c).1.2)).sum ((jO d a c).1.2+(AO (tD d a c) (jO d a c).1.1 (jO d a c).1.2).length));have h8:=hl (fL (AO (tD d a c) (jO d a c).1.1 (jO d a c).1.2)).sum ((jO d a c).1.2+(AO (tD d a c) (jO d a c).1.1 (jO d a c).1.2).length);refine⟨?_,by have:=h9.1;omega,fun w hw=>by have:=h9.2 w hw;omega⟩
    show(fL _).length=_
    unfold fL;rw[l4]
   ·rename_i g2
    exact absurd h g2
  ·exact absurd h (by decide)
 ·rename_i g0
  exact absurd h g0
structure an6(s:cX)(o:List eW):Prop where
 b8:s.j.b8.length<=1000000
 aR:s.aR.length<=1000000
 one:∀x∈s.aR,F3 x
 ops:o.length<=1000000
 data:∀w∈o,w.2.2.length<=1000000
theorem Ni:an6 lZ []:=⟨by simp[lZ,j9],by simp[lZ],fun x hx=>by simp[lZ]at hx,by simp,fun w hw=>by simp at hw⟩
theorem an7(d:bL)(a c:Int)(hs:d.st.length<=900000)(hk:∀s∈fA d.st d.ca,dC s):an6 (p5 d a c).1 (p5 d a c).2.1:=by
 unfold p5;split
 ·rename_i g0
  obtain⟨n,f,hn,hR⟩:=an4 hk g0;obtain⟨o1,o2,o3⟩:=bE8 g0;split
  ·split
   ·exact Ni
   ·have hA:=an5 (mV d a c).1.2.1 [] 0 0 rU.nil (fun r hr=>(hR.one r hr).2.2)
    have hl:=hR.len;have hp:=hR.cT;refine⟨?_,?_,fun x hx=> ?_,by simp only[];omega,fun w hw=>by have:=o3 w hw;omega⟩
    ·simp only[];omega
    ·have:=hA.len
     simp only[];omega
    ·exact((hA.one x hx).Mx (by omega)).l2
  ·exact Ni
 ·exact Ni
end Go.Proofs.YtioafciifiggaaaGreatDoor
