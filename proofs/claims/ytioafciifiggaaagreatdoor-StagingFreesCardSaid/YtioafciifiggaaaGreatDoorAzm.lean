/- Staging. No condition. -/
import Derived.Test.YtioafciifiggaaaGreatDoorL0
import Derived.Test.YtioafciifiggaaaGreatDoorAzl
import Derived.Test.YtioafciifiggaaaGreatDoorAze
import Derived.Test.YtioafciifiggaaaGreatDoorAz
import Derived.Test.YtioafciifiggaaaGreatDoorAzd
import Derived.Test.YtioafciifiggaaaGreatDoorLg
set_option linter.all false
namespace Go.Proofs.YtioafciifiggaaaGreatDoor
open Go.Proofs Go.AL
set_option maxRecDepth 100000
set_option maxHeartbeats 8000000
attribute [local irreducible] cH AW b9 dR eH hold
attribute [local irreducible] jI
def vT(x:wU):List AV:=[zV x.kind,zV x.number,zV x.part,uV x.data]
@[irreducible] def an8(n:Nat):Array Oper->Bool->Code:=Code.region n
theorem QH(n:Nat):Code.region n=an8 n:=by unfold an8;rfl
theorem an9{dd:Nat}{rows:List (List AV)}{p q:List AV}{k:Nat}(hk:k=rows.length):LI dd rows [p++ .own dd 0 k::q] [p++ .snap rows::q]:=by
 subst hk;refine⟨rfl,fun i r r' h1 h2=> ?_⟩
 cases i with
 |succ i=>simp at h1
 |zero=>
  simp only[nE,bC]at h1 h2;subst h1 h2;refine⟨by simp,fun k x y hx hy=> ?_⟩
  by_cases e:k=p.length
  ·subst e
   rw[k7 (cE _),CM]at hx hy;simp only[nE,bC]at hx hy;subst hx hy;exact .inr ⟨0,rows.length,rfl,by omega,by rw[CO,lI]⟩
  ·have h9:(p++AV.own dd 0 rows.length::q)[k]? =(p++AV.snap rows::q)[k]? :=by
    by_cases e2:k<p.length
    ·rw[kG e2,kG e2]
    ·rw[k7 (by omega),k7 (by omega)]
     obtain⟨j,hj⟩:∃j,k-p.length=j+1:=⟨k-p.length-1,by omega⟩
     rw[hj];rfl
   rw[<-h9,hx]at hy;injection hy with hy
   exact .inl hy
theorem bE9{n b:Int}:(kP (kE n b) 10).1.length<=6:=by
 have h3:=aj8 n b;by_cases h0:(nB (kE n b)).2=0
 ·have hc:CP (kE n b) 10:=⟨h0,by decide,by decide⟩
  obtain⟨-,-,e3,-⟩:=Is h0;have h5:kP (kE n b) ((10:Nat):Int)=_:=Le hc;have h6:kP (kE n b) 10=_:=h5;rw[h6];simp only[l4,KF];unfold y4 sY;rw[e3];omega
 ·unfold kP
  rw[if_neg h0];simp
theorem bF0(d:bL)(s:cX)(x:wU)(hS:rA s)(hs:d.st.length<=1000000)(h2:d.ca.length<=1000000)(hk:∀s∈fA d.st d.ca,dC s)(hb:aV x.data):PC 20 [.agg (bM d),.agg (dG s),.agg (vT x)] (.aU [.agg (dG (jW d s x).1),.snap (aA bJ (jW d s x).2)]):=by
 refine BI Tryz.func20 Tryz.ntmps20 (by simp only[go_sem,dG]) ?_
 obtain⟨M,hM⟩:∃M,jW d s x=M:=⟨_,rfl⟩;rw[hM];unfold jW at hM;have wT:=aj9 x.number;obtain⟨mn,QI⟩:∃mn:Int,(if(1000:Int)<x.number then(1000:Int)else x.number)=mn:=⟨_,rfl⟩
 have Dh:(if mn>1 then mn else 1)=mO x.number:=by
  unfold mO;rw[<-QI];split<;>split<;>omega
 obtain⟨xk,xn,xp,xd⟩:=x;unfold vT;simp only[]at*;generalize dH:mO xn=n at*;by_cases k0:xk=0
 ·subst k0
  rw[if_pos rfl]at hM;have Jd:aS aE=[uV 0,uV 0,uV 0,uV 0,uV 0,uV 0,uV 0,uV 0]:=rfl;have hu:=VL n;have w:=IntWalk.i64_in (n-1) (by omega)
  have c2:PC 27 [.agg [zV (n-1),zV n,zV 0,.c (.slice none 0 0),.snap [[zV 0,zV 0,.snap [[uV (n % 256),uV xd,uV 0,uV 0,uV 0,uV 0,uV 0,uV 0]]]]],zV 10] (.aU [.snap (aA dF (kP (kE n xd) 10).1),zV (kP (kE n xd) 10).2]):=
   eU.args (bp1 (aj7 hb) (bw4 n xd) 10) (jH (BJ (jH (.refl _) (jH (.refl _) (jH (.refl _) (jH .nil (jH (.refl _) sD)))))) (jH (.refl _) sD))
  have DM:=fun h1 h2=>Cp (x:=⟨0,xn,xp,xd⟩) hb h1 h2
  simp only[dH]at DM;have M8:H8 ⟨0,xn,xp,xd⟩=(kP (kE n xd) 10).1.getD (max 0 xp % ((kP (kE n xd) 10).1.length:Int)).toNat []:=by unfold H8;simp only[dH]
  have cH1:=bE9 (n:=n) (b:=xd);generalize kP (kE n xd) 10=P at*;obtain⟨L,e⟩:=P;simp only[]at*;have QJ:=fun hp hl=>Br s (H8 ⟨0,xn,xp,xd⟩) hS hp hl
  generalize H8 ⟨0,xn,xp,xd⟩=p at*;obtain⟨pt,hpt⟩:∃pt:Int,(if xp>0 then xp else 0)=pt:=⟨_,rfl⟩
  have ao1:max 0 xp=pt:=by rw[<-hpt];split<;>omega
  rw[ao1]at M8;have bF1:0<=pt:=by omega
  replace hM:=bB.mk hM
  replace DM:=bB.mk DM
  replace M8:=bB.mk M8
  replace QJ:=bB.mk QJ
  obtain⟨sj,l⟩:=s;obtain⟨js,jc,jh,jt,jf,jz⟩:=sj;obtain⟨st,ca⟩:=d;unfold dG bM at*;simp only[]at*;clear hk dH ao1;rw[QH 9];refine aD ?_;refine kA Tryz.func28 Tryz.ntmps28 ?_;refine aD ?_;refine C4 6 7 [[zV 0,zV 0,.snap [[uV (n % 256),uV xd,uV 0,uV 0,uV 0,uV 0,uV 0,uV 0]]]] (rws:=[[zV 0,zV 0,.own 6 0 1]]) (rows:=[[uV (n % 256),uV xd,uV 0,uV 0,uV 0,uV 0,uV 0,uV 0]]) (by simp(maxSteps:=2000000) (disch:=omega) only[go_sem, *]<;>exact rfl) (by simp(maxSteps:=2000000) (disch:=omega) only[go_sem, *]<;>exact rfl) (by omega) (an9 (p:=[zV 0,zV 0]) (q:=[]) rfl) ?_
  refine C4 7 9 [[zV (n-1),zV n,zV 0,.c (.slice none 0 0),.snap [[zV 0,zV 0,.snap [[uV (n % 256),uV xd,uV 0,uV 0,uV 0,uV 0,uV 0,uV 0]]]]]] (rws:=[[zV (n-1),zV n,zV 0,.c (.slice none 0 0),.own 7 0 1]]) (rows:=[[zV 0,zV 0,.snap [[uV (n % 256),uV xd,uV 0,uV 0,uV 0,uV 0,uV 0,uV 0]]]]) (by simp(maxSteps:=2000000) (disch:=omega) only[go_sem, *]<;>exact rfl) (by simp(maxSteps:=2000000) (disch:=omega) only[go_sem, *]<;>exact rfl) (by omega) (an9 (p:=[zV (n-1),zV n,zV 0,.c (.slice none 0 0)]) (q:=[]) rfl) ?_
  rw[<-QH 9];have l9:=hM.out;by_cases g1:e=0
  case neg=>
   rw[if_neg (fun h=>g1 h.1)]at l9
   subst l9;have gx:(e !=0)=true:=by simpa using g1
   clear g1 hM DM M8 QJ hS;simp only[];refine aD ?_;exact oD
  subst g1;by_cases g2:L=[]
  ·rw[if_neg (fun h=>h.2 g2)]at l9
   subst l9;subst g2;clear hM DM M8 QJ hS;simp only[];refine aD ?_;exact oD
  rw[if_pos ⟨rfl,g2⟩]at l9;obtain⟨b1,b2⟩:=DM.out rfl g2;have c3:=QJ.out b1 (by omega)
  have pO:L.length≠0:=fun h=>g2 (jQ h)
  obtain⟨q,hq⟩:∃q:Nat,pt % (L.length:Int)=q:=⟨(pt % (L.length:Int)).toNat,by have:=BC pt (show(L.length:Int)≠0 by omega);omega⟩
  have II:q<L.length:=by have:=zM pt (show(0:Int)<L.length by omega);omega
  have w2:pt.tmod (L.length:Int)=(q:Int):=by rw[EF bF1];exact hq
  have w4:¬(L.length:Int)=0:=by omega
  have hg:=pD (f:=dF) (l:=L) (i:=q) [] II;have Nj:=M8.out;rw[hq,mE]at Nj;rw[<-Nj]at hg;have hLz:((L.length:Int)==0)=false:=by simp;omega
  have w5:IntKind.i64.wrap (q:Int)=(q:Int):=IntWalk.i64_in _ (by omega)
  have bH:dF p=[.snap (aA aN p)]:=rfl;rw[bH]at hg;simp only[]at c3 l9;clear hM DM M8 QJ hS g2 b1 b2 Nj hq bH;generalize nL ⟨⟨js,jc,jh,jt,jf,jz⟩,l⟩ p=A at*;obtain⟨⟨⟨QG,ac,ah,at_,af,az⟩,al⟩,ao,ae⟩:=A;simp only[]at c3 l9;by_cases g:ae=0
  ·rw[if_pos g]at l9
   subst l9;subst g;simp only[];refine aD ?_;exact oD
  ·rw[if_neg g]at l9
   subst l9;have gx:(ae !=0)=true:=by simpa using g
   simp only[];clear g;refine aD ?_;exact oD
 rw[if_neg k0]at hM;have q0:(xk==0)=false:=by simpa using k0
 by_cases k1:xk=1
 ·subst k1
  rw[if_pos rfl]at hM;have c1:=Ku s n hS;by_cases g:(mT s n).2.2=0
  ·rw[if_pos g]at hM
   rw[g]at c1;subst hM;generalize mT s n=A at*;obtain⟨⟨⟨QG,ac,ah,at_,af,az⟩,al⟩,ao,ae⟩:=A;obtain⟨⟨js,jc,jh,jt,jf,jz⟩,l⟩:=s;obtain⟨st,ca⟩:=d;unfold dG bM at*;simp only[]at*;clear g hS hk dH k0;refine aD ?_;exact oD
  ·rw[if_neg g]at hM
   have gx:((mT s n).2.2 !=0)=true:=by simpa using g
   subst hM;generalize mT s n=A at*;obtain⟨⟨⟨QG,ac,ah,at_,af,az⟩,al⟩,ao,ae⟩:=A;obtain⟨⟨js,jc,jh,jt,jf,jz⟩,l⟩:=s;obtain⟨st,ca⟩:=d;unfold dG bM at*;simp only[]at*;clear g hS hk dH k0;refine aD ?_;exact oD
 rw[if_neg k1]at hM;have q1:(xk==1)=false:=by simpa using k1
 by_cases k2:xk=2
 ·subst k2
  rw[if_pos rfl]at hM;have c1:=ak3 d s n hS hs h2 hk;by_cases g:(rR d s n).2.2=0
  ·rw[if_pos g]at hM
   rw[g]at c1;subst hM;generalize rR d s n=A at*;obtain⟨⟨⟨QG,ac,ah,at_,af,az⟩,al⟩,ao,ae⟩:=A;obtain⟨⟨js,jc,jh,jt,jf,jz⟩,l⟩:=s;obtain⟨st,ca⟩:=d;unfold dG bM at*;simp only[]at*;clear g hS hk dH k0 k1;refine aD ?_;exact oD
  ·rw[if_neg g]at hM
   have gx:((rR d s n).2.2 !=0)=true:=by simpa using g
   subst hM;generalize rR d s n=A at*;obtain⟨⟨⟨QG,ac,ah,at_,af,az⟩,al⟩,ao,ae⟩:=A;obtain⟨⟨js,jc,jh,jt,jf,jz⟩,l⟩:=s;obtain⟨st,ca⟩:=d;unfold dG bM at*;simp only[]at*;clear g hS hk dH k0 k1;refine aD ?_;exact oD
 ·rw[if_neg k2]at hM
  have q2:(xk==2)=false:=by simpa using k2
  subst hM;obtain⟨⟨js,jc,jh,jt,jf,jz⟩,l⟩:=s;obtain⟨st,ca⟩:=d;unfold dG bM at*;simp only[]at*;clear hS hk dH k0 k1 k2;refine aD ?_;exact oD
theorem ao2{α:Type}{a b:List α}(z:α)(hl:a.length=b.length)(h:∀k,k<a.length->a.getD k z=b.getD k z):a=b:=by
 apply I3 hl;intro i h1 h2;have h3:=h i h1;rw[eP,eP,eQ h1,eQ h2]at h3;exact h3
theorem bF2(a b:List Int)(ha:a.length<=1000000)(hb:b.length<=1000000):PC 101 [.snap (aA bD a),.snap (aA bD b)] (bV (decide (a=b))):=by
 refine bI Tryz.func101 Tryz.ntmps101 (.c _) ?_;by_cases hl:a.length=b.length
 case neg=>
  obtain⟨d,dx⟩:=Bh hl;rw[decide_eq_false (fun h=>hl (by rw[h]))]
  clear hl;refine aD ?_;exact aC
 obtain⟨d,dx⟩:=VM hl;have ga:=gI a;have gb:=gI b
 replace hl:=bB.mk hl
 refine aD ?_;refine fK (α:=Unit) a.length (fun k _=> [(5,true,zV k),(0,true,.snap (aA bD a)),(1,true,.snap (aA bD b))]) (fun _ _=> []) (fun k m _=>∀i,i<k->a.getD i 0=b.getD i 0) ⟨0,(),fun i hi=>by omega,aT⟩ (fun k m _ hk hR=> ?_) (fun m _ hR=> ?_)
 ·have g1:=ga k hk
  have g2:=gb k (by have:=hl.out;omega)
  by_cases e:a.getD k 0=b.getD k 0
  ·have cP:∀i,i<k+1->a.getD i 0=b.getD i 0:=fun i hi=>by
    by_cases e2:i=k
    ·rw[e2];exact e
    ·exact hR i (by omega)
   replace cP:=bB.mk cP
   rw[<-e]at g2;clear ga gb hR;generalize a.getD k 0=v at*;obtain⟨d1,vO⟩:=l8 v;clear e;refine aD ?_;exact⟨m+100,(),cP.out,aT⟩
  ·rw[decide_eq_false (fun h=>e (by rw[h]))]
   have vO:(a.getD k 0 !=b.getD k 0)=true:=by simpa using e
   clear ga gb hR;generalize a.getD k 0=v at*;generalize b.getD k 0=v2 at*;clear e;refine aD ?_;exact aC
 ·rw[decide_eq_true (ao2 0 hl.out hR)]
  clear ga gb hR;refine aD ?_;exact aC
def HC(x y:aW):Bool:=decide (bF x=bF y)&&decide (x.records=y.records)&&(x.closed==y.closed)
theorem Nk(x y:aW):HC x y=true↔x=y:=by
 obtain⟨n,p,s,h,e,r,c⟩:=x;obtain⟨n2,p2,s2,h2,e2,r2,c2⟩:=y;unfold HC bF;simp[and_assoc]
theorem bF3(x y:aW)(hx:F3 x)(hy:F3 y):PC 44 [.agg (bQ x),.agg (bQ y)] (bV (HC x y)):=by
 refine bI Tryz.func44 Tryz.ntmps44 (.c _) ?_;have c1:=Yt x;have c1y:=Yt y;have c2:=bk4 (bF x) (bF y) hx.bF.bS hy.bF.bS hx.bF.seen hy.bF.seen (fun z hz=>(hx.bF.one z hz).2) (fun z hz=>(hy.bF.one z hz).2)
 have c3:=bF2 x.records y.records (by have:=hx.records;omega) (by have:=hy.records;omega)
 clear hx hy;unfold HC;by_cases e1:bF x=bF y
 ·rw[decide_eq_true e1]at c2⊢
  by_cases e2:x.records=y.records
  ·rw[decide_eq_true e2]at c3⊢
   clear e1 e2;obtain⟨n,p,s,h,e,r,c⟩:=x;obtain⟨n2,p2,s2,h2,e3,r2,c2⟩:=y;simp only[iK]at*;unfold bF iZ at*;simp only[TO]at*;refine aD ?_;exact aC
  ·rw[decide_eq_false e2]at c3⊢
   clear e1 e2;obtain⟨n,p,s,h,e,r,c⟩:=x;obtain⟨n2,p2,s2,h2,e3,r2,c2⟩:=y;simp only[iK]at*;unfold bF iZ at*;simp only[Ti,O3]at*;refine aD ?_;exact aC
 ·rw[decide_eq_false e1]at c2⊢
  clear e1 c3;obtain⟨n,p,s,h,e,r,c⟩:=x;obtain⟨n2,p2,s2,h2,e3,r2,c2⟩:=y;simp only[iK]at*;unfold bF iZ at*;simp only[O3]at*;refine aD ?_;exact aC
def FF(a b:List aW):Bool:=decide (a.length=b.length)&&(List.range a.length).all fun k=>HC (a.getD k aY) (b.getD k aY)
theorem Di(a b:List aW):FF a b=true↔a=b:=by
 unfold FF;rw[k6,decide_eq_true_eq,gK];refine⟨fun⟨h1,h2⟩=>ao2 aY h1 fun k hk=>(Nk _ _).1 (h2 k (EG.2 hk)),fun h=> ?_⟩
 subst h;exact⟨rfl,fun k _=>(Nk _ _).2 rfl⟩
theorem bF4(a b:List aW)(ha:a.length<=1000000)(hb:b.length<=1000000)(oa:∀x∈a,F3 x)(ob:∀x∈b,F3 x):PC 64 [.snap (aA bQ a),.snap (aA bQ b),.fn (.func 44) [] []] (bV (FF a b)):=by
 refine bI Tryz.func64 Tryz.ntmps64 (.c _) ?_;by_cases hl:a.length=b.length
 case neg=>
  obtain⟨d,dx⟩:=Bh hl;unfold FF;rw[decide_eq_false hl,O3];clear hl;refine aD ?_;exact aC
 obtain⟨d,dx⟩:=VM hl;have ga:bB (∀k,k<a.length->(aA bQ a)[k]? =some (bQ (a.getD k aY))):=⟨fun k hk=>pD aY hk⟩
 have gb:bB (∀k,k<b.length->(aA bQ b)[k]? =some (bQ (b.getD k aY))):=⟨fun k hk=>pD aY hk⟩
 have hc:bB (∀k,k<a.length->PC 44 [.agg (bQ (a.getD k aY)),.agg (bQ (b.getD k aY))] (bV (HC (a.getD k aY) (b.getD k aY)))):=⟨fun k hk=>bF3 _ _ (oa _ (cQ aY hk)) (ob _ (cQ aY (by omega)))⟩
 replace hl:=bB.mk hl
 clear oa ob;refine aD ?_;refine fK (α:=Unit) a.length (fun k _=> [(17,true,zV k),(16,true,zV a.length),(15,true,.snap (aA bQ a)),(1,true,.snap (aA bQ b)),(2,true,.fn (.func 44) [] [])]) (fun _ _=> []) (fun k m _=>∀i,i<k->HC (a.getD i aY) (b.getD i aY)=true) ⟨100,(),fun i hi=>by omega,aT⟩ (fun k m _ hk hR=> ?_) (fun m _ hR=> ?_)
 ·have g1:=ga.out k hk
  have g2:=gb.out k (by have:=hl.out;omega)
  have c1:=hc.out k hk;cases e:HC (a.getD k aY) (b.getD k aY)with
  |true=>
   have cP:bB (∀i,i<k+1->HC (a.getD i aY) (b.getD i aY)=true):=⟨fun i hi=>by
    by_cases e2:i=k
    ·rw[e2];exact e
    ·exact hR i (by omega)⟩
   rw[e]at c1;clear ga gb hR hc e;generalize a.getD k aY=x at*;generalize b.getD k aY=y at*;rw[iK]at g1 g2;simp only[iK]at c1;obtain⟨n,p,s,h,e,r,c⟩:=x;obtain⟨n2,p2,s2,h2,e3,r2,c2⟩:=y;simp only[]at*;refine aD ?_;exact⟨m+100,(),cP.out,aT⟩
  |false=>
   have hf:FF a b=false:=by
    cases e2:FF a b with
    |false=>rfl
    |true=>
     have:=(Di a b).1 e2;subst this;rw[(Nk _ _).2 rfl]at e;cases e
   rw[hf];rw[e]at c1;clear ga gb hR hc e hf;generalize a.getD k aY=x at*;generalize b.getD k aY=y at*;rw[iK]at g1 g2;simp only[iK]at c1;obtain⟨n,p,s,h,e,r,c⟩:=x;obtain⟨n2,p2,s2,h2,e3,r2,c2⟩:=y;simp only[]at*;refine aD ?_;exact aC
 ·have ht:FF a b=true:=by
   unfold FF;rw[decide_eq_true hl.out,TO,gK];exact fun k hk=>hR k (EG.1 hk)
  rw[ht];clear ga gb hR hc ht;refine aD ?_;exact aC
theorem bF5(l:List aW)(h:l≠[])(hl:l.length<=1000000):sC Tryz.prog 62 [.snap (aA bQ l)] 64 7 (aA bQ l):=by
 refine G7 Tryz.func62 Tryz.ntmps62 (by simp only[go_sem]) (oB l) ?_
 have h1:=wG h;refine aG ?_;exact⟨1,by simp only[go_sem],by simp only[go_sem]⟩
theorem ao3(x:aW)(D:Int):PC 63 [.agg (bQ x),.dD [[zV D]] 0 0] (bV (decide (x.number<=D))):=by
 refine bI Tryz.func63 Tryz.ntmps63 (.c _) ?_;obtain⟨n,p,s,h,e,r,c⟩:=x;rw[iK];simp only[];refine aD ?_;exact aC
theorem bF6(D:Int)(a:Option Addr)(cap:Nat):PC 60 [.c (.slice a 0 cap),.dD [[zV D]] 0 0] (.snap (aA bQ [])):=by
 refine bI Tryz.func60 Tryz.ntmps60 (kL _) ?_;cases a with
 |none=>
  refine aD ?_;refine kA Tryz.func62 Tryz.ntmps62 ?_;refine aD ?_;refine kA Tryz.func61 Tryz.ntmps61 ?_;refine aD ?_;refine kA Tryz.func136 Tryz.ntmps136 ?_;refine aD ?_;refine fK (α:=Unit) 0 (fun k _=> [(8,true,zV k),(7,true,zV 0),(0,true,.c (.slice none 0 0)),(1,true,.fn (.func 63) [] [.dD [[zV D]] 0 0])]) (fun _ _=> []) (fun _ m _=>2<=m) ⟨100,(),by omega,aT⟩ (fun k m _ hk _=>absurd hk (by omega)) (fun m _ hm=> ?_)
  refine aD ?_;exact aC
 |some a=>
  refine aD ?_;refine kA Tryz.func62 Tryz.ntmps62 ?_;refine aD ?_;refine kA Tryz.func61 Tryz.ntmps61 ?_;refine aD ?_;refine kA Tryz.func136 Tryz.ntmps136 ?_;refine aD ?_;refine fK (α:=Unit) 0 (fun k _=> [(8,true,zV k),(7,true,zV 0),(0,true,.own 1 0 0),(1,true,.fn (.func 63) [] [.dD [[zV D]] 0 0])]) (fun _ _=> [(1,some (.cells 64 7 [] true true))]) (fun _ m _=>2<=m) ⟨100,(),by omega,aT⟩ (fun k m _ hk _=>absurd hk (by omega)) (fun m _ hm=> ?_)
  refine aD ?_;exact aC
theorem Nl{l:List aW}{D:Int}{k:Nat}(h:k<l.length):p7 D (l.take (k+1))=p7 D (l.take k)++(if D<(l.getD k aY).number then [l.getD k aY]else []):=by
 unfold p7;rw[Gg,KC,eQ h,eP,eQ h];simp only[Option.toList_some,Z0,List.filter_nil,vZ,decide_eq_true_eq]
theorem ao4{l:List aW}{D:Int}:∀{k:Nat},k<=l.length->(∀i,i<k->D<(l.getD i aY).number)->p7 D (l.take k)=l.take k
 |0,_,_=>rfl
 |k+1,hk,h=>by
  rw[Nl (by omega),ao4 (by omega) fun i hi=>h i (by omega),if_pos (h k (by omega)),Gg,eQ (by omega),eP,eQ (by omega)]
  rfl
theorem bF7{B:List aW}{i:Nat}{x:aW}(h:i<B.length):(B.set i x).take (i+1)=B.take i++[x]:=by
 rw[Gg,YZ h,List.take_set_of_le (cE _)];rfl
theorem bF8{B:List aW}{i q:Nat}{x:aW}(h:i<q):(B.set i x).getD q aY=B.getD q aY:=by
 rw[eP,eP,O6 (by omega)]
theorem bF9(B:List aW)(i:Nat)(x:aW):(aA bQ B).set i (bQ x)=aA bQ (B.set i x):=by
 unfold aA;rw[List.map_set]
theorem ao5(l:List aW)(D:Int)(hl:l.length<=1000000):PC 60 [.snap (aA bQ l),.dD [[zV D]] 0 0] (.snap (aA bQ (p7 D l))):=by
 by_cases h:l=[]
 ·subst h
  exact eU.nil (pre:=[]) (post:=[.dD [[zV D]] 0 0]) (bF6 D)
 refine bI Tryz.func60 Tryz.ntmps60 (kL _) ?_;have c1:=bF5 l h hl;have hq:0<l.length:=O2.2 h;have GI:bB (∀k,k<l.length->(aA bQ l)[k]? =some (bQ (l.getD k aY))):=⟨fun k hk=>pD aY hk⟩
 have Df:(aA bQ l).length=l.length:=mH l
 replace h:=bB.mk h
 refine aD ?_;refine kA Tryz.func61 Tryz.ntmps61 ?_;rw[QH 11];refine aD ?_;refine kA Tryz.func136 Tryz.ntmps136 ?_;refine aD ?_;refine fK (α:=Unit) l.length (fun k _=> [(8,true,zV k),(7,true,zV l.length),(0,true,.own 0 0 l.length),(1,true,.fn (.func 63) [] [.dD [[zV D]] 0 0])]) (fun _ _=> [(0,some (.cells 64 7 (aA bQ l) true true))]) (fun k m _=>2<=m/\∀i,i<k->D<(l.getD i aY).number) ⟨100,(),⟨by omega,fun i hi=>by omega⟩,aT⟩ (fun k m _ hk hR=> ?_) (fun m _ hR=> ?_)
 ·obtain⟨hm,hb⟩:=hR
  have hg:=GI.out k hk;have c2:=ao3 (l.getD k aY) D;by_cases g:(l.getD k aY).number<=D
  case neg=>
   rw[decide_eq_false g]at c2
   have sE:bB (∀i,i<k+1->D<(l.getD i aY).number):=⟨fun i hi=>by
    by_cases e2:i=k
    ·rw[e2];omega
    ·exact hb i (by omega)⟩
   clear hb g GI;generalize l.getD k aY=x at*;rw[iK]at hg;simp only[iK]at c2;obtain⟨xn,xp,xs,xh,xe,xr,xc⟩:=x;simp only[]at*;refine aD ?_;exact⟨m+100,(),⟨by omega,sE.out⟩,aT⟩
  rw[decide_eq_true g]at c2
  replace hb:=bB.mk hb
  generalize hx:l.getD k aY=x at*;rw[iK]at hg;simp only[iK]at c2;have BZ:¬(k:Int)= -1:=by omega
  have iX:IntKind.i64.wrap ((k:Int)+1)=((k+1:Nat):Int):=by rw[IntWalk.i64_in _ (by omega)];omega
  obtain⟨xn,xp,xs,xh,xe,xr,xc⟩:=x;simp only[]at*
  replace hx:=bB.mk hx
  refine aD ?_
  have L8:l.take k=p7 D (l.take (k+1)):=by
   rw[Nl hk,ao4 (by omega) hb.out,hx.out,if_neg (by simp only[];omega),mD]
  clear c2 hg BZ iX hx hb
  refine KK (α:=Nat×List aW×Nat) (fun a=> [(6,true,zV (a.1:Int)),(5,true,zV (a.2.2:Int)),(0,true,.own 0 0 l.length),(1,true,.fn (.func 63) [] [.dD [[zV D]] 0 0])]) (fun a=> [(0,some (.cells 64 7 (aA bQ a.2.1) true true))])
   (fun m a=>2<=m/\a.2.1.length=l.length/\a.2.2<a.1/\a.1<=l.length/\a.2.1.take a.2.2=p7 D (l.take a.1)/\∀q,a.1<=q->q<l.length->a.2.1.getD q aY=l.getD q aY) (fun a=>l.length-a.1) (k+1,l,k) ⟨m+100,⟨by omega,rfl,by simp only[];omega,by simp only[];omega,L8,fun q _ _=>rfl⟩,by simp only[];exact aT⟩ (fun m a hR=> ?_)
  obtain⟨j,B,i⟩:=a;simp only[]at hR⊢;obtain⟨wI,Nm,mL,tA,QK,M9⟩:=hR;clear L8 hm c1;by_cases gj:j<l.length
  ·have gjx:(j:Int)<(l.length:Int):=by omega
   have hg:=pD (f:=bQ) (l:=B) (i:=j) aY (by omega)
   have e1:=M9 j (cE _) gj;have e2:=Nl (l:=l) (D:=D) gj;rw[<-QK]at e2;rw[<-e1]at e2;have c2:=ao3 (B.getD j aY) D;have hjw:IntKind.i64.wrap ((j:Int)+1)=((j+1:Nat):Int):=by rw[IntWalk.i64_in _ (by omega)];omega
   by_cases g:(B.getD j aY).number<=D
   ·rw[decide_eq_true g]at c2
    rw[if_neg (by omega),mD]at e2
    replace e2:=bB.mk e2
    replace M9:=bB.mk M9
    clear g e1 QK GI;generalize B.getD j aY=x at*;rw[iK]at hg;simp only[iK]at c2;obtain⟨xn,xp,xs,xh,xe,xr,xc⟩:=x;simp only[]at*;refine aD ?_;refine⟨m+100,(j+1,B,i),by simp only[];omega,⟨by omega,Nm,by simp only[];omega,by simp only[];omega,e2.out.symm,fun q h1 h2=>M9.out q (by simp only[]at h1;omega) h2⟩,?_⟩
    simp only[];exact aT
   ·rw[decide_eq_false g]at c2
    rw[if_pos (by omega)]at e2
    have hiw:IntKind.i64.wrap ((i:Int)+1)=((i+1:Nat):Int):=by rw[IntWalk.i64_in _ (by omega)];omega
    have e3:=bF7 (B:=B) (i:=i) (x:=B.getD j aY) (by omega)
    rw[<-e2]at e3;have e4:bB (∀q,j+1<=q->q<l.length->(B.set i (B.getD j aY)).getD q aY=l.getD q aY):=⟨fun q h1 h2=>by rw[bF8 (by omega)];exact M9 q (by omega) h2⟩
    have e5:(B.set i (B.getD j aY)).length=l.length:=by rw[BD];exact Nm
    have hs:=bF9 B i (B.getD j aY);have k8:=pD (f:=bQ) (l:=B) (i:=i) aY (by omega)
    have hBe:(aA bQ B).length=l.length:=by rw[mH];exact Nm
    replace e3:=bB.mk e3
    replace e5:=bB.mk e5
    clear g e1 QK GI e2 M9;generalize PL:B.set i (B.getD j aY)=B2 at*;clear PL;generalize B.getD j aY=x at*;generalize B.getD i aY=y at*;rw[iK]at hg k8;simp only[iK]at c2;rw[iK x]at hs;obtain⟨xn,xp,xs,xh,xe,xr,xc⟩:=x;obtain⟨yn,yp,ys,yh,ye,yr,yc⟩:=y;simp only[]at*;refine aD ?_;refine⟨m+100,(j+1,B2,i+1),by simp only[];omega,⟨by omega,e5.out,by simp only[];omega,by simp only[];omega,e3.out,e4.out⟩,?_⟩
    simp only[];exact aT
  ·have gjx:¬(j:Int)<(l.length:Int):=by omega
   have bG1:j=l.length:=by omega
   rw[bG1,lI]at QK;rw[<-QK];clear QK M9 GI;refine aD ?_;rw[<-QH 11];refine bG2 (ic:=true) [_,_,_] _ rfl rfl (by intro c h;cases h) ?_ rfl
   refine MA ?_;refine tF ?_;refine⟨_,_,bG3 (rows:=aA bQ B) (ap:=true) aH9 aI0 rfl rfl rfl rfl (by rw[mH];omega),?_⟩
   refine gT ?_;generalize Dj:(aA bQ B).take i++List.replicate (l.length-i) _++(aA bQ B).drop (i+(l.length-i))=RW
   have iI:RW.take i=aA bQ (B.take i):=by
    rw[<-Dj,fF,O9 (by rw[cU,mH];omega),Tu,YW]
    unfold aA;rw[TH]
   have GY:RW.length=l.length:=by
    rw[<-Dj];simp only[bP,cU,eF,s6,mH];omega
   have eY:(∀row,row∈RW->∀x,x∈row->bK x)=True:=eq_true fun row hr x hx=>by
    rw[<-Dj]at hr;rcases lS.1 hr with h9|h9
    ·rcases lS.1 h9 with h8|h8
     ·exact oB B row (oS h8) x hx
     ·obtain⟨-,rfl⟩:=I2.1 h8
      simp only[cG,jF,or_false]at hx;rcases hx with rfl|rfl|rfl|rfl|rfl|rfl|rfl<;>exact .c _
    ·exact oB B row (lJ h9) x hx
   clear Dj;change AW _ _ ⟨_,⟨m+1,aX (cV [(0,some (.cells 64 7 (aA bQ B) true true))]) [(0,some (.cells 64 7 RW true true))]⟩,_⟩ _;refine BG (env:=[(5,true,zV (i:Int)),(0,true,.own 0 0 l.length)]) (H:=⟨m+1,cV [(0,some (.cells 64 7 RW true true))]⟩) aT ?_;refine aD ?_;exact aC
 ·obtain⟨hm,hb⟩:=hR
  have he:p7 D l=l:=by
   unfold p7;rw[List.filter_eq_self];intro x hx;obtain⟨i,hi,rfl⟩:=wA.1 hx;have:=hb i hi;rw[eP,eQ hi]at this;exact decide_eq_true this
  rw[he];have eY:(∀row,row∈aA bQ l->∀x,x∈row->bK x)=True:=eq_true (oB l);have iI:(aA bQ l).take l.length=aA bQ l:=eD (by rw[Df];exact cE _)
  clear hb GI he;refine aD ?_;exact aC
end Go.Proofs.YtioafciifiggaaaGreatDoor
