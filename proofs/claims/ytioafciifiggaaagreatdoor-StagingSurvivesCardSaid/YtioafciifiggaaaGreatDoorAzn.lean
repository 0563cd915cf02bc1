/- Staging. No condition. -/
import Derived.Test.YtioafciifiggaaaGreatDoorL0
import Derived.Test.YtioafciifiggaaaGreatDoorAzm
import Derived.Test.YtioafciifiggaaaGreatDoorAze
import Derived.Test.YtioafciifiggaaaGreatDoorAu
import Derived.Test.YtioafciifiggaaaGreatDoorAi
import Derived.Test.YtioafciifiggaaaGreatDoorLc
import Derived.Test.YtioafciifiggaaaGreatDoorAy
import Derived.Test.YtioafciifiggaaaGreatDoorAg
import Derived.KernelRfl
set_option linter.all false
namespace Go.Proofs.YtioafciifiggaaaGreatDoor
open Go.Proofs Go.AL
set_option maxRecDepth 100000
set_option maxHeartbeats 8000000
attribute [local irreducible] cH AW b9 dR eH hold
attribute [local irreducible] jI
theorem Nn(t s:cX)(D:Int)(ht:t.aR.length<=1000000)(hs:s.aR.length<=1000000)(ot:∀x∈t.aR,F3 x)(os:∀x∈s.aR,F3 x):PC 26 [.agg (dG t),.agg (dG s),zV D] (bV (FF (p7 D t.aR) (p7 D s.aR))):=by
 refine bI Tryz.func26 Tryz.ntmps26 (.c _) ?_;have c1:=ao5 t.aR D ht;have c2:=ao5 s.aR D hs
 have hle:∀l:List aW,l.length<=1000000->(p7 D l).length<=1000000:=fun l h=>by
  have:=KB (fun x:aW=>decide (D<x.number)) l
  unfold p7;omega
 have c3:=bF4 (p7 D t.aR) (p7 D s.aR) (hle _ ht) (hle _ hs) (fun x hx=>ot x (pC.1 hx).1) (fun x hx=>os x (pC.1 hx).1)
 clear ot os hle ht hs;obtain⟨⟨ts,tc,th,tt,tf,tz⟩,tl⟩:=t;obtain⟨⟨ss,sc,sh,st,sf,sz⟩,sl⟩:=s;unfold dG;simp only[]at*;generalize p7 D tl=A at*;generalize p7 D sl=B at*;generalize FF A B=R at*;rw[QH 2];refine aD ?_;refine bG4 [2] ?_;refine BG (env:=[(7,true,.fn (.func 60) [] [.ptr 2 0 0]),(6,true,.c (.bool false)),(4,true,.ptr 1 0 0),(3,true,.ptr 0 0 0)]) (H:=⟨3,cV [(0,some (.cells 33 7 [[zV ts,zV tc,zV th,zV tt,zV tf,.snap (aA bD tz),.snap (aA bQ tl)]] true false)),(1,some (.cells 33 7 [[zV ss,zV sc,zV sh,zV st,zV sf,.snap (aA bD sz),.snap (aA bQ sl)]] true false)),(2,some (.cells 3 1 [[zV D]] false false))]⟩) ⟨fun t a h=> ?_,cE _,fun id b h=> ?_⟩ ?_
 ·exact(aT (σ:=⟨_,⟨3,_⟩,18⟩):Holds _ _ ⟨3,cV []⟩).env t a h
 ·exact(sQ rfl (sQ rfl (sQ rfl BH))) id b h
 rw[<-QH 2]
 first|refine J0 ?_|refine ao6 ?_|refine Bt ?_|refine FD ?_
 refine aD ?_;exact aC
theorem bG5(l:List Int)(v:Int)(hl:l.length<=1000000):PC 22 [.snap (aA bD l),zV v] (bV (decide (v∈l))):=by
 refine bI Tryz.func22 Tryz.ntmps22 (.c _) ?_;have hg:=gI l;refine aD ?_;refine kA Tryz.func56 Tryz.ntmps56 ?_;refine aD ?_;refine fK (α:=Unit) l.length (fun k _=> [(8,true,zV k),(7,true,zV l.length),(0,true,.snap (aA bD l)),(1,true,zV v)]) (fun _ _=> []) (fun k m _=>∀i,i<k->l.getD i 0≠v) ⟨0,(),fun i hi=>by omega,aT⟩ (fun k m _ hk hR=> ?_) (fun m _ hR=> ?_)
 ·have fD:=hg k hk
  by_cases e:l.getD k 0=v
  ·have nQ:v∈l:=by rw[<-e];exact cQ 0 hk
   rw[decide_eq_true nQ];rw[e]at fD;have rS:(k:Int)>=0:=by omega
   obtain⟨d,dx⟩:=l8 v;clear hg hR e nQ;refine aD ?_;exact aC
  ·have cP:bB (∀i,i<k+1->l.getD i 0≠v):=⟨fun i hi=>by
    by_cases e2:i=k
    ·rw[e2];exact e
    ·exact hR i (by omega)⟩
   have d:(v==l.getD k 0)=false:=by simpa using fun h:v=l.getD k 0=>e h.symm
   clear hg hR e;generalize l.getD k 0=u at*;refine aD ?_;exact⟨m+100,(),cP.out,aT⟩
 ·have nQ:v∉l:=fun h=>by
   obtain⟨i,hi,e⟩:=wA.1 h;have:=hR i hi;rw[eP,eQ hi]at this;exact this e
  rw[decide_eq_false nQ];clear hg hR nQ;refine aD ?_;exact aC
theorem bG6(j:Jr)(hj:jE j=0)(hl:j.b8.length<=100000)(h0:20<=j.count)(h1:j.count<=4096)(h2:0<=jU j)(h3:jU j<=4096):PC 24 [.agg (eZ j)] (zV (j.count-16-jU j)):=by
 refine bI Tryz.func24 Tryz.ntmps24 (.c _) ?_;have c1:=P6 j hl;have c2:=Kk j (jU j) h0 h1 h2 h3;rw[decide_eq_true hj]at c1;obtain⟨js,jc,jh,jt,jf,jz⟩:=j;unfold eZ encS at*;simp only[]at*;generalize jU ⟨js,jc,jh,jt,jf,jz⟩=u at*;clear hj;refine aD ?_;exact aC
set_option maxHeartbeats 1000000
structure bG7(d:bL)(s:cX):Prop where
 DS:dM d=0
 st:d.st.length=160
 ca:d.ca=[]
 sec:∀x∈fA d.st d.ca,dC x
 lens:rA s
 ok:mK s=0
theorem SD.MB{d:bL}{s:cX}{D:Int}{t:Nat}(S:SD d s D t)(ht:t<=1000):bG7 d s:=by
 obtain⟨A,B,C,F,rs,rfl,S⟩:=S;exact⟨S.DS.1,S.DS.2,rfl,S.bytes.new,S.lens ht,S.ok⟩
theorem No{d:bL}{s:cX}{x:wU}(hs:rA s)(hb:aV x.data):(jW d s x).2.length<=10:=by
 unfold jW;split
 ·split
  ·rename_i g
   split
   ·exact(bn3 hs (Cp hb g.1 g.2).1).ops
   ·exact iG _
  ·exact iG _
 ·split
  ·split
   ·exact(bn4 hs).ops
   ·exact iG _
  ·split
   ·split
    ·exact(ak4 d _ hs).ops
    ·exact iG _
   ·exact iG _
theorem Np{j:Jr}(h:j.b8=[]):jU j=0:=by
 unfold jU;rw[h];split<;>rfl
theorem bG8{s:cX}(h:mK s=0):jE s.j=0:=(BV h).1
set_option maxHeartbeats 8000000
def qJ:wU:=⟨0,0,0,0⟩
instance :wF vT 4:=⟨fun _=>rfl,fun _=>rfl,fun x a ha=>by
 simp only[vT,cG,jF,or_false]at ha
 rcases ha with rfl|rfl|rfl|rfl<;>exact fQ _⟩
theorem ao7:OV 160=(⟨List.replicate 160 aE,[]⟩,0):=by
 unfold OV;rw[if_neg (by decide)]
 rfl
theorem ao8:dM ⟨List.replicate 160 aE,[]⟩=0:=by
 unfold dM;rw[s6];rfl
theorem ao9{d:bL}{s:cX}{D:Int}{t:Nat}(S:SD d s D t)(ht:t<=900){x:wU}(hb:aV x.data):∃d' n,SD d' (jW d s x).1 (yX D x) (t+1)/\PC 19 [.agg (bM d),.snap (aA bJ (jW d s x).2)] (.aU [.agg (bM d'),zV n,zV 0])/\PC 20 [.agg (bM d),.agg (dG s),.agg (vT x)] (.aU [.agg (dG (jW d s x).1),.snap (aA bJ (jW d s x).2)])
  /\PC 21 [.agg (dG (jW d s x).1)] (zV 0)/\PC 23 [.agg (dG (jW d s x).1)] (.snap (aA bD (BU (jW d s x).1)))/\(∀y∈(jW d s x).1.aR,(x.kind=2->mO x.number<y.number)/\(y.closed=decide (y.number∈BU (jW d s x).1)))/\(jW d s x).1.aR.length<=2000/\(BU (jW d s x).1).length<=2000:=by
 have A:=S.MB (by omega)
 obtain⟨d',r1,r2,r3,r4⟩:=ak0 S ht hb;have B:=r2.MB (by omega)
 have h1:=UF d (jW d s x).2 (by rw[A.st];decide) (by have:=No (d:=d) (x:=x) A.lens hb;rw[A.ca];simp only[fJ];omega)
 rw[UX A.DS r1]at h1;have h2:=bF0 d s x A.lens (by rw[A.st];decide) (by rw[A.ca];exact iG _) A.sec hb
 have h3:=PA _ B.lens;rw[B.ok]at h3
 have hc:(jW d s x).1.aR.length<=2000:=by
  obtain⟨A',B',C',F',JA,rfl,q⟩:=r2;have:=q.bd.aR;omega
 refine⟨d',_,r2,h1,h2,h3,Zb _ B.lens,fun y hy=>⟨fun hk=>r4 hk y hy,?_⟩,hc,?_⟩
 ·have:=bx1 B.ok hy
  cases iE:y.closed with
  |true=>exact(decide_eq_true (this.2 iE)).symm
  |false=>exact(decide_eq_false (fun h=>by rw[this.1 h]at iE;cases iE)).symm
 ·unfold BU
  rw[if_pos B.ok,l4];have:=KB aW.closed (jW d s x).1.aR;omega
theorem bG9(d:bL)(s:cX)(n:Int):BN (rR d s n).2.1:=by
 unfold rR;split
 ·split
  ·split
   ·exact nA
   ·split
    ·exact ak1 _ _ _
    ·exact nA
  ·exact nA
 ·exact nA
theorem bH0{d:bL}{s:cX}{D:Int}{t:Nat}(S:SD d s D t)(ht:t<=900):∃(d':bL) (s' t':cX) (ops:List eW) (n:Int),PC 10 [.agg (bM d),.agg (dG s),zV 1073741824] (.aU [.agg (dG s'),.snap (aA bJ ops),zV 0])/\PC 19 [.agg (bM d),.snap (aA bJ ops)] (.aU [.agg (bM d'),zV n,zV 0])
  /\PC 16 [.agg (bM d'),.agg [zV 0,zV 160]] (.aU [.agg (dG t'),.snap [],zV 0])/\PC 24 [.agg (eZ s'.j)] (zV 144)/\s'.aR=[]/\t'.j=s'.j/\t'.aR=[]:=by
 have A:=S.MB (by omega)
 have hB:BM d:=by
  obtain⟨A',B',C',F',JA,rfl,q⟩:=S;exact q.bytes
 obtain⟨d',s',ops,q1,q2,q3,q4,q5,q6,t',q7,q8,q9⟩:=bw6 S ht;have h1:=ak3 d s 1073741824 A.lens (by rw[A.st];decide) (by rw[A.ca];exact iG _) A.sec
 have ho:=bG9 d s 1073741824;have hf:=(ak4 d 1073741824 A.lens).ops;rw[q1]at h1 ho hf;simp only[]at h1 ho hf;have h2:=UF d ops (by rw[A.st];decide) (by rw[A.ca];simp only[fJ];omega)
 have hru:=UX A.DS q3;rw[hru]at h2;have r1:=Vq hB ho;rw[hru]at r1;have r2:=OY ops d d' 0 A.DS q3;have h3:=Ng d' 0 160 (by rw[r2.2.2,A.st];decide) (by have:=r1.2.2;rw[A.ca]at this;simp only[fJ]at this;omega) r1.1.new
 rw[q7]at h3;have h4:=bG6 s'.j (bG8 q4) (by rw[q6];exact iG _) (by rw[q5];decide) (by rw[q5];decide) (by rw[Np q6];decide) (by rw[Np q6];decide)
 rw[Np q6,q5]at h4;exact⟨d',s',t',ops,_,h1,h2,h3,h4,q2,q8,q9⟩
theorem bH1(l:List wU)(hl:l.length<=9223372036854775807)(hb:∀x∈l,aV x.data):PC 5 [.snap (aA vT l)] (bV true):=by
 refine bI Tryz.func5 Tryz.ntmps5 (.c _) ?_;have c9:=ae3;by_cases g:30<l.length
 ·refine aD ?_
  exact aC
 have g':¬(30:Int)<l.length:=by omega
 have c1:=Wo 160;have c2:=Kx 0 160;obtain⟨d0,hr,S⟩:=aj6;have c3:=UF ⟨List.replicate 160 aE,[]⟩ (tW 0 160).2.1 (by rw[s6];decide) (by rw[WE];decide)
 rw[UX ao8 hr]at c3;rw[ao7]at c1;have hs:(tW 0 160).1=JC/\(tW 0 160).2.2=0:=by rw[WE];exact⟨rfl,rfl⟩
 rw[hs.1,hs.2]at c2;clear hs hr;generalize (tW 0 160).2.1=O at*;generalize (⟨List.replicate 160 aE,[]⟩:bL)=N at*;generalize JC=s0 at*;generalize ((O.length:Nat):Int)=on at*;obtain⟨nst,nca⟩:=N;have hg:=fun k hk=>pD (f:=vT) (l:=l) (i:=k) qJ hk
 have S:=bB.mk S;have bH4:∀d:bL,bM d=[.snap (aA aS d.st),.snap (aA iP d.ca)]:=fun _=>rfl
 have e0:∃a b,bM d0=[.snap a,.snap b]:=⟨_,_,rfl⟩;obtain⟨Nq,Nr⟩:=d0;obtain⟨⟨Ns,Nt,Nu,Nv,Nw,Nx⟩,Ny⟩:=s0;unfold bM dG at*;simp only[]at*;clear bH4 e0;refine aD ?_;clear c1 c2 c3
 refine fK (α:=bL×cX×Int) l.length (fun k _=> [(49,true,zV k),(48,true,zV l.length),(47,true,.snap (aA vT l)),(3,true,.ptr 0 0 0),(4,true,.ptr 2 0 0),(6,true,.ptr 4 0 0)])
  (fun k a=> [(0,some (.cells 27 2 [[zV 0,zV 160]] true false)),(2,some (.cells 25 2 [[.snap (aA aS a.1.st),.snap (aA iP a.1.ca)]] true false)),(4,some (.cells 33 7 [[zV a.2.1.j.start,zV a.2.1.j.count,zV a.2.1.j.head,zV a.2.1.j.tail,zV a.2.1.j.first,.snap (aA bD a.2.1.j.b8),.snap (aA bQ a.2.1.aR)]] true false))])
  (fun k m a=>5<=m/\SD a.1 a.2.1 a.2.2 k) ⟨100,(⟨Nq,Nr⟩,⟨⟨Ns,Nt,Nu,Nv,Nw,Nx⟩,Ny⟩,0),⟨by omega,S.out⟩,by dsimp only;exact aT⟩ (fun k m a hk hR=> ?_) (fun m a hR=> ?_)
 ·obtain⟨d,s,D⟩:=a
  obtain⟨hm,S⟩:=hR;simp only[]at S;have fD:=hg k hk;have HD:aV (l.getD k qJ).data:=hb _ (cQ qJ hk);obtain⟨d',n,S',Dk,Nz,c21,c23,hy,iE,KP⟩:=ao9 S (by omega) HD
  have Dl:=fun v=>bG5 (BU (jW d s (l.getD k qJ)).1) v (by omega)
  simp only[]at*;generalize yX D (l.getD k qJ)=D' at*;generalize BU (jW d s (l.getD k qJ)).1=Q at*;generalize jW d s (l.getD k qJ)=A at*;obtain⟨A,O⟩:=A;generalize l.getD k qJ=x at*;obtain⟨xk,xn,xp,xd⟩:=x;obtain⟨mn,QI⟩:∃mn:Int,(if(1000:Int)<xn then(1000:Int)else xn)=mn:=⟨_,rfl⟩
  have Dh:(if mn>1 then mn else 1)=mO xn:=by
   unfold mO;rw[<-QI];split<;>split<;>omega
  generalize mO xn=cn at*;have xQ:=BR A.aR
  replace S':=bB.mk S'
  replace hy:=bB.mk hy
  clear hg HD KP S;obtain⟨dst,Oa⟩:=d;obtain⟨QL,QM⟩:=d';obtain⟨⟨sa,sb,sc,sd,se,sf⟩,sl⟩:=s;obtain⟨⟨ta,tb,tc,td,te,tf⟩,tl⟩:=A;unfold bM dG vT at*;simp only[]at*;refine aD ?_
  refine fK (α:=Unit) tl.length (fun i _=> [(77,true,zV i),(76,true,zV tl.length),(75,true,.snap (aA bQ tl)),(13,true,.ptr (m+1+1) 0 0),(12,true,.ptr m 0 0),(49,true,zV k),(48,true,zV l.length),(47,true,.snap (aA vT l)),(3,true,.ptr 0 0 0),(4,true,.ptr 2 0 0),(6,true,.ptr 4 0 0)])
   (fun _ _=> [(0,some (.cells 27 2 [[zV 0,zV 160]] true false)),(2,some (.cells 25 2 [[.snap (aA aS QL),.snap (aA iP QM)]] true false)),(4,some (.cells 33 7 [[zV sa,zV sb,zV sc,zV sd,zV se,.snap (aA bD sf),.snap (aA bQ sl)]] true false)),(m,some (.cells 57 4 [[zV xk,zV xn,zV xp,uV xd]] true false)),(m+1+1,some (.cells 33 7 [[zV ta,zV tb,zV tc,zV td,zV te,.snap (aA bD tf),.snap (aA bQ tl)]] true false))])
   (fun _ m' _=>m+2<m') ⟨m+100,(),by omega,aT⟩ (fun i m' _ hi sU=> ?_) (fun m' _ sU=> ?_)
  ·have k8:=xQ i hi
   obtain⟨y1,y2⟩:=hy.out (tl.getD i aY) (cQ aY hi);generalize tl.getD i aY=y at*;obtain⟨yn,yp,ys,yh,ye,yr,yc⟩:=y;rw[iK]at k8;have Dl:=Dl yn;simp only[]at*;rw[<-y2]at Dl;have yy:(yc==yc)=true:=by cases yc<;>rfl
   clear hy xQ y2 Dk Nz c21;by_cases k2:xk=2
   ·have q2:(xk==2)=true:=by simpa using k2
    have q3:¬yn<=cn:=by have:=y1 k2;omega
    clear y1 k2;refine aD ?_;exact⟨m'+100,(),by omega,aT⟩
   ·have q2:(xk==2)=false:=by simpa using k2
    clear y1 k2;refine aD ?_;exact⟨m'+100,(),by omega,aT⟩
  ·clear hy xQ Dk Nz c21 Dl c23
   refine aD ?_;exact⟨m'+100,(⟨QL,QM⟩,⟨⟨ta,tb,tc,td,te,tf⟩,tl⟩,D'),⟨by omega,S'.out⟩,by dsimp only;exact aT⟩
 ·obtain⟨d,s,D⟩:=a
  obtain⟨hm,S⟩:=hR;simp only[]at S;obtain⟨d',s',t',ops,n,DP,Dk,Bv,c24,h1,h2,h3⟩:=bH0 S (by omega)
  obtain⟨dst,Oa⟩:=d;obtain⟨QL,QM⟩:=d';obtain⟨⟨sa,sb,sc,sd,se,sf⟩,sl⟩:=s;obtain⟨⟨ta,tb,tc,td,te,tf⟩,tl⟩:=s';obtain⟨uj,ul⟩:=t';simp only[]at h1 h2 h3;subst h1 h2 h3;have n0:aA bQ []=[]:=rfl;clear hg S;unfold eZ bM dG at*;simp only[]at*;refine aD ?_;exact aC
theorem bH6{d:bL}(h:BM d)(h0:dM d=0)(c:List Int):BM (oO d c).1/\(oO d c).1.st.length=d.st.length/\(oO d c).1.ca=[]:=by
 obtain⟨st',q1,q2,q3⟩:=ZY h0 c;rw[q1];refine⟨⟨fun s hs=> ?_,fun x hx=>by simp at hx⟩,q2,rfl⟩
 obtain⟨i,hi,rfl⟩:=wA.1 hs;have e:st'.getD i aE=st'[i]:=by simp[show i<st'.length from hi]
 have EY:i<d.st.length:=by rw[<-q2];exact hi
 rcases q3 i with g|g
 ·rw[e]at g
  rw[g];exact h.1 _ (cQ aE EY)
 ·rw[e]at g
  exact h.2 _ g
theorem bH7{d:bL}{s:cX}{D:Int}{t:Nat}(S:SD d s D t)(ht:t<=900){x:wU}(hb:aV x.data)(k:Int)(h0:0<=k)(hk:k<=(jW d s x).2.length)(c:List Int)(hc:c.length<=1000000):∃(d':bL) (r:List Int) (u:cX) (o:List eW),PC 25 [.agg (bM d),.snap (aA bJ (jW d s x).2),zV k,.snap (aA bD c)] (.aU [.agg (bM d'),.snap (aA bD r),zV 0])
  /\PC 16 [.agg (bM d'),.agg [zV 0,zV 160]] (.aU [.agg (dG u),.snap (aA bJ o),zV 0])/\∃p q,PC 26 [.agg (dG u),.agg (dG s),zV (yX D x)] (bV p)/\PC 26 [.agg (dG u),.agg (dG (jW d s x).1),zV (yX D x)] (bV q)/\(p||q)=true:=by
 have A:=S.MB (by omega)
 have hB:BM d:=by
  obtain⟨A',B',C',F',JA,rfl,q⟩:=S;exact q.bytes
 obtain⟨d',r1,r2,r3,r4⟩:=ak0 S ht hb;have B:=r2.MB (by omega)
 have hf:=No (d:=d) (x:=x) A.lens hb;have ho:=bx0 (d:=d) (s:=s) hb;obtain⟨n,rfl⟩:=BA h0;obtain⟨e,q1,q2⟩:=r3 n (by omega)
 have q3:=UX A.DS q1;have q4:=OY _ _ _ 0 A.DS q1;have hot:BN ((jW d s x).2.take n):=fun o h=>ho o (oS h)
 have q5:=Vq hB hot;rw[q3]at q5;simp only[]at q5;have q6:=bH6 q5.1 q4.2.1 c;have h9:((jW d s x).2.take n).length<=10:=by rw[cU];omega
 have h1:=aW7 d (jW d s x).2 n c hc (by rw[A.st];decide) (by omega) (by rw[A.ca];simp only[fJ];omega) (by rw[mE,q3];exact⟨by rw[q4.2.2,A.st];decide,by have:=q5.2.2;rw[A.ca]at this;simp only[fJ]at this;simp only[];omega⟩)
 have hi:KU d (jW d s x).2 (n:Int) c=((oO e c).1,(oO e c).2,0):=by
  unfold KU;rw[if_pos A.DS,if_neg (by omega),mE,q3,if_pos rfl]
 rw[hi]at h1;obtain⟨g1,g2⟩:=q2 c;have hl:(oO e c).1.st.length=160:=by rw[q6.2.1,q4.2.2,A.st]
 have h2:=Ng (oO e c).1 0 160 (by rw[hl];decide) (by rw[q6.2.2];exact iG _) q6.1.new
 rw[g1]at h2;have hp:=an7 (oO e c).1 0 160 (by rw[hl];decide) q6.1.new
 have m1:=Nn (p5 (oO e c).1 0 160).1 s (yX D x) hp.aR (by have:=A.lens.aR;omega) hp.one fun y hy=>(A.lens.one y hy).l2
 have m2:=Nn (p5 (oO e c).1 0 160).1 (jW d s x).1 (yX D x) hp.aR (by have:=B.lens.aR;omega) hp.one fun y hy=>(B.lens.one y hy).l2
 refine⟨_,_,_,_,h1,h2,_,_,m1,m2,?_⟩;rcases g2 with g|g
 ·rw[(Di _ _).2 g,Bool.true_or]
 ·rw[(Di _ _).2 g,Bool.or_true]
theorem bH9{d:bL}{s:cX}{D:Int}{t:Nat}(S:SD d s D t)(ht:t<=900):∃(u:cX),PC 16 [.agg (bM d),.agg [zV 0,zV 160]] (.aU [.agg (dG u),.snap [],zV 0])/\PC 26 [.agg (dG u),.agg (dG s),zV D] (bV true):=by
 have A:=S.MB (by omega)
 obtain⟨o1,o2⟩:=bw7 S;have h2:=Ng d 0 160 (by rw[A.st];decide) (by rw[A.ca];exact iG _) A.sec
 rw[o1]at h2;have hp:=an7 d 0 160 (by rw[A.st];decide) A.sec
 have m1:=Nn (p5 d 0 160).1 s D hp.aR (by have:=A.lens.aR;omega) hp.one fun y hy=>(A.lens.one y hy).l2
 rw[(Di _ _).2 o2]at m1;exact⟨_,h2,m1⟩
theorem bI0(l:List wU)(cut:Int)(c:List Int)(hl:l.length<=9223372036854775807)(hb:∀x∈l,aV x.data)(hc:c.length<=9223372036854775807)(h0:0<=cut)(h1:cut<=65535):PC 6 [.snap (aA vT l),.c (.int .u16 cut),.snap (aA bD c)] (bV true):=by
 refine bI Tryz.func6 Tryz.ntmps6 (.c _) ?_;have c9:=ae3;by_cases g:30<l.length
 ·refine aD ?_
  exact aC
 have g':¬(30:Int)<l.length:=by omega
 by_cases gc:60<c.length
 ·refine aD ?_
  exact aC
 have gc':¬(60:Int)<c.length:=by omega
 have c1:=Wo 160;have c2:=Kx 0 160;obtain⟨d0,hr,S⟩:=aj6;have c3:=UF ⟨List.replicate 160 aE,[]⟩ (tW 0 160).2.1 (by rw[s6];decide) (by rw[WE];decide)
 rw[UX ao8 hr]at c3;rw[ao7]at c1;have hs:(tW 0 160).1=JC/\(tW 0 160).2.2=0:=by rw[WE];exact⟨rfl,rfl⟩
 rw[hs.1,hs.2]at c2;clear hs hr;generalize (tW 0 160).2.1=O at*;generalize (⟨List.replicate 160 aE,[]⟩:bL)=N at*;generalize JC=s0 at*;generalize ((O.length:Nat):Int)=on at*;obtain⟨nst,nca⟩:=N;have hg:=fun k hk=>pD (f:=vT) (l:=l) (i:=k) qJ hk
 have S:=bB.mk S;obtain⟨Nq,Nr⟩:=d0;obtain⟨⟨Ns,Nt,Nu,Nv,Nw,Nx⟩,Ny⟩:=s0;have hz:(((l.length:Int)+1)==0)=false:=by simp;omega
 obtain⟨stop,eG⟩:∃stop:Int,cut.tmod ((l.length:Int)+1)=stop:=⟨_,rfl⟩;obtain⟨quo,hqu⟩:∃quo:Int,cut.tdiv ((l.length:Int)+1)=quo:=⟨_,rfl⟩;have BY:0<=quo:=by rw[<-hqu];exact Int.tdiv_nonneg h0 (by omega)
 have zY:quo<=65535:=by
  rw[<-hqu,cq0 h0];exact Int.le_trans (Int.ediv_le_self _ h0) h1
 have l7:0<=stop:=by rw[<-eG];exact Int.tmod_nonneg _ h0
 have AP:stop<=65535:=by
  rw[<-eG,EF h0];have:=zM cut (show(0:Int)<(l.length:Int)+1 by omega)
  omega
 have w1:=IntWalk.i64_in cut (by omega)
 have w2:=IntWalk.i64_in stop (by omega)
 have w3:=IntWalk.i64_in quo (by omega)
 unfold bM dG at*;simp only[]at*;refine aD ?_;clear c1 c2 c3
 refine fK (α:=bL×cX×Int) l.length (fun k a=> [(68,true,zV k),(67,true,zV l.length),(66,true,.snap (aA vT l)),(7,true,.ptr 0 0 0),(8,true,.ptr 2 0 0),(10,true,.ptr 4 0 0),(15,true,zV a.2.2),(16,true,zV stop),(0,true,.snap (aA vT l)),(1,true,.c (.int .u16 cut)),(2,true,.snap (aA bD c))])
  (fun k a=> [(0,some (.cells 27 2 [[zV 0,zV 160]] true false)),(2,some (.cells 25 2 [[.snap (aA aS a.1.st),.snap (aA iP a.1.ca)]] true false)),(4,some (.cells 33 7 [[zV a.2.1.j.start,zV a.2.1.j.count,zV a.2.1.j.head,zV a.2.1.j.tail,zV a.2.1.j.first,.snap (aA bD a.2.1.j.b8),.snap (aA bQ a.2.1.aR)]] true false))])
  (fun k m a=>5<=m/\SD a.1 a.2.1 a.2.2 k) ⟨100,(⟨Nq,Nr⟩,⟨⟨Ns,Nt,Nu,Nv,Nw,Nx⟩,Ny⟩,0),⟨by omega,S.out⟩,aT⟩ (fun k m a hk hR=> ?_) (fun m a hR=> ?_)
 ·obtain⟨d,s,D⟩:=a
  obtain⟨hm,S⟩:=hR;simp only[]at S;have fD:=hg k hk;have HD:aV (l.getD k qJ).data:=hb _ (cQ qJ hk);obtain⟨d',n,S',Dk,Nz,-,-,-,-,-⟩:=ao9 S (by omega) HD
  obtain⟨kk,qA⟩:∃kk:Int,quo.tmod (((jW d s (l.getD k qJ)).2.length:Int)+1)=kk:=⟨_,rfl⟩;have hO:=No (d:=d) (x:=l.getD k qJ) (S.MB (by omega)).lens HD
  have Ob:0<=kk/\kk<=(jW d s (l.getD k qJ)).2.length:=by
   rw[<-qA];refine⟨Int.tmod_nonneg _ BY,?_⟩;rw[EF BY];have:=zM quo (show(0:Int)<((jW d s (l.getD k qJ)).2.length:Int)+1 by omega)
   omega
  obtain⟨e,r,u,o,c25,Bv,p,q,c26,c27,pR⟩:=bH7 S (by omega) HD kk Ob.1 Ob.2 c (by omega)
  have hD:(l.getD k qJ).kind=2->(if mO (l.getD k qJ).number>D then mO (l.getD k qJ).number else D)=yX D (l.getD k qJ):=fun h=>by
   unfold yX;rw[if_pos h];split<;>omega
  have tG:(l.getD k qJ).kind≠2->yX D (l.getD k qJ)=D:=fun h=>by
   unfold yX;rw[if_neg h]
  generalize yX D (l.getD k qJ)=D' at*;generalize jW d s (l.getD k qJ)=A at*;obtain⟨A,O⟩:=A;generalize l.getD k qJ=x at*;obtain⟨xk,xn,xp,xd⟩:=x;simp only[]at*;obtain⟨mn,QI⟩:∃mn:Int,(if(1000:Int)<xn then(1000:Int)else xn)=mn:=⟨_,rfl⟩
  have Dh:(if mn>1 then mn else 1)=mO xn:=by
   unfold mO;rw[<-QI];split<;>split<;>omega
  generalize mO xn=cn at*;have w4:=IntWalk.i64_in kk (by omega)
  have Zi:(((O.length:Int)+1)==0)=false:=by simp;omega
  have rS:0<=kk:=Ob.1
  replace S':=bB.mk S'
  clear hg HD S;obtain⟨dst,Oa⟩:=d;obtain⟨QL,QM⟩:=d';obtain⟨est,eca⟩:=e;obtain⟨⟨sa,sb,sc,sd,se,sf⟩,sl⟩:=s;obtain⟨⟨ta,tb,tc,td,te,tf⟩,tl⟩:=A;obtain⟨⟨ua,ub,uc,ud,ue,uf⟩,ul⟩:=u;unfold bM dG vT at*;simp only[]at*;by_cases k2:xk=2
  ·have q2:(xk==2)=true:=by simpa using k2
   have hD:=hD k2;clear tG k2;by_cases k3:(k:Int)=stop
   ·have q3:((k:Int) !=stop)=false:=by simpa using k3
    clear k3;cases p with
    |true=>
     clear pR;refine aD ?_;exact aC
    |false=>
     obtain rfl:q=true:=by simpa using pR
     clear pR;refine aD ?_;exact aC
   ·have q3:((k:Int) !=stop)=true:=by simpa using k3
    clear k3 pR;refine aD ?_;exact⟨m+100,(⟨QL,QM⟩,⟨⟨ta,tb,tc,td,te,tf⟩,tl⟩,D'),⟨by omega,S'.out⟩,by dsimp only;exact aT⟩
  ·have q2:(xk==2)=false:=by simpa using k2
   obtain rfl:=tG k2;clear hD k2 Dh QI;by_cases k3:(k:Int)=stop
   ·have q3:((k:Int) !=stop)=false:=by simpa using k3
    clear k3;cases p with
    |true=>
     clear pR;refine aD ?_;exact aC
    |false=>
     obtain rfl:q=true:=by simpa using pR
     clear pR;refine aD ?_;exact aC
   ·have q3:((k:Int) !=stop)=true:=by simpa using k3
    clear k3 pR;refine aD ?_;exact⟨m+100,(⟨QL,QM⟩,⟨⟨ta,tb,tc,td,te,tf⟩,tl⟩,D'),⟨by omega,S'.out⟩,by dsimp only;exact aT⟩
 ·obtain⟨d,s,D⟩:=a
  obtain⟨hm,S⟩:=hR;simp only[]at S;obtain⟨u,Bv,c26⟩:=bH9 S (by omega)
  obtain⟨dst,Oa⟩:=d;obtain⟨⟨sa,sb,sc,sd,se,sf⟩,sl⟩:=s;obtain⟨⟨ua,ub,uc,ud,ue,uf⟩,ul⟩:=u;clear hg S;unfold bM dG at*;simp only[]at*;refine aD ?_;exact aC
end Go.Proofs.YtioafciifiggaaaGreatDoor
namespace Go.Proofs.YtioafciifiggaaaGreatDoor
open Go.Proofs Go.AL
open Go.ChangeShapes Go.WideShapes Go.RowKit
theorem bI2(r:List AV)(h:oQ [AK,AK,AK,Lb] r):∃x:wU,aV x.data/\r=vT x:=by
 obtain⟨a0,r,rfl,h0,g0⟩:=h.PU;obtain⟨a1,r,rfl,h1,g1⟩:=g0.PU;obtain⟨a2,r,rfl,h2,g2⟩:=g1.PU;obtain⟨a3,r,rfl,h3,g3⟩:=g2.PU;obtain rfl:=g3.Ld;obtain⟨a,rfl⟩:=Lc h0;obtain⟨b,rfl⟩:=Lc h1;obtain⟨c,rfl⟩:=Lc h2;obtain⟨d,rfl,w⟩:=h3.Bw;exact⟨⟨a,b,c,d⟩,bn5 w,rfl⟩
theorem ap3{a:AV}(h:sM (.sl [AK,AK,AK,Lb]) a):∃l:List wU,(∀x∈l,aV x.data)/\l.length<=maxLen/\a= .snap (aA vT l):=ae5 bI2 h
theorem bI3{a:AV}(h:sM (.int .u16) a):∃n:Int,(0<=n/\n<=65535)/\a= .c (.int .u16 n):=by
 obtain⟨n,rfl,w⟩:=h.Bw;have:=Go.bounds_u16 w;exact⟨n,⟨by omega,by omega⟩,rfl⟩
theorem ap4:y9 Tryz.prog 10 51=some [.sl [AK,AK,AK,Lb]]:=by kernel_rfl
theorem bI4:y9 Tryz.prog 10 69=some [.int .u16]:=by kernel_rfl
theorem bI5:y9 Tryz.prog 10 28=some [.sl [AK]]:=by kernel_rfl
end Go.Proofs.YtioafciifiggaaaGreatDoor
