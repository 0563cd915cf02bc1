/- Target: a layer over the walks (Lg). No condition but those named. -/
import Derived.Test.YtpaomccedbjknaaGreatDoorLe
set_option linter.all false
namespace Go.AL
open Go.RowKit
theorem fW.bD5{P:Program}{n:FuncId}{args:List AV}{H:Heap}{Q:AV->Heap->Prop}(h:fW P n args H fun r H'=>∃xs,r= .aK xs/\Q (.aK (xs.map (nE H'.get))) ⟨H'.next,wA H'.get (l8 oJ xs)⟩):fW P n args H Q:=
 ⟨h.1,fun E W vs hH hr=>(h.2 E W vs hH hr).mono fun e W' ⟨v,he,E',r,H',h1,h2,h3,xs,hx,hq⟩=>by
   subst hx;obtain⟨L1,h4,h5,h6⟩:=SC (W:=W') (l8 oJ xs) h2;refine⟨v,he,_,_,_,h1.trans h4,h5,?_,hq⟩;cases h3 with
   |aK _ us hl hr=>
    refine .aK _ us (by simpa using hl) fun i x v hx hv=> ?_
    rw[kJ]at hx;cases hy:xs[i]? with
    |none=>rw[hy]at hx;cases hx
    |some y=>
     rw[hy]at hx;injection hx with hx
     subst hx
     exact XD h2.core h4 (hr i y v hy hv) fun id aC=>h6 id (JS (fJ hy) aC)⟩
structure u9(P:Program)(n:FuncId)(args:List AV)(id:Nat)(b0:aI)(b1:Option aI)(a:AV)(d:Nat):Prop where
 act:∀N G,G id=some b0->fW P n args ⟨N,G⟩ fun r H'=>r=a/\H'=⟨N+d,aY G [(id,b1)]⟩
def KF(N:Nat)(G:Nat->Option aI)(id:Nat)(b1:Option aI)(a:AV)(d:Nat)(r:AV)(H':Heap):Prop:=
 ∃xs T GT,r= .aK xs/\wA H'.get (l8 oJ xs)=GT/\GT=fU G T/\H'.next<=N+d/\G9 G T [(id,b1)]/\F4 N [(id,b1)] T/\Wk (.aK (xs.map (nE H'.get))) a
theorem KF.mk{N:Nat}{G:Nat->Option aI}{id:Nat}{b1:Option aI}{a:AV}{d:Nat}{xs:List AV}{T:List (Nat×Option aI)}{GT:Nat->Option aI}{H':Heap}(h1:wA H'.get (l8 oJ xs)=GT)(h2:GT=fU G T)(h3:H'.next<=N+d)(h4:G9 G T [(id,b1)])(h5:F4 N [(id,b1)] T)(h6:Wk (.aK (xs.map (nE H'.get))) a):KF N G id b1 a d (.aK xs) H':=
 ⟨xs,T,GT,rfl,h1,h2,h3,h4,h5,h6⟩
theorem mstart{P:Program}{n:FuncId}{fn:Func}{c:Code}{args:List AV}{id:Nat}{b0:aI}{b1:Option aI}{a:AV}{d:Nat}{rs:List ResultVar}{nt:Nat}(hf:P.funcs[n]? =some fn)(cL:fn.ntmps=nt)
  (h:∀N G,id<N->G id=some b0->(∀k,N<=k->G k=none)->AW P c ⟨jW 0 args,⟨N,fU G []⟩,nt⟩ (hold (bT P rs (hold (KF N G id b1 a d) ⟨⟩)) ⟨⟩))
  (hb:fn.body=some c:=by rfl) (hr:fn.results=List.toArray rs:=by rfl) (eW:(fn.name== "runtime.NumGoroutine")=false:=by kernel_rfl) (hlen:args.length<=nt:=by(simp only[iQ,kT];decide)):u9 P n args id b0 b1 a d:=by
 refine⟨fun N G lS=>⟨by unfold sB;rw[hf];simp[eW,hb],fun E W vs hH iP=> ?_⟩⟩
 have hG:∀k,N<=k->G k=none:=fun k hk=>by
  cases hg:G k with
  |none=>rfl
  |some b=>
   have h1:=hH.next k (hH.core.ok k b hg).1
   simp only[]at h1;omega
 have aC:id<N:=by
  rcases qY id N with h1|h1
  ·exact h1
  ·rw[hG id h1]at lS;cases lS
 have h1:=h N G aC lS hG
 have hA:fW P n args ⟨N,G⟩ (KF N G id b1 a d):=by
  refine CN (H:=⟨N,G⟩) hf hb eW (by rw[cL];exact hlen) ?_
  rw[cL,hr];exact h1
 have hB:fW P n args ⟨N,G⟩ fun r H'=>∃wB,VO wB H'/\Wk r a/\wB=⟨N+d,aY G [(id,b1)]⟩:=
  fW.bD5 (hA.mono fun r H' ⟨xs,T,GT,h2,h3,h3',h4,h5,h6,h7⟩=>⟨xs,h2,_,⟨h4,fun k b hk=>by
   have h8:=Z5 hG h5 h6 k b hk;rw[<-h3',<-h3]at h8
   exact h8⟩,h7,rfl⟩)
 exact(hB.2 E W vs hH iP).mono fun e W' ⟨v,he,E',r,H',h2,h3,h4,wB,h5,h6,h7⟩=>⟨v,he,E',a,wB,h2,h3.less h5,RV.wk h6 h4,rfl,h7⟩
section
variable {P : Program} {σ : AS} {Q : Exit -> AS -> Prop}
theorem bD7{ops:Array Oper}{o:Oper}{rest:List Oper}{K:AS->Prop}{f:Operand}{as:Array Operand}{ts:Array TypeId}{n:FuncId}{id i j d:Nat}{args:List AV}{b0:aI}{b1:Option aI}{r:AV}{p:AS×List Oper}(h:b8 P true ops p.2 p.1 K)(aS:o.op= .call ⟨.value f,as,ts⟩:=by(first|rfl|fail))(hg:o.guard=none:=by(first|rfl|fail))
  (hc:fN (σ.get true f) (dN (σ.get true) as.toList)=some (n,.ptr id i j::args):=by(exact aJ)) (hb:σ.H.get id=some b0:=by(exact aJ)) (hp:u9 P n (.ptr id i j::args) id b0 b1 r d:=by(first|assumption|(apply_assumption<;>first|assumption|omega)|fail))
  (hr:run P ops.toList rest (({σ with H:=⟨σ.H.next+d,aY σ.H.get [(id,b1)]⟩}:AS).put o.dst true r)=p:=by(exact aJ)):b8 P true ops (o::rest) σ K:=
 DG aS hg hc (hp.act σ.H.next σ.H.get hb) fun r' H' ⟨h1,h2⟩=>by subst h1;subst h2;exact nF _ _ hr h
theorem UI{α:Type}{c:Code}{G:Nat->Option aI}(N:Nat)(E:Nat->α->List (Nat×Bool×AV))(T:Nat->α->List (Nat×Option aI))(R:Nat->Nat->α->Prop)(h0:∃m a,R 0 m a/\Holds σ (E 0 a) ⟨m,fU G (T 0 a)⟩)
  (hk:∀k m a,k<N->R k m a->AW P c ⟨E k a,⟨m,fU G (T k a)⟩,σ.nt⟩ (cF (fun aN=>∃m' a',R (k+1) m' a'/\Holds aN (E (k+1) a') ⟨m',fU G (T (k+1) a')⟩) Q))
  (hN:∀m a,R N m a->AW P c ⟨E N a,⟨m,fU G (T N a)⟩,σ.nt⟩ (cF (fun _=>False) Q)):AW P (.loop c) σ Q:=by
 obtain⟨m,a,hR,hh⟩:=h0;refine PQ (fun n env H=>∃k m a,n=N-k/\k<=N/\R k m a/\env=E k a/\H=⟨m,fU G (T k a)⟩) N ⟨_,_,⟨0,m,a,oM,oM,hR,rfl,rfl⟩,hh⟩ ?_
 rintro n env H ⟨k,m,a,rfl,MD,zZ,rfl,rfl⟩;by_cases bG:k<N
 ·have h1:=hk k m a bG zZ
  intro ro E0 W act dP bL;refine wpIn_mono (h1 ro E0 W act dP bL) fun e a' w ⟨E',aN,h2,h3,h4,h5⟩=>⟨E',aN,h2,h3,h4,?_⟩
  cases e with
  |normal=>
   obtain⟨m',O2,h6,h7⟩:=h5;exact⟨N-(k+1),oM,_,_,⟨k+1,m',O2,rfl,oM,h6,rfl,rfl⟩,h7⟩
  |_=>exact h5
 ·obtain rfl:k=N:=oM
  have h1:=hN m a zZ;intro ro E0 W act dP bL;refine wpIn_mono (h1 ro E0 W act dP bL) fun e a' w ⟨E',aN,h2,h3,h4,h5⟩=>⟨E',aN,h2,h3,h4,?_⟩
  cases e with
  |normal=>exact h5.elim
  |_=>exact h5
end
theorem vG{σ:AS}{env:List (Nat×Bool×AV)}{N:Nat}{G:Nat->Option aI}{T:List (Nat×Option aI)}(w:Holds σ env ⟨N,fU G T⟩:=by
  ((repeat (refine tE (by first|rfl|(simp(disch:=omega) only[go_sem, *];done)|(simp(disch:=omega) only[go_sem, *];rfl)) ?_));(refine holds_nil (by simp only[];omega) ?_);(refine Z5 (by assumption) ?_ ?_);(next=>((repeat (first|refine Z6 (by first|rfl|(simp(disch:=omega) only[go_sem, *];done)|(simp(disch:=omega) only[go_sem, *];rfl)) ?_|refine Z7 ?_));exact U6));(next=>(simp only[F4,HH,or_false,false_or,or_true,true_or,and_true,true_and,cA]<;>omega)))):Holds σ env ⟨N,fU G T⟩:=w
theorem jR{N:Nat}{G:Nat->Option aI}{id:Nat}{b1:Option aI}{a:AV}{d:Nat}{r:AV}{H':Heap}(w:KF N G id b1 a d r H':=by
  (apply KF.mk;(next=>(first|exact aJ|exact rfl|fail));(next=>(first|exact rfl|exact(bq7 _).symm|fail));(next=>(simp only[];omega));(next=>(first|exact Z7 U6|exact Z6 (by first|rfl|(simp(disch:=omega) only[go_sem, *];done)|(simp(disch:=omega) only[go_sem, *];rfl)) U6));(next=>(simp only[F4,HH,or_false,false_or,or_true,true_or,and_true,true_and,cA]<;>omega));(next=>(simp(maxSteps:=2000000) (disch:=omega) only[go_sem,false_implies,implies_true, *];(repeat (first|exact .refl _|exact .nil|exact mS|refine eE ?_ ?_|refine H9 ?_|refine vD ?_|refine HA ?_|exact BH|refine u3 ?_ ?_)))))):KF N G id b1 a d r H':=w
theorem fL{A B:Prop}(h:B)(w:bC B->A:=by
  (intro hB;(repeat (first|refine dI ?_|refine XU ?_|refine XV ?_|refine XX ?_|refine pG ?_|refine XY ?_|refine NQ ?_|refine lP ?_|refine GC ?_|refine iT ?_|refine oI ?_|refine ND ?_|refine NF ?_|refine NG ?_|refine NH ?_|refine NI ?_|refine NJ dE ?_|refine N3 ?_|refine N7 ?_|refine N8 ?_|refine N9 ?_|refine O9 ?_|refine OA ?_|refine OB ?_|refine OC ?_|refine OD ?_|refine OE ?_|refine NS ?_|refine zC ?_|refine O5 ?_|refine O6 ?_|refine O7 ?_|refine O8 ?_|refine O3 ?_|refine O4 ?_|refine IW ?_|refine NR ?_|refine FZ ?_|refine SY ?_|refine N6 ?_|refine N5 ?_|refine NO ?_|refine NP ?_|refine NT ?_|refine bD7 ?_|refine NY ?_|refine SZ ?_|refine NU ?_|refine O1 ?_|refine NZ ?_|refine NV ?_|refine NW ?_|refine OF ?_|refine OG ?_|refine OH ?_|refine O0 ?_));exact hB.out)):A:=w ⟨h⟩
end Go.AL
namespace Go.AL
open Go.RowKit
theorem oW.mono{P:Program}{m:FuncId}{args:List AV}{H:Heap}{r:Option Value}{Q Q':Heap->Prop}(h:oW P m args H r Q)(hq:∀H',Q H'->Q' H'):oW P m args H r Q':=
 ⟨h.1,fun E W vs hH hr=>(h.2 E W vs hH hr).mono fun e u' W' ⟨h1,h2,E',H',h3,h4,h5⟩=>⟨h1,h2,E',H',h3,h4,hq H' h5⟩⟩
theorem au7{P:Program}{n m:FuncId}{fn:Func}{args cargs:List AV}{b:AV}{rs:List ResultVar}{nt i0 i1:Nat}{EL EM:Array Oper}{o1 o2:Oper}{f:Operand}{as:Array Operand}{ts:Array TypeId}{rest:Code}{p p1:AS×List Oper}(hf:P.funcs[n]? =some fn)(cL:fn.ntmps=nt)(fM:bF b)
  (h:AW P rest (p1.1.put o2.dst true (.c undef)) (hold (OL P rs m cargs (hold (fun a H'=>bF (bJ H'.get 4 a)/\Wk (bJ H'.get 4 a) b) ⟨⟩)) ⟨⟩))
  (hb:fn.body=some (.seq (.region i0 EL false) (.seq (.region i1 EM false) rest)):=by(first|rfl|fail)) (T4:EM= #[o1,o2]:=by(first|rfl|fail)) (aS:o2.op= .defer ⟨.value f,as,ts⟩:=by(first|rfl|fail)) (hg:o2.guard=none:=by(first|rfl|fail)) (hr:fn.results=List.toArray rs:=by(first|rfl|fail)) (eW:(fn.name== "runtime.NumGoroutine")=false:=by(first|kernel_rfl|fail)) (hlen:args.length<=nt:=by(simp only[iQ,kT];decide))
  (DY:EL.toList.all (fS nt)=true:=by(first|rfl|fail)) (Hv:EM.toList.all (fS nt)=true:=by(first|rfl|fail))
  (AM:run P EL.toList EL.toList ⟨jW 0 args,⟨0,bN []⟩,nt⟩=p:=by(exact aJ)) (hp:p.2=[]:=by(first|rfl|fail)) (Hw:p.1.nt=nt:=by(first|rfl|fail)) (wR:run P EM.toList [o1] p.1=p1:=by(exact aJ)) (QJ:p1.2=[]:=by(first|rfl|fail)) (hc:fN (p1.1.get true f) (dN (p1.1.get true) as.toList)=some (m,cargs):=by(exact aJ))
  :eA P n args (·=b):=by
 refine eA.wk (Yd 4 (Q:=fun r=>Wk r b) (Yl (m:=m) (cargs:=cargs) hf hb eW (by rw[cL];exact hlen) ?_)) fM
 rw[cL,hr];refine Yj ?_;refine Gd DY AM ?_;rw[hp];refine lP ⟨rfl,?_⟩;refine Yi ?_;subst T4;refine Yh 1 (o:=o2) (f:=f) (as:=as) (ts:=ts) rfl (by rw[Hw];exact Hv) aS hg ?_
 refine nF _ _ wR ?_;rw[QJ];refine lP (GC ⟨hc,?_⟩);exact h
section
variable {P : Program} {σ : AS}
theorem Mu{rs:List ResultVar}{m:FuncId}{cargs:List AV}{Q:AV->Heap->Prop}{a:AV}(hd:oW P m cargs σ.H none (fun H'=>H'=σ.H))(h:Q a σ.H)(ho:iL P σ rs=some a:=by(exact aJ)):OL P rs m cargs Q .ret σ:=
 hd.mono fun H' e=>by
  subst e
  show nB (iL P σ rs) _
  rw[ho];exact h
theorem F6{rs:List ResultVar}{m:FuncId}{cargs:List AV}{Q:AV->Heap->Prop}{a:AV}{x:Value}{H2:Heap}(hd:oW P m cargs σ.H (some x) (fun H'=>H'=H2))(h:Q a H2)(ho:iL P {σ with H:=H2} rs=some a:=by(exact aJ)):OL P rs m cargs Q (.panic (lV x)) σ:=
 ⟨x,rfl,hd.mono fun H' e=>by
   subst e
   show nB (iL P _ rs) _
   rw[ho]
   exact h⟩
end
theorem xL{A B:Prop}(h:B)(w:bC B->A:=by
  (intro hB;(first|refine dI ?_|refine XU ?_|refine XV ?_|refine XX ?_|refine pG ?_|refine XY ?_|refine NQ ?_|refine lP ?_|refine GC ?_|refine iT ?_|refine oI ?_|refine ND ?_|refine NF ?_|refine NG ?_|refine NH ?_|refine NI ?_|refine NJ dE ?_|refine N3 ?_|refine N7 ?_|refine N8 ?_|refine N9 ?_|refine O9 ?_|refine OA ?_|refine OB ?_|refine OC ?_|refine OD ?_|refine OE ?_|refine NS ?_|refine zC ?_|refine O5 ?_|refine O6 ?_|refine O7 ?_|refine O8 ?_|refine O3 ?_|refine O4 ?_|refine IW ?_|refine NR ?_|refine FZ ?_|refine SY ?_|refine N6 ?_|refine N5 ?_|refine NO ?_|refine NP ?_|refine NT ?_|refine NY ?_|refine SZ ?_|refine NU ?_|refine O1 ?_|refine NZ ?_|refine NV ?_|refine NW ?_|refine OF ?_|refine OG ?_|refine OH ?_|refine O0 ?_);exact hB.out)):A:=w ⟨h⟩
end Go.AL
namespace Go.AL
open Go.RowKit
theorem RC.shrink{E:Env}{W:World}{G:Nat->Option aI}{id:Nat}{e:TypeId}{s:Nat}{rows:List (List AV)}{a:Bool}(m:Nat)(hG:RC E W G)(hg:G id=some (.cells e s rows true a)):RC E W (aY G [(id,some (.cells e s (rows.take m) true a))]):=by
 obtain⟨hU,h1,h2,⟨cur,h3,h4,h5⟩,h6,h7⟩:=hG.ok id _ hg;have hw:=h6 rfl
 have hold:∀aL b',aL≠id->aY G [(id,some (.cells e s (rows.take m) true a))] aL=some b'->G aL=some b':=fun aL b' aT h=>by
  simpa only[aY,if_neg aT]using h
 refine⟨hG.lim,hG.eJ,fun id2 b hb=> ?_⟩
 by_cases aC:id2=id
 ·subst aC
  simp only[aY]at hb;rw[if_pos trivial]at hb;injection hb with hb
  subst hb;refine⟨hU,h1,fun i row hi=> ?_,⟨cur,h3,?_,fun i j row x hi hj=> ?_⟩,fun _=>⟨hw.1,fun aL b' aT h=>hw.2 aL b' aT (hold aL b' aT h)⟩,fun _=>⟨by rw[hw.1];exact qV _,fun aL b' aT h he=>absurd he (hw.2 aL b' aT (hold aL b' aT h))⟩⟩
  ·rw[pK]at hi
   split at hi
   ·exact h2 i row hi
   ·cases hi
  ·have:(rows.take m).length*s<=rows.length*s:=mO s (by rw[dX];exact Zt _ _)
   omega
  ·rw[pK]at hi
   split at hi
   ·exact h5 i j row x hi hj
   ·cases hi
 ·have u5:=hold id2 b aC hb
  obtain⟨Oj,eC⟩:=hG.ok id2 b u5;refine⟨Oj,?_⟩;have Ws:E.ι id2≠E.ι id:=hw.2 id2 b aC u5
  have NM:∀aL b',aY G [(id,some (.cells e s (rows.take m) true a))] aL=some b'->∃b0,G aL=some b0:=fun aL b' h=>by
   by_cases hi:aL=id
   ·subst hi;exact⟨_,hg⟩
   ·exact⟨_,hold aL b' hi h⟩
  cases b with
  |map es=>
   obtain⟨k1,k2,k3⟩:=eC;refine⟨k1,k2,fun aL b' mY h=> ?_⟩
   obtain⟨b0,h0⟩:=NM aL b' h;exact k3 aL b0 mY h0
  |iter m' n seen=>
   obtain⟨k1,k2,k3⟩:=eC;refine⟨k1,k2,fun aL b' mY h=> ?_⟩
   obtain⟨b0,h0⟩:=NM aL b' h;exact k3 aL b0 mY h0
  |cJ env nt ps assign body st IX=>
   obtain⟨k1,k2,k3⟩:=eC;refine⟨k1,k2,fun aL b' mY h=> ?_⟩
   obtain⟨b0,h0⟩:=NM aL b' h;exact k3 aL b0 mY h0
  |cells e' s' dU w' a'=>
   obtain⟨k1,k2,k3,k4,k5⟩:=eC;refine⟨k1,k2,k3,fun ON=>⟨(k4 ON).1,fun aL b' mY h=> ?_⟩,fun R7=>⟨(k5 R7).1,fun aL b' mY h he=> ?_⟩⟩
   ·obtain⟨b0,h0⟩:=NM aL b' h
    exact(k4 ON).2 aL b0 mY h0
   ·by_cases hi:aL=id
    ·subst hi;exact absurd he.symm Ws
    ·exact(k5 R7).2 aL b' mY (hold aL b' hi h) he
theorem Na{P:Program}{σ:AS}{Q:Exit->AS->Prop}{c:Code}(id m:Nat){e:TypeId}{s:Nat}{rows:List (List AV)}{a:Bool}(hg:σ.H.get id=some (.cells e s rows true a))(h:AW P c ⟨σ.env,⟨σ.H.next,aY σ.H.get [(id,some (.cells e s (rows.take m) true a))]⟩,σ.nt⟩ Q):AW P c σ Q:=fun ro E W act dP bL=>
 h ro E W act dP ⟨bL.defers,bL.size,bL.env,⟨bL.heap.next,bL.heap.core.shrink m hg⟩⟩
end Go.AL
namespace Go.AL
open Go.RowKit
theorem Np{P:Program}{n:FuncId}{rest:List AV}{p6 el:TypeId}{k0 k m0:Nat}{k6 rows:List (List AV)}(Q1:∀row∈k6,∀x∈row,bF x)(fA:∀row∈rows,∀x∈row,bF x)(AM:∀a∈rest,bF a)
  (h:fW P n (.own 0 0 m0::rest) ⟨1,bN [(0,some (.cells p6 k0 k6 true true))]⟩ fun r H'=>∃i,r= .own i 0 rows.length/\H'.get i=some (.cells el k rows true true)) (id:Nat):xR P n (.own id 0 m0::rest) id p6 k0 k6 el k rows:=by
 refine⟨h.1,fun E W G aF vs hG oB gT hr=> ?_⟩
 obtain⟨BX,Ba⟩:=hG.ok id _ oB;obtain⟨b1,b2,⟨AT,b3,b4,b5⟩,b6,b7⟩:=Ba
 let E0:Env:=⟨fun _=>E.ι id,fun _=>E.sz id,fun i=>i=0,E.L⟩
 have Yq:∀{x u},RV E W x u->bF x->RV E0 W x u:=fun hx hn=>RV.EE (E:=E0) (L:=E.L) (fun _=>cA _) (hx.pI (L:=E.L) (fun _=>cA _) hn)
 have kI:RH E0 W ⟨1,bN [(0,some (.cells p6 k0 k6 true true))]⟩:=by
  refine⟨fun i hi=> ?_,hG.lim,fun i _=>hG.eJ id BX,fun i b hb=> ?_⟩
  ·have:i=0:=hi
   subst this;exact Nat.zero_lt_one
  ·have hi:i=0:=by
    by_cases h0:i=0
    ·exact h0
    ·simp[bN,pN,h0]at hb
   subst hi;simp[bN,pN]at hb;subst hb;refine⟨rfl,b1,b2,⟨AT,b3,b4,fun i j row x h1 h2=> ?_⟩,fun _=>⟨(b6 rfl).1,fun i' b' aT cE=> ?_⟩,fun _=>⟨(b7 rfl).1,fun i' b' aT cE=> ?_⟩⟩
   ·obtain⟨v,h3,h4⟩:=b5 i j row x h1 h2
    exact⟨v,h3,Yq h4 (Q1 row (fJ h1) x (fJ h2))⟩
   ·simp[bN,pN,aT]at cE
   ·simp[bN,pN,aT]at cE
 have bD8:bP E0 W (.own 0 0 m0::rest) vs:=by
  refine⟨by simpa using hr.1,fun i x v hx hv=> ?_⟩
  cases i with
  |zero=>
   simp only[qX,bM]at hx;subst hx;have h1:=hr.2 0 (.own id 0 m0) v rfl hv;rcases(uJ h1).2 with⟨cap,rfl,eI,cur,e,f,h4,h5⟩|⟨mX,a,rfl⟩
   ·exact RV.own (E:=E0) 0 0 m0 cap rfl eI ⟨cur,e,f,h4,h5⟩
   ·subst mX;exact .mB _ _ _ rfl
  |succ i=>
   have h1:=hr.2 (i+1) x v (by simpa using hx) hv
   exact Yq h1 (AM x (fJ (by simpa using hx)))
 refine(h.2 E0 W vs kI bD8).mono fun x W' ⟨v,he,E1,r,H',hv,hH,iP,i,y9,bD9⟩=> ?_
 subst y9;obtain⟨x8,gL⟩:=hH.core.ok i _ bD9;obtain⟨dO,hlen,⟨cur,cV,hle,fO⟩,BV,Uw⟩:=gL;have pF:=(BV rfl).1;have V3:E0.U 0:=rfl
 have nU:W.heap.size<=E1.ι i\/E1.ι i=E.ι id:=by
  by_cases h0:E0.U i
  ·exact .inr (hv.jK i h0).1
  ·rcases hv.fresh i h0 x8 with h1|⟨sS,_,h2⟩
   ·exact .inl h1
   ·exact .inr h2.symm
 have bG:E1.ι i<W'.heap.size:=hH.core.eJ i x8;have G6:∀b,b<W.heap.size->b≠E.ι id->E1.L b=E.L b:=fun b hb aT=>hv.still b hb fun _ _=>fun h=>aT h.symm
 have hold:∀b,b<W.heap.size->b≠E.ι id->W'.heap[b]? =W.heap[b]? :=fun b hb aT=>hv.rJ b hb fun _ _=>fun h=>aT h.symm
 have RP:∀b,E.L b<=E1.L b:=hv.lim
 let E':Env:=⟨fun q=>if q=aF then E1.ι i else E.ι q,fun q=>if q=aF then k else E.sz q,fun q=>E.U q\/q=aF,E1.L⟩
 have eV:∀q,E.U q->E'.ι q=E.ι q:=fun q aC=>by
  show(if q=aF then _ else _)=_
  rw[if_neg];rintro rfl;exact gT aC
 have hs:∀q,E.U q->E'.sz q=E.sz q:=fun q aC=>by
  show(if q=aF then _ else _)=_
  rw[if_neg];rintro rfl;exact gT aC
 have iD:E'.ι aF=E1.ι i:=by show(if aF=aF then _ else _)=_;rw[if_pos rfl]
 have eR:E'.sz aF=k:=by show(if aF=aF then _ else _)=_;rw[if_pos rfl]
 have Ad:id≠aF:=fun h=>gT (h▸BX)
 have vP:bE E W E' W':=by
  refine⟨hv.os,hv.tape,hv.output,hv.size,fun id h=> .inl h,fun id aC=>⟨eV id aC,hs id aC⟩,RP,hv.wV,fun b hb hf=>hold b hb fun h=>hf id BX h.symm,hv.aR,fun b hb hf=>G6 b hb fun h=>hf id BX h.symm,fun q h1 h2=> ?_,hv.loops⟩
  rcases h2 with h2|h2
  ·exact absurd h2 h1
  ·subst h2
   rw[iD];rcases nU with h|h
   ·exact .inl h
   ·exact .inr ⟨id,BX,h.symm⟩
 have cS:∀{x u},RV E1 W' x u->bF x->RV E' W' x u:=fun hx hn=>RV.EE (E:=E') (L:=E1.L) (fun _=>cA _) (hx.pI (L:=E1.L) (fun _=>cA _) hn)
 have QH:∀q b,q≠id->G q=some b->E.ι q≠E.ι id:=fun q b aT hq=>(b6 rfl).2 q b aT hq
 have wP:∀q b,q≠id->G q=some b->E'.ι q≠E1.ι i:=fun q b aT hq heq=>by
  have hU:=(hG.ok q b hq).1;rw[eV q hU]at heq;rcases nU with h|h
  ·have:=hG.eJ q hU
   omega
  ·rw[h]at heq
   exact QH q b aT hq heq
 have dQ:∀q b,q≠aF->aY G [(id,none),(aF,some (.cells el k rows true true))] q=some b->q≠id/\G q=some b:=fun q b aT hq=>by
  simp only[aY,if_neg aT]at hq;by_cases xH:q=id
  ·rw[if_pos xH]at hq;cases hq
  ·rw[if_neg xH]at hq;exact⟨xH,hq⟩
 refine⟨v,he,E',vP,⟨hH.core.lim,fun q aC=> ?_,fun q b hb=> ?_⟩,?_,fun q h=>h⟩
 ·rcases aC with aC|aC
  ·rw[eV q aC];exact tX (hG.eJ q aC) hv.size
  ·subst aC;rw[iD];exact bG
 ·by_cases aC:q=aF
  ·subst aC
   simp only[aY]at hb;rw[if_pos trivial]at hb;injection hb with hb
   subst hb;refine⟨.inr rfl,eR,hlen,⟨cur,by rw[iD];exact cV,hle,fun i' j row x h1 h2=> ?_⟩,fun _=>⟨by rw[iD];exact pF,fun aL b' aT dR heq=> ?_⟩,fun _=>⟨by rw[iD];show E1.L _<=_;rw[pF];exact qV _,fun aL b' aT dR heq=> ?_⟩⟩
   ·obtain⟨u,h3,h4⟩:=fO i' j row x h1 h2
    exact⟨u,h3,cS h4 (fA row (fJ h1) x (fJ h2))⟩
   ·rw[iD]at heq
    obtain⟨h1,h2⟩:=dQ aL b' aT dR;exact wP aL b' h1 h2 heq
   ·rw[iD]at heq
    obtain⟨h1,h2⟩:=dQ aL b' aT dR;exact absurd heq (wP aL b' h1 h2)
  ·obtain⟨xH,hb⟩:=dQ q b aC hb
   obtain⟨hU,eC⟩:=hG.ok q b hb;have sV:=hG.eJ q hU;have FF:=QH q b xH hb;refine⟨.inl hU,eC.mono vP hU (hold _ sV FF) (G6 _ sV FF) fun aL b' aT dR heq=> ?_⟩
   by_cases vQ:aL=aF
   ·subst vQ
    rw[iD]at heq;rcases nU with h|h
    ·omega
    ·rw[h]at heq;exact absurd heq.symm FF
   ·obtain⟨h1,h2⟩:=dQ aL b' vQ dR
    exact⟨b',h2,by rw[<-heq,eV aL (hG.ok aL b' h2).1],rfl,fun h=>h⟩
 ·have vZ:E'.U aF:= .inr rfl
  rcases(uJ iP).2 with⟨cap,rfl,eI,EA,e2,f2,h4,h5⟩|⟨mX,a,rfl⟩
  ·have h6:=RV.own (E:=E') (W:=W') aF 0 rows.length cap vZ eI (by rw[iD,eR];exact⟨EA,e2,f2,h4,by rw[dO]at h5;exact h5⟩)
   rw[iD,eR]at h6;rw[dO];exact h6
  ·rw[mX]
   exact .mB _ _ _ vZ
theorem xR.run{P:Program}{n:FuncId}{args:List AV}{id:Nat}{p6 el:TypeId}{k0 k:Nat}{k6 rows:List (List AV)}(h:xR P n args id p6 k0 k6 el k rows){H:Heap}(hg:H.get id=some (.cells p6 k0 k6 true true)):
  fW P n args H fun r H'=>r= .own H.next 0 rows.length/\H'=⟨H.next+1,aY H.get [(id,none),(H.next,some (.cells el k rows true true))]⟩:=
 ⟨h.1,fun E W vs hH hr=>(h.2 E W H.get H.next vs hH.core hg (fun hU=>KK _ (hH.next _ hU)) hr).mono fun x W' ⟨v,he,E',h1,h2,h3,h4⟩=>
   ⟨v,he,E',_,_,h1,⟨fun id aC=>by
     rcases h4 id aC with h5|h5
     ·exact OT (hH.next id h5)
     ·subst h5;exact KL _,h2⟩,h3,rfl,rfl⟩⟩
section
variable {P : Program} {σ : AS} {Q : Exit -> AS -> Prop}
theorem bE0{ops:Array Oper}{o:Oper}{rest:List Oper}{K:AS->Prop}{f:Operand}{as:Array Operand}{ts:Array TypeId}{n:FuncId}{id m0:Nat}{args:List AV}{p6 el:TypeId}{k0 k:Nat}{k6 rows:List (List AV)}{p:AS×List Oper}(h:b8 P true ops p.2 p.1 K)(aS:o.op= .call ⟨.value f,as,ts⟩:=by(first|rfl|fail))(hg:o.guard=none:=by(first|rfl|fail))
  (hc:fN (σ.get true f) (dN (σ.get true) as.toList)=some (n,.own id 0 m0::args):=by(exact aJ)) (hp:xR P n (.own id 0 m0::args) id p6 k0 k6 el k rows:=by(first|assumption|(apply_assumption<;>first|assumption|omega)|fail)) (hb:σ.H.get id=some (.cells p6 k0 k6 true true):=by(first|exact mI|exact aJ|fail))
  (hr:run P ops.toList rest (({σ with H:=⟨σ.H.next+1,aY σ.H.get [(id,none),(σ.H.next,some (.cells el k rows true true))]⟩}:AS).put o.dst true (.own σ.H.next 0 rows.length))=p:=by(exact aJ)):b8 P true ops (o::rest) σ K:=
 DG aS hg hc (hp.run hb) fun r' H' ⟨h1,h2⟩=>by subst h1;subst h2;exact nF _ _ hr h
theorem bE1{ops:List Oper}{N0 i:Nat}{o:Oper}{r:List Oper}{σ dV:AS}{es:List Entry}{f:Operand}{as:Array Operand}{ts:Array TypeId}{n:FuncId}{id m0:Nat}{args:List AV}{p6 el:TypeId}{k0 k:Nat}{k6 rows:List (List AV)}(aS:o.op= .call ⟨.value f,as,ts⟩)(hg:o.guard=none)
  (hc:fN (σ.get true f) (dN (σ.get true) as.toList)=some (n,.own id 0 m0::args)) (hp:xR P n (.own id 0 m0::args) id p6 k0 k6 el k rows) (oB:σ.H.get id=some (.cells p6 k0 k6 true true))
  (h:fX P ops N0 (i+1) r (σ.app o.dst ⟨true,.own (N0+i) 0 rows.length,[(id,none),(N0+i,some (.cells el k rows true true))],[id]⟩) es dV):
  fX P ops N0 i (o::r) σ (⟨true,.own (N0+i) 0 rows.length,[(id,none),(N0+i,some (.cells el k rows true true))],[id]⟩::es) dV:=
 .cons i o r σ _ es dV (.XM f as ts n (.own id 0 m0::args) id p6 k0 k6 el k rows aS (by unfold l9;rw[hg]) rfl hc oB hp rfl rfl (by simp)) h
theorem bE2{aN:AS}{id:Nat}{ops:Array Oper}{es:List Entry}(h:Q .normal aN)(hm:P.follows .mixedOrders=true:=by(first|kernel_rfl|fail))(hs:zN ops=true:=by(first|kernel_rfl|fail))(hd:ops.toList.all (fS σ.nt)=true:=by(first|rfl|fail))
  (hr:fX P ops.toList σ.H.next 0 ops.toList {σ with H:=⟨σ.H.next+ops.size,σ.H.get⟩} es aN:=by(first|(apply eK;(next=>(exact aJ));(repeat (first|exact K6|(apply bE1;(next=>(first|rfl|fail));(next=>(first|rfl|fail));(next=>(exact aJ));(next=>(first|assumption|(apply_assumption<;>first|assumption|omega)|fail));(next=>(first|exact mI|exact aJ|fail));apply eK;(next=>(exact aJ)))|(apply Hq;(next=>(first|rfl|fail));(next=>(first|rfl|fail));(next=>(exact aJ));(next=>(exact aJ));(next=>(exact aJ));(next=>(exact aJ));(next=>(first|assumption|(apply_assumption<;>first|assumption|omega)|fail));(next=>(first|exact iH|(simp[fH,eM,fC,fD,iA,iB,hZ, *];done)|fail));apply eK;(next=>(exact aJ)))|(apply KB;(next=>(first|rfl|fail));(next=>(exact aJ));apply eK;(next=>(exact aJ)))|(apply OJ;(next=>(first|rfl|fail));(next=>(first|rfl|fail));(next=>(exact aJ));(next=>(first|assumption|(apply_assumption<;>first|assumption|omega)|fail));apply eK;(next=>(exact aJ)))|(apply OI;(next=>(first|rfl|fail));(next=>(first|rfl|fail));(next=>(exact aJ));(next=>(first|assumption|(apply_assumption<;>first|assumption|omega)|fail));apply eK;(next=>(exact aJ)))|(apply OK;(next=>(first|rfl|fail));(next=>(first|rfl|fail));(next=>(exact aJ));(next=>(exact aJ));(next=>(exact aJ));(next=>(first|assumption|(apply_assumption<;>first|assumption|omega)|fail));(next=>(first|exact iH|(simp[fH,eM,fC,fD,iA,iB,hZ, *];done)|fail));apply eK;(next=>(exact aJ)))|(apply KA;(next=>(first|rfl|fail));(next=>(first|rfl|fail));(next=>(exact aJ));(next=>(first|assumption|(apply_assumption<;>first|assumption|omega)|fail));(next=>(first|exact iH|(simp[fH,eM,fC,fD,iA,iB,hZ, *];done)|fail));apply eK;(next=>(exact aJ)))|(apply KC;(next=>(first|rfl|fail));(next=>(first|rfl|fail));(next=>(exact aJ));(next=>(exact aJ));(next=>(first|assumption|(apply_assumption<;>first|assumption|omega)|fail));(next=>(first|exact iH|(simp[fH,eM,fC,fD,iA,iB,hZ, *];done)|fail));apply eK;(next=>(exact aJ)))|(apply KD;(next=>(first|rfl|fail));(next=>(first|rfl|fail));(next=>(exact aJ));(next=>(exact aJ));(next=>(exact aJ));(next=>(first|assumption|(apply_assumption<;>first|assumption|omega)|fail));(next=>(first|exact iH|(simp[fH,eM,fC,fD,iA,iB,hZ, *];done)|fail));apply eK;(next=>(exact aJ)))|(apply KE;(next=>(first|rfl|fail));(next=>(first|rfl|fail));(next=>(exact aJ));(next=>(exact aJ));(next=>(exact aJ));(next=>(exact aJ));(next=>(first|assumption|(apply_assumption<;>first|assumption|omega)|fail));(next=>(first|exact iH|(simp[fH,eM,fC,fD,iA,iB,hZ, *];done)|fail));apply eK;(next=>(exact aJ))))))|fail))
  (sE:xC (tab ops.toList) 0 [] es=true:=by(first|(simp(maxSteps:=2000000) (disch:=omega) only[go_sem,JP,JQ, *]<;>kernel_rfl)|fail)):AW P (.region id ops true) σ Q:=SX hm hs hd hr sE h
end
theorem QA{P:Program}{n:FuncId}{fn:Func}{c:Code}{rest:List AV}{p6 el:TypeId}{k0 k m0:Nat}{k6 rows:List (List AV)}{rs:List ResultVar}{nt:Nat}(hf:P.funcs[n]? =some fn)(cL:fn.ntmps=nt)(Q1:∀row∈k6,∀x∈row,bF x)(fA:∀row∈rows,∀x∈row,bF x)(AM:∀a∈rest,bF a)
  (h:AW P c ⟨jW 0 (.own 0 0 m0::rest),⟨1,bN [(0,some (.cells p6 k0 k6 true true))]⟩,nt⟩ (hold (bT P rs (hold (fun r H'=>∃i,r= .own i 0 rows.length/\H'.get i=some (.cells el k rows true true)) ⟨⟩)) ⟨⟩))
  (hb:fn.body=some c:=by rfl) (hr:fn.results=List.toArray rs:=by rfl) (eW:(fn.name== "runtime.NumGoroutine")=false:=by kernel_rfl) (hlen:(AV.own 0 0 m0::rest).length<=nt:=by(simp only[iQ,kT];decide)) (id:Nat):xR P n (.own id 0 m0::rest) id p6 k0 k6 el k rows:=
 Np Q1 fA AM (YL hf cL h hb hr eW hlen) id
theorem xS{A B:Prop}(h:B)(w:bC B->A:=by
  (intro hB;(repeat (first|refine dI ?_|refine XU ?_|refine XV ?_|refine XX ?_|refine pG ?_|refine XY ?_|refine NQ ?_|refine lP ?_|refine GC ?_|refine iT ?_|refine oI ?_|refine ND ?_|refine NF ?_|refine NG ?_|refine NH ?_|refine NI ?_|refine NJ dE ?_|refine N3 ?_|refine N7 ?_|refine N8 ?_|refine N9 ?_|refine O9 ?_|refine OA ?_|refine OB ?_|refine OC ?_|refine OD ?_|refine OE ?_|refine NS ?_|refine zC ?_|refine O5 ?_|refine O6 ?_|refine O7 ?_|refine O8 ?_|refine O3 ?_|refine O4 ?_|refine IW ?_|refine NR ?_|refine FZ ?_|refine SY ?_|refine bE2 ?_|refine N6 ?_|refine N5 ?_|refine NO ?_|refine NP ?_|refine NT ?_|refine bE0 ?_|refine NY ?_|refine SZ ?_|refine NU ?_|refine O1 ?_|refine NZ ?_|refine NV ?_|refine NW ?_|refine OF ?_|refine OG ?_|refine OH ?_|refine O0 ?_));exact hB.out)):A:=w ⟨h⟩
end Go.AL
namespace Go.AL
theorem bE3{P:Program}{t t' ty e e':TypeId}(h:P.underlying t=some (.slice e))(h':P.underlying t'=some (.slice e'))(args:Array Value)(W:World):(Builtin.append_ #[t,t'] ty args).run P W=(Builtin.append_ #[t,t] ty args).run P W:=by
 have hu:∀w,(underlying t).run P w= .ok (.slice e) w:=fun w=>by simp[underlying,h]
 have Yr:∀w,(underlying t').run P w= .ok (.slice e') w:=fun w=>by simp[underlying,h']
 unfold Builtin.append_;simp only[CZ,qX,CX];cases args[0]? with
 |none=>rfl
 |some s=>
  cases args[1]? with
  |none=>rfl
  |some x=>
   simp only[Sem.run_bind,hu,Yr,Result.andThen_ok];cases s with
   |slice base sLen sCap=>simp only[Sem.run_bind,hu,Yr,Result.andThen_ok,Sem.run_pure]
   |_=>rfl
theorem bE4{F:Fence}{n:Nat}{P:Program}{dst:Option Tmp}{as:Array Operand}{t t' ty e e':TypeId}{pos:String}{after:Array Edge}(h:P.underlying t=some (.slice e))(h':P.underlying t'=some (.slice e')){a:Act}{w:World}{next:Act->World->Prop}{Q:Exit->Act->World->Prop}
  (hw:(Oper.mk dst (.call ⟨.builtin .append,as,#[t,t]⟩) ty pos after none).wpIn F n P a w next Q):(Oper.mk dst (.call ⟨.builtin .append,as,#[t,t']⟩) ty pos after none).wpIn F n P a w next Q:=by
 unfold Oper.wpIn at hw⊢;rw[Oper.semAt_eq _ _ _ (fun c h=>by cases h)]at hw⊢
 refine⟨fun f hf=>hw.1 f (by rw[<-hf];rfl),?_⟩
 have he:(execOp a.eval (Oper.mk dst (.call ⟨.builtin .append,as,#[t,t']⟩) ty pos after none)).run P w=(execOp a.eval (Oper.mk dst (.call ⟨.builtin .append,as,#[t,t]⟩) ty pos after none)).run P w:=by
  unfold execOp;simp only[resolve,Sem.run_bind,Sem.run_pure,Result.andThen_ok,invoke,builtin,bE3 h h']
 rw[he];exact hw.2
theorem Hy{F:Fence}{n:Nat}{P:Program}{Q:Exit->Act->World->Prop}(ops T5:Array Oper)(hy:∀(i:Nat) (o:Oper),ops[i]? =some o->o.guard=none/\∃o',T5[i]? =some o'/\o'.guard=none/\∀(a:Act) (w:World) (next:Act->World->Prop),o'.wpIn F n P a w next Q->o.wpIn F n P a w next Q)
  (hs:∀(i:Nat),ops[i]? =none->T5[i]? =none):∀(l:List Nat) (a:Act) (w:World),wpOpsIn F n P T5 Q l a w->wpOpsIn F n P ops Q l a w
 |[],a,w,h=>h
 |i::l,a,w,h=>by
  simp only[wpOpsIn]at h⊢;cases ho:ops[i]? with
  |none=>
   rw[hs i ho]at h;exact Hy ops T5 hy hs l a w h
  |some o=>
   obtain⟨h1,o',h2,h3,h4⟩:=hy i o ho;rw[h2]at h;simp only[Region.wanted,h1,h3,if_true]at h⊢;exact h4 _ _ _ (Oper.wpIn_mono (fun a w h=>Hy ops T5 hy hs l a w h) h)
theorem Bo{P:Program}{σ:AS}{Q:Exit->AS->Prop}{id:Nat}{o1 o2 o4:Oper}{dst:Option Tmp}{as:Array Operand}{t t' ty e e':TypeId}{pos:String}{after:Array Edge}{p:AS×List Oper}(h:b8 P true #[o1,o2,Oper.mk dst (.call ⟨.builtin .append,as,#[t,t]⟩) ty pos after none,o4] p.2 p.1 (Q .normal))
  (ht:P.underlying t=some (.slice e)) (T6:P.underlying t'=some (.slice e')) (h1:o1.guard=none) (h2:o2.guard=none) (h4:o4.guard=none) (hd: #[o1,o2,Oper.mk dst (.call ⟨.builtin .append,as,#[t,t]⟩) ty pos after none,o4].toList.all (fS σ.nt)=true)
  (hr:run P #[o1,o2,Oper.mk dst (.call ⟨.builtin .append,as,#[t,t]⟩) ty pos after none,o4].toList #[o1,o2,Oper.mk dst (.call ⟨.builtin .append,as,#[t,t]⟩) ty pos after none,o4].toList σ=p):AW P (.region id #[o1,o2,Oper.mk dst (.call ⟨.builtin .append,as,#[t,t']⟩) ty pos after none,o4] false) σ Q:=fun ro E W act dP bL=>by
 refine wpIn_region ?_;refine Hy _ #[o1,o2,Oper.mk dst (.call ⟨.builtin .append,as,#[t,t]⟩) ty pos after none,o4] (fun i o ho=> ?_) (fun i hi=> ?_) _ _ _ (G8 [0,1,2,3] #[o1,o2,Oper.mk dst (.call ⟨.builtin .append,as,#[t,t]⟩) ty pos after none,o4].toList rfl (nF _ _ hr h) hd bL (fun E' W' aN cK hv cG cL hK=>⟨E',aN,hv,cG,cL,hK⟩))
 ·match i,ho with
  |0,ho=>injection ho with ho;subst ho;exact⟨h1,_,rfl,h1,fun _ _ _ h=>h⟩
  |1,ho=>injection ho with ho;subst ho;exact⟨h2,_,rfl,h2,fun _ _ _ h=>h⟩
  |2,ho=>injection ho with ho;subst ho;exact⟨rfl,_,rfl,rfl,fun _ _ _ h=>bE4 ht T6 h⟩
  |3,ho=>injection ho with ho;subst ho;exact⟨h4,_,rfl,h4,fun _ _ _ h=>h⟩
  |i+4,ho=>exact absurd ho (by simp)
 ·match i,hi with
  |0,hi=>cases hi
  |1,hi=>cases hi
  |2,hi=>cases hi
  |3,hi=>cases hi
  |i+4,hi=>simp
end Go.AL
namespace Go.AL
open Go.RowKit
section
variable {P : Program} {σ : AS} {Q : Exit -> AS -> Prop}
theorem bE5{ops:List Oper}{N0 i:Nat}{o:Oper}{r:List Oper}{σ dV:AS}{es:List Entry}{f:Operand}{as:Array Operand}{ts:Array TypeId}{n:FuncId}{bW args:List AV}{el:TypeId}{k:Nat}{rows:List (List AV)}{wr:List (Nat×Option aI)}{rd:List Nat}(aS:o.op= .call ⟨.value f,as,ts⟩)(hg:o.guard=none)
  (hc:fN (σ.get true f) (dN (σ.get true) as.toList)=some (n,bW)) (he:bW.map (nE σ.H.get)=args) (iW:l8 oJ bW=rd) (hw:(rd.map fun id=>(id,qU (σ.H.get id)))=wr) (hp:r5 P n args el k rows) (h:fX P ops N0 (i+1) r (σ.app o.dst ⟨true,.own (N0+i) 0 rows.length,wr++[(N0+i,some (.cells el k rows true true))],rd⟩) es dV):
  fX P ops N0 i (o::r) σ (⟨true,.own (N0+i) 0 rows.length,wr++[(N0+i,some (.cells el k rows true true))],rd⟩::es) dV:=
 .cons i o r σ _ es dV (.XO f as ts n bW args el k rows aS (by unfold l9;rw[hg]) rfl hc he hp rfl (by rw[<-hw,<-iW]) (fun id aC=>by rw[<-iW];exact aC)) h
theorem Qb{aN:AS}{id:Nat}{ops:Array Oper}{es:List Entry}(h:Q .normal aN)(hm:P.follows .mixedOrders=true:=by(first|kernel_rfl|fail))(hs:zN ops=true:=by(first|kernel_rfl|fail))(hd:ops.toList.all (fS σ.nt)=true:=by(first|rfl|fail))
  (hr:fX P ops.toList σ.H.next 0 ops.toList {σ with H:=⟨σ.H.next+ops.size,σ.H.get⟩} es aN:=by(first|(apply eK;(next=>(exact aJ));(repeat (first|exact K6|(apply bE5;(next=>(first|rfl|fail));(next=>(first|rfl|fail));(next=>(exact aJ));(next=>(exact aJ));(next=>(exact aJ));(next=>(exact aJ));(next=>(first|assumption|(apply_assumption<;>first|assumption|omega)|fail));apply eK;(next=>(exact aJ)))|(apply br1;(next=>(first|rfl|fail));(next=>(exact aJ));(next=>(exact aJ));apply eK;(next=>(exact aJ)))|(apply Hq;(next=>(first|rfl|fail));(next=>(first|rfl|fail));(next=>(exact aJ));(next=>(exact aJ));(next=>(exact aJ));(next=>(exact aJ));(next=>(first|assumption|(apply_assumption<;>first|assumption|omega)|fail));(next=>(first|exact iH|(simp[fH,eM,fC,fD,iA,iB,hZ, *];done)|fail));apply eK;(next=>(exact aJ)))|(apply KB;(next=>(first|rfl|fail));(next=>(exact aJ));apply eK;(next=>(exact aJ)))|(apply OJ;(next=>(first|rfl|fail));(next=>(first|rfl|fail));(next=>(exact aJ));(next=>(first|assumption|(apply_assumption<;>first|assumption|omega)|fail));apply eK;(next=>(exact aJ)))|(apply OI;(next=>(first|rfl|fail));(next=>(first|rfl|fail));(next=>(exact aJ));(next=>(first|assumption|(apply_assumption<;>first|assumption|omega)|fail));apply eK;(next=>(exact aJ)))|(apply OK;(next=>(first|rfl|fail));(next=>(first|rfl|fail));(next=>(exact aJ));(next=>(exact aJ));(next=>(exact aJ));(next=>(first|assumption|(apply_assumption<;>first|assumption|omega)|fail));(next=>(first|exact iH|(simp[fH,eM,fC,fD,iA,iB,hZ, *];done)|fail));apply eK;(next=>(exact aJ)))|(apply KA;(next=>(first|rfl|fail));(next=>(first|rfl|fail));(next=>(exact aJ));(next=>(first|assumption|(apply_assumption<;>first|assumption|omega)|fail));(next=>(first|exact iH|(simp[fH,eM,fC,fD,iA,iB,hZ, *];done)|fail));apply eK;(next=>(exact aJ)))|(apply KC;(next=>(first|rfl|fail));(next=>(first|rfl|fail));(next=>(exact aJ));(next=>(exact aJ));(next=>(first|assumption|(apply_assumption<;>first|assumption|omega)|fail));(next=>(first|exact iH|(simp[fH,eM,fC,fD,iA,iB,hZ, *];done)|fail));apply eK;(next=>(exact aJ)))|(apply KD;(next=>(first|rfl|fail));(next=>(first|rfl|fail));(next=>(exact aJ));(next=>(exact aJ));(next=>(exact aJ));(next=>(first|assumption|(apply_assumption<;>first|assumption|omega)|fail));(next=>(first|exact iH|(simp[fH,eM,fC,fD,iA,iB,hZ, *];done)|fail));apply eK;(next=>(exact aJ)))|(apply KE;(next=>(first|rfl|fail));(next=>(first|rfl|fail));(next=>(exact aJ));(next=>(exact aJ));(next=>(exact aJ));(next=>(exact aJ));(next=>(first|assumption|(apply_assumption<;>first|assumption|omega)|fail));(next=>(first|exact iH|(simp[fH,eM,fC,fD,iA,iB,hZ, *];done)|fail));apply eK;(next=>(exact aJ))))))|fail))
  (sE:xC (tab ops.toList) 0 [] es=true:=by(first|(simp(maxSteps:=2000000) (disch:=omega) only[go_sem,JP,JQ, *]<;>kernel_rfl)|fail)):AW P (.region id ops true) σ Q:=SX hm hs hd hr sE h
end
end Go.AL
namespace Go.AL
theorem VV{P:Program}{σ:AS}{Q:Exit->AS->Prop}{c:Code}(j:Nat){e:TypeId}{s:Nat}{rws:List (List AV)}{w a:Bool}(p7:List (List AV)){g:Nat->Option aI}(hr:r7 rws p7)
  (h:AW P c ⟨σ.env,⟨σ.H.next,g⟩,σ.nt⟩ Q) (hj:σ.H.get j=some (.cells e s rws w a):=by(first|exact aJ|exact rfl|fail)) (hg:aY σ.H.get [(j,some (.cells e s p7 w a))]=g:=by(exact aJ)):AW P c σ Q:=fun ro E W act dP bL=>by
 subst hg;obtain⟨_,_,_,⟨cur,BZ,_,pR⟩,_,_⟩:=bL.heap.core.ok j _ hj;refine h ro E W act dP ⟨bL.defers,bL.size,bL.env,⟨bL.heap.next,bL.heap.core.lH hj hr.1.symm (fun i r r' h1 h2=> ?_) BZ⟩⟩
 have h3:=hr.2 i r r' h1 h2;refine⟨h3.1.symm,fun k x y hx hy v hv=> ?_⟩
 obtain⟨v',h4,h5⟩:=pR i k r x h1 hx;rw[hv]at h4;injection h4 with h4
 subst h4;exact RV.wk (h3.2 k x y hx hy) h5
theorem LV{P:Program}{σ:AS}{Q:Exit->AS->Prop}{c:Code}(t id:Nat){off len:Nat}{e:TypeId}{s:Nat}{rows:List (List AV)}{w a:Bool}(dU:List (List AV)){g:Nat->Option aI}(hle:off+len<=rows.length)(cS:(rows.drop off).take len=dU)
  (h:AW P c ⟨(t,true,.snap dU)::σ.env,⟨σ.H.next,g⟩,σ.nt⟩ Q) (ht:lk σ.env t=some (true,.own id off len):=by(first|exact aJ|exact rfl|fail)) (hj:σ.H.get id=some (.cells e s rows w a):=by(first|exact aJ|exact rfl|fail))
  (hg:aY σ.H.get [(id,some (.cells e s rows false a))]=g:=by(first|exact aJ|exact rfl|fail)):AW P c σ Q:=fun ro E W act dP bL=>by
 subst hg;obtain⟨hv,hH⟩:=XB bL.heap hj
 have hL:∀aL,aL∈[id]->∀(e':TypeId) (s':Nat) (dU:List (List AV)) (w' a':Bool),σ.H.get aL=some (.cells e' s' dU w' a')->dU.length*s'<=(if E.ι aL=E.ι id then max (E.L (E.ι aL)) (rows.length*s)else E.L (E.ι aL)):=fun aL h1 e' s' dU w' a' h2=>by
  simp only[dJ,iI,or_false]at h1;subst h1;rw[hj]at h2;injection h2 with h2
  injection h2 with h3 h4 h5
  subst h4 h5;rw[if_pos rfl];omega
 have N1:=bL.mono hv hH;obtain⟨v,h1,h2,-⟩:=bL.env t _ _ ht;have h3:=JT bL.heap.core hv (h2 rfl) (fun aL h5=>hL aL (by simpa[tW]using h5))
 have h4:oL σ.H.get (.own id off len)= .snap dU:=by simp[oL,rowsOf,hj,hle,cS]
 rw[h4]at h3;refine wpIn_mono (h ro _ W act dP ⟨N1.defers,N1.size,fun t' c' b hb=> ?_,N1.heap⟩) fun e' a' w' ⟨E',aN,h2,h3,h4,h5⟩=>⟨E',aN,(eU.of hv rfl).trans h2,h3,h4,h5⟩
 simp only[lk]at hb;split at hb
 ·rename_i T6
  subst T6;simp only[bM,cQ]at hb;obtain⟨rfl,rfl⟩:=hb;exact⟨v,h1,fun _=>h3,fun h=>by cases h⟩
 ·exact N1.env t' c' b hb
theorem oW.less{P:Program}{m:FuncId}{args:List AV}{H0 H:Heap}{r:Option Value}{Q:Heap->Prop}(h:oW P m args H0 r Q)(hl:VO H0 H):oW P m args H r Q:=⟨h.1,fun E W vs hH hr=>h.2 E W vs (hH.less hl) hr⟩
theorem aN2{P:Program}{σ:AS}{rs:List ResultVar}{m:FuncId}{cargs:List AV}{Q:AV->Heap->Prop}{x:Value}{R:Heap->Prop}(hd:oW P m cargs σ.H (some x) R)(h:∀H',R H'->∃a,iL P {σ with H:=H'} rs=some a/\Q a H'):OL P rs m cargs Q (.panic (lV x)) σ:=
 ⟨x,rfl,hd.mono fun H' hR=>by
   obtain⟨a,h1,h2⟩:=h H' hR
   show nB (iL P _ rs) _
   rw[h1]
   exact h2⟩
section
variable {P : Program} {σ : AS} {Q : Exit -> AS -> Prop}
end
end Go.AL
namespace Go.AL
open Go.RowKit
def qA(P:Program)(n:FuncId)(args:List AV)(H:Heap)(Q:AV->Heap->Prop)(Qx:Value->Heap->Prop):Prop:=
 sB P n=true/\∀(E:Env) (W:World) (vs:List Value),RH E W H->bP E W args vs->
  Calls P n vs.toArray W fun e W'=>∃E' H',bE E W E' W'/\RH E' W' H'/\((∃v r,e= .returned v/\RV E' W' r v/\Q r H')\/∃x,e= .panicked (lV x)/\Qx x H')
def tN(P:Program)(rs:List ResultVar)(Q:AV->Heap->Prop)(Qx:Value->Heap->Prop):Exit->AS->Prop
 | .normal,σ=>bT P rs Q .normal σ
 | .ret,σ=>bT P rs Q .ret σ
 | .panic ch,σ=>∃x,ch=lV x/\Qx x σ.H
 |_,_=>False
theorem K4{P:Program}{n:FuncId}{fn:Func}{c:Code}{args:List AV}{H:Heap}{Q:AV->Heap->Prop}{Qx:Value->Heap->Prop}(hf:P.funcs[n]? =some fn)(hb:fn.body=some c)(eW:(fn.name== "runtime.NumGoroutine")=false)(hlen:args.length<=fn.ntmps)
  (h:AW P c ⟨jW 0 args,H,fn.ntmps⟩ (hold (tN P fn.results.toList Q Qx) ⟨⟩)):qA P n args H Q Qx:=by
 refine⟨by unfold sB;rw[hf];simp[eW,hb],fun E W vs hH hr=> ?_⟩
 refine callsIn_wide.1 (callsIn_of_wp_marks (F:=Fence.wide) (n:=3) hf hb trivial ?_);refine wpIn_mono (h none E W _ (fun l h=>by cases h) (T1 hlen hH hr)) fun e a w ⟨E',aN,h1,h2,h3,h4⟩=> ?_
 obtain⟨Ds,qD,tV,uW⟩:=h2.defers;have yF:∀D∈Ds,W.heap.size<=D:=fun D hD=>(h1.new D (JG qD hD)).resolve_left (fun h=>by cases h)
 have fin:nB (iL P aN fn.results.toList) (hold (fun a=>Q a aN.H) ⟨⟩)->LeavesInM Fence.wide 3 P fn a.tmps (fun e W'=>∃E' H',bE E W E' W'/\RH E' W' H'/\((∃v r,e= .returned v/\RV E' W' r v/\Q r H')\/∃x,e= .panicked (lV x)/\Qx x H')) a.defers .returning w:=fun hq=>by
  obtain⟨b,hb,hq⟩:=EF hq
  have key:=JM (P:=P) (fn:=fn) (tmps:=a.tmps) (R:=fun e W'=>∃E' H',bE E W E' W'/\RH E' W' H'/\((∃v r,e= .returned v/\RV E' W' r v/\Q r H')\/∃x,e= .panicked (lV x)/\Qx x H')) (I:=fun w'=>bE E W E' w'/\Rel E' w' aN {a with defers:=[]}) (u:= .returning) (by simp) (rest:=[]) a.defers Ds qD h1.vY tV
   (fun D hD w' hw hI=>⟨hI.1.shut hH.core.lim (yF D hD),hI.2.shut hw⟩) (fun w' hI=> ?_) (fun D hD=>(uW D hD).1) ⟨h1.nP,⟨Marks.nil _ _,h2.size,h2.env,h2.heap⟩⟩
  ·rw[v7]at key;exact key
  ·obtain⟨v,h5,h6⟩:=S0 hI.2 hb
   exact⟨v,h5,E',aN.H,hI.1,hI.2.heap,.inl ⟨v,b,rfl,h6,hq⟩⟩
 cases e with
 |normal=>exact fin h4
 |ret=>exact fin h4
 |panic ch=>
  obtain⟨x,h4,h5⟩:=h4;subst h4
  have key:=JM (P:=P) (fn:=fn) (tmps:=a.tmps) (R:=fun e W'=>∃E' H',bE E W E' W'/\RH E' W' H'/\((∃v r,e= .returned v/\RV E' W' r v/\Q r H')\/∃x,e= .panicked (lV x)/\Qx x H')) (I:=fun w'=>bE E W E' w'/\Rel E' w' aN {a with defers:=[]}) (u:= .panicking (lV x)) (by simp) (rest:=[]) a.defers Ds qD h1.vY tV
   (fun D hD w' hw hI=>⟨hI.1.shut hH.core.lim (yF D hD),hI.2.shut hw⟩) (fun w' hI=>⟨E',aN.H,hI.1,hI.2.heap,.inr ⟨x,rfl,h5⟩⟩) (fun D hD=>(uW D hD).1) ⟨h1.nP,⟨.nil E' w,h2.size,h2.env,h2.heap⟩⟩
  rw[v7]at key;exact key
 |_=>exact h4.elim
section
variable {P : Program} {σ : AS} {Q : Exit -> AS -> Prop}
theorem Ys{id:Nat}{ops:Array Oper}(k:Nat){o:Oper}{f:Operand}{as:Array Operand}{ts:Array TypeId}(ho:ops[k]? =some o)(hd:ops.toList.all (fS σ.nt)=true)(aS:o.op= .call ⟨.value f,as,ts⟩)(hg:o.guard=none)
  (h:b8 P true ops (ops.toList.take k) σ (hold (fun aN=>∃n args,fN (aN.get true f) (dN (aN.get true) as.toList)=some (n,args)/\qA P n args aN.H (fun a H'=>b8 P true ops (ops.toList.drop (k+1)) (({aN with H:=H'}:AS).put o.dst true a) (Q .normal)) fun x H'=>Q (.panic (lV x)) {aN with H:=H'}) ⟨⟩)):AW P (.region id ops false) σ Q:=fun ro E W act dP hr=>by
 refine wpIn_region ?_;have hk:k<ops.size:=(k7.1 ho).1;have lC:∀x∈ops.toList,fS σ.nt x=true:=fun x hx=>by simpa using iM.1 hd x hx
 rw[Yg hk];refine B6 _ _ _ ?_;refine G8 (List.range k) (ops.toList.take k) (map_take (Y2 hk)) h (iM.2 fun x hx=>lC x (GO hx)) hr (fun E' W' aN cK hv cG cL hK=> ?_)
 obtain⟨n,args,hc,gZ⟩:=hK
 show wpOpsIn (l7 ro) 3 P ops _ (k::List.range' (k+1) (ops.size-(k+1))) cK W'
 simp only[wpOpsIn,ho];rw[if_pos (by simp[Region.wanted,hg])]
 obtain⟨first,cap,mC,hf,has,rfl⟩:=yC hc
 have h1:=cG.get rfl hf;have h2:=uT (E:=E') (W:=W') (ρ:=cK.eval) (fun x b hb=>cG.get rfl hb) _ _ has
 generalize nD:cK.eval f=fv at h1;cases h1 with
 |fn _ _ _ vf vc hl dG h3 h4=>
 have lE:bP E' W' (first++mC++cap) (vf.toList++as.toList.map cK.eval++vc.toList):=by
  refine(bP.append ?_ h2).append ?_
  ·exact⟨by simpa using hl,fun i x v hx hv=>h3 i x v hx (by simpa using hv)⟩
  ·exact⟨by simpa using dG,fun i x v hx hv=>h4 i x v hx (by simpa using hv)⟩
 have fV:=gZ.2 E' W' _ cG.heap lE
 have eQ:(execOp cK.eval o).run P W'= .ok (.enter n (vf.toList++as.toList.map cK.eval++vc.toList).toArray) W':=by
  simp only[execOp,aS,resolve,nD,Deferred.ofValue,Sem.run_bind,Sem.run_pure,Result.andThen_ok,invoke];rw[yE gZ.1];congr 2;apply zT;simp
 refine⟨fun _ _=>trivial,?_⟩
 rw[Oper.semAt_eq _ _ _ (fun c h=>by rw[aS]at h;cases h),eQ]
 refine⟨yB,zK (fV.mono fun e W2 ⟨E2,H2,fI,NB,hq⟩=> ?_)⟩
 rcases hq with⟨v,r,rfl,iP,hq⟩|⟨x,rfl,hq⟩
 ·have RU:=(cG.mono fI NB).put (dst:=o.dst) (nR (by rw[show({aN with H:=H2}:AS).nt=aN.nt from rfl,cL];exact lC o (fJ (by simpa using ho)))) (c:=true) (fun _=>iP) (fun h=>by cases h)
  refine G8 _ (ops.toList.drop (k+1)) (map_drop hk) hq (iM.2 fun x hx=>by rw[AS.rK];show fS aN.nt x=true;rw[cL];exact lC x (BA hx)) RU (fun E3 W3 WY ce4 CK N2 Vl hK3=> ?_)
  exact⟨E3,WY,(hv.trans (.of fI rfl)).trans ⟨CK.nP,fun D hD=>by have:=CK.new D hD;rwa[Act.put_defers]at this,by rw[CK.vY,Act.put_defers]⟩,N2,by rw[Vl,AS.rK];exact cL,hK3⟩
 ·exact⟨E2,_,hv.trans (.of fI rfl),cG.mono fI NB,cL,hq⟩
theorem LX{rs:List ResultVar}{A:AV->Heap->Prop}{X:Value->Heap->Prop}(h:bT P rs A .normal σ):tN P rs A X .normal σ:=h
theorem s9{rs:List ResultVar}{A:AV->Heap->Prop}{X:Value->Heap->Prop}{x:Value}(h:X x σ.H):tN P rs A X (.panic (lV x)) σ:=⟨x,rfl,h⟩
end
theorem aN0{P:Program}{n m:FuncId}{fn:Func}{args cargs:List AV}{H:Heap}{R:AV->Heap->Prop}{rs:List ResultVar}{nt i0 i1:Nat}{EL EM:Array Oper}{o1 o2:Oper}{f:Operand}{as:Array Operand}{ts:Array TypeId}{rest:Code}{p p1:AS×List Oper}(hf:P.funcs[n]? =some fn)(cL:fn.ntmps=nt)
  (h:AW P rest (p1.1.put o2.dst true (.c undef)) (hold (OL P rs m cargs (hold (HW R) ⟨⟩)) ⟨⟩))
  (hb:fn.body=some (.seq (.region i0 EL false) (.seq (.region i1 EM false) rest)):=by(first|rfl|fail)) (T4:EM= #[o1,o2]:=by(first|rfl|fail)) (aS:o2.op= .defer ⟨.value f,as,ts⟩:=by(first|rfl|fail)) (hg:o2.guard=none:=by(first|rfl|fail)) (hr:fn.results=List.toArray rs:=by(first|rfl|fail)) (eW:(fn.name== "runtime.NumGoroutine")=false:=by(first|kernel_rfl|fail)) (hlen:args.length<=nt:=by(simp only[iQ,kT];decide))
  (DY:EL.toList.all (fS nt)=true:=by(first|rfl|fail)) (Hv:EM.toList.all (fS nt)=true:=by(first|rfl|fail))
  (AM:run P EL.toList EL.toList ⟨jW 0 args,H,nt⟩=p:=by(exact aJ)) (hp:p.2=[]:=by(first|rfl|fail)) (Hw:p.1.nt=nt:=by(first|rfl|fail)) (wR:run P EM.toList [o1] p.1=p1:=by(exact aJ)) (QJ:p1.2=[]:=by(first|rfl|fail)) (hc:fN (p1.1.get true f) (dN (p1.1.get true) as.toList)=some (m,cargs):=by(exact aJ))
  :fW P n args H R:=by
 refine fW.Yc (Yl (m:=m) (cargs:=cargs) hf hb eW (by rw[cL];exact hlen) ?_)
 rw[cL,hr];refine Yj ?_;refine Gd DY AM ?_;rw[hp];refine lP ⟨rfl,?_⟩;refine Yi ?_;subst T4;refine Yh 1 (o:=o2) (f:=f) (as:=as) (ts:=ts) rfl (by rw[Hw];exact Hv) aS hg ?_
 refine nF _ _ wR ?_;rw[QJ];refine lP (GC ⟨hc,?_⟩);exact h
end Go.AL
namespace Go.AL
open Go.RowKit
theorem qA.mono{P:Program}{n:FuncId}{args:List AV}{H:Heap}{Q Q':AV->Heap->Prop}{X X':Value->Heap->Prop}(h:qA P n args H Q X)(hq:∀r H',Q r H'->Q' r H')(hx:∀x H',X x H'->X' x H'):qA P n args H Q' X':=
 ⟨h.1,fun E W vs hH hr=>(h.2 E W vs hH hr).mono fun e W' ⟨E',H',h1,h2,h3⟩=>⟨E',H',h1,h2,h3.elim (fun⟨v,r,a,b,c⟩=> .inl ⟨v,r,a,b,hq _ _ c⟩) fun⟨x,a,b⟩=> .inr ⟨x,a,hx _ _ b⟩⟩⟩
theorem qA.pc{P:Program}{n:FuncId}{args:List AV}{H:Heap}{a:AV}(h:eA P n args (·=a))(hn:∀x∈args,bF x):qA P n args H (fun r H'=>r=a/\H'=H) (fun _ _=>False):=
 ⟨h.1,fun E W vs hH hr=>(h.run hn hH hr).mono fun e W' ⟨v,he,r,L',h1,h2,h3,h4,h5⟩=>⟨_,H,h1,h2,.inl ⟨v,r,he,h3,h5,rfl⟩⟩⟩
theorem qA.xc{P:Program}{n:FuncId}{args:List AV}{H:Heap}{x:Value}(h:DI P n args x)(hn:∀x∈args,bF x):qA P n args H (fun _ _=>False) (fun y H'=>y=x/\H'=H):=
 ⟨h.1,fun E W vs hH hr=>(h.run hn hH hr).mono fun e W' ⟨he,h1,h2⟩=>⟨E,H,h1,h2,.inr ⟨x,he,rfl,rfl⟩⟩⟩
def LP(P:Program)(n:FuncId)(args:List AV)(g:Prop)(a:AV)(x:Value):Prop:=(g->eA P n args (·=a))/\(¬g->DI P n args x)
theorem LP.r{P:Program}{n:FuncId}{args:List AV}{H:Heap}{g:Prop}{a:AV}{x:Value}(h:LP P n args g a x)(hn:∀x∈args,bF x):qA P n args H (fun r H'=>g/\r=a/\H'=H) (fun y H'=>¬g/\y=x/\H'=H):=by
 by_cases hg:g
 ·exact(qA.pc (h.1 hg) hn).mono (fun r H' hr=>⟨hg,hr⟩) fun _ _ hf=>hf.elim
 ·exact(qA.xc (h.2 hg) hn).mono (fun _ _ hf=>hf.elim) fun y H' hr=>⟨hg,hr⟩
section
variable {P : Program} {σ : AS} {Q : Exit -> AS -> Prop}
def wU(P:Program)(ops:Array Oper)(dst:Option Tmp)(f:Operand)(as:Array Operand)(k:Nat)(Q:Exit->AS->Prop)(aN:AS):Prop:=∃n args,fN (aN.get true f) (dN (aN.get true) as.toList)=some (n,args)/\qA P n args aN.H (fun a H'=>b8 P true ops (ops.toList.drop (k+1)) (({aN with H:=H'}:AS).put dst true a) (Q .normal)) fun x H'=>Q (.panic (lV x)) {aN with H:=H'}
theorem s6(k:Nat){id:Nat}{ops:Array Oper}{o:Oper}{l l3:List Oper}{f:Operand}{as:Array Operand}{ts:Array TypeId}{p:AS×List Oper}(h:b8 P true ops p.2 p.1 (hold (wU P ops o.dst f as k Q) ⟨⟩))
  (ho:ops.toList.drop k=o::l3:=by(first|rfl|fail)) (hl:ops.toList.take k=l:=by(first|rfl|fail)) (hd:ops.toList.all (fS σ.nt)=true:=by(first|rfl|fail)) (aS:o.op= .call ⟨.value f,as,ts⟩:=by(first|rfl|fail)) (hg:o.guard=none:=by(first|rfl|fail))
  (hr:run P ops.toList l σ=p:=by(exact aJ)):AW P (.region id ops false) σ Q:=by
 subst hl
 have yO:ops[k]? =some o:=by
  have h1:=congrArg (fun l=>l[0]?) ho
  simpa using h1
 exact Ys k yO hd aS hg (nF _ _ hr h)
theorem s8{k:Nat}{ops:Array Oper}{dst:Option Tmp}{l2:List Oper}{f:Operand}{as:Array Operand}{n:FuncId}{args:List AV}{g:Prop}{a:AV}{x:Value}{p:AS×List Oper}(hR:LP P n args g a x)
  (h2:¬g->Q (.panic (lV x)) σ) (h1:g->b8 P true ops p.2 p.1 (Q .normal))
  (dG:ops.toList.drop (k+1)=l2:=by(first|rfl|fail)) (hc:fN (σ.get true f) (dN (σ.get true) as.toList)=some (n,args):=by(exact aJ))
  (hn:∀a∈args,bF a:=by(first|exact iH|(simp[fH,eM,fC,fD,iA,iB,hZ, *];done)|fail))
  (mD:run P ops.toList l2 (σ.put dst true a)=p:=by(exact aJ)):wU P ops dst f as k Q σ:=by
 subst dG;refine⟨n,args,hc,(hR.r hn).mono (fun r H' ⟨hg,hra,hH⟩=> ?_) fun y H' ⟨hg,hy,hH⟩=> ?_⟩
 ·subst hra hH
  exact nF _ _ mD (h1 hg)
 ·subst hy hH
  exact h2 hg
theorem aN1(k:Nat){id:Nat}{ops:Array Oper}{o:Oper}{l l2:List Oper}{f:Operand}{as:Array Operand}{ts:Array TypeId}{n:FuncId}{aN:AS}{args:List AV}{R:AV->Heap->Prop}{X:Value->Heap->Prop}(hR:qA P n args aN.H R X)
  (h1:∀a H',R a H'->b8 P true ops l2 (({aN with H:=H'}:AS).put o.dst true a) (Q .normal)) (h2:∀x H',X x H'->Q (.panic (lV x)) {aN with H:=H'})
  (ho:ops[k]? =some o:=by(first|rfl|fail)) (hl:ops.toList.take k=l:=by(first|rfl|fail)) (dG:ops.toList.drop (k+1)=l2:=by(first|rfl|fail)) (hd:ops.toList.all (fS σ.nt)=true:=by(first|rfl|fail)) (aS:o.op= .call ⟨.value f,as,ts⟩:=by(first|rfl|fail)) (hg:o.guard=none:=by(first|rfl|fail))
  (hr:run P ops.toList l σ=(aN,[]):=by(exact aJ)) (hc:fN (aN.get true f) (dN (aN.get true) as.toList)=some (n,args):=by(exact aJ)):AW P (.region id ops false) σ Q:=by
 subst hl dG;exact Ys k ho hd aS hg (nF _ _ hr (lP ⟨n,args,hc,hR.mono h1 h2⟩))
theorem LW{P:Program}{n:FuncId}{fn:Func}{c:Code}{args:List AV}{H:Heap}{R:AV->Heap->Prop}{X:Value->Heap->Prop}{rs:List ResultVar}{nt:Nat}(hf:P.funcs[n]? =some fn)(cL:fn.ntmps=nt)
  (h:AW P c ⟨jW 0 args,H,nt⟩ (hold (tN P rs R X) ⟨⟩))
  (hb:fn.body=some c:=by(first|rfl|fail)) (hr:fn.results=List.toArray rs:=by(first|rfl|fail)) (eW:(fn.name== "runtime.NumGoroutine")=false:=by(first|kernel_rfl|fail)) (hlen:args.length<=nt:=by(simp only[iQ,kT];decide)):qA P n args H R X:=by
 refine K4 hf hb eW (by rw[cL];exact hlen) ?_
 rw[cL,hr];exact h
end
theorem Rk{P:Program}{m:FuncId}{fn:Func}{id:Nat}{ops:Array Oper}{y:Code}{args:List AV}{H:Heap}{r:Option Value}{Q:Heap->Prop}{o:Oper}{ts:Array TypeId}{t:Tmp}{rs:List ResultVar}{nt:Nat}(hf:P.funcs[m]? =some fn)(cL:fn.ntmps=nt)
  (h:AW P y ⟨(t,true,.c (mE r))::jW 0 args,H,nt⟩ (hold (fun e σ=>(e= .normal\/e= .ret)/\(∃a,iL P σ rs=some a)/\Q σ.H) ⟨⟩)) (hb:fn.body=some (.seq (.region id ops false) y):=by(first|rfl|fail)) (hr:fn.results=List.toArray rs:=by(first|rfl|fail)) (eW:(fn.name== "runtime.NumGoroutine")=false:=by(first|kernel_rfl|fail)) (hlen:args.length<=nt:=by(simp only[iQ,kT];decide))
  (ho:ops= #[o]:=by(first|rfl|fail)) (aS:o.op= .call ⟨.builtin .recover,#[],ts⟩:=by(first|rfl|fail)) (hg:o.guard=none:=by(first|rfl|fail)) (CR:o.dst=some t:=by(first|rfl|fail)) (hd:fS nt o=true:=by(first|rfl|fail)) (hx:vW (mE r)=false:=by(first|rfl|fail)):oW P m args H r Q:=by
 subst cL;refine bD0 hf hb eW hlen ho aS hg hd hx ?_;simp only[AS.put,CR];rw[hr];exact h
structure gH(K:AS->Prop)(σ:AS):Prop where
 out:K σ
theorem gM{P:Program}{σ:AS}{c:Code}{K:AS->Prop}{Q:Exit->AS->Prop}(h:AW P c σ (cF (gH K) Q)):AW P c σ (cF K Q):=h.mono fun e aN=>by
 cases e<;>first|exact id|exact fun h=>h.out
end Go.AL
namespace Go.AL
open Go.RowKit
theorem LU{P:Program}{σ:AS}{Q:Exit->AS->Prop}{c:Code}(t:Nat){a:AV}(b:AV)(hw:Wk a b)(h:AW P c ⟨(t,true,b)::σ.env,σ.H,σ.nt⟩ Q)
  (ht:lk σ.env t=some (true,a):=by(first|exact aJ|exact rfl|fail)):AW P c σ Q:=fun ro E W act dP bL=>by
 refine h ro E W act dP ⟨bL.defers,bL.size,fun t' c' x hb=> ?_,bL.heap⟩
 simp only[lk]at hb;split at hb
 ·rename_i T6
  subst T6;simp only[bM,cQ]at hb;obtain⟨rfl,rfl⟩:=hb;obtain⟨v,h1,h2,-⟩:=bL.env t' _ _ ht;exact⟨v,h1,fun _=>RV.wk hw (h2 rfl),fun h=>by cases h⟩
 ·exact bL.env t' c' x hb
theorem CA{P:Program}{σ:AS}{Q:Exit->AS->Prop}{c:Code}(env:List (Nat×Bool×AV))(m:Nat)(T:List (Nat×Option aI))(h:AW P c ⟨env,⟨m,bN T⟩,σ.nt⟩ Q)(k:AW P c ⟨env,⟨m,bN T⟩,σ.nt⟩ Q->AW P c σ Q):AW P c σ Q:=k h
def tS(P:Program)(σ:AS)(K:AS->Prop):Prop:=∀(E:Env) (W:World) (act:Act),Rel E W σ act->∃E' aN,eU E W act E' W act/\Rel E' W aN act/\aN.nt=σ.nt/\K aN
theorem LY{P:Program}{σ:AS}{K:AS->Prop}(id j:Nat){e e2:TypeId}{s s2:Nat}{rows rws:List (List AV)}{w a w2 a2:Bool}(p7:List (List AV))(hg:σ.H.get id=some (.cells e s rows w a))(hj:σ.H.get j=some (.cells e2 s2 rws w2 a2))(kZ:j≠id)
  (hr:FL id rows rws p7) (h:K ⟨σ.env,⟨σ.H.next,aY (aY σ.H.get [(id,some (.cells e s rows false a))]) [(j,some (.cells e2 s2 p7 w2 a2))]⟩,σ.nt⟩):tS P σ K:=fun E W act bL=>by
 obtain⟨hv,hH⟩:=XB bL.heap hg
 have hL:∀aL,aL∈[id]->∀(e':TypeId) (s':Nat) (dU:List (List AV)) (w' a':Bool),σ.H.get aL=some (.cells e' s' dU w' a')->dU.length*s'<=(if E.ι aL=E.ι id then max (E.L (E.ι aL)) (rows.length*s)else E.L (E.ι aL)):=fun aL h1 e' s' dU w' a' h2=>by
  simp only[dJ,iI,or_false]at h1;subst h1;rw[hg]at h2;injection h2 with h2
  injection h2 with h3 h4 h5
  subst h4 h5;rw[if_pos rfl];omega
 have DF:(aY σ.H.get [(id,some (.cells e s rows false a))]) j=some (.cells e2 s2 rws w2 a2):=by
  simp only[aY];rw[if_neg kZ];exact hj
 --J8 values of J8 block j in J8 vY world
 obtain⟨_,_,_,⟨cur,BZ,_,pR⟩,_,_⟩:=bL.heap.core.ok j _ hj
 have Ho:RC ⟨E.ι,E.sz,E.U,fun b=>if b=E.ι id then max (E.L b) (rows.length*s)else E.L b⟩ W (aY (aY σ.H.get [(id,some (.cells e s rows false a))]) [(j,some (.cells e2 s2 p7 w2 a2))]):=by
  refine hH.core.lH DF hr.1 (fun i r r' h1 h2=>⟨(hr.2 i r r' h1 h2).1,fun k x y hx hy v Hp=> ?_⟩) BZ
  obtain⟨v',h3,h4⟩:=pR i k r x h1 hx;rw[Hp]at h3;injection h3 with h3
  subst h3;rcases(hr.2 i r r' h1 h2).2 k x y hx hy with rfl|⟨off,len,rfl,hle,rfl⟩
  ·exact h4.mono hv
  ·have:=JT bL.heap.core hv h4 (fun aL h5=>hL aL (by simpa[tW]using h5))
   simpa[oL,rowsOf,hg,hle]using this
 exact⟨_,⟨σ.env,⟨σ.H.next,aY (aY σ.H.get [(id,some (.cells e s rows false a))]) [(j,some (.cells e2 s2 p7 w2 a2))]⟩,σ.nt⟩,eU.of hv rfl,bL.mono hv ⟨hH.next,Ho⟩,rfl,h⟩
theorem Rz{P:Program}{σ:AS}{K:AS->Prop}(j:Nat){e:TypeId}{s:Nat}{rws:List (List AV)}{w a:Bool}(p7:List (List AV)){g:Nat->Option aI}(hr:r7 rws p7)
  (h:K ⟨σ.env,⟨σ.H.next,g⟩,σ.nt⟩) (hj:σ.H.get j=some (.cells e s rws w a):=by(first|exact aJ|exact rfl|fail)) (hg:aY σ.H.get [(j,some (.cells e s p7 w a))]=g:=by(exact aJ)):tS P σ K:=fun E W act bL=>by
 subst hg;obtain⟨_,_,_,⟨cur,BZ,_,pR⟩,_,_⟩:=bL.heap.core.ok j _ hj;refine⟨_,⟨σ.env,⟨σ.H.next,aY σ.H.get [(j,some (.cells e s p7 w a))]⟩,σ.nt⟩,eU.refl E W act,⟨bL.defers,bL.size,bL.env,⟨bL.heap.next,bL.heap.core.lH hj hr.1.symm (fun i r r' h1 h2=> ?_) BZ⟩⟩,rfl,h⟩
 have h3:=hr.2 i r r' h1 h2;refine⟨h3.1.symm,fun k x y hx hy v hv=> ?_⟩
 obtain⟨v',h4,h5⟩:=pR i k r x h1 hx;rw[hv]at h4;injection h4 with h4
 subst h4;exact RV.wk (h3.2 k x y hx hy) h5
theorem Ry{P:Program}{σ:AS}{Q:Exit->AS->Prop}{K:AS->Prop}{c:Code}(h:AW P c σ (cF (fun aN=>tS P aN K) Q)):AW P c σ (cF K Q):=fun ro E W act dP bL=>
 wpIn_mono (h ro E W act dP bL) fun e a w ⟨E',aN,h1,h2,h3,h4⟩=>by
  cases e with
  |normal=>
   obtain⟨E2,y2,h5,h6,h7,h8⟩:=h4 E' w a h2;exact⟨E2,y2,h1.trans h5,h6,h7.trans h3,h8⟩
  |_=>exact⟨E',aN,h1,h2,h3,h4⟩
end Go.AL
