/- Staging. No condition. -/
import Derived.Test.YtioafciifiggaaaGreatDoorL0
import Derived.Test.YtioafciifiggaaaGreatDoorLe
set_option linter.all false
namespace Go.AL
open Go.RowKit
theorem fU.cm6{P:Program}{n:FuncId}{args:List AV}{H:Heap}{Q:AV->Heap->Prop}(h:fU P n args H fun r H'=>∃xs,r= .aU xs/\Q (.aU (xs.map (o0 H'.get))) ⟨H'.next,u9 H'.get (mC nD xs)⟩):fU P n args H Q:=
 ⟨h.1,fun E W vs hH hr=>(h.2 E W vs hH hr).mono fun e W' ⟨v,he,E',r,H',h1,h2,h3,xs,hx,hq⟩=>by
   subst hx;obtain⟨L1,h4,h5,h6⟩:=N9 (W:=W') (mC nD xs) h2;refine⟨v,he,_,_,_,h1.trans h4,h5,?_,hq⟩;cases h3 with
   |aU _ us hl hr=>
    refine .aU _ us (by simpa using hl) fun i x v hx hv=> ?_
    rw[gE]at hx;cases hy:xs[i]? with
    |none=>rw[hy]at hx;cases hx
    |some y=>
     rw[hy]at hx;injection hx with hx
     subst hx
     exact Y4 h2.core h4 (hr i y v hy hv) fun id aB=>h6 id (N8 (eS hy) aB)⟩
structure l6(P:Program)(n:FuncId)(args:List AV)(id:Nat)(b0:aI)(b1:Option aI)(a:AV)(d:Nat):Prop where
 act:∀N G,G id=some b0->fU P n args ⟨N,G⟩ fun r H'=>r=a/\H'=⟨N+d,aX G [(id,b1)]⟩
def NV(N:Nat)(G:Nat->Option aI)(id:Nat)(b1:Option aI)(a:AV)(d:Nat)(r:AV)(H':Heap):Prop:=
 ∃xs T GT,r= .aU xs/\u9 H'.get (mC nD xs)=GT/\GT=fR G T/\H'.next<=N+d/\B8 G T [(id,b1)]/\xP N [(id,b1)] T/\Wk (.aU (xs.map (o0 H'.get))) a
theorem NV.mk{N:Nat}{G:Nat->Option aI}{id:Nat}{b1:Option aI}{a:AV}{d:Nat}{xs:List AV}{T:List (Nat×Option aI)}{GT:Nat->Option aI}{H':Heap}(h1:u9 H'.get (mC nD xs)=GT)(h2:GT=fR G T)(h3:H'.next<=N+d)(h4:B8 G T [(id,b1)])(h5:xP N [(id,b1)] T)(h6:Wk (.aU (xs.map (o0 H'.get))) a):NV N G id b1 a d (.aU xs) H':=
 ⟨xs,T,GT,rfl,h1,h2,h3,h4,h5,h6⟩
theorem mstart{P:Program}{n:FuncId}{fn:Func}{c:Code}{args:List AV}{id:Nat}{b0:aI}{b1:Option aI}{a:AV}{d:Nat}{rs:List ResultVar}{nt:Nat}(hf:P.funcs[n]? =some fn)(cM:fn.ntmps=nt)
  (h:∀N G,id<N->G id=some b0->(∀k,N<=k->G k=none)->AW P c ⟨mB 0 args,⟨N,fR G []⟩,nt⟩ (hold (cH P rs (hold (NV N G id b1 a d) ⟨⟩)) ⟨⟩))
  (hb:fn.body=some c:=by rfl) (hr:fn.results=List.toArray rs:=by rfl) (fI:(fn.name== "runtime.NumGoroutine")=false:=by kernel_rfl) (hlen:args.length<=nt:=by(simp only[dK,fJ];decide)):l6 P n args id b0 b1 a d:=by
 refine⟨fun N G jL=>⟨by unfold rD;rw[hf];simp[fI,hb],fun E W vs hH iF=> ?_⟩⟩
 have hG:∀k,N<=k->G k=none:=fun k hk=>by
  cases hg:G k with
  |none=>rfl
  |some b=>
   have h1:=hH.next k (hH.core.ok k b hg).1
   simp only[]at h1;omega
 have aB:id<N:=by
  rcases oA id N with h1|h1
  ·exact h1
  ·rw[hG id h1]at jL;cases jL
 have h1:=h N G aB jL hG
 have hA:fU P n args ⟨N,G⟩ (NV N G id b1 a d):=by
  refine FR (H:=⟨N,G⟩) hf hb fI (by rw[cM];exact hlen) ?_
  rw[cM,hr];exact h1
 have hB:fU P n args ⟨N,G⟩ fun r H'=>∃pV,XV pV H'/\Wk r a/\pV=⟨N+d,aX G [(id,b1)]⟩:=
  fU.cm6 (hA.mono fun r H' ⟨xs,T,GT,h2,h3,Rv,h4,h5,h6,h7⟩=>⟨xs,h2,_,⟨h4,fun k b hk=>by
   have h8:=UP hG h5 h6 k b hk;rw[<-Rv,<-h3]at h8
   exact h8⟩,h7,rfl⟩)
 exact(hB.2 E W vs hH iF).mono fun e W' ⟨v,he,E',r,H',h2,h3,h4,pV,h5,h6,h7⟩=>⟨v,he,E',a,pV,h2,h3.less h5,RV.wk h6 h4,rfl,h7⟩
section
variable {P : Program} {σ : AS} {Q : Exit -> AS -> Prop}
theorem Rw{ops:Array Oper}{o:Oper}{rest:List Oper}{K:AS->Prop}{f:Operand}{as:Array Operand}{ts:Array TypeId}{n:FuncId}{id i j d:Nat}{args:List AV}{b0:aI}{b1:Option aI}{r:AV}{p:AS×List Oper}(h:b9 P true ops p.2 p.1 K)(aO:o.op= .call ⟨.value f,as,ts⟩:=by(first|rfl|fail))(hg:o.guard=none:=by(first|rfl|fail))
  (hc:fZ (σ.get true f) (dZ (σ.get true) as.toList)=some (n,.ptr id i j::args):=by(exact aL)) (hb:σ.H.get id=some b0:=by(exact aL)) (hp:l6 P n (.ptr id i j::args) id b0 b1 r d:=by(first|assumption|(apply_assumption<;>first|assumption|omega)|fail))
  (hr:run P ops.toList rest (({σ with H:=⟨σ.H.next+d,aX σ.H.get [(id,b1)]⟩}:AS).put o.dst true r)=p:=by(exact aL)):b9 P true ops (o::rest) σ K:=
 EK aO hg hc (hp.act σ.H.next σ.H.get hb) fun r' H' ⟨h1,h2⟩=>by subst h1;subst h2;exact pI _ _ hr h
theorem P2{α:Type}{c:Code}{G:Nat->Option aI}(N:Nat)(E:Nat->α->List (Nat×Bool×AV))(T:Nat->α->List (Nat×Option aI))(R:Nat->Nat->α->Prop)(h0:∃m a,R 0 m a/\Holds σ (E 0 a) ⟨m,fR G (T 0 a)⟩)
  (hk:∀k m a,k<N->R k m a->AW P c ⟨E k a,⟨m,fR G (T k a)⟩,σ.nt⟩ (dR (fun aK=>∃m' a',R (k+1) m' a'/\Holds aK (E (k+1) a') ⟨m',fR G (T (k+1) a')⟩) Q))
  (hN:∀m a,R N m a->AW P c ⟨E N a,⟨m,fR G (T N a)⟩,σ.nt⟩ (dR (fun _=>False) Q)):AW P (.loop c) σ Q:=by
 obtain⟨m,a,hR,hh⟩:=h0;refine UR (fun n env H=>∃k m a,n=N-k/\k<=N/\R k m a/\env=E k a/\H=⟨m,fR G (T k a)⟩) N ⟨_,_,⟨0,m,a,by omega,by omega,hR,rfl,rfl⟩,hh⟩ ?_
 rintro n env H ⟨k,m,a,rfl,MS,NT,rfl,rfl⟩;by_cases bG:k<N
 ·have h1:=hk k m a bG NT
  intro ro E0 W act eN cC;refine wpIn_mono (h1 ro E0 W act eN cC) fun e a' w ⟨E',aK,h2,h3,h4,h5⟩=>⟨E',aK,h2,h3,h4,?_⟩
  cases e with
  |normal=>
   obtain⟨m',SR,h6,h7⟩:=h5;exact⟨N-(k+1),by omega,_,_,⟨k+1,m',SR,rfl,by omega,h6,rfl,rfl⟩,h7⟩
  |_=>exact h5
 ·obtain rfl:k=N:=by omega
  have h1:=hN m a NT;intro ro E0 W act eN cC;refine wpIn_mono (h1 ro E0 W act eN cC) fun e a' w ⟨E',aK,h2,h3,h4,h5⟩=>⟨E',aK,h2,h3,h4,?_⟩
  cases e with
  |normal=>exact h5.elim
  |_=>exact h5
end
theorem qC{σ:AS}{env:List (Nat×Bool×AV)}{N:Nat}{G:Nat->Option aI}{T:List (Nat×Option aI)}(w:Holds σ env ⟨N,fR G T⟩:=by
  ((repeat (refine uG (by first|rfl|(simp(disch:=omega) only[go_sem, *];done)|(simp(disch:=omega) only[go_sem, *];rfl)) ?_));(refine holds_nil (by simp only[];omega) ?_);(refine UP (by assumption) ?_ ?_);(next=>((repeat (first|refine ZT (by first|rfl|(simp(disch:=omega) only[go_sem, *];done)|(simp(disch:=omega) only[go_sem, *];rfl)) ?_|refine UQ ?_));exact KR));(next=>(simp only[xP,GJ,or_false,false_or,or_true,true_or,and_true,true_and,cE]<;>omega)))):Holds σ env ⟨N,fR G T⟩:=w
theorem kO{N:Nat}{G:Nat->Option aI}{id:Nat}{b1:Option aI}{a:AV}{d:Nat}{r:AV}{H':Heap}(w:NV N G id b1 a d r H':=by
  (apply NV.mk;(next=>(first|exact aL|exact rfl|fail));(next=>(first|exact rfl|exact(Qb _).symm|fail));(next=>(simp only[];omega));(next=>(first|exact UQ KR|exact ZT (by first|rfl|(simp(disch:=omega) only[go_sem, *];done)|(simp(disch:=omega) only[go_sem, *];rfl)) KR));(next=>(simp only[xP,GJ,or_false,false_or,or_true,true_or,and_true,true_and,cE]<;>omega));(next=>(simp(maxSteps:=2000000) (disch:=omega) only[go_sem,false_implies,implies_true, *];(repeat (first|exact .refl _|exact .nil|exact sD|refine jH ?_ ?_|refine KL ?_|refine BJ ?_|refine IC ?_|exact CY|refine yN ?_ ?_)))))):NV N G id b1 a d r H':=w
theorem bW{A B:Prop}(h:B)(w:bB B->A:=by
  (intro hB;(repeat (first|refine vQ ?_|refine Fm ?_|refine Fo ?_|refine Fp ?_|refine tY ?_|refine Fq ?_|refine DX ?_|refine tF ?_|refine N7 ?_|refine bR ?_|refine gT ?_|refine RU ?_|refine RX ?_|refine RY ?_|refine RZ ?_|refine S3 ?_|refine S4 (by decide) ?_|refine RJ ?_|refine kF ?_|refine RO ?_|refine RP ?_|refine SZ ?_|refine T0 ?_|refine T1 ?_|refine T4 ?_|refine T5 ?_|refine T6 ?_|refine SH ?_|refine SI ?_|refine SV ?_|refine SW ?_|refine SX ?_|refine SY ?_|refine SS ?_|refine SU ?_|refine SF ?_|refine SG ?_|refine SJ ?_|refine FD ?_|refine RN ?_|refine RL ?_|refine SC ?_|refine SE ?_|refine SK ?_|refine Rw ?_|refine SO ?_|refine YP ?_|refine SL ?_|refine SQ ?_|refine SP ?_|refine SM ?_|refine SN ?_|refine T7 ?_|refine T8 ?_|refine T9 ?_|refine MA ?_));exact hB.out)):A:=w ⟨h⟩
end Go.AL
namespace Go.AL
open Go.RowKit
theorem qD.mono{P:Program}{m:FuncId}{args:List AV}{H:Heap}{r:Option Value}{Q Q':Heap->Prop}(h:qD P m args H r Q)(hq:∀H',Q H'->Q' H'):qD P m args H r Q':=
 ⟨h.1,fun E W vs hH hr=>(h.2 E W vs hH hr).mono fun e u' W' ⟨h1,h2,E',H',h3,h4,h5⟩=>⟨h1,h2,E',H',h3,h4,hq H' h5⟩⟩
theorem Ak{P:Program}{n m:FuncId}{fn:Func}{args cargs:List AV}{b:AV}{rs:List ResultVar}{nt i0 i1:Nat}{Fs Ft:Array Oper}{o1 o2:Oper}{f:Operand}{as:Array Operand}{ts:Array TypeId}{rest:Code}{p p1:AS×List Oper}(hf:P.funcs[n]? =some fn)(cM:fn.ntmps=nt)(eY:bK b)
  (h:AW P rest (p1.1.put o2.dst true (.c undef)) (hold (YS P rs m cargs (hold (fun a H'=>bK (cR H'.get 4 a)/\Wk (cR H'.get 4 a) b) ⟨⟩)) ⟨⟩))
  (hb:fn.body=some (.seq (.region i0 Fs false) (.seq (.region i1 Ft false) rest)):=by(first|rfl|fail)) (Rr:Ft= #[o1,o2]:=by(first|rfl|fail)) (aO:o2.op= .defer ⟨.value f,as,ts⟩:=by(first|rfl|fail)) (hg:o2.guard=none:=by(first|rfl|fail)) (hr:fn.results=List.toArray rs:=by(first|rfl|fail)) (fI:(fn.name== "runtime.NumGoroutine")=false:=by(first|kernel_rfl|fail)) (hlen:args.length<=nt:=by(simp only[dK,fJ];decide))
  (hd0:Fs.toList.all (fY nt)=true:=by(first|rfl|fail)) (hd1:Ft.toList.all (fY nt)=true:=by(first|rfl|fail))
  (wV:run P Fs.toList Fs.toList ⟨mB 0 args,⟨0,cV []⟩,nt⟩=p:=by(exact aL)) (hp:p.2=[]:=by(first|rfl|fail)) (hpn:p.1.nt=nt:=by(first|rfl|fail)) (wQ:run P Ft.toList [o1] p.1=p1:=by(exact aL)) (Kf:p1.2=[]:=by(first|rfl|fail)) (hc:fZ (p1.1.get true f) (dZ (p1.1.get true) as.toList)=some (m,cargs):=by(exact aL))
  :eU P n args (·=b):=by
 refine eU.wk (aD3 4 (Q:=fun r=>Wk r b) (cl3 (m:=m) (cargs:=cargs) hf hb fI (by rw[cM];exact hlen) ?_)) eY
 rw[cM,hr];refine cl2 ?_;refine ay8 hd0 wV ?_;rw[hp];refine tF ⟨rfl,?_⟩;refine cl1 ?_;subst Rr;refine ck9 1 (o:=o2) (f:=f) (as:=as) (ts:=ts) rfl (by rw[hpn];exact hd1) aO hg ?_
 refine pI _ _ wQ ?_;rw[Kf];refine tF (N7 ⟨hc,?_⟩);exact h
section
variable {P : Program} {σ : AS}
theorem lM{rs:List ResultVar}{m:FuncId}{cargs:List AV}{Q:AV->Heap->Prop}{a:AV}(hd:qD P m cargs σ.H none (fun H'=>H'=σ.H))(h:Q a σ.H)(ho:jY P σ rs=some a:=by(exact aL)):YS P rs m cargs Q .ret σ:=
 hd.mono fun H' e=>by
  subst e
  show p9 (jY P σ rs) _
  rw[ho];exact h
theorem IN{rs:List ResultVar}{m:FuncId}{cargs:List AV}{Q:AV->Heap->Prop}{a:AV}{x:Value}{H2:Heap}(hd:qD P m cargs σ.H (some x) (fun H'=>H'=H2))(h:Q a H2)(ho:jY P {σ with H:=H2} rs=some a:=by(exact aL)):YS P rs m cargs Q (.panic (jD x)) σ:=
 ⟨x,rfl,hd.mono fun H' e=>by
   subst e
   show p9 (jY P _ rs) _
   rw[ho]
   exact h⟩
end
theorem P4{A B:Prop}(h:B)(w:bB B->A:=by
  (intro hB;(first|refine vQ ?_|refine Fm ?_|refine Fo ?_|refine Fp ?_|refine tY ?_|refine Fq ?_|refine DX ?_|refine tF ?_|refine N7 ?_|refine bR ?_|refine gT ?_|refine RU ?_|refine RX ?_|refine RY ?_|refine RZ ?_|refine S3 ?_|refine S4 (by decide) ?_|refine RJ ?_|refine kF ?_|refine RO ?_|refine RP ?_|refine SZ ?_|refine T0 ?_|refine T1 ?_|refine T4 ?_|refine T5 ?_|refine T6 ?_|refine SH ?_|refine SI ?_|refine SV ?_|refine SW ?_|refine SX ?_|refine SY ?_|refine SS ?_|refine SU ?_|refine SF ?_|refine SG ?_|refine SJ ?_|refine FD ?_|refine RN ?_|refine RL ?_|refine SC ?_|refine SE ?_|refine SK ?_|refine SO ?_|refine YP ?_|refine SL ?_|refine SQ ?_|refine SP ?_|refine SM ?_|refine SN ?_|refine T7 ?_|refine T8 ?_|refine T9 ?_|refine MA ?_);exact hB.out)):A:=w ⟨h⟩
end Go.AL
namespace Go.AL
open Go.RowKit
theorem RC.shrink{E:Env}{W:World}{G:Nat->Option aI}{id:Nat}{e:TypeId}{s:Nat}{rows:List (List AV)}{a:Bool}(m:Nat)(hG:RC E W G)(hg:G id=some (.cells e s rows true a)):RC E W (aX G [(id,some (.cells e s (rows.take m) true a))]):=by
 obtain⟨hU,h1,h2,⟨cur,h3,h4,h5⟩,h6,h7⟩:=hG.ok id _ hg;have hw:=h6 rfl
 have hold:∀aM b',aM≠id->aX G [(id,some (.cells e s (rows.take m) true a))] aM=some b'->G aM=some b':=fun aM b' aJ h=>by
  simpa only[aX,if_neg aJ]using h
 refine⟨hG.lim,hG.eL,fun id2 b hb=> ?_⟩
 by_cases aB:id2=id
 ·subst aB
  simp only[aX]at hb;rw[if_pos trivial]at hb;injection hb with hb
  subst hb;refine⟨hU,h1,fun i row hi=> ?_,⟨cur,h3,?_,fun i j row x hi hj=> ?_⟩,fun _=>⟨hw.1,fun aM b' aJ h=>hw.2 aM b' aJ (hold aM b' aJ h)⟩,fun _=>⟨by rw[hw.1];exact iG _,fun aM b' aJ h he=>absurd he (hw.2 aM b' aJ (hold aM b' aJ h))⟩⟩
  ·rw[gU]at hi
   split at hi
   ·exact h2 i row hi
   ·cases hi
  ·have:(rows.take m).length*s<=rows.length*s:=nN s (by rw[cU];exact aH2 _ _)
   omega
  ·rw[gU]at hi
   split at hi
   ·exact h5 i j row x hi hj
   ·cases hi
 ·have sE:=hold id2 b aB hb
  obtain⟨Zy,dO⟩:=hG.ok id2 b sE;refine⟨Zy,?_⟩;have Qk:E.ι id2≠E.ι id:=hw.2 id2 b aB sE
  have S9:∀aM b',aX G [(id,some (.cells e s (rows.take m) true a))] aM=some b'->∃b0,G aM=some b0:=fun aM b' h=>by
   by_cases hi:aM=id
   ·subst hi;exact⟨_,hg⟩
   ·exact⟨_,hold aM b' hi h⟩
  cases b with
  |map es=>
   obtain⟨k1,k2,k3⟩:=dO;refine⟨k1,k2,fun aM b' nX h=> ?_⟩
   obtain⟨b0,h0⟩:=S9 aM b' h;exact k3 aM b0 nX h0
  |iter m' n seen=>
   obtain⟨k1,k2,k3⟩:=dO;refine⟨k1,k2,fun aM b' nX h=> ?_⟩
   obtain⟨b0,h0⟩:=S9 aM b' h;exact k3 aM b0 nX h0
  |cO env nt ps assign body st MC=>
   obtain⟨k1,k2,k3⟩:=dO;refine⟨k1,k2,fun aM b' nX h=> ?_⟩
   obtain⟨b0,h0⟩:=S9 aM b' h;exact k3 aM b0 nX h0
  |cells e' s' fH w' a'=>
   obtain⟨k1,k2,k3,k4,k5⟩:=dO;refine⟨k1,k2,k3,fun Fl=>⟨(k4 Fl).1,fun aM b' nX h=> ?_⟩,fun MF=>⟨(k5 MF).1,fun aM b' nX h he=> ?_⟩⟩
   ·obtain⟨b0,h0⟩:=S9 aM b' h
    exact(k4 Fl).2 aM b0 nX h0
   ·by_cases hi:aM=id
    ·subst hi;exact absurd he.symm Qk
    ·exact(k5 MF).2 aM b' nX (hold aM b' hi h) he
theorem be6{P:Program}{σ:AS}{Q:Exit->AS->Prop}{c:Code}(id m:Nat){e:TypeId}{s:Nat}{rows:List (List AV)}{a:Bool}(hg:σ.H.get id=some (.cells e s rows true a))(h:AW P c ⟨σ.env,⟨σ.H.next,aX σ.H.get [(id,some (.cells e s (rows.take m) true a))]⟩,σ.nt⟩ Q):AW P c σ Q:=fun ro E W act eN cC=>
 h ro E W act eN ⟨cC.defers,cC.size,cC.env,⟨cC.heap.next,cC.heap.core.shrink m hg⟩⟩
end Go.AL
namespace Go.AL
open Go.RowKit
theorem Zc{P:Program}{n:FuncId}{rest:List AV}{qO el:TypeId}{k0 k m0:Nat}{lG rows:List (List AV)}(UK:∀row∈lG,∀x∈row,bK x)(dB:∀row∈rows,∀x∈row,bK x)(wV:∀a∈rest,bK a)
  (h:fU P n (.own 0 0 m0::rest) ⟨1,cV [(0,some (.cells qO k0 lG true true))]⟩ fun r H'=>∃i,r= .own i 0 rows.length/\H'.get i=some (.cells el k rows true true)) (id:Nat):AB P n (.own id 0 m0::rest) id qO k0 lG el k rows:=by
 refine⟨h.1,fun E W G aF vs hG k8 gR hr=> ?_⟩
 obtain⟨DI,Jz⟩:=hG.ok id _ k8;obtain⟨b1,b2,⟨DY,b3,b4,b5⟩,b6,b7⟩:=Jz
 let E0:Env:=⟨fun _=>E.ι id,fun _=>E.sz id,fun i=>i=0,E.L⟩
 have hto:∀{x u},RV E W x u->bK x->RV E0 W x u:=fun hx hn=>RV.HO (E:=E0) (L:=E.L) (fun _=>cE _) (hx.rE (L:=E.L) (fun _=>cE _) hn)
 have mA:RH E0 W ⟨1,cV [(0,some (.cells qO k0 lG true true))]⟩:=by
  refine⟨fun i hi=> ?_,hG.lim,fun i _=>hG.eL id DI,fun i b hb=> ?_⟩
  ·have:i=0:=hi
   subst this;exact Nat.zero_lt_one
  ·have hi:i=0:=by
    by_cases h0:i=0
    ·exact h0
    ·simp[cV,xI,h0]at hb
   subst hi;simp[cV,xI]at hb;subst hb;refine⟨rfl,b1,b2,⟨DY,b3,b4,fun i j row x h1 h2=> ?_⟩,fun _=>⟨(b6 rfl).1,fun i' b' aJ bY=> ?_⟩,fun _=>⟨(b7 rfl).1,fun i' b' aJ bY=> ?_⟩⟩
   ·obtain⟨v,h3,h4⟩:=b5 i j row x h1 h2
    exact⟨v,h3,hto h4 (UK row (eS h1) x (eS h2))⟩
   ·simp[cV,xI,aJ]at bY
   ·simp[cV,xI,aJ]at bY
 have cn0:bX E0 W (.own 0 0 m0::rest) vs:=by
  refine⟨by simpa using hr.1,fun i x v hx hv=> ?_⟩
  cases i with
  |zero=>
   simp only[nE,bC]at hx;subst hx;have h1:=hr.2 0 (.own id 0 m0) v rfl hv;rcases(wO h1).2 with⟨cap,rfl,eC,cur,e,f,h4,h5⟩|⟨oZ,a,rfl⟩
   ·exact RV.own (E:=E0) 0 0 m0 cap rfl eC ⟨cur,e,f,h4,h5⟩
   ·subst oZ;exact .mW _ _ _ rfl
  |succ i=>
   have h1:=hr.2 (i+1) x v (by simpa using hx) hv
   exact hto h1 (wV x (eS (by simpa using hx)))
 refine(h.2 E0 W vs mA cn0).mono fun x W' ⟨v,he,E1,r,H',hv,hH,iF,i,AX,cn1⟩=> ?_
 subst AX;obtain⟨zG,iB⟩:=hH.core.ok i _ cn1;obtain⟨dP,hlen,⟨cur,cK,hle,eX⟩,GR,ha1⟩:=iB;have mS:=(GR rfl).1;have L8:E0.U 0:=rfl
 have nP:W.heap.size<=E1.ι i\/E1.ι i=E.ι id:=by
  by_cases h0:E0.U i
  ·exact .inr (hv.kT i h0).1
  ·rcases hv.fresh i h0 zG with h1|⟨tH,_,h2⟩
   ·exact .inl h1
   ·exact .inr h2.symm
 have bG:E1.ι i<W'.heap.size:=hH.core.eL i zG;have JR:∀b,b<W.heap.size->b≠E.ι id->E1.L b=E.L b:=fun b hb aJ=>hv.still b hb fun _ _=>fun h=>aJ h.symm
 have hold:∀b,b<W.heap.size->b≠E.ι id->W'.heap[b]? =W.heap[b]? :=fun b hb aJ=>hv.tZ b hb fun _ _=>fun h=>aJ h.symm
 have XH:∀b,E.L b<=E1.L b:=hv.lim
 let E':Env:=⟨fun q=>if q=aF then E1.ι i else E.ι q,fun q=>if q=aF then k else E.sz q,fun q=>E.U q\/q=aF,E1.L⟩
 have cY:∀q,E.U q->E'.ι q=E.ι q:=fun q aB=>by
  show(if q=aF then _ else _)=_
  rw[if_neg];rintro rfl;exact gR aB
 have hs:∀q,E.U q->E'.sz q=E.sz q:=fun q aB=>by
  show(if q=aF then _ else _)=_
  rw[if_neg];rintro rfl;exact gR aB
 have gL:E'.ι aF=E1.ι i:=by show(if aF=aF then _ else _)=_;rw[if_pos rfl]
 have jS:E'.sz aF=k:=by show(if aF=aF then _ else _)=_;rw[if_pos rfl]
 have VB:id≠aF:=fun h=>gR (h▸DI)
 have xY:bE E W E' W':=by
  refine⟨hv.os,hv.tape,hv.output,hv.size,fun id h=> .inl h,fun id aB=>⟨cY id aB,hs id aB⟩,XH,hv.zB,fun b hb hf=>hold b hb fun h=>hf id DI h.symm,hv.b8,fun b hb hf=>JR b hb fun h=>hf id DI h.symm,fun q h1 h2=> ?_,hv.loops⟩
  rcases h2 with h2|h2
  ·exact absurd h2 h1
  ·subst h2
   rw[gL];rcases nP with h|h
   ·exact .inl h
   ·exact .inr ⟨id,DI,h.symm⟩
 have bH:∀{x u},RV E1 W' x u->bK x->RV E' W' x u:=fun hx hn=>RV.HO (E:=E') (L:=E1.L) (fun _=>cE _) (hx.rE (L:=E1.L) (fun _=>cE _) hn)
 have VK:∀q b,q≠id->G q=some b->E.ι q≠E.ι id:=fun q b aJ hq=>(b6 rfl).2 q b aJ hq
 have yT:∀q b,q≠id->G q=some b->E'.ι q≠E1.ι i:=fun q b aJ hq heq=>by
  have hU:=(hG.ok q b hq).1;rw[cY q hU]at heq;rcases nP with h|h
  ·have:=hG.eL q hU
   omega
  ·rw[h]at heq
   exact VK q b aJ hq heq
 have bU:∀q b,q≠aF->aX G [(id,none),(aF,some (.cells el k rows true true))] q=some b->q≠id/\G q=some b:=fun q b aJ hq=>by
  simp only[aX,if_neg aJ]at hq;by_cases DL:q=id
  ·rw[if_pos DL]at hq;cases hq
  ·rw[if_neg DL]at hq;exact⟨DL,hq⟩
 refine⟨v,he,E',xY,⟨hH.core.lim,fun q aB=> ?_,fun q b hb=> ?_⟩,?_,fun q h=>h⟩
 ·rcases aB with aB|aB
  ·rw[cY q aB];exact vF (hG.eL q aB) hv.size
  ·subst aB;rw[gL];exact bG
 ·by_cases aB:q=aF
  ·subst aB
   simp only[aX]at hb;rw[if_pos trivial]at hb;injection hb with hb
   subst hb;refine⟨.inr rfl,jS,hlen,⟨cur,by rw[gL];exact cK,hle,fun i' j row x h1 h2=> ?_⟩,fun _=>⟨by rw[gL];exact mS,fun aM b' aJ cL heq=> ?_⟩,fun _=>⟨by rw[gL];show E1.L _<=_;rw[mS];exact iG _,fun aM b' aJ cL heq=> ?_⟩⟩
   ·obtain⟨u,h3,h4⟩:=eX i' j row x h1 h2
    exact⟨u,h3,bH h4 (dB row (eS h1) x (eS h2))⟩
   ·rw[gL]at heq
    obtain⟨h1,h2⟩:=bU aM b' aJ cL;exact yT aM b' h1 h2 heq
   ·rw[gL]at heq
    obtain⟨h1,h2⟩:=bU aM b' aJ cL;exact absurd heq (yT aM b' h1 h2)
  ·obtain⟨DL,hb⟩:=bU q b aB hb
   obtain⟨hU,dO⟩:=hG.ok q b hb;have rX:=hG.eL q hU;have IV:=VK q b DL hb;refine⟨.inl hU,dO.mono xY hU (hold _ rX IV) (JR _ rX IV) fun aM b' aJ cL heq=> ?_⟩
   by_cases uR:aM=aF
   ·subst uR
    rw[gL]at heq;rcases nP with h|h
    ·omega
    ·rw[h]at heq;exact absurd heq.symm IV
   ·obtain⟨h1,h2⟩:=bU aM b' uR cL
    exact⟨b',h2,by rw[<-heq,cY aM (hG.ok aM b' h2).1],rfl,fun h=>h⟩
 ·have yE:E'.U aF:= .inr rfl
  rcases(wO iF).2 with⟨cap,rfl,eC,HM,e2,f2,h4,h5⟩|⟨oZ,a,rfl⟩
  ·have h6:=RV.own (E:=E') (W:=W') aF 0 rows.length cap yE eC (by rw[gL,jS];exact⟨HM,e2,f2,h4,by rw[dP]at h5;exact h5⟩)
   rw[gL,jS]at h6;rw[dP];exact h6
  ·rw[oZ]
   exact .mW _ _ _ yE
theorem AB.run{P:Program}{n:FuncId}{args:List AV}{id:Nat}{qO el:TypeId}{k0 k:Nat}{lG rows:List (List AV)}(h:AB P n args id qO k0 lG el k rows){H:Heap}(hg:H.get id=some (.cells qO k0 lG true true)):
  fU P n args H fun r H'=>r= .own H.next 0 rows.length/\H'=⟨H.next+1,aX H.get [(id,none),(H.next,some (.cells el k rows true true))]⟩:=
 ⟨h.1,fun E W vs hH hr=>(h.2 E W H.get H.next vs hH.core hg (fun hU=>KE _ (hH.next _ hU)) hr).mono fun x W' ⟨v,he,E',h1,h2,h3,h4⟩=>
   ⟨v,he,E',_,_,h1,⟨fun id aB=>by
     rcases h4 id aB with h5|h5
     ·exact TM (hH.next id h5)
     ·subst h5;exact G3 _,h2⟩,h3,rfl,rfl⟩⟩
section
variable {P : Program} {σ : AS} {Q : Exit -> AS -> Prop}
theorem cn2{ops:Array Oper}{o:Oper}{rest:List Oper}{K:AS->Prop}{f:Operand}{as:Array Operand}{ts:Array TypeId}{n:FuncId}{id m0:Nat}{args:List AV}{qO el:TypeId}{k0 k:Nat}{lG rows:List (List AV)}{p:AS×List Oper}(h:b9 P true ops p.2 p.1 K)(aO:o.op= .call ⟨.value f,as,ts⟩:=by(first|rfl|fail))(hg:o.guard=none:=by(first|rfl|fail))
  (hc:fZ (σ.get true f) (dZ (σ.get true) as.toList)=some (n,.own id 0 m0::args):=by(exact aL)) (hp:AB P n (.own id 0 m0::args) id qO k0 lG el k rows:=by(first|assumption|(apply_assumption<;>first|assumption|omega)|fail)) (hb:σ.H.get id=some (.cells qO k0 lG true true):=by(first|exact nY|exact aL|fail))
  (hr:run P ops.toList rest (({σ with H:=⟨σ.H.next+1,aX σ.H.get [(id,none),(σ.H.next,some (.cells el k rows true true))]⟩}:AS).put o.dst true (.own σ.H.next 0 rows.length))=p:=by(exact aL)):b9 P true ops (o::rest) σ K:=
 EK aO hg hc (hp.run hb) fun r' H' ⟨h1,h2⟩=>by subst h1;subst h2;exact pI _ _ hr h
theorem cn3{ops:List Oper}{N0 i:Nat}{o:Oper}{r:List Oper}{σ eA:AS}{es:List Entry}{f:Operand}{as:Array Operand}{ts:Array TypeId}{n:FuncId}{id m0:Nat}{args:List AV}{qO el:TypeId}{k0 k:Nat}{lG rows:List (List AV)}(aO:o.op= .call ⟨.value f,as,ts⟩)(hg:o.guard=none)
  (hc:fZ (σ.get true f) (dZ (σ.get true) as.toList)=some (n,.own id 0 m0::args)) (hp:AB P n (.own id 0 m0::args) id qO k0 lG el k rows) (k8:σ.H.get id=some (.cells qO k0 lG true true))
  (h:gP P ops N0 (i+1) r (σ.app o.dst ⟨true,.own (N0+i) 0 rows.length,[(id,none),(N0+i,some (.cells el k rows true true))],[id]⟩) es eA):
  gP P ops N0 i (o::r) σ (⟨true,.own (N0+i) 0 rows.length,[(id,none),(N0+i,some (.cells el k rows true true))],[id]⟩::es) eA:=
 .cons i o r σ _ es eA (.Fb f as ts n (.own id 0 m0::args) id qO k0 lG el k rows aO (by unfold mZ;rw[hg]) rfl hc k8 hp rfl rfl (by simp)) h
theorem ao6{aK:AS}{id:Nat}{ops:Array Oper}{es:List Entry}(h:Q .normal aK)(hm:P.follows .mixedOrders=true:=by(first|kernel_rfl|fail))(hs:CJ ops=true:=by(first|kernel_rfl|fail))(hd:ops.toList.all (fY σ.nt)=true:=by(first|rfl|fail))
  (hr:gP P ops.toList σ.H.next 0 ops.toList {σ with H:=⟨σ.H.next+ops.size,σ.H.get⟩} es aK:=by(first|(apply eO;(next=>(exact aL));(repeat (first|exact NJ|(apply cn3;(next=>(first|rfl|fail));(next=>(first|rfl|fail));(next=>(exact aL));(next=>(first|assumption|(apply_assumption<;>first|assumption|omega)|fail));(next=>(first|exact nY|exact aL|fail));apply eO;(next=>(exact aL)))|(apply Rq;(next=>(first|rfl|fail));(next=>(first|rfl|fail));(next=>(exact aL));(next=>(exact aL));(next=>(exact aL));(next=>(exact aL));(next=>(first|assumption|(apply_assumption<;>first|assumption|omega)|fail));(next=>(first|exact jP|(simp[fQ,eV,fC,fN,jB,jC,jA, *];done)|fail));apply eO;(next=>(exact aL)))|(apply NP;(next=>(first|rfl|fail));(next=>(exact aL));apply eO;(next=>(exact aL)))|(apply TB;(next=>(first|rfl|fail));(next=>(first|rfl|fail));(next=>(exact aL));(next=>(first|assumption|(apply_assumption<;>first|assumption|omega)|fail));apply eO;(next=>(exact aL)))|(apply TA;(next=>(first|rfl|fail));(next=>(first|rfl|fail));(next=>(exact aL));(next=>(first|assumption|(apply_assumption<;>first|assumption|omega)|fail));apply eO;(next=>(exact aL)))|(apply TC;(next=>(first|rfl|fail));(next=>(first|rfl|fail));(next=>(exact aL));(next=>(exact aL));(next=>(exact aL));(next=>(first|assumption|(apply_assumption<;>first|assumption|omega)|fail));(next=>(first|exact jP|(simp[fQ,eV,fC,fN,jB,jC,jA, *];done)|fail));apply eO;(next=>(exact aL)))|(apply NO;(next=>(first|rfl|fail));(next=>(first|rfl|fail));(next=>(exact aL));(next=>(first|assumption|(apply_assumption<;>first|assumption|omega)|fail));(next=>(first|exact jP|(simp[fQ,eV,fC,fN,jB,jC,jA, *];done)|fail));apply eO;(next=>(exact aL)))|(apply NQ;(next=>(first|rfl|fail));(next=>(first|rfl|fail));(next=>(exact aL));(next=>(exact aL));(next=>(first|assumption|(apply_assumption<;>first|assumption|omega)|fail));(next=>(first|exact jP|(simp[fQ,eV,fC,fN,jB,jC,jA, *];done)|fail));apply eO;(next=>(exact aL)))|(apply NR;(next=>(first|rfl|fail));(next=>(first|rfl|fail));(next=>(exact aL));(next=>(exact aL));(next=>(exact aL));(next=>(first|assumption|(apply_assumption<;>first|assumption|omega)|fail));(next=>(first|exact jP|(simp[fQ,eV,fC,fN,jB,jC,jA, *];done)|fail));apply eO;(next=>(exact aL)))|(apply NS;(next=>(first|rfl|fail));(next=>(first|rfl|fail));(next=>(exact aL));(next=>(exact aL));(next=>(exact aL));(next=>(exact aL));(next=>(first|assumption|(apply_assumption<;>first|assumption|omega)|fail));(next=>(first|exact jP|(simp[fQ,eV,fC,fN,jB,jC,jA, *];done)|fail));apply eO;(next=>(exact aL))))))|fail))
  (uB:zK (tab ops.toList) 0 [] es=true:=by(first|(simp(maxSteps:=2000000) (disch:=omega) only[go_sem,N5,N6, *]<;>kernel_rfl)|fail)):AW P (.region id ops true) σ Q:=YO hm hs hd hr uB h
end
theorem VF{P:Program}{n:FuncId}{fn:Func}{c:Code}{rest:List AV}{qO el:TypeId}{k0 k m0:Nat}{lG rows:List (List AV)}{rs:List ResultVar}{nt:Nat}(hf:P.funcs[n]? =some fn)(cM:fn.ntmps=nt)(UK:∀row∈lG,∀x∈row,bK x)(dB:∀row∈rows,∀x∈row,bK x)(wV:∀a∈rest,bK a)
  (h:AW P c ⟨mB 0 (.own 0 0 m0::rest),⟨1,cV [(0,some (.cells qO k0 lG true true))]⟩,nt⟩ (hold (cH P rs (hold (fun r H'=>∃i,r= .own i 0 rows.length/\H'.get i=some (.cells el k rows true true)) ⟨⟩)) ⟨⟩))
  (hb:fn.body=some c:=by rfl) (hr:fn.results=List.toArray rs:=by rfl) (fI:(fn.name== "runtime.NumGoroutine")=false:=by kernel_rfl) (hlen:(AV.own 0 0 m0::rest).length<=nt:=by(simp only[dK,fJ];decide)) (id:Nat):AB P n (.own id 0 m0::rest) id qO k0 lG el k rows:=
 Zc UK dB wV (Gm hf cM h hb hr fI hlen) id
theorem AE{A B:Prop}(h:B)(w:bB B->A:=by
  (intro hB;(repeat (first|refine vQ ?_|refine Fm ?_|refine Fo ?_|refine Fp ?_|refine tY ?_|refine Fq ?_|refine DX ?_|refine tF ?_|refine N7 ?_|refine bR ?_|refine gT ?_|refine RU ?_|refine RX ?_|refine RY ?_|refine RZ ?_|refine S3 ?_|refine S4 (by decide) ?_|refine RJ ?_|refine kF ?_|refine RO ?_|refine RP ?_|refine SZ ?_|refine T0 ?_|refine T1 ?_|refine T4 ?_|refine T5 ?_|refine T6 ?_|refine SH ?_|refine SI ?_|refine SV ?_|refine SW ?_|refine SX ?_|refine SY ?_|refine SS ?_|refine SU ?_|refine SF ?_|refine SG ?_|refine SJ ?_|refine FD ?_|refine ao6 ?_|refine RN ?_|refine RL ?_|refine SC ?_|refine SE ?_|refine SK ?_|refine cn2 ?_|refine SO ?_|refine YP ?_|refine SL ?_|refine SQ ?_|refine SP ?_|refine SM ?_|refine SN ?_|refine T7 ?_|refine T8 ?_|refine T9 ?_|refine MA ?_));exact hB.out)):A:=w ⟨h⟩
end Go.AL
namespace Go.AL
theorem cn4{P:Program}{t t' ty e e':TypeId}(h:P.underlying t=some (.slice e))(h':P.underlying t'=some (.slice e'))(args:Array Value)(W:World):(Builtin.append_ #[t,t'] ty args).run P W=(Builtin.append_ #[t,t] ty args).run P W:=by
 have hu:∀w,(underlying t).run P w= .ok (.slice e) w:=fun w=>by simp[underlying,h]
 have YA:∀w,(underlying t').run P w= .ok (.slice e') w:=fun w=>by simp[underlying,h']
 unfold Builtin.append_;simp only[wE,nE,vE];cases args[0]? with
 |none=>rfl
 |some s=>
  cases args[1]? with
  |none=>rfl
  |some x=>
   simp only[Sem.run_bind,hu,YA,Result.andThen_ok];cases s with
   |slice base sLen sCap=>simp only[Sem.run_bind,hu,YA,Result.andThen_ok,Sem.run_pure]
   |_=>rfl
theorem cn5{F:Fence}{n:Nat}{P:Program}{dst:Option Tmp}{as:Array Operand}{t t' ty e e':TypeId}{pos:String}{after:Array Edge}(h:P.underlying t=some (.slice e))(h':P.underlying t'=some (.slice e')){a:Act}{w:World}{next:Act->World->Prop}{Q:Exit->Act->World->Prop}
  (hw:(Oper.mk dst (.call ⟨.builtin .append,as,#[t,t]⟩) ty pos after none).wpIn F n P a w next Q):(Oper.mk dst (.call ⟨.builtin .append,as,#[t,t']⟩) ty pos after none).wpIn F n P a w next Q:=by
 unfold Oper.wpIn at hw⊢;rw[Oper.semAt_eq _ _ _ (fun c h=>by cases h)]at hw⊢
 refine⟨fun f hf=>hw.1 f (by rw[<-hf];rfl),?_⟩
 have he:(execOp a.eval (Oper.mk dst (.call ⟨.builtin .append,as,#[t,t']⟩) ty pos after none)).run P w=(execOp a.eval (Oper.mk dst (.call ⟨.builtin .append,as,#[t,t]⟩) ty pos after none)).run P w:=by
  unfold execOp;simp only[resolve,Sem.run_bind,Sem.run_pure,Result.andThen_ok,invoke,builtin,cn4 h h']
 rw[he];exact hw.2
theorem Rx{F:Fence}{n:Nat}{P:Program}{Q:Exit->Act->World->Prop}(ops vW:Array Oper)(hy:∀(i:Nat) (o:Oper),ops[i]? =some o->o.guard=none/\∃o',vW[i]? =some o'/\o'.guard=none/\∀(a:Act) (w:World) (next:Act->World->Prop),o'.wpIn F n P a w next Q->o.wpIn F n P a w next Q)
  (hs:∀(i:Nat),ops[i]? =none->vW[i]? =none):∀(l:List Nat) (a:Act) (w:World),wpOpsIn F n P vW Q l a w->wpOpsIn F n P ops Q l a w
 |[],a,w,h=>h
 |i::l,a,w,h=>by
  simp only[wpOpsIn]at h⊢;cases ho:ops[i]? with
  |none=>
   rw[hs i ho]at h;exact Rx ops vW hy hs l a w h
  |some o=>
   obtain⟨h1,o',h2,h3,h4⟩:=hy i o ho;rw[h2]at h;simp only[Region.wanted,h1,h3,if_true]at h⊢;exact h4 _ _ _ (Oper.wpIn_mono (fun a w h=>Rx ops vW hy hs l a w h) h)
theorem Ko{P:Program}{σ:AS}{Q:Exit->AS->Prop}{id:Nat}{o1 o2 o4:Oper}{dst:Option Tmp}{as:Array Operand}{t t' ty e e':TypeId}{pos:String}{after:Array Edge}{p:AS×List Oper}(h:b9 P true #[o1,o2,Oper.mk dst (.call ⟨.builtin .append,as,#[t,t]⟩) ty pos after none,o4] p.2 p.1 (Q .normal))
  (ht:P.underlying t=some (.slice e)) (ht':P.underlying t'=some (.slice e')) (h1:o1.guard=none) (h2:o2.guard=none) (h4:o4.guard=none) (hd: #[o1,o2,Oper.mk dst (.call ⟨.builtin .append,as,#[t,t]⟩) ty pos after none,o4].toList.all (fY σ.nt)=true)
  (hr:run P #[o1,o2,Oper.mk dst (.call ⟨.builtin .append,as,#[t,t]⟩) ty pos after none,o4].toList #[o1,o2,Oper.mk dst (.call ⟨.builtin .append,as,#[t,t]⟩) ty pos after none,o4].toList σ=p):AW P (.region id #[o1,o2,Oper.mk dst (.call ⟨.builtin .append,as,#[t,t']⟩) ty pos after none,o4] false) σ Q:=fun ro E W act eN cC=>by
 refine wpIn_region ?_;refine Rx _ #[o1,o2,Oper.mk dst (.call ⟨.builtin .append,as,#[t,t]⟩) ty pos after none,o4] (fun i o ho=> ?_) (fun i hi=> ?_) _ _ _ (JV [0,1,2,3] #[o1,o2,Oper.mk dst (.call ⟨.builtin .append,as,#[t,t]⟩) ty pos after none,o4].toList rfl (pI _ _ hr h) hd cC (fun E' W' aK cF hv cZ cM hK=>⟨E',aK,hv,cZ,cM,hK⟩))
 ·match i,ho with
  |0,ho=>injection ho with ho;subst ho;exact⟨h1,_,rfl,h1,fun _ _ _ h=>h⟩
  |1,ho=>injection ho with ho;subst ho;exact⟨h2,_,rfl,h2,fun _ _ _ h=>h⟩
  |2,ho=>injection ho with ho;subst ho;exact⟨rfl,_,rfl,rfl,fun _ _ _ h=>cn5 ht ht' h⟩
  |3,ho=>injection ho with ho;subst ho;exact⟨h4,_,rfl,h4,fun _ _ _ h=>h⟩
  |i+4,ho=>exact absurd ho (by simp)
 ·match i,hi with
  |0,hi=>cases hi
  |1,hi=>cases hi
  |2,hi=>cases hi
  |3,hi=>cases hi
  |i+4,hi=>simp
end Go.AL
namespace Go.AL
open Go.RowKit
section
variable {P : Program} {σ : AS} {Q : Exit -> AS -> Prop}
theorem cn7{ops:List Oper}{N0 i:Nat}{o:Oper}{r:List Oper}{σ eA:AS}{es:List Entry}{f:Operand}{as:Array Operand}{ts:Array TypeId}{n:FuncId}{cA args:List AV}{el:TypeId}{k:Nat}{rows:List (List AV)}{wr:List (Nat×Option aI)}{rd:List Nat}(aO:o.op= .call ⟨.value f,as,ts⟩)(hg:o.guard=none)
  (hc:fZ (σ.get true f) (dZ (σ.get true) as.toList)=some (n,cA)) (he:cA.map (o0 σ.H.get)=args) (dS:mC nD cA=rd) (hw:(rd.map fun id=>(id,qN (σ.H.get id)))=wr) (hp:sC P n args el k rows) (h:gP P ops N0 (i+1) r (σ.app o.dst ⟨true,.own (N0+i) 0 rows.length,wr++[(N0+i,some (.cells el k rows true true))],rd⟩) es eA):
  gP P ops N0 i (o::r) σ (⟨true,.own (N0+i) 0 rows.length,wr++[(N0+i,some (.cells el k rows true true))],rd⟩::es) eA:=
 .cons i o r σ _ es eA (.Fe f as ts n cA args el k rows aO (by unfold mZ;rw[hg]) rfl hc he hp rfl (by rw[<-hw,<-dS]) (fun id aB=>by rw[<-dS];exact aB)) h
theorem Bt{aK:AS}{id:Nat}{ops:Array Oper}{es:List Entry}(h:Q .normal aK)(hm:P.follows .mixedOrders=true:=by(first|kernel_rfl|fail))(hs:CJ ops=true:=by(first|kernel_rfl|fail))(hd:ops.toList.all (fY σ.nt)=true:=by(first|rfl|fail))
  (hr:gP P ops.toList σ.H.next 0 ops.toList {σ with H:=⟨σ.H.next+ops.size,σ.H.get⟩} es aK:=by(first|(apply eO;(next=>(exact aL));(repeat (first|exact NJ|(apply cn7;(next=>(first|rfl|fail));(next=>(first|rfl|fail));(next=>(exact aL));(next=>(exact aL));(next=>(exact aL));(next=>(exact aL));(next=>(first|assumption|(apply_assumption<;>first|assumption|omega)|fail));apply eO;(next=>(exact aL)))|(apply ca3;(next=>(first|rfl|fail));(next=>(exact aL));(next=>(exact aL));apply eO;(next=>(exact aL)))|(apply Rq;(next=>(first|rfl|fail));(next=>(first|rfl|fail));(next=>(exact aL));(next=>(exact aL));(next=>(exact aL));(next=>(exact aL));(next=>(first|assumption|(apply_assumption<;>first|assumption|omega)|fail));(next=>(first|exact jP|(simp[fQ,eV,fC,fN,jB,jC,jA, *];done)|fail));apply eO;(next=>(exact aL)))|(apply NP;(next=>(first|rfl|fail));(next=>(exact aL));apply eO;(next=>(exact aL)))|(apply TB;(next=>(first|rfl|fail));(next=>(first|rfl|fail));(next=>(exact aL));(next=>(first|assumption|(apply_assumption<;>first|assumption|omega)|fail));apply eO;(next=>(exact aL)))|(apply TA;(next=>(first|rfl|fail));(next=>(first|rfl|fail));(next=>(exact aL));(next=>(first|assumption|(apply_assumption<;>first|assumption|omega)|fail));apply eO;(next=>(exact aL)))|(apply TC;(next=>(first|rfl|fail));(next=>(first|rfl|fail));(next=>(exact aL));(next=>(exact aL));(next=>(exact aL));(next=>(first|assumption|(apply_assumption<;>first|assumption|omega)|fail));(next=>(first|exact jP|(simp[fQ,eV,fC,fN,jB,jC,jA, *];done)|fail));apply eO;(next=>(exact aL)))|(apply NO;(next=>(first|rfl|fail));(next=>(first|rfl|fail));(next=>(exact aL));(next=>(first|assumption|(apply_assumption<;>first|assumption|omega)|fail));(next=>(first|exact jP|(simp[fQ,eV,fC,fN,jB,jC,jA, *];done)|fail));apply eO;(next=>(exact aL)))|(apply NQ;(next=>(first|rfl|fail));(next=>(first|rfl|fail));(next=>(exact aL));(next=>(exact aL));(next=>(first|assumption|(apply_assumption<;>first|assumption|omega)|fail));(next=>(first|exact jP|(simp[fQ,eV,fC,fN,jB,jC,jA, *];done)|fail));apply eO;(next=>(exact aL)))|(apply NR;(next=>(first|rfl|fail));(next=>(first|rfl|fail));(next=>(exact aL));(next=>(exact aL));(next=>(exact aL));(next=>(first|assumption|(apply_assumption<;>first|assumption|omega)|fail));(next=>(first|exact jP|(simp[fQ,eV,fC,fN,jB,jC,jA, *];done)|fail));apply eO;(next=>(exact aL)))|(apply NS;(next=>(first|rfl|fail));(next=>(first|rfl|fail));(next=>(exact aL));(next=>(exact aL));(next=>(exact aL));(next=>(exact aL));(next=>(first|assumption|(apply_assumption<;>first|assumption|omega)|fail));(next=>(first|exact jP|(simp[fQ,eV,fC,fN,jB,jC,jA, *];done)|fail));apply eO;(next=>(exact aL))))))|fail))
  (uB:zK (tab ops.toList) 0 [] es=true:=by(first|(simp(maxSteps:=2000000) (disch:=omega) only[go_sem,N5,N6, *]<;>kernel_rfl)|fail)):AW P (.region id ops true) σ Q:=YO hm hs hd hr uB h
end
end Go.AL
namespace Go.AL
open Go.RowKit
def K7(P:Program)(n:FuncId)(args:List AV)(H:Heap)(x:Value)(R:Heap->Prop):Prop:=
 rD P n=true/\∀(E:Env) (W:World) (vs:List Value),RH E W H->bX E W args vs->
  Calls P n vs.toArray W fun e W'=>e= .panicked (jD x)/\∃E' H',bE E W E' W'/\RH E' W' H'/\R H'
theorem cn8{P:Program}{n:FuncId}{fn:Func}{c:Code}{args:List AV}{H:Heap}{x:Value}{R:Heap->Prop}(hf:P.funcs[n]? =some fn)(hb:fn.body=some c)(fI:(fn.name== "runtime.NumGoroutine")=false)(hlen:args.length<=fn.ntmps)
  (h:AW P c ⟨mB 0 args,H,fn.ntmps⟩ (hold (fun e σ=>e= .panic (jD x)/\R σ.H) ⟨⟩)):K7 P n args H x R:=by
 refine⟨by unfold rD;rw[hf];simp[fI,hb],fun E W vs hH hr=> ?_⟩
 refine callsIn_wide.1 (callsIn_of_wp_marks (F:=Fence.wide) (n:=3) hf hb trivial ?_);refine wpIn_mono (h none E W _ (fun l h=>by cases h) (YR hlen hH hr)) fun e a w ⟨E',aK,h1,h2,h3,h4⟩=> ?_
 obtain⟨h4,h5⟩:=h4;subst h4;obtain⟨Ds,rY,tG,xC⟩:=h2.defers;have B7:∀D∈Ds,W.heap.size<=D:=fun D hD=>(h1.new D (MW rY hD)).resolve_left (fun h=>by cases h)
 have key:=JW (P:=P) (fn:=fn) (tmps:=a.tmps) (R:=fun e W'=>e= .panicked (jD x)/\∃E' H',bE E W E' W'/\RH E' W' H'/\R H') (I:=fun w'=>bE E W E' w'/\Rel E' w' aK {a with defers:=[]}) (u:= .panicking (jD x)) (by simp) (rest:=[]) a.defers Ds rY h1.B0 tG
  (fun D hD w' hw hI=>⟨hI.1.shut hH.core.lim (B7 D hD),hI.2.shut hw⟩) (fun w' hI=>⟨rfl,E',aK.H,hI.1,hI.2.heap,h5⟩) (fun D hD=>(xC D hD).1) ⟨h1.pS,⟨.nil E' w,h2.size,h2.env,h2.heap⟩⟩
 rw[mD]at key;exact key
def FX(P:Program)(o:Oper)(σ:AS)(x:Value)(R:Heap->Prop):Prop:=
 o.guard=none/\∀(ro:Option Nat) (E:Env) (W:World) (act:Act) (next:Act->World->Prop) (Q:Exit->Act->World->Prop),Rel E W σ act->(∀E' W' H',R H'->bE E W E' W'->Rel E' W' {σ with H:=H'} act->Q (.panic (jD x)) act W')->o.wpIn (kK ro) 3 P act W next Q
section
variable {P : Program} {σ : AS} {Q : Exit -> AS -> Prop}
theorem cn9{id:Nat}{ops:Array Oper}(k:Nat){o:Oper}{x:Value}{R:Heap->Prop}(ho:ops[k]? =some o)(hd:(ops.toList.take k).all (fY σ.nt)=true)
  (h:b9 P true ops (ops.toList.take k) σ (hold (fun aK=>FX P o aK x R/\∀H',R H'->Q (.panic (jD x)) {aK with H:=H'}) ⟨⟩)):AW P (.region id ops false) σ Q:=fun ro E W act eN hr=>by
 refine wpIn_region ?_;have hk:k<ops.size:=(jG.1 ho).1;obtain⟨more,hm⟩:=range_split hk;rw[hm];refine EC _ _ _ ?_;refine JV (List.range k) (ops.toList.take k) ?_ h hd hr (fun E' W' aK cF hv cZ cM hK=> ?_)
 ·apply BE
  intro i;simp only[gE,wD];by_cases hi:i<k
  ·have:i<ops.size:=by omega
   simp[hi,wD,gU,this]
  ·simp[hi,wD,gU]
 ·obtain⟨⟨hg,hx⟩,hq⟩:=hK
  show wpOpsIn (kK ro) 3 P ops _ (k::more) cF W'
  simp only[wpOpsIn,ho];rw[if_pos (by simp[Region.wanted,hg])]
  exact hx ro E' W' cF _ _ cZ fun E2 CB H2 hR fB nC=>⟨E2,_,hv.trans (.of fB rfl),nC,cM,hq H2 hR⟩
theorem Ry{o:Oper}{f:Operand}{as:Array Operand}{ts:Array TypeId}{n:FuncId}{args:List AV}{x:Value}{R:Heap->Prop}(aO:o.op= .call ⟨.value f,as,ts⟩)(hg:o.guard=none)(hc:fZ (σ.get true f) (dZ (σ.get true) as.toList)=some (n,args))(h:K7 P n args σ.H x R):FX P o σ x R:=by
 refine⟨hg,fun ro E W act next Q hr hn=> ?_⟩
 obtain⟨first,cap,oL,hf,has,rfl⟩:=B4 hc
 have h1:=hr.get rfl hf;have h2:=xA (E:=E) (W:=W) (ρ:=act.eval) (fun x b hb=>hr.get rfl hb) _ _ has
 generalize pB:act.eval f=fv at h1;cases h1 with
 |fn _ _ _ vf vc hl cW h3 h4=>
 have mY:bX E W (first++oL++cap) (vf.toList++as.toList.map act.eval++vc.toList):=by
  refine(bX.append ?_ h2).append ?_
  ·exact⟨by simpa using hl,fun i x v hx hv=>h3 i x v hx (by simpa using hv)⟩
  ·exact⟨by simpa using cW,fun i x v hx hv=>h4 i x v hx (by simpa using hv)⟩
 have dH:=h.2 E W _ hr.heap mY
 have dA:(execOp act.eval o).run P W= .ok (.enter n (vf.toList++as.toList.map act.eval++vc.toList).toArray) W:=by
  simp only[execOp,aO,resolve,pB,Deferred.ofValue,Sem.run_bind,Sem.run_pure,Result.andThen_ok,invoke];rw[B6 h.1];congr 2;apply CR;simp
 refine⟨fun _ _=>trivial,?_⟩
 rw[Oper.semAt_eq _ _ _ (fun c h=>by rw[aO]at h;cases h),dA]
 refine⟨AZ,CH (dH.mono fun e W' ⟨he,E',H',hv,hH,hR⟩=> ?_)⟩
 subst he;exact hn E' W' H' hR hv (hr.mono hv hH)
end
section
variable {P : Program} {σ : AS} {Q : Exit -> AS -> Prop} {Q' : Prop}
end
end Go.AL
namespace Go.AL
open Go.RowKit
theorem fU.co0{P:Program}{n:FuncId}{args:List AV}{H:Heap}{Q:AV->Heap->Prop}(h:fU P n args H fun r H'=>Q (o0 H'.get r) ⟨H'.next,u9 H'.get (nD r)⟩):fU P n args H Q:=
 ⟨h.1,fun E W vs hH hr=>(h.2 E W vs hH hr).mono fun e W' ⟨v,he,E',r,H',h1,h2,h3,hq⟩=>by
   obtain⟨L1,h4,h5,h6⟩:=N9 (W:=W') (nD r) h2
   exact⟨v,he,_,_,_,h1.trans h4,h5,Y4 h2.core h4 h3 fun id aB=>h6 id aB,hq⟩⟩
def NW(N:Nat)(G:Nat->Option aI)(id:Nat)(b1:Option aI)(a:AV)(d:Nat)(r:AV)(H':Heap):Prop:=
 ∃T GT,u9 H'.get (nD r)=GT/\GT=fR G T/\H'.next<=N+d/\B8 G T [(id,b1)]/\xP N [(id,b1)] T/\Wk (o0 H'.get r) a
theorem NW.mk{N:Nat}{G:Nat->Option aI}{id:Nat}{b1:Option aI}{a:AV}{d:Nat}{r:AV}{T:List (Nat×Option aI)}{GT:Nat->Option aI}{H':Heap}(h1:u9 H'.get (nD r)=GT)(h2:GT=fR G T)(h3:H'.next<=N+d)(h4:B8 G T [(id,b1)])(h5:xP N [(id,b1)] T)(h6:Wk (o0 H'.get r) a):NW N G id b1 a d r H':=
 ⟨T,GT,h1,h2,h3,h4,h5,h6⟩
theorem DT{P:Program}{n:FuncId}{fn:Func}{c:Code}{args:List AV}{id:Nat}{b0:aI}{b1:Option aI}{a:AV}{d:Nat}{rs:List ResultVar}{nt:Nat}(hf:P.funcs[n]? =some fn)(cM:fn.ntmps=nt)
  (h:∀N G,id<N->G id=some b0->(∀k,N<=k->G k=none)->AW P c ⟨mB 0 args,⟨N,fR G []⟩,nt⟩ (hold (cH P rs (hold (NW N G id b1 a d) ⟨⟩)) ⟨⟩))
  (hb:fn.body=some c:=by rfl) (hr:fn.results=List.toArray rs:=by rfl) (fI:(fn.name== "runtime.NumGoroutine")=false:=by kernel_rfl) (hlen:args.length<=nt:=by(simp only[dK,fJ];decide)):l6 P n args id b0 b1 a d:=by
 refine⟨fun N G jL=>⟨by unfold rD;rw[hf];simp[fI,hb],fun E W vs hH iF=> ?_⟩⟩
 have hG:∀k,N<=k->G k=none:=fun k hk=>by
  cases hg:G k with
  |none=>rfl
  |some b=>
   have h1:=hH.next k (hH.core.ok k b hg).1
   simp only[]at h1;omega
 have aB:id<N:=by
  rcases oA id N with h1|h1
  ·exact h1
  ·rw[hG id h1]at jL;cases jL
 have h1:=h N G aB jL hG
 have hA:fU P n args ⟨N,G⟩ (NW N G id b1 a d):=by
  refine FR (H:=⟨N,G⟩) hf hb fI (by rw[cM];exact hlen) ?_
  rw[cM,hr];exact h1
 have hB:fU P n args ⟨N,G⟩ fun r H'=>∃pV,XV pV H'/\Wk r a/\pV=⟨N+d,aX G [(id,b1)]⟩:=
  fU.co0 (hA.mono fun r H' ⟨T,GT,h3,Rv,h4,h5,h6,h7⟩=>⟨_,⟨h4,fun k b hk=>by
   have h8:=UP hG h5 h6 k b hk;rw[<-Rv,<-h3]at h8
   exact h8⟩,h7,rfl⟩)
 exact(hB.2 E W vs hH iF).mono fun e W' ⟨v,he,E',r,H',h2,h3,h4,pV,h5,h6,h7⟩=>⟨v,he,E',a,pV,h2,h3.less h5,RV.wk h6 h4,rfl,h7⟩
theorem rT{N:Nat}{G:Nat->Option aI}{id:Nat}{b1:Option aI}{a:AV}{d:Nat}{r:AV}{H':Heap}(w:NW N G id b1 a d r H':=by
  (apply NW.mk;(next=>(first|exact aL|exact rfl|fail));(next=>(first|exact rfl|exact(Qb _).symm|fail));(next=>(simp only[];omega));(next=>(first|exact UQ KR|exact ZT (by first|rfl|(simp(disch:=omega) only[go_sem, *];done)|(simp(disch:=omega) only[go_sem, *];rfl)) KR));(next=>(simp only[xP,GJ,or_false,false_or,or_true,true_or,and_true,true_and,cE]<;>omega));(next=>((try simp(maxSteps:=2000000) (disch:=omega) only[go_sem,false_implies,implies_true, *]);(repeat (first|exact .refl _|exact .nil|exact sD|refine jH ?_ ?_|refine KL ?_|refine BJ ?_|refine IC ?_|exact CY|refine yN ?_ ?_)))))):NW N G id b1 a d r H':=w
end Go.AL
namespace Go.AL
open Go.RowKit
theorem K7.mono{P:Program}{n:FuncId}{args:List AV}{H:Heap}{x:Value}{R R':Heap->Prop}(h:K7 P n args H x R)(hr:∀H',R H'->∃pV,XV pV H'/\R' pV):K7 P n args H x R':=
 ⟨h.1,fun E W vs hH iF=>(h.2 E W vs hH iF).mono fun e W' ⟨he,E',H',h1,h2,h3⟩=>by
   obtain⟨pV,h4,h5⟩:=hr H' h3
   exact⟨he,E',pV,h1,h2.less h4,h5⟩⟩
structure M6(P:Program)(n:FuncId)(args:List AV)(id:Nat)(b0:aI)(x:Value)(d:Nat):Prop where
 act:∀N G,G id=some b0->K7 P n args ⟨N,G⟩ x fun H'=>H'=⟨N+d,aX G [(id,none)]⟩
def TE(N:Nat)(G:Nat->Option aI)(id:Nat)(x:Value)(d:Nat)(e:Exit)(H':Heap):Prop:=
 e= .panic (jD x)/\∃T,H'.get=fR G T/\H'.next<=N+d/\B8 G T [(id,none)]/\xP N [(id,none)] T
theorem TE.mk{N:Nat}{G:Nat->Option aI}{id:Nat}{x:Value}{d:Nat}{T:List (Nat×Option aI)}{H':Heap}(h2:H'.get=fR G T)(h3:H'.next<=N+d)(h4:B8 G T [(id,none)])(h5:xP N [(id,none)] T):TE N G id x d (.panic (jD x)) H':=
 ⟨rfl,T,h2,h3,h4,h5⟩
theorem Q9{P:Program}{n:FuncId}{fn:Func}{c:Code}{args:List AV}{id:Nat}{b0:aI}{x:Value}{d:Nat}{nt:Nat}(hf:P.funcs[n]? =some fn)(cM:fn.ntmps=nt)
  (h:∀N G,id<N->G id=some b0->(∀k,N<=k->G k=none)->AW P c ⟨mB 0 args,⟨N,fR G []⟩,nt⟩ (hold (fun e σ=>TE N G id x d e σ.H) ⟨⟩))
  (hb:fn.body=some c:=by rfl) (fI:(fn.name== "runtime.NumGoroutine")=false:=by kernel_rfl) (hlen:args.length<=nt:=by(simp only[dK,fJ];decide)):M6 P n args id b0 x d:=by
 refine⟨fun N G jL=>⟨by unfold rD;rw[hf];simp[fI,hb],fun E W vs hH iF=> ?_⟩⟩
 have hG:∀k,N<=k->G k=none:=fun k hk=>by
  cases hg:G k with
  |none=>rfl
  |some b=>
   have h1:=hH.next k (hH.core.ok k b hg).1
   simp only[]at h1;omega
 have aB:id<N:=by
  rcases oA id N with h1|h1
  ·exact h1
  ·rw[hG id h1]at jL;cases jL
 have h1:=h N G aB jL hG
 have hA:K7 P n args ⟨N,G⟩ x (fun H'=>∃T,H'.get=fR G T/\H'.next<=N+d/\B8 G T [(id,none)]/\xP N [(id,none)] T):=by
  refine cn8 (H:=⟨N,G⟩) hf hb fI (by rw[cM];exact hlen) ?_
  rw[cM];exact h1
 have hB:K7 P n args ⟨N,G⟩ x fun H'=>H'=⟨N+d,aX G [(id,none)]⟩:=hA.mono fun H' ⟨T,h3,h4,h5,h6⟩=>⟨_,⟨h4,fun k b hk=>by
  have h8:=UP hG h5 h6 k b hk;rw[<-h3]at h8
  exact h8⟩,rfl⟩
 exact hB.2 E W vs hH iF
theorem C7{N:Nat}{G:Nat->Option aI}{id:Nat}{x:Value}{d:Nat}{H':Heap}(w:TE N G id x d (.panic (jD x)) H':=by
  (apply TE.mk;(next=>(first|exact rfl|exact(Qb _).symm|fail));(next=>(simp only[];omega));(next=>(first|exact UQ KR|fail));(next=>(simp only[xP,GJ,or_false,false_or,or_true,true_or,and_true,true_and,cE]<;>omega)))):TE N G id x d (.panic (jD x)) H':=w
section
variable {P : Program} {σ : AS} {Q' : Prop}
end
end Go.AL
namespace Go.AL
open Go.RowKit
def pH(P:Program)(ops:Array Oper)(Q:Exit->AS->Prop):Nat->Array Bool->AS->Prop
 |0,l,σ=>Region.ready .any ops l=[]/\Q .normal σ
 |f+1,l,σ=>(Region.ready .any ops l=[]->Q .normal σ)/\
  ∀i∈Region.ready .any ops l,∃o,ops[i]? =some o/\(b9 P true ops [o] σ (hold (fun aK=>pH P ops Q f (l.setIfInBounds i true) aK) ⟨⟩)\/∃x R,FX P o σ x R/\∀H',R H'->Q (.panic (jD x)) {σ with H:=H'})
theorem co1{P:Program}{ops:Array Oper}{Q:Exit->AS->Prop}{nt:Nat}(hd:ops.toList.all (fY nt)=true){E0:Env}{W0:World}{A0:Act}{ro:Option Nat}:
  ∀(f:Nat) (l:Array Bool) (σ:AS) (E:Env) (W:World) (act:Act),pH P ops Q f l σ->σ.nt=nt->eE E0 W0 A0 E W act->Rel E W σ act->
   wpAnyIn (kK ro) 3 P .any ops (fun e cF W'=>∃E' aK,eE E0 W0 A0 E' W' cF/\Rel E' W' aK cF/\aK.nt=nt/\Q e aK) f l act W:=by
 intro f
 induction f with
 |zero=>exact fun l σ E W act h cM hv hr=>⟨h.1,E,σ,hv,hr,cM,h.2⟩
 |succ f ih=>
  intro l σ E W act h cM hv hr;refine⟨fun h0=>⟨E,σ,hv,hr,cM,h.1 h0⟩,fun i hi=> ?_⟩
  obtain⟨o,ho,h1⟩:=h.2 i hi
  have hdo:fY σ.nt o=true:=by
   rw[cM];exact gK.1 hd o (eS (by simpa using ho))
  unfold wpOpIn;simp only[ho];rcases h1 with h1|⟨x,R,⟨hg,hx⟩,hq⟩
  ·have h2:oR P true ops o σ (hold (fun aK=>b9 P true ops [] aK (hold (fun aK=>pH P ops Q f (l.setIfInBounds i true) aK) ⟨⟩)) ⟨⟩):=h1
   have dA:=XM (ro:=ro) (next:=wpAnyIn (kK ro) 3 P .any ops (fun e cF W'=>∃E' aK,eE E0 W0 A0 E' W' cF/\Rel E' W' aK cF/\aK.nt=nt/\Q e aK) f (l.setIfInBounds i true)) (Q:=fun e cF W'=>∃E' aK,eE E0 W0 A0 E' W' cF/\Rel E' W' aK cF/\aK.nt=nt/\Q e aK) h2 hdo hr (fun E' W' aK cF lR cZ YM hK=>ih _ aK E' W' cF hK (YM.trans cM) (hv.trans lR) cZ)
   by_cases hw:Region.wanted o (yielded ops act.tmps)=true
   ·simp only[hw,if_true]at dA⊢
    exact dA
   ·simp only[hw]at dA⊢
    exact⟨fun _ _=>trivial,dA⟩
  ·rw[if_pos (by simp[Region.wanted,hg])]
   exact hx ro E W act _ _ hr fun E' W' H' hR lR cZ=>⟨E',_,hv.trans (.of lR rfl),cZ,cM,hq H' hR⟩
section
variable {P : Program} {σ : AS} {Q : Exit -> AS -> Prop}
theorem co3{id:Nat}{ops:Array Oper}{n:Nat}(hn:ops.size=n)(hm:P.follows .mixedOrders=true)(hd:ops.toList.all (fY σ.nt)=true)(h:pH P ops Q n (Array.replicate n false) σ):AW P (.region id ops true) σ Q:=fun ro E W act eN cC=>by
 subst hn;refine wpIn_region_any hm ?_;exact co1 (nt:=σ.nt) hd ops.size _ σ E W.drew act h rfl (eE.of (bE.drew E W) rfl) ⟨cC.defers.mono (bE.drew E W),cC.size,fun t c a ha=>let ⟨v,h1,h2,h3⟩:=cC.env t c a ha;⟨v,h1,fun hc=>(h2 hc).mono (bE.drew E W),h3⟩,⟨cC.heap.next,cC.heap.core.drew⟩⟩
theorem al6{id:Nat}{ops:Array Oper}(n:Nat)(h:pH P ops Q n (Array.replicate n false) σ)(hn:ops.size=n:=by(first|rfl|fail))(hm:P.follows .mixedOrders=true:=by(first|kernel_rfl|fail))(hd:ops.toList.all (fY σ.nt)=true:=by(first|rfl|fail)):AW P (.region id ops true) σ Q:=co3 hn hm hd h
theorem m9{ops:Array Oper}{f:Nat}{l:Array Bool}(h:Q .normal σ)(hr:Region.ready .any ops l=[]:=by(first|kernel_rfl|fail)):pH P ops Q f l σ:=by
 cases f with
 |zero=>exact⟨hr,h⟩
 |succ f=>exact⟨fun _=>h,fun i hi=>by rw[hr]at hi;cases hi⟩
theorem aE3(i:Nat){ops:Array Oper}{f:Nat}{l l':Array Bool}{o:Oper}(h:b9 P true ops [o] σ (hold (fun aK=>pH P ops Q f l' aK) ⟨⟩))(hr:Region.ready .any ops l=[i]:=by(first|kernel_rfl|fail))(ho:ops[i]? =some o:=by(first|rfl|fail))(hl:l.setIfInBounds i true=l':=by(first|rfl|fail)):pH P ops Q (f+1) l σ:=
 ⟨(fun h0=>by rw[hr]at h0;cases h0),fun k hk=>by
   rw[hr]at hk;simp only[List.mem_singleton]at hk;subst hk
   exact⟨o,ho,.inl (by rw[hl];exact h)⟩⟩
theorem co4(i:Nat){ops:Array Oper}{f:Nat}{l:Array Bool}{o:Oper}{x:Value}{R:Heap->Prop}(h:FX P o σ x R/\∀H',R H'->Q (.panic (jD x)) {σ with H:=H'})(hr:Region.ready .any ops l=[i]:=by(first|kernel_rfl|fail))(ho:ops[i]? =some o:=by(first|rfl|fail)):pH P ops Q (f+1) l σ:=
 ⟨(fun h0=>by rw[hr]at h0;cases h0),fun k hk=>by
   rw[hr]at hk;simp only[List.mem_singleton]at hk;subst hk
   exact⟨o,ho,.inr ⟨x,R,h⟩⟩⟩
theorem iL(i k:Nat){ops:Array Oper}{f:Nat}{l:Array Bool}(h:∀j∈[i,k],∃o,ops[j]? =some o/\(b9 P true ops [o] σ (hold (fun aK=>pH P ops Q f (l.setIfInBounds j true) aK) ⟨⟩)\/∃x R,FX P o σ x R/\∀H',R H'->Q (.panic (jD x)) {σ with H:=H'}))(hr:Region.ready .any ops l=[i,k]:=by(first|kernel_rfl|fail)):pH P ops Q (f+1) l σ:=
 ⟨(fun h0=>by rw[hr]at h0;cases h0),fun j hj=>h j (hr▸hj)⟩
theorem iM{p:Nat->Prop}{i k:Nat}(h1:p i)(h2:p k):∀j∈[i,k],p j:=fun j hj=>by
 simp only[cG,jF,or_false]at hj;rcases hj with e|e
 ·rw[e];exact h1
 ·rw[e];exact h2
theorem aE4{ops:Array Oper}{i f:Nat}{l l':Array Bool}{o:Oper}(h:b9 P true ops [o] σ (hold (fun aK=>pH P ops Q f l' aK) ⟨⟩))(ho:ops[i]? =some o:=by(first|rfl|fail))(hl:l.setIfInBounds i true=l':=by(first|rfl|fail)):
  ∃o,ops[i]? =some o/\(b9 P true ops [o] σ (hold (fun aK=>pH P ops Q f (l.setIfInBounds i true) aK) ⟨⟩)\/∃x R,FX P o σ x R/\∀H',R H'->Q (.panic (jD x)) {σ with H:=H'}):=⟨o,ho,.inl (by rw[hl];exact h)⟩
end
end Go.AL
namespace Go.AL
theorem an2{P:Program}{σ:AS}{Q:Exit->AS->Prop}{c:Code}(j:Nat){e:TypeId}{s:Nat}{rws:List (List AV)}{w a:Bool}(yH:List (List AV)){g:Nat->Option aI}(hr:xJ rws yH)
  (h:AW P c ⟨σ.env,⟨σ.H.next,g⟩,σ.nt⟩ Q) (hj:σ.H.get j=some (.cells e s rws w a):=by(first|exact aL|exact rfl|fail)) (hg:aX σ.H.get [(j,some (.cells e s yH w a))]=g:=by(exact aL)):AW P c σ Q:=fun ro E W act eN cC=>by
 subst hg;obtain⟨_,_,_,⟨cur,L9,_,sS⟩,_,_⟩:=cC.heap.core.ok j _ hj;refine h ro E W act eN ⟨cC.defers,cC.size,cC.env,⟨cC.heap.next,cC.heap.core.aD4 hj hr.1.symm (fun i r r' h1 h2=> ?_) L9⟩⟩
 have h3:=hr.2 i r r' h1 h2;refine⟨h3.1.symm,fun k x y hx hy v hv=> ?_⟩
 obtain⟨v',h4,h5⟩:=sS i k r x h1 hx;rw[hv]at h4;injection h4 with h4
 subst h4;exact RV.wk (h3.2 k x y hx hy) h5
theorem qD.less{P:Program}{m:FuncId}{args:List AV}{H0 H:Heap}{r:Option Value}{Q:Heap->Prop}(h:qD P m args H0 r Q)(hl:XV H0 H):qD P m args H r Q:=⟨h.1,fun E W vs hH hr=>h.2 E W vs (hH.less hl) hr⟩
theorem wY{P:Program}{σ:AS}{rs:List ResultVar}{m:FuncId}{cargs:List AV}{Q:AV->Heap->Prop}{x:Value}{R:Heap->Prop}(hd:qD P m cargs σ.H (some x) R)(h:∀H',R H'->∃a,jY P {σ with H:=H'} rs=some a/\Q a H'):YS P rs m cargs Q (.panic (jD x)) σ:=
 ⟨x,rfl,hd.mono fun H' hR=>by
   obtain⟨a,h1,h2⟩:=h H' hR
   show p9 (jY P _ rs) _
   rw[h1]
   exact h2⟩
section
variable {P : Program} {σ : AS} {Q : Exit -> AS -> Prop}
theorem bA1(k:Nat){rid:Nat}{ops:Array Oper}{o:Oper}{l:List Oper}{f:Operand}{as:Array Operand}{ts:Array TypeId}{n:FuncId}{args:List AV}{id i j d:Nat}{b0:aI}{x:Value}{p:AS×List Oper}(hp:M6 P n (.ptr id i j::args) id b0 x d)(h:Q (.panic (jD x)) {p.1 with H:=⟨p.1.H.next+d,aX p.1.H.get [(id,none)]⟩})
  (ho:ops[k]? =some o:=by(first|rfl|fail)) (hl:ops.toList.take k=l:=by(first|rfl|fail)) (hd:(ops.toList.take k).all (fY σ.nt)=true:=by(first|rfl|fail)) (hr:run P ops.toList l σ=p:=by(exact aL)) (H7:p.2=[]:=by(first|rfl|fail)) (aO:o.op= .call ⟨.value f,as,ts⟩:=by(first|rfl|fail)) (hg:o.guard=none:=by(first|rfl|fail))
  (hc:fZ (p.1.get true f) (dZ (p.1.get true) as.toList)=some (n,.ptr id i j::args):=by(exact aL)) (hb:p.1.H.get id=some b0:=by(exact aL)):AW P (.region rid ops false) σ Q:=by
 subst hl;refine cn9 (x:=x) (R:=fun H'=>H'=⟨p.1.H.next+d,aX p.1.H.get [(id,none)]⟩) k ho hd (pI (K:=hold (fun aK=>FX P o aK x (fun H'=>H'=⟨p.1.H.next+d,aX p.1.H.get [(id,none)]⟩)/\∀H',H'=⟨p.1.H.next+d,aX p.1.H.get [(id,none)]⟩->Q (.panic (jD x)) {aK with H:=H'}) ⟨⟩) _ _ hr ?_)
 rw[H7];refine tF ?_;refine⟨Ry aO hg hc (hp.act _ _ hb),fun H' e=> ?_⟩
 subst e;exact h
theorem F9{ops:Array Oper}{q f:Nat}{l:Array Bool}{o:Oper}{fo:Operand}{as:Array Operand}{ts:Array TypeId}{n:FuncId}{args:List AV}{id i j d:Nat}{b0:aI}{x:Value}(hp:M6 P n (.ptr id i j::args) id b0 x d)(h:Q (.panic (jD x)) {σ with H:=⟨σ.H.next+d,aX σ.H.get [(id,none)]⟩})
  (ho:ops[q]? =some o:=by(first|rfl|fail)) (aO:o.op= .call ⟨.value fo,as,ts⟩:=by(first|rfl|fail)) (hg:o.guard=none:=by(first|rfl|fail))
  (hc:fZ (σ.get true fo) (dZ (σ.get true) as.toList)=some (n,.ptr id i j::args):=by(exact aL)) (hb:σ.H.get id=some b0:=by(exact aL)):
  ∃o,ops[q]? =some o/\(b9 P true ops [o] σ (hold (fun aK=>pH P ops Q f (l.setIfInBounds q true) aK) ⟨⟩)\/∃x R,FX P o σ x R/\∀H',R H'->Q (.panic (jD x)) {σ with H:=H'}):=
 ⟨o,ho,.inr ⟨x,fun H'=>H'=⟨σ.H.next+d,aX σ.H.get [(id,none)]⟩,Ry aO hg hc (hp.act _ _ hb),fun H' e=>by subst e;exact h⟩⟩
theorem WO(q:Nat){ops:Array Oper}{f:Nat}{l:Array Bool}{o:Oper}{fo:Operand}{as:Array Operand}{ts:Array TypeId}{n:FuncId}{args:List AV}{id i j d:Nat}{b0:aI}{x:Value}(hp:M6 P n (.ptr id i j::args) id b0 x d)(h:Q (.panic (jD x)) {σ with H:=⟨σ.H.next+d,aX σ.H.get [(id,none)]⟩})(hr:Region.ready .any ops l=[q]:=by(first|kernel_rfl|fail))
  (ho:ops[q]? =some o:=by(first|rfl|fail)) (aO:o.op= .call ⟨.value fo,as,ts⟩:=by(first|rfl|fail)) (hg:o.guard=none:=by(first|rfl|fail))
  (hc:fZ (σ.get true fo) (dZ (σ.get true) as.toList)=some (n,.ptr id i j::args):=by(exact aL)) (hb:σ.H.get id=some b0:=by(exact aL)):pH P ops Q (f+1) l σ:=
 co4 q ⟨Ry aO hg hc (hp.act _ _ hb),fun H' e=>by subst e;exact h⟩ hr ho
theorem bO(q:Nat){ops:Array Oper}{f:Nat}{l l':Array Bool}{o:Oper}{aK:AS}(h:pH P ops Q f l' aK)(hr:Region.ready .any ops l=[q]:=by(first|kernel_rfl|fail))(ho:ops[q]? =some o:=by(first|(simp only[wE,nE,vE]<;>exact rfl)|fail))(hl:l.setIfInBounds q true=l':=by(first|rfl|fail))
  (hs:RT P ops.toList o σ=some aK:=by(exact aL)):pH P ops Q (f+1) l σ:=aE3 q (pI (p:=(aK,[])) _ _ (by simp only[run,run.runK,hs]) h) hr ho hl
theorem dU(q:Nat){ops:Array Oper}{f:Nat}{l l':Array Bool}{o:Oper}{aK:AS}(h:pH P ops Q f l' aK)(ho:ops[q]? =some o:=by(first|(simp only[wE,nE,vE]<;>exact rfl)|fail))(hl:l.setIfInBounds q true=l':=by(first|rfl|fail))
  (hs:RT P ops.toList o σ=some aK:=by(exact aL)):
  ∃o,ops[q]? =some o/\(b9 P true ops [o] σ (hold (fun aK=>pH P ops Q f (l.setIfInBounds q true) aK) ⟨⟩)\/∃x R,FX P o σ x R/\∀H',R H'->Q (.panic (jD x)) {σ with H:=H'}):=
 aE4 (pI (p:=(aK,[])) _ _ (by simp only[run,run.runK,hs]) h) ho hl
theorem FA(q:Nat){ops:Array Oper}{f:Nat}{l l':Array Bool}{o:Oper}{fo:Operand}{as:Array Operand}{ts:Array TypeId}{n:FuncId}{args:List AV}{id i j d:Nat}{b0:aI}{b1:Option aI}{r:AV}(hp:l6 P n (.ptr id i j::args) id b0 b1 r d){g:Nat->Option aI}(h:pH P ops Q f l' (({σ with H:=⟨σ.H.next+d,g⟩}:AS).put o.dst true r))(ho:ops[q]? =some o:=by(first|(simp only[wE,nE,vE]<;>exact rfl)|fail))(hl:l.setIfInBounds q true=l':=by(first|rfl|fail))
  (aO:o.op= .call ⟨.value fo,as,ts⟩:=by(first|rfl|fail)) (hg:o.guard=none:=by(first|rfl|fail)) (hc:fZ (σ.get true fo) (dZ (σ.get true) as.toList)=some (n,.ptr id i j::args):=by(exact aL)) (hb:σ.H.get id=some b0:=by(exact aL)) (Rz:aX σ.H.get [(id,b1)]=g:=by(exact aL)):
  ∃o,ops[q]? =some o/\(b9 P true ops [o] σ (hold (fun aK=>pH P ops Q f (l.setIfInBounds q true) aK) ⟨⟩)\/∃x R,FX P o σ x R/\∀H',R H'->Q (.panic (jD x)) {σ with H:=H'}):=
 aE4 (Rw (p:=(_,[])) (K:=hold (fun aK=>pH P ops Q f l' aK) ⟨⟩) (by rw[<-Rz]at h;exact h) aO hg hc hb hp rfl) ho hl
theorem WQ(q:Nat){ops:Array Oper}{f:Nat}{l l':Array Bool}{o:Oper}{fo:Operand}{as:Array Operand}{ts:Array TypeId}{n:FuncId}{args:List AV}{id i j d:Nat}{b0:aI}{b1:Option aI}{r:AV}(hp:l6 P n (.ptr id i j::args) id b0 b1 r d){g:Nat->Option aI}(h:pH P ops Q f l' (({σ with H:=⟨σ.H.next+d,g⟩}:AS).put o.dst true r))(hr:Region.ready .any ops l=[q]:=by(first|kernel_rfl|fail))(ho:ops[q]? =some o:=by(first|(simp only[wE,nE,vE]<;>exact rfl)|fail))(hl:l.setIfInBounds q true=l':=by(first|rfl|fail))
  (aO:o.op= .call ⟨.value fo,as,ts⟩:=by(first|rfl|fail)) (hg:o.guard=none:=by(first|rfl|fail)) (hc:fZ (σ.get true fo) (dZ (σ.get true) as.toList)=some (n,.ptr id i j::args):=by(exact aL)) (hb:σ.H.get id=some b0:=by(exact aL)) (Rz:aX σ.H.get [(id,b1)]=g:=by(exact aL)):pH P ops Q (f+1) l σ:=
 aE3 q (Rw (p:=(_,[])) (K:=hold (fun aK=>pH P ops Q f l' aK) ⟨⟩) (by rw[<-Rz]at h;exact h) aO hg hc hb hp rfl) hr ho hl
end
end Go.AL
set_option maxRecDepth 100000
namespace Go.AL
def EE:Oper->Oper
 |⟨dst,.insert t m x y,ty,pos,after,g⟩=>⟨dst,.mapUpdate t m x y,ty,pos,after,g⟩
 |o=>o
theorem aE5(o:Oper):(EE o).dst=o.dst:=by
 obtain⟨dst,op,ty,pos,after,g⟩:=o;cases op<;>rfl
theorem co6(o:Oper):(EE o).guard=o.guard:=by
 obtain⟨dst,op,ty,pos,after,g⟩:=o;cases op<;>rfl
theorem co7{F:Fence}(hF:∀f,F.fn f)(n:Nat)(P:Program)(o:Oper)(a:Act)(w:World)(next:Act->World->Prop)(Q:Exit->Act->World->Prop):(EE o).wpIn F n P a w next Q=o.wpIn F n P a w next Q:=by
 obtain⟨dst,op,ty,pos,after,g⟩:=o;cases op
 case insert t m x y=>
  have h1:∀(x:Option FuncId),(∀f,x=some f->F.fn f)=True:=fun x=>eq_true fun f _=>hF f
  have h2:Oper.semAt F.round a.eval ⟨dst,.insert t m x y,ty,pos,after,g⟩=Oper.semAt F.round a.eval ⟨dst,.mapUpdate t m x y,ty,pos,after,g⟩:=by
   rw[Oper.semAt_eq _ _ _ (by intro c h;cases h),Oper.semAt_eq _ _ _ (by intro c h;cases h)]
   rfl
  unfold Oper.wpIn;rw[h1,h1,h2];rfl
 all_goals rfl
theorem co8(o:Oper)(f:Nat->Option Bool):Region.wanted (EE o) f=Region.wanted o f:=by
 unfold Region.wanted;rw[co6]
theorem co9(ops:Array Oper)(t:Array Value):yielded (ops.map EE) t=yielded ops t:=by
 funext j
 unfold yielded;rw[Z4];cases h:ops[j]? with
 |none=>rfl
 |some o=>simp only[oU,Z1,aE5]
theorem aE6{F:Fence}(hF:∀f,F.fn f)(n:Nat)(P:Program)(ops:Array Oper)(Q:Exit->Act->World->Prop):∀l:List Nat,wpOpsIn F n P (ops.map EE) Q l=wpOpsIn F n P ops Q l
 |[]=>rfl
 |i::l=>by
  funext a w
  have ih:=aE6 hF n P ops Q l;simp only[wpOpsIn,Z4,ih];cases h:ops[i]? with
  |none=>rfl
  |some o=>
   have h1:∀(x:Option FuncId),(∀f,x=some f->F.fn f)=True:=fun x=>eq_true fun f _=>hF f
   simp only[oU,co9,co8,co7 hF,aE5,h1]
theorem cp0(ops:Array Oper):(List.range ops.size).map (ops[·]?)=ops.toList.map some:=by
 apply BE;intro i;simp only[gE];by_cases hi:i<ops.size
 ·simp[hi,wD]
 ·simp[hi,wD]
theorem cp1{P:Program}{σ:AS}{Q:Exit->AS->Prop}{ic:Bool}{id:Nat}{ops:Array Oper}(vW:Array Oper)(e:ops.map EE=vW)(h:b9 P ic vW vW.toList σ (Q .normal))(hd:vW.toList.all (fY σ.nt)=true):AW P (.region id ops false) σ Q:=fun ro E W act eN hr=>by
 subst e;refine wpIn_region ?_;have h9:=JV (ro:=ro) (Q:=fun e a w=>∃E' aK,eE E W act E' w a/\Rel E' w aK a/\aK.nt=σ.nt/\Q e aK) (List.range (ops.map EE).size) (ops.map EE).toList (cp0 _) h hd hr (fun E' W' aK cF hv cZ cM hK=>⟨E',aK,hv,cZ,cM,hK⟩)
 rw[aE6 (fun _=>trivial),Array.size_map]at h9
 exact h9
theorem X0{P:Program}{σ:AS}{Q:Exit->AS->Prop}{id:Nat}{ops:Array Oper}(vW:Array Oper){p:AS×List Oper}(h:b9 P true vW p.2 p.1 (Q .normal))(e:ops.map EE=vW:=by(simp only[BF,gJ,tK,EE]<;>exact rfl))(hd:vW.toList.all (fY σ.nt)=true:=by(first|rfl|fail))
  (hr:run P vW.toList vW.toList σ=p:=by(exact aL)):AW P (.region id ops false) σ Q:=cp1 vW e (pI _ _ hr h) hd
end Go.AL
set_option maxRecDepth 100000
namespace Go.AL
open Go.RowKit
theorem bG3{P:Program}{g:Operand->Option AV}{G:Nat->Option aI}{aF:Nat}{dst:Option Tmp}{ty:TypeId}{pos:String}{after:Array Edge}{guard:Option (Nat×Bool)}{t e:TypeId}{k:Nat}{x:Operand}{id off len:Nat}{rows:List (List AV)}{ap:Bool}{zs:List AV}(ht:fG P t=some (e,k))(hz:fT P e=some zs)(CE:zs.length=k)(h1:zs.all AV.one=true)(hx:g x=some (.own id off len))(hg:G id=some (.cells e k rows true ap))(hn:off+len<=rows.length):
  eM P g G aF ⟨dst,.call ⟨.builtin .clear,#[x],#[t]⟩,ty,pos,after,guard⟩ (.aU []) (aX G [(id,some (.cells e k (rows.take off++List.replicate len zs++rows.drop (off+len)) true ap))]):=fun E W ρ hG gR aZ=>by
 have gQ:=aZ x _ hx;generalize cJ:ρ x=vx at gQ;obtain⟨hu,hk⟩:=x9 ht;obtain⟨i,z,hi,vA,yC⟩:=JK hz;have h8:z.cells.size=k:=by have:=(yC E W).1;simp at this;omega
 obtain⟨hU,kZ,hlen,⟨cur,cK,qV,eX⟩,hw,ha⟩:=hG.ok id _ hg
 have dA:∀(r:Result Value),(Builtin.clear_ #[t] ty #[vx]).run P W=r->(execOp ρ ⟨dst,.call ⟨.builtin .clear,#[x],#[t]⟩,ty,pos,after,guard⟩).run P W=r.andThen fun v w'=> .ok (.value v) w':=by
  intro r hr;rw[AR];simp only[builtin,BF,gJ,tK,cJ];rw[Sem.run_bind,hr];rfl
 have HU:∀W',RV E W' (.aU []) (.tuple #[]):=fun W'=> .aU _ _ rfl fun i a v ha hv=>by simp at ha
 by_cases h0:len=0
 ·subst h0
  have CC:aX G [(id,some (.cells e k (rows.take off++List.replicate 0 zs++rows.drop (off+0)) true ap))]=G:=Pm (by rw[hg];simp)
  rw[CC];cases gQ with
  |mW _ _ a aB=>exact⟨W,_,E,.inl (by rw[dA (.ok (.tuple #[]) W) (by cases a<;>simp[Builtin.clear_,run_underlying hu,Result.andThen])];rfl),bE.refl E W,hG,HU W,fun _ h=> .inl h⟩
  |own _ _ _ cap aB eC dP=>exact⟨W,_,E,.inl (by rw[dA (.ok (.tuple #[]) W) (by simp[Builtin.clear_,run_underlying hu,Result.andThen])];rfl),bE.refl E W,hG,HU W,fun _ h=> .inl h⟩
 ·cases gQ with
  |mW _ _ a aB=>exact absurd rfl h0
  |own _ _ _ cap aB eC dP=>
   have hmul:(off+len)*k<=rows.length*k:=nN k hn;rw[oW]at hmul;obtain⟨cs,uM⟩:∃cs,(Builtin.zeroCells z.cells len).toList=cs:=⟨_,rfl⟩;have iE:cs.length=len*k:=by rw[<-uM,YY,size_zeroCells,h8]
   have hcz:∀q,q<len*k->cs[q]? =z.cells[q % k]? :=fun q hq=>by
    have rS:0<k:=Nat.pos_of_ne_zero fun h=>by subst h;simp at hq
    have hm:q % k<z.cells.size:=by rw[h8];exact zO _ rS
    rw[<-uM,vD];unfold Builtin.zeroCells;rw[Z4,aH1,if_pos (by rw[h8];exact hq),oU,h8,getElem!_def,G5 hm]
   have XF:∀v∈cs,v.oneCell'=true:=fun v hv=>by
    obtain⟨q,hq,rfl⟩:=wA.1 hv;have h9:=hcz q (by omega)
    rw[eQ hq]at h9;exact(yC E W).ap5 h1 _ (eS (i:=q % k) (by rw[vD,<-h9]))
   have eG:=run_storeCells_at P (E.ι id) (off*k) e cs 0 cur W cK (by omega) XF
   simp only[zN]at eG;generalize yB:(cur.toList.take (off*k)++cs++cur.toList.drop (off*k+cs.length)).toArray=dN at eG;have z7:dN.size=cur.size:=by subst yB;simp;omega
   have hold:∀q,q<cur.size->(q<off*k\/off*k+len*k<=q)->dN[q]? =cur[q]? :=fun q hq oH=>by
    subst yB;rw[wE];rcases oH with oH|oH
    ·rw[fF,kG (by simp;omega),gU,if_pos oH];simp
    ·rw[k7 (by simp;omega),mF];simp;congr 1;omega
   have nP:∀q,q<len*k->dN[off*k+q]? =cs[q]? :=fun q hq=>by
    subst yB;rw[wE,fF,k7 (by simp;omega),kG (by simp;omega)]
    congr 1;simp;omega
   have iR:(rows.take off++List.replicate len zs++rows.drop (off+len)).length=rows.length:=by simp;omega
   have bH:∀(i:Nat) row,(rows.take off++List.replicate len zs++rows.drop (off+len))[i]? =some row->(i<rows.length/\((i<off\/off+len<=i)/\rows[i]? =some row))\/(off<=i/\i<off+len/\row=zs):=fun i row hr=>by
    by_cases h3:i<off
    ·rw[fF,kG (by simp;omega),gU,if_pos h3]at hr
     exact .inl ⟨by omega,.inl h3,hr⟩
    ·by_cases h4:i<off+len
     ·rw[fF,k7 (by simp;omega),kG (by simp;omega),O8]at hr
      have he:i-(rows.take off).length=i-off:=by simp;omega
      rw[he,if_pos (by omega)]at hr
      injection hr with hr
      exact .inr ⟨by omega,h4,hr.symm⟩
     ·rw[k7 (by simp;omega),mF]at hr
      have he:off+len+(i-(rows.take off++List.replicate len zs).length)=i:=by simp;omega
      rw[he]at hr;exact .inl ⟨(dV.1 hr).1,.inr (by omega),hr⟩
   obtain⟨hv,XG⟩:=hG.at4 hg cK z7 iR (fun i row hr=>by
    rcases bH i row hr with⟨_,_,h⟩|⟨_,_,h⟩
    ·exact hlen i row h
    ·rw[h];exact CE) (fun i j row x hr kY=>by
    rcases bH i row hr with⟨hi,h3,h⟩|⟨h3,h4,h⟩
    ·obtain⟨v,h5,h6⟩:=eX i j row x h kY
     refine⟨v,?_,h6⟩;rw[<-h5];have hj:j<k:=by rw[<-hlen i row h];exact(dV.1 kY).1
     refine hold _ (jG.1 h5).1 ?_;rcases h3 with h3|h3
     ·exact .inl (yA h3 hj)
     ·right
      have:=nN k h3;rw[oW]at this;omega
    ·subst h
     obtain⟨v,h5,h6⟩:=(yC E W).get kY;have hj:j<k:=by rw[<-CE];exact(dV.1 kY).1
     refine⟨v,?_,h6⟩;have bG:=yA (show i-off<len by omega) hj
     have he:i*k+j=off*k+((i-off)*k+j):=by rw[<-s9,<-oW];congr 2;omega
     have J7:((i-off)*k+j) % k=j:=by rw[Z3,aH0];exact wC hj
     rw[he,nP _ bG,hcz _ bG,J7]
     simpa using h5)
   have Qe:(storeCells ⟨E.ι id,off*k,none⟩ (Builtin.zeroCells z.cells len).toList).run P W= .ok () (W.setRow (E.ι id) dN):=by rw[uM];exact eG
   have FM:(Builtin.clear_ #[t] ty #[.slice (some ⟨E.ι id,off*k,none⟩) len cap]).run P W= .ok (.tuple #[]) (W.setRow (E.ι id) dN):=by
    cases len with
    |zero=>exact absurd rfl h0
    |succ len=>
     have MJ:(zeroValue e).run P W= .ok z W:=by simp[zeroValue,run_typeInfo hi,vA]
     simp[Builtin.clear_,run_underlying hu,MJ,Qe,Result.andThen]
   rw[<-kZ]at FM;exact⟨_,_,E,.inl (by rw[dA _ FM];rfl),hv,XG,HU _,fun _ h=> .inl h⟩
theorem cp2{P:Program}{o:Oper}{σ:AS}{a:AV}{wr:List (Nat×Option aI)}(dO:eM P (σ.get true) σ.H.get σ.H.next o a (aX σ.H.get wr))(nR:∀c,o.op≠ .defer c)(hd:fY σ.nt o=true){E:Env}{W:World}{act:Act}(hr:Rel E W σ act)
  {next:Act->World->Prop} {Q:Exit->Act->World->Prop} {ro:Option Nat} (hn:∀E' W' v,bE E W E' W'->Rel E' W' (({σ with H:=σ.H.app wr}:AS).put o.dst true a) (act.put o.dst v)->next (act.put o.dst v) W'):o.wpIn (kK ro) 3 P act W next Q:=by
 have nP:¬E.U σ.H.next:=fun hU=>KE _ (hr.heap.next _ hU)
 obtain⟨W',v,E',dA,hv,hG,iF,hU⟩:=dO E W act.eval hr.heap.core nP (fun x b hb=>hr.get rfl hb)
 have mA:RH E' W' (σ.H.app wr):=⟨fun id aB=>by
  by_cases hw:wr=[]
  ·subst hw
   rcases hU id aB with h1|⟨h1,h2⟩
   ·simpa[Heap.app]using hr.heap.next id h1
   ·simp only[aX]at h2
    rw[hr.heap.core.unused nP]at h2;cases h2
  ·have:wr.isEmpty=false:=by simpa using hw
   simp only[Heap.app,this];rcases hU id aB with h1|⟨h1,_⟩
   ·have:=hr.heap.next id h1;simp;omega
   ·subst h1;simp,hG⟩
 have cC:=(hr.mono hv mA).put (dst:=o.dst) (pU hd) (c:=true) (fun _=>iF) (fun h=>by cases h)
 have JS:=hn E' W' v hv cC;refine⟨fun _ _=>trivial,?_⟩
 rw[Oper.semAt_eq _ _ _ nR];rcases dA with h1|⟨h1,h2⟩
 ·rw[h1];exact JS
 ·rw[h1];subst h2;exact JS
theorem aE8{P:Program}{ic:Bool}{ops:Array Oper}{l2:List Nat}:∀(l:List Nat) (os:List Oper),l.map (ops[·]?)=os.map some->∀{σ:AS} {K:AS->Prop},b9 P ic ops os σ K->os.all (fY σ.nt)=true->∀{E:Env} {W:World} {act:Act},Rel E W σ act->
  ∀{Q:Exit->Act->World->Prop} {ro:Option Nat},(∀E' W' aK cF,eE E W act E' W' cF->Rel E' W' aK cF->aK.nt=σ.nt->K aK->wpOpsIn (kK ro) 3 P ops Q l2 cF W')->wpOpsIn (kK ro) 3 P ops Q (l++l2) act W
 |[],[],_,σ,K,h,_,E,W,act,hr,Q,ro,hn=>hn E W σ act (eE.refl E W act) hr rfl h
 |[],_::_,hl,_,_,_,_,_,_,_,_,_,_,_=>by simp at hl
 |_::_,[],hl,_,_,_,_,_,_,_,_,_,_,_=>by simp at hl
 |i::l,o::os,hl,σ,K,h,hd,E,W,act,hr,Q,ro,hn=>by
  simp only[gJ,OA]at hl;simp only[I4,k6]at hd;simp only[yI,wpOpsIn,hl.1]
  have h1:=XM (Q:=Q) (ro:=ro) (next:=wpOpsIn (kK ro) 3 P ops Q (l++l2)) h hd.1 hr (fun E' W' aK cF hv cZ cM hK=>by
   refine aE8 l os hl.2 hK (by rw[cM];exact hd.2) cZ (fun v7 CB eA RD fB nC HR GX=>hn v7 CB eA RD (hv.trans fB) nC (HR.trans cM) GX))
  by_cases hw:Region.wanted o (yielded ops act.tmps)=true
  ·simp only[hw,if_true]at h1⊢
   exact h1
  ·simp only[hw]at h1⊢
   exact⟨fun _ _=>trivial,h1⟩
theorem bG2{P:Program}{σ:AS}{Q:Exit->AS->Prop}{ic:Bool}{id:Nat}{ops:Array Oper}(os:List Oper)(o:Oper)(e:ops.toList=os++[o])(hg:o.guard=none)(nR:∀c,o.op≠ .defer c)
  (h:b9 P ic ops os σ (fun FP=>∃a wr,eM P (FP.get true) FP.H.get FP.H.next o a (aX FP.H.get wr)/\Q .normal (({FP with H:=FP.H.app wr}:AS).put o.dst true a))) (hd:ops.toList.all (fY σ.nt)=true):AW P (.region id ops false) σ Q:=fun ro E W act eN hr=>by
 refine wpIn_region ?_;have dP:ops.size=os.length+1:=by rw[<-YY,e];simp
 have wQ:List.range ops.size=List.range os.length++[os.length]:=by rw[dP,yK]
 have bU:∀i,ops[i]? =(os++[o])[i]? :=fun i=>by rw[<-vD,e]
 rw[wQ];rw[e,List.all_append,k6]at hd;refine aE8 (List.range os.length) os ?_ h hd.1 hr (fun E' W' aK cF hv cZ cM ⟨a,wr,h1,h2⟩=> ?_)
 ·apply BE
  intro i;simp only[gE];by_cases hi:i<os.length
  ·rw[wD hi]
   simp only[oU,bU,kG hi,eQ hi]
  ·have h9:(List.range os.length)[i]? =none:=by simp;omega
   rw[h9,zL (by omega)]
   rfl
 ·have hl:ops[os.length]? =some o:=by rw[bU,k7 (cE _),CM];rfl
  simp only[wpOpsIn,hl];have hw:Region.wanted o (yielded ops cF.tmps)=true:=by simp only[Region.wanted,hg]
  rw[if_pos hw];simp only[I4,k6]at hd;exact cp2 h1 nR (by rw[cM];exact hd.2.1) cZ (fun v7 CB v fB cC=>⟨v7,_,hv.trans (eE.of fB (Act.put_defers _ _ _)),cC,(AS.u6 _ _ _ _).trans cM,h2⟩)
end Go.AL
namespace Go.AL
open Go.RowKit
def cp3(P:Program)(n:FuncId)(args:List AV)(H:Heap)(Q:AV->Heap->Prop)(Qx:Value->Heap->Prop):Prop:=
 rD P n=true/\∀(E:Env) (W:World) (vs:List Value),RH E W H->bX E W args vs->
  Calls P n vs.toArray W fun e W'=>∃E' H',bE E W E' W'/\RH E' W' H'/\((∃v r,e= .returned v/\RV E' W' r v/\Q r H')\/∃x,e= .panicked (jD x)/\Qx x H')
def cp4(P:Program)(rs:List ResultVar)(Q:AV->Heap->Prop)(Qx:Value->Heap->Prop):Exit->AS->Prop
 | .normal,σ=>cH P rs Q .normal σ
 | .ret,σ=>cH P rs Q .ret σ
 | .panic ch,σ=>∃x,ch=jD x/\Qx x σ.H
 |_,_=>False
theorem S7{P:Program}{n:FuncId}{fn:Func}{c:Code}{args:List AV}{H:Heap}{Q:AV->Heap->Prop}{Qx:Value->Heap->Prop}(hf:P.funcs[n]? =some fn)(hb:fn.body=some c)(fI:(fn.name== "runtime.NumGoroutine")=false)(hlen:args.length<=fn.ntmps)
  (h:AW P c ⟨mB 0 args,H,fn.ntmps⟩ (hold (cp4 P fn.results.toList Q Qx) ⟨⟩)):cp3 P n args H Q Qx:=by
 refine⟨by unfold rD;rw[hf];simp[fI,hb],fun E W vs hH hr=> ?_⟩
 refine callsIn_wide.1 (callsIn_of_wp_marks (F:=Fence.wide) (n:=3) hf hb trivial ?_);refine wpIn_mono (h none E W _ (fun l h=>by cases h) (YR hlen hH hr)) fun e a w ⟨E',aK,h1,h2,h3,h4⟩=> ?_
 obtain⟨Ds,rY,tG,xC⟩:=h2.defers;have B7:∀D∈Ds,W.heap.size<=D:=fun D hD=>(h1.new D (MW rY hD)).resolve_left (fun h=>by cases h)
 have fin:p9 (jY P aK fn.results.toList) (hold (fun a=>Q a aK.H) ⟨⟩)->LeavesInM Fence.wide 3 P fn a.tmps (fun e W'=>∃E' H',bE E W E' W'/\RH E' W' H'/\((∃v r,e= .returned v/\RV E' W' r v/\Q r H')\/∃x,e= .panicked (jD x)/\Qx x H')) a.defers .returning w:=fun hq=>by
  obtain⟨b,hb,hq⟩:=HP hq
  have key:=JW (P:=P) (fn:=fn) (tmps:=a.tmps) (R:=fun e W'=>∃E' H',bE E W E' W'/\RH E' W' H'/\((∃v r,e= .returned v/\RV E' W' r v/\Q r H')\/∃x,e= .panicked (jD x)/\Qx x H')) (I:=fun w'=>bE E W E' w'/\Rel E' w' aK {a with defers:=[]}) (u:= .returning) (by simp) (rest:=[]) a.defers Ds rY h1.B0 tG
   (fun D hD w' hw hI=>⟨hI.1.shut hH.core.lim (B7 D hD),hI.2.shut hw⟩) (fun w' hI=> ?_) (fun D hD=>(xC D hD).1) ⟨h1.pS,⟨Marks.nil _ _,h2.size,h2.env,h2.heap⟩⟩
  ·rw[mD]at key;exact key
  ·obtain⟨v,h5,h6⟩:=El hI.2 hb
   exact⟨v,h5,E',aK.H,hI.1,hI.2.heap,.inl ⟨v,b,rfl,h6,hq⟩⟩
 cases e with
 |normal=>exact fin h4
 |ret=>exact fin h4
 |panic ch=>
  obtain⟨x,h4,h5⟩:=h4;subst h4
  have key:=JW (P:=P) (fn:=fn) (tmps:=a.tmps) (R:=fun e W'=>∃E' H',bE E W E' W'/\RH E' W' H'/\((∃v r,e= .returned v/\RV E' W' r v/\Q r H')\/∃x,e= .panicked (jD x)/\Qx x H')) (I:=fun w'=>bE E W E' w'/\Rel E' w' aK {a with defers:=[]}) (u:= .panicking (jD x)) (by simp) (rest:=[]) a.defers Ds rY h1.B0 tG
   (fun D hD w' hw hI=>⟨hI.1.shut hH.core.lim (B7 D hD),hI.2.shut hw⟩) (fun w' hI=>⟨E',aK.H,hI.1,hI.2.heap,.inr ⟨x,rfl,h5⟩⟩) (fun D hD=>(xC D hD).1) ⟨h1.pS,⟨.nil E' w,h2.size,h2.env,h2.heap⟩⟩
  rw[mD]at key;exact key
 |_=>exact h4.elim
section
variable {P : Program} {σ : AS} {Q : Exit -> AS -> Prop}
end
end Go.AL
