/- Staging. No condition. -/
import Derived.Test.YtioafciifiggaaaGreatDoorL0
import Derived.Test.YtioafciifiggaaaGreatDoorLe
set_option linter.all false
namespace Go.AL
open Go.RowKit
theorem gX.bq0{P:Program}{n:FuncId}{args:List AV}{H:Heap}{Q:AV->Heap->Prop}(h:gX P n args H fun r H'=>∃xs,r= .aR xs/\Q (.aR (xs.map (m7 H'.get))) ⟨H'.next,sG H'.get (kU lL xs)⟩):gX P n args H Q:=
 ⟨h.1,fun E W vs hH hr=>(h.2 E W vs hH hr).mono fun e W' ⟨v,he,E',r,H',h1,h2,h3,xs,hx,hq⟩=>by
   subst hx;obtain⟨L1,h4,h5,h6⟩:=NZ (W:=W') (kU lL xs) h2;refine⟨v,he,_,_,_,h1.trans h4,h5,?_,hq⟩;cases h3 with
   |aR _ us hl hr=>
    refine .aR _ us (by simpa using hl) fun i x v hx hv=> ?_
    rw[iA]at hx;cases hy:xs[i]? with
    |none=>rw[hy]at hx;cases hx
    |some y=>
     rw[hy]at hx;injection hx with hx
     subst hx
     exact T0 h2.core h4 (hr i y v hy hv) fun id aC=>h6 id (K4 (eY hy) aC)⟩
structure jZ(P:Program)(n:FuncId)(args:List AV)(id:Nat)(b0:aI)(b1:Option aI)(a:AV)(d:Nat):Prop where
 act:∀N G,G id=some b0->gX P n args ⟨N,G⟩ fun r H'=>r=a/\H'=⟨N+d,aS G [(id,b1)]⟩
def KP(N:Nat)(G:Nat->Option aI)(id:Nat)(b1:Option aI)(a:AV)(d:Nat)(r:AV)(H':Heap):Prop:=
 ∃xs T GT,r= .aR xs/\sG H'.get (kU lL xs)=GT/\GT=iU G T/\H'.next<=N+d/\yM G T [(id,b1)]/\uJ N [(id,b1)] T/\Wk (.aR (xs.map (m7 H'.get))) a
theorem KP.mk{N:Nat}{G:Nat->Option aI}{id:Nat}{b1:Option aI}{a:AV}{d:Nat}{xs:List AV}{T:List (Nat×Option aI)}{GT:Nat->Option aI}{H':Heap}(h1:sG H'.get (kU lL xs)=GT)(h2:GT=iU G T)(h3:H'.next<=N+d)(h4:yM G T [(id,b1)])(h5:uJ N [(id,b1)] T)(h6:Wk (.aR (xs.map (m7 H'.get))) a):KP N G id b1 a d (.aR xs) H':=
 ⟨xs,T,GT,rfl,h1,h2,h3,h4,h5,h6⟩
theorem mstart{P:Program}{n:FuncId}{fn:Func}{c:Code}{args:List AV}{id:Nat}{b0:aI}{b1:Option aI}{a:AV}{d:Nat}{rs:List ResultVar}{nt:Nat}(hf:P.funcs[n]? =some fn)(cU:fn.ntmps=nt)
  (h:∀N G,id<N->G id=some b0->(∀k,N<=k->G k=none)->AW P c ⟨lK 0 args,⟨N,iU G []⟩,nt⟩ (hold (cB P rs (hold (KP N G id b1 a d) ⟨⟩)) ⟨⟩))
  (hb:fn.body=some c:=by rfl) (hr:fn.results=List.toArray rs:=by rfl) (fP:(fn.name== "runtime.NumGoroutine")=false:=by kernel_rfl) (hlen:args.length<=nt:=by(simp only[eI,gL];decide)):jZ P n args id b0 b1 a d:=by
 refine⟨fun N G iL=>⟨by unfold qN;rw[hf];simp[fP,hb],fun E W vs hH iF=> ?_⟩⟩
 have hG:∀k,N<=k->G k=none:=fun k hk=>by
  cases hg:G k with
  |none=>rfl
  |some b=>
   have h1:=hH.next k (hH.core.ok k b hg).1
   simp only[]at h1;omega
 have aC:id<N:=by
  rcases lU id N with h1|h1
  ·exact h1
  ·rw[hG id h1]at iL;cases iL
 have h1:=h N G aC iL hG
 have hA:gX P n args ⟨N,G⟩ (KP N G id b1 a d):=by
  refine EI (H:=⟨N,G⟩) hf hb fP (by rw[cU];exact hlen) ?_
  rw[cU,hr];exact h1
 have hB:gX P n args ⟨N,G⟩ fun r H'=>∃qQ,SS qQ H'/\Wk r a/\qQ=⟨N+d,aS G [(id,b1)]⟩:=
  gX.bq0 (hA.mono fun r H' ⟨xs,T,GT,h2,h3,Ie,h4,h5,h6,h7⟩=>⟨xs,h2,_,⟨h4,fun k b hk=>by
   have h8:=PZ hG h5 h6 k b hk;rw[<-Ie,<-h3]at h8
   exact h8⟩,h7,rfl⟩)
 exact(hB.2 E W vs hH iF).mono fun e W' ⟨v,he,E',r,H',h2,h3,h4,qQ,h5,h6,h7⟩=>⟨v,he,E',a,qQ,h2,h3.less h5,RV.wk h6 h4,rfl,h7⟩
section
variable {P : Program} {σ : AS} {Q : Exit -> AS -> Prop}
theorem Ig{ops:Array Oper}{o:Oper}{rest:List Oper}{K:AS->Prop}{f:Operand}{as:Array Operand}{ts:Array TypeId}{n:FuncId}{id i j d:Nat}{args:List AV}{b0:aI}{b1:Option aI}{r:AV}{p:AS×List Oper}(h:aX P true ops p.2 p.1 K)(aP:o.op= .call ⟨.value f,as,ts⟩:=by(first|rfl|fail))(hg:o.guard=none:=by(first|rfl|fail))
  (hc:fL (σ.get true f) (dO (σ.get true) as.toList)=some (n,.ptr id i j::args):=by(exact aJ)) (hb:σ.H.get id=some b0:=by(exact aJ)) (hp:jZ P n (.ptr id i j::args) id b0 b1 r d:=by(first|assumption|(apply_assumption<;>first|assumption|omega)|fail))
  (hr:run P ops.toList rest (({σ with H:=⟨σ.H.next+d,aS σ.H.get [(id,b1)]⟩}:AS).put o.dst true r)=p:=by(exact aJ)):aX P true ops (o::rest) σ K:=
 GU aP hg hc (hp.act σ.H.next σ.H.get hb) fun r' H' ⟨h1,h2⟩=>by subst h1;subst h2;exact nQ _ _ hr h
theorem LJ{α:Type}{c:Code}{G:Nat->Option aI}(N:Nat)(E:Nat->α->List (Nat×Bool×AV))(T:Nat->α->List (Nat×Option aI))(R:Nat->Nat->α->Prop)(h0:∃m a,R 0 m a/\Holds σ (E 0 a) ⟨m,iU G (T 0 a)⟩)
  (hk:∀k m a,k<N->R k m a->AW P c ⟨E k a,⟨m,iU G (T k a)⟩,σ.nt⟩ (cZ (fun aL=>∃m' a',R (k+1) m' a'/\Holds aL (E (k+1) a') ⟨m',iU G (T (k+1) a')⟩) Q))
  (hN:∀m a,R N m a->AW P c ⟨E N a,⟨m,iU G (T N a)⟩,σ.nt⟩ (cZ (fun _=>False) Q)):AW P (.loop c) σ Q:=by
 obtain⟨m,a,hR,hh⟩:=h0;refine Hp (fun n env H=>∃k m a,n=N-k/\k<=N/\R k m a/\env=E k a/\H=⟨m,iU G (T k a)⟩) N ⟨_,_,⟨0,m,a,by omega,by omega,hR,rfl,rfl⟩,hh⟩ ?_
 rintro n env H ⟨k,m,a,rfl,JN,KN,rfl,rfl⟩;by_cases bG:k<N
 ·have h1:=hk k m a bG KN
  intro ro E0 W act eH bR;refine wpIn_mono (h1 ro E0 W act eH bR) fun e a' w ⟨E',aL,h2,h3,h4,h5⟩=>⟨E',aL,h2,h3,h4,?_⟩
  cases e with
  |normal=>
   obtain⟨m',OM,h6,h7⟩:=h5;exact⟨N-(k+1),by omega,_,_,⟨k+1,m',OM,rfl,by omega,h6,rfl,rfl⟩,h7⟩
  |_=>exact h5
 ·obtain rfl:k=N:=by omega
  have h1:=hN m a KN;intro ro E0 W act eH bR;refine wpIn_mono (h1 ro E0 W act eH bR) fun e a' w ⟨E',aL,h2,h3,h4,h5⟩=>⟨E',aL,h2,h3,h4,?_⟩
  cases e with
  |normal=>exact h5.elim
  |_=>exact h5
end
theorem qX{σ:AS}{env:List (Nat×Bool×AV)}{N:Nat}{G:Nat->Option aI}{T:List (Nat×Option aI)}(w:Holds σ env ⟨N,iU G T⟩:=by
  ((repeat (refine rV (by first|rfl|(simp(disch:=omega) only[go_sem, *];done)|(simp(disch:=omega) only[go_sem, *];rfl)) ?_));(refine holds_nil (by simp only[];omega) ?_);(refine PZ (by assumption) ?_ ?_);(next=>((repeat (first|refine UX (by first|rfl|(simp(disch:=omega) only[go_sem, *];done)|(simp(disch:=omega) only[go_sem, *];rfl)) ?_|refine Q1 ?_));exact HQ));(next=>(simp only[uJ,DC,or_false,false_or,or_true,true_or,and_true,true_and,cA]<;>omega)))):Holds σ env ⟨N,iU G T⟩:=w
theorem jI{N:Nat}{G:Nat->Option aI}{id:Nat}{b1:Option aI}{a:AV}{d:Nat}{r:AV}{H':Heap}(w:KP N G id b1 a d r H':=by
  (apply KP.mk;(next=>(first|exact aJ|exact rfl|fail));(next=>(first|exact rfl|exact(Gh _).symm|fail));(next=>(simp only[];omega));(next=>(first|exact Q1 HQ|exact UX (by first|rfl|(simp(disch:=omega) only[go_sem, *];done)|(simp(disch:=omega) only[go_sem, *];rfl)) HQ));(next=>(simp only[uJ,DC,or_false,false_or,or_true,true_or,and_true,true_and,cA]<;>omega));(next=>(simp(maxSteps:=2000000) (disch:=omega) only[go_sem,false_implies,implies_true, *];(repeat (first|exact .refl _|exact .nil|exact sP|refine iO ?_ ?_|refine DA ?_|refine DB ?_|refine C3 ?_|exact yS|refine vV ?_ ?_)))))):KP N G id b1 a d r H':=w
theorem bO{A B:Prop}(h:B)(w:aU B->A:=by
  (intro hB;(repeat (first|refine tC ?_|refine YN ?_|refine YO ?_|refine YP ?_|refine rA ?_|refine YQ ?_|refine B4 ?_|refine rE ?_|refine K3 ?_|refine bN ?_|refine gE ?_|refine NR ?_|refine NS ?_|refine NT ?_|refine NU ?_|refine NV ?_|refine NW (by decide) ?_|refine NH ?_|refine jA ?_|refine NL ?_|refine NM ?_|refine OT ?_|refine OU ?_|refine OV ?_|refine OW ?_|refine OX ?_|refine OY ?_|refine OB ?_|refine OC ?_|refine OP ?_|refine OQ ?_|refine OR ?_|refine OS ?_|refine ON ?_|refine OO ?_|refine O9 ?_|refine OA ?_|refine OD ?_|refine DY ?_|refine NK ?_|refine NJ ?_|refine O7 ?_|refine O8 ?_|refine OE ?_|refine Ig ?_|refine OI ?_|refine TR ?_|refine OF ?_|refine OL ?_|refine OJ ?_|refine OG ?_|refine OH ?_|refine OZ ?_|refine P0 ?_|refine P1 ?_|refine OK ?_));exact hB.out)):A:=w ⟨h⟩
end Go.AL
namespace Go.AL
open Go.RowKit
theorem o0.mono{P:Program}{m:FuncId}{args:List AV}{H:Heap}{r:Option Value}{Q Q':Heap->Prop}(h:o0 P m args H r Q)(hq:∀H',Q H'->Q' H'):o0 P m args H r Q':=
 ⟨h.1,fun E W vs hH hr=>(h.2 E W vs hH hr).mono fun e u' W' ⟨h1,h2,E',H',h3,h4,h5⟩=>⟨h1,h2,E',H',h3,h4,hq H' h5⟩⟩
theorem V8{P:Program}{n m:FuncId}{fn:Func}{args cargs:List AV}{b:AV}{rs:List ResultVar}{nt i0 i1:Nat}{YR YS:Array Oper}{o1 o2:Oper}{f:Operand}{as:Array Operand}{ts:Array TypeId}{rest:Code}{p p1:AS×List Oper}(hf:P.funcs[n]? =some fn)(cU:fn.ntmps=nt)(gG:bJ b)
  (h:AW P rest (p1.1.put o2.dst true (.c undef)) (hold (TS P rs m cargs (hold (fun a H'=>bJ (cT H'.get 4 a)/\Wk (cT H'.get 4 a) b) ⟨⟩)) ⟨⟩))
  (hb:fn.body=some (.seq (.region i0 YR false) (.seq (.region i1 YS false) rest)):=by(first|rfl|fail)) (Hz:YS= #[o1,o2]:=by(first|rfl|fail)) (aP:o2.op= .defer ⟨.value f,as,ts⟩:=by(first|rfl|fail)) (hg:o2.guard=none:=by(first|rfl|fail)) (hr:fn.results=List.toArray rs:=by(first|rfl|fail)) (fP:(fn.name== "runtime.NumGoroutine")=false:=by(first|kernel_rfl|fail)) (hlen:args.length<=nt:=by(simp only[eI,gL];decide))
  (Ih:YR.toList.all (fT nt)=true:=by(first|rfl|fail)) (Ii:YS.toList.all (fT nt)=true:=by(first|rfl|fail))
  (vF:run P YR.toList YR.toList ⟨lK 0 args,⟨0,dH []⟩,nt⟩=p:=by(exact aJ)) (hp:p.2=[]:=by(first|rfl|fail)) (hpn:p.1.nt=nt:=by(first|rfl|fail)) (pF:run P YS.toList [o1] p.1=p1:=by(exact aJ)) (PY:p1.2=[]:=by(first|rfl|fail)) (hc:fL (p1.1.get true f) (dO (p1.1.get true) as.toList)=some (m,cargs):=by(exact aJ))
  :fD P n args (·=b):=by
 refine fD.wk (bn3 4 (Q:=fun r=>Wk r b) (bo7 (m:=m) (cargs:=cargs) hf hb fP (by rw[cU];exact hlen) ?_)) gG
 rw[cU,hr];refine bo6 ?_;refine Vn Ih vF ?_;rw[hp];refine rE ⟨rfl,?_⟩;refine bo5 ?_;subst Hz;refine bo2 1 (o:=o2) (f:=f) (as:=as) (ts:=ts) rfl (by rw[hpn];exact Ii) aP hg ?_
 refine nQ _ _ pF ?_;rw[PY];refine rE (K3 ⟨hc,?_⟩);exact h
section
variable {P : Program} {σ : AS}
theorem kI{rs:List ResultVar}{m:FuncId}{cargs:List AV}{Q:AV->Heap->Prop}{a:AV}(hd:o0 P m cargs σ.H none (fun H'=>H'=σ.H))(h:Q a σ.H)(ho:iZ P σ rs=some a:=by(exact aJ)):TS P rs m cargs Q .ret σ:=
 hd.mono fun H' e=>by
  subst e
  show nO (iZ P σ rs) _
  rw[ho];exact h
theorem FF{rs:List ResultVar}{m:FuncId}{cargs:List AV}{Q:AV->Heap->Prop}{a:AV}{x:Value}{H2:Heap}(hd:o0 P m cargs σ.H (some x) (fun H'=>H'=H2))(h:Q a H2)(ho:iZ P {σ with H:=H2} rs=some a:=by(exact aJ)):TS P rs m cargs Q (.panic (jO x)) σ:=
 ⟨x,rfl,hd.mono fun H' e=>by
   subst e
   show nO (iZ P _ rs) _
   rw[ho]
   exact h⟩
end
theorem LK{A B:Prop}(h:B)(w:aU B->A:=by
  (intro hB;(first|refine tC ?_|refine YN ?_|refine YO ?_|refine YP ?_|refine rA ?_|refine YQ ?_|refine B4 ?_|refine rE ?_|refine K3 ?_|refine bN ?_|refine gE ?_|refine NR ?_|refine NS ?_|refine NT ?_|refine NU ?_|refine NV ?_|refine NW (by decide) ?_|refine NH ?_|refine jA ?_|refine NL ?_|refine NM ?_|refine OT ?_|refine OU ?_|refine OV ?_|refine OW ?_|refine OX ?_|refine OY ?_|refine OB ?_|refine OC ?_|refine OP ?_|refine OQ ?_|refine OR ?_|refine OS ?_|refine ON ?_|refine OO ?_|refine O9 ?_|refine OA ?_|refine OD ?_|refine DY ?_|refine NK ?_|refine NJ ?_|refine O7 ?_|refine O8 ?_|refine OE ?_|refine OI ?_|refine TR ?_|refine OF ?_|refine OL ?_|refine OJ ?_|refine OG ?_|refine OH ?_|refine OZ ?_|refine P0 ?_|refine P1 ?_|refine OK ?_);exact hB.out)):A:=w ⟨h⟩
end Go.AL
namespace Go.AL
open Go.RowKit
theorem RC.shrink{E:Env}{W:World}{G:Nat->Option aI}{id:Nat}{e:TypeId}{s:Nat}{rows:List (List AV)}{a:Bool}(m:Nat)(hG:RC E W G)(hg:G id=some (.cells e s rows true a)):RC E W (aS G [(id,some (.cells e s (rows.take m) true a))]):=by
 obtain⟨hU,h1,h2,⟨cur,h3,h4,h5⟩,h6,h7⟩:=hG.ok id _ hg;have hw:=h6 rfl
 have hold:∀aK b',aK≠id->aS G [(id,some (.cells e s (rows.take m) true a))] aK=some b'->G aK=some b':=fun aK b' aM h=>by
  simpa only[aS,if_neg aM]using h
 refine⟨hG.lim,hG.eX,fun id2 b hb=> ?_⟩
 by_cases aC:id2=id
 ·subst aC
  simp only[aS]at hb;rw[if_pos trivial]at hb;injection hb with hb
  subst hb;refine⟨hU,h1,fun i row hi=> ?_,⟨cur,h3,?_,fun i j row x hi hj=> ?_⟩,fun _=>⟨hw.1,fun aK b' aM h=>hw.2 aK b' aM (hold aK b' aM h)⟩,fun _=>⟨by rw[hw.1];exact mT _,fun aK b' aM h he=>absurd he (hw.2 aK b' aM (hold aK b' aM h))⟩⟩
  ·rw[gF]at hi
   split at hi
   ·exact h2 i row hi
   ·cases hi
  ·have:(rows.take m).length*s<=rows.length*s:=mU s (by rw[eD];exact Yv _ _)
   omega
  ·rw[gF]at hi
   split at hi
   ·exact h5 i j row x hi hj
   ·cases hi
 ·have uY:=hold id2 b aC hb
  obtain⟨Nt,cK⟩:=hG.ok id2 b uY;refine⟨Nt,?_⟩;have Gs:E.ι id2≠E.ι id:=hw.2 id2 b aC uY
  have O4:∀aK b',aS G [(id,some (.cells e s (rows.take m) true a))] aK=some b'->∃b0,G aK=some b0:=fun aK b' h=>by
   by_cases hi:aK=id
   ·subst hi;exact⟨_,hg⟩
   ·exact⟨_,hold aK b' hi h⟩
  cases b with
  |map es=>
   obtain⟨k1,k2,k3⟩:=cK;refine⟨k1,k2,fun aK b' lZ h=> ?_⟩
   obtain⟨b0,h0⟩:=O4 aK b' h;exact k3 aK b0 lZ h0
  |iter m' n seen=>
   obtain⟨k1,k2,k3⟩:=cK;refine⟨k1,k2,fun aK b' lZ h=> ?_⟩
   obtain⟨b0,h0⟩:=O4 aK b' h;exact k3 aK b0 lZ h0
  |cJ env nt ps assign body st J7=>
   obtain⟨k1,k2,k3⟩:=cK;refine⟨k1,k2,fun aK b' lZ h=> ?_⟩
   obtain⟨b0,h0⟩:=O4 aK b' h;exact k3 aK b0 lZ h0
  |cells e' s' dZ w' a'=>
   obtain⟨k1,k2,k3,k4,k5⟩:=cK;refine⟨k1,k2,k3,fun YM=>⟨(k4 YM).1,fun aK b' lZ h=> ?_⟩,fun JA=>⟨(k5 JA).1,fun aK b' lZ h he=> ?_⟩⟩
   ·obtain⟨b0,h0⟩:=O4 aK b' h
    exact(k4 YM).2 aK b0 lZ h0
   ·by_cases hi:aK=id
    ·subst hi;exact absurd he.symm Gs
    ·exact(k5 JA).2 aK b' lZ (hold aK b' hi h) he
theorem ao2{P:Program}{σ:AS}{Q:Exit->AS->Prop}{c:Code}(id m:Nat){e:TypeId}{s:Nat}{rows:List (List AV)}{a:Bool}(hg:σ.H.get id=some (.cells e s rows true a))(h:AW P c ⟨σ.env,⟨σ.H.next,aS σ.H.get [(id,some (.cells e s (rows.take m) true a))]⟩,σ.nt⟩ Q):AW P c σ Q:=fun ro E W act eH bR=>
 h ro E W act eH ⟨bR.defers,bR.size,bR.env,⟨bR.heap.next,bR.heap.core.shrink m hg⟩⟩
end Go.AL
namespace Go.AL
open Go.RowKit
theorem My{P:Program}{n:FuncId}{rest:List AV}{oL el:TypeId}{k0 k m0:Nat}{mI rows:List (List AV)}(LN:∀row∈mI,∀x∈row,bJ x)(dB:∀row∈rows,∀x∈row,bJ x)(vF:∀a∈rest,bJ a)
  (h:gX P n (.own 0 0 m0::rest) ⟨1,dH [(0,some (.cells oL k0 mI true true))]⟩ fun r H'=>∃i,r= .own i 0 rows.length/\H'.get i=some (.cells el k rows true true)) (id:Nat):xM P n (.own id 0 m0::rest) id oL k0 mI el k rows:=by
 refine⟨h.1,fun E W G aG vs hG iE gU hr=> ?_⟩
 obtain⟨AJ,Bt⟩:=hG.ok id _ iE;obtain⟨b1,b2,⟨B7,b3,b4,b5⟩,b6,b7⟩:=Bt
 let E0:Env:=⟨fun _=>E.ι id,fun _=>E.sz id,fun i=>i=0,E.L⟩
 have Xr:∀{x u},RV E W x u->bJ x->RV E0 W x u:=fun hx hn=>RV.GM (E:=E0) (L:=E.L) (fun _=>cA _) (hx.qO (L:=E.L) (fun _=>cA _) hn)
 have lR:RH E0 W ⟨1,dH [(0,some (.cells oL k0 mI true true))]⟩:=by
  refine⟨fun i hi=> ?_,hG.lim,fun i _=>hG.eX id AJ,fun i b hb=> ?_⟩
  ·have:i=0:=hi
   subst this;exact Nat.zero_lt_one
  ·have hi:i=0:=by
    by_cases h0:i=0
    ·exact h0
    ·simp[dH,xB,h0]at hb
   subst hi;simp[dH,xB]at hb;subst hb;refine⟨rfl,b1,b2,⟨B7,b3,b4,fun i j row x h1 h2=> ?_⟩,fun _=>⟨(b6 rfl).1,fun i' b' aM bZ=> ?_⟩,fun _=>⟨(b7 rfl).1,fun i' b' aM bZ=> ?_⟩⟩
   ·obtain⟨v,h3,h4⟩:=b5 i j row x h1 h2
    exact⟨v,h3,Xr h4 (LN row (eY h1) x (eY h2))⟩
   ·simp[dH,xB,aM]at bZ
   ·simp[dH,xB,aM]at bZ
 have bq2:bP E0 W (.own 0 0 m0::rest) vs:=by
  refine⟨by simpa using hr.1,fun i x v hx hv=> ?_⟩
  cases i with
  |zero=>
   simp only[mK,bB]at hx;subst hx;have h1:=hr.2 0 (.own id 0 m0) v rfl hv;rcases(tO h1).2 with⟨cap,rfl,eA,cur,e,f,h4,h5⟩|⟨mZ,a,rfl⟩
   ·exact RV.own (E:=E0) 0 0 m0 cap rfl eA ⟨cur,e,f,h4,h5⟩
   ·subst mZ;exact .mF _ _ _ rfl
  |succ i=>
   have h1:=hr.2 (i+1) x v (by simpa using hx) hv
   exact Xr h1 (vF x (eY (by simpa using hx)))
 refine(h.2 E0 W vs lR bq2).mono fun x W' ⟨v,he,E1,r,H',hv,hH,iF,i,BC,bq3⟩=> ?_
 subst BC;obtain⟨BD,gM⟩:=hH.core.ok i _ bq3;obtain⟨dX,hlen,⟨cur,bU,hle,fH⟩,I8,ha1⟩:=gM;have kX:=(I8 rfl).1;have LW:E0.U 0:=rfl
 have tD:W.heap.size<=E1.ι i\/E1.ι i=E.ι id:=by
  by_cases h0:E0.U i
  ·exact .inr (hv.jL i h0).1
  ·rcases hv.fresh i h0 BD with h1|⟨rF,_,h2⟩
   ·exact .inl h1
   ·exact .inr h2.symm
 have bG:E1.ι i<W'.heap.size:=hH.core.eX i BD;have SE:∀b,b<W.heap.size->b≠E.ι id->E1.L b=E.L b:=fun b hb aM=>hv.still b hb fun _ _=>fun h=>aM h.symm
 have hold:∀b,b<W.heap.size->b≠E.ι id->W'.heap[b]? =W.heap[b]? :=fun b hb aM=>hv.sD b hb fun _ _=>fun h=>aM h.symm
 have Ft:∀b,E.L b<=E1.L b:=hv.lim
 let E':Env:=⟨fun q=>if q=aG then E1.ι i else E.ι q,fun q=>if q=aG then k else E.sz q,fun q=>E.U q\/q=aG,E1.L⟩
 have dY:∀q,E.U q->E'.ι q=E.ι q:=fun q aC=>by
  show(if q=aG then _ else _)=_
  rw[if_neg];rintro rfl;exact gU aC
 have hs:∀q,E.U q->E'.sz q=E.sz q:=fun q aC=>by
  show(if q=aG then _ else _)=_
  rw[if_neg];rintro rfl;exact gU aC
 have iX:E'.ι aG=E1.ι i:=by show(if aG=aG then _ else _)=_;rw[if_pos rfl]
 have fW:E'.sz aG=k:=by show(if aG=aG then _ else _)=_;rw[if_pos rfl]
 have I2:id≠aG:=fun h=>gU (h▸AJ)
 have z8:bD E W E' W':=by
  refine⟨hv.os,hv.tape,hv.output,hv.size,fun id h=> .inl h,fun id aC=>⟨dY id aC,hs id aC⟩,Ft,hv.yB,fun b hb hf=>hold b hb fun h=>hf id AJ h.symm,hv.cD,fun b hb hf=>SE b hb fun h=>hf id AJ h.symm,fun q h1 h2=> ?_,hv.loops⟩
  rcases h2 with h2|h2
  ·exact absurd h2 h1
  ·subst h2
   rw[iX];rcases tD with h|h
   ·exact .inl h
   ·exact .inr ⟨id,AJ,h.symm⟩
 have bH:∀{x u},RV E1 W' x u->bJ x->RV E' W' x u:=fun hx hn=>RV.GM (E:=E') (L:=E1.L) (fun _=>cA _) (hx.qO (L:=E1.L) (fun _=>cA _) hn)
 have QS:∀q b,q≠id->G q=some b->E.ι q≠E.ι id:=fun q b aM hq=>(b6 rfl).2 q b aM hq
 have AM:∀q b,q≠id->G q=some b->E'.ι q≠E1.ι i:=fun q b aM hq heq=>by
  have hU:=(hG.ok q b hq).1;rw[dY q hU]at heq;rcases tD with h|h
  ·have:=hG.eX q hU
   omega
  ·rw[h]at heq
   exact QS q b aM hq heq
 have bX:∀q b,q≠aG->aS G [(id,none),(aG,some (.cells el k rows true true))] q=some b->q≠id/\G q=some b:=fun q b aM hq=>by
  simp only[aS,if_neg aM]at hq;by_cases AN:q=id
  ·rw[if_pos AN]at hq;cases hq
  ·rw[if_neg AN]at hq;exact⟨AN,hq⟩
 refine⟨v,he,E',z8,⟨hH.core.lim,fun q aC=> ?_,fun q b hb=> ?_⟩,?_,fun q h=>h⟩
 ·rcases aC with aC|aC
  ·rw[dY q aC];exact vQ (hG.eX q aC) hv.size
  ·subst aC;rw[iX];exact bG
 ·by_cases aC:q=aG
  ·subst aC
   simp only[aS]at hb;rw[if_pos trivial]at hb;injection hb with hb
   subst hb;refine⟨.inr rfl,fW,hlen,⟨cur,by rw[iX];exact bU,hle,fun i' j row x h1 h2=> ?_⟩,fun _=>⟨by rw[iX];exact kX,fun aK b' aM dA heq=> ?_⟩,fun _=>⟨by rw[iX];show E1.L _<=_;rw[kX];exact mT _,fun aK b' aM dA heq=> ?_⟩⟩
   ·obtain⟨u,h3,h4⟩:=fH i' j row x h1 h2
    exact⟨u,h3,bH h4 (dB row (eY h1) x (eY h2))⟩
   ·rw[iX]at heq
    obtain⟨h1,h2⟩:=bX aK b' aM dA;exact AM aK b' h1 h2 heq
   ·rw[iX]at heq
    obtain⟨h1,h2⟩:=bX aK b' aM dA;exact absurd heq (AM aK b' h1 h2)
  ·obtain⟨AN,hb⟩:=bX q b aC hb
   obtain⟨hU,cK⟩:=hG.ok q b hb;have tY:=hG.eX q hU;have FM:=QS q b AN hb;refine⟨.inl hU,cK.mono z8 hU (hold _ tY FM) (SE _ tY FM) fun aK b' aM dA heq=> ?_⟩
   by_cases uZ:aK=aG
   ·subst uZ
    rw[iX]at heq;rcases tD with h|h
    ·omega
    ·rw[h]at heq;exact absurd heq.symm FM
   ·obtain⟨h1,h2⟩:=bX aK b' uZ dA
    exact⟨b',h2,by rw[<-heq,dY aK (hG.ok aK b' h2).1],rfl,fun h=>h⟩
 ·have vM:E'.U aG:= .inr rfl
  rcases(tO iF).2 with⟨cap,rfl,eA,EF,e2,f2,h4,h5⟩|⟨mZ,a,rfl⟩
  ·have h6:=RV.own (E:=E') (W:=W') aG 0 rows.length cap vM eA (by rw[iX,fW];exact⟨EF,e2,f2,h4,by rw[dX]at h5;exact h5⟩)
   rw[iX,fW]at h6;rw[dX];exact h6
  ·rw[mZ]
   exact .mF _ _ _ vM
theorem xM.run{P:Program}{n:FuncId}{args:List AV}{id:Nat}{oL el:TypeId}{k0 k:Nat}{mI rows:List (List AV)}(h:xM P n args id oL k0 mI el k rows){H:Heap}(hg:H.get id=some (.cells oL k0 mI true true)):
  gX P n args H fun r H'=>r= .own H.next 0 rows.length/\H'=⟨H.next+1,aS H.get [(id,none),(H.next,some (.cells el k rows true true))]⟩:=
 ⟨h.1,fun E W vs hH hr=>(h.2 E W H.get H.next vs hH.core hg (fun hU=>KX _ (hH.next _ hU)) hr).mono fun x W' ⟨v,he,E',h1,h2,h3,h4⟩=>
   ⟨v,he,E',_,_,h1,⟨fun id aC=>by
     rcases h4 id aC with h5|h5
     ·exact PF (hH.next id h5)
     ·subst h5;exact D4 _,h2⟩,h3,rfl,rfl⟩⟩
section
variable {P : Program} {σ : AS} {Q : Exit -> AS -> Prop}
theorem bq4{ops:Array Oper}{o:Oper}{rest:List Oper}{K:AS->Prop}{f:Operand}{as:Array Operand}{ts:Array TypeId}{n:FuncId}{id m0:Nat}{args:List AV}{oL el:TypeId}{k0 k:Nat}{mI rows:List (List AV)}{p:AS×List Oper}(h:aX P true ops p.2 p.1 K)(aP:o.op= .call ⟨.value f,as,ts⟩:=by(first|rfl|fail))(hg:o.guard=none:=by(first|rfl|fail))
  (hc:fL (σ.get true f) (dO (σ.get true) as.toList)=some (n,.own id 0 m0::args):=by(exact aJ)) (hp:xM P n (.own id 0 m0::args) id oL k0 mI el k rows:=by(first|assumption|(apply_assumption<;>first|assumption|omega)|fail)) (hb:σ.H.get id=some (.cells oL k0 mI true true):=by(first|exact m5|exact aJ|fail))
  (hr:run P ops.toList rest (({σ with H:=⟨σ.H.next+1,aS σ.H.get [(id,none),(σ.H.next,some (.cells el k rows true true))]⟩}:AS).put o.dst true (.own σ.H.next 0 rows.length))=p:=by(exact aJ)):aX P true ops (o::rest) σ K:=
 GU aP hg hc (hp.run hb) fun r' H' ⟨h1,h2⟩=>by subst h1;subst h2;exact nQ _ _ hr h
theorem bq5{ops:List Oper}{N0 i:Nat}{o:Oper}{r:List Oper}{σ dV:AS}{es:List Entry}{f:Operand}{as:Array Operand}{ts:Array TypeId}{n:FuncId}{id m0:Nat}{args:List AV}{oL el:TypeId}{k0 k:Nat}{mI rows:List (List AV)}(aP:o.op= .call ⟨.value f,as,ts⟩)(hg:o.guard=none)
  (hc:fL (σ.get true f) (dO (σ.get true) as.toList)=some (n,.own id 0 m0::args)) (hp:xM P n (.own id 0 m0::args) id oL k0 mI el k rows) (iE:σ.H.get id=some (.cells oL k0 mI true true))
  (h:fV P ops N0 (i+1) r (σ.app o.dst ⟨true,.own (N0+i) 0 rows.length,[(id,none),(N0+i,some (.cells el k rows true true))],[id]⟩) es dV):
  fV P ops N0 i (o::r) σ (⟨true,.own (N0+i) 0 rows.length,[(id,none),(N0+i,some (.cells el k rows true true))],[id]⟩::es) dV:=
 .cons i o r σ _ es dV (.YC f as ts n (.own id 0 m0::args) id oL k0 mI el k rows aP (by unfold lB;rw[hg]) rfl hc iE hp rfl rfl (by simp)) h
theorem bq6{aL:AS}{id:Nat}{ops:Array Oper}{es:List Entry}(h:Q .normal aL)(hm:P.follows .mixedOrders=true:=by(first|kernel_rfl|fail))(hs:zS ops=true:=by(first|kernel_rfl|fail))(hd:ops.toList.all (fT σ.nt)=true:=by(first|rfl|fail))
  (hr:fV P ops.toList σ.H.next 0 ops.toList {σ with H:=⟨σ.H.next+ops.size,σ.H.get⟩} es aL:=by(first|(apply eC;(next=>(exact aJ));(repeat (first|exact KC|(apply bq5;(next=>(first|rfl|fail));(next=>(first|rfl|fail));(next=>(exact aJ));(next=>(first|assumption|(apply_assumption<;>first|assumption|omega)|fail));(next=>(first|exact m5|exact aJ|fail));apply eC;(next=>(exact aJ)))|(apply Hy;(next=>(first|rfl|fail));(next=>(first|rfl|fail));(next=>(exact aJ));(next=>(exact aJ));(next=>(exact aJ));(next=>(exact aJ));(next=>(first|assumption|(apply_assumption<;>first|assumption|omega)|fail));(next=>(first|exact iN|(simp[eU,e8,eF,eN,iH,iI,iG, *];done)|fail));apply eC;(next=>(exact aJ)))|(apply KJ;(next=>(first|rfl|fail));(next=>(exact aJ));apply eC;(next=>(exact aJ)))|(apply P3;(next=>(first|rfl|fail));(next=>(first|rfl|fail));(next=>(exact aJ));(next=>(first|assumption|(apply_assumption<;>first|assumption|omega)|fail));apply eC;(next=>(exact aJ)))|(apply P2;(next=>(first|rfl|fail));(next=>(first|rfl|fail));(next=>(exact aJ));(next=>(first|assumption|(apply_assumption<;>first|assumption|omega)|fail));apply eC;(next=>(exact aJ)))|(apply P4;(next=>(first|rfl|fail));(next=>(first|rfl|fail));(next=>(exact aJ));(next=>(exact aJ));(next=>(exact aJ));(next=>(first|assumption|(apply_assumption<;>first|assumption|omega)|fail));(next=>(first|exact iN|(simp[eU,e8,eF,eN,iH,iI,iG, *];done)|fail));apply eC;(next=>(exact aJ)))|(apply KI;(next=>(first|rfl|fail));(next=>(first|rfl|fail));(next=>(exact aJ));(next=>(first|assumption|(apply_assumption<;>first|assumption|omega)|fail));(next=>(first|exact iN|(simp[eU,e8,eF,eN,iH,iI,iG, *];done)|fail));apply eC;(next=>(exact aJ)))|(apply KK;(next=>(first|rfl|fail));(next=>(first|rfl|fail));(next=>(exact aJ));(next=>(exact aJ));(next=>(first|assumption|(apply_assumption<;>first|assumption|omega)|fail));(next=>(first|exact iN|(simp[eU,e8,eF,eN,iH,iI,iG, *];done)|fail));apply eC;(next=>(exact aJ)))|(apply KL;(next=>(first|rfl|fail));(next=>(first|rfl|fail));(next=>(exact aJ));(next=>(exact aJ));(next=>(exact aJ));(next=>(first|assumption|(apply_assumption<;>first|assumption|omega)|fail));(next=>(first|exact iN|(simp[eU,e8,eF,eN,iH,iI,iG, *];done)|fail));apply eC;(next=>(exact aJ)))|(apply KM;(next=>(first|rfl|fail));(next=>(first|rfl|fail));(next=>(exact aJ));(next=>(exact aJ));(next=>(exact aJ));(next=>(exact aJ));(next=>(first|assumption|(apply_assumption<;>first|assumption|omega)|fail));(next=>(first|exact iN|(simp[eU,e8,eF,eN,iH,iI,iG, *];done)|fail));apply eC;(next=>(exact aJ))))))|fail))
  (rM:wW (tab ops.toList) 0 [] es=true:=by(first|(simp(maxSteps:=2000000) (disch:=omega) only[go_sem,K0,K1, *]<;>kernel_rfl)|fail)):AW P (.region id ops true) σ Q:=TQ hm hs hd hr rM h
end
theorem QL{P:Program}{n:FuncId}{fn:Func}{c:Code}{rest:List AV}{oL el:TypeId}{k0 k m0:Nat}{mI rows:List (List AV)}{rs:List ResultVar}{nt:Nat}(hf:P.funcs[n]? =some fn)(cU:fn.ntmps=nt)(LN:∀row∈mI,∀x∈row,bJ x)(dB:∀row∈rows,∀x∈row,bJ x)(vF:∀a∈rest,bJ a)
  (h:AW P c ⟨lK 0 (.own 0 0 m0::rest),⟨1,dH [(0,some (.cells oL k0 mI true true))]⟩,nt⟩ (hold (cB P rs (hold (fun r H'=>∃i,r= .own i 0 rows.length/\H'.get i=some (.cells el k rows true true)) ⟨⟩)) ⟨⟩))
  (hb:fn.body=some c:=by rfl) (hr:fn.results=List.toArray rs:=by rfl) (fP:(fn.name== "runtime.NumGoroutine")=false:=by kernel_rfl) (hlen:(AV.own 0 0 m0::rest).length<=nt:=by(simp only[eI,gL];decide)) (id:Nat):xM P n (.own id 0 m0::rest) id oL k0 mI el k rows:=
 My LN dB vF (Jq hf cU h hb hr fP hlen) id
theorem xN{A B:Prop}(h:B)(w:aU B->A:=by
  (intro hB;(repeat (first|refine tC ?_|refine YN ?_|refine YO ?_|refine YP ?_|refine rA ?_|refine YQ ?_|refine B4 ?_|refine rE ?_|refine K3 ?_|refine bN ?_|refine gE ?_|refine NR ?_|refine NS ?_|refine NT ?_|refine NU ?_|refine NV ?_|refine NW (by decide) ?_|refine NH ?_|refine jA ?_|refine NL ?_|refine NM ?_|refine OT ?_|refine OU ?_|refine OV ?_|refine OW ?_|refine OX ?_|refine OY ?_|refine OB ?_|refine OC ?_|refine OP ?_|refine OQ ?_|refine OR ?_|refine OS ?_|refine ON ?_|refine OO ?_|refine O9 ?_|refine OA ?_|refine OD ?_|refine DY ?_|refine bq6 ?_|refine NK ?_|refine NJ ?_|refine O7 ?_|refine O8 ?_|refine OE ?_|refine bq4 ?_|refine OI ?_|refine TR ?_|refine OF ?_|refine OL ?_|refine OJ ?_|refine OG ?_|refine OH ?_|refine OZ ?_|refine P0 ?_|refine P1 ?_|refine OK ?_));exact hB.out)):A:=w ⟨h⟩
end Go.AL
namespace Go.AL
theorem bq7{P:Program}{t t' ty e e':TypeId}(h:P.underlying t=some (.slice e))(h':P.underlying t'=some (.slice e'))(args:Array Value)(W:World):(Builtin.append_ #[t,t'] ty args).run P W=(Builtin.append_ #[t,t] ty args).run P W:=by
 have hu:∀w,(underlying t).run P w= .ok (.slice e) w:=fun w=>by simp[underlying,h]
 have T8:∀w,(underlying t').run P w= .ok (.slice e') w:=fun w=>by simp[underlying,h']
 unfold Builtin.append_;simp only[vR,mK,qS];cases args[0]? with
 |none=>rfl
 |some s=>
  cases args[1]? with
  |none=>rfl
  |some x=>
   simp only[Sem.run_bind,hu,T8,Result.andThen_ok];cases s with
   |slice base sLen sCap=>simp only[Sem.run_bind,hu,T8,Result.andThen_ok,Sem.run_pure]
   |_=>rfl
theorem bq8{F:Fence}{n:Nat}{P:Program}{dst:Option Tmp}{as:Array Operand}{t t' ty e e':TypeId}{pos:String}{after:Array Edge}(h:P.underlying t=some (.slice e))(h':P.underlying t'=some (.slice e')){a:Act}{w:World}{next:Act->World->Prop}{Q:Exit->Act->World->Prop}
  (hw:(Oper.mk dst (.call ⟨.builtin .append,as,#[t,t]⟩) ty pos after none).wpIn F n P a w next Q):(Oper.mk dst (.call ⟨.builtin .append,as,#[t,t']⟩) ty pos after none).wpIn F n P a w next Q:=by
 unfold Oper.wpIn at hw⊢;rw[Oper.semAt_eq _ _ _ (fun c h=>by cases h)]at hw⊢
 refine⟨fun f hf=>hw.1 f (by rw[<-hf];rfl),?_⟩
 have he:(execOp a.eval (Oper.mk dst (.call ⟨.builtin .append,as,#[t,t']⟩) ty pos after none)).run P w=(execOp a.eval (Oper.mk dst (.call ⟨.builtin .append,as,#[t,t]⟩) ty pos after none)).run P w:=by
  unfold execOp;simp only[resolve,Sem.run_bind,Sem.run_pure,Result.andThen_ok,invoke,builtin,bq7 h h']
 rw[he];exact hw.2
theorem Ij{F:Fence}{n:Nat}{P:Program}{Q:Exit->Act->World->Prop}(ops tF:Array Oper)(hy:∀(i:Nat) (o:Oper),ops[i]? =some o->o.guard=none/\∃o',tF[i]? =some o'/\o'.guard=none/\∀(a:Act) (w:World) (next:Act->World->Prop),o'.wpIn F n P a w next Q->o.wpIn F n P a w next Q)
  (hs:∀(i:Nat),ops[i]? =none->tF[i]? =none):∀(l:List Nat) (a:Act) (w:World),wpOpsIn F n P tF Q l a w->wpOpsIn F n P ops Q l a w
 |[],a,w,h=>h
 |i::l,a,w,h=>by
  simp only[wpOpsIn]at h⊢;cases ho:ops[i]? with
  |none=>
   rw[hs i ho]at h;exact Ij ops tF hy hs l a w h
  |some o=>
   obtain⟨h1,o',h2,h3,h4⟩:=hy i o ho;rw[h2]at h;simp only[Region.wanted,h1,h3,if_true]at h⊢;exact h4 _ _ _ (Oper.wpIn_mono (fun a w h=>Ij ops tF hy hs l a w h) h)
theorem Ci{P:Program}{σ:AS}{Q:Exit->AS->Prop}{id:Nat}{o1 o2 o4:Oper}{dst:Option Tmp}{as:Array Operand}{t t' ty e e':TypeId}{pos:String}{after:Array Edge}{p:AS×List Oper}(h:aX P true #[o1,o2,Oper.mk dst (.call ⟨.builtin .append,as,#[t,t]⟩) ty pos after none,o4] p.2 p.1 (Q .normal))
  (ht:P.underlying t=some (.slice e)) (Ik:P.underlying t'=some (.slice e')) (h1:o1.guard=none) (h2:o2.guard=none) (h4:o4.guard=none) (hd: #[o1,o2,Oper.mk dst (.call ⟨.builtin .append,as,#[t,t]⟩) ty pos after none,o4].toList.all (fT σ.nt)=true)
  (hr:run P #[o1,o2,Oper.mk dst (.call ⟨.builtin .append,as,#[t,t]⟩) ty pos after none,o4].toList #[o1,o2,Oper.mk dst (.call ⟨.builtin .append,as,#[t,t]⟩) ty pos after none,o4].toList σ=p):AW P (.region id #[o1,o2,Oper.mk dst (.call ⟨.builtin .append,as,#[t,t']⟩) ty pos after none,o4] false) σ Q:=fun ro E W act eH bR=>by
 refine wpIn_region ?_;refine Ij _ #[o1,o2,Oper.mk dst (.call ⟨.builtin .append,as,#[t,t]⟩) ty pos after none,o4] (fun i o ho=> ?_) (fun i hi=> ?_) _ _ _ (GR [0,1,2,3] #[o1,o2,Oper.mk dst (.call ⟨.builtin .append,as,#[t,t]⟩) ty pos after none,o4].toList rfl (nQ _ _ hr h) hd bR (fun E' W' aL cE hv dD cU hK=>⟨E',aL,hv,dD,cU,hK⟩))
 ·match i,ho with
  |0,ho=>injection ho with ho;subst ho;exact⟨h1,_,rfl,h1,fun _ _ _ h=>h⟩
  |1,ho=>injection ho with ho;subst ho;exact⟨h2,_,rfl,h2,fun _ _ _ h=>h⟩
  |2,ho=>injection ho with ho;subst ho;exact⟨rfl,_,rfl,rfl,fun _ _ _ h=>bq8 ht Ik h⟩
  |3,ho=>injection ho with ho;subst ho;exact⟨h4,_,rfl,h4,fun _ _ _ h=>h⟩
  |i+4,ho=>exact absurd ho (by simp)
 ·match i,hi with
  |0,hi=>cases hi
  |1,hi=>cases hi
  |2,hi=>cases hi
  |3,hi=>cases hi
  |i+4,hi=>simp
end Go.AL
namespace Go.AL
open Go.RowKit
section
variable {P : Program} {σ : AS} {Q : Exit -> AS -> Prop}
theorem bq9{ops:List Oper}{N0 i:Nat}{o:Oper}{r:List Oper}{σ dV:AS}{es:List Entry}{f:Operand}{as:Array Operand}{ts:Array TypeId}{n:FuncId}{bS args:List AV}{el:TypeId}{k:Nat}{rows:List (List AV)}{wr:List (Nat×Option aI)}{rd:List Nat}(aP:o.op= .call ⟨.value f,as,ts⟩)(hg:o.guard=none)
  (hc:fL (σ.get true f) (dO (σ.get true) as.toList)=some (n,bS)) (he:bS.map (m7 σ.H.get)=args) (cW:kU lL bS=rd) (hw:(rd.map fun id=>(id,oK (σ.H.get id)))=wr) (hp:rR P n args el k rows) (h:fV P ops N0 (i+1) r (σ.app o.dst ⟨true,.own (N0+i) 0 rows.length,wr++[(N0+i,some (.cells el k rows true true))],rd⟩) es dV):
  fV P ops N0 i (o::r) σ (⟨true,.own (N0+i) 0 rows.length,wr++[(N0+i,some (.cells el k rows true true))],rd⟩::es) dV:=
 .cons i o r σ _ es dV (.YE f as ts n bS args el k rows aP (by unfold lB;rw[hg]) rfl hc he hp rfl (by rw[<-hw,<-cW]) (fun id aC=>by rw[<-cW];exact aC)) h
theorem Cp{aL:AS}{id:Nat}{ops:Array Oper}{es:List Entry}(h:Q .normal aL)(hm:P.follows .mixedOrders=true:=by(first|kernel_rfl|fail))(hs:zS ops=true:=by(first|kernel_rfl|fail))(hd:ops.toList.all (fT σ.nt)=true:=by(first|rfl|fail))
  (hr:fV P ops.toList σ.H.next 0 ops.toList {σ with H:=⟨σ.H.next+ops.size,σ.H.get⟩} es aL:=by(first|(apply eC;(next=>(exact aJ));(repeat (first|exact KC|(apply bq9;(next=>(first|rfl|fail));(next=>(first|rfl|fail));(next=>(exact aJ));(next=>(exact aJ));(next=>(exact aJ));(next=>(exact aJ));(next=>(first|assumption|(apply_assumption<;>first|assumption|omega)|fail));apply eC;(next=>(exact aJ)))|(apply be1;(next=>(first|rfl|fail));(next=>(exact aJ));(next=>(exact aJ));apply eC;(next=>(exact aJ)))|(apply Hy;(next=>(first|rfl|fail));(next=>(first|rfl|fail));(next=>(exact aJ));(next=>(exact aJ));(next=>(exact aJ));(next=>(exact aJ));(next=>(first|assumption|(apply_assumption<;>first|assumption|omega)|fail));(next=>(first|exact iN|(simp[eU,e8,eF,eN,iH,iI,iG, *];done)|fail));apply eC;(next=>(exact aJ)))|(apply KJ;(next=>(first|rfl|fail));(next=>(exact aJ));apply eC;(next=>(exact aJ)))|(apply P3;(next=>(first|rfl|fail));(next=>(first|rfl|fail));(next=>(exact aJ));(next=>(first|assumption|(apply_assumption<;>first|assumption|omega)|fail));apply eC;(next=>(exact aJ)))|(apply P2;(next=>(first|rfl|fail));(next=>(first|rfl|fail));(next=>(exact aJ));(next=>(first|assumption|(apply_assumption<;>first|assumption|omega)|fail));apply eC;(next=>(exact aJ)))|(apply P4;(next=>(first|rfl|fail));(next=>(first|rfl|fail));(next=>(exact aJ));(next=>(exact aJ));(next=>(exact aJ));(next=>(first|assumption|(apply_assumption<;>first|assumption|omega)|fail));(next=>(first|exact iN|(simp[eU,e8,eF,eN,iH,iI,iG, *];done)|fail));apply eC;(next=>(exact aJ)))|(apply KI;(next=>(first|rfl|fail));(next=>(first|rfl|fail));(next=>(exact aJ));(next=>(first|assumption|(apply_assumption<;>first|assumption|omega)|fail));(next=>(first|exact iN|(simp[eU,e8,eF,eN,iH,iI,iG, *];done)|fail));apply eC;(next=>(exact aJ)))|(apply KK;(next=>(first|rfl|fail));(next=>(first|rfl|fail));(next=>(exact aJ));(next=>(exact aJ));(next=>(first|assumption|(apply_assumption<;>first|assumption|omega)|fail));(next=>(first|exact iN|(simp[eU,e8,eF,eN,iH,iI,iG, *];done)|fail));apply eC;(next=>(exact aJ)))|(apply KL;(next=>(first|rfl|fail));(next=>(first|rfl|fail));(next=>(exact aJ));(next=>(exact aJ));(next=>(exact aJ));(next=>(first|assumption|(apply_assumption<;>first|assumption|omega)|fail));(next=>(first|exact iN|(simp[eU,e8,eF,eN,iH,iI,iG, *];done)|fail));apply eC;(next=>(exact aJ)))|(apply KM;(next=>(first|rfl|fail));(next=>(first|rfl|fail));(next=>(exact aJ));(next=>(exact aJ));(next=>(exact aJ));(next=>(exact aJ));(next=>(first|assumption|(apply_assumption<;>first|assumption|omega)|fail));(next=>(first|exact iN|(simp[eU,e8,eF,eN,iH,iI,iG, *];done)|fail));apply eC;(next=>(exact aJ))))))|fail))
  (rM:wW (tab ops.toList) 0 [] es=true:=by(first|(simp(maxSteps:=2000000) (disch:=omega) only[go_sem,K0,K1, *]<;>kernel_rfl)|fail)):AW P (.region id ops true) σ Q:=TQ hm hs hd hr rM h
end
end Go.AL
namespace Go.AL
open Go.RowKit
def H9(P:Program)(n:FuncId)(args:List AV)(H:Heap)(x:Value)(R:Heap->Prop):Prop:=
 qN P n=true/\∀(E:Env) (W:World) (vs:List Value),RH E W H->bP E W args vs->
  Calls P n vs.toArray W fun e W'=>e= .panicked (jO x)/\∃E' H',bD E W E' W'/\RH E' W' H'/\R H'
theorem br0{P:Program}{n:FuncId}{fn:Func}{c:Code}{args:List AV}{H:Heap}{x:Value}{R:Heap->Prop}(hf:P.funcs[n]? =some fn)(hb:fn.body=some c)(fP:(fn.name== "runtime.NumGoroutine")=false)(hlen:args.length<=fn.ntmps)
  (h:AW P c ⟨lK 0 args,H,fn.ntmps⟩ (hold (fun e σ=>e= .panic (jO x)/\R σ.H) ⟨⟩)):H9 P n args H x R:=by
 refine⟨by unfold qN;rw[hf];simp[fP,hb],fun E W vs hH hr=> ?_⟩
 refine callsIn_wide.1 (callsIn_of_wp_marks (F:=Fence.wide) (n:=3) hf hb trivial ?_);refine wpIn_mono (h none E W _ (fun l h=>by cases h) (YL hlen hH hr)) fun e a w ⟨E',aL,h1,h2,h3,h4⟩=> ?_
 obtain⟨h4,h5⟩:=h4;subst h4;obtain⟨Ds,pL,tB,yL⟩:=h2.defers;have CV:∀D∈Ds,W.heap.size<=D:=fun D hD=>(h1.new D (N7 pL hD)).resolve_left (fun h=>by cases h)
 have key:=NN (P:=P) (fn:=fn) (tmps:=a.tmps) (R:=fun e W'=>e= .panicked (jO x)/\∃E' H',bD E W E' W'/\RH E' W' H'/\R H') (I:=fun w'=>bD E W E' w'/\Rel E' w' aL {a with defers:=[]}) (u:= .panicking (jO x)) (by simp) (rest:=[]) a.defers Ds pL h1.BE tB
  (fun D hD w' hw hI=>⟨hI.1.shut hH.core.lim (CV D hD),hI.2.shut hw⟩) (fun w' hI=>⟨rfl,E',aL.H,hI.1,hI.2.heap,h5⟩) (fun D hD=>(yL D hD).1) ⟨h1.oY,⟨.nil E' w,h2.size,h2.env,h2.heap⟩⟩
 rw[rO]at key;exact key
def D0(P:Program)(o:Oper)(σ:AS)(x:Value)(R:Heap->Prop):Prop:=
 o.guard=none/\∀(ro:Option Nat) (E:Env) (W:World) (act:Act) (next:Act->World->Prop) (Q:Exit->Act->World->Prop),Rel E W σ act->(∀E' W' H',R H'->bD E W E' W'->Rel E' W' {σ with H:=H'} act->Q (.panic (jO x)) act W')->o.wpIn (kN ro) 3 P act W next Q
section
variable {P : Program} {σ : AS} {Q : Exit -> AS -> Prop}
theorem br1{id:Nat}{ops:Array Oper}(k:Nat){o:Oper}{x:Value}{R:Heap->Prop}(ho:ops[k]? =some o)(hd:(ops.toList.take k).all (fT σ.nt)=true)
  (h:aX P true ops (ops.toList.take k) σ (hold (fun aL=>D0 P o aL x R/\∀H',R H'->Q (.panic (jO x)) {aL with H:=H'}) ⟨⟩)):AW P (.region id ops false) σ Q:=fun ro E W act eH hr=>by
 refine wpIn_region ?_;have hk:k<ops.size:=(jB.1 ho).1;obtain⟨more,hm⟩:=range_split hk;rw[hm];refine BL _ _ _ ?_;refine GR (List.range k) (ops.toList.take k) ?_ h hd hr (fun E' W' aL cE hv dD cU hK=> ?_)
 ·apply BS
  intro i;simp only[iA,uD];by_cases hi:i<k
  ·have:i<ops.size:=by omega
   simp[hi,uD,gF,this]
  ·simp[hi,uD,gF]
 ·obtain⟨⟨hg,hx⟩,hq⟩:=hK
  show wpOpsIn (kN ro) 3 P ops _ (k::more) cE W'
  simp only[wpOpsIn,ho];rw[if_pos (by simp[Region.wanted,hg])]
  exact hx ro E' W' cE _ _ dD fun E2 E6 H2 hR eZ lP=>⟨E2,_,hv.trans (.of eZ rfl),lP,cU,hq H2 hR⟩
theorem Il{o:Oper}{f:Operand}{as:Array Operand}{ts:Array TypeId}{n:FuncId}{args:List AV}{x:Value}{R:Heap->Prop}(aP:o.op= .call ⟨.value f,as,ts⟩)(hg:o.guard=none)(hc:fL (σ.get true f) (dO (σ.get true) as.toList)=some (n,args))(h:H9 P n args σ.H x R):D0 P o σ x R:=by
 refine⟨hg,fun ro E W act next Q hr hn=> ?_⟩
 obtain⟨first,cap,mH,hf,has,rfl⟩:=yI hc
 have h1:=hr.get rfl hf;have h2:=tZ (E:=E) (W:=W) (ρ:=act.eval) (fun x b hb=>hr.get rfl hb) _ _ has
 generalize nB:act.eval f=fv at h1;cases h1 with
 |fn _ _ _ vf vc hl bQ h3 h4=>
 have lJ:bP E W (first++mH++cap) (vf.toList++as.toList.map act.eval++vc.toList):=by
  refine(bP.append ?_ h2).append ?_
  ·exact⟨by simpa using hl,fun i x v hx hv=>h3 i x v hx (by simpa using hv)⟩
  ·exact⟨by simpa using bQ,fun i x v hx hv=>h4 i x v hx (by simpa using hv)⟩
 have dR:=h.2 E W _ hr.heap lJ
 have dF:(execOp act.eval o).run P W= .ok (.enter n (vf.toList++as.toList.map act.eval++vc.toList).toArray) W:=by
  simp only[execOp,aP,resolve,nB,Deferred.ofValue,Sem.run_bind,Sem.run_pure,Result.andThen_ok,invoke];rw[yK h.1];congr 2;apply zW;simp
 refine⟨fun _ _=>trivial,?_⟩
 rw[Oper.semAt_eq _ _ _ (fun c h=>by rw[aP]at h;cases h),dF]
 refine⟨yH,zQ (dR.mono fun e W' ⟨he,E',H',hv,hH,hR⟩=> ?_)⟩
 subst he;exact hn E' W' H' hR hv (hr.mono hv hH)
end
section
variable {P : Program} {σ : AS} {Q : Exit -> AS -> Prop} {Q' : Prop}
end
end Go.AL
namespace Go.AL
open Go.RowKit
theorem gX.br2{P:Program}{n:FuncId}{args:List AV}{H:Heap}{Q:AV->Heap->Prop}(h:gX P n args H fun r H'=>Q (m7 H'.get r) ⟨H'.next,sG H'.get (lL r)⟩):gX P n args H Q:=
 ⟨h.1,fun E W vs hH hr=>(h.2 E W vs hH hr).mono fun e W' ⟨v,he,E',r,H',h1,h2,h3,hq⟩=>by
   obtain⟨L1,h4,h5,h6⟩:=NZ (W:=W') (lL r) h2
   exact⟨v,he,_,_,_,h1.trans h4,h5,T0 h2.core h4 h3 fun id aC=>h6 id aC,hq⟩⟩
def KQ(N:Nat)(G:Nat->Option aI)(id:Nat)(b1:Option aI)(a:AV)(d:Nat)(r:AV)(H':Heap):Prop:=
 ∃T GT,sG H'.get (lL r)=GT/\GT=iU G T/\H'.next<=N+d/\yM G T [(id,b1)]/\uJ N [(id,b1)] T/\Wk (m7 H'.get r) a
theorem KQ.mk{N:Nat}{G:Nat->Option aI}{id:Nat}{b1:Option aI}{a:AV}{d:Nat}{r:AV}{T:List (Nat×Option aI)}{GT:Nat->Option aI}{H':Heap}(h1:sG H'.get (lL r)=GT)(h2:GT=iU G T)(h3:H'.next<=N+d)(h4:yM G T [(id,b1)])(h5:uJ N [(id,b1)] T)(h6:Wk (m7 H'.get r) a):KQ N G id b1 a d r H':=
 ⟨T,GT,h1,h2,h3,h4,h5,h6⟩
theorem AU{P:Program}{n:FuncId}{fn:Func}{c:Code}{args:List AV}{id:Nat}{b0:aI}{b1:Option aI}{a:AV}{d:Nat}{rs:List ResultVar}{nt:Nat}(hf:P.funcs[n]? =some fn)(cU:fn.ntmps=nt)
  (h:∀N G,id<N->G id=some b0->(∀k,N<=k->G k=none)->AW P c ⟨lK 0 args,⟨N,iU G []⟩,nt⟩ (hold (cB P rs (hold (KQ N G id b1 a d) ⟨⟩)) ⟨⟩))
  (hb:fn.body=some c:=by rfl) (hr:fn.results=List.toArray rs:=by rfl) (fP:(fn.name== "runtime.NumGoroutine")=false:=by kernel_rfl) (hlen:args.length<=nt:=by(simp only[eI,gL];decide)):jZ P n args id b0 b1 a d:=by
 refine⟨fun N G iL=>⟨by unfold qN;rw[hf];simp[fP,hb],fun E W vs hH iF=> ?_⟩⟩
 have hG:∀k,N<=k->G k=none:=fun k hk=>by
  cases hg:G k with
  |none=>rfl
  |some b=>
   have h1:=hH.next k (hH.core.ok k b hg).1
   simp only[]at h1;omega
 have aC:id<N:=by
  rcases lU id N with h1|h1
  ·exact h1
  ·rw[hG id h1]at iL;cases iL
 have h1:=h N G aC iL hG
 have hA:gX P n args ⟨N,G⟩ (KQ N G id b1 a d):=by
  refine EI (H:=⟨N,G⟩) hf hb fP (by rw[cU];exact hlen) ?_
  rw[cU,hr];exact h1
 have hB:gX P n args ⟨N,G⟩ fun r H'=>∃qQ,SS qQ H'/\Wk r a/\qQ=⟨N+d,aS G [(id,b1)]⟩:=
  gX.br2 (hA.mono fun r H' ⟨T,GT,h3,Ie,h4,h5,h6,h7⟩=>⟨_,⟨h4,fun k b hk=>by
   have h8:=PZ hG h5 h6 k b hk;rw[<-Ie,<-h3]at h8
   exact h8⟩,h7,rfl⟩)
 exact(hB.2 E W vs hH iF).mono fun e W' ⟨v,he,E',r,H',h2,h3,h4,qQ,h5,h6,h7⟩=>⟨v,he,E',a,qQ,h2,h3.less h5,RV.wk h6 h4,rfl,h7⟩
theorem pI{N:Nat}{G:Nat->Option aI}{id:Nat}{b1:Option aI}{a:AV}{d:Nat}{r:AV}{H':Heap}(w:KQ N G id b1 a d r H':=by
  (apply KQ.mk;(next=>(first|exact aJ|exact rfl|fail));(next=>(first|exact rfl|exact(Gh _).symm|fail));(next=>(simp only[];omega));(next=>(first|exact Q1 HQ|exact UX (by first|rfl|(simp(disch:=omega) only[go_sem, *];done)|(simp(disch:=omega) only[go_sem, *];rfl)) HQ));(next=>(simp only[uJ,DC,or_false,false_or,or_true,true_or,and_true,true_and,cA]<;>omega));(next=>((try simp(maxSteps:=2000000) (disch:=omega) only[go_sem,false_implies,implies_true, *]);(repeat (first|exact .refl _|exact .nil|exact sP|refine iO ?_ ?_|refine DA ?_|refine DB ?_|refine C3 ?_|exact yS|refine vV ?_ ?_)))))):KQ N G id b1 a d r H':=w
end Go.AL
namespace Go.AL
open Go.RowKit
theorem H9.mono{P:Program}{n:FuncId}{args:List AV}{H:Heap}{x:Value}{R R':Heap->Prop}(h:H9 P n args H x R)(hr:∀H',R H'->∃qQ,SS qQ H'/\R' qQ):H9 P n args H x R':=
 ⟨h.1,fun E W vs hH iF=>(h.2 E W vs hH iF).mono fun e W' ⟨he,E',H',h1,h2,h3⟩=>by
   obtain⟨qQ,h4,h5⟩:=hr H' h3
   exact⟨he,E',qQ,h1,h2.less h4,h5⟩⟩
structure IY(P:Program)(n:FuncId)(args:List AV)(id:Nat)(b0:aI)(x:Value)(d:Nat):Prop where
 act:∀N G,G id=some b0->H9 P n args ⟨N,G⟩ x fun H'=>H'=⟨N+d,aS G [(id,none)]⟩
def P6(N:Nat)(G:Nat->Option aI)(id:Nat)(x:Value)(d:Nat)(e:Exit)(H':Heap):Prop:=
 e= .panic (jO x)/\∃T,H'.get=iU G T/\H'.next<=N+d/\yM G T [(id,none)]/\uJ N [(id,none)] T
theorem P6.mk{N:Nat}{G:Nat->Option aI}{id:Nat}{x:Value}{d:Nat}{T:List (Nat×Option aI)}{H':Heap}(h2:H'.get=iU G T)(h3:H'.next<=N+d)(h4:yM G T [(id,none)])(h5:uJ N [(id,none)] T):P6 N G id x d (.panic (jO x)) H':=
 ⟨rfl,T,h2,h3,h4,h5⟩
theorem ME{P:Program}{n:FuncId}{fn:Func}{c:Code}{args:List AV}{id:Nat}{b0:aI}{x:Value}{d:Nat}{nt:Nat}(hf:P.funcs[n]? =some fn)(cU:fn.ntmps=nt)
  (h:∀N G,id<N->G id=some b0->(∀k,N<=k->G k=none)->AW P c ⟨lK 0 args,⟨N,iU G []⟩,nt⟩ (hold (fun e σ=>P6 N G id x d e σ.H) ⟨⟩))
  (hb:fn.body=some c:=by rfl) (fP:(fn.name== "runtime.NumGoroutine")=false:=by kernel_rfl) (hlen:args.length<=nt:=by(simp only[eI,gL];decide)):IY P n args id b0 x d:=by
 refine⟨fun N G iL=>⟨by unfold qN;rw[hf];simp[fP,hb],fun E W vs hH iF=> ?_⟩⟩
 have hG:∀k,N<=k->G k=none:=fun k hk=>by
  cases hg:G k with
  |none=>rfl
  |some b=>
   have h1:=hH.next k (hH.core.ok k b hg).1
   simp only[]at h1;omega
 have aC:id<N:=by
  rcases lU id N with h1|h1
  ·exact h1
  ·rw[hG id h1]at iL;cases iL
 have h1:=h N G aC iL hG
 have hA:H9 P n args ⟨N,G⟩ x (fun H'=>∃T,H'.get=iU G T/\H'.next<=N+d/\yM G T [(id,none)]/\uJ N [(id,none)] T):=by
  refine br0 (H:=⟨N,G⟩) hf hb fP (by rw[cU];exact hlen) ?_
  rw[cU];exact h1
 have hB:H9 P n args ⟨N,G⟩ x fun H'=>H'=⟨N+d,aS G [(id,none)]⟩:=hA.mono fun H' ⟨T,h3,h4,h5,h6⟩=>⟨_,⟨h4,fun k b hk=>by
  have h8:=PZ hG h5 h6 k b hk;rw[<-h3]at h8
  exact h8⟩,rfl⟩
 exact hB.2 E W vs hH iF
theorem zE{N:Nat}{G:Nat->Option aI}{id:Nat}{x:Value}{d:Nat}{H':Heap}(w:P6 N G id x d (.panic (jO x)) H':=by
  (apply P6.mk;(next=>(first|exact rfl|exact(Gh _).symm|fail));(next=>(simp only[];omega));(next=>(first|exact Q1 HQ|fail));(next=>(simp only[uJ,DC,or_false,false_or,or_true,true_or,and_true,true_and,cA]<;>omega)))):P6 N G id x d (.panic (jO x)) H':=w
section
variable {P : Program} {σ : AS} {Q' : Prop}
end
end Go.AL
namespace Go.AL
open Go.RowKit
def nM(P:Program)(ops:Array Oper)(Q:Exit->AS->Prop):Nat->Array Bool->AS->Prop
 |0,l,σ=>Region.ready .any ops l=[]/\Q .normal σ
 |f+1,l,σ=>(Region.ready .any ops l=[]->Q .normal σ)/\
  ∀i∈Region.ready .any ops l,∃o,ops[i]? =some o/\(aX P true ops [o] σ (hold (fun aL=>nM P ops Q f (l.setIfInBounds i true) aL) ⟨⟩)\/∃x R,D0 P o σ x R/\∀H',R H'->Q (.panic (jO x)) {σ with H:=H'})
theorem br3{P:Program}{ops:Array Oper}{Q:Exit->AS->Prop}{nt:Nat}(hd:ops.toList.all (fT nt)=true){E0:Env}{W0:World}{A0:Act}{ro:Option Nat}:
  ∀(f:Nat) (l:Array Bool) (σ:AS) (E:Env) (W:World) (act:Act),nM P ops Q f l σ->σ.nt=nt->eB E0 W0 A0 E W act->Rel E W σ act->
   wpAnyIn (kN ro) 3 P .any ops (fun e cE W'=>∃E' aL,eB E0 W0 A0 E' W' cE/\Rel E' W' aL cE/\aL.nt=nt/\Q e aL) f l act W:=by
 intro f
 induction f with
 |zero=>exact fun l σ E W act h cU hv hr=>⟨h.1,E,σ,hv,hr,cU,h.2⟩
 |succ f ih=>
  intro l σ E W act h cU hv hr;refine⟨fun h0=>⟨E,σ,hv,hr,cU,h.1 h0⟩,fun i hi=> ?_⟩
  obtain⟨o,ho,h1⟩:=h.2 i hi
  have hdo:fT σ.nt o=true:=by
   rw[cU];exact gK.1 hd o (eY (by simpa using ho))
  unfold wpOpIn;simp only[ho];rcases h1 with h1|⟨x,R,⟨hg,hx⟩,hq⟩
  ·have h2:mQ P true ops o σ (hold (fun aL=>aX P true ops [] aL (hold (fun aL=>nM P ops Q f (l.setIfInBounds i true) aL) ⟨⟩)) ⟨⟩):=h1
   have dF:=XY (ro:=ro) (next:=wpAnyIn (kN ro) 3 P .any ops (fun e cE W'=>∃E' aL,eB E0 W0 A0 E' W' cE/\Rel E' W' aL cE/\aL.nt=nt/\Q e aL) f (l.setIfInBounds i true)) (Q:=fun e cE W'=>∃E' aL,eB E0 W0 A0 E' W' cE/\Rel E' W' aL cE/\aL.nt=nt/\Q e aL) h2 hdo hr (fun E' W' aL cE kM dD TN hK=>ih _ aL E' W' cE hK (TN.trans cU) (hv.trans kM) dD)
   by_cases hw:Region.wanted o (yielded ops act.tmps)=true
   ·simp only[hw,if_true]at dF⊢
    exact dF
   ·simp only[hw]at dF⊢
    exact⟨fun _ _=>trivial,dF⟩
  ·rw[if_pos (by simp[Region.wanted,hg])]
   exact hx ro E W act _ _ hr fun E' W' H' hR kM dD=>⟨E',_,hv.trans (.of kM rfl),dD,cU,hq H' hR⟩
section
variable {P : Program} {σ : AS} {Q : Exit -> AS -> Prop}
theorem br5{id:Nat}{ops:Array Oper}{n:Nat}(hn:ops.size=n)(hm:P.follows .mixedOrders=true)(hd:ops.toList.all (fT σ.nt)=true)(h:nM P ops Q n (Array.replicate n false) σ):AW P (.region id ops true) σ Q:=fun ro E W act eH bR=>by
 subst hn;refine wpIn_region_any hm ?_;exact br3 (nt:=σ.nt) hd ops.size _ σ E W.drew act h rfl (eB.of (bD.drew E W) rfl) ⟨bR.defers.mono (bD.drew E W),bR.size,fun t c a ha=>let ⟨v,h1,h2,h3⟩:=bR.env t c a ha;⟨v,h1,fun hc=>(h2 hc).mono (bD.drew E W),h3⟩,⟨bR.heap.next,bR.heap.core.drew⟩⟩
theorem Qw{id:Nat}{ops:Array Oper}(n:Nat)(h:nM P ops Q n (Array.replicate n false) σ)(hn:ops.size=n:=by(first|rfl|fail))(hm:P.follows .mixedOrders=true:=by(first|kernel_rfl|fail))(hd:ops.toList.all (fT σ.nt)=true:=by(first|rfl|fail)):AW P (.region id ops true) σ Q:=br5 hn hm hd h
theorem kT{ops:Array Oper}{f:Nat}{l:Array Bool}(h:Q .normal σ)(hr:Region.ready .any ops l=[]:=by(first|kernel_rfl|fail)):nM P ops Q f l σ:=by
 cases f with
 |zero=>exact⟨hr,h⟩
 |succ f=>exact⟨fun _=>h,fun i hi=>by rw[hr]at hi;cases hi⟩
theorem Xs(i:Nat){ops:Array Oper}{f:Nat}{l l':Array Bool}{o:Oper}(h:aX P true ops [o] σ (hold (fun aL=>nM P ops Q f l' aL) ⟨⟩))(hr:Region.ready .any ops l=[i]:=by(first|kernel_rfl|fail))(ho:ops[i]? =some o:=by(first|rfl|fail))(hl:l.setIfInBounds i true=l':=by(first|rfl|fail)):nM P ops Q (f+1) l σ:=
 ⟨(fun h0=>by rw[hr]at h0;cases h0),fun k hk=>by
   rw[hr]at hk;simp only[List.mem_singleton]at hk;subst hk
   exact⟨o,ho,.inl (by rw[hl];exact h)⟩⟩
theorem br6(i:Nat){ops:Array Oper}{f:Nat}{l:Array Bool}{o:Oper}{x:Value}{R:Heap->Prop}(h:D0 P o σ x R/\∀H',R H'->Q (.panic (jO x)) {σ with H:=H'})(hr:Region.ready .any ops l=[i]:=by(first|kernel_rfl|fail))(ho:ops[i]? =some o:=by(first|rfl|fail)):nM P ops Q (f+1) l σ:=
 ⟨(fun h0=>by rw[hr]at h0;cases h0),fun k hk=>by
   rw[hr]at hk;simp only[List.mem_singleton]at hk;subst hk
   exact⟨o,ho,.inr ⟨x,R,h⟩⟩⟩
theorem gP(i k:Nat){ops:Array Oper}{f:Nat}{l:Array Bool}(h:∀j∈[i,k],∃o,ops[j]? =some o/\(aX P true ops [o] σ (hold (fun aL=>nM P ops Q f (l.setIfInBounds j true) aL) ⟨⟩)\/∃x R,D0 P o σ x R/\∀H',R H'->Q (.panic (jO x)) {σ with H:=H'}))(hr:Region.ready .any ops l=[i,k]:=by(first|kernel_rfl|fail)):nM P ops Q (f+1) l σ:=
 ⟨(fun h0=>by rw[hr]at h0;cases h0),fun j hj=>h j (hr▸hj)⟩
theorem gQ{p:Nat->Prop}{i k:Nat}(h1:p i)(h2:p k):∀j∈[i,k],p j:=fun j hj=>by
 simp only[fB,mR,or_false]at hj;rcases hj with e|e
 ·rw[e];exact h1
 ·rw[e];exact h2
theorem Xt{ops:Array Oper}{i f:Nat}{l l':Array Bool}{o:Oper}(h:aX P true ops [o] σ (hold (fun aL=>nM P ops Q f l' aL) ⟨⟩))(ho:ops[i]? =some o:=by(first|rfl|fail))(hl:l.setIfInBounds i true=l':=by(first|rfl|fail)):
  ∃o,ops[i]? =some o/\(aX P true ops [o] σ (hold (fun aL=>nM P ops Q f (l.setIfInBounds i true) aL) ⟨⟩)\/∃x R,D0 P o σ x R/\∀H',R H'->Q (.panic (jO x)) {σ with H:=H'}):=⟨o,ho,.inl (by rw[hl];exact h)⟩
end
end Go.AL
namespace Go.AL
theorem Dv{P:Program}{σ:AS}{Q:Exit->AS->Prop}{c:Code}(j:Nat){e:TypeId}{s:Nat}{rws:List (List AV)}{w a:Bool}(vP:List (List AV)){g:Nat->Option aI}(hr:xD rws vP)
  (h:AW P c ⟨σ.env,⟨σ.H.next,g⟩,σ.nt⟩ Q) (hj:σ.H.get j=some (.cells e s rws w a):=by(first|exact aJ|exact rfl|fail)) (hg:aS σ.H.get [(j,some (.cells e s vP w a))]=g:=by(exact aJ)):AW P c σ Q:=fun ro E W act eH bR=>by
 subst hg;obtain⟨_,_,_,⟨cur,sB,_,DL⟩,_,_⟩:=bR.heap.core.ok j _ hj;refine h ro E W act eH ⟨bR.defers,bR.size,bR.env,⟨bR.heap.next,bR.heap.core.Xh hj hr.1.symm (fun i r r' h1 h2=> ?_) sB⟩⟩
 have h3:=hr.2 i r r' h1 h2;refine⟨h3.1.symm,fun k x y hx hy v hv=> ?_⟩
 obtain⟨v',h4,h5⟩:=DL i k r x h1 hx;rw[hv]at h4;injection h4 with h4
 subst h4;exact RV.wk (h3.2 k x y hx hy) h5
theorem Qu{P:Program}{σ:AS}{Q:Exit->AS->Prop}{c:Code}(t id:Nat){off len:Nat}{e:TypeId}{s:Nat}{rows:List (List AV)}{w a:Bool}(dZ:List (List AV)){g:Nat->Option aI}(hle:off+len<=rows.length)(bH:(rows.drop off).take len=dZ)
  (h:AW P c ⟨(t,true,.snap dZ)::σ.env,⟨σ.H.next,g⟩,σ.nt⟩ Q) (ht:lk σ.env t=some (true,.own id off len):=by(first|exact aJ|exact rfl|fail)) (hj:σ.H.get id=some (.cells e s rows w a):=by(first|exact aJ|exact rfl|fail))
  (hg:aS σ.H.get [(id,some (.cells e s rows false a))]=g:=by(first|exact aJ|exact rfl|fail)):AW P c σ Q:=fun ro E W act eH bR=>by
 subst hg;obtain⟨hv,hH⟩:=Gr bR.heap hj
 have hL:∀aK,aK∈[id]->∀(e':TypeId) (s':Nat) (dZ:List (List AV)) (w' a':Bool),σ.H.get aK=some (.cells e' s' dZ w' a')->dZ.length*s'<=(if E.ι aK=E.ι id then max (E.L (E.ι aK)) (rows.length*s)else E.L (E.ι aK)):=fun aK h1 e' s' dZ w' a' h2=>by
  simp only[fB,mR,or_false]at h1;subst h1;rw[hj]at h2;injection h2 with h2
  injection h2 with h3 h4 h5
  subst h4 h5;rw[if_pos rfl];omega
 have NF:=bR.mono hv hH;obtain⟨v,h1,h2,-⟩:=bR.env t _ _ ht;have h3:=O0 bR.heap.core hv (h2 rfl) (fun aK h5=>hL aK (by simpa[u6]using h5))
 have h4:oN σ.H.get (.own id off len)= .snap dZ:=by simp[oN,rowsOf,hj,hle,bH]
 rw[h4]at h3;refine wpIn_mono (h ro _ W act eH ⟨NF.defers,NF.size,fun t' c' b hb=> ?_,NF.heap⟩) fun e' a' w' ⟨E',aL,h2,h3,h4,h5⟩=>⟨E',aL,(eB.of hv rfl).trans h2,h3,h4,h5⟩
 simp only[lk]at hb;split at hb
 ·rename_i Ik
  subst Ik;simp only[bB,bY]at hb;obtain⟨rfl,rfl⟩:=hb;exact⟨v,h1,fun _=>h3,fun h=>by cases h⟩
 ·exact NF.env t' c' b hb
theorem o0.less{P:Program}{m:FuncId}{args:List AV}{H0 H:Heap}{r:Option Value}{Q:Heap->Prop}(h:o0 P m args H0 r Q)(hl:SS H0 H):o0 P m args H r Q:=⟨h.1,fun E W vs hH hr=>h.2 E W vs (hH.less hl) hr⟩
theorem tU{P:Program}{σ:AS}{rs:List ResultVar}{m:FuncId}{cargs:List AV}{Q:AV->Heap->Prop}{x:Value}{R:Heap->Prop}(hd:o0 P m cargs σ.H (some x) R)(h:∀H',R H'->∃a,iZ P {σ with H:=H'} rs=some a/\Q a H'):TS P rs m cargs Q (.panic (jO x)) σ:=
 ⟨x,rfl,hd.mono fun H' hR=>by
   obtain⟨a,h1,h2⟩:=h H' hR
   show nO (iZ P _ rs) _
   rw[h1]
   exact h2⟩
section
variable {P : Program} {σ : AS} {Q : Exit -> AS -> Prop}
theorem aF5(k:Nat){rid:Nat}{ops:Array Oper}{o:Oper}{l:List Oper}{f:Operand}{as:Array Operand}{ts:Array TypeId}{n:FuncId}{args:List AV}{id i j d:Nat}{b0:aI}{x:Value}{p:AS×List Oper}(hp:IY P n (.ptr id i j::args) id b0 x d)(h:Q (.panic (jO x)) {p.1 with H:=⟨p.1.H.next+d,aS p.1.H.get [(id,none)]⟩})
  (ho:ops[k]? =some o:=by(first|rfl|fail)) (hl:ops.toList.take k=l:=by(first|rfl|fail)) (hd:(ops.toList.take k).all (fT σ.nt)=true:=by(first|rfl|fail)) (hr:run P ops.toList l σ=p:=by(exact aJ)) (JU:p.2=[]:=by(first|rfl|fail)) (aP:o.op= .call ⟨.value f,as,ts⟩:=by(first|rfl|fail)) (hg:o.guard=none:=by(first|rfl|fail))
  (hc:fL (p.1.get true f) (dO (p.1.get true) as.toList)=some (n,.ptr id i j::args):=by(exact aJ)) (hb:p.1.H.get id=some b0:=by(exact aJ)):AW P (.region rid ops false) σ Q:=by
 subst hl;refine br1 (x:=x) (R:=fun H'=>H'=⟨p.1.H.next+d,aS p.1.H.get [(id,none)]⟩) k ho hd (nQ (K:=hold (fun aL=>D0 P o aL x (fun H'=>H'=⟨p.1.H.next+d,aS p.1.H.get [(id,none)]⟩)/\∀H',H'=⟨p.1.H.next+d,aS p.1.H.get [(id,none)]⟩->Q (.panic (jO x)) {aL with H:=H'}) ⟨⟩) _ _ hr ?_)
 rw[JU];refine rE ?_;refine⟨Il aP hg hc (hp.act _ _ hb),fun H' e=> ?_⟩
 subst e;exact h
theorem CI{ops:Array Oper}{q f:Nat}{l:Array Bool}{o:Oper}{fo:Operand}{as:Array Operand}{ts:Array TypeId}{n:FuncId}{args:List AV}{id i j d:Nat}{b0:aI}{x:Value}(hp:IY P n (.ptr id i j::args) id b0 x d)(h:Q (.panic (jO x)) {σ with H:=⟨σ.H.next+d,aS σ.H.get [(id,none)]⟩})
  (ho:ops[q]? =some o:=by(first|rfl|fail)) (aP:o.op= .call ⟨.value fo,as,ts⟩:=by(first|rfl|fail)) (hg:o.guard=none:=by(first|rfl|fail))
  (hc:fL (σ.get true fo) (dO (σ.get true) as.toList)=some (n,.ptr id i j::args):=by(exact aJ)) (hb:σ.H.get id=some b0:=by(exact aJ)):
  ∃o,ops[q]? =some o/\(aX P true ops [o] σ (hold (fun aL=>nM P ops Q f (l.setIfInBounds q true) aL) ⟨⟩)\/∃x R,D0 P o σ x R/\∀H',R H'->Q (.panic (jO x)) {σ with H:=H'}):=
 ⟨o,ho,.inr ⟨x,fun H'=>H'=⟨σ.H.next+d,aS σ.H.get [(id,none)]⟩,Il aP hg hc (hp.act _ _ hb),fun H' e=>by subst e;exact h⟩⟩
theorem R9(q:Nat){ops:Array Oper}{f:Nat}{l:Array Bool}{o:Oper}{fo:Operand}{as:Array Operand}{ts:Array TypeId}{n:FuncId}{args:List AV}{id i j d:Nat}{b0:aI}{x:Value}(hp:IY P n (.ptr id i j::args) id b0 x d)(h:Q (.panic (jO x)) {σ with H:=⟨σ.H.next+d,aS σ.H.get [(id,none)]⟩})(hr:Region.ready .any ops l=[q]:=by(first|kernel_rfl|fail))
  (ho:ops[q]? =some o:=by(first|rfl|fail)) (aP:o.op= .call ⟨.value fo,as,ts⟩:=by(first|rfl|fail)) (hg:o.guard=none:=by(first|rfl|fail))
  (hc:fL (σ.get true fo) (dO (σ.get true) as.toList)=some (n,.ptr id i j::args):=by(exact aJ)) (hb:σ.H.get id=some b0:=by(exact aJ)):nM P ops Q (f+1) l σ:=
 br6 q ⟨Il aP hg hc (hp.act _ _ hb),fun H' e=>by subst e;exact h⟩ hr ho
theorem bL(q:Nat){ops:Array Oper}{f:Nat}{l l':Array Bool}{o:Oper}{aL:AS}(h:nM P ops Q f l' aL)(hr:Region.ready .any ops l=[q]:=by(first|kernel_rfl|fail))(ho:ops[q]? =some o:=by(first|(simp only[vR,mK,qS]<;>exact rfl)|fail))(hl:l.setIfInBounds q true=l':=by(first|rfl|fail))
  (hs:NQ P ops.toList o σ=some aL:=by(exact aJ)):nM P ops Q (f+1) l σ:=Xs q (nQ (p:=(aL,[])) _ _ (by simp only[run,run.runK,hs]) h) hr ho hl
theorem dG(q:Nat){ops:Array Oper}{f:Nat}{l l':Array Bool}{o:Oper}{aL:AS}(h:nM P ops Q f l' aL)(ho:ops[q]? =some o:=by(first|(simp only[vR,mK,qS]<;>exact rfl)|fail))(hl:l.setIfInBounds q true=l':=by(first|rfl|fail))
  (hs:NQ P ops.toList o σ=some aL:=by(exact aJ)):
  ∃o,ops[q]? =some o/\(aX P true ops [o] σ (hold (fun aL=>nM P ops Q f (l.setIfInBounds q true) aL) ⟨⟩)\/∃x R,D0 P o σ x R/\∀H',R H'->Q (.panic (jO x)) {σ with H:=H'}):=
 Xt (nQ (p:=(aL,[])) _ _ (by simp only[run,run.runK,hs]) h) ho hl
theorem CJ(q:Nat){ops:Array Oper}{f:Nat}{l l':Array Bool}{o:Oper}{fo:Operand}{as:Array Operand}{ts:Array TypeId}{n:FuncId}{args:List AV}{id i j d:Nat}{b0:aI}{b1:Option aI}{r:AV}(hp:jZ P n (.ptr id i j::args) id b0 b1 r d){g:Nat->Option aI}(h:nM P ops Q f l' (({σ with H:=⟨σ.H.next+d,g⟩}:AS).put o.dst true r))(ho:ops[q]? =some o:=by(first|(simp only[vR,mK,qS]<;>exact rfl)|fail))(hl:l.setIfInBounds q true=l':=by(first|rfl|fail))
  (aP:o.op= .call ⟨.value fo,as,ts⟩:=by(first|rfl|fail)) (hg:o.guard=none:=by(first|rfl|fail)) (hc:fL (σ.get true fo) (dO (σ.get true) as.toList)=some (n,.ptr id i j::args):=by(exact aJ)) (hb:σ.H.get id=some b0:=by(exact aJ)) (Im:aS σ.H.get [(id,b1)]=g:=by(exact aJ)):
  ∃o,ops[q]? =some o/\(aX P true ops [o] σ (hold (fun aL=>nM P ops Q f (l.setIfInBounds q true) aL) ⟨⟩)\/∃x R,D0 P o σ x R/\∀H',R H'->Q (.panic (jO x)) {σ with H:=H'}):=
 Xt (Ig (p:=(_,[])) (K:=hold (fun aL=>nM P ops Q f l' aL) ⟨⟩) (by rw[<-Im]at h;exact h) aP hg hc hb hp rfl) ho hl
theorem RD(q:Nat){ops:Array Oper}{f:Nat}{l l':Array Bool}{o:Oper}{fo:Operand}{as:Array Operand}{ts:Array TypeId}{n:FuncId}{args:List AV}{id i j d:Nat}{b0:aI}{b1:Option aI}{r:AV}(hp:jZ P n (.ptr id i j::args) id b0 b1 r d){g:Nat->Option aI}(h:nM P ops Q f l' (({σ with H:=⟨σ.H.next+d,g⟩}:AS).put o.dst true r))(hr:Region.ready .any ops l=[q]:=by(first|kernel_rfl|fail))(ho:ops[q]? =some o:=by(first|(simp only[vR,mK,qS]<;>exact rfl)|fail))(hl:l.setIfInBounds q true=l':=by(first|rfl|fail))
  (aP:o.op= .call ⟨.value fo,as,ts⟩:=by(first|rfl|fail)) (hg:o.guard=none:=by(first|rfl|fail)) (hc:fL (σ.get true fo) (dO (σ.get true) as.toList)=some (n,.ptr id i j::args):=by(exact aJ)) (hb:σ.H.get id=some b0:=by(exact aJ)) (Im:aS σ.H.get [(id,b1)]=g:=by(exact aJ)):nM P ops Q (f+1) l σ:=
 Xs q (Ig (p:=(_,[])) (K:=hold (fun aL=>nM P ops Q f l' aL) ⟨⟩) (by rw[<-Im]at h;exact h) aP hg hc hb hp rfl) hr ho hl
end
end Go.AL
set_option maxRecDepth 100000
namespace Go.AL
def BN:Oper->Oper
 |⟨dst,.insert t m x y,ty,pos,after,g⟩=>⟨dst,.mapUpdate t m x y,ty,pos,after,g⟩
 |o=>o
theorem Xu(o:Oper):(BN o).dst=o.dst:=by
 obtain⟨dst,op,ty,pos,after,g⟩:=o;cases op<;>rfl
theorem br8(o:Oper):(BN o).guard=o.guard:=by
 obtain⟨dst,op,ty,pos,after,g⟩:=o;cases op<;>rfl
theorem br9{F:Fence}(hF:∀f,F.fn f)(n:Nat)(P:Program)(o:Oper)(a:Act)(w:World)(next:Act->World->Prop)(Q:Exit->Act->World->Prop):(BN o).wpIn F n P a w next Q=o.wpIn F n P a w next Q:=by
 obtain⟨dst,op,ty,pos,after,g⟩:=o;cases op
 case insert t m x y=>
  have h1:∀(x:Option FuncId),(∀f,x=some f->F.fn f)=True:=fun x=>eq_true fun f _=>hF f
  have h2:Oper.semAt F.round a.eval ⟨dst,.insert t m x y,ty,pos,after,g⟩=Oper.semAt F.round a.eval ⟨dst,.mapUpdate t m x y,ty,pos,after,g⟩:=by
   rw[Oper.semAt_eq _ _ _ (by intro c h;cases h),Oper.semAt_eq _ _ _ (by intro c h;cases h)]
   rfl
  unfold Oper.wpIn;rw[h1,h1,h2];rfl
 all_goals rfl
theorem bs0(o:Oper)(f:Nat->Option Bool):Region.wanted (BN o) f=Region.wanted o f:=by
 unfold Region.wanted;rw[br8]
theorem bs1(ops:Array Oper)(t:Array Value):yielded (ops.map BN) t=yielded ops t:=by
 funext j
 unfold yielded;rw[Z8];cases h:ops[j]? with
 |none=>rfl
 |some o=>simp only[pP,UC,Xu]
theorem Xv{F:Fence}(hF:∀f,F.fn f)(n:Nat)(P:Program)(ops:Array Oper)(Q:Exit->Act->World->Prop):∀l:List Nat,wpOpsIn F n P (ops.map BN) Q l=wpOpsIn F n P ops Q l
 |[]=>rfl
 |i::l=>by
  funext a w
  have ih:=Xv hF n P ops Q l;simp only[wpOpsIn,Z8,ih];cases h:ops[i]? with
  |none=>rfl
  |some o=>
   have h1:∀(x:Option FuncId),(∀f,x=some f->F.fn f)=True:=fun x=>eq_true fun f _=>hF f
   simp only[pP,bs1,bs0,br9 hF,Xu,h1]
theorem bs2(ops:Array Oper):(List.range ops.size).map (ops[·]?)=ops.toList.map some:=by
 apply BS;intro i;simp only[iA];by_cases hi:i<ops.size
 ·simp[hi,uD]
 ·simp[hi,uD]
theorem bs3{P:Program}{σ:AS}{Q:Exit->AS->Prop}{ic:Bool}{id:Nat}{ops:Array Oper}(tF:Array Oper)(e:ops.map BN=tF)(h:aX P ic tF tF.toList σ (Q .normal))(hd:tF.toList.all (fT σ.nt)=true):AW P (.region id ops false) σ Q:=fun ro E W act eH hr=>by
 subst e;refine wpIn_region ?_;have h9:=GR (ro:=ro) (Q:=fun e a w=>∃E' aL,eB E W act E' w a/\Rel E' w aL a/\aL.nt=σ.nt/\Q e aL) (List.range (ops.map BN).size) (ops.map BN).toList (bs2 _) h hd hr (fun E' W' aL cE hv dD cU hK=>⟨E',aL,hv,dD,cU,hK⟩)
 rw[Xv (fun _=>trivial),Array.size_map]at h9
 exact h9
theorem RT{P:Program}{σ:AS}{Q:Exit->AS->Prop}{id:Nat}{ops:Array Oper}(tF:Array Oper){p:AS×List Oper}(h:aX P true tF p.2 p.1 (Q .normal))(e:ops.map BN=tF:=by(simp only[zU,jW,sM,BN]<;>exact rfl))(hd:tF.toList.all (fT σ.nt)=true:=by(first|rfl|fail))
  (hr:run P tF.toList tF.toList σ=p:=by(exact aJ)):AW P (.region id ops false) σ Q:=bs3 tF e (nQ _ _ hr h) hd
end Go.AL
