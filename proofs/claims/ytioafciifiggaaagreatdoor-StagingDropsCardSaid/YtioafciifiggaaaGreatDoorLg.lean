/- Staging: a layer over the walks (Lg). No condition but those named. -/
import Derived.Test.YtioafciifiggaaaGreatDoorLe
set_option linter.unusedVariables false
set_option linter.unusedSimpArgs false
namespace Go.AL
open Go.RowKit
theorem ACall.frzT{P:Program}{n:FuncId}{args:List AV}{H:Heap}{Q:AV→Heap→Prop}(h:ACall P n args H fun r H'=>∃xs,r= .tup xs∧Q (.tup (xs.map (expo2 H'.get))) ⟨H'.next,frz H'.get (idsAll ids2 xs)⟩):ACall P n args H Q:=
 ⟨h.1,fun E W vs hH hr=>(h.2 E W vs hH hr).mono fun e W' ⟨v,he,E',r,H',h1,h2,h3,xs,hx,hq⟩=>by
   subst hx;obtain⟨L1,h4,h5,h6⟩:=freezeAll (W:=W') (idsAll ids2 xs) h2;refine⟨v,he,_,_,_,h1.trans h4,h5,?_,hq⟩;cases h3 with
   |tup _ us hl hr=>
    refine .tup _ us (by simpa using hl) fun i x v hx hv=> ?_
    rw[List.getElem?_map]at hx;cases hy:xs[i]? with
    |none=>rw[hy]at hx;cases hx
    |some y=>
     rw[hy]at hx;injection hx with hx
     subst hx
     exact expoX2 h2.core h4 (hr i y v hy hv) fun id hid=>h6 id (idsAll_mem (List.mem_of_getElem? hy) hid)⟩
structure MCall(P:Program)(n:FuncId)(args:List AV)(id:Nat)(b0:Blk)(b1:Option Blk)(a:AV)(d:Nat):Prop where
 act:∀N G,G id=some b0→ACall P n args ⟨N,G⟩ fun r H'=>r=a∧H'=⟨N+d,upd G [(id,b1)]⟩
def MEnd(N:Nat)(G:Nat→Option Blk)(id:Nat)(b1:Option Blk)(a:AV)(d:Nat)(r:AV)(H':Heap):Prop:=
 ∃xs T GT,r= .tup xs∧frz H'.get (idsAll ids2 xs)=GT∧GT=tabB G T∧H'.next≤N+d∧SubB G T [(id,b1)]∧keysOK N [(id,b1)] T∧Wk (.tup (xs.map (expo2 H'.get))) a
theorem MEnd.mk{N:Nat}{G:Nat→Option Blk}{id:Nat}{b1:Option Blk}{a:AV}{d:Nat}{xs:List AV}{T:List (Nat×Option Blk)}{GT:Nat→Option Blk}{H':Heap}(h1:frz H'.get (idsAll ids2 xs)=GT)(h2:GT=tabB G T)(h3:H'.next≤N+d)(h4:SubB G T [(id,b1)])(h5:keysOK N [(id,b1)] T)(h6:Wk (.tup (xs.map (expo2 H'.get))) a):MEnd N G id b1 a d (.tup xs) H':=
 ⟨xs,T,GT,rfl,h1,h2,h3,h4,h5,h6⟩
theorem mstart{P:Program}{n:FuncId}{fn:Func}{c:Code}{args:List AV}{id:Nat}{b0:Blk}{b1:Option Blk}{a:AV}{d:Nat}{rs:List ResultVar}{nt:Nat}(hf:P.funcs[n]? =some fn)(hnt:fn.ntmps=nt)
  (h:∀N G,id<N→G id=some b0→(∀k,N≤k→G k=none)→AW P c ⟨envOf 0 args,⟨N,tabB G []⟩,nt⟩ (hold (endA P rs (hold (MEnd N G id b1 a d) ⟨⟩)) ⟨⟩))
  (hb:fn.body=some c:=by rfl) (hr:fn.results=List.toArray rs:=by rfl) (hnm:(fn.name== "runtime.NumGoroutine")=false:=by kernel_rfl) (hlen:args.length≤nt:=by(simp only[List.length_cons,List.length_nil];decide)):MCall P n args id b0 b1 a d:=by
 refine⟨fun N G hG0=>⟨by unfold enterable;rw[hf];simp[hnm,hb],fun E W vs hH hrv=> ?_⟩⟩
 have hG:∀k,N≤k→G k=none:=fun k hk=>by
  cases hg:G k with
  |none=>rfl
  |some b=>
   have h1:=hH.next k (hH.core.ok k b hg).1
   simp only[]at h1;omega
 have hid:id<N:=by
  rcases Nat.lt_or_ge id N with h1|h1
  ·exact h1
  ·rw[hG id h1]at hG0;cases hG0
 have h1:=h N G hid hG0 hG
 have hA:ACall P n args ⟨N,G⟩ (MEnd N G id b1 a d):=by
  refine acall (H:=⟨N,G⟩) hf hb hnm (by rw[hnt];exact hlen) ?_
  rw[hnt,hr];exact h1
 have hB:ACall P n args ⟨N,G⟩ fun r H'=>∃H'',Less H'' H'∧Wk r a∧H''=⟨N+d,upd G [(id,b1)]⟩:=
  ACall.frzT (hA.mono fun r H' ⟨xs,T,GT,h2,h3,h3',h4,h5,h6,h7⟩=>⟨xs,h2,_,⟨h4,fun k b hk=>by
   have h8:=subB hG h5 h6 k b hk;rw[←h3',←h3]at h8
   exact h8⟩,h7,rfl⟩)
 exact(hB.2 E W vs hH hrv).mono fun e W' ⟨v,he,E',r,H',h2,h3,h4,H'',h5,h6,h7⟩=>⟨v,he,E',a,H'',h2,h3.less h5,RV.wk h6 h4,rfl,h7⟩
section
variable {P : Program} {σ : AS} {Q : Exit → AS → Prop}
theorem zcallM{ops:Array Oper}{o:Oper}{rest:List Oper}{K:AS→Prop}{f:Operand}{as:Array Operand}{ts:Array TypeId}{n:FuncId}{id i j d:Nat}{args:List AV}{b0:Blk}{b1:Option Blk}{r:AV}{p:AS×List Oper}(h:aops P true ops p.2 p.1 K)(hop:o.op= .call ⟨.value f,as,ts⟩:=by(first|rfl|fail))(hg:o.guard=none:=by(first|rfl|fail))
  (hc:calleeA (σ.get true f) (getsA (σ.get true) as.toList)=some (n,.ptr id i j::args):=by(first|(simp(maxSteps:=2000000) (disch:=omega) only[go_sem, *]<;>exact rfl)|fail)) (hb:σ.H.get id=some b0:=by(first|(simp(maxSteps:=2000000) (disch:=omega) only[go_sem, *]<;>exact rfl)|fail)) (hp:MCall P n (.ptr id i j::args) id b0 b1 r d:=by(first|assumption|(apply_assumption<;>first|assumption|omega)|fail))
  (hr:run P ops.toList rest (({σ with H:=⟨σ.H.next+d,upd σ.H.get [(id,b1)]⟩}:AS).put o.dst true r)=p:=by(first|(simp(maxSteps:=2000000) (disch:=omega) only[go_sem, *]<;>exact rfl)|fail)):aops P true ops (o::rest) σ K:=
 w_callA hop hg hc (hp.act σ.H.next σ.H.get hb) fun r' H' ⟨h1,h2⟩=>by subst h1;subst h2;exact run_ok _ _ hr h
theorem zforB{α:Type}{c:Code}{G:Nat→Option Blk}(N:Nat)(E:Nat→α→List (Nat×Bool×AV))(T:Nat→α→List (Nat×Option Blk))(R:Nat→Nat→α→Prop)(h0:∃m a,R 0 m a∧Holds σ (E 0 a) ⟨m,tabB G (T 0 a)⟩)
  (hk:∀k m a,k<N→R k m a→AW P c ⟨E k a,⟨m,tabB G (T k a)⟩,σ.nt⟩ (thenA (fun σ'=>∃m' a',R (k+1) m' a'∧Holds σ' (E (k+1) a') ⟨m',tabB G (T (k+1) a')⟩) Q))
  (hN:∀m a,R N m a→AW P c ⟨E N a,⟨m,tabB G (T N a)⟩,σ.nt⟩ (thenA (fun _=>False) Q)):AW P (.loop c) σ Q:=by
 obtain⟨m,a,hR,hh⟩:=h0;refine w_loop (fun n env H=>∃k m a,n=N-k∧k≤N∧R k m a∧env=E k a∧H=⟨m,tabB G (T k a)⟩) N ⟨_,_,⟨0,m,a,by omega,by omega,hR,rfl,rfl⟩,hh⟩ ?_
 rintro n env H ⟨k,m,a,rfl,hk',hR',rfl,rfl⟩;by_cases hlt:k<N
 ·have h1:=hk k m a hlt hR'
  intro ro E0 W act hro hrel;refine wpIn_mono (h1 ro E0 W act hro hrel) fun e a' w ⟨E',σ',h2,h3,h4,h5⟩=>⟨E',σ',h2,h3,h4,?_⟩
  cases e with
  |normal=>
   obtain⟨m',a'',h6,h7⟩:=h5;exact⟨N-(k+1),by omega,_,_,⟨k+1,m',a'',rfl,by omega,h6,rfl,rfl⟩,h7⟩
  |_=>exact h5
 ·obtain rfl:k=N:=by omega
  have h1:=hN m a hR';intro ro E0 W act hro hrel;refine wpIn_mono (h1 ro E0 W act hro hrel) fun e a' w ⟨E',σ',h2,h3,h4,h5⟩=>⟨E',σ',h2,h3,h4,?_⟩
  cases e with
  |normal=>exact h5.elim
  |_=>exact h5
end
theorem zholdsB{σ:AS}{env:List (Nat×Bool×AV)}{N:Nat}{G:Nat→Option Blk}{T:List (Nat×Option Blk)}(w:Holds σ env ⟨N,tabB G T⟩:=by
  ((repeat (refine holds_cons (by first|rfl|(simp(disch:=omega) only[go_sem, *];done)|(simp(disch:=omega) only[go_sem, *];rfl)) ?_));(refine holds_nil (by simp only[];omega) ?_);(refine subB (by assumption) ?_ ?_);(next=>((repeat (first|refine sB_cons (by first|rfl|(simp(disch:=omega) only[go_sem, *];done)|(simp(disch:=omega) only[go_sem, *];rfl)) ?_|refine sB_none ?_));exact sB_nil));(next=>(simp only[keysOK,memK,or_false,false_or,or_true,true_or,and_true,true_and,Nat.le_refl]<;>omega)))):Holds σ env ⟨N,tabB G T⟩:=w
theorem zfinM{N:Nat}{G:Nat→Option Blk}{id:Nat}{b1:Option Blk}{a:AV}{d:Nat}{r:AV}{H':Heap}(w:MEnd N G id b1 a d r H':=by
  (apply MEnd.mk;(next=>(first|(simp(maxSteps:=2000000) (disch:=omega) only[go_sem, *]<;>exact rfl)|exact rfl|fail));(next=>(first|exact rfl|exact(tabB_nil _).symm|fail));(next=>(simp only[];omega));(next=>(first|exact sB_none sB_nil|exact sB_cons (by first|rfl|(simp(disch:=omega) only[go_sem, *];done)|(simp(disch:=omega) only[go_sem, *];rfl)) sB_nil));(next=>(simp only[keysOK,memK,or_false,false_or,or_true,true_or,and_true,true_and,Nat.le_refl]<;>omega));(next=>(simp(maxSteps:=2000000) (disch:=omega) only[go_sem,false_implies,implies_true, *];(repeat (first|exact .refl _|exact .nil|exact wks_nil|refine wks_cons ?_ ?_|refine wk_tup ?_|refine wk_agg ?_|refine wk_snap ?_|exact wkr_nil|refine wkr_cons ?_ ?_)))))):MEnd N G id b1 a d r H':=w
theorem zgoM{A B:Prop}(h:B)(w:Lat B→A:=by
  (intro hB;(repeat (first|refine aw_seq ?_|refine zregX ?_|refine zXcall ?_|refine zXpan ?_|refine w_thenP ?_|refine w_blockP ?_|refine zregion ?_|refine w_nil ?_|refine w_hold ?_|refine w_hold2 ?_|refine w_then ?_|refine w_thenR ?_|refine w_thenE ?_|refine w_blockN ?_|refine w_blockR ?_|refine w_blockE ?_|refine w_blockO (by decide) ?_|refine aw_skip ?_|refine aw_ret ?_|refine aw_exit ?_|refine aw_block ?_|refine zendFN ?_|refine zendFr ?_|refine zendFRn ?_|refine zendFR ?_|refine zendFEn ?_|refine zendFE ?_|refine zend ?_|refine zendN ?_|refine zendAs ?_|refine zendBN ?_|refine zendBR ?_|refine zendBE ?_|refine zyield ?_|refine zyieldG ?_|refine zcondT ?_|refine zcondF ?_|refine zdraw ?_|refine zdrawO ?_|refine aw_label ?_|refine aw_scope ?_|refine sc_ret ?_|refine sc_norm ?_|refine zcallH ?_|refine zcallM ?_|refine zcallO ?_|refine zcallTO ?_|refine zcallF ?_|refine zcallRO ?_|refine zcallG ?_|refine zcallX ?_|refine zcallXG ?_|refine zgF ?_|refine zpick ?_|refine zgT ?_|refine zrun ?_));exact hB.out)):A:=w ⟨h⟩
end Go.AL
namespace Go.AL
open Go.RowKit
theorem DCall.mono{P:Program}{m:FuncId}{args:List AV}{H:Heap}{r:Option Value}{Q Q':Heap→Prop}(h:DCall P m args H r Q)(hq:∀H',Q H'→Q' H'):DCall P m args H r Q':=
 ⟨h.1,fun E W vs hH hr=>(h.2 E W vs hH hr).mono fun e u' W' ⟨h1,h2,E',H',h3,h4,h5⟩=>⟨h1,h2,E',H',h3,h4,hq H' h5⟩⟩
theorem dstart{P:Program}{n m:FuncId}{fn:Func}{args cargs:List AV}{b:AV}{rs:List ResultVar}{nt i0 i1:Nat}{ops0 ops1:Array Oper}{o1 o2:Oper}{f:Operand}{as:Array Operand}{ts:Array TypeId}{rest:Code}{p p1:AS×List Oper}(hf:P.funcs[n]? =some fn)(hnt:fn.ntmps=nt)(hno:NoId b)
  (h:AW P rest (p1.1.put o2.dst true (.c undef)) (hold (endD P rs m cargs (hold (fun a H'=>NoId (expoD H'.get 4 a)∧Wk (expoD H'.get 4 a) b) ⟨⟩)) ⟨⟩))
  (hb:fn.body=some (.seq (.region i0 ops0 false) (.seq (.region i1 ops1 false) rest)):=by(first|rfl|fail)) (ho1:ops1= #[o1,o2]:=by(first|rfl|fail)) (hop:o2.op= .defer ⟨.value f,as,ts⟩:=by(first|rfl|fail)) (hg:o2.guard=none:=by(first|rfl|fail)) (hr:fn.results=List.toArray rs:=by(first|rfl|fail)) (hnm:(fn.name== "runtime.NumGoroutine")=false:=by(first|kernel_rfl|fail)) (hlen:args.length≤nt:=by(simp only[List.length_cons,List.length_nil];decide))
  (hd0:ops0.toList.all (dstIn nt)=true:=by(first|rfl|fail)) (hd1:ops1.toList.all (dstIn nt)=true:=by(first|rfl|fail))
  (hr0:run P ops0.toList ops0.toList ⟨envOf 0 args,⟨0,tabG []⟩,nt⟩=p:=by(first|(simp(maxSteps:=2000000) (disch:=omega) only[go_sem, *]<;>exact rfl)|fail)) (hp:p.2=[]:=by(first|rfl|fail)) (hpn:p.1.nt=nt:=by(first|rfl|fail)) (hr1:run P ops1.toList [o1] p.1=p1:=by(first|(simp(maxSteps:=2000000) (disch:=omega) only[go_sem, *]<;>exact rfl)|fail)) (hp1:p1.2=[]:=by(first|rfl|fail)) (hc:calleeA (p1.1.get true f) (getsA (p1.1.get true) as.toList)=some (m,cargs):=by(first|(simp(maxSteps:=2000000) (disch:=omega) only[go_sem, *]<;>exact rfl)|fail))
  :PCall P n args (·=b):=by
 refine PCall.wk (pcallA 4 (Q:=fun r=>Wk r b) (dcall (m:=m) (cargs:=cargs) hf hb hnm (by rw[hnt];exact hlen) ?_)) hno
 rw[hnt,hr];refine ad_seqR ?_;refine w_region hd0 hr0 ?_;rw[hp];refine w_nil ⟨rfl,?_⟩;refine ad_seqL ?_;subst ho1;refine ad_region 1 (o:=o2) (f:=f) (as:=as) (ts:=ts) rfl (by rw[hpn];exact hd1) hop hg ?_
 refine run_ok _ _ hr1 ?_;rw[hp1];refine w_nil (w_hold ⟨hc,?_⟩);exact h
section
variable {P : Program} {σ : AS}
theorem zdret{rs:List ResultVar}{m:FuncId}{cargs:List AV}{Q:AV→Heap→Prop}{a:AV}(hd:DCall P m cargs σ.H none (fun H'=>H'=σ.H))(h:Q a σ.H)(ho:outA P σ rs=some a:=by(first|(simp(maxSteps:=2000000) (disch:=omega) only[go_sem, *]<;>exact rfl)|fail)):endD P rs m cargs Q .ret σ:=
 hd.mono fun H' e=>by
  subst e
  show bindK (outA P σ rs) _
  rw[ho];exact h
theorem zdpan{rs:List ResultVar}{m:FuncId}{cargs:List AV}{Q:AV→Heap→Prop}{a:AV}{x:Value}{H2:Heap}(hd:DCall P m cargs σ.H (some x) (fun H'=>H'=H2))(h:Q a H2)(ho:outA P {σ with H:=H2} rs=some a:=by(first|(simp(maxSteps:=2000000) (disch:=omega) only[go_sem, *]<;>exact rfl)|fail)):endD P rs m cargs Q (.panic (pan x)) σ:=
 ⟨x,rfl,hd.mono fun H' e=>by
   subst e
   show bindK (outA P _ rs) _
   rw[ho]
   exact h⟩
end
theorem zstep{A B:Prop}(h:B)(w:Lat B→A:=by
  (intro hB;(first|refine aw_seq ?_|refine zregX ?_|refine zXcall ?_|refine zXpan ?_|refine w_thenP ?_|refine w_blockP ?_|refine zregion ?_|refine w_nil ?_|refine w_hold ?_|refine w_hold2 ?_|refine w_then ?_|refine w_thenR ?_|refine w_thenE ?_|refine w_blockN ?_|refine w_blockR ?_|refine w_blockE ?_|refine w_blockO (by decide) ?_|refine aw_skip ?_|refine aw_ret ?_|refine aw_exit ?_|refine aw_block ?_|refine zendFN ?_|refine zendFr ?_|refine zendFRn ?_|refine zendFR ?_|refine zendFEn ?_|refine zendFE ?_|refine zend ?_|refine zendN ?_|refine zendAs ?_|refine zendBN ?_|refine zendBR ?_|refine zendBE ?_|refine zyield ?_|refine zyieldG ?_|refine zcondT ?_|refine zcondF ?_|refine zdraw ?_|refine zdrawO ?_|refine aw_label ?_|refine aw_scope ?_|refine sc_ret ?_|refine sc_norm ?_|refine zcallH ?_|refine zcallO ?_|refine zcallTO ?_|refine zcallF ?_|refine zcallRO ?_|refine zcallG ?_|refine zcallX ?_|refine zcallXG ?_|refine zgF ?_|refine zpick ?_|refine zgT ?_|refine zrun ?_);exact hB.out)):A:=w ⟨h⟩
end Go.AL
namespace Go.AL
open Go.RowKit
theorem RC.shrink{E:Env}{W:World}{G:Nat→Option Blk}{id:Nat}{e:TypeId}{s:Nat}{rows:List (List AV)}{a:Bool}(m:Nat)(hG:RC E W G)(hg:G id=some (.cells e s rows true a)):RC E W (upd G [(id,some (.cells e s (rows.take m) true a))]):=by
 obtain⟨hU,h1,h2,⟨cur,h3,h4,h5⟩,h6,h7⟩:=hG.ok id _ hg;have hw:=h6 rfl
 have hold:∀id' b',id'≠id→upd G [(id,some (.cells e s (rows.take m) true a))] id'=some b'→G id'=some b':=fun id' b' hne h=>by
  simpa only[upd,if_neg hne]using h
 refine⟨hG.lim,hG.inW,fun id2 b hb=> ?_⟩
 by_cases hid:id2=id
 ·subst hid
  simp only[upd]at hb;rw[if_pos trivial]at hb;injection hb with hb
  subst hb;refine⟨hU,h1,fun i row hi=> ?_,⟨cur,h3,?_,fun i j row x hi hj=> ?_⟩,fun _=>⟨hw.1,fun id' b' hne h=>hw.2 id' b' hne (hold id' b' hne h)⟩,fun _=>⟨by rw[hw.1];exact Nat.zero_le _,fun id' b' hne h he=>absurd he (hw.2 id' b' hne (hold id' b' hne h))⟩⟩
  ·rw[List.getElem?_take]at hi
   split at hi
   ·exact h2 i row hi
   ·cases hi
  ·have:(rows.take m).length*s≤rows.length*s:=Nat.mul_le_mul_right s (by rw[List.length_take];exact Nat.min_le_right _ _)
   omega
  ·rw[List.getElem?_take]at hi
   split at hi
   ·exact h5 i j row x hi hj
   ·cases hi
 ·have hb2:=hold id2 b hid hb
  obtain⟨hU2,hok⟩:=hG.ok id2 b hb2;refine⟨hU2,?_⟩;have hne2:E.ι id2≠E.ι id:=hw.2 id2 b hid hb2
  have hsome:∀id' b',upd G [(id,some (.cells e s (rows.take m) true a))] id'=some b'→∃b0,G id'=some b0:=fun id' b' h=>by
   by_cases hi:id'=id
   ·subst hi;exact⟨_,hg⟩
   ·exact⟨_,hold id' b' hi h⟩
  cases b with
  |map es=>
   obtain⟨k1,k2,k3⟩:=hok;refine⟨k1,k2,fun id' b' hne' h=> ?_⟩
   obtain⟨b0,h0⟩:=hsome id' b' h;exact k3 id' b0 hne' h0
  |iter m' n seen=>
   obtain⟨k1,k2,k3⟩:=hok;refine⟨k1,k2,fun id' b' hne' h=> ?_⟩
   obtain⟨b0,h0⟩:=hsome id' b' h;exact k3 id' b0 hne' h0
  |rcd env nt ps assign body st pend=>
   obtain⟨k1,k2,k3⟩:=hok;refine⟨k1,k2,fun id' b' hne' h=> ?_⟩
   obtain⟨b0,h0⟩:=hsome id' b' h;exact k3 id' b0 hne' h0
  |cells e' s' rows' w' a'=>
   obtain⟨k1,k2,k3,k4,k5⟩:=hok;refine⟨k1,k2,k3,fun hw'=>⟨(k4 hw').1,fun id' b' hne' h=> ?_⟩,fun ha'=>⟨(k5 ha').1,fun id' b' hne' h he=> ?_⟩⟩
   ·obtain⟨b0,h0⟩:=hsome id' b' h
    exact(k4 hw').2 id' b0 hne' h0
   ·by_cases hi:id'=id
    ·subst hi;exact absurd he.symm hne2
    ·exact(k5 ha').2 id' b' hne' (hold id' b' hi h) he
theorem aw_shrink{P:Program}{σ:AS}{Q:Exit→AS→Prop}{c:Code}(id m:Nat){e:TypeId}{s:Nat}{rows:List (List AV)}{a:Bool}(hg:σ.H.get id=some (.cells e s rows true a))(h:AW P c ⟨σ.env,⟨σ.H.next,upd σ.H.get [(id,some (.cells e s (rows.take m) true a))]⟩,σ.nt⟩ Q):AW P c σ Q:=fun ro E W act hro hrel=>
 h ro E W act hro ⟨hrel.defers,hrel.size,hrel.env,⟨hrel.heap.next,hrel.heap.core.shrink m hg⟩⟩
end Go.AL
namespace Go.AL
open Go.RowKit
theorem ccall_of{P:Program}{n:FuncId}{rest:List AV}{el0 el:TypeId}{k0 k m0:Nat}{rows0 rows:List (List AV)}(hn0:∀row∈rows0,∀x∈row,NoId x)(hrows:∀row∈rows,∀x∈row,NoId x)(hr0:∀a∈rest,NoId a)
  (h:ACall P n (.own 0 0 m0::rest) ⟨1,tabG [(0,some (.cells el0 k0 rows0 true true))]⟩ fun r H'=>∃i,r= .own i 0 rows.length∧H'.get i=some (.cells el k rows true true)) (id:Nat):CCall P n (.own id 0 m0::rest) id el0 k0 rows0 el k rows:=by
 refine⟨h.1,fun E W G nid vs hG hgi hnid hr=> ?_⟩
 obtain⟨hUid,hbok⟩:=hG.ok id _ hgi;obtain⟨b1,b2,⟨cur0,b3,b4,b5⟩,b6,b7⟩:=hbok
 let E0:Env:=⟨fun _=>E.ι id,fun _=>E.sz id,fun i=>i=0,E.L⟩
 have hto:∀{x u},RV E W x u→NoId x→RV E0 W x u:=fun hx hn=>RV.fromPlain (E:=E0) (L:=E.L) (fun _=>Nat.le_refl _) (hx.toPlain (L:=E.L) (fun _=>Nat.le_refl _) hn)
 have hRH:RH E0 W ⟨1,tabG [(0,some (.cells el0 k0 rows0 true true))]⟩:=by
  refine⟨fun i hi=> ?_,hG.lim,fun i _=>hG.inW id hUid,fun i b hb=> ?_⟩
  ·have:i=0:=hi
   subst this;exact Nat.zero_lt_one
  ·have hi:i=0:=by
    by_cases h0:i=0
    ·exact h0
    ·simp[tabG,lookT,h0]at hb
   subst hi;simp[tabG,lookT]at hb;subst hb;refine⟨rfl,b1,b2,⟨cur0,b3,b4,fun i j row x h1 h2=> ?_⟩,fun _=>⟨(b6 rfl).1,fun i' b' hne hb'=> ?_⟩,fun _=>⟨(b7 rfl).1,fun i' b' hne hb'=> ?_⟩⟩
   ·obtain⟨v,h3,h4⟩:=b5 i j row x h1 h2
    exact⟨v,h3,hto h4 (hn0 row (List.mem_of_getElem? h1) x (List.mem_of_getElem? h2))⟩
   ·simp[tabG,lookT,hne]at hb'
   ·simp[tabG,lookT,hne]at hb'
 have hrv0:RVs E0 W (.own 0 0 m0::rest) vs:=by
  refine⟨by simpa using hr.1,fun i x v hx hv=> ?_⟩
  cases i with
  |zero=>
   simp only[List.getElem?_cons_zero,Option.some.injEq]at hx;subst hx;have h1:=hr.2 0 (.own id 0 m0) v rfl hv;rcases(own_inv h1).2 with⟨cap,rfl,hlc,cur,e,f,h4,h5⟩|⟨hl0,a,rfl⟩
   ·exact RV.own (E:=E0) 0 0 m0 cap rfl hlc ⟨cur,e,f,h4,h5⟩
   ·subst hl0;exact .own0 _ _ _ rfl
  |succ i=>
   have h1:=hr.2 (i+1) x v (by simpa using hx) hv
   exact hto h1 (hr0 x (List.mem_of_getElem? (by simpa using hx)))
 refine(h.2 E0 W vs hRH hrv0).mono fun x W' ⟨v,he,E1,r,H',hv,hH,hrv,i,hri,hgi1⟩=> ?_
 subst hri;obtain⟨hU1,hok1⟩:=hH.core.ok i _ hgi1;obtain⟨hsz,hlen,⟨cur,hcur,hle,hcells⟩,hw1,ha1⟩:=hok1;have hL0:=(hw1 rfl).1;have hi0:E0.U 0:=rfl
 have hnew:W.heap.size≤E1.ι i∨E1.ι i=E.ι id:=by
  by_cases h0:E0.U i
  ·exact .inr (hv.ren i h0).1
  ·rcases hv.fresh i h0 hU1 with h1|⟨id0,_,h2⟩
   ·exact .inl h1
   ·exact .inr h2.symm
 have hlt:E1.ι i<W'.heap.size:=hH.core.inW i hU1;have hstill:∀b,b<W.heap.size→b≠E.ι id→E1.L b=E.L b:=fun b hb hne=>hv.still b hb fun _ _=>fun h=>hne h.symm
 have hold:∀b,b<W.heap.size→b≠E.ι id→W'.heap[b]? =W.heap[b]? :=fun b hb hne=>hv.foreign b hb fun _ _=>fun h=>hne h.symm
 have hlim:∀b,E.L b≤E1.L b:=hv.lim
 let E':Env:=⟨fun q=>if q=nid then E1.ι i else E.ι q,fun q=>if q=nid then k else E.sz q,fun q=>E.U q∨q=nid,E1.L⟩
 have hι:∀q,E.U q→E'.ι q=E.ι q:=fun q hid=>by
  show(if q=nid then _ else _)=_
  rw[if_neg];rintro rfl;exact hnid hid
 have hs:∀q,E.U q→E'.sz q=E.sz q:=fun q hid=>by
  show(if q=nid then _ else _)=_
  rw[if_neg];rintro rfl;exact hnid hid
 have hιn:E'.ι nid=E1.ι i:=by show(if nid=nid then _ else _)=_;rw[if_pos rfl]
 have hsn:E'.sz nid=k:=by show(if nid=nid then _ else _)=_;rw[if_pos rfl]
 have hnn:id≠nid:=fun h=>hnid (h▸hUid)
 have hEvo:Evo E W E' W':=by
  refine⟨hv.os,hv.tape,hv.output,hv.size,fun id h=> .inl h,fun id hid=>⟨hι id hid,hs id hid⟩,hlim,hv.prot,fun b hb hf=>hold b hb fun h=>hf id hUid h.symm,hv.sizes,fun b hb hf=>hstill b hb fun h=>hf id hUid h.symm,fun q h1 h2=> ?_,hv.loops⟩
  rcases h2 with h2|h2
  ·exact absurd h2 h1
  ·subst h2
   rw[hιn];rcases hnew with h|h
   ·exact .inl h
   ·exact .inr ⟨id,hUid,h.symm⟩
 have hrow:∀{x u},RV E1 W' x u→NoId x→RV E' W' x u:=fun hx hn=>RV.fromPlain (E:=E') (L:=E1.L) (fun _=>Nat.le_refl _) (hx.toPlain (L:=E1.L) (fun _=>Nat.le_refl _) hn)
 have hapart:∀q b,q≠id→G q=some b→E.ι q≠E.ι id:=fun q b hne hq=>(b6 rfl).2 q b hne hq
 have holdne:∀q b,q≠id→G q=some b→E'.ι q≠E1.ι i:=fun q b hne hq heq=>by
  have hU:=(hG.ok q b hq).1;rw[hι q hU]at heq;rcases hnew with h|h
  ·have:=hG.inW q hU
   omega
  ·rw[h]at heq
   exact hapart q b hne hq heq
 have hget:∀q b,q≠nid→upd G [(id,none),(nid,some (.cells el k rows true true))] q=some b→q≠id∧G q=some b:=fun q b hne hq=>by
  simp only[upd,if_neg hne]at hq;by_cases hqi:q=id
  ·rw[if_pos hqi]at hq;cases hq
  ·rw[if_neg hqi]at hq;exact⟨hqi,hq⟩
 refine⟨v,he,E',hEvo,⟨hH.core.lim,fun q hid=> ?_,fun q b hb=> ?_⟩,?_,fun q h=>h⟩
 ·rcases hid with hid|hid
  ·rw[hι q hid];exact Nat.lt_of_lt_of_le (hG.inW q hid) hv.size
  ·subst hid;rw[hιn];exact hlt
 ·by_cases hid:q=nid
  ·subst hid
   simp only[upd]at hb;rw[if_pos trivial]at hb;injection hb with hb
   subst hb;refine⟨.inr rfl,hsn,hlen,⟨cur,by rw[hιn];exact hcur,hle,fun i' j row x h1 h2=> ?_⟩,fun _=>⟨by rw[hιn];exact hL0,fun id' b' hne hg' heq=> ?_⟩,fun _=>⟨by rw[hιn];show E1.L _≤_;rw[hL0];exact Nat.zero_le _,fun id' b' hne hg' heq=> ?_⟩⟩
   ·obtain⟨u,h3,h4⟩:=hcells i' j row x h1 h2
    exact⟨u,h3,hrow h4 (hrows row (List.mem_of_getElem? h1) x (List.mem_of_getElem? h2))⟩
   ·rw[hιn]at heq
    obtain⟨h1,h2⟩:=hget id' b' hne hg';exact holdne id' b' h1 h2 heq
   ·rw[hιn]at heq
    obtain⟨h1,h2⟩:=hget id' b' hne hg';exact absurd heq (holdne id' b' h1 h2)
  ·obtain⟨hqi,hb⟩:=hget q b hid hb
   obtain⟨hU,hok⟩:=hG.ok q b hb;have hlt2:=hG.inW q hU;have hap:=hapart q b hqi hb;refine⟨.inl hU,hok.mono hEvo hU (hold _ hlt2 hap) (hstill _ hlt2 hap) fun id' b' hne hg' heq=> ?_⟩
   by_cases hid':id'=nid
   ·subst hid'
    rw[hιn]at heq;rcases hnew with h|h
    ·omega
    ·rw[h]at heq;exact absurd heq.symm hap
   ·obtain⟨h1,h2⟩:=hget id' b' hid' hg'
    exact⟨b',h2,by rw[←heq,hι id' (hG.ok id' b' h2).1],rfl,fun h=>h⟩
 ·have hU':E'.U nid:= .inr rfl
  rcases(own_inv hrv).2 with⟨cap,rfl,hlc,cur2,e2,f2,h4,h5⟩|⟨hl0,a,rfl⟩
  ·have h6:=RV.own (E:=E') (W:=W') nid 0 rows.length cap hU' hlc (by rw[hιn,hsn];exact⟨cur2,e2,f2,h4,by rw[hsz]at h5;exact h5⟩)
   rw[hιn,hsn]at h6;rw[hsz];exact h6
  ·rw[hl0]
   exact .own0 _ _ _ hU'
theorem CCall.run{P:Program}{n:FuncId}{args:List AV}{id:Nat}{el0 el:TypeId}{k0 k:Nat}{rows0 rows:List (List AV)}(h:CCall P n args id el0 k0 rows0 el k rows){H:Heap}(hg:H.get id=some (.cells el0 k0 rows0 true true)):
  ACall P n args H fun r H'=>r= .own H.next 0 rows.length∧H'=⟨H.next+1,upd H.get [(id,none),(H.next,some (.cells el k rows true true))]⟩:=
 ⟨h.1,fun E W vs hH hr=>(h.2 E W H.get H.next vs hH.core hg (fun hU=>Nat.lt_irrefl _ (hH.next _ hU)) hr).mono fun x W' ⟨v,he,E',h1,h2,h3,h4⟩=>
   ⟨v,he,E',_,_,h1,⟨fun id hid=>by
     rcases h4 id hid with h5|h5
     ·exact Nat.lt_succ_of_lt (hH.next id h5)
     ·subst h5;exact Nat.lt_succ_self _,h2⟩,h3,rfl,rfl⟩⟩
section
variable {P : Program} {σ : AS} {Q : Exit → AS → Prop}
theorem zcallC{ops:Array Oper}{o:Oper}{rest:List Oper}{K:AS→Prop}{f:Operand}{as:Array Operand}{ts:Array TypeId}{n:FuncId}{id m0:Nat}{args:List AV}{el0 el:TypeId}{k0 k:Nat}{rows0 rows:List (List AV)}{p:AS×List Oper}(h:aops P true ops p.2 p.1 K)(hop:o.op= .call ⟨.value f,as,ts⟩:=by(first|rfl|fail))(hg:o.guard=none:=by(first|rfl|fail))
  (hc:calleeA (σ.get true f) (getsA (σ.get true) as.toList)=some (n,.own id 0 m0::args):=by(first|(simp(maxSteps:=2000000) (disch:=omega) only[go_sem, *]<;>exact rfl)|fail)) (hp:CCall P n (.own id 0 m0::args) id el0 k0 rows0 el k rows:=by(first|assumption|(apply_assumption<;>first|assumption|omega)|fail)) (hb:σ.H.get id=some (.cells el0 k0 rows0 true true):=by(first|(simp(maxSteps:=2000000) (disch:=omega) only[go_sem, *];done)|(simp(maxSteps:=2000000) (disch:=omega) only[go_sem, *]<;>exact rfl)|fail))
  (hr:run P ops.toList rest (({σ with H:=⟨σ.H.next+1,upd σ.H.get [(id,none),(σ.H.next,some (.cells el k rows true true))]⟩}:AS).put o.dst true (.own σ.H.next 0 rows.length))=p:=by(first|(simp(maxSteps:=2000000) (disch:=omega) only[go_sem, *]<;>exact rfl)|fail)):aops P true ops (o::rest) σ K:=
 w_callA hop hg hc (hp.run hb) fun r' H' ⟨h1,h2⟩=>by subst h1;subst h2;exact run_ok _ _ hr h
theorem d_callCZ{ops:List Oper}{N0 i:Nat}{o:Oper}{r:List Oper}{σ σ'':AS}{es:List Entry}{f:Operand}{as:Array Operand}{ts:Array TypeId}{n:FuncId}{id m0:Nat}{args:List AV}{el0 el:TypeId}{k0 k:Nat}{rows0 rows:List (List AV)}(hop:o.op= .call ⟨.value f,as,ts⟩)(hg:o.guard=none)
  (hc:calleeA (σ.get true f) (getsA (σ.get true) as.toList)=some (n,.own id 0 m0::args)) (hp:CCall P n (.own id 0 m0::args) id el0 k0 rows0 el k rows) (hgi:σ.H.get id=some (.cells el0 k0 rows0 true true))
  (h:DRun P ops N0 (i+1) r (σ.app o.dst ⟨true,.own (N0+i) 0 rows.length,[(id,none),(N0+i,some (.cells el k rows true true))],[id]⟩) es σ''):
  DRun P ops N0 i (o::r) σ (⟨true,.own (N0+i) 0 rows.length,[(id,none),(N0+i,some (.cells el k rows true true))],[id]⟩::es) σ'':=
 .cons i o r σ _ es σ'' (.ccall f as ts n (.own id 0 m0::args) id el0 k0 rows0 el k rows hop (by unfold gOK;rw[hg]) rfl hc hgi hp rfl rfl (by simp)) h
theorem zdrawC{σ':AS}{id:Nat}{ops:Array Oper}{es:List Entry}(h:Q .normal σ')(hm:P.follows .mixedOrders=true:=by(first|kernel_rfl|fail))(hs:statB ops=true:=by(first|kernel_rfl|fail))(hd:ops.toList.all (dstIn σ.nt)=true:=by(first|rfl|fail))
  (hr:DRun P ops.toList σ.H.next 0 ops.toList {σ with H:=⟨σ.H.next+ops.size,σ.H.get⟩} es σ':=by(first|(apply d_runZ;(next=>(first|(simp(maxSteps:=2000000) (disch:=omega) only[go_sem, *]<;>exact rfl)|fail));(repeat (first|exact d_nil|(apply d_callCZ;(next=>(first|rfl|fail));(next=>(first|rfl|fail));(next=>(first|(simp(maxSteps:=2000000) (disch:=omega) only[go_sem, *]<;>exact rfl)|fail));(next=>(first|assumption|(apply_assumption<;>first|assumption|omega)|fail));(next=>(first|(simp(maxSteps:=2000000) (disch:=omega) only[go_sem, *];done)|(simp(maxSteps:=2000000) (disch:=omega) only[go_sem, *]<;>exact rfl)|fail));apply d_runZ;(next=>(first|(simp(maxSteps:=2000000) (disch:=omega) only[go_sem, *]<;>exact rfl)|fail)))|(apply d_callXZ;(next=>(first|rfl|fail));(next=>(first|rfl|fail));(next=>(first|(simp(maxSteps:=2000000) (disch:=omega) only[go_sem, *]<;>exact rfl)|fail));(next=>(first|(simp(maxSteps:=2000000) (disch:=omega) only[go_sem, *]<;>exact rfl)|fail));(next=>(first|(simp(maxSteps:=2000000) (disch:=omega) only[go_sem, *]<;>exact rfl)|fail));(next=>(first|(simp(maxSteps:=2000000) (disch:=omega) only[go_sem, *]<;>exact rfl)|fail));(next=>(first|assumption|(apply_assumption<;>first|assumption|omega)|fail));(next=>(first|(simp(maxSteps:=2000000) only[go_sem,noId_fn,noId_sptr,false_implies,implies_true, *];done)|(simp[noId_c,noId_agg,noId_snap,noId_tup,noId_fn,noId_sptr,encL_noIdE, *];done)|fail));apply d_runZ;(next=>(first|(simp(maxSteps:=2000000) (disch:=omega) only[go_sem, *]<;>exact rfl)|fail)))|(apply d_skipZ;(next=>(first|rfl|fail));(next=>(first|(simp(maxSteps:=2000000) (disch:=omega) only[go_sem, *]<;>exact rfl)|fail));apply d_runZ;(next=>(first|(simp(maxSteps:=2000000) (disch:=omega) only[go_sem, *]<;>exact rfl)|fail)))|(apply d_callTOZ;(next=>(first|rfl|fail));(next=>(first|rfl|fail));(next=>(first|(simp(maxSteps:=2000000) (disch:=omega) only[go_sem, *]<;>exact rfl)|fail));(next=>(first|assumption|(apply_assumption<;>first|assumption|omega)|fail));apply d_runZ;(next=>(first|(simp(maxSteps:=2000000) (disch:=omega) only[go_sem, *]<;>exact rfl)|fail)))|(apply d_callOZ;(next=>(first|rfl|fail));(next=>(first|rfl|fail));(next=>(first|(simp(maxSteps:=2000000) (disch:=omega) only[go_sem, *]<;>exact rfl)|fail));(next=>(first|assumption|(apply_assumption<;>first|assumption|omega)|fail));apply d_runZ;(next=>(first|(simp(maxSteps:=2000000) (disch:=omega) only[go_sem, *]<;>exact rfl)|fail)))|(apply d_callROZ;(next=>(first|rfl|fail));(next=>(first|rfl|fail));(next=>(first|(simp(maxSteps:=2000000) (disch:=omega) only[go_sem, *]<;>exact rfl)|fail));(next=>(first|(simp(maxSteps:=2000000) (disch:=omega) only[go_sem, *]<;>exact rfl)|fail));(next=>(first|(simp(maxSteps:=2000000) (disch:=omega) only[go_sem, *]<;>exact rfl)|fail));(next=>(first|assumption|(apply_assumption<;>first|assumption|omega)|fail));(next=>(first|(simp(maxSteps:=2000000) only[go_sem,noId_fn,noId_sptr,false_implies,implies_true, *];done)|(simp[noId_c,noId_agg,noId_snap,noId_tup,noId_fn,noId_sptr,encL_noIdE, *];done)|fail));apply d_runZ;(next=>(first|(simp(maxSteps:=2000000) (disch:=omega) only[go_sem, *]<;>exact rfl)|fail)))|(apply d_callPZ;(next=>(first|rfl|fail));(next=>(first|rfl|fail));(next=>(first|(simp(maxSteps:=2000000) (disch:=omega) only[go_sem, *]<;>exact rfl)|fail));(next=>(first|assumption|(apply_assumption<;>first|assumption|omega)|fail));(next=>(first|(simp(maxSteps:=2000000) only[go_sem,noId_fn,noId_sptr,false_implies,implies_true, *];done)|(simp[noId_c,noId_agg,noId_snap,noId_tup,noId_fn,noId_sptr,encL_noIdE, *];done)|fail));apply d_runZ;(next=>(first|(simp(maxSteps:=2000000) (disch:=omega) only[go_sem, *]<;>exact rfl)|fail)))|(apply d_callGZ;(next=>(first|rfl|fail));(next=>(first|rfl|fail));(next=>(first|(simp(maxSteps:=2000000) (disch:=omega) only[go_sem, *]<;>exact rfl)|fail));(next=>(first|(simp(maxSteps:=2000000) (disch:=omega) only[go_sem, *]<;>exact rfl)|fail));(next=>(first|assumption|(apply_assumption<;>first|assumption|omega)|fail));(next=>(first|(simp(maxSteps:=2000000) only[go_sem,noId_fn,noId_sptr,false_implies,implies_true, *];done)|(simp[noId_c,noId_agg,noId_snap,noId_tup,noId_fn,noId_sptr,encL_noIdE, *];done)|fail));apply d_runZ;(next=>(first|(simp(maxSteps:=2000000) (disch:=omega) only[go_sem, *]<;>exact rfl)|fail)))|(apply d_callR;(next=>(first|rfl|fail));(next=>(first|rfl|fail));(next=>(first|(simp(maxSteps:=2000000) (disch:=omega) only[go_sem, *]<;>exact rfl)|fail));(next=>(first|(simp(maxSteps:=2000000) (disch:=omega) only[go_sem, *]<;>exact rfl)|fail));(next=>(first|(simp(maxSteps:=2000000) (disch:=omega) only[go_sem, *]<;>exact rfl)|fail));(next=>(first|assumption|(apply_assumption<;>first|assumption|omega)|fail));(next=>(first|(simp(maxSteps:=2000000) only[go_sem,noId_fn,noId_sptr,false_implies,implies_true, *];done)|(simp[noId_c,noId_agg,noId_snap,noId_tup,noId_fn,noId_sptr,encL_noIdE, *];done)|fail));apply d_runZ;(next=>(first|(simp(maxSteps:=2000000) (disch:=omega) only[go_sem, *]<;>exact rfl)|fail)))|(apply d_callRG;(next=>(first|rfl|fail));(next=>(first|rfl|fail));(next=>(first|(simp(maxSteps:=2000000) (disch:=omega) only[go_sem, *]<;>exact rfl)|fail));(next=>(first|(simp(maxSteps:=2000000) (disch:=omega) only[go_sem, *]<;>exact rfl)|fail));(next=>(first|(simp(maxSteps:=2000000) (disch:=omega) only[go_sem, *]<;>exact rfl)|fail));(next=>(first|(simp(maxSteps:=2000000) (disch:=omega) only[go_sem, *]<;>exact rfl)|fail));(next=>(first|assumption|(apply_assumption<;>first|assumption|omega)|fail));(next=>(first|(simp(maxSteps:=2000000) only[go_sem,noId_fn,noId_sptr,false_implies,implies_true, *];done)|(simp[noId_c,noId_agg,noId_snap,noId_tup,noId_fn,noId_sptr,encL_noIdE, *];done)|fail));apply d_runZ;(next=>(first|(simp(maxSteps:=2000000) (disch:=omega) only[go_sem, *]<;>exact rfl)|fail))))))|fail))
  (hdyn:dynGo (tab ops.toList) 0 [] es=true:=by(first|(simp(maxSteps:=2000000) (disch:=omega) only[go_sem,nbeq_F,nbeq_T, *]<;>kernel_rfl)|fail)):AW P (.region id ops true) σ Q:=w_draw hm hs hd hr hdyn h
end
theorem cstart{P:Program}{n:FuncId}{fn:Func}{c:Code}{rest:List AV}{el0 el:TypeId}{k0 k m0:Nat}{rows0 rows:List (List AV)}{rs:List ResultVar}{nt:Nat}(hf:P.funcs[n]? =some fn)(hnt:fn.ntmps=nt)(hn0:∀row∈rows0,∀x∈row,NoId x)(hrows:∀row∈rows,∀x∈row,NoId x)(hr0:∀a∈rest,NoId a)
  (h:AW P c ⟨envOf 0 (.own 0 0 m0::rest),⟨1,tabG [(0,some (.cells el0 k0 rows0 true true))]⟩,nt⟩ (hold (endA P rs (hold (fun r H'=>∃i,r= .own i 0 rows.length∧H'.get i=some (.cells el k rows true true)) ⟨⟩)) ⟨⟩))
  (hb:fn.body=some c:=by rfl) (hr:fn.results=List.toArray rs:=by rfl) (hnm:(fn.name== "runtime.NumGoroutine")=false:=by kernel_rfl) (hlen:(AV.own 0 0 m0::rest).length≤nt:=by(simp only[List.length_cons,List.length_nil];decide)) (id:Nat):CCall P n (.own id 0 m0::rest) id el0 k0 rows0 el k rows:=
 ccall_of hn0 hrows hr0 (astart hf hnt h hb hr hnm hlen) id
theorem zgoC{A B:Prop}(h:B)(w:Lat B→A:=by
  (intro hB;(repeat (first|refine aw_seq ?_|refine zregX ?_|refine zXcall ?_|refine zXpan ?_|refine w_thenP ?_|refine w_blockP ?_|refine zregion ?_|refine w_nil ?_|refine w_hold ?_|refine w_hold2 ?_|refine w_then ?_|refine w_thenR ?_|refine w_thenE ?_|refine w_blockN ?_|refine w_blockR ?_|refine w_blockE ?_|refine w_blockO (by decide) ?_|refine aw_skip ?_|refine aw_ret ?_|refine aw_exit ?_|refine aw_block ?_|refine zendFN ?_|refine zendFr ?_|refine zendFRn ?_|refine zendFR ?_|refine zendFEn ?_|refine zendFE ?_|refine zend ?_|refine zendN ?_|refine zendAs ?_|refine zendBN ?_|refine zendBR ?_|refine zendBE ?_|refine zyield ?_|refine zyieldG ?_|refine zcondT ?_|refine zcondF ?_|refine zdraw ?_|refine zdrawO ?_|refine zdrawC ?_|refine aw_label ?_|refine aw_scope ?_|refine sc_ret ?_|refine sc_norm ?_|refine zcallH ?_|refine zcallC ?_|refine zcallO ?_|refine zcallTO ?_|refine zcallF ?_|refine zcallRO ?_|refine zcallG ?_|refine zcallX ?_|refine zcallXG ?_|refine zgF ?_|refine zpick ?_|refine zgT ?_|refine zrun ?_));exact hB.out)):A:=w ⟨h⟩
end Go.AL
namespace Go.AL
theorem append_two{P:Program}{t t' ty e e':TypeId}(h:P.underlying t=some (.slice e))(h':P.underlying t'=some (.slice e'))(args:Array Value)(W:World):(Builtin.append_ #[t,t'] ty args).run P W=(Builtin.append_ #[t,t] ty args).run P W:=by
 have hu:∀w,(underlying t).run P w= .ok (.slice e) w:=fun w=>by simp[underlying,h]
 have hu':∀w,(underlying t').run P w= .ok (.slice e') w:=fun w=>by simp[underlying,h']
 unfold Builtin.append_;simp only[List.getElem?_toArray,List.getElem?_cons_zero,List.getElem?_cons_succ];cases args[0]? with
 |none=>rfl
 |some s=>
  cases args[1]? with
  |none=>rfl
  |some x=>
   simp only[Sem.run_bind,hu,hu',Result.andThen_ok];cases s with
   |slice base sLen sCap=>simp only[Sem.run_bind,hu,hu',Result.andThen_ok,Sem.run_pure]
   |_=>rfl
theorem oper_app{F:Fence}{n:Nat}{P:Program}{dst:Option Tmp}{as:Array Operand}{t t' ty e e':TypeId}{pos:String}{after:Array Edge}(h:P.underlying t=some (.slice e))(h':P.underlying t'=some (.slice e')){a:Act}{w:World}{next:Act→World→Prop}{Q:Exit→Act→World→Prop}
  (hw:(Oper.mk dst (.call ⟨.builtin .append,as,#[t,t]⟩) ty pos after none).wpIn F n P a w next Q):(Oper.mk dst (.call ⟨.builtin .append,as,#[t,t']⟩) ty pos after none).wpIn F n P a w next Q:=by
 unfold Oper.wpIn at hw⊢;rw[Oper.semAt_eq _ _ _ (fun c h=>by cases h)]at hw⊢
 refine⟨fun f hf=>hw.1 f (by rw[←hf];rfl),?_⟩
 have he:(execOp a.eval (Oper.mk dst (.call ⟨.builtin .append,as,#[t,t']⟩) ty pos after none)).run P w=(execOp a.eval (Oper.mk dst (.call ⟨.builtin .append,as,#[t,t]⟩) ty pos after none)).run P w:=by
  unfold execOp;simp only[resolve,Sem.run_bind,Sem.run_pure,Result.andThen_ok,invoke,builtin,append_two h h']
 rw[he];exact hw.2
theorem wpOps_to{F:Fence}{n:Nat}{P:Program}{Q:Exit→Act→World→Prop}(ops ops':Array Oper)(hy:∀(i:Nat) (o:Oper),ops[i]? =some o→o.guard=none∧∃o',ops'[i]? =some o'∧o'.guard=none∧∀(a:Act) (w:World) (next:Act→World→Prop),o'.wpIn F n P a w next Q→o.wpIn F n P a w next Q)
  (hs:∀(i:Nat),ops[i]? =none→ops'[i]? =none):∀(l:List Nat) (a:Act) (w:World),wpOpsIn F n P ops' Q l a w→wpOpsIn F n P ops Q l a w
 |[],a,w,h=>h
 |i::l,a,w,h=>by
  simp only[wpOpsIn]at h⊢;cases ho:ops[i]? with
  |none=>
   rw[hs i ho]at h;exact wpOps_to ops ops' hy hs l a w h
  |some o=>
   obtain⟨h1,o',h2,h3,h4⟩:=hy i o ho;rw[h2]at h;simp only[Region.wanted,h1,h3,if_true]at h⊢;exact h4 _ _ _ (Oper.wpIn_mono (fun a w h=>wpOps_to ops ops' hy hs l a w h) h)
theorem zappT{P:Program}{σ:AS}{Q:Exit→AS→Prop}{id:Nat}{o1 o2 o4:Oper}{dst:Option Tmp}{as:Array Operand}{t t' ty e e':TypeId}{pos:String}{after:Array Edge}{p:AS×List Oper}(h:aops P true #[o1,o2,Oper.mk dst (.call ⟨.builtin .append,as,#[t,t]⟩) ty pos after none,o4] p.2 p.1 (Q .normal))
  (ht:P.underlying t=some (.slice e)) (ht':P.underlying t'=some (.slice e')) (h1:o1.guard=none) (h2:o2.guard=none) (h4:o4.guard=none) (hd: #[o1,o2,Oper.mk dst (.call ⟨.builtin .append,as,#[t,t]⟩) ty pos after none,o4].toList.all (dstIn σ.nt)=true)
  (hr:run P #[o1,o2,Oper.mk dst (.call ⟨.builtin .append,as,#[t,t]⟩) ty pos after none,o4].toList #[o1,o2,Oper.mk dst (.call ⟨.builtin .append,as,#[t,t]⟩) ty pos after none,o4].toList σ=p):AW P (.region id #[o1,o2,Oper.mk dst (.call ⟨.builtin .append,as,#[t,t']⟩) ty pos after none,o4] false) σ Q:=fun ro E W act hro hrel=>by
 refine wpIn_region ?_;refine wpOps_to _ #[o1,o2,Oper.mk dst (.call ⟨.builtin .append,as,#[t,t]⟩) ty pos after none,o4] (fun i o ho=> ?_) (fun i hi=> ?_) _ _ _ (aops_ok [0,1,2,3] #[o1,o2,Oper.mk dst (.call ⟨.builtin .append,as,#[t,t]⟩) ty pos after none,o4].toList rfl (run_ok _ _ hr h) hd hrel (fun E' W' σ' act' hv hr' hnt hK=>⟨E',σ',hv,hr',hnt,hK⟩))
 ·match i,ho with
  |0,ho=>injection ho with ho;subst ho;exact⟨h1,_,rfl,h1,fun _ _ _ h=>h⟩
  |1,ho=>injection ho with ho;subst ho;exact⟨h2,_,rfl,h2,fun _ _ _ h=>h⟩
  |2,ho=>injection ho with ho;subst ho;exact⟨rfl,_,rfl,rfl,fun _ _ _ h=>oper_app ht ht' h⟩
  |3,ho=>injection ho with ho;subst ho;exact⟨h4,_,rfl,h4,fun _ _ _ h=>h⟩
  |i+4,ho=>exact absurd ho (by simp)
 ·match i,hi with
  |0,hi=>cases hi
  |1,hi=>cases hi
  |2,hi=>cases hi
  |3,hi=>cases hi
  |i+4,hi=>simp
end Go.AL
namespace Go.AL
open Go.RowKit
section
variable {P : Program} {σ : AS} {Q : Exit → AS → Prop}
theorem d_callOXZ{ops:List Oper}{N0 i:Nat}{o:Oper}{r:List Oper}{σ σ'':AS}{es:List Entry}{f:Operand}{as:Array Operand}{ts:Array TypeId}{n:FuncId}{args0 args:List AV}{el:TypeId}{k:Nat}{rows:List (List AV)}{wr:List (Nat×Option Blk)}{rd:List Nat}(hop:o.op= .call ⟨.value f,as,ts⟩)(hg:o.guard=none)
  (hc:calleeA (σ.get true f) (getsA (σ.get true) as.toList)=some (n,args0)) (he:args0.map (expo2 σ.H.get)=args) (hrd:idsAll ids2 args0=rd) (hw:(rd.map fun id=>(id,frzB (σ.H.get id)))=wr) (hp:OCall P n args el k rows) (h:DRun P ops N0 (i+1) r (σ.app o.dst ⟨true,.own (N0+i) 0 rows.length,wr++[(N0+i,some (.cells el k rows true true))],rd⟩) es σ''):
  DRun P ops N0 i (o::r) σ (⟨true,.own (N0+i) 0 rows.length,wr++[(N0+i,some (.cells el k rows true true))],rd⟩::es) σ'':=
 .cons i o r σ _ es σ'' (.ocallx f as ts n args0 args el k rows hop (by unfold gOK;rw[hg]) rfl hc he hp rfl (by rw[←hw,←hrd]) (fun id hid=>by rw[←hrd];exact hid)) h
theorem zdrawY{σ':AS}{id:Nat}{ops:Array Oper}{es:List Entry}(h:Q .normal σ')(hm:P.follows .mixedOrders=true:=by(first|kernel_rfl|fail))(hs:statB ops=true:=by(first|kernel_rfl|fail))(hd:ops.toList.all (dstIn σ.nt)=true:=by(first|rfl|fail))
  (hr:DRun P ops.toList σ.H.next 0 ops.toList {σ with H:=⟨σ.H.next+ops.size,σ.H.get⟩} es σ':=by(first|(apply d_runZ;(next=>(first|(simp(maxSteps:=2000000) (disch:=omega) only[go_sem, *]<;>exact rfl)|fail));(repeat (first|exact d_nil|(apply d_callOXZ;(next=>(first|rfl|fail));(next=>(first|rfl|fail));(next=>(first|(simp(maxSteps:=2000000) (disch:=omega) only[go_sem, *]<;>exact rfl)|fail));(next=>(first|(simp(maxSteps:=2000000) (disch:=omega) only[go_sem, *]<;>exact rfl)|fail));(next=>(first|(simp(maxSteps:=2000000) (disch:=omega) only[go_sem, *]<;>exact rfl)|fail));(next=>(first|(simp(maxSteps:=2000000) (disch:=omega) only[go_sem, *]<;>exact rfl)|fail));(next=>(first|assumption|(apply_assumption<;>first|assumption|omega)|fail));apply d_runZ;(next=>(first|(simp(maxSteps:=2000000) (disch:=omega) only[go_sem, *]<;>exact rfl)|fail)))|(apply d_gT;(next=>(first|rfl|fail));(next=>(first|(simp(maxSteps:=2000000) (disch:=omega) only[go_sem, *]<;>exact rfl)|fail));(next=>(first|(simp(maxSteps:=2000000) (disch:=omega) only[go_sem, *]<;>exact rfl)|fail));apply d_runZ;(next=>(first|(simp(maxSteps:=2000000) (disch:=omega) only[go_sem, *]<;>exact rfl)|fail)))|(apply d_callXZ;(next=>(first|rfl|fail));(next=>(first|rfl|fail));(next=>(first|(simp(maxSteps:=2000000) (disch:=omega) only[go_sem, *]<;>exact rfl)|fail));(next=>(first|(simp(maxSteps:=2000000) (disch:=omega) only[go_sem, *]<;>exact rfl)|fail));(next=>(first|(simp(maxSteps:=2000000) (disch:=omega) only[go_sem, *]<;>exact rfl)|fail));(next=>(first|(simp(maxSteps:=2000000) (disch:=omega) only[go_sem, *]<;>exact rfl)|fail));(next=>(first|assumption|(apply_assumption<;>first|assumption|omega)|fail));(next=>(first|(simp(maxSteps:=2000000) only[go_sem,noId_fn,noId_sptr,false_implies,implies_true, *];done)|(simp[noId_c,noId_agg,noId_snap,noId_tup,noId_fn,noId_sptr,encL_noIdE, *];done)|fail));apply d_runZ;(next=>(first|(simp(maxSteps:=2000000) (disch:=omega) only[go_sem, *]<;>exact rfl)|fail)))|(apply d_skipZ;(next=>(first|rfl|fail));(next=>(first|(simp(maxSteps:=2000000) (disch:=omega) only[go_sem, *]<;>exact rfl)|fail));apply d_runZ;(next=>(first|(simp(maxSteps:=2000000) (disch:=omega) only[go_sem, *]<;>exact rfl)|fail)))|(apply d_callTOZ;(next=>(first|rfl|fail));(next=>(first|rfl|fail));(next=>(first|(simp(maxSteps:=2000000) (disch:=omega) only[go_sem, *]<;>exact rfl)|fail));(next=>(first|assumption|(apply_assumption<;>first|assumption|omega)|fail));apply d_runZ;(next=>(first|(simp(maxSteps:=2000000) (disch:=omega) only[go_sem, *]<;>exact rfl)|fail)))|(apply d_callOZ;(next=>(first|rfl|fail));(next=>(first|rfl|fail));(next=>(first|(simp(maxSteps:=2000000) (disch:=omega) only[go_sem, *]<;>exact rfl)|fail));(next=>(first|assumption|(apply_assumption<;>first|assumption|omega)|fail));apply d_runZ;(next=>(first|(simp(maxSteps:=2000000) (disch:=omega) only[go_sem, *]<;>exact rfl)|fail)))|(apply d_callROZ;(next=>(first|rfl|fail));(next=>(first|rfl|fail));(next=>(first|(simp(maxSteps:=2000000) (disch:=omega) only[go_sem, *]<;>exact rfl)|fail));(next=>(first|(simp(maxSteps:=2000000) (disch:=omega) only[go_sem, *]<;>exact rfl)|fail));(next=>(first|(simp(maxSteps:=2000000) (disch:=omega) only[go_sem, *]<;>exact rfl)|fail));(next=>(first|assumption|(apply_assumption<;>first|assumption|omega)|fail));(next=>(first|(simp(maxSteps:=2000000) only[go_sem,noId_fn,noId_sptr,false_implies,implies_true, *];done)|(simp[noId_c,noId_agg,noId_snap,noId_tup,noId_fn,noId_sptr,encL_noIdE, *];done)|fail));apply d_runZ;(next=>(first|(simp(maxSteps:=2000000) (disch:=omega) only[go_sem, *]<;>exact rfl)|fail)))|(apply d_callPZ;(next=>(first|rfl|fail));(next=>(first|rfl|fail));(next=>(first|(simp(maxSteps:=2000000) (disch:=omega) only[go_sem, *]<;>exact rfl)|fail));(next=>(first|assumption|(apply_assumption<;>first|assumption|omega)|fail));(next=>(first|(simp(maxSteps:=2000000) only[go_sem,noId_fn,noId_sptr,false_implies,implies_true, *];done)|(simp[noId_c,noId_agg,noId_snap,noId_tup,noId_fn,noId_sptr,encL_noIdE, *];done)|fail));apply d_runZ;(next=>(first|(simp(maxSteps:=2000000) (disch:=omega) only[go_sem, *]<;>exact rfl)|fail)))|(apply d_callGZ;(next=>(first|rfl|fail));(next=>(first|rfl|fail));(next=>(first|(simp(maxSteps:=2000000) (disch:=omega) only[go_sem, *]<;>exact rfl)|fail));(next=>(first|(simp(maxSteps:=2000000) (disch:=omega) only[go_sem, *]<;>exact rfl)|fail));(next=>(first|assumption|(apply_assumption<;>first|assumption|omega)|fail));(next=>(first|(simp(maxSteps:=2000000) only[go_sem,noId_fn,noId_sptr,false_implies,implies_true, *];done)|(simp[noId_c,noId_agg,noId_snap,noId_tup,noId_fn,noId_sptr,encL_noIdE, *];done)|fail));apply d_runZ;(next=>(first|(simp(maxSteps:=2000000) (disch:=omega) only[go_sem, *]<;>exact rfl)|fail)))|(apply d_callR;(next=>(first|rfl|fail));(next=>(first|rfl|fail));(next=>(first|(simp(maxSteps:=2000000) (disch:=omega) only[go_sem, *]<;>exact rfl)|fail));(next=>(first|(simp(maxSteps:=2000000) (disch:=omega) only[go_sem, *]<;>exact rfl)|fail));(next=>(first|(simp(maxSteps:=2000000) (disch:=omega) only[go_sem, *]<;>exact rfl)|fail));(next=>(first|assumption|(apply_assumption<;>first|assumption|omega)|fail));(next=>(first|(simp(maxSteps:=2000000) only[go_sem,noId_fn,noId_sptr,false_implies,implies_true, *];done)|(simp[noId_c,noId_agg,noId_snap,noId_tup,noId_fn,noId_sptr,encL_noIdE, *];done)|fail));apply d_runZ;(next=>(first|(simp(maxSteps:=2000000) (disch:=omega) only[go_sem, *]<;>exact rfl)|fail)))|(apply d_callRG;(next=>(first|rfl|fail));(next=>(first|rfl|fail));(next=>(first|(simp(maxSteps:=2000000) (disch:=omega) only[go_sem, *]<;>exact rfl)|fail));(next=>(first|(simp(maxSteps:=2000000) (disch:=omega) only[go_sem, *]<;>exact rfl)|fail));(next=>(first|(simp(maxSteps:=2000000) (disch:=omega) only[go_sem, *]<;>exact rfl)|fail));(next=>(first|(simp(maxSteps:=2000000) (disch:=omega) only[go_sem, *]<;>exact rfl)|fail));(next=>(first|assumption|(apply_assumption<;>first|assumption|omega)|fail));(next=>(first|(simp(maxSteps:=2000000) only[go_sem,noId_fn,noId_sptr,false_implies,implies_true, *];done)|(simp[noId_c,noId_agg,noId_snap,noId_tup,noId_fn,noId_sptr,encL_noIdE, *];done)|fail));apply d_runZ;(next=>(first|(simp(maxSteps:=2000000) (disch:=omega) only[go_sem, *]<;>exact rfl)|fail))))))|fail))
  (hdyn:dynGo (tab ops.toList) 0 [] es=true:=by(first|(simp(maxSteps:=2000000) (disch:=omega) only[go_sem,nbeq_F,nbeq_T, *]<;>kernel_rfl)|fail)):AW P (.region id ops true) σ Q:=w_draw hm hs hd hr hdyn h
end
end Go.AL
