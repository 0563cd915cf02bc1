/- Target: a layer over the walks (Lb). No condition but those named. -/
import Derived.Test.YtpaomccedbjknaaGreatDoorLa
import Derived.RangeFuncNested
set_option linter.all false
namespace Go.AL
open Go.RowKit
def sB(P:Program)(n:FuncId):Bool:=
 match P.funcs[n]? with
 |some fn=> !(fn.name== "runtime.NumGoroutine")&& !fn.body.isNone
 |none=>false
def fW(P:Program)(n:FuncId)(args:List AV)(H:Heap)(Q:AV->Heap->Prop):Prop:=
 sB P n=true/\∀(E:Env) (W:World) (vs:List Value),RH E W H->bP E W args vs->
  Calls P n vs.toArray W fun e W'=>∃v,e= .returned v/\∃E' r H',bE E W E' W'/\RH E' W' H'/\RV E' W' r v/\Q r H'
theorem fW.mono{P:Program}{n:FuncId}{args:List AV}{H:Heap}{Q Q':AV->Heap->Prop}(h:fW P n args H Q)(hq:∀r H',Q r H'->Q' r H'):fW P n args H Q':=
 ⟨h.1,fun E W vs hH hr=>(h.2 E W vs hH hr).mono fun e W' ⟨v,he,E',r,H',h1,h2,h3,h4⟩=>⟨v,he,E',r,H',h1,h2,h3,hq r H' h4⟩⟩
inductive bF:AV->Prop
 |c (x:Value):bF (.c x)
 |agg (xs:List AV) (h:∀x∈xs,bF x):bF (.agg xs)
 |aK (xs:List AV) (h:∀x∈xs,bF x):bF (.aK xs)
 |snap (rows:List (List AV)) (h:∀row∈rows,∀x∈row,bF x):bF (.snap rows)
 |cH (rows:List (List AV)) (i o:Nat) (h:∀row∈rows,∀x∈row,bF x):bF (.cH rows i o)
 |fn (f:Fn) (first cap:List AV) (h:∀x∈first,bF x) (h2:∀x∈cap,bF x):bF (.fn f first cap)
theorem fH(x:Value):bF (.c x):= .c x
theorem eM{xs:List AV}:bF (.agg xs)↔∀x∈xs,bF x:=⟨fun h=>by cases h;assumption,.agg xs⟩
theorem fD{xs:List AV}:bF (.aK xs)↔∀x∈xs,bF x:=⟨fun h=>by cases h;assumption,.aK xs⟩
theorem fC{rows:List (List AV)}:bF (.snap rows)↔∀row∈rows,∀x∈row,bF x:=⟨fun h=>by cases h;assumption,.snap rows⟩
def eZ(L:Nat->Nat):Env:=⟨fun _=>0,fun _=>0,fun _=>False,L⟩
theorem RV.pI{E:Env}{W:World}{L:Nat->Nat}(hL:∀b,E.L b<=L b){a:AV}{v:Value}(r:RV E W a v)(h:bF a):RV (eZ L) W a v:=by
 induction r with
 |c x hx=>exact .c x hx
 |agg xs vs hl _ ih=>
  rw[eM]at h;exact .agg xs vs hl fun i x v hx hv=>ih i x v hx hv (h x (fJ hx))
 |aK xs vs hl _ ih=>
  rw[fD]at h;exact .aK xs vs hl fun i x v hx hv=>ih i x v hx hv (h x (fJ hx))
 |snap rows b off s n cap vs hn pH hs JF hc hr ih=>
  rw[fC]at h;exact .snap rows b off s n cap vs hn pH hs (tA JF (hL b)) hc fun i j row x h1 h2=>ih i j row x h1 h2 (h row (fJ h1) x (fJ h2))
 |kP a cap=>exact .kP a cap
 |cH rows i o b off s vs hs JF hc hr ih=>
  cases h with
  |cH _ _ _ h=>
  exact .cH rows i o b off s vs hs (tA JF (hL b)) hc fun i j row x h1 h2=>ih i j row x h1 h2 (h row (fJ h1) x (fJ h2))
 |own id off len cap aC eI dO=>cases h
 |mB id off a aC=>cases h
 |sub id i o len cap aC eI dO=>cases h
 |ptr id i o aC=>cases h
 |fn f first cap vf vc hl dG _ _ E4 E5=>
  cases h with
  |fn _ _ _ h h2=>
  exact .fn f first cap vf vc hl dG (fun i x v hx hv=>E4 i x v hx hv (h x (fJ hx))) (fun i x v hx hv=>E5 i x v hx hv (h2 x (fJ hx)))
 |omap id aC=>cases h
 |jT id aC=>cases h
theorem RV.EE{E:Env}{W:World}{L:Nat->Nat}(hL:∀b,L b<=E.L b){a:AV}{v:Value}(r:RV (eZ L) W a v):RV E W a v:=by
 induction r with
 |c x hx=>exact .c x hx
 |agg xs vs hl _ ih=>exact .agg xs vs hl ih
 |aK xs vs hl _ ih=>exact .aK xs vs hl ih
 |snap rows b off s n cap vs hn pH hs JF hc hr ih=>exact .snap rows b off s n cap vs hn pH hs (tA JF (hL b)) hc ih
 |kP a cap=>exact .kP a cap
 |cH rows i o b off s vs hs JF hc hr ih=>exact .cH rows i o b off s vs hs (tA JF (hL b)) hc ih
 |own id off len cap aC eI dO=>exact aC.elim
 |mB id off a aC=>exact aC.elim
 |sub id i o len cap aC eI dO=>exact aC.elim
 |ptr id i o aC=>exact aC.elim
 |fn f first cap vf vc hl dG _ _ E4 E5=>exact .fn f first cap vf vc hl dG E4 E5
 |omap id aC=>exact aC.elim
 |jT id aC=>exact aC.elim
theorem bP.pI{E:Env}{W:World}{L:Nat->Nat}(hL:∀b,E.L b<=L b){as:List AV}{vs:List Value}(r:bP E W as vs)(h:∀a∈as,bF a):bP (eZ L) W as vs:=
 ⟨r.1,fun i x v hx hv=>(r.2 i x v hx hv).pI hL (h x (fJ hx))⟩
def eA(P:Program)(n:FuncId)(args:List AV)(Q:AV->Prop):Prop:=
 sB P n=true/\∀(L:Nat->Nat) (W:World) (vs:List Value),(∀b,W.heap.size<=b->L b=0)->bP (eZ L) W args vs->
  Calls P n vs.toArray W fun e W'=>∃v,e= .returned v/\∃r L',Below W.heap.size W W'/\(∀b,b<W.heap.size->L' b=L b)/\(∀b,W'.heap.size<=b->L' b=0)/\RV (eZ L') W' r v/\bF r/\Q r
theorem eA.run{P:Program}{n:FuncId}{args:List AV}{Q:AV->Prop}(h:eA P n args Q)(ha:∀a∈args,bF a){E:Env}{W:World}{H:Heap}(hH:RH E W H){vs:List Value}(hr:bP E W args vs):
  Calls P n vs.toArray W fun e W'=>∃v,e= .returned v/\∃r L',bE E W ⟨E.ι,E.sz,E.U,L'⟩ W'/\RH ⟨E.ι,E.sz,E.U,L'⟩ W' H/\RV ⟨E.ι,E.sz,E.U,L'⟩ W' r v/\bF r/\Q r:=by
 refine(h.2 E.L W vs hH.core.lim (hr.pI (fun _=>cA _) ha)).mono fun e W' ⟨v,he,r,L',hb,h2,h3,h4,h5,h6⟩=> ?_
 have bG:∀b k,k<E.L b->b<W.heap.size:=fun b k hk=>by
  rcases qY b W.heap.size with h|h
  ·exact h
  ·have:=hH.core.lim b h;omega
 have hv:bE E W ⟨E.ι,E.sz,E.U,L'⟩ W':=by
  refine⟨hb.os,hb.tape,hb.output,hb.size,fun _ h=>h,fun _ _=>⟨rfl,rfl⟩,fun b=> ?_,fun b k hk=> ?_,fun b cE _=>hb.block b cE,fun b cur e f hc=> ?_,fun b cE _=>h2 b cE,fun id h h'=>absurd h' h,fun b r h=>⟨r,by rw[hb.block b (k7.1 h).1];exact h,rfl⟩⟩
  ·rcases qY b W.heap.size with h|h
   ·exact Nat.le_of_eq (h2 b h).symm
   ·rw[hH.core.lim b h];exact qV _
  ·exact hb.cell (p:=⟨b,k,none⟩) (bG b k hk)
  ·exact⟨cur,f,by rw[hb.block b (k7.1 hc).1];exact hc,rfl⟩
 refine⟨v,he,r,L',hv,⟨hH.next,h3,fun id hU=>tX (hH.core.eJ id hU) hb.size,fun id b hg=> ?_⟩,h4.EE (fun _=>cA _),h5,h6⟩
 obtain⟨hU,eC⟩:=hH.core.ok id b hg;have sV:=hH.core.eJ id hU;exact⟨hU,eC.mono hv hU (hb.block _ sV) (h2 _ sV) fun aL b' _ dR RO=>⟨b',dR,RO,rfl,fun h=>h⟩⟩
theorem fW.pure{P:Program}{n:FuncId}{args:List AV}{Q:AV->Prop}(h:eA P n args Q)(ha:∀a∈args,bF a){H:Heap}{K:AV->Heap->Prop}(hk:∀r,bF r->Q r->K r H):fW P n args H K:=
 ⟨h.1,fun E W vs hH hr=>(h.run ha hH hr).mono fun e W' ⟨v,he,r,L',h1,h2,h3,h4,h5⟩=>⟨v,he,_,r,H,h1,h2,h3,hk r h4 h5⟩⟩
end Go.AL
namespace Go.AL
open Go.RowKit
def r5(P:Program)(n:FuncId)(args:List AV)(e:TypeId)(k:Nat)(rows:List (List AV)):Prop:=
 sB P n=true/\∀(E:Env) (W:World) (G:Nat->Option aI) (aF:Nat) (vs:List Value),RC E W G->¬E.U aF->bP E W args vs->
  Calls P n vs.toArray W fun x W'=>∃v,x= .returned v/\∃E',bE E W E' W'/\RC E' W' (aY G [(aF,some (.cells e k rows true true))])/\RV E' W' (.own aF 0 rows.length) v/\∀id,E'.U id->E.U id\/id=aF
theorem bl4{P:Program}{n:FuncId}{args:List AV}{e:TypeId}{k:Nat}{rows:List (List AV)}(ha:∀a∈args,bF a)(fA:∀row∈rows,∀x∈row,bF x)
  (h:fW P n args ⟨0,bN []⟩ fun r H'=>∃i,r= .own i 0 rows.length/\H'.get i=some (.cells e k rows true true)):r5 P n args e k rows:=by
 refine⟨h.1,fun E W G aF vs hG gT hr=> ?_⟩
 have kI:RH (eZ E.L) W ⟨0,bN []⟩:=⟨fun id h=>h.elim,hG.lim,fun id h=>h.elim,fun id b h=>by cases h⟩
 refine(h.2 (eZ E.L) W vs kI (hr.pI (fun _=>cA _) ha)).mono fun x W' ⟨v,he,E1,r,H',hv,hH,iP,i,y9,oB⟩=> ?_
 subst y9;obtain⟨x8,gL⟩:=hH.core.ok i _ oB;obtain⟨dO,hlen,⟨cur,cV,hle,fO⟩,BV,Uw⟩:=gL;have pF:=(BV rfl).1
 have nU:W.heap.size<=E1.ι i:=by
  rcases hv.fresh i (fun h=>h) x8 with h1|⟨sS,h1,_⟩
  ·exact h1
  ·exact h1.elim
 have bG:E1.ι i<W'.heap.size:=hH.core.eJ i x8;have G6:∀b,b<W.heap.size->E1.L b=E.L b:=fun b hb=>hv.still b hb fun id h=>h.elim
 have hold:∀b,b<W.heap.size->W'.heap[b]? =W.heap[b]? :=fun b hb=>hv.rJ b hb fun id h=>h.elim
 have RP:∀b,E.L b<=E1.L b:=hv.lim
 let E':Env:=⟨fun id=>if id=aF then E1.ι i else E.ι id,fun id=>if id=aF then k else E.sz id,fun id=>E.U id\/id=aF,E1.L⟩
 have eV:∀id,E.U id->E'.ι id=E.ι id:=fun id aC=>by
  show(if id=aF then _ else _)=_
  rw[if_neg];rintro rfl;exact gT aC
 have hs:∀id,E.U id->E'.sz id=E.sz id:=fun id aC=>by
  show(if id=aF then _ else _)=_
  rw[if_neg];rintro rfl;exact gT aC
 have iD:E'.ι aF=E1.ι i:=by show(if aF=aF then _ else _)=_;rw[if_pos rfl]
 have eR:E'.sz aF=k:=by show(if aF=aF then _ else _)=_;rw[if_pos rfl]
 have vP:bE E W E' W':=by
  refine⟨hv.os,hv.tape,hv.output,hv.size,fun id h=> .inl h,fun id aC=>⟨eV id aC,hs id aC⟩,RP,hv.wV,fun b hb _=>hold b hb,hv.aR,fun b hb _=>G6 b hb,fun id h1 h2=> ?_,hv.loops⟩
  rcases h2 with h2|h2
  ·exact absurd h2 h1
  ·subst h2;rw[iD];exact .inl nU
 have cS:∀{x u},RV E1 W' x u->bF x->RV E' W' x u:=fun hx hn=>RV.EE (E:=E') (L:=E1.L) (fun _=>cA _) (hx.pI (L:=E1.L) (fun _=>cA _) hn)
 have wP:∀id,E.U id->E'.ι id≠E1.ι i:=fun id aC heq=>by
  rw[eV id aC]at heq;have:=hG.eJ id aC;omega
 refine⟨v,he,E',vP,⟨hH.core.lim,fun id aC=> ?_,fun id b hb=> ?_⟩,?_,fun id h=>h⟩
 ·rcases aC with aC|aC
  ·rw[eV id aC];exact tX (hG.eJ id aC) hv.size
  ·subst aC;rw[iD];exact bG
 ·simp only[aY]at hb
  by_cases aC:id=aF
  ·subst aC
   rw[if_pos rfl]at hb;injection hb with hb
   subst hb;refine⟨.inr rfl,eR,hlen,⟨cur,by rw[iD];exact cV,hle,fun i' j row x h1 h2=> ?_⟩,fun _=>⟨by rw[iD];exact pF,fun aL b' aT dR heq=> ?_⟩,fun _=>⟨by rw[iD];show E1.L _<=_;rw[pF];exact qV _,fun aL b' aT dR heq=> ?_⟩⟩
   ·obtain⟨u,h3,h4⟩:=fO i' j row x h1 h2
    exact⟨u,h3,cS h4 (fA row (fJ h1) x (fJ h2))⟩
   ·rw[iD]at heq
    simp only[aY,if_neg aT]at dR;exact wP aL (hG.ok aL b' dR).1 heq
   ·rw[iD]at heq
    simp only[aY,if_neg aT]at dR;exact absurd heq (wP aL (hG.ok aL b' dR).1)
  ·rw[if_neg aC]at hb
   obtain⟨hU,eC⟩:=hG.ok id b hb;have sV:=hG.eJ id hU;refine⟨.inl hU,eC.mono vP hU (hold _ sV) (G6 _ sV) fun aL b' aT dR heq=> ?_⟩
   simp only[aY]at dR;by_cases vQ:aL=aF
   ·subst vQ
    rw[iD]at heq;omega
   ·rw[if_neg vQ]at dR
    exact⟨b',dR,by rw[<-heq,eV aL (hG.ok aL b' dR).1],rfl,fun h=>h⟩
 ·rcases(uJ iP).2 with⟨cap,rfl,eI,EA,e2,f2,h4,h5⟩|⟨mX,a,rfl⟩
  ·have:=RV.own (E:=E') (W:=W') aF 0 rows.length cap (.inr rfl) eI ⟨EA,e2,f2,by rw[iD];exact h4,by rw[eR,<-dO];exact h5⟩
   rw[iD,eR]at this;simpa[dO]using this
  ·rw[mX]
   exact .mB _ _ _ (.inr rfl)
theorem r5.run{P:Program}{n:FuncId}{args:List AV}{e:TypeId}{k:Nat}{rows:List (List AV)}(h:r5 P n args e k rows){H:Heap}:
  fW P n args H fun r H'=>r= .own H.next 0 rows.length/\H'=⟨H.next+1,aY H.get [(H.next,some (.cells e k rows true true))]⟩:=
 ⟨h.1,fun E W vs hH hr=>(h.2 E W H.get H.next vs hH.core (fun hU=>KK _ (hH.next _ hU)) hr).mono fun x W' ⟨v,he,E',h1,h2,h3,h4⟩=>
   ⟨v,he,E',_,_,h1,⟨fun id aC=>by
     rcases h4 id aC with h5|h5
     ·exact OT (hH.next id h5)
     ·subst h5;exact KL _,h2⟩,h3,rfl,rfl⟩⟩
end Go.AL
namespace Go.AL
open Go.RowKit
structure AS where
 env:List (Nat×Bool×AV)
 H:Heap
 nt:Nat
def yA(a b:Bool):Bool:= !a||b
def AS.get(σ:AS)(c:Bool):Operand->Option AV
 | .tmp t=>match lk σ.env t with
   |some (c',a)=>if yA c c'=true then some a else none
   |none=>none
 | .const v=>zF v
 | .global g=>some (.c (.pointer (some ⟨g,0,none⟩)))
 | .func f=>some (.fn (.func f) [] [])
def AS.put(σ:AS)(dst:Option Tmp)(c:Bool)(a:AV):AS:=
 match dst with
 |none=>σ
 |some d=>{σ with env:=(d,c,a)::σ.env}
def Heap.app(H:Heap)(wr:List (Nat×Option aI)):Heap:={next:=if wr.isEmpty then H.next else H.next+1,get:=aY H.get wr}
def sW(D:Nat):Deferred:={target:= .collected D,args:= #[]}
theorem Ux{D D':Nat}(h:sW D=sW D'):D=D':=by grind [sW]
def x9(d:Deferred):Bool:=match d.target with
 | .collected _=>true
 |_=>false
def pJ(ds:List Deferred):List Deferred:=ds.filter fun d=> !x9 d
theorem bl5{ds:List Deferred}{Ds:List Nat}(h:ds.filter x9=Ds.map sW){D:Nat}(hD:sW D∈ds):D∈Ds:=by
 have h1:sW D∈ds.filter x9:=KM.2 ⟨hD,rfl⟩
 grind [Ux]
theorem JG{ds:List Deferred}{Ds:List Nat}(h:ds.filter x9=Ds.map sW){D:Nat}(hD:D∈Ds):sW D∈ds:=by
 grind [List.mem_map_of_mem]
def Marks(E:Env)(W:World)(ds:List Deferred):Prop:=∃Ds:List Nat,ds.filter x9=Ds.map sW/\Ds.Nodup/\∀D∈Ds,W.heap[D]? =some (.deferred (some []))/\∀id,E.U id->E.ι id≠D
theorem Marks.nil(E:Env)(W:World):Marks E W []:=⟨[],rfl,Zc,fun D h=>by cases h⟩
theorem Marks.push{E:Env}{W:World}{ds:List Deferred}{d:Deferred}(h:Marks E W ds)(hd:x9 d=false):Marks E W (d::ds):=by
 obtain⟨Ds,h1,h2,h3⟩:=h;exact⟨Ds,by grind,h2,h3⟩
theorem Marks.mono{E E':Env}{W W':World}{ds:List Deferred}(h:Marks E W ds)(hv:bE E W E' W'):Marks E' W' ds:=by
 obtain⟨Ds,h1,h2,h3⟩:=h;refine⟨Ds,h1,h2,fun D hD=> ?_⟩
 obtain⟨h4,h5⟩:=h3 D hD;have bG:D<W.heap.size:=(k7.1 h4).1;refine⟨(hv.rJ D bG h5).trans h4,fun id aC=> ?_⟩
 by_cases hU:E.U id
 ·rw[(hv.jK id hU).1];grind
 ·rcases hv.fresh id hU aC with h6|⟨sS,h6,h7⟩
  ·omega
  grind
def l7(ro:Option Nat):Fence:={Fence.wide with round:=ro}
def MU(ro:Option Nat)(W:World):Prop:=∀l,ro=some l->∃r,W.heap[l]? =some (.loop r)
theorem MU.mono{ro:Option Nat}{E E':Env}{W W':World}(h:MU ro W)(hv:bE E W E' W'):MU ro W':=fun l hl=>by
 obtain⟨r,hr⟩:=h l hl;obtain⟨r',h1,_⟩:=hv.loops l r hr
 grind
theorem zK{ro:Option Nat}{n:Nat}{P:Program}{f:FuncId}{args:Array Value}{w:World}{R:Ending->World->Prop}(h:Calls P f args w R):CallsIn (l7 ro) n P f args w R:=
 (callsIn_wide (n:=n)).2 h
theorem yB{ro:Option Nat}{n:Nat}:((l7 ro).depth.isSome=true->1<=n):=fun h=>by simp[l7,Fence.wide]at h
structure eU(E:Env)(W:World)(act:Act)(E':Env)(W':World)(cK:Act):Prop where
 nP:bE E W E' W'
 new:∀D,sW D∈cK.defers->sW D∈act.defers\/W.heap.size<=D
 vY:pJ cK.defers=pJ act.defers
theorem eU.of{E E':Env}{W W':World}{act cK:Act}(hv:bE E W E' W')(hd:cK.defers=act.defers):eU E W act E' W' cK:=⟨hv,(fun D h=> .inl (hd▸h)),by rw[hd]⟩
theorem eU.refl(E:Env)(W:World)(act:Act):eU E W act E W act:= .of (bE.refl E W) rfl
theorem eU.trans{E E' wW:Env}{W W' G1:World}{act cK WU:Act}(h:eU E W act E' W' cK)(k:eU E' W' cK wW G1 WU):eU E W act wW G1 WU:=
 ⟨h.nP.trans k.nP,fun D hD=>by
   rcases k.new D hD with h1|h1
   ·exact h.new D h1
   ·exact .inr (tA h.nP.size h1),k.vY.trans h.vY⟩
theorem Act.put_defers(a:Act)(dst:Option Tmp)(v:Value):(a.put dst v).defers=a.defers:=by unfold Act.put;grind
structure Rel(E:Env)(W:World)(σ:AS)(act:Act):Prop where
 defers:Marks E W act.defers
 size:act.tmps.size=σ.nt
 env:∀t c a,lk σ.env t=some (c,a)->∃v,act.tmps[t]? =some v/\(c=true->RV E W a v)/\(c=false->v=undef)
 heap:RH E W σ.H
theorem Rel.get{E:Env}{W:World}{σ:AS}{act:Act}(h:Rel E W σ act){c:Bool}(hc:c=true){x:Operand}{a:AV}(hx:σ.get c x=some a):RV E W a (act.eval x):=by
 subst hc;cases x with
 |tmp t=>
  simp only[AS.get]at hx;split at hx
  ·rename_i c' a' qJ
   split at hx
   ·rename_i him
    injection hx with hx
    subst hx;obtain⟨v,h1,h2⟩:=h.env t c' a' qJ;simp_all [Act.eval,yA]
   ·cases hx
  ·cases hx
 |const v=>exact RV.zF hx
 |global g=>injection hx with hx;subst hx;exact .c _ rfl
 |func f=>injection hx with hx;subst hx;exact .fn _ [] [] #[] #[] rfl rfl (fun i x v h=>by simp at h) (fun i x v h=>by simp at h)
def fS(n:Nat)(o:Oper):Bool:=
 match o.dst with
 |none=>true
 |some d=>d<n
theorem Rel.put{E:Env}{W:World}{σ:AS}{act:Act}(h:Rel E W σ act){dst:Option Tmp}(hd:match dst with|none=>True|some d=>d<σ.nt){c:Bool}{a:AV}{v:Value}(r:c=true->RV E W a v)(r0:c=false->v=undef):Rel E W (σ.put dst c a) (act.put dst v):=by
 cases dst with
 |none=>exact h
 |some d=>
  refine⟨by simpa[Act.put]using h.defers,by simp[Act.put,AS.put,h.size],fun t c' b hb=> ?_,h.heap⟩
  simp only[AS.put,lk]at hb;split at hb
  ·rename_i ht
   subst ht;simp only[bM,cQ]at hb;obtain⟨rfl,rfl⟩:=hb;refine⟨v,?_,r,r0⟩;simp only at hd;simp[Act.put,h.size,hd]
  ·rename_i ht
   obtain⟨u,h1,h2⟩:=h.env t c' b hb;simp_all [Act.put,wD]
theorem Rel.mono{E E':Env}{W W':World}{σ:AS}{act:Act}(h:Rel E W σ act)(hv:bE E W E' W'){H':Heap}(hH:RH E' W' H'):Rel E' W' {σ with H:=H'} act:=
 ⟨h.defers.mono hv,h.size,fun t c a ha=>let ⟨v,h1,h2⟩:=h.env t c a ha;⟨v,h1,fun hc=>(h2.1 hc).mono hv,h2.2⟩,hH⟩
def Split(b:Bool)(X Y:Prop):Prop:=(b=true->X)/\(b=false->Y)
def WV(b want:Bool):Bool:=
 match want with
 |true=>b
 |false=> !b
def nA(ops:List Oper)(j:Nat)(env:List (Nat×Bool×AV)):Option (Bool×AV):=
 match ops[j]? with
 |some o=>match o.dst with
  |some t=>lk env t
  |none=>none
 |none=>none
def parts:Op->Bool
 | .indexAddr _ _ (.tmp _)=>true
 | .index _ _ (.tmp _)=>true
 | .slice .. =>true
 |_=>false
universe u v
structure Tag{α:Sort u}(a:α):Type where
def hold{α:Sort u}(a:α)(_:Tag a):α:=a
def nB{α:Type}(x:Option α)(K:α->Prop):Prop:=
 match x with
 |some a=>K a
 |none=>False
def xA{α:Type}(x:Option α)(K:α->Prop)(F:Prop):Prop:=
 match x with
 |some a=>K a
 |none=>F
theorem uU{α:Type}{a:α}{K:α->Prop}:nB (some a) K=K a:=rfl
theorem EF{α:Type}{x:Option α}{K:α->Prop}(h:nB x K):∃a,x=some a/\K a:=by
 cases x with
 |none=>exact h.elim
 |some a=>exact⟨a,rfl,h⟩
def jL:Option AV->Option Bool
 |some (.c (.bool b))=>some b
 |_=>none
theorem zL{x:Option AV}{b:Bool}(h:jL x=some b):x=some (.c (.bool b)):=by
 unfold jL at h
 grind
def fN:Option AV->Option (List AV)->Option (FuncId×List AV)
 |some (.fn (.func n) first cap),some as=>some (n,first++as++cap)
 |_,_=>none
theorem yC{x:Option AV}{y:Option (List AV)}{n:FuncId}{args:List AV}(h:fN x y=some (n,args)):∃first cap as,x=some (.fn (.func n) first cap)/\y=some as/\args=first++as++cap:=by
 unfold fN at h
 grind
def yD:Option Bool->Option Bool->Option (Bool×Bool)
 |some p,some q=>some (p,q)
 |_,_=>none
theorem Ff{x y:Option Bool}{p q:Bool}(h:yD x y=some (p,q)):x=some p/\y=some q:=by
 unfold yD at h
 grind
def JH:Option jI->Option AV
 |some (a,[],_)=>some a
 |_=>none
theorem bl6{x:Option jI}{a:AV}(h:JH x=some a):∃rd,x=some (a,[],rd):=by
 unfold JH at h
 grind
def nQ(x:Option (Bool×AV))(want:Bool):Option Bool:=
 match x with
 |some (c,.c (.bool b))=>some (c&&WV b want)
 |_=>none
theorem Uy{x:Option (Bool×AV)}{want c0:Bool}(h:nQ x want=some c0):∃c b,x=some (c,.c (.bool b))/\c0=(c&&WV b want):=by
 unfold nQ at h
 grind
def AW(P:Program)(c:Code)(σ:AS)(Q:Exit->AS->Prop):Prop:=
 ∀(ro:Option Nat) (E:Env) (W:World) (act:Act),MU ro W->Rel E W σ act->c.wpIn (l7 ro) 3 P (fun e cK W'=>∃E' aN,eU E W act E' W' cK/\Rel E' W' aN cK/\aN.nt=σ.nt/\Q e aN) act W
def iU(H:Heap)(id:Nat)(b:Option aI):Heap:=⟨H.next,aY H.get [(id,b)]⟩
def CJ:List Tmp->List AV->List (Nat×Bool×AV)->List (Nat×Bool×AV)
 |p::ps,a::as,env=>CJ ps as ((p,true,a)::env)
 |_,_,env=>env
def EG(id:Nat)(env:List (Nat×Bool×AV))(nt:Nat)(ps:List Tmp)(A B:Code)(K:Bool->Heap->Prop):Exit->AS->Prop
 | .normal,σ=>∃env nt ps A B,σ.H.get id=some (.cJ env nt ps A B .busy none)/\K true (iU σ.H id (some (.cJ env nt ps A B .ready none)))
 | .ret,σ=>∃env nt ps A B,σ.H.get id=some (.cJ env nt ps A B .busy none)/\K false (iU σ.H id (some (.cJ env nt ps A B .done (some .ret))))
 | .exit i,σ=>∃env nt ps A B,σ.H.get id=some (.cJ env nt ps A B .busy none)/\K false (iU σ.H id (some (.cJ env nt ps A B .done (some (.exit i)))))
 |_,_=>False
def JI(P:Program)(id:Nat)(env:List (Nat×Bool×AV))(nt:Nat)(ps:List Tmp)(A B:Code)(K:Bool->Heap->Prop):Exit->AS->Prop
 | .normal,σ=>∃env nt ps A' B',σ.H.get id=some (.cJ env nt ps A' B' .ready none)/\AW P B ⟨σ.env,iU σ.H id (some (.cJ env nt ps A' B' .busy none)),σ.nt⟩ (hold (EG id env nt ps A' B' K) ⟨⟩)
 |_,_=>False
def Uz(P:Program)(σ:AS)(f:Option AV)(as:Option (List AV))(K:Bool->Heap->Prop):Prop:=
 ∃(id:Nat) (args:List AV) (env:List (Nat×Bool×AV)) (nt:Nat) (ps:List Tmp) (A B:Code),f=some (.jT id)/\as=some args/\σ.H.get id=some (.cJ env nt ps A B .ready none)/\args.length=ps.length/\ps.all (fun p=>decide (p<nt))=true/\
  AW P A ⟨CJ ps args env,σ.H,nt⟩ (hold (JI P id env nt ps A B K) ⟨⟩)
def Va(H:Heap)(x:Option AV)(K:AV->Heap->Prop):Prop:=
 ∃(id m n:Nat) (seen:List Nat) (es:List (Value×AV)),x=some (.ptr id 0 0)/\H.get id=some (.iter m n seen)/\H.get m=some (.map es)/\es.length=n/\(∀p∈es,RL p.1=true)/\
  ((∀i,i<n->i∈seen)->K (.aK [.c (.bool false)]) H)/\
  ∀i k a,i<n->i∉seen->es[i]? =some (k,a)->K (.aK [.c (.bool true),RK k,a]) (iU H id (some (.iter m n (seen++[i]))))
section
variable (P : Program)
def p5(o:Oper)(σ:AS)(K:AS->Prop):Prop:=
 match o.op with
 | .call ⟨.value f,as,_⟩=>nB (fN (σ.get true f) (dN (σ.get true) as.toList)) (hold (fun p=>fW P p.1 p.2 σ.H (hold (fun r H'=>K (({σ with H:=H'}:AS).put o.dst true r)) ⟨⟩)) ⟨⟩)\/
     Uz P σ (σ.get true f) (dN (σ.get true) as.toList) (hold (fun b H'=>K (({σ with H:=H'}:AS).put o.dst true (.c (.bool b)))) ⟨⟩)
 | .pick b x y=>nB (jL (σ.get true b)) (hold (fun b=>xA (yD (jL (σ.get b x)) (jL (σ.get (!b) y))) (hold (fun pq=>K (σ.put o.dst true (.c (.bool (cond b pq.1 pq.2))))) ⟨⟩)
     (hold (Split b (hold (nB (σ.get true x) (hold (fun a=>K (σ.put o.dst true a)) ⟨⟩)) ⟨⟩) (hold (nB (σ.get true y) (hold (fun a=>K (σ.put o.dst true a)) ⟨⟩)) ⟨⟩)) ⟨⟩)) ⟨⟩)
 | .next x false=>Va σ.H (σ.get true x) (hold (fun r H'=>K (({σ with H:=H'}:AS).put o.dst true r)) ⟨⟩)
 |_=>nB (res P (σ.get true) σ.H.get σ.H.next o) (hold (fun r=>K (({σ with H:=σ.H.app r.2.1}:AS).put o.dst true r.1)) ⟨⟩)
def bl7(c:Bool)(n:FuncId)(args:List AV)(K:AV->Prop):Prop:=∃r,(c=true->(∀a∈args,bF a)/\eA P n args (·=r))/\K r
def MV(o:Oper)(σ:AS)(c:Bool)(K:AS->Prop):Prop:=
 match o.op with
 | .call ⟨.value f,as,_⟩=>xA (fN (σ.get c f) (dN (σ.get c) as.toList)) (hold (fun p=>bl7 P c p.1 p.2 (hold (fun r=>K (σ.put o.dst c r)) ⟨⟩)) ⟨⟩) (hold (Split c (hold (p5 P o σ K) ⟨⟩) (hold (K (σ.put o.dst true (.c undef))) ⟨⟩)) ⟨⟩)
 | .pick b x y=>xA (jL (σ.get c b)) (hold (fun b=>xA (yD (jL (σ.get (c&&b) x)) (jL (σ.get (c&& !b) y))) (hold (fun pq=>K (σ.put o.dst c (.c (.bool (cond b pq.1 pq.2))))) ⟨⟩)
     (hold (Split c (hold (p5 P o σ K) ⟨⟩) (hold (K (σ.put o.dst true (.c undef))) ⟨⟩)) ⟨⟩)) ⟨⟩) (hold (Split c (hold (p5 P o σ K) ⟨⟩) (hold (K (σ.put o.dst true (.c undef))) ⟨⟩)) ⟨⟩)
 |_=>xA (if parts o.op=true then none else JH (res P (σ.get c) σ.H.get σ.H.next o)) (hold (fun a=>K (σ.put o.dst c a)) ⟨⟩) (hold (Split c (hold (p5 P o σ K) ⟨⟩) (hold (K (σ.put o.dst true (.c undef))) ⟨⟩)) ⟨⟩)
def Vb(o:Oper)(σ:AS)(c:Bool)(K:AS->Prop):Prop:=((c=false/\K (σ.put o.dst false (.c (.bool false))))\/(c=true/\p5 P o σ K))\/MV P o σ c K
def Fg(o:Oper)(σ:AS)(c:Bool)(K:AS->Prop):Prop:=
 match c with
 |true=>p5 P o σ K
 |false=>K (σ.put o.dst true (.c undef))
def nC(ic:Bool)(ops:Array Oper)(o:Oper)(σ:AS)(K:AS->Prop):Prop:=
 match o.guard with
 |none=>p5 P o σ K
 |some (j,want)=>nB (nQ (nA ops.toList j σ.env) want) (hold (fun c=>match ic with
  |true=>Vb P o σ c K
  |false=>Fg P o σ c K) ⟨⟩)
def b8(ic:Bool)(ops:Array Oper):List Oper->AS->(AS->Prop)->Prop
 |[],σ,K=>K σ
 |o::r,σ,K=>nC P ic ops o σ (hold (fun aN=>b8 ic ops r aN K) ⟨⟩)
end
theorem yE{P:Program}{n:FuncId}(h:sB P n=true)(args:Array Value)(w:World):(callFunc n args).run P w= .ok (.enter n args) w:=by
 unfold sB at h;split at h
 ·rename_i fn hf
  simp only[jF,Bool.not_eq_true']at h;unfold callFunc;rw[Sem.run_bind,run_program];simp only[Result.andThen_ok,hf,h.1,h.2,qZ,if_false,Sem.run_pure]
 ·cases h
theorem RC.unused{E:Env}{W:World}{G:Nat->Option aI}(hG:RC E W G){aF:Nat}(hn:¬E.U aF):G aF=none:=by
 cases h:G aF with
 |none=>rfl
 |some b=>exact absurd (hG.ok aF b h).1 hn
theorem AS.rK(σ:AS)(dst:Option Tmp)(c:Bool)(a:AV):(σ.put dst c a).nt=σ.nt:=by unfold AS.put;grind
theorem nR{n:Nat}{o:Oper}(hd:fS n o=true):match o.dst with|none=>True|some d=>d<n:=by
 grind [fS]
theorem Vc{P:Program}{g:Operand->Option AV}{G:Nat->Option aI}{aF:Nat}{o:Oper}{x:jI}(h:res P g G aF o=some x):∀c,o.op≠ .defer c:=fun c hc=>by
 grind [res]
theorem Vd{P:Program}{g:Operand->Option AV}{G:Nat->Option aI}{aF:Nat}{o:Oper}{x:Operand}{s:Bool}(h:o.op= .next x s):res P g G aF o=none:=by
 grind [res]
theorem Ve{P:Program}{o:Oper}{σ:AS}{c:Bool}(hc:c=true){a:AV}{wr:List (Nat×Option aI)}{rd:List Nat}(kQ:res P (σ.get c) σ.H.get σ.H.next o=some (a,wr,rd))(hd:fS σ.nt o=true){E:Env}{W:World}{act:Act}(hr:Rel E W σ act)
  {next:Act->World->Prop} {Q:Exit->Act->World->Prop} {ro:Option Nat} (hn:∀E' W' v,bE E W E' W'->Rel E' W' (({σ with H:=σ.H.app wr}:AS).put o.dst c a) (act.put o.dst v)->next (act.put o.dst v) W'):o.wpIn (l7 ro) 3 P act W next Q:=by
 have eC:=Uv kQ;have nU:¬E.U σ.H.next:=fun hU=>KK _ (hr.heap.next _ hU)
 obtain⟨W',v,E',eQ,hv,hG,iP,hU⟩:=eC E W act.eval hr.heap.core nU (fun x b hb=>hr.get hc hb)
 have kI:RH E' W' (σ.H.app wr):=⟨fun id aC=>by
  by_cases hw:wr=[]
  ·subst hw
   rcases hU id aC with h1|⟨h1,h2⟩
   ·simpa[Heap.app]using hr.heap.next id h1
   ·simp only[aY]at h2
    rw[hr.heap.core.unused nU]at h2;cases h2
  ·have:wr.isEmpty=false:=by simpa using hw
   simp only[Heap.app,this];rcases hU id aC with h1|⟨h1,_⟩
   ·have:=hr.heap.next id h1;grind
   grind,hG⟩
 have bL:=(hr.mono hv kI).put (dst:=o.dst) (nR hd) (c:=c) (fun _=>iP) (fun h=>by grind)
 have RQ:=hn E' W' v hv bL;refine⟨fun _ _=>trivial,?_⟩
 rw[Oper.semAt_eq _ _ _ (Vc kQ)];rcases eQ with h1|⟨h1,h2⟩
 ·rw[h1];exact RQ
 ·rw[h1];subst h2;exact RQ
theorem Vf{P:Program}{o:Oper}{σ:AS}{c:Bool}(hc:c=true){f:Operand}{as:Array Operand}{ts:Array TypeId}(aS:o.op= .call ⟨.value f,as,ts⟩){n:FuncId}{first cap mC:List AV}(hf:σ.get c f=some (.fn (.func n) first cap))
  (has:dN (σ.get c) as.toList=some mC) {Q0:AV->Heap->Prop} (gZ:fW P n (first++mC++cap) σ.H Q0) (hd:fS σ.nt o=true) {E:Env} {W:World} {act:Act} (hr:Rel E W σ act) {next:Act->World->Prop} {Q:Exit->Act->World->Prop} {ro:Option Nat}
  (hn:∀E' W' v r H',bE E W E' W'->Q0 r H'->Rel E' W' (({σ with H:=H'}:AS).put o.dst c r) (act.put o.dst v)->next (act.put o.dst v) W'):o.wpIn (l7 ro) 3 P act W next Q:=by
 obtain⟨MW,WW⟩:=gZ;have h1:=hr.get hc hf;have h2:=uT (E:=E) (W:=W) (ρ:=act.eval) (fun x b hb=>hr.get hc hb) _ _ has
 generalize nD:act.eval f=fv at h1;cases h1 with
 |fn _ _ _ vf vc hl dG h3 h4=>
 have lE:bP E W (first++mC++cap) (vf.toList++as.toList.map act.eval++vc.toList):=by
  refine(bP.append ?_ h2).append ?_
  ·exact⟨oM,fun i x v hx hv=>h3 i x v hx (by grind)⟩
  ·exact⟨oM,fun i x v hx hv=>h4 i x v hx (by grind)⟩
 have fV:=WW E W _ hr.heap lE
 have eQ:(execOp act.eval o).run P W= .ok (.enter n (vf.toList++as.toList.map act.eval++vc.toList).toArray) W:=by
  simp only[execOp,aS,resolve,nD,Deferred.ofValue,Sem.run_bind,Sem.run_pure,Result.andThen_ok,invoke];rw[yE MW];congr 2;apply zT;simp
 refine⟨fun _ _=>trivial,?_⟩
 rw[Oper.semAt_eq _ _ _ (fun c h=>by grind),eQ]
 refine⟨yB,zK (fV.mono fun e W' ⟨v,he,E',r,H',hv,hH,iP,hq⟩=> ?_)⟩
 subst he;exact hn E' W' v r H' hv hq ((hr.mono hv hH).put (dst:=o.dst) (nR hd) (c:=c) (fun _=>iP) (fun h=>by grind))
theorem RS{P:Program}{o:Oper}{σ:AS}{c:Bool}(hc:c=true){x0 x y:Operand}(aS:o.op= .pick x0 x y){b:Bool}(hb:σ.get c x0=some (.c (.bool b))){a:AV}(hx:b=true->∃c',c'=true/\σ.get c' x=some a)(hy:b=false->∃c',c'=true/\σ.get c' y=some a)
  (hd:fS σ.nt o=true) {E:Env} {W:World} {act:Act} (hr:Rel E W σ act) {next:Act->World->Prop} {Q:Exit->Act->World->Prop} {ro:Option Nat} (hn:∀v,Rel E W (σ.put o.dst c a) (act.put o.dst v)->next (act.put o.dst v) W):o.wpIn (l7 ro) 3 P act W next Q:=by
 have h1:=hr.get hc hb;generalize hv:act.eval x0=vb at h1;cases h1;refine⟨fun _ _=>trivial,?_⟩
 rw[Oper.semAt_eq _ _ _ (fun c h=>by grind)]
 cases b
 ·obtain⟨c',h2,h3⟩:=hy rfl
  have eQ:(execOp act.eval o).run P W= .ok (.value (act.eval y)) W:=by simp[execOp,aS,hv,asBool]
  rw[eQ];exact hn _ (hr.put (nR hd) (fun _=>hr.get h2 h3) (fun h=>by grind))
 ·obtain⟨c',h2,h3⟩:=hx rfl
  have eQ:(execOp act.eval o).run P W= .ok (.value (act.eval x)) W:=by simp[execOp,aS,hv,asBool]
  rw[eQ];exact hn _ (hr.put (nR hd) (fun _=>hr.get h2 h3) (fun h=>by grind))
theorem Vg:∀(ps:List Tmp) (as:List AV) (env:List (Nat×Bool×AV)) {E:Env} {W:World} (vs:List Value) (tmps:Array Value),bP E W as vs->as.length=ps.length->ps.all (fun p=>decide (p<tmps.size))=true->
  (∀t c a,lk env t=some (c,a)->∃v,tmps[t]? =some v/\(c=true->RV E W a v)/\(c=false->v=undef))->
  ((ps.zip vs).foldl (fun t (p:Tmp×Value)=>t.setIfInBounds p.1 p.2) tmps).size=tmps.size/\
  ∀t c a,lk (CJ ps as env) t=some (c,a)->∃v,((ps.zip vs).foldl (fun t (p:Tmp×Value)=>t.setIfInBounds p.1 p.2) tmps)[t]? =some v/\(c=true->RV E W a v)/\(c=false->v=undef)
 |[],[],env,E,W,vs,tmps,_,_,_,h=>by
  simp only[List.zip_nil_left,Ie];exact⟨trivial,h⟩
 |[],_::_,_,_,_,_,_,_,hl,_,_=>by simp at hl
 |_::_,[],_,_,_,_,_,_,hl,_,_=>by simp at hl
 |p::ps,a::as,env,E,W,[],tmps,hr,_,_,h=>by have:=hr.1;grind
 |p::ps,a::as,env,E,W,v::vs,tmps,hr,hl,hp,h=>by
  simp only[KI,jF,decide_eq_true_eq]at hp;have AM:=hr.2 0 a v rfl rfl;have VF:bP E W as vs:=⟨by have:=hr.1;grind,fun i x u hx hu=>hr.2 (i+1) x u (by grind) (by grind)⟩
  have hs:(tmps.setIfInBounds p v).size=tmps.size:=by simp
  have ih:=Vg ps as ((p,true,a)::env) vs (tmps.setIfInBounds p v) VF (by grind) (by grind) (fun t c b hb=>by
   simp only[lk]at hb
   grind)
  grind [List.zip_cons_cons,CJ]
theorem WX{E:Env}{W:World}{H:Heap}(hH:RH E W H){id:Nat}{env:List (Nat×Bool×AV)}{nt:Nat}{ps:List Tmp}{A B:Code}{st:LoopState}{pe:Option Code}(hg:H.get id=some (.cJ env nt ps A B st pe)):
  ∃r:Loop,W.heap[E.ι id]? =some (.loop r)/\r.state=st/\r.pending=pe/\r.params=ps.toArray/\r.assign=A/\r.body=B/\r.tmps.size=nt/\(∀t c a,lk env t=some (c,a)->∃v,r.tmps[t]? =some v/\(c=true->RV E W a v)/\(c=false->v=undef))/\
   ∀MX MY,bE E W E (W.putObj (E.ι id) (.loop {r with state:=MX,pending:=MY}))/\RH E (W.putObj (E.ι id) (.loop {r with state:=MX,pending:=MY})) (iU H id (some (.cJ env nt ps A B MX MY))):=by
 obtain⟨hU,⟨fn,tmps,D,h1,h2,h3⟩,hL,dM⟩:=hH.core.ok id _ hg;have bG:=hH.core.eJ id hU;refine⟨_,h1,rfl,rfl,rfl,rfl,rfl,h2,h3,fun MX MY=> ?_⟩
 obtain⟨o,ho⟩:∃o:Obj,o= .loop {({state:=st,pending:=pe,fn,tmps,params:=ps.toArray,assign:=A,body:=B,defers:=D}:Loop)with state:=MX,pending:=MY}:=⟨_,rfl⟩
 rw[<-ho];have M9:∀b,b≠E.ι id->(W.putObj (E.ι id) o).heap[b]? =W.heap[b]? :=fun b hb=>World.putObj_heap_other hb
 have qC:(W.putObj (E.ι id) o).heap[E.ι id]? =some o:=World.putObj_heap_same bG
 have hv:bE E W E (W.putObj (E.ι id) o):=by
  refine⟨rfl,rfl,rfl,by simp,fun _ h=>h,fun _ _=>⟨rfl,rfl⟩,fun _=>cA _,fun b k hk=> ?_,fun b _ hf=>M9 b fun e=>hf id hU e.symm,fun b cur e f hc=> ?_,fun _ _ _=>rfl,fun id h h'=>absurd h' h,fun b r hr=> ?_⟩
  ·grind [World.cell?]
  ·grind
  ·grind
 refine⟨hv,hH.next,fun b hb=>hH.core.lim b (by simp_all),fun aL h=>by simpa using hH.core.eJ aL h,fun aL b' cE=> ?_⟩
 simp only[iU,aY]at cE
 have hG:∀eP eY,eP≠id->aY H.get [(id,some (.cJ env nt ps A B MX MY))] eP=some eY->H.get eP=some eY:=fun eP eY aT h=>by
  simp_all [aY]
 by_cases aC:aL=id
 ·subst aC
  rw[if_pos rfl]at cE;injection cE with cE
  subst cE;refine⟨hU,⟨fn,tmps,D,by grind,h2,fun t c a ha=> ?_⟩,hL,fun eP eY aT sC=>dM eP eY aT (hG eP eY aT sC)⟩
  obtain⟨v,h4,h5,h6⟩:=h3 t c a ha;exact⟨v,h4,fun hc=>(h5 hc).mono hv,h6⟩
 ·rw[if_neg aC]at cE
  obtain⟨vZ,G7⟩:=hH.core.ok aL b' cE;refine⟨vZ,G7.mono hv vZ (M9 _ (dM aL b' aC cE)) rfl fun eP eY aT sC heq=> ?_⟩
  by_cases h2:eP=id
  ·grind
  ·exact⟨eY,hG eP eY h2 sC,heq,rfl,fun h=>h⟩
theorem iter_set{E:Env}{W w1:World}{H:Heap}(hw:w1=W\/w1=W.drew)(hH:RH E W H){id m n:Nat}{seen:List Nat}(hg:H.get id=some (.iter m n seen))(i:Nat):
  bE E W E {w1 with heap:=w1.heap.setIfInBounds (E.ι id) (.mapIter (some (E.ι m)) n (seen++[i]).toArray n)}/\RH E {w1 with heap:=w1.heap.setIfInBounds (E.ι id) (.mapIter (some (E.ι m)) n (seen++[i]).toArray n)} (iU H id (some (.iter m n (seen++[i])))):=by
 obtain⟨hU,⟨h1,h2⟩,hL,dM⟩:=hH.core.ok id _ hg;have bG:=hH.core.eJ id hU;have Vh:w1.heap=W.heap:=by rcases hw with rfl|rfl<;>rfl
 obtain⟨o,ho⟩:∃o:Obj,o= .mapIter (some (E.ι m)) n (seen++[i]).toArray n:=⟨_,rfl⟩;rw[<-ho];have M9:∀b,b≠E.ι id->(w1.heap.setIfInBounds (E.ι id) o)[b]? =W.heap[b]? :=fun b hb=>by grind
 have qC:(w1.heap.setIfInBounds (E.ι id) o)[E.ι id]? =some o:=by rw[Vh];simp[bG]
 have hv:bE E W E {w1 with heap:=w1.heap.setIfInBounds (E.ι id) o}:=by
  refine⟨by rcases hw with rfl|rfl<;>rfl,by rcases hw with rfl|rfl<;>rfl,by rcases hw with rfl|rfl<;>rfl,by grind,fun _ h=>h,fun _ _=>⟨rfl,rfl⟩,fun _=>cA _,fun b k hk=> ?_,fun b _ hf=>M9 b fun e=>hf id hU e.symm,fun b cur e f hc=> ?_,fun _ _ _=>rfl,fun aL h h'=>absurd h' h,fun b r hr=> ?_⟩
  ·grind [World.cell?]
  ·grind
  ·grind
 refine⟨hv,hH.next,fun b hb=>hH.core.lim b (by grind),fun aL h=>by simpa[Vh]using hH.core.eJ aL h,fun aL b' cE=> ?_⟩
 simp only[iU,aY]at cE
 have hG:∀eP eY,eP≠id->aY H.get [(id,some (.iter m n (seen++[i])))] eP=some eY->H.get eP=some eY:=fun eP eY aT h=>by
  simp_all [aY]
 by_cases aC:aL=id
 ·subst aC
  rw[if_pos rfl]at cE;injection cE with cE
  subst cE;exact⟨hU,⟨qC.trans (congrArg some ho),h2⟩,hL,fun eP eY aT sC=>dM eP eY aT (hG eP eY aT sC)⟩
 ·rw[if_neg aC]at cE
  obtain⟨vZ,G7⟩:=hH.core.ok aL b' cE;refine⟨vZ,G7.mono hv vZ (by grind) rfl fun eP eY aT sC heq=> ?_⟩
  by_cases h2:eP=id
  ·grind
  ·exact⟨eY,hG eP eY h2 sC,heq,rfl,fun h=>h⟩
theorem bl8{P:Program}{o:Oper}{σ:AS}{x0:Operand}{K:AV->Heap->Prop}(aS:o.op= .next x0 false)(h:Va σ.H (σ.get true x0) K)(hd:fS σ.nt o=true){E:Env}{W:World}{act:Act}(hr:Rel E W σ act){next:Act->World->Prop}{Q:Exit->Act->World->Prop}{ro:Option Nat}
  (hn:∀E' W' v r H',bE E W E' W'->K r H'->Rel E' W' (({σ with H:=H'}:AS).put o.dst true r) (act.put o.dst v)->next (act.put o.dst v) W'):o.wpIn (l7 ro) 3 P act W next Q:=by
 obtain⟨id,m,n,seen,es,hx,hg,hm,hlen,bl9,h0,h1⟩:=h;have gX:=hr.get rfl hx;generalize hv:act.eval x0=vb at gX;cases gX;rename_i hU0;obtain⟨hU,⟨q1,q2⟩,hL,dM⟩:=hr.heap.core.ok id _ hg;obtain⟨_,⟨ms,clock,p1,p2,p3,p4⟩,_,_⟩:=hr.heap.core.ok m _ hm;refine⟨fun _ _=>trivial,?_⟩
 rw[Oper.semAt_eq _ _ _ (fun c h=>by grind)]
 rcases run_next_any (P:=P) (ty:=o.type) q1 p1 p2 oM with⟨g1,g2⟩|⟨i,e,g1,g2,g3,w1,g4,g5⟩
 ·have eQ:(execOp act.eval o).run P W= .ok (.value (.tuple #[.bool false])) W:=by
   simp only[execOp,aS,hv,zR,KJ];rw[Sem.run_bind,g2];rfl
  rw[eQ];refine hn E W _ _ σ.H (bE.refl E W) (h0 g1) (hr.put (nR hd) (fun _=> ?_) (fun h=>by cases h))
  exact .aK _ _ rfl fun j y v hy hv=>by
   rcases j with _|j
   ·simp at hy hv;subst hy;subst hv;exact .c _ rfl
   grind
 ·have eQ:(execOp act.eval o).run P W= .ok (.value (.tuple #[.bool true,e.key,e.val])) {w1 with heap:=w1.heap.setIfInBounds (E.ι id) (.mapIter (some (E.ι m)) n (seen++[i]).toArray n)}:=by
   simp only[execOp,aS,hv,zR,KJ];rw[Sem.run_bind,g5];rfl
  rw[eQ];obtain⟨oD,fI⟩:=iter_set g4 hr.heap hg i;have MC:i<es.length:=by rw[hlen];exact g1
  have CI:es[i]? =some (es[i].1,es[i].2):=by rw[gY MC]
  obtain⟨e',mJ,oZ,uQ⟩:=p4 i _ _ CI;rw[g3]at mJ;injection mJ with mJ
  subst mJ;refine hn E _ _ _ _ oD (h1 i _ _ g1 g2 CI) ((hr.mono oD fI).put (nR hd) (fun _=> ?_) (fun h=>by cases h))
  obtain⟨d,yW⟩:=Uq (bl9 _ (EN MC))
  exact .aK _ _ rfl fun j y v hy hv=>by
   rcases j with _|_|_|j
   ·simp at hy hv;subst hy;subst hv;exact .c _ rfl
   ·grind [Uj]
   ·simp at hy hv;subst hy;subst hv;exact uQ.mono oD
   grind
theorem Vi{ro:Option Nat}{n m:Nat}{P:Program}{c:Code}{Q:Exit->Act->World->Prop}{a:Act}{w:World}(h:c.wpIn (l7 ro) n P Q a w):c.wpIn (l7 ro) m P Q a w:=
 fun b k cs h1 h2 _=>h b k cs h1 h2 (fun d hd=>by cases hd)
theorem bm0{P:Program}{o:Oper}{σ:AS}{K:AS->Prop}{f:Operand}{as:Array Operand}{ts:Array TypeId}(aS:o.op= .call ⟨.value f,as,ts⟩)(h:Uz P σ (σ.get true f) (dN (σ.get true) as.toList) (fun b H'=>K (({σ with H:=H'}:AS).put o.dst true (.c (.bool b)))))
  (hd:fS σ.nt o=true) {E:Env} {W:World} {act:Act} (hr:Rel E W σ act) {next:Act->World->Prop} {Q:Exit->Act->World->Prop} {ro:Option Nat}
  (hn:∀E' W' aN cK,eU E W act E' W' cK->Rel E' W' aN cK->aN.nt=σ.nt->K aN->next cK W'):o.wpIn (l7 ro) 3 P act W next Q:=by
 obtain⟨id,args,env,nt,ps,A,B,hf,has,hg,hl,pW,hA⟩:=h;have h1:=hr.get rfl hf;have h2:=uT (E:=E) (W:=W) (ρ:=act.eval) (fun x b hb=>hr.get rfl hb) _ _ has
 generalize nD:act.eval f=fv at h1;cases h1 with
 |jT _ hU=>
 obtain⟨rc,hb,iR,Vj,Vk,bm1,AI,dO,Fh,pS⟩:=WX hr.heap hg;have bm2:=run_yield (P:=P) (args:=as.map act.eval) hb (by rw[Vk];have:=h2.1;grind)
 have eQ:(execOp act.eval o).run P W= .ok (.round (E.ι id) rc.fn ((rc.params.zip (as.map act.eval)).foldl (fun tmps (t,a)=>tmps.setIfInBounds t a) rc.tmps) rc.assign rc.body) W:=by
  simp only[execOp,aS,resolve,nD,Deferred.ofValue,Sem.run_bind,Sem.run_pure,Result.andThen_ok,invoke];simpa using bm2
 refine⟨fun _ _=>trivial,?_⟩
 rw[Oper.semAt_eq _ _ _ (fun c h=>by grind),eQ]
 refine⟨yB,roundIn_of_wpIn (F:=l7 ro) trivial ?_⟩;have RG:=Vg ps args env (as.toList.map act.eval) rc.tmps h2 hl (by grind) Fh
 have htm:(rc.params.zip (as.map act.eval)).foldl (fun tmps (t,a)=>tmps.setIfInBounds t a) rc.tmps=(ps.zip (as.toList.map act.eval)).foldl (fun t (p:Tmp×Value)=>t.setIfInBounds p.1 p.2) rc.tmps:=by
  rw[Vk,<-Array.foldl_toList];simp
 rw[htm,bm1,AI];generalize (ps.zip (as.toList.map act.eval)).foldl (fun t (p:Tmp×Value)=>t.setIfInBounds p.1 p.2) rc.tmps=tm at RG
 have bL:Rel E W ⟨CJ ps args env,σ.H,nt⟩ {tmps:=tm,defers:=[]}:=⟨Marks.nil E W,by grind,RG.2,hr.heap⟩
 have dP:∀{W':World} {r:Loop},W'.heap[E.ι id]? =some (.loop r)->MU (some (E.ι id)) W':=fun hb l hl=>by grind
 refine Vi (wpIn_mono (hA (some (E.ι id)) E W _ (dP hb) bL) fun e a1 W1 ⟨E1,Fi,oD,wR,cb4,DH⟩=> ?_)
 simp only[hold]at DH;cases e with
 |normal=>
  obtain⟨bm4,nt1,ps1,A1,B1,Qq,hB⟩:=DH;have MZ:E1.ι id=E.ι id:=(oD.nP.jK id hU).1;obtain⟨RT,QC,bm7,bm8,cb5,cb6,cb7,cb8,cb9,bm9⟩:=WX wR.heap Qq;obtain⟨fI,mD⟩:=bm9 .busy none;rw[MZ]at QC fI mD;have bn0:=run_beginRound (P:=P) QC bm7;have heq:{RT with state:=LoopState.busy}={RT with state:=LoopState.busy,pending:=none}:=by rw[<-bm8]
  refine⟨_,bn0,?_⟩;rw[heq];have x8:E1.U id:=oD.nP.used id hU;have u5:(W1.putObj (E.ι id) (.loop {RT with state:=LoopState.busy,pending:=none})).heap[E.ι id]? =some (.loop {RT with state:=LoopState.busy,pending:=none}):=World.putObj_heap_same (k7.1 QC).1
  generalize W1.putObj (E.ι id) (.loop {RT with state:=LoopState.busy,pending:=none})=W2 at fI mD u5
  have N1:Rel E1 W2 ⟨Fi.env,iU Fi.H id (some (.cJ bm4 nt1 ps1 A1 B1 .busy none)),Fi.nt⟩ a1:=wR.mono fI mD;refine Vi (wpIn_mono (hB (some (E.ι id)) E1 W2 a1 (dP u5) N1) fun e3 a3 W3 ⟨E3,WY,CK,RU,Vl,JJ⟩=> ?_)
  have bn1:E3.ι id=E.ι id:=(CK.nP.jK id x8).1.trans MZ
  have fin:∀(env:List (Nat×Bool×AV)) (nt:Nat) (ps:List Tmp) (A B:Code) (jump:Option Code) (b:Bool),jump.isNone=b->WY.H.get id=some (.cJ env nt ps A B .busy none)->K (({σ with H:=iU WY.H id (some (.cJ env nt ps A B (if b then .ready else .done) jump))}:AS).put o.dst true (.c (.bool b)))->
    ∃v w',(Instr.endRound (E.ι id) jump).run P W3= .ok v w'/\next (act.put o.dst v) w':=fun env nt ps A B jump b hjb hg3 hK=>by
   obtain⟨rc3,V2,cc0,cc1,cc2,cc3,cc4,cc5,cc6,bn5⟩:=WX RU.heap hg3;obtain⟨Vm,N2⟩:=bn5 (if b then .ready else .done) jump
   rw[bn1]at V2 Vm N2;have tH:=run_endRound (P:=P) jump V2;rw[hjb]at tH;refine⟨_,_,tH,?_⟩;have RW:bE E W E3 (W3.putObj (E.ι id) (.loop {rc3 with state:=(if b then .ready else .done),pending:=jump})):=((oD.nP.trans fI).trans CK.nP).trans Vm
   exact hn E3 _ _ _ (eU.of RW (Act.put_defers _ _ _)) ((hr.mono RW N2).put (dst:=o.dst) (nR hd) (c:=true) (fun _=> .c _ rfl) (fun h=>by cases h)) (AS.rK _ _ _ _) hK
  simp only[hold]at JJ;cases e3 with
  |normal=>obtain⟨_,_,_,_,_,h1,h2⟩:=JJ;exact fin _ _ _ _ _ none true rfl h1 h2
  |ret=>obtain⟨_,_,_,_,_,h1,h2⟩:=JJ;exact fin _ _ _ _ _ (some .ret) false rfl h1 h2
  |exit i=>obtain⟨_,_,_,_,_,h1,h2⟩:=JJ;exact fin _ _ _ _ _ (some (.exit i)) false rfl h1 h2
  |goto l=>exact JJ.elim
  |panic ch=>exact JJ.elim
  |outgrown=>exact JJ.elim
 |_=>exact DH.elim
theorem WZ{P:Program}{o:Oper}{σ:AS}{K:AS->Prop}(h:p5 P o σ K)(hd:fS σ.nt o=true){E:Env}{W:World}{act:Act}(hr:Rel E W σ act){next:Act->World->Prop}{Q:Exit->Act->World->Prop}{ro:Option Nat}
  (hn:∀E' W' aN cK,eU E W act E' W' cK->Rel E' W' aN cK->aN.nt=σ.nt->K aN->next cK W'):o.wpIn (l7 ro) 3 P act W next Q:=by
 unfold p5 at h;simp only[hold]at h;split at h
 ·rename_i f as ts aS
  rcases h with h|h
  case inr=>exact bm0 aS h hd hr hn
  obtain⟨⟨n,args⟩,h1,h⟩:=EF h;obtain⟨first,cap,mC,hf,has,rfl⟩:=yC h1
  exact Vf rfl aS hf has h hd hr fun E' W' v r H' hv hq bL=>hn E' W' _ _ (eU.of hv (Act.put_defers _ _ _)) bL (AS.rK _ _ _ _) hq
 ·rename_i x0 x y aS
  obtain⟨b,hb,h⟩:=EF h;have hb:=zL hb;unfold xA at h;split at h
  ·rename_i pq w9
   obtain⟨p,q⟩:=pq;obtain⟨hp,hq⟩:=Ff w9;have hp:=zL hp;have hq:=zL hq;refine RS rfl aS hb (a:= .c (.bool (cond b p q))) (fun Fj=>⟨b,Fj,?_⟩) (fun Fk=>⟨!b,by simp[Fk],?_⟩) hd hr fun v bL=>hn E W _ _ (eU.of (bE.refl E W) (Act.put_defers _ _ _)) bL (AS.rK _ _ _ _) h
   ·grind
   grind
  ·obtain⟨h1,h2⟩:=h
   cases Vn:b
   ·obtain⟨a,ha,h3⟩:=EF (h2 Vn)
    exact RS rfl aS hb (a:=a) (fun h=>by grind) (fun _=>⟨true,rfl,ha⟩) hd hr fun v bL=>hn E W _ _ (eU.of (bE.refl E W) (Act.put_defers _ _ _)) bL (AS.rK _ _ _ _) h3
   ·obtain⟨a,ha,h3⟩:=EF (h1 Vn)
    exact RS rfl aS hb (a:=a) (fun _=>⟨true,rfl,ha⟩) (fun h=>by grind) hd hr fun v bL=>hn E W _ _ (eU.of (bE.refl E W) (Act.put_defers _ _ _)) bL (AS.rK _ _ _ _) h3
 ·grind [bl8,eU.of,Act.put_defers,AS.rK]
 ·obtain⟨⟨a,wr,rd⟩,kQ,h⟩:=EF h
  exact Ve rfl kQ hd hr fun E' W' v hv bL=>hn E' W' _ _ (eU.of hv (Act.put_defers _ _ _)) bL (AS.rK _ _ _ _) h
theorem bn6{P:Program}{o:Oper}{σ:AS}{c:Bool}{K:AS->Prop}(h:Fg P o σ c K)(hd:fS σ.nt o=true){E:Env}{W:World}{act:Act}(hr:Rel E W σ act){next:Act->World->Prop}{Q:Exit->Act->World->Prop}{ro:Option Nat}
  (hn:∀E' W' aN cK,eU E W act E' W' cK->Rel E' W' aN cK->aN.nt=σ.nt->K aN->next cK W'):if c=true then o.wpIn (l7 ro) 3 P act W next Q else next (act.put o.dst undef) W:=by
 unfold Fg at h;split at h
 ·simp only[if_true];grind [WZ]
 ·simp only[qZ,if_false]
  exact hn E W _ _ (eU.of (bE.refl E W) (Act.put_defers _ _ _)) (hr.put (nR hd) (fun _=> .c undef rfl) (fun _=>rfl)) (AS.rK _ _ _ _) h
theorem bn7{P:Program}{o:Oper}{σ:AS}{c:Bool}{K:AS->Prop}(h:MV P o σ c K)(hd:fS σ.nt o=true){E:Env}{W:World}{act:Act}(hr:Rel E W σ act){next:Act->World->Prop}{Q:Exit->Act->World->Prop}{ro:Option Nat}
  (hn:∀E' W' aN cK,eU E W act E' W' cK->Rel E' W' aN cK->aN.nt=σ.nt->K aN->next cK W'):if c=true then o.wpIn (l7 ro) 3 P act W next Q else next (act.put o.dst undef) W:=by
 have part:Split c (p5 P o σ K) (K (σ.put o.dst true (.c undef)))->if c=true then o.wpIn (l7 ro) 3 P act W next Q else next (act.put o.dst undef) W:=fun⟨h1,h2⟩=>by
  by_cases hc:c=true
  ·rw[if_pos hc];grind [WZ]
  ·rw[if_neg hc]
   exact hn E W _ _ (eU.of (bE.refl E W) (Act.put_defers _ _ _)) (hr.put (nR hd) (fun _=> .c undef rfl) (fun _=>rfl)) (AS.rK _ _ _ _) (h2 (by grind))
 have skip:∀a,c≠true->K (σ.put o.dst c a)->next (act.put o.dst undef) W:=fun a hc hK=>
  hn E W _ _ (eU.of (bE.refl E W) (Act.put_defers _ _ _)) (hr.put (nR hd) (fun h=>absurd h hc) (fun _=>rfl)) (AS.rK _ _ _ _) hK
 unfold MV at h;simp only[hold]at h;split at h
 ·rename_i f as ts aS
  unfold xA at h;split at h
  ·rename_i p EY
   obtain⟨n,args⟩:=p;obtain⟨first,cap,mC,hf,has,rfl⟩:=yC EY
   obtain⟨r,hp,hK⟩:=h;by_cases hc:c=true
   ·rw[if_pos hc]
    obtain⟨fM,hp⟩:=hp hc;have gZ:fW P n (first++mC++cap) σ.H fun r' H'=>r'=r/\H'=σ.H:=fW.pure hp fM fun r' _ hq=>⟨hq,rfl⟩
    refine Vf hc aS hf has gZ hd hr fun E' W' v r' H' hv hq bL=> ?_
    obtain⟨rfl,rfl⟩:=hq;exact hn E' W' _ _ (eU.of hv (Act.put_defers _ _ _)) bL (AS.rK _ _ _ _) hK
   grind
  grind
 ·rename_i x0 x y aS
  unfold xA at h;split at h
  ·rename_i b hb
   have hb:=zL hb;split at h
   ·rename_i pq w9
    obtain⟨p,q⟩:=pq;obtain⟨hp,hq⟩:=Ff w9;have hp:=zL hp;have hq:=zL hq;by_cases hc:c=true
    ·rw[if_pos hc]
     refine RS hc aS hb (a:= .c (.bool (cond b p q))) (fun Fj=>⟨c&&b,by grind,?_⟩) (fun Fk=>⟨c&& !b,by grind,?_⟩) hd hr fun v bL=>hn E W _ _ (eU.of (bE.refl E W) (Act.put_defers _ _ _)) bL (AS.rK _ _ _ _) h
     ·grind
     grind
    grind
   grind
  grind
 ·unfold xA at h
  split at h
  ·rename_i a kQ
   split at kQ
   ·cases kQ
   ·obtain⟨rd,kQ⟩:=bl6 kQ
    by_cases hc:c=true
    ·rw[if_pos hc]
     refine Ve hc kQ hd hr fun E' W' v hv bL=>hn E' W' _ _ (eU.of hv (Act.put_defers _ _ _)) ?_ (AS.rK _ _ _ _) h
     exact bL
    grind
  grind
theorem bn8{P:Program}{o:Oper}{σ:AS}{c:Bool}{K:AS->Prop}(h:Vb P o σ c K)(hd:fS σ.nt o=true){E:Env}{W:World}{act:Act}(hr:Rel E W σ act){next:Act->World->Prop}{Q:Exit->Act->World->Prop}{ro:Option Nat}
  (hn:∀E' W' aN cK,eU E W act E' W' cK->Rel E' W' aN cK->aN.nt=σ.nt->K aN->next cK W'):if c=true then o.wpIn (l7 ro) 3 P act W next Q else next (act.put o.dst undef) W:=by
 rcases h with(⟨hc,hK⟩|⟨hc,hK⟩)|h
 ·subst hc
  rw[if_neg (by simp)]
  exact hn E W _ _ (eU.of (bE.refl E W) (Act.put_defers _ _ _)) (hr.put (nR hd) (fun h=>by cases h) (fun _=>rfl)) (AS.rK _ _ _ _) hK
 ·subst hc
  rw[if_pos rfl]
  grind [WZ]
 ·exact bn7 h hd hr hn
theorem Fl{P:Program}{ic:Bool}{ops:Array Oper}{o:Oper}{σ:AS}{K:AS->Prop}(h:nC P ic ops o σ K)(hd:fS σ.nt o=true){E:Env}{W:World}{act:Act}(hr:Rel E W σ act){next:Act->World->Prop}{Q:Exit->Act->World->Prop}{ro:Option Nat}
  (hn:∀E' W' aN cK,eU E W act E' W' cK->Rel E' W' aN cK->aN.nt=σ.nt->K aN->next cK W'):
  if Region.wanted o (yielded ops act.tmps)=true then o.wpIn (l7 ro) 3 P act W next Q else next (act.put o.dst undef) W:=by
 unfold nC at h;simp only[hold]at h;cases hg:o.guard with
 |none=>
  simp only[hg]at h;simp only[Region.wanted,hg,if_true]
  grind [WZ]
 |some jw=>
  obtain⟨j,want⟩:=jw;simp only[hg]at h;obtain⟨c0,Qs,h⟩:=EF h;obtain⟨c',b,hb,rfl⟩:=Uy Qs
  obtain⟨t,ht,qJ⟩:∃t,(ops[j]?).bind (·.dst)=some t/\lk σ.env t=some (c',.c (.bool b)):=by
   grind [nA]
  obtain⟨v,h1,h2,h3⟩:=hr.env t _ _ qJ
  have hw:Region.wanted o (yielded ops act.tmps)=(c'&&WV b want):=by
   have hy:yielded ops act.tmps j=if c'=true then some b else none:=by
    unfold yielded;rw[ht];simp only[Iv,h1];cases c'
    ·rw[h3 rfl];rfl
    ·have h4:=h2 rfl
     cases h4;rfl
   simp only[Region.wanted,hg,hy];cases c'<;>cases b<;>cases want<;>rfl
  rw[hw];cases ic
  ·exact bn6 h hd hr hn
  ·exact bn8 h hd hr hn
theorem G8{P:Program}{ic:Bool}{ops:Array Oper}:∀(l:List Nat) (os:List Oper),l.map (ops[·]?)=os.map some->∀{σ:AS} {K:AS->Prop},b8 P ic ops os σ K->os.all (fS σ.nt)=true->∀{E:Env} {W:World} {act:Act},Rel E W σ act->
  ∀{Q:Exit->Act->World->Prop} {ro:Option Nat},(∀E' W' aN cK,eU E W act E' W' cK->Rel E' W' aN cK->aN.nt=σ.nt->K aN->Q .normal cK W')->wpOpsIn (l7 ro) 3 P ops Q l act W
 |[],[],_,σ,K,h,_,E,W,act,hr,Q,ro,hn=>hn E W σ act (eU.refl E W act) hr rfl h
 |[],_::_,hl,_,_,_,_,_,_,_,_,_,_,_=>by simp at hl
 |_::_,[],hl,_,_,_,_,_,_,_,_,_,_,_=>by simp at hl
 |i::l,o::os,hl,σ,K,h,hd,E,W,act,hr,Q,ro,hn=>by
  simp only[qE,TB]at hl;simp only[KI,jF]at hd;simp only[wpOpsIn,hl.1]
  have h1:=Fl (Q:=Q) (ro:=ro) (next:=wpOpsIn (l7 ro) 3 P ops Q l) h hd.1 hr (fun E' W' aN cK hv cG cL hK=>by
   refine G8 l os hl.2 hK (by grind) cG (fun wW G1 dV WU fI mD JK I7=>hn wW G1 dV WU (hv.trans fI) mD (JK.trans cL) I7))
  by_cases hw:Region.wanted o (yielded ops act.tmps)=true
  ·grind
  ·simp only[hw]at h1⊢
   exact⟨fun _ _=>trivial,h1⟩
theorem wpIn_loop_ghost{F:Fence}{m:Nat}{P:Program}{Q:Exit->Act->World->Prop}{a:Act}{w:World}{c:Code}(I:Nat->Act->World->Prop)(Vo:Nat)(bn9:I Vo a w)
  (round:∀n a w,I n a w->c.wpIn F m P (Exit.then (fun a' w'=>∃n',n'<n/\I n' a' w') Q) a w):(Code.loop c).wpIn F m P Q a w:=by
 refine wpIn_loop (fun a w=>∃n,I n a w) (fun a w=>leastOf (fun n=>I n a w)) ⟨Vo,bn9⟩ ?_
 intro a w hI;refine wpIn_mono (round _ a w (leastOf_spec hI).1) ?_;intro e a' w' hq;cases e with
 |normal=>
  obtain⟨n',bG,Fm⟩:=hq;exact show(∃n,I n a' w')/\leastOf (fun n=>I n a' w')<leastOf (fun n=>I n a w)from⟨⟨n',Fm⟩,Nat.lt_of_le_of_lt ((leastOf_spec ⟨n',Fm⟩).2 n' Fm) bG⟩
 |_=>exact hq
section
variable {P : Program} {σ : AS} {Q : Exit -> AS -> Prop}
theorem AW.mono{c:Code}{Q':Exit->AS->Prop}(h:AW P c σ Q)(hq:∀e σ,Q e σ->Q' e σ):AW P c σ Q':=
 fun ro E W act dP hr=>wpIn_mono (h ro E W act dP hr) fun e a w ⟨E',aN,h1,h2,h3,h4⟩=>⟨E',aN,h1,h2,h3,hq e aN h4⟩
theorem N3(h:Q .normal σ):AW P .skip σ Q:=fun ro E W act dP hr=>wpIn_skip ⟨E,σ,eU.refl E W act,hr,rfl,h⟩
theorem N4{P:Program}{b:Frame}{a:Act}{k:List Item}{cs:List Frame}{w:World}{c:Code}:step P (lone (b.atR a (.code (.scope c)::k)) cs w)= .next (lone (b.atR a (.code c:: .inScope c::k)) cs w):=
 step_lone_go (by rfl)
theorem bo0{P:Program}{b:Frame}{a:Act}{k:List Item}{cs:List Frame}{w:World}{c:Code}:step P (lone (b.atR a (.inScope c::k)) cs w)= .next (lone (b.atR a k) cs w):=
 step_lone_go (by rfl)
def Fo(Q:Exit->AS->Prop):Exit->AS->Prop
 | .goto _,_=>False
 |e,σ=>Q e σ
theorem bo1{F:Fence}{n:Nat}{P:Program}{a:Act}{w:World}{c:Code}{Q:Exit->Act->World->Prop}(h:c.wpIn F n P (fun e a w=>(∀l,e≠ .goto l)/\Q e a w) a w):(Code.scope c).wpIn F n P Q a w:=by
 intro b k cs dP hb hr;have h0:(lone (b.atR a (.code (.scope c)::k)) cs w).fenced P F:=fenced_calm hb hr rfl;obtain⟨e,RX,RY,⟨hg,hq⟩,CL⟩:=h b (.inScope c::k) cs dP hb hr;cases e with
 |normal=>exact⟨.normal,RX,RY,hq,.head h0 N4 (StepsIn.trans CL (.one (fenced_calm hb hr rfl) bo0))⟩
 |exit id=>
  have hx:exitTo id (.inScope c::k)=exitTo id k:=by simp[exitTo]
  exact⟨.exit id,RX,RY,hq,fun k' hk=> .head h0 N4 (CL.1 k' (by grind)),
   fun cG hk=>let ⟨k₁,h1,h2⟩:=CL.2 cG (by grind);⟨k₁,h1,.head h0 N4 h2⟩⟩
 |goto l=>grind
 |ret=>exact⟨_,RX,RY,hq,.of_steps (.one h0 N4) CL⟩
 |panic ch=>exact⟨_,RX,RY,hq,.of_steps (.one h0 N4) CL⟩
 |outgrown=>exact⟨_,RX,RY,hq,.of_steps (.one h0 N4) CL⟩
theorem N5{c:Code}(h:AW P c σ (Fo Q)):AW P (.scope c) σ Q:=fun ro E W act dP hr=>
 bo1 (wpIn_mono (h ro E W act dP hr) fun e a w ⟨E',aN,h1,h2,h3,h4⟩=>by
  cases e<;>first|exact h4.elim|exact⟨fun l h=>(by cases h),E',aN,h1,h2,h3,h4⟩)
theorem N6{l:Nat}(h:Q .normal σ):AW P (.label l) σ Q:=fun ro E W act dP hr=>wpIn_label ⟨E,σ,eU.refl E W act,hr,rfl,h⟩
theorem N7(h:Q .ret σ):AW P .ret σ Q:=fun ro E W act dP hr=>wpIn_ret ⟨E,σ,eU.refl E W act,hr,rfl,h⟩
theorem N8{id:Nat}(h:Q (.exit id) σ):AW P (.exit id) σ Q:=fun ro E W act dP hr=>wpIn_exit ⟨E,σ,eU.refl E W act,hr,rfl,h⟩
def cF(next:AS->Prop)(Q:Exit->AS->Prop):Exit->AS->Prop
 | .normal,σ=>next σ
 |e,σ=>Q e σ
theorem dI{x y:Code}(h:AW P x σ (cF (fun aN=>AW P y aN Q) Q)):AW P (.seq x y) σ Q:=fun ro E W act dP hr=>by
 refine wpIn_seq (wpIn_mono (h ro E W act dP hr) fun e a w ⟨E',aN,h1,h2,h3,h4⟩=> ?_)
 cases e with
 |normal=>
  refine wpIn_mono (h4 ro E' w a (dP.mono h1.nP) h2) fun e a' w' ⟨wW,dV,h5,h6,h7,h8⟩=>⟨wW,dV,h1.trans h5,h6,h7.trans h3,h8⟩
 |_=>exact⟨E',aN,h1,h2,h3,h4⟩
theorem Fp{c:Operand}{x y:Code}{b:Bool}(hc:σ.get true c=some (.c (.bool b)))(ht:b=true->AW P x σ Q)(hf:b=false->AW P y σ Q):AW P (.cond c x y) σ Q:=fun ro E W act dP hr=>by
 have h1:=hr.get rfl hc;generalize Vp:act.eval c=cv at h1;cases h1;cases b
 ·exact wpIn_cond_false Vp (hf rfl ro E W act dP hr)
 ·exact wpIn_cond_true Vp (ht rfl ro E W act dP hr)
def dB(id:Nat)(Q:Exit->AS->Prop):Exit->AS->Prop
 | .exit aL,σ=>if aL=id then Q .normal σ else Q (.exit aL) σ
 |e,σ=>Q e σ
theorem N9{id:Nat}{c:Code}(h:AW P c σ (dB id Q)):AW P (.block id c) σ Q:=fun ro E W act dP hr=>by
 refine wpIn_block (wpIn_mono (h ro E W act dP hr) fun e a w ⟨E',aN,h1,h2,h3,h4⟩=> ?_)
 cases e with
 |exit aL=>
  simp only[dB]at h4;simp only[Exit.inBlock]
  grind
 |_=>exact⟨E',aN,h1,h2,h3,h4⟩
theorem bo2{c:Code}(I:Nat->AS->Prop)(n:Nat)(h0:I n σ)(round:∀n σ,I n σ->AW P c σ (cF (fun aN=>∃m,m<n/\I m aN) Q)):AW P (.loop c) σ Q:=fun ro E W act dP hr=>by
 refine wpIn_loop_ghost (fun n a w=>∃E' aN,eU E W act E' w a/\Rel E' w aN a/\aN.nt=σ.nt/\I n aN) n ⟨E,σ,eU.refl E W act,hr,rfl,h0⟩ ?_
 rintro n a w ⟨E',aN,h1,h2,h3,h4⟩;refine wpIn_mono (round n aN h4 ro E' w a (dP.mono h1.nP) h2) fun e a' w' ⟨wW,dV,h5,h6,h7,h8⟩=> ?_
 cases e with
 |normal=>
  obtain⟨m,hm,hI⟩:=h8;exact⟨m,hm,wW,dV,h1.trans h5,h6,h7.trans h3,hI⟩
 |_=>exact⟨wW,dV,h1.trans h5,h6,h7.trans h3,h8⟩
theorem bo3{ic:Bool}{id:Nat}{ops:Array Oper}(h:b8 P ic ops ops.toList σ (Q .normal))(hd:ops.toList.all (fS σ.nt)=true):AW P (.region id ops false) σ Q:=fun ro E W act dP hr=>by
 refine wpIn_region ?_;refine G8 _ ops.toList ?_ h hd hr (fun E' W' aN cK hv cG cL hK=>⟨E',aN,hv,cG,cL,hK⟩)
 apply ET
 grind
end
def jW:Nat->List AV->List (Nat×Bool×AV)
 |_,[]=> []
 |n,a::r=>(n,true,a)::jW (n+1) r
theorem Fq:∀(as:List AV) (n t:Nat) (a:Bool×AV),lk (jW n as) t=some a->n<=t/\as[t-n]? =some a.2/\a.1=true
 |[],n,t,a,h=>by simp[jW,lk]at h
 |b::r,n,t,a,h=>by
  simp only[jW,lk]at h;split at h
  ·grind
  ·obtain⟨h1,h2,h3⟩:=Fq r (n+1) t a h
   grind
section
variable (P : Program)
def X0(σ:AS):ResultVar->Option AV
 | .tmp t=>σ.get true (.tmp t)
 | .cell t ty=>match σ.get true (.tmp t)with
   |some p=>match deref σ.H.get p with
    |some (row,o,_)=>qL P ty row o
    |none=>none
   |none=>none
def JL(σ:AS):List ResultVar->Option (List AV)
 |[]=>some []
 |r::rs=>match X0 P σ r,JL σ rs with
  |some a,some l=>some (a::l)
  |_,_=>none
def iL(σ:AS)(rs:List ResultVar):Option AV:=
 match JL P σ rs with
 |some [a]=>some a
 |some l=>some (.aK l)
 |none=>none
end
def RZ(tmps:Array Value)(r:ResultVar):Sem Value:=
 match r with
 | .tmp t=>pure (tmps.getD t undef)
 | .cell a t=>do loadVar t (<-asAddr (tmps.getD a undef))
theorem bo4{P:Program}{σ:AS}{E:Env}{W:World}{act:Act}(hr:Rel E W σ act){r:ResultVar}{a:AV}(h:X0 P σ r=some a):
  ∃v,(RZ act.tmps r).run P W= .ok v W/\RV E W a v:=by
 cases r with
 |tmp t=>
  have h':σ.get true (.tmp t)=some a:=h;exact⟨_,rfl,hr.get rfl h'⟩
 |cell t ty=>
  simp only[X0]at h;split at h
  ·rename_i p hp
   split at h
   ·rename_i row o rd hd
    obtain⟨b,q,h1,vs,h3,h4⟩:=Te hr.heap.core (hr.get rfl hp) hd;simp only[Act.eval]at h1;unfold qL at h;split at h
    ·rename_i k ha hk
     split at h
     ·rename_i hle
      injection h with h
      subst h;have hl:=h3.1;refine⟨.agg ((vs.drop o).take k).toArray,?_,.agg _ _ (by simp;omega) fun i x v hx hv=>((h3.drop o).take k).2 i x v hx (by grind)⟩
      grind [Ti,RZ,asAddr]
     ·cases h
    ·rename_i k ha hk
     obtain⟨v,h5,h6⟩:=h3.get h
     grind [Tj,RZ,asAddr]
    ·cases h
   ·cases h
  ·cases h
theorem Vq{P:Program}{σ:AS}{E:Env}{W:World}{act:Act}(hr:Rel E W σ act):∀(rs:List ResultVar) (as:List AV),JL P σ rs=some as->
  ∃vs,(rs.mapM (RZ act.tmps)).run P W= .ok vs W/\bP E W as vs
 |[],as,h=>by simp only[JL,bM]at h;subst h;exact⟨[],rfl,.nil⟩
 |r::rs,as,h=>by
  simp only[JL]at h;split at h
  ·rename_i a l ha hl
   injection h with h
   subst h;obtain⟨v,h1,h2⟩:=bo4 hr ha;obtain⟨vs,h3,h4⟩:=Vq hr rs l hl;exact⟨v::vs,by simp_all,.cons h2 h4⟩
  ·cases h
theorem S0{P:Program}{fn:Func}{σ:AS}{E:Env}{W:World}{act:Act}(hr:Rel E W σ act){a:AV}(h:iL P σ fn.results.toList=some a):∃v,(results fn act.tmps).run P W= .ok v W/\RV E W a v:=by
 have key:∀as,JL P σ fn.results.toList=some as->∃vs,(results fn act.tmps).run P W= .ok (if h:vs.size=1 then vs[0]else .tuple vs) W/\bP E W as vs.toList:=fun as has=>by
  obtain⟨vs,h1,h2⟩:=Vq hr _ as has;refine⟨vs.toArray,?_,oM⟩
  have heq:results fn act.tmps=(do let vs<-fn.results.mapM (RZ act.tmps);pure (if h:vs.size=1 then vs[0]else .tuple vs)):=by
   unfold results;congr 1
  simp_all [bI0]
 unfold iL at h;split at h
 ·rename_i b has
  injection h with h
  subst h;obtain⟨vs,h1,h2⟩:=key _ has;have hs:vs.size=1:=by have:=h2.1;simp at this;omega
  refine⟨vs[0],by grind,?_⟩
  exact h2.2 0 _ _ rfl (by simp)
 ·rename_i l aT has
  injection h with h
  subst h;obtain⟨vs,h1,h2⟩:=key _ has
  have hs:¬vs.size=1:=fun hs=>by
   have:=h2.1;simp at this;cases l with
   |nil=>grind
   |cons b r=>
    simp_all
  exact⟨.tuple vs,by grind,.aK _ _ (by simpa using h2.1) fun i x v hx hv=>h2.2 i x v hx (by grind)⟩
 ·cases h
def bT(P:Program)(rs:List ResultVar)(Q:AV->Heap->Prop):Exit->AS->Prop
 | .normal,σ=>nB (iL P σ rs) (hold (fun a=>Q a σ.H) ⟨⟩)
 | .ret,σ=>nB (iL P σ rs) (hold (fun a=>Q a σ.H) ⟨⟩)
 |_,_=>False
theorem Vr{w:World}{D:Nat}{x:Option (List Deferred)}{o:Obj}(h:w.heap[D]? =some (.deferred x)){p:Addr}{v:Value}(hc:w.cell? p=some v):(w.putObj D o).cell? p=some v:=by
 grind [World.cell?,World.putObj_heap_other]
theorem RV.shut{E:Env}{w:World}{D:Nat}{x:Option (List Deferred)}{o:Obj}(h:w.heap[D]? =some (.deferred x)){a:AV}{v:Value}(r:RV E w a v):RV E (w.putObj D o) a v:=by
 induction r with
 |c x hx=>exact .c x hx
 |agg xs vs hl _ ih=>exact .agg xs vs hl ih
 |aK xs vs hl _ ih=>exact .aK xs vs hl ih
 |snap rows b off s n cap vs hn pH hs hL hc hr ih=>exact .snap rows b off s n cap vs hn pH hs hL (fun i j row x h1 h2=>Vr h (hc i j row x h1 h2)) ih
 |kP a cap=>exact .kP a cap
 |cH rows i o b off s vs hs hL hc hr ih=>exact .cH rows i o b off s vs hs hL (fun i j row x h1 h2=>Vr h (hc i j row x h1 h2)) ih
 |own id off len cap aC eI dO=>
  obtain⟨cur,e,f,h1,h2⟩:=dO;exact .own id off len cap aC eI ⟨cur,e,f,by grind [World.putObj_heap_other],h2⟩
 |mB id off a aC=>exact .mB id off a aC
 |sub id i o len cap aC eI dO=>
  obtain⟨cur,e,f,h1,h2⟩:=dO;exact .sub id i o len cap aC eI ⟨cur,e,f,by grind [World.putObj_heap_other],h2⟩
 |ptr id i o aC=>exact .ptr id i o aC
 |fn f first cap vf vc hl dG _ _ E4 E5=>exact .fn f first cap vf vc hl dG E4 E5
 |omap id aC=>exact .omap id aC
 |jT id aC=>exact .jT id aC
theorem IY.shut{E:Env}{w:World}{G:Nat->Option aI}{id D:Nat}{x:Option (List Deferred)}{o:Obj}(h:w.heap[D]? =some (.deferred x)){b:aI}(r:IY E w G id b):IY E (w.putObj D o) G id b:=by
 cases b with
 |cells elem s rows wr a=>
  obtain⟨h1,h2,⟨cur,h3,h4,h5⟩,h6⟩:=r;refine⟨h1,h2,⟨cur,by grind [World.putObj_heap_other],h4,fun i j row x hr hx=> ?_⟩,h6⟩
  obtain⟨v,oD,fI⟩:=h5 i j row x hr hx;exact⟨v,oD,fI.shut h⟩
 |map es=>
  obtain⟨⟨ms,clock,h1,h2,h3,h4⟩,h5⟩:=r;refine⟨⟨ms,clock,by grind [World.putObj_heap_other],h2,h3,fun i k x hx=> ?_⟩,h5⟩
  obtain⟨e,mJ,oZ,uQ⟩:=h4 i k x hx;exact⟨e,mJ,oZ,uQ.shut h⟩
 |iter m n seen=>
  obtain⟨⟨h1,h3⟩,h5⟩:=r;exact⟨⟨by grind [World.putObj_heap_other],h3⟩,h5⟩
 |cJ env nt ps assign body st IX=>
  obtain⟨⟨fn,tmps,D',h1,h2,h3⟩,h5⟩:=r;refine⟨⟨fn,tmps,D',by grind [World.putObj_heap_other],h2,fun t c a ht=> ?_⟩,h5⟩
  obtain⟨v,mJ,oZ,uQ⟩:=h3 t c a ht;exact⟨v,mJ,fun hc=>(oZ hc).shut h,uQ⟩
theorem RH.shut{E:Env}{w:World}{H:Heap}{D:Nat}{x:Option (List Deferred)}{o:Obj}(h:w.heap[D]? =some (.deferred x))(r:RH E w H):RH E (w.putObj D o) H:=
 ⟨r.next,fun b hb=>r.core.lim b (by simp_all),fun id aC=>by simpa using r.core.eJ id aC,fun id b hg=>⟨(r.core.ok id b hg).1,(r.core.ok id b hg).2.shut h⟩⟩
theorem Rel.shut{E:Env}{w:World}{σ:AS}{act:Act}{D:Nat}{x:Option (List Deferred)}{o:Obj}(h:w.heap[D]? =some (.deferred x))(r:Rel E w σ {act with defers:=[]}):Rel E (w.putObj D o) σ {act with defers:=[]}:=
 ⟨Marks.nil _ _,r.size,fun t c a ha=>let ⟨v,h1,h2,h3⟩:=r.env t c a ha;⟨v,h1,fun hc=>(h2 hc).shut h,h3⟩,r.heap.shut h⟩
theorem bE.shut{E E':Env}{W w:World}{D:Nat}{o:Obj}(hv:bE E W E' w)(hL:∀b,W.heap.size<=b->E.L b=0)(hD:W.heap.size<=D):bE E W E' (w.putObj D o):=by
 have hb:∀b,b<W.heap.size->(w.putObj D o).heap[b]? =w.heap[b]? :=fun b h=>World.putObj_heap_other oM
 refine⟨hv.os,hv.tape,hv.output,by simpa using hv.size,hv.used,hv.jK,hv.lim,fun b k hk=> ?_,fun b h hf=>(hb b h).trans (hv.rJ b h hf),fun b cur e f hc=> ?_,hv.still,hv.fresh,fun b r hr=> ?_⟩
 ·have bG:b<W.heap.size:=by
   rcases qY b W.heap.size with h|h
   ·exact h
   ·grind
  rw[<-hv.wV b k hk]
  grind [World.cell?]
 ·rw[hb b (k7.1 hc).1];exact hv.aR b cur e f hc
 ·rw[hb b (k7.1 hr).1];exact hv.loops b r hr
theorem JM{P:Program}{fn:Func}{tmps:Array Value}{R:Ending->World->Prop}{I:World->Prop}{u:FrameMode}(hu:u≠ .run){rest:List Deferred}:∀(ds:List Deferred) (Ds:List Nat),ds.filter x9=Ds.map sW->pJ ds=[]->Ds.Nodup->(∀D∈Ds,∀w,w.heap[D]? =some (.deferred (some []))->I w->I (w.putObj D (.deferred none)))->
  (∀w,I w->LeavesInM Fence.wide 3 P fn tmps R rest u w)->∀{w:World},(∀D∈Ds,w.heap[D]? =some (.deferred (some [])))->I w->LeavesInM Fence.wide 3 P fn tmps R (ds++rest) u w
 |[],_,_,_,_,_,fin,w,_,hI=>fin w hI
 |d::ds,Ds,hm,ho,hn,hs,fin,w,hw,hI=>by
  have hd:x9 d=true:=by
   cases h:x9 d with
   |true=>rfl
   |false=>
    grind [pJ]
  rw[TD hd]at hm;cases Ds with
  |nil=>simp at hm
  |cons D Ds=>
   rw[qE,TB]at hm;obtain⟨rfl,hm⟩:=hm;have h0:=hw D (by simp)
   rw[Il]at hn;refine⟨hu,.inl ⟨D,w.putObj D (.deferred none),rfl,run_takeDeferred h0,?_⟩⟩
   have Fs:pJ ds=[]:=by
    unfold pJ at ho⊢;rw[YE (by simp[hd])]at ho
    exact ho
   refine JM hu ds Ds hm Fs hn.2 (fun D' CM=>hs D' (by simp[CM])) fin (fun D' CM=> ?_) (hs D (by simp) w h0 hI)
   grind [World.putObj_heap_other]
theorem CN{P:Program}{n:FuncId}{fn:Func}{c:Code}{args:List AV}{H:Heap}{Q:AV->Heap->Prop}(hf:P.funcs[n]? =some fn)(hb:fn.body=some c)(eW:(fn.name== "runtime.NumGoroutine")=false)(hlen:args.length<=fn.ntmps)
  (h:AW P c ⟨jW 0 args,H,fn.ntmps⟩ (hold (bT P fn.results.toList (hold Q ⟨⟩)) ⟨⟩)):fW P n args H Q:=by
 refine⟨by grind [sB],fun E W vs hH hr=> ?_⟩
 refine callsIn_wide.1 (callsIn_of_wp_marks (F:=Fence.wide) (n:=3) hf hb trivial ?_)
 have bL:Rel E W ⟨jW 0 args,H,fn.ntmps⟩ {tmps:=vs.toArray++Array.replicate (fn.ntmps-vs.toArray.size) undef,defers:=[]}:=by
  refine⟨Marks.nil E W,?_,fun t c a ha=> ?_,hH⟩
  ·have:=hr.1;grind
  ·obtain⟨_,h1,Ft⟩:=Fq args 0 t _ ha
   obtain⟨v,h2,h3⟩:=hr.get h1
   grind
 refine wpIn_mono (h none E W _ (fun l h=>by cases h) bL) fun e a w ⟨E',aN,h1,h2,h3,h4⟩=> ?_
 have fin:nB (iL P aN fn.results.toList) (hold (fun a=>Q a aN.H) ⟨⟩)->LeavesInM Fence.wide 3 P fn a.tmps (fun e W'=>∃v,e= .returned v/\∃E' r H',bE E W E' W'/\RH E' W' H'/\RV E' W' r v/\Q r H') a.defers .returning w:=fun hq=>by
  obtain⟨b,hb,hq⟩:=EF hq;obtain⟨Ds,qD,tV,uW⟩:=h2.defers;have yF:∀D∈Ds,W.heap.size<=D:=fun D hD=>(h1.new D (JG qD hD)).resolve_left (fun h=>by cases h)
  have key:=JM (P:=P) (fn:=fn) (tmps:=a.tmps) (R:=fun e W'=>∃v,e= .returned v/\∃E' r H',bE E W E' W'/\RH E' W' H'/\RV E' W' r v/\Q r H') (I:=fun w'=>bE E W E' w'/\Rel E' w' aN {a with defers:=[]}) (u:= .returning) (by simp) (rest:=[]) a.defers Ds qD h1.vY tV (fun D hD w' hw hI=>⟨hI.1.shut hH.core.lim (yF D hD),hI.2.shut hw⟩) (fun w' hI=> ?_) (fun D hD=>(uW D hD).1) ⟨h1.nP,⟨Marks.nil _ _,h2.size,h2.env,h2.heap⟩⟩
  ·grind
  ·obtain⟨v,h5,h6⟩:=S0 hI.2 hb
   exact⟨v,h5,v,rfl,E',b,aN.H,hI.1,hI.2.heap,h6,hq⟩
 cases e with
 |normal=>exact fin h4
 |ret=>exact fin h4
 |_=>exact h4.elim
end Go.AL
namespace Go.AL
open Go.RowKit
def X4:Option aI->Nat->Option (List AV)
 |some (.cells _ _ rows _ _),i=>rows[i]?
 |_,_=>none
theorem Vs{b:Option aI}{i:Nat}{row:List AV}(h:X4 b i=some row):∃e s rows w a,b=some (.cells e s rows w a)/\rows[i]? =some row:=by
 unfold X4 at h;split at h
 ·exact⟨_,_,_,_,_,rfl,h⟩
 ·cases h
theorem Vt{E:Env}{W:World}{b i o len cap s:Nat}{cur:Array Value}{e:TypeId}{row:List AV}(cV:W.heap[b]? =some (Obj.cells cur e (0,0)))(hle:o+len<=row.length)(eI:len<=cap)(hL:i*s+o+len<=E.L b)
  (fO:∀(j:Nat) x,o<=j->j<o+len->row[j]? =some x->∃u,cur[i*s+j]? =some u/\RV E W x u):RV E W (.snap (((row.drop o).take len).map fun x=> [x])) (.slice (some ⟨b,i*s+o,none⟩) len cap):=by
 have dQ:∀(k j:Nat) r x,(((row.drop o).take len).map fun x=> [x])[k]? =some r->r[j]? =some x->j=0/\k<len/\row[o+k]? =some x:=fun k j r x h1 h2=>by
  rw[kJ]at h1;obtain⟨y,hy,rfl⟩:=map_some h1;rw[pK]at hy;split at hy
  ·rename_i hk
   rw[vA]at hy;cases j with
   |zero=>simp at h2;subst h2;exact⟨rfl,hk,hy⟩
   |succ j=>simp at h2
  ·cases hy
 have hlen:(((row.drop o).take len).map fun x=> [x]).length=len:=by simp;omega
 refine .snap _ b (i*s+o) 1 len cap (fun k _=>cur.getD (i*s+(o+k)) undef) hlen.symm eI (fun k r hr=> ?_) (by rw[hlen];omega) (fun k j r x h1 h2=> ?_) (fun k j r x h1 h2=> ?_)
 ·rw[kJ]at hr
  obtain⟨y,hy,rfl⟩:=map_some hr;rfl
 ·obtain⟨rfl,hk,hx⟩:=dQ k j r x h1 h2
  obtain⟨u,h3,h4⟩:=fO (o+k) x oM oM hx
  rw[cell_of_row W _ _ cur e (0,0) cV,show i*s+o+(k*1+0)=i*s+(o+k)by omega,h3]
  simp[h3]
 ·obtain⟨rfl,hk,hx⟩:=dQ k j r x h1 h2
  obtain⟨u,h3,h4⟩:=fO (o+k) x oM oM hx
  simp only[GY,h3,yH];exact h4
theorem Vu{rows:List (List AV)}{i s:Nat}(h:i<rows.length):i*s+s<=rows.length*s:=by
 have:=mO s (show i+1<=rows.length from h)
 rw[wE]at this;omega
def oL(G:Nat->Option aI)(a:AV):AV:=
 match a with
 | .own id off len=>match rowsOf G (.own id off len)with
   |some (rows,_)=> .snap rows
   |none=>a
 | .ptr id i o=>match G id with
   |some (.cells _ _ rows _ _)=> .cH rows i o
   |_=>a
 | .sub id i o len=>match X4 (G id) i with
   |some row=>if o+len<=row.length then .snap (((row.drop o).take len).map fun x=> [x])else a
   |none=>a
 |_=>a
def nE(G:Nat->Option aI)(a:AV):AV:=
 match a with
 | .agg xs=> .agg (xs.map (oL G))
 | .fn f xs ys=> .fn f (xs.map (oL G)) (ys.map (oL G))
 |_=>oL G a
def EH(G:Nat->Option aI)(a:AV):AV:=
 match a with
 | .aK xs=> .aK (xs.map (nE G))
 |_=>nE G a
section
variable {E : Env} {W : World} {G : Nat -> Option aI} {L : Nat -> Nat}
theorem X5(hG:RC E W G)(hL:∀b,E.L b<=L b)(mM:∀id,E.U id->∀(cur:Array Value) (e:TypeId) (f:Nat×Nat),W.heap[E.ι id]? =some (Obj.cells cur e f)->cur.size<=L (E.ι id)){a:AV}{v:Value}(r:RV E W a v)(h:bF (oL G a)):RV (eZ L) W (oL G a) v:=by
 unfold oL at h⊢;split at h
 ·rename_i id off len
  split at h
  ·rename_i rows rd fA
   have hU:=(uJ r).1;rcases(uJ r).2 with⟨cap,hv,eI,AT,e0,f0,jZ,S3⟩|⟨mX,a0,hv⟩
   ·subst hv
    simp only[rowsOf]at fA;split at fA
    ·rename_i e s dU w ap dQ
     split at fA
     ·rename_i hle
      simp only[bM,cQ]at fA;obtain⟨rfl,rfl⟩:=fA;obtain⟨_,mZ,hlen,⟨cur,cV,sU,fO⟩,_,_⟩:=hG.ok id _ dQ;rw[cV]at jZ;injection jZ with jZ
      injection jZ with jZ JN JO
      subst jZ;subst JN;subst JO;have EI:=mM id hU cur e (0,0) cV;rw[fC]at h
      have tU:∀(i:Nat) row,((dU.drop off).take len)[i]? =some row->dU[off+i]? =some row:=fun i row hr=>by
       rw[pK]at hr;split at hr
       ·rwa[vA]at hr
       ·cases hr
      have JE:((dU.drop off).take len).length=len:=by simp;omega
      have hmul:(off+len)*s<=dU.length*s:=mO s hle;refine .snap _ (E.ι id) (off*E.sz id) s len cap (fun i j=>cur.getD ((off+i)*s+j) undef) JE.symm eI (fun i row hr=>hlen _ row (tU i row hr)) ?_ (fun i j row x h1 h2=> ?_) (fun i j row x h1 h2=> ?_)
      ·rw[JE,mZ,<-wE];simp only[eZ];omega
      ·obtain⟨u,h3,h4⟩:=fO _ j row x (tU i row h1) h2
       rw[cell_of_row W _ _ cur e (0,0) cV,mZ];have he:off*s+(i*s+j)=(off+i)*s+j:=by rw[wE];omega
       rw[he,h3];simp[h3]
      ·obtain⟨u,h3,h4⟩:=fO _ j row x (tU i row h1) h2
       simp only[GY,h3,yH];exact h4.pI hL (h row (fJ h1) x (fJ h2))
     ·cases fA
    ·cases fA
   ·subst mX;subst hv
    have:rows=[]:=by
     simp only[rowsOf]at fA;split at fA
     ·split at fA
      ·simp at fA;exact fA.1
      ·cases fA
     ·cases fA
    subst this;exact .kP _ _
  ·cases h
 ·rename_i id i o
  split at h
  ·rename_i e s rows w ap dQ
   cases r with
   |ptr _ _ _ hU=>
   obtain⟨_,mZ,hlen,⟨cur,cV,sU,fO⟩,_,_⟩:=hG.ok id _ dQ;have EI:=mM id hU cur e (0,0) cV;cases h with
   |cH _ _ _ h=>
   have:=RV.cH (E:=eZ L) (W:=W) rows i o (E.ι id) 0 s (fun i j=>cur.getD (i*s+j) undef) hlen (by simp only[eZ];omega) (fun i j row x h1 h2=>by
    obtain⟨u,h3,h4⟩:=fO i j row x h1 h2;rw[cell_of_row W _ _ cur e (0,0) cV,vB,h3];simp[h3]) (fun i j row x h1 h2=>by
    obtain⟨u,h3,h4⟩:=fO i j row x h1 h2;simp only[GY,h3,yH]
    exact h4.pI hL (h row (fJ h1) x (fJ h2)))
   rw[mZ];simpa using this
  ·cases h
 ·rename_i id i o len
  split at h
  ·rename_i row cS
   obtain⟨e,s,rows,w,ap,dQ,y9⟩:=Vs cS;by_cases hle:o+len<=row.length
   ·rw[if_pos hle]at h⊢
    cases r with
    |sub _ _ _ _ cap hU eI S3=>
    obtain⟨_,mZ,hlen,⟨cur,cV,sU,fO⟩,_,_⟩:=hG.ok id _ dQ;have EI:=mM id hU cur e (0,0) cV;rw[fC]at h;have rU:=hlen i row y9;have bG:i<rows.length:=(fT.1 y9).1;have hm:=Vu (s:=s) bG;rw[mZ];refine Vt (E:=eZ L) (s:=s) cV hle eI (show i*s+o+len<=L (E.ι id)by omega) fun j x h1 h2 hx=> ?_
    obtain⟨u,h3,h4⟩:=fO i j row x y9 hx;refine⟨u,h3,h4.pI hL (h [x] (mF.2 ⟨x,?_,rfl⟩) x (by simp))⟩
    refine fJ (i:=j-o) ?_;rw[List.getElem?_take_of_lt oM,vA,show o+(j-o)=j by omega]
    exact hx
   ·rw[if_neg hle]at h
    cases h
  ·cases h
 ·exact r.pI hL h
theorem Vv(hG:RC E W G)(hL:∀b,E.L b<=L b)(mM:∀id,E.U id->∀(cur:Array Value) (e:TypeId) (f:Nat×Nat),W.heap[E.ι id]? =some (Obj.cells cur e f)->cur.size<=L (E.ι id)){a:AV}{v:Value}(r:RV E W a v)(h:bF (nE G a)):RV (eZ L) W (nE G a) v:=by
 unfold nE at h⊢;split at h
 ·rename_i xs
  rw[eM]at h;cases r with
  |agg _ vs hl hr=>
  refine .agg _ vs (by simpa using hl) fun i x v hx hv=> ?_
  rw[kJ]at hx;obtain⟨y,hy,rfl⟩:=map_some hx;exact X5 hG hL mM (hr i y v hy hv) (h _ (mF.2 ⟨y,fJ hy,rfl⟩))
 ·rename_i f xs ys
  cases h with
  |fn _ _ _ uF qT=>
  cases r with
  |fn _ _ _ vf vc hl dG hr mD=>
  refine .fn _ _ _ vf vc (by simpa using hl) (by simpa using dG) (fun i x v hx hv=> ?_) (fun i x v hx hv=> ?_)
  ·rw[kJ]at hx
   obtain⟨y,hy,rfl⟩:=map_some hx;exact X5 hG hL mM (hr i y v hy hv) (uF _ (mF.2 ⟨y,fJ hy,rfl⟩))
  ·rw[kJ]at hx
   obtain⟨y,hy,rfl⟩:=map_some hx;exact X5 hG hL mM (mD i y v hy hv) (qT _ (mF.2 ⟨y,fJ hy,rfl⟩))
 ·exact X5 hG hL mM r h
theorem bo5(hG:RC E W G)(hL:∀b,E.L b<=L b)(mM:∀id,E.U id->∀(cur:Array Value) (e:TypeId) (f:Nat×Nat),W.heap[E.ι id]? =some (Obj.cells cur e f)->cur.size<=L (E.ι id)){a:AV}{v:Value}(r:RV E W a v)(h:bF (EH G a)):RV (eZ L) W (EH G a) v:=by
 unfold EH at h⊢;split at h
 ·rename_i xs
  rw[fD]at h;cases r with
  |aK _ vs hl hr=>
  refine .aK _ vs (by simpa using hl) fun i x v hx hv=> ?_
  rw[kJ]at hx;obtain⟨y,hy,rfl⟩:=map_some hx;exact Vv hG hL mM (hr i y v hy hv) (h _ (mF.2 ⟨y,fJ hy,rfl⟩))
 ·exact Vv hG hL mM r h
end
theorem bo6{P:Program}{n:FuncId}{fn:Func}{c:Code}{args:List AV}{Q:AV->Prop}(hf:P.funcs[n]? =some fn)(hb:fn.body=some c)(eW:(fn.name== "runtime.NumGoroutine")=false)(hlen:args.length<=fn.ntmps)
  (h:AW P c ⟨jW 0 args,⟨0,bN []⟩,fn.ntmps⟩ (hold (bT P fn.results.toList (hold (fun a H'=>bF (EH H'.get a)/\Q (EH H'.get a)) ⟨⟩)) ⟨⟩)):eA P n args Q:=by
 have hA:=CN hf hb eW hlen h;refine⟨hA.1,fun L W vs hL hr=> ?_⟩
 have kI:RH (eZ L) W ⟨0,bN []⟩:=⟨fun id h=>h.elim,hL,fun id h=>h.elim,fun id b h=>by cases h⟩
 refine(hA.2 (eZ L) W vs kI hr).mono fun e W' ⟨v,he,E',r,H',hv,hH,iP,fM,hq⟩=> ?_
 refine⟨v,he,EH H'.get r,fun b=>if b<W.heap.size then L b else max (E'.L b) (match W'.heap[b]? with|some (.cells cur _ _)=>cur.size|_=>0),⟨hv.os,hv.tape,hv.output,hv.size,fun k hk=>hv.rJ k hk fun id h=>h.elim⟩,fun b cE=> ?_,fun b cE=> ?_,?_,fM,hq⟩
 ·simp[cE]
 ·have h1:¬b<W.heap.size:=by have:=hv.size;omega
  simp[h1,hH.core.lim b cE,OW cE]
 ·refine bo5 hH.core (fun b=> ?_) (fun id hU cur e f hc=> ?_) iP fM
  ·by_cases cE:b<W.heap.size
   ·rw[hv.still b cE fun id h=>h.elim]
    simp[cE,eZ]
   ·simp[cE];omega
  ·have h1:¬E'.ι id<W.heap.size:=by
    rcases hv.fresh id (fun h=>h) hU with h2|⟨sS,h2,_⟩
    ·omega
    ·exact h2.elim
   simp[h1,hc];omega
end Go.AL
