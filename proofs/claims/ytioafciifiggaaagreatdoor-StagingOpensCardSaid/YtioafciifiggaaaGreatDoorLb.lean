/- Staging. No condition. -/
import Derived.Test.YtioafciifiggaaaGreatDoorL0
import Derived.Test.YtioafciifiggaaaGreatDoorLa
import Derived.RangeFuncNested
set_option linter.all false
namespace Go.AL
open Go.RowKit
def qN(P:Program)(n:FuncId):Bool:=
 match P.funcs[n]? with
 |some fn=> !(fn.name== "runtime.NumGoroutine")&& !fn.body.isNone
 |none=>false
def gX(P:Program)(n:FuncId)(args:List AV)(H:Heap)(Q:AV->Heap->Prop):Prop:=
 qN P n=true/\∀(E:Env) (W:World) (vs:List Value),RH E W H->bP E W args vs->
  Calls P n vs.toArray W fun e W'=>∃v,e= .returned v/\∃E' r H',bD E W E' W'/\RH E' W' H'/\RV E' W' r v/\Q r H'
theorem gX.mono{P:Program}{n:FuncId}{args:List AV}{H:Heap}{Q Q':AV->Heap->Prop}(h:gX P n args H Q)(hq:∀r H',Q r H'->Q' r H'):gX P n args H Q':=
 ⟨h.1,fun E W vs hH hr=>(h.2 E W vs hH hr).mono fun e W' ⟨v,he,E',r,H',h1,h2,h3,h4⟩=>⟨v,he,E',r,H',h1,h2,h3,hq r H' h4⟩⟩
inductive bJ:AV->Prop
 |c (x:Value):bJ (.c x)
 |agg (xs:List AV) (h:∀x∈xs,bJ x):bJ (.agg xs)
 |aR (xs:List AV) (h:∀x∈xs,bJ x):bJ (.aR xs)
 |snap (rows:List (List AV)) (h:∀row∈rows,∀x∈row,bJ x):bJ (.snap rows)
 |dJ (rows:List (List AV)) (i o:Nat) (h:∀row∈rows,∀x∈row,bJ x):bJ (.dJ rows i o)
 |fn (f:Fn) (first cap:List AV) (h:∀x∈first,bJ x) (h2:∀x∈cap,bJ x):bJ (.fn f first cap)
theorem eU(x:Value):bJ (.c x):= .c x
theorem e8{xs:List AV}:bJ (.agg xs)↔∀x∈xs,bJ x:=⟨fun h=>by cases h;assumption,.agg xs⟩
theorem eN{xs:List AV}:bJ (.aR xs)↔∀x∈xs,bJ x:=⟨fun h=>by cases h;assumption,.aR xs⟩
theorem eF{rows:List (List AV)}:bJ (.snap rows)↔∀row∈rows,∀x∈row,bJ x:=⟨fun h=>by cases h;assumption,.snap rows⟩
def fM(L:Nat->Nat):Env:=⟨fun _=>0,fun _=>0,fun _=>False,L⟩
theorem RV.qO{E:Env}{W:World}{L:Nat->Nat}(hL:∀b,E.L b<=L b){a:AV}{v:Value}(r:RV E W a v)(h:bJ a):RV (fM L) W a v:=by
 induction r with
 |c x hx=>exact .c x hx
 |agg xs vs hl _ ih=>
  rw[e8]at h;exact .agg xs vs hl fun i x v hx hv=>ih i x v hx hv (h x (eY hx))
 |aR xs vs hl _ ih=>
  rw[eN]at h;exact .aR xs vs hl fun i x v hx hv=>ih i x v hx hv (h x (eY hx))
 |snap rows b off s n cap vs hn oG hs JR hc hr ih=>
  rw[eF]at h;exact .snap rows b off s n cap vs hn oG hs (uA JR (hL b)) hc fun i j row x h1 h2=>ih i j row x h1 h2 (h row (eY h1) x (eY h2))
 |kY a cap=>exact .kY a cap
 |dJ rows i o b off s vs hs JR hc hr ih=>
  cases h with
  |dJ _ _ _ h=>
  exact .dJ rows i o b off s vs hs (uA JR (hL b)) hc fun i j row x h1 h2=>ih i j row x h1 h2 (h row (eY h1) x (eY h2))
 |own id off len cap aC eA dX=>cases h
 |mF id off a aC=>cases h
 |sub id i o len cap aC eA dX=>cases h
 |ptr id i o aC=>cases h
 |fn f first cap vf vc hl bQ _ _ E7 E8=>
  cases h with
  |fn _ _ _ h h2=>
  exact .fn f first cap vf vc hl bQ (fun i x v hx hv=>E7 i x v hx hv (h x (eY hx))) (fun i x v hx hv=>E8 i x v hx hv (h2 x (eY hx)))
 |omap id aC=>cases h
 |jF id aC=>cases h
theorem RV.GM{E:Env}{W:World}{L:Nat->Nat}(hL:∀b,L b<=E.L b){a:AV}{v:Value}(r:RV (fM L) W a v):RV E W a v:=by
 induction r with
 |c x hx=>exact .c x hx
 |agg xs vs hl _ ih=>exact .agg xs vs hl ih
 |aR xs vs hl _ ih=>exact .aR xs vs hl ih
 |snap rows b off s n cap vs hn oG hs JR hc hr ih=>exact .snap rows b off s n cap vs hn oG hs (uA JR (hL b)) hc ih
 |kY a cap=>exact .kY a cap
 |dJ rows i o b off s vs hs JR hc hr ih=>exact .dJ rows i o b off s vs hs (uA JR (hL b)) hc ih
 |own id off len cap aC eA dX=>exact aC.elim
 |mF id off a aC=>exact aC.elim
 |sub id i o len cap aC eA dX=>exact aC.elim
 |ptr id i o aC=>exact aC.elim
 |fn f first cap vf vc hl bQ _ _ E7 E8=>exact .fn f first cap vf vc hl bQ E7 E8
 |omap id aC=>exact aC.elim
 |jF id aC=>exact aC.elim
theorem bP.qO{E:Env}{W:World}{L:Nat->Nat}(hL:∀b,E.L b<=L b){as:List AV}{vs:List Value}(r:bP E W as vs)(h:∀a∈as,bJ a):bP (fM L) W as vs:=
 ⟨r.1,fun i x v hx hv=>(r.2 i x v hx hv).qO hL (h x (eY hx))⟩
def fD(P:Program)(n:FuncId)(args:List AV)(Q:AV->Prop):Prop:=
 qN P n=true/\∀(L:Nat->Nat) (W:World) (vs:List Value),(∀b,W.heap.size<=b->L b=0)->bP (fM L) W args vs->
  Calls P n vs.toArray W fun e W'=>∃v,e= .returned v/\∃r L',Below W.heap.size W W'/\(∀b,b<W.heap.size->L' b=L b)/\(∀b,W'.heap.size<=b->L' b=0)/\RV (fM L') W' r v/\bJ r/\Q r
theorem fD.run{P:Program}{n:FuncId}{args:List AV}{Q:AV->Prop}(h:fD P n args Q)(ha:∀a∈args,bJ a){E:Env}{W:World}{H:Heap}(hH:RH E W H){vs:List Value}(hr:bP E W args vs):
  Calls P n vs.toArray W fun e W'=>∃v,e= .returned v/\∃r L',bD E W ⟨E.ι,E.sz,E.U,L'⟩ W'/\RH ⟨E.ι,E.sz,E.U,L'⟩ W' H/\RV ⟨E.ι,E.sz,E.U,L'⟩ W' r v/\bJ r/\Q r:=by
 refine(h.2 E.L W vs hH.core.lim (hr.qO (fun _=>cA _) ha)).mono fun e W' ⟨v,he,r,L',hb,h2,h3,h4,h5,h6⟩=> ?_
 have bG:∀b k,k<E.L b->b<W.heap.size:=fun b k hk=>by
  rcases lU b W.heap.size with h|h
  ·exact h
  ·have:=hH.core.lim b h;omega
 have hv:bD E W ⟨E.ι,E.sz,E.U,L'⟩ W':=by
  refine⟨hb.os,hb.tape,hb.output,hb.size,fun _ h=>h,fun _ _=>⟨rfl,rfl⟩,fun b=> ?_,fun b k hk=> ?_,fun b bZ _=>hb.block b bZ,fun b cur e f hc=> ?_,fun b bZ _=>h2 b bZ,fun id h h'=>absurd h' h,fun b r h=>⟨r,by rw[hb.block b (jB.1 h).1];exact h,rfl⟩⟩
  ·rcases lU b W.heap.size with h|h
   ·exact Z9 (h2 b h).symm
   ·rw[hH.core.lim b h];exact mT _
  ·exact hb.cell (p:=⟨b,k,none⟩) (bG b k hk)
  ·exact⟨cur,f,by rw[hb.block b (jB.1 hc).1];exact hc,rfl⟩
 refine⟨v,he,r,L',hv,⟨hH.next,h3,fun id hU=>vQ (hH.core.eX id hU) hb.size,fun id b hg=> ?_⟩,h4.GM (fun _=>cA _),h5,h6⟩
 obtain⟨hU,cK⟩:=hH.core.ok id b hg;have tY:=hH.core.eX id hU;exact⟨hU,cK.mono hv hU (hb.block _ tY) (h2 _ tY) fun aK b' _ dA vK=>⟨b',dA,vK,rfl,fun h=>h⟩⟩
theorem gX.pure{P:Program}{n:FuncId}{args:List AV}{Q:AV->Prop}(h:fD P n args Q)(ha:∀a∈args,bJ a){H:Heap}{K:AV->Heap->Prop}(hk:∀r,bJ r->Q r->K r H):gX P n args H K:=
 ⟨h.1,fun E W vs hH hr=>(h.run ha hH hr).mono fun e W' ⟨v,he,r,L',h1,h2,h3,h4,h5⟩=>⟨v,he,_,r,H,h1,h2,h3,hk r h4 h5⟩⟩
end Go.AL
namespace Go.AL
open Go.RowKit
def rR(P:Program)(n:FuncId)(args:List AV)(e:TypeId)(k:Nat)(rows:List (List AV)):Prop:=
 qN P n=true/\∀(E:Env) (W:World) (G:Nat->Option aI) (aG:Nat) (vs:List Value),RC E W G->¬E.U aG->bP E W args vs->
  Calls P n vs.toArray W fun x W'=>∃v,x= .returned v/\∃E',bD E W E' W'/\RC E' W' (aS G [(aG,some (.cells e k rows true true))])/\RV E' W' (.own aG 0 rows.length) v/\∀id,E'.U id->E.U id\/id=aG
theorem aY3{P:Program}{n:FuncId}{args:List AV}{e:TypeId}{k:Nat}{rows:List (List AV)}(ha:∀a∈args,bJ a)(dB:∀row∈rows,∀x∈row,bJ x)
  (h:gX P n args ⟨0,dH []⟩ fun r H'=>∃i,r= .own i 0 rows.length/\H'.get i=some (.cells e k rows true true)):rR P n args e k rows:=by
 refine⟨h.1,fun E W G aG vs hG gU hr=> ?_⟩
 have lR:RH (fM E.L) W ⟨0,dH []⟩:=⟨fun id h=>h.elim,hG.lim,fun id h=>h.elim,fun id b h=>by cases h⟩
 refine(h.2 (fM E.L) W vs lR (hr.qO (fun _=>cA _) ha)).mono fun x W' ⟨v,he,E1,r,H',hv,hH,iF,i,BC,iE⟩=> ?_
 subst BC;obtain⟨BD,gM⟩:=hH.core.ok i _ iE;obtain⟨dX,hlen,⟨cur,bU,hle,fH⟩,I8,ha1⟩:=gM;have kX:=(I8 rfl).1
 have tD:W.heap.size<=E1.ι i:=by
  rcases hv.fresh i (fun h=>h) BD with h1|⟨rF,h1,_⟩
  ·exact h1
  ·exact h1.elim
 have bG:E1.ι i<W'.heap.size:=hH.core.eX i BD;have SE:∀b,b<W.heap.size->E1.L b=E.L b:=fun b hb=>hv.still b hb fun id h=>h.elim
 have hold:∀b,b<W.heap.size->W'.heap[b]? =W.heap[b]? :=fun b hb=>hv.sD b hb fun id h=>h.elim
 have Ft:∀b,E.L b<=E1.L b:=hv.lim
 let E':Env:=⟨fun id=>if id=aG then E1.ι i else E.ι id,fun id=>if id=aG then k else E.sz id,fun id=>E.U id\/id=aG,E1.L⟩
 have dY:∀id,E.U id->E'.ι id=E.ι id:=fun id aC=>by
  show(if id=aG then _ else _)=_
  rw[if_neg];rintro rfl;exact gU aC
 have hs:∀id,E.U id->E'.sz id=E.sz id:=fun id aC=>by
  show(if id=aG then _ else _)=_
  rw[if_neg];rintro rfl;exact gU aC
 have iX:E'.ι aG=E1.ι i:=by show(if aG=aG then _ else _)=_;rw[if_pos rfl]
 have fW:E'.sz aG=k:=by show(if aG=aG then _ else _)=_;rw[if_pos rfl]
 have z8:bD E W E' W':=by
  refine⟨hv.os,hv.tape,hv.output,hv.size,fun id h=> .inl h,fun id aC=>⟨dY id aC,hs id aC⟩,Ft,hv.yB,fun b hb _=>hold b hb,hv.cD,fun b hb _=>SE b hb,fun id h1 h2=> ?_,hv.loops⟩
  rcases h2 with h2|h2
  ·exact absurd h2 h1
  ·subst h2;rw[iX];exact .inl tD
 have bH:∀{x u},RV E1 W' x u->bJ x->RV E' W' x u:=fun hx hn=>RV.GM (E:=E') (L:=E1.L) (fun _=>cA _) (hx.qO (L:=E1.L) (fun _=>cA _) hn)
 have AM:∀id,E.U id->E'.ι id≠E1.ι i:=fun id aC heq=>by
  rw[dY id aC]at heq;have:=hG.eX id aC;omega
 refine⟨v,he,E',z8,⟨hH.core.lim,fun id aC=> ?_,fun id b hb=> ?_⟩,?_,fun id h=>h⟩
 ·rcases aC with aC|aC
  ·rw[dY id aC];exact vQ (hG.eX id aC) hv.size
  ·subst aC;rw[iX];exact bG
 ·simp only[aS]at hb
  by_cases aC:id=aG
  ·subst aC
   rw[if_pos rfl]at hb;injection hb with hb
   subst hb;refine⟨.inr rfl,fW,hlen,⟨cur,by rw[iX];exact bU,hle,fun i' j row x h1 h2=> ?_⟩,fun _=>⟨by rw[iX];exact kX,fun aK b' aM dA heq=> ?_⟩,fun _=>⟨by rw[iX];show E1.L _<=_;rw[kX];exact mT _,fun aK b' aM dA heq=> ?_⟩⟩
   ·obtain⟨u,h3,h4⟩:=fH i' j row x h1 h2
    exact⟨u,h3,bH h4 (dB row (eY h1) x (eY h2))⟩
   ·rw[iX]at heq
    simp only[aS,if_neg aM]at dA;exact AM aK (hG.ok aK b' dA).1 heq
   ·rw[iX]at heq
    simp only[aS,if_neg aM]at dA;exact absurd heq (AM aK (hG.ok aK b' dA).1)
  ·rw[if_neg aC]at hb
   obtain⟨hU,cK⟩:=hG.ok id b hb;have tY:=hG.eX id hU;refine⟨.inl hU,cK.mono z8 hU (hold _ tY) (SE _ tY) fun aK b' aM dA heq=> ?_⟩
   simp only[aS]at dA;by_cases uZ:aK=aG
   ·subst uZ
    rw[iX]at heq;omega
   ·rw[if_neg uZ]at dA
    exact⟨b',dA,by rw[<-heq,dY aK (hG.ok aK b' dA).1],rfl,fun h=>h⟩
 ·rcases(tO iF).2 with⟨cap,rfl,eA,EF,e2,f2,h4,h5⟩|⟨mZ,a,rfl⟩
  ·have:=RV.own (E:=E') (W:=W') aG 0 rows.length cap (.inr rfl) eA ⟨EF,e2,f2,by rw[iX];exact h4,by rw[fW,<-dX];exact h5⟩
   rw[iX,fW]at this;simpa[dX]using this
  ·rw[mZ]
   exact .mF _ _ _ (.inr rfl)
theorem rR.run{P:Program}{n:FuncId}{args:List AV}{e:TypeId}{k:Nat}{rows:List (List AV)}(h:rR P n args e k rows){H:Heap}:
  gX P n args H fun r H'=>r= .own H.next 0 rows.length/\H'=⟨H.next+1,aS H.get [(H.next,some (.cells e k rows true true))]⟩:=
 ⟨h.1,fun E W vs hH hr=>(h.2 E W H.get H.next vs hH.core (fun hU=>KX _ (hH.next _ hU)) hr).mono fun x W' ⟨v,he,E',h1,h2,h3,h4⟩=>
   ⟨v,he,E',_,_,h1,⟨fun id aC=>by
     rcases h4 id aC with h5|h5
     ·exact PF (hH.next id h5)
     ·subst h5;exact D4 _,h2⟩,h3,rfl,rfl⟩⟩
end Go.AL
namespace Go.AL
open Go.RowKit
structure AS where
 env:List (Nat×Bool×AV)
 H:Heap
 nt:Nat
def yG(a b:Bool):Bool:= !a||b
def AS.get(σ:AS)(c:Bool):Operand->Option AV
 | .tmp t=>match lk σ.env t with
   |some (c',a)=>if yG c c'=true then some a else none
   |none=>none
 | .const v=>zL v
 | .global g=>some (.c (.pointer (some ⟨g,0,none⟩)))
 | .func f=>some (.fn (.func f) [] [])
def AS.put(σ:AS)(dst:Option Tmp)(c:Bool)(a:AV):AS:=
 match dst with
 |none=>σ
 |some d=>{σ with env:=(d,c,a)::σ.env}
def Heap.app(H:Heap)(wr:List (Nat×Option aI)):Heap:={next:=if wr.isEmpty then H.next else H.next+1,get:=aS H.get wr}
def qP(D:Nat):Deferred:={target:= .collected D,args:= #[]}
theorem Ty{D D':Nat}(h:qP D=qP D'):D=D':=by unfold qP at h;injection h with h;injection h
def wT(d:Deferred):Bool:=match d.target with
 | .collected _=>true
 |_=>false
def oX(ds:List Deferred):List Deferred:=ds.filter fun d=> !wT d
theorem aY5{ds:List Deferred}{Ds:List Nat}(h:ds.filter wT=Ds.map qP){D:Nat}(hD:qP D∈ds):D∈Ds:=by
 have h1:qP D∈ds.filter wT:=HI.2 ⟨hD,rfl⟩;rw[h]at h1;obtain⟨D',h2,h3⟩:=mS.1 h1;rw[<-Ty h3];exact h2
theorem N7{ds:List Deferred}{Ds:List Nat}(h:ds.filter wT=Ds.map qP){D:Nat}(hD:D∈Ds):qP D∈ds:=by
 have h1:qP D∈Ds.map qP:=List.mem_map_of_mem hD;rw[<-h]at h1;exact(HI.1 h1).1
def Marks(E:Env)(W:World)(ds:List Deferred):Prop:=∃Ds:List Nat,ds.filter wT=Ds.map qP/\Ds.Nodup/\∀D∈Ds,W.heap[D]? =some (.deferred (some []))/\∀id,E.U id->E.ι id≠D
theorem Marks.nil(E:Env)(W:World):Marks E W []:=⟨[],rfl,List.nodup_nil,fun D h=>by cases h⟩
theorem Marks.push{E:Env}{W:World}{ds:List Deferred}{d:Deferred}(h:Marks E W ds)(hd:wT d=false):Marks E W (d::ds):=by
 obtain⟨Ds,h1,h2,h3⟩:=h;exact⟨Ds,by rw[UE (by simp[hd])];exact h1,h2,h3⟩
theorem Marks.mono{E E':Env}{W W':World}{ds:List Deferred}(h:Marks E W ds)(hv:bD E W E' W'):Marks E' W' ds:=by
 obtain⟨Ds,h1,h2,h3⟩:=h;refine⟨Ds,h1,h2,fun D hD=> ?_⟩
 obtain⟨h4,h5⟩:=h3 D hD;have bG:D<W.heap.size:=(jB.1 h4).1;refine⟨(hv.sD D bG h5).trans h4,fun id aC=> ?_⟩
 by_cases hU:E.U id
 ·rw[(hv.jL id hU).1];exact h5 id hU
 ·rcases hv.fresh id hU aC with h6|⟨rF,h6,h7⟩
  ·omega
  ·rw[<-h7];exact h5 rF h6
def kN(ro:Option Nat):Fence:={Fence.wide with round:=ro}
def N8(ro:Option Nat)(W:World):Prop:=∀l,ro=some l->∃r,W.heap[l]? =some (.loop r)
theorem N8.mono{ro:Option Nat}{E E':Env}{W W':World}(h:N8 ro W)(hv:bD E W E' W'):N8 ro W':=fun l hl=>by
 obtain⟨r,hr⟩:=h l hl;obtain⟨r',h1,_⟩:=hv.loops l r hr;exact⟨r',h1⟩
theorem zQ{ro:Option Nat}{n:Nat}{P:Program}{f:FuncId}{args:Array Value}{w:World}{R:Ending->World->Prop}(h:Calls P f args w R):CallsIn (kN ro) n P f args w R:=
 (callsIn_wide (n:=n)).2 h
theorem yH{ro:Option Nat}{n:Nat}:((kN ro).depth.isSome=true->1<=n):=fun h=>by simp[kN,Fence.wide]at h
structure eB(E:Env)(W:World)(act:Act)(E':Env)(W':World)(cE:Act):Prop where
 oY:bD E W E' W'
 new:∀D,qP D∈cE.defers->qP D∈act.defers\/W.heap.size<=D
 BE:oX cE.defers=oX act.defers
theorem eB.of{E E':Env}{W W':World}{act cE:Act}(hv:bD E W E' W')(hd:cE.defers=act.defers):eB E W act E' W' cE:=⟨hv,(fun D h=> .inl (hd▸h)),by rw[hd]⟩
theorem eB.refl(E:Env)(W:World)(act:Act):eB E W act E W act:= .of (bD.refl E W) rfl
theorem eB.trans{E E' wP:Env}{W W' E6:World}{act cE XQ:Act}(h:eB E W act E' W' cE)(k:eB E' W' cE wP E6 XQ):eB E W act wP E6 XQ:=
 ⟨h.oY.trans k.oY,fun D hD=>by
   rcases k.new D hD with h1|h1
   ·exact h.new D h1
   ·exact .inr (uA h.oY.size h1),k.BE.trans h.BE⟩
theorem Act.put_defers(a:Act)(dst:Option Tmp)(v:Value):(a.put dst v).defers=a.defers:=by unfold Act.put;split<;>rfl
structure Rel(E:Env)(W:World)(σ:AS)(act:Act):Prop where
 defers:Marks E W act.defers
 size:act.tmps.size=σ.nt
 env:∀t c a,lk σ.env t=some (c,a)->∃v,act.tmps[t]? =some v/\(c=true->RV E W a v)/\(c=false->v=undef)
 heap:RH E W σ.H
theorem Rel.get{E:Env}{W:World}{σ:AS}{act:Act}(h:Rel E W σ act){c:Bool}(hc:c=true){x:Operand}{a:AV}(hx:σ.get c x=some a):RV E W a (act.eval x):=by
 subst hc;cases x with
 |tmp t=>
  simp only[AS.get]at hx;split at hx
  ·rename_i c' a' s6
   split at hx
   ·rename_i him
    injection hx with hx
    subst hx;obtain⟨v,h1,h2⟩:=h.env t c' a' s6;simp only[Act.eval];rw[show act.tmps.getD t undef=v by simp[h1]]
    exact h2.1 (by simpa[yG]using him)
   ·cases hx
  ·cases hx
 |const v=>exact RV.zL hx
 |global g=>injection hx with hx;subst hx;exact .c _ rfl
 |func f=>injection hx with hx;subst hx;exact .fn _ [] [] #[] #[] rfl rfl (fun i x v h=>by simp at h) (fun i x v h=>by simp at h)
def fT(n:Nat)(o:Oper):Bool:=
 match o.dst with
 |none=>true
 |some d=>d<n
theorem Rel.put{E:Env}{W:World}{σ:AS}{act:Act}(h:Rel E W σ act){dst:Option Tmp}(hd:match dst with|none=>True|some d=>d<σ.nt){c:Bool}{a:AV}{v:Value}(r:c=true->RV E W a v)(r0:c=false->v=undef):Rel E W (σ.put dst c a) (act.put dst v):=by
 cases dst with
 |none=>exact h
 |some d=>
  refine⟨by simpa[Act.put]using h.defers,by simp[Act.put,AS.put,h.size],fun t c' b hb=> ?_,h.heap⟩
  simp only[AS.put,lk]at hb;split at hb
  ·rename_i ht
   subst ht;simp only[bB,bY]at hb;obtain⟨rfl,rfl⟩:=hb;refine⟨v,?_,r,r0⟩;simp only at hd;simp[Act.put,h.size,hd]
  ·rename_i ht
   obtain⟨u,h1,h2⟩:=h.env t c' b hb;exact⟨u,by simp only[Act.put];rw[ZA (mV ht)];exact h1,h2⟩
theorem Rel.mono{E E':Env}{W W':World}{σ:AS}{act:Act}(h:Rel E W σ act)(hv:bD E W E' W'){H':Heap}(hH:RH E' W' H'):Rel E' W' {σ with H:=H'} act:=
 ⟨h.defers.mono hv,h.size,fun t c a ha=>let ⟨v,h1,h2⟩:=h.env t c a ha;⟨v,h1,fun hc=>(h2.1 hc).mono hv,h2.2⟩,hH⟩
def Split(b:Bool)(X Y:Prop):Prop:=(b=true->X)/\(b=false->Y)
def XR(b want:Bool):Bool:=
 match want with
 |true=>b
 |false=> !b
def nW(ops:List Oper)(j:Nat)(env:List (Nat×Bool×AV)):Option (Bool×AV):=
 match ops[j]? with
 |some o=>match o.dst with
  |some t=>lk env t
  |none=>none
 |none=>none
def parts:Op->Bool
 | .indexAddr _ _ (.tmp _)=>true
 | .index _ _ (.tmp _)=>true
 | .slice .. =>true
 |_=>false
universe u v
structure Tag{α:Sort u}(a:α):Type where
def hold{α:Sort u}(a:α)(_:Tag a):α:=a
def nO{α:Type}(x:Option α)(K:α->Prop):Prop:=
 match x with
 |some a=>K a
 |none=>False
def wU{α:Type}(x:Option α)(K:α->Prop)(F:Prop):Prop:=
 match x with
 |some a=>K a
 |none=>F
theorem vL{α:Type}{a:α}{K:α->Prop}:nO (some a) K=K a:=rfl
theorem GN{α:Type}{x:Option α}{K:α->Prop}(h:nO x K):∃a,x=some a/\K a:=by
 cases x with
 |none=>exact h.elim
 |some a=>exact⟨a,rfl,h⟩
def jM:Option AV->Option Bool
 |some (.c (.bool b))=>some b
 |_=>none
theorem zR{x:Option AV}{b:Bool}(h:jM x=some b):x=some (.c (.bool b)):=by
 unfold jM at h;split at h
 ·injection h with h;subst h;rfl
 ·cases h
def fL:Option AV->Option (List AV)->Option (FuncId×List AV)
 |some (.fn (.func n) first cap),some as=>some (n,first++as++cap)
 |_,_=>none
theorem yI{x:Option AV}{y:Option (List AV)}{n:FuncId}{args:List AV}(h:fL x y=some (n,args)):∃first cap as,x=some (.fn (.func n) first cap)/\y=some as/\args=first++as++cap:=by
 unfold fL at h;split at h
 ·simp only[bB,bY]at h
  obtain⟨rfl,rfl⟩:=h;exact⟨_,_,_,rfl,rfl,rfl⟩
 ·cases h
def yJ:Option Bool->Option Bool->Option (Bool×Bool)
 |some p,some q=>some (p,q)
 |_,_=>none
theorem Fu{x y:Option Bool}{p q:Bool}(h:yJ x y=some (p,q)):x=some p/\y=some q:=by
 unfold yJ at h;split at h
 ·simp only[bB,bY]at h
  obtain⟨rfl,rfl⟩:=h;exact⟨rfl,rfl⟩
 ·cases h
def JS:Option jG->Option AV
 |some (a,[],_)=>some a
 |_=>none
theorem aY7{x:Option jG}{a:AV}(h:JS x=some a):∃rd,x=some (a,[],rd):=by
 unfold JS at h;split at h
 ·injection h with h;subst h;exact⟨_,rfl⟩
 ·cases h
def oH(x:Option (Bool×AV))(want:Bool):Option Bool:=
 match x with
 |some (c,.c (.bool b))=>some (c&&XR b want)
 |_=>none
theorem Tz{x:Option (Bool×AV)}{want c0:Bool}(h:oH x want=some c0):∃c b,x=some (c,.c (.bool b))/\c0=(c&&XR b want):=by
 unfold oH at h;split at h
 ·injection h with h;exact⟨_,_,rfl,h.symm⟩
 ·cases h
def AW(P:Program)(c:Code)(σ:AS)(Q:Exit->AS->Prop):Prop:=
 ∀(ro:Option Nat) (E:Env) (W:World) (act:Act),N8 ro W->Rel E W σ act->c.wpIn (kN ro) 3 P (fun e cE W'=>∃E' aL,eB E W act E' W' cE/\Rel E' W' aL cE/\aL.nt=σ.nt/\Q e aL) act W
def iQ(H:Heap)(id:Nat)(b:Option aI):Heap:=⟨H.next,aS H.get [(id,b)]⟩
def CT:List Tmp->List AV->List (Nat×Bool×AV)->List (Nat×Bool×AV)
 |p::ps,a::as,env=>CT ps as ((p,true,a)::env)
 |_,_,env=>env
def EH(id:Nat)(env:List (Nat×Bool×AV))(nt:Nat)(ps:List Tmp)(A B:Code)(K:Bool->Heap->Prop):Exit->AS->Prop
 | .normal,σ=>∃env nt ps A B,σ.H.get id=some (.cJ env nt ps A B .busy none)/\K true (iQ σ.H id (some (.cJ env nt ps A B .ready none)))
 | .ret,σ=>∃env nt ps A B,σ.H.get id=some (.cJ env nt ps A B .busy none)/\K false (iQ σ.H id (some (.cJ env nt ps A B .done (some .ret))))
 | .exit i,σ=>∃env nt ps A B,σ.H.get id=some (.cJ env nt ps A B .busy none)/\K false (iQ σ.H id (some (.cJ env nt ps A B .done (some (.exit i)))))
 |_,_=>False
def JT(P:Program)(id:Nat)(env:List (Nat×Bool×AV))(nt:Nat)(ps:List Tmp)(A B:Code)(K:Bool->Heap->Prop):Exit->AS->Prop
 | .normal,σ=>∃env nt ps A' B',σ.H.get id=some (.cJ env nt ps A' B' .ready none)/\AW P B ⟨σ.env,iQ σ.H id (some (.cJ env nt ps A' B' .busy none)),σ.nt⟩ (hold (EH id env nt ps A' B' K) ⟨⟩)
 |_,_=>False
def Ua(P:Program)(σ:AS)(f:Option AV)(as:Option (List AV))(K:Bool->Heap->Prop):Prop:=
 ∃(id:Nat) (args:List AV) (env:List (Nat×Bool×AV)) (nt:Nat) (ps:List Tmp) (A B:Code),f=some (.jF id)/\as=some args/\σ.H.get id=some (.cJ env nt ps A B .ready none)/\args.length=ps.length/\ps.all (fun p=>decide (p<nt))=true/\
  AW P A ⟨CT ps args env,σ.H,nt⟩ (hold (JT P id env nt ps A B K) ⟨⟩)
def Ub(H:Heap)(x:Option AV)(K:AV->Heap->Prop):Prop:=
 ∃(id m n:Nat) (seen:List Nat) (es:List (Value×AV)),x=some (.ptr id 0 0)/\H.get id=some (.iter m n seen)/\H.get m=some (.map es)/\es.length=n/\(∀p∈es,SA p.1=true)/\
  ((∀i,i<n->i∈seen)->K (.aR [.c (.bool false)]) H)/\
  ∀i k a,i<n->i∉seen->es[i]? =some (k,a)->K (.aR [.c (.bool true),S9 k,a]) (iQ H id (some (.iter m n (seen++[i]))))
section
variable (P : Program)
def oZ(o:Oper)(σ:AS)(K:AS->Prop):Prop:=
 match o.op with
 | .call ⟨.value f,as,_⟩=>nO (fL (σ.get true f) (dO (σ.get true) as.toList)) (hold (fun p=>gX P p.1 p.2 σ.H (hold (fun r H'=>K (({σ with H:=H'}:AS).put o.dst true r)) ⟨⟩)) ⟨⟩)\/
     Ua P σ (σ.get true f) (dO (σ.get true) as.toList) (hold (fun b H'=>K (({σ with H:=H'}:AS).put o.dst true (.c (.bool b)))) ⟨⟩)
 | .pick b x y=>nO (jM (σ.get true b)) (hold (fun b=>wU (yJ (jM (σ.get b x)) (jM (σ.get (!b) y))) (hold (fun pq=>K (σ.put o.dst true (.c (.bool (cond b pq.1 pq.2))))) ⟨⟩)
     (hold (Split b (hold (nO (σ.get true x) (hold (fun a=>K (σ.put o.dst true a)) ⟨⟩)) ⟨⟩) (hold (nO (σ.get true y) (hold (fun a=>K (σ.put o.dst true a)) ⟨⟩)) ⟨⟩)) ⟨⟩)) ⟨⟩)
 | .next x false=>Ub σ.H (σ.get true x) (hold (fun r H'=>K (({σ with H:=H'}:AS).put o.dst true r)) ⟨⟩)
 |_=>nO (res P (σ.get true) σ.H.get σ.H.next o) (hold (fun r=>K (({σ with H:=σ.H.app r.2.1}:AS).put o.dst true r.1)) ⟨⟩)
def aY8(c:Bool)(n:FuncId)(args:List AV)(K:AV->Prop):Prop:=∃r,(c=true->(∀a∈args,bJ a)/\fD P n args (·=r))/\K r
def N9(o:Oper)(σ:AS)(c:Bool)(K:AS->Prop):Prop:=
 match o.op with
 | .call ⟨.value f,as,_⟩=>wU (fL (σ.get c f) (dO (σ.get c) as.toList)) (hold (fun p=>aY8 P c p.1 p.2 (hold (fun r=>K (σ.put o.dst c r)) ⟨⟩)) ⟨⟩) (hold (Split c (hold (oZ P o σ K) ⟨⟩) (hold (K (σ.put o.dst true (.c undef))) ⟨⟩)) ⟨⟩)
 | .pick b x y=>wU (jM (σ.get c b)) (hold (fun b=>wU (yJ (jM (σ.get (c&&b) x)) (jM (σ.get (c&& !b) y))) (hold (fun pq=>K (σ.put o.dst c (.c (.bool (cond b pq.1 pq.2))))) ⟨⟩)
     (hold (Split c (hold (oZ P o σ K) ⟨⟩) (hold (K (σ.put o.dst true (.c undef))) ⟨⟩)) ⟨⟩)) ⟨⟩) (hold (Split c (hold (oZ P o σ K) ⟨⟩) (hold (K (σ.put o.dst true (.c undef))) ⟨⟩)) ⟨⟩)
 |_=>wU (if parts o.op=true then none else JS (res P (σ.get c) σ.H.get σ.H.next o)) (hold (fun a=>K (σ.put o.dst c a)) ⟨⟩) (hold (Split c (hold (oZ P o σ K) ⟨⟩) (hold (K (σ.put o.dst true (.c undef))) ⟨⟩)) ⟨⟩)
def Uc(o:Oper)(σ:AS)(c:Bool)(K:AS->Prop):Prop:=((c=false/\K (σ.put o.dst false (.c (.bool false))))\/(c=true/\oZ P o σ K))\/N9 P o σ c K
def Fv(o:Oper)(σ:AS)(c:Bool)(K:AS->Prop):Prop:=
 match c with
 |true=>oZ P o σ K
 |false=>K (σ.put o.dst true (.c undef))
def mQ(ic:Bool)(ops:Array Oper)(o:Oper)(σ:AS)(K:AS->Prop):Prop:=
 match o.guard with
 |none=>oZ P o σ K
 |some (j,want)=>nO (oH (nW ops.toList j σ.env) want) (hold (fun c=>match ic with
  |true=>Uc P o σ c K
  |false=>Fv P o σ c K) ⟨⟩)
def aX(ic:Bool)(ops:Array Oper):List Oper->AS->(AS->Prop)->Prop
 |[],σ,K=>K σ
 |o::r,σ,K=>mQ P ic ops o σ (hold (fun aL=>aX ic ops r aL K) ⟨⟩)
end
theorem yK{P:Program}{n:FuncId}(h:qN P n=true)(args:Array Value)(w:World):(callFunc n args).run P w= .ok (.enter n args) w:=by
 unfold qN at h;split at h
 ·rename_i fn hf
  simp only[jX,Bool.not_eq_true']at h;unfold callFunc;rw[Sem.run_bind,run_program];simp only[Result.andThen_ok,hf,h.1,h.2,kV,if_false,Sem.run_pure]
 ·cases h
theorem RC.unused{E:Env}{W:World}{G:Nat->Option aI}(hG:RC E W G){aG:Nat}(hn:¬E.U aG):G aG=none:=by
 cases h:G aG with
 |none=>rfl
 |some b=>exact absurd (hG.ok aG b h).1 hn
theorem AS.sF(σ:AS)(dst:Option Tmp)(c:Bool)(a:AV):(σ.put dst c a).nt=σ.nt:=by unfold AS.put;split<;>rfl
theorem oI{n:Nat}{o:Oper}(hd:fT n o=true):match o.dst with|none=>True|some d=>d<n:=by
 unfold fT at hd;split at hd<;>simp_all
theorem Ud{P:Program}{g:Operand->Option AV}{G:Nat->Option aI}{aG:Nat}{o:Oper}{x:jG}(h:res P g G aG o=some x):∀c,o.op≠ .defer c:=fun c hc=>by
 unfold res at h;rw[hc]at h;simp at h
theorem Ue{P:Program}{g:Operand->Option AV}{G:Nat->Option aI}{aG:Nat}{o:Oper}{x:Operand}{s:Bool}(h:o.op= .next x s):res P g G aG o=none:=by
 unfold res;rw[h]
theorem Uf{P:Program}{o:Oper}{σ:AS}{c:Bool}(hc:c=true){a:AV}{wr:List (Nat×Option aI)}{rd:List Nat}(kZ:res P (σ.get c) σ.H.get σ.H.next o=some (a,wr,rd))(hd:fT σ.nt o=true){E:Env}{W:World}{act:Act}(hr:Rel E W σ act)
  {next:Act->World->Prop} {Q:Exit->Act->World->Prop} {ro:Option Nat} (hn:∀E' W' v,bD E W E' W'->Rel E' W' (({σ with H:=σ.H.app wr}:AS).put o.dst c a) (act.put o.dst v)->next (act.put o.dst v) W'):o.wpIn (kN ro) 3 P act W next Q:=by
 have cK:=Tx kZ;have tD:¬E.U σ.H.next:=fun hU=>KX _ (hr.heap.next _ hU)
 obtain⟨W',v,E',dF,hv,hG,iF,hU⟩:=cK E W act.eval hr.heap.core tD (fun x b hb=>hr.get hc hb)
 have lR:RH E' W' (σ.H.app wr):=⟨fun id aC=>by
  by_cases hw:wr=[]
  ·subst hw
   rcases hU id aC with h1|⟨h1,h2⟩
   ·simpa[Heap.app]using hr.heap.next id h1
   ·simp only[aS]at h2
    rw[hr.heap.core.unused tD]at h2;cases h2
  ·have:wr.isEmpty=false:=by simpa using hw
   simp only[Heap.app,this];rcases hU id aC with h1|⟨h1,_⟩
   ·have:=hr.heap.next id h1;simp;omega
   ·subst h1;simp,hG⟩
 have bR:=(hr.mono hv lR).put (dst:=o.dst) (oI hd) (c:=c) (fun _=>iF) (fun h=>by rw[hc]at h;cases h)
 have SF:=hn E' W' v hv bR;refine⟨fun _ _=>trivial,?_⟩
 rw[Oper.semAt_eq _ _ _ (Ud kZ)];rcases dF with h1|⟨h1,h2⟩
 ·rw[h1];exact SF
 ·rw[h1];subst h2;exact SF
theorem Ug{P:Program}{o:Oper}{σ:AS}{c:Bool}(hc:c=true){f:Operand}{as:Array Operand}{ts:Array TypeId}(aP:o.op= .call ⟨.value f,as,ts⟩){n:FuncId}{first cap mH:List AV}(hf:σ.get c f=some (.fn (.func n) first cap))
  (has:dO (σ.get c) as.toList=some mH) {Q0:AV->Heap->Prop} (j7:gX P n (first++mH++cap) σ.H Q0) (hd:fT σ.nt o=true) {E:Env} {W:World} {act:Act} (hr:Rel E W σ act) {next:Act->World->Prop} {Q:Exit->Act->World->Prop} {ro:Option Nat}
  (hn:∀E' W' v r H',bD E W E' W'->Q0 r H'->Rel E' W' (({σ with H:=H'}:AS).put o.dst c r) (act.put o.dst v)->next (act.put o.dst v) W'):o.wpIn (kN ro) 3 P act W next Q:=by
 obtain⟨NA,XS⟩:=j7;have h1:=hr.get hc hf;have h2:=tZ (E:=E) (W:=W) (ρ:=act.eval) (fun x b hb=>hr.get hc hb) _ _ has
 generalize nB:act.eval f=fv at h1;cases h1 with
 |fn _ _ _ vf vc hl bQ h3 h4=>
 have lJ:bP E W (first++mH++cap) (vf.toList++as.toList.map act.eval++vc.toList):=by
  refine(bP.append ?_ h2).append ?_
  ·exact⟨by simpa using hl,fun i x v hx hv=>h3 i x v hx (by simpa using hv)⟩
  ·exact⟨by simpa using bQ,fun i x v hx hv=>h4 i x v hx (by simpa using hv)⟩
 have dR:=XS E W _ hr.heap lJ
 have dF:(execOp act.eval o).run P W= .ok (.enter n (vf.toList++as.toList.map act.eval++vc.toList).toArray) W:=by
  simp only[execOp,aP,resolve,nB,Deferred.ofValue,Sem.run_bind,Sem.run_pure,Result.andThen_ok,invoke];rw[yK NA];congr 2;apply zW;simp
 refine⟨fun _ _=>trivial,?_⟩
 rw[Oper.semAt_eq _ _ _ (fun c h=>by rw[aP]at h;cases h),dF]
 refine⟨yH,zQ (dR.mono fun e W' ⟨v,he,E',r,H',hv,hH,iF,hq⟩=> ?_)⟩
 subst he;exact hn E' W' v r H' hv hq ((hr.mono hv hH).put (dst:=o.dst) (oI hd) (c:=c) (fun _=>iF) (fun h=>by rw[hc]at h;cases h))
theorem SG{P:Program}{o:Oper}{σ:AS}{c:Bool}(hc:c=true){x0 x y:Operand}(aP:o.op= .pick x0 x y){b:Bool}(hb:σ.get c x0=some (.c (.bool b))){a:AV}(hx:b=true->∃c',c'=true/\σ.get c' x=some a)(hy:b=false->∃c',c'=true/\σ.get c' y=some a)
  (hd:fT σ.nt o=true) {E:Env} {W:World} {act:Act} (hr:Rel E W σ act) {next:Act->World->Prop} {Q:Exit->Act->World->Prop} {ro:Option Nat} (hn:∀v,Rel E W (σ.put o.dst c a) (act.put o.dst v)->next (act.put o.dst v) W):o.wpIn (kN ro) 3 P act W next Q:=by
 have h1:=hr.get hc hb;generalize hv:act.eval x0=vb at h1;cases h1;refine⟨fun _ _=>trivial,?_⟩
 rw[Oper.semAt_eq _ _ _ (fun c h=>by rw[aP]at h;cases h)]
 cases b
 ·obtain⟨c',h2,h3⟩:=hy rfl
  have dF:(execOp act.eval o).run P W= .ok (.value (act.eval y)) W:=by simp[execOp,aP,hv,asBool]
  rw[dF];exact hn _ (hr.put (oI hd) (fun _=>hr.get h2 h3) (fun h=>by rw[hc]at h;cases h))
 ·obtain⟨c',h2,h3⟩:=hx rfl
  have dF:(execOp act.eval o).run P W= .ok (.value (act.eval x)) W:=by simp[execOp,aP,hv,asBool]
  rw[dF];exact hn _ (hr.put (oI hd) (fun _=>hr.get h2 h3) (fun h=>by rw[hc]at h;cases h))
theorem Uh:∀(ps:List Tmp) (as:List AV) (env:List (Nat×Bool×AV)) {E:Env} {W:World} (vs:List Value) (tmps:Array Value),bP E W as vs->as.length=ps.length->ps.all (fun p=>decide (p<tmps.size))=true->
  (∀t c a,lk env t=some (c,a)->∃v,tmps[t]? =some v/\(c=true->RV E W a v)/\(c=false->v=undef))->
  ((ps.zip vs).foldl (fun t (p:Tmp×Value)=>t.setIfInBounds p.1 p.2) tmps).size=tmps.size/\
  ∀t c a,lk (CT ps as env) t=some (c,a)->∃v,((ps.zip vs).foldl (fun t (p:Tmp×Value)=>t.setIfInBounds p.1 p.2) tmps)[t]? =some v/\(c=true->RV E W a v)/\(c=false->v=undef)
 |[],[],env,E,W,vs,tmps,_,_,_,h=>by
  simp only[List.zip_nil_left,List.foldl_nil];exact⟨trivial,h⟩
 |[],_::_,_,_,_,_,_,_,hl,_,_=>by simp at hl
 |_::_,[],_,_,_,_,_,_,hl,_,_=>by simp at hl
 |p::ps,a::as,env,E,W,[],tmps,hr,_,_,h=>by have:=hr.1;simp at this
 |p::ps,a::as,env,E,W,v::vs,tmps,hr,hl,hp,h=>by
  simp only[KV,jX,decide_eq_true_eq]at hp;have vF:=hr.2 0 a v rfl rfl;have WA:bP E W as vs:=⟨by have:=hr.1;simpa using this,fun i x u hx hu=>hr.2 (i+1) x u (by simpa using hx) (by simpa using hu)⟩
  have hs:(tmps.setIfInBounds p v).size=tmps.size:=by simp
  have ih:=Uh ps as ((p,true,a)::env) vs (tmps.setIfInBounds p v) WA (by simpa using hl) (by rw[hs];exact hp.2) (fun t c b hb=>by
   simp only[lk]at hb;split at hb
   ·rename_i ht
    subst ht;simp only[bB,bY]at hb;obtain⟨rfl,rfl⟩:=hb;exact⟨v,by simp[hp.1],fun _=>vF,fun h=>by cases h⟩
   ·rename_i ht
    obtain⟨u,h1,h2⟩:=h t c b hb
    exact⟨u,by rw[ZA (mV ht)];exact h1,h2⟩)
  simp only[List.zip_cons_cons,HC,CT];rw[hs]at ih;exact ih
theorem XT{E:Env}{W:World}{H:Heap}(hH:RH E W H){id:Nat}{env:List (Nat×Bool×AV)}{nt:Nat}{ps:List Tmp}{A B:Code}{st:LoopState}{pe:Option Code}(hg:H.get id=some (.cJ env nt ps A B st pe)):
  ∃r:Loop,W.heap[E.ι id]? =some (.loop r)/\r.state=st/\r.pending=pe/\r.params=ps.toArray/\r.assign=A/\r.body=B/\r.tmps.size=nt/\(∀t c a,lk env t=some (c,a)->∃v,r.tmps[t]? =some v/\(c=true->RV E W a v)/\(c=false->v=undef))/\
   ∀NB NC,bD E W E (W.putObj (E.ι id) (.loop {r with state:=NB,pending:=NC}))/\RH E (W.putObj (E.ι id) (.loop {r with state:=NB,pending:=NC})) (iQ H id (some (.cJ env nt ps A B NB NC))):=by
 obtain⟨hU,⟨fn,tmps,D,h1,h2,h3⟩,hL,eM⟩:=hH.core.ok id _ hg;have bG:=hH.core.eX id hU;refine⟨_,h1,rfl,rfl,rfl,rfl,rfl,h2,h3,fun NB NC=> ?_⟩
 obtain⟨o,ho⟩:∃o:Obj,o= .loop {({state:=st,pending:=pe,fn,tmps,params:=ps.toArray,assign:=A,body:=B,defers:=D}:Loop)with state:=NB,pending:=NC}:=⟨_,rfl⟩
 rw[<-ho];have wQ:∀b,b≠E.ι id->(W.putObj (E.ι id) o).heap[b]? =W.heap[b]? :=fun b hb=>World.putObj_heap_other hb
 have oJ:(W.putObj (E.ι id) o).heap[E.ι id]? =some o:=World.putObj_heap_same bG
 have hv:bD E W E (W.putObj (E.ι id) o):=by
  refine⟨rfl,rfl,rfl,by simp,fun _ h=>h,fun _ _=>⟨rfl,rfl⟩,fun _=>cA _,fun b k hk=> ?_,fun b _ hf=>wQ b fun e=>hf id hU e.symm,fun b cur e f hc=> ?_,fun _ _ _=>rfl,fun id h h'=>absurd h' h,fun b r hr=> ?_⟩
  ·have aM:b≠E.ι id:=fun e=>by subst e;omega
   unfold World.cell?;simp only[wQ b aM]
  ·have aM:b≠E.ι id:=fun e=>by subst e;rw[h1]at hc;cases hc
   exact⟨cur,f,by rw[wQ b aM];exact hc,rfl⟩
  ·by_cases hb:b=E.ι id
   ·subst hb
    rw[h1]at hr;injection hr with hr
    injection hr with hr
    subst hr;exact⟨_,oJ.trans (congrArg some ho),rfl⟩
   ·exact⟨r,by rw[wQ b hb];exact hr,rfl⟩
 refine⟨hv,hH.next,fun b hb=>hH.core.lim b (by simpa using hb),fun aK h=>by simpa using hH.core.eX aK h,fun aK b' bZ=> ?_⟩
 simp only[iQ,aS]at bZ
 have hG:∀cX cY,cX≠id->aS H.get [(id,some (.cJ env nt ps A B NB NC))] cX=some cY->H.get cX=some cY:=fun cX cY aM h=>by
  simp only[aS,if_neg aM]at h;exact h
 by_cases aC:aK=id
 ·subst aC
  rw[if_pos rfl]at bZ;injection bZ with bZ
  subst bZ;refine⟨hU,⟨fn,tmps,D,by rw[oJ,ho],h2,fun t c a ha=> ?_⟩,hL,fun cX cY aM rK=>eM cX cY aM (hG cX cY aM rK)⟩
  obtain⟨v,h4,h5,h6⟩:=h3 t c a ha;exact⟨v,h4,fun hc=>(h5 hc).mono hv,h6⟩
 ·rw[if_neg aC]at bZ
  obtain⟨vM,GO⟩:=hH.core.ok aK b' bZ;refine⟨vM,GO.mono hv vM (wQ _ (eM aK b' aC bZ)) rfl fun cX cY aM rK heq=> ?_⟩
  by_cases h2:cX=id
  ·subst h2
   exact absurd heq.symm (eM aK b' aC bZ)
  ·exact⟨cY,hG cX cY h2 rK,heq,rfl,fun h=>h⟩
theorem iter_set{E:Env}{W w1:World}{H:Heap}(hw:w1=W\/w1=W.drew)(hH:RH E W H){id m n:Nat}{seen:List Nat}(hg:H.get id=some (.iter m n seen))(i:Nat):
  bD E W E {w1 with heap:=w1.heap.setIfInBounds (E.ι id) (.mapIter (some (E.ι m)) n (seen++[i]).toArray n)}/\RH E {w1 with heap:=w1.heap.setIfInBounds (E.ι id) (.mapIter (some (E.ι m)) n (seen++[i]).toArray n)} (iQ H id (some (.iter m n (seen++[i])))):=by
 obtain⟨hU,⟨h1,h2⟩,hL,eM⟩:=hH.core.ok id _ hg;have bG:=hH.core.eX id hU;have SH:w1.heap=W.heap:=by rcases hw with rfl|rfl<;>rfl
 obtain⟨o,ho⟩:∃o:Obj,o= .mapIter (some (E.ι m)) n (seen++[i]).toArray n:=⟨_,rfl⟩;rw[<-ho];have wQ:∀b,b≠E.ι id->(w1.heap.setIfInBounds (E.ι id) o)[b]? =W.heap[b]? :=fun b hb=>by rw[SH];simp[mV hb]
 have oJ:(w1.heap.setIfInBounds (E.ι id) o)[E.ι id]? =some o:=by rw[SH];simp[bG]
 have hv:bD E W E {w1 with heap:=w1.heap.setIfInBounds (E.ι id) o}:=by
  refine⟨by rcases hw with rfl|rfl<;>rfl,by rcases hw with rfl|rfl<;>rfl,by rcases hw with rfl|rfl<;>rfl,by simp[SH],fun _ h=>h,fun _ _=>⟨rfl,rfl⟩,fun _=>cA _,fun b k hk=> ?_,fun b _ hf=>wQ b fun e=>hf id hU e.symm,fun b cur e f hc=> ?_,fun _ _ _=>rfl,fun aK h h'=>absurd h' h,fun b r hr=> ?_⟩
  ·have aM:b≠E.ι id:=fun e=>by subst e;omega
   unfold World.cell?;simp only[wQ b aM]
  ·have aM:b≠E.ι id:=fun e=>by subst e;rw[h1]at hc;cases hc
   exact⟨cur,f,by simp only[wQ b aM];exact hc,rfl⟩
  ·have aM:b≠E.ι id:=fun e=>by subst e;rw[h1]at hr;cases hr
   exact⟨r,by simp only[wQ b aM];exact hr,rfl⟩
 refine⟨hv,hH.next,fun b hb=>hH.core.lim b (by simpa[SH]using hb),fun aK h=>by simpa[SH]using hH.core.eX aK h,fun aK b' bZ=> ?_⟩
 simp only[iQ,aS]at bZ
 have hG:∀cX cY,cX≠id->aS H.get [(id,some (.iter m n (seen++[i])))] cX=some cY->H.get cX=some cY:=fun cX cY aM h=>by
  simp only[aS,if_neg aM]at h;exact h
 by_cases aC:aK=id
 ·subst aC
  rw[if_pos rfl]at bZ;injection bZ with bZ
  subst bZ;exact⟨hU,⟨oJ.trans (congrArg some ho),h2⟩,hL,fun cX cY aM rK=>eM cX cY aM (hG cX cY aM rK)⟩
 ·rw[if_neg aC]at bZ
  obtain⟨vM,GO⟩:=hH.core.ok aK b' bZ;refine⟨vM,GO.mono hv vM (by simp only[wQ _ (eM aK b' aC bZ)]) rfl fun cX cY aM rK heq=> ?_⟩
  by_cases h2:cX=id
  ·subst h2
   exact absurd heq.symm (eM aK b' aC bZ)
  ·exact⟨cY,hG cX cY h2 rK,heq,rfl,fun h=>h⟩
theorem aY9{P:Program}{o:Oper}{σ:AS}{x0:Operand}{K:AV->Heap->Prop}(aP:o.op= .next x0 false)(h:Ub σ.H (σ.get true x0) K)(hd:fT σ.nt o=true){E:Env}{W:World}{act:Act}(hr:Rel E W σ act){next:Act->World->Prop}{Q:Exit->Act->World->Prop}{ro:Option Nat}
  (hn:∀E' W' v r H',bD E W E' W'->K r H'->Rel E' W' (({σ with H:=H'}:AS).put o.dst true r) (act.put o.dst v)->next (act.put o.dst v) W'):o.wpIn (kN ro) 3 P act W next Q:=by
 obtain⟨id,m,n,seen,es,hx,hg,hm,hlen,aZ0,h0,h1⟩:=h;have gR:=hr.get rfl hx;generalize hv:act.eval x0=vb at gR;cases gR;rename_i hU0;obtain⟨hU,⟨q1,q2⟩,hL,eM⟩:=hr.heap.core.ok id _ hg;obtain⟨_,⟨ms,clock,p1,p2,p3,p4⟩,_,_⟩:=hr.heap.core.ok m _ hm;refine⟨fun _ _=>trivial,?_⟩
 rw[Oper.semAt_eq _ _ _ (fun c h=>by rw[aP]at h;cases h)]
 rcases run_next_any (P:=P) (ty:=o.type) q1 p1 p2 (by rw[p3,hlen])with⟨g1,g2⟩|⟨i,e,g1,g2,g3,w1,g4,g5⟩
 ·have dF:(execOp act.eval o).run P W= .ok (.value (.tuple #[.bool false])) W:=by
   simp only[execOp,aP,hv,BQ,BU];rw[Sem.run_bind,g2];rfl
  rw[dF];refine hn E W _ _ σ.H (bD.refl E W) (h0 g1) (hr.put (oI hd) (fun _=> ?_) (fun h=>by cases h))
  exact .aR _ _ rfl fun j y v hy hv=>by
   rcases j with _|j
   ·simp at hy hv;subst hy;subst hv;exact .c _ rfl
   ·simp at hy
 ·have dF:(execOp act.eval o).run P W= .ok (.value (.tuple #[.bool true,e.key,e.val])) {w1 with heap:=w1.heap.setIfInBounds (E.ι id) (.mapIter (some (E.ι m)) n (seen++[i]).toArray n)}:=by
   simp only[execOp,aP,hv,BQ,BU];rw[Sem.run_bind,g5];rfl
  rw[dF];obtain⟨nF,eZ⟩:=iter_set g4 hr.heap hg i;have BA:i<es.length:=by rw[hlen];exact g1
  have CS:es[i]? =some (es[i].1,es[i].2):=by rw[fU BA]
  obtain⟨e',k7,lA,qA⟩:=p4 i _ _ CS;rw[g3]at k7;injection k7 with k7
  subst k7;refine hn E _ _ _ _ nF (h1 i _ _ g1 g2 CS) ((hr.mono nF eZ).put (oI hd) (fun _=> ?_) (fun h=>by cases h))
  obtain⟨d,uU⟩:=Ts (aZ0 _ (D2 BA))
  exact .aR _ _ rfl fun j y v hy hv=>by
   rcases j with _|_|_|j
   ·simp at hy hv;subst hy;subst hv;exact .c _ rfl
   ·simp at hy hv;subst hy;subst hv;rw[lA];exact Tm uU
   ·simp at hy hv;subst hy;subst hv;exact qA.mono nF
   ·simp at hy
theorem Ui{ro:Option Nat}{n m:Nat}{P:Program}{c:Code}{Q:Exit->Act->World->Prop}{a:Act}{w:World}(h:c.wpIn (kN ro) n P Q a w):c.wpIn (kN ro) m P Q a w:=
 fun b k cs h1 h2 _=>h b k cs h1 h2 (fun d hd=>by cases hd)
theorem aZ1{P:Program}{o:Oper}{σ:AS}{K:AS->Prop}{f:Operand}{as:Array Operand}{ts:Array TypeId}(aP:o.op= .call ⟨.value f,as,ts⟩)(h:Ua P σ (σ.get true f) (dO (σ.get true) as.toList) (fun b H'=>K (({σ with H:=H'}:AS).put o.dst true (.c (.bool b)))))
  (hd:fT σ.nt o=true) {E:Env} {W:World} {act:Act} (hr:Rel E W σ act) {next:Act->World->Prop} {Q:Exit->Act->World->Prop} {ro:Option Nat}
  (hn:∀E' W' aL cE,eB E W act E' W' cE->Rel E' W' aL cE->aL.nt=σ.nt->K aL->next cE W'):o.wpIn (kN ro) 3 P act W next Q:=by
 obtain⟨id,args,env,nt,ps,A,B,hf,has,hg,hl,lE,hA⟩:=h;have h1:=hr.get rfl hf;have h2:=tZ (E:=E) (W:=W) (ρ:=act.eval) (fun x b hb=>hr.get rfl hb) _ _ has
 generalize nB:act.eval f=fv at h1;cases h1 with
 |jF _ hU=>
 obtain⟨rc,hb,eW,JU,Uj,aZ2,pE,dX,Fw,jD⟩:=XT hr.heap hg;have aZ3:=run_yield (P:=P) (args:=as.map act.eval) hb (by rw[Uj];have:=h2.1;simp at this⊢;omega)
 have dF:(execOp act.eval o).run P W= .ok (.round (E.ι id) rc.fn ((rc.params.zip (as.map act.eval)).foldl (fun tmps (t,a)=>tmps.setIfInBounds t a) rc.tmps) rc.assign rc.body) W:=by
  simp only[execOp,aP,resolve,nB,Deferred.ofValue,Sem.run_bind,Sem.run_pure,Result.andThen_ok,invoke];simpa using aZ3
 refine⟨fun _ _=>trivial,?_⟩
 rw[Oper.semAt_eq _ _ _ (fun c h=>by rw[aP]at h;cases h),dF]
 refine⟨yH,roundIn_of_wpIn (F:=kN ro) trivial ?_⟩;have CP:=Uh ps args env (as.toList.map act.eval) rc.tmps h2 hl (by rw[dX];exact lE) Fw
 have htm:(rc.params.zip (as.map act.eval)).foldl (fun tmps (t,a)=>tmps.setIfInBounds t a) rc.tmps=(ps.zip (as.toList.map act.eval)).foldl (fun t (p:Tmp×Value)=>t.setIfInBounds p.1 p.2) rc.tmps:=by
  rw[Uj,<-Array.foldl_toList];simp
 rw[htm,aZ2,pE];generalize (ps.zip (as.toList.map act.eval)).foldl (fun t (p:Tmp×Value)=>t.setIfInBounds p.1 p.2) rc.tmps=tm at CP
 have bR:Rel E W ⟨CT ps args env,σ.H,nt⟩ {tmps:=tm,defers:=[]}:=⟨Marks.nil E W,by rw[<-dX];exact CP.1,CP.2,hr.heap⟩
 have eH:∀{W':World} {r:Loop},W'.heap[E.ι id]? =some (.loop r)->N8 (some (E.ι id)) W':=fun hb l hl=>by injection hl with hl;subst hl;exact⟨_,hb⟩
 refine Ui (wpIn_mono (hA (some (E.ι id)) E W _ (eH hb) bR) fun e a1 W1 ⟨E1,Fx,nF,pF,bK9,HY⟩=> ?_)
 simp only[hold]at HY;cases e with
 |normal=>
  obtain⟨aZ5,nt1,ps1,A1,B1,Eo,hB⟩:=HY;have ND:E1.ι id=E.ι id:=(nF.oY.jL id hU).1;obtain⟨SI,QN,aZ8,aZ9,bL0,bL1,bL2,bL3,bL4,ba0⟩:=XT pF.heap Eo;obtain⟨eZ,lP⟩:=ba0 .busy none;rw[ND]at QN eZ lP;have ba1:=run_beginRound (P:=P) QN aZ8;have heq:{SI with state:=LoopState.busy}={SI with state:=LoopState.busy,pending:=none}:=by rw[<-aZ9]
  refine⟨_,ba1,?_⟩;rw[heq];have BD:E1.U id:=nF.oY.used id hU;have uY:(W1.putObj (E.ι id) (.loop {SI with state:=LoopState.busy,pending:=none})).heap[E.ι id]? =some (.loop {SI with state:=LoopState.busy,pending:=none}):=World.putObj_heap_same (jB.1 QN).1
  generalize W1.putObj (E.ι id) (.loop {SI with state:=LoopState.busy,pending:=none})=W2 at eZ lP uY
  have NF:Rel E1 W2 ⟨Fx.env,iQ Fx.H id (some (.cJ aZ5 nt1 ps1 A1 B1 .busy none)),Fx.nt⟩ a1:=pF.mono eZ lP;refine Ui (wpIn_mono (hB (some (E.ι id)) E1 W2 a1 (eH uY) NF) fun e3 a3 W3 ⟨E3,Uk,NG,Fy,bL5,JV⟩=> ?_)
  have ba2:E3.ι id=E.ι id:=(NG.oY.jL id BD).1.trans ND
  have fin:∀(env:List (Nat×Bool×AV)) (nt:Nat) (ps:List Tmp) (A B:Code) (jump:Option Code) (b:Bool),jump.isNone=b->Uk.H.get id=some (.cJ env nt ps A B .busy none)->K (({σ with H:=iQ Uk.H id (some (.cJ env nt ps A B (if b then .ready else .done) jump))}:AS).put o.dst true (.c (.bool b)))->
    ∃v w',(Instr.endRound (E.ι id) jump).run P W3= .ok v w'/\next (act.put o.dst v) w':=fun env nt ps A B jump b hjb hg3 hK=>by
   obtain⟨rc3,VR,bL6,bL7,bL8,bL9,bM0,bM1,bM2,ba6⟩:=XT Fy.heap hg3;obtain⟨Ul,XU⟩:=ba6 (if b then .ready else .done) jump
   rw[ba2]at VR Ul XU;have pB:=run_endRound (P:=P) jump VR;rw[hjb]at pB;refine⟨_,_,pB,?_⟩;have SJ:bD E W E3 (W3.putObj (E.ι id) (.loop {rc3 with state:=(if b then .ready else .done),pending:=jump})):=((nF.oY.trans eZ).trans NG.oY).trans Ul
   exact hn E3 _ _ _ (eB.of SJ (Act.put_defers _ _ _)) ((hr.mono SJ XU).put (dst:=o.dst) (oI hd) (c:=true) (fun _=> .c _ rfl) (fun h=>by cases h)) (AS.sF _ _ _ _) hK
  simp only[hold]at JV;cases e3 with
  |normal=>obtain⟨_,_,_,_,_,h1,h2⟩:=JV;exact fin _ _ _ _ _ none true rfl h1 h2
  |ret=>obtain⟨_,_,_,_,_,h1,h2⟩:=JV;exact fin _ _ _ _ _ (some .ret) false rfl h1 h2
  |exit i=>obtain⟨_,_,_,_,_,h1,h2⟩:=JV;exact fin _ _ _ _ _ (some (.exit i)) false rfl h1 h2
  |goto l=>exact JV.elim
  |panic ch=>exact JV.elim
  |outgrown=>exact JV.elim
 |_=>exact HY.elim
theorem XV{P:Program}{o:Oper}{σ:AS}{K:AS->Prop}(h:oZ P o σ K)(hd:fT σ.nt o=true){E:Env}{W:World}{act:Act}(hr:Rel E W σ act){next:Act->World->Prop}{Q:Exit->Act->World->Prop}{ro:Option Nat}
  (hn:∀E' W' aL cE,eB E W act E' W' cE->Rel E' W' aL cE->aL.nt=σ.nt->K aL->next cE W'):o.wpIn (kN ro) 3 P act W next Q:=by
 unfold oZ at h;simp only[hold]at h;split at h
 ·rename_i f as ts aP
  rcases h with h|h
  case inr=>exact aZ1 aP h hd hr hn
  obtain⟨⟨n,args⟩,h1,h⟩:=GN h;obtain⟨first,cap,mH,hf,has,rfl⟩:=yI h1
  exact Ug rfl aP hf has h hd hr fun E' W' v r H' hv hq bR=>hn E' W' _ _ (eB.of hv (Act.put_defers _ _ _)) bR (AS.sF _ _ _ _) hq
 ·rename_i x0 x y aP
  obtain⟨b,hb,h⟩:=GN h;have hb:=zR hb;unfold wU at h;split at h
  ·rename_i pq u4
   obtain⟨p,q⟩:=pq;obtain⟨hp,hq⟩:=Fu u4;have hp:=zR hp;have hq:=zR hq;refine SG rfl aP hb (a:= .c (.bool (cond b p q))) (fun wN=>⟨b,wN,?_⟩) (fun GQ=>⟨!b,by simp[GQ],?_⟩) hd hr fun v bR=>hn E W _ _ (eB.of (bD.refl E W) (Act.put_defers _ _ _)) bR (AS.sF _ _ _ _) h
   ·rw[hp,wN];rfl
   ·rw[hq,GQ];rfl
  ·obtain⟨h1,h2⟩:=h
   cases XX:b
   ·obtain⟨a,ha,h3⟩:=GN (h2 XX)
    exact SG rfl aP hb (a:=a) (fun h=>by rw[XX]at h;cases h) (fun _=>⟨true,rfl,ha⟩) hd hr fun v bR=>hn E W _ _ (eB.of (bD.refl E W) (Act.put_defers _ _ _)) bR (AS.sF _ _ _ _) h3
   ·obtain⟨a,ha,h3⟩:=GN (h1 XX)
    exact SG rfl aP hb (a:=a) (fun _=>⟨true,rfl,ha⟩) (fun h=>by rw[XX]at h;cases h) hd hr fun v bR=>hn E W _ _ (eB.of (bD.refl E W) (Act.put_defers _ _ _)) bR (AS.sF _ _ _ _) h3
 ·rename_i x aP
  exact aY9 aP h hd hr fun E' W' v r H' hv hq bR=>hn E' W' _ _ (eB.of hv (Act.put_defers _ _ _)) bR (AS.sF _ _ _ _) hq
 ·obtain⟨⟨a,wr,rd⟩,kZ,h⟩:=GN h
  exact Uf rfl kZ hd hr fun E' W' v hv bR=>hn E' W' _ _ (eB.of hv (Act.put_defers _ _ _)) bR (AS.sF _ _ _ _) h
theorem ba7{P:Program}{o:Oper}{σ:AS}{c:Bool}{K:AS->Prop}(h:Fv P o σ c K)(hd:fT σ.nt o=true){E:Env}{W:World}{act:Act}(hr:Rel E W σ act){next:Act->World->Prop}{Q:Exit->Act->World->Prop}{ro:Option Nat}
  (hn:∀E' W' aL cE,eB E W act E' W' cE->Rel E' W' aL cE->aL.nt=σ.nt->K aL->next cE W'):if c=true then o.wpIn (kN ro) 3 P act W next Q else next (act.put o.dst undef) W:=by
 unfold Fv at h;split at h
 ·simp only[if_true];exact XV h hd hr hn
 ·simp only[kV,if_false]
  exact hn E W _ _ (eB.of (bD.refl E W) (Act.put_defers _ _ _)) (hr.put (oI hd) (fun _=> .c undef rfl) (fun _=>rfl)) (AS.sF _ _ _ _) h
theorem ba8{P:Program}{o:Oper}{σ:AS}{c:Bool}{K:AS->Prop}(h:N9 P o σ c K)(hd:fT σ.nt o=true){E:Env}{W:World}{act:Act}(hr:Rel E W σ act){next:Act->World->Prop}{Q:Exit->Act->World->Prop}{ro:Option Nat}
  (hn:∀E' W' aL cE,eB E W act E' W' cE->Rel E' W' aL cE->aL.nt=σ.nt->K aL->next cE W'):if c=true then o.wpIn (kN ro) 3 P act W next Q else next (act.put o.dst undef) W:=by
 have part:Split c (oZ P o σ K) (K (σ.put o.dst true (.c undef)))->if c=true then o.wpIn (kN ro) 3 P act W next Q else next (act.put o.dst undef) W:=fun⟨h1,h2⟩=>by
  by_cases hc:c=true
  ·rw[if_pos hc];exact XV (h1 hc) hd hr hn
  ·rw[if_neg hc]
   exact hn E W _ _ (eB.of (bD.refl E W) (Act.put_defers _ _ _)) (hr.put (oI hd) (fun _=> .c undef rfl) (fun _=>rfl)) (AS.sF _ _ _ _) (h2 (by simpa using hc))
 have skip:∀a,c≠true->K (σ.put o.dst c a)->next (act.put o.dst undef) W:=fun a hc hK=>
  hn E W _ _ (eB.of (bD.refl E W) (Act.put_defers _ _ _)) (hr.put (oI hd) (fun h=>absurd h hc) (fun _=>rfl)) (AS.sF _ _ _ _) hK
 unfold N9 at h;simp only[hold]at h;split at h
 ·rename_i f as ts aP
  unfold wU at h;split at h
  ·rename_i p F3
   obtain⟨n,args⟩:=p;obtain⟨first,cap,mH,hf,has,rfl⟩:=yI F3
   obtain⟨r,hp,hK⟩:=h;by_cases hc:c=true
   ·rw[if_pos hc]
    obtain⟨gG,hp⟩:=hp hc;have j7:gX P n (first++mH++cap) σ.H fun r' H'=>r'=r/\H'=σ.H:=gX.pure hp gG fun r' _ hq=>⟨hq,rfl⟩
    refine Ug hc aP hf has j7 hd hr fun E' W' v r' H' hv hq bR=> ?_
    obtain⟨rfl,rfl⟩:=hq;exact hn E' W' _ _ (eB.of hv (Act.put_defers _ _ _)) bR (AS.sF _ _ _ _) hK
   ·rw[if_neg hc];exact skip r hc hK
  ·exact part h
 ·rename_i x0 x y aP
  unfold wU at h;split at h
  ·rename_i b hb
   have hb:=zR hb;split at h
   ·rename_i pq u4
    obtain⟨p,q⟩:=pq;obtain⟨hp,hq⟩:=Fu u4;have hp:=zR hp;have hq:=zR hq;by_cases hc:c=true
    ·rw[if_pos hc]
     refine SG hc aP hb (a:= .c (.bool (cond b p q))) (fun wN=>⟨c&&b,by simp[hc,wN],?_⟩) (fun GQ=>⟨c&& !b,by simp[hc,GQ],?_⟩) hd hr fun v bR=>hn E W _ _ (eB.of (bD.refl E W) (Act.put_defers _ _ _)) bR (AS.sF _ _ _ _) h
     ·rw[hp,wN];rfl
     ·rw[hq,GQ];rfl
    ·rw[if_neg hc];exact skip _ hc h
   ·exact part h
  ·exact part h
 ·unfold wU at h
  split at h
  ·rename_i a kZ
   split at kZ
   ·cases kZ
   ·obtain⟨rd,kZ⟩:=aY7 kZ
    by_cases hc:c=true
    ·rw[if_pos hc]
     refine Uf hc kZ hd hr fun E' W' v hv bR=>hn E' W' _ _ (eB.of hv (Act.put_defers _ _ _)) ?_ (AS.sF _ _ _ _) h
     exact bR
    ·rw[if_neg hc];exact skip _ hc h
  ·exact part h
theorem ba9{P:Program}{o:Oper}{σ:AS}{c:Bool}{K:AS->Prop}(h:Uc P o σ c K)(hd:fT σ.nt o=true){E:Env}{W:World}{act:Act}(hr:Rel E W σ act){next:Act->World->Prop}{Q:Exit->Act->World->Prop}{ro:Option Nat}
  (hn:∀E' W' aL cE,eB E W act E' W' cE->Rel E' W' aL cE->aL.nt=σ.nt->K aL->next cE W'):if c=true then o.wpIn (kN ro) 3 P act W next Q else next (act.put o.dst undef) W:=by
 rcases h with(⟨hc,hK⟩|⟨hc,hK⟩)|h
 ·subst hc
  rw[if_neg (by simp)]
  exact hn E W _ _ (eB.of (bD.refl E W) (Act.put_defers _ _ _)) (hr.put (oI hd) (fun h=>by cases h) (fun _=>rfl)) (AS.sF _ _ _ _) hK
 ·subst hc
  rw[if_pos rfl];exact XV hK hd hr hn
 ·exact ba8 h hd hr hn
theorem XY{P:Program}{ic:Bool}{ops:Array Oper}{o:Oper}{σ:AS}{K:AS->Prop}(h:mQ P ic ops o σ K)(hd:fT σ.nt o=true){E:Env}{W:World}{act:Act}(hr:Rel E W σ act){next:Act->World->Prop}{Q:Exit->Act->World->Prop}{ro:Option Nat}
  (hn:∀E' W' aL cE,eB E W act E' W' cE->Rel E' W' aL cE->aL.nt=σ.nt->K aL->next cE W'):
  if Region.wanted o (yielded ops act.tmps)=true then o.wpIn (kN ro) 3 P act W next Q else next (act.put o.dst undef) W:=by
 unfold mQ at h;simp only[hold]at h;cases hg:o.guard with
 |none=>
  simp only[hg]at h;simp only[Region.wanted,hg,if_true];exact XV h hd hr hn
 |some jw=>
  obtain⟨j,want⟩:=jw;simp only[hg]at h;obtain⟨c0,qM,h⟩:=GN h;obtain⟨c',b,hb,rfl⟩:=Tz qM
  obtain⟨t,ht,s6⟩:∃t,(ops[j]?).bind (·.dst)=some t/\lk σ.env t=some (c',.c (.bool b)):=by
   unfold nW at hb;split at hb
   ·rename_i o' vN
    rw[yP]at vN;split at hb
    ·rename_i t ht;exact⟨t,by rw[vN];exact ht,hb⟩
    ·cases hb
   ·cases hb
  obtain⟨v,h1,h2,h3⟩:=hr.env t _ _ s6
  have hw:Region.wanted o (yielded ops act.tmps)=(c'&&XR b want):=by
   have hy:yielded ops act.tmps j=if c'=true then some b else none:=by
    unfold yielded;rw[ht];simp only[UC,h1];cases c'
    ·rw[h3 rfl];rfl
    ·have h4:=h2 rfl
     cases h4;rfl
   simp only[Region.wanted,hg,hy];cases c'<;>cases b<;>cases want<;>rfl
  rw[hw];cases ic
  ·exact ba7 h hd hr hn
  ·exact ba9 h hd hr hn
theorem GR{P:Program}{ic:Bool}{ops:Array Oper}:∀(l:List Nat) (os:List Oper),l.map (ops[·]?)=os.map some->∀{σ:AS} {K:AS->Prop},aX P ic ops os σ K->os.all (fT σ.nt)=true->∀{E:Env} {W:World} {act:Act},Rel E W σ act->
  ∀{Q:Exit->Act->World->Prop} {ro:Option Nat},(∀E' W' aL cE,eB E W act E' W' cE->Rel E' W' aL cE->aL.nt=σ.nt->K aL->Q .normal cE W')->wpOpsIn (kN ro) 3 P ops Q l act W
 |[],[],_,σ,K,h,_,E,W,act,hr,Q,ro,hn=>hn E W σ act (eB.refl E W act) hr rfl h
 |[],_::_,hl,_,_,_,_,_,_,_,_,_,_,_=>by simp at hl
 |_::_,[],hl,_,_,_,_,_,_,_,_,_,_,_=>by simp at hl
 |i::l,o::os,hl,σ,K,h,hd,E,W,act,hr,Q,ro,hn=>by
  simp only[jW,PG]at hl;simp only[KV,jX]at hd;simp only[wpOpsIn,hl.1]
  have h1:=XY (Q:=Q) (ro:=ro) (next:=wpOpsIn (kN ro) 3 P ops Q l) h hd.1 hr (fun E' W' aL cE hv dD cU hK=>by
   refine GR l os hl.2 hK (by rw[cU];exact hd.2) dD (fun wP E6 dV XQ eZ lP JW IK=>hn wP E6 dV XQ (hv.trans eZ) lP (JW.trans cU) IK))
  by_cases hw:Region.wanted o (yielded ops act.tmps)=true
  ·simp only[hw,if_true]at h1⊢
   exact h1
  ·simp only[hw]at h1⊢
   exact⟨fun _ _=>trivial,h1⟩
theorem wpIn_loop_ghost{F:Fence}{m:Nat}{P:Program}{Q:Exit->Act->World->Prop}{a:Act}{w:World}{c:Code}(I:Nat->Act->World->Prop)(Um:Nat)(bb0:I Um a w)
  (round:∀n a w,I n a w->c.wpIn F m P (Exit.then (fun a' w'=>∃n',n'<n/\I n' a' w') Q) a w):(Code.loop c).wpIn F m P Q a w:=by
 refine wpIn_loop (fun a w=>∃n,I n a w) (fun a w=>leastOf (fun n=>I n a w)) ⟨Um,bb0⟩ ?_
 intro a w hI;refine wpIn_mono (round _ a w (leastOf_spec hI).1) ?_;intro e a' w' hq;cases e with
 |normal=>
  obtain⟨n',bG,Ga⟩:=hq;exact show(∃n,I n a' w')/\leastOf (fun n=>I n a' w')<leastOf (fun n=>I n a w)from⟨⟨n',Ga⟩,Nat.lt_of_le_of_lt ((leastOf_spec ⟨n',Ga⟩).2 n' Ga) bG⟩
 |_=>exact hq
section
variable {P : Program} {σ : AS} {Q : Exit -> AS -> Prop}
theorem NH(h:Q .normal σ):AW P .skip σ Q:=fun ro E W act eH hr=>wpIn_skip ⟨E,σ,eB.refl E W act,hr,rfl,h⟩
theorem NI{P:Program}{b:Frame}{a:Act}{k:List Item}{cs:List Frame}{w:World}{c:Code}:step P (lone (b.atR a (.code (.scope c)::k)) cs w)= .next (lone (b.atR a (.code c:: .inScope c::k)) cs w):=
 step_lone_go (by simp[stepG,stepG.exec,Frame.atR])
theorem bb1{P:Program}{b:Frame}{a:Act}{k:List Item}{cs:List Frame}{w:World}{c:Code}:step P (lone (b.atR a (.inScope c::k)) cs w)= .next (lone (b.atR a k) cs w):=
 step_lone_go (by simp[stepG,stepG.exec,Frame.atR])
def Gb(Q:Exit->AS->Prop):Exit->AS->Prop
 | .goto _,_=>False
 |e,σ=>Q e σ
theorem bb2{F:Fence}{n:Nat}{P:Program}{a:Act}{w:World}{c:Code}{Q:Exit->Act->World->Prop}(h:c.wpIn F n P (fun e a w=>(∀l,e≠ .goto l)/\Q e a w) a w):(Code.scope c).wpIn F n P Q a w:=by
 intro b k cs eH hb hr;have h0:(lone (b.atR a (.code (.scope c)::k)) cs w).fenced P F:=fenced_calm hb hr rfl;obtain⟨e,SK,SM,⟨hg,hq⟩,CU⟩:=h b (.inScope c::k) cs eH hb hr;cases e with
 |normal=>exact⟨.normal,SK,SM,hq,.head h0 NI (StepsIn.trans CU (.one (fenced_calm hb hr rfl) bb1))⟩
 |exit id=>
  have hx:exitTo id (.inScope c::k)=exitTo id k:=by simp[exitTo]
  exact⟨.exit id,SK,SM,hq,fun k' hk=> .head h0 NI (CU.1 k' (by rw[hx];exact hk)),
   fun dD hk=>let ⟨k₁,h1,h2⟩:=CU.2 dD (by rw[hx];exact hk);⟨k₁,h1,.head h0 NI h2⟩⟩
 |goto l=>exact absurd rfl (hg l)
 |ret=>exact⟨_,SK,SM,hq,.of_steps (.one h0 NI) CU⟩
 |panic ch=>exact⟨_,SK,SM,hq,.of_steps (.one h0 NI) CU⟩
 |outgrown=>exact⟨_,SK,SM,hq,.of_steps (.one h0 NI) CU⟩
theorem NJ{c:Code}(h:AW P c σ (Gb Q)):AW P (.scope c) σ Q:=fun ro E W act eH hr=>
 bb2 (wpIn_mono (h ro E W act eH hr) fun e a w ⟨E',aL,h1,h2,h3,h4⟩=>by
  cases e<;>first|exact h4.elim|exact⟨fun l h=>(by cases h),E',aL,h1,h2,h3,h4⟩)
theorem NK{l:Nat}(h:Q .normal σ):AW P (.label l) σ Q:=fun ro E W act eH hr=>wpIn_label ⟨E,σ,eB.refl E W act,hr,rfl,h⟩
theorem jA(h:Q .ret σ):AW P .ret σ Q:=fun ro E W act eH hr=>wpIn_ret ⟨E,σ,eB.refl E W act,hr,rfl,h⟩
theorem NL{id:Nat}(h:Q (.exit id) σ):AW P (.exit id) σ Q:=fun ro E W act eH hr=>wpIn_exit ⟨E,σ,eB.refl E W act,hr,rfl,h⟩
def cZ(next:AS->Prop)(Q:Exit->AS->Prop):Exit->AS->Prop
 | .normal,σ=>next σ
 |e,σ=>Q e σ
theorem tC{x y:Code}(h:AW P x σ (cZ (fun aL=>AW P y aL Q) Q)):AW P (.seq x y) σ Q:=fun ro E W act eH hr=>by
 refine wpIn_seq (wpIn_mono (h ro E W act eH hr) fun e a w ⟨E',aL,h1,h2,h3,h4⟩=> ?_)
 cases e with
 |normal=>
  refine wpIn_mono (h4 ro E' w a (eH.mono h1.oY) h2) fun e a' w' ⟨wP,dV,h5,h6,h7,h8⟩=>⟨wP,dV,h1.trans h5,h6,h7.trans h3,h8⟩
 |_=>exact⟨E',aL,h1,h2,h3,h4⟩
theorem Gc{c:Operand}{x y:Code}{b:Bool}(hc:σ.get true c=some (.c (.bool b)))(ht:b=true->AW P x σ Q)(hf:b=false->AW P y σ Q):AW P (.cond c x y) σ Q:=fun ro E W act eH hr=>by
 have h1:=hr.get rfl hc;generalize Un:act.eval c=cv at h1;cases h1;cases b
 ·exact wpIn_cond_false Un (hf rfl ro E W act eH hr)
 ·exact wpIn_cond_true Un (ht rfl ro E W act eH hr)
def dK(id:Nat)(Q:Exit->AS->Prop):Exit->AS->Prop
 | .exit aK,σ=>if aK=id then Q .normal σ else Q (.exit aK) σ
 |e,σ=>Q e σ
theorem NM{id:Nat}{c:Code}(h:AW P c σ (dK id Q)):AW P (.block id c) σ Q:=fun ro E W act eH hr=>by
 refine wpIn_block (wpIn_mono (h ro E W act eH hr) fun e a w ⟨E',aL,h1,h2,h3,h4⟩=> ?_)
 cases e with
 |exit aK=>
  simp only[dK]at h4;simp only[Exit.inBlock];split at h4
  ·rename_i aC;rw[if_pos aC];exact⟨E',aL,h1,h2,h3,h4⟩
  ·rename_i aC;rw[if_neg aC];exact⟨E',aL,h1,h2,h3,h4⟩
 |_=>exact⟨E',aL,h1,h2,h3,h4⟩
theorem bb3{c:Code}(I:Nat->AS->Prop)(n:Nat)(h0:I n σ)(round:∀n σ,I n σ->AW P c σ (cZ (fun aL=>∃m,m<n/\I m aL) Q)):AW P (.loop c) σ Q:=fun ro E W act eH hr=>by
 refine wpIn_loop_ghost (fun n a w=>∃E' aL,eB E W act E' w a/\Rel E' w aL a/\aL.nt=σ.nt/\I n aL) n ⟨E,σ,eB.refl E W act,hr,rfl,h0⟩ ?_
 rintro n a w ⟨E',aL,h1,h2,h3,h4⟩;refine wpIn_mono (round n aL h4 ro E' w a (eH.mono h1.oY) h2) fun e a' w' ⟨wP,dV,h5,h6,h7,h8⟩=> ?_
 cases e with
 |normal=>
  obtain⟨m,hm,hI⟩:=h8;exact⟨m,hm,wP,dV,h1.trans h5,h6,h7.trans h3,hI⟩
 |_=>exact⟨wP,dV,h1.trans h5,h6,h7.trans h3,h8⟩
theorem bb4{ic:Bool}{id:Nat}{ops:Array Oper}(h:aX P ic ops ops.toList σ (Q .normal))(hd:ops.toList.all (fT σ.nt)=true):AW P (.region id ops false) σ Q:=fun ro E W act eH hr=>by
 refine wpIn_region ?_;refine GR _ ops.toList ?_ h hd hr (fun E' W' aL cE hv dD cU hK=>⟨E',aL,hv,dD,cU,hK⟩)
 apply BS;intro i;simp only[iA,uD];by_cases hi:i<ops.size
 ·simp[hi,uD]
 ·simp[hi,uD]
end
def lK:Nat->List AV->List (Nat×Bool×AV)
 |_,[]=> []
 |n,a::r=>(n,true,a)::lK (n+1) r
theorem Gd:∀(as:List AV) (n t:Nat) (a:Bool×AV),lk (lK n as) t=some a->n<=t/\as[t-n]? =some a.2/\a.1=true
 |[],n,t,a,h=>by simp[lK,lk]at h
 |b::r,n,t,a,h=>by
  simp only[lK,lk]at h;split at h
  ·rename_i ht;subst ht;injection h with h;subst h;simp
  ·obtain⟨h1,h2,h3⟩:=Gd r (n+1) t a h
   refine⟨by omega,?_,h3⟩
   rw[show t-n=(t-(n+1))+1 by omega]
   simpa using h2
section
variable (P : Program)
def XZ(σ:AS):ResultVar->Option AV
 | .tmp t=>σ.get true (.tmp t)
 | .cell t ty=>match σ.get true (.tmp t)with
   |some p=>match deref σ.H.get p with
    |some (row,o,_)=>qY P ty row o
    |none=>none
   |none=>none
def JX(σ:AS):List ResultVar->Option (List AV)
 |[]=>some []
 |r::rs=>match XZ P σ r,JX σ rs with
  |some a,some l=>some (a::l)
  |_,_=>none
def iZ(σ:AS)(rs:List ResultVar):Option AV:=
 match JX P σ rs with
 |some [a]=>some a
 |some l=>some (.aR l)
 |none=>none
end
def SN(tmps:Array Value)(r:ResultVar):Sem Value:=
 match r with
 | .tmp t=>pure (tmps.getD t undef)
 | .cell a t=>do loadVar t (<-asAddr (tmps.getD a undef))
theorem bb5{P:Program}{σ:AS}{E:Env}{W:World}{act:Act}(hr:Rel E W σ act){r:ResultVar}{a:AV}(h:XZ P σ r=some a):
  ∃v,(SN act.tmps r).run P W= .ok v W/\RV E W a v:=by
 cases r with
 |tmp t=>
  have h':σ.get true (.tmp t)=some a:=h;exact⟨_,rfl,hr.get rfl h'⟩
 |cell t ty=>
  simp only[XZ]at h;split at h
  ·rename_i p hp
   split at h
   ·rename_i row o rd hd
    obtain⟨b,q,h1,vs,h3,h4⟩:=Sa hr.heap.core (hr.get rfl hp) hd;simp only[Act.eval]at h1;unfold qY at h;split at h
    ·rename_i k ha hk
     split at h
     ·rename_i hle
      injection h with h
      subst h;have hl:=h3.1;refine⟨.agg ((vs.drop o).take k).toArray,?_,.agg _ _ (by simp;omega) fun i x v hx hv=>((h3.drop o).take k).2 i x v hx (by simpa using hv)⟩
      have dF:=Sg ha hk W b (q+o) ((vs.drop o).take k) (by simp;omega) (fun j u hu=>by
       rw[gF]at hu;split at hu
       ·rw[m9]at hu
        have:=h4 _ u hu;rw[uE];exact this
       ·cases hu)
      simp[SN,h1,asAddr,dF]
     ·cases h
    ·rename_i k ha hk
     obtain⟨v,h5,h6⟩:=h3.get h;refine⟨v,?_,h6⟩;have dF:=Si (P:=P) ha W ⟨b,q+o,none⟩ v (h4 o v h5);simp[SN,h1,asAddr,dF]
    ·cases h
   ·cases h
  ·cases h
theorem Uo{P:Program}{σ:AS}{E:Env}{W:World}{act:Act}(hr:Rel E W σ act):∀(rs:List ResultVar) (as:List AV),JX P σ rs=some as->
  ∃vs,(rs.mapM (SN act.tmps)).run P W= .ok vs W/\bP E W as vs
 |[],as,h=>by simp only[JX,bB]at h;subst h;exact⟨[],rfl,.nil⟩
 |r::rs,as,h=>by
  simp only[JX]at h;split at h
  ·rename_i a l ha hl
   injection h with h
   subst h;obtain⟨v,h1,h2⟩:=bb5 hr ha;obtain⟨vs,h3,h4⟩:=Uo hr rs l hl;exact⟨v::vs,by simp only[List.mapM_cons,Sem.run_bind,h1,Result.andThen_ok,h3,Sem.run_pure],.cons h2 h4⟩
  ·cases h
theorem Ge{P:Program}{fn:Func}{σ:AS}{E:Env}{W:World}{act:Act}(hr:Rel E W σ act){a:AV}(h:iZ P σ fn.results.toList=some a):∃v,(results fn act.tmps).run P W= .ok v W/\RV E W a v:=by
 have key:∀as,JX P σ fn.results.toList=some as->∃vs,(results fn act.tmps).run P W= .ok (if h:vs.size=1 then vs[0]else .tuple vs) W/\bP E W as vs.toList:=fun as has=>by
  obtain⟨vs,h1,h2⟩:=Uo hr _ as has;refine⟨vs.toArray,?_,by simpa using h2⟩
  have heq:results fn act.tmps=(do let vs<-fn.results.mapM (SN act.tmps);pure (if h:vs.size=1 then vs[0]else .tuple vs)):=by
   unfold results;congr 1
  rw[heq,Sem.run_bind,bv9,Sem.run_map,h1];rfl
 unfold iZ at h;split at h
 ·rename_i b has
  injection h with h
  subst h;obtain⟨vs,h1,h2⟩:=key _ has;have hs:vs.size=1:=by have:=h2.1;simp at this;omega
  refine⟨vs[0],by rw[h1,dif_pos hs],?_⟩
  exact h2.2 0 _ _ rfl (by simp)
 ·rename_i l aM has
  injection h with h
  subst h;obtain⟨vs,h1,h2⟩:=key _ has
  have hs:¬vs.size=1:=fun hs=>by
   have:=h2.1;simp at this;cases l with
   |nil=>simp at this;omega
   |cons b r=>
    cases r with
    |nil=>exact aM b rfl
    |cons c r=>simp at this;omega
  exact⟨.tuple vs,by rw[h1,dif_neg hs],.aR _ _ (by simpa using h2.1) fun i x v hx hv=>h2.2 i x v hx (by simpa using hv)⟩
 ·cases h
def cB(P:Program)(rs:List ResultVar)(Q:AV->Heap->Prop):Exit->AS->Prop
 | .normal,σ=>nO (iZ P σ rs) (hold (fun a=>Q a σ.H) ⟨⟩)
 | .ret,σ=>nO (iZ P σ rs) (hold (fun a=>Q a σ.H) ⟨⟩)
 |_,_=>False
theorem Up{w:World}{D:Nat}{x:Option (List Deferred)}{o:Obj}(h:w.heap[D]? =some (.deferred x)){p:Addr}{v:Value}(hc:w.cell? p=some v):(w.putObj D o).cell? p=some v:=by
 have aM:p.block≠D:=fun e=>by
  unfold World.cell? at hc;rw[e,h]at hc;simp at hc
 unfold World.cell? at hc⊢;rw[World.putObj_heap_other aM];exact hc
theorem RV.shut{E:Env}{w:World}{D:Nat}{x:Option (List Deferred)}{o:Obj}(h:w.heap[D]? =some (.deferred x)){a:AV}{v:Value}(r:RV E w a v):RV E (w.putObj D o) a v:=by
 induction r with
 |c x hx=>exact .c x hx
 |agg xs vs hl _ ih=>exact .agg xs vs hl ih
 |aR xs vs hl _ ih=>exact .aR xs vs hl ih
 |snap rows b off s n cap vs hn oG hs hL hc hr ih=>exact .snap rows b off s n cap vs hn oG hs hL (fun i j row x h1 h2=>Up h (hc i j row x h1 h2)) ih
 |kY a cap=>exact .kY a cap
 |dJ rows i o b off s vs hs hL hc hr ih=>exact .dJ rows i o b off s vs hs hL (fun i j row x h1 h2=>Up h (hc i j row x h1 h2)) ih
 |own id off len cap aC eA dX=>
  obtain⟨cur,e,f,h1,h2⟩:=dX;exact .own id off len cap aC eA ⟨cur,e,f,by rw[World.putObj_heap_other (fun e=>by rw[e,h]at h1;cases h1)];exact h1,h2⟩
 |mF id off a aC=>exact .mF id off a aC
 |sub id i o len cap aC eA dX=>
  obtain⟨cur,e,f,h1,h2⟩:=dX;exact .sub id i o len cap aC eA ⟨cur,e,f,by rw[World.putObj_heap_other (fun e=>by rw[e,h]at h1;cases h1)];exact h1,h2⟩
 |ptr id i o aC=>exact .ptr id i o aC
 |fn f first cap vf vc hl bQ _ _ E7 E8=>exact .fn f first cap vf vc hl bQ E7 E8
 |omap id aC=>exact .omap id aC
 |jF id aC=>exact .jF id aC
theorem J8.shut{E:Env}{w:World}{G:Nat->Option aI}{id D:Nat}{x:Option (List Deferred)}{o:Obj}(h:w.heap[D]? =some (.deferred x)){b:aI}(r:J8 E w G id b):J8 E (w.putObj D o) G id b:=by
 cases b with
 |cells elem s rows wr a=>
  obtain⟨h1,h2,⟨cur,h3,h4,h5⟩,h6⟩:=r;refine⟨h1,h2,⟨cur,by rw[World.putObj_heap_other (fun e=>by rw[e,h]at h3;cases h3)];exact h3,h4,fun i j row x hr hx=> ?_⟩,h6⟩
  obtain⟨v,nF,eZ⟩:=h5 i j row x hr hx;exact⟨v,nF,eZ.shut h⟩
 |map es=>
  obtain⟨⟨ms,clock,h1,h2,h3,h4⟩,h5⟩:=r;refine⟨⟨ms,clock,by rw[World.putObj_heap_other (fun e=>by rw[e,h]at h1;cases h1)];exact h1,h2,h3,fun i k x hx=> ?_⟩,h5⟩
  obtain⟨e,k7,lA,qA⟩:=h4 i k x hx;exact⟨e,k7,lA,qA.shut h⟩
 |iter m n seen=>
  obtain⟨⟨h1,h3⟩,h5⟩:=r;exact⟨⟨by rw[World.putObj_heap_other (fun e=>by rw[e,h]at h1;cases h1)];exact h1,h3⟩,h5⟩
 |cJ env nt ps assign body st J7=>
  obtain⟨⟨fn,tmps,D',h1,h2,h3⟩,h5⟩:=r;refine⟨⟨fn,tmps,D',by rw[World.putObj_heap_other (fun e=>by rw[e,h]at h1;cases h1)];exact h1,h2,fun t c a ht=> ?_⟩,h5⟩
  obtain⟨v,k7,lA,qA⟩:=h3 t c a ht;exact⟨v,k7,fun hc=>(lA hc).shut h,qA⟩
theorem RH.shut{E:Env}{w:World}{H:Heap}{D:Nat}{x:Option (List Deferred)}{o:Obj}(h:w.heap[D]? =some (.deferred x))(r:RH E w H):RH E (w.putObj D o) H:=
 ⟨r.next,fun b hb=>r.core.lim b (by simpa using hb),fun id aC=>by simpa using r.core.eX id aC,fun id b hg=>⟨(r.core.ok id b hg).1,(r.core.ok id b hg).2.shut h⟩⟩
theorem Rel.shut{E:Env}{w:World}{σ:AS}{act:Act}{D:Nat}{x:Option (List Deferred)}{o:Obj}(h:w.heap[D]? =some (.deferred x))(r:Rel E w σ {act with defers:=[]}):Rel E (w.putObj D o) σ {act with defers:=[]}:=
 ⟨Marks.nil _ _,r.size,fun t c a ha=>let ⟨v,h1,h2,h3⟩:=r.env t c a ha;⟨v,h1,fun hc=>(h2 hc).shut h,h3⟩,r.heap.shut h⟩
theorem bD.shut{E E':Env}{W w:World}{D:Nat}{o:Obj}(hv:bD E W E' w)(hL:∀b,W.heap.size<=b->E.L b=0)(hD:W.heap.size<=D):bD E W E' (w.putObj D o):=by
 have hb:∀b,b<W.heap.size->(w.putObj D o).heap[b]? =w.heap[b]? :=fun b h=>World.putObj_heap_other (by omega)
 refine⟨hv.os,hv.tape,hv.output,by simpa using hv.size,hv.used,hv.jL,hv.lim,fun b k hk=> ?_,fun b h hf=>(hb b h).trans (hv.sD b h hf),fun b cur e f hc=> ?_,hv.still,hv.fresh,fun b r hr=> ?_⟩
 ·have bG:b<W.heap.size:=by
   rcases lU b W.heap.size with h|h
   ·exact h
   ·rw[hL b h]at hk;omega
  rw[<-hv.yB b k hk];unfold World.cell?;rw[hb b bG]
 ·rw[hb b (jB.1 hc).1];exact hv.cD b cur e f hc
 ·rw[hb b (jB.1 hr).1];exact hv.loops b r hr
theorem NN{P:Program}{fn:Func}{tmps:Array Value}{R:Ending->World->Prop}{I:World->Prop}{u:FrameMode}(hu:u≠ .run){rest:List Deferred}:∀(ds:List Deferred) (Ds:List Nat),ds.filter wT=Ds.map qP->oX ds=[]->Ds.Nodup->(∀D∈Ds,∀w,w.heap[D]? =some (.deferred (some []))->I w->I (w.putObj D (.deferred none)))->
  (∀w,I w->LeavesInM Fence.wide 3 P fn tmps R rest u w)->∀{w:World},(∀D∈Ds,w.heap[D]? =some (.deferred (some [])))->I w->LeavesInM Fence.wide 3 P fn tmps R (ds++rest) u w
 |[],_,_,_,_,_,fin,w,_,hI=>fin w hI
 |d::ds,Ds,hm,ho,hn,hs,fin,w,hw,hI=>by
  have hd:wT d=true:=by
   cases h:wT d with
   |true=>rfl
   |false=>
    unfold oX at ho;rw[PI (by simp[h])]at ho
    cases ho
  rw[PI hd]at hm;cases Ds with
  |nil=>simp at hm
  |cons D Ds=>
   rw[jW,PG]at hm;obtain⟨rfl,hm⟩:=hm;have h0:=hw D (by simp)
   rw[Iy]at hn;refine⟨hu,.inl ⟨D,w.putObj D (.deferred none),rfl,run_takeDeferred h0,?_⟩⟩
   have vN:oX ds=[]:=by
    unfold oX at ho⊢;rw[UE (by simp[hd])]at ho
    exact ho
   refine NN hu ds Ds hm vN hn.2 (fun D' u5=>hs D' (by simp[u5])) fin (fun D' u5=> ?_) (hs D (by simp) w h0 hI)
   rw[World.putObj_heap_other (fun e=>hn.1 (by rw[<-e];exact u5))]
   exact hw D' (by simp[u5])
theorem EI{P:Program}{n:FuncId}{fn:Func}{c:Code}{args:List AV}{H:Heap}{Q:AV->Heap->Prop}(hf:P.funcs[n]? =some fn)(hb:fn.body=some c)(fP:(fn.name== "runtime.NumGoroutine")=false)(hlen:args.length<=fn.ntmps)
  (h:AW P c ⟨lK 0 args,H,fn.ntmps⟩ (hold (cB P fn.results.toList (hold Q ⟨⟩)) ⟨⟩)):gX P n args H Q:=by
 refine⟨by unfold qN;rw[hf];simp[fP,hb],fun E W vs hH hr=> ?_⟩
 refine callsIn_wide.1 (callsIn_of_wp_marks (F:=Fence.wide) (n:=3) hf hb trivial ?_)
 have bR:Rel E W ⟨lK 0 args,H,fn.ntmps⟩ {tmps:=vs.toArray++Array.replicate (fn.ntmps-vs.toArray.size) undef,defers:=[]}:=by
  refine⟨Marks.nil E W,?_,fun t c a ha=> ?_,hH⟩
  ·have:=hr.1;simp;omega
  ·obtain⟨_,h1,SO⟩:=Gd args 0 t _ ha
   obtain⟨v,h2,h3⟩:=hr.get h1;simp only[Jc]at h2;refine⟨v,?_,fun _=>h3,fun h=>by simp only at SO;rw[SO]at h;cases h⟩
   rw[PH (by simpa using(dS.1 h2).1)]
   simpa using h2
 refine wpIn_mono (h none E W _ (fun l h=>by cases h) bR) fun e a w ⟨E',aL,h1,h2,h3,h4⟩=> ?_
 have fin:nO (iZ P aL fn.results.toList) (hold (fun a=>Q a aL.H) ⟨⟩)->LeavesInM Fence.wide 3 P fn a.tmps (fun e W'=>∃v,e= .returned v/\∃E' r H',bD E W E' W'/\RH E' W' H'/\RV E' W' r v/\Q r H') a.defers .returning w:=fun hq=>by
  obtain⟨b,hb,hq⟩:=GN hq;obtain⟨Ds,pL,tB,yL⟩:=h2.defers;have CV:∀D∈Ds,W.heap.size<=D:=fun D hD=>(h1.new D (N7 pL hD)).resolve_left (fun h=>by cases h)
  have key:=NN (P:=P) (fn:=fn) (tmps:=a.tmps) (R:=fun e W'=>∃v,e= .returned v/\∃E' r H',bD E W E' W'/\RH E' W' H'/\RV E' W' r v/\Q r H') (I:=fun w'=>bD E W E' w'/\Rel E' w' aL {a with defers:=[]}) (u:= .returning) (by simp) (rest:=[]) a.defers Ds pL h1.BE tB (fun D hD w' hw hI=>⟨hI.1.shut hH.core.lim (CV D hD),hI.2.shut hw⟩) (fun w' hI=> ?_) (fun D hD=>(yL D hD).1) ⟨h1.oY,⟨Marks.nil _ _,h2.size,h2.env,h2.heap⟩⟩
  ·rw[rO]at key;exact key
  ·obtain⟨v,h5,h6⟩:=Ge hI.2 hb
   exact⟨v,h5,v,rfl,E',b,aL.H,hI.1,hI.2.heap,h6,hq⟩
 cases e with
 |normal=>exact fin h4
 |ret=>exact fin h4
 |_=>exact h4.elim
end Go.AL
namespace Go.AL
open Go.RowKit
def Y0:Option aI->Nat->Option (List AV)
 |some (.cells _ _ rows _ _),i=>rows[i]?
 |_,_=>none
theorem Uq{b:Option aI}{i:Nat}{row:List AV}(h:Y0 b i=some row):∃e s rows w a,b=some (.cells e s rows w a)/\rows[i]? =some row:=by
 unfold Y0 at h;split at h
 ·exact⟨_,_,_,_,_,rfl,h⟩
 ·cases h
theorem Ur{E:Env}{W:World}{b i o len cap s:Nat}{cur:Array Value}{e:TypeId}{row:List AV}(bU:W.heap[b]? =some (Obj.cells cur e (0,0)))(hle:o+len<=row.length)(eA:len<=cap)(hL:i*s+o+len<=E.L b)
  (fH:∀(j:Nat) x,o<=j->j<o+len->row[j]? =some x->∃u,cur[i*s+j]? =some u/\RV E W x u):RV E W (.snap (((row.drop o).take len).map fun x=> [x])) (.slice (some ⟨b,i*s+o,none⟩) len cap):=by
 have bX:∀(k j:Nat) r x,(((row.drop o).take len).map fun x=> [x])[k]? =some r->r[j]? =some x->j=0/\k<len/\row[o+k]? =some x:=fun k j r x h1 h2=>by
  rw[iA]at h1;obtain⟨y,hy,rfl⟩:=map_some h1;rw[gF]at hy;split at hy
  ·rename_i hk
   rw[m9]at hy;cases j with
   |zero=>simp at h2;subst h2;exact⟨rfl,hk,hy⟩
   |succ j=>simp at h2
  ·cases hy
 have hlen:(((row.drop o).take len).map fun x=> [x]).length=len:=by simp;omega
 refine .snap _ b (i*s+o) 1 len cap (fun k _=>cur.getD (i*s+(o+k)) undef) hlen.symm eA (fun k r hr=> ?_) (by rw[hlen];omega) (fun k j r x h1 h2=> ?_) (fun k j r x h1 h2=> ?_)
 ·rw[iA]at hr
  obtain⟨y,hy,rfl⟩:=map_some hr;rfl
 ·obtain⟨rfl,hk,hx⟩:=bX k j r x h1 h2
  obtain⟨u,h3,h4⟩:=fH (o+k) x (by omega) (by omega) hx
  rw[cell_of_row W _ _ cur e (0,0) bU,show i*s+o+(k*1+0)=i*s+(o+k)by omega,h3]
  simp[h3]
 ·obtain⟨rfl,hk,hx⟩:=bX k j r x h1 h2
  obtain⟨u,h3,h4⟩:=fH (o+k) x (by omega) (by omega) hx
  simp only[HJ,h3,qR];exact h4
theorem Us{rows:List (List AV)}{i s:Nat}(h:i<rows.length):i*s+s<=rows.length*s:=by
 have:=mU s (show i+1<=rows.length from h)
 rw[nX]at this;omega
def oN(G:Nat->Option aI)(a:AV):AV:=
 match a with
 | .own id off len=>match rowsOf G (.own id off len)with
   |some (rows,_)=> .snap rows
   |none=>a
 | .ptr id i o=>match G id with
   |some (.cells _ _ rows _ _)=> .dJ rows i o
   |_=>a
 | .sub id i o len=>match Y0 (G id) i with
   |some row=>if o+len<=row.length then .snap (((row.drop o).take len).map fun x=> [x])else a
   |none=>a
 |_=>a
def m7(G:Nat->Option aI)(a:AV):AV:=
 match a with
 | .agg xs=> .agg (xs.map (oN G))
 | .fn f xs ys=> .fn f (xs.map (oN G)) (ys.map (oN G))
 |_=>oN G a
def EJ(G:Nat->Option aI)(a:AV):AV:=
 match a with
 | .aR xs=> .aR (xs.map (m7 G))
 |_=>m7 G a
section
variable {E : Env} {W : World} {G : Nat -> Option aI} {L : Nat -> Nat}
theorem Y1(hG:RC E W G)(hL:∀b,E.L b<=L b)(nP:∀id,E.U id->∀(cur:Array Value) (e:TypeId) (f:Nat×Nat),W.heap[E.ι id]? =some (Obj.cells cur e f)->cur.size<=L (E.ι id)){a:AV}{v:Value}(r:RV E W a v)(h:bJ (oN G a)):RV (fM L) W (oN G a) v:=by
 unfold oN at h⊢;split at h
 ·rename_i id off len
  split at h
  ·rename_i rows rd dB
   have hU:=(tO r).1;rcases(tO r).2 with⟨cap,hv,eA,B7,e0,f0,k9,SP⟩|⟨mZ,a0,hv⟩
   ·subst hv
    simp only[rowsOf]at dB;split at dB
    ·rename_i e s dZ w ap bX
     split at dB
     ·rename_i hle
      simp only[bB,bY]at dB;obtain⟨rfl,rfl⟩:=dB;obtain⟨_,kL,hlen,⟨cur,bU,rG,fH⟩,_,_⟩:=hG.ok id _ bX;rw[bU]at k9;injection k9 with k9
      injection k9 with k9 JY JZ
      subst k9;subst JY;subst JZ;have EK:=nP id hU cur e (0,0) bU;rw[eF]at h
      have sE:∀(i:Nat) row,((dZ.drop off).take len)[i]? =some row->dZ[off+i]? =some row:=fun i row hr=>by
       rw[gF]at hr;split at hr
       ·rwa[m9]at hr
       ·cases hr
      have vH:((dZ.drop off).take len).length=len:=by simp;omega
      have hmul:(off+len)*s<=dZ.length*s:=mU s hle;refine .snap _ (E.ι id) (off*E.sz id) s len cap (fun i j=>cur.getD ((off+i)*s+j) undef) vH.symm eA (fun i row hr=>hlen _ row (sE i row hr)) ?_ (fun i j row x h1 h2=> ?_) (fun i j row x h1 h2=> ?_)
      ·rw[vH,kL,<-nX];simp only[fM];omega
      ·obtain⟨u,h3,h4⟩:=fH _ j row x (sE i row h1) h2
       rw[cell_of_row W _ _ cur e (0,0) bU,kL];have he:off*s+(i*s+j)=(off+i)*s+j:=by rw[nX];omega
       rw[he,h3];simp[h3]
      ·obtain⟨u,h3,h4⟩:=fH _ j row x (sE i row h1) h2
       simp only[HJ,h3,qR];exact h4.qO hL (h row (eY h1) x (eY h2))
     ·cases dB
    ·cases dB
   ·subst mZ;subst hv
    have:rows=[]:=by
     simp only[rowsOf]at dB;split at dB
     ·split at dB
      ·simp at dB;exact dB.1
      ·cases dB
     ·cases dB
    subst this;exact .kY _ _
  ·cases h
 ·rename_i id i o
  split at h
  ·rename_i e s rows w ap bX
   cases r with
   |ptr _ _ _ hU=>
   obtain⟨_,kL,hlen,⟨cur,bU,rG,fH⟩,_,_⟩:=hG.ok id _ bX;have EK:=nP id hU cur e (0,0) bU;cases h with
   |dJ _ _ _ h=>
   have:=RV.dJ (E:=fM L) (W:=W) rows i o (E.ι id) 0 s (fun i j=>cur.getD (i*s+j) undef) hlen (by simp only[fM];omega) (fun i j row x h1 h2=>by
    obtain⟨u,h3,h4⟩:=fH i j row x h1 h2;rw[cell_of_row W _ _ cur e (0,0) bU,sN,h3];simp[h3]) (fun i j row x h1 h2=>by
    obtain⟨u,h3,h4⟩:=fH i j row x h1 h2;simp only[HJ,h3,qR]
    exact h4.qO hL (h row (eY h1) x (eY h2)))
   rw[kL];simpa using this
  ·cases h
 ·rename_i id i o len
  split at h
  ·rename_i row bH
   obtain⟨e,s,rows,w,ap,bX,BC⟩:=Uq bH;by_cases hle:o+len<=row.length
   ·rw[if_pos hle]at h⊢
    cases r with
    |sub _ _ _ _ cap hU eA SP=>
    obtain⟨_,kL,hlen,⟨cur,bU,rG,fH⟩,_,_⟩:=hG.ok id _ bX;have EK:=nP id hU cur e (0,0) bU;rw[eF]at h;have gH:=hlen i row BC;have bG:i<rows.length:=(dS.1 BC).1;have hm:=Us (s:=s) bG;rw[kL];refine Ur (E:=fM L) (s:=s) bU hle eA (show i*s+o+len<=L (E.ι id)by omega) fun j x h1 h2 hx=> ?_
    obtain⟨u,h3,h4⟩:=fH i j row x BC hx;refine⟨u,h3,h4.qO hL (h [x] (mS.2 ⟨x,?_,rfl⟩) x (by simp))⟩
    refine eY (i:=j-o) ?_;rw[UB (by omega),m9,show o+(j-o)=j by omega]
    exact hx
   ·rw[if_neg hle]at h
    cases h
  ·cases h
 ·exact r.qO hL h
theorem Ut(hG:RC E W G)(hL:∀b,E.L b<=L b)(nP:∀id,E.U id->∀(cur:Array Value) (e:TypeId) (f:Nat×Nat),W.heap[E.ι id]? =some (Obj.cells cur e f)->cur.size<=L (E.ι id)){a:AV}{v:Value}(r:RV E W a v)(h:bJ (m7 G a)):RV (fM L) W (m7 G a) v:=by
 unfold m7 at h⊢;split at h
 ·rename_i xs
  rw[e8]at h;cases r with
  |agg _ vs hl hr=>
  refine .agg _ vs (by simpa using hl) fun i x v hx hv=> ?_
  rw[iA]at hx;obtain⟨y,hy,rfl⟩:=map_some hx;exact Y1 hG hL nP (hr i y v hy hv) (h _ (mS.2 ⟨y,eY hy,rfl⟩))
 ·rename_i f xs ys
  cases h with
  |fn _ _ _ mY lG=>
  cases r with
  |fn _ _ _ vf vc hl bQ hr lP=>
  refine .fn _ _ _ vf vc (by simpa using hl) (by simpa using bQ) (fun i x v hx hv=> ?_) (fun i x v hx hv=> ?_)
  ·rw[iA]at hx
   obtain⟨y,hy,rfl⟩:=map_some hx;exact Y1 hG hL nP (hr i y v hy hv) (mY _ (mS.2 ⟨y,eY hy,rfl⟩))
  ·rw[iA]at hx
   obtain⟨y,hy,rfl⟩:=map_some hx;exact Y1 hG hL nP (lP i y v hy hv) (lG _ (mS.2 ⟨y,eY hy,rfl⟩))
 ·exact Y1 hG hL nP r h
theorem bb6(hG:RC E W G)(hL:∀b,E.L b<=L b)(nP:∀id,E.U id->∀(cur:Array Value) (e:TypeId) (f:Nat×Nat),W.heap[E.ι id]? =some (Obj.cells cur e f)->cur.size<=L (E.ι id)){a:AV}{v:Value}(r:RV E W a v)(h:bJ (EJ G a)):RV (fM L) W (EJ G a) v:=by
 unfold EJ at h⊢;split at h
 ·rename_i xs
  rw[eN]at h;cases r with
  |aR _ vs hl hr=>
  refine .aR _ vs (by simpa using hl) fun i x v hx hv=> ?_
  rw[iA]at hx;obtain⟨y,hy,rfl⟩:=map_some hx;exact Ut hG hL nP (hr i y v hy hv) (h _ (mS.2 ⟨y,eY hy,rfl⟩))
 ·exact Ut hG hL nP r h
end
theorem bb7{P:Program}{n:FuncId}{fn:Func}{c:Code}{args:List AV}{Q:AV->Prop}(hf:P.funcs[n]? =some fn)(hb:fn.body=some c)(fP:(fn.name== "runtime.NumGoroutine")=false)(hlen:args.length<=fn.ntmps)
  (h:AW P c ⟨lK 0 args,⟨0,dH []⟩,fn.ntmps⟩ (hold (cB P fn.results.toList (hold (fun a H'=>bJ (EJ H'.get a)/\Q (EJ H'.get a)) ⟨⟩)) ⟨⟩)):fD P n args Q:=by
 have hA:=EI hf hb fP hlen h;refine⟨hA.1,fun L W vs hL hr=> ?_⟩
 have lR:RH (fM L) W ⟨0,dH []⟩:=⟨fun id h=>h.elim,hL,fun id h=>h.elim,fun id b h=>by cases h⟩
 refine(hA.2 (fM L) W vs lR hr).mono fun e W' ⟨v,he,E',r,H',hv,hH,iF,gG,hq⟩=> ?_
 refine⟨v,he,EJ H'.get r,fun b=>if b<W.heap.size then L b else max (E'.L b) (match W'.heap[b]? with|some (.cells cur _ _)=>cur.size|_=>0),⟨hv.os,hv.tape,hv.output,hv.size,fun k hk=>hv.sD k hk fun id h=>h.elim⟩,fun b bZ=> ?_,fun b bZ=> ?_,?_,gG,hq⟩
 ·simp[bZ]
 ·have h1:¬b<W.heap.size:=by have:=hv.size;omega
  simp[h1,hH.core.lim b bZ,PJ bZ]
 ·refine bb6 hH.core (fun b=> ?_) (fun id hU cur e f hc=> ?_) iF gG
  ·by_cases bZ:b<W.heap.size
   ·rw[hv.still b bZ fun id h=>h.elim]
    simp[bZ,fM]
   ·simp[bZ];omega
  ·have h1:¬E'.ι id<W.heap.size:=by
    rcases hv.fresh id (fun h=>h) hU with h2|⟨rF,h2,_⟩
    ·omega
    ·exact h2.elim
   simp[h1,hc];omega
end Go.AL
