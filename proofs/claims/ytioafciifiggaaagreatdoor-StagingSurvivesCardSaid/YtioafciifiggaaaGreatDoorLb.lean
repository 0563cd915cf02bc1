/- Staging. No condition. -/
import Derived.Test.YtioafciifiggaaaGreatDoorL0
import Derived.Test.YtioafciifiggaaaGreatDoorLa
import Derived.RangeFuncNested
set_option linter.all false
namespace Go.AL
open Go.RowKit
def rD(P:Program)(n:FuncId):Bool:=
 match P.funcs[n]? with
 |some fn=> !(fn.name== "runtime.NumGoroutine")&& !fn.body.isNone
 |none=>false
def fU(P:Program)(n:FuncId)(args:List AV)(H:Heap)(Q:AV->Heap->Prop):Prop:=
 rD P n=true/\∀(E:Env) (W:World) (vs:List Value),RH E W H->bX E W args vs->
  Calls P n vs.toArray W fun e W'=>∃v,e= .returned v/\∃E' r H',bE E W E' W'/\RH E' W' H'/\RV E' W' r v/\Q r H'
theorem fU.mono{P:Program}{n:FuncId}{args:List AV}{H:Heap}{Q Q':AV->Heap->Prop}(h:fU P n args H Q)(hq:∀r H',Q r H'->Q' r H'):fU P n args H Q':=
 ⟨h.1,fun E W vs hH hr=>(h.2 E W vs hH hr).mono fun e W' ⟨v,he,E',r,H',h1,h2,h3,h4⟩=>⟨v,he,E',r,H',h1,h2,h3,hq r H' h4⟩⟩
inductive bK:AV->Prop
 |c (x:Value):bK (.c x)
 |agg (xs:List AV) (h:∀x∈xs,bK x):bK (.agg xs)
 |aU (xs:List AV) (h:∀x∈xs,bK x):bK (.aU xs)
 |snap (rows:List (List AV)) (h:∀row∈rows,∀x∈row,bK x):bK (.snap rows)
 |dD (rows:List (List AV)) (i o:Nat) (h:∀row∈rows,∀x∈row,bK x):bK (.dD rows i o)
 |fn (f:Fn) (first cap:List AV) (h:∀x∈first,bK x) (h2:∀x∈cap,bK x):bK (.fn f first cap)
theorem fQ(x:Value):bK (.c x):= .c x
theorem eV{xs:List AV}:bK (.agg xs)↔∀x∈xs,bK x:=⟨fun h=>by cases h;assumption,.agg xs⟩
theorem fN{xs:List AV}:bK (.aU xs)↔∀x∈xs,bK x:=⟨fun h=>by cases h;assumption,.aU xs⟩
theorem fC{rows:List (List AV)}:bK (.snap rows)↔∀row∈rows,∀x∈row,bK x:=⟨fun h=>by cases h;assumption,.snap rows⟩
def fM(L:Nat->Nat):Env:=⟨fun _=>0,fun _=>0,fun _=>False,L⟩
theorem RV.rE{E:Env}{W:World}{L:Nat->Nat}(hL:∀b,E.L b<=L b){a:AV}{v:Value}(r:RV E W a v)(h:bK a):RV (fM L) W a v:=by
 induction r with
 |c x hx=>exact .c x hx
 |agg xs vs hl _ ih=>
  rw[eV]at h;exact .agg xs vs hl fun i x v hx hv=>ih i x v hx hv (h x (eS hx))
 |aU xs vs hl _ ih=>
  rw[fN]at h;exact .aU xs vs hl fun i x v hx hv=>ih i x v hx hv (h x (eS hx))
 |snap rows b off s n cap vs hn qK hs MV hc hr ih=>
  rw[fC]at h;exact .snap rows b off s n cap vs hn qK hs (s8 MV (hL b)) hc fun i j row x h1 h2=>ih i j row x h1 h2 (h row (eS h1) x (eS h2))
 |lV a cap=>exact .lV a cap
 |dD rows i o b off s vs hs MV hc hr ih=>
  cases h with
  |dD _ _ _ h=>
  exact .dD rows i o b off s vs hs (s8 MV (hL b)) hc fun i j row x h1 h2=>ih i j row x h1 h2 (h row (eS h1) x (eS h2))
 |own id off len cap aB eC dP=>cases h
 |mW id off a aB=>cases h
 |sub id i o len cap aB eC dP=>cases h
 |ptr id i o aB=>cases h
 |fn f first cap vf vc hl cW _ _ HF HG=>
  cases h with
  |fn _ _ _ h h2=>
  exact .fn f first cap vf vc hl cW (fun i x v hx hv=>HF i x v hx hv (h x (eS hx))) (fun i x v hx hv=>HG i x v hx hv (h2 x (eS hx)))
 |omap id aB=>cases h
 |kH id aB=>cases h
theorem RV.HO{E:Env}{W:World}{L:Nat->Nat}(hL:∀b,L b<=E.L b){a:AV}{v:Value}(r:RV (fM L) W a v):RV E W a v:=by
 induction r with
 |c x hx=>exact .c x hx
 |agg xs vs hl _ ih=>exact .agg xs vs hl ih
 |aU xs vs hl _ ih=>exact .aU xs vs hl ih
 |snap rows b off s n cap vs hn qK hs MV hc hr ih=>exact .snap rows b off s n cap vs hn qK hs (s8 MV (hL b)) hc ih
 |lV a cap=>exact .lV a cap
 |dD rows i o b off s vs hs MV hc hr ih=>exact .dD rows i o b off s vs hs (s8 MV (hL b)) hc ih
 |own id off len cap aB eC dP=>exact aB.elim
 |mW id off a aB=>exact aB.elim
 |sub id i o len cap aB eC dP=>exact aB.elim
 |ptr id i o aB=>exact aB.elim
 |fn f first cap vf vc hl cW _ _ HF HG=>exact .fn f first cap vf vc hl cW HF HG
 |omap id aB=>exact aB.elim
 |kH id aB=>exact aB.elim
theorem bX.rE{E:Env}{W:World}{L:Nat->Nat}(hL:∀b,E.L b<=L b){as:List AV}{vs:List Value}(r:bX E W as vs)(h:∀a∈as,bK a):bX (fM L) W as vs:=
 ⟨r.1,fun i x v hx hv=>(r.2 i x v hx hv).rE hL (h x (eS hx))⟩
def eU(P:Program)(n:FuncId)(args:List AV)(Q:AV->Prop):Prop:=
 rD P n=true/\∀(L:Nat->Nat) (W:World) (vs:List Value),(∀b,W.heap.size<=b->L b=0)->bX (fM L) W args vs->
  Calls P n vs.toArray W fun e W'=>∃v,e= .returned v/\∃r L',Below W.heap.size W W'/\(∀b,b<W.heap.size->L' b=L b)/\(∀b,W'.heap.size<=b->L' b=0)/\RV (fM L') W' r v/\bK r/\Q r
theorem eU.run{P:Program}{n:FuncId}{args:List AV}{Q:AV->Prop}(h:eU P n args Q)(ha:∀a∈args,bK a){E:Env}{W:World}{H:Heap}(hH:RH E W H){vs:List Value}(hr:bX E W args vs):
  Calls P n vs.toArray W fun e W'=>∃v,e= .returned v/\∃r L',bE E W ⟨E.ι,E.sz,E.U,L'⟩ W'/\RH ⟨E.ι,E.sz,E.U,L'⟩ W' H/\RV ⟨E.ι,E.sz,E.U,L'⟩ W' r v/\bK r/\Q r:=by
 refine(h.2 E.L W vs hH.core.lim (hr.rE (fun _=>cE _) ha)).mono fun e W' ⟨v,he,r,L',hb,h2,h3,h4,h5,h6⟩=> ?_
 have bG:∀b k,k<E.L b->b<W.heap.size:=fun b k hk=>by
  rcases oA b W.heap.size with h|h
  ·exact h
  ·have:=hH.core.lim b h;omega
 have hv:bE E W ⟨E.ι,E.sz,E.U,L'⟩ W':=by
  refine⟨hb.os,hb.tape,hb.output,hb.size,fun _ h=>h,fun _ _=>⟨rfl,rfl⟩,fun b=> ?_,fun b k hk=> ?_,fun b bY _=>hb.block b bY,fun b cur e f hc=> ?_,fun b bY _=>h2 b bY,fun id h h'=>absurd h' h,fun b r h=>⟨r,by rw[hb.block b (jG.1 h).1];exact h,rfl⟩⟩
  ·rcases oA b W.heap.size with h|h
   ·exact Z5 (h2 b h).symm
   ·rw[hH.core.lim b h];exact iG _
  ·exact hb.cell (p:=⟨b,k,none⟩) (bG b k hk)
  ·exact⟨cur,f,by rw[hb.block b (jG.1 hc).1];exact hc,rfl⟩
 refine⟨v,he,r,L',hv,⟨hH.next,h3,fun id hU=>vF (hH.core.eL id hU) hb.size,fun id b hg=> ?_⟩,h4.HO (fun _=>cE _),h5,h6⟩
 obtain⟨hU,dO⟩:=hH.core.ok id b hg;have rX:=hH.core.eL id hU;exact⟨hU,dO.mono hv hU (hb.block _ rX) (h2 _ rX) fun aM b' _ cL vU=>⟨b',cL,vU,rfl,fun h=>h⟩⟩
theorem fU.pure{P:Program}{n:FuncId}{args:List AV}{Q:AV->Prop}(h:eU P n args Q)(ha:∀a∈args,bK a){H:Heap}{K:AV->Heap->Prop}(hk:∀r,bK r->Q r->K r H):fU P n args H K:=
 ⟨h.1,fun E W vs hH hr=>(h.run ha hH hr).mono fun e W' ⟨v,he,r,L',h1,h2,h3,h4,h5⟩=>⟨v,he,_,r,H,h1,h2,h3,hk r h4 h5⟩⟩
end Go.AL
namespace Go.AL
open Go.RowKit
def sC(P:Program)(n:FuncId)(args:List AV)(e:TypeId)(k:Nat)(rows:List (List AV)):Prop:=
 rD P n=true/\∀(E:Env) (W:World) (G:Nat->Option aI) (aF:Nat) (vs:List Value),RC E W G->¬E.U aF->bX E W args vs->
  Calls P n vs.toArray W fun x W'=>∃v,x= .returned v/\∃E',bE E W E' W'/\RC E' W' (aX G [(aF,some (.cells e k rows true true))])/\RV E' W' (.own aF 0 rows.length) v/\∀id,E'.U id->E.U id\/id=aF
theorem bU4{P:Program}{n:FuncId}{args:List AV}{e:TypeId}{k:Nat}{rows:List (List AV)}(ha:∀a∈args,bK a)(dB:∀row∈rows,∀x∈row,bK x)
  (h:fU P n args ⟨0,cV []⟩ fun r H'=>∃i,r= .own i 0 rows.length/\H'.get i=some (.cells e k rows true true)):sC P n args e k rows:=by
 refine⟨h.1,fun E W G aF vs hG gR hr=> ?_⟩
 have mA:RH (fM E.L) W ⟨0,cV []⟩:=⟨fun id h=>h.elim,hG.lim,fun id h=>h.elim,fun id b h=>by cases h⟩
 refine(h.2 (fM E.L) W vs mA (hr.rE (fun _=>cE _) ha)).mono fun x W' ⟨v,he,E1,r,H',hv,hH,iF,i,AX,k8⟩=> ?_
 subst AX;obtain⟨zG,iB⟩:=hH.core.ok i _ k8;obtain⟨dP,hlen,⟨cur,cK,hle,eX⟩,GR,ha1⟩:=iB;have mS:=(GR rfl).1
 have nP:W.heap.size<=E1.ι i:=by
  rcases hv.fresh i (fun h=>h) zG with h1|⟨tH,h1,_⟩
  ·exact h1
  ·exact h1.elim
 have bG:E1.ι i<W'.heap.size:=hH.core.eL i zG;have JR:∀b,b<W.heap.size->E1.L b=E.L b:=fun b hb=>hv.still b hb fun id h=>h.elim
 have hold:∀b,b<W.heap.size->W'.heap[b]? =W.heap[b]? :=fun b hb=>hv.tZ b hb fun id h=>h.elim
 have XH:∀b,E.L b<=E1.L b:=hv.lim
 let E':Env:=⟨fun id=>if id=aF then E1.ι i else E.ι id,fun id=>if id=aF then k else E.sz id,fun id=>E.U id\/id=aF,E1.L⟩
 have cY:∀id,E.U id->E'.ι id=E.ι id:=fun id aB=>by
  show(if id=aF then _ else _)=_
  rw[if_neg];rintro rfl;exact gR aB
 have hs:∀id,E.U id->E'.sz id=E.sz id:=fun id aB=>by
  show(if id=aF then _ else _)=_
  rw[if_neg];rintro rfl;exact gR aB
 have gL:E'.ι aF=E1.ι i:=by show(if aF=aF then _ else _)=_;rw[if_pos rfl]
 have jS:E'.sz aF=k:=by show(if aF=aF then _ else _)=_;rw[if_pos rfl]
 have xY:bE E W E' W':=by
  refine⟨hv.os,hv.tape,hv.output,hv.size,fun id h=> .inl h,fun id aB=>⟨cY id aB,hs id aB⟩,XH,hv.zB,fun b hb _=>hold b hb,hv.b8,fun b hb _=>JR b hb,fun id h1 h2=> ?_,hv.loops⟩
  rcases h2 with h2|h2
  ·exact absurd h2 h1
  ·subst h2;rw[gL];exact .inl nP
 have bH:∀{x u},RV E1 W' x u->bK x->RV E' W' x u:=fun hx hn=>RV.HO (E:=E') (L:=E1.L) (fun _=>cE _) (hx.rE (L:=E1.L) (fun _=>cE _) hn)
 have yT:∀id,E.U id->E'.ι id≠E1.ι i:=fun id aB heq=>by
  rw[cY id aB]at heq;have:=hG.eL id aB;omega
 refine⟨v,he,E',xY,⟨hH.core.lim,fun id aB=> ?_,fun id b hb=> ?_⟩,?_,fun id h=>h⟩
 ·rcases aB with aB|aB
  ·rw[cY id aB];exact vF (hG.eL id aB) hv.size
  ·subst aB;rw[gL];exact bG
 ·simp only[aX]at hb
  by_cases aB:id=aF
  ·subst aB
   rw[if_pos rfl]at hb;injection hb with hb
   subst hb;refine⟨.inr rfl,jS,hlen,⟨cur,by rw[gL];exact cK,hle,fun i' j row x h1 h2=> ?_⟩,fun _=>⟨by rw[gL];exact mS,fun aM b' aJ cL heq=> ?_⟩,fun _=>⟨by rw[gL];show E1.L _<=_;rw[mS];exact iG _,fun aM b' aJ cL heq=> ?_⟩⟩
   ·obtain⟨u,h3,h4⟩:=eX i' j row x h1 h2
    exact⟨u,h3,bH h4 (dB row (eS h1) x (eS h2))⟩
   ·rw[gL]at heq
    simp only[aX,if_neg aJ]at cL;exact yT aM (hG.ok aM b' cL).1 heq
   ·rw[gL]at heq
    simp only[aX,if_neg aJ]at cL;exact absurd heq (yT aM (hG.ok aM b' cL).1)
  ·rw[if_neg aB]at hb
   obtain⟨hU,dO⟩:=hG.ok id b hb;have rX:=hG.eL id hU;refine⟨.inl hU,dO.mono xY hU (hold _ rX) (JR _ rX) fun aM b' aJ cL heq=> ?_⟩
   simp only[aX]at cL;by_cases uR:aM=aF
   ·subst uR
    rw[gL]at heq;omega
   ·rw[if_neg uR]at cL
    exact⟨b',cL,by rw[<-heq,cY aM (hG.ok aM b' cL).1],rfl,fun h=>h⟩
 ·rcases(wO iF).2 with⟨cap,rfl,eC,HM,e2,f2,h4,h5⟩|⟨oZ,a,rfl⟩
  ·have:=RV.own (E:=E') (W:=W') aF 0 rows.length cap (.inr rfl) eC ⟨HM,e2,f2,by rw[gL];exact h4,by rw[jS,<-dP];exact h5⟩
   rw[gL,jS]at this;simpa[dP]using this
  ·rw[oZ]
   exact .mW _ _ _ (.inr rfl)
theorem sC.run{P:Program}{n:FuncId}{args:List AV}{e:TypeId}{k:Nat}{rows:List (List AV)}(h:sC P n args e k rows){H:Heap}:
  fU P n args H fun r H'=>r= .own H.next 0 rows.length/\H'=⟨H.next+1,aX H.get [(H.next,some (.cells e k rows true true))]⟩:=
 ⟨h.1,fun E W vs hH hr=>(h.2 E W H.get H.next vs hH.core (fun hU=>KE _ (hH.next _ hU)) hr).mono fun x W' ⟨v,he,E',h1,h2,h3,h4⟩=>
   ⟨v,he,E',_,_,h1,⟨fun id aB=>by
     rcases h4 id aB with h5|h5
     ·exact TM (hH.next id h5)
     ·subst h5;exact G3 _,h2⟩,h3,rfl,rfl⟩⟩
end Go.AL
namespace Go.AL
open Go.RowKit
structure AS where
 env:List (Nat×Bool×AV)
 H:Heap
 nt:Nat
def AY(a b:Bool):Bool:= !a||b
def AS.get(σ:AS)(c:Bool):Operand->Option AV
 | .tmp t=>match lk σ.env t with
   |some (c',a)=>if AY c c'=true then some a else none
   |none=>none
 | .const v=>CA v
 | .global g=>some (.c (.pointer (some ⟨g,0,none⟩)))
 | .func f=>some (.fn (.func f) [] [])
def AS.put(σ:AS)(dst:Option Tmp)(c:Bool)(a:AV):AS:=
 match dst with
 |none=>σ
 |some d=>{σ with env:=(d,c,a)::σ.env}
def Heap.app(H:Heap)(wr:List (Nat×Option aI)):Heap:={next:=if wr.isEmpty then H.next else H.next+1,get:=aX H.get wr}
def tI(D:Nat):Deferred:={target:= .collected D,args:= #[]}
theorem au8{D D':Nat}(h:tI D=tI D'):D=D':=by unfold tI at h;injection h with h;injection h
def zH(d:Deferred):Bool:=match d.target with
 | .collected _=>true
 |_=>false
def rF(ds:List Deferred):List Deferred:=ds.filter fun d=> !zH d
theorem bU5{ds:List Deferred}{Ds:List Nat}(h:ds.filter zH=Ds.map tI){D:Nat}(hD:tI D∈ds):D∈Ds:=by
 have h1:tI D∈ds.filter zH:=pC.2 ⟨hD,rfl⟩;rw[h]at h1;obtain⟨D',h2,h3⟩:=kV.1 h1;rw[<-au8 h3];exact h2
theorem MW{ds:List Deferred}{Ds:List Nat}(h:ds.filter zH=Ds.map tI){D:Nat}(hD:D∈Ds):tI D∈ds:=by
 have h1:tI D∈Ds.map tI:=List.mem_map_of_mem hD;rw[<-h]at h1;exact(pC.1 h1).1
def Marks(E:Env)(W:World)(ds:List Deferred):Prop:=∃Ds:List Nat,ds.filter zH=Ds.map tI/\Ds.Nodup/\∀D∈Ds,W.heap[D]? =some (.deferred (some []))/\∀id,E.U id->E.ι id≠D
theorem Marks.nil(E:Env)(W:World):Marks E W []:=⟨[],rfl,aF1,fun D h=>by cases h⟩
theorem Marks.push{E:Env}{W:World}{ds:List Deferred}{d:Deferred}(h:Marks E W ds)(hd:zH d=false):Marks E W (d::ds):=by
 obtain⟨Ds,h1,h2,h3⟩:=h;exact⟨Ds,by rw[Z6 (by simp[hd])];exact h1,h2,h3⟩
theorem Marks.mono{E E':Env}{W W':World}{ds:List Deferred}(h:Marks E W ds)(hv:bE E W E' W'):Marks E' W' ds:=by
 obtain⟨Ds,h1,h2,h3⟩:=h;refine⟨Ds,h1,h2,fun D hD=> ?_⟩
 obtain⟨h4,h5⟩:=h3 D hD;have bG:D<W.heap.size:=(jG.1 h4).1;refine⟨(hv.tZ D bG h5).trans h4,fun id aB=> ?_⟩
 by_cases hU:E.U id
 ·rw[(hv.kT id hU).1];exact h5 id hU
 ·rcases hv.fresh id hU aB with h6|⟨tH,h6,h7⟩
  ·omega
  ·rw[<-h7];exact h5 tH h6
def kK(ro:Option Nat):Fence:={Fence.wide with round:=ro}
def R9(ro:Option Nat)(W:World):Prop:=∀l,ro=some l->∃r,W.heap[l]? =some (.loop r)
theorem R9.mono{ro:Option Nat}{E E':Env}{W W':World}(h:R9 ro W)(hv:bE E W E' W'):R9 ro W':=fun l hl=>by
 obtain⟨r,hr⟩:=h l hl;obtain⟨r',h1,_⟩:=hv.loops l r hr;exact⟨r',h1⟩
theorem CH{ro:Option Nat}{n:Nat}{P:Program}{f:FuncId}{args:Array Value}{w:World}{R:Ending->World->Prop}(h:Calls P f args w R):CallsIn (kK ro) n P f args w R:=
 (callsIn_wide (n:=n)).2 h
theorem AZ{ro:Option Nat}{n:Nat}:((kK ro).depth.isSome=true->1<=n):=fun h=>by simp[kK,Fence.wide]at h
structure eE(E:Env)(W:World)(act:Act)(E':Env)(W':World)(cF:Act):Prop where
 pS:bE E W E' W'
 new:∀D,tI D∈cF.defers->tI D∈act.defers\/W.heap.size<=D
 B0:rF cF.defers=rF act.defers
theorem eE.of{E E':Env}{W W':World}{act cF:Act}(hv:bE E W E' W')(hd:cF.defers=act.defers):eE E W act E' W' cF:=⟨hv,(fun D h=> .inl (hd▸h)),by rw[hd]⟩
theorem eE.refl(E:Env)(W:World)(act:Act):eE E W act E W act:= .of (bE.refl E W) rfl
theorem eE.trans{E E' v7:Env}{W W' CB:World}{act cF RD:Act}(h:eE E W act E' W' cF)(k:eE E' W' cF v7 CB RD):eE E W act v7 CB RD:=
 ⟨h.pS.trans k.pS,fun D hD=>by
   rcases k.new D hD with h1|h1
   ·exact h.new D h1
   ·exact .inr (s8 h.pS.size h1),k.B0.trans h.B0⟩
theorem Act.put_defers(a:Act)(dst:Option Tmp)(v:Value):(a.put dst v).defers=a.defers:=by unfold Act.put;split<;>rfl
structure Rel(E:Env)(W:World)(σ:AS)(act:Act):Prop where
 defers:Marks E W act.defers
 size:act.tmps.size=σ.nt
 env:∀t c a,lk σ.env t=some (c,a)->∃v,act.tmps[t]? =some v/\(c=true->RV E W a v)/\(c=false->v=undef)
 heap:RH E W σ.H
theorem Rel.get{E:Env}{W:World}{σ:AS}{act:Act}(h:Rel E W σ act){c:Bool}(hc:c=true){x:Operand}{a:AV}(hx:σ.get c x=some a):RV E W a (act.eval x):=by
 subst hc;cases x with
 |tmp t=>
  simp only[AS.get]at hx;split at hx
  ·rename_i c' a' yQ
   split at hx
   ·rename_i him
    injection hx with hx
    subst hx;obtain⟨v,h1,h2⟩:=h.env t c' a' yQ;simp only[Act.eval];rw[show act.tmps.getD t undef=v by simp[h1]]
    exact h2.1 (by simpa[AY]using him)
   ·cases hx
  ·cases hx
 |const v=>exact RV.CA hx
 |global g=>injection hx with hx;subst hx;exact .c _ rfl
 |func f=>injection hx with hx;subst hx;exact .fn _ [] [] #[] #[] rfl rfl (fun i x v h=>by simp at h) (fun i x v h=>by simp at h)
def fY(n:Nat)(o:Oper):Bool:=
 match o.dst with
 |none=>true
 |some d=>d<n
theorem Rel.put{E:Env}{W:World}{σ:AS}{act:Act}(h:Rel E W σ act){dst:Option Tmp}(hd:match dst with|none=>True|some d=>d<σ.nt){c:Bool}{a:AV}{v:Value}(r:c=true->RV E W a v)(r0:c=false->v=undef):Rel E W (σ.put dst c a) (act.put dst v):=by
 cases dst with
 |none=>exact h
 |some d=>
  refine⟨by simpa[Act.put]using h.defers,by simp[Act.put,AS.put,h.size],fun t c' b hb=> ?_,h.heap⟩
  simp only[AS.put,lk]at hb;split at hb
  ·rename_i ht
   subst ht;simp only[bC,cD]at hb;obtain⟨rfl,rfl⟩:=hb;refine⟨v,?_,r,r0⟩;simp only at hd;simp[Act.put,h.size,hd]
  ·rename_i ht
   obtain⟨u,h1,h2⟩:=h.env t c' b hb;exact⟨u,by simp only[Act.put];rw[Gi (mQ ht)];exact h1,h2⟩
theorem Rel.mono{E E':Env}{W W':World}{σ:AS}{act:Act}(h:Rel E W σ act)(hv:bE E W E' W'){H':Heap}(hH:RH E' W' H'):Rel E' W' {σ with H:=H'} act:=
 ⟨h.defers.mono hv,h.size,fun t c a ha=>let ⟨v,h1,h2⟩:=h.env t c a ha;⟨v,h1,fun hc=>(h2.1 hc).mono hv,h2.2⟩,hH⟩
def Split(b:Bool)(X Y:Prop):Prop:=(b=true->X)/\(b=false->Y)
def Ee(b want:Bool):Bool:=
 match want with
 |true=>b
 |false=> !b
def pT(ops:List Oper)(j:Nat)(env:List (Nat×Bool×AV)):Option (Bool×AV):=
 match ops[j]? with
 |some o=>match o.dst with
  |some t=>lk env t
  |none=>none
 |none=>none
def parts:Op->Bool
 | .indexAddr _ _ (.tmp _)=>true
 | .index _ _ (.tmp _)=>true
 | .slice .. =>true
 |_=>false
universe u v
structure Tag{α:Sort u}(a:α):Type where
def hold{α:Sort u}(a:α)(_:Tag a):α:=a
def p9{α:Type}(x:Option α)(K:α->Prop):Prop:=
 match x with
 |some a=>K a
 |none=>False
def zI{α:Type}(x:Option α)(K:α->Prop)(F:Prop):Prop:=
 match x with
 |some a=>K a
 |none=>F
theorem yD{α:Type}{a:α}{K:α->Prop}:p9 (some a) K=K a:=rfl
theorem HP{α:Type}{x:Option α}{K:α->Prop}(h:p9 x K):∃a,x=some a/\K a:=by
 cases x with
 |none=>exact h.elim
 |some a=>exact⟨a,rfl,h⟩
def kU:Option AV->Option Bool
 |some (.c (.bool b))=>some b
 |_=>none
theorem CI{x:Option AV}{b:Bool}(h:kU x=some b):x=some (.c (.bool b)):=by
 unfold kU at h;split at h
 ·injection h with h;subst h;rfl
 ·cases h
def fZ:Option AV->Option (List AV)->Option (FuncId×List AV)
 |some (.fn (.func n) first cap),some as=>some (n,first++as++cap)
 |_,_=>none
theorem B4{x:Option AV}{y:Option (List AV)}{n:FuncId}{args:List AV}(h:fZ x y=some (n,args)):∃first cap as,x=some (.fn (.func n) first cap)/\y=some as/\args=first++as++cap:=by
 unfold fZ at h;split at h
 ·simp only[bC,cD]at h
  obtain⟨rfl,rfl⟩:=h;exact⟨_,_,_,rfl,rfl,rfl⟩
 ·cases h
def B5:Option Bool->Option Bool->Option (Bool×Bool)
 |some p,some q=>some (p,q)
 |_,_=>none
theorem Pq{x y:Option Bool}{p q:Bool}(h:B5 x y=some (p,q)):x=some p/\y=some q:=by
 unfold B5 at h;split at h
 ·simp only[bC,cD]at h
  obtain⟨rfl,rfl⟩:=h;exact⟨rfl,rfl⟩
 ·cases h
def MX:Option kJ->Option AV
 |some (a,[],_)=>some a
 |_=>none
theorem bU7{x:Option kJ}{a:AV}(h:MX x=some a):∃rd,x=some (a,[],rd):=by
 unfold MX at h;split at h
 ·injection h with h;subst h;exact⟨_,rfl⟩
 ·cases h
def qL(x:Option (Bool×AV))(want:Bool):Option Bool:=
 match x with
 |some (c,.c (.bool b))=>some (c&&Ee b want)
 |_=>none
theorem au9{x:Option (Bool×AV)}{want c0:Bool}(h:qL x want=some c0):∃c b,x=some (c,.c (.bool b))/\c0=(c&&Ee b want):=by
 unfold qL at h;split at h
 ·injection h with h;exact⟨_,_,rfl,h.symm⟩
 ·cases h
def AW(P:Program)(c:Code)(σ:AS)(Q:Exit->AS->Prop):Prop:=
 ∀(ro:Option Nat) (E:Env) (W:World) (act:Act),R9 ro W->Rel E W σ act->c.wpIn (kK ro) 3 P (fun e cF W'=>∃E' aK,eE E W act E' W' cF/\Rel E' W' aK cF/\aK.nt=σ.nt/\Q e aK) act W
def jX(H:Heap)(id:Nat)(b:Option aI):Heap:=⟨H.next,aX H.get [(id,b)]⟩
def FN:List Tmp->List AV->List (Nat×Bool×AV)->List (Nat×Bool×AV)
 |p::ps,a::as,env=>FN ps as ((p,true,a)::env)
 |_,_,env=>env
def HQ(id:Nat)(env:List (Nat×Bool×AV))(nt:Nat)(ps:List Tmp)(A B:Code)(K:Bool->Heap->Prop):Exit->AS->Prop
 | .normal,σ=>∃env nt ps A B,σ.H.get id=some (.cO env nt ps A B .busy none)/\K true (jX σ.H id (some (.cO env nt ps A B .ready none)))
 | .ret,σ=>∃env nt ps A B,σ.H.get id=some (.cO env nt ps A B .busy none)/\K false (jX σ.H id (some (.cO env nt ps A B .done (some .ret))))
 | .exit i,σ=>∃env nt ps A B,σ.H.get id=some (.cO env nt ps A B .busy none)/\K false (jX σ.H id (some (.cO env nt ps A B .done (some (.exit i)))))
 |_,_=>False
def MY(P:Program)(id:Nat)(env:List (Nat×Bool×AV))(nt:Nat)(ps:List Tmp)(A B:Code)(K:Bool->Heap->Prop):Exit->AS->Prop
 | .normal,σ=>∃env nt ps A' B',σ.H.get id=some (.cO env nt ps A' B' .ready none)/\AW P B ⟨σ.env,jX σ.H id (some (.cO env nt ps A' B' .busy none)),σ.nt⟩ (hold (HQ id env nt ps A' B' K) ⟨⟩)
 |_,_=>False
def av0(P:Program)(σ:AS)(f:Option AV)(as:Option (List AV))(K:Bool->Heap->Prop):Prop:=
 ∃(id:Nat) (args:List AV) (env:List (Nat×Bool×AV)) (nt:Nat) (ps:List Tmp) (A B:Code),f=some (.kH id)/\as=some args/\σ.H.get id=some (.cO env nt ps A B .ready none)/\args.length=ps.length/\ps.all (fun p=>decide (p<nt))=true/\
  AW P A ⟨FN ps args env,σ.H,nt⟩ (hold (MY P id env nt ps A B K) ⟨⟩)
def av1(H:Heap)(x:Option AV)(K:AV->Heap->Prop):Prop:=
 ∃(id m n:Nat) (seen:List Nat) (es:List (Value×AV)),x=some (.ptr id 0 0)/\H.get id=some (.iter m n seen)/\H.get m=some (.map es)/\es.length=n/\(∀p∈es,XA p.1=true)/\
  ((∀i,i<n->i∈seen)->K (.aU [.c (.bool false)]) H)/\
  ∀i k a,i<n->i∉seen->es[i]? =some (k,a)->K (.aU [.c (.bool true),X9 k,a]) (jX H id (some (.iter m n (seen++[i]))))
section
variable (P : Program)
def rG(o:Oper)(σ:AS)(K:AS->Prop):Prop:=
 match o.op with
 | .call ⟨.value f,as,_⟩=>p9 (fZ (σ.get true f) (dZ (σ.get true) as.toList)) (hold (fun p=>fU P p.1 p.2 σ.H (hold (fun r H'=>K (({σ with H:=H'}:AS).put o.dst true r)) ⟨⟩)) ⟨⟩)\/
     av0 P σ (σ.get true f) (dZ (σ.get true) as.toList) (hold (fun b H'=>K (({σ with H:=H'}:AS).put o.dst true (.c (.bool b)))) ⟨⟩)
 | .pick b x y=>p9 (kU (σ.get true b)) (hold (fun b=>zI (B5 (kU (σ.get b x)) (kU (σ.get (!b) y))) (hold (fun pq=>K (σ.put o.dst true (.c (.bool (cond b pq.1 pq.2))))) ⟨⟩)
     (hold (Split b (hold (p9 (σ.get true x) (hold (fun a=>K (σ.put o.dst true a)) ⟨⟩)) ⟨⟩) (hold (p9 (σ.get true y) (hold (fun a=>K (σ.put o.dst true a)) ⟨⟩)) ⟨⟩)) ⟨⟩)) ⟨⟩)
 | .next x false=>av1 σ.H (σ.get true x) (hold (fun r H'=>K (({σ with H:=H'}:AS).put o.dst true r)) ⟨⟩)
 |_=>p9 (res P (σ.get true) σ.H.get σ.H.next o) (hold (fun r=>K (({σ with H:=σ.H.app r.2.1}:AS).put o.dst true r.1)) ⟨⟩)
def bU8(c:Bool)(n:FuncId)(args:List AV)(K:AV->Prop):Prop:=∃r,(c=true->(∀a∈args,bK a)/\eU P n args (·=r))/\K r
def RE(o:Oper)(σ:AS)(c:Bool)(K:AS->Prop):Prop:=
 match o.op with
 | .call ⟨.value f,as,_⟩=>zI (fZ (σ.get c f) (dZ (σ.get c) as.toList)) (hold (fun p=>bU8 P c p.1 p.2 (hold (fun r=>K (σ.put o.dst c r)) ⟨⟩)) ⟨⟩) (hold (Split c (hold (rG P o σ K) ⟨⟩) (hold (K (σ.put o.dst true (.c undef))) ⟨⟩)) ⟨⟩)
 | .pick b x y=>zI (kU (σ.get c b)) (hold (fun b=>zI (B5 (kU (σ.get (c&&b) x)) (kU (σ.get (c&& !b) y))) (hold (fun pq=>K (σ.put o.dst c (.c (.bool (cond b pq.1 pq.2))))) ⟨⟩)
     (hold (Split c (hold (rG P o σ K) ⟨⟩) (hold (K (σ.put o.dst true (.c undef))) ⟨⟩)) ⟨⟩)) ⟨⟩) (hold (Split c (hold (rG P o σ K) ⟨⟩) (hold (K (σ.put o.dst true (.c undef))) ⟨⟩)) ⟨⟩)
 |_=>zI (if parts o.op=true then none else MX (res P (σ.get c) σ.H.get σ.H.next o)) (hold (fun a=>K (σ.put o.dst c a)) ⟨⟩) (hold (Split c (hold (rG P o σ K) ⟨⟩) (hold (K (σ.put o.dst true (.c undef))) ⟨⟩)) ⟨⟩)
def av2(o:Oper)(σ:AS)(c:Bool)(K:AS->Prop):Prop:=((c=false/\K (σ.put o.dst false (.c (.bool false))))\/(c=true/\rG P o σ K))\/RE P o σ c K
def Pr(o:Oper)(σ:AS)(c:Bool)(K:AS->Prop):Prop:=
 match c with
 |true=>rG P o σ K
 |false=>K (σ.put o.dst true (.c undef))
def oR(ic:Bool)(ops:Array Oper)(o:Oper)(σ:AS)(K:AS->Prop):Prop:=
 match o.guard with
 |none=>rG P o σ K
 |some (j,want)=>p9 (qL (pT ops.toList j σ.env) want) (hold (fun c=>match ic with
  |true=>av2 P o σ c K
  |false=>Pr P o σ c K) ⟨⟩)
def b9(ic:Bool)(ops:Array Oper):List Oper->AS->(AS->Prop)->Prop
 |[],σ,K=>K σ
 |o::r,σ,K=>oR P ic ops o σ (hold (fun aK=>b9 ic ops r aK K) ⟨⟩)
end
theorem B6{P:Program}{n:FuncId}(h:rD P n=true)(args:Array Value)(w:World):(callFunc n args).run P w= .ok (.enter n args) w:=by
 unfold rD at h;split at h
 ·rename_i fn hf
  simp only[k6,aG4]at h;unfold callFunc;rw[Sem.run_bind,run_program];simp only[Result.andThen_ok,hf,h.1,h.2,mG,if_false,Sem.run_pure]
 ·cases h
theorem RC.unused{E:Env}{W:World}{G:Nat->Option aI}(hG:RC E W G){aF:Nat}(hn:¬E.U aF):G aF=none:=by
 cases h:G aF with
 |none=>rfl
 |some b=>exact absurd (hG.ok aF b h).1 hn
theorem AS.u6(σ:AS)(dst:Option Tmp)(c:Bool)(a:AV):(σ.put dst c a).nt=σ.nt:=by unfold AS.put;split<;>rfl
theorem pU{n:Nat}{o:Oper}(hd:fY n o=true):match o.dst with|none=>True|some d=>d<n:=by
 unfold fY at hd;split at hd<;>simp_all
theorem av3{P:Program}{g:Operand->Option AV}{G:Nat->Option aI}{aF:Nat}{o:Oper}{x:kJ}(h:res P g G aF o=some x):∀c,o.op≠ .defer c:=fun c hc=>by
 unfold res at h;rw[hc]at h;simp at h
theorem av4{P:Program}{g:Operand->Option AV}{G:Nat->Option aI}{aF:Nat}{o:Oper}{x:Operand}{s:Bool}(h:o.op= .next x s):res P g G aF o=none:=by
 unfold res;rw[h]
theorem av5{P:Program}{o:Oper}{σ:AS}{c:Bool}(hc:c=true){a:AV}{wr:List (Nat×Option aI)}{rd:List Nat}(mP:res P (σ.get c) σ.H.get σ.H.next o=some (a,wr,rd))(hd:fY σ.nt o=true){E:Env}{W:World}{act:Act}(hr:Rel E W σ act)
  {next:Act->World->Prop} {Q:Exit->Act->World->Prop} {ro:Option Nat} (hn:∀E' W' v,bE E W E' W'->Rel E' W' (({σ with H:=σ.H.app wr}:AS).put o.dst c a) (act.put o.dst v)->next (act.put o.dst v) W'):o.wpIn (kK ro) 3 P act W next Q:=by
 have dO:=au6 mP;have nP:¬E.U σ.H.next:=fun hU=>KE _ (hr.heap.next _ hU)
 obtain⟨W',v,E',dA,hv,hG,iF,hU⟩:=dO E W act.eval hr.heap.core nP (fun x b hb=>hr.get hc hb)
 have mA:RH E' W' (σ.H.app wr):=⟨fun id aB=>by
  by_cases hw:wr=[]
  ·subst hw
   rcases hU id aB with h1|⟨h1,h2⟩
   ·simpa[Heap.app]using hr.heap.next id h1
   ·simp only[aX]at h2
    rw[hr.heap.core.unused nP]at h2;cases h2
  ·have:wr.isEmpty=false:=by simpa using hw
   simp only[Heap.app,this];rcases hU id aB with h1|⟨h1,_⟩
   ·have:=hr.heap.next id h1;simp;omega
   ·subst h1;simp,hG⟩
 have cC:=(hr.mono hv mA).put (dst:=o.dst) (pU hd) (c:=c) (fun _=>iF) (fun h=>by rw[hc]at h;cases h)
 have JS:=hn E' W' v hv cC;refine⟨fun _ _=>trivial,?_⟩
 rw[Oper.semAt_eq _ _ _ (av3 mP)];rcases dA with h1|⟨h1,h2⟩
 ·rw[h1];exact JS
 ·rw[h1];subst h2;exact JS
theorem av6{P:Program}{o:Oper}{σ:AS}{c:Bool}(hc:c=true){f:Operand}{as:Array Operand}{ts:Array TypeId}(aO:o.op= .call ⟨.value f,as,ts⟩){n:FuncId}{first cap oL:List AV}(hf:σ.get c f=some (.fn (.func n) first cap))
  (has:dZ (σ.get c) as.toList=some oL) {Q0:AV->Heap->Prop} (iE:fU P n (first++oL++cap) σ.H Q0) (hd:fY σ.nt o=true) {E:Env} {W:World} {act:Act} (hr:Rel E W σ act) {next:Act->World->Prop} {Q:Exit->Act->World->Prop} {ro:Option Nat}
  (hn:∀E' W' v r H',bE E W E' W'->Q0 r H'->Rel E' W' (({σ with H:=H'}:AS).put o.dst c r) (act.put o.dst v)->next (act.put o.dst v) W'):o.wpIn (kK ro) 3 P act W next Q:=by
 obtain⟨IF,Ef⟩:=iE;have h1:=hr.get hc hf;have h2:=xA (E:=E) (W:=W) (ρ:=act.eval) (fun x b hb=>hr.get hc hb) _ _ has
 generalize pB:act.eval f=fv at h1;cases h1 with
 |fn _ _ _ vf vc hl cW h3 h4=>
 have mY:bX E W (first++oL++cap) (vf.toList++as.toList.map act.eval++vc.toList):=by
  refine(bX.append ?_ h2).append ?_
  ·exact⟨by simpa using hl,fun i x v hx hv=>h3 i x v hx (by simpa using hv)⟩
  ·exact⟨by simpa using cW,fun i x v hx hv=>h4 i x v hx (by simpa using hv)⟩
 have dH:=Ef E W _ hr.heap mY
 have dA:(execOp act.eval o).run P W= .ok (.enter n (vf.toList++as.toList.map act.eval++vc.toList).toArray) W:=by
  simp only[execOp,aO,resolve,pB,Deferred.ofValue,Sem.run_bind,Sem.run_pure,Result.andThen_ok,invoke];rw[B6 IF];congr 2;apply CR;simp
 refine⟨fun _ _=>trivial,?_⟩
 rw[Oper.semAt_eq _ _ _ (fun c h=>by rw[aO]at h;cases h),dA]
 refine⟨AZ,CH (dH.mono fun e W' ⟨v,he,E',r,H',hv,hH,iF,hq⟩=> ?_)⟩
 subst he;exact hn E' W' v r H' hv hq ((hr.mono hv hH).put (dst:=o.dst) (pU hd) (c:=c) (fun _=>iF) (fun h=>by rw[hc]at h;cases h))
theorem XI{P:Program}{o:Oper}{σ:AS}{c:Bool}(hc:c=true){x0 x y:Operand}(aO:o.op= .pick x0 x y){b:Bool}(hb:σ.get c x0=some (.c (.bool b))){a:AV}(hx:b=true->∃c',c'=true/\σ.get c' x=some a)(hy:b=false->∃c',c'=true/\σ.get c' y=some a)
  (hd:fY σ.nt o=true) {E:Env} {W:World} {act:Act} (hr:Rel E W σ act) {next:Act->World->Prop} {Q:Exit->Act->World->Prop} {ro:Option Nat} (hn:∀v,Rel E W (σ.put o.dst c a) (act.put o.dst v)->next (act.put o.dst v) W):o.wpIn (kK ro) 3 P act W next Q:=by
 have h1:=hr.get hc hb;generalize hv:act.eval x0=vb at h1;cases h1;refine⟨fun _ _=>trivial,?_⟩
 rw[Oper.semAt_eq _ _ _ (fun c h=>by rw[aO]at h;cases h)]
 cases b
 ·obtain⟨c',h2,h3⟩:=hy rfl
  have dA:(execOp act.eval o).run P W= .ok (.value (act.eval y)) W:=by simp[execOp,aO,hv,asBool]
  rw[dA];exact hn _ (hr.put (pU hd) (fun _=>hr.get h2 h3) (fun h=>by rw[hc]at h;cases h))
 ·obtain⟨c',h2,h3⟩:=hx rfl
  have dA:(execOp act.eval o).run P W= .ok (.value (act.eval x)) W:=by simp[execOp,aO,hv,asBool]
  rw[dA];exact hn _ (hr.put (pU hd) (fun _=>hr.get h2 h3) (fun h=>by rw[hc]at h;cases h))
theorem av7:∀(ps:List Tmp) (as:List AV) (env:List (Nat×Bool×AV)) {E:Env} {W:World} (vs:List Value) (tmps:Array Value),bX E W as vs->as.length=ps.length->ps.all (fun p=>decide (p<tmps.size))=true->
  (∀t c a,lk env t=some (c,a)->∃v,tmps[t]? =some v/\(c=true->RV E W a v)/\(c=false->v=undef))->
  ((ps.zip vs).foldl (fun t (p:Tmp×Value)=>t.setIfInBounds p.1 p.2) tmps).size=tmps.size/\
  ∀t c a,lk (FN ps as env) t=some (c,a)->∃v,((ps.zip vs).foldl (fun t (p:Tmp×Value)=>t.setIfInBounds p.1 p.2) tmps)[t]? =some v/\(c=true->RV E W a v)/\(c=false->v=undef)
 |[],[],env,E,W,vs,tmps,_,_,_,h=>by
  simp only[List.zip_nil_left,Th];exact⟨trivial,h⟩
 |[],_::_,_,_,_,_,_,_,hl,_,_=>by simp at hl
 |_::_,[],_,_,_,_,_,_,hl,_,_=>by simp at hl
 |p::ps,a::as,env,E,W,[],tmps,hr,_,_,h=>by have:=hr.1;simp at this
 |p::ps,a::as,env,E,W,v::vs,tmps,hr,hl,hp,h=>by
  simp only[I4,k6,decide_eq_true_eq]at hp;have wV:=hr.2 0 a v rfl rfl;have PK:bX E W as vs:=⟨by have:=hr.1;simpa using this,fun i x u hx hu=>hr.2 (i+1) x u (by simpa using hx) (by simpa using hu)⟩
  have hs:(tmps.setIfInBounds p v).size=tmps.size:=by simp
  have ih:=av7 ps as ((p,true,a)::env) vs (tmps.setIfInBounds p v) PK (by simpa using hl) (by rw[hs];exact hp.2) (fun t c b hb=>by
   simp only[lk]at hb;split at hb
   ·rename_i ht
    subst ht;simp only[bC,cD]at hb;obtain⟨rfl,rfl⟩:=hb;exact⟨v,by simp[hp.1],fun _=>wV,fun h=>by cases h⟩
   ·rename_i ht
    obtain⟨u,h1,h2⟩:=h t c b hb
    exact⟨u,by rw[Gi (mQ ht)];exact h1,h2⟩)
  simp only[List.zip_cons_cons,CL,FN];rw[hs]at ih;exact ih
theorem Eg{E:Env}{W:World}{H:Heap}(hH:RH E W H){id:Nat}{env:List (Nat×Bool×AV)}{nt:Nat}{ps:List Tmp}{A B:Code}{st:LoopState}{pe:Option Code}(hg:H.get id=some (.cO env nt ps A B st pe)):
  ∃r:Loop,W.heap[E.ι id]? =some (.loop r)/\r.state=st/\r.pending=pe/\r.params=ps.toArray/\r.assign=A/\r.body=B/\r.tmps.size=nt/\(∀t c a,lk env t=some (c,a)->∃v,r.tmps[t]? =some v/\(c=true->RV E W a v)/\(c=false->v=undef))/\
   ∀st' RF,bE E W E (W.putObj (E.ι id) (.loop {r with state:=st',pending:=RF}))/\RH E (W.putObj (E.ι id) (.loop {r with state:=st',pending:=RF})) (jX H id (some (.cO env nt ps A B st' RF))):=by
 obtain⟨hU,⟨fn,tmps,D,h1,h2,h3⟩,hL,gG⟩:=hH.core.ok id _ hg;have bG:=hH.core.eL id hU;refine⟨_,h1,rfl,rfl,rfl,rfl,rfl,h2,h3,fun st' RF=> ?_⟩
 obtain⟨o,ho⟩:∃o:Obj,o= .loop {({state:=st,pending:=pe,fn,tmps,params:=ps.toArray,assign:=A,body:=B,defers:=D}:Loop)with state:=st',pending:=RF}:=⟨_,rfl⟩
 rw[<-ho];have zC:∀b,b≠E.ι id->(W.putObj (E.ι id) o).heap[b]? =W.heap[b]? :=fun b hb=>World.putObj_heap_other hb
 have qM:(W.putObj (E.ι id) o).heap[E.ι id]? =some o:=World.putObj_heap_same bG
 have hv:bE E W E (W.putObj (E.ι id) o):=by
  refine⟨rfl,rfl,rfl,by simp,fun _ h=>h,fun _ _=>⟨rfl,rfl⟩,fun _=>cE _,fun b k hk=> ?_,fun b _ hf=>zC b fun e=>hf id hU e.symm,fun b cur e f hc=> ?_,fun _ _ _=>rfl,fun id h h'=>absurd h' h,fun b r hr=> ?_⟩
  ·have aJ:b≠E.ι id:=fun e=>by subst e;omega
   unfold World.cell?;simp only[zC b aJ]
  ·have aJ:b≠E.ι id:=fun e=>by subst e;rw[h1]at hc;cases hc
   exact⟨cur,f,by rw[zC b aJ];exact hc,rfl⟩
  ·by_cases hb:b=E.ι id
   ·subst hb
    rw[h1]at hr;injection hr with hr
    injection hr with hr
    subst hr;exact⟨_,qM.trans (congrArg some ho),rfl⟩
   ·exact⟨r,by rw[zC b hb];exact hr,rfl⟩
 refine⟨hv,hH.next,fun b hb=>hH.core.lim b (by simpa using hb),fun aM h=>by simpa using hH.core.eL aM h,fun aM b' bY=> ?_⟩
 simp only[jX,aX]at bY
 have hG:∀dI dJ,dI≠id->aX H.get [(id,some (.cO env nt ps A B st' RF))] dI=some dJ->H.get dI=some dJ:=fun dI dJ aJ h=>by
  simp only[aX,if_neg aJ]at h;exact h
 by_cases aB:aM=id
 ·subst aB
  rw[if_pos rfl]at bY;injection bY with bY
  subst bY;refine⟨hU,⟨fn,tmps,D,by rw[qM,ho],h2,fun t c a ha=> ?_⟩,hL,fun dI dJ aJ u7=>gG dI dJ aJ (hG dI dJ aJ u7)⟩
  obtain⟨v,h4,h5,h6⟩:=h3 t c a ha;exact⟨v,h4,fun hc=>(h5 hc).mono hv,h6⟩
 ·rw[if_neg aB]at bY
  obtain⟨yE,JT⟩:=hH.core.ok aM b' bY;refine⟨yE,JT.mono hv yE (zC _ (gG aM b' aB bY)) rfl fun dI dJ aJ u7 heq=> ?_⟩
  by_cases h2:dI=id
  ·subst h2
   exact absurd heq.symm (gG aM b' aB bY)
  ·exact⟨dJ,hG dI dJ h2 u7,heq,rfl,fun h=>h⟩
theorem iter_set{E:Env}{W w1:World}{H:Heap}(hw:w1=W\/w1=W.drew)(hH:RH E W H){id m n:Nat}{seen:List Nat}(hg:H.get id=some (.iter m n seen))(i:Nat):
  bE E W E {w1 with heap:=w1.heap.setIfInBounds (E.ι id) (.mapIter (some (E.ι m)) n (seen++[i]).toArray n)}/\RH E {w1 with heap:=w1.heap.setIfInBounds (E.ι id) (.mapIter (some (E.ι m)) n (seen++[i]).toArray n)} (jX H id (some (.iter m n (seen++[i])))):=by
 obtain⟨hU,⟨h1,h2⟩,hL,gG⟩:=hH.core.ok id _ hg;have bG:=hH.core.eL id hU;have XJ:w1.heap=W.heap:=by rcases hw with rfl|rfl<;>rfl
 obtain⟨o,ho⟩:∃o:Obj,o= .mapIter (some (E.ι m)) n (seen++[i]).toArray n:=⟨_,rfl⟩;rw[<-ho];have zC:∀b,b≠E.ι id->(w1.heap.setIfInBounds (E.ι id) o)[b]? =W.heap[b]? :=fun b hb=>by rw[XJ];simp[mQ hb]
 have qM:(w1.heap.setIfInBounds (E.ι id) o)[E.ι id]? =some o:=by rw[XJ];simp[bG]
 have hv:bE E W E {w1 with heap:=w1.heap.setIfInBounds (E.ι id) o}:=by
  refine⟨by rcases hw with rfl|rfl<;>rfl,by rcases hw with rfl|rfl<;>rfl,by rcases hw with rfl|rfl<;>rfl,by simp[XJ],fun _ h=>h,fun _ _=>⟨rfl,rfl⟩,fun _=>cE _,fun b k hk=> ?_,fun b _ hf=>zC b fun e=>hf id hU e.symm,fun b cur e f hc=> ?_,fun _ _ _=>rfl,fun aM h h'=>absurd h' h,fun b r hr=> ?_⟩
  ·have aJ:b≠E.ι id:=fun e=>by subst e;omega
   unfold World.cell?;simp only[zC b aJ]
  ·have aJ:b≠E.ι id:=fun e=>by subst e;rw[h1]at hc;cases hc
   exact⟨cur,f,by simp only[zC b aJ];exact hc,rfl⟩
  ·have aJ:b≠E.ι id:=fun e=>by subst e;rw[h1]at hr;cases hr
   exact⟨r,by simp only[zC b aJ];exact hr,rfl⟩
 refine⟨hv,hH.next,fun b hb=>hH.core.lim b (by simpa[XJ]using hb),fun aM h=>by simpa[XJ]using hH.core.eL aM h,fun aM b' bY=> ?_⟩
 simp only[jX,aX]at bY
 have hG:∀dI dJ,dI≠id->aX H.get [(id,some (.iter m n (seen++[i])))] dI=some dJ->H.get dI=some dJ:=fun dI dJ aJ h=>by
  simp only[aX,if_neg aJ]at h;exact h
 by_cases aB:aM=id
 ·subst aB
  rw[if_pos rfl]at bY;injection bY with bY
  subst bY;exact⟨hU,⟨qM.trans (congrArg some ho),h2⟩,hL,fun dI dJ aJ u7=>gG dI dJ aJ (hG dI dJ aJ u7)⟩
 ·rw[if_neg aB]at bY
  obtain⟨yE,JT⟩:=hH.core.ok aM b' bY;refine⟨yE,JT.mono hv yE (by simp only[zC _ (gG aM b' aB bY)]) rfl fun dI dJ aJ u7 heq=> ?_⟩
  by_cases h2:dI=id
  ·subst h2
   exact absurd heq.symm (gG aM b' aB bY)
  ·exact⟨dJ,hG dI dJ h2 u7,heq,rfl,fun h=>h⟩
theorem bU9{P:Program}{o:Oper}{σ:AS}{x0:Operand}{K:AV->Heap->Prop}(aO:o.op= .next x0 false)(h:av1 σ.H (σ.get true x0) K)(hd:fY σ.nt o=true){E:Env}{W:World}{act:Act}(hr:Rel E W σ act){next:Act->World->Prop}{Q:Exit->Act->World->Prop}{ro:Option Nat}
  (hn:∀E' W' v r H',bE E W E' W'->K r H'->Rel E' W' (({σ with H:=H'}:AS).put o.dst true r) (act.put o.dst v)->next (act.put o.dst v) W'):o.wpIn (kK ro) 3 P act W next Q:=by
 obtain⟨id,m,n,seen,es,hx,hg,hm,hlen,ZQ,h0,h1⟩:=h;have gQ:=hr.get rfl hx;generalize hv:act.eval x0=vb at gQ;cases gQ;rename_i hU0;obtain⟨hU,⟨q1,q2⟩,hL,gG⟩:=hr.heap.core.ok id _ hg;obtain⟨_,⟨ms,clock,p1,p2,p3,p4⟩,_,_⟩:=hr.heap.core.ok m _ hm;refine⟨fun _ _=>trivial,?_⟩
 rw[Oper.semAt_eq _ _ _ (fun c h=>by rw[aO]at h;cases h)]
 rcases run_next_any (P:=P) (ty:=o.type) q1 p1 p2 (by rw[p3,hlen])with⟨g1,g2⟩|⟨i,e,g1,g2,g3,w1,g4,g5⟩
 ·have dA:(execOp act.eval o).run P W= .ok (.value (.tuple #[.bool false])) W:=by
   simp only[execOp,aO,hv,CN,zN];rw[Sem.run_bind,g2];rfl
  rw[dA];refine hn E W _ _ σ.H (bE.refl E W) (h0 g1) (hr.put (pU hd) (fun _=> ?_) (fun h=>by cases h))
  exact .aU _ _ rfl fun j y v hy hv=>by
   rcases j with _|j
   ·simp at hy hv;subst hy;subst hv;exact .c _ rfl
   ·simp at hy
 ·have dA:(execOp act.eval o).run P W= .ok (.value (.tuple #[.bool true,e.key,e.val])) {w1 with heap:=w1.heap.setIfInBounds (E.ι id) (.mapIter (some (E.ι m)) n (seen++[i]).toArray n)}:=by
   simp only[execOp,aO,hv,CN,zN];rw[Sem.run_bind,g5];rfl
  rw[dA];obtain⟨pN,fB⟩:=iter_set g4 hr.heap hg i;have E4:i<es.length:=by rw[hlen];exact g1
  have FL:es[i]? =some (es[i].1,es[i].2):=by rw[eQ E4]
  obtain⟨e',lC,mX,sN⟩:=p4 i _ _ FL;rw[g3]at lC;injection lC with lC
  subst lC;refine hn E _ _ _ _ pN (h1 i _ _ g1 g2 FL) ((hr.mono pN fB).put (pU hd) (fun _=> ?_) (fun h=>by cases h))
  obtain⟨d,A9⟩:=au1 (ZQ _ (FZ E4))
  exact .aU _ _ rfl fun j y v hy hv=>by
   rcases j with _|_|_|j
   ·simp at hy hv;subst hy;subst hv;exact .c _ rfl
   ·simp at hy hv;subst hy;subst hv;rw[mX];exact at3 A9
   ·simp at hy hv;subst hy;subst hv;exact sN.mono pN
   ·simp at hy
theorem av8{ro:Option Nat}{n m:Nat}{P:Program}{c:Code}{Q:Exit->Act->World->Prop}{a:Act}{w:World}(h:c.wpIn (kK ro) n P Q a w):c.wpIn (kK ro) m P Q a w:=
 fun b k cs h1 h2 _=>h b k cs h1 h2 (fun d hd=>by cases hd)
theorem bV0{P:Program}{o:Oper}{σ:AS}{K:AS->Prop}{f:Operand}{as:Array Operand}{ts:Array TypeId}(aO:o.op= .call ⟨.value f,as,ts⟩)(h:av0 P σ (σ.get true f) (dZ (σ.get true) as.toList) (fun b H'=>K (({σ with H:=H'}:AS).put o.dst true (.c (.bool b)))))
  (hd:fY σ.nt o=true) {E:Env} {W:World} {act:Act} (hr:Rel E W σ act) {next:Act->World->Prop} {Q:Exit->Act->World->Prop} {ro:Option Nat}
  (hn:∀E' W' aK cF,eE E W act E' W' cF->Rel E' W' aK cF->aK.nt=σ.nt->K aK->next cF W'):o.wpIn (kK ro) 3 P act W next Q:=by
 obtain⟨id,args,env,nt,ps,A,B,hf,has,hg,hl,pM,hA⟩:=h;have h1:=hr.get rfl hf;have h2:=xA (E:=E) (W:=W) (ρ:=act.eval) (fun x b hb=>hr.get rfl hb) _ _ has
 generalize pB:act.eval f=fv at h1;cases h1 with
 |kH _ hU=>
 obtain⟨rc,hb,eG,H7,hpa,bV1,uT,dP,Ps,mJ⟩:=Eg hr.heap hg;have bV2:=run_yield (P:=P) (args:=as.map act.eval) hb (by rw[hpa];have:=h2.1;simp at this⊢;omega)
 have dA:(execOp act.eval o).run P W= .ok (.round (E.ι id) rc.fn ((rc.params.zip (as.map act.eval)).foldl (fun tmps (t,a)=>tmps.setIfInBounds t a) rc.tmps) rc.assign rc.body) W:=by
  simp only[execOp,aO,resolve,pB,Deferred.ofValue,Sem.run_bind,Sem.run_pure,Result.andThen_ok,invoke];simpa using bV2
 refine⟨fun _ _=>trivial,?_⟩
 rw[Oper.semAt_eq _ _ _ (fun c h=>by rw[aO]at h;cases h),dA]
 refine⟨AZ,roundIn_of_wpIn (F:=kK ro) trivial ?_⟩;have FH:=av7 ps args env (as.toList.map act.eval) rc.tmps h2 hl (by rw[dP];exact pM) Ps
 have htm:(rc.params.zip (as.map act.eval)).foldl (fun tmps (t,a)=>tmps.setIfInBounds t a) rc.tmps=(ps.zip (as.toList.map act.eval)).foldl (fun t (p:Tmp×Value)=>t.setIfInBounds p.1 p.2) rc.tmps:=by
  rw[hpa,<-Array.foldl_toList];simp
 rw[htm,bV1,uT];generalize (ps.zip (as.toList.map act.eval)).foldl (fun t (p:Tmp×Value)=>t.setIfInBounds p.1 p.2) rc.tmps=tm at FH
 have cC:Rel E W ⟨FN ps args env,σ.H,nt⟩ {tmps:=tm,defers:=[]}:=⟨Marks.nil E W,by rw[<-dP];exact FH.1,FH.2,hr.heap⟩
 have eN:∀{W':World} {r:Loop},W'.heap[E.ι id]? =some (.loop r)->R9 (some (E.ι id)) W':=fun hb l hl=>by injection hl with hl;subst hl;exact⟨_,hb⟩
 refine av8 (wpIn_mono (hA (some (E.ι id)) E W _ (eN hb) cC) fun e a1 W1 ⟨E1,FP,pN,wQ,cI7,zY⟩=> ?_)
 simp only[hold]at zY;cases e with
 |normal=>
  obtain⟨bV4,nt1,ps1,A1,B1,Cq,hB⟩:=zY;have RG:E1.ι id=E.ι id:=(pN.pS.kT id hU).1;obtain⟨XK,OS,bV7,bV8,cI8,cI9,cJ0,cJ1,cJ2,bV9⟩:=Eg wQ.heap Cq;obtain⟨fB,nC⟩:=bV9 .busy none;rw[RG]at OS fB nC;have bW0:=run_beginRound (P:=P) OS bV7;have heq:{XK with state:=LoopState.busy}={XK with state:=LoopState.busy,pending:=none}:=by rw[<-bV8]
  refine⟨_,bW0,?_⟩;rw[heq];have zG:E1.U id:=pN.pS.used id hU;have sE:(W1.putObj (E.ι id) (.loop {XK with state:=LoopState.busy,pending:=none})).heap[E.ι id]? =some (.loop {XK with state:=LoopState.busy,pending:=none}):=World.putObj_heap_same (jG.1 OS).1
  generalize W1.putObj (E.ι id) (.loop {XK with state:=LoopState.busy,pending:=none})=W2 at fB nC sE
  have bW1:Rel E1 W2 ⟨FP.env,jX FP.H id (some (.cO bV4 nt1 ps1 A1 B1 .busy none)),FP.nt⟩ a1:=wQ.mono fB nC;refine av8 (wpIn_mono (hB (some (E.ι id)) E1 W2 a1 (eN sE) bW1) fun e3 a3 W3 ⟨E3,σ3,RI,Pt,cJ3,MZ⟩=> ?_)
  have bW2:E3.ι id=E.ι id:=(RI.pS.kT id zG).1.trans RG
  have fin:∀(env:List (Nat×Bool×AV)) (nt:Nat) (ps:List Tmp) (A B:Code) (jump:Option Code) (b:Bool),jump.isNone=b->σ3.H.get id=some (.cO env nt ps A B .busy none)->K (({σ with H:=jX σ3.H id (some (.cO env nt ps A B (if b then .ready else .done) jump))}:AS).put o.dst true (.c (.bool b)))->
    ∃v w',(Instr.endRound (E.ι id) jump).run P W3= .ok v w'/\next (act.put o.dst v) w':=fun env nt ps A B jump b hjb hg3 hK=>by
   obtain⟨rc3,Ay,cJ4,cJ5,cJ6,cJ7,cJ8,cJ9,cK0,bW6⟩:=Eg Pt.heap hg3;obtain⟨hv4,Eh⟩:=bW6 (if b then .ready else .done) jump
   rw[bW2]at Ay hv4 Eh;have rN:=run_endRound (P:=P) jump Ay;rw[hjb]at rN;refine⟨_,_,rN,?_⟩;have XL:bE E W E3 (W3.putObj (E.ι id) (.loop {rc3 with state:=(if b then .ready else .done),pending:=jump})):=((pN.pS.trans fB).trans RI.pS).trans hv4
   exact hn E3 _ _ _ (eE.of XL (Act.put_defers _ _ _)) ((hr.mono XL Eh).put (dst:=o.dst) (pU hd) (c:=true) (fun _=> .c _ rfl) (fun h=>by cases h)) (AS.u6 _ _ _ _) hK
  simp only[hold]at MZ;cases e3 with
  |normal=>obtain⟨_,_,_,_,_,h1,h2⟩:=MZ;exact fin _ _ _ _ _ none true rfl h1 h2
  |ret=>obtain⟨_,_,_,_,_,h1,h2⟩:=MZ;exact fin _ _ _ _ _ (some .ret) false rfl h1 h2
  |exit i=>obtain⟨_,_,_,_,_,h1,h2⟩:=MZ;exact fin _ _ _ _ _ (some (.exit i)) false rfl h1 h2
  |goto l=>exact MZ.elim
  |panic ch=>exact MZ.elim
  |outgrown=>exact MZ.elim
 |_=>exact zY.elim
theorem Ei{P:Program}{o:Oper}{σ:AS}{K:AS->Prop}(h:rG P o σ K)(hd:fY σ.nt o=true){E:Env}{W:World}{act:Act}(hr:Rel E W σ act){next:Act->World->Prop}{Q:Exit->Act->World->Prop}{ro:Option Nat}
  (hn:∀E' W' aK cF,eE E W act E' W' cF->Rel E' W' aK cF->aK.nt=σ.nt->K aK->next cF W'):o.wpIn (kK ro) 3 P act W next Q:=by
 unfold rG at h;simp only[hold]at h;split at h
 ·rename_i f as ts aO
  rcases h with h|h
  case inr=>exact bV0 aO h hd hr hn
  obtain⟨⟨n,args⟩,h1,h⟩:=HP h;obtain⟨first,cap,oL,hf,has,rfl⟩:=B4 h1
  exact av6 rfl aO hf has h hd hr fun E' W' v r H' hv hq cC=>hn E' W' _ _ (eE.of hv (Act.put_defers _ _ _)) cC (AS.u6 _ _ _ _) hq
 ·rename_i x0 x y aO
  obtain⟨b,hb,h⟩:=HP h;have hb:=CI hb;unfold zI at h;split at h
  ·rename_i pq pR
   obtain⟨p,q⟩:=pq;obtain⟨hp,hq⟩:=Pq pR;have hp:=CI hp;have hq:=CI hq;refine XI rfl aO hb (a:= .c (.bool (cond b p q))) (fun z8=>⟨b,z8,?_⟩) (fun JU=>⟨!b,by simp[JU],?_⟩) hd hr fun v cC=>hn E W _ _ (eE.of (bE.refl E W) (Act.put_defers _ _ _)) cC (AS.u6 _ _ _ _) h
   ·rw[hp,z8];rfl
   ·rw[hq,JU];rfl
  ·obtain⟨h1,h2⟩:=h
   cases Ej:b
   ·obtain⟨a,ha,h3⟩:=HP (h2 Ej)
    exact XI rfl aO hb (a:=a) (fun h=>by rw[Ej]at h;cases h) (fun _=>⟨true,rfl,ha⟩) hd hr fun v cC=>hn E W _ _ (eE.of (bE.refl E W) (Act.put_defers _ _ _)) cC (AS.u6 _ _ _ _) h3
   ·obtain⟨a,ha,h3⟩:=HP (h1 Ej)
    exact XI rfl aO hb (a:=a) (fun _=>⟨true,rfl,ha⟩) (fun h=>by rw[Ej]at h;cases h) hd hr fun v cC=>hn E W _ _ (eE.of (bE.refl E W) (Act.put_defers _ _ _)) cC (AS.u6 _ _ _ _) h3
 ·rename_i x aO
  exact bU9 aO h hd hr fun E' W' v r H' hv hq cC=>hn E' W' _ _ (eE.of hv (Act.put_defers _ _ _)) cC (AS.u6 _ _ _ _) hq
 ·obtain⟨⟨a,wr,rd⟩,mP,h⟩:=HP h
  exact av5 rfl mP hd hr fun E' W' v hv cC=>hn E' W' _ _ (eE.of hv (Act.put_defers _ _ _)) cC (AS.u6 _ _ _ _) h
theorem bW7{P:Program}{o:Oper}{σ:AS}{c:Bool}{K:AS->Prop}(h:Pr P o σ c K)(hd:fY σ.nt o=true){E:Env}{W:World}{act:Act}(hr:Rel E W σ act){next:Act->World->Prop}{Q:Exit->Act->World->Prop}{ro:Option Nat}
  (hn:∀E' W' aK cF,eE E W act E' W' cF->Rel E' W' aK cF->aK.nt=σ.nt->K aK->next cF W'):if c=true then o.wpIn (kK ro) 3 P act W next Q else next (act.put o.dst undef) W:=by
 unfold Pr at h;split at h
 ·simp only[if_true];exact Ei h hd hr hn
 ·simp only[mG,if_false]
  exact hn E W _ _ (eE.of (bE.refl E W) (Act.put_defers _ _ _)) (hr.put (pU hd) (fun _=> .c undef rfl) (fun _=>rfl)) (AS.u6 _ _ _ _) h
theorem bW8{P:Program}{o:Oper}{σ:AS}{c:Bool}{K:AS->Prop}(h:RE P o σ c K)(hd:fY σ.nt o=true){E:Env}{W:World}{act:Act}(hr:Rel E W σ act){next:Act->World->Prop}{Q:Exit->Act->World->Prop}{ro:Option Nat}
  (hn:∀E' W' aK cF,eE E W act E' W' cF->Rel E' W' aK cF->aK.nt=σ.nt->K aK->next cF W'):if c=true then o.wpIn (kK ro) 3 P act W next Q else next (act.put o.dst undef) W:=by
 have part:Split c (rG P o σ K) (K (σ.put o.dst true (.c undef)))->if c=true then o.wpIn (kK ro) 3 P act W next Q else next (act.put o.dst undef) W:=fun⟨h1,h2⟩=>by
  by_cases hc:c=true
  ·rw[if_pos hc];exact Ei (h1 hc) hd hr hn
  ·rw[if_neg hc]
   exact hn E W _ _ (eE.of (bE.refl E W) (Act.put_defers _ _ _)) (hr.put (pU hd) (fun _=> .c undef rfl) (fun _=>rfl)) (AS.u6 _ _ _ _) (h2 (by simpa using hc))
 have skip:∀a,c≠true->K (σ.put o.dst c a)->next (act.put o.dst undef) W:=fun a hc hK=>
  hn E W _ _ (eE.of (bE.refl E W) (Act.put_defers _ _ _)) (hr.put (pU hd) (fun h=>absurd h hc) (fun _=>rfl)) (AS.u6 _ _ _ _) hK
 unfold RE at h;simp only[hold]at h;split at h
 ·rename_i f as ts aO
  unfold zI at h;split at h
  ·rename_i p ID
   obtain⟨n,args⟩:=p;obtain⟨first,cap,oL,hf,has,rfl⟩:=B4 ID
   obtain⟨r,hp,hK⟩:=h;by_cases hc:c=true
   ·rw[if_pos hc]
    obtain⟨eY,hp⟩:=hp hc;have iE:fU P n (first++oL++cap) σ.H fun r' H'=>r'=r/\H'=σ.H:=fU.pure hp eY fun r' _ hq=>⟨hq,rfl⟩
    refine av6 hc aO hf has iE hd hr fun E' W' v r' H' hv hq cC=> ?_
    obtain⟨rfl,rfl⟩:=hq;exact hn E' W' _ _ (eE.of hv (Act.put_defers _ _ _)) cC (AS.u6 _ _ _ _) hK
   ·rw[if_neg hc];exact skip r hc hK
  ·exact part h
 ·rename_i x0 x y aO
  unfold zI at h;split at h
  ·rename_i b hb
   have hb:=CI hb;split at h
   ·rename_i pq pR
    obtain⟨p,q⟩:=pq;obtain⟨hp,hq⟩:=Pq pR;have hp:=CI hp;have hq:=CI hq;by_cases hc:c=true
    ·rw[if_pos hc]
     refine XI hc aO hb (a:= .c (.bool (cond b p q))) (fun z8=>⟨c&&b,by simp[hc,z8],?_⟩) (fun JU=>⟨c&& !b,by simp[hc,JU],?_⟩) hd hr fun v cC=>hn E W _ _ (eE.of (bE.refl E W) (Act.put_defers _ _ _)) cC (AS.u6 _ _ _ _) h
     ·rw[hp,z8];rfl
     ·rw[hq,JU];rfl
    ·rw[if_neg hc];exact skip _ hc h
   ·exact part h
  ·exact part h
 ·unfold zI at h
  split at h
  ·rename_i a mP
   split at mP
   ·cases mP
   ·obtain⟨rd,mP⟩:=bU7 mP
    by_cases hc:c=true
    ·rw[if_pos hc]
     refine av5 hc mP hd hr fun E' W' v hv cC=>hn E' W' _ _ (eE.of hv (Act.put_defers _ _ _)) ?_ (AS.u6 _ _ _ _) h
     exact cC
    ·rw[if_neg hc];exact skip _ hc h
  ·exact part h
theorem bW9{P:Program}{o:Oper}{σ:AS}{c:Bool}{K:AS->Prop}(h:av2 P o σ c K)(hd:fY σ.nt o=true){E:Env}{W:World}{act:Act}(hr:Rel E W σ act){next:Act->World->Prop}{Q:Exit->Act->World->Prop}{ro:Option Nat}
  (hn:∀E' W' aK cF,eE E W act E' W' cF->Rel E' W' aK cF->aK.nt=σ.nt->K aK->next cF W'):if c=true then o.wpIn (kK ro) 3 P act W next Q else next (act.put o.dst undef) W:=by
 rcases h with(⟨hc,hK⟩|⟨hc,hK⟩)|h
 ·subst hc
  rw[if_neg (by simp)]
  exact hn E W _ _ (eE.of (bE.refl E W) (Act.put_defers _ _ _)) (hr.put (pU hd) (fun h=>by cases h) (fun _=>rfl)) (AS.u6 _ _ _ _) hK
 ·subst hc
  rw[if_pos rfl];exact Ei hK hd hr hn
 ·exact bW8 h hd hr hn
theorem XM{P:Program}{ic:Bool}{ops:Array Oper}{o:Oper}{σ:AS}{K:AS->Prop}(h:oR P ic ops o σ K)(hd:fY σ.nt o=true){E:Env}{W:World}{act:Act}(hr:Rel E W σ act){next:Act->World->Prop}{Q:Exit->Act->World->Prop}{ro:Option Nat}
  (hn:∀E' W' aK cF,eE E W act E' W' cF->Rel E' W' aK cF->aK.nt=σ.nt->K aK->next cF W'):
  if Region.wanted o (yielded ops act.tmps)=true then o.wpIn (kK ro) 3 P act W next Q else next (act.put o.dst undef) W:=by
 unfold oR at h;simp only[hold]at h;cases hg:o.guard with
 |none=>
  simp only[hg]at h;simp only[Region.wanted,hg,if_true];exact Ei h hd hr hn
 |some jw=>
  obtain⟨j,want⟩:=jw;simp only[hg]at h;obtain⟨c0,wW,h⟩:=HP h;obtain⟨c',b,hb,rfl⟩:=au9 wW
  obtain⟨t,ht,yQ⟩:∃t,(ops[j]?).bind (·.dst)=some t/\lk σ.env t=some (c',.c (.bool b)):=by
   unfold pT at hb;split at hb
   ·rename_i o' yF
    rw[vD]at yF;split at hb
    ·rename_i t ht;exact⟨t,by rw[yF];exact ht,hb⟩
    ·cases hb
   ·cases hb
  obtain⟨v,h1,h2,h3⟩:=hr.env t _ _ yQ
  have hw:Region.wanted o (yielded ops act.tmps)=(c'&&Ee b want):=by
   have hy:yielded ops act.tmps j=if c'=true then some b else none:=by
    unfold yielded;rw[ht];simp only[Z1,h1];cases c'
    ·rw[h3 rfl];rfl
    ·have h4:=h2 rfl
     cases h4;rfl
   simp only[Region.wanted,hg,hy];cases c'<;>cases b<;>cases want<;>rfl
  rw[hw];cases ic
  ·exact bW7 h hd hr hn
  ·exact bW9 h hd hr hn
theorem JV{P:Program}{ic:Bool}{ops:Array Oper}:∀(l:List Nat) (os:List Oper),l.map (ops[·]?)=os.map some->∀{σ:AS} {K:AS->Prop},b9 P ic ops os σ K->os.all (fY σ.nt)=true->∀{E:Env} {W:World} {act:Act},Rel E W σ act->
  ∀{Q:Exit->Act->World->Prop} {ro:Option Nat},(∀E' W' aK cF,eE E W act E' W' cF->Rel E' W' aK cF->aK.nt=σ.nt->K aK->Q .normal cF W')->wpOpsIn (kK ro) 3 P ops Q l act W
 |[],[],_,σ,K,h,_,E,W,act,hr,Q,ro,hn=>hn E W σ act (eE.refl E W act) hr rfl h
 |[],_::_,hl,_,_,_,_,_,_,_,_,_,_,_=>by simp at hl
 |_::_,[],hl,_,_,_,_,_,_,_,_,_,_,_=>by simp at hl
 |i::l,o::os,hl,σ,K,h,hd,E,W,act,hr,Q,ro,hn=>by
  simp only[gJ,OA]at hl;simp only[I4,k6]at hd;simp only[wpOpsIn,hl.1]
  have h1:=XM (Q:=Q) (ro:=ro) (next:=wpOpsIn (kK ro) 3 P ops Q l) h hd.1 hr (fun E' W' aK cF hv cZ cM hK=>by
   refine JV l os hl.2 hK (by rw[cM];exact hd.2) cZ (fun v7 CB eA RD fB nC HR GX=>hn v7 CB eA RD (hv.trans fB) nC (HR.trans cM) GX))
  by_cases hw:Region.wanted o (yielded ops act.tmps)=true
  ·simp only[hw,if_true]at h1⊢
   exact h1
  ·simp only[hw]at h1⊢
   exact⟨fun _ _=>trivial,h1⟩
theorem wpIn_loop_ghost{F:Fence}{m:Nat}{P:Program}{Q:Exit->Act->World->Prop}{a:Act}{w:World}{c:Code}(I:Nat->Act->World->Prop)(aw2:Nat)(bX0:I aw2 a w)
  (round:∀n a w,I n a w->c.wpIn F m P (Exit.then (fun a' w'=>∃n',n'<n/\I n' a' w') Q) a w):(Code.loop c).wpIn F m P Q a w:=by
 refine wpIn_loop (fun a w=>∃n,I n a w) (fun a w=>leastOf (fun n=>I n a w)) ⟨aw2,bX0⟩ ?_
 intro a w hI;refine wpIn_mono (round _ a w (leastOf_spec hI).1) ?_;intro e a' w' hq;cases e with
 |normal=>
  obtain⟨n',bG,Pu⟩:=hq;exact show(∃n,I n a' w')/\leastOf (fun n=>I n a' w')<leastOf (fun n=>I n a w)from⟨⟨n',Pu⟩,Nat.lt_of_le_of_lt ((leastOf_spec ⟨n',Pu⟩).2 n' Pu) bG⟩
 |_=>exact hq
section
variable {P : Program} {σ : AS} {Q : Exit -> AS -> Prop}
theorem RJ(h:Q .normal σ):AW P .skip σ Q:=fun ro E W act eN hr=>wpIn_skip ⟨E,σ,eE.refl E W act,hr,rfl,h⟩
theorem RK{P:Program}{b:Frame}{a:Act}{k:List Item}{cs:List Frame}{w:World}{c:Code}:step P (lone (b.atR a (.code (.scope c)::k)) cs w)= .next (lone (b.atR a (.code c:: .inScope c::k)) cs w):=
 step_lone_go (by simp[stepG,stepG.exec,Frame.atR])
theorem bX1{P:Program}{b:Frame}{a:Act}{k:List Item}{cs:List Frame}{w:World}{c:Code}:step P (lone (b.atR a (.inScope c::k)) cs w)= .next (lone (b.atR a k) cs w):=
 step_lone_go (by simp[stepG,stepG.exec,Frame.atR])
def Pv(Q:Exit->AS->Prop):Exit->AS->Prop
 | .goto _,_=>False
 |e,σ=>Q e σ
theorem bX2{F:Fence}{n:Nat}{P:Program}{a:Act}{w:World}{c:Code}{Q:Exit->Act->World->Prop}(h:c.wpIn F n P (fun e a w=>(∀l,e≠ .goto l)/\Q e a w) a w):(Code.scope c).wpIn F n P Q a w:=by
 intro b k cs eN hb hr;have h0:(lone (b.atR a (.code (.scope c)::k)) cs w).fenced P F:=fenced_calm hb hr rfl;obtain⟨e,XN,XO,⟨hg,hq⟩,FQ⟩:=h b (.inScope c::k) cs eN hb hr;cases e with
 |normal=>exact⟨.normal,XN,XO,hq,.head h0 RK (StepsIn.trans FQ (.one (fenced_calm hb hr rfl) bX1))⟩
 |exit id=>
  have hx:exitTo id (.inScope c::k)=exitTo id k:=by simp[exitTo]
  exact⟨.exit id,XN,XO,hq,fun k' hk=> .head h0 RK (FQ.1 k' (by rw[hx];exact hk)),
   fun cZ hk=>let ⟨k₁,h1,h2⟩:=FQ.2 cZ (by rw[hx];exact hk);⟨k₁,h1,.head h0 RK h2⟩⟩
 |goto l=>exact absurd rfl (hg l)
 |ret=>exact⟨_,XN,XO,hq,.of_steps (.one h0 RK) FQ⟩
 |panic ch=>exact⟨_,XN,XO,hq,.of_steps (.one h0 RK) FQ⟩
 |outgrown=>exact⟨_,XN,XO,hq,.of_steps (.one h0 RK) FQ⟩
theorem RL{c:Code}(h:AW P c σ (Pv Q)):AW P (.scope c) σ Q:=fun ro E W act eN hr=>
 bX2 (wpIn_mono (h ro E W act eN hr) fun e a w ⟨E',aK,h1,h2,h3,h4⟩=>by
  cases e<;>first|exact h4.elim|exact⟨fun l h=>(by cases h),E',aK,h1,h2,h3,h4⟩)
theorem RN{l:Nat}(h:Q .normal σ):AW P (.label l) σ Q:=fun ro E W act eN hr=>wpIn_label ⟨E,σ,eE.refl E W act,hr,rfl,h⟩
theorem kF(h:Q .ret σ):AW P .ret σ Q:=fun ro E W act eN hr=>wpIn_ret ⟨E,σ,eE.refl E W act,hr,rfl,h⟩
theorem RO{id:Nat}(h:Q (.exit id) σ):AW P (.exit id) σ Q:=fun ro E W act eN hr=>wpIn_exit ⟨E,σ,eE.refl E W act,hr,rfl,h⟩
def dR(next:AS->Prop)(Q:Exit->AS->Prop):Exit->AS->Prop
 | .normal,σ=>next σ
 |e,σ=>Q e σ
theorem vQ{x y:Code}(h:AW P x σ (dR (fun aK=>AW P y aK Q) Q)):AW P (.seq x y) σ Q:=fun ro E W act eN hr=>by
 refine wpIn_seq (wpIn_mono (h ro E W act eN hr) fun e a w ⟨E',aK,h1,h2,h3,h4⟩=> ?_)
 cases e with
 |normal=>
  refine wpIn_mono (h4 ro E' w a (eN.mono h1.pS) h2) fun e a' w' ⟨v7,eA,h5,h6,h7,h8⟩=>⟨v7,eA,h1.trans h5,h6,h7.trans h3,h8⟩
 |_=>exact⟨E',aK,h1,h2,h3,h4⟩
theorem Pw{c:Operand}{x y:Code}{b:Bool}(hc:σ.get true c=some (.c (.bool b)))(ht:b=true->AW P x σ Q)(hf:b=false->AW P y σ Q):AW P (.cond c x y) σ Q:=fun ro E W act eN hr=>by
 have h1:=hr.get rfl hc;generalize hcv:act.eval c=cv at h1;cases h1;cases b
 ·exact wpIn_cond_false hcv (hf rfl ro E W act eN hr)
 ·exact wpIn_cond_true hcv (ht rfl ro E W act eN hr)
def eH(id:Nat)(Q:Exit->AS->Prop):Exit->AS->Prop
 | .exit aM,σ=>if aM=id then Q .normal σ else Q (.exit aM) σ
 |e,σ=>Q e σ
theorem RP{id:Nat}{c:Code}(h:AW P c σ (eH id Q)):AW P (.block id c) σ Q:=fun ro E W act eN hr=>by
 refine wpIn_block (wpIn_mono (h ro E W act eN hr) fun e a w ⟨E',aK,h1,h2,h3,h4⟩=> ?_)
 cases e with
 |exit aM=>
  simp only[eH]at h4;simp only[Exit.inBlock];split at h4
  ·rename_i aB;rw[if_pos aB];exact⟨E',aK,h1,h2,h3,h4⟩
  ·rename_i aB;rw[if_neg aB];exact⟨E',aK,h1,h2,h3,h4⟩
 |_=>exact⟨E',aK,h1,h2,h3,h4⟩
theorem bX3{c:Code}(I:Nat->AS->Prop)(n:Nat)(h0:I n σ)(round:∀n σ,I n σ->AW P c σ (dR (fun aK=>∃m,m<n/\I m aK) Q)):AW P (.loop c) σ Q:=fun ro E W act eN hr=>by
 refine wpIn_loop_ghost (fun n a w=>∃E' aK,eE E W act E' w a/\Rel E' w aK a/\aK.nt=σ.nt/\I n aK) n ⟨E,σ,eE.refl E W act,hr,rfl,h0⟩ ?_
 rintro n a w ⟨E',aK,h1,h2,h3,h4⟩;refine wpIn_mono (round n aK h4 ro E' w a (eN.mono h1.pS) h2) fun e a' w' ⟨v7,eA,h5,h6,h7,h8⟩=> ?_
 cases e with
 |normal=>
  obtain⟨m,hm,hI⟩:=h8;exact⟨m,hm,v7,eA,h1.trans h5,h6,h7.trans h3,hI⟩
 |_=>exact⟨v7,eA,h1.trans h5,h6,h7.trans h3,h8⟩
theorem bX4{ic:Bool}{id:Nat}{ops:Array Oper}(h:b9 P ic ops ops.toList σ (Q .normal))(hd:ops.toList.all (fY σ.nt)=true):AW P (.region id ops false) σ Q:=fun ro E W act eN hr=>by
 refine wpIn_region ?_;refine JV _ ops.toList ?_ h hd hr (fun E' W' aK cF hv cZ cM hK=>⟨E',aK,hv,cZ,cM,hK⟩)
 apply BE;intro i;simp only[gE,wD];by_cases hi:i<ops.size
 ·simp[hi,wD]
 ·simp[hi,wD]
end
def mB:Nat->List AV->List (Nat×Bool×AV)
 |_,[]=> []
 |n,a::r=>(n,true,a)::mB (n+1) r
theorem Px:∀(as:List AV) (n t:Nat) (a:Bool×AV),lk (mB n as) t=some a->n<=t/\as[t-n]? =some a.2/\a.1=true
 |[],n,t,a,h=>by simp[mB,lk]at h
 |b::r,n,t,a,h=>by
  simp only[mB,lk]at h;split at h
  ·rename_i ht;subst ht;injection h with h;subst h;simp
  ·obtain⟨h1,h2,h3⟩:=Px r (n+1) t a h
   refine⟨by omega,?_,h3⟩
   rw[show t-n=(t-(n+1))+1 by omega]
   simpa using h2
section
variable (P : Program)
def Ek(σ:AS):ResultVar->Option AV
 | .tmp t=>σ.get true (.tmp t)
 | .cell t ty=>match σ.get true (.tmp t)with
   |some p=>match deref σ.H.get p with
    |some (row,o,_)=>tT P ty row o
    |none=>none
   |none=>none
def N1(σ:AS):List ResultVar->Option (List AV)
 |[]=>some []
 |r::rs=>match Ek P σ r,N1 σ rs with
  |some a,some l=>some (a::l)
  |_,_=>none
def jY(σ:AS)(rs:List ResultVar):Option AV:=
 match N1 P σ rs with
 |some [a]=>some a
 |some l=>some (.aU l)
 |none=>none
end
def XP(tmps:Array Value)(r:ResultVar):Sem Value:=
 match r with
 | .tmp t=>pure (tmps.getD t undef)
 | .cell a t=>do loadVar t (<-asAddr (tmps.getD a undef))
theorem bX5{P:Program}{σ:AS}{E:Env}{W:World}{act:Act}(hr:Rel E W σ act){r:ResultVar}{a:AV}(h:Ek P σ r=some a):
  ∃v,(XP act.tmps r).run P W= .ok v W/\RV E W a v:=by
 cases r with
 |tmp t=>
  have h':σ.get true (.tmp t)=some a:=h;exact⟨_,rfl,hr.get rfl h'⟩
 |cell t ty=>
  simp only[Ek]at h;split at h
  ·rename_i p hp
   split at h
   ·rename_i row o rd hd
    obtain⟨b,q,h1,vs,h3,h4⟩:=ap6 hr.heap.core (hr.get rfl hp) hd;simp only[Act.eval]at h1;unfold tT at h;split at h
    ·rename_i k ha hk
     split at h
     ·rename_i hle
      injection h with h
      subst h;have hl:=h3.1;refine⟨.agg ((vs.drop o).take k).toArray,?_,.agg _ _ (by simp;omega) fun i x v hx hv=>((h3.drop o).take k).2 i x v hx (by simpa using hv)⟩
      have dA:=aq1 ha hk W b (q+o) ((vs.drop o).take k) (by simp;omega) (fun j u hu=>by
       rw[gU]at hu;split at hu
       ·rw[mF]at hu
        have:=h4 _ u hu;rw[s9];exact this
       ·cases hu)
      simp[XP,h1,asAddr,dA]
     ·cases h
    ·rename_i k ha hk
     obtain⟨v,h5,h6⟩:=h3.get h;refine⟨v,?_,h6⟩;have dA:=aq2 (P:=P) ha W ⟨b,q+o,none⟩ v (h4 o v h5);simp[XP,h1,asAddr,dA]
    ·cases h
   ·cases h
  ·cases h
theorem aw4{P:Program}{σ:AS}{E:Env}{W:World}{act:Act}(hr:Rel E W σ act):∀(rs:List ResultVar) (as:List AV),N1 P σ rs=some as->
  ∃vs,(rs.mapM (XP act.tmps)).run P W= .ok vs W/\bX E W as vs
 |[],as,h=>by simp only[N1,bC]at h;subst h;exact⟨[],rfl,.nil⟩
 |r::rs,as,h=>by
  simp only[N1]at h;split at h
  ·rename_i a l ha hl
   injection h with h
   subst h;obtain⟨v,h1,h2⟩:=bX5 hr ha;obtain⟨vs,h3,h4⟩:=aw4 hr rs l hl;exact⟨v::vs,by simp only[List.mapM_cons,Sem.run_bind,h1,Result.andThen_ok,h3,Sem.run_pure],.cons h2 h4⟩
  ·cases h
theorem El{P:Program}{fn:Func}{σ:AS}{E:Env}{W:World}{act:Act}(hr:Rel E W σ act){a:AV}(h:jY P σ fn.results.toList=some a):∃v,(results fn act.tmps).run P W= .ok v W/\RV E W a v:=by
 have key:∀as,N1 P σ fn.results.toList=some as->∃vs,(results fn act.tmps).run P W= .ok (if h:vs.size=1 then vs[0]else .tuple vs) W/\bX E W as vs.toList:=fun as has=>by
  obtain⟨vs,h1,h2⟩:=aw4 hr _ as has;refine⟨vs.toArray,?_,by simpa using h2⟩
  have heq:results fn act.tmps=(do let vs<-fn.results.mapM (XP act.tmps);pure (if h:vs.size=1 then vs[0]else .tuple vs)):=by
   unfold results;congr 1
  rw[heq,Sem.run_bind,cq1,Sem.run_map,h1];rfl
 unfold jY at h;split at h
 ·rename_i b has
  injection h with h
  subst h;obtain⟨vs,h1,h2⟩:=key _ has;have hs:vs.size=1:=by have:=h2.1;simp at this;omega
  refine⟨vs[0],by rw[h1,dif_pos hs],?_⟩
  exact h2.2 0 _ _ rfl (by simp)
 ·rename_i l aJ has
  injection h with h
  subst h;obtain⟨vs,h1,h2⟩:=key _ has
  have hs:¬vs.size=1:=fun hs=>by
   have:=h2.1;simp at this;cases l with
   |nil=>simp at this;omega
   |cons b r=>
    cases r with
    |nil=>exact aJ b rfl
    |cons c r=>simp at this;omega
  exact⟨.tuple vs,by rw[h1,dif_neg hs],.aU _ _ (by simpa using h2.1) fun i x v hx hv=>h2.2 i x v hx (by simpa using hv)⟩
 ·cases h
def cH(P:Program)(rs:List ResultVar)(Q:AV->Heap->Prop):Exit->AS->Prop
 | .normal,σ=>p9 (jY P σ rs) (hold (fun a=>Q a σ.H) ⟨⟩)
 | .ret,σ=>p9 (jY P σ rs) (hold (fun a=>Q a σ.H) ⟨⟩)
 |_,_=>False
theorem aw5{w:World}{D:Nat}{x:Option (List Deferred)}{o:Obj}(h:w.heap[D]? =some (.deferred x)){p:Addr}{v:Value}(hc:w.cell? p=some v):(w.putObj D o).cell? p=some v:=by
 have aJ:p.block≠D:=fun e=>by
  unfold World.cell? at hc;rw[e,h]at hc;simp at hc
 unfold World.cell? at hc⊢;rw[World.putObj_heap_other aJ];exact hc
theorem RV.shut{E:Env}{w:World}{D:Nat}{x:Option (List Deferred)}{o:Obj}(h:w.heap[D]? =some (.deferred x)){a:AV}{v:Value}(r:RV E w a v):RV E (w.putObj D o) a v:=by
 induction r with
 |c x hx=>exact .c x hx
 |agg xs vs hl _ ih=>exact .agg xs vs hl ih
 |aU xs vs hl _ ih=>exact .aU xs vs hl ih
 |snap rows b off s n cap vs hn qK hs hL hc hr ih=>exact .snap rows b off s n cap vs hn qK hs hL (fun i j row x h1 h2=>aw5 h (hc i j row x h1 h2)) ih
 |lV a cap=>exact .lV a cap
 |dD rows i o b off s vs hs hL hc hr ih=>exact .dD rows i o b off s vs hs hL (fun i j row x h1 h2=>aw5 h (hc i j row x h1 h2)) ih
 |own id off len cap aB eC dP=>
  obtain⟨cur,e,f,h1,h2⟩:=dP;exact .own id off len cap aB eC ⟨cur,e,f,by rw[World.putObj_heap_other (fun e=>by rw[e,h]at h1;cases h1)];exact h1,h2⟩
 |mW id off a aB=>exact .mW id off a aB
 |sub id i o len cap aB eC dP=>
  obtain⟨cur,e,f,h1,h2⟩:=dP;exact .sub id i o len cap aB eC ⟨cur,e,f,by rw[World.putObj_heap_other (fun e=>by rw[e,h]at h1;cases h1)];exact h1,h2⟩
 |ptr id i o aB=>exact .ptr id i o aB
 |fn f first cap vf vc hl cW _ _ HF HG=>exact .fn f first cap vf vc hl cW HF HG
 |omap id aB=>exact .omap id aB
 |kH id aB=>exact .kH id aB
theorem MD.shut{E:Env}{w:World}{G:Nat->Option aI}{id D:Nat}{x:Option (List Deferred)}{o:Obj}(h:w.heap[D]? =some (.deferred x)){b:aI}(r:MD E w G id b):MD E (w.putObj D o) G id b:=by
 cases b with
 |cells elem s rows wr a=>
  obtain⟨h1,h2,⟨cur,h3,h4,h5⟩,h6⟩:=r;refine⟨h1,h2,⟨cur,by rw[World.putObj_heap_other (fun e=>by rw[e,h]at h3;cases h3)];exact h3,h4,fun i j row x hr hx=> ?_⟩,h6⟩
  obtain⟨v,pN,fB⟩:=h5 i j row x hr hx;exact⟨v,pN,fB.shut h⟩
 |map es=>
  obtain⟨⟨ms,clock,h1,h2,h3,h4⟩,h5⟩:=r;refine⟨⟨ms,clock,by rw[World.putObj_heap_other (fun e=>by rw[e,h]at h1;cases h1)];exact h1,h2,h3,fun i k x hx=> ?_⟩,h5⟩
  obtain⟨e,lC,mX,sN⟩:=h4 i k x hx;exact⟨e,lC,mX,sN.shut h⟩
 |iter m n seen=>
  obtain⟨⟨h1,h3⟩,h5⟩:=r;exact⟨⟨by rw[World.putObj_heap_other (fun e=>by rw[e,h]at h1;cases h1)];exact h1,h3⟩,h5⟩
 |cO env nt ps assign body st MC=>
  obtain⟨⟨fn,tmps,D',h1,h2,h3⟩,h5⟩:=r;refine⟨⟨fn,tmps,D',by rw[World.putObj_heap_other (fun e=>by rw[e,h]at h1;cases h1)];exact h1,h2,fun t c a ht=> ?_⟩,h5⟩
  obtain⟨v,lC,mX,sN⟩:=h3 t c a ht;exact⟨v,lC,fun hc=>(mX hc).shut h,sN⟩
theorem RH.shut{E:Env}{w:World}{H:Heap}{D:Nat}{x:Option (List Deferred)}{o:Obj}(h:w.heap[D]? =some (.deferred x))(r:RH E w H):RH E (w.putObj D o) H:=
 ⟨r.next,fun b hb=>r.core.lim b (by simpa using hb),fun id aB=>by simpa using r.core.eL id aB,fun id b hg=>⟨(r.core.ok id b hg).1,(r.core.ok id b hg).2.shut h⟩⟩
theorem Rel.shut{E:Env}{w:World}{σ:AS}{act:Act}{D:Nat}{x:Option (List Deferred)}{o:Obj}(h:w.heap[D]? =some (.deferred x))(r:Rel E w σ {act with defers:=[]}):Rel E (w.putObj D o) σ {act with defers:=[]}:=
 ⟨Marks.nil _ _,r.size,fun t c a ha=>let ⟨v,h1,h2,h3⟩:=r.env t c a ha;⟨v,h1,fun hc=>(h2 hc).shut h,h3⟩,r.heap.shut h⟩
theorem bE.shut{E E':Env}{W w:World}{D:Nat}{o:Obj}(hv:bE E W E' w)(hL:∀b,W.heap.size<=b->E.L b=0)(hD:W.heap.size<=D):bE E W E' (w.putObj D o):=by
 have hb:∀b,b<W.heap.size->(w.putObj D o).heap[b]? =w.heap[b]? :=fun b h=>World.putObj_heap_other (by omega)
 refine⟨hv.os,hv.tape,hv.output,by simpa using hv.size,hv.used,hv.kT,hv.lim,fun b k hk=> ?_,fun b h hf=>(hb b h).trans (hv.tZ b h hf),fun b cur e f hc=> ?_,hv.still,hv.fresh,fun b r hr=> ?_⟩
 ·have bG:b<W.heap.size:=by
   rcases oA b W.heap.size with h|h
   ·exact h
   ·rw[hL b h]at hk;omega
  rw[<-hv.zB b k hk];unfold World.cell?;rw[hb b bG]
 ·rw[hb b (jG.1 hc).1];exact hv.b8 b cur e f hc
 ·rw[hb b (jG.1 hr).1];exact hv.loops b r hr
theorem JW{P:Program}{fn:Func}{tmps:Array Value}{R:Ending->World->Prop}{I:World->Prop}{u:FrameMode}(hu:u≠ .run){rest:List Deferred}:∀(ds:List Deferred) (Ds:List Nat),ds.filter zH=Ds.map tI->rF ds=[]->Ds.Nodup->(∀D∈Ds,∀w,w.heap[D]? =some (.deferred (some []))->I w->I (w.putObj D (.deferred none)))->
  (∀w,I w->LeavesInM Fence.wide 3 P fn tmps R rest u w)->∀{w:World},(∀D∈Ds,w.heap[D]? =some (.deferred (some [])))->I w->LeavesInM Fence.wide 3 P fn tmps R (ds++rest) u w
 |[],_,_,_,_,_,fin,w,_,hI=>fin w hI
 |d::ds,Ds,hm,ho,hn,hs,fin,w,hw,hI=>by
  have hd:zH d=true:=by
   cases h:zH d with
   |true=>rfl
   |false=>
    unfold rF at ho;rw[TQ (by simp[h])]at ho
    cases ho
  rw[TQ hd]at hm;cases Ds with
  |nil=>simp at hm
  |cons D Ds=>
   rw[gJ,OA]at hm;obtain⟨rfl,hm⟩:=hm;have h0:=hw D (by simp)
   rw[Fv]at hn;refine⟨hu,.inl ⟨D,w.putObj D (.deferred none),rfl,run_takeDeferred h0,?_⟩⟩
   have yF:rF ds=[]:=by
    unfold rF at ho⊢;rw[Z6 (by simp[hd])]at ho
    exact ho
   refine JW hu ds Ds hm yF hn.2 (fun D' xB=>hs D' (by simp[xB])) fin (fun D' xB=> ?_) (hs D (by simp) w h0 hI)
   rw[World.putObj_heap_other (fun e=>hn.1 (by rw[<-e];exact xB))]
   exact hw D' (by simp[xB])
theorem FR{P:Program}{n:FuncId}{fn:Func}{c:Code}{args:List AV}{H:Heap}{Q:AV->Heap->Prop}(hf:P.funcs[n]? =some fn)(hb:fn.body=some c)(fI:(fn.name== "runtime.NumGoroutine")=false)(hlen:args.length<=fn.ntmps)
  (h:AW P c ⟨mB 0 args,H,fn.ntmps⟩ (hold (cH P fn.results.toList (hold Q ⟨⟩)) ⟨⟩)):fU P n args H Q:=by
 refine⟨by unfold rD;rw[hf];simp[fI,hb],fun E W vs hH hr=> ?_⟩
 refine callsIn_wide.1 (callsIn_of_wp_marks (F:=Fence.wide) (n:=3) hf hb trivial ?_)
 have cC:Rel E W ⟨mB 0 args,H,fn.ntmps⟩ {tmps:=vs.toArray++Array.replicate (fn.ntmps-vs.toArray.size) undef,defers:=[]}:=by
  refine⟨Marks.nil E W,?_,fun t c a ha=> ?_,hH⟩
  ·have:=hr.1;simp;omega
  ·obtain⟨_,h1,XQ⟩:=Px args 0 t _ ha
   obtain⟨v,h2,h3⟩:=hr.get h1;simp only[Nat.sub_zero]at h2;refine⟨v,?_,fun _=>h3,fun h=>by simp only at XQ;rw[XQ]at h;cases h⟩
   rw[TP (by simpa using(dV.1 h2).1)]
   simpa using h2
 refine wpIn_mono (h none E W _ (fun l h=>by cases h) cC) fun e a w ⟨E',aK,h1,h2,h3,h4⟩=> ?_
 have fin:p9 (jY P aK fn.results.toList) (hold (fun a=>Q a aK.H) ⟨⟩)->LeavesInM Fence.wide 3 P fn a.tmps (fun e W'=>∃v,e= .returned v/\∃E' r H',bE E W E' W'/\RH E' W' H'/\RV E' W' r v/\Q r H') a.defers .returning w:=fun hq=>by
  obtain⟨b,hb,hq⟩:=HP hq;obtain⟨Ds,rY,tG,xC⟩:=h2.defers;have B7:∀D∈Ds,W.heap.size<=D:=fun D hD=>(h1.new D (MW rY hD)).resolve_left (fun h=>by cases h)
  have key:=JW (P:=P) (fn:=fn) (tmps:=a.tmps) (R:=fun e W'=>∃v,e= .returned v/\∃E' r H',bE E W E' W'/\RH E' W' H'/\RV E' W' r v/\Q r H') (I:=fun w'=>bE E W E' w'/\Rel E' w' aK {a with defers:=[]}) (u:= .returning) (by simp) (rest:=[]) a.defers Ds rY h1.B0 tG (fun D hD w' hw hI=>⟨hI.1.shut hH.core.lim (B7 D hD),hI.2.shut hw⟩) (fun w' hI=> ?_) (fun D hD=>(xC D hD).1) ⟨h1.pS,⟨Marks.nil _ _,h2.size,h2.env,h2.heap⟩⟩
  ·rw[mD]at key;exact key
  ·obtain⟨v,h5,h6⟩:=El hI.2 hb
   exact⟨v,h5,v,rfl,E',b,aK.H,hI.1,hI.2.heap,h6,hq⟩
 cases e with
 |normal=>exact fin h4
 |ret=>exact fin h4
 |_=>exact h4.elim
end Go.AL
namespace Go.AL
open Go.RowKit
def Em:Option aI->Nat->Option (List AV)
 |some (.cells _ _ rows _ _),i=>rows[i]?
 |_,_=>none
theorem aw6{b:Option aI}{i:Nat}{row:List AV}(h:Em b i=some row):∃e s rows w a,b=some (.cells e s rows w a)/\rows[i]? =some row:=by
 unfold Em at h;split at h
 ·exact⟨_,_,_,_,_,rfl,h⟩
 ·cases h
theorem aw7{E:Env}{W:World}{b i o len cap s:Nat}{cur:Array Value}{e:TypeId}{row:List AV}(cK:W.heap[b]? =some (Obj.cells cur e (0,0)))(hle:o+len<=row.length)(eC:len<=cap)(hL:i*s+o+len<=E.L b)
  (eX:∀(j:Nat) x,o<=j->j<o+len->row[j]? =some x->∃u,cur[i*s+j]? =some u/\RV E W x u):RV E W (.snap (((row.drop o).take len).map fun x=> [x])) (.slice (some ⟨b,i*s+o,none⟩) len cap):=by
 have bU:∀(k j:Nat) r x,(((row.drop o).take len).map fun x=> [x])[k]? =some r->r[j]? =some x->j=0/\k<len/\row[o+k]? =some x:=fun k j r x h1 h2=>by
  rw[gE]at h1;obtain⟨y,hy,rfl⟩:=map_some h1;rw[gU]at hy;split at hy
  ·rename_i hk
   rw[mF]at hy;cases j with
   |zero=>simp at h2;subst h2;exact⟨rfl,hk,hy⟩
   |succ j=>simp at h2
  ·cases hy
 have hlen:(((row.drop o).take len).map fun x=> [x]).length=len:=by simp;omega
 refine .snap _ b (i*s+o) 1 len cap (fun k _=>cur.getD (i*s+(o+k)) undef) hlen.symm eC (fun k r hr=> ?_) (by rw[hlen];omega) (fun k j r x h1 h2=> ?_) (fun k j r x h1 h2=> ?_)
 ·rw[gE]at hr
  obtain⟨y,hy,rfl⟩:=map_some hr;rfl
 ·obtain⟨rfl,hk,hx⟩:=bU k j r x h1 h2
  obtain⟨u,h3,h4⟩:=eX (o+k) x (by omega) (by omega) hx
  rw[cell_of_row W _ _ cur e (0,0) cK,show i*s+o+(k*1+0)=i*s+(o+k)by omega,h3]
  simp[h3]
 ·obtain⟨rfl,hk,hx⟩:=bU k j r x h1 h2
  obtain⟨u,h3,h4⟩:=eX (o+k) x (by omega) (by omega) hx
  simp only[KI,h3,vZ];exact h4
theorem aw8{rows:List (List AV)}{i s:Nat}(h:i<rows.length):i*s+s<=rows.length*s:=by
 have:=nN s (show i+1<=rows.length from h)
 rw[oW]at this;omega
def sA(G:Nat->Option aI)(a:AV):AV:=
 match a with
 | .own id off len=>match rowsOf G (.own id off len)with
   |some (rows,_)=> .snap rows
   |none=>a
 | .ptr id i o=>match G id with
   |some (.cells _ _ rows _ _)=> .dD rows i o
   |_=>a
 | .sub id i o len=>match Em (G id) i with
   |some row=>if o+len<=row.length then .snap (((row.drop o).take len).map fun x=> [x])else a
   |none=>a
 |_=>a
def o0(G:Nat->Option aI)(a:AV):AV:=
 match a with
 | .agg xs=> .agg (xs.map (sA G))
 | .fn f xs ys=> .fn f (xs.map (sA G)) (ys.map (sA G))
 |_=>sA G a
def HS(G:Nat->Option aI)(a:AV):AV:=
 match a with
 | .aU xs=> .aU (xs.map (o0 G))
 |_=>o0 G a
section
variable {E : Env} {W : World} {G : Nat -> Option aI} {L : Nat -> Nat}
theorem En(hG:RC E W G)(hL:∀b,E.L b<=L b)(nO:∀id,E.U id->∀(cur:Array Value) (e:TypeId) (f:Nat×Nat),W.heap[E.ι id]? =some (Obj.cells cur e f)->cur.size<=L (E.ι id)){a:AV}{v:Value}(r:RV E W a v)(h:bK (sA G a)):RV (fM L) W (sA G a) v:=by
 unfold sA at h⊢;split at h
 ·rename_i id off len
  split at h
  ·rename_i rows rd dB
   have hU:=(wO r).1;rcases(wO r).2 with⟨cap,hv,eC,DY,e0,f0,lF,XR⟩|⟨oZ,a0,hv⟩
   ·subst hv
    simp only[rowsOf]at dB;split at dB
    ·rename_i e s fH w ap bU
     split at dB
     ·rename_i hle
      simp only[bC,cD]at dB;obtain⟨rfl,rfl⟩:=dB;obtain⟨_,kZ,hlen,⟨cur,cK,qV,eX⟩,_,_⟩:=hG.ok id _ bU;rw[cK]at lF;injection lF with lF
      injection lF with lF N3 N4
      subst lF;subst N3;subst N4;have HT:=nO id hU cur e (0,0) cK;rw[fC]at h
      have v8:∀(i:Nat) row,((fH.drop off).take len)[i]? =some row->fH[off+i]? =some row:=fun i row hr=>by
       rw[gU]at hr;split at hr
       ·rwa[mF]at hr
       ·cases hr
      have zA:((fH.drop off).take len).length=len:=by simp;omega
      have hmul:(off+len)*s<=fH.length*s:=nN s hle;refine .snap _ (E.ι id) (off*E.sz id) s len cap (fun i j=>cur.getD ((off+i)*s+j) undef) zA.symm eC (fun i row hr=>hlen _ row (v8 i row hr)) ?_ (fun i j row x h1 h2=> ?_) (fun i j row x h1 h2=> ?_)
      ·rw[zA,kZ,<-oW];simp only[fM];omega
      ·obtain⟨u,h3,h4⟩:=eX _ j row x (v8 i row h1) h2
       rw[cell_of_row W _ _ cur e (0,0) cK,kZ];have he:off*s+(i*s+j)=(off+i)*s+j:=by rw[oW];omega
       rw[he,h3];simp[h3]
      ·obtain⟨u,h3,h4⟩:=eX _ j row x (v8 i row h1) h2
       simp only[KI,h3,vZ];exact h4.rE hL (h row (eS h1) x (eS h2))
     ·cases dB
    ·cases dB
   ·subst oZ;subst hv
    have:rows=[]:=by
     simp only[rowsOf]at dB;split at dB
     ·split at dB
      ·simp at dB;exact dB.1
      ·cases dB
     ·cases dB
    subst this;exact .lV _ _
  ·cases h
 ·rename_i id i o
  split at h
  ·rename_i e s rows w ap bU
   cases r with
   |ptr _ _ _ hU=>
   obtain⟨_,kZ,hlen,⟨cur,cK,qV,eX⟩,_,_⟩:=hG.ok id _ bU;have HT:=nO id hU cur e (0,0) cK;cases h with
   |dD _ _ _ h=>
   have:=RV.dD (E:=fM L) (W:=W) rows i o (E.ι id) 0 s (fun i j=>cur.getD (i*s+j) undef) hlen (by simp only[fM];omega) (fun i j row x h1 h2=>by
    obtain⟨u,h3,h4⟩:=eX i j row x h1 h2;rw[cell_of_row W _ _ cur e (0,0) cK,pJ,h3];simp[h3]) (fun i j row x h1 h2=>by
    obtain⟨u,h3,h4⟩:=eX i j row x h1 h2;simp only[KI,h3,vZ]
    exact h4.rE hL (h row (eS h1) x (eS h2)))
   rw[kZ];simpa using this
  ·cases h
 ·rename_i id i o len
  split at h
  ·rename_i row bH
   obtain⟨e,s,rows,w,ap,bU,AX⟩:=aw6 bH;by_cases hle:o+len<=row.length
   ·rw[if_pos hle]at h⊢
    cases r with
    |sub _ _ _ _ cap hU eC XR=>
    obtain⟨_,kZ,hlen,⟨cur,cK,qV,eX⟩,_,_⟩:=hG.ok id _ bU;have HT:=nO id hU cur e (0,0) cK;rw[fC]at h;have iR:=hlen i row AX;have bG:i<rows.length:=(dV.1 AX).1;have hm:=aw8 (s:=s) bG;rw[kZ];refine aw7 (E:=fM L) (s:=s) cK hle eC (show i*s+o+len<=L (E.ι id)by omega) fun j x h1 h2 hx=> ?_
    obtain⟨u,h3,h4⟩:=eX i j row x AX hx;refine⟨u,h3,h4.rE hL (h [x] (kV.2 ⟨x,?_,rfl⟩) x (by simp))⟩
    refine eS (i:=j-o) ?_;rw[G0 (by omega),mF,show o+(j-o)=j by omega]
    exact hx
   ·rw[if_neg hle]at h
    cases h
  ·cases h
 ·exact r.rE hL h
theorem aw9(hG:RC E W G)(hL:∀b,E.L b<=L b)(nO:∀id,E.U id->∀(cur:Array Value) (e:TypeId) (f:Nat×Nat),W.heap[E.ι id]? =some (Obj.cells cur e f)->cur.size<=L (E.ι id)){a:AV}{v:Value}(r:RV E W a v)(h:bK (o0 G a)):RV (fM L) W (o0 G a) v:=by
 unfold o0 at h⊢;split at h
 ·rename_i xs
  rw[eV]at h;cases r with
  |agg _ vs hl hr=>
  refine .agg _ vs (by simpa using hl) fun i x v hx hv=> ?_
  rw[gE]at hx;obtain⟨y,hy,rfl⟩:=map_some hx;exact En hG hL nO (hr i y v hy hv) (h _ (kV.2 ⟨y,eS hy,rfl⟩))
 ·rename_i f xs ys
  cases h with
  |fn _ _ _ sI oP=>
  cases r with
  |fn _ _ _ vf vc hl cW hr nC=>
  refine .fn _ _ _ vf vc (by simpa using hl) (by simpa using cW) (fun i x v hx hv=> ?_) (fun i x v hx hv=> ?_)
  ·rw[gE]at hx
   obtain⟨y,hy,rfl⟩:=map_some hx;exact En hG hL nO (hr i y v hy hv) (sI _ (kV.2 ⟨y,eS hy,rfl⟩))
  ·rw[gE]at hx
   obtain⟨y,hy,rfl⟩:=map_some hx;exact En hG hL nO (nC i y v hy hv) (oP _ (kV.2 ⟨y,eS hy,rfl⟩))
 ·exact En hG hL nO r h
theorem bX6(hG:RC E W G)(hL:∀b,E.L b<=L b)(nO:∀id,E.U id->∀(cur:Array Value) (e:TypeId) (f:Nat×Nat),W.heap[E.ι id]? =some (Obj.cells cur e f)->cur.size<=L (E.ι id)){a:AV}{v:Value}(r:RV E W a v)(h:bK (HS G a)):RV (fM L) W (HS G a) v:=by
 unfold HS at h⊢;split at h
 ·rename_i xs
  rw[fN]at h;cases r with
  |aU _ vs hl hr=>
  refine .aU _ vs (by simpa using hl) fun i x v hx hv=> ?_
  rw[gE]at hx;obtain⟨y,hy,rfl⟩:=map_some hx;exact aw9 hG hL nO (hr i y v hy hv) (h _ (kV.2 ⟨y,eS hy,rfl⟩))
 ·exact aw9 hG hL nO r h
end
theorem bX7{P:Program}{n:FuncId}{fn:Func}{c:Code}{args:List AV}{Q:AV->Prop}(hf:P.funcs[n]? =some fn)(hb:fn.body=some c)(fI:(fn.name== "runtime.NumGoroutine")=false)(hlen:args.length<=fn.ntmps)
  (h:AW P c ⟨mB 0 args,⟨0,cV []⟩,fn.ntmps⟩ (hold (cH P fn.results.toList (hold (fun a H'=>bK (HS H'.get a)/\Q (HS H'.get a)) ⟨⟩)) ⟨⟩)):eU P n args Q:=by
 have hA:=FR hf hb fI hlen h;refine⟨hA.1,fun L W vs hL hr=> ?_⟩
 have mA:RH (fM L) W ⟨0,cV []⟩:=⟨fun id h=>h.elim,hL,fun id h=>h.elim,fun id b h=>by cases h⟩
 refine(hA.2 (fM L) W vs mA hr).mono fun e W' ⟨v,he,E',r,H',hv,hH,iF,eY,hq⟩=> ?_
 refine⟨v,he,HS H'.get r,fun b=>if b<W.heap.size then L b else max (E'.L b) (match W'.heap[b]? with|some (.cells cur _ _)=>cur.size|_=>0),⟨hv.os,hv.tape,hv.output,hv.size,fun k hk=>hv.tZ k hk fun id h=>h.elim⟩,fun b bY=> ?_,fun b bY=> ?_,?_,eY,hq⟩
 ·simp[bY]
 ·have h1:¬b<W.heap.size:=by have:=hv.size;omega
  simp[h1,hH.core.lim b bY,O5 bY]
 ·refine bX6 hH.core (fun b=> ?_) (fun id hU cur e f hc=> ?_) iF eY
  ·by_cases bY:b<W.heap.size
   ·rw[hv.still b bY fun id h=>h.elim]
    simp[bY,fM]
   ·simp[bY];omega
  ·have h1:¬E'.ι id<W.heap.size:=by
    rcases hv.fresh id (fun h=>h) hU with h2|⟨tH,h2,_⟩
    ·omega
    ·exact h2.elim
   simp[h1,hc];omega
end Go.AL
