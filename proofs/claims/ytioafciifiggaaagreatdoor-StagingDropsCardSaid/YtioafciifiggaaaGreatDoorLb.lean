/- Staging: a layer over the walks (Lb). No condition but those named. -/
import Derived.Test.YtioafciifiggaaaGreatDoorLa
import Derived.RangeFuncNested
set_option linter.unusedVariables false
set_option linter.unusedSimpArgs false
namespace Go.AL
open Go.RowKit
def enterable(P:Program)(n:FuncId):Bool:=
 match P.funcs[n]? with
 |some fn=> !(fn.name== "runtime.NumGoroutine")&& !fn.body.isNone
 |none=>false
def ACall(P:Program)(n:FuncId)(args:List AV)(H:Heap)(Q:AV→Heap→Prop):Prop:=
 enterable P n=true∧∀(E:Env) (W:World) (vs:List Value),RH E W H→RVs E W args vs→
  Calls P n vs.toArray W fun e W'=>∃v,e= .returned v∧∃E' r H',Evo E W E' W'∧RH E' W' H'∧RV E' W' r v∧Q r H'
theorem ACall.mono{P:Program}{n:FuncId}{args:List AV}{H:Heap}{Q Q':AV→Heap→Prop}(h:ACall P n args H Q)(hq:∀r H',Q r H'→Q' r H'):ACall P n args H Q':=
 ⟨h.1,fun E W vs hH hr=>(h.2 E W vs hH hr).mono fun e W' ⟨v,he,E',r,H',h1,h2,h3,h4⟩=>⟨v,he,E',r,H',h1,h2,h3,hq r H' h4⟩⟩
inductive NoId:AV→Prop
 |c (x:Value):NoId (.c x)
 |agg (xs:List AV) (h:∀x∈xs,NoId x):NoId (.agg xs)
 |tup (xs:List AV) (h:∀x∈xs,NoId x):NoId (.tup xs)
 |snap (rows:List (List AV)) (h:∀row∈rows,∀x∈row,NoId x):NoId (.snap rows)
 |sptr (rows:List (List AV)) (i o:Nat) (h:∀row∈rows,∀x∈row,NoId x):NoId (.sptr rows i o)
 |fn (f:Fn) (first cap:List AV) (h:∀x∈first,NoId x) (h2:∀x∈cap,NoId x):NoId (.fn f first cap)
theorem noId_c(x:Value):NoId (.c x):= .c x
theorem noId_agg{xs:List AV}:NoId (.agg xs)↔∀x∈xs,NoId x:=⟨fun h=>by cases h;assumption,.agg xs⟩
theorem noId_tup{xs:List AV}:NoId (.tup xs)↔∀x∈xs,NoId x:=⟨fun h=>by cases h;assumption,.tup xs⟩
theorem noId_snap{rows:List (List AV)}:NoId (.snap rows)↔∀row∈rows,∀x∈row,NoId x:=⟨fun h=>by cases h;assumption,.snap rows⟩
def Env0(L:Nat→Nat):Env:=⟨fun _=>0,fun _=>0,fun _=>False,L⟩
theorem RV.toPlain{E:Env}{W:World}{L:Nat→Nat}(hL:∀b,E.L b≤L b){a:AV}{v:Value}(r:RV E W a v)(h:NoId a):RV (Env0 L) W a v:=by
 induction r with
 |c x hx=>exact .c x hx
 |agg xs vs hl _ ih=>
  rw[noId_agg]at h;exact .agg xs vs hl fun i x v hx hv=>ih i x v hx hv (h x (List.mem_of_getElem? hx))
 |tup xs vs hl _ ih=>
  rw[noId_tup]at h;exact .tup xs vs hl fun i x v hx hv=>ih i x v hx hv (h x (List.mem_of_getElem? hx))
 |snap rows b off s n cap vs hn hcap hs hL' hc hr ih=>
  rw[noId_snap]at h;exact .snap rows b off s n cap vs hn hcap hs (Nat.le_trans hL' (hL b)) hc fun i j row x h1 h2=>ih i j row x h1 h2 (h row (List.mem_of_getElem? h1) x (List.mem_of_getElem? h2))
 |snap0 a cap=>exact .snap0 a cap
 |sptr rows i o b off s vs hs hL' hc hr ih=>
  cases h with
  |sptr _ _ _ h=>
  exact .sptr rows i o b off s vs hs (Nat.le_trans hL' (hL b)) hc fun i j row x h1 h2=>ih i j row x h1 h2 (h row (List.mem_of_getElem? h1) x (List.mem_of_getElem? h2))
 |own id off len cap hid hlc hsz=>cases h
 |own0 id off a hid=>cases h
 |sub id i o len cap hid hlc hsz=>cases h
 |ptr id i o hid=>cases h
 |fn f first cap vf vc hl hl2 _ _ ih1 ih2=>
  cases h with
  |fn _ _ _ h h2=>
  exact .fn f first cap vf vc hl hl2 (fun i x v hx hv=>ih1 i x v hx hv (h x (List.mem_of_getElem? hx))) (fun i x v hx hv=>ih2 i x v hx hv (h2 x (List.mem_of_getElem? hx)))
 |omap id hid=>cases h
 |yld id hid=>cases h
theorem RV.fromPlain{E:Env}{W:World}{L:Nat→Nat}(hL:∀b,L b≤E.L b){a:AV}{v:Value}(r:RV (Env0 L) W a v):RV E W a v:=by
 induction r with
 |c x hx=>exact .c x hx
 |agg xs vs hl _ ih=>exact .agg xs vs hl ih
 |tup xs vs hl _ ih=>exact .tup xs vs hl ih
 |snap rows b off s n cap vs hn hcap hs hL' hc hr ih=>exact .snap rows b off s n cap vs hn hcap hs (Nat.le_trans hL' (hL b)) hc ih
 |snap0 a cap=>exact .snap0 a cap
 |sptr rows i o b off s vs hs hL' hc hr ih=>exact .sptr rows i o b off s vs hs (Nat.le_trans hL' (hL b)) hc ih
 |own id off len cap hid hlc hsz=>exact hid.elim
 |own0 id off a hid=>exact hid.elim
 |sub id i o len cap hid hlc hsz=>exact hid.elim
 |ptr id i o hid=>exact hid.elim
 |fn f first cap vf vc hl hl2 _ _ ih1 ih2=>exact .fn f first cap vf vc hl hl2 ih1 ih2
 |omap id hid=>exact hid.elim
 |yld id hid=>exact hid.elim
theorem RVs.toPlain{E:Env}{W:World}{L:Nat→Nat}(hL:∀b,E.L b≤L b){as:List AV}{vs:List Value}(r:RVs E W as vs)(h:∀a∈as,NoId a):RVs (Env0 L) W as vs:=
 ⟨r.1,fun i x v hx hv=>(r.2 i x v hx hv).toPlain hL (h x (List.mem_of_getElem? hx))⟩
def PCall(P:Program)(n:FuncId)(args:List AV)(Q:AV→Prop):Prop:=
 enterable P n=true∧∀(L:Nat→Nat) (W:World) (vs:List Value),(∀b,W.heap.size≤b→L b=0)→RVs (Env0 L) W args vs→
  Calls P n vs.toArray W fun e W'=>∃v,e= .returned v∧∃r L',Below W.heap.size W W'∧(∀b,b<W.heap.size→L' b=L b)∧(∀b,W'.heap.size≤b→L' b=0)∧RV (Env0 L') W' r v∧NoId r∧Q r
theorem PCall.run{P:Program}{n:FuncId}{args:List AV}{Q:AV→Prop}(h:PCall P n args Q)(ha:∀a∈args,NoId a){E:Env}{W:World}{H:Heap}(hH:RH E W H){vs:List Value}(hr:RVs E W args vs):
  Calls P n vs.toArray W fun e W'=>∃v,e= .returned v∧∃r L',Evo E W ⟨E.ι,E.sz,E.U,L'⟩ W'∧RH ⟨E.ι,E.sz,E.U,L'⟩ W' H∧RV ⟨E.ι,E.sz,E.U,L'⟩ W' r v∧NoId r∧Q r:=by
 refine(h.2 E.L W vs hH.core.lim (hr.toPlain (fun _=>Nat.le_refl _) ha)).mono fun e W' ⟨v,he,r,L',hb,h2,h3,h4,h5,h6⟩=> ?_
 have hlt:∀b k,k<E.L b→b<W.heap.size:=fun b k hk=>by
  rcases Nat.lt_or_ge b W.heap.size with h|h
  ·exact h
  ·have:=hH.core.lim b h;omega
 have hv:Evo E W ⟨E.ι,E.sz,E.U,L'⟩ W':=by
  refine⟨hb.os,hb.tape,hb.output,hb.size,fun _ h=>h,fun _ _=>⟨rfl,rfl⟩,fun b=> ?_,fun b k hk=> ?_,fun b hb' _=>hb.block b hb',fun b cur e f hc=> ?_,fun b hb' _=>h2 b hb',fun id h h'=>absurd h' h,fun b r h=>⟨r,by rw[hb.block b (Array.getElem?_eq_some_iff.1 h).1];exact h,rfl⟩⟩
  ·rcases Nat.lt_or_ge b W.heap.size with h|h
   ·exact Nat.le_of_eq (h2 b h).symm
   ·rw[hH.core.lim b h];exact Nat.zero_le _
  ·exact hb.cell (p:=⟨b,k,none⟩) (hlt b k hk)
  ·exact⟨cur,f,by rw[hb.block b (Array.getElem?_eq_some_iff.1 hc).1];exact hc,rfl⟩
 refine⟨v,he,r,L',hv,⟨hH.next,h3,fun id hU=>Nat.lt_of_lt_of_le (hH.core.inW id hU) hb.size,fun id b hg=> ?_⟩,h4.fromPlain (fun _=>Nat.le_refl _),h5,h6⟩
 obtain⟨hU,hok⟩:=hH.core.ok id b hg;have hlt2:=hH.core.inW id hU;exact⟨hU,hok.mono hv hU (hb.block _ hlt2) (h2 _ hlt2) fun id' b' _ hg' he'=>⟨b',hg',he',rfl,fun h=>h⟩⟩
theorem ACall.pure{P:Program}{n:FuncId}{args:List AV}{Q:AV→Prop}(h:PCall P n args Q)(ha:∀a∈args,NoId a){H:Heap}{K:AV→Heap→Prop}(hk:∀r,NoId r→Q r→K r H):ACall P n args H K:=
 ⟨h.1,fun E W vs hH hr=>(h.run ha hH hr).mono fun e W' ⟨v,he,r,L',h1,h2,h3,h4,h5⟩=>⟨v,he,_,r,H,h1,h2,h3,hk r h4 h5⟩⟩
end Go.AL
namespace Go.AL
open Go.RowKit
def OCall(P:Program)(n:FuncId)(args:List AV)(e:TypeId)(k:Nat)(rows:List (List AV)):Prop:=
 enterable P n=true∧∀(E:Env) (W:World) (G:Nat→Option Blk) (nid:Nat) (vs:List Value),RC E W G→¬E.U nid→RVs E W args vs→
  Calls P n vs.toArray W fun x W'=>∃v,x= .returned v∧∃E',Evo E W E' W'∧RC E' W' (upd G [(nid,some (.cells e k rows true true))])∧RV E' W' (.own nid 0 rows.length) v∧∀id,E'.U id→E.U id∨id=nid
theorem ocall_of{P:Program}{n:FuncId}{args:List AV}{e:TypeId}{k:Nat}{rows:List (List AV)}(ha:∀a∈args,NoId a)(hrows:∀row∈rows,∀x∈row,NoId x)
  (h:ACall P n args ⟨0,tabG []⟩ fun r H'=>∃i,r= .own i 0 rows.length∧H'.get i=some (.cells e k rows true true)):OCall P n args e k rows:=by
 refine⟨h.1,fun E W G nid vs hG hnid hr=> ?_⟩
 have hRH:RH (Env0 E.L) W ⟨0,tabG []⟩:=⟨fun id h=>h.elim,hG.lim,fun id h=>h.elim,fun id b h=>by cases h⟩
 refine(h.2 (Env0 E.L) W vs hRH (hr.toPlain (fun _=>Nat.le_refl _) ha)).mono fun x W' ⟨v,he,E1,r,H',hv,hH,hrv,i,hri,hgi⟩=> ?_
 subst hri;obtain⟨hU1,hok1⟩:=hH.core.ok i _ hgi;obtain⟨hsz,hlen,⟨cur,hcur,hle,hcells⟩,hw1,ha1⟩:=hok1;have hL0:=(hw1 rfl).1
 have hnew:W.heap.size≤E1.ι i:=by
  rcases hv.fresh i (fun h=>h) hU1 with h1|⟨id0,h1,_⟩
  ·exact h1
  ·exact h1.elim
 have hlt:E1.ι i<W'.heap.size:=hH.core.inW i hU1;have hstill:∀b,b<W.heap.size→E1.L b=E.L b:=fun b hb=>hv.still b hb fun id h=>h.elim
 have hold:∀b,b<W.heap.size→W'.heap[b]? =W.heap[b]? :=fun b hb=>hv.foreign b hb fun id h=>h.elim
 have hlim:∀b,E.L b≤E1.L b:=hv.lim
 let E':Env:=⟨fun id=>if id=nid then E1.ι i else E.ι id,fun id=>if id=nid then k else E.sz id,fun id=>E.U id∨id=nid,E1.L⟩
 have hι:∀id,E.U id→E'.ι id=E.ι id:=fun id hid=>by
  show(if id=nid then _ else _)=_
  rw[if_neg];rintro rfl;exact hnid hid
 have hs:∀id,E.U id→E'.sz id=E.sz id:=fun id hid=>by
  show(if id=nid then _ else _)=_
  rw[if_neg];rintro rfl;exact hnid hid
 have hιn:E'.ι nid=E1.ι i:=by show(if nid=nid then _ else _)=_;rw[if_pos rfl]
 have hsn:E'.sz nid=k:=by show(if nid=nid then _ else _)=_;rw[if_pos rfl]
 have hEvo:Evo E W E' W':=by
  refine⟨hv.os,hv.tape,hv.output,hv.size,fun id h=> .inl h,fun id hid=>⟨hι id hid,hs id hid⟩,hlim,hv.prot,fun b hb _=>hold b hb,hv.sizes,fun b hb _=>hstill b hb,fun id h1 h2=> ?_,hv.loops⟩
  rcases h2 with h2|h2
  ·exact absurd h2 h1
  ·subst h2;rw[hιn];exact .inl hnew
 have hrow:∀{x u},RV E1 W' x u→NoId x→RV E' W' x u:=fun hx hn=>RV.fromPlain (E:=E') (L:=E1.L) (fun _=>Nat.le_refl _) (hx.toPlain (L:=E1.L) (fun _=>Nat.le_refl _) hn)
 have holdne:∀id,E.U id→E'.ι id≠E1.ι i:=fun id hid heq=>by
  rw[hι id hid]at heq;have:=hG.inW id hid;omega
 refine⟨v,he,E',hEvo,⟨hH.core.lim,fun id hid=> ?_,fun id b hb=> ?_⟩,?_,fun id h=>h⟩
 ·rcases hid with hid|hid
  ·rw[hι id hid];exact Nat.lt_of_lt_of_le (hG.inW id hid) hv.size
  ·subst hid;rw[hιn];exact hlt
 ·simp only[upd]at hb
  by_cases hid:id=nid
  ·subst hid
   rw[if_pos rfl]at hb;injection hb with hb
   subst hb;refine⟨.inr rfl,hsn,hlen,⟨cur,by rw[hιn];exact hcur,hle,fun i' j row x h1 h2=> ?_⟩,fun _=>⟨by rw[hιn];exact hL0,fun id' b' hne hg' heq=> ?_⟩,fun _=>⟨by rw[hιn];show E1.L _≤_;rw[hL0];exact Nat.zero_le _,fun id' b' hne hg' heq=> ?_⟩⟩
   ·obtain⟨u,h3,h4⟩:=hcells i' j row x h1 h2
    exact⟨u,h3,hrow h4 (hrows row (List.mem_of_getElem? h1) x (List.mem_of_getElem? h2))⟩
   ·rw[hιn]at heq
    simp only[upd,if_neg hne]at hg';exact holdne id' (hG.ok id' b' hg').1 heq
   ·rw[hιn]at heq
    simp only[upd,if_neg hne]at hg';exact absurd heq (holdne id' (hG.ok id' b' hg').1)
  ·rw[if_neg hid]at hb
   obtain⟨hU,hok⟩:=hG.ok id b hb;have hlt2:=hG.inW id hU;refine⟨.inl hU,hok.mono hEvo hU (hold _ hlt2) (hstill _ hlt2) fun id' b' hne hg' heq=> ?_⟩
   simp only[upd]at hg';by_cases hid':id'=nid
   ·subst hid'
    rw[hιn]at heq;omega
   ·rw[if_neg hid']at hg'
    exact⟨b',hg',by rw[←heq,hι id' (hG.ok id' b' hg').1],rfl,fun h=>h⟩
 ·rcases(own_inv hrv).2 with⟨cap,rfl,hlc,cur2,e2,f2,h4,h5⟩|⟨hl0,a,rfl⟩
  ·have:=RV.own (E:=E') (W:=W') nid 0 rows.length cap (.inr rfl) hlc ⟨cur2,e2,f2,by rw[hιn];exact h4,by rw[hsn,←hsz];exact h5⟩
   rw[hιn,hsn]at this;simpa[hsz]using this
  ·rw[hl0]
   exact .own0 _ _ _ (.inr rfl)
theorem OCall.run{P:Program}{n:FuncId}{args:List AV}{e:TypeId}{k:Nat}{rows:List (List AV)}(h:OCall P n args e k rows){H:Heap}:
  ACall P n args H fun r H'=>r= .own H.next 0 rows.length∧H'=⟨H.next+1,upd H.get [(H.next,some (.cells e k rows true true))]⟩:=
 ⟨h.1,fun E W vs hH hr=>(h.2 E W H.get H.next vs hH.core (fun hU=>Nat.lt_irrefl _ (hH.next _ hU)) hr).mono fun x W' ⟨v,he,E',h1,h2,h3,h4⟩=>
   ⟨v,he,E',_,_,h1,⟨fun id hid=>by
     rcases h4 id hid with h5|h5
     ·exact Nat.lt_succ_of_lt (hH.next id h5)
     ·subst h5;exact Nat.lt_succ_self _,h2⟩,h3,rfl,rfl⟩⟩
end Go.AL
namespace Go.AL
open Go.RowKit
structure AS where
 env:List (Nat×Bool×AV)
 H:Heap
 nt:Nat
def impB(a b:Bool):Bool:= !a||b
def AS.get(σ:AS)(c:Bool):Operand→Option AV
 | .tmp t=>match lk σ.env t with
   |some (c',a)=>if impB c c'=true then some a else none
   |none=>none
 | .const v=>ofV v
 | .global g=>some (.c (.pointer (some ⟨g,0,none⟩)))
 | .func f=>some (.fn (.func f) [] [])
def AS.put(σ:AS)(dst:Option Tmp)(c:Bool)(a:AV):AS:=
 match dst with
 |none=>σ
 |some d=>{σ with env:=(d,c,a)::σ.env}
def Heap.app(H:Heap)(wr:List (Nat×Option Blk)):Heap:={next:=if wr.isEmpty then H.next else H.next+1,get:=upd H.get wr}
def markD(D:Nat):Deferred:={target:= .collected D,args:= #[]}
theorem markD_inj{D D':Nat}(h:markD D=markD D'):D=D':=by unfold markD at h;injection h with h;injection h
def isMark(d:Deferred):Bool:=match d.target with
 | .collected _=>true
 |_=>false
def oldD(ds:List Deferred):List Deferred:=ds.filter fun d=> !isMark d
theorem mark_in{ds:List Deferred}{Ds:List Nat}(h:ds.filter isMark=Ds.map markD){D:Nat}(hD:markD D∈ds):D∈Ds:=by
 have h1:markD D∈ds.filter isMark:=List.mem_filter.2 ⟨hD,rfl⟩;rw[h]at h1;obtain⟨D',h2,h3⟩:=List.mem_map.1 h1;rw[←markD_inj h3];exact h2
theorem mark_of{ds:List Deferred}{Ds:List Nat}(h:ds.filter isMark=Ds.map markD){D:Nat}(hD:D∈Ds):markD D∈ds:=by
 have h1:markD D∈Ds.map markD:=List.mem_map_of_mem hD;rw[←h]at h1;exact(List.mem_filter.1 h1).1
def Marks(E:Env)(W:World)(ds:List Deferred):Prop:=∃Ds:List Nat,ds.filter isMark=Ds.map markD∧Ds.Nodup∧∀D∈Ds,W.heap[D]? =some (.deferred (some []))∧∀id,E.U id→E.ι id≠D
theorem Marks.nil(E:Env)(W:World):Marks E W []:=⟨[],rfl,List.nodup_nil,fun D h=>by cases h⟩
theorem Marks.push{E:Env}{W:World}{ds:List Deferred}{d:Deferred}(h:Marks E W ds)(hd:isMark d=false):Marks E W (d::ds):=by
 obtain⟨Ds,h1,h2,h3⟩:=h;exact⟨Ds,by rw[List.filter_cons_of_neg (by simp[hd])];exact h1,h2,h3⟩
theorem Marks.mono{E E':Env}{W W':World}{ds:List Deferred}(h:Marks E W ds)(hv:Evo E W E' W'):Marks E' W' ds:=by
 obtain⟨Ds,h1,h2,h3⟩:=h;refine⟨Ds,h1,h2,fun D hD=> ?_⟩
 obtain⟨h4,h5⟩:=h3 D hD;have hlt:D<W.heap.size:=(Array.getElem?_eq_some_iff.1 h4).1;refine⟨(hv.foreign D hlt h5).trans h4,fun id hid=> ?_⟩
 by_cases hU:E.U id
 ·rw[(hv.ren id hU).1];exact h5 id hU
 ·rcases hv.fresh id hU hid with h6|⟨id0,h6,h7⟩
  ·omega
  ·rw[←h7];exact h5 id0 h6
def fen(ro:Option Nat):Fence:={Fence.wide with round:=ro}
def RoOK(ro:Option Nat)(W:World):Prop:=∀l,ro=some l→∃r,W.heap[l]? =some (.loop r)
theorem RoOK.mono{ro:Option Nat}{E E':Env}{W W':World}(h:RoOK ro W)(hv:Evo E W E' W'):RoOK ro W':=fun l hl=>by
 obtain⟨r,hr⟩:=h l hl;obtain⟨r',h1,_⟩:=hv.loops l r hr;exact⟨r',h1⟩
theorem fen_calls{ro:Option Nat}{n:Nat}{P:Program}{f:FuncId}{args:Array Value}{w:World}{R:Ending→World→Prop}(h:Calls P f args w R):CallsIn (fen ro) n P f args w R:=
 (callsIn_wide (n:=n)).2 h
theorem fen_depth{ro:Option Nat}{n:Nat}:((fen ro).depth.isSome=true→1≤n):=fun h=>by simp[fen,Fence.wide]at h
structure Went(E:Env)(W:World)(act:Act)(E':Env)(W':World)(act':Act):Prop where
 evo:Evo E W E' W'
 new:∀D,markD D∈act'.defers→markD D∈act.defers∨W.heap.size≤D
 old:oldD act'.defers=oldD act.defers
theorem Went.of{E E':Env}{W W':World}{act act':Act}(hv:Evo E W E' W')(hd:act'.defers=act.defers):Went E W act E' W' act':=⟨hv,(fun D h=> .inl (hd▸h)),by rw[hd]⟩
theorem Went.refl(E:Env)(W:World)(act:Act):Went E W act E W act:= .of (Evo.refl E W) rfl
theorem Went.trans{E E' E'':Env}{W W' W'':World}{act act' act'':Act}(h:Went E W act E' W' act')(k:Went E' W' act' E'' W'' act''):Went E W act E'' W'' act'':=
 ⟨h.evo.trans k.evo,fun D hD=>by
   rcases k.new D hD with h1|h1
   ·exact h.new D h1
   ·exact .inr (Nat.le_trans h.evo.size h1),k.old.trans h.old⟩
theorem Act.put_defers(a:Act)(dst:Option Tmp)(v:Value):(a.put dst v).defers=a.defers:=by unfold Act.put;split<;>rfl
structure Rel(E:Env)(W:World)(σ:AS)(act:Act):Prop where
 defers:Marks E W act.defers
 size:act.tmps.size=σ.nt
 env:∀t c a,lk σ.env t=some (c,a)→∃v,act.tmps[t]? =some v∧(c=true→RV E W a v)∧(c=false→v=undef)
 heap:RH E W σ.H
theorem Rel.get{E:Env}{W:World}{σ:AS}{act:Act}(h:Rel E W σ act){c:Bool}(hc:c=true){x:Operand}{a:AV}(hx:σ.get c x=some a):RV E W a (act.eval x):=by
 subst hc;cases x with
 |tmp t=>
  simp only[AS.get]at hx;split at hx
  ·rename_i c' a' hlk
   split at hx
   ·rename_i him
    injection hx with hx
    subst hx;obtain⟨v,h1,h2⟩:=h.env t c' a' hlk;simp only[Act.eval];rw[show act.tmps.getD t undef=v by simp[h1]]
    exact h2.1 (by simpa[impB]using him)
   ·cases hx
  ·cases hx
 |const v=>exact RV.ofV hx
 |global g=>injection hx with hx;subst hx;exact .c _ rfl
 |func f=>injection hx with hx;subst hx;exact .fn _ [] [] #[] #[] rfl rfl (fun i x v h=>by simp at h) (fun i x v h=>by simp at h)
def dstIn(n:Nat)(o:Oper):Bool:=
 match o.dst with
 |none=>true
 |some d=>d<n
theorem Rel.put{E:Env}{W:World}{σ:AS}{act:Act}(h:Rel E W σ act){dst:Option Tmp}(hd:match dst with|none=>True|some d=>d<σ.nt){c:Bool}{a:AV}{v:Value}(r:c=true→RV E W a v)(r0:c=false→v=undef):Rel E W (σ.put dst c a) (act.put dst v):=by
 cases dst with
 |none=>exact h
 |some d=>
  refine⟨by simpa[Act.put]using h.defers,by simp[Act.put,AS.put,h.size],fun t c' b hb=> ?_,h.heap⟩
  simp only[AS.put,lk]at hb;split at hb
  ·rename_i ht
   subst ht;simp only[Option.some.injEq,Prod.mk.injEq]at hb;obtain⟨rfl,rfl⟩:=hb;refine⟨v,?_,r,r0⟩;simp only at hd;simp[Act.put,h.size,hd]
  ·rename_i ht
   obtain⟨u,h1,h2⟩:=h.env t c' b hb;exact⟨u,by simp only[Act.put];rw[Array.getElem?_setIfInBounds_ne (Ne.symm ht)];exact h1,h2⟩
theorem Rel.mono{E E':Env}{W W':World}{σ:AS}{act:Act}(h:Rel E W σ act)(hv:Evo E W E' W'){H':Heap}(hH:RH E' W' H'):Rel E' W' {σ with H:=H'} act:=
 ⟨h.defers.mono hv,h.size,fun t c a ha=>let ⟨v,h1,h2⟩:=h.env t c a ha;⟨v,h1,fun hc=>(h2.1 hc).mono hv,h2.2⟩,hH⟩
def Split(b:Bool)(X Y:Prop):Prop:=(b=true→X)∧(b=false→Y)
def wantB(b want:Bool):Bool:=
 match want with
 |true=>b
 |false=> !b
def gval(ops:List Oper)(j:Nat)(env:List (Nat×Bool×AV)):Option (Bool×AV):=
 match ops[j]? with
 |some o=>match o.dst with
  |some t=>lk env t
  |none=>none
 |none=>none
def parts:Op→Bool
 | .indexAddr _ _ (.tmp _)=>true
 | .index _ _ (.tmp _)=>true
 | .slice .. =>true
 |_=>false
universe u v
structure Tag{α:Sort u}(a:α):Type where
def hold{α:Sort u}(a:α)(_:Tag a):α:=a
def bindK{α:Type}(x:Option α)(K:α→Prop):Prop:=
 match x with
 |some a=>K a
 |none=>False
def altK{α:Type}(x:Option α)(K:α→Prop)(F:Prop):Prop:=
 match x with
 |some a=>K a
 |none=>F
theorem bindK_some{α:Type}{a:α}{K:α→Prop}:bindK (some a) K=K a:=rfl
theorem bindK_out{α:Type}{x:Option α}{K:α→Prop}(h:bindK x K):∃a,x=some a∧K a:=by
 cases x with
 |none=>exact h.elim
 |some a=>exact⟨a,rfl,h⟩
def asB:Option AV→Option Bool
 |some (.c (.bool b))=>some b
 |_=>none
theorem asB_out{x:Option AV}{b:Bool}(h:asB x=some b):x=some (.c (.bool b)):=by
 unfold asB at h;split at h
 ·injection h with h;subst h;rfl
 ·cases h
def calleeA:Option AV→Option (List AV)→Option (FuncId×List AV)
 |some (.fn (.func n) first cap),some as=>some (n,first++as++cap)
 |_,_=>none
theorem calleeA_out{x:Option AV}{y:Option (List AV)}{n:FuncId}{args:List AV}(h:calleeA x y=some (n,args)):∃first cap as,x=some (.fn (.func n) first cap)∧y=some as∧args=first++as++cap:=by
 unfold calleeA at h;split at h
 ·simp only[Option.some.injEq,Prod.mk.injEq]at h
  obtain⟨rfl,rfl⟩:=h;exact⟨_,_,_,rfl,rfl,rfl⟩
 ·cases h
def pairB:Option Bool→Option Bool→Option (Bool×Bool)
 |some p,some q=>some (p,q)
 |_,_=>none
theorem pairB_out{x y:Option Bool}{p q:Bool}(h:pairB x y=some (p,q)):x=some p∧y=some q:=by
 unfold pairB at h;split at h
 ·simp only[Option.some.injEq,Prod.mk.injEq]at h
  obtain⟨rfl,rfl⟩:=h;exact⟨rfl,rfl⟩
 ·cases h
def resP:Option Res→Option AV
 |some (a,[],_)=>some a
 |_=>none
theorem resP_out{x:Option Res}{a:AV}(h:resP x=some a):∃rd,x=some (a,[],rd):=by
 unfold resP at h;split at h
 ·injection h with h;subst h;exact⟨_,rfl⟩
 ·cases h
def gcond(x:Option (Bool×AV))(want:Bool):Option Bool:=
 match x with
 |some (c,.c (.bool b))=>some (c&&wantB b want)
 |_=>none
theorem gcond_out{x:Option (Bool×AV)}{want c0:Bool}(h:gcond x want=some c0):∃c b,x=some (c,.c (.bool b))∧c0=(c&&wantB b want):=by
 unfold gcond at h;split at h
 ·injection h with h;exact⟨_,_,rfl,h.symm⟩
 ·cases h
def AW(P:Program)(c:Code)(σ:AS)(Q:Exit→AS→Prop):Prop:=
 ∀(ro:Option Nat) (E:Env) (W:World) (act:Act),RoOK ro W→Rel E W σ act→c.wpIn (fen ro) 3 P (fun e act' W'=>∃E' σ',Went E W act E' W' act'∧Rel E' W' σ' act'∧σ'.nt=σ.nt∧Q e σ') act W
def setB(H:Heap)(id:Nat)(b:Option Blk):Heap:=⟨H.next,upd H.get [(id,b)]⟩
def bindPs:List Tmp→List AV→List (Nat×Bool×AV)→List (Nat×Bool×AV)
 |p::ps,a::as,env=>bindPs ps as ((p,true,a)::env)
 |_,_,env=>env
def endBodyA(id:Nat)(env:List (Nat×Bool×AV))(nt:Nat)(ps:List Tmp)(A B:Code)(K:Bool→Heap→Prop):Exit→AS→Prop
 | .normal,σ=>∃env nt ps A B,σ.H.get id=some (.rcd env nt ps A B .busy none)∧K true (setB σ.H id (some (.rcd env nt ps A B .ready none)))
 | .ret,σ=>∃env nt ps A B,σ.H.get id=some (.rcd env nt ps A B .busy none)∧K false (setB σ.H id (some (.rcd env nt ps A B .done (some .ret))))
 | .exit i,σ=>∃env nt ps A B,σ.H.get id=some (.rcd env nt ps A B .busy none)∧K false (setB σ.H id (some (.rcd env nt ps A B .done (some (.exit i)))))
 |_,_=>False
def endAsA(P:Program)(id:Nat)(env:List (Nat×Bool×AV))(nt:Nat)(ps:List Tmp)(A B:Code)(K:Bool→Heap→Prop):Exit→AS→Prop
 | .normal,σ=>∃env nt ps A' B',σ.H.get id=some (.rcd env nt ps A' B' .ready none)∧AW P B ⟨σ.env,setB σ.H id (some (.rcd env nt ps A' B' .busy none)),σ.nt⟩ (hold (endBodyA id env nt ps A' B' K) ⟨⟩)
 |_,_=>False
def YieldX(P:Program)(σ:AS)(f:Option AV)(as:Option (List AV))(K:Bool→Heap→Prop):Prop:=
 ∃(id:Nat) (args:List AV) (env:List (Nat×Bool×AV)) (nt:Nat) (ps:List Tmp) (A B:Code),f=some (.yld id)∧as=some args∧σ.H.get id=some (.rcd env nt ps A B .ready none)∧args.length=ps.length∧ps.all (fun p=>decide (p<nt))=true∧
  AW P A ⟨bindPs ps args env,σ.H,nt⟩ (hold (endAsA P id env nt ps A B K) ⟨⟩)
def NextX(H:Heap)(x:Option AV)(K:AV→Heap→Prop):Prop:=
 ∃(id m n:Nat) (seen:List Nat) (es:List (Value×AV)),x=some (.ptr id 0 0)∧H.get id=some (.iter m n seen)∧H.get m=some (.map es)∧es.length=n∧(∀p∈es,anyKeyB p.1=true)∧
  ((∀i,i<n→i∈seen)→K (.tup [.c (.bool false)]) H)∧
  ∀i k a,i<n→i∉seen→es[i]? =some (k,a)→K (.tup [.c (.bool true),avK k,a]) (setB H id (some (.iter m n (seen++[i]))))
section
variable (P : Program)
def aopx(o:Oper)(σ:AS)(K:AS→Prop):Prop:=
 match o.op with
 | .call ⟨.value f,as,_⟩=>bindK (calleeA (σ.get true f) (getsA (σ.get true) as.toList)) (hold (fun p=>ACall P p.1 p.2 σ.H (hold (fun r H'=>K (({σ with H:=H'}:AS).put o.dst true r)) ⟨⟩)) ⟨⟩)∨
     YieldX P σ (σ.get true f) (getsA (σ.get true) as.toList) (hold (fun b H'=>K (({σ with H:=H'}:AS).put o.dst true (.c (.bool b)))) ⟨⟩)
 | .pick b x y=>bindK (asB (σ.get true b)) (hold (fun b=>altK (pairB (asB (σ.get b x)) (asB (σ.get (!b) y))) (hold (fun pq=>K (σ.put o.dst true (.c (.bool (cond b pq.1 pq.2))))) ⟨⟩)
     (hold (Split b (hold (bindK (σ.get true x) (hold (fun a=>K (σ.put o.dst true a)) ⟨⟩)) ⟨⟩) (hold (bindK (σ.get true y) (hold (fun a=>K (σ.put o.dst true a)) ⟨⟩)) ⟨⟩)) ⟨⟩)) ⟨⟩)
 | .next x false=>NextX σ.H (σ.get true x) (hold (fun r H'=>K (({σ with H:=H'}:AS).put o.dst true r)) ⟨⟩)
 |_=>bindK (res P (σ.get true) σ.H.get σ.H.next o) (hold (fun r=>K (({σ with H:=σ.H.app r.2.1}:AS).put o.dst true r.1)) ⟨⟩)
def CallD(c:Bool)(n:FuncId)(args:List AV)(K:AV→Prop):Prop:=∃r,(c=true→(∀a∈args,NoId a)∧PCall P n args (·=r))∧K r
def aopg0(o:Oper)(σ:AS)(c:Bool)(K:AS→Prop):Prop:=
 match o.op with
 | .call ⟨.value f,as,_⟩=>altK (calleeA (σ.get c f) (getsA (σ.get c) as.toList)) (hold (fun p=>CallD P c p.1 p.2 (hold (fun r=>K (σ.put o.dst c r)) ⟨⟩)) ⟨⟩) (hold (Split c (hold (aopx P o σ K) ⟨⟩) (hold (K (σ.put o.dst true (.c undef))) ⟨⟩)) ⟨⟩)
 | .pick b x y=>altK (asB (σ.get c b)) (hold (fun b=>altK (pairB (asB (σ.get (c&&b) x)) (asB (σ.get (c&& !b) y))) (hold (fun pq=>K (σ.put o.dst c (.c (.bool (cond b pq.1 pq.2))))) ⟨⟩)
     (hold (Split c (hold (aopx P o σ K) ⟨⟩) (hold (K (σ.put o.dst true (.c undef))) ⟨⟩)) ⟨⟩)) ⟨⟩) (hold (Split c (hold (aopx P o σ K) ⟨⟩) (hold (K (σ.put o.dst true (.c undef))) ⟨⟩)) ⟨⟩)
 |_=>altK (if parts o.op=true then none else resP (res P (σ.get c) σ.H.get σ.H.next o)) (hold (fun a=>K (σ.put o.dst c a)) ⟨⟩) (hold (Split c (hold (aopx P o σ K) ⟨⟩) (hold (K (σ.put o.dst true (.c undef))) ⟨⟩)) ⟨⟩)
def aopg(o:Oper)(σ:AS)(c:Bool)(K:AS→Prop):Prop:=((c=false∧K (σ.put o.dst false (.c (.bool false))))∨(c=true∧aopx P o σ K))∨aopg0 P o σ c K
def aopc(o:Oper)(σ:AS)(c:Bool)(K:AS→Prop):Prop:=
 match c with
 |true=>aopx P o σ K
 |false=>K (σ.put o.dst true (.c undef))
def aop(ic:Bool)(ops:Array Oper)(o:Oper)(σ:AS)(K:AS→Prop):Prop:=
 match o.guard with
 |none=>aopx P o σ K
 |some (j,want)=>bindK (gcond (gval ops.toList j σ.env) want) (hold (fun c=>match ic with
  |true=>aopg P o σ c K
  |false=>aopc P o σ c K) ⟨⟩)
def aops(ic:Bool)(ops:Array Oper):List Oper→AS→(AS→Prop)→Prop
 |[],σ,K=>K σ
 |o::r,σ,K=>aop P ic ops o σ (hold (fun σ'=>aops ic ops r σ' K) ⟨⟩)
end
theorem run_callFunc{P:Program}{n:FuncId}(h:enterable P n=true)(args:Array Value)(w:World):(callFunc n args).run P w= .ok (.enter n args) w:=by
 unfold enterable at h;split at h
 ·rename_i fn hf
  simp only[Bool.and_eq_true,Bool.not_eq_true']at h;unfold callFunc;rw[Sem.run_bind,run_program];simp only[Result.andThen_ok,hf,h.1,h.2,Bool.false_eq_true,if_false,Sem.run_pure]
 ·cases h
theorem RC.unused{E:Env}{W:World}{G:Nat→Option Blk}(hG:RC E W G){nid:Nat}(hn:¬E.U nid):G nid=none:=by
 cases h:G nid with
 |none=>rfl
 |some b=>exact absurd (hG.ok nid b h).1 hn
theorem AS.put_nt(σ:AS)(dst:Option Tmp)(c:Bool)(a:AV):(σ.put dst c a).nt=σ.nt:=by unfold AS.put;split<;>rfl
theorem dstIn_ok{n:Nat}{o:Oper}(hd:dstIn n o=true):match o.dst with|none=>True|some d=>d<n:=by
 unfold dstIn at hd;split at hd<;>simp_all
theorem res_noDefer{P:Program}{g:Operand→Option AV}{G:Nat→Option Blk}{nid:Nat}{o:Oper}{x:Res}(h:res P g G nid o=some x):∀c,o.op≠ .defer c:=fun c hc=>by
 unfold res at h;rw[hc]at h;simp at h
theorem res_next{P:Program}{g:Operand→Option AV}{G:Nat→Option Blk}{nid:Nat}{o:Oper}{x:Operand}{s:Bool}(h:o.op= .next x s):res P g G nid o=none:=by
 unfold res;rw[h]
theorem res_wp{P:Program}{o:Oper}{σ:AS}{c:Bool}(hc:c=true){a:AV}{wr:List (Nat×Option Blk)}{rd:List Nat}(hres:res P (σ.get c) σ.H.get σ.H.next o=some (a,wr,rd))(hd:dstIn σ.nt o=true){E:Env}{W:World}{act:Act}(hr:Rel E W σ act)
  {next:Act→World→Prop} {Q:Exit→Act→World→Prop} {ro:Option Nat} (hn:∀E' W' v,Evo E W E' W'→Rel E' W' (({σ with H:=σ.H.app wr}:AS).put o.dst c a) (act.put o.dst v)→next (act.put o.dst v) W'):o.wpIn (fen ro) 3 P act W next Q:=by
 have hok:=res_ok hres;have hnew:¬E.U σ.H.next:=fun hU=>Nat.lt_irrefl _ (hr.heap.next _ hU)
 obtain⟨W',v,E',hrun,hv,hG,hrv,hU⟩:=hok E W act.eval hr.heap.core hnew (fun x b hb=>hr.get hc hb)
 have hRH:RH E' W' (σ.H.app wr):=⟨fun id hid=>by
  by_cases hw:wr=[]
  ·subst hw
   rcases hU id hid with h1|⟨h1,h2⟩
   ·simpa[Heap.app]using hr.heap.next id h1
   ·simp only[upd]at h2
    rw[hr.heap.core.unused hnew]at h2;cases h2
  ·have:wr.isEmpty=false:=by simpa using hw
   simp only[Heap.app,this];rcases hU id hid with h1|⟨h1,_⟩
   ·have:=hr.heap.next id h1;simp;omega
   ·subst h1;simp,hG⟩
 have hrel:=(hr.mono hv hRH).put (dst:=o.dst) (dstIn_ok hd) (c:=c) (fun _=>hrv) (fun h=>by rw[hc]at h;cases h)
 have hres2:=hn E' W' v hv hrel;refine⟨fun _ _=>trivial,?_⟩
 rw[Oper.semAt_eq _ _ _ (res_noDefer hres)];rcases hrun with h1|⟨h1,h2⟩
 ·rw[h1];exact hres2
 ·rw[h1];subst h2;exact hres2
theorem call_wp{P:Program}{o:Oper}{σ:AS}{c:Bool}(hc:c=true){f:Operand}{as:Array Operand}{ts:Array TypeId}(hop:o.op= .call ⟨.value f,as,ts⟩){n:FuncId}{first cap as':List AV}(hf:σ.get c f=some (.fn (.func n) first cap))
  (has:getsA (σ.get c) as.toList=some as') {Q0:AV→Heap→Prop} (hcl:ACall P n (first++as'++cap) σ.H Q0) (hd:dstIn σ.nt o=true) {E:Env} {W:World} {act:Act} (hr:Rel E W σ act) {next:Act→World→Prop} {Q:Exit→Act→World→Prop} {ro:Option Nat}
  (hn:∀E' W' v r H',Evo E W E' W'→Q0 r H'→Rel E' W' (({σ with H:=H'}:AS).put o.dst c r) (act.put o.dst v)→next (act.put o.dst v) W'):o.wpIn (fen ro) 3 P act W next Q:=by
 obtain⟨hent,hcall⟩:=hcl;have h1:=hr.get hc hf;have h2:=getsA_ok (E:=E) (W:=W) (ρ:=act.eval) (fun x b hb=>hr.get hc hb) _ _ has
 generalize hfv:act.eval f=fv at h1;cases h1 with
 |fn _ _ _ vf vc hl hl2 h3 h4=>
 have hargs:RVs E W (first++as'++cap) (vf.toList++as.toList.map act.eval++vc.toList):=by
  refine(RVs.append ?_ h2).append ?_
  ·exact⟨by simpa using hl,fun i x v hx hv=>h3 i x v hx (by simpa using hv)⟩
  ·exact⟨by simpa using hl2,fun i x v hx hv=>h4 i x v hx (by simpa using hv)⟩
 have hcc:=hcall E W _ hr.heap hargs
 have hrun:(execOp act.eval o).run P W= .ok (.enter n (vf.toList++as.toList.map act.eval++vc.toList).toArray) W:=by
  simp only[execOp,hop,resolve,hfv,Deferred.ofValue,Sem.run_bind,Sem.run_pure,Result.andThen_ok,invoke];rw[run_callFunc hent];congr 2;apply Array.ext';simp
 refine⟨fun _ _=>trivial,?_⟩
 rw[Oper.semAt_eq _ _ _ (fun c h=>by rw[hop]at h;cases h),hrun]
 refine⟨fen_depth,fen_calls (hcc.mono fun e W' ⟨v,he,E',r,H',hv,hH,hrv,hq⟩=> ?_)⟩
 subst he;exact hn E' W' v r H' hv hq ((hr.mono hv hH).put (dst:=o.dst) (dstIn_ok hd) (c:=c) (fun _=>hrv) (fun h=>by rw[hc]at h;cases h))
theorem pick_wp{P:Program}{o:Oper}{σ:AS}{c:Bool}(hc:c=true){x0 x y:Operand}(hop:o.op= .pick x0 x y){b:Bool}(hb:σ.get c x0=some (.c (.bool b))){a:AV}(hx:b=true→∃c',c'=true∧σ.get c' x=some a)(hy:b=false→∃c',c'=true∧σ.get c' y=some a)
  (hd:dstIn σ.nt o=true) {E:Env} {W:World} {act:Act} (hr:Rel E W σ act) {next:Act→World→Prop} {Q:Exit→Act→World→Prop} {ro:Option Nat} (hn:∀v,Rel E W (σ.put o.dst c a) (act.put o.dst v)→next (act.put o.dst v) W):o.wpIn (fen ro) 3 P act W next Q:=by
 have h1:=hr.get hc hb;generalize hv:act.eval x0=vb at h1;cases h1;refine⟨fun _ _=>trivial,?_⟩
 rw[Oper.semAt_eq _ _ _ (fun c h=>by rw[hop]at h;cases h)]
 cases b
 ·obtain⟨c',h2,h3⟩:=hy rfl
  have hrun:(execOp act.eval o).run P W= .ok (.value (act.eval y)) W:=by simp[execOp,hop,hv,asBool]
  rw[hrun];exact hn _ (hr.put (dstIn_ok hd) (fun _=>hr.get h2 h3) (fun h=>by rw[hc]at h;cases h))
 ·obtain⟨c',h2,h3⟩:=hx rfl
  have hrun:(execOp act.eval o).run P W= .ok (.value (act.eval x)) W:=by simp[execOp,hop,hv,asBool]
  rw[hrun];exact hn _ (hr.put (dstIn_ok hd) (fun _=>hr.get h2 h3) (fun h=>by rw[hc]at h;cases h))
theorem lk_bindPs:∀(ps:List Tmp) (as:List AV) (env:List (Nat×Bool×AV)) {E:Env} {W:World} (vs:List Value) (tmps:Array Value),RVs E W as vs→as.length=ps.length→ps.all (fun p=>decide (p<tmps.size))=true→
  (∀t c a,lk env t=some (c,a)→∃v,tmps[t]? =some v∧(c=true→RV E W a v)∧(c=false→v=undef))→
  ((ps.zip vs).foldl (fun t (p:Tmp×Value)=>t.setIfInBounds p.1 p.2) tmps).size=tmps.size∧
  ∀t c a,lk (bindPs ps as env) t=some (c,a)→∃v,((ps.zip vs).foldl (fun t (p:Tmp×Value)=>t.setIfInBounds p.1 p.2) tmps)[t]? =some v∧(c=true→RV E W a v)∧(c=false→v=undef)
 |[],[],env,E,W,vs,tmps,_,_,_,h=>by
  simp only[List.zip_nil_left,List.foldl_nil];exact⟨trivial,h⟩
 |[],_::_,_,_,_,_,_,_,hl,_,_=>by simp at hl
 |_::_,[],_,_,_,_,_,_,hl,_,_=>by simp at hl
 |p::ps,a::as,env,E,W,[],tmps,hr,_,_,h=>by have:=hr.1;simp at this
 |p::ps,a::as,env,E,W,v::vs,tmps,hr,hl,hp,h=>by
  simp only[List.all_cons,Bool.and_eq_true,decide_eq_true_eq]at hp;have hr0:=hr.2 0 a v rfl rfl;have hrs:RVs E W as vs:=⟨by have:=hr.1;simpa using this,fun i x u hx hu=>hr.2 (i+1) x u (by simpa using hx) (by simpa using hu)⟩
  have hs:(tmps.setIfInBounds p v).size=tmps.size:=by simp
  have ih:=lk_bindPs ps as ((p,true,a)::env) vs (tmps.setIfInBounds p v) hrs (by simpa using hl) (by rw[hs];exact hp.2) (fun t c b hb=>by
   simp only[lk]at hb;split at hb
   ·rename_i ht
    subst ht;simp only[Option.some.injEq,Prod.mk.injEq]at hb;obtain⟨rfl,rfl⟩:=hb;exact⟨v,by simp[hp.1],fun _=>hr0,fun h=>by cases h⟩
   ·rename_i ht
    obtain⟨u,h1,h2⟩:=h t c b hb
    exact⟨u,by rw[Array.getElem?_setIfInBounds_ne (Ne.symm ht)];exact h1,h2⟩)
  simp only[List.zip_cons_cons,List.foldl_cons,bindPs];rw[hs]at ih;exact ih
theorem rec_set{E:Env}{W:World}{H:Heap}(hH:RH E W H){id:Nat}{env:List (Nat×Bool×AV)}{nt:Nat}{ps:List Tmp}{A B:Code}{st:LoopState}{pe:Option Code}(hg:H.get id=some (.rcd env nt ps A B st pe)):
  ∃r:Loop,W.heap[E.ι id]? =some (.loop r)∧r.state=st∧r.pending=pe∧r.params=ps.toArray∧r.assign=A∧r.body=B∧r.tmps.size=nt∧(∀t c a,lk env t=some (c,a)→∃v,r.tmps[t]? =some v∧(c=true→RV E W a v)∧(c=false→v=undef))∧
   ∀st' pe',Evo E W E (W.putObj (E.ι id) (.loop {r with state:=st',pending:=pe'}))∧RH E (W.putObj (E.ι id) (.loop {r with state:=st',pending:=pe'})) (setB H id (some (.rcd env nt ps A B st' pe'))):=by
 obtain⟨hU,⟨fn,tmps,D,h1,h2,h3⟩,hL,hone⟩:=hH.core.ok id _ hg;have hlt:=hH.core.inW id hU;refine⟨_,h1,rfl,rfl,rfl,rfl,rfl,h2,h3,fun st' pe'=> ?_⟩
 obtain⟨o,ho⟩:∃o:Obj,o= .loop {({state:=st,pending:=pe,fn,tmps,params:=ps.toArray,assign:=A,body:=B,defers:=D}:Loop)with state:=st',pending:=pe'}:=⟨_,rfl⟩
 rw[←ho];have hoth:∀b,b≠E.ι id→(W.putObj (E.ι id) o).heap[b]? =W.heap[b]? :=fun b hb=>World.putObj_heap_other hb
 have hsame:(W.putObj (E.ι id) o).heap[E.ι id]? =some o:=World.putObj_heap_same hlt
 have hv:Evo E W E (W.putObj (E.ι id) o):=by
  refine⟨rfl,rfl,rfl,by simp,fun _ h=>h,fun _ _=>⟨rfl,rfl⟩,fun _=>Nat.le_refl _,fun b k hk=> ?_,fun b _ hf=>hoth b fun e=>hf id hU e.symm,fun b cur e f hc=> ?_,fun _ _ _=>rfl,fun id h h'=>absurd h' h,fun b r hr=> ?_⟩
  ·have hne:b≠E.ι id:=fun e=>by subst e;omega
   unfold World.cell?;simp only[hoth b hne]
  ·have hne:b≠E.ι id:=fun e=>by subst e;rw[h1]at hc;cases hc
   exact⟨cur,f,by rw[hoth b hne];exact hc,rfl⟩
  ·by_cases hb:b=E.ι id
   ·subst hb
    rw[h1]at hr;injection hr with hr
    injection hr with hr
    subst hr;exact⟨_,hsame.trans (congrArg some ho),rfl⟩
   ·exact⟨r,by rw[hoth b hb];exact hr,rfl⟩
 refine⟨hv,hH.next,fun b hb=>hH.core.lim b (by simpa using hb),fun id' h=>by simpa using hH.core.inW id' h,fun id' b' hb'=> ?_⟩
 simp only[setB,upd]at hb'
 have hG:∀id'' b'',id''≠id→upd H.get [(id,some (.rcd env nt ps A B st' pe'))] id''=some b''→H.get id''=some b'':=fun id'' b'' hne h=>by
  simp only[upd,if_neg hne]at h;exact h
 by_cases hid:id'=id
 ·subst hid
  rw[if_pos rfl]at hb';injection hb' with hb'
  subst hb';refine⟨hU,⟨fn,tmps,D,by rw[hsame,ho],h2,fun t c a ha=> ?_⟩,hL,fun id'' b'' hne hg''=>hone id'' b'' hne (hG id'' b'' hne hg'')⟩
  obtain⟨v,h4,h5,h6⟩:=h3 t c a ha;exact⟨v,h4,fun hc=>(h5 hc).mono hv,h6⟩
 ·rw[if_neg hid]at hb'
  obtain⟨hU',hok'⟩:=hH.core.ok id' b' hb';refine⟨hU',hok'.mono hv hU' (hoth _ (hone id' b' hid hb')) rfl fun id'' b'' hne hg'' heq=> ?_⟩
  by_cases h2:id''=id
  ·subst h2
   exact absurd heq.symm (hone id' b' hid hb')
  ·exact⟨b'',hG id'' b'' h2 hg'',heq,rfl,fun h=>h⟩
theorem iter_set{E:Env}{W w1:World}{H:Heap}(hw:w1=W∨w1=W.drew)(hH:RH E W H){id m n:Nat}{seen:List Nat}(hg:H.get id=some (.iter m n seen))(i:Nat):
  Evo E W E {w1 with heap:=w1.heap.setIfInBounds (E.ι id) (.mapIter (some (E.ι m)) n (seen++[i]).toArray n)}∧RH E {w1 with heap:=w1.heap.setIfInBounds (E.ι id) (.mapIter (some (E.ι m)) n (seen++[i]).toArray n)} (setB H id (some (.iter m n (seen++[i])))):=by
 obtain⟨hU,⟨h1,h2⟩,hL,hone⟩:=hH.core.ok id _ hg;have hlt:=hH.core.inW id hU;have hheap:w1.heap=W.heap:=by rcases hw with rfl|rfl<;>rfl
 obtain⟨o,ho⟩:∃o:Obj,o= .mapIter (some (E.ι m)) n (seen++[i]).toArray n:=⟨_,rfl⟩;rw[←ho];have hoth:∀b,b≠E.ι id→(w1.heap.setIfInBounds (E.ι id) o)[b]? =W.heap[b]? :=fun b hb=>by rw[hheap];simp[Ne.symm hb]
 have hsame:(w1.heap.setIfInBounds (E.ι id) o)[E.ι id]? =some o:=by rw[hheap];simp[hlt]
 have hv:Evo E W E {w1 with heap:=w1.heap.setIfInBounds (E.ι id) o}:=by
  refine⟨by rcases hw with rfl|rfl<;>rfl,by rcases hw with rfl|rfl<;>rfl,by rcases hw with rfl|rfl<;>rfl,by simp[hheap],fun _ h=>h,fun _ _=>⟨rfl,rfl⟩,fun _=>Nat.le_refl _,fun b k hk=> ?_,fun b _ hf=>hoth b fun e=>hf id hU e.symm,fun b cur e f hc=> ?_,fun _ _ _=>rfl,fun id' h h'=>absurd h' h,fun b r hr=> ?_⟩
  ·have hne:b≠E.ι id:=fun e=>by subst e;omega
   unfold World.cell?;simp only[hoth b hne]
  ·have hne:b≠E.ι id:=fun e=>by subst e;rw[h1]at hc;cases hc
   exact⟨cur,f,by simp only[hoth b hne];exact hc,rfl⟩
  ·have hne:b≠E.ι id:=fun e=>by subst e;rw[h1]at hr;cases hr
   exact⟨r,by simp only[hoth b hne];exact hr,rfl⟩
 refine⟨hv,hH.next,fun b hb=>hH.core.lim b (by simpa[hheap]using hb),fun id' h=>by simpa[hheap]using hH.core.inW id' h,fun id' b' hb'=> ?_⟩
 simp only[setB,upd]at hb'
 have hG:∀id'' b'',id''≠id→upd H.get [(id,some (.iter m n (seen++[i])))] id''=some b''→H.get id''=some b'':=fun id'' b'' hne h=>by
  simp only[upd,if_neg hne]at h;exact h
 by_cases hid:id'=id
 ·subst hid
  rw[if_pos rfl]at hb';injection hb' with hb'
  subst hb';exact⟨hU,⟨hsame.trans (congrArg some ho),h2⟩,hL,fun id'' b'' hne hg''=>hone id'' b'' hne (hG id'' b'' hne hg'')⟩
 ·rw[if_neg hid]at hb'
  obtain⟨hU',hok'⟩:=hH.core.ok id' b' hb';refine⟨hU',hok'.mono hv hU' (by simp only[hoth _ (hone id' b' hid hb')]) rfl fun id'' b'' hne hg'' heq=> ?_⟩
  by_cases h2:id''=id
  ·subst h2
   exact absurd heq.symm (hone id' b' hid hb')
  ·exact⟨b'',hG id'' b'' h2 hg'',heq,rfl,fun h=>h⟩
theorem next_wp{P:Program}{o:Oper}{σ:AS}{x0:Operand}{K:AV→Heap→Prop}(hop:o.op= .next x0 false)(h:NextX σ.H (σ.get true x0) K)(hd:dstIn σ.nt o=true){E:Env}{W:World}{act:Act}(hr:Rel E W σ act){next:Act→World→Prop}{Q:Exit→Act→World→Prop}{ro:Option Nat}
  (hn:∀E' W' v r H',Evo E W E' W'→K r H'→Rel E' W' (({σ with H:=H'}:AS).put o.dst true r) (act.put o.dst v)→next (act.put o.dst v) W'):o.wpIn (fen ro) 3 P act W next Q:=by
 obtain⟨id,m,n,seen,es,hx,hg,hm,hlen,hkeys,h0,h1⟩:=h;have hx1:=hr.get rfl hx;generalize hv:act.eval x0=vb at hx1;cases hx1;rename_i hU0;obtain⟨hU,⟨q1,q2⟩,hL,hone⟩:=hr.heap.core.ok id _ hg;obtain⟨_,⟨ms,clock,p1,p2,p3,p4⟩,_,_⟩:=hr.heap.core.ok m _ hm;refine⟨fun _ _=>trivial,?_⟩
 rw[Oper.semAt_eq _ _ _ (fun c h=>by rw[hop]at h;cases h)]
 rcases run_next_any (P:=P) (ty:=o.type) q1 p1 p2 (by rw[p3,hlen])with⟨g1,g2⟩|⟨i,e,g1,g2,g3,w1,g4,g5⟩
 ·have hrun:(execOp act.eval o).run P W= .ok (.value (.tuple #[.bool false])) W:=by
   simp only[execOp,hop,hv,Nat.zero_mul,Nat.add_zero];rw[Sem.run_bind,g2];rfl
  rw[hrun];refine hn E W _ _ σ.H (Evo.refl E W) (h0 g1) (hr.put (dstIn_ok hd) (fun _=> ?_) (fun h=>by cases h))
  exact .tup _ _ rfl fun j y v hy hv=>by
   rcases j with _|j
   ·simp at hy hv;subst hy;subst hv;exact .c _ rfl
   ·simp at hy
 ·have hrun:(execOp act.eval o).run P W= .ok (.value (.tuple #[.bool true,e.key,e.val])) {w1 with heap:=w1.heap.setIfInBounds (E.ι id) (.mapIter (some (E.ι m)) n (seen++[i]).toArray n)}:=by
   simp only[execOp,hop,hv,Nat.zero_mul,Nat.add_zero];rw[Sem.run_bind,g5];rfl
  rw[hrun];obtain⟨hv1,hv2⟩:=iter_set g4 hr.heap hg i;have hil:i<es.length:=by rw[hlen];exact g1
  have hes:es[i]? =some (es[i].1,es[i].2):=by rw[List.getElem?_eq_getElem hil]
  obtain⟨e',he1,he2,he3⟩:=p4 i _ _ hes;rw[g3]at he1;injection he1 with he1
  subst he1;refine hn E _ _ _ _ hv1 (h1 i _ _ g1 g2 hes) ((hr.mono hv1 hv2).put (dstIn_ok hd) (fun _=> ?_) (fun h=>by cases h))
  obtain⟨d,hd2⟩:=anyKeyB_ok (hkeys _ (List.getElem_mem hil))
  exact .tup _ _ rfl fun j y v hy hv=>by
   rcases j with _|_|_|j
   ·simp at hy hv;subst hy;subst hv;exact .c _ rfl
   ·simp at hy hv;subst hy;subst hv;rw[he2];exact avK_ok hd2
   ·simp at hy hv;subst hy;subst hv;exact he3.mono hv1
   ·simp at hy
theorem wpIn_n{ro:Option Nat}{n m:Nat}{P:Program}{c:Code}{Q:Exit→Act→World→Prop}{a:Act}{w:World}(h:c.wpIn (fen ro) n P Q a w):c.wpIn (fen ro) m P Q a w:=
 fun b k cs h1 h2 _=>h b k cs h1 h2 (fun d hd=>by cases hd)
theorem yield_wp{P:Program}{o:Oper}{σ:AS}{K:AS→Prop}{f:Operand}{as:Array Operand}{ts:Array TypeId}(hop:o.op= .call ⟨.value f,as,ts⟩)(h:YieldX P σ (σ.get true f) (getsA (σ.get true) as.toList) (fun b H'=>K (({σ with H:=H'}:AS).put o.dst true (.c (.bool b)))))
  (hd:dstIn σ.nt o=true) {E:Env} {W:World} {act:Act} (hr:Rel E W σ act) {next:Act→World→Prop} {Q:Exit→Act→World→Prop} {ro:Option Nat}
  (hn:∀E' W' σ' act',Went E W act E' W' act'→Rel E' W' σ' act'→σ'.nt=σ.nt→K σ'→next act' W'):o.wpIn (fen ro) 3 P act W next Q:=by
 obtain⟨id,args,env,nt,ps,A,B,hf,has,hg,hl,hps,hA⟩:=h;have h1:=hr.get rfl hf;have h2:=getsA_ok (E:=E) (W:=W) (ρ:=act.eval) (fun x b hb=>hr.get rfl hb) _ _ has
 generalize hfv:act.eval f=fv at h1;cases h1 with
 |yld _ hU=>
 obtain⟨rc,hb,hst,hpe,hpa,has',hbo,hsz,henv,hset⟩:=rec_set hr.heap hg;have hyield:=run_yield (P:=P) (args:=as.map act.eval) hb (by rw[hpa];have:=h2.1;simp at this⊢;omega)
 have hrun:(execOp act.eval o).run P W= .ok (.round (E.ι id) rc.fn ((rc.params.zip (as.map act.eval)).foldl (fun tmps (t,a)=>tmps.setIfInBounds t a) rc.tmps) rc.assign rc.body) W:=by
  simp only[execOp,hop,resolve,hfv,Deferred.ofValue,Sem.run_bind,Sem.run_pure,Result.andThen_ok,invoke];simpa using hyield
 refine⟨fun _ _=>trivial,?_⟩
 rw[Oper.semAt_eq _ _ _ (fun c h=>by rw[hop]at h;cases h),hrun]
 refine⟨fen_depth,roundIn_of_wpIn (F:=fen ro) trivial ?_⟩;have hsz2:=lk_bindPs ps args env (as.toList.map act.eval) rc.tmps h2 hl (by rw[hsz];exact hps) henv
 have htm:(rc.params.zip (as.map act.eval)).foldl (fun tmps (t,a)=>tmps.setIfInBounds t a) rc.tmps=(ps.zip (as.toList.map act.eval)).foldl (fun t (p:Tmp×Value)=>t.setIfInBounds p.1 p.2) rc.tmps:=by
  rw[hpa,←Array.foldl_toList];simp
 rw[htm,has',hbo];generalize (ps.zip (as.toList.map act.eval)).foldl (fun t (p:Tmp×Value)=>t.setIfInBounds p.1 p.2) rc.tmps=tm at hsz2
 have hrel:Rel E W ⟨bindPs ps args env,σ.H,nt⟩ {tmps:=tm,defers:=[]}:=⟨Marks.nil E W,by rw[←hsz];exact hsz2.1,hsz2.2,hr.heap⟩
 have hro:∀{W':World} {r:Loop},W'.heap[E.ι id]? =some (.loop r)→RoOK (some (E.ι id)) W':=fun hb l hl=>by injection hl with hl;subst hl;exact⟨_,hb⟩
 refine wpIn_n (wpIn_mono (hA (some (E.ι id)) E W _ (hro hb) hrel) fun e a1 W1 ⟨E1,σ1,hv1,hr1,hnt1,hq1⟩=> ?_)
 simp only[hold]at hq1;cases e with
 |normal=>
  obtain⟨env1,nt1,ps1,A1,B1,hg1,hB⟩:=hq1;have hι1:E1.ι id=E.ι id:=(hv1.evo.ren id hU).1;obtain⟨rc1,hb1,hst1,hpe1,hpa1,has1,hbo1,hsz1,henv1,hset1⟩:=rec_set hr1.heap hg1;obtain⟨hv2,hr2⟩:=hset1 .busy none;rw[hι1]at hb1 hv2 hr2;have hbeg:=run_beginRound (P:=P) hb1 hst1;have heq:{rc1 with state:=LoopState.busy}={rc1 with state:=LoopState.busy,pending:=none}:=by rw[←hpe1]
  refine⟨_,hbeg,?_⟩;rw[heq];have hU1:E1.U id:=hv1.evo.used id hU;have hb2:(W1.putObj (E.ι id) (.loop {rc1 with state:=LoopState.busy,pending:=none})).heap[E.ι id]? =some (.loop {rc1 with state:=LoopState.busy,pending:=none}):=World.putObj_heap_same (Array.getElem?_eq_some_iff.1 hb1).1
  generalize W1.putObj (E.ι id) (.loop {rc1 with state:=LoopState.busy,pending:=none})=W2 at hv2 hr2 hb2
  have hrel2:Rel E1 W2 ⟨σ1.env,setB σ1.H id (some (.rcd env1 nt1 ps1 A1 B1 .busy none)),σ1.nt⟩ a1:=hr1.mono hv2 hr2;refine wpIn_n (wpIn_mono (hB (some (E.ι id)) E1 W2 a1 (hro hb2) hrel2) fun e3 a3 W3 ⟨E3,σ3,hv3,hr3,hnt3,hq3⟩=> ?_)
  have hι3:E3.ι id=E.ι id:=(hv3.evo.ren id hU1).1.trans hι1
  have fin:∀(env:List (Nat×Bool×AV)) (nt:Nat) (ps:List Tmp) (A B:Code) (jump:Option Code) (b:Bool),jump.isNone=b→σ3.H.get id=some (.rcd env nt ps A B .busy none)→K (({σ with H:=setB σ3.H id (some (.rcd env nt ps A B (if b then .ready else .done) jump))}:AS).put o.dst true (.c (.bool b)))→
    ∃v w',(Instr.endRound (E.ι id) jump).run P W3= .ok v w'∧next (act.put o.dst v) w':=fun env nt ps A B jump b hjb hg3 hK=>by
   obtain⟨rc3,hb3,hst3,hpe3,hpa3,has3,hbo3,hsz3,henv3,hset3⟩:=rec_set hr3.heap hg3;obtain⟨hv4,hr4⟩:=hset3 (if b then .ready else .done) jump
   rw[hι3]at hb3 hv4 hr4;have hend:=run_endRound (P:=P) jump hb3;rw[hjb]at hend;refine⟨_,_,hend,?_⟩;have hevo:Evo E W E3 (W3.putObj (E.ι id) (.loop {rc3 with state:=(if b then .ready else .done),pending:=jump})):=((hv1.evo.trans hv2).trans hv3.evo).trans hv4
   exact hn E3 _ _ _ (Went.of hevo (Act.put_defers _ _ _)) ((hr.mono hevo hr4).put (dst:=o.dst) (dstIn_ok hd) (c:=true) (fun _=> .c _ rfl) (fun h=>by cases h)) (AS.put_nt _ _ _ _) hK
  simp only[hold]at hq3;cases e3 with
  |normal=>obtain⟨_,_,_,_,_,h1,h2⟩:=hq3;exact fin _ _ _ _ _ none true rfl h1 h2
  |ret=>obtain⟨_,_,_,_,_,h1,h2⟩:=hq3;exact fin _ _ _ _ _ (some .ret) false rfl h1 h2
  |exit i=>obtain⟨_,_,_,_,_,h1,h2⟩:=hq3;exact fin _ _ _ _ _ (some (.exit i)) false rfl h1 h2
  |goto l=>exact hq3.elim
  |panic ch=>exact hq3.elim
  |outgrown=>exact hq3.elim
 |_=>exact hq1.elim
theorem aopx_ok{P:Program}{o:Oper}{σ:AS}{K:AS→Prop}(h:aopx P o σ K)(hd:dstIn σ.nt o=true){E:Env}{W:World}{act:Act}(hr:Rel E W σ act){next:Act→World→Prop}{Q:Exit→Act→World→Prop}{ro:Option Nat}
  (hn:∀E' W' σ' act',Went E W act E' W' act'→Rel E' W' σ' act'→σ'.nt=σ.nt→K σ'→next act' W'):o.wpIn (fen ro) 3 P act W next Q:=by
 unfold aopx at h;simp only[hold]at h;split at h
 ·rename_i f as ts hop
  rcases h with h|h
  case inr=>exact yield_wp hop h hd hr hn
  obtain⟨⟨n,args⟩,h1,h⟩:=bindK_out h;obtain⟨first,cap,as',hf,has,rfl⟩:=calleeA_out h1
  exact call_wp rfl hop hf has h hd hr fun E' W' v r H' hv hq hrel=>hn E' W' _ _ (Went.of hv (Act.put_defers _ _ _)) hrel (AS.put_nt _ _ _ _) hq
 ·rename_i x0 x y hop
  obtain⟨b,hb,h⟩:=bindK_out h;have hb:=asB_out hb;unfold altK at h;split at h
  ·rename_i pq hpq
   obtain⟨p,q⟩:=pq;obtain⟨hp,hq⟩:=pairB_out hpq;have hp:=asB_out hp;have hq:=asB_out hq;refine pick_wp rfl hop hb (a:= .c (.bool (cond b p q))) (fun hbt=>⟨b,hbt,?_⟩) (fun hbf=>⟨!b,by simp[hbf],?_⟩) hd hr fun v hrel=>hn E W _ _ (Went.of (Evo.refl E W) (Act.put_defers _ _ _)) hrel (AS.put_nt _ _ _ _) h
   ·rw[hp,hbt];rfl
   ·rw[hq,hbf];rfl
  ·obtain⟨h1,h2⟩:=h
   cases hbb:b
   ·obtain⟨a,ha,h3⟩:=bindK_out (h2 hbb)
    exact pick_wp rfl hop hb (a:=a) (fun h=>by rw[hbb]at h;cases h) (fun _=>⟨true,rfl,ha⟩) hd hr fun v hrel=>hn E W _ _ (Went.of (Evo.refl E W) (Act.put_defers _ _ _)) hrel (AS.put_nt _ _ _ _) h3
   ·obtain⟨a,ha,h3⟩:=bindK_out (h1 hbb)
    exact pick_wp rfl hop hb (a:=a) (fun _=>⟨true,rfl,ha⟩) (fun h=>by rw[hbb]at h;cases h) hd hr fun v hrel=>hn E W _ _ (Went.of (Evo.refl E W) (Act.put_defers _ _ _)) hrel (AS.put_nt _ _ _ _) h3
 ·rename_i x hop
  exact next_wp hop h hd hr fun E' W' v r H' hv hq hrel=>hn E' W' _ _ (Went.of hv (Act.put_defers _ _ _)) hrel (AS.put_nt _ _ _ _) hq
 ·obtain⟨⟨a,wr,rd⟩,hres,h⟩:=bindK_out h
  exact res_wp rfl hres hd hr fun E' W' v hv hrel=>hn E' W' _ _ (Went.of hv (Act.put_defers _ _ _)) hrel (AS.put_nt _ _ _ _) h
theorem aopc_ok{P:Program}{o:Oper}{σ:AS}{c:Bool}{K:AS→Prop}(h:aopc P o σ c K)(hd:dstIn σ.nt o=true){E:Env}{W:World}{act:Act}(hr:Rel E W σ act){next:Act→World→Prop}{Q:Exit→Act→World→Prop}{ro:Option Nat}
  (hn:∀E' W' σ' act',Went E W act E' W' act'→Rel E' W' σ' act'→σ'.nt=σ.nt→K σ'→next act' W'):if c=true then o.wpIn (fen ro) 3 P act W next Q else next (act.put o.dst undef) W:=by
 unfold aopc at h;split at h
 ·simp only[if_true];exact aopx_ok h hd hr hn
 ·simp only[Bool.false_eq_true,if_false]
  exact hn E W _ _ (Went.of (Evo.refl E W) (Act.put_defers _ _ _)) (hr.put (dstIn_ok hd) (fun _=> .c undef rfl) (fun _=>rfl)) (AS.put_nt _ _ _ _) h
theorem aopg0_ok{P:Program}{o:Oper}{σ:AS}{c:Bool}{K:AS→Prop}(h:aopg0 P o σ c K)(hd:dstIn σ.nt o=true){E:Env}{W:World}{act:Act}(hr:Rel E W σ act){next:Act→World→Prop}{Q:Exit→Act→World→Prop}{ro:Option Nat}
  (hn:∀E' W' σ' act',Went E W act E' W' act'→Rel E' W' σ' act'→σ'.nt=σ.nt→K σ'→next act' W'):if c=true then o.wpIn (fen ro) 3 P act W next Q else next (act.put o.dst undef) W:=by
 have part:Split c (aopx P o σ K) (K (σ.put o.dst true (.c undef)))→if c=true then o.wpIn (fen ro) 3 P act W next Q else next (act.put o.dst undef) W:=fun⟨h1,h2⟩=>by
  by_cases hc:c=true
  ·rw[if_pos hc];exact aopx_ok (h1 hc) hd hr hn
  ·rw[if_neg hc]
   exact hn E W _ _ (Went.of (Evo.refl E W) (Act.put_defers _ _ _)) (hr.put (dstIn_ok hd) (fun _=> .c undef rfl) (fun _=>rfl)) (AS.put_nt _ _ _ _) (h2 (by simpa using hc))
 have skip:∀a,c≠true→K (σ.put o.dst c a)→next (act.put o.dst undef) W:=fun a hc hK=>
  hn E W _ _ (Went.of (Evo.refl E W) (Act.put_defers _ _ _)) (hr.put (dstIn_ok hd) (fun h=>absurd h hc) (fun _=>rfl)) (AS.put_nt _ _ _ _) hK
 unfold aopg0 at h;simp only[hold]at h;split at h
 ·rename_i f as ts hop
  unfold altK at h;split at h
  ·rename_i p hp0
   obtain⟨n,args⟩:=p;obtain⟨first,cap,as',hf,has,rfl⟩:=calleeA_out hp0
   obtain⟨r,hp,hK⟩:=h;by_cases hc:c=true
   ·rw[if_pos hc]
    obtain⟨hno,hp⟩:=hp hc;have hcl:ACall P n (first++as'++cap) σ.H fun r' H'=>r'=r∧H'=σ.H:=ACall.pure hp hno fun r' _ hq=>⟨hq,rfl⟩
    refine call_wp hc hop hf has hcl hd hr fun E' W' v r' H' hv hq hrel=> ?_
    obtain⟨rfl,rfl⟩:=hq;exact hn E' W' _ _ (Went.of hv (Act.put_defers _ _ _)) hrel (AS.put_nt _ _ _ _) hK
   ·rw[if_neg hc];exact skip r hc hK
  ·exact part h
 ·rename_i x0 x y hop
  unfold altK at h;split at h
  ·rename_i b hb
   have hb:=asB_out hb;split at h
   ·rename_i pq hpq
    obtain⟨p,q⟩:=pq;obtain⟨hp,hq⟩:=pairB_out hpq;have hp:=asB_out hp;have hq:=asB_out hq;by_cases hc:c=true
    ·rw[if_pos hc]
     refine pick_wp hc hop hb (a:= .c (.bool (cond b p q))) (fun hbt=>⟨c&&b,by simp[hc,hbt],?_⟩) (fun hbf=>⟨c&& !b,by simp[hc,hbf],?_⟩) hd hr fun v hrel=>hn E W _ _ (Went.of (Evo.refl E W) (Act.put_defers _ _ _)) hrel (AS.put_nt _ _ _ _) h
     ·rw[hp,hbt];rfl
     ·rw[hq,hbf];rfl
    ·rw[if_neg hc];exact skip _ hc h
   ·exact part h
  ·exact part h
 ·unfold altK at h
  split at h
  ·rename_i a hres
   split at hres
   ·cases hres
   ·obtain⟨rd,hres⟩:=resP_out hres
    by_cases hc:c=true
    ·rw[if_pos hc]
     refine res_wp hc hres hd hr fun E' W' v hv hrel=>hn E' W' _ _ (Went.of hv (Act.put_defers _ _ _)) ?_ (AS.put_nt _ _ _ _) h
     exact hrel
    ·rw[if_neg hc];exact skip _ hc h
  ·exact part h
theorem aopg_ok{P:Program}{o:Oper}{σ:AS}{c:Bool}{K:AS→Prop}(h:aopg P o σ c K)(hd:dstIn σ.nt o=true){E:Env}{W:World}{act:Act}(hr:Rel E W σ act){next:Act→World→Prop}{Q:Exit→Act→World→Prop}{ro:Option Nat}
  (hn:∀E' W' σ' act',Went E W act E' W' act'→Rel E' W' σ' act'→σ'.nt=σ.nt→K σ'→next act' W'):if c=true then o.wpIn (fen ro) 3 P act W next Q else next (act.put o.dst undef) W:=by
 rcases h with(⟨hc,hK⟩|⟨hc,hK⟩)|h
 ·subst hc
  rw[if_neg (by simp)]
  exact hn E W _ _ (Went.of (Evo.refl E W) (Act.put_defers _ _ _)) (hr.put (dstIn_ok hd) (fun h=>by cases h) (fun _=>rfl)) (AS.put_nt _ _ _ _) hK
 ·subst hc
  rw[if_pos rfl];exact aopx_ok hK hd hr hn
 ·exact aopg0_ok h hd hr hn
theorem aop_ok{P:Program}{ic:Bool}{ops:Array Oper}{o:Oper}{σ:AS}{K:AS→Prop}(h:aop P ic ops o σ K)(hd:dstIn σ.nt o=true){E:Env}{W:World}{act:Act}(hr:Rel E W σ act){next:Act→World→Prop}{Q:Exit→Act→World→Prop}{ro:Option Nat}
  (hn:∀E' W' σ' act',Went E W act E' W' act'→Rel E' W' σ' act'→σ'.nt=σ.nt→K σ'→next act' W'):
  if Region.wanted o (yielded ops act.tmps)=true then o.wpIn (fen ro) 3 P act W next Q else next (act.put o.dst undef) W:=by
 unfold aop at h;simp only[hold]at h;cases hg:o.guard with
 |none=>
  simp only[hg]at h;simp only[Region.wanted,hg,if_true];exact aopx_ok h hd hr hn
 |some jw=>
  obtain⟨j,want⟩:=jw;simp only[hg]at h;obtain⟨c0,hg0,h⟩:=bindK_out h;obtain⟨c',b,hb,rfl⟩:=gcond_out hg0
  obtain⟨t,ht,hlk⟩:∃t,(ops[j]?).bind (·.dst)=some t∧lk σ.env t=some (c',.c (.bool b)):=by
   unfold gval at hb;split at hb
   ·rename_i o' ho'
    rw[Array.getElem?_toList]at ho';split at hb
    ·rename_i t ht;exact⟨t,by rw[ho'];exact ht,hb⟩
    ·cases hb
   ·cases hb
  obtain⟨v,h1,h2,h3⟩:=hr.env t _ _ hlk
  have hw:Region.wanted o (yielded ops act.tmps)=(c'&&wantB b want):=by
   have hy:yielded ops act.tmps j=if c'=true then some b else none:=by
    unfold yielded;rw[ht];simp only[Option.bind_some,h1];cases c'
    ·rw[h3 rfl];rfl
    ·have h4:=h2 rfl
     cases h4;rfl
   simp only[Region.wanted,hg,hy];cases c'<;>cases b<;>cases want<;>rfl
  rw[hw];cases ic
  ·exact aopc_ok h hd hr hn
  ·exact aopg_ok h hd hr hn
theorem aops_ok{P:Program}{ic:Bool}{ops:Array Oper}:∀(l:List Nat) (os:List Oper),l.map (ops[·]?)=os.map some→∀{σ:AS} {K:AS→Prop},aops P ic ops os σ K→os.all (dstIn σ.nt)=true→∀{E:Env} {W:World} {act:Act},Rel E W σ act→
  ∀{Q:Exit→Act→World→Prop} {ro:Option Nat},(∀E' W' σ' act',Went E W act E' W' act'→Rel E' W' σ' act'→σ'.nt=σ.nt→K σ'→Q .normal act' W')→wpOpsIn (fen ro) 3 P ops Q l act W
 |[],[],_,σ,K,h,_,E,W,act,hr,Q,ro,hn=>hn E W σ act (Went.refl E W act) hr rfl h
 |[],_::_,hl,_,_,_,_,_,_,_,_,_,_,_=>by simp at hl
 |_::_,[],hl,_,_,_,_,_,_,_,_,_,_,_=>by simp at hl
 |i::l,o::os,hl,σ,K,h,hd,E,W,act,hr,Q,ro,hn=>by
  simp only[List.map_cons,List.cons.injEq]at hl;simp only[List.all_cons,Bool.and_eq_true]at hd;simp only[wpOpsIn,hl.1]
  have h1:=aop_ok (Q:=Q) (ro:=ro) (next:=wpOpsIn (fen ro) 3 P ops Q l) h hd.1 hr (fun E' W' σ' act' hv hr' hnt hK=>by
   refine aops_ok l os hl.2 hK (by rw[hnt];exact hd.2) hr' (fun E'' W'' σ'' act'' hv2 hr2 hnt2 hK2=>hn E'' W'' σ'' act'' (hv.trans hv2) hr2 (hnt2.trans hnt) hK2))
  by_cases hw:Region.wanted o (yielded ops act.tmps)=true
  ·simp only[hw,if_true]at h1⊢
   exact h1
  ·simp only[hw]at h1⊢
   exact⟨fun _ _=>trivial,h1⟩
theorem wpIn_loop_ghost{F:Fence}{m:Nat}{P:Program}{Q:Exit→Act→World→Prop}{a:Act}{w:World}{c:Code}(I:Nat→Act→World→Prop)(n₀:Nat)(h₀:I n₀ a w)
  (round:∀n a w,I n a w→c.wpIn F m P (Exit.then (fun a' w'=>∃n',n'<n∧I n' a' w') Q) a w):(Code.loop c).wpIn F m P Q a w:=by
 refine wpIn_loop (fun a w=>∃n,I n a w) (fun a w=>leastOf (fun n=>I n a w)) ⟨n₀,h₀⟩ ?_
 intro a w hI;refine wpIn_mono (round _ a w (leastOf_spec hI).1) ?_;intro e a' w' hq;cases e with
 |normal=>
  obtain⟨n',hlt,hI'⟩:=hq;exact show(∃n,I n a' w')∧leastOf (fun n=>I n a' w')<leastOf (fun n=>I n a w)from⟨⟨n',hI'⟩,Nat.lt_of_le_of_lt ((leastOf_spec ⟨n',hI'⟩).2 n' hI') hlt⟩
 |_=>exact hq
section
variable {P : Program} {σ : AS} {Q : Exit → AS → Prop}
theorem aw_skip(h:Q .normal σ):AW P .skip σ Q:=fun ro E W act hro hr=>wpIn_skip ⟨E,σ,Went.refl E W act,hr,rfl,h⟩
theorem stepR_scope{P:Program}{b:Frame}{a:Act}{k:List Item}{cs:List Frame}{w:World}{c:Code}:step P (lone (b.atR a (.code (.scope c)::k)) cs w)= .next (lone (b.atR a (.code c:: .inScope c::k)) cs w):=
 step_lone_go (by simp[stepG,stepG.exec,Frame.atR])
theorem stepR_inScope{P:Program}{b:Frame}{a:Act}{k:List Item}{cs:List Frame}{w:World}{c:Code}:step P (lone (b.atR a (.inScope c::k)) cs w)= .next (lone (b.atR a k) cs w):=
 step_lone_go (by simp[stepG,stepG.exec,Frame.atR])
def scopeA(Q:Exit→AS→Prop):Exit→AS→Prop
 | .goto _,_=>False
 |e,σ=>Q e σ
theorem wpIn_scope{F:Fence}{n:Nat}{P:Program}{a:Act}{w:World}{c:Code}{Q:Exit→Act→World→Prop}(h:c.wpIn F n P (fun e a w=>(∀l,e≠ .goto l)∧Q e a w) a w):(Code.scope c).wpIn F n P Q a w:=by
 intro b k cs hro hb hr;have h0:(lone (b.atR a (.code (.scope c)::k)) cs w).fenced P F:=fenced_calm hb hr rfl;obtain⟨e,a₁,w₁,⟨hg,hq⟩,harr⟩:=h b (.inScope c::k) cs hro hb hr;cases e with
 |normal=>exact⟨.normal,a₁,w₁,hq,.head h0 stepR_scope (StepsIn.trans harr (.one (fenced_calm hb hr rfl) stepR_inScope))⟩
 |exit id=>
  have hx:exitTo id (.inScope c::k)=exitTo id k:=by simp[exitTo]
  exact⟨.exit id,a₁,w₁,hq,fun k' hk=> .head h0 stepR_scope (harr.1 k' (by rw[hx];exact hk)),
   fun hr' hk=>let ⟨k₁,h1,h2⟩:=harr.2 hr' (by rw[hx];exact hk);⟨k₁,h1,.head h0 stepR_scope h2⟩⟩
 |goto l=>exact absurd rfl (hg l)
 |ret=>exact⟨_,a₁,w₁,hq,.of_steps (.one h0 stepR_scope) harr⟩
 |panic ch=>exact⟨_,a₁,w₁,hq,.of_steps (.one h0 stepR_scope) harr⟩
 |outgrown=>exact⟨_,a₁,w₁,hq,.of_steps (.one h0 stepR_scope) harr⟩
theorem aw_scope{c:Code}(h:AW P c σ (scopeA Q)):AW P (.scope c) σ Q:=fun ro E W act hro hr=>
 wpIn_scope (wpIn_mono (h ro E W act hro hr) fun e a w ⟨E',σ',h1,h2,h3,h4⟩=>by
  cases e<;>first|exact h4.elim|exact⟨fun l h=>(by cases h),E',σ',h1,h2,h3,h4⟩)
theorem aw_label{l:Nat}(h:Q .normal σ):AW P (.label l) σ Q:=fun ro E W act hro hr=>wpIn_label ⟨E,σ,Went.refl E W act,hr,rfl,h⟩
theorem aw_ret(h:Q .ret σ):AW P .ret σ Q:=fun ro E W act hro hr=>wpIn_ret ⟨E,σ,Went.refl E W act,hr,rfl,h⟩
theorem aw_exit{id:Nat}(h:Q (.exit id) σ):AW P (.exit id) σ Q:=fun ro E W act hro hr=>wpIn_exit ⟨E,σ,Went.refl E W act,hr,rfl,h⟩
def thenA(next:AS→Prop)(Q:Exit→AS→Prop):Exit→AS→Prop
 | .normal,σ=>next σ
 |e,σ=>Q e σ
theorem aw_seq{x y:Code}(h:AW P x σ (thenA (fun σ'=>AW P y σ' Q) Q)):AW P (.seq x y) σ Q:=fun ro E W act hro hr=>by
 refine wpIn_seq (wpIn_mono (h ro E W act hro hr) fun e a w ⟨E',σ',h1,h2,h3,h4⟩=> ?_)
 cases e with
 |normal=>
  refine wpIn_mono (h4 ro E' w a (hro.mono h1.evo) h2) fun e a' w' ⟨E'',σ'',h5,h6,h7,h8⟩=>⟨E'',σ'',h1.trans h5,h6,h7.trans h3,h8⟩
 |_=>exact⟨E',σ',h1,h2,h3,h4⟩
theorem aw_cond{c:Operand}{x y:Code}{b:Bool}(hc:σ.get true c=some (.c (.bool b)))(ht:b=true→AW P x σ Q)(hf:b=false→AW P y σ Q):AW P (.cond c x y) σ Q:=fun ro E W act hro hr=>by
 have h1:=hr.get rfl hc;generalize hcv:act.eval c=cv at h1;cases h1;cases b
 ·exact wpIn_cond_false hcv (hf rfl ro E W act hro hr)
 ·exact wpIn_cond_true hcv (ht rfl ro E W act hro hr)
def blockA(id:Nat)(Q:Exit→AS→Prop):Exit→AS→Prop
 | .exit id',σ=>if id'=id then Q .normal σ else Q (.exit id') σ
 |e,σ=>Q e σ
theorem aw_block{id:Nat}{c:Code}(h:AW P c σ (blockA id Q)):AW P (.block id c) σ Q:=fun ro E W act hro hr=>by
 refine wpIn_block (wpIn_mono (h ro E W act hro hr) fun e a w ⟨E',σ',h1,h2,h3,h4⟩=> ?_)
 cases e with
 |exit id'=>
  simp only[blockA]at h4;simp only[Exit.inBlock];split at h4
  ·rename_i hid;rw[if_pos hid];exact⟨E',σ',h1,h2,h3,h4⟩
  ·rename_i hid;rw[if_neg hid];exact⟨E',σ',h1,h2,h3,h4⟩
 |_=>exact⟨E',σ',h1,h2,h3,h4⟩
theorem aw_loop{c:Code}(I:Nat→AS→Prop)(n:Nat)(h0:I n σ)(round:∀n σ,I n σ→AW P c σ (thenA (fun σ'=>∃m,m<n∧I m σ') Q)):AW P (.loop c) σ Q:=fun ro E W act hro hr=>by
 refine wpIn_loop_ghost (fun n a w=>∃E' σ',Went E W act E' w a∧Rel E' w σ' a∧σ'.nt=σ.nt∧I n σ') n ⟨E,σ,Went.refl E W act,hr,rfl,h0⟩ ?_
 rintro n a w ⟨E',σ',h1,h2,h3,h4⟩;refine wpIn_mono (round n σ' h4 ro E' w a (hro.mono h1.evo) h2) fun e a' w' ⟨E'',σ'',h5,h6,h7,h8⟩=> ?_
 cases e with
 |normal=>
  obtain⟨m,hm,hI⟩:=h8;exact⟨m,hm,E'',σ'',h1.trans h5,h6,h7.trans h3,hI⟩
 |_=>exact⟨E'',σ'',h1.trans h5,h6,h7.trans h3,h8⟩
theorem aw_region{ic:Bool}{id:Nat}{ops:Array Oper}(h:aops P ic ops ops.toList σ (Q .normal))(hd:ops.toList.all (dstIn σ.nt)=true):AW P (.region id ops false) σ Q:=fun ro E W act hro hr=>by
 refine wpIn_region ?_;refine aops_ok _ ops.toList ?_ h hd hr (fun E' W' σ' act' hv hr' hnt hK=>⟨E',σ',hv,hr',hnt,hK⟩)
 apply List.ext_getElem?;intro i;simp only[List.getElem?_map,List.getElem?_range];by_cases hi:i<ops.size
 ·simp[hi,List.getElem?_range]
 ·simp[hi,List.getElem?_range]
end
def envOf:Nat→List AV→List (Nat×Bool×AV)
 |_,[]=> []
 |n,a::r=>(n,true,a)::envOf (n+1) r
theorem lk_envOf:∀(as:List AV) (n t:Nat) (a:Bool×AV),lk (envOf n as) t=some a→n≤t∧as[t-n]? =some a.2∧a.1=true
 |[],n,t,a,h=>by simp[envOf,lk]at h
 |b::r,n,t,a,h=>by
  simp only[envOf,lk]at h;split at h
  ·rename_i ht;subst ht;injection h with h;subst h;simp
  ·obtain⟨h1,h2,h3⟩:=lk_envOf r (n+1) t a h
   refine⟨by omega,?_,h3⟩
   rw[show t-n=(t-(n+1))+1 by omega]
   simpa using h2
section
variable (P : Program)
def resOne(σ:AS):ResultVar→Option AV
 | .tmp t=>σ.get true (.tmp t)
 | .cell t ty=>match σ.get true (.tmp t)with
   |some p=>match deref σ.H.get p with
    |some (row,o,_)=>partA P ty row o
    |none=>none
   |none=>none
def resAll(σ:AS):List ResultVar→Option (List AV)
 |[]=>some []
 |r::rs=>match resOne P σ r,resAll σ rs with
  |some a,some l=>some (a::l)
  |_,_=>none
def outA(σ:AS)(rs:List ResultVar):Option AV:=
 match resAll P σ rs with
 |some [a]=>some a
 |some l=>some (.tup l)
 |none=>none
end
def resSem(tmps:Array Value)(r:ResultVar):Sem Value:=
 match r with
 | .tmp t=>pure (tmps.getD t undef)
 | .cell a t=>do loadVar t (←asAddr (tmps.getD a undef))
theorem run_resOne{P:Program}{σ:AS}{E:Env}{W:World}{act:Act}(hr:Rel E W σ act){r:ResultVar}{a:AV}(h:resOne P σ r=some a):
  ∃v,(resSem act.tmps r).run P W= .ok v W∧RV E W a v:=by
 cases r with
 |tmp t=>
  have h':σ.get true (.tmp t)=some a:=h;exact⟨_,rfl,hr.get rfl h'⟩
 |cell t ty=>
  simp only[resOne]at h;split at h
  ·rename_i p hp
   split at h
   ·rename_i row o rd hd
    obtain⟨b,q,h1,vs,h3,h4⟩:=deref_ok hr.heap.core (hr.get rfl hp) hd;simp only[Act.eval]at h1;unfold partA at h;split at h
    ·rename_i k ha hk
     split at h
     ·rename_i hle
      injection h with h
      subst h;have hl:=h3.1;refine⟨.agg ((vs.drop o).take k).toArray,?_,.agg _ _ (by simp;omega) fun i x v hx hv=>((h3.drop o).take k).2 i x v hx (by simpa using hv)⟩
      have hrun:=run_loadVar_agg ha hk W b (q+o) ((vs.drop o).take k) (by simp;omega) (fun j u hu=>by
       rw[List.getElem?_take]at hu;split at hu
       ·rw[List.getElem?_drop]at hu
        have:=h4 _ u hu;rw[Nat.add_assoc];exact this
       ·cases hu)
      simp[resSem,h1,asAddr,hrun]
     ·cases h
    ·rename_i k ha hk
     obtain⟨v,h5,h6⟩:=h3.get h;refine⟨v,?_,h6⟩;have hrun:=run_loadVar_one (P:=P) ha W ⟨b,q+o,none⟩ v (h4 o v h5);simp[resSem,h1,asAddr,hrun]
    ·cases h
   ·cases h
  ·cases h
theorem run_resAll{P:Program}{σ:AS}{E:Env}{W:World}{act:Act}(hr:Rel E W σ act):∀(rs:List ResultVar) (as:List AV),resAll P σ rs=some as→
  ∃vs,(rs.mapM (resSem act.tmps)).run P W= .ok vs W∧RVs E W as vs
 |[],as,h=>by simp only[resAll,Option.some.injEq]at h;subst h;exact⟨[],rfl,.nil⟩
 |r::rs,as,h=>by
  simp only[resAll]at h;split at h
  ·rename_i a l ha hl
   injection h with h
   subst h;obtain⟨v,h1,h2⟩:=run_resOne hr ha;obtain⟨vs,h3,h4⟩:=run_resAll hr rs l hl;exact⟨v::vs,by simp only[List.mapM_cons,Sem.run_bind,h1,Result.andThen_ok,h3,Sem.run_pure],.cons h2 h4⟩
  ·cases h
theorem run_results{P:Program}{fn:Func}{σ:AS}{E:Env}{W:World}{act:Act}(hr:Rel E W σ act){a:AV}(h:outA P σ fn.results.toList=some a):∃v,(results fn act.tmps).run P W= .ok v W∧RV E W a v:=by
 have key:∀as,resAll P σ fn.results.toList=some as→∃vs,(results fn act.tmps).run P W= .ok (if h:vs.size=1 then vs[0]else .tuple vs) W∧RVs E W as vs.toList:=fun as has=>by
  obtain⟨vs,h1,h2⟩:=run_resAll hr _ as has;refine⟨vs.toArray,?_,by simpa using h2⟩
  have heq:results fn act.tmps=(do let vs←fn.results.mapM (resSem act.tmps);pure (if h:vs.size=1 then vs[0]else .tuple vs)):=by
   unfold results;congr 1
  rw[heq,Sem.run_bind,Array.mapM_eq_mapM_toList,Sem.run_map,h1];rfl
 unfold outA at h;split at h
 ·rename_i b has
  injection h with h
  subst h;obtain⟨vs,h1,h2⟩:=key _ has;have hs:vs.size=1:=by have:=h2.1;simp at this;omega
  refine⟨vs[0],by rw[h1,dif_pos hs],?_⟩
  exact h2.2 0 _ _ rfl (by simp)
 ·rename_i l hne has
  injection h with h
  subst h;obtain⟨vs,h1,h2⟩:=key _ has
  have hs:¬vs.size=1:=fun hs=>by
   have:=h2.1;simp at this;cases l with
   |nil=>simp at this;omega
   |cons b r=>
    cases r with
    |nil=>exact hne b rfl
    |cons c r=>simp at this;omega
  exact⟨.tuple vs,by rw[h1,dif_neg hs],.tup _ _ (by simpa using h2.1) fun i x v hx hv=>h2.2 i x v hx (by simpa using hv)⟩
 ·cases h
def endA(P:Program)(rs:List ResultVar)(Q:AV→Heap→Prop):Exit→AS→Prop
 | .normal,σ=>bindK (outA P σ rs) (hold (fun a=>Q a σ.H) ⟨⟩)
 | .ret,σ=>bindK (outA P σ rs) (hold (fun a=>Q a σ.H) ⟨⟩)
 |_,_=>False
theorem shut_cell{w:World}{D:Nat}{x:Option (List Deferred)}{o:Obj}(h:w.heap[D]? =some (.deferred x)){p:Addr}{v:Value}(hc:w.cell? p=some v):(w.putObj D o).cell? p=some v:=by
 have hne:p.block≠D:=fun e=>by
  unfold World.cell? at hc;rw[e,h]at hc;simp at hc
 unfold World.cell? at hc⊢;rw[World.putObj_heap_other hne];exact hc
theorem RV.shut{E:Env}{w:World}{D:Nat}{x:Option (List Deferred)}{o:Obj}(h:w.heap[D]? =some (.deferred x)){a:AV}{v:Value}(r:RV E w a v):RV E (w.putObj D o) a v:=by
 induction r with
 |c x hx=>exact .c x hx
 |agg xs vs hl _ ih=>exact .agg xs vs hl ih
 |tup xs vs hl _ ih=>exact .tup xs vs hl ih
 |snap rows b off s n cap vs hn hcap hs hL hc hr ih=>exact .snap rows b off s n cap vs hn hcap hs hL (fun i j row x h1 h2=>shut_cell h (hc i j row x h1 h2)) ih
 |snap0 a cap=>exact .snap0 a cap
 |sptr rows i o b off s vs hs hL hc hr ih=>exact .sptr rows i o b off s vs hs hL (fun i j row x h1 h2=>shut_cell h (hc i j row x h1 h2)) ih
 |own id off len cap hid hlc hsz=>
  obtain⟨cur,e,f,h1,h2⟩:=hsz;exact .own id off len cap hid hlc ⟨cur,e,f,by rw[World.putObj_heap_other (fun e=>by rw[e,h]at h1;cases h1)];exact h1,h2⟩
 |own0 id off a hid=>exact .own0 id off a hid
 |sub id i o len cap hid hlc hsz=>
  obtain⟨cur,e,f,h1,h2⟩:=hsz;exact .sub id i o len cap hid hlc ⟨cur,e,f,by rw[World.putObj_heap_other (fun e=>by rw[e,h]at h1;cases h1)];exact h1,h2⟩
 |ptr id i o hid=>exact .ptr id i o hid
 |fn f first cap vf vc hl hl2 _ _ ih1 ih2=>exact .fn f first cap vf vc hl hl2 ih1 ih2
 |omap id hid=>exact .omap id hid
 |yld id hid=>exact .yld id hid
theorem BlkOK.shut{E:Env}{w:World}{G:Nat→Option Blk}{id D:Nat}{x:Option (List Deferred)}{o:Obj}(h:w.heap[D]? =some (.deferred x)){b:Blk}(r:BlkOK E w G id b):BlkOK E (w.putObj D o) G id b:=by
 cases b with
 |cells elem s rows wr a=>
  obtain⟨h1,h2,⟨cur,h3,h4,h5⟩,h6⟩:=r;refine⟨h1,h2,⟨cur,by rw[World.putObj_heap_other (fun e=>by rw[e,h]at h3;cases h3)];exact h3,h4,fun i j row x hr hx=> ?_⟩,h6⟩
  obtain⟨v,hv1,hv2⟩:=h5 i j row x hr hx;exact⟨v,hv1,hv2.shut h⟩
 |map es=>
  obtain⟨⟨ms,clock,h1,h2,h3,h4⟩,h5⟩:=r;refine⟨⟨ms,clock,by rw[World.putObj_heap_other (fun e=>by rw[e,h]at h1;cases h1)];exact h1,h2,h3,fun i k x hx=> ?_⟩,h5⟩
  obtain⟨e,he1,he2,he3⟩:=h4 i k x hx;exact⟨e,he1,he2,he3.shut h⟩
 |iter m n seen=>
  obtain⟨⟨h1,h3⟩,h5⟩:=r;exact⟨⟨by rw[World.putObj_heap_other (fun e=>by rw[e,h]at h1;cases h1)];exact h1,h3⟩,h5⟩
 |rcd env nt ps assign body st pend=>
  obtain⟨⟨fn,tmps,D',h1,h2,h3⟩,h5⟩:=r;refine⟨⟨fn,tmps,D',by rw[World.putObj_heap_other (fun e=>by rw[e,h]at h1;cases h1)];exact h1,h2,fun t c a ht=> ?_⟩,h5⟩
  obtain⟨v,he1,he2,he3⟩:=h3 t c a ht;exact⟨v,he1,fun hc=>(he2 hc).shut h,he3⟩
theorem RH.shut{E:Env}{w:World}{H:Heap}{D:Nat}{x:Option (List Deferred)}{o:Obj}(h:w.heap[D]? =some (.deferred x))(r:RH E w H):RH E (w.putObj D o) H:=
 ⟨r.next,fun b hb=>r.core.lim b (by simpa using hb),fun id hid=>by simpa using r.core.inW id hid,fun id b hg=>⟨(r.core.ok id b hg).1,(r.core.ok id b hg).2.shut h⟩⟩
theorem Rel.shut{E:Env}{w:World}{σ:AS}{act:Act}{D:Nat}{x:Option (List Deferred)}{o:Obj}(h:w.heap[D]? =some (.deferred x))(r:Rel E w σ {act with defers:=[]}):Rel E (w.putObj D o) σ {act with defers:=[]}:=
 ⟨Marks.nil _ _,r.size,fun t c a ha=>let ⟨v,h1,h2,h3⟩:=r.env t c a ha;⟨v,h1,fun hc=>(h2 hc).shut h,h3⟩,r.heap.shut h⟩
theorem Evo.shut{E E':Env}{W w:World}{D:Nat}{o:Obj}(hv:Evo E W E' w)(hL:∀b,W.heap.size≤b→E.L b=0)(hD:W.heap.size≤D):Evo E W E' (w.putObj D o):=by
 have hb:∀b,b<W.heap.size→(w.putObj D o).heap[b]? =w.heap[b]? :=fun b h=>World.putObj_heap_other (by omega)
 refine⟨hv.os,hv.tape,hv.output,by simpa using hv.size,hv.used,hv.ren,hv.lim,fun b k hk=> ?_,fun b h hf=>(hb b h).trans (hv.foreign b h hf),fun b cur e f hc=> ?_,hv.still,hv.fresh,fun b r hr=> ?_⟩
 ·have hlt:b<W.heap.size:=by
   rcases Nat.lt_or_ge b W.heap.size with h|h
   ·exact h
   ·rw[hL b h]at hk;omega
  rw[←hv.prot b k hk];unfold World.cell?;rw[hb b hlt]
 ·rw[hb b (Array.getElem?_eq_some_iff.1 hc).1];exact hv.sizes b cur e f hc
 ·rw[hb b (Array.getElem?_eq_some_iff.1 hr).1];exact hv.loops b r hr
theorem leaves_marks{P:Program}{fn:Func}{tmps:Array Value}{R:Ending→World→Prop}{I:World→Prop}{u:FrameMode}(hu:u≠ .run){rest:List Deferred}:∀(ds:List Deferred) (Ds:List Nat),ds.filter isMark=Ds.map markD→oldD ds=[]→Ds.Nodup→(∀D∈Ds,∀w,w.heap[D]? =some (.deferred (some []))→I w→I (w.putObj D (.deferred none)))→
  (∀w,I w→LeavesInM Fence.wide 3 P fn tmps R rest u w)→∀{w:World},(∀D∈Ds,w.heap[D]? =some (.deferred (some [])))→I w→LeavesInM Fence.wide 3 P fn tmps R (ds++rest) u w
 |[],_,_,_,_,_,fin,w,_,hI=>fin w hI
 |d::ds,Ds,hm,ho,hn,hs,fin,w,hw,hI=>by
  have hd:isMark d=true:=by
   cases h:isMark d with
   |true=>rfl
   |false=>
    unfold oldD at ho;rw[List.filter_cons_of_pos (by simp[h])]at ho
    cases ho
  rw[List.filter_cons_of_pos hd]at hm;cases Ds with
  |nil=>simp at hm
  |cons D Ds=>
   rw[List.map_cons,List.cons.injEq]at hm;obtain⟨rfl,hm⟩:=hm;have h0:=hw D (by simp)
   rw[List.nodup_cons]at hn;refine⟨hu,.inl ⟨D,w.putObj D (.deferred none),rfl,run_takeDeferred h0,?_⟩⟩
   have ho':oldD ds=[]:=by
    unfold oldD at ho⊢;rw[List.filter_cons_of_neg (by simp[hd])]at ho
    exact ho
   refine leaves_marks hu ds Ds hm ho' hn.2 (fun D' hD'=>hs D' (by simp[hD'])) fin (fun D' hD'=> ?_) (hs D (by simp) w h0 hI)
   rw[World.putObj_heap_other (fun e=>hn.1 (by rw[←e];exact hD'))]
   exact hw D' (by simp[hD'])
theorem acall{P:Program}{n:FuncId}{fn:Func}{c:Code}{args:List AV}{H:Heap}{Q:AV→Heap→Prop}(hf:P.funcs[n]? =some fn)(hb:fn.body=some c)(hnm:(fn.name== "runtime.NumGoroutine")=false)(hlen:args.length≤fn.ntmps)
  (h:AW P c ⟨envOf 0 args,H,fn.ntmps⟩ (hold (endA P fn.results.toList (hold Q ⟨⟩)) ⟨⟩)):ACall P n args H Q:=by
 refine⟨by unfold enterable;rw[hf];simp[hnm,hb],fun E W vs hH hr=> ?_⟩
 refine callsIn_wide.1 (callsIn_of_wp_marks (F:=Fence.wide) (n:=3) hf hb trivial ?_)
 have hrel:Rel E W ⟨envOf 0 args,H,fn.ntmps⟩ {tmps:=vs.toArray++Array.replicate (fn.ntmps-vs.toArray.size) undef,defers:=[]}:=by
  refine⟨Marks.nil E W,?_,fun t c a ha=> ?_,hH⟩
  ·have:=hr.1;simp;omega
  ·obtain⟨_,h1,hct⟩:=lk_envOf args 0 t _ ha
   obtain⟨v,h2,h3⟩:=hr.get h1;simp only[Nat.sub_zero]at h2;refine⟨v,?_,fun _=>h3,fun h=>by simp only at hct;rw[hct]at h;cases h⟩
   rw[Array.getElem?_append_left (by simpa using(List.getElem?_eq_some_iff.1 h2).1)]
   simpa using h2
 refine wpIn_mono (h none E W _ (fun l h=>by cases h) hrel) fun e a w ⟨E',σ',h1,h2,h3,h4⟩=> ?_
 have fin:bindK (outA P σ' fn.results.toList) (hold (fun a=>Q a σ'.H) ⟨⟩)→LeavesInM Fence.wide 3 P fn a.tmps (fun e W'=>∃v,e= .returned v∧∃E' r H',Evo E W E' W'∧RH E' W' H'∧RV E' W' r v∧Q r H') a.defers .returning w:=fun hq=>by
  obtain⟨b,hb,hq⟩:=bindK_out hq;obtain⟨Ds,hD1,hD2,hD3⟩:=h2.defers;have hD4:∀D∈Ds,W.heap.size≤D:=fun D hD=>(h1.new D (mark_of hD1 hD)).resolve_left (fun h=>by cases h)
  have key:=leaves_marks (P:=P) (fn:=fn) (tmps:=a.tmps) (R:=fun e W'=>∃v,e= .returned v∧∃E' r H',Evo E W E' W'∧RH E' W' H'∧RV E' W' r v∧Q r H') (I:=fun w'=>Evo E W E' w'∧Rel E' w' σ' {a with defers:=[]}) (u:= .returning) (by simp) (rest:=[]) a.defers Ds hD1 h1.old hD2 (fun D hD w' hw hI=>⟨hI.1.shut hH.core.lim (hD4 D hD),hI.2.shut hw⟩) (fun w' hI=> ?_) (fun D hD=>(hD3 D hD).1) ⟨h1.evo,⟨Marks.nil _ _,h2.size,h2.env,h2.heap⟩⟩
  ·rw[List.append_nil]at key;exact key
  ·obtain⟨v,h5,h6⟩:=run_results hI.2 hb
   exact⟨v,h5,v,rfl,E',b,σ'.H,hI.1,hI.2.heap,h6,hq⟩
 cases e with
 |normal=>exact fin h4
 |ret=>exact fin h4
 |_=>exact h4.elim
end Go.AL
namespace Go.AL
open Go.RowKit
def subRow:Option Blk→Nat→Option (List AV)
 |some (.cells _ _ rows _ _),i=>rows[i]?
 |_,_=>none
theorem subRow_out{b:Option Blk}{i:Nat}{row:List AV}(h:subRow b i=some row):∃e s rows w a,b=some (.cells e s rows w a)∧rows[i]? =some row:=by
 unfold subRow at h;split at h
 ·exact⟨_,_,_,_,_,rfl,h⟩
 ·cases h
theorem sub_rv{E:Env}{W:World}{b i o len cap s:Nat}{cur:Array Value}{e:TypeId}{row:List AV}(hcur:W.heap[b]? =some (Obj.cells cur e (0,0)))(hle:o+len≤row.length)(hlc:len≤cap)(hL:i*s+o+len≤E.L b)
  (hcells:∀(j:Nat) x,o≤j→j<o+len→row[j]? =some x→∃u,cur[i*s+j]? =some u∧RV E W x u):RV E W (.snap (((row.drop o).take len).map fun x=> [x])) (.slice (some ⟨b,i*s+o,none⟩) len cap):=by
 have hget:∀(k j:Nat) r x,(((row.drop o).take len).map fun x=> [x])[k]? =some r→r[j]? =some x→j=0∧k<len∧row[o+k]? =some x:=fun k j r x h1 h2=>by
  rw[List.getElem?_map]at h1;obtain⟨y,hy,rfl⟩:=map_some h1;rw[List.getElem?_take]at hy;split at hy
  ·rename_i hk
   rw[List.getElem?_drop]at hy;cases j with
   |zero=>simp at h2;subst h2;exact⟨rfl,hk,hy⟩
   |succ j=>simp at h2
  ·cases hy
 have hlen:(((row.drop o).take len).map fun x=> [x]).length=len:=by simp;omega
 refine .snap _ b (i*s+o) 1 len cap (fun k _=>cur.getD (i*s+(o+k)) undef) hlen.symm hlc (fun k r hr=> ?_) (by rw[hlen];omega) (fun k j r x h1 h2=> ?_) (fun k j r x h1 h2=> ?_)
 ·rw[List.getElem?_map]at hr
  obtain⟨y,hy,rfl⟩:=map_some hr;rfl
 ·obtain⟨rfl,hk,hx⟩:=hget k j r x h1 h2
  obtain⟨u,h3,h4⟩:=hcells (o+k) x (by omega) (by omega) hx
  rw[cell_of_row W _ _ cur e (0,0) hcur,show i*s+o+(k*1+0)=i*s+(o+k)by omega,h3]
  simp[h3]
 ·obtain⟨rfl,hk,hx⟩:=hget k j r x h1 h2
  obtain⟨u,h3,h4⟩:=hcells (o+k) x (by omega) (by omega) hx
  simp only[Array.getD_eq_getD_getElem?,h3,Option.getD_some];exact h4
theorem row_le{rows:List (List AV)}{i s:Nat}(h:i<rows.length):i*s+s≤rows.length*s:=by
 have:=Nat.mul_le_mul_right s (show i+1≤rows.length from h)
 rw[Nat.add_mul]at this;omega
def expo1(G:Nat→Option Blk)(a:AV):AV:=
 match a with
 | .own id off len=>match rowsOf G (.own id off len)with
   |some (rows,_)=> .snap rows
   |none=>a
 | .ptr id i o=>match G id with
   |some (.cells _ _ rows _ _)=> .sptr rows i o
   |_=>a
 | .sub id i o len=>match subRow (G id) i with
   |some row=>if o+len≤row.length then .snap (((row.drop o).take len).map fun x=> [x])else a
   |none=>a
 |_=>a
def expo2(G:Nat→Option Blk)(a:AV):AV:=
 match a with
 | .agg xs=> .agg (xs.map (expo1 G))
 | .fn f xs ys=> .fn f (xs.map (expo1 G)) (ys.map (expo1 G))
 |_=>expo1 G a
def expo(G:Nat→Option Blk)(a:AV):AV:=
 match a with
 | .tup xs=> .tup (xs.map (expo2 G))
 |_=>expo2 G a
section
variable {E : Env} {W : World} {G : Nat → Option Blk} {L : Nat → Nat}
theorem expo1_ok(hG:RC E W G)(hL:∀b,E.L b≤L b)(hown:∀id,E.U id→∀(cur:Array Value) (e:TypeId) (f:Nat×Nat),W.heap[E.ι id]? =some (Obj.cells cur e f)→cur.size≤L (E.ι id)){a:AV}{v:Value}(r:RV E W a v)(h:NoId (expo1 G a)):RV (Env0 L) W (expo1 G a) v:=by
 unfold expo1 at h⊢;split at h
 ·rename_i id off len
  split at h
  ·rename_i rows rd hrows
   have hU:=(own_inv r).1;rcases(own_inv r).2 with⟨cap,hv,hlc,cur0,e0,f0,hcur0,hsz0⟩|⟨hl0,a0,hv⟩
   ·subst hv
    simp only[rowsOf]at hrows;split at hrows
    ·rename_i e s rows' w ap hget
     split at hrows
     ·rename_i hle
      simp only[Option.some.injEq,Prod.mk.injEq]at hrows;obtain⟨rfl,rfl⟩:=hrows;obtain⟨_,hszk,hlen,⟨cur,hcur,hsize,hcells⟩,_,_⟩:=hG.ok id _ hget;rw[hcur]at hcur0;injection hcur0 with hcur0
      injection hcur0 with hcur0 he0 hf0
      subst hcur0;subst he0;subst hf0;have hLc:=hown id hU cur e (0,0) hcur;rw[noId_snap]at h
      have hget':∀(i:Nat) row,((rows'.drop off).take len)[i]? =some row→rows'[off+i]? =some row:=fun i row hr=>by
       rw[List.getElem?_take]at hr;split at hr
       ·rwa[List.getElem?_drop]at hr
       ·cases hr
      have hll:((rows'.drop off).take len).length=len:=by simp;omega
      have hmul:(off+len)*s≤rows'.length*s:=Nat.mul_le_mul_right s hle;refine .snap _ (E.ι id) (off*E.sz id) s len cap (fun i j=>cur.getD ((off+i)*s+j) undef) hll.symm hlc (fun i row hr=>hlen _ row (hget' i row hr)) ?_ (fun i j row x h1 h2=> ?_) (fun i j row x h1 h2=> ?_)
      ·rw[hll,hszk,←Nat.add_mul];simp only[Env0];omega
      ·obtain⟨u,h3,h4⟩:=hcells _ j row x (hget' i row h1) h2
       rw[cell_of_row W _ _ cur e (0,0) hcur,hszk];have he:off*s+(i*s+j)=(off+i)*s+j:=by rw[Nat.add_mul];omega
       rw[he,h3];simp[h3]
      ·obtain⟨u,h3,h4⟩:=hcells _ j row x (hget' i row h1) h2
       simp only[Array.getD_eq_getD_getElem?,h3,Option.getD_some];exact h4.toPlain hL (h row (List.mem_of_getElem? h1) x (List.mem_of_getElem? h2))
     ·cases hrows
    ·cases hrows
   ·subst hl0;subst hv
    have:rows=[]:=by
     simp only[rowsOf]at hrows;split at hrows
     ·split at hrows
      ·simp at hrows;exact hrows.1
      ·cases hrows
     ·cases hrows
    subst this;exact .snap0 _ _
  ·cases h
 ·rename_i id i o
  split at h
  ·rename_i e s rows w ap hget
   cases r with
   |ptr _ _ _ hU=>
   obtain⟨_,hszk,hlen,⟨cur,hcur,hsize,hcells⟩,_,_⟩:=hG.ok id _ hget;have hLc:=hown id hU cur e (0,0) hcur;cases h with
   |sptr _ _ _ h=>
   have:=RV.sptr (E:=Env0 L) (W:=W) rows i o (E.ι id) 0 s (fun i j=>cur.getD (i*s+j) undef) hlen (by simp only[Env0];omega) (fun i j row x h1 h2=>by
    obtain⟨u,h3,h4⟩:=hcells i j row x h1 h2;rw[cell_of_row W _ _ cur e (0,0) hcur,Nat.zero_add,h3];simp[h3]) (fun i j row x h1 h2=>by
    obtain⟨u,h3,h4⟩:=hcells i j row x h1 h2;simp only[Array.getD_eq_getD_getElem?,h3,Option.getD_some]
    exact h4.toPlain hL (h row (List.mem_of_getElem? h1) x (List.mem_of_getElem? h2)))
   rw[hszk];simpa using this
  ·cases h
 ·rename_i id i o len
  split at h
  ·rename_i row hrow
   obtain⟨e,s,rows,w,ap,hget,hri⟩:=subRow_out hrow;by_cases hle:o+len≤row.length
   ·rw[if_pos hle]at h⊢
    cases r with
    |sub _ _ _ _ cap hU hlc hsz0=>
    obtain⟨_,hszk,hlen,⟨cur,hcur,hsize,hcells⟩,_,_⟩:=hG.ok id _ hget;have hLc:=hown id hU cur e (0,0) hcur;rw[noId_snap]at h;have hrl:=hlen i row hri;have hlt:i<rows.length:=(List.getElem?_eq_some_iff.1 hri).1;have hm:=row_le (s:=s) hlt;rw[hszk];refine sub_rv (E:=Env0 L) (s:=s) hcur hle hlc (show i*s+o+len≤L (E.ι id)by omega) fun j x h1 h2 hx=> ?_
    obtain⟨u,h3,h4⟩:=hcells i j row x hri hx;refine⟨u,h3,h4.toPlain hL (h [x] (List.mem_map.2 ⟨x,?_,rfl⟩) x (by simp))⟩
    refine List.mem_of_getElem? (i:=j-o) ?_;rw[List.getElem?_take_of_lt (by omega),List.getElem?_drop,show o+(j-o)=j by omega]
    exact hx
   ·rw[if_neg hle]at h
    cases h
  ·cases h
 ·exact r.toPlain hL h
theorem expo2_ok(hG:RC E W G)(hL:∀b,E.L b≤L b)(hown:∀id,E.U id→∀(cur:Array Value) (e:TypeId) (f:Nat×Nat),W.heap[E.ι id]? =some (Obj.cells cur e f)→cur.size≤L (E.ι id)){a:AV}{v:Value}(r:RV E W a v)(h:NoId (expo2 G a)):RV (Env0 L) W (expo2 G a) v:=by
 unfold expo2 at h⊢;split at h
 ·rename_i xs
  rw[noId_agg]at h;cases r with
  |agg _ vs hl hr=>
  refine .agg _ vs (by simpa using hl) fun i x v hx hv=> ?_
  rw[List.getElem?_map]at hx;obtain⟨y,hy,rfl⟩:=map_some hx;exact expo1_ok hG hL hown (hr i y v hy hv) (h _ (List.mem_map.2 ⟨y,List.mem_of_getElem? hy,rfl⟩))
 ·rename_i f xs ys
  cases h with
  |fn _ _ _ hn1 hn2=>
  cases r with
  |fn _ _ _ vf vc hl hl2 hr hr2=>
  refine .fn _ _ _ vf vc (by simpa using hl) (by simpa using hl2) (fun i x v hx hv=> ?_) (fun i x v hx hv=> ?_)
  ·rw[List.getElem?_map]at hx
   obtain⟨y,hy,rfl⟩:=map_some hx;exact expo1_ok hG hL hown (hr i y v hy hv) (hn1 _ (List.mem_map.2 ⟨y,List.mem_of_getElem? hy,rfl⟩))
  ·rw[List.getElem?_map]at hx
   obtain⟨y,hy,rfl⟩:=map_some hx;exact expo1_ok hG hL hown (hr2 i y v hy hv) (hn2 _ (List.mem_map.2 ⟨y,List.mem_of_getElem? hy,rfl⟩))
 ·exact expo1_ok hG hL hown r h
theorem expo_ok(hG:RC E W G)(hL:∀b,E.L b≤L b)(hown:∀id,E.U id→∀(cur:Array Value) (e:TypeId) (f:Nat×Nat),W.heap[E.ι id]? =some (Obj.cells cur e f)→cur.size≤L (E.ι id)){a:AV}{v:Value}(r:RV E W a v)(h:NoId (expo G a)):RV (Env0 L) W (expo G a) v:=by
 unfold expo at h⊢;split at h
 ·rename_i xs
  rw[noId_tup]at h;cases r with
  |tup _ vs hl hr=>
  refine .tup _ vs (by simpa using hl) fun i x v hx hv=> ?_
  rw[List.getElem?_map]at hx;obtain⟨y,hy,rfl⟩:=map_some hx;exact expo2_ok hG hL hown (hr i y v hy hv) (h _ (List.mem_map.2 ⟨y,List.mem_of_getElem? hy,rfl⟩))
 ·exact expo2_ok hG hL hown r h
end
theorem pcall{P:Program}{n:FuncId}{fn:Func}{c:Code}{args:List AV}{Q:AV→Prop}(hf:P.funcs[n]? =some fn)(hb:fn.body=some c)(hnm:(fn.name== "runtime.NumGoroutine")=false)(hlen:args.length≤fn.ntmps)
  (h:AW P c ⟨envOf 0 args,⟨0,tabG []⟩,fn.ntmps⟩ (hold (endA P fn.results.toList (hold (fun a H'=>NoId (expo H'.get a)∧Q (expo H'.get a)) ⟨⟩)) ⟨⟩)):PCall P n args Q:=by
 have hA:=acall hf hb hnm hlen h;refine⟨hA.1,fun L W vs hL hr=> ?_⟩
 have hRH:RH (Env0 L) W ⟨0,tabG []⟩:=⟨fun id h=>h.elim,hL,fun id h=>h.elim,fun id b h=>by cases h⟩
 refine(hA.2 (Env0 L) W vs hRH hr).mono fun e W' ⟨v,he,E',r,H',hv,hH,hrv,hno,hq⟩=> ?_
 refine⟨v,he,expo H'.get r,fun b=>if b<W.heap.size then L b else max (E'.L b) (match W'.heap[b]? with|some (.cells cur _ _)=>cur.size|_=>0),⟨hv.os,hv.tape,hv.output,hv.size,fun k hk=>hv.foreign k hk fun id h=>h.elim⟩,fun b hb'=> ?_,fun b hb'=> ?_,?_,hno,hq⟩
 ·simp[hb']
 ·have h1:¬b<W.heap.size:=by have:=hv.size;omega
  simp[h1,hH.core.lim b hb',Array.getElem?_eq_none hb']
 ·refine expo_ok hH.core (fun b=> ?_) (fun id hU cur e f hc=> ?_) hrv hno
  ·by_cases hb':b<W.heap.size
   ·rw[hv.still b hb' fun id h=>h.elim]
    simp[hb',Env0]
   ·simp[hb'];omega
  ·have h1:¬E'.ι id<W.heap.size:=by
    rcases hv.fresh id (fun h=>h) hU with h2|⟨id0,h2,_⟩
    ·omega
    ·exact h2.elim
   simp[h1,hc];omega
end Go.AL
