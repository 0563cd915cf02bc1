/- Staging: a layer over the walks (Le). No condition but those named. -/
import Derived.Test.YtioafciifiggaaaGreatDoorLc
import Derived.RecoverIn
set_option linter.unusedVariables false
set_option linter.unusedSimpArgs false
namespace Go.AL
theorem pcallD(k:Nat){P:Program}{n:FuncId}{fn:Func}{c:Code}{args:List AV}{Q:AV→Prop}(hf:P.funcs[n]? =some fn)(hb:fn.body=some c)(hnm:(fn.name== "runtime.NumGoroutine")=false)(hlen:args.length≤fn.ntmps)
  (h:AW P c ⟨envOf 0 args,⟨0,tabG []⟩,fn.ntmps⟩ (hold (endA P fn.results.toList (hold (fun a H'=>NoId (expoD H'.get k a)∧Q (expoD H'.get k a)) ⟨⟩)) ⟨⟩)):PCall P n args Q:=by
 have hA:=acall hf hb hnm hlen h;refine⟨hA.1,fun L W vs hL hr=> ?_⟩
 have hRH:RH (Env0 L) W ⟨0,tabG []⟩:=⟨fun id h=>h.elim,hL,fun id h=>h.elim,fun id b h=>by cases h⟩
 refine(hA.2 (Env0 L) W vs hRH hr).mono fun e W' ⟨v,he,E',r,H',hv,hH,hrv,hno,hq⟩=> ?_
 refine⟨v,he,expoD H'.get k r,fun b=>if b<W.heap.size then L b else max (E'.L b) (match W'.heap[b]? with|some (.cells cur _ _)=>cur.size|_=>0),⟨hv.os,hv.tape,hv.output,hv.size,fun k hk=>hv.foreign k hk fun id h=>h.elim⟩,fun b hb'=> ?_,fun b hb'=> ?_,?_,hno,hq⟩
 ·simp[hb']
 ·have h1:¬b<W.heap.size:=by have:=hv.size;omega
  simp[h1,hH.core.lim b hb',Array.getElem?_eq_none hb']
 ·refine expoD_ok hH.core (fun b=> ?_) (fun id hU cur e f hc=> ?_) k hrv hno
  ·by_cases hb':b<W.heap.size
   ·rw[hv.still b hb' fun id h=>h.elim]
    simp[hb',Env0]
   ·simp[hb'];omega
  ·have h1:¬E'.ι id<W.heap.size:=by
    rcases hv.fresh id (fun h=>h) hU with h2|⟨id0,h2,_⟩
    ·omega
    ·exact h2.elim
   simp[h1,hc];omega
set_option linter.constructorNameAsVariable false
end Go.AL
namespace Go.AL
theorem ostart{P:Program}{n:FuncId}{fn:Func}{c:Code}{args:List AV}{e:TypeId}{k:Nat}{rows:List (List AV)}{rs:List ResultVar}{nt:Nat}(hf:P.funcs[n]? =some fn)(hnt:fn.ntmps=nt)(ha:∀a∈args,NoId a)(hrows:∀row∈rows,∀x∈row,NoId x)
  (h:AW P c ⟨envOf 0 args,⟨0,tabG []⟩,nt⟩ (hold (endA P rs (hold (fun a H'=>∃i,a= .own i 0 rows.length∧H'.get i=some (.cells e k rows true true)) ⟨⟩)) ⟨⟩))
  (hb:fn.body=some c:=by rfl) (hr:fn.results=List.toArray rs:=by rfl) (hnm:(fn.name== "runtime.NumGoroutine")=false:=by kernel_rfl) (hlen:args.length≤nt:=by(simp only[List.length_cons,List.length_nil];decide)):OCall P n args e k rows:=by
 refine ocall ha hrows hf hb hnm (by rw[hnt];exact hlen) ?_
 rw[hnt,hr];exact h
theorem noId_sptr{rows:List (List AV)}{i o:Nat}:NoId (.sptr rows i o)↔∀row∈rows,∀x∈row,NoId x:=⟨fun h=>by cases h;assumption,.sptr rows i o⟩
theorem noId_fn{f:Fn}{xs ys:List AV}:NoId (.fn f xs ys)↔(∀x∈xs,NoId x)∧∀x∈ys,NoId x:=⟨fun h=>by cases h;exact⟨by assumption,by assumption⟩,fun h=> .fn f xs ys h.1 h.2⟩
theorem pstart{P:Program}{n:FuncId}{fn:Func}{c:Code}{args:List AV}{b:AV}{rs:List ResultVar}{nt:Nat}(hf:P.funcs[n]? =some fn)(hnt:fn.ntmps=nt)(hno:NoId b)
  (h:AW P c ⟨envOf 0 args,⟨0,tabG []⟩,nt⟩ (hold (endA P rs (hold (fun a H'=>NoId (expo H'.get a)∧Wk (expo H'.get a) b) ⟨⟩)) ⟨⟩))
  (hb:fn.body=some c:=by(first|rfl|fail)) (hr:fn.results=List.toArray rs:=by(first|rfl|fail)) (hnm:(fn.name== "runtime.NumGoroutine")=false:=by(first|kernel_rfl|fail)) (hlen:args.length≤nt:=by(simp only[List.length_cons,List.length_nil];decide)):PCall P n args (·=b):=by
 refine PCall.wk ?_ hno;refine pcall hf hb hnm (by rw[hnt];exact hlen) ?_
 rw[hnt,hr];exact h
theorem pstartD{P:Program}{n:FuncId}{fn:Func}{c:Code}{args:List AV}{b:AV}{rs:List ResultVar}{nt:Nat}(hf:P.funcs[n]? =some fn)(hnt:fn.ntmps=nt)(hno:NoId b)
  (h:AW P c ⟨envOf 0 args,⟨0,tabG []⟩,nt⟩ (hold (endA P rs (hold (fun a H'=>NoId (expoD H'.get 4 a)∧Wk (expoD H'.get 4 a) b) ⟨⟩)) ⟨⟩))
  (hb:fn.body=some c:=by(first|rfl|fail)) (hr:fn.results=List.toArray rs:=by(first|rfl|fail)) (hnm:(fn.name== "runtime.NumGoroutine")=false:=by(first|kernel_rfl|fail)) (hlen:args.length≤nt:=by(simp only[List.length_cons,List.length_nil];decide)):PCall P n args (·=b):=by
 refine PCall.wk ?_ hno;refine pcallD 4 hf hb hnm (by rw[hnt];exact hlen) ?_
 rw[hnt,hr];exact h
theorem sc_ret{Q:Exit→AS→Prop}{σ:AS}(h:Q .ret σ):scopeA Q .ret σ:=h
theorem sc_norm{Q:Exit→AS→Prop}{σ:AS}(h:Q .normal σ):scopeA Q .normal σ:=h
section
variable {P : Program} {σ : AS} {Q : Exit → AS → Prop}
theorem zregion{id:Nat}{ops:Array Oper}{p:AS×List Oper}(h:aops P true ops p.2 p.1 (Q .normal))(hd:ops.toList.all (dstIn σ.nt)=true:=by(first|rfl|fail))
  (hr:run P ops.toList ops.toList σ=p:=by(first|(simp(maxSteps:=2000000) (disch:=omega) only[go_sem, *]<;>exact rfl)|fail)):AW P (.region id ops false) σ Q:=w_region hd hr h
theorem zcondT{c:Operand}{x y:Code}(h:AW P x σ Q)(hc:asB (σ.get true c)=some true:=by(first|(simp(maxSteps:=2000000) (disch:=omega) only[go_sem, *];done)|fail)):AW P (.cond c x y) σ Q:=w_condT hc h
theorem zcondF{c:Operand}{x y:Code}(h:AW P y σ Q)(hc:asB (σ.get true c)=some false:=by(first|(simp(maxSteps:=2000000) (disch:=omega) only[go_sem, *];done)|fail)):AW P (.cond c x y) σ Q:=w_condF hc h
theorem zsplit{c:Operand}{x y:Code}{b:Bool}(ht:b=true→AW P x σ Q)(hf:b=false→AW P y σ Q)(hc:asB (σ.get true c)=some b:=by(first|(simp(maxSteps:=2000000) (disch:=omega) only[go_sem, *]<;>exact rfl)|fail)):AW P (.cond c x y) σ Q:=w_cond hc ht hf
theorem zend{rs:List ResultVar}{Q:AV→Heap→Prop}{a:AV}(h:Q a σ.H)(ho:outA P σ rs=some a:=by(first|(simp(maxSteps:=2000000) (disch:=omega) only[go_sem, *]<;>exact rfl)|fail)):endA P rs Q .ret σ:=w_end ho h
theorem zendN{rs:List ResultVar}{Q:AV→Heap→Prop}{a:AV}(h:Q a σ.H)(ho:outA P σ rs=some a:=by(first|(simp(maxSteps:=2000000) (disch:=omega) only[go_sem, *]<;>exact rfl)|fail)):endA P rs Q .normal σ:=w_endN ho h
section
variable {ops : List Oper} {N0 i : Nat} {o : Oper} {r : List Oper} {σ'' : AS} {es : List Entry} {f : Operand} {as : Array Operand} {ts : Array TypeId} {n : FuncId}
theorem d_runZ{l:List Oper}{p:List Entry×AS×Nat×List Oper}(hr:runD P ops N0 i l σ=p)(h:DRun P ops N0 p.2.2.1 p.2.2.2 p.2.1 es σ''):DRun P ops N0 i l σ (p.1++es) σ'':=d_run hr h
theorem d_callPZ{args:List AV}{a:AV}(hop:o.op= .call ⟨.value f,as,ts⟩)(hg:o.guard=none)
  (hc:calleeA (σ.get true f) (getsA (σ.get true) as.toList)=some (n,args)) (hp:PCall P n args (·=a)) (hn:∀a∈args,NoId a) (h:DRun P ops N0 (i+1) r (σ.app o.dst ⟨true,a,[],[]⟩) es σ''):DRun P ops N0 i (o::r) σ (⟨true,a,[],[]⟩::es) σ'':=d_callP hop hg hp hc hn h
theorem d_skipZ{j:Nat}{want:Bool}(hg:o.guard=some (j,want))(hw:gcond (gval ops j σ.env) want=some false)(h:DRun P ops N0 (i+1) r (σ.app o.dst ⟨false,.c (.bool false),[],[]⟩) es σ''):DRun P ops N0 i (o::r) σ (⟨false,.c (.bool false),[],[]⟩::es) σ'':=
 .cons i o r σ _ es σ'' (.skip (by unfold gOK;rw[hg];exact hw) rfl rfl) h
theorem d_callGZ{args:List AV}{a:AV}{j:Nat}{want c:Bool}(hop:o.op= .call ⟨.value f,as,ts⟩)(hg:o.guard=some (j,want))
  (hw:gcond (gval ops j σ.env) want=some c) (hc:calleeA (σ.get c f) (getsA (σ.get c) as.toList)=some (n,args)) (hp:PCall P n args (·=a)) (hn:∀a∈args,NoId a) (h:DRun P ops N0 (i+1) r (σ.app o.dst ⟨c,a,[],[]⟩) es σ''):DRun P ops N0 i (o::r) σ (⟨c,a,[],[]⟩::es) σ'':=d_callG hop hg hw hp hc hn h
theorem d_callR{args0 args:List AV}{a:AV}{rd:List Nat}(hop:o.op= .call ⟨.value f,as,ts⟩)(hg:o.guard=none)(hc:calleeA (σ.get true f) (getsA (σ.get true) as.toList)=some (n,args0))(he:args0.map (expoD σ.H.get 3)=args)(hrd:args0.flatMap (idsD σ.H.get 3)=rd)(hp:FCall P n args a)(hn:∀a∈args,NoId a)
  (h:DRun P ops N0 (i+1) r (σ.app o.dst ⟨true,a,[],rd⟩) es σ''):DRun P ops N0 i (o::r) σ (⟨true,a,[],rd⟩::es) σ'':=
 .cons i o r σ _ es σ'' (.rcall f as ts n args0 args 3 hop (by unfold gOK;rw[hg]) rfl hc he hn hp rfl fun x hx id hid=>by rw[←hrd];exact List.mem_flatMap.2 ⟨x,hx,hid⟩) h
theorem d_callRG{args0 args:List AV}{a:AV}{rd:List Nat}{j:Nat}{want:Bool}(hop:o.op= .call ⟨.value f,as,ts⟩)(hg:o.guard=some (j,want))(hw:gcond (gval ops j σ.env) want=some true)(hc:calleeA (σ.get true f) (getsA (σ.get true) as.toList)=some (n,args0))(he:args0.map (expoD σ.H.get 3)=args)(hrd:args0.flatMap (idsD σ.H.get 3)=rd)(hp:FCall P n args a)(hn:∀a∈args,NoId a)
  (h:DRun P ops N0 (i+1) r (σ.app o.dst ⟨true,a,[],rd⟩) es σ''):DRun P ops N0 i (o::r) σ (⟨true,a,[],rd⟩::es) σ'':=
 .cons i o r σ _ es σ'' (.rcall f as ts n args0 args 3 hop (by unfold gOK;rw[hg];exact hw) rfl hc he hn hp rfl fun x hx id hid=>by rw[←hrd];exact List.mem_flatMap.2 ⟨x,hx,hid⟩) h
end
theorem zdraw{σ':AS}{id:Nat}{ops:Array Oper}{es:List Entry}(h:Q .normal σ')(hm:P.follows .mixedOrders=true:=by(first|kernel_rfl|fail))(hs:statB ops=true:=by(first|kernel_rfl|fail))(hd:ops.toList.all (dstIn σ.nt)=true:=by(first|rfl|fail))
  (hr:DRun P ops.toList σ.H.next 0 ops.toList {σ with H:=⟨σ.H.next+ops.size,σ.H.get⟩} es σ':=by(first|(apply d_runZ;(next=>(first|(simp(maxSteps:=2000000) (disch:=omega) only[go_sem, *]<;>exact rfl)|fail));(repeat (first|exact d_nil|(apply d_skipZ;(next=>(first|rfl|fail));(next=>(first|(simp(maxSteps:=2000000) (disch:=omega) only[go_sem, *]<;>exact rfl)|fail));apply d_runZ;(next=>(first|(simp(maxSteps:=2000000) (disch:=omega) only[go_sem, *]<;>exact rfl)|fail)))|(apply d_callPZ;(next=>(first|rfl|fail));(next=>(first|rfl|fail));(next=>(first|(simp(maxSteps:=2000000) (disch:=omega) only[go_sem, *]<;>exact rfl)|fail));(next=>(first|assumption|(apply_assumption<;>first|assumption|omega)|fail));(next=>(first|(simp(maxSteps:=2000000) only[go_sem,noId_fn,noId_sptr,false_implies,implies_true, *];done)|(simp[noId_c,noId_agg,noId_snap,noId_tup,noId_fn,noId_sptr,encL_noIdE, *];done)|fail));apply d_runZ;(next=>(first|(simp(maxSteps:=2000000) (disch:=omega) only[go_sem, *]<;>exact rfl)|fail)))|(apply d_callGZ;(next=>(first|rfl|fail));(next=>(first|rfl|fail));(next=>(first|(simp(maxSteps:=2000000) (disch:=omega) only[go_sem, *]<;>exact rfl)|fail));(next=>(first|(simp(maxSteps:=2000000) (disch:=omega) only[go_sem, *]<;>exact rfl)|fail));(next=>(first|assumption|(apply_assumption<;>first|assumption|omega)|fail));(next=>(first|(simp(maxSteps:=2000000) only[go_sem,noId_fn,noId_sptr,false_implies,implies_true, *];done)|(simp[noId_c,noId_agg,noId_snap,noId_tup,noId_fn,noId_sptr,encL_noIdE, *];done)|fail));apply d_runZ;(next=>(first|(simp(maxSteps:=2000000) (disch:=omega) only[go_sem, *]<;>exact rfl)|fail)))|(apply d_callR;(next=>(first|rfl|fail));(next=>(first|rfl|fail));(next=>(first|(simp(maxSteps:=2000000) (disch:=omega) only[go_sem, *]<;>exact rfl)|fail));(next=>(first|(simp(maxSteps:=2000000) (disch:=omega) only[go_sem, *]<;>exact rfl)|fail));(next=>(first|(simp(maxSteps:=2000000) (disch:=omega) only[go_sem, *]<;>exact rfl)|fail));(next=>(first|assumption|(apply_assumption<;>first|assumption|omega)|fail));(next=>(first|(simp(maxSteps:=2000000) only[go_sem,noId_fn,noId_sptr,false_implies,implies_true, *];done)|(simp[noId_c,noId_agg,noId_snap,noId_tup,noId_fn,noId_sptr,encL_noIdE, *];done)|fail));apply d_runZ;(next=>(first|(simp(maxSteps:=2000000) (disch:=omega) only[go_sem, *]<;>exact rfl)|fail)))|(apply d_callRG;(next=>(first|rfl|fail));(next=>(first|rfl|fail));(next=>(first|(simp(maxSteps:=2000000) (disch:=omega) only[go_sem, *]<;>exact rfl)|fail));(next=>(first|(simp(maxSteps:=2000000) (disch:=omega) only[go_sem, *]<;>exact rfl)|fail));(next=>(first|(simp(maxSteps:=2000000) (disch:=omega) only[go_sem, *]<;>exact rfl)|fail));(next=>(first|(simp(maxSteps:=2000000) (disch:=omega) only[go_sem, *]<;>exact rfl)|fail));(next=>(first|assumption|(apply_assumption<;>first|assumption|omega)|fail));(next=>(first|(simp(maxSteps:=2000000) only[go_sem,noId_fn,noId_sptr,false_implies,implies_true, *];done)|(simp[noId_c,noId_agg,noId_snap,noId_tup,noId_fn,noId_sptr,encL_noIdE, *];done)|fail));apply d_runZ;(next=>(first|(simp(maxSteps:=2000000) (disch:=omega) only[go_sem, *]<;>exact rfl)|fail))))))|fail))
  (hdyn:dynGo (tab ops.toList) 0 [] es=true:=by(first|(simp(maxSteps:=2000000) (disch:=omega) only[go_sem,nbeq_F,nbeq_T, *]<;>kernel_rfl)|fail)):AW P (.region id ops true) σ Q:=w_draw hm hs hd hr hdyn h
end
section
variable {P : Program} {σ : AS} {Q : Exit → AS → Prop}
theorem zcallH{ops:Array Oper}{o:Oper}{rest:List Oper}{K:AS→Prop}{f:Operand}{as:Array Operand}{ts:Array TypeId}{n:FuncId}{args:List AV}{r:AV}{p:AS×List Oper}(h:aops P true ops p.2 p.1 K)(hop:o.op= .call ⟨.value f,as,ts⟩:=by(first|rfl|fail))(hg:o.guard=none:=by(first|rfl|fail))
  (hc:calleeA (σ.get true f) (getsA (σ.get true) as.toList)=some (n,args):=by(first|(simp(maxSteps:=2000000) (disch:=omega) only[go_sem, *]<;>exact rfl)|fail)) (hp:PCall P n args (·=r):=by(first|assumption|(apply_assumption<;>first|assumption|omega)|fail)) (hn:∀a∈args,NoId a:=by(first|(simp(maxSteps:=2000000) only[go_sem,noId_fn,noId_sptr,false_implies,implies_true, *];done)|(simp[noId_c,noId_agg,noId_snap,noId_tup,noId_fn,noId_sptr,encL_noIdE, *];done)|fail))
  (hr:run P ops.toList rest (σ.put o.dst true r)=p:=by(first|(simp(maxSteps:=2000000) (disch:=omega) only[go_sem, *]<;>exact rfl)|fail)):aops P true ops (o::rest) σ K:=w_callP hop hg hp hc hn hr h
theorem FCall.act{n:FuncId}{args0 args:List AV}{a:AV}{H:Heap}(k:Nat)(h:FCall P n args a)(he:args0.map (expoD H.get k)=args)(ha:∀a∈args,NoId a):ACall P n args0 H fun r H'=>r=a∧H'=H:=
 ⟨h.1,fun E W vs hH hr=>(h.runR k he ha hH hH.core hr).mono fun e W' ⟨v,hev,L',h1,h2,h3⟩=>⟨v,hev,_,a,H,h1,h2,h3,rfl,rfl⟩⟩
theorem zcallF{ops:Array Oper}{o:Oper}{rest:List Oper}{K:AS→Prop}{f:Operand}{as:Array Operand}{ts:Array TypeId}{n:FuncId}{args0 args:List AV}{r:AV}{p:AS×List Oper}(h:aops P true ops p.2 p.1 K)(hop:o.op= .call ⟨.value f,as,ts⟩:=by(first|rfl|fail))(hg:o.guard=none:=by(first|rfl|fail))
  (hc:calleeA (σ.get true f) (getsA (σ.get true) as.toList)=some (n,args0):=by(first|(simp(maxSteps:=2000000) (disch:=omega) only[go_sem, *]<;>exact rfl)|fail)) (he:args0.map (expoD σ.H.get 3)=args:=by(first|(simp(maxSteps:=2000000) (disch:=omega) only[go_sem, *]<;>exact rfl)|fail)) (hp:FCall P n args r:=by(first|assumption|(apply_assumption<;>first|assumption|omega)|fail)) (hn:∀a∈args,NoId a:=by(first|(simp(maxSteps:=2000000) only[go_sem,noId_fn,noId_sptr,false_implies,implies_true, *];done)|(simp[noId_c,noId_agg,noId_snap,noId_tup,noId_fn,noId_sptr,encL_noIdE, *];done)|fail))
  (hr:run P ops.toList rest (σ.put o.dst true r)=p:=by(first|(simp(maxSteps:=2000000) (disch:=omega) only[go_sem, *]<;>exact rfl)|fail)):aops P true ops (o::rest) σ K:=
 w_callA hop hg hc (hp.act 3 he hn) fun r' H' ⟨h1,h2⟩=>by subst h1;subst h2;exact run_ok _ _ hr h
theorem zcallX{ops:Array Oper}{o:Oper}{rest:List Oper}{K:AS→Prop}{f:Operand}{as:Array Operand}{ts:Array TypeId}{n:FuncId}{args0 args:List AV}{r:AV}{G':Nat→Option Blk}{p:AS×List Oper}(h:aops P true ops p.2 p.1 K)(hop:o.op= .call ⟨.value f,as,ts⟩:=by(first|rfl|fail))(hg:o.guard=none:=by(first|rfl|fail))
  (hc:calleeA (σ.get true f) (getsA (σ.get true) as.toList)=some (n,args0):=by(first|(simp(maxSteps:=2000000) (disch:=omega) only[go_sem, *]<;>exact rfl)|fail)) (he:args0.map (expo2 σ.H.get)=args:=by(first|(simp(maxSteps:=2000000) (disch:=omega) only[go_sem, *]<;>exact rfl)|fail)) (hp:PCall P n args (·=r):=by(first|assumption|(apply_assumption<;>first|assumption|omega)|fail)) (hn:∀a∈args,NoId a:=by(first|(simp(maxSteps:=2000000) only[go_sem,noId_fn,noId_sptr,false_implies,implies_true, *];done)|(simp[noId_c,noId_agg,noId_snap,noId_tup,noId_fn,noId_sptr,encL_noIdE, *];done)|fail))
  (hG:frz σ.H.get (idsAll ids2 args0)=G':=by(first|(simp(maxSteps:=2000000) (disch:=omega) only[go_sem, *]<;>exact rfl)|fail)) (hr:run P ops.toList rest (({σ with H:=⟨σ.H.next,G'⟩}:AS).put o.dst true r)=p:=by(first|(simp(maxSteps:=2000000) (disch:=omega) only[go_sem, *]<;>exact rfl)|fail)):aops P true ops (o::rest) σ K:=w_callX hop hg hp hc he hn hG hr h
theorem zcallXG{ops:Array Oper}{o:Oper}{rest:List Oper}{K:AS→Prop}{f:Operand}{as:Array Operand}{ts:Array TypeId}{n:FuncId}{args0 args:List AV}{r:AV}{G':Nat→Option Blk}{p:AS×List Oper}{j:Nat}{want:Bool}(h:aops P true ops p.2 p.1 K)(hop:o.op= .call ⟨.value f,as,ts⟩:=by(first|rfl|fail))(hg:o.guard=some (j,want):=by(first|rfl|fail))
  (hw:gcond (gval ops.toList j σ.env) want=some true:=by(first|(simp(maxSteps:=2000000) (disch:=omega) only[go_sem, *]<;>exact rfl)|fail))
  (hc:calleeA (σ.get true f) (getsA (σ.get true) as.toList)=some (n,args0):=by(first|(simp(maxSteps:=2000000) (disch:=omega) only[go_sem, *]<;>exact rfl)|fail)) (he:args0.map (expo2 σ.H.get)=args:=by(first|(simp(maxSteps:=2000000) (disch:=omega) only[go_sem, *]<;>exact rfl)|fail)) (hp:PCall P n args (·=r):=by(first|assumption|(apply_assumption<;>first|assumption|omega)|fail)) (hn:∀a∈args,NoId a:=by(first|(simp(maxSteps:=2000000) only[go_sem,noId_fn,noId_sptr,false_implies,implies_true, *];done)|(simp[noId_c,noId_agg,noId_snap,noId_tup,noId_fn,noId_sptr,encL_noIdE, *];done)|fail))
  (hG:frz σ.H.get (idsAll ids2 args0)=G':=by(first|(simp(maxSteps:=2000000) (disch:=omega) only[go_sem, *]<;>exact rfl)|fail)) (hr:run P ops.toList rest (({σ with H:=⟨σ.H.next,G'⟩}:AS).put o.dst true r)=p:=by(first|(simp(maxSteps:=2000000) (disch:=omega) only[go_sem, *]<;>exact rfl)|fail)):aops P true ops (o::rest) σ K:=w_callXG hop hg hp hw hc he hn hG hr h
theorem zcallO{ops:Array Oper}{o:Oper}{rest:List Oper}{K:AS→Prop}{f:Operand}{as:Array Operand}{ts:Array TypeId}{n:FuncId}{args:List AV}{el:TypeId}{k:Nat}{rows:List (List AV)}{p:AS×List Oper}(h:aops P true ops p.2 p.1 K)(hop:o.op= .call ⟨.value f,as,ts⟩:=by(first|rfl|fail))(hg:o.guard=none:=by(first|rfl|fail))
  (hc:calleeA (σ.get true f) (getsA (σ.get true) as.toList)=some (n,args):=by(first|(simp(maxSteps:=2000000) (disch:=omega) only[go_sem, *]<;>exact rfl)|fail)) (hp:OCall P n args el k rows:=by(first|assumption|(apply_assumption<;>first|assumption|omega)|fail))
  (hr:run P ops.toList rest (({σ with H:=⟨σ.H.next+1,upd σ.H.get [(σ.H.next,some (.cells el k rows true true))]⟩}:AS).put o.dst true (.own σ.H.next 0 rows.length))=p:=by(first|(simp(maxSteps:=2000000) (disch:=omega) only[go_sem, *]<;>exact rfl)|fail)):aops P true ops (o::rest) σ K:=w_callO hop hg hp hc hr h
theorem zcallG{ops:Array Oper}{o:Oper}{rest:List Oper}{K:AS→Prop}{f:Operand}{as:Array Operand}{ts:Array TypeId}{n:FuncId}{args:List AV}{r:AV}{p:AS×List Oper}{j:Nat}{want c:Bool}(h:aops P true ops p.2 p.1 K)(hop:o.op= .call ⟨.value f,as,ts⟩:=by(first|rfl|fail))(hg:o.guard=some (j,want):=by(first|rfl|fail))
  (hw:gcond (gval ops.toList j σ.env) want=some c:=by(first|(simp(maxSteps:=2000000) (disch:=omega) only[go_sem, *]<;>exact rfl)|fail)) (hc:calleeA (σ.get c f) (getsA (σ.get c) as.toList)=some (n,args):=by(first|(simp(maxSteps:=2000000) (disch:=omega) only[go_sem, *]<;>exact rfl)|fail)) (hp:PCall P n args (·=r):=by(first|assumption|(apply_assumption<;>first|assumption|omega)|fail)) (hn:∀a∈args,NoId a:=by(first|(simp(maxSteps:=2000000) only[go_sem,noId_fn,noId_sptr,false_implies,implies_true, *];done)|(simp[noId_c,noId_agg,noId_snap,noId_tup,noId_fn,noId_sptr,encL_noIdE, *];done)|fail)) (hr:run P ops.toList rest (σ.put o.dst c r)=p:=by(first|(simp(maxSteps:=2000000) (disch:=omega) only[go_sem, *]<;>exact rfl)|fail)):aops P true ops (o::rest) σ K:=w_callG hop hg hw hp hc hn hr h
theorem zrun{ops:Array Oper}{l:List Oper}{K:AS→Prop}{p:AS×List Oper}(h:aops P true ops p.2 p.1 K)(hr:run P ops.toList l σ=p:=by(first|(simp(maxSteps:=2000000) (disch:=omega) only[go_sem, *]<;>exact rfl)|fail))(hlt:Nat.blt p.2.length l.length=true:=by(first|rfl|fail)):aops P true ops l σ K:=run_ok _ _ hr h
theorem zin{ops:Array Oper}{o:Oper}{rest:List Oper}{K:AS→Prop}{f:Operand}{as:Array Operand}{ts:Array TypeId}{n:FuncId}{fn:Func}{c:Code}{args:List AV}{nt:Nat}{rs:List ResultVar}(hf:P.funcs[n]? =some fn)(hnt:fn.ntmps=nt)
  (h:AW P c ⟨envOf 0 args,σ.H,nt⟩ (hold (endA P rs (hold (fun a H'=>aops P true ops rest (({σ with H:=H'}:AS).put o.dst true a) K) ⟨⟩)) ⟨⟩))
  (hop:o.op= .call ⟨.value f,as,ts⟩:=by(first|rfl|fail)) (hg:o.guard=none:=by(first|rfl|fail)) (hc:calleeA (σ.get true f) (getsA (σ.get true) as.toList)=some (n,args):=by(first|(simp(maxSteps:=2000000) (disch:=omega) only[go_sem, *]<;>exact rfl)|fail))
  (hb:fn.body=some c:=by rfl) (hr:fn.results=List.toArray rs:=by rfl) (hnm:(fn.name== "runtime.NumGoroutine")=false:=by kernel_rfl) (hlen:args.length≤nt:=by(simp only[List.length_cons,List.length_nil];decide)):aops P true ops (o::rest) σ K:=
 w_callI hf hb hnm hnt hop hg hc hlen (by rw[hr];exact h)
theorem FOCall.act{n:FuncId}{args0 args:List AV}{a:AV}{el:TypeId}{k:Nat}{rows:List (List AV)}{ap:Bool}{H:Heap}(kk:Nat)(h:FOCall P n args a el k rows ap)(he:args0.map (expoD H.get kk)=args)(ha:∀a∈args,NoId a):ACall P n args0 H fun r H'=>r=renO H.next a∧H'=⟨H.next+1,upd H.get [(H.next,some (.cells el k rows true ap))]⟩:=
 ⟨h.1,fun E W vs hH hr=>(h.run kk he ha (fun hU=>Nat.lt_irrefl _ (hH.next _ hU)) hH hH.core hr).mono fun e W' ⟨v,hev,E',h1,h2,h3,h4⟩=>⟨v,hev,E',_,_,h1,⟨fun id hid=>by
   rcases h4 id hid with h5|h5
   ·exact Nat.lt_succ_of_lt (hH.next id h5)
   ·subst h5;exact Nat.lt_succ_self _,h2⟩,h3,rfl,rfl⟩⟩
theorem zcallRO{ops:Array Oper}{o:Oper}{rest:List Oper}{K:AS→Prop}{f:Operand}{as:Array Operand}{ts:Array TypeId}{n:FuncId}{args0 args:List AV}{a:AV}{el:TypeId}{k:Nat}{rows:List (List AV)}{ap:Bool}{p:AS×List Oper}(h:aops P true ops p.2 p.1 K)(hop:o.op= .call ⟨.value f,as,ts⟩:=by(first|rfl|fail))(hg:o.guard=none:=by(first|rfl|fail))
  (hc:calleeA (σ.get true f) (getsA (σ.get true) as.toList)=some (n,args0):=by(first|(simp(maxSteps:=2000000) (disch:=omega) only[go_sem, *]<;>exact rfl)|fail)) (he:args0.map (expoD σ.H.get 3)=args:=by(first|(simp(maxSteps:=2000000) (disch:=omega) only[go_sem, *]<;>exact rfl)|fail)) (hp:FOCall P n args a el k rows ap:=by(first|assumption|(apply_assumption<;>first|assumption|omega)|fail)) (hn:∀a∈args,NoId a:=by(first|(simp(maxSteps:=2000000) only[go_sem,noId_fn,noId_sptr,false_implies,implies_true, *];done)|(simp[noId_c,noId_agg,noId_snap,noId_tup,noId_fn,noId_sptr,encL_noIdE, *];done)|fail))
  (hr:run P ops.toList rest (({σ with H:=⟨σ.H.next+1,upd σ.H.get [(σ.H.next,some (.cells el k rows true ap))]⟩}:AS).put o.dst true (renO σ.H.next a))=p:=by(first|(simp(maxSteps:=2000000) (disch:=omega) only[go_sem, *]<;>exact rfl)|fail)):aops P true ops (o::rest) σ K:=
 w_callA hop hg hc (hp.act 3 he hn) fun r' H' ⟨h1,h2⟩=>by subst h1;subst h2;exact run_ok _ _ hr h
theorem datO_c{G:Nat→Option Blk}{kk j:Nat}{v:Value}:datO G kk j (.c v)=some (.c v):=by
 cases kk<;>simp[datO,fresh,kB,expoD,noIdB,idsD]
theorem rowO_c{G:Nat→Option Blk}{kk j:Nat}:∀{r:List AV},(∀x∈r,∃v,x= .c v)→rowO G kk j r=some r
 |[],_=>rfl
 |x::r,h=>by
  obtain⟨v,rfl⟩:=h x (by simp)
  simp only[rowO,datO_c,rowO_c (r:=r) fun y hy=>h y (by simp[hy])]
theorem rowsO_c{G:Nat→Option Blk}{kk j:Nat}:∀{rows:List (List AV)},(∀r∈rows,∀x∈r,∃v,x= .c v)→rowsO G kk j rows=some rows
 |[],_=>rfl
 |r::rows,h=>by simp only[rowsO,rowO_c (h r (by simp)),rowsO_c (rows:=rows) fun y hy=>h y (by simp[hy])]
theorem fostart{n:FuncId}{fn:Func}{c:Code}{args:List AV}{e:TypeId}{k:Nat}{rows:List (List AV)}{rs:List ResultVar}{nt:Nat}(hf:P.funcs[n]? =some fn)(hnt:fn.ntmps=nt)(hrows:∀row∈rows,∀x∈row,∃v,x= .c v)
  (h:AW P c ⟨envOf 0 args,⟨0,tabG []⟩,nt⟩ (hold (endA P rs (hold (fun a H'=>∃i,a= .own i 0 rows.length∧H'.get i=some (.cells e k rows true true)) ⟨⟩)) ⟨⟩))
  (hb:fn.body=some c:=by rfl) (hr:fn.results=List.toArray rs:=by rfl) (hnm:(fn.name== "runtime.NumGoroutine")=false:=by kernel_rfl) (hlen:args.length≤nt:=by(simp only[List.length_cons,List.length_nil];decide)):FOCall P n args (.own 0 0 rows.length) e k rows true:=by
 have hl:args.length≤fn.ntmps:=by rw[hnt];exact hlen
 refine focallD (f:=⟨.own 0 0 rows.length,e,k,rows,true⟩) 8 hf hb hnm hl ((acall (Q:=fun a H'=>∃i,a= .own i 0 rows.length∧H'.get i=some (.cells e k rows true true)) hf hb hnm hl (by rw[hnt,hr];exact h)).mono fun r H' ⟨i,h1,h2⟩=> ?_)
 subst h1;simp only[foOf,ownO,h2,mkO,rowsO_c hrows,resO,compO,Nat.beq_refl,cond]
theorem FOCall.nil{n:FuncId}{pre post:List AV}{a:AV}{el:TypeId}{k:Nat}{rows:List (List AV)}{ap:Bool}(h:∀b cap,FOCall P n (pre++ .c (.slice b 0 cap)::post) a el k rows ap):FOCall P n (pre++ .snap []::post) a el k rows ap:=
 ⟨(h none 0).1,fun L W vs hL hr=>let ⟨b,cap,hx⟩:=rvs_nil hr;(h b cap).2 L W vs hL hx⟩
theorem zmerge{c:Operand}{x y z:Code}{Q2:Exit→AS→Prop}(env:List (Nat×Bool×AV))(m:Nat)(T:List (Nat×Option Blk))(h1:AW P (.cond c x y) σ (fun e σ'=>e= .normal∧Holds σ' env ⟨m,tabG T⟩))(h2:AW P z ⟨env,⟨m,tabG T⟩,σ.nt⟩ Q2):AW P (.cond c x y) σ (thenA (fun σ'=>AW P z σ' Q2) Q):=fun ro E0 W act hro hr=>
 wpIn_mono (h1 ro E0 W act hro hr) fun e a w ⟨E',σ',h3,h4,h5,h6,h7⟩=>by
  subst h6;exact⟨E',σ',h3,h4,h5,aw_less h7 (by rw[h5];exact h2)⟩
theorem astart{n:FuncId}{fn:Func}{c:Code}{args:List AV}{H:Heap}{R:AV→Heap→Prop}{rs:List ResultVar}{nt:Nat}(hf:P.funcs[n]? =some fn)(hnt:fn.ntmps=nt)
  (h:AW P c ⟨envOf 0 args,H,nt⟩ (hold (endA P rs (hold R ⟨⟩)) ⟨⟩))
  (hb:fn.body=some c:=by rfl) (hr:fn.results=List.toArray rs:=by rfl) (hnm:(fn.name== "runtime.NumGoroutine")=false:=by kernel_rfl) (hlen:args.length≤nt:=by(simp only[List.length_cons,List.length_nil];decide)):ACall P n args H R:=by
 refine acall hf hb hnm (by rw[hnt];exact hlen) ?_
 rw[hnt,hr];exact h
theorem zwhile{α:Type}{c:Code}(E:α→List (Nat×Bool×AV))(T:α→List (Nat×Option Blk))(R:Nat→α→Prop)(μ:α→Nat)(a0:α)(h0:∃m,R m a0∧Holds σ (E a0) ⟨m,tabG (T a0)⟩)
  (hk:∀m a,R m a→AW P c ⟨E a,⟨m,tabG (T a)⟩,σ.nt⟩ (thenA (fun σ'=>∃m' a',μ a'<μ a∧R m' a'∧Holds σ' (E a') ⟨m',tabG (T a')⟩) Q)):AW P (.loop c) σ Q:=by
 obtain⟨m,hR,hh⟩:=h0;refine w_loop (fun n env H=>∃m a,n=μ a∧R m a∧env=E a∧H=⟨m,tabG (T a)⟩) (μ a0) ⟨_,_,⟨m,a0,rfl,hR,rfl,rfl⟩,hh⟩ ?_
 rintro n env H ⟨m,a,rfl,hR',rfl,rfl⟩;have h1:=hk m a hR';intro ro E0 W act hro hrel;refine wpIn_mono (h1 ro E0 W act hro hrel) fun e a' w ⟨E',σ',h2,h3,h4,h5⟩=>⟨E',σ',h2,h3,h4,?_⟩
 cases e with
 |normal=>
  obtain⟨m',a'',h8,h6,h7⟩:=h5;exact⟨μ a'',h8,_,_,⟨m',a'',rfl,h6,rfl,rfl⟩,h7⟩
 |_=>exact h5
structure Eqv{α:Type}(a b:α):Type where
 out:a=b
theorem zrange{g:Operand}{ps:Array Tmp}{assign body:Code}{n:FuncId}{fn:Func}{c:Code}{first cap:List AV}{nt:Nat}{args:List AV}{rs:List ResultVar}(hf:P.funcs[n]? =some fn)(hnt:fn.ntmps=nt)
  (h:∀R A B,Eqv R σ.env→Eqv A assign→Eqv B body→AW P c ⟨envOf 0 args,setB ⟨σ.H.next+1,σ.H.get⟩ σ.H.next (some (.rcd R σ.nt ps.toList A B .ready none)),nt⟩
    (hold (endA P rs (hold (fun _ H'=>rfK σ.H.next R σ.nt ps.toList A B (hold (fun e H2=>Q e ({σ with H:=H2}:AS)) ⟨⟩) H') ⟨⟩)) ⟨⟩))
  (hg:σ.get true g=some (.fn (.func n) first cap):=by(first|(simp(maxSteps:=2000000) (disch:=omega) only[go_sem, *]<;>exact rfl)|fail)) (ha:first++[AV.yld σ.H.next]++cap=args:=by(first|(simp(maxSteps:=2000000) (disch:=omega) only[go_sem, *]<;>exact rfl)|fail))
  (hb:fn.body=some c:=by rfl) (hr:fn.results=List.toArray rs:=by rfl) (hnm:(fn.name== "runtime.NumGoroutine")=false:=by kernel_rfl) (hlen:args.length≤nt:=by(simp only[List.length_cons,List.length_nil];decide)):AW P (.rangeFunc g ps assign body) σ Q:=
 w_rangeF hf hb hnm hnt hg ha hlen fun R A B hR hA hB=>by rw[hr];exact h R A B ⟨hR⟩ ⟨hA⟩ ⟨hB⟩
theorem zyield{ops:Array Oper}{o:Oper}{rest:List Oper}{K:AS→Prop}{f:Operand}{as:Array Operand}{ts:Array TypeId}{id:Nat}{args:List AV}{env env':List (Nat×Bool×AV)}{nt:Nat}{ps:List Tmp}{A A' B:Code}
  (h:AW P A' ⟨bindPs ps args env',σ.H,nt⟩ (hold (endAsA P id env nt ps A B (hold (fun b H'=>aops P true ops rest (({σ with H:=H'}:AS).put o.dst true (.c (.bool b))) K) ⟨⟩)) ⟨⟩))
  (hop:o.op= .call ⟨.value f,as,ts⟩:=by(first|rfl|fail)) (hg:o.guard=none:=by(first|rfl|fail)) (hf:σ.get true f=some (.yld id):=by(first|(simp(maxSteps:=2000000) (disch:=omega) only[go_sem, *]<;>exact rfl)|fail)) (ha:getsA (σ.get true) as.toList=some args:=by(first|(simp(maxSteps:=2000000) (disch:=omega) only[go_sem, *]<;>exact rfl)|fail)) (hr:σ.H.get id=some (.rcd env nt ps A B .ready none):=by(first|(simp(maxSteps:=2000000) (disch:=omega) only[go_sem, *]<;>exact rfl)|fail))
  (he:Eqv env env':=by(first|assumption|fail)) (hA:Eqv A A':=by(first|assumption|fail)) (hl:args.length=ps.length:=by(first|rfl|fail)) (hps:ps.all (fun p=>decide (p<nt))=true:=by(first|rfl|fail)):aops P true ops (o::rest) σ K:=w_yield hop hg he.out hA.out hf ha hr hl hps h
theorem zyieldG{ops:Array Oper}{o:Oper}{rest:List Oper}{K:AS→Prop}{f:Operand}{as:Array Operand}{ts:Array TypeId}{id:Nat}{args:List AV}{env env':List (Nat×Bool×AV)}{nt:Nat}{ps:List Tmp}{A A' B:Code}{j:Nat}{want:Bool}
  (h:AW P A' ⟨bindPs ps args env',σ.H,nt⟩ (hold (endAsA P id env nt ps A B (hold (fun b H'=>aops P true ops rest (({σ with H:=H'}:AS).put o.dst true (.c (.bool b))) K) ⟨⟩)) ⟨⟩))
  (hop:o.op= .call ⟨.value f,as,ts⟩:=by(first|rfl|fail)) (hg:o.guard=some (j,want):=by(first|rfl|fail)) (hw:gcond (gval ops.toList j σ.env) want=some true:=by(first|(simp(maxSteps:=2000000) (disch:=omega) only[go_sem, *]<;>exact rfl)|fail)) (hf:σ.get true f=some (.yld id):=by(first|(simp(maxSteps:=2000000) (disch:=omega) only[go_sem, *]<;>exact rfl)|fail)) (ha:getsA (σ.get true) as.toList=some args:=by(first|(simp(maxSteps:=2000000) (disch:=omega) only[go_sem, *]<;>exact rfl)|fail)) (hr:σ.H.get id=some (.rcd env nt ps A B .ready none):=by(first|(simp(maxSteps:=2000000) (disch:=omega) only[go_sem, *]<;>exact rfl)|fail))
  (he:Eqv env env':=by(first|assumption|fail)) (hA:Eqv A A':=by(first|assumption|fail)) (hl:args.length=ps.length:=by(first|rfl|fail)) (hps:ps.all (fun p=>decide (p<nt))=true:=by(first|rfl|fail)):aops P true ops (o::rest) σ K:=w_yieldG hop hg he.out hA.out hw hf ha hr hl hps h
theorem zendAs{id:Nat}{env:List (Nat×Bool×AV)}{nt:Nat}{ps:List Tmp}{A B B':Code}{K:Bool→Heap→Prop}(h:AW P B' ⟨σ.env,setB σ.H id (some (.rcd env nt ps A B .busy none)),σ.nt⟩ (hold (endBodyA id env nt ps A B K) ⟨⟩))
  (hB:Eqv B B':=by(first|assumption|fail)) (hg:σ.H.get id=some (.rcd env nt ps A B .ready none):=by(first|rfl|(simp(maxSteps:=2000000) (disch:=omega) only[go_sem, *];done)|(simp(maxSteps:=2000000) (disch:=omega) only[go_sem, *]<;>rfl)|fail)):endAsA P id env nt ps A B K .normal σ:=w_endAs hB.out hg h
section
variable {id : Nat} {env : List (Nat × Bool × AV)} {nt : Nat} {ps : List Tmp} {A B : Code} {ops : Array Oper} {rest : List Oper} {σ0 : AS} {dst : Option Tmp} {K : AS → Prop} {p : AS × List Oper}
theorem zendBN(h:aops P true ops p.2 p.1 K)(hg:σ.H.get id=some (.rcd env nt ps A B .busy none):=by(first|rfl|(simp(maxSteps:=2000000) (disch:=omega) only[go_sem, *];done)|(simp(maxSteps:=2000000) (disch:=omega) only[go_sem, *]<;>rfl)|fail))(hr:run P ops.toList rest (({σ0 with H:=setB σ.H id (some (.rcd env nt ps A B .ready none))}:AS).put dst true (.c (.bool true)))=p:=by(first|(simp(maxSteps:=2000000) (disch:=omega) only[go_sem, *]<;>exact rfl)|fail)):
  endBodyA id env nt ps A B (hold (fun b H'=>aops P true ops rest (({σ0 with H:=H'}:AS).put dst true (.c (.bool b))) K) ⟨⟩) .normal σ:=w_endBN hg hr h
theorem zendBR(h:aops P true ops p.2 p.1 K)(hg:σ.H.get id=some (.rcd env nt ps A B .busy none):=by(first|rfl|(simp(maxSteps:=2000000) (disch:=omega) only[go_sem, *];done)|(simp(maxSteps:=2000000) (disch:=omega) only[go_sem, *]<;>rfl)|fail))(hr:run P ops.toList rest (({σ0 with H:=setB σ.H id (some (.rcd env nt ps A B .done (some .ret)))}:AS).put dst true (.c (.bool false)))=p:=by(first|(simp(maxSteps:=2000000) (disch:=omega) only[go_sem, *]<;>exact rfl)|fail)):
  endBodyA id env nt ps A B (hold (fun b H'=>aops P true ops rest (({σ0 with H:=H'}:AS).put dst true (.c (.bool b))) K) ⟨⟩) .ret σ:=w_endBR hg hr h
theorem zendBE{i:Nat}(h:aops P true ops p.2 p.1 K)(hg:σ.H.get id=some (.rcd env nt ps A B .busy none):=by(first|rfl|(simp(maxSteps:=2000000) (disch:=omega) only[go_sem, *];done)|(simp(maxSteps:=2000000) (disch:=omega) only[go_sem, *]<;>rfl)|fail))(hr:run P ops.toList rest (({σ0 with H:=setB σ.H id (some (.rcd env nt ps A B .done (some (.exit i))))}:AS).put dst true (.c (.bool false)))=p:=by(first|(simp(maxSteps:=2000000) (disch:=omega) only[go_sem, *]<;>exact rfl)|fail)):
  endBodyA id env nt ps A B (hold (fun b H'=>aops P true ops rest (({σ0 with H:=H'}:AS).put dst true (.c (.bool b))) K) ⟨⟩) (.exit i) σ:=w_endBE hg hr h
end
section
variable {rs : List ResultVar} {a : AV} {id : Nat} {env : List (Nat × Bool × AV)} {nt : Nat} {ps : List Tmp} {A B : Code} {σ0 : AS}
theorem zendFN(h:Q .normal ({σ0 with H:=setB σ.H id none}:AS))(ho:outA P σ rs=some a:=by(first|(simp(maxSteps:=2000000) (disch:=omega) only[go_sem, *]<;>exact rfl)|fail))(hg:σ.H.get id=some (.rcd env nt ps A B .ready none):=by(first|rfl|(simp(maxSteps:=2000000) (disch:=omega) only[go_sem, *];done)|(simp(maxSteps:=2000000) (disch:=omega) only[go_sem, *]<;>rfl)|fail)):
  endA P rs (hold (fun _ H'=>rfK id env nt ps A B (hold (fun e H2=>Q e ({σ0 with H:=H2}:AS)) ⟨⟩) H') ⟨⟩) .normal σ:=w_endFN ho hg h
theorem zendFr(h:Q .normal ({σ0 with H:=setB σ.H id none}:AS))(ho:outA P σ rs=some a:=by(first|(simp(maxSteps:=2000000) (disch:=omega) only[go_sem, *]<;>exact rfl)|fail))(hg:σ.H.get id=some (.rcd env nt ps A B .ready none):=by(first|rfl|(simp(maxSteps:=2000000) (disch:=omega) only[go_sem, *];done)|(simp(maxSteps:=2000000) (disch:=omega) only[go_sem, *]<;>rfl)|fail)):
  endA P rs (hold (fun _ H'=>rfK id env nt ps A B (hold (fun e H2=>Q e ({σ0 with H:=H2}:AS)) ⟨⟩) H') ⟨⟩) .ret σ:=w_endFr ho hg h
theorem zendFRn(h:Q .ret ({σ0 with H:=setB σ.H id none}:AS))(ho:outA P σ rs=some a:=by(first|(simp(maxSteps:=2000000) (disch:=omega) only[go_sem, *]<;>exact rfl)|fail))(hg:σ.H.get id=some (.rcd env nt ps A B .done (some .ret)):=by(first|rfl|(simp(maxSteps:=2000000) (disch:=omega) only[go_sem, *];done)|(simp(maxSteps:=2000000) (disch:=omega) only[go_sem, *]<;>rfl)|fail)):
  endA P rs (hold (fun _ H'=>rfK id env nt ps A B (hold (fun e H2=>Q e ({σ0 with H:=H2}:AS)) ⟨⟩) H') ⟨⟩) .normal σ:=w_endFRn ho hg h
theorem zendFR(h:Q .ret ({σ0 with H:=setB σ.H id none}:AS))(ho:outA P σ rs=some a:=by(first|(simp(maxSteps:=2000000) (disch:=omega) only[go_sem, *]<;>exact rfl)|fail))(hg:σ.H.get id=some (.rcd env nt ps A B .done (some .ret)):=by(first|rfl|(simp(maxSteps:=2000000) (disch:=omega) only[go_sem, *];done)|(simp(maxSteps:=2000000) (disch:=omega) only[go_sem, *]<;>rfl)|fail)):
  endA P rs (hold (fun _ H'=>rfK id env nt ps A B (hold (fun e H2=>Q e ({σ0 with H:=H2}:AS)) ⟨⟩) H') ⟨⟩) .ret σ:=w_endFR ho hg h
theorem zendFEn{i:Nat}(h:Q (.exit i) ({σ0 with H:=setB σ.H id none}:AS))(ho:outA P σ rs=some a:=by(first|(simp(maxSteps:=2000000) (disch:=omega) only[go_sem, *]<;>exact rfl)|fail))(hg:σ.H.get id=some (.rcd env nt ps A B (.done) (some (.exit i))):=by(first|rfl|(simp(maxSteps:=2000000) (disch:=omega) only[go_sem, *];done)|(simp(maxSteps:=2000000) (disch:=omega) only[go_sem, *]<;>rfl)|fail)):
  endA P rs (hold (fun _ H'=>rfK id env nt ps A B (hold (fun e H2=>Q e ({σ0 with H:=H2}:AS)) ⟨⟩) H') ⟨⟩) .normal σ:=w_endFEn ho hg h
theorem zendFE{i:Nat}(h:Q (.exit i) ({σ0 with H:=setB σ.H id none}:AS))(ho:outA P σ rs=some a:=by(first|(simp(maxSteps:=2000000) (disch:=omega) only[go_sem, *]<;>exact rfl)|fail))(hg:σ.H.get id=some (.rcd env nt ps A B (.done) (some (.exit i))):=by(first|rfl|(simp(maxSteps:=2000000) (disch:=omega) only[go_sem, *];done)|(simp(maxSteps:=2000000) (disch:=omega) only[go_sem, *]<;>rfl)|fail)):
  endA P rs (hold (fun _ H'=>rfK id env nt ps A B (hold (fun e H2=>Q e ({σ0 with H:=H2}:AS)) ⟨⟩) H') ⟨⟩) .ret σ:=w_endFE ho hg h
end
theorem zgF{ops:Array Oper}{o:Oper}{rest:List Oper}{K:AS→Prop}{p q:AS×List Oper}{j:Nat}{want:Bool}(h:aops P true ops q.2 q.1 K)(hg:o.guard=some (j,want):=by(first|rfl|fail))
  (hw:gcond (gval ops.toList j σ.env) want=some false:=by(first|(simp(maxSteps:=2000000) (disch:=omega) only[go_sem, *]<;>exact rfl)|fail)) (hs:skipF ops.toList rest (σ.put o.dst false (.c (.bool false)))=some p:=by(first|(simp(maxSteps:=2000000) (disch:=omega) only[go_sem, *]<;>exact rfl)|fail)) (hr:run P ops.toList p.2 p.1=q:=by(first|(simp(maxSteps:=2000000) (disch:=omega) only[go_sem, *]<;>exact rfl)|fail)):aops P true ops (o::rest) σ K:=w_gF hg hw hs hr h
theorem zpick{ops:Array Oper}{o:Oper}{rest:List Oper}{K:AS→Prop}{p:AS×List Oper}{b x y:Operand}{b0:Bool}{a:AV}(h:aops P true ops p.2 p.1 K)(hop:o.op= .pick b x y:=by(first|rfl|fail))(hg:o.guard=none:=by(first|rfl|fail))
  (hb:asB (σ.get true b)=some b0:=by(first|(simp(maxSteps:=2000000) (disch:=omega) only[go_sem, *]<;>exact rfl)|fail)) (hn:pairB (asB (σ.get b0 x)) (asB (σ.get (!b0) y))=none:=by(first|(simp(maxSteps:=2000000) (disch:=omega) only[go_sem, *]<;>exact rfl)|fail)) (ha:σ.get true (cond b0 x y)=some a:=by(first|(simp(maxSteps:=2000000) (disch:=omega) only[go_sem, *]<;>exact rfl)|fail)) (hr:run P ops.toList rest (σ.put o.dst true a)=p:=by(first|(simp(maxSteps:=2000000) (disch:=omega) only[go_sem, *]<;>exact rfl)|fail)):aops P true ops (o::rest) σ K:=w_pick hop hg hb hn ha hr h
theorem zgT{ops:Array Oper}{o:Oper}{rest:List Oper}{K:AS→Prop}{p:AS×List Oper}{j:Nat}{want:Bool}{a:AV}{wr:List (Nat×Option Blk)}{rd:List Nat}(h:aops P true ops p.2 p.1 K)(hop:plainOp o.op=true:=by(first|rfl|fail))(hg:o.guard=some (j,want):=by(first|rfl|fail))
  (hw:gcond (gval ops.toList j σ.env) want=some true:=by(first|(simp(maxSteps:=2000000) (disch:=omega) only[go_sem, *]<;>exact rfl)|fail)) (hres:res P (σ.get true) σ.H.get σ.H.next o=some (a,wr,rd):=by(first|(simp(maxSteps:=2000000) (disch:=omega) only[go_sem, *]<;>exact rfl)|fail)) (hr:run P ops.toList rest (({σ with H:=σ.H.app wr}:AS).put o.dst true a)=p:=by(first|(simp(maxSteps:=2000000) (disch:=omega) only[go_sem, *]<;>exact rfl)|fail)):aops P true ops (o::rest) σ K:=w_gT hop hg hw hres hr h
theorem zfor{α:Type}{c:Code}(N:Nat)(E:Nat→α→List (Nat×Bool×AV))(T:Nat→α→List (Nat×Option Blk))(R:Nat→Nat→α→Prop)(h0:∃m a,R 0 m a∧Holds σ (E 0 a) ⟨m,tabG (T 0 a)⟩)
  (hk:∀k m a,k<N→R k m a→AW P c ⟨E k a,⟨m,tabG (T k a)⟩,σ.nt⟩ (thenA (fun σ'=>∃m' a',R (k+1) m' a'∧Holds σ' (E (k+1) a') ⟨m',tabG (T (k+1) a')⟩) Q))
  (hN:∀m a,R N m a→AW P c ⟨E N a,⟨m,tabG (T N a)⟩,σ.nt⟩ (thenA (fun _=>False) Q)):AW P (.loop c) σ Q:=by
 obtain⟨m,a,hR,hh⟩:=h0;refine w_loop (fun n env H=>∃k m a,n=N-k∧k≤N∧R k m a∧env=E k a∧H=⟨m,tabG (T k a)⟩) N ⟨_,_,⟨0,m,a,by omega,by omega,hR,rfl,rfl⟩,hh⟩ ?_
 rintro n env H ⟨k,m,a,rfl,hk',hR',rfl,rfl⟩;by_cases hlt:k<N
 ·have h1:=hk k m a hlt hR'
  intro ro E0 W act hro hrel;refine wpIn_mono (h1 ro E0 W act hro hrel) fun e a' w ⟨E',σ',h2,h3,h4,h5⟩=>⟨E',σ',h2,h3,h4,?_⟩
  cases e with
  |normal=>
   obtain⟨m',a'',h6,h7⟩:=h5;exact⟨N-(k+1),by omega,_,_,⟨k+1,m',a'',rfl,by omega,h6,rfl,rfl⟩,h7⟩
  |_=>exact h5
 ·obtain rfl:k=N:=by omega
  have h1:=hN m a hR';intro ro E0 W act hro hrel;refine wpIn_mono (h1 ro E0 W act hro hrel) fun e a' w ⟨E',σ',h2,h3,h4,h5⟩=>⟨E',σ',h2,h3,h4,?_⟩
  cases e with
  |normal=>exact h5.elim
  |_=>exact h5
theorem zfor1{c:Code}(N M:Nat)(T:List (Nat×Option Blk))(E:Nat→List (Nat×Bool×AV))(h0:Holds σ (E 0) ⟨M,tabG T⟩)
  (hk:∀k m,k<N→M≤m→AW P c ⟨E k,⟨m,tabG T⟩,σ.nt⟩ (thenA (fun σ'=>∃m',M≤m'∧Holds σ' (E (k+1)) ⟨m',tabG T⟩) Q))
  (hN:∀m,M≤m→AW P c ⟨E N,⟨m,tabG T⟩,σ.nt⟩ (thenA (fun _=>False) Q)):AW P (.loop c) σ Q:=by
 refine zfor (α:=Unit) N (fun k _=>E k) (fun _ _=>T) (fun _ m _=>M≤m) ⟨M,(),Nat.le_refl _,h0⟩ (fun k m _ hlt hm=> ?_) (fun m _ hm=>hN m hm)
 have h1:=hk k m hlt hm;intro ro E0 W act hro hrel;refine wpIn_mono (h1 ro E0 W act hro hrel) fun e a' w ⟨E',σ',h2,h3,h4,h5⟩=>⟨E',σ',h2,h3,h4,?_⟩
 cases e with
 |normal=>obtain⟨m',h6,h7⟩:=h5;exact⟨m',(),h6,h7⟩
 |_=>exact h5
end
attribute [go_sem] renO renO1 expoD idsD List.flatMap_cons List.flatMap_nil
theorem zeq{α:Type}{a b:α}(w:a=b:=by(first|rfl|(simp(disch:=omega) only[go_sem, *];done)|(simp(disch:=omega) only[go_sem, *];rfl))):a=b:=w
theorem zholds{σ:AS}{env:List (Nat×Bool×AV)}{H:Heap}(w:Holds σ env H:=by
  ((repeat (refine holds_cons (by first|rfl|(simp(disch:=omega) only[go_sem, *];done)|(simp(disch:=omega) only[go_sem, *];rfl)) ?_));(refine holds_nil (by simp only[];omega) ?_);(first|exact(fun _ _ h=>h)|((repeat (first|refine sub_cons (by first|rfl|(simp(disch:=omega) only[go_sem, *];done)|(simp(disch:=omega) only[go_sem, *];rfl)) ?_|refine sub_none ?_));exact sub_nil)))):Holds σ env H:=w
section
variable {P : Program} {σ : AS}
theorem ACall.wider{n:FuncId}{args:List AV}{H0:Heap}{R:AV→Heap→Prop}(h:ACall P n args H0 R)(hH:Holds σ [] H0):ACall P n args σ.H R:=
 ⟨h.1,fun E W vs hW hr=>h.2 E W vs ⟨fun id hid=>Nat.lt_of_lt_of_le (hW.next id hid) hH.next,hW.core.weaker fun id b hb=>⟨b,hH.get id b hb,Blk.le_refl b⟩⟩ hr⟩
theorem zact{ops:Array Oper}{o:Oper}{rest:List Oper}{K:AS→Prop}{f:Operand}{as:Array Operand}{ts:Array TypeId}{n:FuncId}{args:List AV}{R:AV→Heap→Prop}{H0:Heap}(hp:ACall P n args H0 R)(h:∀r H',R r H'→aops P true ops rest (({σ with H:=H'}:AS).put o.dst true r) K)
  (hop:o.op= .call ⟨.value f,as,ts⟩:=by(first|rfl|fail)) (hg:o.guard=none:=by(first|rfl|fail)) (hc:calleeA (σ.get true f) (getsA (σ.get true) as.toList)=some (n,args):=by(first|(simp(maxSteps:=2000000) (disch:=omega) only[go_sem, *]<;>exact rfl)|fail)) (hH:Holds σ [] H0:=by exact zholds):aops P true ops (o::rest) σ K:=w_callA hop hg hc (hp.wider hH) h
end
structure Lat(B:Prop):Type where
 out:B
theorem zgo{A B:Prop}(h:B)(w:Lat B→A:=by
  (intro hB;(repeat (first|refine aw_seq ?_|refine zregion ?_|refine w_nil ?_|refine w_hold ?_|refine w_hold2 ?_|refine w_then ?_|refine w_thenR ?_|refine w_thenE ?_|refine w_blockN ?_|refine w_blockR ?_|refine w_blockE ?_|refine w_blockO (by decide) ?_|refine aw_skip ?_|refine aw_ret ?_|refine aw_exit ?_|refine aw_block ?_|refine zendFN ?_|refine zendFr ?_|refine zendFRn ?_|refine zendFR ?_|refine zendFEn ?_|refine zendFE ?_|refine zend ?_|refine zendN ?_|refine zendAs ?_|refine zendBN ?_|refine zendBR ?_|refine zendBE ?_|refine zyield ?_|refine zyieldG ?_|refine zcondT ?_|refine zcondF ?_|refine zdraw ?_|refine aw_label ?_|refine aw_scope ?_|refine sc_ret ?_|refine sc_norm ?_|refine zcallH ?_|refine zcallO ?_|refine zcallF ?_|refine zcallRO ?_|refine zcallG ?_|refine zcallX ?_|refine zcallXG ?_|refine zgF ?_|refine zpick ?_|refine zgT ?_|refine zrun ?_));exact hB.out)):A:=w ⟨h⟩
theorem zfin{A:Prop}(w:A:=by(simp(maxSteps:=2000000) (disch:=omega) only[go_sem,noId_c,noId_agg,noId_tup,noId_snap,false_implies,implies_true, *];(repeat (first|exact .refl _|exact .nil|exact wks_nil|refine wks_cons ?_ ?_|refine wk_tup ?_|refine wk_agg ?_|refine wk_snap ?_|exact wkr_nil|refine wkr_cons ?_ ?_)))):A:=w
theorem expoD_c(G:Nat→Option Blk)(k:Nat)(v:Value):expoD G k (.c v)= .c v:=by cases k<;>rfl
theorem idsD_c(G:Nat→Option Blk)(k:Nat)(v:Value):idsD G k (.c v)=[]:=by cases k<;>rfl
theorem row_expoD{r:List AV}(h:∀x∈r,∃v,x= .c v)(G:Nat→Option Blk)(k:Nat):r.map (expoD G k)=r:=by
 conv=>rhs;rw[←List.map_id r]
 exact List.map_congr_left fun x hx=>by obtain⟨v,rfl⟩:=h x hx;exact expoD_c G k v
theorem row_idsD{r:List AV}(h:∀x∈r,∃v,x= .c v)(G:Nat→Option Blk)(k:Nat):r.flatMap (idsD G k)=[]:=by
 rw[List.flatMap_eq_nil_iff];exact fun x hx=>by obtain⟨v,rfl⟩:=h x hx;exact idsD_c G k v
theorem encL_expoD{α:Type}{f:α→List AV}(h:∀a,∀x∈f a,∃v,x= .c v)(G:Nat→Option Blk)(k:Nat)(l:List α):(encL f l).map (fun row=>row.map (expoD G k))=encL f l:=by
 conv=>rhs;rw[←List.map_id (encL f l)]
 refine List.map_congr_left fun r hr=> ?_
 simp only[encL,List.mem_map]at hr;obtain⟨a,_,rfl⟩:=hr;exact row_expoD (h a) G k
theorem encL_idsD{α:Type}{f:α→List AV}(h:∀a,∀x∈f a,∃v,x= .c v)(G:Nat→Option Blk)(k:Nat)(l:List α):(encL f l).flatMap (fun row=>row.flatMap (idsD G k))=[]:=by
 rw[List.flatMap_eq_nil_iff];intro r hr;simp only[encL,List.mem_map]at hr;obtain⟨a,_,rfl⟩:=hr;exact row_idsD (h a) G k
attribute [go_sem] expoD_c idsD_c
end Go.AL
namespace Go.AL
section
variable {P : Program} {σ : AS} {Q : Exit → AS → Prop}
section
variable {ops : List Oper} {N0 i : Nat} {o : Oper} {r : List Oper} {σ'' : AS} {es : List Entry} {f : Operand} {as : Array Operand} {ts : Array TypeId} {n : FuncId}
theorem d_callOZ{args:List AV}{el:TypeId}{k:Nat}{rows:List (List AV)}(hop:o.op= .call ⟨.value f,as,ts⟩)(hg:o.guard=none)(hc:calleeA (σ.get true f) (getsA (σ.get true) as.toList)=some (n,args))
  (hp:OCall P n args el k rows) (h:DRun P ops N0 (i+1) r (σ.app o.dst ⟨true,.own (N0+i) 0 rows.length,[(N0+i,some (.cells el k rows true true))],[]⟩) es σ''):
  DRun P ops N0 i (o::r) σ (⟨true,.own (N0+i) 0 rows.length,[(N0+i,some (.cells el k rows true true))],[]⟩::es) σ'':=d_callO hop hg hp hc rfl h
theorem d_callTOZ{args:List AV}{a:AV}{el:TypeId}{k:Nat}{rows:List (List AV)}(hop:o.op= .call ⟨.value f,as,ts⟩)(hg:o.guard=none)(hc:calleeA (σ.get true f) (getsA (σ.get true) as.toList)=some (n,args))
  (hp:TOCall P n args a el k rows) (h:DRun P ops N0 (i+1) r (σ.app o.dst ⟨true,renO (N0+i) a,[(N0+i,some (.cells el k rows true true))],[]⟩) es σ''):
  DRun P ops N0 i (o::r) σ (⟨true,renO (N0+i) a,[(N0+i,some (.cells el k rows true true))],[]⟩::es) σ'':=
 .cons i o r σ _ es σ'' (.tocall f as ts n args a el k rows hop (by unfold gOK;rw[hg]) rfl hc hp rfl rfl) h
theorem d_callROZ{args0 args:List AV}{a:AV}{el:TypeId}{k:Nat}{rows:List (List AV)}{ap:Bool}{rd:List Nat}(hop:o.op= .call ⟨.value f,as,ts⟩)(hg:o.guard=none)(hc:calleeA (σ.get true f) (getsA (σ.get true) as.toList)=some (n,args0))(he:args0.map (expoD σ.H.get 3)=args)(hrd:args0.flatMap (idsD σ.H.get 3)=rd)(hp:FOCall P n args a el k rows ap)(hn:∀a∈args,NoId a)
  (h:DRun P ops N0 (i+1) r (σ.app o.dst ⟨true,renO (N0+i) a,[(N0+i,some (.cells el k rows true ap))],rd⟩) es σ''):DRun P ops N0 i (o::r) σ (⟨true,renO (N0+i) a,[(N0+i,some (.cells el k rows true ap))],rd⟩::es) σ'':=
 .cons i o r σ _ es σ'' (.rocall f as ts n args0 args 3 a el k rows ap hop (by unfold gOK;rw[hg]) rfl hc he hn hp rfl rfl fun x hx id hid=>by rw[←hrd];exact List.mem_flatMap.2 ⟨x,hx,hid⟩) h
end
theorem zdrawO{σ':AS}{id:Nat}{ops:Array Oper}{es:List Entry}(h:Q .normal σ')(hm:P.follows .mixedOrders=true:=by(first|kernel_rfl|fail))(hs:statB ops=true:=by(first|kernel_rfl|fail))(hd:ops.toList.all (dstIn σ.nt)=true:=by(first|rfl|fail))
  (hr:DRun P ops.toList σ.H.next 0 ops.toList {σ with H:=⟨σ.H.next+ops.size,σ.H.get⟩} es σ':=by(first|(apply d_runZ;(next=>(first|(simp(maxSteps:=2000000) (disch:=omega) only[go_sem, *]<;>exact rfl)|fail));(repeat (first|exact d_nil|(apply d_skipZ;(next=>(first|rfl|fail));(next=>(first|(simp(maxSteps:=2000000) (disch:=omega) only[go_sem, *]<;>exact rfl)|fail));apply d_runZ;(next=>(first|(simp(maxSteps:=2000000) (disch:=omega) only[go_sem, *]<;>exact rfl)|fail)))|(apply d_callTOZ;(next=>(first|rfl|fail));(next=>(first|rfl|fail));(next=>(first|(simp(maxSteps:=2000000) (disch:=omega) only[go_sem, *]<;>exact rfl)|fail));(next=>(first|assumption|(apply_assumption<;>first|assumption|omega)|fail));apply d_runZ;(next=>(first|(simp(maxSteps:=2000000) (disch:=omega) only[go_sem, *]<;>exact rfl)|fail)))|(apply d_callOZ;(next=>(first|rfl|fail));(next=>(first|rfl|fail));(next=>(first|(simp(maxSteps:=2000000) (disch:=omega) only[go_sem, *]<;>exact rfl)|fail));(next=>(first|assumption|(apply_assumption<;>first|assumption|omega)|fail));apply d_runZ;(next=>(first|(simp(maxSteps:=2000000) (disch:=omega) only[go_sem, *]<;>exact rfl)|fail)))|(apply d_callROZ;(next=>(first|rfl|fail));(next=>(first|rfl|fail));(next=>(first|(simp(maxSteps:=2000000) (disch:=omega) only[go_sem, *]<;>exact rfl)|fail));(next=>(first|(simp(maxSteps:=2000000) (disch:=omega) only[go_sem, *]<;>exact rfl)|fail));(next=>(first|(simp(maxSteps:=2000000) (disch:=omega) only[go_sem, *]<;>exact rfl)|fail));(next=>(first|assumption|(apply_assumption<;>first|assumption|omega)|fail));(next=>(first|(simp(maxSteps:=2000000) only[go_sem,noId_fn,noId_sptr,false_implies,implies_true, *];done)|(simp[noId_c,noId_agg,noId_snap,noId_tup,noId_fn,noId_sptr,encL_noIdE, *];done)|fail));apply d_runZ;(next=>(first|(simp(maxSteps:=2000000) (disch:=omega) only[go_sem, *]<;>exact rfl)|fail)))|(apply d_callPZ;(next=>(first|rfl|fail));(next=>(first|rfl|fail));(next=>(first|(simp(maxSteps:=2000000) (disch:=omega) only[go_sem, *]<;>exact rfl)|fail));(next=>(first|assumption|(apply_assumption<;>first|assumption|omega)|fail));(next=>(first|(simp(maxSteps:=2000000) only[go_sem,noId_fn,noId_sptr,false_implies,implies_true, *];done)|(simp[noId_c,noId_agg,noId_snap,noId_tup,noId_fn,noId_sptr,encL_noIdE, *];done)|fail));apply d_runZ;(next=>(first|(simp(maxSteps:=2000000) (disch:=omega) only[go_sem, *]<;>exact rfl)|fail)))|(apply d_callGZ;(next=>(first|rfl|fail));(next=>(first|rfl|fail));(next=>(first|(simp(maxSteps:=2000000) (disch:=omega) only[go_sem, *]<;>exact rfl)|fail));(next=>(first|(simp(maxSteps:=2000000) (disch:=omega) only[go_sem, *]<;>exact rfl)|fail));(next=>(first|assumption|(apply_assumption<;>first|assumption|omega)|fail));(next=>(first|(simp(maxSteps:=2000000) only[go_sem,noId_fn,noId_sptr,false_implies,implies_true, *];done)|(simp[noId_c,noId_agg,noId_snap,noId_tup,noId_fn,noId_sptr,encL_noIdE, *];done)|fail));apply d_runZ;(next=>(first|(simp(maxSteps:=2000000) (disch:=omega) only[go_sem, *]<;>exact rfl)|fail)))|(apply d_callR;(next=>(first|rfl|fail));(next=>(first|rfl|fail));(next=>(first|(simp(maxSteps:=2000000) (disch:=omega) only[go_sem, *]<;>exact rfl)|fail));(next=>(first|(simp(maxSteps:=2000000) (disch:=omega) only[go_sem, *]<;>exact rfl)|fail));(next=>(first|(simp(maxSteps:=2000000) (disch:=omega) only[go_sem, *]<;>exact rfl)|fail));(next=>(first|assumption|(apply_assumption<;>first|assumption|omega)|fail));(next=>(first|(simp(maxSteps:=2000000) only[go_sem,noId_fn,noId_sptr,false_implies,implies_true, *];done)|(simp[noId_c,noId_agg,noId_snap,noId_tup,noId_fn,noId_sptr,encL_noIdE, *];done)|fail));apply d_runZ;(next=>(first|(simp(maxSteps:=2000000) (disch:=omega) only[go_sem, *]<;>exact rfl)|fail)))|(apply d_callRG;(next=>(first|rfl|fail));(next=>(first|rfl|fail));(next=>(first|(simp(maxSteps:=2000000) (disch:=omega) only[go_sem, *]<;>exact rfl)|fail));(next=>(first|(simp(maxSteps:=2000000) (disch:=omega) only[go_sem, *]<;>exact rfl)|fail));(next=>(first|(simp(maxSteps:=2000000) (disch:=omega) only[go_sem, *]<;>exact rfl)|fail));(next=>(first|(simp(maxSteps:=2000000) (disch:=omega) only[go_sem, *]<;>exact rfl)|fail));(next=>(first|assumption|(apply_assumption<;>first|assumption|omega)|fail));(next=>(first|(simp(maxSteps:=2000000) only[go_sem,noId_fn,noId_sptr,false_implies,implies_true, *];done)|(simp[noId_c,noId_agg,noId_snap,noId_tup,noId_fn,noId_sptr,encL_noIdE, *];done)|fail));apply d_runZ;(next=>(first|(simp(maxSteps:=2000000) (disch:=omega) only[go_sem, *]<;>exact rfl)|fail))))))|fail))
  (hdyn:dynGo (tab ops.toList) 0 [] es=true:=by(first|(simp(maxSteps:=2000000) (disch:=omega) only[go_sem,nbeq_F,nbeq_T, *]<;>kernel_rfl)|fail)):AW P (.region id ops true) σ Q:=w_draw hm hs hd hr hdyn h
end
section
variable {P : Program} {σ : AS}
theorem zcallTO{ops:Array Oper}{o:Oper}{rest:List Oper}{K:AS→Prop}{f:Operand}{as:Array Operand}{ts:Array TypeId}{n:FuncId}{args:List AV}{a:AV}{el:TypeId}{k:Nat}{rows:List (List AV)}{p:AS×List Oper}(h:aops P true ops p.2 p.1 K)(hop:o.op= .call ⟨.value f,as,ts⟩:=by(first|rfl|fail))(hg:o.guard=none:=by(first|rfl|fail))
  (hc:calleeA (σ.get true f) (getsA (σ.get true) as.toList)=some (n,args):=by(first|(simp(maxSteps:=2000000) (disch:=omega) only[go_sem, *]<;>exact rfl)|fail)) (hp:TOCall P n args a el k rows:=by(first|assumption|(apply_assumption<;>first|assumption|omega)|fail))
  (hr:run P ops.toList rest (({σ with H:=⟨σ.H.next+1,upd σ.H.get [(σ.H.next,some (.cells el k rows true true))]⟩}:AS).put o.dst true (renO σ.H.next a))=p:=by(first|(simp(maxSteps:=2000000) (disch:=omega) only[go_sem, *]<;>exact rfl)|fail)):aops P true ops (o::rest) σ K:=
 w_callA hop hg hc hp.run fun r H' ⟨h1,h2⟩=>by subst h1;subst h2;exact run_ok _ _ hr h
end
theorem zgo2{A B:Prop}(h:B)(w:Lat B→A:=by
  (intro hB;(repeat (first|refine aw_seq ?_|refine zregion ?_|refine w_nil ?_|refine w_hold ?_|refine w_hold2 ?_|refine w_then ?_|refine w_thenR ?_|refine w_thenE ?_|refine w_blockN ?_|refine w_blockR ?_|refine w_blockE ?_|refine w_blockO (by decide) ?_|refine aw_skip ?_|refine aw_ret ?_|refine aw_exit ?_|refine aw_block ?_|refine zendFN ?_|refine zendFr ?_|refine zendFRn ?_|refine zendFR ?_|refine zendFEn ?_|refine zendFE ?_|refine zend ?_|refine zendN ?_|refine zendAs ?_|refine zendBN ?_|refine zendBR ?_|refine zendBE ?_|refine zyield ?_|refine zyieldG ?_|refine zcondT ?_|refine zcondF ?_|refine zdraw ?_|refine zdrawO ?_|refine aw_label ?_|refine aw_scope ?_|refine sc_ret ?_|refine sc_norm ?_|refine zcallH ?_|refine zcallO ?_|refine zcallTO ?_|refine zcallF ?_|refine zcallRO ?_|refine zcallG ?_|refine zcallX ?_|refine zcallXG ?_|refine zgF ?_|refine zpick ?_|refine zgT ?_|refine zrun ?_));exact hB.out)):A:=w ⟨h⟩
end Go.AL
namespace Go.AL
open Go.RowKit
theorem pcallA(k:Nat){P:Program}{n:FuncId}{args:List AV}{Q:AV→Prop}(hA:ACall P n args ⟨0,tabG []⟩ (fun a H'=>NoId (expoD H'.get k a)∧Q (expoD H'.get k a))):PCall P n args Q:=by
 refine⟨hA.1,fun L W vs hL hr=> ?_⟩
 have hRH:RH (Env0 L) W ⟨0,tabG []⟩:=⟨fun id h=>h.elim,hL,fun id h=>h.elim,fun id b h=>by cases h⟩
 refine(hA.2 (Env0 L) W vs hRH hr).mono fun e W' ⟨v,he,E',r,H',hv,hH,hrv,hno,hq⟩=> ?_
 refine⟨v,he,expoD H'.get k r,fun b=>if b<W.heap.size then L b else max (E'.L b) (match W'.heap[b]? with|some (.cells cur _ _)=>cur.size|_=>0),⟨hv.os,hv.tape,hv.output,hv.size,fun k hk=>hv.foreign k hk fun id h=>h.elim⟩,fun b hb'=> ?_,fun b hb'=> ?_,?_,hno,hq⟩
 ·simp[hb']
 ·have h1:¬b<W.heap.size:=by have:=hv.size;omega
  simp[h1,hH.core.lim b hb',Array.getElem?_eq_none hb']
 ·refine expoD_ok hH.core (fun b=> ?_) (fun id hU cur e f hc=> ?_) k hrv hno
  ·by_cases hb':b<W.heap.size
   ·rw[hv.still b hb' fun id h=>h.elim]
    simp[hb',Env0]
   ·simp[hb'];omega
  ·have h1:¬E'.ι id<W.heap.size:=by
    rcases hv.fresh id (fun h=>h) hU with h2|⟨id0,h2,_⟩
    ·omega
    ·exact h2.elim
   simp[h1,hc];omega
theorem TOCall.toP{P:Program}{n:FuncId}{args:List AV}{a b:AV}{e:TypeId}{k:Nat}{rows:List (List AV)}(h:TOCall P n args a e k rows)(hb:NoId b)
  (hq:NoId (expoD (upd (tabG []) [(0,some (.cells e k rows true true))]) 4 (renO 0 a))∧Wk (expoD (upd (tabG []) [(0,some (.cells e k rows true true))]) 4 (renO 0 a)) b):PCall P n args (·=b):=
 PCall.wk (pcallA 4 (Q:=fun r=>Wk r b) (h.run.mono fun r H' ⟨h1,h2⟩=>by subst h1;subst h2;exact hq)) hb
theorem tocall_of2{P:Program}{n:FuncId}{args:List AV}{a:AV}{e:TypeId}{k:Nat}{rows:List (List AV)}(ha:∀a∈args,NoId a)(hok:OkO a)(hrows:∀row∈rows,∀x∈row,NoId x)
  (h:ACall P n args ⟨0,tabG []⟩ fun r H'=>∃i,r=renO i a∧∃rows0,H'.get i=some (.cells e k rows0 true true)∧Wkr rows0 rows):TOCall P n args a e k rows:=by
 refine⟨h.1,fun E W G nid vs hG hnid hr=> ?_⟩
 have hRH:RH (Env0 E.L) W ⟨0,tabG []⟩:=⟨fun id h=>h.elim,hG.lim,fun id h=>h.elim,fun id b h=>by cases h⟩
 refine(h.2 (Env0 E.L) W vs hRH (hr.toPlain (fun _=>Nat.le_refl _) ha)).mono fun x W' ⟨v,he,E1,r,H',hv,hH,hrv,i,hri,rows0,hgi,hwk⟩=> ?_
 subst hri;obtain⟨hU1,hok1⟩:=hH.core.ok i _ hgi;obtain⟨hsz,hlen0,⟨cur,hcur,hle0,hcells0⟩,hw1,ha1⟩:=hok1
 have hat:∀(i:Nat) row,rows[i]? =some row→∃r0,rows0[i]? =some r0:=fun i row hi=>by
  have h1:=(List.getElem?_eq_some_iff.1 hi).1;exact⟨_,List.getElem?_eq_getElem (by rw[hwk.1];exact h1)⟩
 have hlen:∀(i:Nat) row,rows[i]? =some row→row.length=k:=fun i row hi=>by
  obtain⟨r0,h0⟩:=hat i row hi;rw[←(hwk.2 i r0 row h0 hi).1];exact hlen0 i r0 h0
 have hle:rows.length*k≤cur.size:=by rw[←hwk.1];exact hle0
 have hcells:∀(i j:Nat) row x,rows[i]? =some row→row[j]? =some x→∃u,cur[i*k+j]? =some u∧RV E1 W' x u:=fun i j row x hi hj=>by
  obtain⟨r0,h0⟩:=hat i row hi;have hw:=hwk.2 i r0 row h0 hi;have h1:=(List.getElem?_eq_some_iff.1 hj).1;obtain⟨u,h2,h3⟩:=hcells0 i j r0 _ h0 (List.getElem?_eq_getElem (by rw[hw.1];exact h1))
  exact⟨u,h2,RV.wk (hw.2 j _ x (List.getElem?_eq_getElem (by rw[hw.1];exact h1)) hj) h3⟩
 have hL0:=(hw1 rfl).1
 have hnew:W.heap.size≤E1.ι i:=by
  rcases hv.fresh i (fun h=>h) hU1 with h1|⟨id0,h1,_⟩
  ·exact h1
  ·exact h1.elim
 have hlt:E1.ι i<W'.heap.size:=hH.core.inW i hU1;have hstill:∀b,b<W.heap.size→E1.L b=E.L b:=fun b hb=>hv.still b hb fun id h=>h.elim
 have hold:∀b,b<W.heap.size→W'.heap[b]? =W.heap[b]? :=fun b hb=>hv.foreign b hb fun id h=>h.elim
 have hlim:∀b,E.L b≤E1.L b:=hv.lim
 let E':Env:=⟨fun id=>if id=nid then E1.ι i else E.ι id,fun id=>if id=nid then k else E.sz id,fun id=>E.U id∨id=nid,E1.L⟩
 have hι:∀id,E.U id→E'.ι id=E.ι id:=fun id hid=>by
  show(if id=nid then _ else _)=_
  rw[if_neg];rintro rfl;exact hnid hid
 have hs:∀id,E.U id→E'.sz id=E.sz id:=fun id hid=>by
  show(if id=nid then _ else _)=_
  rw[if_neg];rintro rfl;exact hnid hid
 have hιn:E'.ι nid=E1.ι i:=by show(if nid=nid then _ else _)=_;rw[if_pos rfl]
 have hsn:E'.sz nid=k:=by show(if nid=nid then _ else _)=_;rw[if_pos rfl]
 have hEvo:Evo E W E' W':=by
  refine⟨hv.os,hv.tape,hv.output,hv.size,fun id h=> .inl h,fun id hid=>⟨hι id hid,hs id hid⟩,hlim,hv.prot,fun b hb _=>hold b hb,hv.sizes,fun b hb _=>hstill b hb,fun id h1 h2=> ?_,hv.loops⟩
  rcases h2 with h2|h2
  ·exact absurd h2 h1
  ·subst h2;rw[hιn];exact .inl hnew
 have hrow:∀{x u},RV E1 W' x u→NoId x→RV E' W' x u:=fun hx hn=>RV.fromPlain (E:=E') (L:=E1.L) (fun _=>Nat.le_refl _) (hx.toPlain (L:=E1.L) (fun _=>Nat.le_refl _) hn)
 have holdne:∀id,E.U id→E'.ι id≠E1.ι i:=fun id hid heq=>by
  rw[hι id hid]at heq;have:=hG.inW id hid;omega
 refine⟨v,he,E',hEvo,⟨hH.core.lim,fun id hid=> ?_,fun id b hb=> ?_⟩,?_,fun id h=>h⟩
 ·rcases hid with hid|hid
  ·rw[hι id hid];exact Nat.lt_of_lt_of_le (hG.inW id hid) hv.size
  ·subst hid;rw[hιn];exact hlt
 ·simp only[upd]at hb
  by_cases hid:id=nid
  ·subst hid
   rw[if_pos rfl]at hb;injection hb with hb
   subst hb;refine⟨.inr rfl,hsn,hlen,⟨cur,by rw[hιn];exact hcur,hle,fun i' j row x h1 h2=> ?_⟩,fun _=>⟨by rw[hιn];exact hL0,fun id' b' hne hg' heq=> ?_⟩,fun _=>⟨by rw[hιn];show E1.L _≤_;rw[hL0];exact Nat.zero_le _,fun id' b' hne hg' heq=> ?_⟩⟩
   ·obtain⟨u,h3,h4⟩:=hcells i' j row x h1 h2
    exact⟨u,h3,hrow h4 (hrows row (List.mem_of_getElem? h1) x (List.mem_of_getElem? h2))⟩
   ·rw[hιn]at heq
    simp only[upd,if_neg hne]at hg';exact holdne id' (hG.ok id' b' hg').1 heq
   ·rw[hιn]at heq
    simp only[upd,if_neg hne]at hg';exact absurd heq (holdne id' (hG.ok id' b' hg').1)
  ·rw[if_neg hid]at hb
   obtain⟨hU,hok⟩:=hG.ok id b hb;have hlt2:=hG.inW id hU;refine⟨.inl hU,hok.mono hEvo hU (hold _ hlt2) (hstill _ hlt2) fun id' b' hne hg' heq=> ?_⟩
   simp only[upd]at hg';by_cases hid':id'=nid
   ·subst hid'
    rw[hιn]at heq;omega
   ·rw[if_neg hid']at hg'
    exact⟨b',hg',by rw[←heq,hι id' (hG.ok id' b' hg').1],rfl,fun h=>h⟩
 ·exact rv_swap hιn (by rw[hsn,←hsz]) (.inr rfl) hrow hok hrv
theorem tstart2{P:Program}{n:FuncId}{fn:Func}{c:Code}{args:List AV}{a:AV}{e:TypeId}{k:Nat}{rows:List (List AV)}{rs:List ResultVar}{nt:Nat}(hf:P.funcs[n]? =some fn)(hnt:fn.ntmps=nt)(ha:∀a∈args,NoId a)(hok:OkO a)(hrows:∀row∈rows,∀x∈row,NoId x)
  (h:AW P c ⟨envOf 0 args,⟨0,tabG []⟩,nt⟩ (hold (endA P rs (hold (fun r H'=>∃i,r=renO i a∧∃rows0,H'.get i=some (.cells e k rows0 true true)∧Wkr rows0 rows) ⟨⟩)) ⟨⟩))
  (hb:fn.body=some c:=by rfl) (hr:fn.results=List.toArray rs:=by rfl) (hnm:(fn.name== "runtime.NumGoroutine")=false:=by kernel_rfl) (hlen:args.length≤nt:=by(simp only[List.length_cons,List.length_nil];decide)):TOCall P n args a e k rows:=by
 refine tocall_of2 ha hok hrows (acall hf hb hnm (by rw[hnt];exact hlen) ?_)
 rw[hnt,hr];exact h
end Go.AL
namespace Go.AL
theorem RC.rowsV{E:Env}{W:World}{G:Nat→Option Blk}{j:Nat}{e:TypeId}{s:Nat}{rws rws':List (List AV)}{w a:Bool}{cur0:Array Value}(hG:RC E W G)(hj:G j=some (.cells e s rws w a))(hl:rws'.length=rws.length)
  (hr:∀(i:Nat) r r',rws[i]? =some r→rws'[i]? =some r'→r'.length=r.length∧∀(k:Nat) x y,r[k]? =some x→r'[k]? =some y→∀v,cur0[i*s+k]? =some v→RV E W y v) (hcur:W.heap[E.ι j]? =some (Obj.cells cur0 e (0,0))):RC E W (upd G [(j,some (.cells e s rws' w a))]):=by
 have hsame:∀id b,upd G [(j,some (.cells e s rws' w a))] id=some b→∃b0,G id=some b0∧b.upto=b0.upto∧(b0.app=false→b.app=false):=fun id b h=>by
  simp only[upd]at h;split at h
  ·rename_i heq
   injection h with h
   subst h;subst heq;exact⟨_,hj,by simp only[Blk.upto,hl],fun h=>h⟩
  ·exact⟨b,h,rfl,fun h=>h⟩
 refine⟨hG.lim,hG.inW,fun id b hb=> ?_⟩
 by_cases hid:id=j
 ·subst hid
  simp only[upd]at hb;rw[if_pos trivial]at hb;injection hb with hb
  subst hb;obtain⟨hU,h1,h2,⟨cur,h3,h4,h5⟩,h6,h7⟩:=hG.ok id _ hj;have hat:∀(i:Nat) r',rws'[i]? =some r'→∃r,rws[i]? =some r:=fun i r' h=>⟨_,List.getElem?_eq_getElem (by rw[←hl];exact(List.getElem?_eq_some_iff.1 h).1)⟩
  refine⟨hU,h1,fun i r' hi=> ?_,⟨cur,h3,by rw[hl];exact h4,fun i k r' y hi hk=> ?_⟩,fun hw=> ?_,fun ha=> ?_⟩
  ·obtain⟨r,h8⟩:=hat i r' hi
   rw[(hr i r r' h8 hi).1];exact h2 i r h8
  ·obtain⟨r,h8⟩:=hat i r' hi
   have h9:=hr i r r' h8 hi;have h10:k<r.length:=by rw[←h9.1];exact(List.getElem?_eq_some_iff.1 hk).1
   obtain⟨v,h11,h12⟩:=h5 i k r _ h8 (List.getElem?_eq_getElem h10)
   have hcc:cur=cur0:=by
    rw[hcur]at h3;injection h3 with h3;injection h3 with h3;exact h3.symm
   exact⟨v,h11,h9.2 k _ y (List.getElem?_eq_getElem h10) hk v (by rw[←hcc];exact h11)⟩
  ·obtain⟨h8,h9⟩:=h6 hw
   refine⟨h8,fun id' b' hne hg'=> ?_⟩
   obtain⟨b0,h10,_⟩:=hsame id' b' hg';exact h9 id' b0 hne h10
  ·obtain⟨h8,h9⟩:=h7 ha
   refine⟨by rw[hl];exact h8,fun id' b' hne hg' heq=> ?_⟩
   obtain⟨b0,h10,h11,h12⟩:=hsame id' b' hg';obtain⟨h13,h14⟩:=h9 id' b0 hne h10 heq;exact⟨by rw[h11,hl];exact h13,h12 h14⟩
 ·have hb2:G id=some b:=by simpa only[upd,if_neg hid]using hb
  obtain⟨hU,hok⟩:=hG.ok id b hb2;refine⟨hU,?_⟩;cases b with
  |map es=>
   obtain⟨h1,h5,h6⟩:=hok;refine⟨h1,h5,fun id' b' hne' hg'=> ?_⟩
   obtain⟨b0,h10,_⟩:=hsame id' b' hg';exact h6 id' b0 hne' h10
  |iter m n seen=>
   obtain⟨h1,h5,h6⟩:=hok;refine⟨h1,h5,fun id' b' hne' hg'=> ?_⟩
   obtain⟨b0,h10,_⟩:=hsame id' b' hg';exact h6 id' b0 hne' h10
  |rcd env nt ps assign body st pend=>
   obtain⟨h1,h5,h6⟩:=hok;refine⟨h1,h5,fun id' b' hne' hg'=> ?_⟩
   obtain⟨b0,h10,_⟩:=hsame id' b' hg';exact h6 id' b0 hne' h10
  |cells e' s' rows' w' a'=>
   obtain⟨h1,h2,h3,h6,h7⟩:=hok;refine⟨h1,h2,h3,fun hw=> ?_,fun ha=> ?_⟩
   ·obtain⟨h8,h9⟩:=h6 hw
    refine⟨h8,fun id' b' hne' hg'=> ?_⟩
    obtain⟨b0,h10,_⟩:=hsame id' b' hg';exact h9 id' b0 hne' h10
   ·obtain⟨h8,h9⟩:=h7 ha
    refine⟨h8,fun id' b' hne' hg' heq=> ?_⟩
    obtain⟨b0,h10,h11,h12⟩:=hsame id' b' hg';obtain⟨h13,h14⟩:=h9 id' b0 hne' h10 heq;exact⟨by rw[h11];exact h13,h12 h14⟩
def Fz(id:Nat)(rows:List (List AV))(x y:AV):Prop:=x=y∨∃off len,x= .own id off len∧off+len≤rows.length∧y= .snap ((rows.drop off).take len)
def FzRows(id:Nat)(rows rws rws':List (List AV)):Prop:=
 rws'.length=rws.length∧∀(i:Nat) r r',rws[i]? =some r→rws'[i]? =some r'→r'.length=r.length∧∀(k:Nat) x y,r[k]? =some x→r'[k]? =some y→Fz id rows x y
theorem aw_fz{P:Program}{σ:AS}{Q:Exit→AS→Prop}{c:Code}(id j:Nat){e e2:TypeId}{s s2:Nat}{rows rws:List (List AV)}{w a w2 a2:Bool}(rws':List (List AV))(hg:σ.H.get id=some (.cells e s rows w a))(hj:σ.H.get j=some (.cells e2 s2 rws w2 a2))(hij:j≠id)
  (hr:FzRows id rows rws rws') (h:AW P c ⟨σ.env,⟨σ.H.next,upd (upd σ.H.get [(id,some (.cells e s rows false a))]) [(j,some (.cells e2 s2 rws' w2 a2))]⟩,σ.nt⟩ Q):AW P c σ Q:=fun ro E W act hro hrel=>by
 obtain⟨hv,hH⟩:=freeze1 hrel.heap hg
 have hL:∀id',id'∈[id]→∀(e':TypeId) (s':Nat) (rows':List (List AV)) (w' a':Bool),σ.H.get id'=some (.cells e' s' rows' w' a')→rows'.length*s'≤(if E.ι id'=E.ι id then max (E.L (E.ι id')) (rows.length*s)else E.L (E.ι id')):=fun id' h1 e' s' rows' w' a' h2=>by
  simp only[List.mem_cons,List.not_mem_nil,or_false]at h1;subst h1;rw[hg]at h2;injection h2 with h2
  injection h2 with h3 h4 h5
  subst h4 h5;rw[if_pos rfl];omega
 have hj2:(upd σ.H.get [(id,some (.cells e s rows false a))]) j=some (.cells e2 s2 rws w2 a2):=by
  simp only[upd];rw[if_neg hij];exact hj
 --the values of the block j in the old world
 obtain⟨_,_,_,⟨cur,hc1,_,hc2⟩,_,_⟩:=hrel.heap.core.ok j _ hj
 have hRC:RC ⟨E.ι,E.sz,E.U,fun b=>if b=E.ι id then max (E.L b) (rows.length*s)else E.L b⟩ W (upd (upd σ.H.get [(id,some (.cells e s rows false a))]) [(j,some (.cells e2 s2 rws' w2 a2))]):=by
  refine hH.core.rowsV hj2 hr.1 (fun i r r' h1 h2=>⟨(hr.2 i r r' h1 h2).1,fun k x y hx hy v hvat=> ?_⟩) hc1
  obtain⟨v',h3,h4⟩:=hc2 i k r x h1 hx;rw[hvat]at h3;injection h3 with h3
  subst h3;rcases(hr.2 i r r' h1 h2).2 k x y hx hy with rfl|⟨off,len,rfl,hle,rfl⟩
  ·exact h4.mono hv
  ·have:=expoX1 hrel.heap.core hv h4 (fun id' h5=>hL id' (by simpa[ids1]using h5))
   simpa[expo1,rowsOf,hg,hle]using this
 refine wpIn_mono (h ro _ W act hro (hrel.mono hv ⟨hH.next,hRC⟩)) fun e' a' w' ⟨E',σ',h2,h3,h4,h5⟩=>⟨E',σ',(Went.of hv rfl).trans h2,h3,h4,h5⟩
end Go.AL
namespace Go.AL
open Go.RowKit
section
variable {P : Program} {σ : AS} {Q : Exit → AS → Prop}
theorem d_callXZ{ops:List Oper}{N0 i:Nat}{o:Oper}{r:List Oper}{σ σ'':AS}{es:List Entry}{f:Operand}{as:Array Operand}{ts:Array TypeId}{n:FuncId}{args0 args:List AV}{a:AV}{wr:List (Nat×Option Blk)}{rd:List Nat}(hop:o.op= .call ⟨.value f,as,ts⟩)(hg:o.guard=none)
  (hc:calleeA (σ.get true f) (getsA (σ.get true) as.toList)=some (n,args0)) (he:args0.map (expo2 σ.H.get)=args) (hrd:idsAll ids2 args0=rd) (hw:(rd.map fun id=>(id,frzB (σ.H.get id)))=wr) (hp:PCall P n args (·=a)) (hn:∀a∈args,NoId a) (h:DRun P ops N0 (i+1) r (σ.app o.dst ⟨true,a,wr,rd⟩) es σ''):
  DRun P ops N0 i (o::r) σ (⟨true,a,wr,rd⟩::es) σ'':=d_callX hop hg hp hc he hn hrd hw h
theorem zdrawX{σ':AS}{id:Nat}{ops:Array Oper}{es:List Entry}(h:Q .normal σ')(hm:P.follows .mixedOrders=true:=by(first|kernel_rfl|fail))(hs:statB ops=true:=by(first|kernel_rfl|fail))(hd:ops.toList.all (dstIn σ.nt)=true:=by(first|rfl|fail))
  (hr:DRun P ops.toList σ.H.next 0 ops.toList {σ with H:=⟨σ.H.next+ops.size,σ.H.get⟩} es σ':=by(first|(apply d_runZ;(next=>(first|(simp(maxSteps:=2000000) (disch:=omega) only[go_sem, *]<;>exact rfl)|fail));(repeat (first|exact d_nil|(apply d_callXZ;(next=>(first|rfl|fail));(next=>(first|rfl|fail));(next=>(first|(simp(maxSteps:=2000000) (disch:=omega) only[go_sem, *]<;>exact rfl)|fail));(next=>(first|(simp(maxSteps:=2000000) (disch:=omega) only[go_sem, *]<;>exact rfl)|fail));(next=>(first|(simp(maxSteps:=2000000) (disch:=omega) only[go_sem, *]<;>exact rfl)|fail));(next=>(first|(simp(maxSteps:=2000000) (disch:=omega) only[go_sem, *]<;>exact rfl)|fail));(next=>(first|assumption|(apply_assumption<;>first|assumption|omega)|fail));(next=>(first|(simp(maxSteps:=2000000) only[go_sem,noId_fn,noId_sptr,false_implies,implies_true, *];done)|(simp[noId_c,noId_agg,noId_snap,noId_tup,noId_fn,noId_sptr,encL_noIdE, *];done)|fail));apply d_runZ;(next=>(first|(simp(maxSteps:=2000000) (disch:=omega) only[go_sem, *]<;>exact rfl)|fail)))|(apply d_skipZ;(next=>(first|rfl|fail));(next=>(first|(simp(maxSteps:=2000000) (disch:=omega) only[go_sem, *]<;>exact rfl)|fail));apply d_runZ;(next=>(first|(simp(maxSteps:=2000000) (disch:=omega) only[go_sem, *]<;>exact rfl)|fail)))|(apply d_callTOZ;(next=>(first|rfl|fail));(next=>(first|rfl|fail));(next=>(first|(simp(maxSteps:=2000000) (disch:=omega) only[go_sem, *]<;>exact rfl)|fail));(next=>(first|assumption|(apply_assumption<;>first|assumption|omega)|fail));apply d_runZ;(next=>(first|(simp(maxSteps:=2000000) (disch:=omega) only[go_sem, *]<;>exact rfl)|fail)))|(apply d_callOZ;(next=>(first|rfl|fail));(next=>(first|rfl|fail));(next=>(first|(simp(maxSteps:=2000000) (disch:=omega) only[go_sem, *]<;>exact rfl)|fail));(next=>(first|assumption|(apply_assumption<;>first|assumption|omega)|fail));apply d_runZ;(next=>(first|(simp(maxSteps:=2000000) (disch:=omega) only[go_sem, *]<;>exact rfl)|fail)))|(apply d_callROZ;(next=>(first|rfl|fail));(next=>(first|rfl|fail));(next=>(first|(simp(maxSteps:=2000000) (disch:=omega) only[go_sem, *]<;>exact rfl)|fail));(next=>(first|(simp(maxSteps:=2000000) (disch:=omega) only[go_sem, *]<;>exact rfl)|fail));(next=>(first|(simp(maxSteps:=2000000) (disch:=omega) only[go_sem, *]<;>exact rfl)|fail));(next=>(first|assumption|(apply_assumption<;>first|assumption|omega)|fail));(next=>(first|(simp(maxSteps:=2000000) only[go_sem,noId_fn,noId_sptr,false_implies,implies_true, *];done)|(simp[noId_c,noId_agg,noId_snap,noId_tup,noId_fn,noId_sptr,encL_noIdE, *];done)|fail));apply d_runZ;(next=>(first|(simp(maxSteps:=2000000) (disch:=omega) only[go_sem, *]<;>exact rfl)|fail)))|(apply d_callPZ;(next=>(first|rfl|fail));(next=>(first|rfl|fail));(next=>(first|(simp(maxSteps:=2000000) (disch:=omega) only[go_sem, *]<;>exact rfl)|fail));(next=>(first|assumption|(apply_assumption<;>first|assumption|omega)|fail));(next=>(first|(simp(maxSteps:=2000000) only[go_sem,noId_fn,noId_sptr,false_implies,implies_true, *];done)|(simp[noId_c,noId_agg,noId_snap,noId_tup,noId_fn,noId_sptr,encL_noIdE, *];done)|fail));apply d_runZ;(next=>(first|(simp(maxSteps:=2000000) (disch:=omega) only[go_sem, *]<;>exact rfl)|fail)))|(apply d_callGZ;(next=>(first|rfl|fail));(next=>(first|rfl|fail));(next=>(first|(simp(maxSteps:=2000000) (disch:=omega) only[go_sem, *]<;>exact rfl)|fail));(next=>(first|(simp(maxSteps:=2000000) (disch:=omega) only[go_sem, *]<;>exact rfl)|fail));(next=>(first|assumption|(apply_assumption<;>first|assumption|omega)|fail));(next=>(first|(simp(maxSteps:=2000000) only[go_sem,noId_fn,noId_sptr,false_implies,implies_true, *];done)|(simp[noId_c,noId_agg,noId_snap,noId_tup,noId_fn,noId_sptr,encL_noIdE, *];done)|fail));apply d_runZ;(next=>(first|(simp(maxSteps:=2000000) (disch:=omega) only[go_sem, *]<;>exact rfl)|fail)))|(apply d_callR;(next=>(first|rfl|fail));(next=>(first|rfl|fail));(next=>(first|(simp(maxSteps:=2000000) (disch:=omega) only[go_sem, *]<;>exact rfl)|fail));(next=>(first|(simp(maxSteps:=2000000) (disch:=omega) only[go_sem, *]<;>exact rfl)|fail));(next=>(first|(simp(maxSteps:=2000000) (disch:=omega) only[go_sem, *]<;>exact rfl)|fail));(next=>(first|assumption|(apply_assumption<;>first|assumption|omega)|fail));(next=>(first|(simp(maxSteps:=2000000) only[go_sem,noId_fn,noId_sptr,false_implies,implies_true, *];done)|(simp[noId_c,noId_agg,noId_snap,noId_tup,noId_fn,noId_sptr,encL_noIdE, *];done)|fail));apply d_runZ;(next=>(first|(simp(maxSteps:=2000000) (disch:=omega) only[go_sem, *]<;>exact rfl)|fail)))|(apply d_callRG;(next=>(first|rfl|fail));(next=>(first|rfl|fail));(next=>(first|(simp(maxSteps:=2000000) (disch:=omega) only[go_sem, *]<;>exact rfl)|fail));(next=>(first|(simp(maxSteps:=2000000) (disch:=omega) only[go_sem, *]<;>exact rfl)|fail));(next=>(first|(simp(maxSteps:=2000000) (disch:=omega) only[go_sem, *]<;>exact rfl)|fail));(next=>(first|(simp(maxSteps:=2000000) (disch:=omega) only[go_sem, *]<;>exact rfl)|fail));(next=>(first|assumption|(apply_assumption<;>first|assumption|omega)|fail));(next=>(first|(simp(maxSteps:=2000000) only[go_sem,noId_fn,noId_sptr,false_implies,implies_true, *];done)|(simp[noId_c,noId_agg,noId_snap,noId_tup,noId_fn,noId_sptr,encL_noIdE, *];done)|fail));apply d_runZ;(next=>(first|(simp(maxSteps:=2000000) (disch:=omega) only[go_sem, *]<;>exact rfl)|fail))))))|fail))
  (hdyn:dynGo (tab ops.toList) 0 [] es=true:=by(first|(simp(maxSteps:=2000000) (disch:=omega) only[go_sem,nbeq_F,nbeq_T, *]<;>kernel_rfl)|fail)):AW P (.region id ops true) σ Q:=w_draw hm hs hd hr hdyn h
end
end Go.AL
namespace Go.AL
open Go.RowKit
def pan(x:Value):List PanicEntry:=[{v:=x,recovered:=false}]
def XCall(P:Program)(n:FuncId)(args:List AV)(x:Value):Prop:=
 enterable P n=true∧∀(L:Nat→Nat) (W:World) (vs:List Value),(∀b,W.heap.size≤b→L b=0)→RVs (Env0 L) W args vs→
  Calls P n vs.toArray W fun e W'=>e= .panicked (pan x)∧Below W.heap.size W W'
theorem XCall.run{P:Program}{n:FuncId}{args:List AV}{x:Value}(h:XCall P n args x)(ha:∀a∈args,NoId a){E:Env}{W:World}{H:Heap}(hH:RH E W H){vs:List Value}(hr:RVs E W args vs):
  Calls P n vs.toArray W fun e W'=>e= .panicked (pan x)∧Evo E W E W'∧RH E W' H:=by
 refine(h.2 E.L W vs hH.core.lim (hr.toPlain (fun _=>Nat.le_refl _) ha)).mono fun e W' ⟨he,hb⟩=> ?_
 obtain⟨h1,h2⟩:=Evo.below hH.core hb;exact⟨he,h1,hH.next,h2⟩
theorem rel_start{fn:Func}{args:List AV}{H:Heap}{E:Env}{W:World}{vs:List Value}(hlen:args.length≤fn.ntmps)(hH:RH E W H)(hr:RVs E W args vs):
  Rel E W ⟨envOf 0 args,H,fn.ntmps⟩ {tmps:=vs.toArray++Array.replicate (fn.ntmps-vs.toArray.size) undef,defers:=[]}:=by
 refine⟨Marks.nil E W,?_,fun t c a ha=> ?_,hH⟩
 ·have:=hr.1;simp;omega
 ·obtain⟨_,h1,hct⟩:=lk_envOf args 0 t _ ha
  obtain⟨v,h2,h3⟩:=hr.get h1;simp only[Nat.sub_zero]at h2;refine⟨v,?_,fun _=>h3,fun h=>by simp only at hct;rw[hct]at h;cases h⟩
  rw[Array.getElem?_append_left (by simpa using(List.getElem?_eq_some_iff.1 h2).1)]
  simpa using h2
theorem xcall{P:Program}{n:FuncId}{fn:Func}{c:Code}{args:List AV}{x:Value}(hf:P.funcs[n]? =some fn)(hb:fn.body=some c)(hnm:(fn.name== "runtime.NumGoroutine")=false)(hlen:args.length≤fn.ntmps)
  (h:AW P c ⟨envOf 0 args,⟨0,tabG []⟩,fn.ntmps⟩ (fun e _=>e= .panic (pan x))):XCall P n args x:=by
 refine⟨by unfold enterable;rw[hf];simp[hnm,hb],fun L W vs hL hr=> ?_⟩
 have hRH:RH (Env0 L) W ⟨0,tabG []⟩:=⟨fun id h=>h.elim,hL,fun id h=>h.elim,fun id b h=>by cases h⟩
 refine callsIn_wide.1 (callsIn_of_wp_marks (F:=Fence.wide) (n:=3) hf hb trivial ?_);refine wpIn_mono (h none (Env0 L) W _ (fun l h=>by cases h) (rel_start hlen hRH hr)) fun e a w ⟨E',σ',h1,h2,h3,h4⟩=> ?_
 subst h4;obtain⟨Ds,hD1,hD2,hD3⟩:=h2.defers;have hD4:∀D∈Ds,W.heap.size≤D:=fun D hD=>(h1.new D (mark_of hD1 hD)).resolve_left (fun h=>by cases h)
 have key:=leaves_marks (P:=P) (fn:=fn) (tmps:=a.tmps) (R:=fun e W'=>e= .panicked (pan x)∧Below W.heap.size W W') (I:=fun w'=>Evo (Env0 L) W E' w') (u:= .panicking (pan x)) (by simp) (rest:=[]) a.defers Ds hD1 h1.old hD2
  (fun D hD w' hw hI=>hI.shut hL (hD4 D hD)) (fun w' hI=>⟨rfl,hI.os,hI.tape,hI.output,hI.size,fun k hk=>hI.foreign k hk fun id h=>h.elim⟩) (fun D hD=>(hD3 D hD).1) h1.evo
 rw[List.append_nil]at key;exact key
theorem wpOpsIn_app{F:Fence}{n:Nat}{P:Program}{ops:Array Oper}{Q:Exit→Act→World→Prop}{r:List Nat}:∀(l:List Nat) (a:Act) (w:World),wpOpsIn F n P ops (Exit.then (wpOpsIn F n P ops Q r) Q) l a w→wpOpsIn F n P ops Q (l++r) a w
 |[],a,w,h=>h
 |i::l,a,w,h=>by
  simp only[wpOpsIn,List.cons_append]at h⊢;cases ho:ops[i]? with
  |none=>simp only[ho]at h⊢;exact wpOpsIn_app l a w h
  |some o=>
   simp only[ho]at h⊢;by_cases hw:Region.wanted o (yielded ops a.tmps)=true
   ·simp only[hw,if_true]at h⊢
    refine⟨h.1,?_⟩;have h2:=h.2;generalize (o.semAt F.round a.eval).run P w=r' at h2;simp only[Oper.uponIn]at h2⊢;split at h2
    ·exact wpOpsIn_app l _ _ h2
    ·exact wpOpsIn_app l _ _ h2
    ·exact wpOpsIn_app l _ _ h2
    ·refine⟨h2.1,h2.2.mono fun e w'' hR=> ?_⟩
     cases e with
     |returned v=>exact wpOpsIn_app l _ _ hR
     |panicked ch=>exact hR
     |outgrown=>exact hR
    ·exact⟨h2.1,h2.2.mono fun v w'' hR=>wpOpsIn_app l _ _ hR⟩
    ·refine⟨h2.1,h2.2.mono fun e w'' hR=> ?_⟩
     cases e with
     |returned v=>exact wpOpsIn_app l _ _ hR
     |panicked ch=>exact hR
     |outgrown=>exact hR
    ·exact h2
    ·exact h2
   ·simp only[hw,if_false,Bool.false_eq_true]at h⊢
    exact⟨h.1,wpOpsIn_app l _ _ h.2⟩
def XW(P:Program)(o:Oper)(σ:AS)(x:Value):Prop:=
 o.guard=none∧∀(ro:Option Nat) (E:Env) (W:World) (act:Act) (next:Act→World→Prop) (Q:Exit→Act→World→Prop),Rel E W σ act→(∀W',Evo E W E W'→Rel E W' σ act→Q (.panic (pan x)) act W')→o.wpIn (fen ro) 3 P act W next Q
theorem range_split{n k:Nat}(h:k<n):∃more,List.range n=List.range k++k::more:=by
 obtain⟨m,rfl⟩:∃m,n=k+(m+1):=⟨n-k-1,by omega⟩
 rw[List.range_add,List.range_succ_eq_map];exact⟨_,by simp;rfl⟩
section
variable {P : Program} {σ : AS} {Q : Exit → AS → Prop}
theorem w_regionX{id:Nat}{ops:Array Oper}(k:Nat){o:Oper}{x:Value}(ho:ops[k]? =some o)(hd:(ops.toList.take k).all (dstIn σ.nt)=true)
  (h:aops P true ops (ops.toList.take k) σ (hold (fun σ'=>XW P o σ' x∧Q (.panic (pan x)) σ') ⟨⟩)):AW P (.region id ops false) σ Q:=fun ro E W act hro hr=>by
 refine wpIn_region ?_;have hk:k<ops.size:=(Array.getElem?_eq_some_iff.1 ho).1;obtain⟨more,hm⟩:=range_split hk;rw[hm];refine wpOpsIn_app _ _ _ ?_;refine aops_ok (List.range k) (ops.toList.take k) ?_ h hd hr (fun E' W' σ' act' hv hr' hnt hK=> ?_)
 ·apply List.ext_getElem?
  intro i;simp only[List.getElem?_map,List.getElem?_range];by_cases hi:i<k
  ·have:i<ops.size:=by omega
   simp[hi,List.getElem?_range,List.getElem?_take,this]
  ·simp[hi,List.getElem?_range,List.getElem?_take]
 ·obtain⟨⟨hg,hx⟩,hq⟩:=hK
  show wpOpsIn (fen ro) 3 P ops _ (k::more) act' W'
  simp only[wpOpsIn,ho];rw[if_pos (by simp[Region.wanted,hg])]
  exact hx ro E' W' act' _ _ hr' fun W'' hv2 hr2=>⟨E',σ',hv.trans (.of hv2 rfl),hr2,hnt,hq⟩
theorem xw_call{o:Oper}{f:Operand}{as:Array Operand}{ts:Array TypeId}{n:FuncId}{args:List AV}{x:Value}(hop:o.op= .call ⟨.value f,as,ts⟩)(hg:o.guard=none)(hc:calleeA (σ.get true f) (getsA (σ.get true) as.toList)=some (n,args))(ha:∀a∈args,NoId a)(h:XCall P n args x):XW P o σ x:=by
 refine⟨hg,fun ro E W act next Q hr hn=> ?_⟩
 obtain⟨first,cap,as',hf,has,rfl⟩:=calleeA_out hc
 have h1:=hr.get rfl hf;have h2:=getsA_ok (E:=E) (W:=W) (ρ:=act.eval) (fun x b hb=>hr.get rfl hb) _ _ has
 generalize hfv:act.eval f=fv at h1;cases h1 with
 |fn _ _ _ vf vc hl hl2 h3 h4=>
 have hargs:RVs E W (first++as'++cap) (vf.toList++as.toList.map act.eval++vc.toList):=by
  refine(RVs.append ?_ h2).append ?_
  ·exact⟨by simpa using hl,fun i x v hx hv=>h3 i x v hx (by simpa using hv)⟩
  ·exact⟨by simpa using hl2,fun i x v hx hv=>h4 i x v hx (by simpa using hv)⟩
 have hcc:=h.run ha hr.heap hargs
 have hrun:(execOp act.eval o).run P W= .ok (.enter n (vf.toList++as.toList.map act.eval++vc.toList).toArray) W:=by
  simp only[execOp,hop,resolve,hfv,Deferred.ofValue,Sem.run_bind,Sem.run_pure,Result.andThen_ok,invoke];rw[run_callFunc h.1];congr 2;apply Array.ext';simp
 refine⟨fun _ _=>trivial,?_⟩
 rw[Oper.semAt_eq _ _ _ (fun c h=>by rw[hop]at h;cases h),hrun]
 refine⟨fen_depth,fen_calls (hcc.mono fun e W' ⟨he,hv,hH⟩=> ?_)⟩
 subst he;exact hn W' hv (hr.mono hv hH)
theorem xw_panic{o:Oper}{y:Operand}{t:TypeId}{v:Value}(hop:o.op= .panic y)(hg:o.guard=none)(hy:σ.get true y=some (.c (.iface t v))):XW P o σ (.iface t v):=by
 refine⟨hg,fun ro E W act next Q hr hn=> ?_⟩
 have h1:=hr.get rfl hy;generalize hv:act.eval y=u at h1;cases h1
 have hrun:(execOp act.eval o).run P W= .halt (.panic (.iface t v)) W:=by
  simp only[execOp,hop,hv,Instr.panic];rfl
 refine⟨fun _ _=>trivial,?_⟩
 rw[Oper.semAt_eq _ _ _ (fun c h=>by rw[hop]at h;cases h),hrun]
 exact hn W (Evo.refl E W) hr
end
end Go.AL
namespace Go.AL
open Go.RowKit
def modeOf:Option Value→FrameMode
 |none=> .returning
 |some x=> .panicking (pan x)
def modeBy:Option Value→FrameMode
 |none=> .returning
 |some x=> .panicking [{v:=x,recovered:=true}]
def rcv:Option Value→Value
 |none=> .nilIface
 |some x=>x
theorem settle_by(r:Option Value):settle (modeBy r)= .returning:=by cases r<;>rfl
theorem modeOf_run(r:Option Value):modeOf r≠ .run:=by cases r<;>simp[modeOf]
def DCall(P:Program)(m:FuncId)(args:List AV)(H:Heap)(r:Option Value)(Q:Heap→Prop):Prop:=
 enterable P m=true∧∀(E:Env) (W:World) (vs:List Value),RH E W H→RVs E W args vs→
  CallsDIn Fence.wide 2 P m vs.toArray (modeOf r) W fun e u' W'=>(∃v,e= .returned v)∧u'=modeBy r∧∃E' H',Evo E W E' W'∧RH E' W' H'∧Q H'
def ADef(E:Env)(W:World)(d:Deferred)(m:FuncId)(cargs:List AV):Prop:=
 ∃vf vc:Array Value,d={target:= .fn (.func m) vc,args:=vf}∧RVs E W cargs (vf.toList++vc.toList)
theorem ADef.mono{E E':Env}{W W':World}{d:Deferred}{m:FuncId}{cargs:List AV}(h:ADef E W d m cargs)(hv:Evo E W E' W'):ADef E' W' d m cargs:=by
 obtain⟨vf,vc,h1,h2,h3⟩:=h;exact⟨vf,vc,h1,h2,fun i x v hx hv'=>(h3 i x v hx hv').mono hv⟩
theorem ADef.shut{E:Env}{w:World}{d:Deferred}{m:FuncId}{cargs:List AV}{D:Nat}{x:Option (List Deferred)}{o:Obj}(hD:w.heap[D]? =some (.deferred x))(h:ADef E w d m cargs):ADef E (w.putObj D o) d m cargs:=by
 obtain⟨vf,vc,h1,h2,h3⟩:=h;exact⟨vf,vc,h1,h2,fun i x v hx hv'=>(h3 i x v hx hv').shut hD⟩
def AD(P:Program)(c:Code)(σ:AS)(m:FuncId)(cargs:List AV)(Q:Exit→AS→Prop):Prop:=
 ∀(E:Env) (W:World) (act:Act),Rel E W σ act→oldD act.defers=[]→c.wpIn Fence.wide 3 P (fun e act' W'=>∃E' σ' d,Evo E W E' W'∧(∀D,markD D∈act'.defers→markD D∈act.defers∨W.heap.size≤D)∧oldD act'.defers=[d]∧ADef E' W' d m cargs∧Rel E' W' σ' act'∧σ'.nt=σ.nt∧Q e σ') act W
theorem range_split'{n k:Nat}(h:k<n):List.range n=List.range k++k::List.range' (k+1) (n-(k+1)):=by
 obtain⟨m,rfl⟩:∃m,n=k+(m+1):=⟨n-k-1,by omega⟩
 rw[List.range_eq_range',List.range_eq_range',←List.range'_append_1,Nat.zero_add,List.range'_succ,show k+(m+1)-(k+1)=m by omega]
theorem map_take{ops:Array Oper}{k:Nat}(hk:k≤ops.size):(List.range k).map (ops[·]?)=(ops.toList.take k).map some:=by
 apply List.ext_getElem?;intro i;simp only[List.getElem?_map,List.getElem?_range];by_cases hi:i<k
 ·have:i<ops.size:=by omega
  simp[hi,List.getElem?_range,List.getElem?_take,this]
 ·simp[hi,List.getElem?_range,List.getElem?_take]
theorem map_drop{ops:Array Oper}{k:Nat}(hk:k<ops.size):(List.range' (k+1) (ops.size-(k+1))).map (ops[·]?)=(ops.toList.drop (k+1)).map some:=by
 apply List.ext_getElem?;intro i;simp only[List.getElem?_map,List.getElem?_drop];by_cases hi:i<ops.size-(k+1)
 ·have:k+1+i<ops.size:=by omega
  simp[List.getElem?_range',hi,this]
 ·have:¬k+1+i<ops.size:=by omega
  simp[List.getElem?_range',hi,this]
section
variable {P : Program} {σ : AS} {Q : Exit → AS → Prop} {m : FuncId} {cargs : List AV}
theorem ad_region{id:Nat}{ops:Array Oper}(k:Nat){o:Oper}{f:Operand}{as:Array Operand}{ts:Array TypeId}(ho:ops[k]? =some o)(hd:ops.toList.all (dstIn σ.nt)=true)(hop:o.op= .defer ⟨.value f,as,ts⟩)(hg:o.guard=none)
  (h:aops P true ops (ops.toList.take k) σ (hold (fun σ'=>calleeA (σ'.get true f) (getsA (σ'.get true) as.toList)=some (m,cargs)∧aops P true ops (ops.toList.drop (k+1)) (σ'.put o.dst true (.c undef)) (Q .normal)) ⟨⟩)):AD P (.region id ops false) σ m cargs Q:=fun E W act hr h0=>by
 refine wpIn_region ?_;have hk:k<ops.size:=(Array.getElem?_eq_some_iff.1 ho).1;have hall:∀x∈ops.toList,dstIn σ.nt x=true:=fun x hx=>by simpa using List.all_eq_true.1 hd x hx
 rw[range_split' hk];refine wpOpsIn_app _ _ _ ?_;refine aops_ok (ro:=none) (List.range k) (ops.toList.take k) (map_take (Nat.le_of_lt hk)) h (List.all_eq_true.2 fun x hx=>hall x (List.mem_of_mem_take hx)) hr (fun E' W' σ' act' hv hr' hnt hK=> ?_)
 obtain⟨hc,hrest⟩:=hK
 show wpOpsIn Fence.wide 3 P ops _ (k::List.range' (k+1) (ops.size-(k+1))) act' W'
 simp only[wpOpsIn,ho];rw[if_pos (by simp[Region.wanted,hg])]
 obtain⟨first,cap,as',hf,has,hca⟩:=calleeA_out hc
 have h1:=hr'.get rfl hf;have h2:=getsA_ok (E:=E') (W:=W') (ρ:=act'.eval) (fun x b hb=>hr'.get rfl hb) _ _ has
 generalize hfv:act'.eval f=fv at h1;cases h1 with
 |fn _ _ _ vf vc hl hl2 h3 h4=>
 have hargs:RVs E' W' cargs ((vf++as.map act'.eval).toList++vc.toList):=by
  rw[hca,show(vf++as.map act'.eval).toList++vc.toList=vf.toList++as.toList.map act'.eval++vc.toList by simp]
  refine(RVs.append ?_ ?_).append ?_
  ·exact⟨by simpa using hl,fun i x v hx hv=>h3 i x v hx (by simpa using hv)⟩
  ·exact h2
  ·exact⟨by simpa using hl2,fun i x v hx hv=>h4 i x v hx (by simpa using hv)⟩
 have hrun:(execOp act'.eval o).run P W'= .ok (.defer {target:= .fn (.func m) vc,args:=vf++as.map act'.eval}) W':=by
  simp only[execOp,hop,resolve,hfv,Deferred.ofValue,Sem.run_bind,Sem.run_pure,Result.andThen_ok]
 have hdef:ADef E' W' {target:= .fn (.func m) vc,args:=vf++as.map act'.eval} m cargs:=⟨_,_,rfl,hargs⟩;refine⟨fun _ _=>trivial,?_⟩
 rw[show Fence.wide.round=none from rfl,Oper.semAt_none,hrun]
 show wpOpsIn _ _ _ _ _ _ _ _
 have hr2:Rel E' W' σ' {act' with defers:={target:= .fn (.func m) vc,args:=vf++as.map act'.eval}::act'.defers}:=⟨hr'.defers.push rfl,hr'.size,hr'.env,hr'.heap⟩
 have hr3:=hr2.put (dst:=o.dst) (dstIn_ok (by rw[hnt];exact hall o (List.mem_of_getElem? (by simpa using ho)))) (c:=true) (a:= .c undef) (v:=undef) (fun _=> .c _ rfl) (fun h=>by cases h)
 refine aops_ok (ro:=none) _ (ops.toList.drop (k+1)) (map_drop hk) hrest (List.all_eq_true.2 fun x hx=>by rw[AS.put_nt,hnt];exact hall x (List.mem_of_mem_drop hx)) hr3 (fun E2 W2 σ2 act2 hv2 hr4 hnt2 hK2=> ?_)
 refine⟨E2,σ2,_,hv.evo.trans hv2.evo,fun D hD=> ?_,?_,hdef.mono hv2.evo,hr4,?_,hK2⟩
 ·rcases hv2.new D hD with h5|h5
  ·rw[Act.put_defers]at h5
   rcases List.mem_cons.1 h5 with h6|h6
   ·cases h6
   ·exact hv.new D h6
  ·exact .inr (Nat.le_trans hv.evo.size h5)
 ·rw[hv2.old,Act.put_defers]
  show oldD (_::_)=_
  unfold oldD;rw[List.filter_cons_of_pos (by rfl)]
  have:oldD act'.defers=[]:=by rw[hv.old];exact h0
  unfold oldD at this;rw[this]
 ·rw[hnt2,AS.put_nt,hnt]
theorem ad_seqL{x y:Code}(h:AD P x σ m cargs (thenA (fun σ'=>AW P y σ' Q) Q)):AD P (.seq x y) σ m cargs Q:=fun E W act hr h0=>by
 refine wpIn_seq (wpIn_mono (h E W act hr h0) fun e a w ⟨E',σ',d,hv,hm,ho,hd,hr',hnt,hq⟩=> ?_)
 cases e with
 |normal=>
  refine wpIn_mono (hq none E' w a (fun l hl=>by cases hl) hr') fun e2 a2 w2 ⟨E2,σ2,hw,hr2,hn2,hq2⟩=>⟨E2,σ2,d,hv.trans hw.evo,fun D hD=> ?_,hw.old.trans ho,hd.mono hw.evo,hr2,hn2.trans hnt,hq2⟩
  rcases hw.new D hD with h5|h5
  ·exact hm D h5
  ·exact .inr (Nat.le_trans hv.size h5)
 |_=>exact⟨E',σ',d,hv,hm,ho,hd,hr',hnt,hq⟩
theorem ad_seqR{x y:Code}(h:AW P x σ (fun e σ'=>e= .normal∧AD P y σ' m cargs Q)):AD P (.seq x y) σ m cargs Q:=fun E W act hr h0=>by
 refine wpIn_seq (wpIn_mono (h none E W act (fun l hl=>by cases hl) hr) fun e a w ⟨E',σ',hw,hr',hnt,he,hq⟩=> ?_)
 subst he;refine wpIn_mono (hq E' w a hr' (hw.old.trans h0)) fun e2 a2 w2 ⟨E2,σ2,d,hv2,hm2,ho2,hd2,hr2,hn2,hq2⟩=>⟨E2,σ2,d,hw.evo.trans hv2,fun D hD=> ?_,ho2,hd2,hr2,hn2.trans hnt,hq2⟩
 rcases hm2 D hD with h5|h5
 ·exact hw.new D h5
 ·exact .inr (Nat.le_trans hw.evo.size h5)
end
theorem split_one{d:Deferred}:∀{l:List Deferred},oldD l=[d]→∃l1 l2,l=l1++d::l2∧oldD l1=[]∧oldD l2=[]∧isMark d=false
 |[],h=>by cases h
 |x::l,h=>by
  unfold oldD at h;cases hx:isMark x with
  |true=>
   rw[List.filter_cons_of_neg (by simp[hx])]at h
   obtain⟨l1,l2,rfl,h1,h2,h3⟩:=split_one (l:=l) h;refine⟨x::l1,l2,rfl,?_,h2,h3⟩;unfold oldD at h1⊢;rw[List.filter_cons_of_neg (by simp[hx])];exact h1
  |false=>
   rw[List.filter_cons_of_pos (by simp[hx]),List.cons.injEq]at h
   obtain⟨rfl,h⟩:=h;exact⟨[],l,rfl,rfl,h,hx⟩
def endD(P:Program)(rs:List ResultVar)(m:FuncId)(cargs:List AV)(Q:AV→Heap→Prop):Exit→AS→Prop
 | .normal,σ=>DCall P m cargs σ.H none (hold (fun H'=>bindK (outA P {σ with H:=H'} rs) (hold (fun a=>Q a H') ⟨⟩)) ⟨⟩)
 | .ret,σ=>DCall P m cargs σ.H none (hold (fun H'=>bindK (outA P {σ with H:=H'} rs) (hold (fun a=>Q a H') ⟨⟩)) ⟨⟩)
 | .panic ch,σ=>∃x,ch=pan x∧DCall P m cargs σ.H (some x) (hold (fun H'=>bindK (outA P {σ with H:=H'} rs) (hold (fun a=>Q a H') ⟨⟩)) ⟨⟩)
 |_,_=>False
theorem dcall{P:Program}{n:FuncId}{fn:Func}{c:Code}{args:List AV}{H:Heap}{Q:AV→Heap→Prop}{m:FuncId}{cargs:List AV}(hf:P.funcs[n]? =some fn)(hb:fn.body=some c)(hnm:(fn.name== "runtime.NumGoroutine")=false)(hlen:args.length≤fn.ntmps)
  (h:AD P c ⟨envOf 0 args,H,fn.ntmps⟩ m cargs (hold (endD P fn.results.toList m cargs (hold Q ⟨⟩)) ⟨⟩)):ACall P n args H Q:=by
 refine⟨by unfold enterable;rw[hf];simp[hnm,hb],fun E W vs hH hr=> ?_⟩
 refine callsIn_wide.1 (callsIn_of_wp_marks (F:=Fence.wide) (n:=3) hf hb trivial ?_);refine wpIn_mono (h E W _ (rel_start hlen hH hr) rfl) fun e a w ⟨E',σ',d,hv,hm,ho,hd,hr',hnt,hq⟩=> ?_
 have fin:∀r:Option Value,DCall P m cargs σ'.H r (fun H'=>bindK (outA P {σ' with H:=H'} fn.results.toList) (hold (fun a=>Q a H') ⟨⟩))→
   LeavesInM Fence.wide 3 P fn a.tmps (fun e W'=>∃v,e= .returned v∧∃E' r H',Evo E W E' W'∧RH E' W' H'∧RV E' W' r v∧Q r H') a.defers (modeOf r) w:=fun r hq=>by
  obtain⟨Ds,hD1,hD2,hD3⟩:=hr'.defers;have hD4:∀D∈Ds,W.heap.size≤D:=fun D hD=>(hm D (mark_of hD1 hD)).resolve_left (fun h=>by cases h)
  obtain⟨l1,l2,hl,ho1,ho2,hdm⟩:=split_one ho;rw[hl,List.filter_append,List.filter_cons_of_neg (by simp[hdm])]at hD1
  obtain⟨Ds1,Ds2,rfl,hE1,hE2⟩:=List.map_eq_append_iff.1 hD1.symm;rw[List.nodup_append]at hD2;rw[hl]
  refine leaves_marks (I:=fun w'=>Evo E W E' w'∧Rel E' w' σ' {a with defers:=[]}∧ADef E' w' d m cargs∧∀D∈Ds2,w'.heap[D]? =some (.deferred (some []))) (u:=modeOf r) (modeOf_run r) (rest:=d::l2) l1 Ds1 hE1.symm ho1 hD2.1
   (fun D hD w' hw hI=>⟨hI.1.shut hH.core.lim (hD4 D (List.mem_append_left _ hD)),hI.2.1.shut hw,hI.2.2.1.shut hw,fun D' hD'=> ?_⟩) (fun w' hI=> ?_) (fun D hD=>(hD3 D (List.mem_append_left _ hD)).1) ⟨hv,⟨Marks.nil _ _,hr'.size,hr'.env,hr'.heap⟩,hd,fun D hD=>(hD3 D (List.mem_append_right _ hD)).1⟩
  ·rw[World.putObj_heap_other (fun e=>hD2.2.2 D hD D' hD' e.symm)]
   exact hI.2.2.2 D' hD'
  ·obtain⟨hI1,hI2,⟨vf,vc,rfl,hargs⟩,hI4⟩:=hI
   refine⟨modeOf_run r,.inr ⟨fun h=>by simp[Fence.wide]at h,.func m,vc,m,(vf.toList++vc.toList).toArray,rfl,?_,fun _ _=>trivial,?_⟩⟩
   ·simp only[invoke]
    rw[run_callFunc hq.1];congr 2;apply Array.ext';simp
   ·refine(hq.2 E' w' _ hI2.heap hargs).mono fun e u' w2 ⟨⟨v,he⟩,hu,E2,H2,hv2,hH2,hQ2⟩=> ?_
    subst he;subst hu
    show LeavesInM Fence.wide 3 P fn a.tmps _ l2 (settle (modeBy r)) w2
    rw[settle_by];obtain⟨b,hb2,hq2⟩:=bindK_out hQ2
    have hI5:∀D∈Ds2,w2.heap[D]? =some (.deferred (some [])):=fun D hD=>by
     rw[hv2.foreign D (Array.getElem?_eq_some_iff.1 (hI4 D hD)).1 (hD3 D (List.mem_append_right _ hD)).2];exact hI4 D hD
    have key:=leaves_marks (P:=P) (fn:=fn) (tmps:=a.tmps) (R:=fun e W'=>∃v,e= .returned v∧∃E' r H',Evo E W E' W'∧RH E' W' H'∧RV E' W' r v∧Q r H') (I:=fun w'=>Evo E W E2 w'∧Rel E2 w' ({σ' with H:=H2}:AS) {a with defers:=[]}) (u:= .returning) (by simp) (rest:=[]) l2 Ds2 hE2.symm ho2 hD2.2.1
     (fun D hD w' hw hI=>⟨hI.1.shut hH.core.lim (hD4 D (List.mem_append_right _ hD)),hI.2.shut hw⟩) (fun w' hI=> ?_) hI5 ⟨hI1.trans hv2,hI2.mono hv2 hH2⟩
    ·rw[List.append_nil]at key;exact key
    ·obtain⟨v2,h5,h6⟩:=run_results hI.2 hb2
     exact⟨v2,h5,v2,rfl,E2,b,H2,hI.1,hI.2.heap,h6,hq2⟩
 cases e with
 |normal=>exact fin none hq
 |ret=>exact fin none hq
 |panic ch=>
  obtain⟨x,rfl,hq⟩:=hq;exact fin (some x) hq
 |_=>exact hq.elim
theorem stepsIn_marks{P:Program}{I:World→Prop}:∀(ds:List Deferred) (Ds:List Nat),ds.filter isMark=Ds.map markD→oldD ds=[]→Ds.Nodup→(∀D∈Ds,∀w,w.heap[D]? =some (.deferred (some []))→I w→I (w.putObj D (.deferred none)))→
  ∀{fr:Frame} {cs:List Frame} {w:World},fr.mode≠ .run→fr.defers=ds→(∀D∈Ds,w.heap[D]? =some (.deferred (some [])))→I w→∃w',StepsIn (Machine.fenced P Fence.wide) P (lone fr cs w) (lone {fr with defers:=[]} cs w')∧I w'
 |[],_,_,_,_,_,fr,cs,w,_,hd,_,hI=>⟨w,by cases fr;simp only at hd;subst hd;exact StepsIn.refl _,hI⟩
 |d::ds,Ds,hm,ho,hn,hs,fr,cs,w,hmode,hfd,hw,hI=>by
  have hd:isMark d=true:=by
   cases h:isMark d with
   |true=>rfl
   |false=>
    unfold oldD at ho;rw[List.filter_cons_of_pos (by simp[h])]at ho
    cases ho
  rw[List.filter_cons_of_pos hd]at hm;cases Ds with
  |nil=>simp at hm
  |cons D Ds=>
   rw[List.map_cons,List.cons.injEq]at hm;obtain⟨rfl,hm⟩:=hm;have h0:=hw D (by simp)
   rw[List.nodup_cons]at hn
   have ho':oldD ds=[]:=by
    unfold oldD at ho⊢;rw[List.filter_cons_of_neg (by simp[hd])]at ho
    exact ho
   have h1:=step_collected (P:=P) (cs:=cs) hmode hfd rfl (run_takeDeferred h0)
   obtain⟨w',h2,h3⟩:=stepsIn_marks ds Ds hm ho' hn.2 (fun D' hD'=>hs D' (by simp[hD'])) (fr:={fr with defers:=[]++ds}) (cs:=cs) hmode rfl (fun D' hD'=>by
    rw[World.putObj_heap_other (fun e=>hn.1 (by rw[←e];exact hD'))]
    exact hw D' (by simp[hD'])) (hs D (by simp) w h0 hI)
   exact⟨w',.head (fenced_wide P _) h1 h2,h3⟩
def endC(P:Program)(fn:Func)(c₀:Frame)(cs:List Frame)(R:Ending→FrameMode→World→Prop)(e:Exit)(a:Act)(cs':List Frame)(w:World):Prop:=
 (e= .normal∨e= .ret)∧∃u',cs'={c₀ with mode:=u'}::cs∧∀fr:Frame,fr.mode= .returning→fr.defers=a.defers→
   ∃w',StepsIn (Machine.fenced P Fence.wide) P (lone fr cs' w) (lone {fr with defers:=[]} cs' w')∧∃v,(results fn a.tmps).run P w'= .ok v w'∧R (.returned v) u' w'
theorem dclos_base{P:Program}{m:FuncId}{fn:Func}{c:Code}{args:Array Value}{u:FrameMode}{w:World}{R:Ending→FrameMode→World→Prop}
  (hf:P.funcs[m]? =some fn) (hb:fn.body=some c)
  (h:∀(c₀:Frame) (cs:List Frame),c₀.mode=u→c.wpSIn Fence.wide 2 P (endC P fn c₀ cs R) {tmps:=args++Array.replicate (fn.ntmps-args.size) undef,defers:=[]} (c₀::cs) w):
  CallsDIn Fence.wide 2 P m args u w R:=by
 refine⟨trivial,fun c₀ cs hu hroom=> ?_⟩
 let b:Frame:={(default:Frame)with fn:=m,kind:= .deferred,roundOf:=none}
 have henter:Frame.enter P m args .deferred=
   b.atR {tmps:=args++Array.replicate (fn.ntmps-args.size) undef,defers:=[]} [.code c]:=by
  simp[Frame.enter,Frame.atR,hf,hb,b]
 obtain⟨e,a',cs',w',hl,⟨he,u',rfl,hq⟩,harr⟩:=h c₀ cs hu b [] rfl rfl trivial hroom;rw[←henter]at harr;rcases he with rfl|rfl
 ·obtain⟨w2,hs,v,hr,hR⟩:=hq {b.atR a' []with mode:= .returning} rfl rfl
  exact⟨.returned v,u',w2,_,hR,StepsIn.trans harr (.head (fenced_wide P _) (stepR_end rfl) hs),rfl,rfl,rfl,rfl,fn,hf,hr⟩
 ·obtain⟨todo,hs0⟩:=harr.1 rfl
  obtain⟨w2,hs,v,hr,hR⟩:=hq {b.atR a' todo with mode:= .returning} rfl rfl
  exact⟨.returned v,u',w2,_,hR,StepsIn.trans hs0 hs,rfl,rfl,rfl,rfl,fn,hf,hr⟩
end Go.AL
namespace Go.AL
open Go.RowKit
section
variable {P : Program} {ops : Array Oper}
theorem tail_seqX{Q:Exit→Act→World→Prop}{K:AS→Prop}{nt k0 kx:Nat}{ox:Oper}{x:Value}(hox:ops[kx]? =some ox)(hacy:∀(j:Nat) o,ops[j]? =some o→∀k∈onsOf o,k<j)(htail:∀j,k0≤j→j<ops.size→∀i,i<j→Reach ops.toList i j)
  (hd:ops.toList.all (dstIn nt)=true) {E0:Env} {W0:World} {A0:Act} {ro:Option Nat} (hQ:∀E W act σ,Went E0 W0 A0 E W act→Rel E W σ act→σ.nt=nt→K σ→Q (.panic (pan x)) act W):
  ∀(d m:Nat),kx-m=d→m≤kx→k0≤m→∀(fuel:Nat) (l:Array Bool) (E:Env) (W:World) (act:Act) (σ:AS),l.size=ops.size→(List.range ops.size).countP (fun i=> !Lst l i)≤fuel→(∀i,Lst l i=decide (i<m))→
   Went E0 W0 A0 E W act→Rel E W σ act→σ.nt=nt→aops P true ops ((ops.toList.drop m).take (kx-m)) σ (hold (fun s=>XW P ox s x∧K s) ⟨⟩)→wpAnyIn (fen ro) 3 P .any ops Q fuel l act W
 |d,m,hm,hle,hk,fuel,l,E,W,act,σ,hl,hcount,hex,hv,hr,hnt,h=>by
  have hms:m<ops.size:=by have:=(Array.getElem?_eq_some_iff.1 hox).1;omega
  have hcl:Closed ops.toList (Lst l):=fun j o ho hj k hk=>by
   rw[hex]at hj⊢;simp at hj⊢;have:=hacy j o (by simpa using ho) k hk
   omega
  have hrdm:m∈Region.ready .any ops l:=by
   rw[mem_ready];have h1:Lst l m=false:=by rw[hex];simp
   have hget:l.getD m true=false:=by
    have:m<l.size:=by omega
    simp[Lst,this]at h1;simp[this,h1]
   refine⟨hget,ops[m],Array.getElem?_eq_getElem hms,fun e he hb=> ?_⟩
   have hk:e.on∈onsOf ops[m]:=List.mem_map.2 ⟨e,List.mem_filter.2 ⟨by simpa using he,hb⟩,rfl⟩
   have:=hacy m _ (Array.getElem?_eq_getElem hms) e.on hk
   show Lst l e.on=true
   rw[hex];simpa using this
  have h2:0<(List.range ops.size).countP (fun i=> !Lst l i):=List.countP_pos_iff.2 ⟨m,by simpa using hms,by rw[hex];simp⟩
  obtain⟨fuel,rfl⟩:∃f,fuel=f+1:=⟨fuel-1,by omega⟩
  refine⟨(fun hrd=>by rw[hrd]at hrdm;cases hrdm),fun j hj=> ?_⟩
  obtain⟨h0,o,ho,hafter⟩:=mem_ready.1 hj;have hjs:j<ops.size:=(Array.getElem?_eq_some_iff.1 ho).1
  have hjl:Lst l j=false:=by
   have:j<l.size:=by omega
   simp[this]at h0;simp[Lst,this,h0]
  have hol:ops.toList[j]? =some o:=by simpa using ho
  have hpre:∀k∈onsOf o,Lst l k=true:=fun k hk=>by
   obtain⟨e,he,rfl⟩:=List.mem_map.1 hk;obtain⟨he1,he2⟩:=List.mem_filter.1 he;exact hafter e (by simpa using he1) he2
  have hpreR:∀i,Reach ops.toList i j→Lst l i=true:=fun i h=>by
   cases h with
   |step h hi=>rw[hol]at h;injection h with h;subst h;exact hpre _ hi
   |trans h hk hr=>rw[hol]at h;injection h with h;subst h;exact hr.closed hcl (hpre _ hk)
  have hjm:j=m:=by
   have h3:m≤j:=by rw[hex]at hjl;simpa using hjl
   rcases Nat.lt_or_ge m j with h4|h4
   ·have:=hpreR m (htail j (by omega) hjs m h4)
    rw[hex]at this;simp at this
   ·omega
  subst hjm;by_cases hz:j=kx
  ·subst hz
   rw[hox]at ho;injection ho with ho
   subst ho;rw[Nat.sub_self,List.take_zero]at h;obtain⟨⟨hg,hx⟩,hK⟩:=h;unfold wpOpIn;simp only[hox];rw[if_pos (by simp[Region.wanted,hg])]
   exact hx ro E W act _ _ hr fun W' hv' hr'=>hQ E W' act σ (hv.trans (.of hv' rfl)) hr' hnt hK
  cases d with
  |zero=>omega
  |succ d=>
   have hlt:j<kx:=by omega
   rw[List.drop_eq_getElem_cons (by simpa using hms),show kx-j=(kx-(j+1))+1 by omega,List.take_succ_cons]at h
   have hoe:ops.toList[j]'(by simpa using hms)=o:=by
    rw[List.getElem?_eq_getElem (by simpa using hms)]at hol
    exact Option.some.inj hol
   rw[hoe]at h
   have hset:∀i,Lst (l.setIfInBounds j true) i=(Lst l i||decide (i=j)):=fun i=>by
    unfold Lst;by_cases hij:i=j
    ·subst hij
     have:i<l.size:=by omega
     simp[this]
    ·simp[Array.getElem?_setIfInBounds_ne (Ne.symm hij),hij]
   have hdj:dstIn σ.nt o=true:=by rw[hnt];exact List.all_eq_true.1 hd o (by rw[Array.mem_toList_iff];exact Array.mem_of_getElem? ho)
   have hrun:=aop_ok (ro:=ro) (next:=wpAnyIn (fen ro) 3 P .any ops Q fuel (l.setIfInBounds j true)) (Q:=Q) h hdj hr (fun E' W' σ' act' hv' hr' hnt' hK=>by
    refine tail_seqX hox hacy htail hd hQ d (j+1) (by omega) (by omega) (by omega) fuel _ E' W' act' σ' (by simpa using hl) ?_ (fun i=> ?_) (hv.trans hv') hr' (hnt'.trans hnt) hK
    ·have key:∀n,j<n→(List.range n).countP (fun i=> !Lst (l.setIfInBounds j true) i)<(List.range n).countP (fun i=> !Lst l i):=by
      intro n
      induction n with
      |zero=>intro h;omega
      |succ n ihn=>
       intro hjn';rw[List.range_succ,List.countP_append,List.countP_append];by_cases hne:j=n
       ·subst hne
        have hle:(List.range j).countP (fun i=> !Lst (l.setIfInBounds j true) i)≤(List.range j).countP (fun i=> !Lst l i):=List.countP_mono_left fun i _ h=>by
         rw[hset]at h;simp at h;simp[h.1]
        have hsj:Lst (l.setIfInBounds j true) j=true:=by rw[hset];simp
        simp only[List.countP_cons,List.countP_nil,hsj,hjl,Bool.not_true,Bool.not_false,Bool.false_eq_true,if_true,if_false];omega
       ·have:=ihn (by omega)
        have hn:Lst (l.setIfInBounds j true) n=Lst l n:=by rw[hset];simp[Ne.symm hne]
        simp only[List.countP_cons,List.countP_nil,hn];omega
     have:=key _ hms;omega
    ·rw[hset,hex]
     by_cases h5:i<j
     ·simp[h5];omega
     ·by_cases h6:i=j
      ·simp[h6]
      ·simp[h5,h6];omega)
   unfold wpOpIn;simp only[ho];by_cases hw:Region.wanted o (yielded ops act.tmps)=true
   ·simp only[hw,if_true]at hrun⊢
    exact hrun
   ·simp only[hw]at hrun⊢
    exact⟨fun _ _=>trivial,hrun⟩
end
theorem w_drawTX{P:Program}{σ σ':AS}{Q:Exit→AS→Prop}{id:Nat}{ops:Array Oper}{es:List Entry}(k0 kx:Nat){ox:Oper}{x:Value}(hox:ops[kx]? =some ox)(hkx:k0≤kx)(hm:P.follows .mixedOrders=true)(hs:statB ops=true)(ht:tailB ops.toList k0=true)(hd:ops.toList.all (dstIn σ.nt)=true)
  (hr:DRun P ops.toList σ.H.next 0 (ops.toList.take k0) {σ with H:=⟨σ.H.next+ops.size,σ.H.get⟩} es σ') (hdyn:dynGo (tab ops.toList) 0 [] es=true) (h:aops P true ops ((ops.toList.drop k0).take (kx-k0)) σ' (hold (fun s=>XW P ox s x∧Q (.panic (pan x)) s) ⟨⟩)):AW P (.region id ops true) σ Q:=fun ro E W act hro hrel=>by
 obtain⟨h1,h2⟩:=statB_ok hs;obtain⟨hk,htl⟩:=tailB_ok ht;obtain⟨h3,h4,h5⟩:=hr.outT hk (σ0:={σ with H:=⟨σ.H.next+ops.size,σ.H.get⟩}) [] rfl rfl (Nat.zero_le _) rfl
 simp only[List.nil_append]at h3 h4 h5;have hdy:=(dynGo_ok es 0 [] hdyn).2;simp only[Nat.zero_add]at hdy
 have hlst:∀i,Lst (Array.replicate ops.size false) i=false:=fun i=>by
  unfold Lst;by_cases hin:i<ops.size<;>simp[hin]
 refine wpIn_region_any hm ?_
 refine draw_tail (N0:=σ.H.next) (σ0:={σ with H:=⟨σ.H.next+ops.size,σ.H.get⟩}) (es:=es) (E0:=E) (W0:=W) (A0:=act) hk h3 htl (fun j o e ho he=>h5 j o e (Nat.zero_le _) ho he) h1 h2 (fun i j a b hij ha hb hc=>tab_ok (hdy i j a b hij ha hb hc)) hd (by simp only[];omega)
  (fun fuel l E' W' act' hl hcount hex hv hr'=>tail_seqX (K:=Q (.panic (pan x))) (nt:=σ.nt) hox h1 htl hd (E0:=E) (W0:=W) (fun E2 W2 act2 σ2 hv2 hr2 hnt2 hK=>⟨E2,σ2,hv2,hr2,hnt2,hK⟩) (kx-k0) k0 rfl hkx (Nat.le_refl _) fuel l E' W' act' σ' hl hcount hex hv (by rw[h4];exact hr') (by rw[h4,stD_nt]) h)
  ops.size (Array.replicate ops.size false) E W.drew act (by simp) ?_ ?_ (fun i _=>hlst i) (Went.of (Evo.drew E W) rfl) ?_ ?_
 ·have:=List.countP_le_length (p:=fun i=> !Lst (Array.replicate ops.size false) i) (l:=List.range ops.size)
  simpa using this
 ·intro j o _ hj
  rw[hlst]at hj;cases hj
 ·have heq:∀k,stD ops es {σ with H:=⟨σ.H.next+ops.size,σ.H.get⟩} (Lst (Array.replicate ops.size false)) k={σ with H:=⟨σ.H.next+ops.size,σ.H.get⟩}:=by
   intro k
   induction k with
   |zero=>rfl
   |succ k ih=>simp only[stD,hlst,Bool.false_eq_true,if_false];exact ih
  rw[heq];exact⟨hrel.defers.mono (Evo.drew E W),hrel.size,fun t c a ha=>let ⟨v,h1,h2,h3⟩:=hrel.env t c a ha;⟨v,h1,fun hc=>(h2 hc).mono (Evo.drew E W),h3⟩,⟨fun id hid=>Nat.lt_of_lt_of_le (hrel.heap.next id hid) (Nat.le_add_right _ _),hrel.heap.core.drew⟩⟩
 ·exact fun id hid=> .inl (hrel.heap.next id hid)
theorem dclosV{P:Program}{m:FuncId}{fn:Func}{id:Nat}{ops:Array Oper}{y:Code}{args:List AV}{H:Heap}{r:Option Value}{Q:Heap→Prop}{o o2:Oper}{ts:Array TypeId}{t:Tmp}(hf:P.funcs[m]? =some fn)(hb:fn.body=some (.seq (.region id ops false) y))(hnm:(fn.name== "runtime.NumGoroutine")=false)(hlen:args.length≤fn.ntmps)
  (ho:ops= #[o,o2]) (hop:o.op= .call ⟨.builtin .recover,#[],ts⟩) (hg:o.guard=none) (hdt:o.dst=some t) (hop2:o2.op= .assign (.tmp t)) (hg2:o2.guard=none) (hd:dstIn fn.ntmps o=true) (hd2:dstIn fn.ntmps o2=true) (hx:isAggV (rcv r)=false)
  (h:AW P y ((({env:=envOf 0 args,H:=H,nt:=fn.ntmps}:AS).put o.dst true (.c (rcv r))).put o2.dst true (.c (rcv r))) (hold (fun e σ=>(e= .normal∨e= .ret)∧(∃a,outA P σ fn.results.toList=some a)∧Q σ.H) ⟨⟩)):DCall P m args H r Q:=by
 refine⟨by unfold enterable;rw[hf];simp[hnm,hb],fun E W vs hH hr=> ?_⟩
 refine dclos_base hf hb fun c₀ cs hu=> ?_
 have hrel:=rel_start hlen hH hr;refine wpSIn_seq (wpSIn_region ?_);have hrun:∀ρ,(execOp ρ o).run P W= .ok .recover W:=fun ρ=>by simp[execOp,hop,resolve,invoke,builtin]
 have hr1:=hrel.put (dst:=o.dst) (dstIn_ok hd) (c:=true) (a:= .c (rcv r)) (v:=rcv r) (fun _=> .c _ hx) (fun h=>by cases h)
 have hget:(({tmps:=vs.toArray++Array.replicate (fn.ntmps-vs.toArray.size) undef,defers:=[]}:Act).put o.dst (rcv r)).eval (.tmp t)=rcv r:=by
  have h2:=hr1.get (c:=true) rfl (x:= .tmp t) (a:= .c (rcv r)) (by simp[AS.get,AS.put,hdt,lk,impB])
  generalize (({tmps:=vs.toArray++Array.replicate (fn.ntmps-vs.toArray.size) undef,defers:=[]}:Act).put o.dst (rcv r)).eval (.tmp t)=u at h2;cases h2;rfl
 have hrun2:(execOp (({tmps:=vs.toArray++Array.replicate (fn.ntmps-vs.toArray.size) undef,defers:=[]}:Act).put o.dst (rcv r)).eval o2).run P W= .ok (.value (rcv r)) W:=by
  simp only[execOp,hop2,hget,Sem.run_pure]
 subst ho
 show wpOpsSIn Fence.wide 2 P #[o,o2] _ [0,1] _ _ _
 have main:y.wpSIn Fence.wide 2 P (endC P fn c₀ cs fun e u' W'=>(∃v,e= .returned v)∧u'=modeBy r∧∃E' H',Evo E W E' W'∧RH E' W' H'∧Q H') ((({tmps:=vs.toArray++Array.replicate (fn.ntmps-vs.toArray.size) undef,defers:=[]}:Act).put o.dst (rcv r)).put o2.dst (rcv r)) ({c₀ with mode:=modeBy r}::cs) W:=by
  have hr2:=hr1.put (dst:=o2.dst) (dstIn_ok (by rw[AS.put_nt];exact hd2)) (c:=true) (a:= .c (rcv r)) (v:=rcv r) (fun _=> .c _ hx) (fun h=>by cases h)
  refine wpSIn_of_wpIn rfl ?_;refine wpIn_wide.2 (wpIn_wide.1 (wpIn_mono (h none E W _ (fun l hl=>by cases hl) hr2) fun e a w ⟨E',σ',hw,hr',hn,he,⟨b,hb⟩,hq⟩=>⟨he,_,rfl,fun fr hm hfd=> ?_⟩))
  obtain⟨Ds,hD1,hD2,hD3⟩:=hr'.defers;have hD4:∀D∈Ds,W.heap.size≤D:=fun D hD=>(hw.new D (mark_of hD1 hD)).resolve_left (fun h=>by rw[Act.put_defers,Act.put_defers]at h;cases h)
  obtain⟨w',hs,hI⟩:=stepsIn_marks (P:=P) (I:=fun w'=>Evo E W E' w'∧Rel E' w' σ' {a with defers:=[]}) a.defers Ds hD1 (by rw[hw.old,Act.put_defers,Act.put_defers];rfl) hD2 (fun D hD w' hw' hI=>⟨hI.1.shut hH.core.lim (hD4 D hD),hI.2.shut hw'⟩) (fr:=fr) (cs:=_) (by rw[hm];simp) hfd (fun D hD=>(hD3 D hD).1) ⟨hw.evo,⟨Marks.nil _ _,hr'.size,hr'.env,hr'.heap⟩⟩
  obtain⟨v,h5,h6⟩:=run_results hI.2 hb;exact⟨w',hs,v,h5,⟨v,rfl⟩,rfl,E',σ'.H,hI.1,hI.2.heap,hq⟩
 have h3:∀cs',y.wpSIn Fence.wide 2 P (endC P fn c₀ cs fun e u' W'=>(∃v,e= .returned v)∧u'=modeBy r∧∃E' H',Evo E W E' W'∧RH E' W' H'∧Q H') ((({tmps:=vs.toArray++Array.replicate (fn.ntmps-vs.toArray.size) undef,defers:=[]}:Act).put o.dst (rcv r)).put o2.dst (rcv r)) cs' W→
   wpOpsSIn Fence.wide 2 P #[o,o2] (Exit.thenS (y.wpSIn Fence.wide 2 P (endC P fn c₀ cs fun e u' W'=>(∃v,e= .returned v)∧u'=modeBy r∧∃E' H',Evo E W E' W'∧RH E' W' H'∧Q H')) (endC P fn c₀ cs fun e u' W'=>(∃v,e= .returned v)∧u'=modeBy r∧∃E' H',Evo E W E' W'∧RH E' W' H'∧Q H')) [1] (({tmps:=vs.toArray++Array.replicate (fn.ntmps-vs.toArray.size) undef,defers:=[]}:Act).put o.dst (rcv r)) cs' W:=fun cs' hm=>by
  unfold wpOpsSIn;simp only[List.getElem?_toArray,List.getElem?_cons_succ,List.getElem?_cons_zero];refine⟨fun _ _=>trivial,?_⟩
  rw[if_pos (by simp[Region.wanted,hg2]),hrun2]
  exact hm
 unfold wpOpsSIn;simp only[List.getElem?_toArray,List.getElem?_cons_zero];refine⟨fun _ _=>trivial,?_⟩
 rw[if_pos (by simp[Region.wanted,hg]),hrun]
 cases r with
 |none=>
  have h1:recoverD (c₀::cs)=none:=by simp[recoverD,hu,modeOf]
  have h2:({c₀ with mode:=modeBy none}:Frame)=c₀:=by cases c₀;simp only at hu;subst hu;rfl
  rw[h2]at main;simp only[h1];exact h3 _ main
 |some x=>
  have h1:recoverD (c₀::cs)=some (x,{c₀ with mode:=modeBy (some x)}::cs):=by simp[recoverD,hu,modeOf,modeBy,pan]
  simp only[h1];exact h3 _ main
end Go.AL
namespace Go.AL
attribute [go_sem] resMI resAssert zeroNo boolV rcv
structure StopAt(id k:Nat)(x:Value):Prop where
theorem xstart{P:Program}{n:FuncId}{fn:Func}{c:Code}{args:List AV}{x:Value}{nt:Nat}(hf:P.funcs[n]? =some fn)(hnt:fn.ntmps=nt)
  (h:AW P c ⟨envOf 0 args,⟨0,tabG []⟩,nt⟩ (hold (fun e _=>e= .panic (pan x)) ⟨⟩))
  (hb:fn.body=some c:=by(first|rfl|fail)) (hnm:(fn.name== "runtime.NumGoroutine")=false:=by(first|kernel_rfl|fail)) (hlen:args.length≤nt:=by(simp only[List.length_cons,List.length_nil];decide)):XCall P n args x:=by
 refine xcall hf hb hnm (by rw[hnt];exact hlen) ?_
 rw[hnt];exact h
theorem dclstart{P:Program}{m:FuncId}{fn:Func}{id:Nat}{ops:Array Oper}{y:Code}{args:List AV}{H:Heap}{r:Option Value}{Q:Heap→Prop}{o o2:Oper}{ts:Array TypeId}{t t2:Tmp}{rs:List ResultVar}{nt:Nat}(hf:P.funcs[m]? =some fn)(hnt:fn.ntmps=nt)
  (h:AW P y ⟨(t2,true,.c (rcv r))::(t,true,.c (rcv r))::envOf 0 args,H,nt⟩ (hold (fun e σ=>(e= .normal∨e= .ret)∧(∃a,outA P σ rs=some a)∧Q σ.H) ⟨⟩)) (hb:fn.body=some (.seq (.region id ops false) y):=by(first|rfl|fail)) (hr:fn.results=List.toArray rs:=by(first|rfl|fail)) (hnm:(fn.name== "runtime.NumGoroutine")=false:=by(first|kernel_rfl|fail)) (hlen:args.length≤nt:=by(simp only[List.length_cons,List.length_nil];decide))
  (ho:ops= #[o,o2]:=by(first|rfl|fail)) (hop:o.op= .call ⟨.builtin .recover,#[],ts⟩:=by(first|rfl|fail)) (hg:o.guard=none:=by(first|rfl|fail)) (hdt:o.dst=some t:=by(first|rfl|fail)) (hop2:o2.op= .assign (.tmp t):=by(first|rfl|fail)) (hdt2:o2.dst=some t2:=by(first|rfl|fail)) (hg2:o2.guard=none:=by(first|rfl|fail)) (hd:dstIn nt o=true:=by(first|rfl|fail)) (hd2:dstIn nt o2=true:=by(first|rfl|fail)) (hx:isAggV (rcv r)=false:=by(first|rfl|fail)):DCall P m args H r Q:=by
 subst hnt;refine dclosV hf hb hnm hlen ho hop hg hdt hop2 hg2 hd hd2 hx ?_;simp only[AS.put,hdt,hdt2];rw[hr];exact h
section
variable {P : Program} {σ : AS} {Q : Exit → AS → Prop} {Q' : Prop}
theorem zregX{id k:Nat}{ops:Array Oper}{o:Oper}{x:Value}{l:List Oper}(h:aops P true ops l σ (hold (fun σ'=>XW P o σ' x∧Q (.panic (pan x)) σ') ⟨⟩))(s:StopAt id k x:=by assumption)(ho:ops[k]? =some o:=by(first|rfl|fail))(hl:ops.toList.take k=l:=by(first|rfl|fail))
  (hd:(ops.toList.take k).all (dstIn σ.nt)=true:=by(first|rfl|fail)):AW P (.region id ops false) σ Q:=by
 subst hl;exact w_regionX k ho hd h
theorem zregTX{id k k0:Nat}{σ':AS}{ops:Array Oper}{o:Oper}{x:Value}{l:List Oper}{es:List Entry}(s2:StopAt (id+1000) k0 .nilIface)(h:aops P true ops l σ' (hold (fun σ'=>XW P o σ' x∧Q (.panic (pan x)) σ') ⟨⟩))(s:StopAt id k x:=by assumption)(hkx:k0≤k:=by decide)(ho:ops[k]? =some o:=by(first|rfl|fail))(hl:(ops.toList.drop k0).take (k-k0)=l:=by(first|rfl|fail))(ht:tailB ops.toList k0=true:=by(first|kernel_rfl|fail))(hm:P.follows .mixedOrders=true:=by(first|kernel_rfl|fail))(hs:statB ops=true:=by(first|kernel_rfl|fail))(hd:ops.toList.all (dstIn σ.nt)=true:=by(first|rfl|fail))
  (hr:DRun P ops.toList σ.H.next 0 (ops.toList.take k0) {σ with H:=⟨σ.H.next+ops.size,σ.H.get⟩} es σ':=by(first|(apply d_runZ;(next=>(first|(simp(maxSteps:=2000000) (disch:=omega) only[go_sem, *]<;>exact rfl)|fail));(repeat (first|exact d_nil|(apply d_skipZ;(next=>(first|rfl|fail));(next=>(first|(simp(maxSteps:=2000000) (disch:=omega) only[go_sem, *]<;>exact rfl)|fail));apply d_runZ;(next=>(first|(simp(maxSteps:=2000000) (disch:=omega) only[go_sem, *]<;>exact rfl)|fail)))|(apply d_callTOZ;(next=>(first|rfl|fail));(next=>(first|rfl|fail));(next=>(first|(simp(maxSteps:=2000000) (disch:=omega) only[go_sem, *]<;>exact rfl)|fail));(next=>(first|assumption|(apply_assumption<;>first|assumption|omega)|fail));apply d_runZ;(next=>(first|(simp(maxSteps:=2000000) (disch:=omega) only[go_sem, *]<;>exact rfl)|fail)))|(apply d_callOZ;(next=>(first|rfl|fail));(next=>(first|rfl|fail));(next=>(first|(simp(maxSteps:=2000000) (disch:=omega) only[go_sem, *]<;>exact rfl)|fail));(next=>(first|assumption|(apply_assumption<;>first|assumption|omega)|fail));apply d_runZ;(next=>(first|(simp(maxSteps:=2000000) (disch:=omega) only[go_sem, *]<;>exact rfl)|fail)))|(apply d_callROZ;(next=>(first|rfl|fail));(next=>(first|rfl|fail));(next=>(first|(simp(maxSteps:=2000000) (disch:=omega) only[go_sem, *]<;>exact rfl)|fail));(next=>(first|(simp(maxSteps:=2000000) (disch:=omega) only[go_sem, *]<;>exact rfl)|fail));(next=>(first|(simp(maxSteps:=2000000) (disch:=omega) only[go_sem, *]<;>exact rfl)|fail));(next=>(first|assumption|(apply_assumption<;>first|assumption|omega)|fail));(next=>(first|(simp(maxSteps:=2000000) only[go_sem,noId_fn,noId_sptr,false_implies,implies_true, *];done)|(simp[noId_c,noId_agg,noId_snap,noId_tup,noId_fn,noId_sptr,encL_noIdE, *];done)|fail));apply d_runZ;(next=>(first|(simp(maxSteps:=2000000) (disch:=omega) only[go_sem, *]<;>exact rfl)|fail)))|(apply d_callPZ;(next=>(first|rfl|fail));(next=>(first|rfl|fail));(next=>(first|(simp(maxSteps:=2000000) (disch:=omega) only[go_sem, *]<;>exact rfl)|fail));(next=>(first|assumption|(apply_assumption<;>first|assumption|omega)|fail));(next=>(first|(simp(maxSteps:=2000000) only[go_sem,noId_fn,noId_sptr,false_implies,implies_true, *];done)|(simp[noId_c,noId_agg,noId_snap,noId_tup,noId_fn,noId_sptr,encL_noIdE, *];done)|fail));apply d_runZ;(next=>(first|(simp(maxSteps:=2000000) (disch:=omega) only[go_sem, *]<;>exact rfl)|fail)))|(apply d_callGZ;(next=>(first|rfl|fail));(next=>(first|rfl|fail));(next=>(first|(simp(maxSteps:=2000000) (disch:=omega) only[go_sem, *]<;>exact rfl)|fail));(next=>(first|(simp(maxSteps:=2000000) (disch:=omega) only[go_sem, *]<;>exact rfl)|fail));(next=>(first|assumption|(apply_assumption<;>first|assumption|omega)|fail));(next=>(first|(simp(maxSteps:=2000000) only[go_sem,noId_fn,noId_sptr,false_implies,implies_true, *];done)|(simp[noId_c,noId_agg,noId_snap,noId_tup,noId_fn,noId_sptr,encL_noIdE, *];done)|fail));apply d_runZ;(next=>(first|(simp(maxSteps:=2000000) (disch:=omega) only[go_sem, *]<;>exact rfl)|fail)))|(apply d_callR;(next=>(first|rfl|fail));(next=>(first|rfl|fail));(next=>(first|(simp(maxSteps:=2000000) (disch:=omega) only[go_sem, *]<;>exact rfl)|fail));(next=>(first|(simp(maxSteps:=2000000) (disch:=omega) only[go_sem, *]<;>exact rfl)|fail));(next=>(first|(simp(maxSteps:=2000000) (disch:=omega) only[go_sem, *]<;>exact rfl)|fail));(next=>(first|assumption|(apply_assumption<;>first|assumption|omega)|fail));(next=>(first|(simp(maxSteps:=2000000) only[go_sem,noId_fn,noId_sptr,false_implies,implies_true, *];done)|(simp[noId_c,noId_agg,noId_snap,noId_tup,noId_fn,noId_sptr,encL_noIdE, *];done)|fail));apply d_runZ;(next=>(first|(simp(maxSteps:=2000000) (disch:=omega) only[go_sem, *]<;>exact rfl)|fail)))|(apply d_callRG;(next=>(first|rfl|fail));(next=>(first|rfl|fail));(next=>(first|(simp(maxSteps:=2000000) (disch:=omega) only[go_sem, *]<;>exact rfl)|fail));(next=>(first|(simp(maxSteps:=2000000) (disch:=omega) only[go_sem, *]<;>exact rfl)|fail));(next=>(first|(simp(maxSteps:=2000000) (disch:=omega) only[go_sem, *]<;>exact rfl)|fail));(next=>(first|(simp(maxSteps:=2000000) (disch:=omega) only[go_sem, *]<;>exact rfl)|fail));(next=>(first|assumption|(apply_assumption<;>first|assumption|omega)|fail));(next=>(first|(simp(maxSteps:=2000000) only[go_sem,noId_fn,noId_sptr,false_implies,implies_true, *];done)|(simp[noId_c,noId_agg,noId_snap,noId_tup,noId_fn,noId_sptr,encL_noIdE, *];done)|fail));apply d_runZ;(next=>(first|(simp(maxSteps:=2000000) (disch:=omega) only[go_sem, *]<;>exact rfl)|fail))))))|fail))
  (hdyn:dynGo (tab ops.toList) 0 [] es=true:=by(first|(simp(maxSteps:=2000000) (disch:=omega) only[go_sem,nbeq_F,nbeq_T, *]<;>kernel_rfl)|fail)):AW P (.region id ops true) σ Q:=w_drawTX k0 k ho hkx hm hs ht hd hr hdyn (by rw[hl];exact h)
theorem zXcall{o:Oper}{x:Value}{f:Operand}{as:Array Operand}{ts:Array TypeId}{n:FuncId}{args:List AV}(h:Q')(hop:o.op= .call ⟨.value f,as,ts⟩:=by(first|rfl|fail))(hg:o.guard=none:=by(first|rfl|fail))
  (hc:calleeA (σ.get true f) (getsA (σ.get true) as.toList)=some (n,args):=by(first|(simp(maxSteps:=2000000) (disch:=omega) only[go_sem, *]<;>exact rfl)|fail)) (hx:XCall P n args x:=by(first|assumption|(apply_assumption<;>first|assumption|omega)|fail)) (hn:∀a∈args,NoId a:=by(first|(simp(maxSteps:=2000000) only[go_sem,noId_fn,noId_sptr,false_implies,implies_true, *];done)|(simp[noId_c,noId_agg,noId_snap,noId_tup,noId_fn,noId_sptr,encL_noIdE, *];done)|fail)):XW P o σ x∧Q':=⟨xw_call hop hg hc hn hx,h⟩
theorem zXpan{o:Oper}{y:Operand}{t:TypeId}{v:Value}(h:Q')(hop:o.op= .panic y:=by(first|rfl|fail))(hg:o.guard=none:=by(first|rfl|fail))
  (hy:σ.get true y=some (.c (.iface t v)):=by(first|(simp(maxSteps:=2000000) (disch:=omega) only[go_sem, *]<;>exact rfl)|fail)):XW P o σ (.iface t v)∧Q':=⟨xw_panic hop hg hy,h⟩
theorem w_thenP{next:AS→Prop}{ch:List PanicEntry}(h:Q (.panic ch) σ):thenA next Q (.panic ch) σ:=h
theorem w_blockP{id:Nat}{ch:List PanicEntry}(h:Q (.panic ch) σ):blockA id Q (.panic ch) σ:=h
end
theorem zgoX{A B:Prop}(h:B)(w:Lat B→A:=by
  (intro hB;(repeat (first|refine aw_seq ?_|refine zregX ?_|refine zXcall ?_|refine zXpan ?_|refine w_thenP ?_|refine w_blockP ?_|refine zregion ?_|refine w_nil ?_|refine w_hold ?_|refine w_hold2 ?_|refine w_then ?_|refine w_thenR ?_|refine w_thenE ?_|refine w_blockN ?_|refine w_blockR ?_|refine w_blockE ?_|refine w_blockO (by decide) ?_|refine aw_skip ?_|refine aw_ret ?_|refine aw_exit ?_|refine aw_block ?_|refine zendFN ?_|refine zendFr ?_|refine zendFRn ?_|refine zendFR ?_|refine zendFEn ?_|refine zendFE ?_|refine zend ?_|refine zendN ?_|refine zendAs ?_|refine zendBN ?_|refine zendBR ?_|refine zendBE ?_|refine zyield ?_|refine zyieldG ?_|refine zcondT ?_|refine zcondF ?_|refine zdraw ?_|refine zdrawO ?_|refine aw_label ?_|refine aw_scope ?_|refine sc_ret ?_|refine sc_norm ?_|refine zcallH ?_|refine zcallO ?_|refine zcallTO ?_|refine zcallF ?_|refine zcallRO ?_|refine zcallG ?_|refine zcallX ?_|refine zcallXG ?_|refine zgF ?_|refine zpick ?_|refine zgT ?_|refine zrun ?_));exact hB.out)):A:=w ⟨h⟩
end Go.AL
