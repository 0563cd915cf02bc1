/- Target: a layer over the walks (Le). No condition but those named. -/
import Derived.Test.YtpaomccedbjknaaGreatDoorLc
import Derived.RecoverIn
set_option linter.all false
namespace Go.AL
theorem aJ.{u}{α:Sort u}{a b:α}(w:a=b:=by(simp(maxSteps:=2000000) (disch:=omega) only[go_sem, *]<;>exact rfl)):a=b:=w
theorem iH{p:Prop}(w:p:=by(simp(maxSteps:=2000000) only[go_sem,iA,iB,false_implies,implies_true, *]<;>fail)):p:=w
theorem mI{p:Prop}(w:p:=by(simp(maxSteps:=2000000) (disch:=omega) only[go_sem, *]<;>fail)):p:=w
theorem bA7(k:Nat){P:Program}{n:FuncId}{fn:Func}{c:Code}{args:List AV}{Q:AV->Prop}(hf:P.funcs[n]? =some fn)(hb:fn.body=some c)(eW:(fn.name== "runtime.NumGoroutine")=false)(hlen:args.length<=fn.ntmps)
  (h:AW P c ⟨jW 0 args,⟨0,bN []⟩,fn.ntmps⟩ (hold (bT P fn.results.toList (hold (fun a H'=>bF (bJ H'.get k a)/\Q (bJ H'.get k a)) ⟨⟩)) ⟨⟩)):eA P n args Q:=by
 have hA:=CN hf hb eW hlen h;refine⟨hA.1,fun L W vs hL hr=> ?_⟩
 have kI:RH (eZ L) W ⟨0,bN []⟩:=⟨fun id h=>h.elim,hL,fun id h=>h.elim,fun id b h=>by cases h⟩
 refine(hA.2 (eZ L) W vs kI hr).mono fun e W' ⟨v,he,E',r,H',hv,hH,iP,fM,hq⟩=> ?_
 refine⟨v,he,bJ H'.get k r,fun b=>if b<W.heap.size then L b else max (E'.L b) (match W'.heap[b]? with|some (.cells cur _ _)=>cur.size|_=>0),⟨hv.os,hv.tape,hv.output,hv.size,fun k hk=>hv.rJ k hk fun id h=>h.elim⟩,fun b cE=> ?_,fun b cE=> ?_,?_,fM,hq⟩
 ·simp[cE]
 ·have h1:¬b<W.heap.size:=by have:=hv.size;omega
  simp[h1,hH.core.lim b cE,OW cE]
 ·refine JU hH.core (fun b=> ?_) (fun id hU cur e f hc=> ?_) k iP fM
  ·by_cases cE:b<W.heap.size
   ·rw[hv.still b cE fun id h=>h.elim]
    simp[cE,eZ]
   ·simp[cE];omega
  ·have h1:¬E'.ι id<W.heap.size:=by
    rcases hv.fresh id (fun h=>h) hU with h2|⟨sS,h2,_⟩
    ·omega
    ·exact h2.elim
   simp[h1,hc];omega
theorem bA8(k:Nat){P:Program}{n:FuncId}{fn:Func}{c:Code}{args:List AV}{r:AV}(hf:P.funcs[n]? =some fn)(hb:fn.body=some c)(eW:(fn.name== "runtime.NumGoroutine")=false)(hlen:args.length<=fn.ntmps)
  (h:AW P c ⟨jW 0 args,⟨0,bN []⟩,fn.ntmps⟩ (hold (bT P fn.results.toList (hold (fun a H'=>bF (bJ H'.get k a)/\fresh H'.get k a=true/\bJ H'.get k a=r) ⟨⟩)) ⟨⟩)):nJ P n args r:=by
 have hA:=CN hf hb eW hlen h;refine⟨hA.1,fun L W vs hL hr=> ?_⟩
 have kI:RH (eZ L) W ⟨0,bN []⟩:=⟨fun id h=>h.elim,hL,fun id h=>h.elim,fun id b h=>by cases h⟩
 refine(hA.2 (eZ L) W vs kI hr).mono fun e W' ⟨v,he,E',a,H',hv,hH,iP,fM,JX,hq⟩=> ?_
 subst hq;refine⟨v,he,fun b=>if b<W.heap.size then 0 else(match W'.heap[b]? with|some (.cells cur _ _)=>cur.size|_=>0),⟨hv.os,hv.tape,hv.output,hv.size,fun k hk=>hv.rJ k hk fun id h=>h.elim⟩,fun b cE=> ?_,fun b cE=> ?_,?_,fM⟩
 ·simp[cE]
 ·have h1:¬b<W.heap.size:=by have:=hv.size;omega
  simp[h1,OW cE]
 ·refine bx8 hH.core (fun id hU cur e f hc=> ?_) k iP JX
  have h1:¬E'.ι id<W.heap.size:=by
   rcases hv.fresh id (fun h=>h) hU with h2|⟨sS,h2,_⟩
   ·omega
   ·exact h2.elim
  simp[h1,hc]
set_option linter.constructorNameAsVariable false
end Go.AL
namespace Go.AL
theorem nJ.less{P:Program}{n:FuncId}{as bs:List AV}{a:AV}(h:nJ P n bs a)(hw:y1 as bs):nJ P n as a:=
 ⟨h.1,fun L W vs hL hr=>h.2 L W vs hL (hr.wk hw)⟩
theorem EU{P:Program}{n:FuncId}{fn:Func}{c:Code}{args:List AV}{e:TypeId}{k:Nat}{rows:List (List AV)}{rs:List ResultVar}{nt:Nat}(hf:P.funcs[n]? =some fn)(cL:fn.ntmps=nt)(ha:∀a∈args,bF a)(fA:∀row∈rows,∀x∈row,bF x)
  (h:AW P c ⟨jW 0 args,⟨0,bN []⟩,nt⟩ (hold (bT P rs (hold (fun a H'=>∃i,a= .own i 0 rows.length/\H'.get i=some (.cells e k rows true true)) ⟨⟩)) ⟨⟩))
  (hb:fn.body=some c:=by rfl) (hr:fn.results=List.toArray rs:=by rfl) (eW:(fn.name== "runtime.NumGoroutine")=false:=by kernel_rfl) (hlen:args.length<=nt:=by(simp only[iQ,kT];decide)):r5 P n args e k rows:=by
 refine NA ha fA hf hb eW (by rw[cL];exact hlen) ?_
 rw[cL,hr];exact h
theorem iB{rows:List (List AV)}{i o:Nat}:bF (.cH rows i o)↔∀row∈rows,∀x∈row,bF x:=⟨fun h=>by cases h;assumption,.cH rows i o⟩
theorem iA{f:Fn}{xs ys:List AV}:bF (.fn f xs ys)↔(∀x∈xs,bF x)/\∀x∈ys,bF x:=⟨fun h=>by cases h;exact⟨by assumption,by assumption⟩,fun h=> .fn f xs ys h.1 h.2⟩
theorem aZ{P:Program}{n:FuncId}{fn:Func}{c:Code}{args:List AV}{b:AV}{rs:List ResultVar}{nt:Nat}(hf:P.funcs[n]? =some fn)(cL:fn.ntmps=nt)(fM:bF b)
  (h:AW P c ⟨jW 0 args,⟨0,bN []⟩,nt⟩ (hold (bT P rs (hold (fun a H'=>bF (EH H'.get a)/\Wk (EH H'.get a) b) ⟨⟩)) ⟨⟩))
  (hb:fn.body=some c:=by(first|rfl|fail)) (hr:fn.results=List.toArray rs:=by(first|rfl|fail)) (eW:(fn.name== "runtime.NumGoroutine")=false:=by(first|kernel_rfl|fail)) (hlen:args.length<=nt:=by(simp only[iQ,kT];decide)):eA P n args (·=b):=by
 refine eA.wk ?_ fM;refine bo6 hf hb eW (by rw[cL];exact hlen) ?_
 rw[cL,hr];exact h
theorem iZ{P:Program}{n:FuncId}{fn:Func}{c:Code}{args:List AV}{b:AV}{rs:List ResultVar}{nt:Nat}(hf:P.funcs[n]? =some fn)(cL:fn.ntmps=nt)(fM:bF b)
  (h:AW P c ⟨jW 0 args,⟨0,bN []⟩,nt⟩ (hold (bT P rs (hold (fun a H'=>bF (bJ H'.get 4 a)/\Wk (bJ H'.get 4 a) b) ⟨⟩)) ⟨⟩))
  (hb:fn.body=some c:=by(first|rfl|fail)) (hr:fn.results=List.toArray rs:=by(first|rfl|fail)) (eW:(fn.name== "runtime.NumGoroutine")=false:=by(first|kernel_rfl|fail)) (hlen:args.length<=nt:=by(simp only[iQ,kT];decide)):eA P n args (·=b):=by
 refine eA.wk ?_ fM;refine bA7 4 hf hb eW (by rw[cL];exact hlen) ?_
 rw[cL,hr];exact h
theorem NO{Q:Exit->AS->Prop}{σ:AS}(h:Q .ret σ):Fo Q .ret σ:=h
theorem NP{Q:Exit->AS->Prop}{σ:AS}(h:Q .normal σ):Fo Q .normal σ:=h
section
variable {P : Program} {σ : AS} {Q : Exit -> AS -> Prop}
theorem NQ{id:Nat}{ops:Array Oper}{p:AS×List Oper}(h:b8 P true ops p.2 p.1 (Q .normal))(hd:ops.toList.all (fS σ.nt)=true:=by(first|rfl|fail))
  (hr:run P ops.toList ops.toList σ=p:=by(exact aJ)):AW P (.region id ops false) σ Q:=Gd hd hr h
theorem IW{c:Operand}{x y:Code}(h:AW P x σ Q)(hc:jL (σ.get true c)=some true:=by(first|exact mI|fail)):AW P (.cond c x y) σ Q:=bo7 hc h
theorem NR{c:Operand}{x y:Code}(h:AW P y σ Q)(hc:jL (σ.get true c)=some false:=by(first|exact mI|fail)):AW P (.cond c x y) σ Q:=bo8 hc h
theorem YH{c:Operand}{x y:Code}{b:Bool}(ht:b=true->AW P x σ Q)(hf:b=false->AW P y σ Q)(hc:jL (σ.get true c)=some b:=by(exact aJ)):AW P (.cond c x y) σ Q:=bu6 hc ht hf
theorem NS{rs:List ResultVar}{Q:AV->Heap->Prop}{a:AV}(h:Q a σ.H)(ho:iL P σ rs=some a:=by(exact aJ)):bT P rs Q .ret σ:=bu7 ho h
theorem zC{rs:List ResultVar}{Q:AV->Heap->Prop}{a:AV}(h:Q a σ.H)(ho:iL P σ rs=some a:=by(exact aJ)):bT P rs Q .normal σ:=bu8 ho h
section
variable {ops : List Oper} {N0 i : Nat} {o : Oper} {r : List Oper} {dV : AS} {es : List Entry} {f : Operand} {as : Array Operand} {ts : Array TypeId} {n : FuncId}
theorem eK{l:List Oper}{p:List Entry×AS×Nat×List Oper}(hr:GK P ops N0 i l σ=p)(h:fX P ops N0 p.2.2.1 p.2.2.2 p.2.1 es dV):fX P ops N0 i l σ (p.1++es) dV:=Xm hr h
theorem KA{args:List AV}{a:AV}(aS:o.op= .call ⟨.value f,as,ts⟩)(hg:o.guard=none)
  (hc:fN (σ.get true f) (dN (σ.get true) as.toList)=some (n,args)) (hp:eA P n args (·=a)) (hn:∀a∈args,bF a) (h:fX P ops N0 (i+1) r (σ.app o.dst ⟨true,a,[],[]⟩) es dV):fX P ops N0 i (o::r) σ (⟨true,a,[],[]⟩::es) dV:=bz4 aS hg hp hc hn h
theorem KB{j:Nat}{want:Bool}(hg:o.guard=some (j,want))(hw:nQ (nA ops j σ.env) want=some false)(h:fX P ops N0 (i+1) r (σ.app o.dst ⟨false,.c (.bool false),[],[]⟩) es dV):fX P ops N0 i (o::r) σ (⟨false,.c (.bool false),[],[]⟩::es) dV:=
 .cons i o r σ _ es dV (.skip (by unfold l9;rw[hg];exact hw) rfl rfl) h
theorem KC{args:List AV}{a:AV}{j:Nat}{want c:Bool}(aS:o.op= .call ⟨.value f,as,ts⟩)(hg:o.guard=some (j,want))
  (hw:nQ (nA ops j σ.env) want=some c) (hc:fN (σ.get c f) (dN (σ.get c) as.toList)=some (n,args)) (hp:eA P n args (·=a)) (hn:∀a∈args,bF a) (h:fX P ops N0 (i+1) r (σ.app o.dst ⟨c,a,[],[]⟩) es dV):fX P ops N0 i (o::r) σ (⟨c,a,[],[]⟩::es) dV:=bz5 aS hg hw hp hc hn h
theorem KD{bW args:List AV}{a:AV}{rd:List Nat}(aS:o.op= .call ⟨.value f,as,ts⟩)(hg:o.guard=none)(hc:fN (σ.get true f) (dN (σ.get true) as.toList)=some (n,bW))(he:bW.map (bJ σ.H.get 3)=args)(iW:bW.flatMap (gK σ.H.get 3)=rd)(hp:nJ P n args a)(hn:∀a∈args,bF a)
  (h:fX P ops N0 (i+1) r (σ.app o.dst ⟨true,a,[],rd⟩) es dV):fX P ops N0 i (o::r) σ (⟨true,a,[],rd⟩::es) dV:=
 .cons i o r σ _ es dV (.K4 f as ts n bW args 3 aS (by unfold l9;rw[hg]) rfl hc he hn hp rfl fun x hx id aC=>by rw[<-iW];exact B8.2 ⟨x,hx,aC⟩) h
theorem KE{bW args:List AV}{a:AV}{rd:List Nat}{j:Nat}{want:Bool}(aS:o.op= .call ⟨.value f,as,ts⟩)(hg:o.guard=some (j,want))(hw:nQ (nA ops j σ.env) want=some true)(hc:fN (σ.get true f) (dN (σ.get true) as.toList)=some (n,bW))(he:bW.map (bJ σ.H.get 3)=args)(iW:bW.flatMap (gK σ.H.get 3)=rd)(hp:nJ P n args a)(hn:∀a∈args,bF a)
  (h:fX P ops N0 (i+1) r (σ.app o.dst ⟨true,a,[],rd⟩) es dV):fX P ops N0 i (o::r) σ (⟨true,a,[],rd⟩::es) dV:=
 .cons i o r σ _ es dV (.K4 f as ts n bW args 3 aS (by unfold l9;rw[hg];exact hw) rfl hc he hn hp rfl fun x hx id aC=>by rw[<-iW];exact B8.2 ⟨x,hx,aC⟩) h
end
theorem FZ{aN:AS}{id:Nat}{ops:Array Oper}{es:List Entry}(h:Q .normal aN)(hm:P.follows .mixedOrders=true:=by(first|kernel_rfl|fail))(hs:zN ops=true:=by(first|kernel_rfl|fail))(hd:ops.toList.all (fS σ.nt)=true:=by(first|rfl|fail))
  (hr:fX P ops.toList σ.H.next 0 ops.toList {σ with H:=⟨σ.H.next+ops.size,σ.H.get⟩} es aN:=by(first|(apply eK;(next=>(exact aJ));(repeat (first|exact K6|(apply KB;(next=>(first|rfl|fail));(next=>(exact aJ));apply eK;(next=>(exact aJ)))|(apply KA;(next=>(first|rfl|fail));(next=>(first|rfl|fail));(next=>(exact aJ));(next=>(first|assumption|(apply_assumption<;>first|assumption|omega)|fail));(next=>(first|exact iH|(simp[fH,eM,fC,fD,iA,iB,hZ, *];done)|fail));apply eK;(next=>(exact aJ)))|(apply KC;(next=>(first|rfl|fail));(next=>(first|rfl|fail));(next=>(exact aJ));(next=>(exact aJ));(next=>(first|assumption|(apply_assumption<;>first|assumption|omega)|fail));(next=>(first|exact iH|(simp[fH,eM,fC,fD,iA,iB,hZ, *];done)|fail));apply eK;(next=>(exact aJ)))|(apply KD;(next=>(first|rfl|fail));(next=>(first|rfl|fail));(next=>(exact aJ));(next=>(exact aJ));(next=>(exact aJ));(next=>(first|assumption|(apply_assumption<;>first|assumption|omega)|fail));(next=>(first|exact iH|(simp[fH,eM,fC,fD,iA,iB,hZ, *];done)|fail));apply eK;(next=>(exact aJ)))|(apply KE;(next=>(first|rfl|fail));(next=>(first|rfl|fail));(next=>(exact aJ));(next=>(exact aJ));(next=>(exact aJ));(next=>(exact aJ));(next=>(first|assumption|(apply_assumption<;>first|assumption|omega)|fail));(next=>(first|exact iH|(simp[fH,eM,fC,fD,iA,iB,hZ, *];done)|fail));apply eK;(next=>(exact aJ))))))|fail))
  (sE:xC (tab ops.toList) 0 [] es=true:=by(first|(simp(maxSteps:=2000000) (disch:=omega) only[go_sem,JP,JQ, *]<;>kernel_rfl)|fail)):AW P (.region id ops true) σ Q:=SX hm hs hd hr sE h
end
section
variable {P : Program} {σ : AS} {Q : Exit -> AS -> Prop}
theorem NT{ops:Array Oper}{o:Oper}{rest:List Oper}{K:AS->Prop}{f:Operand}{as:Array Operand}{ts:Array TypeId}{n:FuncId}{args:List AV}{r:AV}{p:AS×List Oper}(h:b8 P true ops p.2 p.1 K)(aS:o.op= .call ⟨.value f,as,ts⟩:=by(first|rfl|fail))(hg:o.guard=none:=by(first|rfl|fail))
  (hc:fN (σ.get true f) (dN (σ.get true) as.toList)=some (n,args):=by(exact aJ)) (hp:eA P n args (·=r):=by(first|assumption|(apply_assumption<;>first|assumption|omega)|fail)) (hn:∀a∈args,bF a:=by(first|exact iH|(simp[fH,eM,fC,fD,iA,iB,hZ, *];done)|fail))
  (hr:run P ops.toList rest (σ.put o.dst true r)=p:=by(exact aJ)):b8 P true ops (o::rest) σ K:=bu9 aS hg hp hc hn hr h
theorem nJ.act{n:FuncId}{bW args:List AV}{a:AV}{H:Heap}(k:Nat)(h:nJ P n args a)(he:bW.map (bJ H.get k)=args)(ha:∀a∈args,bF a):fW P n bW H fun r H'=>r=a/\H'=H:=
 ⟨h.1,fun E W vs hH hr=>(h.Wt k he ha hH hH.core hr).mono fun e W' ⟨v,qR,L',h1,h2,h3⟩=>⟨v,qR,_,a,H,h1,h2,h3,rfl,rfl⟩⟩
theorem NU{ops:Array Oper}{o:Oper}{rest:List Oper}{K:AS->Prop}{f:Operand}{as:Array Operand}{ts:Array TypeId}{n:FuncId}{bW args:List AV}{r:AV}{p:AS×List Oper}(h:b8 P true ops p.2 p.1 K)(aS:o.op= .call ⟨.value f,as,ts⟩:=by(first|rfl|fail))(hg:o.guard=none:=by(first|rfl|fail))
  (hc:fN (σ.get true f) (dN (σ.get true) as.toList)=some (n,bW):=by(exact aJ)) (he:bW.map (bJ σ.H.get 3)=args:=by(exact aJ)) (hp:nJ P n args r:=by(first|assumption|(apply_assumption<;>first|assumption|omega)|fail)) (hn:∀a∈args,bF a:=by(first|exact iH|(simp[fH,eM,fC,fD,iA,iB,hZ, *];done)|fail))
  (hr:run P ops.toList rest (σ.put o.dst true r)=p:=by(exact aJ)):b8 P true ops (o::rest) σ K:=
 DG aS hg hc (hp.act 3 he hn) fun r' H' ⟨h1,h2⟩=>by subst h1;subst h2;exact nF _ _ hr h
theorem NV{ops:Array Oper}{o:Oper}{rest:List Oper}{K:AS->Prop}{f:Operand}{as:Array Operand}{ts:Array TypeId}{n:FuncId}{bW args:List AV}{r:AV}{G':Nat->Option aI}{p:AS×List Oper}(h:b8 P true ops p.2 p.1 K)(aS:o.op= .call ⟨.value f,as,ts⟩:=by(first|rfl|fail))(hg:o.guard=none:=by(first|rfl|fail))
  (hc:fN (σ.get true f) (dN (σ.get true) as.toList)=some (n,bW):=by(exact aJ)) (he:bW.map (nE σ.H.get)=args:=by(exact aJ)) (hp:eA P n args (·=r):=by(first|assumption|(apply_assumption<;>first|assumption|omega)|fail)) (hn:∀a∈args,bF a:=by(first|exact iH|(simp[fH,eM,fC,fD,iA,iB,hZ, *];done)|fail))
  (hG:wA σ.H.get (l8 oJ bW)=G':=by(exact aJ)) (hr:run P ops.toList rest (({σ with H:=⟨σ.H.next,G'⟩}:AS).put o.dst true r)=p:=by(exact aJ)):b8 P true ops (o::rest) σ K:=bp4 aS hg hp hc he hn hG hr h
theorem NW{ops:Array Oper}{o:Oper}{rest:List Oper}{K:AS->Prop}{f:Operand}{as:Array Operand}{ts:Array TypeId}{n:FuncId}{bW args:List AV}{r:AV}{G':Nat->Option aI}{p:AS×List Oper}{j:Nat}{want:Bool}(h:b8 P true ops p.2 p.1 K)(aS:o.op= .call ⟨.value f,as,ts⟩:=by(first|rfl|fail))(hg:o.guard=some (j,want):=by(first|rfl|fail))
  (hw:nQ (nA ops.toList j σ.env) want=some true:=by(exact aJ))
  (hc:fN (σ.get true f) (dN (σ.get true) as.toList)=some (n,bW):=by(exact aJ)) (he:bW.map (nE σ.H.get)=args:=by(exact aJ)) (hp:eA P n args (·=r):=by(first|assumption|(apply_assumption<;>first|assumption|omega)|fail)) (hn:∀a∈args,bF a:=by(first|exact iH|(simp[fH,eM,fC,fD,iA,iB,hZ, *];done)|fail))
  (hG:wA σ.H.get (l8 oJ bW)=G':=by(exact aJ)) (hr:run P ops.toList rest (({σ with H:=⟨σ.H.next,G'⟩}:AS).put o.dst true r)=p:=by(exact aJ)):b8 P true ops (o::rest) σ K:=bp5 aS hg hp hw hc he hn hG hr h
theorem NY{ops:Array Oper}{o:Oper}{rest:List Oper}{K:AS->Prop}{f:Operand}{as:Array Operand}{ts:Array TypeId}{n:FuncId}{args:List AV}{el:TypeId}{k:Nat}{rows:List (List AV)}{p:AS×List Oper}(h:b8 P true ops p.2 p.1 K)(aS:o.op= .call ⟨.value f,as,ts⟩:=by(first|rfl|fail))(hg:o.guard=none:=by(first|rfl|fail))
  (hc:fN (σ.get true f) (dN (σ.get true) as.toList)=some (n,args):=by(exact aJ)) (hp:r5 P n args el k rows:=by(first|assumption|(apply_assumption<;>first|assumption|omega)|fail))
  (hr:run P ops.toList rest (({σ with H:=⟨σ.H.next+1,aY σ.H.get [(σ.H.next,some (.cells el k rows true true))]⟩}:AS).put o.dst true (.own σ.H.next 0 rows.length))=p:=by(exact aJ)):b8 P true ops (o::rest) σ K:=bq4 aS hg hp hc hr h
theorem NZ{ops:Array Oper}{o:Oper}{rest:List Oper}{K:AS->Prop}{f:Operand}{as:Array Operand}{ts:Array TypeId}{n:FuncId}{args:List AV}{r:AV}{p:AS×List Oper}{j:Nat}{want c:Bool}(h:b8 P true ops p.2 p.1 K)(aS:o.op= .call ⟨.value f,as,ts⟩:=by(first|rfl|fail))(hg:o.guard=some (j,want):=by(first|rfl|fail))
  (hw:nQ (nA ops.toList j σ.env) want=some c:=by(exact aJ)) (hc:fN (σ.get c f) (dN (σ.get c) as.toList)=some (n,args):=by(exact aJ)) (hp:eA P n args (·=r):=by(first|assumption|(apply_assumption<;>first|assumption|omega)|fail)) (hn:∀a∈args,bF a:=by(first|exact iH|(simp[fH,eM,fC,fD,iA,iB,hZ, *];done)|fail)) (hr:run P ops.toList rest (σ.put o.dst c r)=p:=by(exact aJ)):b8 P true ops (o::rest) σ K:=bv0 aS hg hw hp hc hn hr h
theorem O0{ops:Array Oper}{l:List Oper}{K:AS->Prop}{p:AS×List Oper}(h:b8 P true ops p.2 p.1 K)(hr:run P ops.toList l σ=p:=by(exact aJ))(bG:Nat.blt p.2.length l.length=true:=by(first|rfl|fail)):b8 P true ops l σ K:=nF _ _ hr h
theorem eO{ops:Array Oper}{o:Oper}{rest:List Oper}{K:AS->Prop}{f:Operand}{as:Array Operand}{ts:Array TypeId}{n:FuncId}{fn:Func}{c:Code}{args:List AV}{nt:Nat}{rs:List ResultVar}(hf:P.funcs[n]? =some fn)(cL:fn.ntmps=nt)
  (h:AW P c ⟨jW 0 args,σ.H,nt⟩ (hold (bT P rs (hold (fun a H'=>b8 P true ops rest (({σ with H:=H'}:AS).put o.dst true a) K) ⟨⟩)) ⟨⟩))
  (aS:o.op= .call ⟨.value f,as,ts⟩:=by(first|rfl|fail)) (hg:o.guard=none:=by(first|rfl|fail)) (hc:fN (σ.get true f) (dN (σ.get true) as.toList)=some (n,args):=by(exact aJ))
  (hb:fn.body=some c:=by rfl) (hr:fn.results=List.toArray rs:=by rfl) (eW:(fn.name== "runtime.NumGoroutine")=false:=by kernel_rfl) (hlen:args.length<=nt:=by(simp only[iQ,kT];decide)):b8 P true ops (o::rest) σ K:=
 bq5 hf hb eW cL aS hg hc hlen (by rw[hr];exact h)
theorem rP.act{n:FuncId}{bW args:List AV}{a:AV}{el:TypeId}{k:Nat}{rows:List (List AV)}{ap:Bool}{H:Heap}(kk:Nat)(h:rP P n args a el k rows ap)(he:bW.map (bJ H.get kk)=args)(ha:∀a∈args,bF a):fW P n bW H fun r H'=>r=p9 H.next a/\H'=⟨H.next+1,aY H.get [(H.next,some (.cells el k rows true ap))]⟩:=
 ⟨h.1,fun E W vs hH hr=>(h.run kk he ha (fun hU=>KK _ (hH.next _ hU)) hH hH.core hr).mono fun e W' ⟨v,qR,E',h1,h2,h3,h4⟩=>⟨v,qR,E',_,_,h1,⟨fun id aC=>by
   rcases h4 id aC with h5|h5
   ·exact OT (hH.next id h5)
   ·subst h5;exact KL _,h2⟩,h3,rfl,rfl⟩⟩
theorem O1{ops:Array Oper}{o:Oper}{rest:List Oper}{K:AS->Prop}{f:Operand}{as:Array Operand}{ts:Array TypeId}{n:FuncId}{bW args:List AV}{a:AV}{el:TypeId}{k:Nat}{rows:List (List AV)}{ap:Bool}{p:AS×List Oper}(h:b8 P true ops p.2 p.1 K)(aS:o.op= .call ⟨.value f,as,ts⟩:=by(first|rfl|fail))(hg:o.guard=none:=by(first|rfl|fail))
  (hc:fN (σ.get true f) (dN (σ.get true) as.toList)=some (n,bW):=by(exact aJ)) (he:bW.map (bJ σ.H.get 3)=args:=by(exact aJ)) (hp:rP P n args a el k rows ap:=by(first|assumption|(apply_assumption<;>first|assumption|omega)|fail)) (hn:∀a∈args,bF a:=by(first|exact iH|(simp[fH,eM,fC,fD,iA,iB,hZ, *];done)|fail))
  (hr:run P ops.toList rest (({σ with H:=⟨σ.H.next+1,aY σ.H.get [(σ.H.next,some (.cells el k rows true ap))]⟩}:AS).put o.dst true (p9 σ.H.next a))=p:=by(exact aJ)):b8 P true ops (o::rest) σ K:=
 DG aS hg hc (hp.act 3 he hn) fun r' H' ⟨h1,h2⟩=>by subst h1;subst h2;exact nF _ _ hr h
theorem bA9{G:Nat->Option aI}{kk j:Nat}{v:Value}:CP G kk j (.c v)=some (.c v):=by
 cases kk<;>simp[CP,fresh,kB,bJ,xB,gK]
theorem Xy{G:Nat->Option aI}{kk j:Nat}:∀{r:List AV},(∀x∈r,∃v,x= .c v)->GH G kk j r=some r
 |[],_=>rfl
 |x::r,h=>by
  obtain⟨v,rfl⟩:=h x (by simp)
  simp only[GH,bA9,Xy (r:=r) fun y hy=>h y (by simp[hy])]
theorem Xz{G:Nat->Option aI}{kk j:Nat}:∀{rows:List (List AV)},(∀r∈rows,∀x∈r,∃v,x= .c v)->K0 G kk j rows=some rows
 |[],_=>rfl
 |r::rows,h=>by simp only[K0,Xy (h r (by simp)),Xz (rows:=rows) fun y hy=>h y (by simp[hy])]
theorem KU{n:FuncId}{fn:Func}{c:Code}{args:List AV}{e:TypeId}{k:Nat}{rows:List (List AV)}{rs:List ResultVar}{nt:Nat}(hf:P.funcs[n]? =some fn)(cL:fn.ntmps=nt)(fA:∀row∈rows,∀x∈row,∃v,x= .c v)
  (h:AW P c ⟨jW 0 args,⟨0,bN []⟩,nt⟩ (hold (bT P rs (hold (fun a H'=>∃i,a= .own i 0 rows.length/\H'.get i=some (.cells e k rows true true)) ⟨⟩)) ⟨⟩))
  (hb:fn.body=some c:=by rfl) (hr:fn.results=List.toArray rs:=by rfl) (eW:(fn.name== "runtime.NumGoroutine")=false:=by kernel_rfl) (hlen:args.length<=nt:=by(simp only[iQ,kT];decide)):rP P n args (.own 0 0 rows.length) e k rows true:=by
 have hl:args.length<=fn.ntmps:=by rw[cL];exact hlen
 refine by2 (f:=⟨.own 0 0 rows.length,e,k,rows,true⟩) 8 hf hb eW hl ((CN (Q:=fun a H'=>∃i,a= .own i 0 rows.length/\H'.get i=some (.cells e k rows true true)) hf hb eW hl (by rw[cL,hr];exact h)).mono fun r H' ⟨i,h1,h2⟩=> ?_)
 subst h1;simp only[Gl,Wx,h2,Gk,Xz fA,XI,GG,Nat.beq_refl,cond]
theorem rP.nil{n:FuncId}{pre post:List AV}{a:AV}{el:TypeId}{k:Nat}{rows:List (List AV)}{ap:Bool}(h:∀b cap,rP P n (pre++ .c (.slice b 0 cap)::post) a el k rows ap):rP P n (pre++ .snap []::post) a el k rows ap:=
 ⟨(h none 0).1,fun L W vs hL hr=>let ⟨b,cap,hx⟩:=Fw hr;(h b cap).2 L W vs hL hx⟩
theorem YM{c:Operand}{x y z:Code}{Q2:Exit->AS->Prop}(env:List (Nat×Bool×AV))(m:Nat)(T:List (Nat×Option aI))(h1:AW P (.cond c x y) σ (fun e aN=>e= .normal/\Holds aN env ⟨m,bN T⟩))(h2:AW P z ⟨env,⟨m,bN T⟩,σ.nt⟩ Q2):AW P (.cond c x y) σ (cF (fun aN=>AW P z aN Q2) Q):=fun ro E0 W act dP hr=>
 wpIn_mono (h1 ro E0 W act dP hr) fun e a w ⟨E',aN,h3,h4,h5,h6,h7⟩=>by
  subst h6;exact⟨E',aN,h3,h4,h5,kU h7 (by rw[h5];exact h2)⟩
theorem YL{n:FuncId}{fn:Func}{c:Code}{args:List AV}{H:Heap}{R:AV->Heap->Prop}{rs:List ResultVar}{nt:Nat}(hf:P.funcs[n]? =some fn)(cL:fn.ntmps=nt)
  (h:AW P c ⟨jW 0 args,H,nt⟩ (hold (bT P rs (hold R ⟨⟩)) ⟨⟩))
  (hb:fn.body=some c:=by rfl) (hr:fn.results=List.toArray rs:=by rfl) (eW:(fn.name== "runtime.NumGoroutine")=false:=by kernel_rfl) (hlen:args.length<=nt:=by(simp only[iQ,kT];decide)):fW P n args H R:=by
 refine CN hf hb eW (by rw[cL];exact hlen) ?_
 rw[cL,hr];exact h
theorem P0{α:Type}{c:Code}(E:α->List (Nat×Bool×AV))(T:α->List (Nat×Option aI))(R:Nat->α->Prop)(μ:α->Nat)(a0:α)(h0:∃m,R m a0/\Holds σ (E a0) ⟨m,bN (T a0)⟩)
  (hk:∀m a,R m a->AW P c ⟨E a,⟨m,bN (T a)⟩,σ.nt⟩ (cF (fun aN=>∃m' a',μ a'<μ a/\R m' a'/\Holds aN (E a') ⟨m',bN (T a')⟩) Q)):AW P (.loop c) σ Q:=by
 obtain⟨m,hR,hh⟩:=h0;refine PQ (fun n env H=>∃m a,n=μ a/\R m a/\env=E a/\H=⟨m,bN (T a)⟩) (μ a0) ⟨_,_,⟨m,a0,rfl,hR,rfl,rfl⟩,hh⟩ ?_
 rintro n env H ⟨m,a,rfl,zZ,rfl,rfl⟩;have h1:=hk m a zZ;intro ro E0 W act dP bL;refine wpIn_mono (h1 ro E0 W act dP bL) fun e a' w ⟨E',aN,h2,h3,h4,h5⟩=>⟨E',aN,h2,h3,h4,?_⟩
 cases e with
 |normal=>
  obtain⟨m',O2,h8,h6,h7⟩:=h5;exact⟨μ O2,h8,_,_,⟨m',O2,rfl,h6,rfl,rfl⟩,h7⟩
 |_=>exact h5
structure GL{α:Type}(a b:α):Type where
 out:a=b
theorem TN{g:Operand}{ps:Array Tmp}{assign body:Code}{n:FuncId}{fn:Func}{c:Code}{first cap:List AV}{nt:Nat}{args:List AV}{rs:List ResultVar}(hf:P.funcs[n]? =some fn)(cL:fn.ntmps=nt)
  (h:∀R A B,GL R σ.env->GL A assign->GL B body->AW P c ⟨jW 0 args,iU ⟨σ.H.next+1,σ.H.get⟩ σ.H.next (some (.cJ R σ.nt ps.toList A B .ready none)),nt⟩
    (hold (bT P rs (hold (fun _ H'=>sX σ.H.next R σ.nt ps.toList A B (hold (fun e H2=>Q e ({σ with H:=H2}:AS)) ⟨⟩) H') ⟨⟩)) ⟨⟩))
  (hg:σ.get true g=some (.fn (.func n) first cap):=by(exact aJ)) (ha:first++[AV.jT σ.H.next]++cap=args:=by(exact aJ))
  (hb:fn.body=some c:=by rfl) (hr:fn.results=List.toArray rs:=by rfl) (eW:(fn.name== "runtime.NumGoroutine")=false:=by kernel_rfl) (hlen:args.length<=nt:=by(simp only[iQ,kT];decide)):AW P (.rangeFunc g ps assign body) σ Q:=
 bt1 hf hb eW cL hg ha hlen fun R A B hR hA hB=>by rw[hr];exact h R A B ⟨hR⟩ ⟨hA⟩ ⟨hB⟩
theorem O3{ops:Array Oper}{o:Oper}{rest:List Oper}{K:AS->Prop}{f:Operand}{as:Array Operand}{ts:Array TypeId}{id:Nat}{args:List AV}{env AZ:List (Nat×Bool×AV)}{nt:Nat}{ps:List Tmp}{A A' B:Code}
  (h:AW P A' ⟨CJ ps args AZ,σ.H,nt⟩ (hold (JI P id env nt ps A B (hold (fun b H'=>b8 P true ops rest (({σ with H:=H'}:AS).put o.dst true (.c (.bool b))) K) ⟨⟩)) ⟨⟩))
  (aS:o.op= .call ⟨.value f,as,ts⟩:=by(first|rfl|fail)) (hg:o.guard=none:=by(first|rfl|fail)) (hf:σ.get true f=some (.jT id):=by(exact aJ)) (ha:dN (σ.get true) as.toList=some args:=by(exact aJ)) (hr:σ.H.get id=some (.cJ env nt ps A B .ready none):=by(exact aJ))
  (he:GL env AZ:=by(first|assumption|fail)) (hA:GL A A':=by(first|assumption|fail)) (hl:args.length=ps.length:=by(first|rfl|fail)) (pW:ps.all (fun p=>decide (p<nt))=true:=by(first|rfl|fail)):b8 P true ops (o::rest) σ K:=bs5 aS hg he.out hA.out hf ha hr hl pW h
theorem O4{ops:Array Oper}{o:Oper}{rest:List Oper}{K:AS->Prop}{f:Operand}{as:Array Operand}{ts:Array TypeId}{id:Nat}{args:List AV}{env AZ:List (Nat×Bool×AV)}{nt:Nat}{ps:List Tmp}{A A' B:Code}{j:Nat}{want:Bool}
  (h:AW P A' ⟨CJ ps args AZ,σ.H,nt⟩ (hold (JI P id env nt ps A B (hold (fun b H'=>b8 P true ops rest (({σ with H:=H'}:AS).put o.dst true (.c (.bool b))) K) ⟨⟩)) ⟨⟩))
  (aS:o.op= .call ⟨.value f,as,ts⟩:=by(first|rfl|fail)) (hg:o.guard=some (j,want):=by(first|rfl|fail)) (hw:nQ (nA ops.toList j σ.env) want=some true:=by(exact aJ)) (hf:σ.get true f=some (.jT id):=by(exact aJ)) (ha:dN (σ.get true) as.toList=some args:=by(exact aJ)) (hr:σ.H.get id=some (.cJ env nt ps A B .ready none):=by(exact aJ))
  (he:GL env AZ:=by(first|assumption|fail)) (hA:GL A A':=by(first|assumption|fail)) (hl:args.length=ps.length:=by(first|rfl|fail)) (pW:ps.all (fun p=>decide (p<nt))=true:=by(first|rfl|fail)):b8 P true ops (o::rest) σ K:=bs6 aS hg he.out hA.out hw hf ha hr hl pW h
theorem O5{id:Nat}{env:List (Nat×Bool×AV)}{nt:Nat}{ps:List Tmp}{A B B':Code}{K:Bool->Heap->Prop}(h:AW P B' ⟨σ.env,iU σ.H id (some (.cJ env nt ps A B .busy none)),σ.nt⟩ (hold (EG id env nt ps A B K) ⟨⟩))
  (hB:GL B B':=by(first|assumption|fail)) (hg:σ.H.get id=some (.cJ env nt ps A B .ready none):=by(first|rfl|exact mI|(simp(maxSteps:=2000000) (disch:=omega) only[go_sem, *]<;>rfl)|fail)):JI P id env nt ps A B K .normal σ:=bs7 hB.out hg h
section
variable {id : Nat} {env : List (Nat × Bool × AV)} {nt : Nat} {ps : List Tmp} {A B : Code} {ops : Array Oper} {rest : List Oper} {σ0 : AS} {dst : Option Tmp} {K : AS -> Prop} {p : AS × List Oper}
theorem O6(h:b8 P true ops p.2 p.1 K)(hg:σ.H.get id=some (.cJ env nt ps A B .busy none):=by(first|rfl|exact mI|(simp(maxSteps:=2000000) (disch:=omega) only[go_sem, *]<;>rfl)|fail))(hr:run P ops.toList rest (({σ0 with H:=iU σ.H id (some (.cJ env nt ps A B .ready none))}:AS).put dst true (.c (.bool true)))=p:=by(exact aJ)):
  EG id env nt ps A B (hold (fun b H'=>b8 P true ops rest (({σ0 with H:=H'}:AS).put dst true (.c (.bool b))) K) ⟨⟩) .normal σ:=bs8 hg hr h
theorem O7(h:b8 P true ops p.2 p.1 K)(hg:σ.H.get id=some (.cJ env nt ps A B .busy none):=by(first|rfl|exact mI|(simp(maxSteps:=2000000) (disch:=omega) only[go_sem, *]<;>rfl)|fail))(hr:run P ops.toList rest (({σ0 with H:=iU σ.H id (some (.cJ env nt ps A B .done (some .ret)))}:AS).put dst true (.c (.bool false)))=p:=by(exact aJ)):
  EG id env nt ps A B (hold (fun b H'=>b8 P true ops rest (({σ0 with H:=H'}:AS).put dst true (.c (.bool b))) K) ⟨⟩) .ret σ:=bs9 hg hr h
theorem O8{i:Nat}(h:b8 P true ops p.2 p.1 K)(hg:σ.H.get id=some (.cJ env nt ps A B .busy none):=by(first|rfl|exact mI|(simp(maxSteps:=2000000) (disch:=omega) only[go_sem, *]<;>rfl)|fail))(hr:run P ops.toList rest (({σ0 with H:=iU σ.H id (some (.cJ env nt ps A B .done (some (.exit i))))}:AS).put dst true (.c (.bool false)))=p:=by(exact aJ)):
  EG id env nt ps A B (hold (fun b H'=>b8 P true ops rest (({σ0 with H:=H'}:AS).put dst true (.c (.bool b))) K) ⟨⟩) (.exit i) σ:=bt0 hg hr h
end
section
variable {rs : List ResultVar} {a : AV} {id : Nat} {env : List (Nat × Bool × AV)} {nt : Nat} {ps : List Tmp} {A B : Code} {σ0 : AS}
theorem O9(h:Q .normal ({σ0 with H:=iU σ.H id none}:AS))(ho:iL P σ rs=some a:=by(exact aJ))(hg:σ.H.get id=some (.cJ env nt ps A B .ready none):=by(first|rfl|exact mI|(simp(maxSteps:=2000000) (disch:=omega) only[go_sem, *]<;>rfl)|fail)):
  bT P rs (hold (fun _ H'=>sX id env nt ps A B (hold (fun e H2=>Q e ({σ0 with H:=H2}:AS)) ⟨⟩) H') ⟨⟩) .normal σ:=bt2 ho hg h
theorem OA(h:Q .normal ({σ0 with H:=iU σ.H id none}:AS))(ho:iL P σ rs=some a:=by(exact aJ))(hg:σ.H.get id=some (.cJ env nt ps A B .ready none):=by(first|rfl|exact mI|(simp(maxSteps:=2000000) (disch:=omega) only[go_sem, *]<;>rfl)|fail)):
  bT P rs (hold (fun _ H'=>sX id env nt ps A B (hold (fun e H2=>Q e ({σ0 with H:=H2}:AS)) ⟨⟩) H') ⟨⟩) .ret σ:=bt3 ho hg h
theorem OB(h:Q .ret ({σ0 with H:=iU σ.H id none}:AS))(ho:iL P σ rs=some a:=by(exact aJ))(hg:σ.H.get id=some (.cJ env nt ps A B .done (some .ret)):=by(first|rfl|exact mI|(simp(maxSteps:=2000000) (disch:=omega) only[go_sem, *]<;>rfl)|fail)):
  bT P rs (hold (fun _ H'=>sX id env nt ps A B (hold (fun e H2=>Q e ({σ0 with H:=H2}:AS)) ⟨⟩) H') ⟨⟩) .normal σ:=bt4 ho hg h
theorem OC(h:Q .ret ({σ0 with H:=iU σ.H id none}:AS))(ho:iL P σ rs=some a:=by(exact aJ))(hg:σ.H.get id=some (.cJ env nt ps A B .done (some .ret)):=by(first|rfl|exact mI|(simp(maxSteps:=2000000) (disch:=omega) only[go_sem, *]<;>rfl)|fail)):
  bT P rs (hold (fun _ H'=>sX id env nt ps A B (hold (fun e H2=>Q e ({σ0 with H:=H2}:AS)) ⟨⟩) H') ⟨⟩) .ret σ:=bt5 ho hg h
theorem OD{i:Nat}(h:Q (.exit i) ({σ0 with H:=iU σ.H id none}:AS))(ho:iL P σ rs=some a:=by(exact aJ))(hg:σ.H.get id=some (.cJ env nt ps A B (.done) (some (.exit i))):=by(first|rfl|exact mI|(simp(maxSteps:=2000000) (disch:=omega) only[go_sem, *]<;>rfl)|fail)):
  bT P rs (hold (fun _ H'=>sX id env nt ps A B (hold (fun e H2=>Q e ({σ0 with H:=H2}:AS)) ⟨⟩) H') ⟨⟩) .normal σ:=bt6 ho hg h
theorem OE{i:Nat}(h:Q (.exit i) ({σ0 with H:=iU σ.H id none}:AS))(ho:iL P σ rs=some a:=by(exact aJ))(hg:σ.H.get id=some (.cJ env nt ps A B (.done) (some (.exit i))):=by(first|rfl|exact mI|(simp(maxSteps:=2000000) (disch:=omega) only[go_sem, *]<;>rfl)|fail)):
  bT P rs (hold (fun _ H'=>sX id env nt ps A B (hold (fun e H2=>Q e ({σ0 with H:=H2}:AS)) ⟨⟩) H') ⟨⟩) .ret σ:=bt7 ho hg h
end
theorem OF{ops:Array Oper}{o:Oper}{rest:List Oper}{K:AS->Prop}{p q:AS×List Oper}{j:Nat}{want:Bool}(h:b8 P true ops q.2 q.1 K)(hg:o.guard=some (j,want):=by(first|rfl|fail))
  (hw:nQ (nA ops.toList j σ.env) want=some false:=by(exact aJ)) (hs:AY ops.toList rest (σ.put o.dst false (.c (.bool false)))=some p:=by(exact aJ)) (hr:run P ops.toList p.2 p.1=q:=by(exact aJ)):b8 P true ops (o::rest) σ K:=bp1 hg hw hs hr h
theorem OG{ops:Array Oper}{o:Oper}{rest:List Oper}{K:AS->Prop}{p:AS×List Oper}{b x y:Operand}{b0:Bool}{a:AV}(h:b8 P true ops p.2 p.1 K)(aS:o.op= .pick b x y:=by(first|rfl|fail))(hg:o.guard=none:=by(first|rfl|fail))
  (hb:jL (σ.get true b)=some b0:=by(exact aJ)) (hn:yD (jL (σ.get b0 x)) (jL (σ.get (!b0) y))=none:=by(exact aJ)) (ha:σ.get true (cond b0 x y)=some a:=by(exact aJ)) (hr:run P ops.toList rest (σ.put o.dst true a)=p:=by(exact aJ)):b8 P true ops (o::rest) σ K:=bp3 aS hg hb hn ha hr h
theorem OH{ops:Array Oper}{o:Oper}{rest:List Oper}{K:AS->Prop}{p:AS×List Oper}{j:Nat}{want:Bool}{a:AV}{wr:List (Nat×Option aI)}{rd:List Nat}(h:b8 P true ops p.2 p.1 K)(aS:X6 o.op=true:=by(first|rfl|fail))(hg:o.guard=some (j,want):=by(first|rfl|fail))
  (hw:nQ (nA ops.toList j σ.env) want=some true:=by(exact aJ)) (kQ:res P (σ.get true) σ.H.get σ.H.next o=some (a,wr,rd):=by(exact aJ)) (hr:run P ops.toList rest (({σ with H:=σ.H.app wr}:AS).put o.dst true a)=p:=by(exact aJ)):b8 P true ops (o::rest) σ K:=bp0 aS hg hw kQ hr h
theorem dC{α:Type}{c:Code}(N:Nat)(E:Nat->α->List (Nat×Bool×AV))(T:Nat->α->List (Nat×Option aI))(R:Nat->Nat->α->Prop)(h0:∃m a,R 0 m a/\Holds σ (E 0 a) ⟨m,bN (T 0 a)⟩)
  (hk:∀k m a,k<N->R k m a->AW P c ⟨E k a,⟨m,bN (T k a)⟩,σ.nt⟩ (cF (fun aN=>∃m' a',R (k+1) m' a'/\Holds aN (E (k+1) a') ⟨m',bN (T (k+1) a')⟩) Q))
  (hN:∀m a,R N m a->AW P c ⟨E N a,⟨m,bN (T N a)⟩,σ.nt⟩ (cF (fun _=>False) Q)):AW P (.loop c) σ Q:=by
 obtain⟨m,a,hR,hh⟩:=h0;refine PQ (fun n env H=>∃k m a,n=N-k/\k<=N/\R k m a/\env=E k a/\H=⟨m,bN (T k a)⟩) N ⟨_,_,⟨0,m,a,oM,oM,hR,rfl,rfl⟩,hh⟩ ?_
 rintro n env H ⟨k,m,a,rfl,MD,zZ,rfl,rfl⟩;by_cases bG:k<N
 ·have h1:=hk k m a bG zZ
  intro ro E0 W act dP bL;refine wpIn_mono (h1 ro E0 W act dP bL) fun e a' w ⟨E',aN,h2,h3,h4,h5⟩=>⟨E',aN,h2,h3,h4,?_⟩
  cases e with
  |normal=>
   obtain⟨m',O2,h6,h7⟩:=h5;exact⟨N-(k+1),oM,_,_,⟨k+1,m',O2,rfl,oM,h6,rfl,rfl⟩,h7⟩
  |_=>exact h5
 ·obtain rfl:k=N:=oM
  have h1:=hN m a zZ;intro ro E0 W act dP bL;refine wpIn_mono (h1 ro E0 W act dP bL) fun e a' w ⟨E',aN,h2,h3,h4,h5⟩=>⟨E',aN,h2,h3,h4,?_⟩
  cases e with
  |normal=>exact h5.elim
  |_=>exact h5
theorem nS{c:Code}(N M:Nat)(T:List (Nat×Option aI))(E:Nat->List (Nat×Bool×AV))(h0:Holds σ (E 0) ⟨M,bN T⟩)
  (hk:∀k m,k<N->M<=m->AW P c ⟨E k,⟨m,bN T⟩,σ.nt⟩ (cF (fun aN=>∃m',M<=m'/\Holds aN (E (k+1)) ⟨m',bN T⟩) Q))
  (hN:∀m,M<=m->AW P c ⟨E N,⟨m,bN T⟩,σ.nt⟩ (cF (fun _=>False) Q)):AW P (.loop c) σ Q:=by
 refine dC (α:=Unit) N (fun k _=>E k) (fun _ _=>T) (fun _ m _=>M<=m) ⟨M,(),cA _,h0⟩ (fun k m _ bG hm=> ?_) (fun m _ hm=>hN m hm)
 have h1:=hk k m bG hm;intro ro E0 W act dP bL;refine wpIn_mono (h1 ro E0 W act dP bL) fun e a' w ⟨E',aN,h2,h3,h4,h5⟩=>⟨E',aN,h2,h3,h4,?_⟩
 cases e with
 |normal=>obtain⟨m',h6,h7⟩:=h5;exact⟨m',(),h6,h7⟩
 |_=>exact h5
end
attribute [go_sem] p9 xG bJ gK Za Y3
theorem eN{α:Type}{a b:α}(w:a=b:=by(first|rfl|(simp(disch:=omega) only[go_sem, *];done)|(simp(disch:=omega) only[go_sem, *];rfl))):a=b:=w
theorem aG{σ:AS}{env:List (Nat×Bool×AV)}{H:Heap}(w:Holds σ env H:=by
  ((repeat (refine tE (by first|rfl|(simp(disch:=omega) only[go_sem, *];done)|(simp(disch:=omega) only[go_sem, *];rfl)) ?_));(refine holds_nil (by simp only[];omega) ?_);(first|exact(fun _ _ h=>h)|((repeat (first|refine u1 (by first|rfl|(simp(disch:=omega) only[go_sem, *];done)|(simp(disch:=omega) only[go_sem, *];rfl)) ?_|refine QR ?_));exact BF)))):Holds σ env H:=w
section
variable {P : Program} {σ : AS}
theorem fW.wider{n:FuncId}{args:List AV}{H0:Heap}{R:AV->Heap->Prop}(h:fW P n args H0 R)(hH:Holds σ [] H0):fW P n args σ.H R:=
 ⟨h.1,fun E W vs hW hr=>h.2 E W vs ⟨fun id aC=>tX (hW.next id aC) hH.next,hW.core.M8 fun id b hb=>⟨b,hH.get id b hb,aI.le_refl b⟩⟩ hr⟩
theorem tC{ops:Array Oper}{o:Oper}{rest:List Oper}{K:AS->Prop}{f:Operand}{as:Array Operand}{ts:Array TypeId}{n:FuncId}{args:List AV}{R:AV->Heap->Prop}{H0:Heap}(hp:fW P n args H0 R)(h:∀r H',R r H'->b8 P true ops rest (({σ with H:=H'}:AS).put o.dst true r) K)
  (aS:o.op= .call ⟨.value f,as,ts⟩:=by(first|rfl|fail)) (hg:o.guard=none:=by(first|rfl|fail)) (hc:fN (σ.get true f) (dN (σ.get true) as.toList)=some (n,args):=by(exact aJ)) (hH:Holds σ [] H0:=by exact aG):b8 P true ops (o::rest) σ K:=DG aS hg hc (hp.wider hH) h
end
structure bC(B:Prop):Type where
 out:B
theorem aM{A B:Prop}(h:B)(w:bC B->A:=by
  (intro hB;(repeat (first|refine dI ?_|refine NQ ?_|refine lP ?_|refine GC ?_|refine iT ?_|refine oI ?_|refine ND ?_|refine NF ?_|refine NG ?_|refine NH ?_|refine NI ?_|refine NJ dE ?_|refine N3 ?_|refine N7 ?_|refine N8 ?_|refine N9 ?_|refine O9 ?_|refine OA ?_|refine OB ?_|refine OC ?_|refine OD ?_|refine OE ?_|refine NS ?_|refine zC ?_|refine O5 ?_|refine O6 ?_|refine O7 ?_|refine O8 ?_|refine O3 ?_|refine O4 ?_|refine IW ?_|refine NR ?_|refine FZ ?_|refine N6 ?_|refine N5 ?_|refine NO ?_|refine NP ?_|refine NT ?_|refine NY ?_|refine NU ?_|refine O1 ?_|refine NZ ?_|refine NV ?_|refine NW ?_|refine OF ?_|refine OG ?_|refine OH ?_|refine O0 ?_));exact hB.out)):A:=w ⟨h⟩
theorem cR{A:Prop}(w:A:=by(simp(maxSteps:=2000000) (disch:=omega) only[go_sem,fH,eM,fD,fC,false_implies,implies_true, *];(repeat (first|exact .refl _|exact .nil|exact mS|refine eE ?_ ?_|refine H9 ?_|refine vD ?_|refine HA ?_|exact BH|refine u3 ?_ ?_)))):A:=w
theorem Ya(G:Nat->Option aI)(k:Nat)(v:Value):bJ G k (.c v)= .c v:=by cases k<;>rfl
theorem Yb(G:Nat->Option aI)(k:Nat)(v:Value):gK G k (.c v)=[]:=by cases k<;>rfl
theorem bB0{r:List AV}(h:∀x∈r,∃v,x= .c v)(G:Nat->Option aI)(k:Nat):r.map (bJ G k)=r:=by
 conv=>rhs;rw[<-List.map_id r]
 exact sG fun x hx=>by obtain⟨v,rfl⟩:=h x hx;exact Ya G k v
theorem bB1{r:List AV}(h:∀x∈r,∃v,x= .c v)(G:Nat->Option aI)(k:Nat):r.flatMap (gK G k)=[]:=by
 rw[bI3];exact fun x hx=>by obtain⟨v,rfl⟩:=h x hx;exact Yb G k v
theorem KQ{α:Type}{f:α->List AV}(h:∀a,∀x∈f a,∃v,x= .c v)(G:Nat->Option aI)(k:Nat)(l:List α):(aB f l).map (fun row=>row.map (bJ G k))=aB f l:=by
 conv=>rhs;rw[<-List.map_id (aB f l)]
 refine sG fun r hr=> ?_
 simp only[aB,mF]at hr;obtain⟨a,_,rfl⟩:=hr;exact bB0 (h a) G k
theorem ac9{α:Type}{f:α->List AV}(h:∀a,∀x∈f a,∃v,x= .c v)(G:Nat->Option aI)(k:Nat)(l:List α):(aB f l).flatMap (fun row=>row.flatMap (gK G k))=[]:=by
 rw[bI3];intro r hr;simp only[aB,mF]at hr;obtain⟨a,_,rfl⟩:=hr;exact bB1 (h a) G k
theorem bB2(G:Nat->Option aI)(k:Nat)(l:List Int):(aB aW l).map (fun row=>row.map (bJ G k))=aB aW l:=KQ (fun a x hx=>by simp[aW]at hx;exact⟨_,hx⟩) G k l
attribute [go_sem] bB2 Ya Yb
end Go.AL
namespace Go.AL
section
variable {P : Program} {σ : AS} {Q : Exit -> AS -> Prop}
section
variable {ops : List Oper} {N0 i : Nat} {o : Oper} {r : List Oper} {dV : AS} {es : List Entry} {f : Operand} {as : Array Operand} {ts : Array TypeId} {n : FuncId}
theorem OI{args:List AV}{el:TypeId}{k:Nat}{rows:List (List AV)}(aS:o.op= .call ⟨.value f,as,ts⟩)(hg:o.guard=none)(hc:fN (σ.get true f) (dN (σ.get true) as.toList)=some (n,args))
  (hp:r5 P n args el k rows) (h:fX P ops N0 (i+1) r (σ.app o.dst ⟨true,.own (N0+i) 0 rows.length,[(N0+i,some (.cells el k rows true true))],[]⟩) es dV):
  fX P ops N0 i (o::r) σ (⟨true,.own (N0+i) 0 rows.length,[(N0+i,some (.cells el k rows true true))],[]⟩::es) dV:=bq3 aS hg hp hc rfl h
theorem OJ{args:List AV}{a:AV}{el:TypeId}{k:Nat}{rows:List (List AV)}(aS:o.op= .call ⟨.value f,as,ts⟩)(hg:o.guard=none)(hc:fN (σ.get true f) (dN (σ.get true) as.toList)=some (n,args))
  (hp:wJ P n args a el k rows) (h:fX P ops N0 (i+1) r (σ.app o.dst ⟨true,p9 (N0+i) a,[(N0+i,some (.cells el k rows true true))],[]⟩) es dV):
  fX P ops N0 i (o::r) σ (⟨true,p9 (N0+i) a,[(N0+i,some (.cells el k rows true true))],[]⟩::es) dV:=
 .cons i o r σ _ es dV (.XN f as ts n args a el k rows aS (by unfold l9;rw[hg]) rfl hc hp rfl rfl) h
theorem OK{bW args:List AV}{a:AV}{el:TypeId}{k:Nat}{rows:List (List AV)}{ap:Bool}{rd:List Nat}(aS:o.op= .call ⟨.value f,as,ts⟩)(hg:o.guard=none)(hc:fN (σ.get true f) (dN (σ.get true) as.toList)=some (n,bW))(he:bW.map (bJ σ.H.get 3)=args)(iW:bW.flatMap (gK σ.H.get 3)=rd)(hp:rP P n args a el k rows ap)(hn:∀a∈args,bF a)
  (h:fX P ops N0 (i+1) r (σ.app o.dst ⟨true,p9 (N0+i) a,[(N0+i,some (.cells el k rows true ap))],rd⟩) es dV):fX P ops N0 i (o::r) σ (⟨true,p9 (N0+i) a,[(N0+i,some (.cells el k rows true ap))],rd⟩::es) dV:=
 .cons i o r σ _ es dV (.XP f as ts n bW args 3 a el k rows ap aS (by unfold l9;rw[hg]) rfl hc he hn hp rfl rfl fun x hx id aC=>by rw[<-iW];exact B8.2 ⟨x,hx,aC⟩) h
end
theorem SY{aN:AS}{id:Nat}{ops:Array Oper}{es:List Entry}(h:Q .normal aN)(hm:P.follows .mixedOrders=true:=by(first|kernel_rfl|fail))(hs:zN ops=true:=by(first|kernel_rfl|fail))(hd:ops.toList.all (fS σ.nt)=true:=by(first|rfl|fail))
  (hr:fX P ops.toList σ.H.next 0 ops.toList {σ with H:=⟨σ.H.next+ops.size,σ.H.get⟩} es aN:=by(first|(apply eK;(next=>(exact aJ));(repeat (first|exact K6|(apply KB;(next=>(first|rfl|fail));(next=>(exact aJ));apply eK;(next=>(exact aJ)))|(apply OJ;(next=>(first|rfl|fail));(next=>(first|rfl|fail));(next=>(exact aJ));(next=>(first|assumption|(apply_assumption<;>first|assumption|omega)|fail));apply eK;(next=>(exact aJ)))|(apply OI;(next=>(first|rfl|fail));(next=>(first|rfl|fail));(next=>(exact aJ));(next=>(first|assumption|(apply_assumption<;>first|assumption|omega)|fail));apply eK;(next=>(exact aJ)))|(apply OK;(next=>(first|rfl|fail));(next=>(first|rfl|fail));(next=>(exact aJ));(next=>(exact aJ));(next=>(exact aJ));(next=>(first|assumption|(apply_assumption<;>first|assumption|omega)|fail));(next=>(first|exact iH|(simp[fH,eM,fC,fD,iA,iB,hZ, *];done)|fail));apply eK;(next=>(exact aJ)))|(apply KA;(next=>(first|rfl|fail));(next=>(first|rfl|fail));(next=>(exact aJ));(next=>(first|assumption|(apply_assumption<;>first|assumption|omega)|fail));(next=>(first|exact iH|(simp[fH,eM,fC,fD,iA,iB,hZ, *];done)|fail));apply eK;(next=>(exact aJ)))|(apply KC;(next=>(first|rfl|fail));(next=>(first|rfl|fail));(next=>(exact aJ));(next=>(exact aJ));(next=>(first|assumption|(apply_assumption<;>first|assumption|omega)|fail));(next=>(first|exact iH|(simp[fH,eM,fC,fD,iA,iB,hZ, *];done)|fail));apply eK;(next=>(exact aJ)))|(apply KD;(next=>(first|rfl|fail));(next=>(first|rfl|fail));(next=>(exact aJ));(next=>(exact aJ));(next=>(exact aJ));(next=>(first|assumption|(apply_assumption<;>first|assumption|omega)|fail));(next=>(first|exact iH|(simp[fH,eM,fC,fD,iA,iB,hZ, *];done)|fail));apply eK;(next=>(exact aJ)))|(apply KE;(next=>(first|rfl|fail));(next=>(first|rfl|fail));(next=>(exact aJ));(next=>(exact aJ));(next=>(exact aJ));(next=>(exact aJ));(next=>(first|assumption|(apply_assumption<;>first|assumption|omega)|fail));(next=>(first|exact iH|(simp[fH,eM,fC,fD,iA,iB,hZ, *];done)|fail));apply eK;(next=>(exact aJ))))))|fail))
  (sE:xC (tab ops.toList) 0 [] es=true:=by(first|(simp(maxSteps:=2000000) (disch:=omega) only[go_sem,JP,JQ, *]<;>kernel_rfl)|fail)):AW P (.region id ops true) σ Q:=SX hm hs hd hr sE h
theorem TU{aN:AS}{id:Nat}{ops:Array Oper}{es:List Entry}{l:List Oper}(k0:Nat)(h:b8 P true ops l aN (Q .normal))(hl:ops.toList.drop k0=l:=by(first|rfl|fail))(ht:K9 ops.toList k0=true:=by(first|kernel_rfl|fail))(hm:P.follows .mixedOrders=true:=by(first|kernel_rfl|fail))(hs:zN ops=true:=by(first|kernel_rfl|fail))(hd:ops.toList.all (fS σ.nt)=true:=by(first|rfl|fail))
  (hr:fX P ops.toList σ.H.next 0 (ops.toList.take k0) {σ with H:=⟨σ.H.next+ops.size,σ.H.get⟩} es aN:=by(first|(apply eK;(next=>(exact aJ));(repeat (first|exact K6|(apply KB;(next=>(first|rfl|fail));(next=>(exact aJ));apply eK;(next=>(exact aJ)))|(apply OJ;(next=>(first|rfl|fail));(next=>(first|rfl|fail));(next=>(exact aJ));(next=>(first|assumption|(apply_assumption<;>first|assumption|omega)|fail));apply eK;(next=>(exact aJ)))|(apply OI;(next=>(first|rfl|fail));(next=>(first|rfl|fail));(next=>(exact aJ));(next=>(first|assumption|(apply_assumption<;>first|assumption|omega)|fail));apply eK;(next=>(exact aJ)))|(apply OK;(next=>(first|rfl|fail));(next=>(first|rfl|fail));(next=>(exact aJ));(next=>(exact aJ));(next=>(exact aJ));(next=>(first|assumption|(apply_assumption<;>first|assumption|omega)|fail));(next=>(first|exact iH|(simp[fH,eM,fC,fD,iA,iB,hZ, *];done)|fail));apply eK;(next=>(exact aJ)))|(apply KA;(next=>(first|rfl|fail));(next=>(first|rfl|fail));(next=>(exact aJ));(next=>(first|assumption|(apply_assumption<;>first|assumption|omega)|fail));(next=>(first|exact iH|(simp[fH,eM,fC,fD,iA,iB,hZ, *];done)|fail));apply eK;(next=>(exact aJ)))|(apply KC;(next=>(first|rfl|fail));(next=>(first|rfl|fail));(next=>(exact aJ));(next=>(exact aJ));(next=>(first|assumption|(apply_assumption<;>first|assumption|omega)|fail));(next=>(first|exact iH|(simp[fH,eM,fC,fD,iA,iB,hZ, *];done)|fail));apply eK;(next=>(exact aJ)))|(apply KD;(next=>(first|rfl|fail));(next=>(first|rfl|fail));(next=>(exact aJ));(next=>(exact aJ));(next=>(exact aJ));(next=>(first|assumption|(apply_assumption<;>first|assumption|omega)|fail));(next=>(first|exact iH|(simp[fH,eM,fC,fD,iA,iB,hZ, *];done)|fail));apply eK;(next=>(exact aJ)))|(apply KE;(next=>(first|rfl|fail));(next=>(first|rfl|fail));(next=>(exact aJ));(next=>(exact aJ));(next=>(exact aJ));(next=>(exact aJ));(next=>(first|assumption|(apply_assumption<;>first|assumption|omega)|fail));(next=>(first|exact iH|(simp[fH,eM,fC,fD,iA,iB,hZ, *];done)|fail));apply eK;(next=>(exact aJ))))))|fail))
  (sE:xC (tab ops.toList) 0 [] es=true:=by(first|(simp(maxSteps:=2000000) (disch:=omega) only[go_sem,JP,JQ, *]<;>kernel_rfl)|fail)):AW P (.region id ops true) σ Q:=Xw k0 hm hs ht hd hr sE (by rw[hl];exact h)
end
section
variable {P : Program} {σ : AS}
theorem SZ{ops:Array Oper}{o:Oper}{rest:List Oper}{K:AS->Prop}{f:Operand}{as:Array Operand}{ts:Array TypeId}{n:FuncId}{args:List AV}{a:AV}{el:TypeId}{k:Nat}{rows:List (List AV)}{p:AS×List Oper}(h:b8 P true ops p.2 p.1 K)(aS:o.op= .call ⟨.value f,as,ts⟩:=by(first|rfl|fail))(hg:o.guard=none:=by(first|rfl|fail))
  (hc:fN (σ.get true f) (dN (σ.get true) as.toList)=some (n,args):=by(exact aJ)) (hp:wJ P n args a el k rows:=by(first|assumption|(apply_assumption<;>first|assumption|omega)|fail))
  (hr:run P ops.toList rest (({σ with H:=⟨σ.H.next+1,aY σ.H.get [(σ.H.next,some (.cells el k rows true true))]⟩}:AS).put o.dst true (p9 σ.H.next a))=p:=by(exact aJ)):b8 P true ops (o::rest) σ K:=
 DG aS hg hc hp.run fun r H' ⟨h1,h2⟩=>by subst h1;subst h2;exact nF _ _ hr h
end
theorem aE{A B:Prop}(h:B)(w:bC B->A:=by
  (intro hB;(repeat (first|refine dI ?_|refine NQ ?_|refine lP ?_|refine GC ?_|refine iT ?_|refine oI ?_|refine ND ?_|refine NF ?_|refine NG ?_|refine NH ?_|refine NI ?_|refine NJ dE ?_|refine N3 ?_|refine N7 ?_|refine N8 ?_|refine N9 ?_|refine O9 ?_|refine OA ?_|refine OB ?_|refine OC ?_|refine OD ?_|refine OE ?_|refine NS ?_|refine zC ?_|refine O5 ?_|refine O6 ?_|refine O7 ?_|refine O8 ?_|refine O3 ?_|refine O4 ?_|refine IW ?_|refine NR ?_|refine FZ ?_|refine SY ?_|refine N6 ?_|refine N5 ?_|refine NO ?_|refine NP ?_|refine NT ?_|refine NY ?_|refine SZ ?_|refine NU ?_|refine O1 ?_|refine NZ ?_|refine NV ?_|refine NW ?_|refine OF ?_|refine OG ?_|refine OH ?_|refine O0 ?_));exact hB.out)):A:=w ⟨h⟩
def HW(R:AV->Heap->Prop)(r:AV)(H':Heap):Prop:=∃wB,R r wB/\Holds ⟨[],H',0⟩ [] wB
theorem fW.Yc{P:Program}{n:FuncId}{args:List AV}{H:Heap}{R:AV->Heap->Prop}(h:fW P n args H (HW R)):fW P n args H R:=
 ⟨h.1,fun E W vs hW hr=>(h.2 E W vs hW hr).mono fun e W' ⟨v,he,E',r,H',h1,h2,h3,wB,h4,hH⟩=>
   ⟨v,he,E',r,wB,h1,⟨fun id aC=>tX (h2.next id aC) hH.next,h2.core.M8 fun id b hb=>⟨b,hH.get id b hb,aI.le_refl b⟩⟩,h3,h4⟩⟩
theorem YS{P:Program}{n:FuncId}{fn:Func}{c:Code}{args:List AV}{H:Heap}{R:AV->Heap->Prop}{rs:List ResultVar}{nt:Nat}(hf:P.funcs[n]? =some fn)(cL:fn.ntmps=nt)
  (h:AW P c ⟨jW 0 args,H,nt⟩ (hold (bT P rs (hold (HW R) ⟨⟩)) ⟨⟩))
  (hb:fn.body=some c:=by rfl) (hr:fn.results=List.toArray rs:=by rfl) (eW:(fn.name== "runtime.NumGoroutine")=false:=by kernel_rfl) (hlen:args.length<=nt:=by(simp only[iQ,kT];decide)):fW P n args H R:=
 (YL hf cL h hb hr eW hlen).Yc
theorem zE{A:Prop}(w:A:=by(refine aE ?_;exact cR)):A:=w
theorem zEa{A:Prop}(w:A:=by(refine aM ?_;exact cR)):A:=w
end Go.AL
namespace Go.AL
open Go.RowKit
theorem Yd(k:Nat){P:Program}{n:FuncId}{args:List AV}{Q:AV->Prop}(hA:fW P n args ⟨0,bN []⟩ (fun a H'=>bF (bJ H'.get k a)/\Q (bJ H'.get k a))):eA P n args Q:=by
 refine⟨hA.1,fun L W vs hL hr=> ?_⟩
 have kI:RH (eZ L) W ⟨0,bN []⟩:=⟨fun id h=>h.elim,hL,fun id h=>h.elim,fun id b h=>by cases h⟩
 refine(hA.2 (eZ L) W vs kI hr).mono fun e W' ⟨v,he,E',r,H',hv,hH,iP,fM,hq⟩=> ?_
 refine⟨v,he,bJ H'.get k r,fun b=>if b<W.heap.size then L b else max (E'.L b) (match W'.heap[b]? with|some (.cells cur _ _)=>cur.size|_=>0),⟨hv.os,hv.tape,hv.output,hv.size,fun k hk=>hv.rJ k hk fun id h=>h.elim⟩,fun b cE=> ?_,fun b cE=> ?_,?_,fM,hq⟩
 ·simp[cE]
 ·have h1:¬b<W.heap.size:=by have:=hv.size;omega
  simp[h1,hH.core.lim b cE,OW cE]
 ·refine JU hH.core (fun b=> ?_) (fun id hU cur e f hc=> ?_) k iP fM
  ·by_cases cE:b<W.heap.size
   ·rw[hv.still b cE fun id h=>h.elim]
    simp[cE,eZ]
   ·simp[cE];omega
  ·have h1:¬E'.ι id<W.heap.size:=by
    rcases hv.fresh id (fun h=>h) hU with h2|⟨sS,h2,_⟩
    ·omega
    ·exact h2.elim
   simp[h1,hc];omega
theorem wJ.TL{P:Program}{n:FuncId}{args:List AV}{a b:AV}{e:TypeId}{k:Nat}{rows:List (List AV)}(h:wJ P n args a e k rows)(hb:bF b)
  (hq:bF (bJ (aY (bN []) [(0,some (.cells e k rows true true))]) 4 (p9 0 a))/\Wk (bJ (aY (bN []) [(0,some (.cells e k rows true true))]) 4 (p9 0 a)) b):eA P n args (·=b):=
 eA.wk (Yd 4 (Q:=fun r=>Wk r b) (h.run.mono fun r H' ⟨h1,h2⟩=>by subst h1;subst h2;exact hq)) hb
theorem bB3{P:Program}{n:FuncId}{args:List AV}{a:AV}{e:TypeId}{k:Nat}{rows:List (List AV)}(ha:∀a∈args,bF a)(eC:EZ a)(fA:∀row∈rows,∀x∈row,bF x)
  (h:fW P n args ⟨0,bN []⟩ fun r H'=>∃i,r=p9 i a/\∃k6,H'.get i=some (.cells e k k6 true true)/\r7 k6 rows):wJ P n args a e k rows:=by
 refine⟨h.1,fun E W G aF vs hG gT hr=> ?_⟩
 have kI:RH (eZ E.L) W ⟨0,bN []⟩:=⟨fun id h=>h.elim,hG.lim,fun id h=>h.elim,fun id b h=>by cases h⟩
 refine(h.2 (eZ E.L) W vs kI (hr.pI (fun _=>cA _) ha)).mono fun x W' ⟨v,he,E1,r,H',hv,hH,iP,i,y9,k6,oB,nW⟩=> ?_
 subst y9;obtain⟨x8,gL⟩:=hH.core.ok i _ oB;obtain⟨dO,Ey,⟨cur,cV,bB4,bB5⟩,BV,Uw⟩:=gL
 have T0:∀(i:Nat) row,rows[i]? =some row->∃r0,k6[i]? =some r0:=fun i row hi=>by
  have h1:=(fT.1 hi).1;exact⟨_,gY (by rw[nW.1];exact h1)⟩
 have hlen:∀(i:Nat) row,rows[i]? =some row->row.length=k:=fun i row hi=>by
  obtain⟨r0,h0⟩:=T0 i row hi;rw[<-(nW.2 i r0 row h0 hi).1];exact Ey i r0 h0
 have hle:rows.length*k<=cur.size:=by rw[<-nW.1];exact bB4
 have fO:∀(i j:Nat) row x,rows[i]? =some row->row[j]? =some x->∃u,cur[i*k+j]? =some u/\RV E1 W' x u:=fun i j row x hi hj=>by
  obtain⟨r0,h0⟩:=T0 i row hi;have hw:=nW.2 i r0 row h0 hi;have h1:=(fT.1 hj).1;obtain⟨u,h2,h3⟩:=bB5 i j r0 _ h0 (gY (by rw[hw.1];exact h1))
  exact⟨u,h2,RV.wk (hw.2 j _ x (gY (by rw[hw.1];exact h1)) hj) h3⟩
 have pF:=(BV rfl).1
 have nU:W.heap.size<=E1.ι i:=by
  rcases hv.fresh i (fun h=>h) x8 with h1|⟨sS,h1,_⟩
  ·exact h1
  ·exact h1.elim
 have bG:E1.ι i<W'.heap.size:=hH.core.eJ i x8;have G6:∀b,b<W.heap.size->E1.L b=E.L b:=fun b hb=>hv.still b hb fun id h=>h.elim
 have hold:∀b,b<W.heap.size->W'.heap[b]? =W.heap[b]? :=fun b hb=>hv.rJ b hb fun id h=>h.elim
 have RP:∀b,E.L b<=E1.L b:=hv.lim
 let E':Env:=⟨fun id=>if id=aF then E1.ι i else E.ι id,fun id=>if id=aF then k else E.sz id,fun id=>E.U id\/id=aF,E1.L⟩
 have eV:∀id,E.U id->E'.ι id=E.ι id:=fun id aC=>by
  show(if id=aF then _ else _)=_
  rw[if_neg];rintro rfl;exact gT aC
 have hs:∀id,E.U id->E'.sz id=E.sz id:=fun id aC=>by
  show(if id=aF then _ else _)=_
  rw[if_neg];rintro rfl;exact gT aC
 have iD:E'.ι aF=E1.ι i:=by show(if aF=aF then _ else _)=_;rw[if_pos rfl]
 have eR:E'.sz aF=k:=by show(if aF=aF then _ else _)=_;rw[if_pos rfl]
 have vP:bE E W E' W':=by
  refine⟨hv.os,hv.tape,hv.output,hv.size,fun id h=> .inl h,fun id aC=>⟨eV id aC,hs id aC⟩,RP,hv.wV,fun b hb _=>hold b hb,hv.aR,fun b hb _=>G6 b hb,fun id h1 h2=> ?_,hv.loops⟩
  rcases h2 with h2|h2
  ·exact absurd h2 h1
  ·subst h2;rw[iD];exact .inl nU
 have cS:∀{x u},RV E1 W' x u->bF x->RV E' W' x u:=fun hx hn=>RV.EE (E:=E') (L:=E1.L) (fun _=>cA _) (hx.pI (L:=E1.L) (fun _=>cA _) hn)
 have wP:∀id,E.U id->E'.ι id≠E1.ι i:=fun id aC heq=>by
  rw[eV id aC]at heq;have:=hG.eJ id aC;omega
 refine⟨v,he,E',vP,⟨hH.core.lim,fun id aC=> ?_,fun id b hb=> ?_⟩,?_,fun id h=>h⟩
 ·rcases aC with aC|aC
  ·rw[eV id aC];exact tX (hG.eJ id aC) hv.size
  ·subst aC;rw[iD];exact bG
 ·simp only[aY]at hb
  by_cases aC:id=aF
  ·subst aC
   rw[if_pos rfl]at hb;injection hb with hb
   subst hb;refine⟨.inr rfl,eR,hlen,⟨cur,by rw[iD];exact cV,hle,fun i' j row x h1 h2=> ?_⟩,fun _=>⟨by rw[iD];exact pF,fun aL b' aT dR heq=> ?_⟩,fun _=>⟨by rw[iD];show E1.L _<=_;rw[pF];exact qV _,fun aL b' aT dR heq=> ?_⟩⟩
   ·obtain⟨u,h3,h4⟩:=fO i' j row x h1 h2
    exact⟨u,h3,cS h4 (fA row (fJ h1) x (fJ h2))⟩
   ·rw[iD]at heq
    simp only[aY,if_neg aT]at dR;exact wP aL (hG.ok aL b' dR).1 heq
   ·rw[iD]at heq
    simp only[aY,if_neg aT]at dR;exact absurd heq (wP aL (hG.ok aL b' dR).1)
  ·rw[if_neg aC]at hb
   obtain⟨hU,eC⟩:=hG.ok id b hb;have sV:=hG.eJ id hU;refine⟨.inl hU,eC.mono vP hU (hold _ sV) (G6 _ sV) fun aL b' aT dR heq=> ?_⟩
   simp only[aY]at dR;by_cases vQ:aL=aF
   ·subst vQ
    rw[iD]at heq;omega
   ·rw[if_neg vQ]at dR
    exact⟨b',dR,by rw[<-heq,eV aL (hG.ok aL b' dR).1],rfl,fun h=>h⟩
 ·exact by9 iD (by rw[eR,<-dO]) (.inr rfl) cS eC iP
theorem TV{P:Program}{n:FuncId}{fn:Func}{c:Code}{args:List AV}{a:AV}{e:TypeId}{k:Nat}{rows:List (List AV)}{rs:List ResultVar}{nt:Nat}(hf:P.funcs[n]? =some fn)(cL:fn.ntmps=nt)(ha:∀a∈args,bF a)(eC:EZ a)(fA:∀row∈rows,∀x∈row,bF x)
  (h:AW P c ⟨jW 0 args,⟨0,bN []⟩,nt⟩ (hold (bT P rs (hold (fun r H'=>∃i,r=p9 i a/\∃k6,H'.get i=some (.cells e k k6 true true)/\r7 k6 rows) ⟨⟩)) ⟨⟩))
  (hb:fn.body=some c:=by rfl) (hr:fn.results=List.toArray rs:=by rfl) (eW:(fn.name== "runtime.NumGoroutine")=false:=by kernel_rfl) (hlen:args.length<=nt:=by(simp only[iQ,kT];decide)):wJ P n args a e k rows:=by
 refine bB3 ha eC fA (CN hf hb eW (by rw[cL];exact hlen) ?_)
 rw[cL,hr];exact h
theorem ai4{P:Program}{n:FuncId}{fn:Func}{c:Code}{args:List AV}{b:AV}{rs:List ResultVar}{nt:Nat}(hf:P.funcs[n]? =some fn)(cL:fn.ntmps=nt)
  (h:AW P c ⟨jW 0 args,⟨0,bN []⟩,nt⟩ (hold (bT P rs (hold (fun a H'=>bF (bJ H'.get 4 a)/\fresh H'.get 4 a=true/\bJ H'.get 4 a=b) ⟨⟩)) ⟨⟩))
  (hb:fn.body=some c:=by(first|rfl|fail)) (hr:fn.results=List.toArray rs:=by(first|rfl|fail)) (eW:(fn.name== "runtime.NumGoroutine")=false:=by(first|kernel_rfl|fail)) (hlen:args.length<=nt:=by(simp only[iQ,kT];decide)):nJ P n args b:=by
 refine bA8 4 hf hb eW (by rw[cL];exact hlen) ?_
 rw[cL,hr];exact h
end Go.AL
namespace Go.AL
theorem RC.lH{E:Env}{W:World}{G:Nat->Option aI}{j:Nat}{e:TypeId}{s:Nat}{rws p7:List (List AV)}{w a:Bool}{AT:Array Value}(hG:RC E W G)(hj:G j=some (.cells e s rws w a))(hl:p7.length=rws.length)
  (hr:∀(i:Nat) r r',rws[i]? =some r->p7[i]? =some r'->r'.length=r.length/\∀(k:Nat) x y,r[k]? =some x->r'[k]? =some y->∀v,AT[i*s+k]? =some v->RV E W y v) (cV:W.heap[E.ι j]? =some (Obj.cells AT e (0,0))):RC E W (aY G [(j,some (.cells e s p7 w a))]):=by
 have qC:∀id b,aY G [(j,some (.cells e s p7 w a))] id=some b->∃b0,G id=some b0/\b.upto=b0.upto/\(b0.app=false->b.app=false):=fun id b h=>by
  simp only[aY]at h;split at h
  ·rename_i heq
   injection h with h
   subst h;subst heq;exact⟨_,hj,by simp only[aI.upto,hl],fun h=>h⟩
  ·exact⟨b,h,rfl,fun h=>h⟩
 refine⟨hG.lim,hG.eJ,fun id b hb=> ?_⟩
 by_cases aC:id=j
 ·subst aC
  simp only[aY]at hb;rw[if_pos trivial]at hb;injection hb with hb
  subst hb;obtain⟨hU,h1,h2,⟨cur,h3,h4,h5⟩,h6,h7⟩:=hG.ok id _ hj;have T0:∀(i:Nat) r',p7[i]? =some r'->∃r,rws[i]? =some r:=fun i r' h=>⟨_,gY (by rw[<-hl];exact(fT.1 h).1)⟩
  refine⟨hU,h1,fun i r' hi=> ?_,⟨cur,h3,by rw[hl];exact h4,fun i k r' y hi hk=> ?_⟩,fun hw=> ?_,fun ha=> ?_⟩
  ·obtain⟨r,h8⟩:=T0 i r' hi
   rw[(hr i r r' h8 hi).1];exact h2 i r h8
  ·obtain⟨r,h8⟩:=T0 i r' hi
   have h9:=hr i r r' h8 hi;have fG:k<r.length:=by rw[<-h9.1];exact(fT.1 hk).1
   obtain⟨v,mR,u2⟩:=h5 i k r _ h8 (gY fG)
   have fV:cur=AT:=by
    rw[cV]at h3;injection h3 with h3;injection h3 with h3;exact h3.symm
   exact⟨v,mR,h9.2 k _ y (gY fG) hk v (by rw[<-fV];exact mR)⟩
  ·obtain⟨h8,h9⟩:=h6 hw
   refine⟨h8,fun aL b' aT dR=> ?_⟩
   obtain⟨b0,fG,_⟩:=qC aL b' dR;exact h9 aL b0 aT fG
  ·obtain⟨h8,h9⟩:=h7 ha
   refine⟨by rw[hl];exact h8,fun aL b' aT dR heq=> ?_⟩
   obtain⟨b0,fG,mR,u2⟩:=qC aL b' dR;obtain⟨D6,H8⟩:=h9 aL b0 aT fG heq;exact⟨by rw[mR,hl];exact D6,u2 H8⟩
 ·have u5:G id=some b:=by simpa only[aY,if_neg aC]using hb
  obtain⟨hU,eC⟩:=hG.ok id b u5;refine⟨hU,?_⟩;cases b with
  |map es=>
   obtain⟨h1,h5,h6⟩:=eC;refine⟨h1,h5,fun aL b' mY dR=> ?_⟩
   obtain⟨b0,fG,_⟩:=qC aL b' dR;exact h6 aL b0 mY fG
  |iter m n seen=>
   obtain⟨h1,h5,h6⟩:=eC;refine⟨h1,h5,fun aL b' mY dR=> ?_⟩
   obtain⟨b0,fG,_⟩:=qC aL b' dR;exact h6 aL b0 mY fG
  |cJ env nt ps assign body st IX=>
   obtain⟨h1,h5,h6⟩:=eC;refine⟨h1,h5,fun aL b' mY dR=> ?_⟩
   obtain⟨b0,fG,_⟩:=qC aL b' dR;exact h6 aL b0 mY fG
  |cells e' s' dU w' a'=>
   obtain⟨h1,h2,h3,h6,h7⟩:=eC;refine⟨h1,h2,h3,fun hw=> ?_,fun ha=> ?_⟩
   ·obtain⟨h8,h9⟩:=h6 hw
    refine⟨h8,fun aL b' mY dR=> ?_⟩
    obtain⟨b0,fG,_⟩:=qC aL b' dR;exact h9 aL b0 mY fG
   ·obtain⟨h8,h9⟩:=h7 ha
    refine⟨h8,fun aL b' mY dR heq=> ?_⟩
    obtain⟨b0,fG,mR,u2⟩:=qC aL b' dR;obtain⟨D6,H8⟩:=h9 aL b0 mY fG heq;exact⟨by rw[mR];exact D6,u2 H8⟩
def Fz(id:Nat)(rows:List (List AV))(x y:AV):Prop:=x=y\/∃off len,x= .own id off len/\off+len<=rows.length/\y= .snap ((rows.drop off).take len)
def FL(id:Nat)(rows rws p7:List (List AV)):Prop:=
 p7.length=rws.length/\∀(i:Nat) r r',rws[i]? =some r->p7[i]? =some r'->r'.length=r.length/\∀(k:Nat) x y,r[k]? =some x->r'[k]? =some y->Fz id rows x y
theorem AH{P:Program}{σ:AS}{Q:Exit->AS->Prop}{c:Code}(id j:Nat){e e2:TypeId}{s s2:Nat}{rows rws:List (List AV)}{w a w2 a2:Bool}(p7:List (List AV))(hg:σ.H.get id=some (.cells e s rows w a))(hj:σ.H.get j=some (.cells e2 s2 rws w2 a2))(kZ:j≠id)
  (hr:FL id rows rws p7) (h:AW P c ⟨σ.env,⟨σ.H.next,aY (aY σ.H.get [(id,some (.cells e s rows false a))]) [(j,some (.cells e2 s2 p7 w2 a2))]⟩,σ.nt⟩ Q):AW P c σ Q:=fun ro E W act dP bL=>by
 obtain⟨hv,hH⟩:=XB bL.heap hg
 have hL:∀aL,aL∈[id]->∀(e':TypeId) (s':Nat) (dU:List (List AV)) (w' a':Bool),σ.H.get aL=some (.cells e' s' dU w' a')->dU.length*s'<=(if E.ι aL=E.ι id then max (E.L (E.ι aL)) (rows.length*s)else E.L (E.ι aL)):=fun aL h1 e' s' dU w' a' h2=>by
  simp only[dJ,iI,or_false]at h1;subst h1;rw[hg]at h2;injection h2 with h2
  injection h2 with h3 h4 h5
  subst h4 h5;rw[if_pos rfl];omega
 have DF:(aY σ.H.get [(id,some (.cells e s rows false a))]) j=some (.cells e2 s2 rws w2 a2):=by
  simp only[aY];rw[if_neg kZ];exact hj
 --J8 values of J8 block j in J8 vY world
 obtain⟨_,_,_,⟨cur,BZ,_,pR⟩,_,_⟩:=bL.heap.core.ok j _ hj
 have Ho:RC ⟨E.ι,E.sz,E.U,fun b=>if b=E.ι id then max (E.L b) (rows.length*s)else E.L b⟩ W (aY (aY σ.H.get [(id,some (.cells e s rows false a))]) [(j,some (.cells e2 s2 p7 w2 a2))]):=by
  refine hH.core.lH DF hr.1 (fun i r r' h1 h2=>⟨(hr.2 i r r' h1 h2).1,fun k x y hx hy v Hp=> ?_⟩) BZ
  obtain⟨v',h3,h4⟩:=pR i k r x h1 hx;rw[Hp]at h3;injection h3 with h3
  subst h3;rcases(hr.2 i r r' h1 h2).2 k x y hx hy with rfl|⟨off,len,rfl,hle,rfl⟩
  ·exact h4.mono hv
  ·have:=JT bL.heap.core hv h4 (fun aL h5=>hL aL (by simpa[tW]using h5))
   simpa[oL,rowsOf,hg,hle]using this
 refine wpIn_mono (h ro _ W act dP (bL.mono hv ⟨hH.next,Ho⟩)) fun e' a' w' ⟨E',aN,h2,h3,h4,h5⟩=>⟨E',aN,(eU.of hv rfl).trans h2,h3,h4,h5⟩
end Go.AL
namespace Go.AL
open Go.RowKit
section
variable {P : Program} {σ : AS}
theorem aY0{ops:Array Oper}{o:Oper}{rest:List Oper}{K:AS->Prop}{f:Operand}{as:Array Operand}{ts:Array TypeId}{n:FuncId}{bW args:List AV}{r:AV}{p:AS×List Oper}{j:Nat}{want:Bool}(h:b8 P true ops p.2 p.1 K)(aS:o.op= .call ⟨.value f,as,ts⟩:=by(first|rfl|fail))(hg:o.guard=some (j,want):=by(first|rfl|fail))
  (hw:nQ (nA ops.toList j σ.env) want=some true:=by(exact aJ))
  (hc:fN (σ.get true f) (dN (σ.get true) as.toList)=some (n,bW):=by(exact aJ)) (he:bW.map (bJ σ.H.get 3)=args:=by(exact aJ)) (hp:nJ P n args r:=by(first|assumption|(apply_assumption<;>first|assumption|omega)|fail)) (hn:∀a∈args,bF a:=by(first|exact iH|(simp[fH,eM,fC,fD,iA,iB,hZ, *];done)|fail))
  (hr:run P ops.toList rest (σ.put o.dst true r)=p:=by(exact aJ)):b8 P true ops (o::rest) σ K:=
 bs4 aS hg hw hc (hp.act 3 he hn) fun r' H' ⟨h1,h2⟩=>by subst h1;subst h2;exact nF _ _ hr h
end
end Go.AL
namespace Go.AL
open Go.RowKit
section
variable {P : Program} {σ : AS} {Q : Exit -> AS -> Prop}
theorem Hq{ops:List Oper}{N0 i:Nat}{o:Oper}{r:List Oper}{σ dV:AS}{es:List Entry}{f:Operand}{as:Array Operand}{ts:Array TypeId}{n:FuncId}{bW args:List AV}{a:AV}{wr:List (Nat×Option aI)}{rd:List Nat}(aS:o.op= .call ⟨.value f,as,ts⟩)(hg:o.guard=none)
  (hc:fN (σ.get true f) (dN (σ.get true) as.toList)=some (n,bW)) (he:bW.map (nE σ.H.get)=args) (iW:l8 oJ bW=rd) (hw:(rd.map fun id=>(id,qU (σ.H.get id)))=wr) (hp:eA P n args (·=a)) (hn:∀a∈args,bF a) (h:fX P ops N0 (i+1) r (σ.app o.dst ⟨true,a,wr,rd⟩) es dV):
  fX P ops N0 i (o::r) σ (⟨true,a,wr,rd⟩::es) dV:=bq2 aS hg hp hc he hn iW hw h
theorem VL{aN:AS}{id:Nat}{ops:Array Oper}{es:List Entry}(h:Q .normal aN)(hm:P.follows .mixedOrders=true:=by(first|kernel_rfl|fail))(hs:zN ops=true:=by(first|kernel_rfl|fail))(hd:ops.toList.all (fS σ.nt)=true:=by(first|rfl|fail))
  (hr:fX P ops.toList σ.H.next 0 ops.toList {σ with H:=⟨σ.H.next+ops.size,σ.H.get⟩} es aN:=by(first|(apply eK;(next=>(exact aJ));(repeat (first|exact K6|(apply Hq;(next=>(first|rfl|fail));(next=>(first|rfl|fail));(next=>(exact aJ));(next=>(exact aJ));(next=>(exact aJ));(next=>(exact aJ));(next=>(first|assumption|(apply_assumption<;>first|assumption|omega)|fail));(next=>(first|exact iH|(simp[fH,eM,fC,fD,iA,iB,hZ, *];done)|fail));apply eK;(next=>(exact aJ)))|(apply KB;(next=>(first|rfl|fail));(next=>(exact aJ));apply eK;(next=>(exact aJ)))|(apply OJ;(next=>(first|rfl|fail));(next=>(first|rfl|fail));(next=>(exact aJ));(next=>(first|assumption|(apply_assumption<;>first|assumption|omega)|fail));apply eK;(next=>(exact aJ)))|(apply OI;(next=>(first|rfl|fail));(next=>(first|rfl|fail));(next=>(exact aJ));(next=>(first|assumption|(apply_assumption<;>first|assumption|omega)|fail));apply eK;(next=>(exact aJ)))|(apply OK;(next=>(first|rfl|fail));(next=>(first|rfl|fail));(next=>(exact aJ));(next=>(exact aJ));(next=>(exact aJ));(next=>(first|assumption|(apply_assumption<;>first|assumption|omega)|fail));(next=>(first|exact iH|(simp[fH,eM,fC,fD,iA,iB,hZ, *];done)|fail));apply eK;(next=>(exact aJ)))|(apply KA;(next=>(first|rfl|fail));(next=>(first|rfl|fail));(next=>(exact aJ));(next=>(first|assumption|(apply_assumption<;>first|assumption|omega)|fail));(next=>(first|exact iH|(simp[fH,eM,fC,fD,iA,iB,hZ, *];done)|fail));apply eK;(next=>(exact aJ)))|(apply KC;(next=>(first|rfl|fail));(next=>(first|rfl|fail));(next=>(exact aJ));(next=>(exact aJ));(next=>(first|assumption|(apply_assumption<;>first|assumption|omega)|fail));(next=>(first|exact iH|(simp[fH,eM,fC,fD,iA,iB,hZ, *];done)|fail));apply eK;(next=>(exact aJ)))|(apply KD;(next=>(first|rfl|fail));(next=>(first|rfl|fail));(next=>(exact aJ));(next=>(exact aJ));(next=>(exact aJ));(next=>(first|assumption|(apply_assumption<;>first|assumption|omega)|fail));(next=>(first|exact iH|(simp[fH,eM,fC,fD,iA,iB,hZ, *];done)|fail));apply eK;(next=>(exact aJ)))|(apply KE;(next=>(first|rfl|fail));(next=>(first|rfl|fail));(next=>(exact aJ));(next=>(exact aJ));(next=>(exact aJ));(next=>(exact aJ));(next=>(first|assumption|(apply_assumption<;>first|assumption|omega)|fail));(next=>(first|exact iH|(simp[fH,eM,fC,fD,iA,iB,hZ, *];done)|fail));apply eK;(next=>(exact aJ))))))|fail))
  (sE:xC (tab ops.toList) 0 [] es=true:=by(first|(simp(maxSteps:=2000000) (disch:=omega) only[go_sem,JP,JQ, *]<;>kernel_rfl)|fail)):AW P (.region id ops true) σ Q:=SX hm hs hd hr sE h
end
end Go.AL
namespace Go.AL
open Go.RowKit
def lV(x:Value):List PanicEntry:=[{v:=x,recovered:=false}]
def DI(P:Program)(n:FuncId)(args:List AV)(x:Value):Prop:=
 sB P n=true/\∀(L:Nat->Nat) (W:World) (vs:List Value),(∀b,W.heap.size<=b->L b=0)->bP (eZ L) W args vs->
  Calls P n vs.toArray W fun e W'=>e= .panicked (lV x)/\Below W.heap.size W W'
theorem DI.run{P:Program}{n:FuncId}{args:List AV}{x:Value}(h:DI P n args x)(ha:∀a∈args,bF a){E:Env}{W:World}{H:Heap}(hH:RH E W H){vs:List Value}(hr:bP E W args vs):
  Calls P n vs.toArray W fun e W'=>e= .panicked (lV x)/\bE E W E W'/\RH E W' H:=by
 refine(h.2 E.L W vs hH.core.lim (hr.pI (fun _=>cA _) ha)).mono fun e W' ⟨he,hb⟩=> ?_
 obtain⟨h1,h2⟩:=bE.below hH.core hb;exact⟨he,h1,hH.next,h2⟩
theorem T1{fn:Func}{args:List AV}{H:Heap}{E:Env}{W:World}{vs:List Value}(hlen:args.length<=fn.ntmps)(hH:RH E W H)(hr:bP E W args vs):
  Rel E W ⟨jW 0 args,H,fn.ntmps⟩ {tmps:=vs.toArray++Array.replicate (fn.ntmps-vs.toArray.size) undef,defers:=[]}:=by
 refine⟨Marks.nil E W,?_,fun t c a ha=> ?_,hH⟩
 ·have:=hr.1;simp;omega
 ·obtain⟨_,h1,Ft⟩:=Fq args 0 t _ ha
  obtain⟨v,h2,h3⟩:=hr.get h1;simp only[Nat.sub_zero]at h2;refine⟨v,?_,fun _=>h3,fun h=>by simp only at Ft;rw[Ft]at h;cases h⟩
  rw[bI1 (by simpa using(fT.1 h2).1)]
  simpa using h2
theorem bB6{P:Program}{n:FuncId}{fn:Func}{c:Code}{args:List AV}{x:Value}(hf:P.funcs[n]? =some fn)(hb:fn.body=some c)(eW:(fn.name== "runtime.NumGoroutine")=false)(hlen:args.length<=fn.ntmps)
  (h:AW P c ⟨jW 0 args,⟨0,bN []⟩,fn.ntmps⟩ (fun e _=>e= .panic (lV x))):DI P n args x:=by
 refine⟨by unfold sB;rw[hf];simp[eW,hb],fun L W vs hL hr=> ?_⟩
 have kI:RH (eZ L) W ⟨0,bN []⟩:=⟨fun id h=>h.elim,hL,fun id h=>h.elim,fun id b h=>by cases h⟩
 refine callsIn_wide.1 (callsIn_of_wp_marks (F:=Fence.wide) (n:=3) hf hb trivial ?_);refine wpIn_mono (h none (eZ L) W _ (fun l h=>by cases h) (T1 hlen kI hr)) fun e a w ⟨E',aN,h1,h2,h3,h4⟩=> ?_
 subst h4;obtain⟨Ds,qD,tV,uW⟩:=h2.defers;have yF:∀D∈Ds,W.heap.size<=D:=fun D hD=>(h1.new D (JG qD hD)).resolve_left (fun h=>by cases h)
 have key:=JM (P:=P) (fn:=fn) (tmps:=a.tmps) (R:=fun e W'=>e= .panicked (lV x)/\Below W.heap.size W W') (I:=fun w'=>bE (eZ L) W E' w') (u:= .panicking (lV x)) (by simp) (rest:=[]) a.defers Ds qD h1.vY tV
  (fun D hD w' hw hI=>hI.shut hL (yF D hD)) (fun w' hI=>⟨rfl,hI.os,hI.tape,hI.output,hI.size,fun k hk=>hI.rJ k hk fun id h=>h.elim⟩) (fun D hD=>(uW D hD).1) h1.nP
 rw[v7]at key;exact key
theorem B6{F:Fence}{n:Nat}{P:Program}{ops:Array Oper}{Q:Exit->Act->World->Prop}{r:List Nat}:∀(l:List Nat) (a:Act) (w:World),wpOpsIn F n P ops (Exit.then (wpOpsIn F n P ops Q r) Q) l a w->wpOpsIn F n P ops Q (l++r) a w
 |[],a,w,h=>h
 |i::l,a,w,h=>by
  simp only[wpOpsIn,BB]at h⊢;cases ho:ops[i]? with
  |none=>simp only[ho]at h⊢;exact B6 l a w h
  |some o=>
   simp only[ho]at h⊢;by_cases hw:Region.wanted o (yielded ops a.tmps)=true
   ·simp only[hw,if_true]at h⊢
    refine⟨h.1,?_⟩;have h2:=h.2;generalize (o.semAt F.round a.eval).run P w=r' at h2;simp only[Oper.uponIn]at h2⊢;split at h2
    ·exact B6 l _ _ h2
    ·exact B6 l _ _ h2
    ·exact B6 l _ _ h2
    ·refine⟨h2.1,h2.2.mono fun e Ye hR=> ?_⟩
     cases e with
     |returned v=>exact B6 l _ _ hR
     |panicked ch=>exact hR
     |outgrown=>exact hR
    ·exact⟨h2.1,h2.2.mono fun v Ye hR=>B6 l _ _ hR⟩
    ·refine⟨h2.1,h2.2.mono fun e Ye hR=> ?_⟩
     cases e with
     |returned v=>exact B6 l _ _ hR
     |panicked ch=>exact hR
     |outgrown=>exact hR
    ·exact h2
    ·exact h2
   ·simp only[hw,if_false,qZ]at h⊢
    exact⟨h.1,B6 l _ _ h.2⟩
def XW(P:Program)(o:Oper)(σ:AS)(x:Value):Prop:=
 o.guard=none/\∀(ro:Option Nat) (E:Env) (W:World) (act:Act) (next:Act->World->Prop) (Q:Exit->Act->World->Prop),Rel E W σ act->(∀W',bE E W E W'->Rel E W' σ act->Q (.panic (lV x)) act W')->o.wpIn (l7 ro) 3 P act W next Q
theorem range_split{n k:Nat}(h:k<n):∃more,List.range n=List.range k++k::more:=by
 obtain⟨m,rfl⟩:∃m,n=k+(m+1):=⟨n-k-1,oM⟩
 rw[List.range_add,List.range_succ_eq_map];exact⟨_,by simp;rfl⟩
section
variable {P : Program} {σ : AS} {Q : Exit -> AS -> Prop}
theorem bB7{id:Nat}{ops:Array Oper}(k:Nat){o:Oper}{x:Value}(ho:ops[k]? =some o)(hd:(ops.toList.take k).all (fS σ.nt)=true)
  (h:b8 P true ops (ops.toList.take k) σ (hold (fun aN=>XW P o aN x/\Q (.panic (lV x)) aN) ⟨⟩)):AW P (.region id ops false) σ Q:=fun ro E W act dP hr=>by
 refine wpIn_region ?_;have hk:k<ops.size:=(k7.1 ho).1;obtain⟨more,hm⟩:=range_split hk;rw[hm];refine B6 _ _ _ ?_;refine G8 (List.range k) (ops.toList.take k) ?_ h hd hr (fun E' W' aN cK hv cG cL hK=> ?_)
 ·apply ET
  intro i;simp only[kJ,TF];by_cases hi:i<k
  ·have:i<ops.size:=oM
   simp[hi,TF,pK,this]
  ·simp[hi,TF,pK]
 ·obtain⟨⟨hg,hx⟩,hq⟩:=hK
  show wpOpsIn (l7 ro) 3 P ops _ (k::more) cK W'
  simp only[wpOpsIn,ho];rw[if_pos (by simp[Region.wanted,hg])]
  exact hx ro E' W' cK _ _ cG fun G1 fI mD=>⟨E',aN,hv.trans (.of fI rfl),mD,cL,hq⟩
theorem bB8{o:Oper}{f:Operand}{as:Array Operand}{ts:Array TypeId}{n:FuncId}{args:List AV}{x:Value}(aS:o.op= .call ⟨.value f,as,ts⟩)(hg:o.guard=none)(hc:fN (σ.get true f) (dN (σ.get true) as.toList)=some (n,args))(ha:∀a∈args,bF a)(h:DI P n args x):XW P o σ x:=by
 refine⟨hg,fun ro E W act next Q hr hn=> ?_⟩
 obtain⟨first,cap,mC,hf,has,rfl⟩:=yC hc
 have h1:=hr.get rfl hf;have h2:=uT (E:=E) (W:=W) (ρ:=act.eval) (fun x b hb=>hr.get rfl hb) _ _ has
 generalize nD:act.eval f=fv at h1;cases h1 with
 |fn _ _ _ vf vc hl dG h3 h4=>
 have lE:bP E W (first++mC++cap) (vf.toList++as.toList.map act.eval++vc.toList):=by
  refine(bP.append ?_ h2).append ?_
  ·exact⟨by simpa using hl,fun i x v hx hv=>h3 i x v hx (by simpa using hv)⟩
  ·exact⟨by simpa using dG,fun i x v hx hv=>h4 i x v hx (by simpa using hv)⟩
 have fV:=h.run ha hr.heap lE
 have eQ:(execOp act.eval o).run P W= .ok (.enter n (vf.toList++as.toList.map act.eval++vc.toList).toArray) W:=by
  simp only[execOp,aS,resolve,nD,Deferred.ofValue,Sem.run_bind,Sem.run_pure,Result.andThen_ok,invoke];rw[yE h.1];congr 2;apply zT;simp
 refine⟨fun _ _=>trivial,?_⟩
 rw[Oper.semAt_eq _ _ _ (fun c h=>by rw[aS]at h;cases h),eQ]
 refine⟨yB,zK (fV.mono fun e W' ⟨he,hv,hH⟩=> ?_)⟩
 subst he;exact hn W' hv (hr.mono hv hH)
theorem bB9{o:Oper}{y:Operand}{t:TypeId}{v:Value}(aS:o.op= .panic y)(hg:o.guard=none)(hy:σ.get true y=some (.c (.iface t v))):XW P o σ (.iface t v):=by
 refine⟨hg,fun ro E W act next Q hr hn=> ?_⟩
 have h1:=hr.get rfl hy;generalize hv:act.eval y=u at h1;cases h1
 have eQ:(execOp act.eval o).run P W= .halt (.panic (.iface t v)) W:=by
  simp only[execOp,aS,hv,Instr.panic];rfl
 refine⟨fun _ _=>trivial,?_⟩
 rw[Oper.semAt_eq _ _ _ (fun c h=>by rw[aS]at h;cases h),eQ]
 exact hn W (bE.refl E W) hr
end
end Go.AL
namespace Go.AL
open Go.RowKit
def EJ:Option Value->FrameMode
 |none=> .returning
 |some x=> .panicking (lV x)
def uZ:Option Value->FrameMode
 |none=> .returning
 |some x=> .panicking [{v:=x,recovered:=true}]
def mE:Option Value->Value
 |none=> .nilIface
 |some x=>x
theorem bC0(r:Option Value):settle (uZ r)= .returning:=by cases r<;>rfl
theorem Yf(r:Option Value):EJ r≠ .run:=by cases r<;>simp[EJ]
def oW(P:Program)(m:FuncId)(args:List AV)(H:Heap)(r:Option Value)(Q:Heap->Prop):Prop:=
 sB P m=true/\∀(E:Env) (W:World) (vs:List Value),RH E W H->bP E W args vs->
  CallsDIn Fence.wide 2 P m vs.toArray (EJ r) W fun e u' W'=>(∃v,e= .returned v)/\u'=uZ r/\∃E' H',bE E W E' W'/\RH E' W' H'/\Q H'
def EK(E:Env)(W:World)(d:Deferred)(m:FuncId)(cargs:List AV):Prop:=
 ∃vf vc:Array Value,d={target:= .fn (.func m) vc,args:=vf}/\bP E W cargs (vf.toList++vc.toList)
theorem EK.mono{E E':Env}{W W':World}{d:Deferred}{m:FuncId}{cargs:List AV}(h:EK E W d m cargs)(hv:bE E W E' W'):EK E' W' d m cargs:=by
 obtain⟨vf,vc,h1,h2,h3⟩:=h;exact⟨vf,vc,h1,h2,fun i x v hx lD=>(h3 i x v hx lD).mono hv⟩
theorem EK.shut{E:Env}{w:World}{d:Deferred}{m:FuncId}{cargs:List AV}{D:Nat}{x:Option (List Deferred)}{o:Obj}(hD:w.heap[D]? =some (.deferred x))(h:EK E w d m cargs):EK E (w.putObj D o) d m cargs:=by
 obtain⟨vf,vc,h1,h2,h3⟩:=h;exact⟨vf,vc,h1,h2,fun i x v hx lD=>(h3 i x v hx lD).shut hD⟩
def AD(P:Program)(c:Code)(σ:AS)(m:FuncId)(cargs:List AV)(Q:Exit->AS->Prop):Prop:=
 ∀(E:Env) (W:World) (act:Act),Rel E W σ act->pJ act.defers=[]->c.wpIn Fence.wide 3 P (fun e cK W'=>∃E' aN d,bE E W E' W'/\(∀D,sW D∈cK.defers->sW D∈act.defers\/W.heap.size<=D)/\pJ cK.defers=[d]/\EK E' W' d m cargs/\Rel E' W' aN cK/\aN.nt=σ.nt/\Q e aN) act W
theorem Yg{n k:Nat}(h:k<n):List.range n=List.range k++k::List.range' (k+1) (n-(k+1)):=by
 obtain⟨m,rfl⟩:∃m,n=k+(m+1):=⟨n-k-1,oM⟩
 rw[List.range_eq_range',List.range_eq_range',<-List.range'_append_1,vB,List.range'_succ,show k+(m+1)-(k+1)=m by omega]
theorem map_take{ops:Array Oper}{k:Nat}(hk:k<=ops.size):(List.range k).map (ops[·]?)=(ops.toList.take k).map some:=by
 apply ET;intro i;simp only[kJ,TF];by_cases hi:i<k
 ·have:i<ops.size:=oM
  simp[hi,TF,pK,this]
 ·simp[hi,TF,pK]
theorem map_drop{ops:Array Oper}{k:Nat}(hk:k<ops.size):(List.range' (k+1) (ops.size-(k+1))).map (ops[·]?)=(ops.toList.drop (k+1)).map some:=by
 apply ET;intro i;simp only[kJ,vA];by_cases hi:i<ops.size-(k+1)
 ·have:k+1+i<ops.size:=oM
  simp[List.getElem?_range',hi,this]
 ·have:¬k+1+i<ops.size:=oM
  simp[List.getElem?_range',hi,this]
section
variable {P : Program} {σ : AS} {Q : Exit -> AS -> Prop} {m : FuncId} {cargs : List AV}
theorem Yh{id:Nat}{ops:Array Oper}(k:Nat){o:Oper}{f:Operand}{as:Array Operand}{ts:Array TypeId}(ho:ops[k]? =some o)(hd:ops.toList.all (fS σ.nt)=true)(aS:o.op= .defer ⟨.value f,as,ts⟩)(hg:o.guard=none)
  (h:b8 P true ops (ops.toList.take k) σ (hold (fun aN=>fN (aN.get true f) (dN (aN.get true) as.toList)=some (m,cargs)/\b8 P true ops (ops.toList.drop (k+1)) (aN.put o.dst true (.c undef)) (Q .normal)) ⟨⟩)):AD P (.region id ops false) σ m cargs Q:=fun E W act hr h0=>by
 refine wpIn_region ?_;have hk:k<ops.size:=(k7.1 ho).1;have lC:∀x∈ops.toList,fS σ.nt x=true:=fun x hx=>by simpa using iM.1 hd x hx
 rw[Yg hk];refine B6 _ _ _ ?_;refine G8 (ro:=none) (List.range k) (ops.toList.take k) (map_take (Y2 hk)) h (iM.2 fun x hx=>lC x (GO hx)) hr (fun E' W' aN cK hv cG cL hK=> ?_)
 obtain⟨hc,hrest⟩:=hK
 show wpOpsIn Fence.wide 3 P ops _ (k::List.range' (k+1) (ops.size-(k+1))) cK W'
 simp only[wpOpsIn,ho];rw[if_pos (by simp[Region.wanted,hg])]
 obtain⟨first,cap,mC,hf,has,hca⟩:=yC hc
 have h1:=cG.get rfl hf;have h2:=uT (E:=E') (W:=W') (ρ:=cK.eval) (fun x b hb=>cG.get rfl hb) _ _ has
 generalize nD:cK.eval f=fv at h1;cases h1 with
 |fn _ _ _ vf vc hl dG h3 h4=>
 have lE:bP E' W' cargs ((vf++as.map cK.eval).toList++vc.toList):=by
  rw[hca,show(vf++as.map cK.eval).toList++vc.toList=vf.toList++as.toList.map cK.eval++vc.toList by simp]
  refine(bP.append ?_ ?_).append ?_
  ·exact⟨by simpa using hl,fun i x v hx hv=>h3 i x v hx (by simpa using hv)⟩
  ·exact h2
  ·exact⟨by simpa using dG,fun i x v hx hv=>h4 i x v hx (by simpa using hv)⟩
 have eQ:(execOp cK.eval o).run P W'= .ok (.defer {target:= .fn (.func m) vc,args:=vf++as.map cK.eval}) W':=by
  simp only[execOp,aS,resolve,nD,Deferred.ofValue,Sem.run_bind,Sem.run_pure,Result.andThen_ok]
 have bC2:EK E' W' {target:= .fn (.func m) vc,args:=vf++as.map cK.eval} m cargs:=⟨_,_,rfl,lE⟩;refine⟨fun _ _=>trivial,?_⟩
 rw[show Fence.wide.round=none from rfl,Oper.semAt_none,eQ]
 show wpOpsIn _ _ _ _ _ _ _ _
 have mD:Rel E' W' aN {cK with defers:={target:= .fn (.func m) vc,args:=vf++as.map cK.eval}::cK.defers}:=⟨cG.defers.push rfl,cG.size,cG.env,cG.heap⟩
 have RU:=mD.put (dst:=o.dst) (nR (by rw[cL];exact lC o (fJ (by simpa using ho)))) (c:=true) (a:= .c undef) (v:=undef) (fun _=> .c _ rfl) (fun h=>by cases h)
 refine G8 (ro:=none) _ (ops.toList.drop (k+1)) (map_drop hk) hrest (iM.2 fun x hx=>by rw[AS.rK,cL];exact lC x (BA hx)) RU (fun E2 W2 y2 Xx fI N2 JK I7=> ?_)
 refine⟨E2,y2,_,hv.nP.trans fI.nP,fun D hD=> ?_,?_,bC2.mono fI.nP,N2,?_,I7⟩
 ·rcases fI.new D hD with h5|h5
  ·rw[Act.put_defers]at h5
   rcases dJ.1 h5 with h6|h6
   ·cases h6
   ·exact hv.new D h6
  ·exact .inr (tA hv.nP.size h5)
 ·rw[fI.vY,Act.put_defers]
  show pJ (_::_)=_
  unfold pJ;rw[TD (by rfl)]
  have:pJ cK.defers=[]:=by rw[hv.vY];exact h0
  unfold pJ at this;rw[this]
 ·rw[JK,AS.rK,cL]
theorem Yi{x y:Code}(h:AD P x σ m cargs (cF (fun aN=>AW P y aN Q) Q)):AD P (.seq x y) σ m cargs Q:=fun E W act hr h0=>by
 refine wpIn_seq (wpIn_mono (h E W act hr h0) fun e a w ⟨E',aN,d,hv,hm,ho,hd,cG,cL,hq⟩=> ?_)
 cases e with
 |normal=>
  refine wpIn_mono (hq none E' w a (fun l hl=>by cases hl) cG) fun e2 a2 w2 ⟨E2,y2,hw,mD,qT,pT⟩=>⟨E2,y2,d,hv.trans hw.nP,fun D hD=> ?_,hw.vY.trans ho,hd.mono hw.nP,mD,qT.trans cL,pT⟩
  rcases hw.new D hD with h5|h5
  ·exact hm D h5
  ·exact .inr (tA hv.size h5)
 |_=>exact⟨E',aN,d,hv,hm,ho,hd,cG,cL,hq⟩
theorem Yj{x y:Code}(h:AW P x σ (fun e aN=>e= .normal/\AD P y aN m cargs Q)):AD P (.seq x y) σ m cargs Q:=fun E W act hr h0=>by
 refine wpIn_seq (wpIn_mono (h none E W act (fun l hl=>by cases hl) hr) fun e a w ⟨E',aN,hw,cG,cL,he,hq⟩=> ?_)
 subst he;refine wpIn_mono (hq E' w a cG (hw.vY.trans h0)) fun e2 a2 w2 ⟨E2,y2,d,fI,wG,yO,yW,mD,qT,pT⟩=>⟨E2,y2,d,hw.nP.trans fI,fun D hD=> ?_,yO,yW,mD,qT.trans cL,pT⟩
 rcases wG D hD with h5|h5
 ·exact hw.new D h5
 ·exact .inr (tA hw.nP.size h5)
end
theorem Yk{d:Deferred}:∀{l:List Deferred},pJ l=[d]->∃l1 l2,l=l1++d::l2/\pJ l1=[]/\pJ l2=[]/\x9 d=false
 |[],h=>by cases h
 |x::l,h=>by
  unfold pJ at h;cases hx:x9 x with
  |true=>
   rw[YE (by simp[hx])]at h
   obtain⟨l1,l2,rfl,h1,h2,h3⟩:=Yk (l:=l) h;refine⟨x::l1,l2,rfl,?_,h2,h3⟩;unfold pJ at h1⊢;rw[YE (by simp[hx])];exact h1
  |false=>
   rw[TD (by simp[hx]),TB]at h
   obtain⟨rfl,h⟩:=h;exact⟨[],l,rfl,rfl,h,hx⟩
def OL(P:Program)(rs:List ResultVar)(m:FuncId)(cargs:List AV)(Q:AV->Heap->Prop):Exit->AS->Prop
 | .normal,σ=>oW P m cargs σ.H none (hold (fun H'=>nB (iL P {σ with H:=H'} rs) (hold (fun a=>Q a H') ⟨⟩)) ⟨⟩)
 | .ret,σ=>oW P m cargs σ.H none (hold (fun H'=>nB (iL P {σ with H:=H'} rs) (hold (fun a=>Q a H') ⟨⟩)) ⟨⟩)
 | .panic ch,σ=>∃x,ch=lV x/\oW P m cargs σ.H (some x) (hold (fun H'=>nB (iL P {σ with H:=H'} rs) (hold (fun a=>Q a H') ⟨⟩)) ⟨⟩)
 |_,_=>False
theorem Yl{P:Program}{n:FuncId}{fn:Func}{c:Code}{args:List AV}{H:Heap}{Q:AV->Heap->Prop}{m:FuncId}{cargs:List AV}(hf:P.funcs[n]? =some fn)(hb:fn.body=some c)(eW:(fn.name== "runtime.NumGoroutine")=false)(hlen:args.length<=fn.ntmps)
  (h:AD P c ⟨jW 0 args,H,fn.ntmps⟩ m cargs (hold (OL P fn.results.toList m cargs (hold Q ⟨⟩)) ⟨⟩)):fW P n args H Q:=by
 refine⟨by unfold sB;rw[hf];simp[eW,hb],fun E W vs hH hr=> ?_⟩
 refine callsIn_wide.1 (callsIn_of_wp_marks (F:=Fence.wide) (n:=3) hf hb trivial ?_);refine wpIn_mono (h E W _ (T1 hlen hH hr) rfl) fun e a w ⟨E',aN,d,hv,hm,ho,hd,cG,cL,hq⟩=> ?_
 have fin:∀r:Option Value,oW P m cargs aN.H r (fun H'=>nB (iL P {aN with H:=H'} fn.results.toList) (hold (fun a=>Q a H') ⟨⟩))->
   LeavesInM Fence.wide 3 P fn a.tmps (fun e W'=>∃v,e= .returned v/\∃E' r H',bE E W E' W'/\RH E' W' H'/\RV E' W' r v/\Q r H') a.defers (EJ r) w:=fun r hq=>by
  obtain⟨Ds,qD,tV,uW⟩:=cG.defers;have yF:∀D∈Ds,W.heap.size<=D:=fun D hD=>(hm D (JG qD hD)).resolve_left (fun h=>by cases h)
  obtain⟨l1,l2,hl,T4,yO,hdm⟩:=Yk ho;rw[hl,Im,YE (by simp[hdm])]at qD
  obtain⟨Ds1,Hr,rfl,hE1,BQ⟩:=List.map_eq_append_iff.1 qD.symm;rw[List.nodup_append]at tV;rw[hl]
  refine JM (I:=fun w'=>bE E W E' w'/\Rel E' w' aN {a with defers:=[]}/\EK E' w' d m cargs/\∀D∈Hr,w'.heap[D]? =some (.deferred (some []))) (u:=EJ r) (Yf r) (rest:=d::l2) l1 Ds1 hE1.symm T4 tV.1
   (fun D hD w' hw hI=>⟨hI.1.shut hH.core.lim (yF D (GQ _ hD)),hI.2.1.shut hw,hI.2.2.1.shut hw,fun D' CM=> ?_⟩) (fun w' hI=> ?_) (fun D hD=>(uW D (GQ _ hD)).1) ⟨hv,⟨Marks.nil _ _,cG.size,cG.env,cG.heap⟩,hd,fun D hD=>(uW D (OQ _ hD)).1⟩
  ·rw[World.putObj_heap_other (fun e=>tV.2.2 D hD D' CM e.symm)]
   exact hI.2.2.2 D' CM
  ·obtain⟨hI1,zX,⟨vf,vc,rfl,lE⟩,Ym⟩:=hI
   refine⟨Yf r,.inr ⟨fun h=>by simp[Fence.wide]at h,.func m,vc,m,(vf.toList++vc.toList).toArray,rfl,?_,fun _ _=>trivial,?_⟩⟩
   ·simp only[invoke]
    rw[yE hq.1];congr 2;apply zT;simp
   ·refine(hq.2 E' w' _ zX.heap lE).mono fun e u' w2 ⟨⟨v,he⟩,hu,E2,H2,fI,NB,hQ2⟩=> ?_
    subst he;subst hu
    show LeavesInM Fence.wide 3 P fn a.tmps _ l2 (settle (uZ r)) w2
    rw[bC0];obtain⟨b,u5,pT⟩:=EF hQ2
    have hI5:∀D∈Hr,w2.heap[D]? =some (.deferred (some [])):=fun D hD=>by
     rw[fI.rJ D (k7.1 (Ym D hD)).1 (uW D (OQ _ hD)).2];exact Ym D hD
    have key:=JM (P:=P) (fn:=fn) (tmps:=a.tmps) (R:=fun e W'=>∃v,e= .returned v/\∃E' r H',bE E W E' W'/\RH E' W' H'/\RV E' W' r v/\Q r H') (I:=fun w'=>bE E W E2 w'/\Rel E2 w' ({aN with H:=H2}:AS) {a with defers:=[]}) (u:= .returning) (by simp) (rest:=[]) l2 Hr BQ.symm yO tV.2.1
     (fun D hD w' hw hI=>⟨hI.1.shut hH.core.lim (yF D (OQ _ hD)),hI.2.shut hw⟩) (fun w' hI=> ?_) hI5 ⟨hI1.trans fI,zX.mono fI NB⟩
    ·rw[v7]at key;exact key
    ·obtain⟨v2,h5,h6⟩:=S0 hI.2 u5
     exact⟨v2,h5,v2,rfl,E2,b,H2,hI.1,hI.2.heap,h6,pT⟩
 cases e with
 |normal=>exact fin none hq
 |ret=>exact fin none hq
 |panic ch=>
  obtain⟨x,rfl,hq⟩:=hq;exact fin (some x) hq
 |_=>exact hq.elim
theorem Hs{P:Program}{I:World->Prop}:∀(ds:List Deferred) (Ds:List Nat),ds.filter x9=Ds.map sW->pJ ds=[]->Ds.Nodup->(∀D∈Ds,∀w,w.heap[D]? =some (.deferred (some []))->I w->I (w.putObj D (.deferred none)))->
  ∀{fr:Frame} {cs:List Frame} {w:World},fr.mode≠ .run->fr.defers=ds->(∀D∈Ds,w.heap[D]? =some (.deferred (some [])))->I w->∃w',StepsIn (Machine.fenced P Fence.wide) P (lone fr cs w) (lone {fr with defers:=[]} cs w')/\I w'
 |[],_,_,_,_,_,fr,cs,w,_,hd,_,hI=>⟨w,by cases fr;simp only at hd;subst hd;exact StepsIn.refl _,hI⟩
 |d::ds,Ds,hm,ho,hn,hs,fr,cs,w,Yn,G2,hw,hI=>by
  have hd:x9 d=true:=by
   cases h:x9 d with
   |true=>rfl
   |false=>
    unfold pJ at ho;rw[TD (by simp[h])]at ho
    cases ho
  rw[TD hd]at hm;cases Ds with
  |nil=>simp at hm
  |cons D Ds=>
   rw[qE,TB]at hm;obtain⟨rfl,hm⟩:=hm;have h0:=hw D (by simp)
   rw[Il]at hn
   have Fs:pJ ds=[]:=by
    unfold pJ at ho⊢;rw[YE (by simp[hd])]at ho
    exact ho
   have h1:=step_collected (P:=P) (cs:=cs) Yn G2 rfl (run_takeDeferred h0)
   obtain⟨w',h2,h3⟩:=Hs ds Ds hm Fs hn.2 (fun D' CM=>hs D' (by simp[CM])) (fr:={fr with defers:=[]++ds}) (cs:=cs) Yn rfl (fun D' CM=>by
    rw[World.putObj_heap_other (fun e=>hn.1 (by rw[<-e];exact CM))]
    exact hw D' (by simp[CM])) (hs D (by simp) w h0 hI)
   exact⟨w',.head (fenced_wide P _) h1 h2,h3⟩
def OM(P:Program)(fn:Func)(mN:Frame)(cs:List Frame)(R:Ending->FrameMode->World->Prop)(e:Exit)(a:Act)(GM:List Frame)(w:World):Prop:=
 (e= .normal\/e= .ret)/\∃u',GM={mN with mode:=u'}::cs/\∀fr:Frame,fr.mode= .returning->fr.defers=a.defers->
   ∃w',StepsIn (Machine.fenced P Fence.wide) P (lone fr GM w) (lone {fr with defers:=[]} GM w')/\∃v,(results fn a.tmps).run P w'= .ok v w'/\R (.returned v) u' w'
theorem Yo{P:Program}{m:FuncId}{fn:Func}{c:Code}{args:Array Value}{u:FrameMode}{w:World}{R:Ending->FrameMode->World->Prop}
  (hf:P.funcs[m]? =some fn) (hb:fn.body=some c)
  (h:∀(mN:Frame) (cs:List Frame),mN.mode=u->c.wpSIn Fence.wide 2 P (OM P fn mN cs R) {tmps:=args++Array.replicate (fn.ntmps-args.size) undef,defers:=[]} (mN::cs) w):
  CallsDIn Fence.wide 2 P m args u w R:=by
 refine⟨trivial,fun mN cs hu AE=> ?_⟩
 let b:Frame:={(default:Frame)with fn:=m,kind:= .deferred,roundOf:=none}
 have bC9:Frame.enter P m args .deferred=
   b.atR {tmps:=args++Array.replicate (fn.ntmps-args.size) undef,defers:=[]} [.code c]:=by
  simp[Frame.enter,Frame.atR,hf,hb,b]
 obtain⟨e,a',GM,w',hl,⟨he,u',rfl,hq⟩,CL⟩:=h mN cs hu b [] rfl rfl trivial AE;rw[<-bC9]at CL;rcases he with rfl|rfl
 ·obtain⟨w2,hs,v,hr,hR⟩:=hq {b.atR a' []with mode:= .returning} rfl rfl
  exact⟨.returned v,u',w2,_,hR,StepsIn.trans CL (.head (fenced_wide P _) (stepR_end rfl) hs),rfl,rfl,rfl,rfl,fn,hf,hr⟩
 ·obtain⟨todo,DK⟩:=CL.1 rfl
  obtain⟨w2,hs,v,hr,hR⟩:=hq {b.atR a' todo with mode:= .returning} rfl rfl
  exact⟨.returned v,u',w2,_,hR,StepsIn.trans DK hs,rfl,rfl,rfl,rfl,fn,hf,hr⟩
theorem bD0{P:Program}{m:FuncId}{fn:Func}{id:Nat}{ops:Array Oper}{y:Code}{args:List AV}{H:Heap}{r:Option Value}{Q:Heap->Prop}{o:Oper}{ts:Array TypeId}(hf:P.funcs[m]? =some fn)(hb:fn.body=some (.seq (.region id ops false) y))(eW:(fn.name== "runtime.NumGoroutine")=false)(hlen:args.length<=fn.ntmps)
  (ho:ops= #[o]) (aS:o.op= .call ⟨.builtin .recover,#[],ts⟩) (hg:o.guard=none) (hd:fS fn.ntmps o=true) (hx:vW (mE r)=false)
  (h:AW P y (({env:=jW 0 args,H:=H,nt:=fn.ntmps}:AS).put o.dst true (.c (mE r))) (hold (fun e σ=>(e= .normal\/e= .ret)/\(∃a,iL P σ fn.results.toList=some a)/\Q σ.H) ⟨⟩)):oW P m args H r Q:=by
 refine⟨by unfold sB;rw[hf];simp[eW,hb],fun E W vs hH hr=> ?_⟩
 refine Yo hf hb fun mN cs hu=> ?_
 have bL:=T1 hlen hH hr;refine wpSIn_seq (wpSIn_region ?_);have eQ:∀ρ,(execOp ρ o).run P W= .ok .recover W:=fun ρ=>by simp[execOp,aS,resolve,invoke,builtin]
 subst ho
 show wpOpsSIn Fence.wide 2 P #[o] _ [0] _ _ _
 simp only[wpOpsSIn,CZ,qX];refine⟨fun _ _=>trivial,?_⟩
 rw[if_pos (by simp[Region.wanted,hg]),eQ]
 have main:y.wpSIn Fence.wide 2 P (OM P fn mN cs fun e u' W'=>(∃v,e= .returned v)/\u'=uZ r/\∃E' H',bE E W E' W'/\RH E' W' H'/\Q H') (({tmps:=vs.toArray++Array.replicate (fn.ntmps-vs.toArray.size) undef,defers:=[]}:Act).put o.dst (mE r)) ({mN with mode:=uZ r}::cs) W:=by
  have wR:=bL.put (dst:=o.dst) (nR hd) (c:=true) (a:= .c (mE r)) (v:=mE r) (fun _=> .c _ hx) (fun h=>by cases h)
  refine wpSIn_of_wpIn rfl ?_;refine wpIn_wide.2 (wpIn_wide.1 (wpIn_mono (h none E W _ (fun l hl=>by cases hl) wR) fun e a w ⟨E',aN,hw,cG,hn,he,⟨b,hb⟩,hq⟩=>⟨he,_,rfl,fun fr hm G2=> ?_⟩))
  obtain⟨Ds,qD,tV,uW⟩:=cG.defers;have yF:∀D∈Ds,W.heap.size<=D:=fun D hD=>(hw.new D (JG qD hD)).resolve_left (fun h=>by rw[Act.put_defers]at h;cases h)
  obtain⟨w',hs,hI⟩:=Hs (P:=P) (I:=fun w'=>bE E W E' w'/\Rel E' w' aN {a with defers:=[]}) a.defers Ds qD (by rw[hw.vY,Act.put_defers];rfl) tV (fun D hD w' ON hI=>⟨hI.1.shut hH.core.lim (yF D hD),hI.2.shut ON⟩) (fr:=fr) (cs:=_) (by rw[hm];simp) G2 (fun D hD=>(uW D hD).1) ⟨hw.nP,⟨Marks.nil _ _,cG.size,cG.env,cG.heap⟩⟩
  obtain⟨v,h5,h6⟩:=S0 hI.2 hb;exact⟨w',hs,v,h5,⟨v,rfl⟩,rfl,E',aN.H,hI.1,hI.2.heap,hq⟩
 cases r with
 |none=>
  have h1:recoverD (mN::cs)=none:=by simp[recoverD,hu,EJ]
  have h2:({mN with mode:=uZ none}:Frame)=mN:=by cases mN;simp only at hu;subst hu;rfl
  rw[h2]at main;simp only[h1];exact main
 |some x=>
  have h1:recoverD (mN::cs)=some (x,{mN with mode:=uZ (some x)}::cs):=by simp[recoverD,hu,EJ,uZ,lV]
  simp only[h1];exact main
end Go.AL
namespace Go.AL
open Go.RowKit
section
variable {P : Program} {ops : Array Oper}
theorem Yp{Q:Exit->Act->World->Prop}{K:AS->Prop}{nt k0 kx:Nat}{ox:Oper}{x:Value}(OO:ops[kx]? =some ox)(K7:∀(j:Nat) o,ops[j]? =some o->∀k∈wC o,k<j)(SP:∀j,k0<=j->j<ops.size->∀i,i<j->Reach ops.toList i j)
  (hd:ops.toList.all (fS nt)=true) {E0:Env} {W0:World} {A0:Act} {ro:Option Nat} (hQ:∀E W act σ,eU E0 W0 A0 E W act->Rel E W σ act->σ.nt=nt->K σ->Q (.panic (lV x)) act W):
  ∀(d m:Nat),kx-m=d->m<=kx->k0<=m->∀(fuel:Nat) (l:Array Bool) (E:Env) (W:World) (act:Act) (σ:AS),l.size=ops.size->(List.range ops.size).countP (fun i=> !cM l i)<=fuel->(∀i,cM l i=decide (i<m))->
   eU E0 W0 A0 E W act->Rel E W σ act->σ.nt=nt->b8 P true ops ((ops.toList.drop m).take (kx-m)) σ (hold (fun s=>XW P ox s x/\K s) ⟨⟩)->wpAnyIn (l7 ro) 3 P .any ops Q fuel l act W
 |d,m,hm,hle,hk,fuel,l,E,W,act,σ,hl,K8,hex,hv,hr,cL,h=>by
  have y5:m<ops.size:=by have:=(k7.1 OO).1;omega
  have gZ:SM ops.toList (cM l):=fun j o ho hj k hk=>by
   rw[hex]at hj⊢;simp at hj⊢;have:=K7 j o (by simpa using ho) k hk
   omega
  have Hk:m∈Region.ready .any ops l:=by
   rw[mem_ready];have h1:cM l m=false:=by rw[hex];simp
   have dQ:l.getD m true=false:=by
    have:m<l.size:=oM
    simp[cM,this]at h1;simp[this,h1]
   refine⟨dQ,ops[m],OV y5,fun e he hb=> ?_⟩
   have hk:e.on∈wC ops[m]:=mF.2 ⟨e,KM.2 ⟨by simpa using he,hb⟩,rfl⟩
   have:=K7 m _ (OV y5) e.on hk
   show cM l e.on=true
   rw[hex];simpa using this
  have h2:0<(List.range ops.size).countP (fun i=> !cM l i):=Zx.2 ⟨m,by simpa using y5,by rw[hex];simp⟩
  obtain⟨fuel,rfl⟩:∃f,fuel=f+1:=⟨fuel-1,oM⟩
  refine⟨(fun iW=>by rw[iW]at Hk;cases Hk),fun j hj=> ?_⟩
  obtain⟨h0,o,ho,SQ⟩:=mem_ready.1 hj;have J6:j<ops.size:=(k7.1 ho).1
  have xQ:cM l j=false:=by
   have:j<l.size:=oM
   simp[this]at h0;simp[cM,this,h0]
  have rA:ops.toList[j]? =some o:=by simpa using ho
  have NN:∀k∈wC o,cM l k=true:=fun k hk=>by
   obtain⟨e,he,rfl⟩:=mF.1 hk;obtain⟨mJ,oZ⟩:=KM.1 he;exact SQ e (by simpa using mJ) oZ
  have He:∀i,Reach ops.toList i j->cM l i=true:=fun i h=>by
   cases h with
   |step h hi=>rw[rA]at h;injection h with h;subst h;exact NN _ hi
   |trans h hk hr=>rw[rA]at h;injection h with h;subst h;exact hr.closed gZ (NN _ hk)
  have Hl:j=m:=by
   have h3:m<=j:=by rw[hex]at xQ;simpa using xQ
   rcases qY m j with h4|h4
   ·have:=He m (SP j oM J6 m h4)
    rw[hex]at this;simp at this
   ·omega
  subst Hl;by_cases hz:j=kx
  ·subst hz
   rw[OO]at ho;injection ho with ho
   subst ho;rw[B7,ER]at h;obtain⟨⟨hg,hx⟩,hK⟩:=h;unfold wpOpIn;simp only[OO];rw[if_pos (by simp[Region.wanted,hg])]
   exact hx ro E W act _ _ hr fun W' lD cG=>hQ E W' act σ (hv.trans (.of lD rfl)) cG cL hK
  cases d with
  |zero=>omega
  |succ d=>
   have bG:j<kx:=oM
   rw[OP (by simpa using y5),show kx-j=(kx-(j+1))+1 by omega,Iz]at h
   have Hm:ops.toList[j]'(by simpa using y5)=o:=by
    rw[gY (by simpa using y5)]at rA
    exact YC rA
   rw[Hm]at h
   have pS:∀i,cM (l.setIfInBounds j true) i=(cM l i||decide (i=j)):=fun i=>by
    unfold cM;by_cases kZ:i=j
    ·subst kZ
     have:i<l.size:=oM
     simp[this]
    ·simp[bI2 (wD kZ),kZ]
   have IK:fS σ.nt o=true:=by rw[cL];exact iM.1 hd o (by rw[Zs];exact Iy ho)
   have eQ:=Fl (ro:=ro) (next:=wpAnyIn (l7 ro) 3 P .any ops Q fuel (l.setIfInBounds j true)) (Q:=Q) h IK hr (fun E' W' aN cK lD cG Hn hK=>by
    refine Yp OO K7 SP hd hQ d (j+1) oM oM oM fuel _ E' W' cK aN (by simpa using hl) ?_ (fun i=> ?_) (hv.trans lD) cG (Hn.trans cL) hK
    ·have key:∀n,j<n->(List.range n).countP (fun i=> !cM (l.setIfInBounds j true) i)<(List.range n).countP (fun i=> !cM l i):=by
      intro n
      induction n with
      |zero=>intro h;omega
      |succ n XT=>
       intro Xs;rw[GV,TE,TE];by_cases aT:j=n
       ·subst aT
        have hle:(List.range j).countP (fun i=> !cM (l.setIfInBounds j true) i)<=(List.range j).countP (fun i=> !cM l i):=Zy fun i _ h=>by
         rw[pS]at h;simp at h;simp[h.1]
        have tQ:cM (l.setIfInBounds j true) j=true:=by rw[pS];simp
        simp only[Zz,aa0,tQ,xQ,Zw,Bool.not_false,qZ,if_true,if_false];omega
       ·have:=XT oM
        have hn:cM (l.setIfInBounds j true) n=cM l n:=by rw[pS];simp[wD aT]
        simp only[Zz,aa0,hn];omega
     have:=key _ y5;omega
    ·rw[pS,hex]
     by_cases h5:i<j
     ·simp[h5];omega
     ·by_cases h6:i=j
      ·simp[h6]
      ·simp[h5,h6];omega)
   unfold wpOpIn;simp only[ho];by_cases hw:Region.wanted o (yielded ops act.tmps)=true
   ·simp only[hw,if_true]at eQ⊢
    exact eQ
   ·simp only[hw]at eQ⊢
    exact⟨fun _ _=>trivial,eQ⟩
end
theorem bD1{P:Program}{σ aN:AS}{Q:Exit->AS->Prop}{id:Nat}{ops:Array Oper}{es:List Entry}(k0 kx:Nat){ox:Oper}{x:Value}(OO:ops[kx]? =some ox)(Ht:k0<=kx)(hm:P.follows .mixedOrders=true)(hs:zN ops=true)(ht:K9 ops.toList k0=true)(hd:ops.toList.all (fS σ.nt)=true)
  (hr:fX P ops.toList σ.H.next 0 (ops.toList.take k0) {σ with H:=⟨σ.H.next+ops.size,σ.H.get⟩} es aN) (sE:xC (tab ops.toList) 0 [] es=true) (h:b8 P true ops ((ops.toList.drop k0).take (kx-k0)) aN (hold (fun s=>XW P ox s x/\Q (.panic (lV x)) s) ⟨⟩)):AW P (.region id ops true) σ Q:=fun ro E W act dP bL=>by
 obtain⟨h1,h2⟩:=Xj hs;obtain⟨hk,SS⟩:=Xv ht;obtain⟨h3,h4,h5⟩:=hr.pO hk (σ0:={σ with H:=⟨σ.H.next+ops.size,σ.H.get⟩}) [] rfl rfl (qV _) rfl
 simp only[sF]at h3 h4 h5;have SU:=(Gx es 0 [] sE).2;simp only[vB]at SU
 have SV:∀i,cM (Array.replicate ops.size false) i=false:=fun i=>by
  unfold cM;by_cases wN:i<ops.size<;>simp[wN]
 refine wpIn_region_any hm ?_
 refine Xo (N0:=σ.H.next) (σ0:={σ with H:=⟨σ.H.next+ops.size,σ.H.get⟩}) (es:=es) (E0:=E) (W0:=W) (A0:=act) hk h3 SS (fun j o e ho he=>h5 j o e (qV _) ho he) h1 h2 (fun i j a b kZ ha hb hc=>XQ (SU i j a b kZ ha hb hc)) hd (by simp only[];omega)
  (fun fuel l E' W' cK hl K8 hex hv cG=>Yp (K:=Q (.panic (lV x))) (nt:=σ.nt) OO h1 SS hd (E0:=E) (W0:=W) (fun E2 W2 Xx y2 fI mD JK hK=>⟨E2,y2,fI,mD,JK,hK⟩) (kx-k0) k0 rfl Ht (cA _) fuel l E' W' cK aN hl K8 hex hv (by rw[h4];exact cG) (by rw[h4,GI]) h)
  ops.size (Array.replicate ops.size false) E W.drew act (by simp) ?_ ?_ (fun i _=>SV i) (eU.of (bE.drew E W) rfl) ?_ ?_
 ·have:=List.countP_le_length (p:=fun i=> !cM (Array.replicate ops.size false) i) (l:=List.range ops.size)
  simpa using this
 ·intro j o _ hj
  rw[SV]at hj;cases hj
 ·have heq:∀k,nG ops es {σ with H:=⟨σ.H.next+ops.size,σ.H.get⟩} (cM (Array.replicate ops.size false)) k={σ with H:=⟨σ.H.next+ops.size,σ.H.get⟩}:=by
   intro k
   induction k with
   |zero=>rfl
   |succ k ih=>simp only[nG,SV,qZ,if_false];exact ih
  rw[heq];exact⟨bL.defers.mono (bE.drew E W),bL.size,fun t c a ha=>let ⟨v,h1,h2,h3⟩:=bL.env t c a ha;⟨v,h1,fun hc=>(h2 hc).mono (bE.drew E W),h3⟩,⟨fun id aC=>tX (bL.heap.next id aC) (Nat.le_add_right _ _),bL.heap.core.drew⟩⟩
 ·exact fun id aC=> .inl (bL.heap.next id aC)
theorem bD2{P:Program}{m:FuncId}{fn:Func}{id:Nat}{ops:Array Oper}{y:Code}{args:List AV}{H:Heap}{r:Option Value}{Q:Heap->Prop}{o o2:Oper}{ts:Array TypeId}{t:Tmp}(hf:P.funcs[m]? =some fn)(hb:fn.body=some (.seq (.region id ops false) y))(eW:(fn.name== "runtime.NumGoroutine")=false)(hlen:args.length<=fn.ntmps)
  (ho:ops= #[o,o2]) (aS:o.op= .call ⟨.builtin .recover,#[],ts⟩) (hg:o.guard=none) (CR:o.dst=some t) (Hu:o2.op= .assign (.tmp t)) (oY:o2.guard=none) (hd:fS fn.ntmps o=true) (yW:fS fn.ntmps o2=true) (hx:vW (mE r)=false)
  (h:AW P y ((({env:=jW 0 args,H:=H,nt:=fn.ntmps}:AS).put o.dst true (.c (mE r))).put o2.dst true (.c (mE r))) (hold (fun e σ=>(e= .normal\/e= .ret)/\(∃a,iL P σ fn.results.toList=some a)/\Q σ.H) ⟨⟩)):oW P m args H r Q:=by
 refine⟨by unfold sB;rw[hf];simp[eW,hb],fun E W vs hH hr=> ?_⟩
 refine Yo hf hb fun mN cs hu=> ?_
 have bL:=T1 hlen hH hr;refine wpSIn_seq (wpSIn_region ?_);have eQ:∀ρ,(execOp ρ o).run P W= .ok .recover W:=fun ρ=>by simp[execOp,aS,resolve,invoke,builtin]
 have wR:=bL.put (dst:=o.dst) (nR hd) (c:=true) (a:= .c (mE r)) (v:=mE r) (fun _=> .c _ hx) (fun h=>by cases h)
 have dQ:(({tmps:=vs.toArray++Array.replicate (fn.ntmps-vs.toArray.size) undef,defers:=[]}:Act).put o.dst (mE r)).eval (.tmp t)=mE r:=by
  have h2:=wR.get (c:=true) rfl (x:= .tmp t) (a:= .c (mE r)) (by simp[AS.get,AS.put,CR,lk,yA])
  generalize (({tmps:=vs.toArray++Array.replicate (fn.ntmps-vs.toArray.size) undef,defers:=[]}:Act).put o.dst (mE r)).eval (.tmp t)=u at h2;cases h2;rfl
 have bD3:(execOp (({tmps:=vs.toArray++Array.replicate (fn.ntmps-vs.toArray.size) undef,defers:=[]}:Act).put o.dst (mE r)).eval o2).run P W= .ok (.value (mE r)) W:=by
  simp only[execOp,Hu,dQ,Sem.run_pure]
 subst ho
 show wpOpsSIn Fence.wide 2 P #[o,o2] _ [0,1] _ _ _
 have main:y.wpSIn Fence.wide 2 P (OM P fn mN cs fun e u' W'=>(∃v,e= .returned v)/\u'=uZ r/\∃E' H',bE E W E' W'/\RH E' W' H'/\Q H') ((({tmps:=vs.toArray++Array.replicate (fn.ntmps-vs.toArray.size) undef,defers:=[]}:Act).put o.dst (mE r)).put o2.dst (mE r)) ({mN with mode:=uZ r}::cs) W:=by
  have mD:=wR.put (dst:=o2.dst) (nR (by rw[AS.rK];exact yW)) (c:=true) (a:= .c (mE r)) (v:=mE r) (fun _=> .c _ hx) (fun h=>by cases h)
  refine wpSIn_of_wpIn rfl ?_;refine wpIn_wide.2 (wpIn_wide.1 (wpIn_mono (h none E W _ (fun l hl=>by cases hl) mD) fun e a w ⟨E',aN,hw,cG,hn,he,⟨b,hb⟩,hq⟩=>⟨he,_,rfl,fun fr hm G2=> ?_⟩))
  obtain⟨Ds,qD,tV,uW⟩:=cG.defers;have yF:∀D∈Ds,W.heap.size<=D:=fun D hD=>(hw.new D (JG qD hD)).resolve_left (fun h=>by rw[Act.put_defers,Act.put_defers]at h;cases h)
  obtain⟨w',hs,hI⟩:=Hs (P:=P) (I:=fun w'=>bE E W E' w'/\Rel E' w' aN {a with defers:=[]}) a.defers Ds qD (by rw[hw.vY,Act.put_defers,Act.put_defers];rfl) tV (fun D hD w' ON hI=>⟨hI.1.shut hH.core.lim (yF D hD),hI.2.shut ON⟩) (fr:=fr) (cs:=_) (by rw[hm];simp) G2 (fun D hD=>(uW D hD).1) ⟨hw.nP,⟨Marks.nil _ _,cG.size,cG.env,cG.heap⟩⟩
  obtain⟨v,h5,h6⟩:=S0 hI.2 hb;exact⟨w',hs,v,h5,⟨v,rfl⟩,rfl,E',aN.H,hI.1,hI.2.heap,hq⟩
 have h3:∀GM,y.wpSIn Fence.wide 2 P (OM P fn mN cs fun e u' W'=>(∃v,e= .returned v)/\u'=uZ r/\∃E' H',bE E W E' W'/\RH E' W' H'/\Q H') ((({tmps:=vs.toArray++Array.replicate (fn.ntmps-vs.toArray.size) undef,defers:=[]}:Act).put o.dst (mE r)).put o2.dst (mE r)) GM W->
   wpOpsSIn Fence.wide 2 P #[o,o2] (Exit.thenS (y.wpSIn Fence.wide 2 P (OM P fn mN cs fun e u' W'=>(∃v,e= .returned v)/\u'=uZ r/\∃E' H',bE E W E' W'/\RH E' W' H'/\Q H')) (OM P fn mN cs fun e u' W'=>(∃v,e= .returned v)/\u'=uZ r/\∃E' H',bE E W E' W'/\RH E' W' H'/\Q H')) [1] (({tmps:=vs.toArray++Array.replicate (fn.ntmps-vs.toArray.size) undef,defers:=[]}:Act).put o.dst (mE r)) GM W:=fun GM hm=>by
  unfold wpOpsSIn;simp only[CZ,CX,qX];refine⟨fun _ _=>trivial,?_⟩
  rw[if_pos (by simp[Region.wanted,oY]),bD3]
  exact hm
 unfold wpOpsSIn;simp only[CZ,qX];refine⟨fun _ _=>trivial,?_⟩
 rw[if_pos (by simp[Region.wanted,hg]),eQ]
 cases r with
 |none=>
  have h1:recoverD (mN::cs)=none:=by simp[recoverD,hu,EJ]
  have h2:({mN with mode:=uZ none}:Frame)=mN:=by cases mN;simp only at hu;subst hu;rfl
  rw[h2]at main;simp only[h1];exact h3 _ main
 |some x=>
  have h1:recoverD (mN::cs)=some (x,{mN with mode:=uZ (some x)}::cs):=by simp[recoverD,hu,EJ,uZ,lV]
  simp only[h1];exact h3 _ main
end Go.AL
namespace Go.AL
attribute [go_sem] Ew Ex RN E7 mE
structure rV(id k:Nat)(x:Value):Prop where
theorem HN{P:Program}{n:FuncId}{fn:Func}{c:Code}{args:List AV}{x:Value}{nt:Nat}(hf:P.funcs[n]? =some fn)(cL:fn.ntmps=nt)
  (h:AW P c ⟨jW 0 args,⟨0,bN []⟩,nt⟩ (hold (fun e _=>e= .panic (lV x)) ⟨⟩))
  (hb:fn.body=some c:=by(first|rfl|fail)) (eW:(fn.name== "runtime.NumGoroutine")=false:=by(first|kernel_rfl|fail)) (hlen:args.length<=nt:=by(simp only[iQ,kT];decide)):DI P n args x:=by
 refine bB6 hf hb eW (by rw[cL];exact hlen) ?_
 rw[cL];exact h
theorem Lt{P:Program}{m:FuncId}{fn:Func}{id:Nat}{ops:Array Oper}{y:Code}{args:List AV}{H:Heap}{r:Option Value}{Q:Heap->Prop}{o o2:Oper}{ts:Array TypeId}{t t2:Tmp}{rs:List ResultVar}{nt:Nat}(hf:P.funcs[m]? =some fn)(cL:fn.ntmps=nt)
  (h:AW P y ⟨(t2,true,.c (mE r))::(t,true,.c (mE r))::jW 0 args,H,nt⟩ (hold (fun e σ=>(e= .normal\/e= .ret)/\(∃a,iL P σ rs=some a)/\Q σ.H) ⟨⟩)) (hb:fn.body=some (.seq (.region id ops false) y):=by(first|rfl|fail)) (hr:fn.results=List.toArray rs:=by(first|rfl|fail)) (eW:(fn.name== "runtime.NumGoroutine")=false:=by(first|kernel_rfl|fail)) (hlen:args.length<=nt:=by(simp only[iQ,kT];decide))
  (ho:ops= #[o,o2]:=by(first|rfl|fail)) (aS:o.op= .call ⟨.builtin .recover,#[],ts⟩:=by(first|rfl|fail)) (hg:o.guard=none:=by(first|rfl|fail)) (CR:o.dst=some t:=by(first|rfl|fail)) (Hu:o2.op= .assign (.tmp t):=by(first|rfl|fail)) (bD4:o2.dst=some t2:=by(first|rfl|fail)) (oY:o2.guard=none:=by(first|rfl|fail)) (hd:fS nt o=true:=by(first|rfl|fail)) (yW:fS nt o2=true:=by(first|rfl|fail)) (hx:vW (mE r)=false:=by(first|rfl|fail)):oW P m args H r Q:=by
 subst cL;refine bD2 hf hb eW hlen ho aS hg CR Hu oY hd yW hx ?_;simp only[AS.put,CR,bD4];rw[hr];exact h
section
variable {P : Program} {σ : AS} {Q : Exit -> AS -> Prop} {Q' : Prop}
theorem XU{id k:Nat}{ops:Array Oper}{o:Oper}{x:Value}{l:List Oper}(h:b8 P true ops l σ (hold (fun aN=>XW P o aN x/\Q (.panic (lV x)) aN) ⟨⟩))(s:rV id k x:=by assumption)(ho:ops[k]? =some o:=by(first|rfl|fail))(hl:ops.toList.take k=l:=by(first|rfl|fail))
  (hd:(ops.toList.take k).all (fS σ.nt)=true:=by(first|rfl|fail)):AW P (.region id ops false) σ Q:=by
 subst hl;exact bB7 k ho hd h
theorem au8{id k k0:Nat}{aN:AS}{ops:Array Oper}{o:Oper}{x:Value}{l:List Oper}{es:List Entry}(s2:rV (id+1000) k0 .nilIface)(h:b8 P true ops l aN (hold (fun aN=>XW P o aN x/\Q (.panic (lV x)) aN) ⟨⟩))(s:rV id k x:=by assumption)(Ht:k0<=k:=by decide)(ho:ops[k]? =some o:=by(first|rfl|fail))(hl:(ops.toList.drop k0).take (k-k0)=l:=by(first|rfl|fail))(ht:K9 ops.toList k0=true:=by(first|kernel_rfl|fail))(hm:P.follows .mixedOrders=true:=by(first|kernel_rfl|fail))(hs:zN ops=true:=by(first|kernel_rfl|fail))(hd:ops.toList.all (fS σ.nt)=true:=by(first|rfl|fail))
  (hr:fX P ops.toList σ.H.next 0 (ops.toList.take k0) {σ with H:=⟨σ.H.next+ops.size,σ.H.get⟩} es aN:=by(first|(apply eK;(next=>(exact aJ));(repeat (first|exact K6|(apply KB;(next=>(first|rfl|fail));(next=>(exact aJ));apply eK;(next=>(exact aJ)))|(apply OJ;(next=>(first|rfl|fail));(next=>(first|rfl|fail));(next=>(exact aJ));(next=>(first|assumption|(apply_assumption<;>first|assumption|omega)|fail));apply eK;(next=>(exact aJ)))|(apply OI;(next=>(first|rfl|fail));(next=>(first|rfl|fail));(next=>(exact aJ));(next=>(first|assumption|(apply_assumption<;>first|assumption|omega)|fail));apply eK;(next=>(exact aJ)))|(apply OK;(next=>(first|rfl|fail));(next=>(first|rfl|fail));(next=>(exact aJ));(next=>(exact aJ));(next=>(exact aJ));(next=>(first|assumption|(apply_assumption<;>first|assumption|omega)|fail));(next=>(first|exact iH|(simp[fH,eM,fC,fD,iA,iB,hZ, *];done)|fail));apply eK;(next=>(exact aJ)))|(apply KA;(next=>(first|rfl|fail));(next=>(first|rfl|fail));(next=>(exact aJ));(next=>(first|assumption|(apply_assumption<;>first|assumption|omega)|fail));(next=>(first|exact iH|(simp[fH,eM,fC,fD,iA,iB,hZ, *];done)|fail));apply eK;(next=>(exact aJ)))|(apply KC;(next=>(first|rfl|fail));(next=>(first|rfl|fail));(next=>(exact aJ));(next=>(exact aJ));(next=>(first|assumption|(apply_assumption<;>first|assumption|omega)|fail));(next=>(first|exact iH|(simp[fH,eM,fC,fD,iA,iB,hZ, *];done)|fail));apply eK;(next=>(exact aJ)))|(apply KD;(next=>(first|rfl|fail));(next=>(first|rfl|fail));(next=>(exact aJ));(next=>(exact aJ));(next=>(exact aJ));(next=>(first|assumption|(apply_assumption<;>first|assumption|omega)|fail));(next=>(first|exact iH|(simp[fH,eM,fC,fD,iA,iB,hZ, *];done)|fail));apply eK;(next=>(exact aJ)))|(apply KE;(next=>(first|rfl|fail));(next=>(first|rfl|fail));(next=>(exact aJ));(next=>(exact aJ));(next=>(exact aJ));(next=>(exact aJ));(next=>(first|assumption|(apply_assumption<;>first|assumption|omega)|fail));(next=>(first|exact iH|(simp[fH,eM,fC,fD,iA,iB,hZ, *];done)|fail));apply eK;(next=>(exact aJ))))))|fail))
  (sE:xC (tab ops.toList) 0 [] es=true:=by(first|(simp(maxSteps:=2000000) (disch:=omega) only[go_sem,JP,JQ, *]<;>kernel_rfl)|fail)):AW P (.region id ops true) σ Q:=bD1 k0 k ho Ht hm hs ht hd hr sE (by rw[hl];exact h)
theorem XV{o:Oper}{x:Value}{f:Operand}{as:Array Operand}{ts:Array TypeId}{n:FuncId}{args:List AV}(h:Q')(aS:o.op= .call ⟨.value f,as,ts⟩:=by(first|rfl|fail))(hg:o.guard=none:=by(first|rfl|fail))
  (hc:fN (σ.get true f) (dN (σ.get true) as.toList)=some (n,args):=by(exact aJ)) (hx:DI P n args x:=by(first|assumption|(apply_assumption<;>first|assumption|omega)|fail)) (hn:∀a∈args,bF a:=by(first|exact iH|(simp[fH,eM,fC,fD,iA,iB,hZ, *];done)|fail)):XW P o σ x/\Q':=⟨bB8 aS hg hc hn hx,h⟩
theorem XX{o:Oper}{y:Operand}{t:TypeId}{v:Value}(h:Q')(aS:o.op= .panic y:=by(first|rfl|fail))(hg:o.guard=none:=by(first|rfl|fail))
  (hy:σ.get true y=some (.c (.iface t v)):=by(exact aJ)):XW P o σ (.iface t v)/\Q':=⟨bB9 aS hg hy,h⟩
theorem pG{next:AS->Prop}{ch:List PanicEntry}(h:Q (.panic ch) σ):cF next Q (.panic ch) σ:=h
theorem XY{id:Nat}{ch:List PanicEntry}(h:Q (.panic ch) σ):dB id Q (.panic ch) σ:=h
end
theorem nY{A B:Prop}(h:B)(w:bC B->A:=by
  (intro hB;(repeat (first|refine dI ?_|refine XU ?_|refine XV ?_|refine XX ?_|refine pG ?_|refine XY ?_|refine NQ ?_|refine lP ?_|refine GC ?_|refine iT ?_|refine oI ?_|refine ND ?_|refine NF ?_|refine NG ?_|refine NH ?_|refine NI ?_|refine NJ dE ?_|refine N3 ?_|refine N7 ?_|refine N8 ?_|refine N9 ?_|refine O9 ?_|refine OA ?_|refine OB ?_|refine OC ?_|refine OD ?_|refine OE ?_|refine NS ?_|refine zC ?_|refine O5 ?_|refine O6 ?_|refine O7 ?_|refine O8 ?_|refine O3 ?_|refine O4 ?_|refine IW ?_|refine NR ?_|refine FZ ?_|refine SY ?_|refine N6 ?_|refine N5 ?_|refine NO ?_|refine NP ?_|refine NT ?_|refine NY ?_|refine SZ ?_|refine NU ?_|refine O1 ?_|refine NZ ?_|refine NV ?_|refine NW ?_|refine OF ?_|refine OG ?_|refine OH ?_|refine O0 ?_));exact hB.out)):A:=w ⟨h⟩
end Go.AL
