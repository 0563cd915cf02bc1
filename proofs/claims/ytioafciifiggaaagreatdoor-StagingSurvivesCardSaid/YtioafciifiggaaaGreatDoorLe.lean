/- Staging. No condition. -/
import Derived.Test.YtioafciifiggaaaGreatDoorL0
import Derived.Test.YtioafciifiggaaaGreatDoorLc
import Derived.RecoverIn
set_option linter.all false
namespace Go.AL
theorem aL.{u}{α:Sort u}{a b:α}(w:a=b:=by(simp(maxSteps:=2000000) (disch:=omega) only[go_sem, *]<;>exact rfl)):a=b:=w
theorem jP{p:Prop}(w:p:=by(simp(maxSteps:=2000000) only[go_sem,jB,jC,false_implies,implies_true, *]<;>fail)):p:=w
theorem nY{p:Prop}(w:p:=by(simp(maxSteps:=2000000) (disch:=omega) only[go_sem, *]<;>fail)):p:=w
theorem cj3(k:Nat){P:Program}{n:FuncId}{fn:Func}{c:Code}{args:List AV}{Q:AV->Prop}(hf:P.funcs[n]? =some fn)(hb:fn.body=some c)(fI:(fn.name== "runtime.NumGoroutine")=false)(hlen:args.length<=fn.ntmps)
  (h:AW P c ⟨mB 0 args,⟨0,cV []⟩,fn.ntmps⟩ (hold (cH P fn.results.toList (hold (fun a H'=>bK (cR H'.get k a)/\Q (cR H'.get k a)) ⟨⟩)) ⟨⟩)):eU P n args Q:=by
 have hA:=FR hf hb fI hlen h;refine⟨hA.1,fun L W vs hL hr=> ?_⟩
 have mA:RH (fM L) W ⟨0,cV []⟩:=⟨fun id h=>h.elim,hL,fun id h=>h.elim,fun id b h=>by cases h⟩
 refine(hA.2 (fM L) W vs mA hr).mono fun e W' ⟨v,he,E',r,H',hv,hH,iF,eY,hq⟩=> ?_
 refine⟨v,he,cR H'.get k r,fun b=>if b<W.heap.size then L b else max (E'.L b) (match W'.heap[b]? with|some (.cells cur _ _)=>cur.size|_=>0),⟨hv.os,hv.tape,hv.output,hv.size,fun k hk=>hv.tZ k hk fun id h=>h.elim⟩,fun b bY=> ?_,fun b bY=> ?_,?_,eY,hq⟩
 ·simp[bY]
 ·have h1:¬b<W.heap.size:=by have:=hv.size;omega
  simp[h1,hH.core.lim b bY,O5 bY]
 ·refine NA hH.core (fun b=> ?_) (fun id hU cur e f hc=> ?_) k iF eY
  ·by_cases bY:b<W.heap.size
   ·rw[hv.still b bY fun id h=>h.elim]
    simp[bY,fM]
   ·simp[bY];omega
  ·have h1:¬E'.ι id<W.heap.size:=by
    rcases hv.fresh id (fun h=>h) hU with h2|⟨tH,h2,_⟩
    ·omega
    ·exact h2.elim
   simp[h1,hc];omega
set_option linter.constructorNameAsVariable false
theorem bG4{P:Program}{c:Code}{σ:AS}{Q:Exit->AS->Prop}(ids:List Nat)(h:AW P c ⟨σ.env,⟨σ.H.next,u9 σ.H.get ids⟩,σ.nt⟩ Q):AW P c σ Q:=fun ro E W act eN hr=>by
 obtain⟨L1,h1,h2,_⟩:=N9 (W:=W) ids hr.heap;have cZ:=hr.mono h1 h2;exact wpIn_mono (h ro _ W act eN cZ) fun e a w ⟨E',aK,h3,h4,h5,h6⟩=>⟨E',aK,(eE.of h1 rfl).trans h3,h4,h5,h6⟩
end Go.AL
namespace Go.AL
theorem tL.less{P:Program}{n:FuncId}{as bs:List AV}{a:AV}(h:tL P n bs a)(hw:C9 as bs):tL P n as a:=
 ⟨h.1,fun L W vs hL hr=>h.2 L W vs hL (hr.wk hw)⟩
theorem G7{P:Program}{n:FuncId}{fn:Func}{c:Code}{args:List AV}{e:TypeId}{k:Nat}{rows:List (List AV)}{rs:List ResultVar}{nt:Nat}(hf:P.funcs[n]? =some fn)(cM:fn.ntmps=nt)(ha:∀a∈args,bK a)(dB:∀row∈rows,∀x∈row,bK x)
  (h:AW P c ⟨mB 0 args,⟨0,cV []⟩,nt⟩ (hold (cH P rs (hold (fun a H'=>∃i,a= .own i 0 rows.length/\H'.get i=some (.cells e k rows true true)) ⟨⟩)) ⟨⟩))
  (hb:fn.body=some c:=by rfl) (hr:fn.results=List.toArray rs:=by rfl) (fI:(fn.name== "runtime.NumGoroutine")=false:=by kernel_rfl) (hlen:args.length<=nt:=by(simp only[dK,fJ];decide)):sC P n args e k rows:=by
 refine RQ ha dB hf hb fI (by rw[cM];exact hlen) ?_
 rw[cM,hr];exact h
theorem jC{rows:List (List AV)}{i o:Nat}:bK (.dD rows i o)↔∀row∈rows,∀x∈row,bK x:=⟨fun h=>by cases h;assumption,.dD rows i o⟩
theorem jB{f:Fn}{xs ys:List AV}:bK (.fn f xs ys)↔(∀x∈xs,bK x)/\∀x∈ys,bK x:=⟨fun h=>by cases h;exact⟨by assumption,by assumption⟩,fun h=> .fn f xs ys h.1 h.2⟩
theorem bI{P:Program}{n:FuncId}{fn:Func}{c:Code}{args:List AV}{b:AV}{rs:List ResultVar}{nt:Nat}(hf:P.funcs[n]? =some fn)(cM:fn.ntmps=nt)(eY:bK b)
  (h:AW P c ⟨mB 0 args,⟨0,cV []⟩,nt⟩ (hold (cH P rs (hold (fun a H'=>bK (HS H'.get a)/\Wk (HS H'.get a) b) ⟨⟩)) ⟨⟩))
  (hb:fn.body=some c:=by(first|rfl|fail)) (hr:fn.results=List.toArray rs:=by(first|rfl|fail)) (fI:(fn.name== "runtime.NumGoroutine")=false:=by(first|kernel_rfl|fail)) (hlen:args.length<=nt:=by(simp only[dK,fJ];decide)):eU P n args (·=b):=by
 refine eU.wk ?_ eY;refine bX7 hf hb fI (by rw[cM];exact hlen) ?_
 rw[cM,hr];exact h
theorem BI{P:Program}{n:FuncId}{fn:Func}{c:Code}{args:List AV}{b:AV}{rs:List ResultVar}{nt:Nat}(hf:P.funcs[n]? =some fn)(cM:fn.ntmps=nt)(eY:bK b)
  (h:AW P c ⟨mB 0 args,⟨0,cV []⟩,nt⟩ (hold (cH P rs (hold (fun a H'=>bK (cR H'.get 4 a)/\Wk (cR H'.get 4 a) b) ⟨⟩)) ⟨⟩))
  (hb:fn.body=some c:=by(first|rfl|fail)) (hr:fn.results=List.toArray rs:=by(first|rfl|fail)) (fI:(fn.name== "runtime.NumGoroutine")=false:=by(first|kernel_rfl|fail)) (hlen:args.length<=nt:=by(simp only[dK,fJ];decide)):eU P n args (·=b):=by
 refine eU.wk ?_ eY;refine cj3 4 hf hb fI (by rw[cM];exact hlen) ?_
 rw[cM,hr];exact h
theorem SC{Q:Exit->AS->Prop}{σ:AS}(h:Q .ret σ):Pv Q .ret σ:=h
theorem SE{Q:Exit->AS->Prop}{σ:AS}(h:Q .normal σ):Pv Q .normal σ:=h
section
variable {P : Program} {σ : AS} {Q : Exit -> AS -> Prop}
theorem DX{id:Nat}{ops:Array Oper}{p:AS×List Oper}(h:b9 P true ops p.2 p.1 (Q .normal))(hd:ops.toList.all (fY σ.nt)=true:=by(first|rfl|fail))
  (hr:run P ops.toList ops.toList σ=p:=by(exact aL)):AW P (.region id ops false) σ Q:=ay8 hd hr h
theorem SF{c:Operand}{x y:Code}(h:AW P x σ Q)(hc:kU (σ.get true c)=some true:=by(first|exact nY|fail)):AW P (.cond c x y) σ Q:=bX8 hc h
theorem SG{c:Operand}{x y:Code}(h:AW P y σ Q)(hc:kU (σ.get true c)=some false:=by(first|exact nY|fail)):AW P (.cond c x y) σ Q:=bX9 hc h
theorem Uf{c:Operand}{x y:Code}{b:Bool}(ht:b=true->AW P x σ Q)(hf:b=false->AW P y σ Q)(hc:kU (σ.get true c)=some b:=by(exact aL)):AW P (.cond c x y) σ Q:=cd6 hc ht hf
theorem SH{rs:List ResultVar}{Q:AV->Heap->Prop}{a:AV}(h:Q a σ.H)(ho:jY P σ rs=some a:=by(exact aL)):cH P rs Q .ret σ:=cd7 ho h
theorem SI{rs:List ResultVar}{Q:AV->Heap->Prop}{a:AV}(h:Q a σ.H)(ho:jY P σ rs=some a:=by(exact aL)):cH P rs Q .normal σ:=cd8 ho h
section
variable {ops : List Oper} {N0 i : Nat} {o : Oper} {r : List Oper} {eA : AS} {es : List Entry} {f : Operand} {as : Array Operand} {ts : Array TypeId} {n : FuncId}
theorem eO{l:List Oper}{p:List Entry×AS×Nat×List Oper}(hr:K4 P ops N0 i l σ=p)(h:gP P ops N0 p.2.2.1 p.2.2.2 p.2.1 es eA):gP P ops N0 i l σ (p.1++es) eA:=aB2 hr h
theorem NO{args:List AV}{a:AV}(aO:o.op= .call ⟨.value f,as,ts⟩)(hg:o.guard=none)
  (hc:fZ (σ.get true f) (dZ (σ.get true) as.toList)=some (n,args)) (hp:eU P n args (·=a)) (hn:∀a∈args,bK a) (h:gP P ops N0 (i+1) r (σ.app o.dst ⟨true,a,[],[]⟩) es eA):gP P ops N0 i (o::r) σ (⟨true,a,[],[]⟩::es) eA:=ci3 aO hg hp hc hn h
theorem NP{j:Nat}{want:Bool}(hg:o.guard=some (j,want))(hw:qL (pT ops j σ.env) want=some false)(h:gP P ops N0 (i+1) r (σ.app o.dst ⟨false,.c (.bool false),[],[]⟩) es eA):gP P ops N0 i (o::r) σ (⟨false,.c (.bool false),[],[]⟩::es) eA:=
 .cons i o r σ _ es eA (.skip (by unfold mZ;rw[hg];exact hw) rfl rfl) h
theorem NQ{args:List AV}{a:AV}{j:Nat}{want c:Bool}(aO:o.op= .call ⟨.value f,as,ts⟩)(hg:o.guard=some (j,want))
  (hw:qL (pT ops j σ.env) want=some c) (hc:fZ (σ.get c f) (dZ (σ.get c) as.toList)=some (n,args)) (hp:eU P n args (·=a)) (hn:∀a∈args,bK a) (h:gP P ops N0 (i+1) r (σ.app o.dst ⟨c,a,[],[]⟩) es eA):gP P ops N0 i (o::r) σ (⟨c,a,[],[]⟩::es) eA:=ci4 aO hg hw hp hc hn h
theorem NR{cA args:List AV}{a:AV}{rd:List Nat}(aO:o.op= .call ⟨.value f,as,ts⟩)(hg:o.guard=none)(hc:fZ (σ.get true f) (dZ (σ.get true) as.toList)=some (n,cA))(he:cA.map (cR σ.H.get 3)=args)(dS:cA.flatMap (gZ σ.H.get 3)=rd)(hp:tL P n args a)(hn:∀a∈args,bK a)
  (h:gP P ops N0 (i+1) r (σ.app o.dst ⟨true,a,[],rd⟩) es eA):gP P ops N0 i (o::r) σ (⟨true,a,[],rd⟩::es) eA:=
 .cons i o r σ _ es eA (.S7 f as ts n cA args 3 aO (by unfold mZ;rw[hg]) rfl hc he hn hp rfl fun x hx id aB=>by rw[<-dS];exact tJ.2 ⟨x,hx,aB⟩) h
theorem NS{cA args:List AV}{a:AV}{rd:List Nat}{j:Nat}{want:Bool}(aO:o.op= .call ⟨.value f,as,ts⟩)(hg:o.guard=some (j,want))(hw:qL (pT ops j σ.env) want=some true)(hc:fZ (σ.get true f) (dZ (σ.get true) as.toList)=some (n,cA))(he:cA.map (cR σ.H.get 3)=args)(dS:cA.flatMap (gZ σ.H.get 3)=rd)(hp:tL P n args a)(hn:∀a∈args,bK a)
  (h:gP P ops N0 (i+1) r (σ.app o.dst ⟨true,a,[],rd⟩) es eA):gP P ops N0 i (o::r) σ (⟨true,a,[],rd⟩::es) eA:=
 .cons i o r σ _ es eA (.S7 f as ts n cA args 3 aO (by unfold mZ;rw[hg];exact hw) rfl hc he hn hp rfl fun x hx id aB=>by rw[<-dS];exact tJ.2 ⟨x,hx,aB⟩) h
end
theorem SJ{aK:AS}{id:Nat}{ops:Array Oper}{es:List Entry}(h:Q .normal aK)(hm:P.follows .mixedOrders=true:=by(first|kernel_rfl|fail))(hs:CJ ops=true:=by(first|kernel_rfl|fail))(hd:ops.toList.all (fY σ.nt)=true:=by(first|rfl|fail))
  (hr:gP P ops.toList σ.H.next 0 ops.toList {σ with H:=⟨σ.H.next+ops.size,σ.H.get⟩} es aK:=by(first|(apply eO;(next=>(exact aL));(repeat (first|exact NJ|(apply NP;(next=>(first|rfl|fail));(next=>(exact aL));apply eO;(next=>(exact aL)))|(apply NO;(next=>(first|rfl|fail));(next=>(first|rfl|fail));(next=>(exact aL));(next=>(first|assumption|(apply_assumption<;>first|assumption|omega)|fail));(next=>(first|exact jP|(simp[fQ,eV,fC,fN,jB,jC,jA, *];done)|fail));apply eO;(next=>(exact aL)))|(apply NQ;(next=>(first|rfl|fail));(next=>(first|rfl|fail));(next=>(exact aL));(next=>(exact aL));(next=>(first|assumption|(apply_assumption<;>first|assumption|omega)|fail));(next=>(first|exact jP|(simp[fQ,eV,fC,fN,jB,jC,jA, *];done)|fail));apply eO;(next=>(exact aL)))|(apply NR;(next=>(first|rfl|fail));(next=>(first|rfl|fail));(next=>(exact aL));(next=>(exact aL));(next=>(exact aL));(next=>(first|assumption|(apply_assumption<;>first|assumption|omega)|fail));(next=>(first|exact jP|(simp[fQ,eV,fC,fN,jB,jC,jA, *];done)|fail));apply eO;(next=>(exact aL)))|(apply NS;(next=>(first|rfl|fail));(next=>(first|rfl|fail));(next=>(exact aL));(next=>(exact aL));(next=>(exact aL));(next=>(exact aL));(next=>(first|assumption|(apply_assumption<;>first|assumption|omega)|fail));(next=>(first|exact jP|(simp[fQ,eV,fC,fN,jB,jC,jA, *];done)|fail));apply eO;(next=>(exact aL))))))|fail))
  (uB:zK (tab ops.toList) 0 [] es=true:=by(first|(simp(maxSteps:=2000000) (disch:=omega) only[go_sem,N5,N6, *]<;>kernel_rfl)|fail)):AW P (.region id ops true) σ Q:=YO hm hs hd hr uB h
end
section
variable {P : Program} {σ : AS} {Q : Exit -> AS -> Prop}
theorem SK{ops:Array Oper}{o:Oper}{rest:List Oper}{K:AS->Prop}{f:Operand}{as:Array Operand}{ts:Array TypeId}{n:FuncId}{args:List AV}{r:AV}{p:AS×List Oper}(h:b9 P true ops p.2 p.1 K)(aO:o.op= .call ⟨.value f,as,ts⟩:=by(first|rfl|fail))(hg:o.guard=none:=by(first|rfl|fail))
  (hc:fZ (σ.get true f) (dZ (σ.get true) as.toList)=some (n,args):=by(exact aL)) (hp:eU P n args (·=r):=by(first|assumption|(apply_assumption<;>first|assumption|omega)|fail)) (hn:∀a∈args,bK a:=by(first|exact jP|(simp[fQ,eV,fC,fN,jB,jC,jA, *];done)|fail))
  (hr:run P ops.toList rest (σ.put o.dst true r)=p:=by(exact aL)):b9 P true ops (o::rest) σ K:=cd9 aO hg hp hc hn hr h
theorem tL.act{n:FuncId}{cA args:List AV}{a:AV}{H:Heap}(k:Nat)(h:tL P n args a)(he:cA.map (cR H.get k)=args)(ha:∀a∈args,bK a):fU P n cA H fun r H'=>r=a/\H'=H:=
 ⟨h.1,fun E W vs hH hr=>(h.az1 k he ha hH hH.core hr).mono fun e W' ⟨v,vV,L',h1,h2,h3⟩=>⟨v,vV,_,a,H,h1,h2,h3,rfl,rfl⟩⟩
theorem SL{ops:Array Oper}{o:Oper}{rest:List Oper}{K:AS->Prop}{f:Operand}{as:Array Operand}{ts:Array TypeId}{n:FuncId}{cA args:List AV}{r:AV}{p:AS×List Oper}(h:b9 P true ops p.2 p.1 K)(aO:o.op= .call ⟨.value f,as,ts⟩:=by(first|rfl|fail))(hg:o.guard=none:=by(first|rfl|fail))
  (hc:fZ (σ.get true f) (dZ (σ.get true) as.toList)=some (n,cA):=by(exact aL)) (he:cA.map (cR σ.H.get 3)=args:=by(exact aL)) (hp:tL P n args r:=by(first|assumption|(apply_assumption<;>first|assumption|omega)|fail)) (hn:∀a∈args,bK a:=by(first|exact jP|(simp[fQ,eV,fC,fN,jB,jC,jA, *];done)|fail))
  (hr:run P ops.toList rest (σ.put o.dst true r)=p:=by(exact aL)):b9 P true ops (o::rest) σ K:=
 EK aO hg hc (hp.act 3 he hn) fun r' H' ⟨h1,h2⟩=>by subst h1;subst h2;exact pI _ _ hr h
theorem SM{ops:Array Oper}{o:Oper}{rest:List Oper}{K:AS->Prop}{f:Operand}{as:Array Operand}{ts:Array TypeId}{n:FuncId}{cA args:List AV}{r:AV}{G':Nat->Option aI}{p:AS×List Oper}(h:b9 P true ops p.2 p.1 K)(aO:o.op= .call ⟨.value f,as,ts⟩:=by(first|rfl|fail))(hg:o.guard=none:=by(first|rfl|fail))
  (hc:fZ (σ.get true f) (dZ (σ.get true) as.toList)=some (n,cA):=by(exact aL)) (he:cA.map (o0 σ.H.get)=args:=by(exact aL)) (hp:eU P n args (·=r):=by(first|assumption|(apply_assumption<;>first|assumption|omega)|fail)) (hn:∀a∈args,bK a:=by(first|exact jP|(simp[fQ,eV,fC,fN,jB,jC,jA, *];done)|fail))
  (hG:u9 σ.H.get (mC nD cA)=G':=by(exact aL)) (hr:run P ops.toList rest (({σ with H:=⟨σ.H.next,G'⟩}:AS).put o.dst true r)=p:=by(exact aL)):b9 P true ops (o::rest) σ K:=bY5 aO hg hp hc he hn hG hr h
theorem SN{ops:Array Oper}{o:Oper}{rest:List Oper}{K:AS->Prop}{f:Operand}{as:Array Operand}{ts:Array TypeId}{n:FuncId}{cA args:List AV}{r:AV}{G':Nat->Option aI}{p:AS×List Oper}{j:Nat}{want:Bool}(h:b9 P true ops p.2 p.1 K)(aO:o.op= .call ⟨.value f,as,ts⟩:=by(first|rfl|fail))(hg:o.guard=some (j,want):=by(first|rfl|fail))
  (hw:qL (pT ops.toList j σ.env) want=some true:=by(exact aL))
  (hc:fZ (σ.get true f) (dZ (σ.get true) as.toList)=some (n,cA):=by(exact aL)) (he:cA.map (o0 σ.H.get)=args:=by(exact aL)) (hp:eU P n args (·=r):=by(first|assumption|(apply_assumption<;>first|assumption|omega)|fail)) (hn:∀a∈args,bK a:=by(first|exact jP|(simp[fQ,eV,fC,fN,jB,jC,jA, *];done)|fail))
  (hG:u9 σ.H.get (mC nD cA)=G':=by(exact aL)) (hr:run P ops.toList rest (({σ with H:=⟨σ.H.next,G'⟩}:AS).put o.dst true r)=p:=by(exact aL)):b9 P true ops (o::rest) σ K:=bY6 aO hg hp hw hc he hn hG hr h
theorem SO{ops:Array Oper}{o:Oper}{rest:List Oper}{K:AS->Prop}{f:Operand}{as:Array Operand}{ts:Array TypeId}{n:FuncId}{args:List AV}{el:TypeId}{k:Nat}{rows:List (List AV)}{p:AS×List Oper}(h:b9 P true ops p.2 p.1 K)(aO:o.op= .call ⟨.value f,as,ts⟩:=by(first|rfl|fail))(hg:o.guard=none:=by(first|rfl|fail))
  (hc:fZ (σ.get true f) (dZ (σ.get true) as.toList)=some (n,args):=by(exact aL)) (hp:sC P n args el k rows:=by(first|assumption|(apply_assumption<;>first|assumption|omega)|fail))
  (hr:run P ops.toList rest (({σ with H:=⟨σ.H.next+1,aX σ.H.get [(σ.H.next,some (.cells el k rows true true))]⟩}:AS).put o.dst true (.own σ.H.next 0 rows.length))=p:=by(exact aL)):b9 P true ops (o::rest) σ K:=bZ6 aO hg hp hc hr h
theorem SP{ops:Array Oper}{o:Oper}{rest:List Oper}{K:AS->Prop}{f:Operand}{as:Array Operand}{ts:Array TypeId}{n:FuncId}{args:List AV}{r:AV}{p:AS×List Oper}{j:Nat}{want c:Bool}(h:b9 P true ops p.2 p.1 K)(aO:o.op= .call ⟨.value f,as,ts⟩:=by(first|rfl|fail))(hg:o.guard=some (j,want):=by(first|rfl|fail))
  (hw:qL (pT ops.toList j σ.env) want=some c:=by(exact aL)) (hc:fZ (σ.get c f) (dZ (σ.get c) as.toList)=some (n,args):=by(exact aL)) (hp:eU P n args (·=r):=by(first|assumption|(apply_assumption<;>first|assumption|omega)|fail)) (hn:∀a∈args,bK a:=by(first|exact jP|(simp[fQ,eV,fC,fN,jB,jC,jA, *];done)|fail)) (hr:run P ops.toList rest (σ.put o.dst c r)=p:=by(exact aL)):b9 P true ops (o::rest) σ K:=ce0 aO hg hw hp hc hn hr h
theorem MA{ops:Array Oper}{l:List Oper}{K:AS->Prop}{p:AS×List Oper}(h:b9 P true ops p.2 p.1 K)(hr:run P ops.toList l σ=p:=by(exact aL))(bG:Nat.blt p.2.length l.length=true:=by(first|rfl|fail)):b9 P true ops l σ K:=pI _ _ hr h
theorem kA{ops:Array Oper}{o:Oper}{rest:List Oper}{K:AS->Prop}{f:Operand}{as:Array Operand}{ts:Array TypeId}{n:FuncId}{fn:Func}{c:Code}{args:List AV}{nt:Nat}{rs:List ResultVar}(hf:P.funcs[n]? =some fn)(cM:fn.ntmps=nt)
  (h:AW P c ⟨mB 0 args,σ.H,nt⟩ (hold (cH P rs (hold (fun a H'=>b9 P true ops rest (({σ with H:=H'}:AS).put o.dst true a) K) ⟨⟩)) ⟨⟩))
  (aO:o.op= .call ⟨.value f,as,ts⟩:=by(first|rfl|fail)) (hg:o.guard=none:=by(first|rfl|fail)) (hc:fZ (σ.get true f) (dZ (σ.get true) as.toList)=some (n,args):=by(exact aL))
  (hb:fn.body=some c:=by rfl) (hr:fn.results=List.toArray rs:=by rfl) (fI:(fn.name== "runtime.NumGoroutine")=false:=by kernel_rfl) (hlen:args.length<=nt:=by(simp only[dK,fJ];decide)):b9 P true ops (o::rest) σ K:=
 bZ7 hf hb fI cM aO hg hc hlen (by rw[hr];exact h)
theorem uF.act{n:FuncId}{cA args:List AV}{a:AV}{el:TypeId}{k:Nat}{rows:List (List AV)}{ap:Bool}{H:Heap}(kk:Nat)(h:uF P n args a el k rows ap)(he:cA.map (cR H.get kk)=args)(ha:∀a∈args,bK a):fU P n cA H fun r H'=>r=qS H.next a/\H'=⟨H.next+1,aX H.get [(H.next,some (.cells el k rows true ap))]⟩:=
 ⟨h.1,fun E W vs hH hr=>(h.run kk he ha (fun hU=>KE _ (hH.next _ hU)) hH hH.core hr).mono fun e W' ⟨v,vV,E',h1,h2,h3,h4⟩=>⟨v,vV,E',_,_,h1,⟨fun id aB=>by
   rcases h4 id aB with h5|h5
   ·exact TM (hH.next id h5)
   ·subst h5;exact G3 _,h2⟩,h3,rfl,rfl⟩⟩
theorem SQ{ops:Array Oper}{o:Oper}{rest:List Oper}{K:AS->Prop}{f:Operand}{as:Array Operand}{ts:Array TypeId}{n:FuncId}{cA args:List AV}{a:AV}{el:TypeId}{k:Nat}{rows:List (List AV)}{ap:Bool}{p:AS×List Oper}(h:b9 P true ops p.2 p.1 K)(aO:o.op= .call ⟨.value f,as,ts⟩:=by(first|rfl|fail))(hg:o.guard=none:=by(first|rfl|fail))
  (hc:fZ (σ.get true f) (dZ (σ.get true) as.toList)=some (n,cA):=by(exact aL)) (he:cA.map (cR σ.H.get 3)=args:=by(exact aL)) (hp:uF P n args a el k rows ap:=by(first|assumption|(apply_assumption<;>first|assumption|omega)|fail)) (hn:∀a∈args,bK a:=by(first|exact jP|(simp[fQ,eV,fC,fN,jB,jC,jA, *];done)|fail))
  (hr:run P ops.toList rest (({σ with H:=⟨σ.H.next+1,aX σ.H.get [(σ.H.next,some (.cells el k rows true ap))]⟩}:AS).put o.dst true (qS σ.H.next a))=p:=by(exact aL)):b9 P true ops (o::rest) σ K:=
 EK aO hg hc (hp.act 3 he hn) fun r' H' ⟨h1,h2⟩=>by subst h1;subst h2;exact pI _ _ hr h
theorem cj4{G:Nat->Option aI}{kk j:Nat}{v:Value}:FT G kk j (.c v)=some (.c v):=by
 cases kk<;>simp[FT,fresh,kB,cR,zJ,gZ]
theorem aC9{G:Nat->Option aI}{kk j:Nat}:∀{r:List AV},(∀x∈r,∃v,x= .c v)->K0 G kk j r=some r
 |[],_=>rfl
 |x::r,h=>by
  obtain⟨v,rfl⟩:=h x (by simp)
  simp only[K0,cj4,aC9 (r:=r) fun y hy=>h y (by simp[hy])]
theorem aD0{G:Nat->Option aI}{kk j:Nat}:∀{rows:List (List AV)},(∀r∈rows,∀x∈r,∃v,x= .c v)->NG G kk j rows=some rows
 |[],_=>rfl
 |r::rows,h=>by simp only[NG,aC9 (h r (by simp)),aD0 (rows:=rows) fun y hy=>h y (by simp[hy])]
theorem TW{n:FuncId}{fn:Func}{c:Code}{args:List AV}{e:TypeId}{k:Nat}{rows:List (List AV)}{rs:List ResultVar}{nt:Nat}(hf:P.funcs[n]? =some fn)(cM:fn.ntmps=nt)(dB:∀row∈rows,∀x∈row,∃v,x= .c v)
  (h:AW P c ⟨mB 0 args,⟨0,cV []⟩,nt⟩ (hold (cH P rs (hold (fun a H'=>∃i,a= .own i 0 rows.length/\H'.get i=some (.cells e k rows true true)) ⟨⟩)) ⟨⟩))
  (hb:fn.body=some c:=by rfl) (hr:fn.results=List.toArray rs:=by rfl) (fI:(fn.name== "runtime.NumGoroutine")=false:=by kernel_rfl) (hlen:args.length<=nt:=by(simp only[dK,fJ];decide)):uF P n args (.own 0 0 rows.length) e k rows true:=by
 have hl:args.length<=fn.ntmps:=by rw[cM];exact hlen
 refine ch1 (f:=⟨.own 0 0 rows.length,e,k,rows,true⟩) 8 hf hb fI hl ((FR (Q:=fun a H'=>∃i,a= .own i 0 rows.length/\H'.get i=some (.cells e k rows true true)) hf hb fI hl (by rw[cM,hr];exact h)).mono fun r H' ⟨i,h1,h2⟩=> ?_)
 subst h1;simp only[Qr,az5,h2,Qq,aD0 dB,Ey,JZ,Nat.beq_refl,cond]
theorem uF.nil{n:FuncId}{pre post:List AV}{a:AV}{el:TypeId}{k:Nat}{rows:List (List AV)}{ap:Bool}(h:∀b cap,uF P n (pre++ .c (.slice b 0 cap)::post) a el k rows ap):uF P n (pre++ .snap []::post) a el k rows ap:=
 ⟨(h none 0).1,fun L W vs hL hr=>let ⟨b,cap,hx⟩:=Qa hr;(h b cap).2 L W vs hL hx⟩
theorem aK7{c:Operand}{x y z:Code}{Q2:Exit->AS->Prop}(env:List (Nat×Bool×AV))(m:Nat)(T:List (Nat×Option aI))(h1:AW P (.cond c x y) σ (fun e aK=>e= .normal/\Holds aK env ⟨m,cV T⟩))(h2:AW P z ⟨env,⟨m,cV T⟩,σ.nt⟩ Q2):AW P (.cond c x y) σ (dR (fun aK=>AW P z aK Q2) Q):=fun ro E0 W act eN hr=>
 wpIn_mono (h1 ro E0 W act eN hr) fun e a w ⟨E',aK,h3,h4,h5,h6,h7⟩=>by
  subst h6;exact⟨E',aK,h3,h4,h5,BG h7 (by rw[h5];exact h2)⟩
theorem Gm{n:FuncId}{fn:Func}{c:Code}{args:List AV}{H:Heap}{R:AV->Heap->Prop}{rs:List ResultVar}{nt:Nat}(hf:P.funcs[n]? =some fn)(cM:fn.ntmps=nt)
  (h:AW P c ⟨mB 0 args,H,nt⟩ (hold (cH P rs (hold R ⟨⟩)) ⟨⟩))
  (hb:fn.body=some c:=by rfl) (hr:fn.results=List.toArray rs:=by rfl) (fI:(fn.name== "runtime.NumGoroutine")=false:=by kernel_rfl) (hlen:args.length<=nt:=by(simp only[dK,fJ];decide)):fU P n args H R:=by
 refine FR hf hb fI (by rw[cM];exact hlen) ?_
 rw[cM,hr];exact h
theorem KK{α:Type}{c:Code}(E:α->List (Nat×Bool×AV))(T:α->List (Nat×Option aI))(R:Nat->α->Prop)(μ:α->Nat)(a0:α)(h0:∃m,R m a0/\Holds σ (E a0) ⟨m,cV (T a0)⟩)
  (hk:∀m a,R m a->AW P c ⟨E a,⟨m,cV (T a)⟩,σ.nt⟩ (dR (fun aK=>∃m' a',μ a'<μ a/\R m' a'/\Holds aK (E a') ⟨m',cV (T a')⟩) Q)):AW P (.loop c) σ Q:=by
 obtain⟨m,hR,hh⟩:=h0;refine UR (fun n env H=>∃m a,n=μ a/\R m a/\env=E a/\H=⟨m,cV (T a)⟩) (μ a0) ⟨_,_,⟨m,a0,rfl,hR,rfl,rfl⟩,hh⟩ ?_
 rintro n env H ⟨m,a,rfl,NT,rfl,rfl⟩;have h1:=hk m a NT;intro ro E0 W act eN cC;refine wpIn_mono (h1 ro E0 W act eN cC) fun e a' w ⟨E',aK,h2,h3,h4,h5⟩=>⟨E',aK,h2,h3,h4,?_⟩
 cases e with
 |normal=>
  obtain⟨m',SR,h8,h6,h7⟩:=h5;exact⟨μ SR,h8,_,_,⟨m',SR,rfl,h6,rfl,rfl⟩,h7⟩
 |_=>exact h5
structure K5{α:Type}(a b:α):Type where
 out:a=b
theorem OI{g:Operand}{ps:Array Tmp}{assign body:Code}{n:FuncId}{fn:Func}{c:Code}{first cap:List AV}{nt:Nat}{args:List AV}{rs:List ResultVar}(hf:P.funcs[n]? =some fn)(cM:fn.ntmps=nt)
  (h:∀R A B,K5 R σ.env->K5 A assign->K5 B body->AW P c ⟨mB 0 args,jX ⟨σ.H.next+1,σ.H.get⟩ σ.H.next (some (.cO R σ.nt ps.toList A B .ready none)),nt⟩
    (hold (cH P rs (hold (fun _ H'=>vB σ.H.next R σ.nt ps.toList A B (hold (fun e H2=>Q e ({σ with H:=H2}:AS)) ⟨⟩) H') ⟨⟩)) ⟨⟩))
  (hg:σ.get true g=some (.fn (.func n) first cap):=by(exact aL)) (ha:first++[AV.kH σ.H.next]++cap=args:=by(exact aL))
  (hb:fn.body=some c:=by rfl) (hr:fn.results=List.toArray rs:=by rfl) (fI:(fn.name== "runtime.NumGoroutine")=false:=by kernel_rfl) (hlen:args.length<=nt:=by(simp only[dK,fJ];decide)):AW P (.rangeFunc g ps assign body) σ Q:=
 cc1 hf hb fI cM hg ha hlen fun R A B hR hA hB=>by rw[hr];exact h R A B ⟨hR⟩ ⟨hA⟩ ⟨hB⟩
theorem SS{ops:Array Oper}{o:Oper}{rest:List Oper}{K:AS->Prop}{f:Operand}{as:Array Operand}{ts:Array TypeId}{id:Nat}{args:List AV}{env E7:List (Nat×Bool×AV)}{nt:Nat}{ps:List Tmp}{A A' B:Code}
  (h:AW P A' ⟨FN ps args E7,σ.H,nt⟩ (hold (MY P id env nt ps A B (hold (fun b H'=>b9 P true ops rest (({σ with H:=H'}:AS).put o.dst true (.c (.bool b))) K) ⟨⟩)) ⟨⟩))
  (aO:o.op= .call ⟨.value f,as,ts⟩:=by(first|rfl|fail)) (hg:o.guard=none:=by(first|rfl|fail)) (hf:σ.get true f=some (.kH id):=by(exact aL)) (ha:dZ (σ.get true) as.toList=some args:=by(exact aL)) (hr:σ.H.get id=some (.cO env nt ps A B .ready none):=by(exact aL))
  (he:K5 env E7:=by(first|assumption|fail)) (hA:K5 A A':=by(first|assumption|fail)) (hl:args.length=ps.length:=by(first|rfl|fail)) (pM:ps.all (fun p=>decide (p<nt))=true:=by(first|rfl|fail)):b9 P true ops (o::rest) σ K:=cb5 aO hg he.out hA.out hf ha hr hl pM h
theorem SU{ops:Array Oper}{o:Oper}{rest:List Oper}{K:AS->Prop}{f:Operand}{as:Array Operand}{ts:Array TypeId}{id:Nat}{args:List AV}{env E7:List (Nat×Bool×AV)}{nt:Nat}{ps:List Tmp}{A A' B:Code}{j:Nat}{want:Bool}
  (h:AW P A' ⟨FN ps args E7,σ.H,nt⟩ (hold (MY P id env nt ps A B (hold (fun b H'=>b9 P true ops rest (({σ with H:=H'}:AS).put o.dst true (.c (.bool b))) K) ⟨⟩)) ⟨⟩))
  (aO:o.op= .call ⟨.value f,as,ts⟩:=by(first|rfl|fail)) (hg:o.guard=some (j,want):=by(first|rfl|fail)) (hw:qL (pT ops.toList j σ.env) want=some true:=by(exact aL)) (hf:σ.get true f=some (.kH id):=by(exact aL)) (ha:dZ (σ.get true) as.toList=some args:=by(exact aL)) (hr:σ.H.get id=some (.cO env nt ps A B .ready none):=by(exact aL))
  (he:K5 env E7:=by(first|assumption|fail)) (hA:K5 A A':=by(first|assumption|fail)) (hl:args.length=ps.length:=by(first|rfl|fail)) (pM:ps.all (fun p=>decide (p<nt))=true:=by(first|rfl|fail)):b9 P true ops (o::rest) σ K:=cb6 aO hg he.out hA.out hw hf ha hr hl pM h
theorem SV{id:Nat}{env:List (Nat×Bool×AV)}{nt:Nat}{ps:List Tmp}{A B B':Code}{K:Bool->Heap->Prop}(h:AW P B' ⟨σ.env,jX σ.H id (some (.cO env nt ps A B .busy none)),σ.nt⟩ (hold (HQ id env nt ps A B K) ⟨⟩))
  (hB:K5 B B':=by(first|assumption|fail)) (hg:σ.H.get id=some (.cO env nt ps A B .ready none):=by(first|rfl|exact nY|(simp(maxSteps:=2000000) (disch:=omega) only[go_sem, *]<;>rfl)|fail)):MY P id env nt ps A B K .normal σ:=cb7 hB.out hg h
section
variable {id : Nat} {env : List (Nat × Bool × AV)} {nt : Nat} {ps : List Tmp} {A B : Code} {ops : Array Oper} {rest : List Oper} {σ0 : AS} {dst : Option Tmp} {K : AS -> Prop} {p : AS × List Oper}
theorem SW(h:b9 P true ops p.2 p.1 K)(hg:σ.H.get id=some (.cO env nt ps A B .busy none):=by(first|rfl|exact nY|(simp(maxSteps:=2000000) (disch:=omega) only[go_sem, *]<;>rfl)|fail))(hr:run P ops.toList rest (({σ0 with H:=jX σ.H id (some (.cO env nt ps A B .ready none))}:AS).put dst true (.c (.bool true)))=p:=by(exact aL)):
  HQ id env nt ps A B (hold (fun b H'=>b9 P true ops rest (({σ0 with H:=H'}:AS).put dst true (.c (.bool b))) K) ⟨⟩) .normal σ:=cb8 hg hr h
theorem SX(h:b9 P true ops p.2 p.1 K)(hg:σ.H.get id=some (.cO env nt ps A B .busy none):=by(first|rfl|exact nY|(simp(maxSteps:=2000000) (disch:=omega) only[go_sem, *]<;>rfl)|fail))(hr:run P ops.toList rest (({σ0 with H:=jX σ.H id (some (.cO env nt ps A B .done (some .ret)))}:AS).put dst true (.c (.bool false)))=p:=by(exact aL)):
  HQ id env nt ps A B (hold (fun b H'=>b9 P true ops rest (({σ0 with H:=H'}:AS).put dst true (.c (.bool b))) K) ⟨⟩) .ret σ:=cb9 hg hr h
theorem SY{i:Nat}(h:b9 P true ops p.2 p.1 K)(hg:σ.H.get id=some (.cO env nt ps A B .busy none):=by(first|rfl|exact nY|(simp(maxSteps:=2000000) (disch:=omega) only[go_sem, *]<;>rfl)|fail))(hr:run P ops.toList rest (({σ0 with H:=jX σ.H id (some (.cO env nt ps A B .done (some (.exit i))))}:AS).put dst true (.c (.bool false)))=p:=by(exact aL)):
  HQ id env nt ps A B (hold (fun b H'=>b9 P true ops rest (({σ0 with H:=H'}:AS).put dst true (.c (.bool b))) K) ⟨⟩) (.exit i) σ:=cc0 hg hr h
end
section
variable {rs : List ResultVar} {a : AV} {id : Nat} {env : List (Nat × Bool × AV)} {nt : Nat} {ps : List Tmp} {A B : Code} {σ0 : AS}
theorem SZ(h:Q .normal ({σ0 with H:=jX σ.H id none}:AS))(ho:jY P σ rs=some a:=by(exact aL))(hg:σ.H.get id=some (.cO env nt ps A B .ready none):=by(first|rfl|exact nY|(simp(maxSteps:=2000000) (disch:=omega) only[go_sem, *]<;>rfl)|fail)):
  cH P rs (hold (fun _ H'=>vB id env nt ps A B (hold (fun e H2=>Q e ({σ0 with H:=H2}:AS)) ⟨⟩) H') ⟨⟩) .normal σ:=cc2 ho hg h
theorem T0(h:Q .normal ({σ0 with H:=jX σ.H id none}:AS))(ho:jY P σ rs=some a:=by(exact aL))(hg:σ.H.get id=some (.cO env nt ps A B .ready none):=by(first|rfl|exact nY|(simp(maxSteps:=2000000) (disch:=omega) only[go_sem, *]<;>rfl)|fail)):
  cH P rs (hold (fun _ H'=>vB id env nt ps A B (hold (fun e H2=>Q e ({σ0 with H:=H2}:AS)) ⟨⟩) H') ⟨⟩) .ret σ:=cc3 ho hg h
theorem T1(h:Q .ret ({σ0 with H:=jX σ.H id none}:AS))(ho:jY P σ rs=some a:=by(exact aL))(hg:σ.H.get id=some (.cO env nt ps A B .done (some .ret)):=by(first|rfl|exact nY|(simp(maxSteps:=2000000) (disch:=omega) only[go_sem, *]<;>rfl)|fail)):
  cH P rs (hold (fun _ H'=>vB id env nt ps A B (hold (fun e H2=>Q e ({σ0 with H:=H2}:AS)) ⟨⟩) H') ⟨⟩) .normal σ:=cc4 ho hg h
theorem T4(h:Q .ret ({σ0 with H:=jX σ.H id none}:AS))(ho:jY P σ rs=some a:=by(exact aL))(hg:σ.H.get id=some (.cO env nt ps A B .done (some .ret)):=by(first|rfl|exact nY|(simp(maxSteps:=2000000) (disch:=omega) only[go_sem, *]<;>rfl)|fail)):
  cH P rs (hold (fun _ H'=>vB id env nt ps A B (hold (fun e H2=>Q e ({σ0 with H:=H2}:AS)) ⟨⟩) H') ⟨⟩) .ret σ:=cc5 ho hg h
theorem T5{i:Nat}(h:Q (.exit i) ({σ0 with H:=jX σ.H id none}:AS))(ho:jY P σ rs=some a:=by(exact aL))(hg:σ.H.get id=some (.cO env nt ps A B (.done) (some (.exit i))):=by(first|rfl|exact nY|(simp(maxSteps:=2000000) (disch:=omega) only[go_sem, *]<;>rfl)|fail)):
  cH P rs (hold (fun _ H'=>vB id env nt ps A B (hold (fun e H2=>Q e ({σ0 with H:=H2}:AS)) ⟨⟩) H') ⟨⟩) .normal σ:=cc6 ho hg h
theorem T6{i:Nat}(h:Q (.exit i) ({σ0 with H:=jX σ.H id none}:AS))(ho:jY P σ rs=some a:=by(exact aL))(hg:σ.H.get id=some (.cO env nt ps A B (.done) (some (.exit i))):=by(first|rfl|exact nY|(simp(maxSteps:=2000000) (disch:=omega) only[go_sem, *]<;>rfl)|fail)):
  cH P rs (hold (fun _ H'=>vB id env nt ps A B (hold (fun e H2=>Q e ({σ0 with H:=H2}:AS)) ⟨⟩) H') ⟨⟩) .ret σ:=cc7 ho hg h
end
theorem T7{ops:Array Oper}{o:Oper}{rest:List Oper}{K:AS->Prop}{p q:AS×List Oper}{j:Nat}{want:Bool}(h:b9 P true ops q.2 q.1 K)(hg:o.guard=some (j,want):=by(first|rfl|fail))
  (hw:qL (pT ops.toList j σ.env) want=some false:=by(exact aL)) (hs:E6 ops.toList rest (σ.put o.dst false (.c (.bool false)))=some p:=by(exact aL)) (hr:run P ops.toList p.2 p.1=q:=by(exact aL)):b9 P true ops (o::rest) σ K:=bY2 hg hw hs hr h
theorem T8{ops:Array Oper}{o:Oper}{rest:List Oper}{K:AS->Prop}{p:AS×List Oper}{b x y:Operand}{b0:Bool}{a:AV}(h:b9 P true ops p.2 p.1 K)(aO:o.op= .pick b x y:=by(first|rfl|fail))(hg:o.guard=none:=by(first|rfl|fail))
  (hb:kU (σ.get true b)=some b0:=by(exact aL)) (hn:B5 (kU (σ.get b0 x)) (kU (σ.get (!b0) y))=none:=by(exact aL)) (ha:σ.get true (cond b0 x y)=some a:=by(exact aL)) (hr:run P ops.toList rest (σ.put o.dst true a)=p:=by(exact aL)):b9 P true ops (o::rest) σ K:=bY4 aO hg hb hn ha hr h
theorem T9{ops:Array Oper}{o:Oper}{rest:List Oper}{K:AS->Prop}{p:AS×List Oper}{j:Nat}{want:Bool}{a:AV}{wr:List (Nat×Option aI)}{rd:List Nat}(h:b9 P true ops p.2 p.1 K)(aO:Eo o.op=true:=by(first|rfl|fail))(hg:o.guard=some (j,want):=by(first|rfl|fail))
  (hw:qL (pT ops.toList j σ.env) want=some true:=by(exact aL)) (mP:res P (σ.get true) σ.H.get σ.H.next o=some (a,wr,rd):=by(exact aL)) (hr:run P ops.toList rest (({σ with H:=σ.H.app wr}:AS).put o.dst true a)=p:=by(exact aL)):b9 P true ops (o::rest) σ K:=bY1 aO hg hw mP hr h
theorem fK{α:Type}{c:Code}(N:Nat)(E:Nat->α->List (Nat×Bool×AV))(T:Nat->α->List (Nat×Option aI))(R:Nat->Nat->α->Prop)(h0:∃m a,R 0 m a/\Holds σ (E 0 a) ⟨m,cV (T 0 a)⟩)
  (hk:∀k m a,k<N->R k m a->AW P c ⟨E k a,⟨m,cV (T k a)⟩,σ.nt⟩ (dR (fun aK=>∃m' a',R (k+1) m' a'/\Holds aK (E (k+1) a') ⟨m',cV (T (k+1) a')⟩) Q))
  (hN:∀m a,R N m a->AW P c ⟨E N a,⟨m,cV (T N a)⟩,σ.nt⟩ (dR (fun _=>False) Q)):AW P (.loop c) σ Q:=by
 obtain⟨m,a,hR,hh⟩:=h0;refine UR (fun n env H=>∃k m a,n=N-k/\k<=N/\R k m a/\env=E k a/\H=⟨m,cV (T k a)⟩) N ⟨_,_,⟨0,m,a,by omega,by omega,hR,rfl,rfl⟩,hh⟩ ?_
 rintro n env H ⟨k,m,a,rfl,MS,NT,rfl,rfl⟩;by_cases bG:k<N
 ·have h1:=hk k m a bG NT
  intro ro E0 W act eN cC;refine wpIn_mono (h1 ro E0 W act eN cC) fun e a' w ⟨E',aK,h2,h3,h4,h5⟩=>⟨E',aK,h2,h3,h4,?_⟩
  cases e with
  |normal=>
   obtain⟨m',SR,h6,h7⟩:=h5;exact⟨N-(k+1),by omega,_,_,⟨k+1,m',SR,rfl,by omega,h6,rfl,rfl⟩,h7⟩
  |_=>exact h5
 ·obtain rfl:k=N:=by omega
  have h1:=hN m a NT;intro ro E0 W act eN cC;refine wpIn_mono (h1 ro E0 W act eN cC) fun e a' w ⟨E',aK,h2,h3,h4,h5⟩=>⟨E',aK,h2,h3,h4,?_⟩
  cases e with
  |normal=>exact h5.elim
  |_=>exact h5
theorem zS{c:Code}(N M:Nat)(T:List (Nat×Option aI))(E:Nat->List (Nat×Bool×AV))(h0:Holds σ (E 0) ⟨M,cV T⟩)
  (hk:∀k m,k<N->M<=m->AW P c ⟨E k,⟨m,cV T⟩,σ.nt⟩ (dR (fun aK=>∃m',M<=m'/\Holds aK (E (k+1)) ⟨m',cV T⟩) Q))
  (hN:∀m,M<=m->AW P c ⟨E N,⟨m,cV T⟩,σ.nt⟩ (dR (fun _=>False) Q)):AW P (.loop c) σ Q:=by
 refine fK (α:=Unit) N (fun k _=>E k) (fun _ _=>T) (fun _ m _=>M<=m) ⟨M,(),cE _,h0⟩ (fun k m _ bG hm=> ?_) (fun m _ hm=>hN m hm)
 have h1:=hk k m bG hm;intro ro E0 W act eN cC;refine wpIn_mono (h1 ro E0 W act eN cC) fun e a' w ⟨E',aK,h2,h3,h4,h5⟩=>⟨E',aK,h2,h3,h4,?_⟩
 cases e with
 |normal=>obtain⟨m',h6,h7⟩:=h5;exact⟨m',(),h6,h7⟩
 |_=>exact h5
end
attribute [go_sem] qS zU cR gZ O0 O1
theorem lT{α:Type}{a b:α}(w:a=b:=by(first|rfl|(simp(disch:=omega) only[go_sem, *];done)|(simp(disch:=omega) only[go_sem, *];rfl))):a=b:=w
theorem aT{σ:AS}{env:List (Nat×Bool×AV)}{H:Heap}(w:Holds σ env H:=by
  ((repeat (refine uG (by first|rfl|(simp(disch:=omega) only[go_sem, *];done)|(simp(disch:=omega) only[go_sem, *];rfl)) ?_));(refine holds_nil (by simp only[];omega) ?_);(first|exact(fun _ _ h=>h)|((repeat (first|refine sQ (by first|rfl|(simp(disch:=omega) only[go_sem, *];done)|(simp(disch:=omega) only[go_sem, *];rfl)) ?_|refine PN ?_));exact BH)))):Holds σ env H:=w
section
variable {P : Program} {σ : AS}
theorem fU.wider{n:FuncId}{args:List AV}{H0:Heap}{R:AV->Heap->Prop}(h:fU P n args H0 R)(hH:Holds σ [] H0):fU P n args σ.H R:=
 ⟨h.1,fun E W vs hW hr=>h.2 E W vs ⟨fun id aB=>vF (hW.next id aB) hH.next,hW.core.QQ fun id b hb=>⟨b,hH.get id b hb,aI.le_refl b⟩⟩ hr⟩
theorem CV{ops:Array Oper}{o:Oper}{rest:List Oper}{K:AS->Prop}{f:Operand}{as:Array Operand}{ts:Array TypeId}{n:FuncId}{args:List AV}{R:AV->Heap->Prop}{H0:Heap}(hp:fU P n args H0 R)(h:∀r H',R r H'->b9 P true ops rest (({σ with H:=H'}:AS).put o.dst true r) K)
  (aO:o.op= .call ⟨.value f,as,ts⟩:=by(first|rfl|fail)) (hg:o.guard=none:=by(first|rfl|fail)) (hc:fZ (σ.get true f) (dZ (σ.get true) as.toList)=some (n,args):=by(exact aL)) (hH:Holds σ [] H0:=by exact aT):b9 P true ops (o::rest) σ K:=EK aO hg hc (hp.wider hH) h
end
structure bB(B:Prop):Type where
 out:B
theorem aG{A B:Prop}(h:B)(w:bB B->A:=by
  (intro hB;(repeat (first|refine vQ ?_|refine DX ?_|refine tF ?_|refine N7 ?_|refine bR ?_|refine gT ?_|refine RU ?_|refine RX ?_|refine RY ?_|refine RZ ?_|refine S3 ?_|refine S4 (by decide) ?_|refine RJ ?_|refine kF ?_|refine RO ?_|refine RP ?_|refine SZ ?_|refine T0 ?_|refine T1 ?_|refine T4 ?_|refine T5 ?_|refine T6 ?_|refine SH ?_|refine SI ?_|refine SV ?_|refine SW ?_|refine SX ?_|refine SY ?_|refine SS ?_|refine SU ?_|refine SF ?_|refine SG ?_|refine SJ ?_|refine RN ?_|refine RL ?_|refine SC ?_|refine SE ?_|refine SK ?_|refine SO ?_|refine SL ?_|refine SQ ?_|refine SP ?_|refine SM ?_|refine SN ?_|refine T7 ?_|refine T8 ?_|refine T9 ?_|refine MA ?_));exact hB.out)):A:=w ⟨h⟩
theorem aC{A:Prop}(w:A:=by(simp(maxSteps:=2000000) (disch:=omega) only[go_sem,fQ,eV,fN,fC,false_implies,implies_true, *];(repeat (first|exact .refl _|exact .nil|exact sD|refine jH ?_ ?_|refine KL ?_|refine BJ ?_|refine IC ?_|exact CY|refine yN ?_ ?_)))):A:=w
theorem aD1(G:Nat->Option aI)(k:Nat)(v:Value):cR G k (.c v)= .c v:=by cases k<;>rfl
theorem aD2(G:Nat->Option aI)(k:Nat)(v:Value):gZ G k (.c v)=[]:=by cases k<;>rfl
theorem cj5{r:List AV}(h:∀x∈r,∃v,x= .c v)(G:Nat->Option aI)(k:Nat):r.map (cR G k)=r:=by
 conv=>rhs;rw[<-List.map_id r]
 exact s7 fun x hx=>by obtain⟨v,rfl⟩:=h x hx;exact aD1 G k v
theorem cj6{r:List AV}(h:∀x∈r,∃v,x= .c v)(G:Nat->Option aI)(k:Nat):r.flatMap (gZ G k)=[]:=by
 rw[cq2];exact fun x hx=>by obtain⟨v,rfl⟩:=h x hx;exact aD2 G k v
theorem Gk{α:Type}{f:α->List AV}(h:∀a,∀x∈f a,∃v,x= .c v)(G:Nat->Option aI)(k:Nat)(l:List α):(aA f l).map (fun row=>row.map (cR G k))=aA f l:=by
 conv=>rhs;rw[<-List.map_id (aA f l)]
 refine s7 fun r hr=> ?_
 simp only[aA,kV]at hr;obtain⟨a,_,rfl⟩:=hr;exact cj5 (h a) G k
theorem aK4{α:Type}{f:α->List AV}(h:∀a,∀x∈f a,∃v,x= .c v)(G:Nat->Option aI)(k:Nat)(l:List α):(aA f l).flatMap (fun row=>row.flatMap (gZ G k))=[]:=by
 rw[cq2];intro r hr;simp only[aA,kV]at hr;obtain⟨a,_,rfl⟩:=hr;exact cj6 (h a) G k
attribute [go_sem] aD1 aD2
end Go.AL
namespace Go.AL
section
variable {P : Program} {σ : AS} {Q : Exit -> AS -> Prop}
section
variable {ops : List Oper} {N0 i : Nat} {o : Oper} {r : List Oper} {eA : AS} {es : List Entry} {f : Operand} {as : Array Operand} {ts : Array TypeId} {n : FuncId}
theorem TA{args:List AV}{el:TypeId}{k:Nat}{rows:List (List AV)}(aO:o.op= .call ⟨.value f,as,ts⟩)(hg:o.guard=none)(hc:fZ (σ.get true f) (dZ (σ.get true) as.toList)=some (n,args))
  (hp:sC P n args el k rows) (h:gP P ops N0 (i+1) r (σ.app o.dst ⟨true,.own (N0+i) 0 rows.length,[(N0+i,some (.cells el k rows true true))],[]⟩) es eA):
  gP P ops N0 i (o::r) σ (⟨true,.own (N0+i) 0 rows.length,[(N0+i,some (.cells el k rows true true))],[]⟩::es) eA:=bZ5 aO hg hp hc rfl h
theorem TB{args:List AV}{a:AV}{el:TypeId}{k:Nat}{rows:List (List AV)}(aO:o.op= .call ⟨.value f,as,ts⟩)(hg:o.guard=none)(hc:fZ (σ.get true f) (dZ (σ.get true) as.toList)=some (n,args))
  (hp:D3 P n args a el k rows) (h:gP P ops N0 (i+1) r (σ.app o.dst ⟨true,qS (N0+i) a,[(N0+i,some (.cells el k rows true true))],[]⟩) es eA):
  gP P ops N0 i (o::r) σ (⟨true,qS (N0+i) a,[(N0+i,some (.cells el k rows true true))],[]⟩::es) eA:=
 .cons i o r σ _ es eA (.Fc f as ts n args a el k rows aO (by unfold mZ;rw[hg]) rfl hc hp rfl rfl) h
theorem TC{cA args:List AV}{a:AV}{el:TypeId}{k:Nat}{rows:List (List AV)}{ap:Bool}{rd:List Nat}(aO:o.op= .call ⟨.value f,as,ts⟩)(hg:o.guard=none)(hc:fZ (σ.get true f) (dZ (σ.get true) as.toList)=some (n,cA))(he:cA.map (cR σ.H.get 3)=args)(dS:cA.flatMap (gZ σ.H.get 3)=rd)(hp:uF P n args a el k rows ap)(hn:∀a∈args,bK a)
  (h:gP P ops N0 (i+1) r (σ.app o.dst ⟨true,qS (N0+i) a,[(N0+i,some (.cells el k rows true ap))],rd⟩) es eA):gP P ops N0 i (o::r) σ (⟨true,qS (N0+i) a,[(N0+i,some (.cells el k rows true ap))],rd⟩::es) eA:=
 .cons i o r σ _ es eA (.Ff f as ts n cA args 3 a el k rows ap aO (by unfold mZ;rw[hg]) rfl hc he hn hp rfl rfl fun x hx id aB=>by rw[<-dS];exact tJ.2 ⟨x,hx,aB⟩) h
end
theorem FD{aK:AS}{id:Nat}{ops:Array Oper}{es:List Entry}(h:Q .normal aK)(hm:P.follows .mixedOrders=true:=by(first|kernel_rfl|fail))(hs:CJ ops=true:=by(first|kernel_rfl|fail))(hd:ops.toList.all (fY σ.nt)=true:=by(first|rfl|fail))
  (hr:gP P ops.toList σ.H.next 0 ops.toList {σ with H:=⟨σ.H.next+ops.size,σ.H.get⟩} es aK:=by(first|(apply eO;(next=>(exact aL));(repeat (first|exact NJ|(apply NP;(next=>(first|rfl|fail));(next=>(exact aL));apply eO;(next=>(exact aL)))|(apply TB;(next=>(first|rfl|fail));(next=>(first|rfl|fail));(next=>(exact aL));(next=>(first|assumption|(apply_assumption<;>first|assumption|omega)|fail));apply eO;(next=>(exact aL)))|(apply TA;(next=>(first|rfl|fail));(next=>(first|rfl|fail));(next=>(exact aL));(next=>(first|assumption|(apply_assumption<;>first|assumption|omega)|fail));apply eO;(next=>(exact aL)))|(apply TC;(next=>(first|rfl|fail));(next=>(first|rfl|fail));(next=>(exact aL));(next=>(exact aL));(next=>(exact aL));(next=>(first|assumption|(apply_assumption<;>first|assumption|omega)|fail));(next=>(first|exact jP|(simp[fQ,eV,fC,fN,jB,jC,jA, *];done)|fail));apply eO;(next=>(exact aL)))|(apply NO;(next=>(first|rfl|fail));(next=>(first|rfl|fail));(next=>(exact aL));(next=>(first|assumption|(apply_assumption<;>first|assumption|omega)|fail));(next=>(first|exact jP|(simp[fQ,eV,fC,fN,jB,jC,jA, *];done)|fail));apply eO;(next=>(exact aL)))|(apply NQ;(next=>(first|rfl|fail));(next=>(first|rfl|fail));(next=>(exact aL));(next=>(exact aL));(next=>(first|assumption|(apply_assumption<;>first|assumption|omega)|fail));(next=>(first|exact jP|(simp[fQ,eV,fC,fN,jB,jC,jA, *];done)|fail));apply eO;(next=>(exact aL)))|(apply NR;(next=>(first|rfl|fail));(next=>(first|rfl|fail));(next=>(exact aL));(next=>(exact aL));(next=>(exact aL));(next=>(first|assumption|(apply_assumption<;>first|assumption|omega)|fail));(next=>(first|exact jP|(simp[fQ,eV,fC,fN,jB,jC,jA, *];done)|fail));apply eO;(next=>(exact aL)))|(apply NS;(next=>(first|rfl|fail));(next=>(first|rfl|fail));(next=>(exact aL));(next=>(exact aL));(next=>(exact aL));(next=>(exact aL));(next=>(first|assumption|(apply_assumption<;>first|assumption|omega)|fail));(next=>(first|exact jP|(simp[fQ,eV,fC,fN,jB,jC,jA, *];done)|fail));apply eO;(next=>(exact aL))))))|fail))
  (uB:zK (tab ops.toList) 0 [] es=true:=by(first|(simp(maxSteps:=2000000) (disch:=omega) only[go_sem,N5,N6, *]<;>kernel_rfl)|fail)):AW P (.region id ops true) σ Q:=YO hm hs hd hr uB h
theorem GG{aK:AS}{id:Nat}{ops:Array Oper}{es:List Entry}{l:List Oper}(k0:Nat)(h:b9 P true ops l aK (Q .normal))(hl:ops.toList.drop k0=l:=by(first|rfl|fail))(ht:NM ops.toList k0=true:=by(first|kernel_rfl|fail))(hm:P.follows .mixedOrders=true:=by(first|kernel_rfl|fail))(hs:CJ ops=true:=by(first|kernel_rfl|fail))(hd:ops.toList.all (fY σ.nt)=true:=by(first|rfl|fail))
  (hr:gP P ops.toList σ.H.next 0 (ops.toList.take k0) {σ with H:=⟨σ.H.next+ops.size,σ.H.get⟩} es aK:=by(first|(apply eO;(next=>(exact aL));(repeat (first|exact NJ|(apply NP;(next=>(first|rfl|fail));(next=>(exact aL));apply eO;(next=>(exact aL)))|(apply TB;(next=>(first|rfl|fail));(next=>(first|rfl|fail));(next=>(exact aL));(next=>(first|assumption|(apply_assumption<;>first|assumption|omega)|fail));apply eO;(next=>(exact aL)))|(apply TA;(next=>(first|rfl|fail));(next=>(first|rfl|fail));(next=>(exact aL));(next=>(first|assumption|(apply_assumption<;>first|assumption|omega)|fail));apply eO;(next=>(exact aL)))|(apply TC;(next=>(first|rfl|fail));(next=>(first|rfl|fail));(next=>(exact aL));(next=>(exact aL));(next=>(exact aL));(next=>(first|assumption|(apply_assumption<;>first|assumption|omega)|fail));(next=>(first|exact jP|(simp[fQ,eV,fC,fN,jB,jC,jA, *];done)|fail));apply eO;(next=>(exact aL)))|(apply NO;(next=>(first|rfl|fail));(next=>(first|rfl|fail));(next=>(exact aL));(next=>(first|assumption|(apply_assumption<;>first|assumption|omega)|fail));(next=>(first|exact jP|(simp[fQ,eV,fC,fN,jB,jC,jA, *];done)|fail));apply eO;(next=>(exact aL)))|(apply NQ;(next=>(first|rfl|fail));(next=>(first|rfl|fail));(next=>(exact aL));(next=>(exact aL));(next=>(first|assumption|(apply_assumption<;>first|assumption|omega)|fail));(next=>(first|exact jP|(simp[fQ,eV,fC,fN,jB,jC,jA, *];done)|fail));apply eO;(next=>(exact aL)))|(apply NR;(next=>(first|rfl|fail));(next=>(first|rfl|fail));(next=>(exact aL));(next=>(exact aL));(next=>(exact aL));(next=>(first|assumption|(apply_assumption<;>first|assumption|omega)|fail));(next=>(first|exact jP|(simp[fQ,eV,fC,fN,jB,jC,jA, *];done)|fail));apply eO;(next=>(exact aL)))|(apply NS;(next=>(first|rfl|fail));(next=>(first|rfl|fail));(next=>(exact aL));(next=>(exact aL));(next=>(exact aL));(next=>(exact aL));(next=>(first|assumption|(apply_assumption<;>first|assumption|omega)|fail));(next=>(first|exact jP|(simp[fQ,eV,fC,fN,jB,jC,jA, *];done)|fail));apply eO;(next=>(exact aL))))))|fail))
  (uB:zK (tab ops.toList) 0 [] es=true:=by(first|(simp(maxSteps:=2000000) (disch:=omega) only[go_sem,N5,N6, *]<;>kernel_rfl)|fail)):AW P (.region id ops true) σ Q:=aC7 k0 hm hs ht hd hr uB (by rw[hl];exact h)
end
section
variable {P : Program} {σ : AS}
theorem YP{ops:Array Oper}{o:Oper}{rest:List Oper}{K:AS->Prop}{f:Operand}{as:Array Operand}{ts:Array TypeId}{n:FuncId}{args:List AV}{a:AV}{el:TypeId}{k:Nat}{rows:List (List AV)}{p:AS×List Oper}(h:b9 P true ops p.2 p.1 K)(aO:o.op= .call ⟨.value f,as,ts⟩:=by(first|rfl|fail))(hg:o.guard=none:=by(first|rfl|fail))
  (hc:fZ (σ.get true f) (dZ (σ.get true) as.toList)=some (n,args):=by(exact aL)) (hp:D3 P n args a el k rows:=by(first|assumption|(apply_assumption<;>first|assumption|omega)|fail))
  (hr:run P ops.toList rest (({σ with H:=⟨σ.H.next+1,aX σ.H.get [(σ.H.next,some (.cells el k rows true true))]⟩}:AS).put o.dst true (qS σ.H.next a))=p:=by(exact aL)):b9 P true ops (o::rest) σ K:=
 EK aO hg hc hp.run fun r H' ⟨h1,h2⟩=>by subst h1;subst h2;exact pI _ _ hr h
end
theorem aD{A B:Prop}(h:B)(w:bB B->A:=by
  (intro hB;(repeat (first|refine vQ ?_|refine DX ?_|refine tF ?_|refine N7 ?_|refine bR ?_|refine gT ?_|refine RU ?_|refine RX ?_|refine RY ?_|refine RZ ?_|refine S3 ?_|refine S4 (by decide) ?_|refine RJ ?_|refine kF ?_|refine RO ?_|refine RP ?_|refine SZ ?_|refine T0 ?_|refine T1 ?_|refine T4 ?_|refine T5 ?_|refine T6 ?_|refine SH ?_|refine SI ?_|refine SV ?_|refine SW ?_|refine SX ?_|refine SY ?_|refine SS ?_|refine SU ?_|refine SF ?_|refine SG ?_|refine SJ ?_|refine FD ?_|refine RN ?_|refine RL ?_|refine SC ?_|refine SE ?_|refine SK ?_|refine SO ?_|refine YP ?_|refine SL ?_|refine SQ ?_|refine SP ?_|refine SM ?_|refine SN ?_|refine T7 ?_|refine T8 ?_|refine T9 ?_|refine MA ?_));exact hB.out)):A:=w ⟨h⟩
def HW(R:AV->Heap->Prop)(r:AV)(H':Heap):Prop:=∃pV,R r pV/\Holds ⟨[],H',0⟩ [] pV
theorem fU.cj7{P:Program}{n:FuncId}{args:List AV}{H:Heap}{R:AV->Heap->Prop}(h:fU P n args H (HW R)):fU P n args H R:=
 ⟨h.1,fun E W vs hW hr=>(h.2 E W vs hW hr).mono fun e W' ⟨v,he,E',r,H',h1,h2,h3,pV,h4,hH⟩=>
   ⟨v,he,E',r,pV,h1,⟨fun id aB=>vF (h2.next id aB) hH.next,h2.core.QQ fun id b hb=>⟨b,hH.get id b hb,aI.le_refl b⟩⟩,h3,h4⟩⟩
theorem Ha{P:Program}{n:FuncId}{fn:Func}{c:Code}{args:List AV}{H:Heap}{R:AV->Heap->Prop}{rs:List ResultVar}{nt:Nat}(hf:P.funcs[n]? =some fn)(cM:fn.ntmps=nt)
  (h:AW P c ⟨mB 0 args,H,nt⟩ (hold (cH P rs (hold (HW R) ⟨⟩)) ⟨⟩))
  (hb:fn.body=some c:=by rfl) (hr:fn.results=List.toArray rs:=by rfl) (fI:(fn.name== "runtime.NumGoroutine")=false:=by kernel_rfl) (hlen:args.length<=nt:=by(simp only[dK,fJ];decide)):fU P n args H R:=
 (Gm hf cM h hb hr fI hlen).cj7
theorem zE{A:Prop}(w:A:=by(refine aD ?_;exact aC)):A:=w
theorem zEa{A:Prop}(w:A:=by(refine aG ?_;exact aC)):A:=w
end Go.AL
namespace Go.AL
open Go.RowKit
theorem aD3(k:Nat){P:Program}{n:FuncId}{args:List AV}{Q:AV->Prop}(hA:fU P n args ⟨0,cV []⟩ (fun a H'=>bK (cR H'.get k a)/\Q (cR H'.get k a))):eU P n args Q:=by
 refine⟨hA.1,fun L W vs hL hr=> ?_⟩
 have mA:RH (fM L) W ⟨0,cV []⟩:=⟨fun id h=>h.elim,hL,fun id h=>h.elim,fun id b h=>by cases h⟩
 refine(hA.2 (fM L) W vs mA hr).mono fun e W' ⟨v,he,E',r,H',hv,hH,iF,eY,hq⟩=> ?_
 refine⟨v,he,cR H'.get k r,fun b=>if b<W.heap.size then L b else max (E'.L b) (match W'.heap[b]? with|some (.cells cur _ _)=>cur.size|_=>0),⟨hv.os,hv.tape,hv.output,hv.size,fun k hk=>hv.tZ k hk fun id h=>h.elim⟩,fun b bY=> ?_,fun b bY=> ?_,?_,eY,hq⟩
 ·simp[bY]
 ·have h1:¬b<W.heap.size:=by have:=hv.size;omega
  simp[h1,hH.core.lim b bY,O5 bY]
 ·refine NA hH.core (fun b=> ?_) (fun id hU cur e f hc=> ?_) k iF eY
  ·by_cases bY:b<W.heap.size
   ·rw[hv.still b bY fun id h=>h.elim]
    simp[bY,fM]
   ·simp[bY];omega
  ·have h1:¬E'.ι id<W.heap.size:=by
    rcases hv.fresh id (fun h=>h) hU with h2|⟨tH,h2,_⟩
    ·omega
    ·exact h2.elim
   simp[h1,hc];omega
theorem D3.Vk{P:Program}{n:FuncId}{args:List AV}{a b:AV}{e:TypeId}{k:Nat}{rows:List (List AV)}(h:D3 P n args a e k rows)(hb:bK b)
  (hq:bK (cR (aX (cV []) [(0,some (.cells e k rows true true))]) 4 (qS 0 a))/\Wk (cR (aX (cV []) [(0,some (.cells e k rows true true))]) 4 (qS 0 a)) b):eU P n args (·=b):=
 eU.wk (aD3 4 (Q:=fun r=>Wk r b) (h.run.mono fun r H' ⟨h1,h2⟩=>by subst h1;subst h2;exact hq)) hb
theorem cj8{P:Program}{n:FuncId}{args:List AV}{a:AV}{e:TypeId}{k:Nat}{rows:List (List AV)}(ha:∀a∈args,bK a)(dO:KN a)(dB:∀row∈rows,∀x∈row,bK x)
  (h:fU P n args ⟨0,cV []⟩ fun r H'=>∃i,r=qS i a/\∃lG,H'.get i=some (.cells e k lG true true)/\xJ lG rows):D3 P n args a e k rows:=by
 refine⟨h.1,fun E W G aF vs hG gR hr=> ?_⟩
 have mA:RH (fM E.L) W ⟨0,cV []⟩:=⟨fun id h=>h.elim,hG.lim,fun id h=>h.elim,fun id b h=>by cases h⟩
 refine(h.2 (fM E.L) W vs mA (hr.rE (fun _=>cE _) ha)).mono fun x W' ⟨v,he,E1,r,H',hv,hH,iF,i,AX,lG,k8,A6⟩=> ?_
 subst AX;obtain⟨zG,iB⟩:=hH.core.ok i _ k8;obtain⟨dP,XE,⟨cur,cK,cj9,ck0⟩,GR,ha1⟩:=iB
 have YQ:∀(i:Nat) row,rows[i]? =some row->∃r0,lG[i]? =some r0:=fun i row hi=>by
  have h1:=(dV.1 hi).1;exact⟨_,eQ (by rw[A6.1];exact h1)⟩
 have hlen:∀(i:Nat) row,rows[i]? =some row->row.length=k:=fun i row hi=>by
  obtain⟨r0,h0⟩:=YQ i row hi;rw[<-(A6.2 i r0 row h0 hi).1];exact XE i r0 h0
 have hle:rows.length*k<=cur.size:=by rw[<-A6.1];exact cj9
 have eX:∀(i j:Nat) row x,rows[i]? =some row->row[j]? =some x->∃u,cur[i*k+j]? =some u/\RV E1 W' x u:=fun i j row x hi hj=>by
  obtain⟨r0,h0⟩:=YQ i row hi;have hw:=A6.2 i r0 row h0 hi;have h1:=(dV.1 hj).1;obtain⟨u,h2,h3⟩:=ck0 i j r0 _ h0 (eQ (by rw[hw.1];exact h1))
  exact⟨u,h2,RV.wk (hw.2 j _ x (eQ (by rw[hw.1];exact h1)) hj) h3⟩
 have mS:=(GR rfl).1
 have nP:W.heap.size<=E1.ι i:=by
  rcases hv.fresh i (fun h=>h) zG with h1|⟨tH,h1,_⟩
  ·exact h1
  ·exact h1.elim
 have bG:E1.ι i<W'.heap.size:=hH.core.eL i zG;have JR:∀b,b<W.heap.size->E1.L b=E.L b:=fun b hb=>hv.still b hb fun id h=>h.elim
 have hold:∀b,b<W.heap.size->W'.heap[b]? =W.heap[b]? :=fun b hb=>hv.tZ b hb fun id h=>h.elim
 have XH:∀b,E.L b<=E1.L b:=hv.lim
 let E':Env:=⟨fun id=>if id=aF then E1.ι i else E.ι id,fun id=>if id=aF then k else E.sz id,fun id=>E.U id\/id=aF,E1.L⟩
 have cY:∀id,E.U id->E'.ι id=E.ι id:=fun id aB=>by
  show(if id=aF then _ else _)=_
  rw[if_neg];rintro rfl;exact gR aB
 have hs:∀id,E.U id->E'.sz id=E.sz id:=fun id aB=>by
  show(if id=aF then _ else _)=_
  rw[if_neg];rintro rfl;exact gR aB
 have gL:E'.ι aF=E1.ι i:=by show(if aF=aF then _ else _)=_;rw[if_pos rfl]
 have jS:E'.sz aF=k:=by show(if aF=aF then _ else _)=_;rw[if_pos rfl]
 have xY:bE E W E' W':=by
  refine⟨hv.os,hv.tape,hv.output,hv.size,fun id h=> .inl h,fun id aB=>⟨cY id aB,hs id aB⟩,XH,hv.zB,fun b hb _=>hold b hb,hv.b8,fun b hb _=>JR b hb,fun id h1 h2=> ?_,hv.loops⟩
  rcases h2 with h2|h2
  ·exact absurd h2 h1
  ·subst h2;rw[gL];exact .inl nP
 have bH:∀{x u},RV E1 W' x u->bK x->RV E' W' x u:=fun hx hn=>RV.HO (E:=E') (L:=E1.L) (fun _=>cE _) (hx.rE (L:=E1.L) (fun _=>cE _) hn)
 have yT:∀id,E.U id->E'.ι id≠E1.ι i:=fun id aB heq=>by
  rw[cY id aB]at heq;have:=hG.eL id aB;omega
 refine⟨v,he,E',xY,⟨hH.core.lim,fun id aB=> ?_,fun id b hb=> ?_⟩,?_,fun id h=>h⟩
 ·rcases aB with aB|aB
  ·rw[cY id aB];exact vF (hG.eL id aB) hv.size
  ·subst aB;rw[gL];exact bG
 ·simp only[aX]at hb
  by_cases aB:id=aF
  ·subst aB
   rw[if_pos rfl]at hb;injection hb with hb
   subst hb;refine⟨.inr rfl,jS,hlen,⟨cur,by rw[gL];exact cK,hle,fun i' j row x h1 h2=> ?_⟩,fun _=>⟨by rw[gL];exact mS,fun aM b' aJ cL heq=> ?_⟩,fun _=>⟨by rw[gL];show E1.L _<=_;rw[mS];exact iG _,fun aM b' aJ cL heq=> ?_⟩⟩
   ·obtain⟨u,h3,h4⟩:=eX i' j row x h1 h2
    exact⟨u,h3,bH h4 (dB row (eS h1) x (eS h2))⟩
   ·rw[gL]at heq
    simp only[aX,if_neg aJ]at cL;exact yT aM (hG.ok aM b' cL).1 heq
   ·rw[gL]at heq
    simp only[aX,if_neg aJ]at cL;exact absurd heq (yT aM (hG.ok aM b' cL).1)
  ·rw[if_neg aB]at hb
   obtain⟨hU,dO⟩:=hG.ok id b hb;have rX:=hG.eL id hU;refine⟨.inl hU,dO.mono xY hU (hold _ rX) (JR _ rX) fun aM b' aJ cL heq=> ?_⟩
   simp only[aX]at cL;by_cases uR:aM=aF
   ·subst uR
    rw[gL]at heq;omega
   ·rw[if_neg uR]at cL
    exact⟨b',cL,by rw[<-heq,cY aM (hG.ok aM b' cL).1],rfl,fun h=>h⟩
 ·exact ch8 gL (by rw[jS,<-dP]) (.inr rfl) bH dO iF
theorem aP3{P:Program}{n:FuncId}{fn:Func}{c:Code}{args:List AV}{a:AV}{e:TypeId}{k:Nat}{rows:List (List AV)}{rs:List ResultVar}{nt:Nat}(hf:P.funcs[n]? =some fn)(cM:fn.ntmps=nt)(ha:∀a∈args,bK a)(dO:KN a)(dB:∀row∈rows,∀x∈row,bK x)
  (h:AW P c ⟨mB 0 args,⟨0,cV []⟩,nt⟩ (hold (cH P rs (hold (fun r H'=>∃i,r=qS i a/\∃lG,H'.get i=some (.cells e k lG true true)/\xJ lG rows) ⟨⟩)) ⟨⟩))
  (hb:fn.body=some c:=by rfl) (hr:fn.results=List.toArray rs:=by rfl) (fI:(fn.name== "runtime.NumGoroutine")=false:=by kernel_rfl) (hlen:args.length<=nt:=by(simp only[dK,fJ];decide)):D3 P n args a e k rows:=by
 refine cj8 ha dO dB (FR hf hb fI (by rw[cM];exact hlen) ?_)
 rw[cM,hr];exact h
end Go.AL
namespace Go.AL
theorem RC.aD4{E:Env}{W:World}{G:Nat->Option aI}{j:Nat}{e:TypeId}{s:Nat}{rws yH:List (List AV)}{w a:Bool}{DY:Array Value}(hG:RC E W G)(hj:G j=some (.cells e s rws w a))(hl:yH.length=rws.length)
  (hr:∀(i:Nat) r r',rws[i]? =some r->yH[i]? =some r'->r'.length=r.length/\∀(k:Nat) x y,r[k]? =some x->r'[k]? =some y->∀v,DY[i*s+k]? =some v->RV E W y v) (cK:W.heap[E.ι j]? =some (Obj.cells DY e (0,0))):RC E W (aX G [(j,some (.cells e s yH w a))]):=by
 have qM:∀id b,aX G [(j,some (.cells e s yH w a))] id=some b->∃b0,G id=some b0/\b.upto=b0.upto/\(b0.app=false->b.app=false):=fun id b h=>by
  simp only[aX]at h;split at h
  ·rename_i heq
   injection h with h
   subst h;subst heq;exact⟨_,hj,by simp only[aI.upto,hl],fun h=>h⟩
  ·exact⟨b,h,rfl,fun h=>h⟩
 refine⟨hG.lim,hG.eL,fun id b hb=> ?_⟩
 by_cases aB:id=j
 ·subst aB
  simp only[aX]at hb;rw[if_pos trivial]at hb;injection hb with hb
  subst hb;obtain⟨hU,h1,h2,⟨cur,h3,h4,h5⟩,h6,h7⟩:=hG.ok id _ hj;have YQ:∀(i:Nat) r',yH[i]? =some r'->∃r,rws[i]? =some r:=fun i r' h=>⟨_,eQ (by rw[<-hl];exact(dV.1 h).1)⟩
  refine⟨hU,h1,fun i r' hi=> ?_,⟨cur,h3,by rw[hl];exact h4,fun i k r' y hi hk=> ?_⟩,fun hw=> ?_,fun ha=> ?_⟩
  ·obtain⟨r,h8⟩:=YQ i r' hi
   rw[(hr i r r' h8 hi).1];exact h2 i r h8
  ·obtain⟨r,h8⟩:=YQ i r' hi
   have h9:=hr i r r' h8 hi;have dY:k<r.length:=by rw[<-h9.1];exact(dV.1 hk).1
   obtain⟨v,oC,uJ⟩:=h5 i k r _ h8 (eQ dY)
   have dH:cur=DY:=by
    rw[cK]at h3;injection h3 with h3;injection h3 with h3;exact h3.symm
   exact⟨v,oC,h9.2 k _ y (eQ dY) hk v (by rw[<-dH];exact oC)⟩
  ·obtain⟨h8,h9⟩:=h6 hw
   refine⟨h8,fun aM b' aJ cL=> ?_⟩
   obtain⟨b0,dY,_⟩:=qM aM b' cL;exact h9 aM b0 aJ dY
  ·obtain⟨h8,h9⟩:=h7 ha
   refine⟨by rw[hl];exact h8,fun aM b' aJ cL heq=> ?_⟩
   obtain⟨b0,dY,oC,uJ⟩:=qM aM b' cL;obtain⟨yM,CW⟩:=h9 aM b0 aJ dY heq;exact⟨by rw[oC,hl];exact yM,uJ CW⟩
 ·have sE:G id=some b:=by simpa only[aX,if_neg aB]using hb
  obtain⟨hU,dO⟩:=hG.ok id b sE;refine⟨hU,?_⟩;cases b with
  |map es=>
   obtain⟨h1,h5,h6⟩:=dO;refine⟨h1,h5,fun aM b' nX cL=> ?_⟩
   obtain⟨b0,dY,_⟩:=qM aM b' cL;exact h6 aM b0 nX dY
  |iter m n seen=>
   obtain⟨h1,h5,h6⟩:=dO;refine⟨h1,h5,fun aM b' nX cL=> ?_⟩
   obtain⟨b0,dY,_⟩:=qM aM b' cL;exact h6 aM b0 nX dY
  |cO env nt ps assign body st MC=>
   obtain⟨h1,h5,h6⟩:=dO;refine⟨h1,h5,fun aM b' nX cL=> ?_⟩
   obtain⟨b0,dY,_⟩:=qM aM b' cL;exact h6 aM b0 nX dY
  |cells e' s' fH w' a'=>
   obtain⟨h1,h2,h3,h6,h7⟩:=dO;refine⟨h1,h2,h3,fun hw=> ?_,fun ha=> ?_⟩
   ·obtain⟨h8,h9⟩:=h6 hw
    refine⟨h8,fun aM b' nX cL=> ?_⟩
    obtain⟨b0,dY,_⟩:=qM aM b' cL;exact h9 aM b0 nX dY
   ·obtain⟨h8,h9⟩:=h7 ha
    refine⟨h8,fun aM b' nX cL heq=> ?_⟩
    obtain⟨b0,dY,oC,uJ⟩:=qM aM b' cL;obtain⟨yM,CW⟩:=h9 aM b0 nX dY heq;exact⟨by rw[oC];exact yM,uJ CW⟩
def Fz(id:Nat)(rows:List (List AV))(x y:AV):Prop:=x=y\/∃off len,x= .own id off len/\off+len<=rows.length/\y= .snap ((rows.drop off).take len)
def LI(id:Nat)(rows rws yH:List (List AV)):Prop:=
 yH.length=rws.length/\∀(i:Nat) r r',rws[i]? =some r->yH[i]? =some r'->r'.length=r.length/\∀(k:Nat) x y,r[k]? =some x->r'[k]? =some y->Fz id rows x y
theorem C4{P:Program}{σ:AS}{Q:Exit->AS->Prop}{c:Code}(id j:Nat){e e2:TypeId}{s s2:Nat}{rows rws:List (List AV)}{w a w2 a2:Bool}(yH:List (List AV))(hg:σ.H.get id=some (.cells e s rows w a))(hj:σ.H.get j=some (.cells e2 s2 rws w2 a2))(mL:j≠id)
  (hr:LI id rows rws yH) (h:AW P c ⟨σ.env,⟨σ.H.next,aX (aX σ.H.get [(id,some (.cells e s rows false a))]) [(j,some (.cells e2 s2 yH w2 a2))]⟩,σ.nt⟩ Q):AW P c σ Q:=fun ro E W act eN cC=>by
 obtain⟨hv,hH⟩:=ay9 cC.heap hg
 have hL:∀aM,aM∈[id]->∀(e':TypeId) (s':Nat) (fH:List (List AV)) (w' a':Bool),σ.H.get aM=some (.cells e' s' fH w' a')->fH.length*s'<=(if E.ι aM=E.ι id then max (E.L (E.ι aM)) (rows.length*s)else E.L (E.ι aM)):=fun aM h1 e' s' fH w' a' h2=>by
  simp only[cG,jF,or_false]at h1;subst h1;rw[hg]at h2;injection h2 with h2
  injection h2 with h3 h4 h5
  subst h4 h5;rw[if_pos rfl];omega
 have Dt:(aX σ.H.get [(id,some (.cells e s rows false a))]) j=some (.cells e2 s2 rws w2 a2):=by
  simp only[aX];rw[if_neg mL];exact hj
 --J8 values of J8 block j in J8 B0 world
 obtain⟨_,_,_,⟨cur,L9,_,sS⟩,_,_⟩:=cC.heap.core.ok j _ hj
 have hRC:RC ⟨E.ι,E.sz,E.U,fun b=>if b=E.ι id then max (E.L b) (rows.length*s)else E.L b⟩ W (aX (aX σ.H.get [(id,some (.cells e s rows false a))]) [(j,some (.cells e2 s2 yH w2 a2))]):=by
  refine hH.core.aD4 Dt hr.1 (fun i r r' h1 h2=>⟨(hr.2 i r r' h1 h2).1,fun k x y hx hy v ck2=> ?_⟩) L9
  obtain⟨v',h3,h4⟩:=sS i k r x h1 hx;rw[ck2]at h3;injection h3 with h3
  subst h3;rcases(hr.2 i r r' h1 h2).2 k x y hx hy with rfl|⟨off,len,rfl,hle,rfl⟩
  ·exact h4.mono hv
  ·have:=Y3 cC.heap.core hv h4 (fun aM h5=>hL aM (by simpa[yG]using h5))
   simpa[sA,rowsOf,hg,hle]using this
 refine wpIn_mono (h ro _ W act eN (cC.mono hv ⟨hH.next,hRC⟩)) fun e' a' w' ⟨E',aK,h2,h3,h4,h5⟩=>⟨E',aK,(eE.of hv rfl).trans h2,h3,h4,h5⟩
end Go.AL
namespace Go.AL
open Go.RowKit
section
variable {P : Program} {σ : AS} {Q : Exit -> AS -> Prop}
theorem Rq{ops:List Oper}{N0 i:Nat}{o:Oper}{r:List Oper}{σ eA:AS}{es:List Entry}{f:Operand}{as:Array Operand}{ts:Array TypeId}{n:FuncId}{cA args:List AV}{a:AV}{wr:List (Nat×Option aI)}{rd:List Nat}(aO:o.op= .call ⟨.value f,as,ts⟩)(hg:o.guard=none)
  (hc:fZ (σ.get true f) (dZ (σ.get true) as.toList)=some (n,cA)) (he:cA.map (o0 σ.H.get)=args) (dS:mC nD cA=rd) (hw:(rd.map fun id=>(id,qN (σ.H.get id)))=wr) (hp:eU P n args (·=a)) (hn:∀a∈args,bK a) (h:gP P ops N0 (i+1) r (σ.app o.dst ⟨true,a,wr,rd⟩) es eA):
  gP P ops N0 i (o::r) σ (⟨true,a,wr,rd⟩::es) eA:=bZ4 aO hg hp hc he hn dS hw h
theorem J0{aK:AS}{id:Nat}{ops:Array Oper}{es:List Entry}(h:Q .normal aK)(hm:P.follows .mixedOrders=true:=by(first|kernel_rfl|fail))(hs:CJ ops=true:=by(first|kernel_rfl|fail))(hd:ops.toList.all (fY σ.nt)=true:=by(first|rfl|fail))
  (hr:gP P ops.toList σ.H.next 0 ops.toList {σ with H:=⟨σ.H.next+ops.size,σ.H.get⟩} es aK:=by(first|(apply eO;(next=>(exact aL));(repeat (first|exact NJ|(apply Rq;(next=>(first|rfl|fail));(next=>(first|rfl|fail));(next=>(exact aL));(next=>(exact aL));(next=>(exact aL));(next=>(exact aL));(next=>(first|assumption|(apply_assumption<;>first|assumption|omega)|fail));(next=>(first|exact jP|(simp[fQ,eV,fC,fN,jB,jC,jA, *];done)|fail));apply eO;(next=>(exact aL)))|(apply NP;(next=>(first|rfl|fail));(next=>(exact aL));apply eO;(next=>(exact aL)))|(apply TB;(next=>(first|rfl|fail));(next=>(first|rfl|fail));(next=>(exact aL));(next=>(first|assumption|(apply_assumption<;>first|assumption|omega)|fail));apply eO;(next=>(exact aL)))|(apply TA;(next=>(first|rfl|fail));(next=>(first|rfl|fail));(next=>(exact aL));(next=>(first|assumption|(apply_assumption<;>first|assumption|omega)|fail));apply eO;(next=>(exact aL)))|(apply TC;(next=>(first|rfl|fail));(next=>(first|rfl|fail));(next=>(exact aL));(next=>(exact aL));(next=>(exact aL));(next=>(first|assumption|(apply_assumption<;>first|assumption|omega)|fail));(next=>(first|exact jP|(simp[fQ,eV,fC,fN,jB,jC,jA, *];done)|fail));apply eO;(next=>(exact aL)))|(apply NO;(next=>(first|rfl|fail));(next=>(first|rfl|fail));(next=>(exact aL));(next=>(first|assumption|(apply_assumption<;>first|assumption|omega)|fail));(next=>(first|exact jP|(simp[fQ,eV,fC,fN,jB,jC,jA, *];done)|fail));apply eO;(next=>(exact aL)))|(apply NQ;(next=>(first|rfl|fail));(next=>(first|rfl|fail));(next=>(exact aL));(next=>(exact aL));(next=>(first|assumption|(apply_assumption<;>first|assumption|omega)|fail));(next=>(first|exact jP|(simp[fQ,eV,fC,fN,jB,jC,jA, *];done)|fail));apply eO;(next=>(exact aL)))|(apply NR;(next=>(first|rfl|fail));(next=>(first|rfl|fail));(next=>(exact aL));(next=>(exact aL));(next=>(exact aL));(next=>(first|assumption|(apply_assumption<;>first|assumption|omega)|fail));(next=>(first|exact jP|(simp[fQ,eV,fC,fN,jB,jC,jA, *];done)|fail));apply eO;(next=>(exact aL)))|(apply NS;(next=>(first|rfl|fail));(next=>(first|rfl|fail));(next=>(exact aL));(next=>(exact aL));(next=>(exact aL));(next=>(exact aL));(next=>(first|assumption|(apply_assumption<;>first|assumption|omega)|fail));(next=>(first|exact jP|(simp[fQ,eV,fC,fN,jB,jC,jA, *];done)|fail));apply eO;(next=>(exact aL))))))|fail))
  (uB:zK (tab ops.toList) 0 [] es=true:=by(first|(simp(maxSteps:=2000000) (disch:=omega) only[go_sem,N5,N6, *]<;>kernel_rfl)|fail)):AW P (.region id ops true) σ Q:=YO hm hs hd hr uB h
end
end Go.AL
namespace Go.AL
open Go.RowKit
def jD(x:Value):List PanicEntry:=[{v:=x,recovered:=false}]
def IK(P:Program)(n:FuncId)(args:List AV)(x:Value):Prop:=
 rD P n=true/\∀(L:Nat->Nat) (W:World) (vs:List Value),(∀b,W.heap.size<=b->L b=0)->bX (fM L) W args vs->
  Calls P n vs.toArray W fun e W'=>e= .panicked (jD x)/\Below W.heap.size W W'
theorem IK.run{P:Program}{n:FuncId}{args:List AV}{x:Value}(h:IK P n args x)(ha:∀a∈args,bK a){E:Env}{W:World}{H:Heap}(hH:RH E W H){vs:List Value}(hr:bX E W args vs):
  Calls P n vs.toArray W fun e W'=>e= .panicked (jD x)/\bE E W E W'/\RH E W' H:=by
 refine(h.2 E.L W vs hH.core.lim (hr.rE (fun _=>cE _) ha)).mono fun e W' ⟨he,hb⟩=> ?_
 obtain⟨h1,h2⟩:=bE.below hH.core hb;exact⟨he,h1,hH.next,h2⟩
theorem YR{fn:Func}{args:List AV}{H:Heap}{E:Env}{W:World}{vs:List Value}(hlen:args.length<=fn.ntmps)(hH:RH E W H)(hr:bX E W args vs):
  Rel E W ⟨mB 0 args,H,fn.ntmps⟩ {tmps:=vs.toArray++Array.replicate (fn.ntmps-vs.toArray.size) undef,defers:=[]}:=by
 refine⟨Marks.nil E W,?_,fun t c a ha=> ?_,hH⟩
 ·have:=hr.1;simp;omega
 ·obtain⟨_,h1,XQ⟩:=Px args 0 t _ ha
  obtain⟨v,h2,h3⟩:=hr.get h1;simp only[Nat.sub_zero]at h2;refine⟨v,?_,fun _=>h3,fun h=>by simp only at XQ;rw[XQ]at h;cases h⟩
  rw[TP (by simpa using(dV.1 h2).1)]
  simpa using h2
theorem ck3{P:Program}{n:FuncId}{fn:Func}{c:Code}{args:List AV}{x:Value}(hf:P.funcs[n]? =some fn)(hb:fn.body=some c)(fI:(fn.name== "runtime.NumGoroutine")=false)(hlen:args.length<=fn.ntmps)
  (h:AW P c ⟨mB 0 args,⟨0,cV []⟩,fn.ntmps⟩ (fun e _=>e= .panic (jD x))):IK P n args x:=by
 refine⟨by unfold rD;rw[hf];simp[fI,hb],fun L W vs hL hr=> ?_⟩
 have mA:RH (fM L) W ⟨0,cV []⟩:=⟨fun id h=>h.elim,hL,fun id h=>h.elim,fun id b h=>by cases h⟩
 refine callsIn_wide.1 (callsIn_of_wp_marks (F:=Fence.wide) (n:=3) hf hb trivial ?_);refine wpIn_mono (h none (fM L) W _ (fun l h=>by cases h) (YR hlen mA hr)) fun e a w ⟨E',aK,h1,h2,h3,h4⟩=> ?_
 subst h4;obtain⟨Ds,rY,tG,xC⟩:=h2.defers;have B7:∀D∈Ds,W.heap.size<=D:=fun D hD=>(h1.new D (MW rY hD)).resolve_left (fun h=>by cases h)
 have key:=JW (P:=P) (fn:=fn) (tmps:=a.tmps) (R:=fun e W'=>e= .panicked (jD x)/\Below W.heap.size W W') (I:=fun w'=>bE (fM L) W E' w') (u:= .panicking (jD x)) (by simp) (rest:=[]) a.defers Ds rY h1.B0 tG
  (fun D hD w' hw hI=>hI.shut hL (B7 D hD)) (fun w' hI=>⟨rfl,hI.os,hI.tape,hI.output,hI.size,fun k hk=>hI.tZ k hk fun id h=>h.elim⟩) (fun D hD=>(xC D hD).1) h1.pS
 rw[mD]at key;exact key
theorem EC{F:Fence}{n:Nat}{P:Program}{ops:Array Oper}{Q:Exit->Act->World->Prop}{r:List Nat}:∀(l:List Nat) (a:Act) (w:World),wpOpsIn F n P ops (Exit.then (wpOpsIn F n P ops Q r) Q) l a w->wpOpsIn F n P ops Q (l++r) a w
 |[],a,w,h=>h
 |i::l,a,w,h=>by
  simp only[wpOpsIn,yI]at h⊢;cases ho:ops[i]? with
  |none=>simp only[ho]at h⊢;exact EC l a w h
  |some o=>
   simp only[ho]at h⊢;by_cases hw:Region.wanted o (yielded ops a.tmps)=true
   ·simp only[hw,if_true]at h⊢
    refine⟨h.1,?_⟩;have h2:=h.2;generalize (o.semAt F.round a.eval).run P w=r' at h2;simp only[Oper.uponIn]at h2⊢;split at h2
    ·exact EC l _ _ h2
    ·exact EC l _ _ h2
    ·exact EC l _ _ h2
    ·refine⟨h2.1,h2.2.mono fun e w'' hR=> ?_⟩
     cases e with
     |returned v=>exact EC l _ _ hR
     |panicked ch=>exact hR
     |outgrown=>exact hR
    ·exact⟨h2.1,h2.2.mono fun v w'' hR=>EC l _ _ hR⟩
    ·refine⟨h2.1,h2.2.mono fun e w'' hR=> ?_⟩
     cases e with
     |returned v=>exact EC l _ _ hR
     |panicked ch=>exact hR
     |outgrown=>exact hR
    ·exact h2
    ·exact h2
   ·simp only[hw,if_false,mG]at h⊢
    exact⟨h.1,EC l _ _ h.2⟩
def XW(P:Program)(o:Oper)(σ:AS)(x:Value):Prop:=
 o.guard=none/\∀(ro:Option Nat) (E:Env) (W:World) (act:Act) (next:Act->World->Prop) (Q:Exit->Act->World->Prop),Rel E W σ act->(∀W',bE E W E W'->Rel E W' σ act->Q (.panic (jD x)) act W')->o.wpIn (kK ro) 3 P act W next Q
theorem range_split{n k:Nat}(h:k<n):∃more,List.range n=List.range k++k::more:=by
 obtain⟨m,rfl⟩:∃m,n=k+(m+1):=⟨n-k-1,by omega⟩
 rw[List.range_add,List.range_succ_eq_map];exact⟨_,by simp;rfl⟩
section
variable {P : Program} {σ : AS} {Q : Exit -> AS -> Prop}
theorem ck4{id:Nat}{ops:Array Oper}(k:Nat){o:Oper}{x:Value}(ho:ops[k]? =some o)(hd:(ops.toList.take k).all (fY σ.nt)=true)
  (h:b9 P true ops (ops.toList.take k) σ (hold (fun aK=>XW P o aK x/\Q (.panic (jD x)) aK) ⟨⟩)):AW P (.region id ops false) σ Q:=fun ro E W act eN hr=>by
 refine wpIn_region ?_;have hk:k<ops.size:=(jG.1 ho).1;obtain⟨more,hm⟩:=range_split hk;rw[hm];refine EC _ _ _ ?_;refine JV (List.range k) (ops.toList.take k) ?_ h hd hr (fun E' W' aK cF hv cZ cM hK=> ?_)
 ·apply BE
  intro i;simp only[gE,wD];by_cases hi:i<k
  ·have:i<ops.size:=by omega
   simp[hi,wD,gU,this]
  ·simp[hi,wD,gU]
 ·obtain⟨⟨hg,hx⟩,hq⟩:=hK
  show wpOpsIn (kK ro) 3 P ops _ (k::more) cF W'
  simp only[wpOpsIn,ho];rw[if_pos (by simp[Region.wanted,hg])]
  exact hx ro E' W' cF _ _ cZ fun CB fB nC=>⟨E',aK,hv.trans (.of fB rfl),nC,cM,hq⟩
theorem ck5{o:Oper}{f:Operand}{as:Array Operand}{ts:Array TypeId}{n:FuncId}{args:List AV}{x:Value}(aO:o.op= .call ⟨.value f,as,ts⟩)(hg:o.guard=none)(hc:fZ (σ.get true f) (dZ (σ.get true) as.toList)=some (n,args))(ha:∀a∈args,bK a)(h:IK P n args x):XW P o σ x:=by
 refine⟨hg,fun ro E W act next Q hr hn=> ?_⟩
 obtain⟨first,cap,oL,hf,has,rfl⟩:=B4 hc
 have h1:=hr.get rfl hf;have h2:=xA (E:=E) (W:=W) (ρ:=act.eval) (fun x b hb=>hr.get rfl hb) _ _ has
 generalize pB:act.eval f=fv at h1;cases h1 with
 |fn _ _ _ vf vc hl cW h3 h4=>
 have mY:bX E W (first++oL++cap) (vf.toList++as.toList.map act.eval++vc.toList):=by
  refine(bX.append ?_ h2).append ?_
  ·exact⟨by simpa using hl,fun i x v hx hv=>h3 i x v hx (by simpa using hv)⟩
  ·exact⟨by simpa using cW,fun i x v hx hv=>h4 i x v hx (by simpa using hv)⟩
 have dH:=h.run ha hr.heap mY
 have dA:(execOp act.eval o).run P W= .ok (.enter n (vf.toList++as.toList.map act.eval++vc.toList).toArray) W:=by
  simp only[execOp,aO,resolve,pB,Deferred.ofValue,Sem.run_bind,Sem.run_pure,Result.andThen_ok,invoke];rw[B6 h.1];congr 2;apply CR;simp
 refine⟨fun _ _=>trivial,?_⟩
 rw[Oper.semAt_eq _ _ _ (fun c h=>by rw[aO]at h;cases h),dA]
 refine⟨AZ,CH (dH.mono fun e W' ⟨he,hv,hH⟩=> ?_)⟩
 subst he;exact hn W' hv (hr.mono hv hH)
theorem ck6{o:Oper}{y:Operand}{t:TypeId}{v:Value}(aO:o.op= .panic y)(hg:o.guard=none)(hy:σ.get true y=some (.c (.iface t v))):XW P o σ (.iface t v):=by
 refine⟨hg,fun ro E W act next Q hr hn=> ?_⟩
 have h1:=hr.get rfl hy;generalize hv:act.eval y=u at h1;cases h1
 have dA:(execOp act.eval o).run P W= .halt (.panic (.iface t v)) W:=by
  simp only[execOp,aO,hv,Instr.panic];rfl
 refine⟨fun _ _=>trivial,?_⟩
 rw[Oper.semAt_eq _ _ _ (fun c h=>by rw[aO]at h;cases h),dA]
 exact hn W (bE.refl E W) hr
end
end Go.AL
namespace Go.AL
open Go.RowKit
def NU:Option Value->FrameMode
 |none=> .returning
 |some x=> .panicking (jD x)
def ED:Option Value->FrameMode
 |none=> .returning
 |some x=> .panicking [{v:=x,recovered:=true}]
def rZ:Option Value->Value
 |none=> .nilIface
 |some x=>x
theorem ck7(r:Option Value):settle (ED r)= .returning:=by cases r<;>rfl
theorem aD6(r:Option Value):NU r≠ .run:=by cases r<;>simp[NU]
def qD(P:Program)(m:FuncId)(args:List AV)(H:Heap)(r:Option Value)(Q:Heap->Prop):Prop:=
 rD P m=true/\∀(E:Env) (W:World) (vs:List Value),RH E W H->bX E W args vs->
  CallsDIn Fence.wide 2 P m vs.toArray (NU r) W fun e u' W'=>(∃v,e= .returned v)/\u'=ED r/\∃E' H',bE E W E' W'/\RH E' W' H'/\Q H'
def HZ(E:Env)(W:World)(d:Deferred)(m:FuncId)(cargs:List AV):Prop:=
 ∃vf vc:Array Value,d={target:= .fn (.func m) vc,args:=vf}/\bX E W cargs (vf.toList++vc.toList)
theorem HZ.mono{E E':Env}{W W':World}{d:Deferred}{m:FuncId}{cargs:List AV}(h:HZ E W d m cargs)(hv:bE E W E' W'):HZ E' W' d m cargs:=by
 obtain⟨vf,vc,h1,h2,h3⟩:=h;exact⟨vf,vc,h1,h2,fun i x v hx lR=>(h3 i x v hx lR).mono hv⟩
theorem HZ.shut{E:Env}{w:World}{d:Deferred}{m:FuncId}{cargs:List AV}{D:Nat}{x:Option (List Deferred)}{o:Obj}(hD:w.heap[D]? =some (.deferred x))(h:HZ E w d m cargs):HZ E (w.putObj D o) d m cargs:=by
 obtain⟨vf,vc,h1,h2,h3⟩:=h;exact⟨vf,vc,h1,h2,fun i x v hx lR=>(h3 i x v hx lR).shut hD⟩
def AD(P:Program)(c:Code)(σ:AS)(m:FuncId)(cargs:List AV)(Q:Exit->AS->Prop):Prop:=
 ∀(E:Env) (W:World) (act:Act),Rel E W σ act->rF act.defers=[]->c.wpIn Fence.wide 3 P (fun e cF W'=>∃E' aK d,bE E W E' W'/\(∀D,tI D∈cF.defers->tI D∈act.defers\/W.heap.size<=D)/\rF cF.defers=[d]/\HZ E' W' d m cargs/\Rel E' W' aK cF/\aK.nt=σ.nt/\Q e aK) act W
theorem ck8{n k:Nat}(h:k<n):List.range n=List.range k++k::List.range' (k+1) (n-(k+1)):=by
 obtain⟨m,rfl⟩:∃m,n=k+(m+1):=⟨n-k-1,by omega⟩
 rw[List.range_eq_range',List.range_eq_range',<-List.range'_append_1,pJ,List.range'_succ,show k+(m+1)-(k+1)=m by omega]
theorem map_take{ops:Array Oper}{k:Nat}(hk:k<=ops.size):(List.range k).map (ops[·]?)=(ops.toList.take k).map some:=by
 apply BE;intro i;simp only[gE,wD];by_cases hi:i<k
 ·have:i<ops.size:=by omega
  simp[hi,wD,gU,this]
 ·simp[hi,wD,gU]
theorem map_drop{ops:Array Oper}{k:Nat}(hk:k<ops.size):(List.range' (k+1) (ops.size-(k+1))).map (ops[·]?)=(ops.toList.drop (k+1)).map some:=by
 apply BE;intro i;simp only[gE,mF];by_cases hi:i<ops.size-(k+1)
 ·have:k+1+i<ops.size:=by omega
  simp[List.getElem?_range',hi,this]
 ·have:¬k+1+i<ops.size:=by omega
  simp[List.getElem?_range',hi,this]
section
variable {P : Program} {σ : AS} {Q : Exit -> AS -> Prop} {m : FuncId} {cargs : List AV}
theorem ck9{id:Nat}{ops:Array Oper}(k:Nat){o:Oper}{f:Operand}{as:Array Operand}{ts:Array TypeId}(ho:ops[k]? =some o)(hd:ops.toList.all (fY σ.nt)=true)(aO:o.op= .defer ⟨.value f,as,ts⟩)(hg:o.guard=none)
  (h:b9 P true ops (ops.toList.take k) σ (hold (fun aK=>fZ (aK.get true f) (dZ (aK.get true) as.toList)=some (m,cargs)/\b9 P true ops (ops.toList.drop (k+1)) (aK.put o.dst true (.c undef)) (Q .normal)) ⟨⟩)):AD P (.region id ops false) σ m cargs Q:=fun E W act hr h0=>by
 refine wpIn_region ?_;have hk:k<ops.size:=(jG.1 ho).1;have eR:∀x∈ops.toList,fY σ.nt x=true:=fun x hx=>by simpa using gK.1 hd x hx
 rw[ck8 hk];refine EC _ _ _ ?_;refine JV (ro:=none) (List.range k) (ops.toList.take k) (map_take (Nat.le_of_lt hk)) h (gK.2 fun x hx=>eR x (oS hx)) hr (fun E' W' aK cF hv cZ cM hK=> ?_)
 obtain⟨hc,hrest⟩:=hK
 show wpOpsIn Fence.wide 3 P ops _ (k::List.range' (k+1) (ops.size-(k+1))) cF W'
 simp only[wpOpsIn,ho];rw[if_pos (by simp[Region.wanted,hg])]
 obtain⟨first,cap,oL,hf,has,ZW⟩:=B4 hc
 have h1:=cZ.get rfl hf;have h2:=xA (E:=E') (W:=W') (ρ:=cF.eval) (fun x b hb=>cZ.get rfl hb) _ _ has
 generalize pB:cF.eval f=fv at h1;cases h1 with
 |fn _ _ _ vf vc hl cW h3 h4=>
 have mY:bX E' W' cargs ((vf++as.map cF.eval).toList++vc.toList):=by
  rw[ZW,show(vf++as.map cF.eval).toList++vc.toList=vf.toList++as.toList.map cF.eval++vc.toList by simp]
  refine(bX.append ?_ ?_).append ?_
  ·exact⟨by simpa using hl,fun i x v hx hv=>h3 i x v hx (by simpa using hv)⟩
  ·exact h2
  ·exact⟨by simpa using cW,fun i x v hx hv=>h4 i x v hx (by simpa using hv)⟩
 have dA:(execOp cF.eval o).run P W'= .ok (.defer {target:= .fn (.func m) vc,args:=vf++as.map cF.eval}) W':=by
  simp only[execOp,aO,resolve,pB,Deferred.ofValue,Sem.run_bind,Sem.run_pure,Result.andThen_ok]
 have cl0:HZ E' W' {target:= .fn (.func m) vc,args:=vf++as.map cF.eval} m cargs:=⟨_,_,rfl,mY⟩;refine⟨fun _ _=>trivial,?_⟩
 rw[show Fence.wide.round=none from rfl,Oper.semAt_none,dA]
 show wpOpsIn _ _ _ _ _ _ _ _
 have nC:Rel E' W' aK {cF with defers:={target:= .fn (.func m) vc,args:=vf++as.map cF.eval}::cF.defers}:=⟨cZ.defers.push rfl,cZ.size,cZ.env,cZ.heap⟩
 have Pt:=nC.put (dst:=o.dst) (pU (by rw[cM];exact eR o (eS (by simpa using ho)))) (c:=true) (a:= .c undef) (v:=undef) (fun _=> .c _ rfl) (fun h=>by cases h)
 refine JV (ro:=none) _ (ops.toList.drop (k+1)) (map_drop hk) hrest (gK.2 fun x hx=>by rw[AS.u6,cM];exact eR x (lJ hx)) Pt (fun E2 W2 HY aC8 fB Eh HR GX=> ?_)
 refine⟨E2,HY,_,hv.pS.trans fB.pS,fun D hD=> ?_,?_,cl0.mono fB.pS,Eh,?_,GX⟩
 ·rcases fB.new D hD with h5|h5
  ·rw[Act.put_defers]at h5
   rcases cG.1 h5 with h6|h6
   ·cases h6
   ·exact hv.new D h6
  ·exact .inr (s8 hv.pS.size h5)
 ·rw[fB.B0,Act.put_defers]
  show rF (_::_)=_
  unfold rF;rw[TQ (by rfl)]
  have:rF cF.defers=[]:=by rw[hv.B0];exact h0
  unfold rF at this;rw[this]
 ·rw[HR,AS.u6,cM]
theorem cl1{x y:Code}(h:AD P x σ m cargs (dR (fun aK=>AW P y aK Q) Q)):AD P (.seq x y) σ m cargs Q:=fun E W act hr h0=>by
 refine wpIn_seq (wpIn_mono (h E W act hr h0) fun e a w ⟨E',aK,d,hv,hm,ho,hd,cZ,cM,hq⟩=> ?_)
 cases e with
 |normal=>
  refine wpIn_mono (hq none E' w a (fun l hl=>by cases hl) cZ) fun e2 a2 w2 ⟨E2,HY,hw,nC,oP,oH⟩=>⟨E2,HY,d,hv.trans hw.pS,fun D hD=> ?_,hw.B0.trans ho,hd.mono hw.pS,nC,oP.trans cM,oH⟩
  rcases hw.new D hD with h5|h5
  ·exact hm D h5
  ·exact .inr (s8 hv.size h5)
 |_=>exact⟨E',aK,d,hv,hm,ho,hd,cZ,cM,hq⟩
theorem cl2{x y:Code}(h:AW P x σ (fun e aK=>e= .normal/\AD P y aK m cargs Q)):AD P (.seq x y) σ m cargs Q:=fun E W act hr h0=>by
 refine wpIn_seq (wpIn_mono (h none E W act (fun l hl=>by cases hl) hr) fun e a w ⟨E',aK,hw,cZ,cM,he,hq⟩=> ?_)
 subst he;refine wpIn_mono (hq E' w a cZ (hw.B0.trans h0)) fun e2 a2 w2 ⟨E2,HY,d,fB,wI,EJ,A9,nC,oP,oH⟩=>⟨E2,HY,d,hw.pS.trans fB,fun D hD=> ?_,EJ,A9,nC,oP.trans cM,oH⟩
 rcases wI D hD with h5|h5
 ·exact hw.new D h5
 ·exact .inr (s8 hw.pS.size h5)
end
theorem aD7{d:Deferred}:∀{l:List Deferred},rF l=[d]->∃l1 l2,l=l1++d::l2/\rF l1=[]/\rF l2=[]/\zH d=false
 |[],h=>by cases h
 |x::l,h=>by
  unfold rF at h;cases hx:zH x with
  |true=>
   rw[Z6 (by simp[hx])]at h
   obtain⟨l1,l2,rfl,h1,h2,h3⟩:=aD7 (l:=l) h;refine⟨x::l1,l2,rfl,?_,h2,h3⟩;unfold rF at h1⊢;rw[Z6 (by simp[hx])];exact h1
  |false=>
   rw[TQ (by simp[hx]),OA]at h
   obtain⟨rfl,h⟩:=h;exact⟨[],l,rfl,rfl,h,hx⟩
def YS(P:Program)(rs:List ResultVar)(m:FuncId)(cargs:List AV)(Q:AV->Heap->Prop):Exit->AS->Prop
 | .normal,σ=>qD P m cargs σ.H none (hold (fun H'=>p9 (jY P {σ with H:=H'} rs) (hold (fun a=>Q a H') ⟨⟩)) ⟨⟩)
 | .ret,σ=>qD P m cargs σ.H none (hold (fun H'=>p9 (jY P {σ with H:=H'} rs) (hold (fun a=>Q a H') ⟨⟩)) ⟨⟩)
 | .panic ch,σ=>∃x,ch=jD x/\qD P m cargs σ.H (some x) (hold (fun H'=>p9 (jY P {σ with H:=H'} rs) (hold (fun a=>Q a H') ⟨⟩)) ⟨⟩)
 |_,_=>False
theorem cl3{P:Program}{n:FuncId}{fn:Func}{c:Code}{args:List AV}{H:Heap}{Q:AV->Heap->Prop}{m:FuncId}{cargs:List AV}(hf:P.funcs[n]? =some fn)(hb:fn.body=some c)(fI:(fn.name== "runtime.NumGoroutine")=false)(hlen:args.length<=fn.ntmps)
  (h:AD P c ⟨mB 0 args,H,fn.ntmps⟩ m cargs (hold (YS P fn.results.toList m cargs (hold Q ⟨⟩)) ⟨⟩)):fU P n args H Q:=by
 refine⟨by unfold rD;rw[hf];simp[fI,hb],fun E W vs hH hr=> ?_⟩
 refine callsIn_wide.1 (callsIn_of_wp_marks (F:=Fence.wide) (n:=3) hf hb trivial ?_);refine wpIn_mono (h E W _ (YR hlen hH hr) rfl) fun e a w ⟨E',aK,d,hv,hm,ho,hd,cZ,cM,hq⟩=> ?_
 have fin:∀r:Option Value,qD P m cargs aK.H r (fun H'=>p9 (jY P {aK with H:=H'} fn.results.toList) (hold (fun a=>Q a H') ⟨⟩))->
   LeavesInM Fence.wide 3 P fn a.tmps (fun e W'=>∃v,e= .returned v/\∃E' r H',bE E W E' W'/\RH E' W' H'/\RV E' W' r v/\Q r H') a.defers (NU r) w:=fun r hq=>by
  obtain⟨Ds,rY,tG,xC⟩:=cZ.defers;have B7:∀D∈Ds,W.heap.size<=D:=fun D hD=>(hm D (MW rY hD)).resolve_left (fun h=>by cases h)
  obtain⟨l1,l2,hl,Rr,EJ,hdm⟩:=aD7 ho;rw[hl,KC,Z6 (by simp[hdm])]at rY
  obtain⟨Ds1,Rs,rfl,hE1,EP⟩:=List.map_eq_append_iff.1 rY.symm;rw[List.nodup_append]at tG;rw[hl]
  refine JW (I:=fun w'=>bE E W E' w'/\Rel E' w' aK {a with defers:=[]}/\HZ E' w' d m cargs/\∀D∈Rs,w'.heap[D]? =some (.deferred (some []))) (u:=NU r) (aD6 r) (rest:=d::l2) l1 Ds1 hE1.symm Rr tG.1
   (fun D hD w' hw hI=>⟨hI.1.shut hH.core.lim (B7 D (wB _ hD)),hI.2.1.shut hw,hI.2.2.1.shut hw,fun D' xB=> ?_⟩) (fun w' hI=> ?_) (fun D hD=>(xC D (wB _ hD)).1) ⟨hv,⟨Marks.nil _ _,cZ.size,cZ.env,cZ.heap⟩,hd,fun D hD=>(xC D (uE _ hD)).1⟩
  ·rw[World.putObj_heap_other (fun e=>tG.2.2 D hD D' xB e.symm)]
   exact hI.2.2.2 D' xB
  ·obtain⟨hI1,D2,⟨vf,vc,rfl,mY⟩,hI4⟩:=hI
   refine⟨aD6 r,.inr ⟨fun h=>by simp[Fence.wide]at h,.func m,vc,m,(vf.toList++vc.toList).toArray,rfl,?_,fun _ _=>trivial,?_⟩⟩
   ·simp only[invoke]
    rw[B6 hq.1];congr 2;apply CR;simp
   ·refine(hq.2 E' w' _ D2.heap mY).mono fun e u' w2 ⟨⟨v,he⟩,hu,E2,H2,fB,Qd,hQ2⟩=> ?_
    subst he;subst hu
    show LeavesInM Fence.wide 3 P fn a.tmps _ l2 (settle (ED r)) w2
    rw[ck7];obtain⟨b,sE,oH⟩:=HP hQ2
    have hI5:∀D∈Rs,w2.heap[D]? =some (.deferred (some [])):=fun D hD=>by
     rw[fB.tZ D (jG.1 (hI4 D hD)).1 (xC D (uE _ hD)).2];exact hI4 D hD
    have key:=JW (P:=P) (fn:=fn) (tmps:=a.tmps) (R:=fun e W'=>∃v,e= .returned v/\∃E' r H',bE E W E' W'/\RH E' W' H'/\RV E' W' r v/\Q r H') (I:=fun w'=>bE E W E2 w'/\Rel E2 w' ({aK with H:=H2}:AS) {a with defers:=[]}) (u:= .returning) (by simp) (rest:=[]) l2 Rs EP.symm EJ tG.2.1
     (fun D hD w' hw hI=>⟨hI.1.shut hH.core.lim (B7 D (uE _ hD)),hI.2.shut hw⟩) (fun w' hI=> ?_) hI5 ⟨hI1.trans fB,D2.mono fB Qd⟩
    ·rw[mD]at key;exact key
    ·obtain⟨v2,h5,h6⟩:=El hI.2 sE
     exact⟨v2,h5,v2,rfl,E2,b,H2,hI.1,hI.2.heap,h6,oH⟩
 cases e with
 |normal=>exact fin none hq
 |ret=>exact fin none hq
 |panic ch=>
  obtain⟨x,rfl,hq⟩:=hq;exact fin (some x) hq
 |_=>exact hq.elim
theorem aD9{P:Program}{I:World->Prop}:∀(ds:List Deferred) (Ds:List Nat),ds.filter zH=Ds.map tI->rF ds=[]->Ds.Nodup->(∀D∈Ds,∀w,w.heap[D]? =some (.deferred (some []))->I w->I (w.putObj D (.deferred none)))->
  ∀{fr:Frame} {cs:List Frame} {w:World},fr.mode≠ .run->fr.defers=ds->(∀D∈Ds,w.heap[D]? =some (.deferred (some [])))->I w->∃w',StepsIn (Machine.fenced P Fence.wide) P (lone fr cs w) (lone {fr with defers:=[]} cs w')/\I w'
 |[],_,_,_,_,_,fr,cs,w,_,hd,_,hI=>⟨w,by cases fr;simp only at hd;subst hd;exact StepsIn.refl _,hI⟩
 |d::ds,Ds,hm,ho,hn,hs,fr,cs,w,aE0,HJ,hw,hI=>by
  have hd:zH d=true:=by
   cases h:zH d with
   |true=>rfl
   |false=>
    unfold rF at ho;rw[TQ (by simp[h])]at ho
    cases ho
  rw[TQ hd]at hm;cases Ds with
  |nil=>simp at hm
  |cons D Ds=>
   rw[gJ,OA]at hm;obtain⟨rfl,hm⟩:=hm;have h0:=hw D (by simp)
   rw[Fv]at hn
   have yF:rF ds=[]:=by
    unfold rF at ho⊢;rw[Z6 (by simp[hd])]at ho
    exact ho
   have h1:=step_collected (P:=P) (cs:=cs) aE0 HJ rfl (run_takeDeferred h0)
   obtain⟨w',h2,h3⟩:=aD9 ds Ds hm yF hn.2 (fun D' xB=>hs D' (by simp[xB])) (fr:={fr with defers:=[]++ds}) (cs:=cs) aE0 rfl (fun D' xB=>by
    rw[World.putObj_heap_other (fun e=>hn.1 (by rw[<-e];exact xB))]
    exact hw D' (by simp[xB])) (hs D (by simp) w h0 hI)
   exact⟨w',.head (fenced_wide P _) h1 h2,h3⟩
def YT(P:Program)(fn:Func)(uD:Frame)(cs:List Frame)(R:Ending->FrameMode->World->Prop)(e:Exit)(a:Act)(K6:List Frame)(w:World):Prop:=
 (e= .normal\/e= .ret)/\∃u',K6={uD with mode:=u'}::cs/\∀fr:Frame,fr.mode= .returning->fr.defers=a.defers->
   ∃w',StepsIn (Machine.fenced P Fence.wide) P (lone fr K6 w) (lone {fr with defers:=[]} K6 w')/\∃v,(results fn a.tmps).run P w'= .ok v w'/\R (.returned v) u' w'
theorem cm0{P:Program}{m:FuncId}{fn:Func}{c:Code}{args:Array Value}{u:FrameMode}{w:World}{R:Ending->FrameMode->World->Prop}
  (hf:P.funcs[m]? =some fn) (hb:fn.body=some c)
  (h:∀(uD:Frame) (cs:List Frame),uD.mode=u->c.wpSIn Fence.wide 2 P (YT P fn uD cs R) {tmps:=args++Array.replicate (fn.ntmps-args.size) undef,defers:=[]} (uD::cs) w):
  CallsDIn Fence.wide 2 P m args u w R:=by
 refine⟨trivial,fun uD cs hu DH=> ?_⟩
 let b:Frame:={(default:Frame)with fn:=m,kind:= .deferred,roundOf:=none}
 have cm1:Frame.enter P m args .deferred=
   b.atR {tmps:=args++Array.replicate (fn.ntmps-args.size) undef,defers:=[]} [.code c]:=by
  simp[Frame.enter,Frame.atR,hf,hb,b]
 obtain⟨e,a',K6,w',hl,⟨he,u',rfl,hq⟩,FQ⟩:=h uD cs hu b [] rfl rfl trivial DH;rw[<-cm1]at FQ;rcases he with rfl|rfl
 ·obtain⟨w2,hs,v,hr,hR⟩:=hq {b.atR a' []with mode:= .returning} rfl rfl
  exact⟨.returned v,u',w2,_,hR,StepsIn.trans FQ (.head (fenced_wide P _) (stepR_end rfl) hs),rfl,rfl,rfl,rfl,fn,hf,hr⟩
 ·obtain⟨todo,l7⟩:=FQ.1 rfl
  obtain⟨w2,hs,v,hr,hR⟩:=hq {b.atR a' todo with mode:= .returning} rfl rfl
  exact⟨.returned v,u',w2,_,hR,StepsIn.trans l7 hs,rfl,rfl,rfl,rfl,fn,hf,hr⟩
end Go.AL
namespace Go.AL
open Go.RowKit
section
variable {P : Program} {ops : Array Oper}
theorem aE1{Q:Exit->Act->World->Prop}{K:AS->Prop}{nt k0 kx:Nat}{ox:Oper}{x:Value}(TD:ops[kx]? =some ox)(HV:∀(j:Nat) o,ops[j]? =some o->∀k∈vC o,k<j)(NK:∀j,k0<=j->j<ops.size->∀i,i<j->Reach ops.toList i j)
  (hd:ops.toList.all (fY nt)=true) {E0:Env} {W0:World} {A0:Act} {ro:Option Nat} (hQ:∀E W act σ,eE E0 W0 A0 E W act->Rel E W σ act->σ.nt=nt->K σ->Q (.panic (jD x)) act W):
  ∀(d m:Nat),kx-m=d->m<=kx->k0<=m->∀(fuel:Nat) (l:Array Bool) (E:Env) (W:World) (act:Act) (σ:AS),l.size=ops.size->(List.range ops.size).countP (fun i=> !cB l i)<=fuel->(∀i,cB l i=decide (i<m))->
   eE E0 W0 A0 E W act->Rel E W σ act->σ.nt=nt->b9 P true ops ((ops.toList.drop m).take (kx-m)) σ (hold (fun s=>XW P ox s x/\K s) ⟨⟩)->wpAnyIn (kK ro) 3 P .any ops Q fuel l act W
 |d,m,hm,hle,hk,fuel,l,E,W,act,σ,hl,FV,hex,hv,hr,cM,h=>by
  have sG:m<ops.size:=by have:=(jG.1 TD).1;omega
  have iE:YD ops.toList (cB l):=fun j o ho hj k hk=>by
   rw[hex]at hj⊢;simp at hj⊢;have:=HV j o (by simpa using ho) k hk
   omega
  have YL:m∈Region.ready .any ops l:=by
   rw[mem_ready];have h1:cB l m=false:=by rw[hex];simp
   have bU:l.getD m true=false:=by
    have:m<l.size:=by omega
    simp[cB,this]at h1;simp[this,h1]
   refine⟨bU,ops[m],G5 sG,fun e he hb=> ?_⟩
   have hk:e.on∈vC ops[m]:=kV.2 ⟨e,pC.2 ⟨by simpa using he,hb⟩,rfl⟩
   have:=HV m _ (G5 sG) e.on hk
   show cB l e.on=true
   rw[hex];simpa using this
  have h2:0<(List.range ops.size).countP (fun i=> !cB l i):=aH5.2 ⟨m,by simpa using sG,by rw[hex];simp⟩
  obtain⟨fuel,rfl⟩:∃f,fuel=f+1:=⟨fuel-1,by omega⟩
  refine⟨(fun dS=>by rw[dS]at YL;cases YL),fun j hj=> ?_⟩
  obtain⟨h0,o,ho,YG⟩:=mem_ready.1 hj;have DZ:j<ops.size:=(jG.1 ho).1
  have tA:cB l j=false:=by
   have:j<l.size:=by omega
   simp[this]at h0;simp[cB,this,h0]
  have rP:ops.toList[j]? =some o:=by simpa using ho
  have HX:∀k∈vC o,cB l k=true:=fun k hk=>by
   obtain⟨e,he,rfl⟩:=kV.1 hk;obtain⟨lC,mX⟩:=pC.1 he;exact YG e (by simpa using lC) mX
  have SB:∀i,Reach ops.toList i j->cB l i=true:=fun i h=>by
   cases h with
   |step h hi=>rw[rP]at h;injection h with h;subst h;exact HX _ hi
   |trans h hk hr=>rw[rP]at h;injection h with h;subst h;exact hr.closed iE (HX _ hk)
  have Ro:j=m:=by
   have h3:m<=j:=by rw[hex]at tA;simpa using tA
   rcases oA m j with h4|h4
   ·have:=SB m (NK j (by omega) DZ m h4)
    rw[hex]at this;simp at this
   ·omega
  subst Ro;by_cases hz:j=kx
  ·subst hz
   rw[TD]at ho;injection ho with ho
   subst ho;rw[CM,xE]at h;obtain⟨⟨hg,hx⟩,hK⟩:=h;unfold wpOpIn;simp only[TD];rw[if_pos (by simp[Region.wanted,hg])]
   exact hx ro E W act _ _ hr fun W' lR cZ=>hQ E W' act σ (hv.trans (.of lR rfl)) cZ cM hK
  cases d with
  |zero=>omega
  |succ d=>
   have bG:j<kx:=by omega
   rw[Fu (by simpa using sG),show kx-j=(kx-(j+1))+1 by omega,G4]at h
   have Rp:ops.toList[j]'(by simpa using sG)=o:=by
    rw[eQ (by simpa using sG)]at rP
    exact KG rP
   rw[Rp]at h
   have mJ:∀i,cB (l.setIfInBounds j true) i=(cB l i||decide (i=j)):=fun i=>by
    unfold cB;by_cases mL:i=j
    ·subst mL
     have:i<l.size:=by omega
     simp[this]
    ·simp[Gi (mQ mL),mL]
   have F8:fY σ.nt o=true:=by rw[cM];exact gK.1 hd o (by rw[I8];exact I9 ho)
   have dA:=XM (ro:=ro) (next:=wpAnyIn (kK ro) 3 P .any ops Q fuel (l.setIfInBounds j true)) (Q:=Q) h F8 hr (fun E' W' aK cF lR cZ YM hK=>by
    refine aE1 TD HV NK hd hQ d (j+1) (by omega) (by omega) (by omega) fuel _ E' W' cF aK (by simpa using hl) ?_ (fun i=> ?_) (hv.trans lR) cZ (YM.trans cM) hK
    ·have key:∀n,j<n->(List.range n).countP (fun i=> !cB (l.setIfInBounds j true) i)<(List.range n).countP (fun i=> !cB l i):=by
      intro n
      induction n with
      |zero=>intro h;omega
      |succ n YJ=>
       intro aC4;rw[yK,Z8,Z8];by_cases aJ:j=n
       ·subst aJ
        have hle:(List.range j).countP (fun i=> !cB (l.setIfInBounds j true) i)<=(List.range j).countP (fun i=> !cB l i):=aH6 fun i _ h=>by
         rw[mJ]at h;simp at h;simp[h.1]
        have YK:cB (l.setIfInBounds j true) j=true:=by rw[mJ];simp
        simp only[Z9,ZA,YK,tA,TI,Fw,mG,if_true,if_false];omega
       ·have:=YJ (by omega)
        have hn:cB (l.setIfInBounds j true) n=cB l n:=by rw[mJ];simp[mQ aJ]
        simp only[Z9,ZA,hn];omega
     have:=key _ sG;omega
    ·rw[mJ,hex]
     by_cases h5:i<j
     ·simp[h5];omega
     ·by_cases h6:i=j
      ·simp[h6]
      ·simp[h5,h6];omega)
   unfold wpOpIn;simp only[ho];by_cases hw:Region.wanted o (yielded ops act.tmps)=true
   ·simp only[hw,if_true]at dA⊢
    exact dA
   ·simp only[hw]at dA⊢
    exact⟨fun _ _=>trivial,dA⟩
end
theorem cm2{P:Program}{σ aK:AS}{Q:Exit->AS->Prop}{id:Nat}{ops:Array Oper}{es:List Entry}(k0 kx:Nat){ox:Oper}{x:Value}(TD:ops[kx]? =some ox)(Rt:k0<=kx)(hm:P.follows .mixedOrders=true)(hs:CJ ops=true)(ht:NM ops.toList k0=true)(hd:ops.toList.all (fY σ.nt)=true)
  (hr:gP P ops.toList σ.H.next 0 (ops.toList.take k0) {σ with H:=⟨σ.H.next+ops.size,σ.H.get⟩} es aK) (uB:zK (tab ops.toList) 0 [] es=true) (h:b9 P true ops ((ops.toList.drop k0).take (kx-k0)) aK (hold (fun s=>XW P ox s x/\Q (.panic (jD x)) s) ⟨⟩)):AW P (.region id ops true) σ Q:=fun ro E W act eN cC=>by
 obtain⟨h1,h2⟩:=aA9 hs;obtain⟨hk,F7⟩:=aC6 ht;obtain⟨h3,h4,h5⟩:=hr.Gq hk (σ0:={σ with H:=⟨σ.H.next+ops.size,σ.H.get⟩}) [] rfl rfl (iG _) rfl
 simp only[pW]at h3 h4 h5;have YN:=(Rb es 0 [] uB).2;simp only[pJ]at YN
 have NN:∀i,cB (Array.replicate ops.size false) i=false:=fun i=>by
  unfold cB;by_cases kN:i<ops.size<;>simp[kN]
 refine wpIn_region_any hm ?_
 refine aB4 (N0:=σ.H.next) (σ0:={σ with H:=⟨σ.H.next+ops.size,σ.H.get⟩}) (es:=es) (E0:=E) (W0:=W) (A0:=act) hk h3 F7 (fun j o e ho he=>h5 j o e (iG _) ho he) h1 h2 (fun i j a b mL ha hb hc=>Fh (YN i j a b mL ha hb hc)) hd (by simp only[];omega)
  (fun fuel l E' W' cF hl FV hex hv cZ=>aE1 (K:=Q (.panic (jD x))) (nt:=σ.nt) TD h1 F7 hd (E0:=E) (W0:=W) (fun E2 W2 aC8 HY fB nC HR hK=>⟨E2,HY,fB,nC,HR,hK⟩) (kx-k0) k0 rfl Rt (cE _) fuel l E' W' cF aK hl FV hex hv (by rw[h4];exact cZ) (by rw[h4,K2]) h)
  ops.size (Array.replicate ops.size false) E W.drew act (by simp) ?_ ?_ (fun i _=>NN i) (eE.of (bE.drew E W) rfl) ?_ ?_
 ·have:=List.countP_le_length (p:=fun i=> !cB (Array.replicate ops.size false) i) (l:=List.range ops.size)
  simpa using this
 ·intro j o _ hj
  rw[NN]at hj;cases hj
 ·have heq:∀k,nM ops es {σ with H:=⟨σ.H.next+ops.size,σ.H.get⟩} (cB (Array.replicate ops.size false)) k={σ with H:=⟨σ.H.next+ops.size,σ.H.get⟩}:=by
   intro k
   induction k with
   |zero=>rfl
   |succ k ih=>simp only[nM,NN,mG,if_false];exact ih
  rw[heq];exact⟨cC.defers.mono (bE.drew E W),cC.size,fun t c a ha=>let ⟨v,h1,h2,h3⟩:=cC.env t c a ha;⟨v,h1,fun hc=>(h2 hc).mono (bE.drew E W),h3⟩,⟨fun id aB=>vF (cC.heap.next id aB) (Nat.le_add_right _ _),cC.heap.core.drew⟩⟩
 ·exact fun id aB=> .inl (cC.heap.next id aB)
theorem cm3{P:Program}{m:FuncId}{fn:Func}{id:Nat}{ops:Array Oper}{y:Code}{args:List AV}{H:Heap}{r:Option Value}{Q:Heap->Prop}{o o2:Oper}{ts:Array TypeId}{t:Tmp}(hf:P.funcs[m]? =some fn)(hb:fn.body=some (.seq (.region id ops false) y))(fI:(fn.name== "runtime.NumGoroutine")=false)(hlen:args.length<=fn.ntmps)
  (ho:ops= #[o,o2]) (aO:o.op= .call ⟨.builtin .recover,#[],ts⟩) (hg:o.guard=none) (FW:o.dst=some t) (Ru:o2.op= .assign (.tmp t)) (GU:o2.guard=none) (hd:fY fn.ntmps o=true) (A9:fY fn.ntmps o2=true) (hx:AQ (rZ r)=false)
  (h:AW P y ((({env:=mB 0 args,H:=H,nt:=fn.ntmps}:AS).put o.dst true (.c (rZ r))).put o2.dst true (.c (rZ r))) (hold (fun e σ=>(e= .normal\/e= .ret)/\(∃a,jY P σ fn.results.toList=some a)/\Q σ.H) ⟨⟩)):qD P m args H r Q:=by
 refine⟨by unfold rD;rw[hf];simp[fI,hb],fun E W vs hH hr=> ?_⟩
 refine cm0 hf hb fun uD cs hu=> ?_
 have cC:=YR hlen hH hr;refine wpSIn_seq (wpSIn_region ?_);have dA:∀ρ,(execOp ρ o).run P W= .ok .recover W:=fun ρ=>by simp[execOp,aO,resolve,invoke,builtin]
 have wQ:=cC.put (dst:=o.dst) (pU hd) (c:=true) (a:= .c (rZ r)) (v:=rZ r) (fun _=> .c _ hx) (fun h=>by cases h)
 have bU:(({tmps:=vs.toArray++Array.replicate (fn.ntmps-vs.toArray.size) undef,defers:=[]}:Act).put o.dst (rZ r)).eval (.tmp t)=rZ r:=by
  have h2:=wQ.get (c:=true) rfl (x:= .tmp t) (a:= .c (rZ r)) (by simp[AS.get,AS.put,FW,lk,AY])
  generalize (({tmps:=vs.toArray++Array.replicate (fn.ntmps-vs.toArray.size) undef,defers:=[]}:Act).put o.dst (rZ r)).eval (.tmp t)=u at h2;cases h2;rfl
 have cm4:(execOp (({tmps:=vs.toArray++Array.replicate (fn.ntmps-vs.toArray.size) undef,defers:=[]}:Act).put o.dst (rZ r)).eval o2).run P W= .ok (.value (rZ r)) W:=by
  simp only[execOp,Ru,bU,Sem.run_pure]
 subst ho
 show wpOpsSIn Fence.wide 2 P #[o,o2] _ [0,1] _ _ _
 have main:y.wpSIn Fence.wide 2 P (YT P fn uD cs fun e u' W'=>(∃v,e= .returned v)/\u'=ED r/\∃E' H',bE E W E' W'/\RH E' W' H'/\Q H') ((({tmps:=vs.toArray++Array.replicate (fn.ntmps-vs.toArray.size) undef,defers:=[]}:Act).put o.dst (rZ r)).put o2.dst (rZ r)) ({uD with mode:=ED r}::cs) W:=by
  have nC:=wQ.put (dst:=o2.dst) (pU (by rw[AS.u6];exact A9)) (c:=true) (a:= .c (rZ r)) (v:=rZ r) (fun _=> .c _ hx) (fun h=>by cases h)
  refine wpSIn_of_wpIn rfl ?_;refine wpIn_wide.2 (wpIn_wide.1 (wpIn_mono (h none E W _ (fun l hl=>by cases hl) nC) fun e a w ⟨E',aK,hw,cZ,hn,he,⟨b,hb⟩,hq⟩=>⟨he,_,rfl,fun fr hm HJ=> ?_⟩))
  obtain⟨Ds,rY,tG,xC⟩:=cZ.defers;have B7:∀D∈Ds,W.heap.size<=D:=fun D hD=>(hw.new D (MW rY hD)).resolve_left (fun h=>by rw[Act.put_defers,Act.put_defers]at h;cases h)
  obtain⟨w',hs,hI⟩:=aD9 (P:=P) (I:=fun w'=>bE E W E' w'/\Rel E' w' aK {a with defers:=[]}) a.defers Ds rY (by rw[hw.B0,Act.put_defers,Act.put_defers];rfl) tG (fun D hD w' Fl hI=>⟨hI.1.shut hH.core.lim (B7 D hD),hI.2.shut Fl⟩) (fr:=fr) (cs:=_) (by rw[hm];simp) HJ (fun D hD=>(xC D hD).1) ⟨hw.pS,⟨Marks.nil _ _,cZ.size,cZ.env,cZ.heap⟩⟩
  obtain⟨v,h5,h6⟩:=El hI.2 hb;exact⟨w',hs,v,h5,⟨v,rfl⟩,rfl,E',aK.H,hI.1,hI.2.heap,hq⟩
 have h3:∀K6,y.wpSIn Fence.wide 2 P (YT P fn uD cs fun e u' W'=>(∃v,e= .returned v)/\u'=ED r/\∃E' H',bE E W E' W'/\RH E' W' H'/\Q H') ((({tmps:=vs.toArray++Array.replicate (fn.ntmps-vs.toArray.size) undef,defers:=[]}:Act).put o.dst (rZ r)).put o2.dst (rZ r)) K6 W->
   wpOpsSIn Fence.wide 2 P #[o,o2] (Exit.thenS (y.wpSIn Fence.wide 2 P (YT P fn uD cs fun e u' W'=>(∃v,e= .returned v)/\u'=ED r/\∃E' H',bE E W E' W'/\RH E' W' H'/\Q H')) (YT P fn uD cs fun e u' W'=>(∃v,e= .returned v)/\u'=ED r/\∃E' H',bE E W E' W'/\RH E' W' H'/\Q H')) [1] (({tmps:=vs.toArray++Array.replicate (fn.ntmps-vs.toArray.size) undef,defers:=[]}:Act).put o.dst (rZ r)) K6 W:=fun K6 hm=>by
  unfold wpOpsSIn;simp only[wE,vE,nE];refine⟨fun _ _=>trivial,?_⟩
  rw[if_pos (by simp[Region.wanted,GU]),cm4]
  exact hm
 unfold wpOpsSIn;simp only[wE,nE];refine⟨fun _ _=>trivial,?_⟩
 rw[if_pos (by simp[Region.wanted,hg]),dA]
 cases r with
 |none=>
  have h1:recoverD (uD::cs)=none:=by simp[recoverD,hu,NU]
  have h2:({uD with mode:=ED none}:Frame)=uD:=by cases uD;simp only at hu;subst hu;rfl
  rw[h2]at main;simp only[h1];exact h3 _ main
 |some x=>
  have h1:recoverD (uD::cs)=some (x,{uD with mode:=ED (some x)}::cs):=by simp[recoverD,hu,NU,ED,jD]
  simp only[h1];exact h3 _ main
end Go.AL
namespace Go.AL
attribute [go_sem] Pk Pl XD HI rZ
structure qX(id k:Nat)(x:Value):Prop where
theorem Ii{P:Program}{n:FuncId}{fn:Func}{c:Code}{args:List AV}{x:Value}{nt:Nat}(hf:P.funcs[n]? =some fn)(cM:fn.ntmps=nt)
  (h:AW P c ⟨mB 0 args,⟨0,cV []⟩,nt⟩ (hold (fun e _=>e= .panic (jD x)) ⟨⟩))
  (hb:fn.body=some c:=by(first|rfl|fail)) (fI:(fn.name== "runtime.NumGoroutine")=false:=by(first|kernel_rfl|fail)) (hlen:args.length<=nt:=by(simp only[dK,fJ];decide)):IK P n args x:=by
 refine ck3 hf hb fI (by rw[cM];exact hlen) ?_
 rw[cM];exact h
theorem Aa{P:Program}{m:FuncId}{fn:Func}{id:Nat}{ops:Array Oper}{y:Code}{args:List AV}{H:Heap}{r:Option Value}{Q:Heap->Prop}{o o2:Oper}{ts:Array TypeId}{t t2:Tmp}{rs:List ResultVar}{nt:Nat}(hf:P.funcs[m]? =some fn)(cM:fn.ntmps=nt)
  (h:AW P y ⟨(t2,true,.c (rZ r))::(t,true,.c (rZ r))::mB 0 args,H,nt⟩ (hold (fun e σ=>(e= .normal\/e= .ret)/\(∃a,jY P σ rs=some a)/\Q σ.H) ⟨⟩)) (hb:fn.body=some (.seq (.region id ops false) y):=by(first|rfl|fail)) (hr:fn.results=List.toArray rs:=by(first|rfl|fail)) (fI:(fn.name== "runtime.NumGoroutine")=false:=by(first|kernel_rfl|fail)) (hlen:args.length<=nt:=by(simp only[dK,fJ];decide))
  (ho:ops= #[o,o2]:=by(first|rfl|fail)) (aO:o.op= .call ⟨.builtin .recover,#[],ts⟩:=by(first|rfl|fail)) (hg:o.guard=none:=by(first|rfl|fail)) (FW:o.dst=some t:=by(first|rfl|fail)) (Ru:o2.op= .assign (.tmp t):=by(first|rfl|fail)) (cm5:o2.dst=some t2:=by(first|rfl|fail)) (GU:o2.guard=none:=by(first|rfl|fail)) (hd:fY nt o=true:=by(first|rfl|fail)) (A9:fY nt o2=true:=by(first|rfl|fail)) (hx:AQ (rZ r)=false:=by(first|rfl|fail)):qD P m args H r Q:=by
 subst cM;refine cm3 hf hb fI hlen ho aO hg FW Ru GU hd A9 hx ?_;simp only[AS.put,FW,cm5];rw[hr];exact h
section
variable {P : Program} {σ : AS} {Q : Exit -> AS -> Prop} {Q' : Prop}
theorem Fm{id k:Nat}{ops:Array Oper}{o:Oper}{x:Value}{l:List Oper}(h:b9 P true ops l σ (hold (fun aK=>XW P o aK x/\Q (.panic (jD x)) aK) ⟨⟩))(s:qX id k x:=by assumption)(ho:ops[k]? =some o:=by(first|rfl|fail))(hl:ops.toList.take k=l:=by(first|rfl|fail))
  (hd:(ops.toList.take k).all (fY σ.nt)=true:=by(first|rfl|fail)):AW P (.region id ops false) σ Q:=by
 subst hl;exact ck4 k ho hd h
theorem Iv{id k k0:Nat}{aK:AS}{ops:Array Oper}{o:Oper}{x:Value}{l:List Oper}{es:List Entry}(s2:qX (id+1000) k0 .nilIface)(h:b9 P true ops l aK (hold (fun aK=>XW P o aK x/\Q (.panic (jD x)) aK) ⟨⟩))(s:qX id k x:=by assumption)(Rt:k0<=k:=by decide)(ho:ops[k]? =some o:=by(first|rfl|fail))(hl:(ops.toList.drop k0).take (k-k0)=l:=by(first|rfl|fail))(ht:NM ops.toList k0=true:=by(first|kernel_rfl|fail))(hm:P.follows .mixedOrders=true:=by(first|kernel_rfl|fail))(hs:CJ ops=true:=by(first|kernel_rfl|fail))(hd:ops.toList.all (fY σ.nt)=true:=by(first|rfl|fail))
  (hr:gP P ops.toList σ.H.next 0 (ops.toList.take k0) {σ with H:=⟨σ.H.next+ops.size,σ.H.get⟩} es aK:=by(first|(apply eO;(next=>(exact aL));(repeat (first|exact NJ|(apply NP;(next=>(first|rfl|fail));(next=>(exact aL));apply eO;(next=>(exact aL)))|(apply TB;(next=>(first|rfl|fail));(next=>(first|rfl|fail));(next=>(exact aL));(next=>(first|assumption|(apply_assumption<;>first|assumption|omega)|fail));apply eO;(next=>(exact aL)))|(apply TA;(next=>(first|rfl|fail));(next=>(first|rfl|fail));(next=>(exact aL));(next=>(first|assumption|(apply_assumption<;>first|assumption|omega)|fail));apply eO;(next=>(exact aL)))|(apply TC;(next=>(first|rfl|fail));(next=>(first|rfl|fail));(next=>(exact aL));(next=>(exact aL));(next=>(exact aL));(next=>(first|assumption|(apply_assumption<;>first|assumption|omega)|fail));(next=>(first|exact jP|(simp[fQ,eV,fC,fN,jB,jC,jA, *];done)|fail));apply eO;(next=>(exact aL)))|(apply NO;(next=>(first|rfl|fail));(next=>(first|rfl|fail));(next=>(exact aL));(next=>(first|assumption|(apply_assumption<;>first|assumption|omega)|fail));(next=>(first|exact jP|(simp[fQ,eV,fC,fN,jB,jC,jA, *];done)|fail));apply eO;(next=>(exact aL)))|(apply NQ;(next=>(first|rfl|fail));(next=>(first|rfl|fail));(next=>(exact aL));(next=>(exact aL));(next=>(first|assumption|(apply_assumption<;>first|assumption|omega)|fail));(next=>(first|exact jP|(simp[fQ,eV,fC,fN,jB,jC,jA, *];done)|fail));apply eO;(next=>(exact aL)))|(apply NR;(next=>(first|rfl|fail));(next=>(first|rfl|fail));(next=>(exact aL));(next=>(exact aL));(next=>(exact aL));(next=>(first|assumption|(apply_assumption<;>first|assumption|omega)|fail));(next=>(first|exact jP|(simp[fQ,eV,fC,fN,jB,jC,jA, *];done)|fail));apply eO;(next=>(exact aL)))|(apply NS;(next=>(first|rfl|fail));(next=>(first|rfl|fail));(next=>(exact aL));(next=>(exact aL));(next=>(exact aL));(next=>(exact aL));(next=>(first|assumption|(apply_assumption<;>first|assumption|omega)|fail));(next=>(first|exact jP|(simp[fQ,eV,fC,fN,jB,jC,jA, *];done)|fail));apply eO;(next=>(exact aL))))))|fail))
  (uB:zK (tab ops.toList) 0 [] es=true:=by(first|(simp(maxSteps:=2000000) (disch:=omega) only[go_sem,N5,N6, *]<;>kernel_rfl)|fail)):AW P (.region id ops true) σ Q:=cm2 k0 k ho Rt hm hs ht hd hr uB (by rw[hl];exact h)
theorem Fo{o:Oper}{x:Value}{f:Operand}{as:Array Operand}{ts:Array TypeId}{n:FuncId}{args:List AV}(h:Q')(aO:o.op= .call ⟨.value f,as,ts⟩:=by(first|rfl|fail))(hg:o.guard=none:=by(first|rfl|fail))
  (hc:fZ (σ.get true f) (dZ (σ.get true) as.toList)=some (n,args):=by(exact aL)) (hx:IK P n args x:=by(first|assumption|(apply_assumption<;>first|assumption|omega)|fail)) (hn:∀a∈args,bK a:=by(first|exact jP|(simp[fQ,eV,fC,fN,jB,jC,jA, *];done)|fail)):XW P o σ x/\Q':=⟨ck5 aO hg hc hn hx,h⟩
theorem Fp{o:Oper}{y:Operand}{t:TypeId}{v:Value}(h:Q')(aO:o.op= .panic y:=by(first|rfl|fail))(hg:o.guard=none:=by(first|rfl|fail))
  (hy:σ.get true y=some (.c (.iface t v)):=by(exact aL)):XW P o σ (.iface t v)/\Q':=⟨ck6 aO hg hy,h⟩
theorem tY{next:AS->Prop}{ch:List PanicEntry}(h:Q (.panic ch) σ):dR next Q (.panic ch) σ:=h
theorem Fq{id:Nat}{ch:List PanicEntry}(h:Q (.panic ch) σ):eH id Q (.panic ch) σ:=h
end
theorem sH{A B:Prop}(h:B)(w:bB B->A:=by
  (intro hB;(repeat (first|refine vQ ?_|refine Fm ?_|refine Fo ?_|refine Fp ?_|refine tY ?_|refine Fq ?_|refine DX ?_|refine tF ?_|refine N7 ?_|refine bR ?_|refine gT ?_|refine RU ?_|refine RX ?_|refine RY ?_|refine RZ ?_|refine S3 ?_|refine S4 (by decide) ?_|refine RJ ?_|refine kF ?_|refine RO ?_|refine RP ?_|refine SZ ?_|refine T0 ?_|refine T1 ?_|refine T4 ?_|refine T5 ?_|refine T6 ?_|refine SH ?_|refine SI ?_|refine SV ?_|refine SW ?_|refine SX ?_|refine SY ?_|refine SS ?_|refine SU ?_|refine SF ?_|refine SG ?_|refine SJ ?_|refine FD ?_|refine RN ?_|refine RL ?_|refine SC ?_|refine SE ?_|refine SK ?_|refine SO ?_|refine YP ?_|refine SL ?_|refine SQ ?_|refine SP ?_|refine SM ?_|refine SN ?_|refine T7 ?_|refine T8 ?_|refine T9 ?_|refine MA ?_));exact hB.out)):A:=w ⟨h⟩
end Go.AL
