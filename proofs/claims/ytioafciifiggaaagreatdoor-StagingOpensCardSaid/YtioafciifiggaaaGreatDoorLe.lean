/- Staging. No condition. -/
import Derived.Test.YtioafciifiggaaaGreatDoorL0
import Derived.Test.YtioafciifiggaaaGreatDoorLc
import Derived.RecoverIn
set_option linter.all false
namespace Go.AL
theorem aJ.{u}{α:Sort u}{a b:α}(w:a=b:=by(simp(maxSteps:=2000000) (disch:=omega) only[go_sem, *]<;>exact rfl)):a=b:=w
theorem iN{p:Prop}(w:p:=by(simp(maxSteps:=2000000) only[go_sem,iH,iI,false_implies,implies_true, *]<;>fail)):p:=w
theorem m5{p:Prop}(w:p:=by(simp(maxSteps:=2000000) (disch:=omega) only[go_sem, *]<;>fail)):p:=w
theorem bm9(k:Nat){P:Program}{n:FuncId}{fn:Func}{c:Code}{args:List AV}{Q:AV->Prop}(hf:P.funcs[n]? =some fn)(hb:fn.body=some c)(fP:(fn.name== "runtime.NumGoroutine")=false)(hlen:args.length<=fn.ntmps)
  (h:AW P c ⟨lK 0 args,⟨0,dH []⟩,fn.ntmps⟩ (hold (cB P fn.results.toList (hold (fun a H'=>bJ (cT H'.get k a)/\Q (cT H'.get k a)) ⟨⟩)) ⟨⟩)):fD P n args Q:=by
 have hA:=EI hf hb fP hlen h;refine⟨hA.1,fun L W vs hL hr=> ?_⟩
 have lR:RH (fM L) W ⟨0,dH []⟩:=⟨fun id h=>h.elim,hL,fun id h=>h.elim,fun id b h=>by cases h⟩
 refine(hA.2 (fM L) W vs lR hr).mono fun e W' ⟨v,he,E',r,H',hv,hH,iF,gG,hq⟩=> ?_
 refine⟨v,he,cT H'.get k r,fun b=>if b<W.heap.size then L b else max (E'.L b) (match W'.heap[b]? with|some (.cells cur _ _)=>cur.size|_=>0),⟨hv.os,hv.tape,hv.output,hv.size,fun k hk=>hv.sD k hk fun id h=>h.elim⟩,fun b bZ=> ?_,fun b bZ=> ?_,?_,gG,hq⟩
 ·simp[bZ]
 ·have h1:¬b<W.heap.size:=by have:=hv.size;omega
  simp[h1,hH.core.lim b bZ,PJ bZ]
 ·refine K5 hH.core (fun b=> ?_) (fun id hU cur e f hc=> ?_) k iF gG
  ·by_cases bZ:b<W.heap.size
   ·rw[hv.still b bZ fun id h=>h.elim]
    simp[bZ,fM]
   ·simp[bZ];omega
  ·have h1:¬E'.ι id<W.heap.size:=by
    rcases hv.fresh id (fun h=>h) hU with h2|⟨rF,h2,_⟩
    ·omega
    ·exact h2.elim
   simp[h1,hc];omega
set_option linter.constructorNameAsVariable false
end Go.AL
namespace Go.AL
theorem L3{P:Program}{n:FuncId}{fn:Func}{c:Code}{args:List AV}{e:TypeId}{k:Nat}{rows:List (List AV)}{rs:List ResultVar}{nt:Nat}(hf:P.funcs[n]? =some fn)(cU:fn.ntmps=nt)(ha:∀a∈args,bJ a)(dB:∀row∈rows,∀x∈row,bJ x)
  (h:AW P c ⟨lK 0 args,⟨0,dH []⟩,nt⟩ (hold (cB P rs (hold (fun a H'=>∃i,a= .own i 0 rows.length/\H'.get i=some (.cells e k rows true true)) ⟨⟩)) ⟨⟩))
  (hb:fn.body=some c:=by rfl) (hr:fn.results=List.toArray rs:=by rfl) (fP:(fn.name== "runtime.NumGoroutine")=false:=by kernel_rfl) (hlen:args.length<=nt:=by(simp only[eI,gL];decide)):rR P n args e k rows:=by
 refine NO ha dB hf hb fP (by rw[cU];exact hlen) ?_
 rw[cU,hr];exact h
theorem iI{rows:List (List AV)}{i o:Nat}:bJ (.dJ rows i o)↔∀row∈rows,∀x∈row,bJ x:=⟨fun h=>by cases h;assumption,.dJ rows i o⟩
theorem iH{f:Fn}{xs ys:List AV}:bJ (.fn f xs ys)↔(∀x∈xs,bJ x)/\∀x∈ys,bJ x:=⟨fun h=>by cases h;exact⟨by assumption,by assumption⟩,fun h=> .fn f xs ys h.1 h.2⟩
theorem aT{P:Program}{n:FuncId}{fn:Func}{c:Code}{args:List AV}{b:AV}{rs:List ResultVar}{nt:Nat}(hf:P.funcs[n]? =some fn)(cU:fn.ntmps=nt)(gG:bJ b)
  (h:AW P c ⟨lK 0 args,⟨0,dH []⟩,nt⟩ (hold (cB P rs (hold (fun a H'=>bJ (EJ H'.get a)/\Wk (EJ H'.get a) b) ⟨⟩)) ⟨⟩))
  (hb:fn.body=some c:=by(first|rfl|fail)) (hr:fn.results=List.toArray rs:=by(first|rfl|fail)) (fP:(fn.name== "runtime.NumGoroutine")=false:=by(first|kernel_rfl|fail)) (hlen:args.length<=nt:=by(simp only[eI,gL];decide)):fD P n args (·=b):=by
 refine fD.wk ?_ gG;refine bb7 hf hb fP (by rw[cU];exact hlen) ?_
 rw[cU,hr];exact h
theorem uH{P:Program}{n:FuncId}{fn:Func}{c:Code}{args:List AV}{b:AV}{rs:List ResultVar}{nt:Nat}(hf:P.funcs[n]? =some fn)(cU:fn.ntmps=nt)(gG:bJ b)
  (h:AW P c ⟨lK 0 args,⟨0,dH []⟩,nt⟩ (hold (cB P rs (hold (fun a H'=>bJ (cT H'.get 4 a)/\Wk (cT H'.get 4 a) b) ⟨⟩)) ⟨⟩))
  (hb:fn.body=some c:=by(first|rfl|fail)) (hr:fn.results=List.toArray rs:=by(first|rfl|fail)) (fP:(fn.name== "runtime.NumGoroutine")=false:=by(first|kernel_rfl|fail)) (hlen:args.length<=nt:=by(simp only[eI,gL];decide)):fD P n args (·=b):=by
 refine fD.wk ?_ gG;refine bm9 4 hf hb fP (by rw[cU];exact hlen) ?_
 rw[cU,hr];exact h
theorem O7{Q:Exit->AS->Prop}{σ:AS}(h:Q .ret σ):Gb Q .ret σ:=h
theorem O8{Q:Exit->AS->Prop}{σ:AS}(h:Q .normal σ):Gb Q .normal σ:=h
section
variable {P : Program} {σ : AS} {Q : Exit -> AS -> Prop}
theorem B4{id:Nat}{ops:Array Oper}{p:AS×List Oper}(h:aX P true ops p.2 p.1 (Q .normal))(hd:ops.toList.all (fT σ.nt)=true:=by(first|rfl|fail))
  (hr:run P ops.toList ops.toList σ=p:=by(exact aJ)):AW P (.region id ops false) σ Q:=Vn hd hr h
theorem O9{c:Operand}{x y:Code}(h:AW P x σ Q)(hc:jM (σ.get true c)=some true:=by(first|exact m5|fail)):AW P (.cond c x y) σ Q:=bb8 hc h
theorem OA{c:Operand}{x y:Code}(h:AW P y σ Q)(hc:jM (σ.get true c)=some false:=by(first|exact m5|fail)):AW P (.cond c x y) σ Q:=bb9 hc h
theorem Jj{c:Operand}{x y:Code}{b:Bool}(ht:b=true->AW P x σ Q)(hf:b=false->AW P y σ Q)(hc:jM (σ.get true c)=some b:=by(exact aJ)):AW P (.cond c x y) σ Q:=bh3 hc ht hf
theorem OB{rs:List ResultVar}{Q:AV->Heap->Prop}{a:AV}(h:Q a σ.H)(ho:iZ P σ rs=some a:=by(exact aJ)):cB P rs Q .ret σ:=bh4 ho h
theorem OC{rs:List ResultVar}{Q:AV->Heap->Prop}{a:AV}(h:Q a σ.H)(ho:iZ P σ rs=some a:=by(exact aJ)):cB P rs Q .normal σ:=bh5 ho h
section
variable {ops : List Oper} {N0 i : Nat} {o : Oper} {r : List Oper} {dV : AS} {es : List Entry} {f : Operand} {as : Array Operand} {ts : Array TypeId} {n : FuncId}
theorem eC{l:List Oper}{p:List Entry×AS×Nat×List Oper}(hr:H6 P ops N0 i l σ=p)(h:fV P ops N0 p.2.2.1 p.2.2.2 p.2.1 es dV):fV P ops N0 i l σ (p.1++es) dV:=Wm hr h
theorem KI{args:List AV}{a:AV}(aP:o.op= .call ⟨.value f,as,ts⟩)(hg:o.guard=none)
  (hc:fL (σ.get true f) (dO (σ.get true) as.toList)=some (n,args)) (hp:fD P n args (·=a)) (hn:∀a∈args,bJ a) (h:fV P ops N0 (i+1) r (σ.app o.dst ⟨true,a,[],[]⟩) es dV):fV P ops N0 i (o::r) σ (⟨true,a,[],[]⟩::es) dV:=bl9 aP hg hp hc hn h
theorem KJ{j:Nat}{want:Bool}(hg:o.guard=some (j,want))(hw:oH (nW ops j σ.env) want=some false)(h:fV P ops N0 (i+1) r (σ.app o.dst ⟨false,.c (.bool false),[],[]⟩) es dV):fV P ops N0 i (o::r) σ (⟨false,.c (.bool false),[],[]⟩::es) dV:=
 .cons i o r σ _ es dV (.skip (by unfold lB;rw[hg];exact hw) rfl rfl) h
theorem KK{args:List AV}{a:AV}{j:Nat}{want c:Bool}(aP:o.op= .call ⟨.value f,as,ts⟩)(hg:o.guard=some (j,want))
  (hw:oH (nW ops j σ.env) want=some c) (hc:fL (σ.get c f) (dO (σ.get c) as.toList)=some (n,args)) (hp:fD P n args (·=a)) (hn:∀a∈args,bJ a) (h:fV P ops N0 (i+1) r (σ.app o.dst ⟨c,a,[],[]⟩) es dV):fV P ops N0 i (o::r) σ (⟨c,a,[],[]⟩::es) dV:=bm0 aP hg hw hp hc hn h
theorem KL{bS args:List AV}{a:AV}{rd:List Nat}(aP:o.op= .call ⟨.value f,as,ts⟩)(hg:o.guard=none)(hc:fL (σ.get true f) (dO (σ.get true) as.toList)=some (n,bS))(he:bS.map (cT σ.H.get 3)=args)(cW:bS.flatMap (fY σ.H.get 3)=rd)(hp:xA P n args a)(hn:∀a∈args,bJ a)
  (h:fV P ops N0 (i+1) r (σ.app o.dst ⟨true,a,[],rd⟩) es dV):fV P ops N0 i (o::r) σ (⟨true,a,[],rd⟩::es) dV:=
 .cons i o r σ _ es dV (.TA f as ts n bS args 3 aP (by unfold lB;rw[hg]) rfl hc he hn hp rfl fun x hx id aC=>by rw[<-cW];exact sJ.2 ⟨x,hx,aC⟩) h
theorem KM{bS args:List AV}{a:AV}{rd:List Nat}{j:Nat}{want:Bool}(aP:o.op= .call ⟨.value f,as,ts⟩)(hg:o.guard=some (j,want))(hw:oH (nW ops j σ.env) want=some true)(hc:fL (σ.get true f) (dO (σ.get true) as.toList)=some (n,bS))(he:bS.map (cT σ.H.get 3)=args)(cW:bS.flatMap (fY σ.H.get 3)=rd)(hp:xA P n args a)(hn:∀a∈args,bJ a)
  (h:fV P ops N0 (i+1) r (σ.app o.dst ⟨true,a,[],rd⟩) es dV):fV P ops N0 i (o::r) σ (⟨true,a,[],rd⟩::es) dV:=
 .cons i o r σ _ es dV (.TA f as ts n bS args 3 aP (by unfold lB;rw[hg];exact hw) rfl hc he hn hp rfl fun x hx id aC=>by rw[<-cW];exact sJ.2 ⟨x,hx,aC⟩) h
end
theorem OD{aL:AS}{id:Nat}{ops:Array Oper}{es:List Entry}(h:Q .normal aL)(hm:P.follows .mixedOrders=true:=by(first|kernel_rfl|fail))(hs:zS ops=true:=by(first|kernel_rfl|fail))(hd:ops.toList.all (fT σ.nt)=true:=by(first|rfl|fail))
  (hr:fV P ops.toList σ.H.next 0 ops.toList {σ with H:=⟨σ.H.next+ops.size,σ.H.get⟩} es aL:=by(first|(apply eC;(next=>(exact aJ));(repeat (first|exact KC|(apply KJ;(next=>(first|rfl|fail));(next=>(exact aJ));apply eC;(next=>(exact aJ)))|(apply KI;(next=>(first|rfl|fail));(next=>(first|rfl|fail));(next=>(exact aJ));(next=>(first|assumption|(apply_assumption<;>first|assumption|omega)|fail));(next=>(first|exact iN|(simp[eU,e8,eF,eN,iH,iI,iG, *];done)|fail));apply eC;(next=>(exact aJ)))|(apply KK;(next=>(first|rfl|fail));(next=>(first|rfl|fail));(next=>(exact aJ));(next=>(exact aJ));(next=>(first|assumption|(apply_assumption<;>first|assumption|omega)|fail));(next=>(first|exact iN|(simp[eU,e8,eF,eN,iH,iI,iG, *];done)|fail));apply eC;(next=>(exact aJ)))|(apply KL;(next=>(first|rfl|fail));(next=>(first|rfl|fail));(next=>(exact aJ));(next=>(exact aJ));(next=>(exact aJ));(next=>(first|assumption|(apply_assumption<;>first|assumption|omega)|fail));(next=>(first|exact iN|(simp[eU,e8,eF,eN,iH,iI,iG, *];done)|fail));apply eC;(next=>(exact aJ)))|(apply KM;(next=>(first|rfl|fail));(next=>(first|rfl|fail));(next=>(exact aJ));(next=>(exact aJ));(next=>(exact aJ));(next=>(exact aJ));(next=>(first|assumption|(apply_assumption<;>first|assumption|omega)|fail));(next=>(first|exact iN|(simp[eU,e8,eF,eN,iH,iI,iG, *];done)|fail));apply eC;(next=>(exact aJ))))))|fail))
  (rM:wW (tab ops.toList) 0 [] es=true:=by(first|(simp(maxSteps:=2000000) (disch:=omega) only[go_sem,K0,K1, *]<;>kernel_rfl)|fail)):AW P (.region id ops true) σ Q:=TQ hm hs hd hr rM h
end
section
variable {P : Program} {σ : AS} {Q : Exit -> AS -> Prop}
theorem OE{ops:Array Oper}{o:Oper}{rest:List Oper}{K:AS->Prop}{f:Operand}{as:Array Operand}{ts:Array TypeId}{n:FuncId}{args:List AV}{r:AV}{p:AS×List Oper}(h:aX P true ops p.2 p.1 K)(aP:o.op= .call ⟨.value f,as,ts⟩:=by(first|rfl|fail))(hg:o.guard=none:=by(first|rfl|fail))
  (hc:fL (σ.get true f) (dO (σ.get true) as.toList)=some (n,args):=by(exact aJ)) (hp:fD P n args (·=r):=by(first|assumption|(apply_assumption<;>first|assumption|omega)|fail)) (hn:∀a∈args,bJ a:=by(first|exact iN|(simp[eU,e8,eF,eN,iH,iI,iG, *];done)|fail))
  (hr:run P ops.toList rest (σ.put o.dst true r)=p:=by(exact aJ)):aX P true ops (o::rest) σ K:=bh6 aP hg hp hc hn hr h
theorem xA.act{n:FuncId}{bS args:List AV}{a:AV}{H:Heap}(k:Nat)(h:xA P n args a)(he:bS.map (cT H.get k)=args)(ha:∀a∈args,bJ a):gX P n bS H fun r H'=>r=a/\H'=H:=
 ⟨h.1,fun E W vs hH hr=>(h.Vp k he ha hH hH.core hr).mono fun e W' ⟨v,tE,L',h1,h2,h3⟩=>⟨v,tE,_,a,H,h1,h2,h3,rfl,rfl⟩⟩
theorem OF{ops:Array Oper}{o:Oper}{rest:List Oper}{K:AS->Prop}{f:Operand}{as:Array Operand}{ts:Array TypeId}{n:FuncId}{bS args:List AV}{r:AV}{p:AS×List Oper}(h:aX P true ops p.2 p.1 K)(aP:o.op= .call ⟨.value f,as,ts⟩:=by(first|rfl|fail))(hg:o.guard=none:=by(first|rfl|fail))
  (hc:fL (σ.get true f) (dO (σ.get true) as.toList)=some (n,bS):=by(exact aJ)) (he:bS.map (cT σ.H.get 3)=args:=by(exact aJ)) (hp:xA P n args r:=by(first|assumption|(apply_assumption<;>first|assumption|omega)|fail)) (hn:∀a∈args,bJ a:=by(first|exact iN|(simp[eU,e8,eF,eN,iH,iI,iG, *];done)|fail))
  (hr:run P ops.toList rest (σ.put o.dst true r)=p:=by(exact aJ)):aX P true ops (o::rest) σ K:=
 GU aP hg hc (hp.act 3 he hn) fun r' H' ⟨h1,h2⟩=>by subst h1;subst h2;exact nQ _ _ hr h
theorem OG{ops:Array Oper}{o:Oper}{rest:List Oper}{K:AS->Prop}{f:Operand}{as:Array Operand}{ts:Array TypeId}{n:FuncId}{bS args:List AV}{r:AV}{G':Nat->Option aI}{p:AS×List Oper}(h:aX P true ops p.2 p.1 K)(aP:o.op= .call ⟨.value f,as,ts⟩:=by(first|rfl|fail))(hg:o.guard=none:=by(first|rfl|fail))
  (hc:fL (σ.get true f) (dO (σ.get true) as.toList)=some (n,bS):=by(exact aJ)) (he:bS.map (m7 σ.H.get)=args:=by(exact aJ)) (hp:fD P n args (·=r):=by(first|assumption|(apply_assumption<;>first|assumption|omega)|fail)) (hn:∀a∈args,bJ a:=by(first|exact iN|(simp[eU,e8,eF,eN,iH,iI,iG, *];done)|fail))
  (hG:sG σ.H.get (kU lL bS)=G':=by(exact aJ)) (hr:run P ops.toList rest (({σ with H:=⟨σ.H.next,G'⟩}:AS).put o.dst true r)=p:=by(exact aJ)):aX P true ops (o::rest) σ K:=bc5 aP hg hp hc he hn hG hr h
theorem OH{ops:Array Oper}{o:Oper}{rest:List Oper}{K:AS->Prop}{f:Operand}{as:Array Operand}{ts:Array TypeId}{n:FuncId}{bS args:List AV}{r:AV}{G':Nat->Option aI}{p:AS×List Oper}{j:Nat}{want:Bool}(h:aX P true ops p.2 p.1 K)(aP:o.op= .call ⟨.value f,as,ts⟩:=by(first|rfl|fail))(hg:o.guard=some (j,want):=by(first|rfl|fail))
  (hw:oH (nW ops.toList j σ.env) want=some true:=by(exact aJ))
  (hc:fL (σ.get true f) (dO (σ.get true) as.toList)=some (n,bS):=by(exact aJ)) (he:bS.map (m7 σ.H.get)=args:=by(exact aJ)) (hp:fD P n args (·=r):=by(first|assumption|(apply_assumption<;>first|assumption|omega)|fail)) (hn:∀a∈args,bJ a:=by(first|exact iN|(simp[eU,e8,eF,eN,iH,iI,iG, *];done)|fail))
  (hG:sG σ.H.get (kU lL bS)=G':=by(exact aJ)) (hr:run P ops.toList rest (({σ with H:=⟨σ.H.next,G'⟩}:AS).put o.dst true r)=p:=by(exact aJ)):aX P true ops (o::rest) σ K:=bc6 aP hg hp hw hc he hn hG hr h
theorem OI{ops:Array Oper}{o:Oper}{rest:List Oper}{K:AS->Prop}{f:Operand}{as:Array Operand}{ts:Array TypeId}{n:FuncId}{args:List AV}{el:TypeId}{k:Nat}{rows:List (List AV)}{p:AS×List Oper}(h:aX P true ops p.2 p.1 K)(aP:o.op= .call ⟨.value f,as,ts⟩:=by(first|rfl|fail))(hg:o.guard=none:=by(first|rfl|fail))
  (hc:fL (σ.get true f) (dO (σ.get true) as.toList)=some (n,args):=by(exact aJ)) (hp:rR P n args el k rows:=by(first|assumption|(apply_assumption<;>first|assumption|omega)|fail))
  (hr:run P ops.toList rest (({σ with H:=⟨σ.H.next+1,aS σ.H.get [(σ.H.next,some (.cells el k rows true true))]⟩}:AS).put o.dst true (.own σ.H.next 0 rows.length))=p:=by(exact aJ)):aX P true ops (o::rest) σ K:=bd6 aP hg hp hc hr h
theorem OJ{ops:Array Oper}{o:Oper}{rest:List Oper}{K:AS->Prop}{f:Operand}{as:Array Operand}{ts:Array TypeId}{n:FuncId}{args:List AV}{r:AV}{p:AS×List Oper}{j:Nat}{want c:Bool}(h:aX P true ops p.2 p.1 K)(aP:o.op= .call ⟨.value f,as,ts⟩:=by(first|rfl|fail))(hg:o.guard=some (j,want):=by(first|rfl|fail))
  (hw:oH (nW ops.toList j σ.env) want=some c:=by(exact aJ)) (hc:fL (σ.get c f) (dO (σ.get c) as.toList)=some (n,args):=by(exact aJ)) (hp:fD P n args (·=r):=by(first|assumption|(apply_assumption<;>first|assumption|omega)|fail)) (hn:∀a∈args,bJ a:=by(first|exact iN|(simp[eU,e8,eF,eN,iH,iI,iG, *];done)|fail)) (hr:run P ops.toList rest (σ.put o.dst c r)=p:=by(exact aJ)):aX P true ops (o::rest) σ K:=bh7 aP hg hw hp hc hn hr h
theorem OK{ops:Array Oper}{l:List Oper}{K:AS->Prop}{p:AS×List Oper}(h:aX P true ops p.2 p.1 K)(hr:run P ops.toList l σ=p:=by(exact aJ))(bG:Nat.blt p.2.length l.length=true:=by(first|rfl|fail)):aX P true ops l σ K:=nQ _ _ hr h
theorem nS{ops:Array Oper}{o:Oper}{rest:List Oper}{K:AS->Prop}{f:Operand}{as:Array Operand}{ts:Array TypeId}{n:FuncId}{fn:Func}{c:Code}{args:List AV}{nt:Nat}{rs:List ResultVar}(hf:P.funcs[n]? =some fn)(cU:fn.ntmps=nt)
  (h:AW P c ⟨lK 0 args,σ.H,nt⟩ (hold (cB P rs (hold (fun a H'=>aX P true ops rest (({σ with H:=H'}:AS).put o.dst true a) K) ⟨⟩)) ⟨⟩))
  (aP:o.op= .call ⟨.value f,as,ts⟩:=by(first|rfl|fail)) (hg:o.guard=none:=by(first|rfl|fail)) (hc:fL (σ.get true f) (dO (σ.get true) as.toList)=some (n,args):=by(exact aJ))
  (hb:fn.body=some c:=by rfl) (hr:fn.results=List.toArray rs:=by rfl) (fP:(fn.name== "runtime.NumGoroutine")=false:=by kernel_rfl) (hlen:args.length<=nt:=by(simp only[eI,gL];decide)):aX P true ops (o::rest) σ K:=
 bd7 hf hb fP cU aP hg hc hlen (by rw[hr];exact h)
theorem rT.act{n:FuncId}{bS args:List AV}{a:AV}{el:TypeId}{k:Nat}{rows:List (List AV)}{ap:Bool}{H:Heap}(kk:Nat)(h:rT P n args a el k rows ap)(he:bS.map (cT H.get kk)=args)(ha:∀a∈args,bJ a):gX P n bS H fun r H'=>r=vO H.next a/\H'=⟨H.next+1,aS H.get [(H.next,some (.cells el k rows true ap))]⟩:=
 ⟨h.1,fun E W vs hH hr=>(h.run kk he ha (fun hU=>KX _ (hH.next _ hU)) hH hH.core hr).mono fun e W' ⟨v,tE,E',h1,h2,h3,h4⟩=>⟨v,tE,E',_,_,h1,⟨fun id aC=>by
   rcases h4 id aC with h5|h5
   ·exact PF (hH.next id h5)
   ·subst h5;exact D4 _,h2⟩,h3,rfl,rfl⟩⟩
theorem OL{ops:Array Oper}{o:Oper}{rest:List Oper}{K:AS->Prop}{f:Operand}{as:Array Operand}{ts:Array TypeId}{n:FuncId}{bS args:List AV}{a:AV}{el:TypeId}{k:Nat}{rows:List (List AV)}{ap:Bool}{p:AS×List Oper}(h:aX P true ops p.2 p.1 K)(aP:o.op= .call ⟨.value f,as,ts⟩:=by(first|rfl|fail))(hg:o.guard=none:=by(first|rfl|fail))
  (hc:fL (σ.get true f) (dO (σ.get true) as.toList)=some (n,bS):=by(exact aJ)) (he:bS.map (cT σ.H.get 3)=args:=by(exact aJ)) (hp:rT P n args a el k rows ap:=by(first|assumption|(apply_assumption<;>first|assumption|omega)|fail)) (hn:∀a∈args,bJ a:=by(first|exact iN|(simp[eU,e8,eF,eN,iH,iI,iG, *];done)|fail))
  (hr:run P ops.toList rest (({σ with H:=⟨σ.H.next+1,aS σ.H.get [(σ.H.next,some (.cells el k rows true ap))]⟩}:AS).put o.dst true (vO σ.H.next a))=p:=by(exact aJ)):aX P true ops (o::rest) σ K:=
 GU aP hg hc (hp.act 3 he hn) fun r' H' ⟨h1,h2⟩=>by subst h1;subst h2;exact nQ _ _ hr h
theorem bn0{G:Nat->Option aI}{kk j:Nat}{v:Value}:CW G kk j (.c v)=some (.c v):=by
 cases kk<;>simp[CW,fresh,kB,cT,wV,fY]
theorem Xd{G:Nat->Option aI}{kk j:Nat}:∀{r:List AV},(∀x∈r,∃v,x= .c v)->GZ G kk j r=some r
 |[],_=>rfl
 |x::r,h=>by
  obtain⟨v,rfl⟩:=h x (by simp)
  simp only[GZ,bn0,Xd (r:=r) fun y hy=>h y (by simp[hy])]
theorem Xe{G:Nat->Option aI}{kk j:Nat}:∀{rows:List (List AV)},(∀r∈rows,∀x∈r,∃v,x= .c v)->KA G kk j rows=some rows
 |[],_=>rfl
 |r::rows,h=>by simp only[KA,Xd (h r (by simp)),Xe (rows:=rows) fun y hy=>h y (by simp[hy])]
theorem PR{n:FuncId}{fn:Func}{c:Code}{args:List AV}{e:TypeId}{k:Nat}{rows:List (List AV)}{rs:List ResultVar}{nt:Nat}(hf:P.funcs[n]? =some fn)(cU:fn.ntmps=nt)(dB:∀row∈rows,∀x∈row,∃v,x= .c v)
  (h:AW P c ⟨lK 0 args,⟨0,dH []⟩,nt⟩ (hold (cB P rs (hold (fun a H'=>∃i,a= .own i 0 rows.length/\H'.get i=some (.cells e k rows true true)) ⟨⟩)) ⟨⟩))
  (hb:fn.body=some c:=by rfl) (hr:fn.results=List.toArray rs:=by rfl) (fP:(fn.name== "runtime.NumGoroutine")=false:=by kernel_rfl) (hlen:args.length<=nt:=by(simp only[eI,gL];decide)):rT P n args (.own 0 0 rows.length) e k rows true:=by
 have hl:args.length<=fn.ntmps:=by rw[cU];exact hlen
 refine bk8 (f:=⟨.own 0 0 rows.length,e,k,rows,true⟩) 8 hf hb fP hl ((EI (Q:=fun a H'=>∃i,a= .own i 0 rows.length/\H'.get i=some (.cells e k rows true true)) hf hb fP hl (by rw[cU,hr];exact h)).mono fun r H' ⟨i,h1,h2⟩=> ?_)
 subst h1;simp only[Ha,Vu,h2,Gz,Xe dB,Y9,GY,Nat.beq_refl,cond]
theorem rT.nil{n:FuncId}{pre post:List AV}{a:AV}{el:TypeId}{k:Nat}{rows:List (List AV)}{ap:Bool}(h:∀b cap,rT P n (pre++ .c (.slice b 0 cap)::post) a el k rows ap):rT P n (pre++ .snap []::post) a el k rows ap:=
 ⟨(h none 0).1,fun L W vs hL hr=>let ⟨b,cap,hx⟩:=Uz hr;(h b cap).2 L W vs hL hx⟩
theorem ZD{c:Operand}{x y z:Code}{Q2:Exit->AS->Prop}(env:List (Nat×Bool×AV))(m:Nat)(T:List (Nat×Option aI))(h1:AW P (.cond c x y) σ (fun e aL=>e= .normal/\Holds aL env ⟨m,dH T⟩))(h2:AW P z ⟨env,⟨m,dH T⟩,σ.nt⟩ Q2):AW P (.cond c x y) σ (cZ (fun aL=>AW P z aL Q2) Q):=fun ro E0 W act eH hr=>
 wpIn_mono (h1 ro E0 W act eH hr) fun e a w ⟨E',aL,h3,h4,h5,h6,h7⟩=>by
  subst h6;exact⟨E',aL,h3,h4,h5,tI h7 (by rw[h5];exact h2)⟩
theorem Jq{n:FuncId}{fn:Func}{c:Code}{args:List AV}{H:Heap}{R:AV->Heap->Prop}{rs:List ResultVar}{nt:Nat}(hf:P.funcs[n]? =some fn)(cU:fn.ntmps=nt)
  (h:AW P c ⟨lK 0 args,H,nt⟩ (hold (cB P rs (hold R ⟨⟩)) ⟨⟩))
  (hb:fn.body=some c:=by rfl) (hr:fn.results=List.toArray rs:=by rfl) (fP:(fn.name== "runtime.NumGoroutine")=false:=by kernel_rfl) (hlen:args.length<=nt:=by(simp only[eI,gL];decide)):gX P n args H R:=by
 refine EI hf hb fP (by rw[cU];exact hlen) ?_
 rw[cU,hr];exact h
theorem D7{α:Type}{c:Code}(E:α->List (Nat×Bool×AV))(T:α->List (Nat×Option aI))(R:Nat->α->Prop)(μ:α->Nat)(a0:α)(h0:∃m,R m a0/\Holds σ (E a0) ⟨m,dH (T a0)⟩)
  (hk:∀m a,R m a->AW P c ⟨E a,⟨m,dH (T a)⟩,σ.nt⟩ (cZ (fun aL=>∃m' a',μ a'<μ a/\R m' a'/\Holds aL (E a') ⟨m',dH (T a')⟩) Q)):AW P (.loop c) σ Q:=by
 obtain⟨m,hR,hh⟩:=h0;refine Hp (fun n env H=>∃m a,n=μ a/\R m a/\env=E a/\H=⟨m,dH (T a)⟩) (μ a0) ⟨_,_,⟨m,a0,rfl,hR,rfl,rfl⟩,hh⟩ ?_
 rintro n env H ⟨m,a,rfl,KN,rfl,rfl⟩;have h1:=hk m a KN;intro ro E0 W act eH bR;refine wpIn_mono (h1 ro E0 W act eH bR) fun e a' w ⟨E',aL,h2,h3,h4,h5⟩=>⟨E',aL,h2,h3,h4,?_⟩
 cases e with
 |normal=>
  obtain⟨m',OM,h8,h6,h7⟩:=h5;exact⟨μ OM,h8,_,_,⟨m',OM,rfl,h6,rfl,rfl⟩,h7⟩
 |_=>exact h5
structure H7{α:Type}(a b:α):Type where
 out:a=b
theorem L9{g:Operand}{ps:Array Tmp}{assign body:Code}{n:FuncId}{fn:Func}{c:Code}{first cap:List AV}{nt:Nat}{args:List AV}{rs:List ResultVar}(hf:P.funcs[n]? =some fn)(cU:fn.ntmps=nt)
  (h:∀R A B,H7 R σ.env->H7 A assign->H7 B body->AW P c ⟨lK 0 args,iQ ⟨σ.H.next+1,σ.H.get⟩ σ.H.next (some (.cJ R σ.nt ps.toList A B .ready none)),nt⟩
    (hold (cB P rs (hold (fun _ H'=>sH σ.H.next R σ.nt ps.toList A B (hold (fun e H2=>Q e ({σ with H:=H2}:AS)) ⟨⟩) H') ⟨⟩)) ⟨⟩))
  (hg:σ.get true g=some (.fn (.func n) first cap):=by(exact aJ)) (ha:first++[AV.jF σ.H.next]++cap=args:=by(exact aJ))
  (hb:fn.body=some c:=by rfl) (hr:fn.results=List.toArray rs:=by rfl) (fP:(fn.name== "runtime.NumGoroutine")=false:=by kernel_rfl) (hlen:args.length<=nt:=by(simp only[eI,gL];decide)):AW P (.rangeFunc g ps assign body) σ Q:=
 bg0 hf hb fP cU hg ha hlen fun R A B hR hA hB=>by rw[hr];exact h R A B ⟨hR⟩ ⟨hA⟩ ⟨hB⟩
theorem ON{ops:Array Oper}{o:Oper}{rest:List Oper}{K:AS->Prop}{f:Operand}{as:Array Operand}{ts:Array TypeId}{id:Nat}{args:List AV}{env BG:List (Nat×Bool×AV)}{nt:Nat}{ps:List Tmp}{A A' B:Code}
  (h:AW P A' ⟨CT ps args BG,σ.H,nt⟩ (hold (JT P id env nt ps A B (hold (fun b H'=>aX P true ops rest (({σ with H:=H'}:AS).put o.dst true (.c (.bool b))) K) ⟨⟩)) ⟨⟩))
  (aP:o.op= .call ⟨.value f,as,ts⟩:=by(first|rfl|fail)) (hg:o.guard=none:=by(first|rfl|fail)) (hf:σ.get true f=some (.jF id):=by(exact aJ)) (ha:dO (σ.get true) as.toList=some args:=by(exact aJ)) (hr:σ.H.get id=some (.cJ env nt ps A B .ready none):=by(exact aJ))
  (he:H7 env BG:=by(first|assumption|fail)) (hA:H7 A A':=by(first|assumption|fail)) (hl:args.length=ps.length:=by(first|rfl|fail)) (lE:ps.all (fun p=>decide (p<nt))=true:=by(first|rfl|fail)):aX P true ops (o::rest) σ K:=bf4 aP hg he.out hA.out hf ha hr hl lE h
theorem OO{ops:Array Oper}{o:Oper}{rest:List Oper}{K:AS->Prop}{f:Operand}{as:Array Operand}{ts:Array TypeId}{id:Nat}{args:List AV}{env BG:List (Nat×Bool×AV)}{nt:Nat}{ps:List Tmp}{A A' B:Code}{j:Nat}{want:Bool}
  (h:AW P A' ⟨CT ps args BG,σ.H,nt⟩ (hold (JT P id env nt ps A B (hold (fun b H'=>aX P true ops rest (({σ with H:=H'}:AS).put o.dst true (.c (.bool b))) K) ⟨⟩)) ⟨⟩))
  (aP:o.op= .call ⟨.value f,as,ts⟩:=by(first|rfl|fail)) (hg:o.guard=some (j,want):=by(first|rfl|fail)) (hw:oH (nW ops.toList j σ.env) want=some true:=by(exact aJ)) (hf:σ.get true f=some (.jF id):=by(exact aJ)) (ha:dO (σ.get true) as.toList=some args:=by(exact aJ)) (hr:σ.H.get id=some (.cJ env nt ps A B .ready none):=by(exact aJ))
  (he:H7 env BG:=by(first|assumption|fail)) (hA:H7 A A':=by(first|assumption|fail)) (hl:args.length=ps.length:=by(first|rfl|fail)) (lE:ps.all (fun p=>decide (p<nt))=true:=by(first|rfl|fail)):aX P true ops (o::rest) σ K:=bf5 aP hg he.out hA.out hw hf ha hr hl lE h
theorem OP{id:Nat}{env:List (Nat×Bool×AV)}{nt:Nat}{ps:List Tmp}{A B B':Code}{K:Bool->Heap->Prop}(h:AW P B' ⟨σ.env,iQ σ.H id (some (.cJ env nt ps A B .busy none)),σ.nt⟩ (hold (EH id env nt ps A B K) ⟨⟩))
  (hB:H7 B B':=by(first|assumption|fail)) (hg:σ.H.get id=some (.cJ env nt ps A B .ready none):=by(first|rfl|exact m5|(simp(maxSteps:=2000000) (disch:=omega) only[go_sem, *]<;>rfl)|fail)):JT P id env nt ps A B K .normal σ:=bf6 hB.out hg h
section
variable {id : Nat} {env : List (Nat × Bool × AV)} {nt : Nat} {ps : List Tmp} {A B : Code} {ops : Array Oper} {rest : List Oper} {σ0 : AS} {dst : Option Tmp} {K : AS -> Prop} {p : AS × List Oper}
theorem OQ(h:aX P true ops p.2 p.1 K)(hg:σ.H.get id=some (.cJ env nt ps A B .busy none):=by(first|rfl|exact m5|(simp(maxSteps:=2000000) (disch:=omega) only[go_sem, *]<;>rfl)|fail))(hr:run P ops.toList rest (({σ0 with H:=iQ σ.H id (some (.cJ env nt ps A B .ready none))}:AS).put dst true (.c (.bool true)))=p:=by(exact aJ)):
  EH id env nt ps A B (hold (fun b H'=>aX P true ops rest (({σ0 with H:=H'}:AS).put dst true (.c (.bool b))) K) ⟨⟩) .normal σ:=bf7 hg hr h
theorem OR(h:aX P true ops p.2 p.1 K)(hg:σ.H.get id=some (.cJ env nt ps A B .busy none):=by(first|rfl|exact m5|(simp(maxSteps:=2000000) (disch:=omega) only[go_sem, *]<;>rfl)|fail))(hr:run P ops.toList rest (({σ0 with H:=iQ σ.H id (some (.cJ env nt ps A B .done (some .ret)))}:AS).put dst true (.c (.bool false)))=p:=by(exact aJ)):
  EH id env nt ps A B (hold (fun b H'=>aX P true ops rest (({σ0 with H:=H'}:AS).put dst true (.c (.bool b))) K) ⟨⟩) .ret σ:=bf8 hg hr h
theorem OS{i:Nat}(h:aX P true ops p.2 p.1 K)(hg:σ.H.get id=some (.cJ env nt ps A B .busy none):=by(first|rfl|exact m5|(simp(maxSteps:=2000000) (disch:=omega) only[go_sem, *]<;>rfl)|fail))(hr:run P ops.toList rest (({σ0 with H:=iQ σ.H id (some (.cJ env nt ps A B .done (some (.exit i))))}:AS).put dst true (.c (.bool false)))=p:=by(exact aJ)):
  EH id env nt ps A B (hold (fun b H'=>aX P true ops rest (({σ0 with H:=H'}:AS).put dst true (.c (.bool b))) K) ⟨⟩) (.exit i) σ:=bf9 hg hr h
end
section
variable {rs : List ResultVar} {a : AV} {id : Nat} {env : List (Nat × Bool × AV)} {nt : Nat} {ps : List Tmp} {A B : Code} {σ0 : AS}
theorem OT(h:Q .normal ({σ0 with H:=iQ σ.H id none}:AS))(ho:iZ P σ rs=some a:=by(exact aJ))(hg:σ.H.get id=some (.cJ env nt ps A B .ready none):=by(first|rfl|exact m5|(simp(maxSteps:=2000000) (disch:=omega) only[go_sem, *]<;>rfl)|fail)):
  cB P rs (hold (fun _ H'=>sH id env nt ps A B (hold (fun e H2=>Q e ({σ0 with H:=H2}:AS)) ⟨⟩) H') ⟨⟩) .normal σ:=bg1 ho hg h
theorem OU(h:Q .normal ({σ0 with H:=iQ σ.H id none}:AS))(ho:iZ P σ rs=some a:=by(exact aJ))(hg:σ.H.get id=some (.cJ env nt ps A B .ready none):=by(first|rfl|exact m5|(simp(maxSteps:=2000000) (disch:=omega) only[go_sem, *]<;>rfl)|fail)):
  cB P rs (hold (fun _ H'=>sH id env nt ps A B (hold (fun e H2=>Q e ({σ0 with H:=H2}:AS)) ⟨⟩) H') ⟨⟩) .ret σ:=bg2 ho hg h
theorem OV(h:Q .ret ({σ0 with H:=iQ σ.H id none}:AS))(ho:iZ P σ rs=some a:=by(exact aJ))(hg:σ.H.get id=some (.cJ env nt ps A B .done (some .ret)):=by(first|rfl|exact m5|(simp(maxSteps:=2000000) (disch:=omega) only[go_sem, *]<;>rfl)|fail)):
  cB P rs (hold (fun _ H'=>sH id env nt ps A B (hold (fun e H2=>Q e ({σ0 with H:=H2}:AS)) ⟨⟩) H') ⟨⟩) .normal σ:=bg3 ho hg h
theorem OW(h:Q .ret ({σ0 with H:=iQ σ.H id none}:AS))(ho:iZ P σ rs=some a:=by(exact aJ))(hg:σ.H.get id=some (.cJ env nt ps A B .done (some .ret)):=by(first|rfl|exact m5|(simp(maxSteps:=2000000) (disch:=omega) only[go_sem, *]<;>rfl)|fail)):
  cB P rs (hold (fun _ H'=>sH id env nt ps A B (hold (fun e H2=>Q e ({σ0 with H:=H2}:AS)) ⟨⟩) H') ⟨⟩) .ret σ:=bg4 ho hg h
theorem OX{i:Nat}(h:Q (.exit i) ({σ0 with H:=iQ σ.H id none}:AS))(ho:iZ P σ rs=some a:=by(exact aJ))(hg:σ.H.get id=some (.cJ env nt ps A B (.done) (some (.exit i))):=by(first|rfl|exact m5|(simp(maxSteps:=2000000) (disch:=omega) only[go_sem, *]<;>rfl)|fail)):
  cB P rs (hold (fun _ H'=>sH id env nt ps A B (hold (fun e H2=>Q e ({σ0 with H:=H2}:AS)) ⟨⟩) H') ⟨⟩) .normal σ:=bg5 ho hg h
theorem OY{i:Nat}(h:Q (.exit i) ({σ0 with H:=iQ σ.H id none}:AS))(ho:iZ P σ rs=some a:=by(exact aJ))(hg:σ.H.get id=some (.cJ env nt ps A B (.done) (some (.exit i))):=by(first|rfl|exact m5|(simp(maxSteps:=2000000) (disch:=omega) only[go_sem, *]<;>rfl)|fail)):
  cB P rs (hold (fun _ H'=>sH id env nt ps A B (hold (fun e H2=>Q e ({σ0 with H:=H2}:AS)) ⟨⟩) H') ⟨⟩) .ret σ:=bg6 ho hg h
end
theorem OZ{ops:Array Oper}{o:Oper}{rest:List Oper}{K:AS->Prop}{p q:AS×List Oper}{j:Nat}{want:Bool}(h:aX P true ops q.2 q.1 K)(hg:o.guard=some (j,want):=by(first|rfl|fail))
  (hw:oH (nW ops.toList j σ.env) want=some false:=by(exact aJ)) (hs:BF ops.toList rest (σ.put o.dst false (.c (.bool false)))=some p:=by(exact aJ)) (hr:run P ops.toList p.2 p.1=q:=by(exact aJ)):aX P true ops (o::rest) σ K:=bc2 hg hw hs hr h
theorem P0{ops:Array Oper}{o:Oper}{rest:List Oper}{K:AS->Prop}{p:AS×List Oper}{b x y:Operand}{b0:Bool}{a:AV}(h:aX P true ops p.2 p.1 K)(aP:o.op= .pick b x y:=by(first|rfl|fail))(hg:o.guard=none:=by(first|rfl|fail))
  (hb:jM (σ.get true b)=some b0:=by(exact aJ)) (hn:yJ (jM (σ.get b0 x)) (jM (σ.get (!b0) y))=none:=by(exact aJ)) (ha:σ.get true (cond b0 x y)=some a:=by(exact aJ)) (hr:run P ops.toList rest (σ.put o.dst true a)=p:=by(exact aJ)):aX P true ops (o::rest) σ K:=bc4 aP hg hb hn ha hr h
theorem P1{ops:Array Oper}{o:Oper}{rest:List Oper}{K:AS->Prop}{p:AS×List Oper}{j:Nat}{want:Bool}{a:AV}{wr:List (Nat×Option aI)}{rd:List Nat}(h:aX P true ops p.2 p.1 K)(aP:Y2 o.op=true:=by(first|rfl|fail))(hg:o.guard=some (j,want):=by(first|rfl|fail))
  (hw:oH (nW ops.toList j σ.env) want=some true:=by(exact aJ)) (kZ:res P (σ.get true) σ.H.get σ.H.next o=some (a,wr,rd):=by(exact aJ)) (hr:run P ops.toList rest (({σ with H:=σ.H.app wr}:AS).put o.dst true a)=p:=by(exact aJ)):aX P true ops (o::rest) σ K:=bc1 aP hg hw kZ hr h
theorem dP{α:Type}{c:Code}(N:Nat)(E:Nat->α->List (Nat×Bool×AV))(T:Nat->α->List (Nat×Option aI))(R:Nat->Nat->α->Prop)(h0:∃m a,R 0 m a/\Holds σ (E 0 a) ⟨m,dH (T 0 a)⟩)
  (hk:∀k m a,k<N->R k m a->AW P c ⟨E k a,⟨m,dH (T k a)⟩,σ.nt⟩ (cZ (fun aL=>∃m' a',R (k+1) m' a'/\Holds aL (E (k+1) a') ⟨m',dH (T (k+1) a')⟩) Q))
  (hN:∀m a,R N m a->AW P c ⟨E N a,⟨m,dH (T N a)⟩,σ.nt⟩ (cZ (fun _=>False) Q)):AW P (.loop c) σ Q:=by
 obtain⟨m,a,hR,hh⟩:=h0;refine Hp (fun n env H=>∃k m a,n=N-k/\k<=N/\R k m a/\env=E k a/\H=⟨m,dH (T k a)⟩) N ⟨_,_,⟨0,m,a,by omega,by omega,hR,rfl,rfl⟩,hh⟩ ?_
 rintro n env H ⟨k,m,a,rfl,JN,KN,rfl,rfl⟩;by_cases bG:k<N
 ·have h1:=hk k m a bG KN
  intro ro E0 W act eH bR;refine wpIn_mono (h1 ro E0 W act eH bR) fun e a' w ⟨E',aL,h2,h3,h4,h5⟩=>⟨E',aL,h2,h3,h4,?_⟩
  cases e with
  |normal=>
   obtain⟨m',OM,h6,h7⟩:=h5;exact⟨N-(k+1),by omega,_,_,⟨k+1,m',OM,rfl,by omega,h6,rfl,rfl⟩,h7⟩
  |_=>exact h5
 ·obtain rfl:k=N:=by omega
  have h1:=hN m a KN;intro ro E0 W act eH bR;refine wpIn_mono (h1 ro E0 W act eH bR) fun e a' w ⟨E',aL,h2,h3,h4,h5⟩=>⟨E',aL,h2,h3,h4,?_⟩
  cases e with
  |normal=>exact h5.elim
  |_=>exact h5
theorem tM{c:Code}(N M:Nat)(T:List (Nat×Option aI))(E:Nat->List (Nat×Bool×AV))(h0:Holds σ (E 0) ⟨M,dH T⟩)
  (hk:∀k m,k<N->M<=m->AW P c ⟨E k,⟨m,dH T⟩,σ.nt⟩ (cZ (fun aL=>∃m',M<=m'/\Holds aL (E (k+1)) ⟨m',dH T⟩) Q))
  (hN:∀m,M<=m->AW P c ⟨E N,⟨m,dH T⟩,σ.nt⟩ (cZ (fun _=>False) Q)):AW P (.loop c) σ Q:=by
 refine dP (α:=Unit) N (fun k _=>E k) (fun _ _=>T) (fun _ m _=>M<=m) ⟨M,(),cA _,h0⟩ (fun k m _ bG hm=> ?_) (fun m _ hm=>hN m hm)
 have h1:=hk k m bG hm;intro ro E0 W act eH bR;refine wpIn_mono (h1 ro E0 W act eH bR) fun e a' w ⟨E',aL,h2,h3,h4,h5⟩=>⟨E',aL,h2,h3,h4,?_⟩
 cases e with
 |normal=>obtain⟨m',h6,h7⟩:=h5;exact⟨m',(),h6,h7⟩
 |_=>exact h5
end
attribute [go_sem] vO O2 cT fY Yb YV
theorem iT{α:Type}{a b:α}(w:a=b:=by(first|rfl|(simp(disch:=omega) only[go_sem, *];done)|(simp(disch:=omega) only[go_sem, *];rfl))):a=b:=w
theorem aN{σ:AS}{env:List (Nat×Bool×AV)}{H:Heap}(w:Holds σ env H:=by
  ((repeat (refine rV (by first|rfl|(simp(disch:=omega) only[go_sem, *];done)|(simp(disch:=omega) only[go_sem, *];rfl)) ?_));(refine holds_nil (by simp only[];omega) ?_);(first|exact(fun _ _ h=>h)|((repeat (first|refine sO (by first|rfl|(simp(disch:=omega) only[go_sem, *];done)|(simp(disch:=omega) only[go_sem, *];rfl)) ?_|refine M1 ?_));exact zY)))):Holds σ env H:=w
section
variable {P : Program} {σ : AS}
theorem gX.wider{n:FuncId}{args:List AV}{H0:Heap}{R:AV->Heap->Prop}(h:gX P n args H0 R)(hH:Holds σ [] H0):gX P n args σ.H R:=
 ⟨h.1,fun E W vs hW hr=>h.2 E W vs ⟨fun id aC=>vQ (hW.next id aC) hH.next,hW.core.S6 fun id b hb=>⟨b,hH.get id b hb,aI.le_refl b⟩⟩ hr⟩
theorem UN{ops:Array Oper}{o:Oper}{rest:List Oper}{K:AS->Prop}{f:Operand}{as:Array Operand}{ts:Array TypeId}{n:FuncId}{args:List AV}{R:AV->Heap->Prop}{H0:Heap}(hp:gX P n args H0 R)(h:∀r H',R r H'->aX P true ops rest (({σ with H:=H'}:AS).put o.dst true r) K)
  (aP:o.op= .call ⟨.value f,as,ts⟩:=by(first|rfl|fail)) (hg:o.guard=none:=by(first|rfl|fail)) (hc:fL (σ.get true f) (dO (σ.get true) as.toList)=some (n,args):=by(exact aJ)) (hH:Holds σ [] H0:=by exact aN):aX P true ops (o::rest) σ K:=GU aP hg hc (hp.wider hH) h
end
structure aU(B:Prop):Type where
 out:B
theorem aD{A B:Prop}(h:B)(w:aU B->A:=by
  (intro hB;(repeat (first|refine tC ?_|refine B4 ?_|refine rE ?_|refine K3 ?_|refine bN ?_|refine gE ?_|refine NR ?_|refine NS ?_|refine NT ?_|refine NU ?_|refine NV ?_|refine NW (by decide) ?_|refine NH ?_|refine jA ?_|refine NL ?_|refine NM ?_|refine OT ?_|refine OU ?_|refine OV ?_|refine OW ?_|refine OX ?_|refine OY ?_|refine OB ?_|refine OC ?_|refine OP ?_|refine OQ ?_|refine OR ?_|refine OS ?_|refine ON ?_|refine OO ?_|refine O9 ?_|refine OA ?_|refine OD ?_|refine NK ?_|refine NJ ?_|refine O7 ?_|refine O8 ?_|refine OE ?_|refine OI ?_|refine OF ?_|refine OL ?_|refine OJ ?_|refine OG ?_|refine OH ?_|refine OZ ?_|refine P0 ?_|refine P1 ?_|refine OK ?_));exact hB.out)):A:=w ⟨h⟩
theorem aB{A:Prop}(w:A:=by(simp(maxSteps:=2000000) (disch:=omega) only[go_sem,eU,e8,eN,eF,false_implies,implies_true, *];(repeat (first|exact .refl _|exact .nil|exact sP|refine iO ?_ ?_|refine DA ?_|refine DB ?_|refine C3 ?_|exact yS|refine vV ?_ ?_)))):A:=w
theorem Xf(G:Nat->Option aI)(k:Nat)(v:Value):cT G k (.c v)= .c v:=by cases k<;>rfl
theorem Xg(G:Nat->Option aI)(k:Nat)(v:Value):fY G k (.c v)=[]:=by cases k<;>rfl
theorem bn1{r:List AV}(h:∀x∈r,∃v,x= .c v)(G:Nat->Option aI)(k:Nat):r.map (cT G k)=r:=by
 conv=>rhs;rw[<-List.map_id r]
 exact sL fun x hx=>by obtain⟨v,rfl⟩:=h x hx;exact Xf G k v
theorem bn2{r:List AV}(h:∀x∈r,∃v,x= .c v)(G:Nat->Option aI)(k:Nat):r.flatMap (fY G k)=[]:=by
 rw[bw0];exact fun x hx=>by obtain⟨v,rfl⟩:=h x hx;exact Xg G k v
theorem ZC{α:Type}{f:α->List AV}(h:∀a,∀x∈f a,∃v,x= .c v)(G:Nat->Option aI)(k:Nat)(l:List α):(aA f l).map (fun row=>row.map (cT G k))=aA f l:=by
 conv=>rhs;rw[<-List.map_id (aA f l)]
 refine sL fun r hr=> ?_
 simp only[aA,mS]at hr;obtain⟨a,_,rfl⟩:=hr;exact bn1 (h a) G k
theorem aa1{α:Type}{f:α->List AV}(h:∀a,∀x∈f a,∃v,x= .c v)(G:Nat->Option aI)(k:Nat)(l:List α):(aA f l).flatMap (fun row=>row.flatMap (fY G k))=[]:=by
 rw[bw0];intro r hr;simp only[aA,mS]at hr;obtain⟨a,_,rfl⟩:=hr;exact bn2 (h a) G k
attribute [go_sem] Xf Xg
end Go.AL
namespace Go.AL
section
variable {P : Program} {σ : AS} {Q : Exit -> AS -> Prop}
section
variable {ops : List Oper} {N0 i : Nat} {o : Oper} {r : List Oper} {dV : AS} {es : List Entry} {f : Operand} {as : Array Operand} {ts : Array TypeId} {n : FuncId}
theorem P2{args:List AV}{el:TypeId}{k:Nat}{rows:List (List AV)}(aP:o.op= .call ⟨.value f,as,ts⟩)(hg:o.guard=none)(hc:fL (σ.get true f) (dO (σ.get true) as.toList)=some (n,args))
  (hp:rR P n args el k rows) (h:fV P ops N0 (i+1) r (σ.app o.dst ⟨true,.own (N0+i) 0 rows.length,[(N0+i,some (.cells el k rows true true))],[]⟩) es dV):
  fV P ops N0 i (o::r) σ (⟨true,.own (N0+i) 0 rows.length,[(N0+i,some (.cells el k rows true true))],[]⟩::es) dV:=bd5 aP hg hp hc rfl h
theorem P3{args:List AV}{a:AV}{el:TypeId}{k:Nat}{rows:List (List AV)}(aP:o.op= .call ⟨.value f,as,ts⟩)(hg:o.guard=none)(hc:fL (σ.get true f) (dO (σ.get true) as.toList)=some (n,args))
  (hp:T9 P n args a el k rows) (h:fV P ops N0 (i+1) r (σ.app o.dst ⟨true,vO (N0+i) a,[(N0+i,some (.cells el k rows true true))],[]⟩) es dV):
  fV P ops N0 i (o::r) σ (⟨true,vO (N0+i) a,[(N0+i,some (.cells el k rows true true))],[]⟩::es) dV:=
 .cons i o r σ _ es dV (.YD f as ts n args a el k rows aP (by unfold lB;rw[hg]) rfl hc hp rfl rfl) h
theorem P4{bS args:List AV}{a:AV}{el:TypeId}{k:Nat}{rows:List (List AV)}{ap:Bool}{rd:List Nat}(aP:o.op= .call ⟨.value f,as,ts⟩)(hg:o.guard=none)(hc:fL (σ.get true f) (dO (σ.get true) as.toList)=some (n,bS))(he:bS.map (cT σ.H.get 3)=args)(cW:bS.flatMap (fY σ.H.get 3)=rd)(hp:rT P n args a el k rows ap)(hn:∀a∈args,bJ a)
  (h:fV P ops N0 (i+1) r (σ.app o.dst ⟨true,vO (N0+i) a,[(N0+i,some (.cells el k rows true ap))],rd⟩) es dV):fV P ops N0 i (o::r) σ (⟨true,vO (N0+i) a,[(N0+i,some (.cells el k rows true ap))],rd⟩::es) dV:=
 .cons i o r σ _ es dV (.YF f as ts n bS args 3 a el k rows ap aP (by unfold lB;rw[hg]) rfl hc he hn hp rfl rfl fun x hx id aC=>by rw[<-cW];exact sJ.2 ⟨x,hx,aC⟩) h
end
theorem DY{aL:AS}{id:Nat}{ops:Array Oper}{es:List Entry}(h:Q .normal aL)(hm:P.follows .mixedOrders=true:=by(first|kernel_rfl|fail))(hs:zS ops=true:=by(first|kernel_rfl|fail))(hd:ops.toList.all (fT σ.nt)=true:=by(first|rfl|fail))
  (hr:fV P ops.toList σ.H.next 0 ops.toList {σ with H:=⟨σ.H.next+ops.size,σ.H.get⟩} es aL:=by(first|(apply eC;(next=>(exact aJ));(repeat (first|exact KC|(apply KJ;(next=>(first|rfl|fail));(next=>(exact aJ));apply eC;(next=>(exact aJ)))|(apply P3;(next=>(first|rfl|fail));(next=>(first|rfl|fail));(next=>(exact aJ));(next=>(first|assumption|(apply_assumption<;>first|assumption|omega)|fail));apply eC;(next=>(exact aJ)))|(apply P2;(next=>(first|rfl|fail));(next=>(first|rfl|fail));(next=>(exact aJ));(next=>(first|assumption|(apply_assumption<;>first|assumption|omega)|fail));apply eC;(next=>(exact aJ)))|(apply P4;(next=>(first|rfl|fail));(next=>(first|rfl|fail));(next=>(exact aJ));(next=>(exact aJ));(next=>(exact aJ));(next=>(first|assumption|(apply_assumption<;>first|assumption|omega)|fail));(next=>(first|exact iN|(simp[eU,e8,eF,eN,iH,iI,iG, *];done)|fail));apply eC;(next=>(exact aJ)))|(apply KI;(next=>(first|rfl|fail));(next=>(first|rfl|fail));(next=>(exact aJ));(next=>(first|assumption|(apply_assumption<;>first|assumption|omega)|fail));(next=>(first|exact iN|(simp[eU,e8,eF,eN,iH,iI,iG, *];done)|fail));apply eC;(next=>(exact aJ)))|(apply KK;(next=>(first|rfl|fail));(next=>(first|rfl|fail));(next=>(exact aJ));(next=>(exact aJ));(next=>(first|assumption|(apply_assumption<;>first|assumption|omega)|fail));(next=>(first|exact iN|(simp[eU,e8,eF,eN,iH,iI,iG, *];done)|fail));apply eC;(next=>(exact aJ)))|(apply KL;(next=>(first|rfl|fail));(next=>(first|rfl|fail));(next=>(exact aJ));(next=>(exact aJ));(next=>(exact aJ));(next=>(first|assumption|(apply_assumption<;>first|assumption|omega)|fail));(next=>(first|exact iN|(simp[eU,e8,eF,eN,iH,iI,iG, *];done)|fail));apply eC;(next=>(exact aJ)))|(apply KM;(next=>(first|rfl|fail));(next=>(first|rfl|fail));(next=>(exact aJ));(next=>(exact aJ));(next=>(exact aJ));(next=>(exact aJ));(next=>(first|assumption|(apply_assumption<;>first|assumption|omega)|fail));(next=>(first|exact iN|(simp[eU,e8,eF,eN,iH,iI,iG, *];done)|fail));apply eC;(next=>(exact aJ))))))|fail))
  (rM:wW (tab ops.toList) 0 [] es=true:=by(first|(simp(maxSteps:=2000000) (disch:=omega) only[go_sem,K0,K1, *]<;>kernel_rfl)|fail)):AW P (.region id ops true) σ Q:=TQ hm hs hd hr rM h
theorem RI{aL:AS}{id:Nat}{ops:Array Oper}{es:List Entry}{l:List Oper}(k0:Nat)(h:aX P true ops l aL (Q .normal))(hl:ops.toList.drop k0=l:=by(first|rfl|fail))(ht:KG ops.toList k0=true:=by(first|kernel_rfl|fail))(hm:P.follows .mixedOrders=true:=by(first|kernel_rfl|fail))(hs:zS ops=true:=by(first|kernel_rfl|fail))(hd:ops.toList.all (fT σ.nt)=true:=by(first|rfl|fail))
  (hr:fV P ops.toList σ.H.next 0 (ops.toList.take k0) {σ with H:=⟨σ.H.next+ops.size,σ.H.get⟩} es aL:=by(first|(apply eC;(next=>(exact aJ));(repeat (first|exact KC|(apply KJ;(next=>(first|rfl|fail));(next=>(exact aJ));apply eC;(next=>(exact aJ)))|(apply P3;(next=>(first|rfl|fail));(next=>(first|rfl|fail));(next=>(exact aJ));(next=>(first|assumption|(apply_assumption<;>first|assumption|omega)|fail));apply eC;(next=>(exact aJ)))|(apply P2;(next=>(first|rfl|fail));(next=>(first|rfl|fail));(next=>(exact aJ));(next=>(first|assumption|(apply_assumption<;>first|assumption|omega)|fail));apply eC;(next=>(exact aJ)))|(apply P4;(next=>(first|rfl|fail));(next=>(first|rfl|fail));(next=>(exact aJ));(next=>(exact aJ));(next=>(exact aJ));(next=>(first|assumption|(apply_assumption<;>first|assumption|omega)|fail));(next=>(first|exact iN|(simp[eU,e8,eF,eN,iH,iI,iG, *];done)|fail));apply eC;(next=>(exact aJ)))|(apply KI;(next=>(first|rfl|fail));(next=>(first|rfl|fail));(next=>(exact aJ));(next=>(first|assumption|(apply_assumption<;>first|assumption|omega)|fail));(next=>(first|exact iN|(simp[eU,e8,eF,eN,iH,iI,iG, *];done)|fail));apply eC;(next=>(exact aJ)))|(apply KK;(next=>(first|rfl|fail));(next=>(first|rfl|fail));(next=>(exact aJ));(next=>(exact aJ));(next=>(first|assumption|(apply_assumption<;>first|assumption|omega)|fail));(next=>(first|exact iN|(simp[eU,e8,eF,eN,iH,iI,iG, *];done)|fail));apply eC;(next=>(exact aJ)))|(apply KL;(next=>(first|rfl|fail));(next=>(first|rfl|fail));(next=>(exact aJ));(next=>(exact aJ));(next=>(exact aJ));(next=>(first|assumption|(apply_assumption<;>first|assumption|omega)|fail));(next=>(first|exact iN|(simp[eU,e8,eF,eN,iH,iI,iG, *];done)|fail));apply eC;(next=>(exact aJ)))|(apply KM;(next=>(first|rfl|fail));(next=>(first|rfl|fail));(next=>(exact aJ));(next=>(exact aJ));(next=>(exact aJ));(next=>(exact aJ));(next=>(first|assumption|(apply_assumption<;>first|assumption|omega)|fail));(next=>(first|exact iN|(simp[eU,e8,eF,eN,iH,iI,iG, *];done)|fail));apply eC;(next=>(exact aJ))))))|fail))
  (rM:wW (tab ops.toList) 0 [] es=true:=by(first|(simp(maxSteps:=2000000) (disch:=omega) only[go_sem,K0,K1, *]<;>kernel_rfl)|fail)):AW P (.region id ops true) σ Q:=Xb k0 hm hs ht hd hr rM (by rw[hl];exact h)
end
section
variable {P : Program} {σ : AS}
theorem TR{ops:Array Oper}{o:Oper}{rest:List Oper}{K:AS->Prop}{f:Operand}{as:Array Operand}{ts:Array TypeId}{n:FuncId}{args:List AV}{a:AV}{el:TypeId}{k:Nat}{rows:List (List AV)}{p:AS×List Oper}(h:aX P true ops p.2 p.1 K)(aP:o.op= .call ⟨.value f,as,ts⟩:=by(first|rfl|fail))(hg:o.guard=none:=by(first|rfl|fail))
  (hc:fL (σ.get true f) (dO (σ.get true) as.toList)=some (n,args):=by(exact aJ)) (hp:T9 P n args a el k rows:=by(first|assumption|(apply_assumption<;>first|assumption|omega)|fail))
  (hr:run P ops.toList rest (({σ with H:=⟨σ.H.next+1,aS σ.H.get [(σ.H.next,some (.cells el k rows true true))]⟩}:AS).put o.dst true (vO σ.H.next a))=p:=by(exact aJ)):aX P true ops (o::rest) σ K:=
 GU aP hg hc hp.run fun r H' ⟨h1,h2⟩=>by subst h1;subst h2;exact nQ _ _ hr h
end
theorem aE{A B:Prop}(h:B)(w:aU B->A:=by
  (intro hB;(repeat (first|refine tC ?_|refine B4 ?_|refine rE ?_|refine K3 ?_|refine bN ?_|refine gE ?_|refine NR ?_|refine NS ?_|refine NT ?_|refine NU ?_|refine NV ?_|refine NW (by decide) ?_|refine NH ?_|refine jA ?_|refine NL ?_|refine NM ?_|refine OT ?_|refine OU ?_|refine OV ?_|refine OW ?_|refine OX ?_|refine OY ?_|refine OB ?_|refine OC ?_|refine OP ?_|refine OQ ?_|refine OR ?_|refine OS ?_|refine ON ?_|refine OO ?_|refine O9 ?_|refine OA ?_|refine OD ?_|refine DY ?_|refine NK ?_|refine NJ ?_|refine O7 ?_|refine O8 ?_|refine OE ?_|refine OI ?_|refine TR ?_|refine OF ?_|refine OL ?_|refine OJ ?_|refine OG ?_|refine OH ?_|refine OZ ?_|refine P0 ?_|refine P1 ?_|refine OK ?_));exact hB.out)):A:=w ⟨h⟩
end Go.AL
namespace Go.AL
open Go.RowKit
theorem bn3(k:Nat){P:Program}{n:FuncId}{args:List AV}{Q:AV->Prop}(hA:gX P n args ⟨0,dH []⟩ (fun a H'=>bJ (cT H'.get k a)/\Q (cT H'.get k a))):fD P n args Q:=by
 refine⟨hA.1,fun L W vs hL hr=> ?_⟩
 have lR:RH (fM L) W ⟨0,dH []⟩:=⟨fun id h=>h.elim,hL,fun id h=>h.elim,fun id b h=>by cases h⟩
 refine(hA.2 (fM L) W vs lR hr).mono fun e W' ⟨v,he,E',r,H',hv,hH,iF,gG,hq⟩=> ?_
 refine⟨v,he,cT H'.get k r,fun b=>if b<W.heap.size then L b else max (E'.L b) (match W'.heap[b]? with|some (.cells cur _ _)=>cur.size|_=>0),⟨hv.os,hv.tape,hv.output,hv.size,fun k hk=>hv.sD k hk fun id h=>h.elim⟩,fun b bZ=> ?_,fun b bZ=> ?_,?_,gG,hq⟩
 ·simp[bZ]
 ·have h1:¬b<W.heap.size:=by have:=hv.size;omega
  simp[h1,hH.core.lim b bZ,PJ bZ]
 ·refine K5 hH.core (fun b=> ?_) (fun id hU cur e f hc=> ?_) k iF gG
  ·by_cases bZ:b<W.heap.size
   ·rw[hv.still b bZ fun id h=>h.elim]
    simp[bZ,fM]
   ·simp[bZ];omega
  ·have h1:¬E'.ι id<W.heap.size:=by
    rcases hv.fresh id (fun h=>h) hU with h2|⟨rF,h2,_⟩
    ·omega
    ·exact h2.elim
   simp[h1,hc];omega
end Go.AL
namespace Go.AL
theorem RC.Xh{E:Env}{W:World}{G:Nat->Option aI}{j:Nat}{e:TypeId}{s:Nat}{rws vP:List (List AV)}{w a:Bool}{B7:Array Value}(hG:RC E W G)(hj:G j=some (.cells e s rws w a))(hl:vP.length=rws.length)
  (hr:∀(i:Nat) r r',rws[i]? =some r->vP[i]? =some r'->r'.length=r.length/\∀(k:Nat) x y,r[k]? =some x->r'[k]? =some y->∀v,B7[i*s+k]? =some v->RV E W y v) (bU:W.heap[E.ι j]? =some (Obj.cells B7 e (0,0))):RC E W (aS G [(j,some (.cells e s vP w a))]):=by
 have oJ:∀id b,aS G [(j,some (.cells e s vP w a))] id=some b->∃b0,G id=some b0/\b.upto=b0.upto/\(b0.app=false->b.app=false):=fun id b h=>by
  simp only[aS]at h;split at h
  ·rename_i heq
   injection h with h
   subst h;subst heq;exact⟨_,hj,by simp only[aI.upto,hl],fun h=>h⟩
  ·exact⟨b,h,rfl,fun h=>h⟩
 refine⟨hG.lim,hG.eX,fun id b hb=> ?_⟩
 by_cases aC:id=j
 ·subst aC
  simp only[aS]at hb;rw[if_pos trivial]at hb;injection hb with hb
  subst hb;obtain⟨hU,h1,h2,⟨cur,h3,h4,h5⟩,h6,h7⟩:=hG.ok id _ hj;have Xi:∀(i:Nat) r',vP[i]? =some r'->∃r,rws[i]? =some r:=fun i r' h=>⟨_,fU (by rw[<-hl];exact(dS.1 h).1)⟩
  refine⟨hU,h1,fun i r' hi=> ?_,⟨cur,h3,by rw[hl];exact h4,fun i k r' y hi hk=> ?_⟩,fun hw=> ?_,fun ha=> ?_⟩
  ·obtain⟨r,h8⟩:=Xi i r' hi
   rw[(hr i r r' h8 hi).1];exact h2 i r h8
  ·obtain⟨r,h8⟩:=Xi i r' hi
   have h9:=hr i r r' h8 hi;have cO:k<r.length:=by rw[<-h9.1];exact(dS.1 hk).1
   obtain⟨v,kC,rX⟩:=h5 i k r _ h8 (fU cO)
   have dR:cur=B7:=by
    rw[bU]at h3;injection h3 with h3;injection h3 with h3;exact h3.symm
   exact⟨v,kC,h9.2 k _ y (fU cO) hk v (by rw[<-dR];exact kC)⟩
  ·obtain⟨h8,h9⟩:=h6 hw
   refine⟨h8,fun aK b' aM dA=> ?_⟩
   obtain⟨b0,cO,_⟩:=oJ aK b' dA;exact h9 aK b0 aM cO
  ·obtain⟨h8,h9⟩:=h7 ha
   refine⟨by rw[hl];exact h8,fun aK b' aM dA heq=> ?_⟩
   obtain⟨b0,cO,kC,rX⟩:=oJ aK b' dA;obtain⟨vU,zZ⟩:=h9 aK b0 aM cO heq;exact⟨by rw[kC,hl];exact vU,rX zZ⟩
 ·have uY:G id=some b:=by simpa only[aS,if_neg aC]using hb
  obtain⟨hU,cK⟩:=hG.ok id b uY;refine⟨hU,?_⟩;cases b with
  |map es=>
   obtain⟨h1,h5,h6⟩:=cK;refine⟨h1,h5,fun aK b' lZ dA=> ?_⟩
   obtain⟨b0,cO,_⟩:=oJ aK b' dA;exact h6 aK b0 lZ cO
  |iter m n seen=>
   obtain⟨h1,h5,h6⟩:=cK;refine⟨h1,h5,fun aK b' lZ dA=> ?_⟩
   obtain⟨b0,cO,_⟩:=oJ aK b' dA;exact h6 aK b0 lZ cO
  |cJ env nt ps assign body st J7=>
   obtain⟨h1,h5,h6⟩:=cK;refine⟨h1,h5,fun aK b' lZ dA=> ?_⟩
   obtain⟨b0,cO,_⟩:=oJ aK b' dA;exact h6 aK b0 lZ cO
  |cells e' s' dZ w' a'=>
   obtain⟨h1,h2,h3,h6,h7⟩:=cK;refine⟨h1,h2,h3,fun hw=> ?_,fun ha=> ?_⟩
   ·obtain⟨h8,h9⟩:=h6 hw
    refine⟨h8,fun aK b' lZ dA=> ?_⟩
    obtain⟨b0,cO,_⟩:=oJ aK b' dA;exact h9 aK b0 lZ cO
   ·obtain⟨h8,h9⟩:=h7 ha
    refine⟨h8,fun aK b' lZ dA heq=> ?_⟩
    obtain⟨b0,cO,kC,rX⟩:=oJ aK b' dA;obtain⟨vU,zZ⟩:=h9 aK b0 lZ cO heq;exact⟨by rw[kC];exact vU,rX zZ⟩
def Fz(id:Nat)(rows:List (List AV))(x y:AV):Prop:=x=y\/∃off len,x= .own id off len/\off+len<=rows.length/\y= .snap ((rows.drop off).take len)
def IJ(id:Nat)(rows rws vP:List (List AV)):Prop:=
 vP.length=rws.length/\∀(i:Nat) r r',rws[i]? =some r->vP[i]? =some r'->r'.length=r.length/\∀(k:Nat) x y,r[k]? =some x->r'[k]? =some y->Fz id rows x y
theorem sX{P:Program}{σ:AS}{Q:Exit->AS->Prop}{c:Code}(id j:Nat){e e2:TypeId}{s s2:Nat}{rows rws:List (List AV)}{w a w2 a2:Bool}(vP:List (List AV))(hg:σ.H.get id=some (.cells e s rows w a))(hj:σ.H.get j=some (.cells e2 s2 rws w2 a2))(jY:j≠id)
  (hr:IJ id rows rws vP) (h:AW P c ⟨σ.env,⟨σ.H.next,aS (aS σ.H.get [(id,some (.cells e s rows false a))]) [(j,some (.cells e2 s2 vP w2 a2))]⟩,σ.nt⟩ Q):AW P c σ Q:=fun ro E W act eH bR=>by
 obtain⟨hv,hH⟩:=Gr bR.heap hg
 have hL:∀aK,aK∈[id]->∀(e':TypeId) (s':Nat) (dZ:List (List AV)) (w' a':Bool),σ.H.get aK=some (.cells e' s' dZ w' a')->dZ.length*s'<=(if E.ι aK=E.ι id then max (E.L (E.ι aK)) (rows.length*s)else E.L (E.ι aK)):=fun aK h1 e' s' dZ w' a' h2=>by
  simp only[fB,mR,or_false]at h1;subst h1;rw[hg]at h2;injection h2 with h2
  injection h2 with h3 h4 h5
  subst h4 h5;rw[if_pos rfl];omega
 have XD:(aS σ.H.get [(id,some (.cells e s rows false a))]) j=some (.cells e2 s2 rws w2 a2):=by
  simp only[aS];rw[if_neg jY];exact hj
 --XG values of XG block j in XG BE world
 obtain⟨_,_,_,⟨cur,sB,_,DL⟩,_,_⟩:=bR.heap.core.ok j _ hj
 have hRC:RC ⟨E.ι,E.sz,E.U,fun b=>if b=E.ι id then max (E.L b) (rows.length*s)else E.L b⟩ W (aS (aS σ.H.get [(id,some (.cells e s rows false a))]) [(j,some (.cells e2 s2 vP w2 a2))]):=by
  refine hH.core.Xh XD hr.1 (fun i r r' h1 h2=>⟨(hr.2 i r r' h1 h2).1,fun k x y hx hy v bn5=> ?_⟩) sB
  obtain⟨v',h3,h4⟩:=DL i k r x h1 hx;rw[bn5]at h3;injection h3 with h3
  subst h3;rcases(hr.2 i r r' h1 h2).2 k x y hx hy with rfl|⟨off,len,rfl,hle,rfl⟩
  ·exact h4.mono hv
  ·have:=O0 bR.heap.core hv h4 (fun aK h5=>hL aK (by simpa[u6]using h5))
   simpa[oN,rowsOf,hg,hle]using this
 refine wpIn_mono (h ro _ W act eH (bR.mono hv ⟨hH.next,hRC⟩)) fun e' a' w' ⟨E',aL,h2,h3,h4,h5⟩=>⟨E',aL,(eB.of hv rfl).trans h2,h3,h4,h5⟩
end Go.AL
namespace Go.AL
open Go.RowKit
section
variable {P : Program} {σ : AS} {Q : Exit -> AS -> Prop}
theorem Hy{ops:List Oper}{N0 i:Nat}{o:Oper}{r:List Oper}{σ dV:AS}{es:List Entry}{f:Operand}{as:Array Operand}{ts:Array TypeId}{n:FuncId}{bS args:List AV}{a:AV}{wr:List (Nat×Option aI)}{rd:List Nat}(aP:o.op= .call ⟨.value f,as,ts⟩)(hg:o.guard=none)
  (hc:fL (σ.get true f) (dO (σ.get true) as.toList)=some (n,bS)) (he:bS.map (m7 σ.H.get)=args) (cW:kU lL bS=rd) (hw:(rd.map fun id=>(id,oK (σ.H.get id)))=wr) (hp:fD P n args (·=a)) (hn:∀a∈args,bJ a) (h:fV P ops N0 (i+1) r (σ.app o.dst ⟨true,a,wr,rd⟩) es dV):
  fV P ops N0 i (o::r) σ (⟨true,a,wr,rd⟩::es) dV:=bd4 aP hg hp hc he hn cW hw h
theorem xL{aL:AS}{id:Nat}{ops:Array Oper}{es:List Entry}(h:Q .normal aL)(hm:P.follows .mixedOrders=true:=by(first|kernel_rfl|fail))(hs:zS ops=true:=by(first|kernel_rfl|fail))(hd:ops.toList.all (fT σ.nt)=true:=by(first|rfl|fail))
  (hr:fV P ops.toList σ.H.next 0 ops.toList {σ with H:=⟨σ.H.next+ops.size,σ.H.get⟩} es aL:=by(first|(apply eC;(next=>(exact aJ));(repeat (first|exact KC|(apply Hy;(next=>(first|rfl|fail));(next=>(first|rfl|fail));(next=>(exact aJ));(next=>(exact aJ));(next=>(exact aJ));(next=>(exact aJ));(next=>(first|assumption|(apply_assumption<;>first|assumption|omega)|fail));(next=>(first|exact iN|(simp[eU,e8,eF,eN,iH,iI,iG, *];done)|fail));apply eC;(next=>(exact aJ)))|(apply KJ;(next=>(first|rfl|fail));(next=>(exact aJ));apply eC;(next=>(exact aJ)))|(apply P3;(next=>(first|rfl|fail));(next=>(first|rfl|fail));(next=>(exact aJ));(next=>(first|assumption|(apply_assumption<;>first|assumption|omega)|fail));apply eC;(next=>(exact aJ)))|(apply P2;(next=>(first|rfl|fail));(next=>(first|rfl|fail));(next=>(exact aJ));(next=>(first|assumption|(apply_assumption<;>first|assumption|omega)|fail));apply eC;(next=>(exact aJ)))|(apply P4;(next=>(first|rfl|fail));(next=>(first|rfl|fail));(next=>(exact aJ));(next=>(exact aJ));(next=>(exact aJ));(next=>(first|assumption|(apply_assumption<;>first|assumption|omega)|fail));(next=>(first|exact iN|(simp[eU,e8,eF,eN,iH,iI,iG, *];done)|fail));apply eC;(next=>(exact aJ)))|(apply KI;(next=>(first|rfl|fail));(next=>(first|rfl|fail));(next=>(exact aJ));(next=>(first|assumption|(apply_assumption<;>first|assumption|omega)|fail));(next=>(first|exact iN|(simp[eU,e8,eF,eN,iH,iI,iG, *];done)|fail));apply eC;(next=>(exact aJ)))|(apply KK;(next=>(first|rfl|fail));(next=>(first|rfl|fail));(next=>(exact aJ));(next=>(exact aJ));(next=>(first|assumption|(apply_assumption<;>first|assumption|omega)|fail));(next=>(first|exact iN|(simp[eU,e8,eF,eN,iH,iI,iG, *];done)|fail));apply eC;(next=>(exact aJ)))|(apply KL;(next=>(first|rfl|fail));(next=>(first|rfl|fail));(next=>(exact aJ));(next=>(exact aJ));(next=>(exact aJ));(next=>(first|assumption|(apply_assumption<;>first|assumption|omega)|fail));(next=>(first|exact iN|(simp[eU,e8,eF,eN,iH,iI,iG, *];done)|fail));apply eC;(next=>(exact aJ)))|(apply KM;(next=>(first|rfl|fail));(next=>(first|rfl|fail));(next=>(exact aJ));(next=>(exact aJ));(next=>(exact aJ));(next=>(exact aJ));(next=>(first|assumption|(apply_assumption<;>first|assumption|omega)|fail));(next=>(first|exact iN|(simp[eU,e8,eF,eN,iH,iI,iG, *];done)|fail));apply eC;(next=>(exact aJ))))))|fail))
  (rM:wW (tab ops.toList) 0 [] es=true:=by(first|(simp(maxSteps:=2000000) (disch:=omega) only[go_sem,K0,K1, *]<;>kernel_rfl)|fail)):AW P (.region id ops true) σ Q:=TQ hm hs hd hr rM h
end
end Go.AL
namespace Go.AL
open Go.RowKit
def jO(x:Value):List PanicEntry:=[{v:=x,recovered:=false}]
def F9(P:Program)(n:FuncId)(args:List AV)(x:Value):Prop:=
 qN P n=true/\∀(L:Nat->Nat) (W:World) (vs:List Value),(∀b,W.heap.size<=b->L b=0)->bP (fM L) W args vs->
  Calls P n vs.toArray W fun e W'=>e= .panicked (jO x)/\Below W.heap.size W W'
theorem F9.run{P:Program}{n:FuncId}{args:List AV}{x:Value}(h:F9 P n args x)(ha:∀a∈args,bJ a){E:Env}{W:World}{H:Heap}(hH:RH E W H){vs:List Value}(hr:bP E W args vs):
  Calls P n vs.toArray W fun e W'=>e= .panicked (jO x)/\bD E W E W'/\RH E W' H:=by
 refine(h.2 E.L W vs hH.core.lim (hr.qO (fun _=>cA _) ha)).mono fun e W' ⟨he,hb⟩=> ?_
 obtain⟨h1,h2⟩:=bD.below hH.core hb;exact⟨he,h1,hH.next,h2⟩
theorem YL{fn:Func}{args:List AV}{H:Heap}{E:Env}{W:World}{vs:List Value}(hlen:args.length<=fn.ntmps)(hH:RH E W H)(hr:bP E W args vs):
  Rel E W ⟨lK 0 args,H,fn.ntmps⟩ {tmps:=vs.toArray++Array.replicate (fn.ntmps-vs.toArray.size) undef,defers:=[]}:=by
 refine⟨Marks.nil E W,?_,fun t c a ha=> ?_,hH⟩
 ·have:=hr.1;simp;omega
 ·obtain⟨_,h1,SO⟩:=Gd args 0 t _ ha
  obtain⟨v,h2,h3⟩:=hr.get h1;simp only[Jc]at h2;refine⟨v,?_,fun _=>h3,fun h=>by simp only at SO;rw[SO]at h;cases h⟩
  rw[PH (by simpa using(dS.1 h2).1)]
  simpa using h2
theorem bn6{P:Program}{n:FuncId}{fn:Func}{c:Code}{args:List AV}{x:Value}(hf:P.funcs[n]? =some fn)(hb:fn.body=some c)(fP:(fn.name== "runtime.NumGoroutine")=false)(hlen:args.length<=fn.ntmps)
  (h:AW P c ⟨lK 0 args,⟨0,dH []⟩,fn.ntmps⟩ (fun e _=>e= .panic (jO x))):F9 P n args x:=by
 refine⟨by unfold qN;rw[hf];simp[fP,hb],fun L W vs hL hr=> ?_⟩
 have lR:RH (fM L) W ⟨0,dH []⟩:=⟨fun id h=>h.elim,hL,fun id h=>h.elim,fun id b h=>by cases h⟩
 refine callsIn_wide.1 (callsIn_of_wp_marks (F:=Fence.wide) (n:=3) hf hb trivial ?_);refine wpIn_mono (h none (fM L) W _ (fun l h=>by cases h) (YL hlen lR hr)) fun e a w ⟨E',aL,h1,h2,h3,h4⟩=> ?_
 subst h4;obtain⟨Ds,pL,tB,yL⟩:=h2.defers;have CV:∀D∈Ds,W.heap.size<=D:=fun D hD=>(h1.new D (N7 pL hD)).resolve_left (fun h=>by cases h)
 have key:=NN (P:=P) (fn:=fn) (tmps:=a.tmps) (R:=fun e W'=>e= .panicked (jO x)/\Below W.heap.size W W') (I:=fun w'=>bD (fM L) W E' w') (u:= .panicking (jO x)) (by simp) (rest:=[]) a.defers Ds pL h1.BE tB
  (fun D hD w' hw hI=>hI.shut hL (CV D hD)) (fun w' hI=>⟨rfl,hI.os,hI.tape,hI.output,hI.size,fun k hk=>hI.sD k hk fun id h=>h.elim⟩) (fun D hD=>(yL D hD).1) h1.oY
 rw[rO]at key;exact key
theorem BL{F:Fence}{n:Nat}{P:Program}{ops:Array Oper}{Q:Exit->Act->World->Prop}{r:List Nat}:∀(l:List Nat) (a:Act) (w:World),wpOpsIn F n P ops (Exit.then (wpOpsIn F n P ops Q r) Q) l a w->wpOpsIn F n P ops Q (l++r) a w
 |[],a,w,h=>h
 |i::l,a,w,h=>by
  simp only[wpOpsIn,YX]at h⊢;cases ho:ops[i]? with
  |none=>simp only[ho]at h⊢;exact BL l a w h
  |some o=>
   simp only[ho]at h⊢;by_cases hw:Region.wanted o (yielded ops a.tmps)=true
   ·simp only[hw,if_true]at h⊢
    refine⟨h.1,?_⟩;have h2:=h.2;generalize (o.semAt F.round a.eval).run P w=r' at h2;simp only[Oper.uponIn]at h2⊢;split at h2
    ·exact BL l _ _ h2
    ·exact BL l _ _ h2
    ·exact BL l _ _ h2
    ·refine⟨h2.1,h2.2.mono fun e Xj hR=> ?_⟩
     cases e with
     |returned v=>exact BL l _ _ hR
     |panicked ch=>exact hR
     |outgrown=>exact hR
    ·exact⟨h2.1,h2.2.mono fun v Xj hR=>BL l _ _ hR⟩
    ·refine⟨h2.1,h2.2.mono fun e Xj hR=> ?_⟩
     cases e with
     |returned v=>exact BL l _ _ hR
     |panicked ch=>exact hR
     |outgrown=>exact hR
    ·exact h2
    ·exact h2
   ·simp only[hw,if_false,kV]at h⊢
    exact⟨h.1,BL l _ _ h.2⟩
def XW(P:Program)(o:Oper)(σ:AS)(x:Value):Prop:=
 o.guard=none/\∀(ro:Option Nat) (E:Env) (W:World) (act:Act) (next:Act->World->Prop) (Q:Exit->Act->World->Prop),Rel E W σ act->(∀W',bD E W E W'->Rel E W' σ act->Q (.panic (jO x)) act W')->o.wpIn (kN ro) 3 P act W next Q
theorem range_split{n k:Nat}(h:k<n):∃more,List.range n=List.range k++k::more:=by
 obtain⟨m,rfl⟩:∃m,n=k+(m+1):=⟨n-k-1,by omega⟩
 rw[List.range_add,List.range_succ_eq_map];exact⟨_,by simp;rfl⟩
section
variable {P : Program} {σ : AS} {Q : Exit -> AS -> Prop}
theorem bn7{id:Nat}{ops:Array Oper}(k:Nat){o:Oper}{x:Value}(ho:ops[k]? =some o)(hd:(ops.toList.take k).all (fT σ.nt)=true)
  (h:aX P true ops (ops.toList.take k) σ (hold (fun aL=>XW P o aL x/\Q (.panic (jO x)) aL) ⟨⟩)):AW P (.region id ops false) σ Q:=fun ro E W act eH hr=>by
 refine wpIn_region ?_;have hk:k<ops.size:=(jB.1 ho).1;obtain⟨more,hm⟩:=range_split hk;rw[hm];refine BL _ _ _ ?_;refine GR (List.range k) (ops.toList.take k) ?_ h hd hr (fun E' W' aL cE hv dD cU hK=> ?_)
 ·apply BS
  intro i;simp only[iA,uD];by_cases hi:i<k
  ·have:i<ops.size:=by omega
   simp[hi,uD,gF,this]
  ·simp[hi,uD,gF]
 ·obtain⟨⟨hg,hx⟩,hq⟩:=hK
  show wpOpsIn (kN ro) 3 P ops _ (k::more) cE W'
  simp only[wpOpsIn,ho];rw[if_pos (by simp[Region.wanted,hg])]
  exact hx ro E' W' cE _ _ dD fun E6 eZ lP=>⟨E',aL,hv.trans (.of eZ rfl),lP,cU,hq⟩
theorem bn8{o:Oper}{f:Operand}{as:Array Operand}{ts:Array TypeId}{n:FuncId}{args:List AV}{x:Value}(aP:o.op= .call ⟨.value f,as,ts⟩)(hg:o.guard=none)(hc:fL (σ.get true f) (dO (σ.get true) as.toList)=some (n,args))(ha:∀a∈args,bJ a)(h:F9 P n args x):XW P o σ x:=by
 refine⟨hg,fun ro E W act next Q hr hn=> ?_⟩
 obtain⟨first,cap,mH,hf,has,rfl⟩:=yI hc
 have h1:=hr.get rfl hf;have h2:=tZ (E:=E) (W:=W) (ρ:=act.eval) (fun x b hb=>hr.get rfl hb) _ _ has
 generalize nB:act.eval f=fv at h1;cases h1 with
 |fn _ _ _ vf vc hl bQ h3 h4=>
 have lJ:bP E W (first++mH++cap) (vf.toList++as.toList.map act.eval++vc.toList):=by
  refine(bP.append ?_ h2).append ?_
  ·exact⟨by simpa using hl,fun i x v hx hv=>h3 i x v hx (by simpa using hv)⟩
  ·exact⟨by simpa using bQ,fun i x v hx hv=>h4 i x v hx (by simpa using hv)⟩
 have dR:=h.run ha hr.heap lJ
 have dF:(execOp act.eval o).run P W= .ok (.enter n (vf.toList++as.toList.map act.eval++vc.toList).toArray) W:=by
  simp only[execOp,aP,resolve,nB,Deferred.ofValue,Sem.run_bind,Sem.run_pure,Result.andThen_ok,invoke];rw[yK h.1];congr 2;apply zW;simp
 refine⟨fun _ _=>trivial,?_⟩
 rw[Oper.semAt_eq _ _ _ (fun c h=>by rw[aP]at h;cases h),dF]
 refine⟨yH,zQ (dR.mono fun e W' ⟨he,hv,hH⟩=> ?_)⟩
 subst he;exact hn W' hv (hr.mono hv hH)
theorem bn9{o:Oper}{y:Operand}{t:TypeId}{v:Value}(aP:o.op= .panic y)(hg:o.guard=none)(hy:σ.get true y=some (.c (.iface t v))):XW P o σ (.iface t v):=by
 refine⟨hg,fun ro E W act next Q hr hn=> ?_⟩
 have h1:=hr.get rfl hy;generalize hv:act.eval y=u at h1;cases h1
 have dF:(execOp act.eval o).run P W= .halt (.panic (.iface t v)) W:=by
  simp only[execOp,aP,hv,Instr.panic];rfl
 refine⟨fun _ _=>trivial,?_⟩
 rw[Oper.semAt_eq _ _ _ (fun c h=>by rw[aP]at h;cases h),dF]
 exact hn W (bD.refl E W) hr
end
end Go.AL
namespace Go.AL
open Go.RowKit
def KO:Option Value->FrameMode
 |none=> .returning
 |some x=> .panicking (jO x)
def BM:Option Value->FrameMode
 |none=> .returning
 |some x=> .panicking [{v:=x,recovered:=true}]
def pN:Option Value->Value
 |none=> .nilIface
 |some x=>x
theorem bo0(r:Option Value):settle (BM r)= .returning:=by cases r<;>rfl
theorem Xk(r:Option Value):KO r≠ .run:=by cases r<;>simp[KO]
def o0(P:Program)(m:FuncId)(args:List AV)(H:Heap)(r:Option Value)(Q:Heap->Prop):Prop:=
 qN P m=true/\∀(E:Env) (W:World) (vs:List Value),RH E W H->bP E W args vs->
  CallsDIn Fence.wide 2 P m vs.toArray (KO r) W fun e u' W'=>(∃v,e= .returned v)/\u'=BM r/\∃E' H',bD E W E' W'/\RH E' W' H'/\Q H'
def EP(E:Env)(W:World)(d:Deferred)(m:FuncId)(cargs:List AV):Prop:=
 ∃vf vc:Array Value,d={target:= .fn (.func m) vc,args:=vf}/\bP E W cargs (vf.toList++vc.toList)
theorem EP.mono{E E':Env}{W W':World}{d:Deferred}{m:FuncId}{cargs:List AV}(h:EP E W d m cargs)(hv:bD E W E' W'):EP E' W' d m cargs:=by
 obtain⟨vf,vc,h1,h2,h3⟩:=h;exact⟨vf,vc,h1,h2,fun i x v hx kM=>(h3 i x v hx kM).mono hv⟩
theorem EP.shut{E:Env}{w:World}{d:Deferred}{m:FuncId}{cargs:List AV}{D:Nat}{x:Option (List Deferred)}{o:Obj}(hD:w.heap[D]? =some (.deferred x))(h:EP E w d m cargs):EP E (w.putObj D o) d m cargs:=by
 obtain⟨vf,vc,h1,h2,h3⟩:=h;exact⟨vf,vc,h1,h2,fun i x v hx kM=>(h3 i x v hx kM).shut hD⟩
def AD(P:Program)(c:Code)(σ:AS)(m:FuncId)(cargs:List AV)(Q:Exit->AS->Prop):Prop:=
 ∀(E:Env) (W:World) (act:Act),Rel E W σ act->oX act.defers=[]->c.wpIn Fence.wide 3 P (fun e cE W'=>∃E' aL d,bD E W E' W'/\(∀D,qP D∈cE.defers->qP D∈act.defers\/W.heap.size<=D)/\oX cE.defers=[d]/\EP E' W' d m cargs/\Rel E' W' aL cE/\aL.nt=σ.nt/\Q e aL) act W
theorem bo1{n k:Nat}(h:k<n):List.range n=List.range k++k::List.range' (k+1) (n-(k+1)):=by
 obtain⟨m,rfl⟩:∃m,n=k+(m+1):=⟨n-k-1,by omega⟩
 rw[List.range_eq_range',List.range_eq_range',<-List.range'_append_1,sN,List.range'_succ,show k+(m+1)-(k+1)=m by omega]
theorem map_take{ops:Array Oper}{k:Nat}(hk:k<=ops.size):(List.range k).map (ops[·]?)=(ops.toList.take k).map some:=by
 apply BS;intro i;simp only[iA,uD];by_cases hi:i<k
 ·have:i<ops.size:=by omega
  simp[hi,uD,gF,this]
 ·simp[hi,uD,gF]
theorem map_drop{ops:Array Oper}{k:Nat}(hk:k<ops.size):(List.range' (k+1) (ops.size-(k+1))).map (ops[·]?)=(ops.toList.drop (k+1)).map some:=by
 apply BS;intro i;simp only[iA,m9];by_cases hi:i<ops.size-(k+1)
 ·have:k+1+i<ops.size:=by omega
  simp[List.getElem?_range',hi,this]
 ·have:¬k+1+i<ops.size:=by omega
  simp[List.getElem?_range',hi,this]
section
variable {P : Program} {σ : AS} {Q : Exit -> AS -> Prop} {m : FuncId} {cargs : List AV}
theorem bo2{id:Nat}{ops:Array Oper}(k:Nat){o:Oper}{f:Operand}{as:Array Operand}{ts:Array TypeId}(ho:ops[k]? =some o)(hd:ops.toList.all (fT σ.nt)=true)(aP:o.op= .defer ⟨.value f,as,ts⟩)(hg:o.guard=none)
  (h:aX P true ops (ops.toList.take k) σ (hold (fun aL=>fL (aL.get true f) (dO (aL.get true) as.toList)=some (m,cargs)/\aX P true ops (ops.toList.drop (k+1)) (aL.put o.dst true (.c undef)) (Q .normal)) ⟨⟩)):AD P (.region id ops false) σ m cargs Q:=fun E W act hr h0=>by
 refine wpIn_region ?_;have hk:k<ops.size:=(jB.1 ho).1;have eT:∀x∈ops.toList,fT σ.nt x=true:=fun x hx=>by simpa using gK.1 hd x hx
 rw[bo1 hk];refine BL _ _ _ ?_;refine GR (ro:=none) (List.range k) (ops.toList.take k) (map_take (Iq hk)) h (gK.2 fun x hx=>eT x (qB hx)) hr (fun E' W' aL cE hv dD cU hK=> ?_)
 obtain⟨hc,En⟩:=hK
 show wpOpsIn Fence.wide 3 P ops _ (k::List.range' (k+1) (ops.size-(k+1))) cE W'
 simp only[wpOpsIn,ho];rw[if_pos (by simp[Region.wanted,hg])]
 obtain⟨first,cap,mH,hf,has,hca⟩:=yI hc
 have h1:=dD.get rfl hf;have h2:=tZ (E:=E') (W:=W') (ρ:=cE.eval) (fun x b hb=>dD.get rfl hb) _ _ has
 generalize nB:cE.eval f=fv at h1;cases h1 with
 |fn _ _ _ vf vc hl bQ h3 h4=>
 have lJ:bP E' W' cargs ((vf++as.map cE.eval).toList++vc.toList):=by
  rw[hca,show(vf++as.map cE.eval).toList++vc.toList=vf.toList++as.toList.map cE.eval++vc.toList by simp]
  refine(bP.append ?_ ?_).append ?_
  ·exact⟨by simpa using hl,fun i x v hx hv=>h3 i x v hx (by simpa using hv)⟩
  ·exact h2
  ·exact⟨by simpa using bQ,fun i x v hx hv=>h4 i x v hx (by simpa using hv)⟩
 have dF:(execOp cE.eval o).run P W'= .ok (.defer {target:= .fn (.func m) vc,args:=vf++as.map cE.eval}) W':=by
  simp only[execOp,aP,resolve,nB,Deferred.ofValue,Sem.run_bind,Sem.run_pure,Result.andThen_ok]
 have bo4:EP E' W' {target:= .fn (.func m) vc,args:=vf++as.map cE.eval} m cargs:=⟨_,_,rfl,lJ⟩;refine⟨fun _ _=>trivial,?_⟩
 rw[show Fence.wide.round=none from rfl,Oper.semAt_none,dF]
 show wpOpsIn _ _ _ _ _ _ _ _
 have lP:Rel E' W' aL {cE with defers:={target:= .fn (.func m) vc,args:=vf++as.map cE.eval}::cE.defers}:=⟨dD.defers.push rfl,dD.size,dD.env,dD.heap⟩
 have Fy:=lP.put (dst:=o.dst) (oI (by rw[cU];exact eT o (eY (by simpa using ho)))) (c:=true) (a:= .c undef) (v:=undef) (fun _=> .c _ rfl) (fun h=>by cases h)
 refine GR (ro:=none) _ (ops.toList.drop (k+1)) (map_drop hk) En (gK.2 fun x hx=>by rw[AS.sF,cU];exact eT x (l5 hx)) Fy (fun E2 W2 EN Xc eZ XU JW IK=> ?_)
 refine⟨E2,EN,_,hv.oY.trans eZ.oY,fun D hD=> ?_,?_,bo4.mono eZ.oY,XU,?_,IK⟩
 ·rcases eZ.new D hD with h5|h5
  ·rw[Act.put_defers]at h5
   rcases fB.1 h5 with h6|h6
   ·cases h6
   ·exact hv.new D h6
  ·exact .inr (uA hv.oY.size h5)
 ·rw[eZ.BE,Act.put_defers]
  show oX (_::_)=_
  unfold oX;rw[PI (by rfl)]
  have:oX cE.defers=[]:=by rw[hv.BE];exact h0
  unfold oX at this;rw[this]
 ·rw[JW,AS.sF,cU]
theorem bo5{x y:Code}(h:AD P x σ m cargs (cZ (fun aL=>AW P y aL Q) Q)):AD P (.seq x y) σ m cargs Q:=fun E W act hr h0=>by
 refine wpIn_seq (wpIn_mono (h E W act hr h0) fun e a w ⟨E',aL,d,hv,hm,ho,hd,dD,cU,hq⟩=> ?_)
 cases e with
 |normal=>
  refine wpIn_mono (hq none E' w a (fun l hl=>by cases hl) dD) fun e2 a2 w2 ⟨E2,EN,hw,lP,lG,oC⟩=>⟨E2,EN,d,hv.trans hw.oY,fun D hD=> ?_,hw.BE.trans ho,hd.mono hw.oY,lP,lG.trans cU,oC⟩
  rcases hw.new D hD with h5|h5
  ·exact hm D h5
  ·exact .inr (uA hv.size h5)
 |_=>exact⟨E',aL,d,hv,hm,ho,hd,dD,cU,hq⟩
theorem bo6{x y:Code}(h:AW P x σ (fun e aL=>e= .normal/\AD P y aL m cargs Q)):AD P (.seq x y) σ m cargs Q:=fun E W act hr h0=>by
 refine wpIn_seq (wpIn_mono (h none E W act (fun l hl=>by cases hl) hr) fun e a w ⟨E',aL,hw,dD,cU,he,hq⟩=> ?_)
 subst he;refine wpIn_mono (hq E' w a dD (hw.BE.trans h0)) fun e2 a2 w2 ⟨E2,EN,d,eZ,nD,KF,uU,lP,lG,oC⟩=>⟨E2,EN,d,hw.oY.trans eZ,fun D hD=> ?_,KF,uU,lP,lG.trans cU,oC⟩
 rcases nD D hD with h5|h5
 ·exact hw.new D h5
 ·exact .inr (uA hw.oY.size h5)
end
theorem Xl{d:Deferred}:∀{l:List Deferred},oX l=[d]->∃l1 l2,l=l1++d::l2/\oX l1=[]/\oX l2=[]/\wT d=false
 |[],h=>by cases h
 |x::l,h=>by
  unfold oX at h;cases hx:wT x with
  |true=>
   rw[UE (by simp[hx])]at h
   obtain⟨l1,l2,rfl,h1,h2,h3⟩:=Xl (l:=l) h;refine⟨x::l1,l2,rfl,?_,h2,h3⟩;unfold oX at h1⊢;rw[UE (by simp[hx])];exact h1
  |false=>
   rw[PI (by simp[hx]),PG]at h
   obtain⟨rfl,h⟩:=h;exact⟨[],l,rfl,rfl,h,hx⟩
def TS(P:Program)(rs:List ResultVar)(m:FuncId)(cargs:List AV)(Q:AV->Heap->Prop):Exit->AS->Prop
 | .normal,σ=>o0 P m cargs σ.H none (hold (fun H'=>nO (iZ P {σ with H:=H'} rs) (hold (fun a=>Q a H') ⟨⟩)) ⟨⟩)
 | .ret,σ=>o0 P m cargs σ.H none (hold (fun H'=>nO (iZ P {σ with H:=H'} rs) (hold (fun a=>Q a H') ⟨⟩)) ⟨⟩)
 | .panic ch,σ=>∃x,ch=jO x/\o0 P m cargs σ.H (some x) (hold (fun H'=>nO (iZ P {σ with H:=H'} rs) (hold (fun a=>Q a H') ⟨⟩)) ⟨⟩)
 |_,_=>False
theorem bo7{P:Program}{n:FuncId}{fn:Func}{c:Code}{args:List AV}{H:Heap}{Q:AV->Heap->Prop}{m:FuncId}{cargs:List AV}(hf:P.funcs[n]? =some fn)(hb:fn.body=some c)(fP:(fn.name== "runtime.NumGoroutine")=false)(hlen:args.length<=fn.ntmps)
  (h:AD P c ⟨lK 0 args,H,fn.ntmps⟩ m cargs (hold (TS P fn.results.toList m cargs (hold Q ⟨⟩)) ⟨⟩)):gX P n args H Q:=by
 refine⟨by unfold qN;rw[hf];simp[fP,hb],fun E W vs hH hr=> ?_⟩
 refine callsIn_wide.1 (callsIn_of_wp_marks (F:=Fence.wide) (n:=3) hf hb trivial ?_);refine wpIn_mono (h E W _ (YL hlen hH hr) rfl) fun e a w ⟨E',aL,d,hv,hm,ho,hd,dD,cU,hq⟩=> ?_
 have fin:∀r:Option Value,o0 P m cargs aL.H r (fun H'=>nO (iZ P {aL with H:=H'} fn.results.toList) (hold (fun a=>Q a H') ⟨⟩))->
   LeavesInM Fence.wide 3 P fn a.tmps (fun e W'=>∃v,e= .returned v/\∃E' r H',bD E W E' W'/\RH E' W' H'/\RV E' W' r v/\Q r H') a.defers (KO r) w:=fun r hq=>by
  obtain⟨Ds,pL,tB,yL⟩:=dD.defers;have CV:∀D∈Ds,W.heap.size<=D:=fun D hD=>(hm D (N7 pL hD)).resolve_left (fun h=>by cases h)
  obtain⟨l1,l2,hl,Hz,KF,hdm⟩:=Xl ho;rw[hl,Yo,UE (by simp[hdm])]at pL
  obtain⟨Ds1,Ia,rfl,hE1,r5⟩:=List.map_eq_append_iff.1 pL.symm;rw[List.nodup_append]at tB;rw[hl]
  refine NN (I:=fun w'=>bD E W E' w'/\Rel E' w' aL {a with defers:=[]}/\EP E' w' d m cargs/\∀D∈Ia,w'.heap[D]? =some (.deferred (some []))) (u:=KO r) (Xk r) (rest:=d::l2) l1 Ds1 hE1.symm Hz tB.1
   (fun D hD w' hw hI=>⟨hI.1.shut hH.core.lim (CV D (BV _ hD)),hI.2.1.shut hw,hI.2.2.1.shut hw,fun D' u5=> ?_⟩) (fun w' hI=> ?_) (fun D hD=>(yL D (BV _ hD)).1) ⟨hv,⟨Marks.nil _ _,dD.size,dD.env,dD.heap⟩,hd,fun D hD=>(yL D (BW _ hD)).1⟩
  ·rw[World.putObj_heap_other (fun e=>tB.2.2 D hD D' u5 e.symm)]
   exact hI.2.2.2 D' u5
  ·obtain⟨hI1,Xm,⟨vf,vc,rfl,lJ⟩,Xn⟩:=hI
   refine⟨Xk r,.inr ⟨fun h=>by simp[Fence.wide]at h,.func m,vc,m,(vf.toList++vc.toList).toArray,rfl,?_,fun _ _=>trivial,?_⟩⟩
   ·simp only[invoke]
    rw[yK hq.1];congr 2;apply zW;simp
   ·refine(hq.2 E' w' _ Xm.heap lJ).mono fun e u' w2 ⟨⟨v,he⟩,hu,E2,H2,eZ,Gk,hQ2⟩=> ?_
    subst he;subst hu
    show LeavesInM Fence.wide 3 P fn a.tmps _ l2 (settle (BM r)) w2
    rw[bo0];obtain⟨b,uY,oC⟩:=GN hQ2
    have hI5:∀D∈Ia,w2.heap[D]? =some (.deferred (some [])):=fun D hD=>by
     rw[eZ.sD D (jB.1 (Xn D hD)).1 (yL D (BW _ hD)).2];exact Xn D hD
    have key:=NN (P:=P) (fn:=fn) (tmps:=a.tmps) (R:=fun e W'=>∃v,e= .returned v/\∃E' r H',bD E W E' W'/\RH E' W' H'/\RV E' W' r v/\Q r H') (I:=fun w'=>bD E W E2 w'/\Rel E2 w' ({aL with H:=H2}:AS) {a with defers:=[]}) (u:= .returning) (by simp) (rest:=[]) l2 Ia r5.symm KF tB.2.1
     (fun D hD w' hw hI=>⟨hI.1.shut hH.core.lim (CV D (BW _ hD)),hI.2.shut hw⟩) (fun w' hI=> ?_) hI5 ⟨hI1.trans eZ,Xm.mono eZ Gk⟩
    ·rw[rO]at key;exact key
    ·obtain⟨v2,h5,h6⟩:=Ge hI.2 uY
     exact⟨v2,h5,v2,rfl,E2,b,H2,hI.1,hI.2.heap,h6,oC⟩
 cases e with
 |normal=>exact fin none hq
 |ret=>exact fin none hq
 |panic ch=>
  obtain⟨x,rfl,hq⟩:=hq;exact fin (some x) hq
 |_=>exact hq.elim
theorem Xo{P:Program}{I:World->Prop}:∀(ds:List Deferred) (Ds:List Nat),ds.filter wT=Ds.map qP->oX ds=[]->Ds.Nodup->(∀D∈Ds,∀w,w.heap[D]? =some (.deferred (some []))->I w->I (w.putObj D (.deferred none)))->
  ∀{fr:Frame} {cs:List Frame} {w:World},fr.mode≠ .run->fr.defers=ds->(∀D∈Ds,w.heap[D]? =some (.deferred (some [])))->I w->∃w',StepsIn (Machine.fenced P Fence.wide) P (lone fr cs w) (lone {fr with defers:=[]} cs w')/\I w'
 |[],_,_,_,_,_,fr,cs,w,_,hd,_,hI=>⟨w,by cases fr;simp only at hd;subst hd;exact StepsIn.refl _,hI⟩
 |d::ds,Ds,hm,ho,hn,hs,fr,cs,w,Xp,EB,hw,hI=>by
  have hd:wT d=true:=by
   cases h:wT d with
   |true=>rfl
   |false=>
    unfold oX at ho;rw[PI (by simp[h])]at ho
    cases ho
  rw[PI hd]at hm;cases Ds with
  |nil=>simp at hm
  |cons D Ds=>
   rw[jW,PG]at hm;obtain⟨rfl,hm⟩:=hm;have h0:=hw D (by simp)
   rw[Iy]at hn
   have vN:oX ds=[]:=by
    unfold oX at ho⊢;rw[UE (by simp[hd])]at ho
    exact ho
   have h1:=step_collected (P:=P) (cs:=cs) Xp EB rfl (run_takeDeferred h0)
   obtain⟨w',h2,h3⟩:=Xo ds Ds hm vN hn.2 (fun D' u5=>hs D' (by simp[u5])) (fr:={fr with defers:=[]++ds}) (cs:=cs) Xp rfl (fun D' u5=>by
    rw[World.putObj_heap_other (fun e=>hn.1 (by rw[<-e];exact u5))]
    exact hw D' (by simp[u5])) (hs D (by simp) w h0 hI)
   exact⟨w',.head (fenced_wide P _) h1 h2,h3⟩
def TU(P:Program)(fn:Func)(rN:Frame)(cs:List Frame)(R:Ending->FrameMode->World->Prop)(e:Exit)(a:Act)(H8:List Frame)(w:World):Prop:=
 (e= .normal\/e= .ret)/\∃u',H8={rN with mode:=u'}::cs/\∀fr:Frame,fr.mode= .returning->fr.defers=a.defers->
   ∃w',StepsIn (Machine.fenced P Fence.wide) P (lone fr H8 w) (lone {fr with defers:=[]} H8 w')/\∃v,(results fn a.tmps).run P w'= .ok v w'/\R (.returned v) u' w'
theorem bp4{P:Program}{m:FuncId}{fn:Func}{c:Code}{args:Array Value}{u:FrameMode}{w:World}{R:Ending->FrameMode->World->Prop}
  (hf:P.funcs[m]? =some fn) (hb:fn.body=some c)
  (h:∀(rN:Frame) (cs:List Frame),rN.mode=u->c.wpSIn Fence.wide 2 P (TU P fn rN cs R) {tmps:=args++Array.replicate (fn.ntmps-args.size) undef,defers:=[]} (rN::cs) w):
  CallsDIn Fence.wide 2 P m args u w R:=by
 refine⟨trivial,fun rN cs hu AI=> ?_⟩
 let b:Frame:={(default:Frame)with fn:=m,kind:= .deferred,roundOf:=none}
 have bp5:Frame.enter P m args .deferred=
   b.atR {tmps:=args++Array.replicate (fn.ntmps-args.size) undef,defers:=[]} [.code c]:=by
  simp[Frame.enter,Frame.atR,hf,hb,b]
 obtain⟨e,a',H8,w',hl,⟨he,u',rfl,hq⟩,CU⟩:=h rN cs hu b [] rfl rfl trivial AI;rw[<-bp5]at CU;rcases he with rfl|rfl
 ·obtain⟨w2,hs,v,hr,hR⟩:=hq {b.atR a' []with mode:= .returning} rfl rfl
  exact⟨.returned v,u',w2,_,hR,StepsIn.trans CU (.head (fenced_wide P _) (stepR_end rfl) hs),rfl,rfl,rfl,rfl,fn,hf,hr⟩
 ·obtain⟨todo,iM⟩:=CU.1 rfl
  obtain⟨w2,hs,v,hr,hR⟩:=hq {b.atR a' todo with mode:= .returning} rfl rfl
  exact⟨.returned v,u',w2,_,hR,StepsIn.trans iM hs,rfl,rfl,rfl,rfl,fn,hf,hr⟩
end Go.AL
namespace Go.AL
open Go.RowKit
section
variable {P : Program} {ops : Array Oper}
theorem Xq{Q:Exit->Act->World->Prop}{K:AS->Prop}{nt k0 kx:Nat}{ox:Oper}{x:Value}(P5:ops[kx]? =some ox)(EL:∀(j:Nat) o,ops[j]? =some o->∀k∈sI o,k<j)(KD:∀j,k0<=j->j<ops.size->∀i,i<j->Reach ops.toList i j)
  (hd:ops.toList.all (fT nt)=true) {E0:Env} {W0:World} {A0:Act} {ro:Option Nat} (hQ:∀E W act σ,eB E0 W0 A0 E W act->Rel E W σ act->σ.nt=nt->K σ->Q (.panic (jO x)) act W):
  ∀(d m:Nat),kx-m=d->m<=kx->k0<=m->∀(fuel:Nat) (l:Array Bool) (E:Env) (W:World) (act:Act) (σ:AS),l.size=ops.size->(List.range ops.size).countP (fun i=> !bT l i)<=fuel->(∀i,bT l i=decide (i<m))->
   eB E0 W0 A0 E W act->Rel E W σ act->σ.nt=nt->aX P true ops ((ops.toList.drop m).take (kx-m)) σ (hold (fun s=>XW P ox s x/\K s) ⟨⟩)->wpAnyIn (kN ro) 3 P .any ops Q fuel l act W
 |d,m,hm,hle,hk,fuel,l,E,W,act,σ,hl,CY,hex,hv,hr,cU,h=>by
  have rI:m<ops.size:=by have:=(jB.1 P5).1;omega
  have j7:TD ops.toList (bT l):=fun j o ho hj k hk=>by
   rw[hex]at hj⊢;simp at hj⊢;have:=EL j o (by simpa using ho) k hk
   omega
  have TM:m∈Region.ready .any ops l:=by
   rw[mem_ready];have h1:bT l m=false:=by rw[hex];simp
   have bX:l.getD m true=false:=by
    have:m<l.size:=by omega
    simp[bT,this]at h1;simp[this,h1]
   refine⟨bX,ops[m],EX rI,fun e he hb=> ?_⟩
   have hk:e.on∈sI ops[m]:=mS.2 ⟨e,HI.2 ⟨by simpa using he,hb⟩,rfl⟩
   have:=EL m _ (EX rI) e.on hk
   show bT l e.on=true
   rw[hex];simpa using this
  have h2:0<(List.range ops.size).countP (fun i=> !bT l i):=Yy.2 ⟨m,by simpa using rI,by rw[hex];simp⟩
  obtain⟨fuel,rfl⟩:∃f,fuel=f+1:=⟨fuel-1,by omega⟩
  refine⟨(fun cW=>by rw[cW]at TM;cases TM),fun j hj=> ?_⟩
  obtain⟨h0,o,ho,TG⟩:=mem_ready.1 hj;have B8:j<ops.size:=(jB.1 ho).1
  have oS:bT l j=false:=by
   have:j<l.size:=by omega
   simp[this]at h0;simp[bT,this,h0]
  have kK:ops.toList[j]? =some o:=by simpa using ho
  have EM:∀k∈sI o,bT l k=true:=fun k hk=>by
   obtain⟨e,he,rfl⟩:=mS.1 hk;obtain⟨k7,lA⟩:=HI.1 he;exact TG e (by simpa using k7) lA
  have O6:∀i,Reach ops.toList i j->bT l i=true:=fun i h=>by
   cases h with
   |step h hi=>rw[kK]at h;injection h with h;subst h;exact EM _ hi
   |trans h hk hr=>rw[kK]at h;injection h with h;subst h;exact hr.closed j7 (EM _ hk)
  have Hu:j=m:=by
   have h3:m<=j:=by rw[hex]at oS;simpa using oS
   rcases lU m j with h4|h4
   ·have:=O6 m (KD j (by omega) B8 m h4)
    rw[hex]at this;simp at this
   ·omega
  subst Hu;by_cases hz:j=kx
  ·subst hz
   rw[P5]at ho;injection ho with ho
   subst ho;rw[tG,wY]at h;obtain⟨⟨hg,hx⟩,hK⟩:=h;unfold wpOpIn;simp only[P5];rw[if_pos (by simp[Region.wanted,hg])]
   exact hx ro E W act _ _ hr fun W' kM dD=>hQ E W' act σ (hv.trans (.of kM rfl)) dD cU hK
  cases d with
  |zero=>omega
  |succ d=>
   have bG:j<kx:=by omega
   rw[YW (by simpa using rI),show kx-j=(kx-(j+1))+1 by omega,D5]at h
   have Hw:ops.toList[j]'(by simpa using rI)=o:=by
    rw[fU (by simpa using rI)]at kK
    exact Ji kK
   rw[Hw]at h
   have jD:∀i,bT (l.setIfInBounds j true) i=(bT l i||decide (i=j)):=fun i=>by
    unfold bT;by_cases jY:i=j
    ·subst jY
     have:i<l.size:=by omega
     simp[this]
    ·simp[ZA (mV jY),jY]
   have TJ:fT σ.nt o=true:=by rw[cU];exact gK.1 hd o (by rw[EW];exact HH ho)
   have dF:=XY (ro:=ro) (next:=wpAnyIn (kN ro) 3 P .any ops Q fuel (l.setIfInBounds j true)) (Q:=Q) h TJ hr (fun E' W' aL cE kM dD TN hK=>by
    refine Xq P5 EL KD hd hQ d (j+1) (by omega) (by omega) (by omega) fuel _ E' W' cE aL (by simpa using hl) ?_ (fun i=> ?_) (hv.trans kM) dD (TN.trans cU) hK
    ·have key:∀n,j<n->(List.range n).countP (fun i=> !bT (l.setIfInBounds j true) i)<(List.range n).countP (fun i=> !bT l i):=by
      intro n
      induction n with
      |zero=>intro h;omega
      |succ n TK=>
       intro Wy;rw[HD,UH,UH];by_cases aM:j=n
       ·subst aM
        have hle:(List.range j).countP (fun i=> !bT (l.setIfInBounds j true) i)<=(List.range j).countP (fun i=> !bT l i):=Yz fun i _ h=>by
         rw[jD]at h;simp at h;simp[h.1]
        have TL:bT (l.setIfInBounds j true) j=true:=by rw[jD];simp
        simp only[UI,UJ,TL,oS,PA,YZ,kV,if_true,if_false];omega
       ·have:=TK (by omega)
        have hn:bT (l.setIfInBounds j true) n=bT l n:=by rw[jD];simp[mV aM]
        simp only[UI,UJ,hn];omega
     have:=key _ rI;omega
    ·rw[jD,hex]
     by_cases h5:i<j
     ·simp[h5];omega
     ·by_cases h6:i=j
      ·simp[h6]
      ·simp[h5,h6];omega)
   unfold wpOpIn;simp only[ho];by_cases hw:Region.wanted o (yielded ops act.tmps)=true
   ·simp only[hw,if_true]at dF⊢
    exact dF
   ·simp only[hw]at dF⊢
    exact⟨fun _ _=>trivial,dF⟩
end
theorem bp6{P:Program}{σ aL:AS}{Q:Exit->AS->Prop}{id:Nat}{ops:Array Oper}{es:List Entry}(k0 kx:Nat){ox:Oper}{x:Value}(P5:ops[kx]? =some ox)(Ib:k0<=kx)(hm:P.follows .mixedOrders=true)(hs:zS ops=true)(ht:KG ops.toList k0=true)(hd:ops.toList.all (fT σ.nt)=true)
  (hr:fV P ops.toList σ.H.next 0 (ops.toList.take k0) {σ with H:=⟨σ.H.next+ops.size,σ.H.get⟩} es aL) (rM:wW (tab ops.toList) 0 [] es=true) (h:aX P true ops ((ops.toList.drop k0).take (kx-k0)) aL (hold (fun s=>XW P ox s x/\Q (.panic (jO x)) s) ⟨⟩)):AW P (.region id ops true) σ Q:=fun ro E W act eH bR=>by
 obtain⟨h1,h2⟩:=Wi hs;obtain⟨hk,TO⟩:=Xa ht;obtain⟨h3,h4,h5⟩:=hr.p7 hk (σ0:={σ with H:=⟨σ.H.next+ops.size,σ.H.get⟩}) [] rfl rfl (mT _) rfl
 simp only[x8]at h3 h4 h5;have TP:=(Hj es 0 [] rM).2;simp only[sN]at TP
 have KH:∀i,bT (Array.replicate ops.size false) i=false:=fun i=>by
  unfold bT;by_cases I3:i<ops.size<;>simp[I3]
 refine wpIn_region_any hm ?_
 refine Wo (N0:=σ.H.next) (σ0:={σ with H:=⟨σ.H.next+ops.size,σ.H.get⟩}) (es:=es) (E0:=E) (W0:=W) (A0:=act) hk h3 TO (fun j o e ho he=>h5 j o e (mT _) ho he) h1 h2 (fun i j a b jY ha hb hc=>YH (TP i j a b jY ha hb hc)) hd (by simp only[];omega)
  (fun fuel l E' W' cE hl CY hex hv dD=>Xq (K:=Q (.panic (jO x))) (nt:=σ.nt) P5 h1 TO hd (E0:=E) (W0:=W) (fun E2 W2 Xc EN eZ lP JW hK=>⟨E2,EN,eZ,lP,JW,hK⟩) (kx-k0) k0 rfl Ib (cA _) fuel l E' W' cE aL hl CY hex hv (by rw[h4];exact dD) (by rw[h4,H4]) h)
  ops.size (Array.replicate ops.size false) E W.drew act (by simp) ?_ ?_ (fun i _=>KH i) (eB.of (bD.drew E W) rfl) ?_ ?_
 ·have:=List.countP_le_length (p:=fun i=> !bT (Array.replicate ops.size false) i) (l:=List.range ops.size)
  simpa using this
 ·intro j o _ hj
  rw[KH]at hj;cases hj
 ·have heq:∀k,lS ops es {σ with H:=⟨σ.H.next+ops.size,σ.H.get⟩} (bT (Array.replicate ops.size false)) k={σ with H:=⟨σ.H.next+ops.size,σ.H.get⟩}:=by
   intro k
   induction k with
   |zero=>rfl
   |succ k ih=>simp only[lS,KH,kV,if_false];exact ih
  rw[heq];exact⟨bR.defers.mono (bD.drew E W),bR.size,fun t c a ha=>let ⟨v,h1,h2,h3⟩:=bR.env t c a ha;⟨v,h1,fun hc=>(h2 hc).mono (bD.drew E W),h3⟩,⟨fun id aC=>vQ (bR.heap.next id aC) (Nat.le_add_right _ _),bR.heap.core.drew⟩⟩
 ·exact fun id aC=> .inl (bR.heap.next id aC)
theorem bp7{P:Program}{m:FuncId}{fn:Func}{id:Nat}{ops:Array Oper}{y:Code}{args:List AV}{H:Heap}{r:Option Value}{Q:Heap->Prop}{o o2:Oper}{ts:Array TypeId}{t:Tmp}(hf:P.funcs[m]? =some fn)(hb:fn.body=some (.seq (.region id ops false) y))(fP:(fn.name== "runtime.NumGoroutine")=false)(hlen:args.length<=fn.ntmps)
  (ho:ops= #[o,o2]) (aP:o.op= .call ⟨.builtin .recover,#[],ts⟩) (hg:o.guard=none) (CZ:o.dst=some t) (Ic:o2.op= .assign (.tmp t)) (DJ:o2.guard=none) (hd:fT fn.ntmps o=true) (uU:fT fn.ntmps o2=true) (hx:yA (pN r)=false)
  (h:AW P y ((({env:=lK 0 args,H:=H,nt:=fn.ntmps}:AS).put o.dst true (.c (pN r))).put o2.dst true (.c (pN r))) (hold (fun e σ=>(e= .normal\/e= .ret)/\(∃a,iZ P σ fn.results.toList=some a)/\Q σ.H) ⟨⟩)):o0 P m args H r Q:=by
 refine⟨by unfold qN;rw[hf];simp[fP,hb],fun E W vs hH hr=> ?_⟩
 refine bp4 hf hb fun rN cs hu=> ?_
 have bR:=YL hlen hH hr;refine wpSIn_seq (wpSIn_region ?_);have dF:∀ρ,(execOp ρ o).run P W= .ok .recover W:=fun ρ=>by simp[execOp,aP,resolve,invoke,builtin]
 have pF:=bR.put (dst:=o.dst) (oI hd) (c:=true) (a:= .c (pN r)) (v:=pN r) (fun _=> .c _ hx) (fun h=>by cases h)
 have bX:(({tmps:=vs.toArray++Array.replicate (fn.ntmps-vs.toArray.size) undef,defers:=[]}:Act).put o.dst (pN r)).eval (.tmp t)=pN r:=by
  have h2:=pF.get (c:=true) rfl (x:= .tmp t) (a:= .c (pN r)) (by simp[AS.get,AS.put,CZ,lk,yG])
  generalize (({tmps:=vs.toArray++Array.replicate (fn.ntmps-vs.toArray.size) undef,defers:=[]}:Act).put o.dst (pN r)).eval (.tmp t)=u at h2;cases h2;rfl
 have bp8:(execOp (({tmps:=vs.toArray++Array.replicate (fn.ntmps-vs.toArray.size) undef,defers:=[]}:Act).put o.dst (pN r)).eval o2).run P W= .ok (.value (pN r)) W:=by
  simp only[execOp,Ic,bX,Sem.run_pure]
 subst ho
 show wpOpsSIn Fence.wide 2 P #[o,o2] _ [0,1] _ _ _
 have main:y.wpSIn Fence.wide 2 P (TU P fn rN cs fun e u' W'=>(∃v,e= .returned v)/\u'=BM r/\∃E' H',bD E W E' W'/\RH E' W' H'/\Q H') ((({tmps:=vs.toArray++Array.replicate (fn.ntmps-vs.toArray.size) undef,defers:=[]}:Act).put o.dst (pN r)).put o2.dst (pN r)) ({rN with mode:=BM r}::cs) W:=by
  have lP:=pF.put (dst:=o2.dst) (oI (by rw[AS.sF];exact uU)) (c:=true) (a:= .c (pN r)) (v:=pN r) (fun _=> .c _ hx) (fun h=>by cases h)
  refine wpSIn_of_wpIn rfl ?_;refine wpIn_wide.2 (wpIn_wide.1 (wpIn_mono (h none E W _ (fun l hl=>by cases hl) lP) fun e a w ⟨E',aL,hw,dD,hn,he,⟨b,hb⟩,hq⟩=>⟨he,_,rfl,fun fr hm EB=> ?_⟩))
  obtain⟨Ds,pL,tB,yL⟩:=dD.defers;have CV:∀D∈Ds,W.heap.size<=D:=fun D hD=>(hw.new D (N7 pL hD)).resolve_left (fun h=>by rw[Act.put_defers,Act.put_defers]at h;cases h)
  obtain⟨w',hs,hI⟩:=Xo (P:=P) (I:=fun w'=>bD E W E' w'/\Rel E' w' aL {a with defers:=[]}) a.defers Ds pL (by rw[hw.BE,Act.put_defers,Act.put_defers];rfl) tB (fun D hD w' YM hI=>⟨hI.1.shut hH.core.lim (CV D hD),hI.2.shut YM⟩) (fr:=fr) (cs:=_) (by rw[hm];simp) EB (fun D hD=>(yL D hD).1) ⟨hw.oY,⟨Marks.nil _ _,dD.size,dD.env,dD.heap⟩⟩
  obtain⟨v,h5,h6⟩:=Ge hI.2 hb;exact⟨w',hs,v,h5,⟨v,rfl⟩,rfl,E',aL.H,hI.1,hI.2.heap,hq⟩
 have h3:∀H8,y.wpSIn Fence.wide 2 P (TU P fn rN cs fun e u' W'=>(∃v,e= .returned v)/\u'=BM r/\∃E' H',bD E W E' W'/\RH E' W' H'/\Q H') ((({tmps:=vs.toArray++Array.replicate (fn.ntmps-vs.toArray.size) undef,defers:=[]}:Act).put o.dst (pN r)).put o2.dst (pN r)) H8 W->
   wpOpsSIn Fence.wide 2 P #[o,o2] (Exit.thenS (y.wpSIn Fence.wide 2 P (TU P fn rN cs fun e u' W'=>(∃v,e= .returned v)/\u'=BM r/\∃E' H',bD E W E' W'/\RH E' W' H'/\Q H')) (TU P fn rN cs fun e u' W'=>(∃v,e= .returned v)/\u'=BM r/\∃E' H',bD E W E' W'/\RH E' W' H'/\Q H')) [1] (({tmps:=vs.toArray++Array.replicate (fn.ntmps-vs.toArray.size) undef,defers:=[]}:Act).put o.dst (pN r)) H8 W:=fun H8 hm=>by
  unfold wpOpsSIn;simp only[vR,qS,mK];refine⟨fun _ _=>trivial,?_⟩
  rw[if_pos (by simp[Region.wanted,DJ]),bp8]
  exact hm
 unfold wpOpsSIn;simp only[vR,mK];refine⟨fun _ _=>trivial,?_⟩
 rw[if_pos (by simp[Region.wanted,hg]),dF]
 cases r with
 |none=>
  have h1:recoverD (rN::cs)=none:=by simp[recoverD,hu,KO]
  have h2:({rN with mode:=BM none}:Frame)=rN:=by cases rN;simp only at hu;subst hu;rfl
  rw[h2]at main;simp only[h1];exact h3 _ main
 |some x=>
  have h1:recoverD (rN::cs)=some (x,{rN with mode:=BM (some x)}::cs):=by simp[recoverD,hu,KO,BM,jO]
  simp only[h1];exact h3 _ main
end Go.AL
namespace Go.AL
attribute [go_sem] Fk Fl SC EA pN
structure oP(id k:Nat)(x:Value):Prop where
theorem ZY{P:Program}{n:FuncId}{fn:Func}{c:Code}{args:List AV}{x:Value}{nt:Nat}(hf:P.funcs[n]? =some fn)(cU:fn.ntmps=nt)
  (h:AW P c ⟨lK 0 args,⟨0,dH []⟩,nt⟩ (hold (fun e _=>e= .panic (jO x)) ⟨⟩))
  (hb:fn.body=some c:=by(first|rfl|fail)) (fP:(fn.name== "runtime.NumGoroutine")=false:=by(first|kernel_rfl|fail)) (hlen:args.length<=nt:=by(simp only[eI,gL];decide)):F9 P n args x:=by
 refine bn6 hf hb fP (by rw[cU];exact hlen) ?_
 rw[cU];exact h
theorem UZ{P:Program}{m:FuncId}{fn:Func}{id:Nat}{ops:Array Oper}{y:Code}{args:List AV}{H:Heap}{r:Option Value}{Q:Heap->Prop}{o o2:Oper}{ts:Array TypeId}{t t2:Tmp}{rs:List ResultVar}{nt:Nat}(hf:P.funcs[m]? =some fn)(cU:fn.ntmps=nt)
  (h:AW P y ⟨(t2,true,.c (pN r))::(t,true,.c (pN r))::lK 0 args,H,nt⟩ (hold (fun e σ=>(e= .normal\/e= .ret)/\(∃a,iZ P σ rs=some a)/\Q σ.H) ⟨⟩)) (hb:fn.body=some (.seq (.region id ops false) y):=by(first|rfl|fail)) (hr:fn.results=List.toArray rs:=by(first|rfl|fail)) (fP:(fn.name== "runtime.NumGoroutine")=false:=by(first|kernel_rfl|fail)) (hlen:args.length<=nt:=by(simp only[eI,gL];decide))
  (ho:ops= #[o,o2]:=by(first|rfl|fail)) (aP:o.op= .call ⟨.builtin .recover,#[],ts⟩:=by(first|rfl|fail)) (hg:o.guard=none:=by(first|rfl|fail)) (CZ:o.dst=some t:=by(first|rfl|fail)) (Ic:o2.op= .assign (.tmp t):=by(first|rfl|fail)) (bp9:o2.dst=some t2:=by(first|rfl|fail)) (DJ:o2.guard=none:=by(first|rfl|fail)) (hd:fT nt o=true:=by(first|rfl|fail)) (uU:fT nt o2=true:=by(first|rfl|fail)) (hx:yA (pN r)=false:=by(first|rfl|fail)):o0 P m args H r Q:=by
 subst cU;refine bp7 hf hb fP hlen ho aP hg CZ Ic DJ hd uU hx ?_;simp only[AS.put,CZ,bp9];rw[hr];exact h
section
variable {P : Program} {σ : AS} {Q : Exit -> AS -> Prop} {Q' : Prop}
theorem YN{id k:Nat}{ops:Array Oper}{o:Oper}{x:Value}{l:List Oper}(h:aX P true ops l σ (hold (fun aL=>XW P o aL x/\Q (.panic (jO x)) aL) ⟨⟩))(s:oP id k x:=by assumption)(ho:ops[k]? =some o:=by(first|rfl|fail))(hl:ops.toList.take k=l:=by(first|rfl|fail))
  (hd:(ops.toList.take k).all (fT σ.nt)=true:=by(first|rfl|fail)):AW P (.region id ops false) σ Q:=by
 subst hl;exact bn7 k ho hd h
theorem Al{id k k0:Nat}{aL:AS}{ops:Array Oper}{o:Oper}{x:Value}{l:List Oper}{es:List Entry}(s2:oP (id+1000) k0 .nilIface)(h:aX P true ops l aL (hold (fun aL=>XW P o aL x/\Q (.panic (jO x)) aL) ⟨⟩))(s:oP id k x:=by assumption)(Ib:k0<=k:=by decide)(ho:ops[k]? =some o:=by(first|rfl|fail))(hl:(ops.toList.drop k0).take (k-k0)=l:=by(first|rfl|fail))(ht:KG ops.toList k0=true:=by(first|kernel_rfl|fail))(hm:P.follows .mixedOrders=true:=by(first|kernel_rfl|fail))(hs:zS ops=true:=by(first|kernel_rfl|fail))(hd:ops.toList.all (fT σ.nt)=true:=by(first|rfl|fail))
  (hr:fV P ops.toList σ.H.next 0 (ops.toList.take k0) {σ with H:=⟨σ.H.next+ops.size,σ.H.get⟩} es aL:=by(first|(apply eC;(next=>(exact aJ));(repeat (first|exact KC|(apply KJ;(next=>(first|rfl|fail));(next=>(exact aJ));apply eC;(next=>(exact aJ)))|(apply P3;(next=>(first|rfl|fail));(next=>(first|rfl|fail));(next=>(exact aJ));(next=>(first|assumption|(apply_assumption<;>first|assumption|omega)|fail));apply eC;(next=>(exact aJ)))|(apply P2;(next=>(first|rfl|fail));(next=>(first|rfl|fail));(next=>(exact aJ));(next=>(first|assumption|(apply_assumption<;>first|assumption|omega)|fail));apply eC;(next=>(exact aJ)))|(apply P4;(next=>(first|rfl|fail));(next=>(first|rfl|fail));(next=>(exact aJ));(next=>(exact aJ));(next=>(exact aJ));(next=>(first|assumption|(apply_assumption<;>first|assumption|omega)|fail));(next=>(first|exact iN|(simp[eU,e8,eF,eN,iH,iI,iG, *];done)|fail));apply eC;(next=>(exact aJ)))|(apply KI;(next=>(first|rfl|fail));(next=>(first|rfl|fail));(next=>(exact aJ));(next=>(first|assumption|(apply_assumption<;>first|assumption|omega)|fail));(next=>(first|exact iN|(simp[eU,e8,eF,eN,iH,iI,iG, *];done)|fail));apply eC;(next=>(exact aJ)))|(apply KK;(next=>(first|rfl|fail));(next=>(first|rfl|fail));(next=>(exact aJ));(next=>(exact aJ));(next=>(first|assumption|(apply_assumption<;>first|assumption|omega)|fail));(next=>(first|exact iN|(simp[eU,e8,eF,eN,iH,iI,iG, *];done)|fail));apply eC;(next=>(exact aJ)))|(apply KL;(next=>(first|rfl|fail));(next=>(first|rfl|fail));(next=>(exact aJ));(next=>(exact aJ));(next=>(exact aJ));(next=>(first|assumption|(apply_assumption<;>first|assumption|omega)|fail));(next=>(first|exact iN|(simp[eU,e8,eF,eN,iH,iI,iG, *];done)|fail));apply eC;(next=>(exact aJ)))|(apply KM;(next=>(first|rfl|fail));(next=>(first|rfl|fail));(next=>(exact aJ));(next=>(exact aJ));(next=>(exact aJ));(next=>(exact aJ));(next=>(first|assumption|(apply_assumption<;>first|assumption|omega)|fail));(next=>(first|exact iN|(simp[eU,e8,eF,eN,iH,iI,iG, *];done)|fail));apply eC;(next=>(exact aJ))))))|fail))
  (rM:wW (tab ops.toList) 0 [] es=true:=by(first|(simp(maxSteps:=2000000) (disch:=omega) only[go_sem,K0,K1, *]<;>kernel_rfl)|fail)):AW P (.region id ops true) σ Q:=bp6 k0 k ho Ib hm hs ht hd hr rM (by rw[hl];exact h)
theorem YO{o:Oper}{x:Value}{f:Operand}{as:Array Operand}{ts:Array TypeId}{n:FuncId}{args:List AV}(h:Q')(aP:o.op= .call ⟨.value f,as,ts⟩:=by(first|rfl|fail))(hg:o.guard=none:=by(first|rfl|fail))
  (hc:fL (σ.get true f) (dO (σ.get true) as.toList)=some (n,args):=by(exact aJ)) (hx:F9 P n args x:=by(first|assumption|(apply_assumption<;>first|assumption|omega)|fail)) (hn:∀a∈args,bJ a:=by(first|exact iN|(simp[eU,e8,eF,eN,iH,iI,iG, *];done)|fail)):XW P o σ x/\Q':=⟨bn8 aP hg hc hn hx,h⟩
theorem YP{o:Oper}{y:Operand}{t:TypeId}{v:Value}(h:Q')(aP:o.op= .panic y:=by(first|rfl|fail))(hg:o.guard=none:=by(first|rfl|fail))
  (hy:σ.get true y=some (.c (.iface t v)):=by(exact aJ)):XW P o σ (.iface t v)/\Q':=⟨bn9 aP hg hy,h⟩
theorem rA{next:AS->Prop}{ch:List PanicEntry}(h:Q (.panic ch) σ):cZ next Q (.panic ch) σ:=h
theorem YQ{id:Nat}{ch:List PanicEntry}(h:Q (.panic ch) σ):dK id Q (.panic ch) σ:=h
end
theorem pS{A B:Prop}(h:B)(w:aU B->A:=by
  (intro hB;(repeat (first|refine tC ?_|refine YN ?_|refine YO ?_|refine YP ?_|refine rA ?_|refine YQ ?_|refine B4 ?_|refine rE ?_|refine K3 ?_|refine bN ?_|refine gE ?_|refine NR ?_|refine NS ?_|refine NT ?_|refine NU ?_|refine NV ?_|refine NW (by decide) ?_|refine NH ?_|refine jA ?_|refine NL ?_|refine NM ?_|refine OT ?_|refine OU ?_|refine OV ?_|refine OW ?_|refine OX ?_|refine OY ?_|refine OB ?_|refine OC ?_|refine OP ?_|refine OQ ?_|refine OR ?_|refine OS ?_|refine ON ?_|refine OO ?_|refine O9 ?_|refine OA ?_|refine OD ?_|refine DY ?_|refine NK ?_|refine NJ ?_|refine O7 ?_|refine O8 ?_|refine OE ?_|refine OI ?_|refine TR ?_|refine OF ?_|refine OL ?_|refine OJ ?_|refine OG ?_|refine OH ?_|refine OZ ?_|refine P0 ?_|refine P1 ?_|refine OK ?_));exact hB.out)):A:=w ⟨h⟩
end Go.AL
