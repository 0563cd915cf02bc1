/- Staging. No condition. -/
import Derived.Test.YtioafciifiggaaaGreatDoorL0
import Derived.Calls
import Derived.Orders
import Derived.Below
import Derived.WalkKit
import Derived.Deep.LoopGhost
import Derived.Laws.Rows
import Derived.Laws.AppendOwn
import Derived.Laws.MakeOwn
import Derived.Laws.StructEq
import Derived.MapKept
import Derived.ChangeKeysEq
import Derived.Maps.Own
import Derived.Laws.IdiomRangeMap
import Derived.Laws.IdiomCopy
import Derived.Lib.AppendZeros
import Derived.Laws.BytesString
set_option linter.all false
namespace Go.AL
open Go.RowKit
inductive AV where
 |c (x:Value)
 |agg (xs:List AV)
 |aU (xs:List AV)
 |snap (rows:List (List AV))
 |dD (rows:List (List AV)) (i o:Nat)
 |own (id off len:Nat)
 |sub (id i o len:Nat)
 |ptr (id i o:Nat)
 |fn (f:Fn) (first cap:List AV)
 |omap (id:Nat)
 |kH (id:Nat)
instance :Inhabited AV:=⟨.c undef⟩
def AQ:Value->Bool
 | .agg _=>true
 |_=>false
def CA:Value->Option AV
 | .agg cs=>if cs.toList.all (fun v=> !AQ v)then some (.agg (cs.toList.map AV.c))else none
 |v=>some (.c v)
def AV.cells:AV->List AV
 | .agg xs=>xs
 |a=> [a]
def AV.one:AV->Bool
 | .c x=>x.oneCell'
 | .agg _=>false
 | .aU _=>false
 |_=>true
structure Env where
 ι:Nat->Nat
 sz:Nat->Nat
 U:Nat->Prop
 L:Nat->Nat
inductive RV (E:Env) (W:World):AV->Value->Prop
 |c (x:Value) (hx:AQ x=false):RV E W (.c x) x
 |agg (xs:List AV) (vs:Array Value) (hl:xs.length=vs.size) (h:∀(i:Nat) x v,xs[i]? =some x->vs[i]? =some v->RV E W x v):RV E W (.agg xs) (.agg vs)
 |aU (xs:List AV) (vs:Array Value) (hl:xs.length=vs.size) (h:∀(i:Nat) x v,xs[i]? =some x->vs[i]? =some v->RV E W x v):RV E W (.aU xs) (.tuple vs)
 |snap (rows:List (List AV)) (b off s n cap:Nat) (vs:Nat->Nat->Value) (hn:n=rows.length) (qK:n<=cap)
   (hs:∀(i:Nat) row,rows[i]? =some row->row.length=s) (hL:off+rows.length*s<=E.L b)
   (hc:∀(i j:Nat) row x,rows[i]? =some row->row[j]? =some x->W.cell? ⟨b,off+(i*s+j),none⟩=some (vs i j))
   (hr:∀(i j:Nat) row x,rows[i]? =some row->row[j]? =some x->RV E W x (vs i j)):RV E W (.snap rows) (.slice (some ⟨b,off,none⟩) n cap)
 |lV (a:Option Addr) (cap:Nat):RV E W (.snap []) (.slice a 0 cap)
 |dD (rows:List (List AV)) (i o:Nat) (b off s:Nat) (vs:Nat->Nat->Value)
   (hs:∀(i:Nat) row,rows[i]? =some row->row.length=s) (hL:off+rows.length*s<=E.L b)
   (hc:∀(i j:Nat) row x,rows[i]? =some row->row[j]? =some x->W.cell? ⟨b,off+(i*s+j),none⟩=some (vs i j))
   (hr:∀(i j:Nat) row x,rows[i]? =some row->row[j]? =some x->RV E W x (vs i j)):RV E W (.dD rows i o) (.pointer (some ⟨b,off+(i*s+o),none⟩))
 |own (id off len cap:Nat) (aB:E.U id) (eC:len<=cap) (dP:∃(cur:Array Value) (e:TypeId) (f:Nat×Nat),W.heap[E.ι id]? =some (Obj.cells cur e f)/\(off+cap)*E.sz id<=cur.size):
   RV E W (.own id off len) (.slice (some ⟨E.ι id,off*E.sz id,none⟩) len cap)
 |mW (id off:Nat) (a:Option Addr) (aB:E.U id):RV E W (.own id off 0) (.slice a 0 0)
 |sub (id i o len cap:Nat) (aB:E.U id) (eC:len<=cap) (dP:∃(cur:Array Value) (e:TypeId) (f:Nat×Nat),W.heap[E.ι id]? =some (Obj.cells cur e f)/\i*E.sz id+o+cap<=cur.size):
   RV E W (.sub id i o len) (.slice (some ⟨E.ι id,i*E.sz id+o,none⟩) len cap)
 |ptr (id i o:Nat) (aB:E.U id):RV E W (.ptr id i o) (.pointer (some ⟨E.ι id,i*E.sz id+o,none⟩))
 |fn (f:Fn) (first cap:List AV) (vf vc:Array Value) (hl:first.length=vf.size) (cW:cap.length=vc.size)
   (h:∀(i:Nat) x v,first[i]? =some x->vf[i]? =some v->RV E W x v) (h2:∀(i:Nat) x v,cap[i]? =some x->vc[i]? =some v->RV E W x v):RV E W (.fn f first cap) (.func f vf vc)
 |omap (id:Nat) (aB:E.U id):RV E W (.omap id) (.map (some (E.ι id)))
 |kH (id:Nat) (aB:E.U id):RV E W (.kH id) (.func (.yield (E.ι id)) #[] #[])
structure bE(E:Env)(W:World)(E':Env)(W':World):Prop where
 os:W'.os=W.os
 tape:W'.tape=W.tape
 output:W'.output=W.output
 size:W.heap.size<=W'.heap.size
 used:∀id,E.U id->E'.U id
 kT:∀id,E.U id->E'.ι id=E.ι id/\E'.sz id=E.sz id
 lim:∀b,E.L b<=E'.L b
 zB:∀b k,k<E.L b->W'.cell? ⟨b,k,none⟩=W.cell? ⟨b,k,none⟩
 tZ:∀b,b<W.heap.size->(∀id,E.U id->E.ι id≠b)->W'.heap[b]? =W.heap[b]?
 b8:∀(b:Nat) (cur:Array Value) (e:TypeId) (f:Nat×Nat),W.heap[b]? =some (Obj.cells cur e f)->∃(dN:Array Value) (f':Nat×Nat),W'.heap[b]? =some (Obj.cells dN e f')/\dN.size=cur.size
 still:∀b,b<W.heap.size->(∀id,E.U id->E.ι id≠b)->E'.L b=E.L b
 fresh:∀id,¬E.U id->E'.U id->W.heap.size<=E'.ι id\/∃tH,E.U tH/\E.ι tH=E'.ι id
 loops:∀(b:Nat) (r:Loop),W.heap[b]? =some (.loop r)->∃r',W'.heap[b]? =some (.loop r')/\r'.defers=r.defers
theorem bE.refl(E:Env)(W:World):bE E W E W:=
 ⟨rfl,rfl,rfl,cE _,fun _ h=>h,fun _ _=>⟨rfl,rfl⟩,fun _=>cE _,fun _ _ _=>rfl,fun _ _ _=>rfl,fun b cur e f h=>⟨cur,f,h,rfl⟩,fun _ _ _=>rfl,fun id h h'=>absurd h' h,fun b r h=>⟨r,h,rfl⟩⟩
theorem bE.trans{E E' v7:Env}{W W' CB:World}(h:bE E W E' W')(k:bE E' W' v7 CB):bE E W v7 CB where
 os:=k.os.trans h.os
 tape:=k.tape.trans h.tape
 output:=k.output.trans h.output
 size:=s8 h.size k.size
 used:=fun id aB=>k.used id (h.used id aB)
 kT:=fun id aB=>by
  have h1:=h.kT id aB;have h2:=k.kT id (h.used id aB);exact⟨h2.1.trans h1.1,h2.2.trans h1.2⟩
 lim:=fun b=>s8 (h.lim b) (k.lim b)
 zB:=fun b i hi=>(k.zB b i (vF hi (h.lim b))).trans (h.zB b i hi)
 tZ:=fun b hb hf=>by
  rw[<-h.tZ b hb hf];refine k.tZ b (vF hb h.size) fun id aB=> ?_
  by_cases bG:E.U id
  ·rw[(h.kT id bG).1];exact hf id bG
  ·rcases h.fresh id bG aB with h1|⟨tH,h0,h1⟩
   ·omega
   ·rw[<-h1];exact hf tH h0
 b8:=fun b cur e f hb=>by
  obtain⟨dN,f',h1,h2⟩:=h.b8 b cur e f hb;obtain⟨bI6,f'',h3,h4⟩:=k.b8 b dN e f' h1;exact⟨bI6,f'',h3,h4.trans h2⟩
 still:=fun b hb hf=>by
  rw[<-h.still b hb hf];refine k.still b (vF hb h.size) fun id aB=> ?_
  by_cases bG:E.U id
  ·rw[(h.kT id bG).1];exact hf id bG
  ·rcases h.fresh id bG aB with h1|⟨tH,h0,h1⟩
   ·omega
   ·rw[<-h1];exact hf tH h0
 fresh:=fun id h1 h2=>by
  by_cases bG:E'.U id
  ·rw[(k.kT id bG).1];exact h.fresh id h1 bG
  ·rcases k.fresh id bG h2 with h3|⟨tH,h0,h3⟩
   ·exact .inl (s8 h.size h3)
   ·by_cases oZ:E.U tH
    ·exact .inr ⟨tH,oZ,by rw[<-h3,(h.kT tH oZ).1]⟩
    ·rw[<-h3];exact h.fresh tH oZ h0
 loops:=fun b r hb=>by
  obtain⟨r',h1,h2⟩:=h.loops b r hb;obtain⟨r'',h3,h4⟩:=k.loops b r' h1;exact⟨r'',h3,h4.trans h2⟩
theorem yA{i n s j:Nat}(hi:i<n)(hj:j<s):i*s+j<n*s:=by
 have h:(i+1)*s<=n*s:=nN s hi;rw[vG]at h;omega
theorem RV.mono{E E':Env}{W W':World}(h:bE E W E' W'){a:AV}{v:Value}(r:RV E W a v):RV E' W' a v:=by
 induction r with
 |c x hx=>exact .c x hx
 |agg xs vs hl _ ih=>exact .agg xs vs hl ih
 |aU xs vs hl _ ih=>exact .aU xs vs hl ih
 |snap rows b off s n cap vs hn qK hs hL hc hr ih=>
  refine .snap rows b off s n cap vs hn qK hs (s8 hL (h.lim b)) (fun i j row x h1 h2=> ?_) ih
  rw[h.zB]
  ·exact hc i j row x h1 h2
  ·have hi:i<rows.length:=(dV.1 h1).1
   have hj:j<s:=by rw[<-hs i row h1];exact(dV.1 h2).1
   have:=yA hi hj;omega
 |lV a cap=>exact .lV a cap
 |dD rows i o b off s vs hs hL hc hr ih=>
  refine .dD rows i o b off s vs hs (s8 hL (h.lim b)) (fun i j row x h1 h2=> ?_) ih
  rw[h.zB]
  ·exact hc i j row x h1 h2
  ·have hi:i<rows.length:=(dV.1 h1).1
   have hj:j<s:=by rw[<-hs i row h1];exact(dV.1 h2).1
   have:=yA hi hj;omega
 |own id off len cap aB eC dP=>
  obtain⟨cur,e,f,h1,h2⟩:=dP;obtain⟨dN,f',h3,h4⟩:=h.b8 _ _ _ _ h1;rw[<-(h.kT id aB).1,<-(h.kT id aB).2];refine .own id off len cap (h.used id aB) eC ⟨dN,e,f',?_,?_⟩
  ·rw[(h.kT id aB).1];exact h3
  ·rw[(h.kT id aB).2,h4];exact h2
 |mW id off a aB=>exact .mW id off a (h.used id aB)
 |sub id i o len cap aB eC dP=>
  obtain⟨cur,e,f,h1,h2⟩:=dP;obtain⟨dN,f',h3,h4⟩:=h.b8 _ _ _ _ h1;rw[<-(h.kT id aB).1,<-(h.kT id aB).2];refine .sub id i o len cap (h.used id aB) eC ⟨dN,e,f',?_,?_⟩
  ·rw[(h.kT id aB).1];exact h3
  ·rw[(h.kT id aB).2,h4];exact h2
 |ptr id i o aB=>
  rw[<-(h.kT id aB).1,<-(h.kT id aB).2];exact .ptr id i o (h.used id aB)
 |fn f first cap vf vc hl cW _ _ HF HG=>exact .fn f first cap vf vc hl cW HF HG
 |omap id aB=>
  rw[<-(h.kT id aB).1];exact .omap id (h.used id aB)
 |kH id aB=>
  rw[<-(h.kT id aB).1];exact .kH id (h.used id aB)
theorem RV.CA{E:Env}{W:World}{v:Value}{a:AV}(h:CA v=some a):RV E W a v:=by
 cases v with
 |agg cs=>
  unfold AL.CA at h;split at h
  ·rename_i heq
   injection heq with heq
   subst heq;split at h
   ·rename_i eR
    injection h with h
    subst h;refine .agg _ _ (by simp) fun i x v hx hv=> ?_
    simp only[gE,vD,hv,oU,bC]at hx;subst hx;refine .c _ ?_;have:=gK.1 eR v (by rw[I8];exact I9 hv)
    simpa using this
   ·cases h
  ·rename_i aJ
   exact absurd rfl (aJ cs)
 |_=>injection h with h;subst h;exact .c _ rfl
inductive aI where
 |cells (elem:TypeId) (s:Nat) (rows:List (List AV)) (w a:Bool)
 |map (es:List (Value×AV))
 |iter (m n:Nat) (seen:List Nat)
 |cO (env:List (Nat×Bool×AV)) (nt:Nat) (ps:List Tmp) (assign body:Code) (st:LoopState) (MC:Option Code)
def lk:List (Nat×Bool×AV)->Nat->Option (Bool×AV)
 |[],_=>none
 |(i,a)::r,t=>if t=i then some a else lk r t
def aI.upto:aI->Nat
 | .cells _ s rows _ _=>rows.length*s
 | .map _=>0
 | .iter .. =>0
 | .cO .. =>0
def aI.app:aI->Bool
 | .cells _ _ _ _ a=>a
 | .map _=>false
 | .iter .. =>false
 | .cO .. =>false
structure Heap where
 next:Nat
 get:Nat->Option aI
def Oc(ms:Array MapEntry)(clock:Nat):Prop:=MapKept.Stamped ms clock/\clock=ms.size/\∀(i:Nat) e,ms[i]? =some e->e.born=i
def MD(E:Env)(W:World)(G:Nat->Option aI)(id:Nat):aI->Prop
 | .cells elem s rows w a=>E.sz id=s/\(∀(i:Nat) row,rows[i]? =some row->row.length=s)/\
     (∃cur:Array Value,W.heap[E.ι id]? =some (Obj.cells cur elem (0,0))/\rows.length*s<=cur.size/\
       ∀(i j:Nat) row x,rows[i]? =some row->row[j]? =some x->∃v,cur[i*s+j]? =some v/\RV E W x v)/\
     (w=true->E.L (E.ι id)=0/\∀aM b',aM≠id->G aM=some b'->E.ι aM≠E.ι id)/\
     (a=true->E.L (E.ι id)<=rows.length*s/\∀aM b',aM≠id->G aM=some b'->E.ι aM=E.ι id->b'.upto<=rows.length*s/\b'.app=false)
 | .map es=>(∃(ms:Array MapEntry) (clock:Nat),W.heap[E.ι id]? =some (Obj.map ms clock)/\Oc ms clock/\ms.size=es.length/\
      ∀(i:Nat) k x,es[i]? =some (k,x)->∃e,ms[i]? =some e/\e.key=k/\RV E W x e.val)/\
     E.L (E.ι id)=0/\∀aM b',aM≠id->G aM=some b'->E.ι aM≠E.ι id
 | .iter m n seen=>(W.heap[E.ι id]? =some (Obj.mapIter (some (E.ι m)) n seen.toArray n)/\E.U m)/\
     E.L (E.ι id)=0/\∀aM b',aM≠id->G aM=some b'->E.ι aM≠E.ι id
 | .cO env nt ps assign body st MC=>(∃(fn:FuncId) (tmps:Array Value) (D:Nat),W.heap[E.ι id]? =some (.loop {state:=st,pending:=MC,fn,tmps,params:=ps.toArray,assign,body,defers:=D})/\tmps.size=nt/\
      ∀t c a,lk env t=some (c,a)->∃v,tmps[t]? =some v/\(c=true->RV E W a v)/\(c=false->v=undef))/\
     E.L (E.ι id)=0/\∀aM b',aM≠id->G aM=some b'->E.ι aM≠E.ι id
structure RC(E:Env)(W:World)(G:Nat->Option aI):Prop where
 lim:∀b,W.heap.size<=b->E.L b=0
 eL:∀id,E.U id->E.ι id<W.heap.size
 ok:∀id b,G id=some b->E.U id/\MD E W G id b
structure RH(E:Env)(W:World)(H:Heap):Prop where
 next:∀id,E.U id->id<H.next
 core:RC E W H.get
end Go.AL
namespace Go.AL
open Go.RowKit
def bX(E:Env)(W:World)(xs:List AV)(vs:List Value):Prop:=
 xs.length=vs.length/\∀(i:Nat) x v,xs[i]? =some x->vs[i]? =some v->RV E W x v
section
variable {E : Env} {W : World}
theorem bX.nil:bX E W [] []:=⟨rfl,fun i x v h=>by simp at h⟩
theorem bX.get{xs:List AV}{vs:List Value}(h:bX E W xs vs){i:Nat}{x:AV}(hx:xs[i]? =some x):∃v,vs[i]? =some v/\RV E W x v:=by
 have hi:i<vs.length:=by rw[<-h.1];exact(dV.1 hx).1
 exact⟨vs[i],eQ hi,h.2 i x _ hx (eQ hi)⟩
theorem bX.cons{x:AV}{v:Value}{xs:List AV}{vs:List Value}(h:RV E W x v)(hs:bX E W xs vs):bX E W (x::xs) (v::vs):=by
 refine⟨by simp[hs.1],fun i y u hy hu=> ?_⟩
 cases i with
 |zero=>simp at hy hu;subst hy;subst hu;exact h
 |succ i=>simp at hy hu;exact hs.2 i y u hy hu
theorem bX.append{xs ys:List AV}{vs us:List Value}(h:bX E W xs vs)(k:bX E W ys us):bX E W (xs++ys) (vs++us):=by
 refine⟨by simp[h.1,k.1],fun i x v hx hv=> ?_⟩
 by_cases hi:i<xs.length
 ·rw[kG hi]at hx
  rw[kG (by rw[<-h.1];exact hi)]at hv
  exact h.2 i x v hx hv
 ·rw[k7 (by omega)]at hx
  rw[k7 (by rw[<-h.1];omega),<-h.1]at hv
  exact k.2 _ x v hx hv
theorem bX.take{xs:List AV}{vs:List Value}(h:bX E W xs vs)(n:Nat):bX E W (xs.take n) (vs.take n):=by
 refine⟨by simp[h.1],fun i x v hx hv=> ?_⟩
 rw[gU]at hx hv;split at hx
 ·rename_i hi;simp only[hi,if_true]at hv;exact h.2 i x v hx hv
 ·cases hx
theorem bX.drop{xs:List AV}{vs:List Value}(h:bX E W xs vs)(n:Nat):bX E W (xs.drop n) (vs.drop n):=by
 refine⟨by simp[h.1],fun i x v hx hv=> ?_⟩
 rw[mF]at hx hv;exact h.2 _ x v hx hv
theorem bX.bI9{xs:List Value}(h:xs.all (fun v=> !AQ v)=true):bX E W (xs.map AV.c) xs:=by
 refine⟨by simp,fun i x v hx hv=> ?_⟩
 simp only[gE,hv,oU,bC]at hx;subst hx;refine .c _ ?_;have:=gK.1 h v (eS hv);simpa using this
theorem RV.Od{a:AV}{v:Value}(r:RV E W a v):bX E W a.cells v.cells.toList:=by
 cases r with
 |agg xs vs hl h=>exact⟨by simpa[AV.cells,Value.cells]using hl,fun i x v hx hv=>h i x v hx (by simpa[Value.cells]using hv)⟩
 |c x hx=>
  have:v.cells= #[v]:=by cases v<;>first|rfl|(simp[AQ]at hx)
  rw[this];exact .cons (.c v hx) .nil
 |aU xs vs hl h=>exact .cons (.aU xs vs hl h) .nil
 |snap rows b off s n cap vs hn qK hs hL hc hr=>exact .cons (.snap rows b off s n cap vs hn qK hs hL hc hr) .nil
 |lV a cap=>exact .cons (.lV a cap) .nil
 |dD rows i o b off s vs hs hL hc hr=>exact .cons (.dD rows i o b off s vs hs hL hc hr) .nil
 |own id off len cap aB eC dP=>exact .cons (.own id off len cap aB eC dP) .nil
 |mW id off a aB=>exact .cons (.mW id off a aB) .nil
 |sub id i o len cap aB eC dP=>exact .cons (.sub id i o len cap aB eC dP) .nil
 |ptr id i o aB=>exact .cons (.ptr id i o aB) .nil
 |fn f first cap vf vc hl cW h h2=>exact .cons (.fn f first cap vf vc hl cW h h2) .nil
 |omap id aB=>exact .cons (.omap id aB) .nil
 |kH id aB=>exact .cons (.kH id aB) .nil
theorem RV.oneOf{a:AV}{v:Value}(r:RV E W a v)(h:a.one=true):v.oneCell'=true:=by
 cases r<;>first|rfl|exact h|(simp[AV.one]at h)
theorem bX.ap5{xs:List AV}{vs:List Value}(h:bX E W xs vs)(ho:xs.all AV.one=true):∀v∈vs,v.oneCell'=true:=by
 intro v hv;obtain⟨i,hi⟩:=aG6 hv;have bG:i<xs.length:=by rw[h.1];exact(dV.1 hi).1
 exact(h.2 i xs[i] v (eQ bG) hi).oneOf (gK.1 ho _ (FZ bG))
end
def deref(G:Nat->Option aI):AV->Option (List AV×Nat×List Nat)
 | .ptr id i o=>match G id with
   |some (.cells _ _ rows _ _)=>match rows[i]? with
    |some row=>some (row,o,[id])
    |none=>none
   |_=>none
 | .dD rows i o=>match rows[i]? with
   |some row=>some (row,o,[])
   |none=>none
 |_=>none
def rowsOf(G:Nat->Option aI):AV->Option (List (List AV)×List Nat)
 | .c (.slice _ 0 _)=>some ([],[])
 | .snap rows=>some (rows,[])
 | .own id off len=>match G id with
   |some (.cells _ _ rows _ _)=>if off+len<=rows.length then some ((rows.drop off).take len,[id])else none
   |_=>none
 | .sub id i o len=>match G id with
   |some (.cells _ _ rows _ _)=>match rows[i]? with
    |some row=>if o+len<=row.length then some (((row.drop o).take len).map fun x=> [x],[id])else none
    |none=>none
   |_=>none
 |_=>none
theorem ap6{E:Env}{W:World}{G:Nat->Option aI}(hG:RC E W G){a:AV}{v:Value}(r:RV E W a v){row:List AV}{o:Nat}{rd:List Nat}(h:deref G a=some (row,o,rd)):
  ∃b p,v= .pointer (some ⟨b,p+o,none⟩)/\∃vs:List Value,bX E W row vs/\∀(j:Nat) u,vs[j]? =some u->W.cell? ⟨b,p+j,none⟩=some u:=by
 unfold deref at h;split at h
 ·rename_i id i o'
  split at h
  ·rename_i e s rows w ap bU
   split at h
   ·rename_i fP bH
    simp only[bC,cD]at h;obtain⟨rfl,rfl,rfl⟩:=h;cases r with
    |ptr _ _ _ aB=>
    obtain⟨hU,dP,hlen,⟨cur,cK,hle,eX⟩,_,_⟩:=hG.ok id _ bU;have hi:i<rows.length:=(dV.1 bH).1;have hl:=hlen i fP bH
    have Jh:i*s+s<=cur.size:=by
     have:(i+1)*s<=rows.length*s:=nN s hi;rw[vG]at this;omega
    refine⟨E.ι id,i*s,by rw[dP],(cur.toList.drop (i*s)).take s,⟨by simp[hl];omega,fun j x u hx hu=> ?_⟩,fun j u hu=> ?_⟩
    ·obtain⟨u',h1,h2⟩:=eX i j fP x bH hx
     have hj:j<s:=by rw[<-hl];exact(dV.1 hx).1
     rw[gU,if_pos hj,mF]at hu;simp only[vD]at hu;rw[h1]at hu;injection hu with hu
     subst hu;exact h2
    ·rw[gU]at hu
     split at hu
     ·rw[mF]at hu
      simp only[vD]at hu;rw[cell_of_row W _ _ cur e (0,0) cK];exact hu
     ·cases hu
   ·cases h
  ·cases h
 ·rename_i rows i o'
  split at h
  ·rename_i fP bH
   simp only[bC,cD]at h;obtain⟨rfl,rfl,rfl⟩:=h;cases r with
   |dD _ _ _ b off s vs hs hL hc hr=>
   have hl:=hs i fP bH;refine⟨b,off+i*s,by simp[s9],(List.range fP.length).map (fun j=>vs i j),⟨by simp,fun j x u hx hu=> ?_⟩,fun j u hu=> ?_⟩
   ·have hj:j<fP.length:=(dV.1 hx).1
    simp[hj]at hu;subst hu;exact hr i j fP x bH hx
   ·by_cases hj:j<fP.length
    ·simp[hj]at hu
     subst hu;have:=hc i j fP fP[j] bH (eQ hj);rw[s9];exact this
    ·rw[zL (by simp;omega)]at hu;cases hu
  ·cases h
 ·cases h
theorem QN{E:Env}{W:World}{G:Nat->Option aI}(hG:RC E W G){a:AV}{v:Value}(r:RV E W a v){rows:List (List AV)}{rd:List Nat}(h:rowsOf G a=some (rows,rd)):
  ∃base n cap,v= .slice base n cap/\n=rows.length/\n<=cap/\(rows≠[]->∃b p s,base=some ⟨b,p,none⟩/\(∀(i:Nat) row,rows[i]? =some row->row.length=s)/\
   (∀(i j:Nat) row x,rows[i]? =some row->row[j]? =some x->∃u,W.cell? ⟨b,p+(i*s+j),none⟩=some u/\RV E W x u)):=by
 unfold rowsOf at h;split at h
 ·simp only[bC,cD]at h
  obtain⟨rfl,rfl⟩:=h;cases r;exact⟨_,0,_,rfl,rfl,iG _,fun h=>absurd rfl h⟩
 ·rename_i fH
  simp only[bC,cD]at h;obtain⟨rfl,rfl⟩:=h;cases r with
  |snap _ b off s n cap vs hn qK hs hL hc hr=>
   exact⟨_,n,cap,rfl,hn,qK,fun _=>⟨b,off,s,rfl,hs,fun i j row x h1 h2=>⟨_,hc i j row x h1 h2,hr i j row x h1 h2⟩⟩⟩
  |lV a cap=>exact⟨a,0,cap,rfl,rfl,iG _,fun h=>absurd rfl h⟩
 ·rename_i id off len
  split at h
  ·rename_i e s fH w ap bU
   split at h
   ·rename_i hle
    simp only[bC,cD]at h;obtain⟨rfl,rfl⟩:=h;obtain⟨hU,dP,hlen,⟨cur,cK,Oe,eX⟩,_,_⟩:=hG.ok id _ bU;cases r with
    |own _ _ _ cap aB eC bJ0=>
     refine⟨_,len,cap,rfl,by simp;omega,eC,fun _=>⟨_,_,s,rfl,fun i row bH=> ?_,fun i j row x bH hx=> ?_⟩⟩
     ·rw[gU]at bH
      split at bH
      ·rw[mF]at bH;exact hlen _ row bH
      ·cases bH
     ·rw[gU]at bH
      split at bH
      ·rw[mF]at bH
       obtain⟨u,h1,h2⟩:=eX _ j row x bH hx;refine⟨u,?_,h2⟩;rw[cell_of_row W _ _ cur e (0,0) cK,dP,<-h1];congr 1;rw[oW];omega
      ·cases bH
    |mW _ _ a aB=>exact⟨a,0,0,rfl,by simp,cE _,fun h=>absurd (by simp) h⟩
   ·cases h
  ·cases h
 ·rename_i id i o len
  split at h
  ·rename_i e s fH w ap bU
   split at h
   ·rename_i row bH
    split at h
    ·rename_i hle
     simp only[bC,cD]at h;obtain⟨rfl,rfl⟩:=h;obtain⟨hU,dP,hlen,⟨cur,cK,Oe,eX⟩,_,_⟩:=hG.ok id _ bU;cases r with
     |sub _ _ _ _ cap aB eC bJ0=>
      have v8:∀(i':Nat) fP,(((row.drop o).take len).map fun x=> [x])[i']? =some fP->∃y,row[o+i']? =some y/\fP=[y]:=fun i' fP hr=>by
       rw[gE]at hr;cases hq:((row.drop o).take len)[i']? with
       |none=>rw[hq]at hr;cases hr
       |some y=>
        rw[hq]at hr;injection hr with hr
        rw[gU]at hq;split at hq
        ·rw[mF]at hq;exact⟨y,hq,hr.symm⟩
        ·cases hq
      refine⟨_,len,cap,rfl,by simp;omega,eC,fun _=>⟨_,_,1,rfl,fun i' fP hr=> ?_,fun i' j fP x hr hx=> ?_⟩⟩
      ·obtain⟨y,_,rfl⟩:=v8 i' fP hr;rfl
      ·obtain⟨y,hy,rfl⟩:=v8 i' fP hr
       obtain⟨rfl,rfl⟩:j=0/\y=x:=by
        match j,hx with
        |0,hx=>injection hx with hx;exact⟨rfl,hx⟩
       obtain⟨u,h1,h2⟩:=eX i (o+i') row y bH hy;refine⟨u,?_,h2⟩;rw[cell_of_row W _ _ cur e (0,0) cK,dP,<-h1];congr 1;omega
    ·cases h
   ·cases h
  ·cases h
 ·cases h
end Go.AL
namespace Go.AL
open Go.RowKit
def aX(G:Nat->Option aI):List (Nat×Option aI)->Nat->Option aI
 |[]=>G
 |(i,b)::r=>aX (fun k=>if k=i then b else G k) r
def xI(k:Nat):List (Nat×Option aI)->Option aI
 |[]=>none
 |(i,b)::r=>if k=i then b else xI k r
def cV(l:List (Nat×Option aI))(k:Nat):Option aI:=xI k l
theorem Ul(l:List (Nat×Option aI))(k:Nat):cV l k=xI k l:=rfl
def JI:List (Nat×Option aI)->Nat->Option aI->List (Nat×Option aI)
 |[],i,b=> [(i,b)]
 |(j,c)::r,i,b=>if i=j then(i,b)::r else(j,c)::JI r i b
theorem bJ1(l:List (Nat×Option aI))(i:Nat)(b:Option aI):(fun k=>if k=i then b else cV l k)=cV (JI l i b):=by
 funext k
 induction l with
 |nil=>rfl
 |cons p r ih=>
  obtain⟨j,c⟩:=p;simp only[JI];by_cases mL:i=j
  ·subst mL
   simp only[if_true,cV,xI];split<;>rfl
  ·simp only[mL,if_false,cV,xI]
   simp only[cV]at ih;rw[<-ih];by_cases X2:k=j
   ·subst X2;simp[mQ mL]
   ·simp[X2]
theorem bJ2(G:Nat->Option aI):aX G []=G:=rfl
theorem bJ3(l:List (Nat×Option aI))(i:Nat)(b:Option aI)(r:List (Nat×Option aI)):aX (cV l) ((i,b)::r)=aX (cV (JI l i b)) r:=by
 rw[<-bJ1];rfl
theorem MD.mono{E E':Env}{W W':World}{G G':Nat->Option aI}{id:Nat}{b:aI}(h:MD E W G id b)(hv:bE E W E' W')(hU:E.U id)
  (hh:W'.heap[E.ι id]? =W.heap[E.ι id]?) (hL:E'.L (E.ι id)=E.L (E.ι id))
  (hG:∀aM b',aM≠id->G' aM=some b'->E'.ι aM=E.ι id->∃b0,G aM=some b0/\E.ι aM=E.ι id/\b'.upto=b0.upto/\(b0.app=false->b'.app=false)):MD E' W' G' id b:=by
 cases b with
 |map es=>
  obtain⟨⟨ms,clock,h1,h2,h3,h4⟩,h5,h6⟩:=h;have cY:=(hv.kT id hU).1;refine⟨⟨ms,clock,by rw[cY,hh];exact h1,h2,h3,fun i k x hx=> ?_⟩,by rw[cY,hL];exact h5,fun aM b' aJ hg heq=> ?_⟩
  ·obtain⟨e,lC,mX,sN⟩:=h4 i k x hx
   exact⟨e,lC,mX,sN.mono hv⟩
  ·rw[cY]at heq
   obtain⟨b0,tP,HH,_,_⟩:=hG aM b' aJ hg heq;exact h6 aM b0 aJ tP HH
 |iter m n seen=>
  obtain⟨⟨h1,h3⟩,h5,h6⟩:=h;have cY:=(hv.kT id hU).1;refine⟨⟨by rw[cY,hh,(hv.kT m h3).1];exact h1,hv.used m h3⟩,by rw[cY,hL];exact h5,fun aM b' aJ hg heq=> ?_⟩
  rw[cY]at heq;obtain⟨b0,tP,HH,_,_⟩:=hG aM b' aJ hg heq;exact h6 aM b0 aJ tP HH
 |cO env nt ps assign body st MC=>
  obtain⟨⟨fn,tmps,D,h1,h2,h3⟩,h5,h6⟩:=h;have cY:=(hv.kT id hU).1;refine⟨⟨fn,tmps,D,by rw[cY,hh];exact h1,h2,fun t c a ht=> ?_⟩,by rw[cY,hL];exact h5,fun aM b' aJ hg heq=> ?_⟩
  ·obtain⟨v,lC,mX,sN⟩:=h3 t c a ht
   exact⟨v,lC,fun hc=>(mX hc).mono hv,sN⟩
  ·rw[cY]at heq
   obtain⟨b0,tP,HH,_,_⟩:=hG aM b' aJ hg heq;exact h6 aM b0 aJ tP HH
 |cells elem s rows w a=>
  obtain⟨h1,h2,⟨cur,h3,h4,h5⟩,h6,h7⟩:=h;have cY:=(hv.kT id hU).1;have hs:=(hv.kT id hU).2;refine⟨by rw[hs];exact h1,h2,⟨cur,by rw[cY,hh];exact h3,h4,fun i j row x hr hx=> ?_⟩,fun hw=> ?_,fun ha=> ?_⟩
  ·obtain⟨v,pN,fB⟩:=h5 i j row x hr hx
   exact⟨v,pN,fB.mono hv⟩
  ·obtain⟨hz,hd⟩:=h6 hw
   refine⟨by rw[cY,hL];exact hz,fun aM b' aJ hg heq=> ?_⟩
   rw[cY]at heq;obtain⟨b0,tP,HH,_,_⟩:=hG aM b' aJ hg heq;exact hd aM b0 aJ tP HH
  ·obtain⟨hz,hd⟩:=h7 ha
   refine⟨by rw[cY,hL];exact hz,fun aM b' aJ hg heq=> ?_⟩
   rw[cY]at heq;obtain⟨b0,tP,HH,hup,IV⟩:=hG aM b' aJ hg heq;obtain⟨h8,h9⟩:=hd aM b0 aJ tP HH;exact⟨by rw[hup];exact h8,IV h9⟩
def Env.more(E:Env)(aF g s:Nat):Env where
 ι:=fun k=>if k=aF then g else E.ι k
 sz:=fun k=>if k=aF then s else E.sz k
 U:=fun k=>E.U k\/k=aF
 L:=E.L
section
variable {E : Env} {W : World} {G : Nat -> Option aI}
theorem bE.alloc(hG:RC E W G){aF:Nat}(hn:¬E.U aF)(o:Obj)(s:Nat):bE E W (E.more aF W.heap.size s) (W.alloc o)where
 os:=rfl
 tape:=rfl
 output:=rfl
 size:=by simp
 used:=fun id h=> .inl h
 kT:=fun id h=>by
  have:id≠aF:=fun e=>hn (e▸h)
  simp[Env.more,this]
 lim:=fun b=>cE _
 zB:=fun b k hk=>by
  refine World.cell?_alloc_old W o _ fun e=> ?_
  have:=hG.lim b (by simp at e;omega)
  omega
 tZ:=fun b hb _=>Below.heap_alloc W o b hb
 b8:=fun b cur e f h=>⟨cur,f,by rw[Below.heap_alloc W o b (jG.1 h).1];exact h,rfl⟩
 still:=fun _ _ _=>rfl
 fresh:=fun id h1 h2=>by
  rcases h2 with h2|h2
  ·exact absurd h2 h1
  ·subst h2;left;simp[Env.more]
 loops:=fun b r h=>⟨r,by rw[Below.heap_alloc W o b (jG.1 h).1];exact h,rfl⟩
theorem bE.drew(E:Env)(W:World):bE E W E W.drew:=
 ⟨rfl,rfl,rfl,cE _,fun _ h=>h,fun _ _=>⟨rfl,rfl⟩,fun _=>cE _,fun _ _ _=>rfl,fun _ _ _=>rfl,fun b cur e f h=>⟨cur,f,h,rfl⟩,fun _ _ _=>rfl,fun id h h'=>absurd h' h,fun b r h=>⟨r,h,rfl⟩⟩
theorem RC.ME{W':World}(hG:RC E W G)(hv:bE E W E W')(hh:W'.heap=W.heap):RC E W' G where
 lim:=fun b hb=>hG.lim b (by rw[hh]at hb;exact hb)
 eL:=fun id h=>by rw[hh];exact hG.eL id h
 ok:=fun id b h=>by
  obtain⟨h1,h2⟩:=hG.ok id b h;exact⟨h1,h2.mono hv h1 (by rw[hh]) rfl fun aM b' _ hg he=>⟨b',hg,he,rfl,fun h=>h⟩⟩
theorem RC.drew(hG:RC E W G):RC E W.drew G:=hG.ME (bE.drew E W) rfl
theorem RC.alloc(hG:RC E W G){aF:Nat}(hn:¬E.U aF)(elem:TypeId)(cur:Array Value)(s:Nat)(rows:List (List AV))(w a:Bool)
  (hs:∀(i:Nat) row,rows[i]? =some row->row.length=s) (hle:rows.length*s<=cur.size)
  (hc:∀(i j:Nat) row x,rows[i]? =some row->row[j]? =some x->∃v,cur[i*s+j]? =some v/\RV E W x v):
  RC (E.more aF W.heap.size s) (W.alloc (.cells cur elem)) (aX G [(aF,some (.cells elem s rows w a))])where
 lim:=fun b hb=>hG.lim b (by simp at hb;omega)
 eL:=fun id h=>by
  rcases h with h|h
  ·have aJ:id≠aF:=fun e=>hn (e▸h)
   have:=hG.eL id h;simp[Env.more,aJ];omega
  ·subst h;simp[Env.more]
 ok:=fun id b h=>by
  have hv:=bE.alloc hG hn (.cells cur elem) s;by_cases aB:id=aF
  ·subst aB
   simp only[aX,if_true,bC]at h;subst h;refine⟨.inr rfl,by simp[Env.more],hs,⟨cur,by simp only[Env.more,if_true];exact heap_alloc_new W _,hle,fun i j row x h1 h2=> ?_⟩,fun _=>⟨?_,fun aM b' aJ hg=> ?_⟩,fun _=>⟨?_,fun aM b' aJ hg he=> ?_⟩⟩
   ·obtain⟨v,h3,h4⟩:=hc i j row x h1 h2
    exact⟨v,h3,h4.mono hv⟩
   ·simp only[Env.more,if_true];exact hG.lim _ (cE _)
   ·simp only[aX,aJ,if_false]at hg
    have:=hG.eL aM (hG.ok aM b' hg).1;simp only[Env.more,aJ,if_true,if_false];omega
   ·simp only[Env.more,if_true];rw[hG.lim _ (cE _)];omega
   ·simp only[aX,aJ,if_false]at hg
    have:=hG.eL aM (hG.ok aM b' hg).1;simp only[Env.more,aJ,if_true,if_false]at he;omega
  ·simp only[aX,aB,if_false]at h
   obtain⟨h1,h2⟩:=hG.ok id b h;have bG:=hG.eL id h1;refine⟨.inl h1,h2.mono hv h1 (Below.heap_alloc W _ _ bG) rfl fun aM b' aJ hg he=> ?_⟩
   by_cases vS:aM=aF
   ·subst vS;simp only[Env.more,if_true]at he;omega
   ·simp only[aX,vS,if_false]at hg
    simp only[Env.more,vS,if_false]at he;exact⟨b',hg,he,rfl,fun h=>h⟩
theorem bE.setRow(hG:RC E W G){id:Nat}(hU:E.U id){cur dN:Array Value}{e:TypeId}(cK:W.heap[E.ι id]? =some (.cells cur e (0,0)))
  (dP:dN.size=cur.size) (hp:∀k,k<E.L (E.ι id)->dN[k]? =cur[k]?):bE E W E (W.setRow (E.ι id) dN)where
 os:=rfl
 tape:=rfl
 output:=rfl
 size:=by simp
 used:=fun _ h=>h
 kT:=fun _ _=>⟨rfl,rfl⟩
 lim:=fun _=>cE _
 zB:=fun b k hk=>by
  by_cases hb:b=E.ι id
  ·subst hb
   rw[cell_setRow_same W _ k cur dN e (0,0) cK,cell_of_row W _ k cur e (0,0) cK];exact hp k hk
  ·exact cell_setRow_other W _ dN ⟨b,k,none⟩ hb
 tZ:=fun b _ hf=>setRow_other W _ b dN fun h=>hf id hU h.symm
 b8:=fun b c e' f h=>by
  by_cases hb:b=E.ι id
  ·subst hb
   rw[cK]at h;injection h with h
   injection h with h1 h2 h3
   subst h1;subst h2;subst h3;exact⟨dN,(0,0),setRow_heap W _ cur dN e (0,0) cK,dP⟩
  ·exact⟨c,f,by rw[setRow_other W _ b dN hb];exact h,rfl⟩
 still:=fun _ _ _=>rfl
 fresh:=fun id h h'=>absurd h' h
 loops:=fun b r h=>by
  by_cases hb:b=E.ι id
  ·subst hb;rw[cK]at h;cases h
  ·exact⟨r,by rw[setRow_other W _ b dN hb];exact h,rfl⟩
end
def x8(row:List AV)(o:Nat)(xs:List AV):List AV:=row.take o++xs++row.drop (o+xs.length)
theorem ap7{row xs:List AV}{o:Nat}(h:o+xs.length<=row.length):(x8 row o xs).length=row.length:=by
 simp[x8];omega
theorem bJ5{row xs:List AV}{o j:Nat}{x:AV}(h:o+xs.length<=row.length)(hx:(x8 row o xs)[j]? =some x):
  (o<=j/\j<o+xs.length/\xs[j-o]? =some x)\/((j<o\/o+xs.length<=j)/\row[j]? =some x):=by
 unfold x8 at hx;by_cases h1:j<o
 ·rw[fF,kG (by simp;omega),gU,if_pos h1]at hx
  exact .inr ⟨.inl h1,hx⟩
 ·by_cases h2:j<o+xs.length
  ·rw[fF,k7 (by simp;omega),kG (by simp;omega)]at hx
   refine .inl ⟨by omega,h2,?_⟩
   rw[<-hx];congr 1;simp;omega
  ·rw[k7 (by simp;omega),mF]at hx
   refine .inr ⟨.inr (by omega),?_⟩
   rw[<-hx];congr 1;simp;omega
theorem RC.write{E:Env}{W:World}{G:Nat->Option aI}(hG:RC E W G){id:Nat}{elem:TypeId}{s:Nat}{rows:List (List AV)}{a:Bool}(hg:G id=some (.cells elem s rows true a))
  {i o:Nat} {row:List AV} (bH:rows[i]? =some row) {xs:List AV} {vs:List Value} (hx:bX E W xs vs) (hle:o+xs.length<=row.length) (h1:∀v∈vs,v.oneCell'=true) {P:Program}:
  ∃dN,(storeCells ⟨E.ι id,i*s+o,none⟩ vs 0).run P W= .ok () (W.setRow (E.ι id) dN)/\bE E W E (W.setRow (E.ι id) dN)/\
   RC E (W.setRow (E.ι id) dN) (aX G [(id,some (.cells elem s (rows.set i (x8 row o xs)) true a))]):=by
 obtain⟨hU,dP,hlen,⟨cur,cK,qV,eX⟩,hw,ha⟩:=hG.ok id _ hg;obtain⟨hL,hd⟩:=hw rfl;have hi:i<rows.length:=(dV.1 bH).1;have hl:=hlen i row bH
 have Jh:i*s+s<=cur.size:=by
  have:(i+1)*s<=rows.length*s:=nN s hi;rw[vG]at this;omega
 have Kv:vs.length=xs.length:=hx.1.symm;have eG:=run_storeCells_at P (E.ι id) (i*s+o) elem vs 0 cur W cK (by omega) h1
 simp only[zN]at eG;refine⟨_,eG,?_⟩;generalize yB:(cur.toList.take (i*s+o)++vs++cur.toList.drop (i*s+o+vs.length)).toArray=dN at*;have z7:dN.size=cur.size:=by subst yB;simp;omega
 have hv:=bE.setRow hG hU cK z7 (fun k hk=>by omega)
 refine⟨hv,⟨fun b hb=>hG.lim b (by simpa using hb),fun aM h=>by simpa using hG.eL aM h,fun aM b h=> ?_⟩⟩
 by_cases aB:aM=id
 ·subst aB
  simp only[aX,if_true,bC]at h;subst h;refine⟨hU,dP,fun i' fP hr=> ?_,⟨dN,setRow_heap W _ cur dN elem (0,0) cK,by simp;omega,fun i' j fP x hr kY=> ?_⟩,fun _=>⟨hL,fun dI dJ aJ cL=> ?_⟩,fun MF=> ?_⟩
  ·by_cases QO:i'=i
   ·subst QO;rw[YZ hi]at hr;injection hr with hr;subst hr;rw[ap7 hle];exact hl
   ·rw[O6 (mQ QO)]at hr;exact hlen i' fP hr
  ·have ap8:∀k,k<cur.size->(k<i*s+o\/i*s+o+vs.length<=k)->dN[k]? =cur[k]? :=by
    intro k hk iX;subst yB;rw[wE];rcases iX with iX|iX
    ·rw[fF,kG (by simp;omega),gU,if_pos iX];simp
    ·rw[k7 (by simp;omega),mF];simp;congr 1;omega
   have bJ6:∀k,k<vs.length->dN[i*s+o+k]? =vs[k]? :=by
    intro k hk;subst yB;rw[wE,fF,k7 (by simp;omega),kG (by simp;omega)]
    congr 1;simp;omega
   by_cases QO:i'=i
   ·subst QO
    rw[YZ hi]at hr;injection hr with hr
    subst hr;rcases bJ5 hle kY with⟨h2,h3,h4⟩|⟨h2,h4⟩
    ·obtain⟨v,h5,h6⟩:=hx.get h4
     refine⟨v,?_,h6.mono hv⟩;rw[<-h5,<-bJ6 (j-o) (by omega)];congr 1;omega
    ·obtain⟨v,h5,h6⟩:=eX i' j row x bH h4
     refine⟨v,?_,h6.mono hv⟩;rw[<-h5];have hj:j<s:=by rw[<-hl];exact(dV.1 h4).1
     exact ap8 _ (by omega) (by omega)
   ·rw[O6 (mQ QO)]at hr
    obtain⟨v,h5,h6⟩:=eX i' j fP x hr kY;refine⟨v,?_,h6.mono hv⟩;rw[<-h5];have u4:=hlen i' fP hr;have hj:j<s:=by rw[<-u4];exact(dV.1 kY).1
    refine ap8 _ (jG.1 h5).1 ?_;rcases Nat.lt_or_gt_of_ne QO with h7|h7
    ·have:(i'+1)*s<=i*s:=nN s h7
     rw[vG]at this;omega
    ·have:(i+1)*s<=i'*s:=nN s h7
     rw[vG]at this;omega
  ·simp only[aX,aJ,if_false]at cL
   exact hd dI dJ aJ cL
  ·obtain⟨h8,h9⟩:=ha MF
   refine⟨by rw[hL];omega,fun dI dJ aJ cL he=> ?_⟩
   simp only[aX,aJ,if_false]at cL;exact absurd he (hd dI dJ aJ cL)
 ·simp only[aX,aB,if_false]at h
  obtain⟨h2,h3⟩:=hG.ok aM b h;have cY:E.ι aM≠E.ι id:=hd aM b aB h;refine⟨h2,h3.mono hv h2 (setRow_other W _ _ dN cY) rfl fun dI dJ aJ cL he=> ?_⟩
  by_cases JJ:dI=id
  ·subst JJ;exact absurd he.symm cY
  ·simp only[aX,JJ,if_false]at cL
   exact⟨dJ,cL,he,rfl,fun h=>h⟩
end Go.AL
namespace Go.AL
open Go.RowKit
section types
variable (P : Program)
def dX(t:TypeId):Option Nat:=(P.info? t).map (·.size)
def qQ(t:TypeId):Option Nat:=(P.info? t).map (·.bytes)
def iN(t:TypeId):Option Bool:=
 match P.underlying t with
 |some (.struct _)|some (.array _ _)=>some true
 |some _=>some false
 |none=>none
def dQ(t:TypeId)(f:Nat):Option (Nat×Nat×TypeId):=
 match P.underlying t with
 |some (.struct fs)=>match fs[f]? with
  |some fd=>(dX P fd.type).map fun k=>(fd.offset,k,fd.type)
  |none=>none
 |_=>none
def fG(t:TypeId):Option (TypeId×Nat):=
 match P.underlying t with
 |some (.slice e)=>(dX P e).map fun k=>(e,k)
 |_=>none
def sO(t:TypeId):Option (Nat×TypeId×Nat):=
 match P.underlying t with
 |some (.array n e)=>(dX P e).map fun k=>(n,e,k)
 |_=>none
def xF(t:TypeId):Option IntKind:=
 match P.underlying t with
 |some (.int k)=>some k
 |_=>none
def fT(t:TypeId):Option (List AV):=
 match(P.info? t).bind (·.zero)with
 |some z=>if z.cells.toList.all (fun v=> !AQ v)then some (z.cells.toList.map AV.c)else none
 |none=>none
def oX(t:TypeId)(d:TypeDesc->Bool):Bool:=((P.underlying t).map d).getD false
end types
def isString:TypeDesc->Bool| .string=>true|_=>false
def isBool:TypeDesc->Bool| .bool=>true|_=>false
def tT(P:Program)(t:TypeId)(xs:List AV)(off:Nat):Option AV:=
 match iN P t,dX P t with
 |some true,some k=>if off+k<=xs.length then some (.agg ((xs.drop off).take k))else none
 |some false,some _=>xs[off]?
 |_,_=>none
def Dm(op:BinOp)(k:IntKind)(a b:Int):Option Value:=
 match op with
 | .add=>some (.int k (k.wrap (a+b)))
 | .sub=>some (.int k (k.wrap (a-b)))
 | .mul=>some (.int k (k.wrap (a*b)))
 | .quo=>if b=0 then none else some (.int k (k.wrap (a.tdiv b)))
 | .rem=>if b=0 then none else some (.int k (a.tmod b))
 | .eql=>some (.bool (a==b))
 | .neq=>some (.bool (a !=b))
 | .lss=>some (.bool (decide (a<b)))
 | .leq=>some (.bool (decide (a<=b)))
 | .gtr=>some (.bool (decide (b<a)))
 | .geq=>some (.bool (decide (b<=a)))
 | .and=>some (.int k (bits .and k a b))
 | .or=>some (.int k (bits .or k a b))
 | .xor=>some (.int k (bits .xor k a b))
 | .andNot=>some (.int k (bits .andNot k a b))
 |_=>none
def MG(left:Bool)(k:IntKind)(a b:Int):Option Value:=
 if b<0 then none else match left with
  |true=>some (.int k (k.wrap (a*2 ^ min b.toNat k.bits)))
  |false=>some (.int k (a.fdiv (2 ^ min b.toNat k.bits)))
def Dn(op:BinOp)(k k':IntKind)(a b:Int):Option Value:=
 match op with
 | .shl=>MG true k a b
 | .shr=>MG false k a b
 |_=>if k=k' then Dm op k a b else none
def isAny:TypeDesc->Bool
 | .interface ms=>ms.isEmpty
 |_=>false
def zQ:TypeDesc->Bool
 | .interface _=>false
 |_=>true
theorem MH{P:Program}{t:TypeId}{d:TypeDesc->Bool}(h:oX P t d=true):∃x,P.underlying t=some x/\d x=true:=by
 unfold oX at h;cases hu:P.underlying t with
 |none=>simp[hu]at h
 |some x=>exact⟨x,rfl,by simpa[hu]using h⟩
def HI(op:BinOp)(r:Bool):Option Value:=
 match op with
 | .eql=>some (.bool r)
 | .neq=>some (.bool (!r))
 |_=>none
theorem ap9{op:BinOp}{r:Bool}{v:Value}(h:HI op r=some v):AQ v=false:=by
 unfold HI at h;split at h<;>simp only[bC,reduceCtorEq]at h<;>subst h<;>rfl
def MI(P:Program)(op:BinOp)(t:TypeId):Value->Value->Option Value
 | .int k a,.int k' b=>Dn op k k' a b
 | .bool a,.bool b=>if oX P t isBool then(match op with| .eql=>some (.bool (a==b))| .neq=>some (.bool (!(a==b)))|_=>none)else none
 | .string a,.string b=>match op with
   | .eql=>some (.bool (a.toList==b.toList))
   | .neq=>some (.bool (!(a.toList==b.toList)))
   |_=>none
 | .iface _ _,.nilIface=>if oX P t isAny then HI op false else none
 | .nilIface,.nilIface=>if oX P t isAny then HI op true else none
 |_,_=>none
theorem run_typeInfo{P:Program}{t:TypeId}{i:TypeInfo}(h:P.info? t=some i)(w:World):(typeInfo t).run P w= .ok i w:=by simp[typeInfo,h]
theorem run_sizeOf{P:Program}{t:TypeId}{k:Nat}(h:dX P t=some k)(w:World):(sizeOf t).run P w= .ok k w:=by
 unfold dX at h;cases hi:P.info? t with
 |none=>simp[hi]at h
 |some i=>simp[hi]at h;simp[sizeOf,run_typeInfo hi,h]
theorem X3{P:Program}{t:TypeId}{b:Bool}(h:iN P t=some b)(w:World):(isAgg t).run P w= .ok b w:=by
 unfold iN at h;cases hu:P.underlying t with
 |none=>simp[hu]at h
 |some d=>
  unfold isAgg;rw[Sem.run_bind,run_underlying hu w];cases d<;>simp_all
theorem bJ7(d:Nat){P:Program}{t:TypeId}{ms:Array (String×TypeId)}(hu:P.underlying t=some (.interface ms))(t':TypeId)(v:Value)(w:World):
  (Op.equalIn (d+1) t (.iface t' v) .nilIface).run P w= .ok false w:=by
 simp[Op.equalIn,run_underlying hu]
theorem bJ8(d:Nat){P:Program}{t:TypeId}{ms:Array (String×TypeId)}(hu:P.underlying t=some (.interface ms))(w:World):
  (Op.equalIn (d+1) t .nilIface .nilIface).run P w= .ok true w:=by
 simp[Op.equalIn,run_underlying hu]
theorem bJ9(d:Nat){P:Program}{t:TypeId}{ms:Array (String×TypeId)}(hu:P.underlying t=some (.interface ms))(w:World):
  (Op.eqGuardIn (d+1) t .nilIface .nilIface).run P w= .ok (!ms.isEmpty) w:=by
 simp[Op.eqGuardIn,run_underlying hu]
theorem bK0{P:Program}{op:BinOp}{t:TypeId}{ms:Array (String×TypeId)}(hu:P.underlying t=some (.interface ms))(t':TypeId)(v':Value)(x y:Operand)(w:World){v:Value}(h:HI op false=some v):
  (do eqGuard op t x y (.iface t' v') .nilIface;binOp op t (.iface t' v') .nilIface:Sem Value).run P w= .ok v w:=by
 have h1:=bJ7 9999 hu t' v' w;have h2:(eqGuard op t x y (.iface t' v') .nilIface).run P w= .ok () w:=by cases op<;>rfl
 rw[Sem.run_bind,h2,Result.andThen_ok];cases op<;>simp only[HI,reduceCtorEq,bC]at h<;>subst h<;>simp only[binOp,Op.equal,Op.maxDepth,Sem.run_bind,h1,Result.andThen_ok,Sem.run_pure]
theorem bK1{P:Program}{op:BinOp}{t:TypeId}{ms:Array (String×TypeId)}(hu:P.underlying t=some (.interface ms))(sG:ms.isEmpty=true)(x y:Operand)(w:World){v:Value}(h:HI op true=some v):
  (do eqGuard op t x y .nilIface .nilIface;binOp op t .nilIface .nilIface:Sem Value).run P w= .ok v w:=by
 have h1:=bJ8 9999 hu w;have h0:=bJ9 9999 hu w
 have h2:(eqGuard op t x y .nilIface .nilIface).run P w= .ok () w:=by
  cases op<;>first
   |rfl
   |(simp only[eqGuard,TI,mG,if_false]
     generalize hb:(_||_:Bool)=b
     cases b
     ·simp only[mG,if_false,Op.maxDepth,Sem.run_bind,h0,Result.andThen_ok,sG];rfl
     ·rfl)
 rw[Sem.run_bind,h2,Result.andThen_ok];cases op<;>simp only[HI,reduceCtorEq,bC]at h<;>subst h<;>simp only[binOp,Op.equal,Op.maxDepth,Sem.run_bind,h1,Result.andThen_ok,Sem.run_pure]
theorem bK2{P:Program}{op:BinOp}{t:TypeId}{a b v:Value}(h:MI P op t a b=some v)(x y:Operand)(w:World):
  (do eqGuard op t x y a b;binOp op t a b:Sem Value).run P w= .ok v w:=by
 unfold MI at h;split at h
 ·rename_i k a k' b
  unfold Dn at h;split at h
  ·unfold MG at h
   split at h
   ·cases h
   ·rename_i hb
    simp only[bC]at h;subst h;rw[eqGuard_at_int];simp[binOp,Op.shift,hb]
  ·unfold MG at h
   split at h
   ·cases h
   ·rename_i hb
    simp only[bC]at h;subst h;rw[eqGuard_at_int];simp[binOp,Op.shift,hb]
  ·rename_i AP hs2
   split at h
   ·rename_i hk
    subst hk;rw[eqGuard_at_int];unfold Dm at h;split at h<;>(try (split at h))<;>simp only[bC,reduceCtorEq]at h<;>(try subst h)<;>simp_all [binOp,Op.intArith,Op.intDiv,Op.intCmp,intBits_and,intBits_or,intBits_xor,intBits_andNot]
   ·cases h
 ·rename_i a b
  rw[eqGuard_at_bool];split at h
  ·rename_i hb
   have hu:P.underlying t=some .bool:=by
    unfold oX at hb;cases hu:P.underlying t with
    |none=>simp[hu]at hb
    |some d=>simp[hu]at hb;cases d<;>simp_all [isBool]
   split at h
   ·simp only[bC]at h;subst h;simpa using run_eql_bool w t a b hu
   ·simp only[bC]at h;subst h;simpa using run_neq_bool w t a b hu
   ·cases h
  ·cases h
 ·rename_i a b
  rw[eqGuard_at_string];split at h<;>simp only[bC,reduceCtorEq]at h<;>subst h<;>simp[binOp,Op.stringOp]
 ·rename_i t' v'
  split at h
  ·rename_i ht
   obtain⟨d,hu,hd⟩:=MH ht;cases d<;>simp only[isAny,reduceCtorEq,mG]at hd
   exact bK0 hu t' v' x y w h
  ·cases h
 ·split at h
  ·rename_i ht
   obtain⟨d,hu,hd⟩:=MH ht;cases d<;>simp only[isAny,reduceCtorEq,mG]at hd
   exact bK1 hu hd x y w h
  ·cases h
 ·cases h
theorem aq1{P:Program}{t:TypeId}{k:Nat}(ha:iN P t=some true)(hs:dX P t=some k)(w:World)(b p:Nat)(vs:List Value)(hl:vs.length=k)
  (h:∀(j:Nat) u,vs[j]? =some u->w.cell? ⟨b,p+j,none⟩=some u):(loadVar t ⟨b,p,none⟩).run P w= .ok (.agg vs.toArray) w:=by
 have hc:=run_loadCells_list (P:=P) w ⟨b,p,none⟩ vs (fun j u hu=>by rw[Addr.add_lit];exact h j u hu)
 rw[hl]at hc;simp[loadVar,X3 ha,run_sizeOf hs,hc]
theorem aq2{P:Program}{t:TypeId}(ha:iN P t=some false)(w:World)(a:Addr)(v:Value)(h:w.cell? a=some v):(loadVar t a).run P w= .ok v w:=by
 simp[loadVar,X3 ha,h]
theorem bK3{P:Program}{t:TypeId}{k:Nat}(hs:dX P t=some k)(w w':World)(a:Addr)(v:Value)(hl:v.cells.size=k)
  (h:(storeCells a v.cells.toList 0).run P w= .ok () w'):(storeVar t a v).run P w= .ok () w':=by
 simp[storeVar,run_sizeOf hs,hl,h]
def eM(P:Program)(g:Operand->Option AV)(G:Nat->Option aI)(aF:Nat)(o:Oper)(a:AV)(G':Nat->Option aI):Prop:=
 ∀(E:Env) (W:World) (ρ:Operand->Value),RC E W G->¬E.U aF->(∀x b,g x=some b->RV E W b (ρ x))->
  ∃W' v E',((execOp ρ o).run P W= .ok (.value v) W'\/((execOp ρ o).run P W= .ok .skip W'/\v=undef))/\bE E W E' W'/\RC E' W' G'/\RV E' W' a v/\(∀id,E'.U id->E.U id\/(id=aF/\(G' aF).isSome=true))
theorem eM.still{P:Program}{g:Operand->Option AV}{G:Nat->Option aI}{aF:Nat}{o:Oper}{a:AV}
  (h:∀(E:Env) (W:World) (ρ:Operand->Value),RC E W G->(∀x b,g x=some b->RV E W b (ρ x))->∃v,(execOp ρ o).run P W= .ok (.value v) W/\RV E W a v):eM P g G aF o a G:=
 fun E W ρ hG _ aZ=>let ⟨v,h1,h2⟩:=h E W ρ hG aZ;⟨W,v,E,.inl h1,bE.refl E W,hG,h2,fun _ h=> .inl h⟩
section
variable {P : Program} {g : Operand -> Option AV} {G : Nat -> Option aI} {aF : Nat} {dst : Option Tmp} {ty : TypeId} {pos : String} {after : Array Edge} {guard : Option (Nat × Bool)}
theorem bK4{x:Operand}{a:AV}(hx:g x=some a):eM P g G aF ⟨dst,.move x,ty,pos,after,guard⟩ a G:=
 .still fun E W ρ hG aZ=>⟨ρ x,rfl,aZ x a hx⟩
theorem bK5{x:Operand}{a:AV}(hx:g x=some a):eM P g G aF ⟨dst,.assign x,ty,pos,after,guard⟩ a G:=
 .still fun E W ρ hG aZ=>⟨ρ x,rfl,aZ x a hx⟩
theorem Dp{c x y:Operand}{b:Bool}{a:AV}(hc:g c=some (.c (.bool b)))(hx:b=true->g x=some a)(hy:b=false->g y=some a):
  eM P g G aF ⟨dst,.pick c x y,ty,pos,after,guard⟩ a G:=
 .still fun E W ρ hG aZ=>by
   have h1:=aZ c _ hc;generalize aq3:ρ c=vc at h1;cases h1;cases b
   ·exact⟨ρ y,by simp[execOp,aq3,asBool],aZ y a (hy rfl)⟩
   ·exact⟨ρ x,by simp[execOp,aq3,asBool],aZ x a (hx rfl)⟩
theorem bK6{c x y:Operand}{b p q:Bool}(hc:g c=some (.c (.bool b)))(hx:g x=some (.c (.bool p)))(hy:g y=some (.c (.bool q))):
  eM P g G aF ⟨dst,.pick c x y,ty,pos,after,guard⟩ (.c (.bool (cond b p q))) G:=by
 cases b
 ·exact Dp hc (fun h=>by cases h) (fun _=>hy)
 ·exact Dp hc (fun _=>hx) (fun h=>by cases h)
theorem bK7{op:BinOp}{t yt:TypeId}{x y:Operand}{a b v:Value}(hx:g x=some (.c a))(hy:g y=some (.c b))(h:MI P op t a b=some v)(hv:AQ v=false):
  eM P g G aF ⟨dst,.binOp op t x y yt,ty,pos,after,guard⟩ (.c v) G:=
 .still fun E W ρ hG aZ=>by
   have h1:=aZ x _ hx;have h2:=aZ y _ hy;generalize cJ:ρ x=vx at h1;generalize lE:ρ y=vy at h2;cases h1;cases h2;refine⟨v,?_,.c v hv⟩;have:=bK2 h x y W;simp only[execOp,cJ,lE];rw[Sem.run_bind,this];rfl
theorem bK8{t:TypeId}{x:Operand}{b:Bool}(hx:g x=some (.c (.bool b))):eM P g G aF ⟨dst,.unOp .not t x,ty,pos,after,guard⟩ (.c (.bool (!b))) G:=
 .still fun E W ρ hG aZ=>by
   have h1:=aZ x _ hx;generalize cJ:ρ x=vx at h1;cases h1;exact⟨_,by simp[execOp,cJ,Op.unary],.c _ rfl⟩
theorem bK9{t:TypeId}{x:Operand}{k:IntKind}{n:Int}(hx:g x=some (.c (.int k n))):eM P g G aF ⟨dst,.unOp .neg t x,ty,pos,after,guard⟩ (.c (.int k (k.wrap (0-n)))) G:=
 .still fun E W ρ hG aZ=>by
   have h1:=aZ x _ hx;generalize cJ:ρ x=vx at h1;cases h1;exact⟨_,by simp[execOp,cJ,Op.unary,Op.intArith],.c _ rfl⟩
theorem bL0{t:TypeId}{x:Operand}{k:IntKind}{n:Int}(hx:g x=some (.c (.int k n))):eM P g G aF ⟨dst,.unOp .xor t x,ty,pos,after,guard⟩ (.c (.int k (bits .xor k (if k.signed then-1 else k.max) n))) G:=
 .still fun E W ρ hG aZ=>by
   have h1:=aZ x _ hx;generalize cJ:ρ x=vx at h1;cases h1;exact⟨_,by simp[execOp,cJ,Op.unary,intBits_xor],.c _ rfl⟩
theorem Dq{t:TypeId}{k:IntKind}(h:xF P t=some k):P.underlying t=some (.int k):=by
 unfold xF at h;split at h
 ·rename_i hu;injection h with h;subst h;exact hu
 ·cases h
theorem bL1{src t:TypeId}{x:Operand}{k kd:IntKind}{n:Int}(hx:g x=some (.c (.int k n)))(hs:(xF P src).isSome=true)(hd:xF P t=some kd):
  eM P g G aF ⟨dst,.convert src t x,ty,pos,after,guard⟩ (.c (.int kd (kd.wrap n))) G:=
 .still fun E W ρ hG aZ=>by
   have h1:=aZ x _ hx;generalize cJ:ρ x=vx at h1;cases h1;refine⟨_,?_,.c _ rfl⟩;obtain⟨ks,KO⟩:=Gh.1 hs;have hu:=Dq hd;simp[execOp,cJ,convert,run_underlying (Dq KO),run_underlying hu,Conv.intToInt]
theorem bL2{x:Operand}{xs:List AV}{i:Nat}{a:AV}(hx:g x=some (.aU xs))(hi:xs[i]? =some a):eM P g G aF ⟨dst,.extract x i,ty,pos,after,guard⟩ a G:=
 .still fun E W ρ hG aZ=>by
   have h1:=aZ x _ hx;generalize cJ:ρ x=vx at h1;cases h1 with
   |aU _ vs hl h=>
   have bG:i<vs.size:=by rw[<-hl];exact(dV.1 hi).1
   refine⟨vs[i],?_,h i a _ hi (by simp[bG])⟩
   simp[execOp,cJ,Instr.extract,bG]
theorem QP{E:Env}{W:World}{t:TypeId}{xs:List AV}{vs:Array Value}(h:bX E W xs vs.toList){off:Nat}{a:AV}(hp:tT P t xs off=some a):
  ∃v,(part t vs off).run P W= .ok v W/\RV E W a v:=by
 unfold tT at hp;split at hp
 ·rename_i k ha hk
  split at hp
  ·rename_i hle
   injection hp with hp
   subst hp;refine⟨.agg (vs.extract off (off+k)),by simp[part,X3 ha,run_sizeOf hk],.agg _ _ ?_ fun i x v hx hv=> ?_⟩
   ·have:=h.1;simp at this⊢;omega
   ·have:=((h.drop off).take k).2 i x v hx
    rw[Array.getElem?_extract]at hv;refine this ?_;rw[gU,mF];split at hv
    ·rename_i bG
     have:i<k:=by omega
     simp only[this,if_true,vD];exact hv
    ·cases hv
  ·cases hp
 ·rename_i k ha hk
  obtain⟨v,h1,h2⟩:=h.get hp;simp only[vD]at h1;exact⟨v,by simp[part,X3 ha,h1],h2⟩
 ·cases hp
theorem aq4{t:TypeId}{f off k:Nat}{ft:TypeId}(h:dQ P t f=some (off,k,ft)):∃fs fd,P.underlying t=some (.struct fs)/\fs[f]? =some fd/\fd.offset=off/\dX P ft=some k/\fd.type=ft:=by
 unfold dQ at h;split at h
 ·rename_i fs hu
  split at h
  ·rename_i fd HJ
   cases hk:dX P fd.type with
   |none=>simp[hk]at h
   |some k'=>
    simp[hk]at h;obtain⟨rfl,rfl,rfl⟩:=h;exact⟨fs,fd,hu,HJ,rfl,hk,rfl⟩
  ·cases h
 ·cases h
theorem bL3{t:TypeId}{x:Operand}{f off k:Nat}{ft:TypeId}{xs:List AV}{a:AV}(hx:g x=some (.agg xs))(hf:dQ P t f=some (off,k,ft))(hp:tT P ft xs off=some a):
  eM P g G aF ⟨dst,.field t x f,ty,pos,after,guard⟩ a G:=
 .still fun E W ρ hG aZ=>by
   have h1:=aZ x _ hx;generalize cJ:ρ x=vx at h1;cases h1 with
   |agg _ vs hl h=>
   obtain⟨fs,fd,hu,HJ,ho,hk,xX⟩:=aq4 hf;subst xX;subst ho;obtain⟨v,h2,h3⟩:=QP (P:=P) (E:=E) (W:=W) (vs:=vs) ⟨by simpa using hl,fun i x v hx hv=>h i x v hx (by simpa using hv)⟩ hp
   exact⟨v,by simp[execOp,cJ,Instr.field,run_underlying hu,HJ,asAgg,h2],h3⟩
theorem aq5{t:TypeId}{f off k:Nat}{ft:TypeId}(hf:dQ P t f=some (off,k,ft))(rS:k≠0)(b p:Nat)(w:World):
  (Instr.fieldAt t (.pointer (some ⟨b,p,none⟩)) f).run P w= .ok (.pointer (some ⟨b,p+off,none⟩)) w:=by
 obtain⟨fs,fd,hu,HJ,ho,hk,xX⟩:=aq4 hf;subst xX;subst ho;simp[Instr.fieldAt,run_underlying hu,HJ,Instr.sureAddr,fieldPlace,run_sizeOf hk,rS,Addr.add_lit]
theorem bL4{t:TypeId}{x:Operand}{f off k:Nat}{ft:TypeId}{id i o:Nat}(hx:g x=some (.ptr id i o))(hf:dQ P t f=some (off,k,ft))(rS:k≠0):
  eM P g G aF ⟨dst,.fieldAddr t x f,ty,pos,after,guard⟩ (.ptr id i (o+off)) G:=
 .still fun E W ρ hG aZ=>by
   have h1:=aZ x _ hx;generalize cJ:ρ x=vx at h1;cases h1 with
   |ptr _ _ _ aB=>
   refine⟨_,by simp only[execOp,cJ];rw[Sem.run_bind,aq5 hf rS];rfl,?_⟩
   rw[s9];exact .ptr id i (o+off) aB
theorem bL5{t:TypeId}{x:Operand}{f off k:Nat}{ft:TypeId}{rows:List (List AV)}{i o:Nat}(hx:g x=some (.dD rows i o))(hf:dQ P t f=some (off,k,ft))(rS:k≠0):
  eM P g G aF ⟨dst,.fieldAddr t x f,ty,pos,after,guard⟩ (.dD rows i (o+off)) G:=
 .still fun E W ρ hG aZ=>by
   have h1:=aZ x _ hx;generalize cJ:ρ x=vx at h1;cases h1 with
   |dD _ _ _ b p s vs hs hL hc hr=>
   refine⟨_,by simp only[execOp,cJ];rw[Sem.run_bind,aq5 hf rS];rfl,?_⟩
   have:=RV.dD (E:=E) (W:=W) rows i (o+off) b p s vs hs hL hc hr;rw[<-s9,<-s9]at this;rw[<-s9];exact this
theorem bL6{t:TypeId}{x:Operand}{p:AV}{row:List AV}{o:Nat}{rd:List Nat}{a:AV}(hx:g x=some p)(hd:deref G p=some (row,o,rd))(hp:tT P t row o=some a):
  eM P g G aF ⟨dst,.load t x,ty,pos,after,guard⟩ a G:=
 .still fun E W ρ hG aZ=>by
   have h1:=aZ x _ hx;obtain⟨b,q,hv,vs,h2,h3⟩:=ap6 hG h1 hd;unfold tT at hp;split at hp
   ·rename_i k ha hk
    split at hp
    ·rename_i hle
     injection hp with hp
     subst hp;have hl:=h2.1;refine⟨.agg ((vs.drop o).take k).toArray,?_,.agg _ _ (by simp;omega) fun i x v hx hv=>((h2.drop o).take k).2 i x v hx (by simpa using hv)⟩
     simp only[execOp,hv,Instr.loadAt,Instr.sureAddr]
     have hr:=aq1 ha hk W b (q+o) ((vs.drop o).take k) (by simp;omega) (fun j u hu=>by
      rw[gU]at hu;split at hu
      ·rw[mF]at hu
       have:=h3 _ u hu;rw[s9];exact this
      ·cases hu)
     simp[hr]
    ·cases hp
   ·rename_i k ha hk
    obtain⟨v,h4,h5⟩:=h2.get hp;refine⟨v,?_,h5⟩;simp only[execOp,hv,Instr.loadAt,Instr.sureAddr];have hr:=aq2 (P:=P) ha W ⟨b,q+o,none⟩ v (h3 o v h4);simp[hr]
   ·cases hp
theorem bL7{t:TypeId}{x y:Operand}{id i o k:Nat}{e:TypeId}{s:Nat}{rows:List (List AV)}{ap:Bool}{row:List AV}{a:AV}(hx:g x=some (.ptr id i o))(hg:G id=some (.cells e s rows true ap))
  (bH:rows[i]? =some row) (hy:g y=some a) (hk:dX P t=some k) (hl:a.cells.length=k) (hle:o+k<=row.length) (h1:a.cells.all AV.one=true):
  eM P g G aF ⟨dst,.store t x y,ty,pos,after,guard⟩ (.c undef) (aX G [(id,some (.cells e s (rows.set i (x8 row o a.cells)) true ap))]):=fun E W ρ hG hn aZ=>by
 have gQ:=aZ x _ hx;have nJ:=aZ y _ hy;generalize cJ:ρ x=vx at gQ;have uM:=nJ.Od;obtain⟨dN,eG,hv,CC⟩:=hG.write hg bH uM (o:=o) (by omega) (uM.ap5 h1) (P:=P)
 have dP:E.sz id=s:=(hG.ok id _ hg).2.1;cases gQ with
 |ptr _ _ _ aB=>
 rw[<-dP]at eG;refine⟨_,undef,E,.inr ⟨?_,rfl⟩,hv,CC,.c _ rfl,fun _ h=> .inl h⟩
 have hr:=bK3 (P:=P) hk W _ ⟨E.ι id,i*E.sz id+o,none⟩ (ρ y) (by have:=uM.1;simp at this;omega) eG
 simp only[execOp,cJ,Instr.storeAt,Instr.sureAddr];simp[hr]
end
end Go.AL
namespace Go.AL
open Go.RowKit
theorem aq6{E:Env}{W:World}{xs:List AV}{cur:Array Value}(h:bX E W xs cur.toList):
  (∀(i:Nat) row,[xs][i]? =some row->row.length=xs.length)/\[xs].length*xs.length<=cur.size/\
  (∀(i j:Nat) row x,[xs][i]? =some row->row[j]? =some x->∃v,cur[i*xs.length+j]? =some v/\RV E W x v):=by
 refine⟨fun i row hr=> ?_,?_,fun i j row x hr hx=> ?_⟩
 ·cases i with
  |zero=>simp at hr;subst hr;rfl
  |succ i=>simp at hr
 ·have:=h.1;simp at this⊢;omega
 ·cases i with
  |zero=>
   simp at hr;subst hr;obtain⟨v,h1,h2⟩:=h.get hx;exact⟨v,by simpa using h1,h2⟩
  |succ i=>simp at hr
def chunk(s:Nat):Nat->List AV->List (List AV)
 |0,_=> []
 |n+1,l=>l.take s::chunk s n (l.drop s)
theorem aq7(s n:Nat)(l:List AV):(chunk s n l).length=n:=by
 induction n generalizing l with
 |zero=>rfl
 |succ n ih=>simp[chunk,ih]
theorem Of(s:Nat):∀(n:Nat) (l:List AV) (i:Nat),i<n->(chunk s n l)[i]? =some ((l.drop (i*s)).take s)
 |0,l,i,h=>by omega
 |n+1,l,0,h=>by simp[chunk]
 |n+1,l,i+1,h=>by
  simp only[chunk,vE];rw[Of s n _ i (by omega),O7,vG,Nat.add_comm s]
theorem bL8{E:Env}{W:World}{xs:List AV}{cur:Array Value}(h:bX E W xs cur.toList){s n:Nat}(hl:xs.length=n*s):
  (∀(i:Nat) row,(chunk s n xs)[i]? =some row->row.length=s)/\(chunk s n xs).length*s<=cur.size/\
  (∀(i j:Nat) row x,(chunk s n xs)[i]? =some row->row[j]? =some x->∃v,cur[i*s+j]? =some v/\RV E W x v):=by
 have bG:∀(i:Nat) row,(chunk s n xs)[i]? =some row->i<n:=fun i row hr=>by
  have:=(dV.1 hr).1;rwa[aq7]at this
 refine⟨fun i row hr=> ?_,?_,fun i j row x hr hx=> ?_⟩
 ·have hi:=bG i row hr
  rw[Of s n xs i hi]at hr;injection hr with hr
  subst hr;have:(i+1)*s<=n*s:=nN s hi;rw[vG]at this;simp;omega
 ·have:=h.1;rw[aq7];simp at this;omega
 ·have hi:=bG i row hr
  rw[Of s n xs i hi]at hr;injection hr with hr
  subst hr;rw[gU]at hx;split at hx
  ·rw[mF]at hx
   obtain⟨v,h1,h2⟩:=h.get hx;exact⟨v,by simpa using h1,h2⟩
  ·cases hx
def HK(place:Nat->Option (Nat×Nat))(cells:List AV):List (Nat×AV)->Option (List AV)
 |[]=>some cells
 |(i,v)::rest=>
  match place i with
  |none=>none
  |some (off,size)=>if v.cells.length=size/\off+size<=cells.length then HK place (x8 cells off v.cells) rest else none
theorem aq8(off:Nat):∀(vs:List Value) (k:Nat) (cs:Array Value),off+k+vs.length<=cs.size->
  ((vs.zipIdx k).foldl (fun(cs:Array Value) (x:Value×Nat)=>cs.setIfInBounds (off+x.2) x.1) cs).toList=cs.toList.take (off+k)++vs++cs.toList.drop (off+k+vs.length)
 |[],k,cs,h=>by simp
 |v::vs,k,cs,h=>by
  simp only[List.zipIdx_cons,CL];rw[aq8 off vs (k+1) _ (by simp at h⊢;omega)]
  have e:=list_seg_step cs.toList (off+k) v vs (by simp at h⊢;omega)
  simpa[Array.toList_setIfInBounds,s9]using e
theorem Og{E:Env}{W:World}{place:Nat->Option (Nat×Nat)}:∀(ps:List (Nat×AV)) (qs:List (Nat×Value)) (xs ys:List AV) (cs:Array Value),
  ps.length=qs.length->(∀(i:Nat) p q,ps[i]? =some p->qs[i]? =some q->p.1=q.1/\RV E W p.2 q.2)->bX E W xs cs.toList->HK place xs ps=some ys->
  ∃ds,Instr.fill place cs qs=some ds/\bX E W ys ds.toList/\ys.length=xs.length
 |[],[],xs,ys,cs,_,_,hx,hf=>by simp only[HK,bC]at hf;subst hf;exact⟨cs,rfl,hx,rfl⟩
 |[],_::_,_,_,_,hl,_,_,_=>by simp at hl
 |_::_,[],_,_,_,hl,_,_,_=>by simp at hl
 |(i,a)::ps,(k,v)::qs,xs,ys,cs,hl,h,hx,hf=>by
  obtain⟨iH,hav⟩:=h 0 _ _ rfl rfl;simp only at iH hav;subst iH;unfold HK at hf;unfold Instr.fill;cases hp:place i with
  |none=>simp[hp]at hf
  |some q=>
   obtain⟨off,size⟩:=q;simp only[hp]at hf⊢;split at hf
   ·rename_i hc
    have uM:=hav.Od;have Kv:v.cells.size=size:=by have:=uM.1;simp at this;omega
    have pK:=hx.1;simp at pK;have eY:¬(v.cells.size≠size\/off+v.cells.size>cs.size):=by omega
    have ar0:(v.cells.size !=size||decide (off+v.cells.size>cs.size))=false:=by simp;omega
    simp only[bne_iff_ne,ne_eq,KA,decide_eq_true_eq]at ar0⊢;rw[if_neg (by simp;omega)]
    have bL9:=aq8 off v.cells.toList 0 cs (by simp;omega)
    have heq:(v.cells.zipIdx.foldl (fun(cs:Array Value) (x:Value×Nat)=>cs.setIfInBounds (off+x.2) x.1) cs).toList=cs.toList.take off++v.cells.toList++cs.toList.drop (off+v.cells.size):=by
     rw[<-Array.foldl_toList,Array.toList_zipIdx];simpa using bL9
    have nP:bX E W (x8 xs off a.cells) (v.cells.zipIdx.foldl (fun(cs:Array Value) (x:Value×Nat)=>cs.setIfInBounds (off+x.2) x.1) cs).toList:=by
     rw[heq];have h1:=uM.1;simp at h1;unfold x8;rw[h1];exact((hx.take off).append uM).append (hx.drop _)
    obtain⟨ds,h1,h2,h3⟩:=Og ps qs _ ys _ (by simpa using hl) (fun i p q hp hq=>h (i+1) p q (by simpa using hp) (by simpa using hq)) nP hf
    exact⟨ds,h1,h2,by rw[h3,ap7 (by omega)]⟩
   ·cases hf
def CD(g:Operand->Option AV):List (Nat×Operand)->Option (List (Nat×AV))
 |[]=>some []
 |(i,x)::r=>match g x,CD g r with
  |some a,some l=>some ((i,a)::l)
  |_,_=>none
theorem Oh{E:Env}{W:World}{g:Operand->Option AV}{ρ:Operand->Value}(aZ:∀x b,g x=some b->RV E W b (ρ x)):∀(ps:List (Nat×Operand)) (as:List (Nat×AV)),CD g ps=some as->
  as.length=(ps.map fun(i,x)=>(i,ρ x)).length/\∀(i:Nat) p q,as[i]? =some p->(ps.map fun(i,x)=>(i,ρ x))[i]? =some q->p.1=q.1/\RV E W p.2 q.2
 |[],as,h=>by simp only[CD,bC]at h;subst h;exact⟨rfl,fun i p q h=>by simp at h⟩
 |(i,x)::r,as,h=>by
  simp only[CD]at h;split at h
  ·rename_i a l ha hl
   injection h with h
   subst h;obtain⟨h1,h2⟩:=Oh aZ r l hl;refine⟨by simpa using h1,fun k p q hp hq=> ?_⟩
   cases k with
   |zero=>simp at hp hq;subst hp;subst hq;exact⟨rfl,aZ x a ha⟩
   |succ k=>exact h2 k p q (by simpa using hp) (by simpa using hq)
  ·cases h
def eT(P:Program)(t:TypeId):Nat->Option (Nat×Nat):=
 match P.underlying t with
 |some (.struct fs)=>fun i=>(fs[i]?).bind fun f=>(dX P f.type).map fun k=>(f.offset,k)
 |some (.array _ e)=>match dX P e with
  |some k=>fun i=>some (i*k,k)
  |none=>fun _=>none
 |_=>fun _=>none
def nF(P:Program)(t:TypeId):Bool:=
 match P.underlying t with
 |some (.struct fs)=>fs.toList.all fun f=>(dX P f.type).isSome
 |some (.array _ e)=>(dX P e).isSome
 |_=>false
theorem JK{P:Program}{t:TypeId}{zs:List AV}(h:fT P t=some zs):∃i z,P.info? t=some i/\i.zero=some z/\(∀E W,bX E W zs z.cells.toList):=by
 unfold fT at h;cases hi:P.info? t with
 |none=>simp[hi]at h
 |some i=>
  cases hz:i.zero with
  |none=>simp[hi,hz]at h
  |some z=>
   simp only[hi,Z1,hz]at h;split at h
   ·rename_i eR
    injection h with h
    subst h;exact⟨i,z,rfl,hz,fun E W=>bX.bI9 eR⟩
   ·cases h
theorem ar1{P:Program}(w:World):∀(fs:List Field),(fs.all fun f=>(dX P f.type).isSome)=true->
  (fs.mapM (fun f=>do pure (f.offset,<-sizeOf f.type):Field->Sem (Nat×Nat))).run P w= .ok (fs.map fun f=>(f.offset,(dX P f.type).getD 0)) w
 |[],_=>rfl
 |f::fs,h=>by
  simp only[I4,k6]at h;obtain⟨k,hk⟩:=Gh.1 h.1;have ih:=ar1 w fs h.2;simp only[List.mapM_cons,Sem.run_bind,run_sizeOf hk,Result.andThen_ok,Sem.run_pure,ih,gJ,hk,vZ]
theorem bM0{P:Program}{t:TypeId}{i:TypeInfo}{z:Value}(hi:P.info? t=some i)(hz:i.zero=some z)(hb:nF P t=true)(qs:Array (Nat×Value))(ds:Array Value)
  (hf:Instr.fill (eT P t) z.cells qs.toList=some ds) (w:World):(Instr.build t qs).run P w= .ok (.agg ds) w:=by
 unfold nF at hb;have MJ:(zeroValue t).run P w= .ok z w:=by simp[zeroValue,run_typeInfo hi,hz]
 split at hb
 ·rename_i fs hu
  have hm:=ar1 (P:=P) w fs.toList hb
  have sU:(fs.mapM (fun f=>do pure (f.offset,<-sizeOf f.type):Field->Sem (Nat×Nat))).run P w= .ok (fs.toList.map fun f=>(f.offset,(dX P f.type).getD 0)).toArray w:=by
   rw[cq1,Sem.run_map,hm];rfl
  have hp:eT P t=fun i=>(fs.toList.map fun f=>(f.offset,(dX P f.type).getD 0)).toArray[i]? :=by
   funext k
   simp only[eT,hu,wE,gE,vD];cases hk:fs[k]? with
   |none=>rfl
   |some f=>
    have:=gK.1 hb f (by rw[I8];exact I9 hk)
    obtain⟨s,hs⟩:=Gh.1 this;simp[hs]
  rw[hp]at hf;unfold Instr.build;simp only[Sem.run_bind,MJ,Result.andThen_ok,run_underlying hu,sU,hf,Sem.run_pure]
 ·rename_i n e hu
  obtain⟨s,hs⟩:=Gh.1 hb
  have hp:eT P t=fun i=>some (i*s,s):=by
   funext k
   simp only[eT,hu,hs]
  rw[hp]at hf;unfold Instr.build;simp only[Sem.run_bind,MJ,Result.andThen_ok,run_underlying hu,run_sizeOf hs,hf,Sem.run_pure]
 ·cases hb
section
variable {P : Program} {g : Operand -> Option AV} {G : Nat -> Option aI} {aF : Nat} {dst : Option Tmp} {ty : TypeId} {pos : String} {after : Array Edge} {guard : Option (Nat × Bool)}
theorem bM1{t:TypeId}{zs:List AV}(hz:fT P t=some zs):
  eM P g G aF ⟨dst,.alloc t,ty,pos,after,guard⟩ (.ptr aF 0 0) (aX G [(aF,some (.cells t zs.length [zs] true false))]):=fun E W ρ hG hn aZ=>by
 obtain⟨i,z,hi,vA,hr⟩:=JK hz;obtain⟨h1,h2,h3⟩:=aq6 (hr E W);refine⟨_,.pointer (some ⟨W.heap.size,0,none⟩),_,.inl ?_,bE.alloc hG hn (.cells z.cells t) zs.length,hG.alloc hn t z.cells zs.length [zs] true false h1 h2 h3,?_,fun id h=>h.imp (fun h=>h) (fun e=>⟨e,by simp[aX]⟩)⟩
 ·simp[execOp,Instr.alloc,zeroValue,run_typeInfo hi,vA,newVar,newRow]
 ·have:=RV.ptr (E:=E.more aF W.heap.size zs.length) (W:=W.alloc (.cells z.cells t)) aF 0 0 (.inr rfl)
  simpa[Env.more]using this
theorem bM2{t:TypeId}{x:Operand}{a:AV}(hx:g x=some a):
  eM P g G aF ⟨dst,.box t x,ty,pos,after,guard⟩ (.ptr aF 0 0) (aX G [(aF,some (.cells t a.cells.length [a.cells] true false))]):=fun E W ρ hG hn aZ=>by
 obtain⟨h1,h2,h3⟩:=aq6 (aZ x a hx).Od;refine⟨_,.pointer (some ⟨W.heap.size,0,none⟩),_,.inl ?_,bE.alloc hG hn (.cells (ρ x).cells t) a.cells.length,hG.alloc hn t (ρ x).cells a.cells.length [a.cells] true false h1 h2 h3,?_,fun id h=>h.imp (fun h=>h) (fun e=>⟨e,by simp[aX]⟩)⟩
 ·simp[execOp,Instr.box,newVar,newRow]
 ·have:=RV.ptr (E:=E.more aF W.heap.size a.cells.length) (W:=W.alloc (.cells (ρ x).cells t)) aF 0 0 (.inr rfl)
  simpa[Env.more]using this
theorem bM3{t:TypeId}{parts:Array (Nat×Operand)}{zs:List AV}{ps:List (Nat×AV)}{ys:List AV}(hz:fT P t=some zs)(hb:nF P t=true)(hp:CD g parts.toList=some ps)
  (hf:HK (eT P t) zs ps=some ys):eM P g G aF ⟨dst,.build t parts,ty,pos,after,guard⟩ (.agg ys) G:=
 .still fun E W ρ hG aZ=>by
   obtain⟨i,z,hi,vA,hr⟩:=JK hz;obtain⟨h1,h2⟩:=Oh aZ parts.toList ps hp;obtain⟨ds,h3,h4,_⟩:=Og ps _ zs ys z.cells h1 h2 (hr E W) hf;refine⟨.agg ds,?_,.agg _ _ (by simpa using h4.1) fun i x v hx hv=>h4.2 i x v hx (by simpa using hv)⟩
   simp only[execOp];rw[Sem.run_bind,bM0 hi vA hb _ ds (by simpa using h3) W]
   rfl
theorem x9{t e:TypeId}{k:Nat}(h:fG P t=some (e,k)):P.underlying t=some (.slice e)/\dX P e=some k:=by
 unfold fG at h;split at h
 ·rename_i e' hu
  cases hk:dX P e' with
  |none=>simp[hk]at h
  |some k'=>simp[hk]at h;obtain⟨rfl,rfl⟩:=h;exact⟨hu,hk⟩
 ·cases h
theorem X4{t e:TypeId}{n k:Nat}(h:sO P t=some (n,e,k)):P.underlying t=some (.array n e)/\dX P e=some k:=by
 unfold sO at h;split at h
 ·rename_i n' e' hu
  cases hk:dX P e' with
  |none=>simp[hk]at h
  |some k'=>simp[hk]at h;obtain⟨rfl,rfl,rfl⟩:=h;exact⟨hu,hk⟩
 ·cases h
theorem bM4{zs:List AV}{vs:Array Value}{E:Env}{W:World}(h:bX E W zs vs.toList)(len:Nat):
  bX E W (List.replicate len zs).flatten ((Array.range (len*vs.size)).map (fun i=>vs[i % vs.size]!)).toList:=by
 have hl:=h.1;simp at hl
 have key:∀len,((Array.range (len*vs.size)).map (fun i=>vs[i % vs.size]!)).toList=(List.replicate len vs.toList).flatten:=by
  intro len;apply BE;intro i
  have oI:∀len,(List.replicate len vs.toList).flatten.length=len*vs.size:=by
   intro len;simp
  by_cases hi:i<len*vs.size
  ·have hs:0<vs.size:=by rcases Tx vs.size with h0|h0<;>simp_all
   have:∀(len i:Nat),i<len*vs.size->(List.replicate len vs.toList).flatten[i]? =vs[i % vs.size]? :=by
    intro len
    induction len with
    |zero=>intro i hi;simp at hi
    |succ len ih=>
     intro i hi;rw[vG]at hi;simp only[I6,Z2];by_cases bG:i<vs.size
     ·rw[kG (by simpa using bG),wC bG];simp
     ·rw[k7 (by simpa using aG7 bG),ih _ (by simp;omega),<-aG5 (aG7 bG)|>.symm]
      simp[aG5 (aG7 bG)]
   rw[this len i hi];have hm:=zO i hs;simp[hi,hm]
  ·rw[zL (by simp;omega),zL (by rw[oI];omega)]
 rw[key]
 induction len with
 |zero=>exact .nil
 |succ len ih=>simp only[I6,Z2];exact h.append ih
theorem bM5{t e:TypeId}{k len:Nat}{parts:Array (Nat×Operand)}{zs:List AV}{ps:List (Nat×AV)}{ys:List AV}(ht:fG P t=some (e,k))(hz:fT P e=some zs)(CE:zs.length=k)
  (cI3:len*k<=16777216) (hp:CD g parts.toList=some ps) (hf:HK (fun i=>some (i*k,k)) (List.replicate len zs).flatten ps=some ys):
  eM P g G aF ⟨dst,.buildSlice t len parts,ty,pos,after,guard⟩ (.own aF 0 len) (aX G [(aF,some (.cells e k (chunk k len ys) true true))]):=fun E W ρ hG hn aZ=>by
 obtain⟨hu,hk⟩:=x9 ht;obtain⟨i,z,hi,vA,hr⟩:=JK hz;obtain⟨h1,h2⟩:=Oh aZ parts.toList ps hp;have VJ:z.cells.size=k:=by have:=(hr E W).1;simp at this;omega
 have ar2:=bM4 (hr E W) len;rw[VJ]at ar2;obtain⟨ds,h3,h4,h5⟩:=Og ps _ _ ys _ h1 h2 ar2 hf;have Oi:ys.length=len*k:=by rw[h5];simp[CE]
 obtain⟨h6,h7,h8⟩:=bL8 h4 Oi;have hds:ds.size=len*k:=by have:=h4.1;simp at this;omega
 refine⟨_,.slice (some ⟨W.heap.size,0,none⟩) len len,_,.inl ?_,bE.alloc hG hn (.cells ds e) k,hG.alloc hn e ds k _ true true h6 h7 h8,?_,fun id h=>h.imp (fun h=>h) (fun e=>⟨e,by simp[aX]⟩)⟩
 ·have Ic:¬(len*k>2 ^ 24):=by omega
  simp only[execOp,Instr.buildSlice,Sem.run_bind,run_underlying hu,run_sizeOf hk,Result.andThen_ok,Ic,if_false,Sem.run_ite]
  have Dr:∀c:Array Value,(Array.range (len*k)).map (fun i=>c[i % c.size]!)=(Array.range (len*k)).map (fun i=>z.cells[i % k]!)->Instr.fill (fun i=>some (i*k,k)) ((Array.range (len*k)).map (fun i=>c[i % c.size]!)) (parts.map fun(i,x)=>(i,ρ x)).toList=some ds:=by
   intro c hc;rw[hc];simpa using h3
  by_cases h0:len*k=0
  ·simp only[h0,if_true,Sem.run_pure,Result.andThen_ok]
   have:=Dr #[] (by rw[h0];simp)
   rw[h0]at this;simp only[Ud]at this;simp only[Ud,this,newRow,Sem.run_bind,run_newObj_alloc,Result.andThen_ok,Sem.run_pure,Sem.run_map]
  ·simp only[h0,if_false,zeroValue,Sem.run_bind,run_typeInfo hi,Result.andThen_ok,vA,Sem.run_pure]
   have:=Dr z.cells (by rw[VJ])
   simp only[Ud]at this;simp only[Ud,this,newRow,Sem.run_bind,run_newObj_alloc,Result.andThen_ok,Sem.run_pure,Sem.run_map]
 ·have:=RV.own (E:=E.more aF W.heap.size k) (W:=W.alloc (.cells ds e)) aF 0 len len (.inr rfl) (cE _) ⟨ds,e,(0,0),by simp only[Env.more,if_true];exact heap_alloc_new W _,by simp[Env.more];omega⟩
  simpa[Env.more]using this
end
end Go.AL
namespace Go.AL
open Go.RowKit
section
variable {P : Program} {g : Operand -> Option AV} {G : Nat -> Option aI} {aF : Nat} {dst : Option Tmp} {ty : TypeId} {pos : String} {after : Array Edge} {guard : Option (Nat × Bool)}
theorem ar3{t e:TypeId}{k:Nat}(ht:fG P t=some (e,k))(b p len cap:Nat)(ik:IntKind)(i:Int)(h0:0<=i)(h1:i<len)(w:World):
  (Instr.indexAt t (.slice (some ⟨b,p,none⟩) len cap) (.int ik i)).run P w= .ok (.pointer (some ⟨b,p+i.toNat*k,none⟩)) w:=by
 obtain⟨hu,hk⟩:=x9 ht;simp[Instr.indexAt,run_underlying hu,asIntOf,h0,h1,run_sizeOf hk,Addr.add_lit]
theorem ar4{t e:TypeId}{n k:Nat}(ht:sO P t=some (n,e,k))(b p:Nat)(ik:IntKind)(i:Int)(h0:0<=i)(h1:i<n)(w:World):
  (Instr.indexAt t (.pointer (some ⟨b,p,none⟩)) (.int ik i)).run P w= .ok (.pointer (some ⟨b,p+i.toNat*k,none⟩)) w:=by
 obtain⟨hu,hk⟩:=X4 ht;simp[Instr.indexAt,run_underlying hu,asIntOf,h0,h1,run_sizeOf hk,Addr.add_lit,Instr.sureAddr]
theorem bM6{t e:TypeId}{k:Nat}{x y:Operand}{id off len:Nat}{ik:IntKind}{i:Int}{e':TypeId}{rows:List (List AV)}{w ap:Bool}(ht:fG P t=some (e,k))(hx:g x=some (.own id off len))(hy:g y=some (.c (.int ik i)))
  (hg:G id=some (.cells e' k rows w ap)) (h0:0<=i) (h1:i<len):
  eM P g G aF ⟨dst,.indexAddr t x y,ty,pos,after,guard⟩ (.ptr id (off+i.toNat) 0) G:=
 .still fun E W ρ hG aZ=>by
   have h2:=aZ x _ hx;have h3:=aZ y _ hy;generalize cJ:ρ x=vx at h2;generalize lE:ρ y=vy at h3;cases h3;have dP:E.sz id=k:=(hG.ok id _ hg).2.1;cases h2 with
   |own _ _ _ cap aB eC hs=>
    refine⟨_,by simp only[execOp,cJ,lE];rw[Sem.run_bind,ar3 ht _ _ _ _ _ _ h0 h1];rfl,?_⟩
    have:=RV.ptr (E:=E) (W:=W) id (off+i.toNat) 0 aB;rw[dP,oW,zN]at this;rw[dP];exact this
   |mW _ _ a aB=>omega
theorem bM7{t e:TypeId}{k:Nat}{x y:Operand}{rows:List (List AV)}{ik:IntKind}{i:Int}{row:List AV}(ht:fG P t=some (e,k))(hx:g x=some (.snap rows))(hy:g y=some (.c (.int ik i)))
  (h0:0<=i) (hr:rows[i.toNat]? =some row) (hk:row.length=k):
  eM P g G aF ⟨dst,.indexAddr t x y,ty,pos,after,guard⟩ (.dD rows i.toNat 0) G:=
 .still fun E W ρ hG aZ=>by
   have h2:=aZ x _ hx;have h3:=aZ y _ hy;generalize cJ:ρ x=vx at h2;generalize lE:ρ y=vy at h3;cases h3;have bG:i.toNat<rows.length:=(dV.1 hr).1;cases h2 with
   |snap _ b off s n cap vs hn qK hs hL hc Oj=>
    have pQ:s=k:=by rw[<-hk];exact(hs _ _ hr).symm
    subst pQ;refine⟨_,by simp only[execOp,cJ,lE];rw[Sem.run_bind,ar3 ht _ _ _ _ _ _ h0 (by omega)];rfl,?_⟩
    have:=RV.dD (E:=E) (W:=W) rows i.toNat 0 b off s vs hs hL hc Oj;rw[zN]at this;exact this
   |lV a cap=>simp at bG
theorem bM8{t e:TypeId}{n k:Nat}{x y:Operand}{id r o:Nat}{ik:IntKind}{i:Int}(ht:sO P t=some (n,e,k))(hx:g x=some (.ptr id r o))(hy:g y=some (.c (.int ik i)))(h0:0<=i)(h1:i<n):
  eM P g G aF ⟨dst,.indexAddr t x y,ty,pos,after,guard⟩ (.ptr id r (o+i.toNat*k)) G:=
 .still fun E W ρ hG aZ=>by
   have h2:=aZ x _ hx;have h3:=aZ y _ hy;generalize cJ:ρ x=vx at h2;generalize lE:ρ y=vy at h3;cases h3;cases h2 with
   |ptr _ _ _ aB=>
   refine⟨_,by simp only[execOp,cJ,lE];rw[Sem.run_bind,ar4 ht _ _ _ _ h0 h1];rfl,?_⟩
   rw[s9];exact .ptr id r _ aB
theorem bM9{t e:TypeId}{n k:Nat}{x y:Operand}{rows:List (List AV)}{r o:Nat}{ik:IntKind}{i:Int}(ht:sO P t=some (n,e,k))(hx:g x=some (.dD rows r o))(hy:g y=some (.c (.int ik i)))(h0:0<=i)(h1:i<n):
  eM P g G aF ⟨dst,.indexAddr t x y,ty,pos,after,guard⟩ (.dD rows r (o+i.toNat*k)) G:=
 .still fun E W ρ hG aZ=>by
   have h2:=aZ x _ hx;have h3:=aZ y _ hy;generalize cJ:ρ x=vx at h2;generalize lE:ρ y=vy at h3;cases h3;cases h2 with
   |dD _ _ _ b p s vs hs hL hc hr=>
   refine⟨_,by simp only[execOp,cJ,lE];rw[Sem.run_bind,ar4 ht _ _ _ _ h0 h1];rfl,?_⟩
   have:=RV.dD (E:=E) (W:=W) rows r (o+i.toNat*k) b p s vs hs hL hc hr;rw[<-s9,<-s9]at this;rw[<-s9];exact this
theorem bN0{t e:TypeId}{n k:Nat}{x y:Operand}{xs:List AV}{ik:IntKind}{i:Int}{a:AV}(ht:sO P t=some (n,e,k))(hx:g x=some (.agg xs))(hy:g y=some (.c (.int ik i)))(h0:0<=i)(h1:i<n)
  (hp:tT P e xs (i.toNat*k)=some a):eM P g G aF ⟨dst,.index t x y,ty,pos,after,guard⟩ a G:=
 .still fun E W ρ hG aZ=>by
   have h2:=aZ x _ hx;have h3:=aZ y _ hy;generalize cJ:ρ x=vx at h2;generalize lE:ρ y=vy at h3;cases h3;cases h2 with
   |agg _ vs hl h=>
   obtain⟨hu,hk⟩:=X4 ht;obtain⟨v,h4,h5⟩:=QP (P:=P) (E:=E) (W:=W) (vs:=vs) ⟨by simpa using hl,fun i x v hx hv=>h i x v hx (by simpa using hv)⟩ hp
   exact⟨v,by simp[execOp,cJ,lE,Instr.index,run_underlying hu,asIntOf,h0,h1,run_sizeOf hk,h4],h5⟩
theorem bN1{t:TypeId}{x y:Operand}{s:ByteArray}{ik:IntKind}{i:Int}{b:UInt8}(ht:oX P t isString=true)(hx:g x=some (.c (.string s)))(hy:g y=some (.c (.int ik i)))(h0:0<=i)(hb:s[i.toNat]? =some b):
  eM P g G aF ⟨dst,.index t x y,ty,pos,after,guard⟩ (.c (.int .u8 b.toNat)) G:=
 .still fun E W ρ hG aZ=>by
   have h2:=aZ x _ hx;have h3:=aZ y _ hy;generalize cJ:ρ x=vx at h2;generalize lE:ρ y=vy at h3;cases h3;cases h2
   have hu:P.underlying t=some .string:=by
    unfold oX at ht;cases hu:P.underlying t with
    |none=>simp[hu]at ht
    |some d=>simp[hu]at ht;cases d<;>simp_all [isString]
   exact⟨_,by simp[execOp,cJ,lE,Instr.index,run_underlying hu,asIntOf,h0,hb],.c _ rfl⟩
theorem bN2{t e:TypeId}{k:Nat}(ht:fG P t=some (e,k))(ty:TypeId)(base:Option Addr)(n c:Nat)(w:World):(Builtin.len_ #[t] ty #[.slice base n c]).run P w= .ok (.int .i64 n) w:=by
 simp[Builtin.len_,run_underlying (x9 ht).1,goInt]
theorem AR{ρ:Operand->Value}(b:Builtin)(as:Array Operand)(ts:Array TypeId):execOp ρ ⟨dst,.call ⟨.builtin b,as,ts⟩,ty,pos,after,guard⟩=builtin b ts ty (as.map fun| .const _=>true|_=>false) (as.map ρ):=rfl
def X5:AV->Option Nat
 | .c (.slice _ 0 _)=>some 0
 | .snap rows=>some rows.length
 | .own _ _ len=>some len
 | .sub _ _ _ len=>some len
 |_=>none
theorem bN3{E:Env}{W:World}{a:AV}{v:Value}(r:RV E W a v){n:Nat}(h:X5 a=some n):∃base cap,v= .slice base n cap/\n<=cap:=by
 unfold X5 at h;split at h<;>simp only[bC,reduceCtorEq]at h
 ·subst h;cases r;exact⟨_,_,rfl,iG _⟩
 ·subst h
  cases r with
  |snap _ b off s n cap vs hn qK=>subst hn;exact⟨_,cap,rfl,qK⟩
  |lV a cap=>exact⟨a,cap,rfl,iG _⟩
 ·subst h
  cases r with
  |own _ _ _ cap aB eC hs=>exact⟨_,cap,rfl,eC⟩
  |mW _ _ a aB=>exact⟨_,0,rfl,cE _⟩
 ·subst h
  cases r with
  |sub _ _ _ _ cap aB eC hs=>exact⟨_,cap,rfl,eC⟩
theorem bN4{t e:TypeId}{k n:Nat}{x:Operand}{a:AV}(ht:fG P t=some (e,k))(hx:g x=some a)(hn:X5 a=some n):
  eM P g G aF ⟨dst,.call ⟨.builtin .len,#[x],#[t]⟩,ty,pos,after,guard⟩ (.c (.int .i64 n)) G:=
 .still fun E W ρ hG aZ=>by
   obtain⟨base,cap,hv,_⟩:=bN3 (aZ x a hx) hn;refine⟨_,?_,.c _ rfl⟩;rw[AR];simp only[builtin,BF,gJ,tK,hv];rw[Sem.run_bind,bN2 ht];rfl
theorem bN5{t:TypeId}{x:Operand}{s:ByteArray}(ht:oX P t isString=true)(hx:g x=some (.c (.string s))):
  eM P g G aF ⟨dst,.call ⟨.builtin .len,#[x],#[t]⟩,ty,pos,after,guard⟩ (.c (.int .i64 s.size)) G:=
 .still fun E W ρ hG aZ=>by
   have h2:=aZ x _ hx;generalize cJ:ρ x=vx at h2;cases h2
   have hu:P.underlying t=some .string:=by
    unfold oX at ht;cases hu:P.underlying t with
    |none=>simp[hu]at ht
    |some d=>simp[hu]at ht;cases d<;>simp_all [isString]
   refine⟨_,?_,.c _ rfl⟩;rw[AR];simp only[builtin,BF,gJ,tK,cJ];simp[Builtin.len_,run_underlying hu,goInt]
theorem bN6{ts:Array TypeId}{x y:Operand}{k k':IntKind}{a b:Int}(hx:g x=some (.c (.int k a)))(hy:g y=some (.c (.int k' b))):
  eM P g G aF ⟨dst,.call ⟨.builtin .max,#[x,y],ts⟩,ty,pos,after,guard⟩ (.c (.int k (if b>a then b else a))) G:=
 .still fun E W ρ hG aZ=>by
   have h2:=aZ x _ hx;have h3:=aZ y _ hy;generalize cJ:ρ x=vx at h2;generalize lE:ρ y=vy at h3;cases h2;cases h3;refine⟨_,?_,.c _ rfl⟩;rw[AR];simp only[builtin,BF,gJ,tK,cJ,lE];rw[Sem.run_bind,run_max_int2];rfl
theorem bN7{ts:Array TypeId}{x y:Operand}{k k':IntKind}{a b:Int}(hx:g x=some (.c (.int k a)))(hy:g y=some (.c (.int k' b))):
  eM P g G aF ⟨dst,.call ⟨.builtin .min,#[x,y],ts⟩,ty,pos,after,guard⟩ (.c (.int k (if b<a then b else a))) G:=
 .still fun E W ρ hG aZ=>by
   have h2:=aZ x _ hx;have h3:=aZ y _ hy;generalize cJ:ρ x=vx at h2;generalize lE:ρ y=vy at h3;cases h2;cases h3;refine⟨_,?_,.c _ rfl⟩;rw[AR];simp only[builtin,BF,gJ,tK,cJ,lE];rw[Sem.run_bind,run_min_int2];rfl
def iW(g:Operand->Option AV)(d:Int):Option Operand->Option Int
 |none=>some d
 |some x=>match g x with
  |some (.c (.int _ n))=>some n
  |_=>none
theorem MK{E:Env}{W:World}{ρ:Operand->Value}(aZ:∀x b,g x=some b->RV E W b (ρ x)){d n:Int}{lo:Option Operand}(h:iW g d lo=some n):
  (lo=none/\n=d)\/∃k,lo.map ρ=some (.int k n):=by
 unfold iW at h;split at h
 ·injection h with h;exact .inl ⟨rfl,h.symm⟩
 ·rename_i x
  split at h
  ·rename_i k n' hx
   injection h with h
   subst h;have:=aZ x _ hx;generalize cJ:ρ x=vx at this;cases this;exact .inr ⟨k,by simp[cJ]⟩
  ·cases h
theorem X6{ρ:Operand->Value}{E:Env}{W:World}(aZ:∀x b,g x=some b->RV E W b (ρ x)){t e:TypeId}{k:Nat}(ht:fG P t=some (e,k))(base:Option Addr)(len cap:Nat){lo hi:Option Operand}{l h:Int}
  (hl:iW g 0 lo=some l) (hh:iW g len hi=some h) (h0:0<=l) (h1:l<=h) (h2:h<=cap):
  (Instr.sliceAt t (.slice base len cap) (lo.map ρ) (hi.map ρ) none).run P W= .ok (.slice (if(cap:Int)=l then base else base.map (·.add (l.toNat*k))) (h-l).toNat (cap-l.toNat)) W:=by
 obtain⟨hu,hk⟩:=x9 ht;have hb:(cap=l.toNat)↔((cap:Int)=l):=by omega
 have e1:h.toNat-l.toNat=(h-l).toNat:=by omega
 rcases MK aZ hl with⟨rfl,rfl⟩|⟨kl,qU⟩<;>rcases MK aZ hh with⟨rfl,rfl⟩|⟨kh,HL⟩
 ·simp[Instr.sliceAt,run_underlying hu,Instr.slice,Instr.sliceBounds,run_sizeOf hk]
  try (by_cases hc:cap=0<;>simp[hc])
 ·simp[Instr.sliceAt,run_underlying hu,Instr.slice,Instr.sliceBounds,run_sizeOf hk,HL,Instr.sliceBound,asIntOf,h1,h2]
  try (by_cases hc:cap=0<;>simp[hc])
 ·simp[Instr.sliceAt,run_underlying hu,Instr.slice,Instr.sliceBounds,run_sizeOf hk,qU,Instr.sliceBound,asIntOf,h0,h1]
  by_cases hc:(cap:Int)=l
  ·rw[if_pos (hb.2 hc),if_pos hc];simp;omega
  ·rw[if_neg (fun h=>hc (hb.1 h)),if_neg hc];simp;omega
 ·have h3:0<=h:=by omega
  have h4:l<=max h 0:=by omega
  simp[Instr.sliceAt,run_underlying hu,Instr.slice,Instr.sliceBounds,run_sizeOf hk,qU,HL,Instr.sliceBound,asIntOf,h0,h1,h2,h3,h4];by_cases hc:(cap:Int)=l
  ·rw[if_pos (hb.2 hc),if_pos hc];simp;omega
  ·rw[if_neg (fun h=>hc (hb.1 h)),if_neg hc];simp;omega
theorem bN8{t e:TypeId}{k:Nat}{x:Operand}{rows:List (List AV)}{lo hi:Option Operand}{l h:Int}(ht:fG P t=some (e,k))(hx:g x=some (.snap rows))(hl:iW g 0 lo=some l)(hh:iW g rows.length hi=some h)
  (h0:0<=l) (h1:l<=h) (h2:h<=rows.length) (hw:rows.all (fun r=>r.length==k)=true):
  eM P g G aF ⟨dst,.slice t x lo hi none,ty,pos,after,guard⟩ (.snap ((rows.drop l.toNat).take (h-l).toNat)) G:=
 .still fun E W ρ hG aZ=>by
   have h3:=aZ x _ hx;generalize cJ:ρ x=vx at h3;cases h3 with
   |lV a cap=>
    simp at h2;refine⟨_,by simp only[execOp,cJ,KH];rw[Sem.run_bind,X6 aZ ht a 0 cap hl (show iW g ((0:Nat):Int) hi=some h from hh) h0 h1 (by omega)];rfl,?_⟩
    have:(h-l).toNat=0:=by omega
    rw[this];simp;exact .lV _ _
   |snap _ b off s n cap vs hn qK hs hL hc hr=>
    subst hn;refine⟨_,by simp only[execOp,cJ,KH];rw[Sem.run_bind,X6 aZ ht _ rows.length cap hl hh h0 h1 (by omega)];rfl,?_⟩
    by_cases hz:h=l
    ·have:(h-l).toNat=0:=by omega
     rw[this];simp;exact .lV _ _
    ·have aJ:¬((cap:Int)=l):=by omega
     rw[if_neg aJ];have bG:l.toNat<rows.length:=by omega
     have pQ:s=k:=by
      have h4:=hs l.toNat _ (eQ bG);have h5:=gK.1 hw _ (FZ bG);simp at h5;omega
     subst pQ
     have hmul:l.toNat*s+(h-l).toNat*s<=rows.length*s:=by
      rw[<-oW];exact nN s (by omega)
     have hlen:((rows.drop l.toNat).take (h-l).toNat).length=(h-l).toNat:=by simp;omega
     have bU:∀(i:Nat) row,((rows.drop l.toNat).take (h-l).toNat)[i]? =some row->rows[l.toNat+i]? =some row:=fun i row hr=>by
      rw[gU]at hr;split at hr
      ·rwa[mF]at hr
      ·cases hr
     have:=RV.snap (E:=E) (W:=W) ((rows.drop l.toNat).take (h-l).toNat) b (off+l.toNat*s) s (h-l).toNat (cap-l.toNat) (fun i j=>vs (l.toNat+i) j) hlen.symm (by omega) (fun i row hr=>hs _ row (bU i row hr)) (by rw[hlen];omega)
      (fun i j row x h4 h5=>by rw[<-hc _ j row x (bU i row h4) h5];congr 2;rw[oW];omega) (fun i j row x h4 h5=>hr _ j row x (bU i row h4) h5)
     simpa[Addr.add_lit]using this
theorem bN9{t e:TypeId}{k:Nat}{x:Operand}{id off len:Nat}{e':TypeId}{rows:List (List AV)}{w ap:Bool}{lo hi:Option Operand}{l h:Int}(ht:fG P t=some (e,k))(hx:g x=some (.own id off len))(hg:G id=some (.cells e' k rows w ap))
  (hl:iW g 0 lo=some l) (hh:iW g len hi=some h) (h0:0<=l) (h1:l<=h) (h2:h<=len):
  eM P g G aF ⟨dst,.slice t x lo hi none,ty,pos,after,guard⟩ (.own id (off+l.toNat) (h-l).toNat) G:=
 .still fun E W ρ hG aZ=>by
   have h3:=aZ x _ hx;generalize cJ:ρ x=vx at h3;have dP:E.sz id=k:=(hG.ok id _ hg).2.1;cases h3 with
   |own _ _ _ cap aB eC hs=>
    refine⟨_,by simp only[execOp,cJ,KH];rw[Sem.run_bind,X6 aZ ht _ len cap hl hh h0 h1 (by omega)];rfl,?_⟩
    by_cases hc:(cap:Int)=l
    ·rw[if_pos hc]
     have e1:(h-l).toNat=0:=by omega
     have e2:cap-l.toNat=0:=by omega
     rw[e1,e2];exact .mW _ _ _ aB
    ·rw[if_neg hc]
     obtain⟨cur,e2,f,h4,h5⟩:=hs;have:=RV.own (E:=E) (W:=W) id (off+l.toNat) (h-l).toNat (cap-l.toNat) aB (by omega) ⟨cur,e2,f,h4,by rw[show off+l.toNat+(cap-l.toNat)=off+cap by omega];exact h5⟩
     rw[dP]at this⊢;simpa[Addr.add_lit,oW]using this
   |mW _ _ a aB=>
    refine⟨_,by simp only[execOp,cJ,KH];rw[Sem.run_bind,X6 aZ ht _ 0 0 hl (show iW g ((0:Nat):Int) hi=some h from hh) h0 h1 (by omega)];rfl,?_⟩
    have e1:(h-l).toNat=0:=by omega
    have e3:((0:Nat):Int)=l:=by omega
    rw[if_pos e3,e1,Nat.zero_sub];exact .mW _ _ _ aB
end
end Go.AL
namespace Go.AL
open Go.RowKit
def aI.le:aI->aI->Prop
 | .cells e s rows w a,.cells e' s' fH w' a'=>e=e'/\s=s'/\rows=fH/\(w=true->w'=true)/\(a=true->a'=true)
 | .map es,.map es'=>es=es'
 | .iter m n s,.iter m' n' s'=>m=m'/\n=n'/\s=s'
 | .cO a b c d e f g,.cO a' b' c' d' e' f' g'=>(∀t x,lk a t=some x->lk a' t=some x)/\b=b'/\c=c'/\d=d'/\e=e'/\f=f'/\g=g'
 |_,_=>False
theorem aI.le_refl(b:aI):b.le b:=by
 cases b with
 |map es=>exact rfl
 |iter=>exact⟨rfl,rfl,rfl⟩
 |cO=>exact⟨fun _ _ h=>h,rfl,rfl,rfl,rfl,rfl,rfl⟩
 |cells e s rows w a=>exact⟨rfl,rfl,rfl,fun h=>h,fun h=>h⟩
theorem RC.QQ{E:Env}{W:World}{G G':Nat->Option aI}(hG:RC E W G)(h:∀id b',G' id=some b'->∃b,G id=some b/\b'.le b):RC E W G' where
 lim:=hG.lim
 eL:=hG.eL
 ok:=fun id b' hb=>by
  obtain⟨b,h1,h2⟩:=h id b' hb;obtain⟨hU,dO⟩:=hG.ok id b h1;refine⟨hU,?_⟩;cases b' with
  |map es=>
   cases b with
   |cells=>exact h2.elim
   |cO=>exact h2.elim
   |iter=>exact h2.elim
   |map es0=>
   obtain rfl:es=es0:=h2;obtain⟨h3,h4,h5⟩:=dO;refine⟨h3,h4,fun aM dJ aJ hg=> ?_⟩
   obtain⟨b0,dY,_⟩:=h aM dJ hg;exact h5 aM b0 aJ dY
  |iter=>
   cases b with
   |cells=>exact h2.elim
   |cO=>exact h2.elim
   |map=>exact h2.elim
   |iter=>
   obtain⟨rfl,rfl,rfl⟩:=h2;obtain⟨h3,h4,h5⟩:=dO;refine⟨h3,h4,fun aM dJ aJ hg=> ?_⟩
   obtain⟨b0,dY,_⟩:=h aM dJ hg;exact h5 aM b0 aJ dY
  |cO=>
   cases b with
   |cells=>exact h2.elim
   |map=>exact h2.elim
   |iter=>exact h2.elim
   |cO=>
   obtain⟨hle,rfl,rfl,rfl,rfl,rfl,rfl⟩:=h2;obtain⟨⟨fn,tmps,D,Ls,h32,h33⟩,h4,h5⟩:=dO;refine⟨⟨fn,tmps,D,Ls,h32,fun t c a ha=>h33 t c a (hle _ _ ha)⟩,h4,fun aM dJ aJ hg=> ?_⟩
   obtain⟨b0,dY,_⟩:=h aM dJ hg;exact h5 aM b0 aJ dY
  |cells e s rows w a=>
  cases b with
  |map es=>exact h2.elim
  |cO=>exact h2.elim
  |iter=>exact h2.elim
  |cells e' s' fH w' a'=>
  obtain⟨rfl,rfl,rfl,hw,ha⟩:=h2;obtain⟨h3,h4,h5,h6,h7⟩:=dO;refine⟨h3,h4,h5,fun JL=> ?_,fun haa=> ?_⟩
  ·obtain⟨h8,h9⟩:=h6 (hw JL)
   refine⟨h8,fun aM dJ aJ hg=> ?_⟩
   obtain⟨b0,dY,_⟩:=h aM dJ hg;exact h9 aM b0 aJ dY
  ·obtain⟨h8,h9⟩:=h7 (ha haa)
   refine⟨h8,fun aM dJ aJ hg he=> ?_⟩
   obtain⟨b0,dY,oC⟩:=h aM dJ hg;obtain⟨uJ,yM⟩:=h9 aM b0 aJ dY he;cases dJ with
   |map es=>exact⟨iG _,rfl⟩
   |cO=>exact⟨iG _,rfl⟩
   |iter=>exact⟨iG _,rfl⟩
   |cells e1 s1 r1 w1 a1=>
   cases b0 with
   |map es=>exact oC.elim
   |cO=>exact oC.elim
   |iter=>exact oC.elim
   |cells e2 s2 r2 w2 a2=>
   obtain⟨rfl,rfl,rfl,_,MF⟩:=oC;refine⟨uJ,?_⟩;simp only[aI.app]at yM⊢;cases a1
   ·rfl
   ·simp_all
theorem bE.share{E:Env}{W:World}{id aF:Nat}(hU:E.U id)(hn:¬E.U aF)(s:Nat):bE E W (E.more aF (E.ι id) s) W where
 os:=rfl
 tape:=rfl
 output:=rfl
 size:=cE _
 used:=fun id h=> .inl h
 kT:=fun id h=>by
  have:id≠aF:=fun e=>hn (e▸h)
  simp[Env.more,this]
 lim:=fun b=>cE _
 zB:=fun b k hk=>rfl
 tZ:=fun b hb _=>rfl
 b8:=fun b cur e f h=>⟨cur,f,h,rfl⟩
 still:=fun _ _ _=>rfl
 fresh:=fun aM h1 h2=>by
  rcases h2 with h2|h2
  ·exact absurd h2 h1
  ·subst h2;right;exact⟨id,hU,by simp[Env.more]⟩
 loops:=fun b r h=>⟨r,h,rfl⟩
def CF(e:TypeId)(k:Nat)(rows:List (List AV))(w:Bool):Option aI:=if w then none else some (.cells e k rows false false)
theorem RC.share{E:Env}{W:World}{G:Nat->Option aI}(hG:RC E W G){id aF:Nat}(hn:¬E.U aF){e:TypeId}{k:Nat}{rows JM:List (List AV)}{w:Bool}(hg:G id=some (.cells e k rows w true))
  {cur dN:Array Value} (cK:W.heap[E.ι id]? =some (Obj.cells cur e (0,0))) (dP:dN.size=cur.size) (hp:∀q,q<rows.length*k->dN[q]? =cur[q]?)
  (hs:∀(i:Nat) row,JM[i]? =some row->row.length=k) (hle:rows.length<=JM.length) (Jh:JM.length*k<=cur.size)
  (hc:∀(i j:Nat) row x,JM[i]? =some row->row[j]? =some x->∃v,dN[i*k+j]? =some v/\RV E W x v):
  bE E W (E.more aF (E.ι id) k) (W.setRow (E.ι id) dN)/\RC (E.more aF (E.ι id) k) (W.setRow (E.ι id) dN) (aX G [(id,CF e k rows w),(aF,some (.cells e k JM w true))]):=by
 obtain⟨hU,kZ,hlen,⟨DY,lF,qV,eX⟩,hw,ha⟩:=hG.ok id _ hg;rw[cK]at lF;injection lF with lF
 injection lF with lF
 subst lF;obtain⟨hL,zC⟩:=ha rfl;have ar5:id≠aF:=fun h=>hn (h▸hU)
 have pN:=bE.setRow hG hU cK dP (fun q hq=>hp q (by omega))
 have hv:=pN.trans (bE.share (W:=W.setRow (E.ι id) dN) hU hn k);have hmul:rows.length*k<=JM.length*k:=nN k hle;have ML:∀aM,E.U aM->(E.more aF (E.ι id) k).ι aM=E.ι aM:=fun aM h=>(hv.kT aM h).1
 refine⟨hv,fun b hb=>hG.lim b (by simpa using hb),fun aM h=> ?_,fun aM b' hb=> ?_⟩
 ·rcases h with h|h
  ·rw[ML aM h];simpa using hG.eL aM h
  ·subst h;simp only[Env.more,if_true];simpa using hG.eL id hU
 ·have CC:∀dI dJ,aX G [(id,CF e k rows w),(aF,some (.cells e k JM w true))] dI=some dJ->
    (dI=aF/\dJ= .cells e k JM w true)\/(dI≠aF/\dI=id/\w=false/\dJ= .cells e k rows false false)\/(dI≠aF/\dI≠id/\G dI=some dJ):=by
   intro dI dJ h;simp only[aX]at h;split at h
   ·rename_i h1;injection h with h;exact .inl ⟨h1,h.symm⟩
   ·rename_i h1
    split at h
    ·rename_i h2
     unfold CF at h;split at h
     ·cases h
     ·rename_i h3;injection h with h;exact .inr (.inl ⟨h1,h2,by simpa using h3,h.symm⟩)
    ·rename_i h2;exact .inr (.inr ⟨h1,h2,h⟩)
  rcases CC aM b' hb with⟨rfl,rfl⟩|⟨h1,rfl,Vz,rfl⟩|⟨h1,h2,h3⟩
  ·refine⟨.inr rfl,by simp[Env.more],hs,⟨dN,by simp only[Env.more,if_true];exact setRow_heap W _ cur dN e (0,0) cK,by omega,fun i j row x hr hx=> ?_⟩,fun JL=>⟨?_,fun dI dJ aJ Ol=> ?_⟩,fun _=>⟨?_,fun dI dJ aJ Ol he=> ?_⟩⟩
   ·obtain⟨v,h1,h2⟩:=hc i j row x hr hx
    exact⟨v,h1,h2.mono hv⟩
   ·simp only[Env.more,if_true];exact(hw JL).1
   ·rcases CC dI dJ Ol with⟨h4,_⟩|⟨_,_,h4,_⟩|⟨h4,h5,h6⟩
    ·exact absurd h4 aJ
    ·rw[h4]at JL;cases JL
    ·rw[ML dI (hG.ok dI dJ h6).1]
     simp only[Env.more,if_true];exact(hw JL).2 dI dJ h5 h6
   ·simp only[Env.more,if_true];omega
   ·rcases CC dI dJ Ol with⟨h4,_⟩|⟨_,h4,_,h5⟩|⟨h4,h5,h6⟩
    ·exact absurd h4 aJ
    ·subst h5;exact⟨hmul,rfl⟩
    ·rw[ML dI (hG.ok dI dJ h6).1]at he
     simp only[Env.more,if_true]at he;obtain⟨h7,h8⟩:=zC dI dJ h5 h6 he;exact⟨by omega,h8⟩
  ·refine⟨.inl hU,by rw[(hv.kT _ hU).2];exact kZ,hlen,⟨dN,by rw[ML _ hU];exact setRow_heap W _ cur dN e (0,0) cK,by omega,fun i j row x hr hx=> ?_⟩,fun h=>(by cases h),fun h=>(by cases h)⟩
   obtain⟨v,h4,h5⟩:=eX i j row x hr hx;refine⟨v,?_,h5.mono hv⟩;rw[hp,h4];have hl:=hlen i row hr;exact yA (dV.1 hr).1 (by rw[<-hl];exact(dV.1 hx).1)
  ·obtain⟨h4,h5⟩:=hG.ok aM b' h3
   refine⟨.inl h4,?_⟩;by_cases cY:E.ι aM=E.ι id
   ·obtain⟨h6,h7⟩:=zC aM b' h2 h3 cY
    cases b' with
    |map es=>exact absurd cY.symm (h5.2.2 id _ (mQ h2) hg)
    |cO=>exact absurd cY.symm (h5.2.2 id _ (mQ h2) hg)
    |iter=>exact absurd cY.symm (h5.2.2 id _ (mQ h2) hg)
    |cells e2 s2 r2 w2 a2=>
    obtain⟨h8,h9,⟨HM,dY,oC,uJ⟩,yM,CW⟩:=h5;rw[cY,cK]at dY;injection dY with dY
    injection dY with dY Lp
    subst dY;subst Lp;simp only[aI.app]at h7;subst h7;simp only[aI.upto]at h6;refine⟨by rw[(hv.kT _ h4).2];exact h8,h9,⟨dN,by rw[ML _ h4,cY];exact setRow_heap W _ cur dN e (0,0) cK,by omega,fun i j row x hr hx=> ?_⟩,fun JL=>absurd cY.symm ((yM JL).2 id _ (mQ h2) hg),fun h=>(by cases h)⟩
    obtain⟨v,Lq,Lr⟩:=uJ i j row x hr hx;refine⟨v,?_,Lr.mono hv⟩;rw[hp,Lq];have hl:=h9 i row hr;have:=yA (dV.1 hr).1 (show j<s2 by rw[<-hl];exact(dV.1 hx).1)
    omega
   ·refine h5.mono hv h4 (setRow_other W _ _ dN cY) rfl fun dI dJ aJ cL he=> ?_
    rcases CC dI dJ cL with⟨rfl,_⟩|⟨_,rfl,_,_⟩|⟨h6,h7,h8⟩
    ·simp only[Env.more,if_true]at he;exact absurd he.symm cY
    ·rw[ML _ hU]at he;exact absurd he.symm cY
    ·rw[ML _ (hG.ok dI dJ h8).1]at he
     exact⟨dJ,h8,he,rfl,fun h=>h⟩
theorem PH{E:Env}{W:World}{G:Nat->Option aI}(hG:RC E W G){a:AV}{v:Value}(r:RV E W a v){rows:List (List AV)}{rd:List Nat}(h:rowsOf G a=some (rows,rd))(aJ:rows≠[]){k:Nat}
  (hk:rows.all (fun r=>r.length==k&&r.all AV.one)=true):
  ∃b p cap,v= .slice (some ⟨b,p,none⟩) rows.length cap/\∃news:List Value,news.length=rows.length*k/\(∀(j:Nat) u,news[j]? =some u->W.cell? ⟨b,p+j,none⟩=some u)/\(∀u∈news,u.oneCell'=true)/\
   (∀(i j:Nat) row x,rows[i]? =some row->row[j]? =some x->∃u,news[i*k+j]? =some u/\RV E W x u):=by
 obtain⟨base,n,cap,hv,hn,qK,hr⟩:=QN hG r h;obtain⟨b,p,s,hb,hs,hc⟩:=hr aJ;subst hn;subst hb
 have pQ:s=k:=by
  cases rows with
  |nil=>exact absurd rfl aJ
  |cons r0 rs=>
   have h1:=hs 0 r0 rfl;simp at hk;omega
 subst pQ
 have BO:∀q,q<rows.length*s->∃u,W.cell? ⟨b,p+q,none⟩=some u/\u.oneCell'=true/\∀(i j:Nat) row x,i*s+j=q->j<s->rows[i]? =some row->row[j]? =some x->RV E W x u:=by
  intro q hq
  have l7:0<s:=by
   rcases Tx s with h0|h0
   ·subst h0;simp at hq
   ·exact h0
  have hi:q/s<rows.length:=Nat.div_lt_of_lt_mul (by rw[Z3];exact hq)
  have hj:q % s<s:=zO _ l7;have bH:=eQ hi;have hlen:=hs _ _ bH;have Dt:q % s<(rows[q/s]).length:=by omega
  have hx:=eQ Dt;have hqq:q/s*s+q % s=q:=by rw[Z3];exact Nat.div_add_mod q s
  obtain⟨u,h1,h2⟩:=hc _ _ _ _ bH hx;rw[hqq]at h1;refine⟨u,h1,?_,fun i j row x he DZ cZ kY=> ?_⟩
  ·have h3:=gK.1 hk _ (FZ hi)
   simp only[k6]at h3;exact h2.oneOf (gK.1 h3.2 _ (FZ Dt))
  ·have h4:i=q/s:=by
    rw[<-he,Z3,Nat.mul_add_div l7,Nat.div_eq_of_lt DZ];omega
   subst h4;have h5:j=q % s:=by omega
   subst h5;rw[cZ]at bH;injection bH with bH;subst bH
   rw[kY]at hx;injection hx with hx;subst hx
   exact h2
 let f:Nat->Value:=fun q=>(W.cell? ⟨b,p+q,none⟩).getD undef
 have hf:∀q,q<rows.length*s->W.cell? ⟨b,p+q,none⟩=some (f q):=fun q hq=>by
  obtain⟨u,h1,_⟩:=BO q hq;simp only[f,h1,vZ]
 refine⟨b,p,cap,hv,(List.range (rows.length*s)).map f,by simp,fun j u hu=> ?_,fun u hu=> ?_,fun i j row x cZ kY=> ?_⟩
 ·have hj:j<rows.length*s:=by have:=(dV.1 hu).1;simpa using this
  simp[hj]at hu;subst hu;exact hf j hj
 ·simp only[kV,EG]at hu
  obtain⟨q,hq,rfl⟩:=hu;obtain⟨u,h1,h2,_⟩:=BO q hq;simp only[f,h1,vZ];exact h2
 ·have DZ:j<s:=by rw[<-hs i row cZ];exact(dV.1 kY).1
  have hq:=yA (dV.1 cZ).1 DZ;obtain⟨u,h1,_,h3⟩:=BO _ hq;refine⟨u,?_,h3 i j row x rfl DZ cZ kY⟩;simp[hq,f,h1]
section
variable {P : Program} {g : Operand -> Option AV} {G : Nat -> Option aI} {aF : Nat} {dst : Option Tmp} {ty : TypeId} {pos : String} {after : Array Edge} {guard : Option (Nat × Bool)}
theorem Om{t e:TypeId}{k:Nat}(ht:fG P t=some (e,k))(ty:TypeId)(base b2:Option Addr)(n c c2:Nat)(xN:n<=c)(w:World):
  (Builtin.append_ #[t,t] ty #[.slice base n c,.slice b2 0 c2]).run P w= .ok (.slice base n c) w:=by
 obtain⟨hu,hk⟩:=x9 ht
 have hf:(Builtin.firstCells k 0 (.slice b2 0 c2)).run P w= .ok #[] w:=by
  cases b2<;>simp[Builtin.firstCells,loadCells,loadCellsFrom]
 cases base<;>simp[Builtin.append_,run_underlying hu,run_sizeOf hk,Builtin.lenOf,xN,hf,storeCells]
theorem Du{e:TypeId}{i:TypeInfo}{k:Nat}(hi:P.info? e=some i)(hk:dX P e=some k):i.size=k:=by simp[dX,hi]at hk;exact hk
theorem bO6{MM news:List Value}{rest:Array Value}{n m k:Nat}(ho:MM.length=n*k)(hn:news.length=m*k):
  (∀q,q<n*k->(MM.toArray++news.toArray++rest)[q]? =MM[q]?)/\(∀q,q<m*k->(MM.toArray++news.toArray++rest)[n*k+q]? =news[q]?):=by
 refine⟨fun q hq=> ?_,fun q hq=> ?_⟩
 ·rw[TP (by simp;omega),TP (by simp;omega)];simp
 ·rw[TP (by simp;omega),Array.getElem?_append_right (by simp;omega)];simp[ho]
theorem ar6{E:Env}{W:World}{rows bA:List (List AV)}{k:Nat}{MM news:List Value}{cur:Array Value}(hl:∀(i:Nat) row,rows[i]? =some row->row.length=k)(cW:∀(i:Nat) row,bA[i]? =some row->row.length=k)
  (ho:∀(i j:Nat) row x,rows[i]? =some row->row[j]? =some x->∃v,MM[i*k+j]? =some v/\RV E W x v) (hn:∀(i j:Nat) row x,bA[i]? =some row->row[j]? =some x->∃v,news[i*k+j]? =some v/\RV E W x v)
  (h1:∀q,q<rows.length*k->cur[q]? =MM[q]?) (h2:∀q,q<bA.length*k->cur[rows.length*k+q]? =news[q]?):
  (∀(i:Nat) row,(rows++bA)[i]? =some row->row.length=k)/\∀(i j:Nat) row x,(rows++bA)[i]? =some row->row[j]? =some x->∃v,cur[i*k+j]? =some v/\RV E W x v:=by
 refine⟨fun i row hr=> ?_,fun i j row x hr hx=> ?_⟩
 ·by_cases hi:i<rows.length
  ·rw[kG hi]at hr;exact hl i row hr
  ·rw[k7 (by omega)]at hr;exact cW _ row hr
 ·by_cases hi:i<rows.length
  ·rw[kG hi]at hr
   obtain⟨v,h3,h4⟩:=ho i j row x hr hx;refine⟨v,?_,h4⟩;rw[h1,h3];exact yA hi (by rw[<-hl i row hr];exact(dV.1 hx).1)
  ·rw[k7 (by omega)]at hr
   obtain⟨v,h3,h4⟩:=hn _ j row x hr hx;refine⟨v,?_,h4⟩;have bG:i-rows.length<bA.length:=(dV.1 hr).1;have:=h2 ((i-rows.length)*k+j) (yA bG (by rw[<-cW _ row hr];exact(dV.1 hx).1))
   rw[h3]at this;rw[<-this];congr 1;have:i*k=rows.length*k+(i-rows.length)*k:=by rw[<-oW];congr 1;omega
   omega
theorem Dv{rows:List (List AV)}{k:Nat}(hk:rows.all (fun r=>r.length==k&&r.all AV.one)=true):∀(i:Nat) row,rows[i]? =some row->row.length=k:=fun i row hr=>by
 have:=gK.1 hk row (eS hr);simp only[k6,beq_iff_eq]at this;exact this.1
theorem wO{E:Env}{W:World}{id off len:Nat}{v:Value}(r:RV E W (.own id off len) v):E.U id/\
  ((∃cap,v= .slice (some ⟨E.ι id,off*E.sz id,none⟩) len cap/\len<=cap/\∃(cur:Array Value) (e:TypeId) (f:Nat×Nat),W.heap[E.ι id]? =some (Obj.cells cur e f)/\(off+cap)*E.sz id<=cur.size)\/(len=0/\∃a,v= .slice a 0 0)):=by
 cases r with
 |own _ _ _ cap aB eC hs=>exact⟨aB,.inl ⟨cap,rfl,eC,hs⟩⟩
 |mW _ _ a aB=>exact⟨aB,.inr ⟨rfl,a,rfl⟩⟩
set_option maxHeartbeats 1000000 in
theorem bO7{t e:TypeId}{k nZ:Nat}{zs:List AV}{x y:Operand}{id n:Nat}{rows bA:List (List AV)}{w:Bool}{b:AV}{rd:List Nat}(ht:fG P t=some (e,k))(hz:fT P e=some zs)(CE:zs.length=k)(rC:qQ P e=some nZ)
  (hx:g x=some (.own id 0 n)) (hg:G id=some (.cells e k rows w true)) (hn:n=rows.length) (hy:g y=some b) (hb:rowsOf G b=some (bA,rd)) (h1:bA.all (fun r=>r.length==k&&r.all AV.one)=true)
  (MN:n+bA.length<=9223372036854775807) (DG:(n+bA.length)*nZ<=140737488355328):
  eM P g G aF ⟨dst,.call ⟨.builtin .append,#[x,y],#[t,t]⟩,ty,pos,after,guard⟩ (.own aF 0 (n+bA.length)) (aX G [(id,CF e k rows w),(aF,some (.cells e k (rows++bA) w true))]):=fun E W ρ hG gR aZ=>by
 have gQ:=aZ x _ hx;have nJ:=aZ y _ hy;generalize cJ:ρ x=vx at gQ;generalize lE:ρ y=vy at nJ;obtain⟨hu,hk⟩:=x9 ht;obtain⟨i,z,hi,vA,yC⟩:=JK hz;have iH:=Du hi hk;have FG:i.bytes=nZ:=by simp[qQ,hi]at rC;exact rC
 have jL:=hG;obtain⟨hU,kZ,hlen,⟨cur,cK,qV,eX⟩,hw,ha⟩:=hG.ok id _ hg;subst hn
 have dA:∀(r:Result Value),(Builtin.append_ #[t,t] ty #[vx,vy]).run P W=r->(execOp ρ ⟨dst,.call ⟨.builtin .append,#[x,y],#[t,t]⟩,ty,pos,after,guard⟩).run P W=r.andThen fun v w'=> .ok (.value v) w':=by
  intro r hr;rw[AR];simp only[builtin,BF,gJ,tK,cJ,lE];rw[Sem.run_bind,hr];rfl
 have h8:z.cells.size=k:=by have:=(yC E W).1;simp at this;omega
 have cW:=Dv h1
 have hoC:∀(i j:Nat) row x,rows[i]? =some row->row[j]? =some x->∃v,(cur.toList.take (rows.length*k))[i*k+j]? =some v/\RV E W x v:=fun i j row x hr hx=>by
  obtain⟨v,h3,h4⟩:=eX i j row x hr hx;refine⟨v,?_,h4⟩;have:=yA (dV.1 hr).1 (show j<k by rw[<-hlen i row hr];exact(dV.1 hx).1)
  rw[gU,if_pos this];simpa using h3
 --a new array
 have grow:∀(v2:Value),(∃IU rest,v2= .slice (some ⟨W.heap.size,0,none⟩) (rows.length+bA.length) IU/\rows.length+bA.length<=IU/\∃news:List Value,news.length=bA.length*k/\
   (∀(i j:Nat) row x,bA[i]? =some row->row[j]? =some x->∃u,news[i*k+j]? =some u/\RV E W x u)/\rest.size=(IU-(rows.length+bA.length))*k/\
   (Builtin.append_ #[t,t] ty #[vx,vy]).run P W= .ok v2 (W.drew.alloc (.cells ((cur.toList.take (rows.length*k)).toArray++news.toArray++rest) e)))->
   ∃W' v E',((execOp ρ ⟨dst,.call ⟨.builtin .append,#[x,y],#[t,t]⟩,ty,pos,after,guard⟩).run P W= .ok (.value v) W'\/((execOp ρ ⟨dst,.call ⟨.builtin .append,#[x,y],#[t,t]⟩,ty,pos,after,guard⟩).run P W= .ok .skip W'/\v=undef))/\bE E W E' W'/\
    RC E' W' (aX G [(id,CF e k rows w),(aF,some (.cells e k (rows++bA) w true))])/\RV E' W' (.own aF 0 (rows.length+bA.length)) v/\(∀q,E'.U q->E.U q\/(q=aF/\(aX G [(id,CF e k rows w),(aF,some (.cells e k (rows++bA) w true))] aF).isSome=true)):=by
  rintro v2 ⟨IU,rest,rfl,ar8,news,vR,xN,hrest,hr⟩;have rP:(cur.toList.take (rows.length*k)).length=rows.length*k:=by simp;omega
  obtain⟨g1,g2⟩:=bO6 (rest:=rest) rP vR;obtain⟨g3,g4⟩:=ar6 hlen cW hoC xN g1 g2
  have JN:RC E W.drew (aX G [(id,CF e k rows w)]):=hG.drew.QQ fun aM b' bY=>by
   simp only[aX]at bY;split at bY
   ·rename_i h2;subst h2
    unfold CF at bY;split at bY
    ·cases bY
    ·injection bY with bY;subst bY;exact⟨_,hg,rfl,rfl,rfl,(fun h=>by cases h),(fun h=>by cases h)⟩
   ·refine⟨b',bY,?_⟩
    exact aI.le_refl b'
  have FH:((cur.toList.take (rows.length*k)).toArray++news.toArray++rest).size=IU*k:=by
   simp only[Tv,TL,rP,vR,hrest,<-oW];congr 1;omega
  have cI5:(rows++bA).length*k<=IU*k:=nN k (by simpa using ar8)
  have FI:=JN.alloc gR e ((cur.toList.take (rows.length*k)).toArray++news.toArray++rest) k (rows++bA) w true g3 (by omega) (fun i j row x h5 h6=>by
   obtain⟨v,h7,h8⟩:=g4 i j row x h5 h6
   exact⟨v,h7,h8.mono (bE.drew E W)⟩)
  have hv:=(bE.drew E W).trans (bE.alloc JN gR (.cells ((cur.toList.take (rows.length*k)).toArray++news.toArray++rest) e) k);refine⟨_,_,_,.inl (by rw[dA _ hr];rfl),hv,FI,?_,fun id h=>h.imp (fun h=>h) (fun e=>⟨e,by simp[aX]⟩)⟩
  have:=RV.own (E:=E.more aF W.drew.heap.size k) (W:=W.drew.alloc (.cells ((cur.toList.take (rows.length*k)).toArray++news.toArray++rest) e)) aF 0 (rows.length+bA.length) IU (.inr rfl) ar8
   ⟨_,e,(0,0),by simp only[Env.more,if_true];exact heap_alloc_new W.drew _,by simp only[Env.more,if_true];rw[FH];simp⟩
  simpa[Env.more]using this
 --J8 same array
 have ME:∀(cap:Nat) (base:Option Addr) (dN:Array Value),RV (E.more aF (E.ι id) k) (W.setRow (E.ι id) dN) (.own aF 0 (rows.length+bA.length)) (.slice base (rows.length+bA.length) cap)->
   dN.size=cur.size->(∀q,q<rows.length*k->dN[q]? =cur[q]?)->(rows++bA).length*k<=cur.size->(∀(i j:Nat) row x,(rows++bA)[i]? =some row->row[j]? =some x->∃v,dN[i*k+j]? =some v/\RV E W x v)->
   (Builtin.append_ #[t,t] ty #[vx,vy]).run P W= .ok (.slice base (rows.length+bA.length) cap) (W.setRow (E.ι id) dN)->
   ∃W' v E',((execOp ρ ⟨dst,.call ⟨.builtin .append,#[x,y],#[t,t]⟩,ty,pos,after,guard⟩).run P W= .ok (.value v) W'\/((execOp ρ ⟨dst,.call ⟨.builtin .append,#[x,y],#[t,t]⟩,ty,pos,after,guard⟩).run P W= .ok .skip W'/\v=undef))/\bE E W E' W'/\
    RC E' W' (aX G [(id,CF e k rows w),(aF,some (.cells e k (rows++bA) w true))])/\RV E' W' (.own aF 0 (rows.length+bA.length)) v/\(∀q,E'.U q->E.U q\/(q=aF/\(aX G [(id,CF e k rows w),(aF,some (.cells e k (rows++bA) w true))] aF).isSome=true)):=by
  intro cap base dN iF z7 hp' Oe yB hr
  obtain⟨h2,h3⟩:=hG.share gR hg cK z7 hp' (fun i row hr=>by
   by_cases hi:i<rows.length
   ·rw[kG hi]at hr;exact hlen i row hr
   ·rw[k7 (by omega)]at hr;exact cW _ row hr) (by simp) Oe yB
  exact⟨_,_,_,.inl (by rw[dA _ hr];rfl),h2,h3,iF,fun id h=>h.imp (fun h=>h) (fun e=>⟨e,by simp[aX]⟩)⟩
 by_cases aJ:bA=[]
 ·subst aJ
  obtain⟨X7,n2,AG,fB,oP,_,_⟩:=QN hG nJ hb;simp at oP;subst oP;subst fB;simp only[fJ,zN,mD]at grow ME⊢;rcases(wO gQ).2 with⟨cap,rfl,eC,HM,e2,f2,h4,h5⟩|⟨oZ,a,rfl⟩
  ·
   rw[cK]at h4;injection h4 with h4
   injection h4 with h4 h6 h7
   subst h4;subst h6;subst h7;refine ME cap _ cur ?_ rfl (fun _ _=>rfl) qV eX (by rw[Om ht ty _ _ _ _ _ eC,setRow_self W _ cur _ _ cK])
   rw[setRow_self W _ cur _ _ cK];have:=RV.own (E:=E.more aF (E.ι id) k) (W:=W) aF 0 rows.length cap (.inr rfl) eC ⟨cur,_,_,by simp only[Env.more,if_true];exact cK,by simp only[Env.more,if_true];rw[kZ]at h5;exact h5⟩
   simpa[Env.more,kZ]using this
  ·have h0:rows=[]:=Tg.1 oZ
   subst h0;refine ME 0 a cur ?_ rfl (fun _ _=>rfl) qV eX (by rw[setRow_self W _ cur _ _ cK];exact Om ht ty _ _ _ _ _ (cE _) _)
   exact .mW _ _ _ (.inr rfl)
 ·obtain⟨b2,p2,AG,fB,news,vR,xN,sI,FJ⟩:=PH hG nJ hb aJ h1
  subst fB;have IB:0<bA.length:=O2.2 aJ;have DK:∀(j:Nat) u,news[j]? =some u->W.cell? ((⟨b2,p2,none⟩:Addr).add j)=some u:=fun j u hu=>by rw[Addr.add_lit];exact xN j u hu
  have Dw:news.length=bA.length*i.size:=by rw[iH];exact vR
  rcases(wO gQ).2 with⟨cap,rfl,eC,HM,e2,f2,h4,h5⟩|⟨oZ,a,rfl⟩
  ·
   rw[cK]at h4;injection h4 with h4
   injection h4 with h4 h6 h7
   subst h4;subst h6;subst h7;rw[kZ]at h5;simp only[pJ,CN]at h5 grow ME⊢;by_cases DH:rows.length+bA.length<=cap
   ·have hmul:(rows.length+bA.length)*k<=cap*k:=nN k DH
    rw[oW]at hmul;have hr:=run_append_room (P:=P) W t ty e i hu hi (E.ι id) rows.length cap cur cK ⟨b2,p2,none⟩ bA.length AG news Dw DK sI DH (by rw[iH];omega)
    rw[iH]at hr;refine ME cap _ _ ?_ ?_ ?_ ?_ ?_ hr
    ·have:=RV.own (E:=E.more aF (E.ι id) k) (W:=W.setRow (E.ι id) (cur.toList.take (rows.length*k)++news++cur.toList.drop (rows.length*k+news.length)).toArray) aF 0 (rows.length+bA.length) cap (.inr rfl) DH
      ⟨_,e,(0,0),by simp only[Env.more,if_true];exact setRow_heap W _ cur _ e (0,0) cK,by simp only[Env.more,if_true];simp;omega⟩
     simpa[Env.more]using this
    ·simp;omega
    ·intro q hq
     rw[wE,fF,kG (by simp;omega),gU,if_pos hq];simp
    ·simp[oW];omega
    ·have rP:(cur.toList.take (rows.length*k)).length=rows.length*k:=by simp;omega
     refine(ar6 hlen cW hoC FJ (fun q hq=> ?_) (fun q hq=> ?_)).2
     ·rw[wE,fF,kG (by omega)]
     ·rw[wE,fF,k7 (by omega),kG (by omega)]
      congr 1;omega
   ·have rP:(cur.toList.take (rows.length*k)).length=rows.length*i.size:=by rw[iH];simp;omega
    have hr:=run_append_grow (P:=P) W t ty e i z hu hi vA ⟨E.ι id,0,none⟩ rows.length cap (cur.toList.take (rows.length*k)) rP (fun j u hu=>by
      rw[Addr.add_lit,pJ,cell_of_row W _ j cur e (0,0) cK];rw[gU]at hu;split at hu
      ·simpa using hu
      ·cases hu) ⟨b2,p2,none⟩ bA.length AG news Dw DK (by omega) (by omega) (growslice_fits (by omega) (by rw[FG];exact DG))
    refine grow _ ⟨_,_,rfl,grownCap_ge W _ _ e,news,vR,FJ,?_,hr⟩;rw[size_zeroCells];rw[h8]
  ·have h0:rows=[]:=Tg.1 oZ
   subst h0;simp only[fJ,pJ,CN,xE]at grow⊢;cases a with
   |none=>
    have hr:=run_append_nil (P:=P) W t ty e i z hu hi vA ⟨b2,p2,none⟩ bA.length AG news Dw DK IB (by simp at MN;omega) (by simp at DG;rw[FG];omega)
    refine grow _ ⟨grownCap W bA.length 0 e,Builtin.zeroCells z.cells (grownCap W bA.length 0 e-bA.length),rfl,grownCap_ge W bA.length 0 e,news,vR,FJ,by rw[size_zeroCells,h8],?_⟩
    simpa using hr
   |some a=>
   have hr:=run_append_grow (P:=P) W t ty e i z hu hi vA a 0 0 [] (by simp) (fun j u hu=>by simp at hu) ⟨b2,p2,none⟩ bA.length AG news Dw DK (by omega) (by simp at MN;omega) (growslice_fits (by omega) (by rw[FG];exact DG))
   refine grow _ ⟨grownCap W bA.length 0 e,Builtin.zeroCells z.cells (grownCap W bA.length 0 e-bA.length),rfl,grownCap_ge W bA.length 0 e,news,vR,FJ,by rw[size_zeroCells,h8],?_⟩
   simp only[pJ]at hr;exact hr
end
end Go.AL
namespace Go.AL
open Go.RowKit
section
variable (P : Program)
def JO(f:TypeId->AV->AV->Option Bool)(xs ys:List AV):List Field->Option Bool
 |[]=>some true
 |fd::r=>if fd.name= "_" then none else match tT P fd.type xs fd.offset,tT P fd.type ys fd.offset with
  |some a,some b=>match f fd.type a b,JO f xs ys r with
   |some p,some q=>some (p&&q)
   |_,_=>none
  |_,_=>none
def P0(f:TypeId->AV->AV->Option Bool)(e:TypeId)(k:Nat)(xs ys:List AV):List Nat->Option Bool
 |[]=>some true
 |i::r=>match tT P e xs (i*k),tT P e ys (i*k)with
  |some a,some b=>match f e a b,P0 f e k xs ys r with
   |some p,some q=>some (p&&q)
   |_,_=>none
  |_,_=>none
def sW:Nat->TypeId->AV->AV->Option Bool
 |0,_,_,_=>none
 |d+1,t,x,y=>match P.underlying t,x,y with
  |some (.int _),.c (.int k a),.c (.int k' b)=>if k=k' then some (a==b)else none
  |some .bool,.c (.bool a),.c (.bool b)=>some (a==b)
  |some .string,.c (.string a),.c (.string b)=>some (a.toList==b.toList)
  |some (.struct fs),.agg xs,.agg ys=>if P.stoodInHeld t=true then none else JO P (sW d) xs ys fs.toList
  |some (.array n e),.agg xs,.agg ys=>match dX P e with
   |some k=>P0 P (sW d) e k xs ys (List.range n)
   |none=>none
  |_,_,_=>none
def EL(t:TypeId)(x y:AV):Option Bool:=if P.eqGuardType P.depth t=true then none else sW P 10000 t x y
end
section
variable {P : Program} {E : Env} {W : World}
theorem ar9{d:Nat}{xs ys:List AV}{vs us:Array Value}(hx:bX E W xs vs.toList)(hy:bX E W ys us.toList)
  (ih:∀t x y v u r,RV E W x v->RV E W y u->sW P d t x y=some r->(Op.equalIn d t v u).run P W= .ok r W):
  ∀(fs:List Field) (r:Bool),JO P (sW P d) xs ys fs=some r->(Op.eqFields d vs us fs).run P W= .ok r W
 |[],r,h=>by simp only[JO,bC]at h;subst h;simp[Op.eqFields]
 |fd::fs,r,h=>by
  simp only[JO]at h;split at h
  ·cases h
  ·rename_i hn
   split at h
   ·rename_i a b ha hb
    split at h
    ·rename_i p q hp hq
     simp only[bC]at h;subst h;obtain⟨v,h1,h2⟩:=QP (P:=P) hx ha;obtain⟨u,h3,h4⟩:=QP (P:=P) hy hb;have h5:=ih _ _ _ _ _ _ h2 h4 hp;have h6:=ar9 hx hy ih fs q hq;simp only[Op.eqFields,ne_eq,hn,not_false_eq_true,if_true,Sem.run_bind,Array.toArray_toList,h1,h3,h5,Result.andThen_ok]at*;cases p<;>simp[h1,h3,h5,h6]
    ·cases h
   ·cases h
theorem as3{d:Nat}{e:TypeId}{k:Nat}{xs ys:List AV}{vs us:Array Value}(hx:bX E W xs vs.toList)(hy:bX E W ys us.toList)
  (ih:∀t x y v u r,RV E W x v->RV E W y u->sW P d t x y=some r->(Op.equalIn d t v u).run P W= .ok r W):
  ∀(is:List Nat) (r:Bool),P0 P (sW P d) e k xs ys is=some r->(Op.eqItems d e k vs us is).run P W= .ok r W
 |[],r,h=>by simp only[P0,bC]at h;subst h;simp[Op.eqItems]
 |i::is,r,h=>by
  simp only[P0]at h;split at h
  ·rename_i a b ha hb
   split at h
   ·rename_i p q hp hq
    simp only[bC]at h;subst h;obtain⟨v,h1,h2⟩:=QP (P:=P) hx ha;obtain⟨u,h3,h4⟩:=QP (P:=P) hy hb;have h5:=ih _ _ _ _ _ _ h2 h4 hp;have h6:=as3 hx hy ih is q hq;simp only[Op.eqItems,Sem.run_bind,Array.toArray_toList,h1,h3,h5,Result.andThen_ok]at*;cases p<;>simp[h1,h3,h5,h6]
   ·cases h
  ·cases h
theorem Dx:∀(d:Nat) (t:TypeId) (x y:AV) (v u:Value) (r:Bool),RV E W x v->RV E W y u->sW P d t x y=some r->(Op.equalIn d t v u).run P W= .ok r W
 |0,t,x,y,v,u,r,hx,hy,h=>by simp[sW]at h
 |d+1,t,x,y,v,u,r,hx,hy,h=>by
  simp only[sW]at h;split at h
  ·rename_i k0 k a k' b hu
   split at h
   ·rename_i hk
    subst hk;simp only[bC]at h;subst h;cases hx;cases hy;exact run_equalIn_int W d t k k0 a b hu
   ·cases h
  ·rename_i a b hu
   simp only[bC]at h;subst h;cases hx;cases hy;exact run_equalIn_bool' W d t a b hu
  ·rename_i a b hu
   simp only[bC]at h;subst h;cases hx;cases hy;exact run_equalIn_string W d t a b hu
  ·rename_i fs xs ys hu
   split at h
   ·cases h
   ·rename_i hp
    cases hx with
    |agg _ vs yU hx=>
    cases hy with
    |agg _ us cW hy=>
    have P7:P.fieldsOf t=fs:=by simp[Program.fieldsOf,hu]
    rw[run_equalIn_struct W d t vs us (by rw[P7];exact hu) (by simpa using hp),P7]
    exact ar9 ⟨by simpa using yU,fun i x v h1 h2=>hx i x v h1 (by simpa using h2)⟩ ⟨by simpa using cW,fun i x v h1 h2=>hy i x v h1 (by simpa using h2)⟩ (Dx d) _ _ h
  ·rename_i n e xs ys hu
   split at h
   ·rename_i k hk
    cases hx with
    |agg _ vs yU hx=>
    cases hy with
    |agg _ us cW hy=>
    cases hi:P.info? e with
    |none=>simp[dX,hi]at hk
    |some i=>
     have hc:P.cellsOf e=k:=by simp[dX,hi]at hk;simp[Program.cellsOf,hi,hk]
     rw[run_equalIn_array W d vs us hu hi,hc];exact as3 ⟨by simpa using yU,fun i x v h1 h2=>hx i x v h1 (by simpa using h2)⟩ ⟨by simpa using cW,fun i x v h1 h2=>hy i x v h1 (by simpa using h2)⟩ (Dx d) _ _ h
   ·cases h
  ·cases h
end
section
variable {P : Program} {g : Operand -> Option AV} {G : Nat -> Option aI} {aF : Nat} {dst : Option Tmp} {ty : TypeId} {pos : String} {after : Array Edge} {guard : Option (Nat × Bool)}
def FK(op:BinOp)(r:Bool):Option Value:=
 match op with
 | .eql=>some (.bool r)
 | .neq=>some (.bool (!r))
 |_=>none
theorem bO9{op:BinOp}{t yt:TypeId}{x y:Operand}{xs ys:List AV}{r:Bool}{v:Value}(hx:g x=some (.agg xs))(hy:g y=some (.agg ys))(h:EL P t (.agg xs) (.agg ys)=some r)(hv:FK op r=some v):
  eM P g G aF ⟨dst,.binOp op t x y yt,ty,pos,after,guard⟩ (.c v) G:=
 .still fun E W ρ hG aZ=>by
   have h1:=aZ x _ hx;have h2:=aZ y _ hy;generalize cJ:ρ x=vx at h1;generalize lE:ρ y=vy at h2;unfold EL at h;split at h
   ·cases h
   ·rename_i Jt
    have heq:=Dx 10000 t _ _ _ _ r h1 h2 h;cases h1 with
    |agg _ vs yU h1=>
    cases h2 with
    |agg _ us cW h2=>
    refine⟨v,?_,.c v ?_⟩
    ·simp only[execOp,cJ,lE,Sem.run_bind,run_eqGuard_agg W op t x y vs us (by simpa using Jt),Result.andThen_ok]
     cases op<;>simp only[FK,reduceCtorEq,bC]at hv
     ·subst hv;rw[run_eql_struct,heq];rfl
     ·subst hv;rw[run_neq_struct,heq];rfl
    ·cases op<;>simp only[FK,reduceCtorEq,bC]at hv<;>subst hv<;>rfl
def X8(a:AV):Option Bool:=
 match a with
 | .c (.slice a _ _)=>some a.isNone
 | .snap rows=>if rows.isEmpty=true then none else some false
 | .own _ _ n=>if n=0 then none else some false
 |_=>none
theorem bP0{E:Env}{W:World}{a:AV}{v:Value}{r:Bool}(hr:RV E W a v)(h:X8 a=some r):∃p n c,v= .slice p n c/\p.isNone=r:=by
 unfold X8 at h;split at h
 ·simp only[bC]at h;subst h;cases hr;exact⟨_,_,_,rfl,rfl⟩
 ·rename_i rows
  split at h
  ·cases h
  ·rename_i aJ
   simp only[bC]at h;subst h;cases hr with
   |snap=>exact⟨_,_,_,rfl,rfl⟩
   |lV=>exact absurd rfl aJ
 ·split at h
  ·cases h
  ·rename_i aJ
   simp only[bC]at h;subst h;cases hr with
   |own=>exact⟨_,_,_,rfl,rfl⟩
   |mW=>exact absurd rfl aJ
 ·cases h
theorem bP1(d:Nat){t e:TypeId}(hu:P.underlying t=some (.slice e))(p:Option Addr)(n c:Nat)(w:World):
  (Op.equalIn (d+1) t (.slice p n c) (.slice none 0 0)).run P w= .ok p.isNone w:=by
 cases p<;>simp[Op.equalIn,run_underlying hu]
theorem bP2{op:BinOp}{t e:TypeId}(hu:P.underlying t=some (.slice e))(p:Option Addr)(n c:Nat)(w:World){v:Value}(hv:FK op p.isNone=some v):
  (binOp op t (.slice p n c) (.slice none 0 0)).run P w= .ok v w:=by
 have h:=bP1 (P:=P) 9999 hu p n c w;cases op<;>simp only[FK,reduceCtorEq,bC]at hv<;>subst hv<;>simp only[binOp,Op.equal,Op.maxDepth,Sem.run_bind,h,Result.andThen_ok,Sem.run_pure]
theorem bP3{op:BinOp}{t e yt:TypeId}{k:Nat}{x y:Operand}{a:AV}{r:Bool}{v:Value}(ht:fG P t=some (e,k))(hx:g x=some a)(hy:g y=some (.c (.slice none 0 0)))(h:X8 a=some r)(hv:FK op r=some v):
  eM P g G aF ⟨dst,.binOp op t x y yt,ty,pos,after,guard⟩ (.c v) G:=
 .still fun E W ρ hG aZ=>by
   obtain⟨p,n,c,h1,h2⟩:=bP0 (aZ x _ hx) h;have h3:=aZ y _ hy;generalize lE:ρ y=vy at h3;cases h3;obtain⟨hu,_⟩:=x9 ht;refine⟨v,?_,.c v ?_⟩
   ·simp only[execOp,h1,lE,Sem.run_bind]
    subst h2
    have Cq:(eqGuard op t x y (.slice p n c) (.slice none 0 0)).run P W= .ok () W:=by
     cases op<;>simp[eqGuard,run_program,run_underlying hu]
    rw[Cq,Result.andThen_ok,bP2 hu p n c W hv];rfl
   ·cases op<;>simp only[FK,reduceCtorEq,bC]at hv<;>subst hv<;>rfl
theorem Dy{ρ:Operand->Value}{E:Env}{W:World}(aZ:∀x b,g x=some b->RV E W b (ρ x)){t e:TypeId}{k:Nat}(ht:fG P t=some (e,k))(base:Option Addr)(len cap:Nat){lo:Option Operand}{hi mx:Operand}{l h m:Int}
  (hl:iW g 0 lo=some l) (hh:iW g len (some hi)=some h) (hm:iW g len (some mx)=some m) (h0:0<=l) (h1:l<=h) (h2:h<=m) (h3:m<=cap):
  (Instr.sliceAt t (.slice base len cap) (lo.map ρ) (some (ρ hi)) (some (ρ mx))).run P W= .ok (.slice (if m=l then base else base.map (·.add (l.toNat*k))) (h-l).toNat (m-l).toNat) W:=by
 obtain⟨hu,hk⟩:=x9 ht;have hb:(m.toNat=l.toNat)↔(m=l):=by omega
 have e1:h.toNat-l.toNat=(h-l).toNat:=by omega
 have e2:m.toNat-l.toNat=(m-l).toNat:=by omega
 rcases MK aZ hh with⟨hc,_⟩|⟨kh,HL⟩
 ·cases hc
 rcases MK aZ hm with⟨hc,_⟩|⟨km,MO⟩
 ·cases hc
 simp only[oU,bC]at HL MO;have h5:0<=h:=by omega
 have h6:0<=m:=by omega
 have h7:h<=max m 0:=by omega
 have h8:l<=max h 0:=by omega
 rcases MK aZ hl with⟨rfl,rfl⟩|⟨kl,qU⟩
 ·simp[Instr.sliceAt,run_underlying hu,Instr.slice,Instr.sliceBounds,run_sizeOf hk,HL,MO,Instr.sliceBound,asIntOf,h5,h6,h7,h3]
  by_cases hc:m=0
  ·rw[if_pos (by omega),if_pos hc]
  ·rw[if_neg (by omega),if_neg hc]
 ·simp[Instr.sliceAt,run_underlying hu,Instr.slice,Instr.sliceBounds,run_sizeOf hk,qU,HL,MO,Instr.sliceBound,asIntOf,h0,h5,h6,h7,h8,h3]
  by_cases hc:m=l
  ·rw[if_pos (by omega),if_pos hc];simp;omega
  ·rw[if_neg (by omega),if_neg hc];simp;omega
theorem bP4{t e:TypeId}{k:Nat}{x:Operand}{rows:List (List AV)}{lo:Option Operand}{hi mx:Operand}{l h m:Int}(ht:fG P t=some (e,k))(hx:g x=some (.snap rows))(hl:iW g 0 lo=some l)(hh:iW g rows.length (some hi)=some h)
  (hm:iW g rows.length (some mx)=some m) (h0:0<=l) (h1:l<=h) (h2:h<=m) (h3:m<=rows.length) (hw:rows.all (fun r=>r.length==k)=true):
  eM P g G aF ⟨dst,.slice t x lo (some hi) (some mx),ty,pos,after,guard⟩ (.snap ((rows.drop l.toNat).take (h-l).toNat)) G:=
 .still fun E W ρ hG aZ=>by
   have h4:=aZ x _ hx;generalize cJ:ρ x=vx at h4;cases h4 with
   |lV a cap=>
    simp at h3;refine⟨_,by simp only[execOp,cJ,oU];rw[Sem.run_bind,Dy aZ ht a 0 cap hl (show iW g ((0:Nat):Int) (some hi)=some h from hh) (show iW g ((0:Nat):Int) (some mx)=some m from hm) h0 h1 h2 (by omega)];rfl,?_⟩
    have:(h-l).toNat=0:=by omega
    rw[this];simp;exact .lV _ _
   |snap _ b off s n cap vs hn qK hs hL hc hr=>
    subst hn;refine⟨_,by simp only[execOp,cJ,oU];rw[Sem.run_bind,Dy aZ ht _ rows.length cap hl hh hm h0 h1 h2 (by omega)];rfl,?_⟩
    by_cases hz:h=l
    ·have:(h-l).toNat=0:=by omega
     rw[this];simp;exact .lV _ _
    ·have aJ:¬(m=l):=by omega
     rw[if_neg aJ];have bG:l.toNat<rows.length:=by omega
     have pQ:s=k:=by
      have h4:=hs l.toNat _ (eQ bG);have h5:=gK.1 hw _ (FZ bG);simp at h5;omega
     subst pQ
     have hmul:l.toNat*s+(h-l).toNat*s<=rows.length*s:=by
      rw[<-oW];exact nN s (by omega)
     have hlen:((rows.drop l.toNat).take (h-l).toNat).length=(h-l).toNat:=by simp;omega
     have bU:∀(i:Nat) row,((rows.drop l.toNat).take (h-l).toNat)[i]? =some row->rows[l.toNat+i]? =some row:=fun i row hr=>by
      rw[gU]at hr;split at hr
      ·rwa[mF]at hr
      ·cases hr
     have:=RV.snap (E:=E) (W:=W) ((rows.drop l.toNat).take (h-l).toNat) b (off+l.toNat*s) s (h-l).toNat (m-l).toNat (fun i j=>vs (l.toNat+i) j) hlen.symm (by omega) (fun i row hr=>hs _ row (bU i row hr)) (by rw[hlen];omega)
      (fun i j row x h4 h5=>by rw[<-hc _ j row x (bU i row h4) h5];congr 2;rw[oW];omega) (fun i j row x h4 h5=>hr _ j row x (bU i row h4) h5)
     simpa[Addr.add_lit]using this
end
end Go.AL
namespace Go.AL
open Go.RowKit
def AT(P:Program):List Field->Nat->Option Nat
 |[],i=>some i
 |f::r,i=>match P.underlying f.type,dX P f.type with
  |some (.int .i64),some 1=>if f.name= "_" \/f.offset≠i then none else AT P r (i+1)
  |_,_=>none
def AH(P:Program)(kt:TypeId):Option TypeDesc:=
 match P.underlying kt with
 |some (.struct fs)=>if P.stoodInHeld kt=true then none else(AT P fs.toList 0).map fun n=> .array n 0
 |some (.array _ _)=>none
 |d=>d
def zP(P:Program)(t:TypeId):Option (TypeId×TypeId×TypeDesc):=
 match P.underlying t with
 |some (.map k e)=>(AH P k).map fun d=>(k,e,d)
 |_=>none
theorem Dz{P:Program}{t k e:TypeId}{d:TypeDesc}(h:zP P t=some (k,e,d)):P.underlying t=some (.map k e)/\AH P k=some d:=by
 unfold zP at h;split at h
 ·rename_i k' e' hu
  cases hk:AH P k' with
  |none=>rw[hk]at h;cases h
  |some d'=>
   rw[hk]at h;simp only[oU,bC,cD]at h;obtain⟨rfl,rfl,rfl⟩:=h;exact⟨hu,hk⟩
 ·cases h
def CS(P:Program)(e:TypeId):Option AV:=
 match(P.info? e).bind (·.zero)with
 |some z=>CA z
 |none=>none
theorem On{P:Program}{e:TypeId}{a:AV}(h:CS P e=some a):∃z,(∀W,(zeroValue e).run P W= .ok z W)/\∀E W,RV E W a z:=by
 unfold CS at h;split at h
 ·rename_i z hz
  cases hi:P.info? e with
  |none=>rw[hi]at hz;cases hz
  |some i=>
   rw[hi]at hz;simp only[Z1]at hz;exact⟨z,fun W=>by simp[zeroValue,run_typeInfo hi,hz],fun E W=>RV.CA h⟩
 ·cases h
def iV(a:Int):Value:= .int .i64 a
def zD:TypeDesc->Value->Prop
 | .array n _,.agg cs=>∃l:List Int,l.length=n/\cs=(l.map iV).toArray
 |d,v=>MapKept.IsKey d v
def Ea:Value->Bool
 | .int k _=>k== .i64
 |_=>false
def tS:TypeDesc->Value->Bool
 | .bool,.bool _=>true
 | .int k,.int k' _=>k'==k
 | .string,.string _=>true
 | .array n _,.agg cs=>cs.toList.length==n&&cs.toList.all Ea
 |_,_=>false
theorem as4:∀(l:List Value),l.all Ea=true->∃as:List Int,l=as.map iV
 |[],_=>⟨[],rfl⟩
 |v::r,h=>by
  simp only[I4,k6]at h;obtain⟨as,h2⟩:=as4 r h.2;cases v with
  |int k n=>
   obtain rfl:=eq_of_beq (show(k==IntKind.i64)=true from h.1)
   exact⟨n::as,by rw[h2];rfl⟩
  |_=>exact absurd h.1 (by simp[Ea])
theorem QR{d:TypeDesc}{k:Value}(h:tS d k=true):zD d k:=by
 unfold tS at h;split at h
 ·trivial
 ·exact eq_of_beq h
 ·trivial
 ·rename_i n e cs
  simp only[k6,beq_iff_eq]at h;obtain⟨as,h2⟩:=as4 _ h.2;refine⟨as,?_,?_⟩
  ·rw[h2,l4]at h;exact h.1
  ·rw[<-h2]
 ·cases h
def xO(d:TypeDesc)(es:List (Value×AV)):Bool:=es.all fun p=>tS d p.1
def JP:List Value->List Value->Bool
 |[],[]=>true
 | .int k a::r,.int k' b::s=>k==k'&&a==b&&JP r s
 |_,_=>false
def qW:Value->Value->Bool
 | .int k a,.int k' b=>k==k'&&a==b
 | .bool a,.bool b=>a==b
 | .string a,.string b=>a==b
 | .agg a,.agg b=>JP a.toList b.toList
 |_,_=>false
theorem Eb:∀(a b:List Int),JP (a.map iV) (b.map iV)=true↔a=b
 |[],[]=>by simp[JP]
 |[],_::_=>by simp[JP]
 |_::_,[]=>by simp[JP]
 |x::a,y::b=>by
  simp only[gJ,iV,JP,k6,beq_iff_eq,true_and,OA,beq_self_eq_true];exact and_congr_right fun _=>Eb a b
theorem as5{a b:List Int}(h:(a.map iV)=(b.map iV)):a=b:=(Eb a b).1 (h▸(Eb a a).2 rfl)
theorem MP{d:TypeDesc}{v:Value}(hd:∀n e,d≠ .array n e)(h:zD d v):MapKept.IsKey d v:=by
 cases d<;>first|exact h|(rename_i n e;exact absurd rfl (hd n e))
theorem MQ{n:Nat}{e:TypeId}{v:Value}(h:zD (.array n e) v):∃l:List Int,l.length=n/\v= .agg (l.map iV).toArray:=by
 cases v<;>simp only[zD,MapKept.IsKey]at h
 obtain⟨l,h1,h2⟩:=h;exact⟨l,h1,by rw[h2]⟩
theorem Oo{d:TypeDesc}{a b:Value}(ha:zD d a)(hb:zD d b):qW a b=true↔a=b:=by
 by_cases hd:∃n e,d= .array n e
 ·obtain⟨n,e,rfl⟩:=hd
  obtain⟨l,_,rfl⟩:=MQ ha;obtain⟨m,_,rfl⟩:=MQ hb;simp only[qW,Eb];constructor
  ·rintro rfl;rfl
  ·intro h
   simp only[Value.agg.injEq]at h;exact as5 (by simpa using congrArg Array.toList h)
 ·have MR:∀n e,d≠ .array n e:=fun n e h=>hd ⟨n,e,h⟩
  have ha:=MP MR ha;have hb:=MP MR hb;cases d<;>cases a<;>cases b<;>simp_all [MapKept.IsKey,qW,MapKept.bytes_beq]
theorem PJ{α β:Type}{x:Option α}{f:α->β}{b:β}(h:x.map f=some b):∃a,x=some a/\f a=b:=by
 cases x with
 |none=>simp at h
 |some a=>exact⟨a,rfl,by simpa using h⟩
section
variable {P : Program}
theorem aa9{d:Nat}{t:TypeId}{fs:Array Field}{xs ys:List AV}(hu:P.underlying t=some (.struct fs)):sW P (d+1) t (.agg xs) (.agg ys)=if P.stoodInHeld t=true then none else JO P (sW P d) xs ys fs.toList:=by
 simp only[sW,hu]
theorem Ki{d:Nat}:∀(fs:List Field) (i n:Nat) (as bs:List Int),AT P fs i=some n->as.length=n->bs.length=n->
  JO P (sW P (d+1)) ((as.map iV).map AV.c) ((bs.map iV).map AV.c) fs=some (decide (as.drop i=bs.drop i))
 |[],i,n,as,bs,h,h1,h2=>by
  simp only[AT,bC]at h;subst h;rw[I5 (by omega),I5 (by omega)]
  rfl
 |f::fs,i,n,as,bs,h,h1,h2=>by
  simp only[AT]at h;split at h
  ·rename_i hu hs
   split at h
   ·cases h
   ·rename_i hn
    simp only[not_or,ne_eq,Decidable.not_not]at hn
    have sZ:∀(fs:List Field) (i n:Nat),AT P fs i=some n->i<=n:=by
     intro fs
     induction fs with
     |nil=>intro i n h;simp only[AT,bC]at h;omega
     |cons f fs ih=>
      intro i n h;simp only[AT]at h;split at h
      ·split at h
       ·cases h
       ·have:=ih _ _ h;omega
      ·cases h
    have hi:=sZ _ _ _ h;have ih:=Ki (d:=d) fs (i+1) n as bs h h1 h2;have GZ:iN P f.type=some false:=by unfold iN;rw[hu]
    have p1:∀l:List Int,l.length=n->tT P f.type ((l.map iV).map AV.c) f.offset=some (.c (iV (l.getD i 0))):=fun l hl=>by
     have E4:i<l.length:=by omega
     unfold tT;rw[GZ,hs];simp[hn.2,E4]
    have e1:∀x y:Int,sW P (d+1) f.type (.c (iV x)) (.c (iV y))=some (x==y):=fun x y=>by
     simp only[sW,hu,iV,if_true]
    rw[JO,if_neg hn.1,p1 as h1,p1 bs h2];simp only[e1,ih]
    have hd:∀l:List Int,l.length=n->l.drop i=l.getD i 0::l.drop (i+1):=fun l hl=>by
     have E4:i<l.length:=by omega
     rw[Fu E4];simp[E4]
    rw[hd as h1,hd bs h2];rw[show(as.getD i 0==bs.getD i 0)=decide (as.getD i 0=bs.getD i 0)from rfl]
    by_cases h5:as.getD i 0=bs.getD i 0
    ·by_cases h6:as.drop (i+1)=bs.drop (i+1)
     ·rw[decide_eq_true h5,decide_eq_true h6,decide_eq_true (by rw[h5,h6])];rfl
     ·rw[decide_eq_true h5,decide_eq_false h6,decide_eq_false (fun q=>h6 (List.cons.inj q).2)];rfl
    ·rw[decide_eq_false h5,decide_eq_false (fun q=>h5 (List.cons.inj q).1)];rfl
  ·cases h
theorem Oq(E:Env)(W:World)(l:List Int):RV E W (.agg ((l.map iV).map AV.c)) (.agg (l.map iV).toArray):=
 .agg _ _ (by simp) fun i x v h1 h2=>by
   rw[gE]at h1;rw[wE]at h2;rw[h2]at h1;simp only[oU,bC]at h1;subst h1;rw[gE]at h2;obtain⟨y,_,rfl⟩:=Option.map_eq_some_iff.1 h2;exact .c _ rfl
theorem bP5{kt:TypeId}{n:Nat}{W:World}(hk:AH P kt=some (.array n 0))(as bs:List Int)(h1:as.length=n)(h2:bs.length=n):
  (Op.equal kt (.agg (as.map iV).toArray) (.agg (bs.map iV).toArray)).run P W= .ok (decide (as=bs)) W:=by
 have E0:Env:=⟨fun _=>0,fun _=>0,fun _=>False,fun _=>0⟩
 refine Dx 10000 kt _ _ _ _ _ (Oq E0 W as) (Oq E0 W bs) ?_;unfold AH at hk;split at hk
 ·rename_i fs hu
  split at hk
  ·cases hk
  ·rename_i hp
   obtain⟨m,hm,he⟩:=PJ hk;simp only[TypeDesc.array.injEq,and_true]at he;subst he;have:=Ki (P:=P) (d:=9998) fs.toList 0 m as bs hm h1 h2;simp only[CO]at this
   show sW P (9999+1) kt (.agg ((as.map iV).map AV.c)) (.agg ((bs.map iV).map AV.c))=_
   rw[aa9 hu,if_neg hp];exact this
 ·cases hk
 ·rename_i VO C3
  exact absurd hk (C3 _ _)
theorem as6{kt:TypeId}{n:Nat}{W:World}(hk:AH P kt=some (.array n 0)){k:Value}(qA:zD (.array n 0) k):∀(l:List MapEntry) (i:Nat),(∀x∈l,zD (.array n 0) x.key)->
  ((Instr.findAsking kt k l i).run P W= .ok none W/\∀x∈l,x.key≠k)\/∃j e,(Instr.findAsking kt k l i).run P W= .ok (some (i+j,e.val)) W/\l[j]? =some e/\e.key=k
 |[],i,_=> .inl ⟨by simp[Instr.findAsking],by simp⟩
 |e::es,i,h=>by
  obtain⟨as,h1,rfl⟩:=MQ qA;obtain⟨bs,h2,h3⟩:=MQ (h e (.head _));have hr:=bP5 (W:=W) hk as bs h1 h2;rw[<-h3]at hr;by_cases uW:as=bs
  ·rw[decide_eq_true uW]at hr
   exact .inr ⟨0,e,by simp[Instr.findAsking,hr],rfl,by rw[h3,uW]⟩
  ·rw[decide_eq_false uW]at hr
   have aJ:e.key≠ .agg (as.map iV).toArray:=fun q=>uW (by
    rw[h3]at q;simp only[Value.agg.injEq]at q
    exact(as5 (by simpa using congrArg Array.toList q)).symm)
   rcases as6 (W:=W) hk qA es (i+1) (fun x hx=>h x (.tail _ hx))with⟨h1,h2⟩|⟨j,e',h1,h2,h3⟩
   ·exact .inl ⟨by simp[Instr.findAsking,hr,h1],fun x hx=>by
     rcases cG.1 hx with rfl|hx
     ·exact aJ
     ·exact h2 x hx⟩
   ·exact .inr ⟨j+1,e',by simp[Instr.findAsking,hr,h1,s9,Nat.add_comm 1 j],by simpa using h2,h3⟩
theorem bP6{kt:TypeId}{d:TypeDesc}{W:World}(hk:AH P kt=some d){k:Value}(qA:zD d k)(l:List MapEntry)(h:∀x∈l,zD d x.key):
  ((Instr.findKey kt k l).run P W= .ok none W/\∀x∈l,x.key≠k)\/∃j e,(Instr.findKey kt k l).run P W= .ok (some (j,e.val)) W/\l[j]? =some e/\e.key=k:=by
 have rS:=hk;unfold AH at hk;split at hk
 ·rename_i fs hu
  split at hk
  ·cases hk
  ·obtain⟨m,hm,he⟩:=PJ hk
   subst he;rcases as6 (W:=W) rS qA l 0 h with⟨h1,h2⟩|⟨j,e,h1,h2,h3⟩
   ·refine .inl ⟨?_,h2⟩
    cases l with
    |nil=>simp[Instr.findKey,run_underlying hu,Result.andThen,Instr.findNow]
    |cons e es=>
     have:Instr.findNow (.struct fs) k (e::es) 0=none:=by simp[Instr.findNow,Instr.sameNow]
     simp[Instr.findKey,run_underlying hu,Result.andThen,this,h1]
   ·refine .inr ⟨j,e,?_,h2,h3⟩
    cases l with
    |nil=>simp at h2
    |cons e0 es=>
     have:Instr.findNow (.struct fs) k (e0::es) 0=none:=by simp[Instr.findNow,Instr.sameNow]
     simp only[pJ]at h1;simp[Instr.findKey,run_underlying hu,Result.andThen,this,h1]
 ·cases hk
 ·rename_i d0 VO C3
  have MR:∀n e,d≠ .array n e:=fun n e q=>by subst q;exact C3 _ _ hk
  rcases MapKept.findNow_spec (MP MR qA) l 0 (fun x hx=>MP MR (h x hx))with⟨h1,h2⟩|⟨j,e,h1,h2,h3⟩
  ·exact .inl ⟨MapKept.run_findKey hk h1,h2⟩
  ·exact .inr ⟨j,e,by have:=MapKept.run_findKey (P:=P) (w:=W) hk h1;simpa using this,h2,h3⟩
theorem as7{m n:Nat}{W:World}{em:Bool}(l:List Int):∀(fs:List Field) (i:Nat),AT P fs i=some n->l.length=n->
  (forIn fs PUnit.unit fun f _=>do
    if f.name≠ "_" then Instr.checkKey em (m+1) f.type (<-part f.type (l.map iV).toArray f.offset)
    pure (ForInStep.yield PUnit.unit):Sem PUnit).run P W= .ok PUnit.unit W
 |[],i,h,hl=>by simp
 |f::fs,i,h,hl=>by
  simp only[AT]at h;split at h
  ·rename_i hu hs
   split at h
   ·cases h
   ·rename_i hn
    simp only[not_or,ne_eq,Decidable.not_not]at hn;have ih:=as7 (m:=m) (W:=W) (em:=em) l fs (i+1) h hl
    have sZ:∀(fs:List Field) (i n:Nat),AT P fs i=some n->i<=n:=by
     intro fs
     induction fs with
     |nil=>intro i n h;simp only[AT,bC]at h;omega
     |cons f fs ih=>
      intro i n h;simp only[AT]at h;split at h
      ·split at h
       ·cases h
       ·have:=ih _ _ h;omega
      ·cases h
    have hi:=sZ _ _ _ h;have E4:i<l.length:=by omega
    have GZ:iN P f.type=some false:=by unfold iN;rw[hu]
    have hp:(part f.type (l.map iV).toArray f.offset).run P W= .ok (iV l[i]) W:=by
     simp[part,X3 GZ,hn.2,E4]
    have hc:(Instr.checkKey em (m+1) f.type (iV l[i])).run P W= .ok () W:=MapKept.run_checkKey hu (show MapKept.IsKey (.int .i64) (.int .i64 l[i])from rfl) em m
    simp only[List.forIn_cons,Sem.run_bind,hn.1,ne_eq,not_false_eq_true,if_true,Result.andThen_ok,hp,hc,Sem.run_pure];exact ih
  ·cases h
theorem as8{kt:TypeId}{d:TypeDesc}{W:World}(hk:AH P kt=some d){k:Value}(qA:zD d k)(em:Bool):(Instr.checkKey em 10000 kt k).run P W= .ok () W:=by
 unfold AH at hk;split at hk
 ·rename_i fs hu
  split at hk
  ·cases hk
  ·obtain⟨m,hm,he⟩:=PJ hk
   subst he;obtain⟨l,h1,rfl⟩:=MQ qA;rw[show(10000:Nat)=9998+1+1 from rfl,Instr.checkKey]
   simp only[Sem.run_bind,run_underlying hu,Result.andThen_ok];rw[<-Array.forIn_toList];have:=as7 (m:=9998) (W:=W) (em:=em) l fs.toList 0 hm h1;simp only[Sem.run_bind]at this⊢;rw[this];rfl
 ·cases hk
 ·rename_i d0 VO C3
  have MR:∀n e,d≠ .array n e:=fun n e q=>by subst q;exact C3 _ _ hk
  exact MapKept.run_checkKey hk (MP MR qA) em 9999
theorem bP7{d:TypeDesc}{W:World}{k:Value}(qA:zD d k):(Instr.keyThatStays k k).run P W= .ok k W:=by
 by_cases hd:∃n e,d= .array n e
 ·obtain⟨n,e,rfl⟩:=hd
  obtain⟨l,_,rfl⟩:=MQ qA
  have hs:Instr.sameBits 10000 (.agg (l.map iV).toArray) (.agg (l.map iV).toArray)=true:=by
   show Instr.sameBits (9999+1) (.agg (l.map iV).toArray) (.agg (l.map iV).toArray)=true
   simp only[Instr.sameBits,beq_self_eq_true,TO,gK];intro p hp;obtain⟨i,hi,e⟩:=List.getElem_of_mem hp;rw[List.getElem_zip]at e;rw[<-e];simp[iV,Instr.sameBits]
  simp[Instr.keyThatStays,hs]
 ·exact MapKept.run_keyThatStays (MP (fun n e h=>hd ⟨n,e,h⟩) qA)
end
def rI(k:Value):List (Value×AV)->Option AV
 |[]=>none
 |(k',x)::r=>if qW k' k=true then some x else rI k r
def tR(k:Value)(x:AV):List (Value×AV)->List (Value×AV)
 |[]=> [(k,x)]
 |(k',y)::r=>if qW k' k=true then(k',x)::r else(k',y)::tR k x r
theorem Jj{k:Value}:∀{es:List (Value×AV)},(∀p∈es,qW p.1 k=false)->rI k es=none
 |[],_=>rfl
 |(k',x)::r,h=>by
  simp only[rI,h _ (.head _),mG,if_false];exact Jj fun p hp=>h p (.tail _ hp)
theorem Jk{k:Value}{x:AV}:∀{es:List (Value×AV)},(∀p∈es,qW p.1 k=false)->tR k x es=es++[(k,x)]
 |[],_=>rfl
 |(k',y)::r,h=>by
  simp only[tR,h _ (.head _),mG,if_false,yI];rw[Jk fun p hp=>h p (.tail _ hp)]
theorem as9{k:Value}{x:AV}{k':Value}:∀{es:List (Value×AV)} {j:Nat},es[j]? =some (k',x)->qW k' k=true->(∀i,i<j->∀p,es[i]? =some p->qW p.1 k=false)->rI k es=some x
 |[],j,h,_,_=>by simp at h
 |(k0,y)::r,0,h,hs,_=>by
  simp only[nE,bC,cD]at h;obtain⟨rfl,rfl⟩:=h;simp only[rI,hs,if_true]
 |(k0,y)::r,j+1,h,hs,hn=>by
  have h0:=hn 0 (by omega) (k0,y) rfl
  simp only[rI,h0,mG,if_false];exact as9 (by simpa using h) hs fun i hi p hp=>hn (i+1) (by omega) p (by simpa using hp)
theorem at0{k:Value}{x y:AV}{k':Value}:∀{es:List (Value×AV)} {j:Nat},es[j]? =some (k',x)->qW k' k=true->(∀i,i<j->∀p,es[i]? =some p->qW p.1 k=false)->tR k y es=es.set j (k',y)
 |[],j,h,_,_=>by simp at h
 |(k0,z)::r,0,h,hs,_=>by
  simp only[nE,bC,cD]at h;obtain⟨rfl,rfl⟩:=h;simp only[tR,hs,if_true,Gc]
 |(k0,z)::r,j+1,h,hs,hn=>by
  have h0:=hn 0 (by omega) (k0,z) rfl
  simp only[tR,h0,mG,if_false,Ge];rw[at0 (by simpa using h) hs fun i hi p hp=>hn (i+1) (by omega) p (by simpa using hp)]
section
variable {P : Program} {g : Operand -> Option AV} {G : Nat -> Option aI} {aF : Nat} {dst : Option Tmp} {ty : TypeId} {pos : String} {after : Array Edge} {guard : Option (Nat × Bool)}
theorem at1{E:Env}{W:World}{es:List (Value×AV)}{ms:Array MapEntry}{clock:Nat}{kt:TypeId}{d:TypeDesc}{k:Value}(hkd:AH P kt=some d)(hs:MapKept.Stamped ms clock)(hl:ms.size=es.length)
  (hc:∀(i:Nat) k x,es[i]? =some (k,x)->∃e,ms[i]? =some e/\e.key=k/\RV E W x e.val) (hk:tS d k=true) (FL:xO d es=true):
  (∀x∈ms.toList,zD d x.key)/\
  (((Instr.findKey kt k ms.toList).run P W= .ok none W/\(∀x∈ms.toList,x.key≠k)/\rI k es=none/\∀x,tR k x es=es++[(k,x)])\/
  ∃j e x,(Instr.findKey kt k ms.toList).run P W= .ok (some (j,e.val)) W/\ms[j]? =some e/\e.key=k/\es[j]? =some (k,x)/\RV E W x e.val/\rI k es=some x/\∀y,tR k y es=es.set j (k,y)):=by
 have MS:=QR hk
 have bU:∀(i:Nat) e,ms[i]? =some e->∃x,es[i]? =some (e.key,x)/\RV E W x e.val:=fun i e he=>by
  have hi:i<es.length:=by rw[<-hl];exact(jG.1 he).1
  obtain⟨e',h1,h2,h3⟩:=hc i es[i].1 es[i].2 (by rw[eQ hi])
  rw[he]at h1;injection h1 with h1
  subst h1;exact⟨_,by rw[eQ hi,h2],h3⟩
 have eR:∀x∈ms.toList,zD d x.key:=fun x hx=>by
  obtain⟨i,hi⟩:=FY.1 hx;rw[vD]at hi;obtain⟨y,hy,_⟩:=bU i x hi;exact QR (gK.1 FL _ (eS hy))
 refine⟨eR,?_⟩;rcases bP6 (W:=W) hkd MS ms.toList eR with⟨h1,h2⟩|⟨j,e,h1,h2,h3⟩
 ·have eY:∀p∈es,qW p.1 k=false:=fun p hp=>by
   obtain⟨i,hi⟩:=FY.1 hp;obtain⟨e,lC,mX,_⟩:=hc i p.1 p.2 hi;have hm:e∈ms.toList:=by rw[I8];exact I9 lC
   have aJ:=h2 e hm;rw[mX]at aJ;cases pQ:qW p.1 k with
   |false=>rfl
   |true=>exact absurd ((Oo (mX▸eR e hm) MS).1 pQ) aJ
  exact .inl ⟨h1,h2,Jj eY,fun x=>Jk eY⟩
 ·rw[vD]at h2
  obtain⟨x,hx,hr⟩:=bU j e h2;rw[h3]at hx;have pQ:qW k k=true:=(Oo MS MS).2 rfl
  have bG:∀i,i<j->∀p,es[i]? =some p->qW p.1 k=false:=fun i mL p hp=>by
   obtain⟨e',lC,mX,_⟩:=hc i p.1 p.2 hp;have hm:e'∈ms.toList:=by rw[I8];exact I9 lC
   cases pQ:qW p.1 k with
   |false=>rfl
   |true=>
    have heq:=(Oo (mX▸eR e' hm) MS).1 pQ;have nR:=hs.2.2;have g1:(ms.toList.map (·.key))[i]? =some k:=by rw[gE,vD,lC,oU,mX,heq]
    have g2:(ms.toList.map (·.key))[j]? =some k:=by rw[gE,vD,h2,oU,h3]
    have EY:i<(ms.toList.map (·.key)).length:=(dV.1 g1).1
    have:=(List.getElem?_inj EY nR).1 (g1.trans g2.symm);omega
  exact .inr ⟨j,e,x,h1,h2,h3,hx,hr,as9 hx pQ bG,fun y=>at0 hx pQ bG⟩
def QS:List AV->Option (List Value)
 |[]=>some []
 | .c v::r=>if AQ v=true then none else(QS r).map (v:: ·)
 |_=>none
def E5:AV->Option Value
 | .c v=>some v
 | .agg xs=>(QS xs).map fun vs=> .agg vs.toArray
 |_=>none
theorem at2{E:Env}{W:World}:∀(xs:List AV) (vs us:List Value),QS xs=some vs->xs.length=us.length->(∀(i:Nat) x v,xs[i]? =some x->us[i]? =some v->RV E W x v)->us=vs
 |[],vs,us,h,hl,_=>by
  simp only[QS,bC]at h;subst h;exact jQ hl.symm
 |x::xs,vs,us,h,hl,hr=>by
  cases us with
  |nil=>simp at hl
  |cons u us=>
   cases x<;>simp only[QS,reduceCtorEq]at h
   rename_i v;split at h
   ·cases h
   ·obtain⟨ws,h1,h2⟩:=PJ h
    subst h2;have h3:=hr 0 _ u rfl rfl;cases h3;rw[at2 xs ws us h1 (by simpa using hl) fun i x v g1 g2=>hr (i+1) x v (by simpa using g1) (by simpa using g2)]
theorem Ot{E:Env}{W:World}{a:AV}{k v:Value}(h:E5 a=some k)(r:RV E W a v):v=k:=by
 cases a<;>simp only[E5,reduceCtorEq]at h
 ·injection h with h;subst h;cases r;rfl
 ·obtain⟨vs,h1,h2⟩:=PJ h
  subst h2;cases r with
  |agg _ us hl hc=>
  have:=at2 _ _ us.toList h1 (by simpa using hl) fun i x v g1 g2=>hc i x v g1 (by simpa using g2)
  rw[<-this]
theorem bP9{t kt e:TypeId}{d:TypeDesc}{m x:Operand}{ok:Bool}{id:Nat}{es:List (Value×AV)}{kv:Value}{z:AV}(ht:zP P t=some (kt,e,d))(hz:CS P e=some z)(hm:g m=some (.omap id))(hg:G id=some (.map es))
  {xa:AV} (hx:g x=some xa) (MT:E5 xa=some kv) (hk:tS d kv=true) (FL:xO d es=true):
  eM P g G aF ⟨dst,.lookup t m x ok,ty,pos,after,guard⟩ (if ok=true then .aU [(rI kv es).getD z,.c (.bool (rI kv es).isSome)]else(rI kv es).getD z) G:=
 .still fun E W ρ hG aZ=>by
   have wH:=aZ m _ hm;have gQ:=aZ x _ hx;generalize JQ:ρ m=vm at wH;generalize cJ:ρ x=vx at gQ;obtain rfl:=(Ot MT gQ).symm;cases wH;obtain⟨hu,MU⟩:=Dz ht;obtain⟨zv,yC,MJ⟩:=On hz;obtain⟨⟨ms,clock,h1,h2,h3,h4⟩,_,_⟩:=(hG.ok id _ hg).2;obtain⟨eR,hf⟩:=at1 MU h2.1 h3 h4 hk FL;have e1:=MapKept.run_getObj_map (P:=P) h1;have e3:=as8 (P:=P) (W:=W) MU (QR hk) ms.isEmpty
   rcases hf with⟨f1,f2,f3,_⟩|⟨j,e',y,f1,f2,f3,f4,f5,f6,_⟩
   ·have e4:=f1
    have hr:(Instr.lookup t (.map (some (E.ι id))) kv ok).run P W= .ok (if ok=true then .tuple #[zv,.bool false]else zv) W:=by
     simp[Instr.lookup,Sem.run_bind,run_underlying hu,Result.andThen,e1,e3,e4,yC]
    refine⟨_,by simp only[execOp,JQ,cJ];rw[Sem.run_bind,hr];rfl,?_⟩
    rw[f3];cases ok with
    |false=>exact MJ E W
    |true=>
     refine .aU _ _ rfl fun i a v ha hv=> ?_
     rcases i with _|_|i
     ·simp at ha hv;subst ha;subst hv;exact MJ E W
     ·simp at ha hv;subst ha;subst hv;exact .c _ rfl
     ·simp at ha
   ·have e4:=f1
    have hr:(Instr.lookup t (.map (some (E.ι id))) kv ok).run P W= .ok (if ok=true then .tuple #[e'.val,.bool true]else e'.val) W:=by
     simp[Instr.lookup,Sem.run_bind,run_underlying hu,Result.andThen,e1,e3,e4]
    refine⟨_,by simp only[execOp,JQ,cJ];rw[Sem.run_bind,hr];rfl,?_⟩
    rw[f6];cases ok with
    |false=>exact f5
    |true=>
     refine .aU _ _ rfl fun i a v ha hv=> ?_
     rcases i with _|_|i
     ·simp at ha hv;subst ha;subst hv;exact f5
     ·simp at ha hv;subst ha;subst hv;exact .c _ rfl
     ·simp at ha
theorem bQ0{t kt e:TypeId}{d:TypeDesc}{m:Operand}{id:Nat}{es:List (Value×AV)}(ht:zP P t=some (kt,e,d))(hm:g m=some (.omap id))(hg:G id=some (.map es)):
  eM P g G aF ⟨dst,.call ⟨.builtin .len,#[m],#[t]⟩,ty,pos,after,guard⟩ (.c (.int .i64 es.length)) G:=
 .still fun E W ρ hG aZ=>by
   have wH:=aZ m _ hm;generalize JQ:ρ m=vm at wH;cases wH;obtain⟨hu,MU⟩:=Dz ht;obtain⟨⟨ms,clock,h1,h2,h3,h4⟩,_,_⟩:=(hG.ok id _ hg).2;refine⟨.int .i64 es.length,?_,.c _ rfl⟩;rw[AR];simp[builtin,JQ,Builtin.len_,run_underlying hu,MapKept.run_getObj_map h1,goInt,Result.andThen,h3,Sem.run_bind]
theorem bE.bQ1{E:Env}{W:World}{G:Nat->Option aI}{id:Nat}(hU:E.U id){ms:Array MapEntry}{clock:Nat}(hb:W.heap[E.ι id]? =some (.map ms clock))(hL:E.L (E.ι id)=0)(zF:Array MapEntry)(CG:Nat):
  bE E W E {W with heap:=W.heap.setIfInBounds (E.ι id) (.map zF CG)}where
 os:=rfl
 tape:=rfl
 output:=rfl
 size:=by simp
 used:=fun _ h=>h
 kT:=fun _ _=>⟨rfl,rfl⟩
 lim:=fun _=>cE _
 zB:=fun b k hk=>by
  have aJ:b≠E.ι id:=fun e=>by subst e;omega
  have:=(MapKept.heap_set (w:=W) (o':= .map zF CG) hb).2 b aJ;unfold World.cell?;simp only[this]
 tZ:=fun b _ hf=>(MapKept.heap_set (w:=W) (o':= .map zF CG) hb).2 b fun e=>hf id hU e.symm
 b8:=fun b c e f h=>by
  have aJ:b≠E.ι id:=fun e=>by subst e;rw[hb]at h;cases h
  exact⟨c,f,by rw[(MapKept.heap_set (w:=W) (o':= .map zF CG) hb).2 b aJ];exact h,rfl⟩
 still:=fun _ _ _=>rfl
 fresh:=fun id h h'=>absurd h' h
 loops:=fun b r h=>by
  have aJ:b≠E.ι id:=fun e=>by subst e;rw[hb]at h;cases h
  exact⟨r,by rw[(MapKept.heap_set (w:=W) (o':= .map zF CG) hb).2 b aJ];exact h,rfl⟩
theorem bQ2{t kt e:TypeId}{d:TypeDesc}{m x y:Operand}{id:Nat}{es:List (Value×AV)}{kv:Value}{a:AV}(ht:zP P t=some (kt,e,d))(hm:g m=some (.omap id))(hg:G id=some (.map es))
  {xa:AV} (hx:g x=some xa) (MT:E5 xa=some kv) (hy:g y=some a) (hk:tS d kv=true) (FL:xO d es=true):
  eM P g G aF ⟨dst,.mapUpdate t m x y,ty,pos,after,guard⟩ (.c undef) (aX G [(id,some (.map (tR kv a es)))]):=fun E W ρ hG gR aZ=>by
 have wH:=aZ m _ hm;have gQ:=aZ x _ hx;have nJ:=aZ y _ hy;generalize JQ:ρ m=vm at wH;generalize cJ:ρ x=vx at gQ;generalize lE:ρ y=vy at nJ;obtain rfl:=(Ot MT gQ).symm;cases wH;obtain⟨hu,MU⟩:=Dz ht;obtain⟨hU,⟨ms,clock,h1,h2,h3,h4⟩,hL,gG⟩:=hG.ok id _ hg;obtain⟨eR,hf⟩:=at1 MU h2.1 h3 h4 hk FL;have e1:=MapKept.run_getObj_map (P:=P) h1;have e3:=as8 (P:=P) (W:=W) MU (QR hk) false
 have fin:∀(zF:Array MapEntry) (CG:Nat),(Instr.mapUpdate t (.map (some (E.ι id))) kv vy).run P W= .ok () {W with heap:=W.heap.setIfInBounds (E.ι id) (.map zF CG)}->
   Oc zF CG->zF.size=(tR kv a es).length->(∀(i:Nat) k x,(tR kv a es)[i]? =some (k,x)->∃e,zF[i]? =some e/\e.key=k/\RV E W x e.val)->
   ∃W' v E',((execOp ρ ⟨dst,.mapUpdate t m x y,ty,pos,after,guard⟩).run P W= .ok (.value v) W'\/((execOp ρ ⟨dst,.mapUpdate t m x y,ty,pos,after,guard⟩).run P W= .ok .skip W'/\v=undef))/\bE E W E' W'/\
    RC E' W' (aX G [(id,some (.map (tR kv a es)))])/\RV E' W' (.c undef) v/\(∀q,E'.U q->E.U q\/(q=aF/\(aX G [(id,some (.map (tR kv a es)))] aF).isSome=true)):=by
  intro zF CG hr z7 u4 yB;have hv:=bE.bQ1 (G:=G) hU h1 hL zF CG;obtain⟨AP,hs2⟩:=MapKept.heap_set (w:=W) (o':= .map zF CG) h1;refine⟨_,undef,E,.inr ⟨?_,rfl⟩,hv,⟨fun b hb=>hG.lim b (by simpa using hb),fun aM h=>by simpa using hG.eL aM h,fun aM b h=> ?_⟩,.c _ rfl,fun _ h=> .inl h⟩
  ·simp only[execOp,JQ,cJ,lE]
   rw[Sem.run_bind,hr];rfl
  ·by_cases aB:aM=id
   ·subst aB
    simp only[aX,if_true,bC]at h;subst h;refine⟨hU,⟨zF,CG,AP,z7,u4,fun i k x hx=> ?_⟩,hL,fun dI dJ aJ cL=> ?_⟩
    ·obtain⟨e,lC,mX,sN⟩:=yB i k x hx
     exact⟨e,lC,mX,sN.mono hv⟩
    ·simp only[aX,aJ,if_false]at cL
     exact gG dI dJ aJ cL
   ·simp only[aX,aB,if_false]at h
    obtain⟨g2,g3⟩:=hG.ok aM b h;have cY:E.ι aM≠E.ι id:=gG aM b aB h;refine⟨g2,g3.mono hv g2 (hs2 _ cY) rfl fun dI dJ aJ cL he=> ?_⟩
    by_cases JJ:dI=id
    ·subst JJ;exact absurd he.symm cY
    ·simp only[aX,JJ,if_false]at cL
     exact⟨dJ,cL,he,rfl,fun h=>h⟩
 rcases hf with⟨f1,f2,f3,f4⟩|⟨j,e',y',f1,f2,f3,f4,f5,f6,f7⟩
 ·have e4:=f1
  refine fin (ms.push ⟨kv,vy,clock⟩) (clock+1) ?_ ⟨MapKept.stamped_push h2.1 f2,by rw[h2.2.1];simp,fun i e he=>by
   rw[Array.getElem?_push]at he;split at he
   ·rename_i q;injection he with he;subst he;rw[q,h2.2.1]
   ·exact h2.2.2 i e he⟩ (by rw[f4];simp[h3]) fun i k x hx=> ?_
  ·have e2:=MapKept.run_setObj_map (P:=P) (w:=W) (.map (ms.push ⟨kv,vy,clock⟩) (clock+1)) h1
   simp only[Instr.mapUpdate,Sem.run_bind,run_underlying hu,Result.andThen,e1,e3,e4,e2]
  ·rw[f4]at hx
   by_cases hi:i<es.length
   ·rw[kG hi]at hx
    obtain⟨e,lC,mX,sN⟩:=h4 i k x hx;exact⟨e,by rw[Array.getElem?_push_lt (by omega)];rw[G5 (by omega)]at lC;exact lC,mX,sN⟩
   ·have zT:i=es.length:=by
     have:=(dV.1 hx).1;simp at this;omega
    subst zT;simp only[k7 (cE _),CM,nE,bC,cD]at hx;obtain⟨rfl,rfl⟩:=hx;exact⟨⟨kv,vy,clock⟩,by rw[<-h3];simp,rfl,nJ⟩
 ·have e4:=f1
  have e5:=bP7 (P:=P) (W:=W) (QR hk)
  have hjk:∀e∈ms.toList,ms[j]? =some e->({e with key:=kv,val:=vy}:MapEntry).key=e.key:=fun e _ h=>by
   rw[f2]at h;injection h with h;subst h;exact f3.symm
  refine fin (ms.modify j fun e=>{e with key:=kv,val:=vy}) clock ?_ ⟨MapKept.stamped_modify h2.1 j _ (fun _ _=>rfl) hjk,by rw[h2.2.1];simp,fun i e he=>by
   rw[aG8]at he;split at he
   ·rename_i q
    subst q;rw[f2]at he;simp only[oU,bC]at he;subst he;exact(h2.2.2 j e' f2:e'.born=j)
   ·exact h2.2.2 i e he⟩ (by rw[f7];simp[h3]) fun i k x hx=> ?_
  ·have e2:=MapKept.run_setObj_map (P:=P) (w:=W) (.map (ms.modify j fun e=>{e with key:=kv,val:=vy}) clock) h1
   have e6:((ms[j]?).map (·.key)).getD kv=kv:=by rw[f2];simp[f3]
   simp only[Instr.mapUpdate,Sem.run_bind,run_underlying hu,Result.andThen,e1,e3,e4,e6,e5,e2]
  ·rw[f7]at hx
   have hj:j<ms.size:=(jG.1 f2).1;by_cases mL:i=j
   ·subst mL
    rw[YZ (by omega)]at hx
    injection hx with hx
    obtain⟨rfl,rfl⟩:=Prod.mk.inj hx;refine⟨{e' with key:=kv,val:=vy},by rw[aG8];simp[f2],rfl,nJ⟩
   ·rw[O6 (mQ mL)]at hx
    obtain⟨e,lC,mX,sN⟩:=h4 i k x hx;exact⟨e,by rw[aG8];simp[mQ mL,lC],mX,sN⟩
theorem bQ4{t:TypeId}:eM P g G aF ⟨dst,.makeMap t none,ty,pos,after,guard⟩ (.omap aF) (aX G [(aF,some (.map []))]):=fun E W ρ hG gR aZ=>by
 have hv:=bE.alloc hG gR (.map #[] 0) 0;refine⟨_,.map (some W.heap.size),_,.inl ?_,hv,⟨fun b hb=>hG.lim b (by simp at hb;omega),fun id h=> ?_,fun id b h=> ?_⟩,?_,fun id h=>h.imp (fun h=>h) (fun e=>⟨e,by simp[aX]⟩)⟩
 ·simp only[execOp]
  rfl
 ·rcases h with h|h
  ·have aJ:id≠aF:=fun e=>gR (e▸h)
   have:=hG.eL id h;simp[Env.more,aJ];omega
  ·subst h;simp[Env.more]
 ·by_cases aB:id=aF
  ·subst aB
   simp only[aX,if_true,bC]at h;subst h;refine⟨.inr rfl,⟨#[],0,by simp only[Env.more,if_true];exact heap_alloc_new W _,⟨MapKept.stamped_empty 0,rfl,fun i e h=>by simp at h⟩,rfl,fun i k x hx=>by simp at hx⟩,?_,fun aM b' aJ hg=> ?_⟩
   ·simp only[Env.more,if_true];exact hG.lim _ (cE _)
   ·simp only[aX,aJ,if_false]at hg
    have:=hG.eL aM (hG.ok aM b' hg).1;simp only[Env.more,aJ,if_true,if_false];omega
  ·simp only[aX,aB,if_false]at h
   obtain⟨h1,h2⟩:=hG.ok id b h;have bG:=hG.eL id h1;refine⟨.inl h1,h2.mono hv h1 (Below.heap_alloc W _ _ bG) rfl fun aM b' aJ hg he=> ?_⟩
   by_cases vS:aM=aF
   ·subst vS;simp only[Env.more,if_true]at he;omega
   ·simp only[aX,vS,if_false]at hg
    simp only[Env.more,vS,if_false]at he;exact⟨b',hg,he,rfl,fun h=>h⟩
 ·have:=RV.omap (E:=E.more aF W.heap.size 0) (W:=W.alloc (.map #[] 0)) aF (.inr rfl)
  simpa[Env.more]using this
def X9:Value->AV
 | .agg cs=> .agg (cs.toList.map AV.c)
 |v=> .c v
theorem at3{E:Env}{W:World}{d:TypeDesc}{k:Value}(h:tS d k=true):RV E W (X9 k) k:=by
 have h2:=QR h;by_cases hd:∃n e,d= .array n e
 ·obtain⟨n,e,rfl⟩:=hd
  obtain⟨l,_,rfl⟩:=MQ h2;exact Oq E W l
 ·have h3:=MP (fun n e h=>hd ⟨n,e,h⟩) h2
  cases d<;>cases k<;>simp only[MapKept.IsKey]at h3<;>exact .c _ rfl
theorem bQ5{t kt e:TypeId}{d:TypeDesc}{m:Operand}{id:Nat}{es:List (Value×AV)}(ht:zP P t=some (kt,e,d))(hm:g m=some (.omap id))(hg:G id=some (.map es)):
  eM P g G aF ⟨dst,.range t m,ty,pos,after,guard⟩ (.ptr aF 0 0) (aX G [(aF,some (.iter id es.length []))]):=fun E W ρ hG gR aZ=>by
 have wH:=aZ m _ hm;generalize JQ:ρ m=vm at wH;cases wH;obtain⟨hu,MU⟩:=Dz ht;obtain⟨hU,⟨ms,clock,h1,h2,h3,h4⟩,_,_⟩:=hG.ok id _ hg;have iE:clock=es.length:=by rw[h2.2.1,h3]
 subst iE;have hv:=bE.alloc hG gR (.mapIter (some (E.ι id)) es.length #[] es.length) 0;have ar5:id≠aF:=fun e=>gR (e▸hU)
 refine⟨_,.pointer (some ⟨W.heap.size,0,none⟩),_,.inl ?_,hv,⟨fun b hb=>hG.lim b (by simp at hb;omega),fun id h=> ?_,fun id b h=> ?_⟩,?_,fun id h=>h.imp (fun h=>h) (fun e=>⟨e,by simp[aX]⟩)⟩
 ·simp only[execOp,JQ]
  rw[Sem.run_bind];simp[Instr.range,run_underlying hu,MapKept.run_getObj_map h1]
 ·rcases h with h|h
  ·have aJ:id≠aF:=fun e=>gR (e▸h)
   have:=hG.eL id h;simp[Env.more,aJ];omega
  ·subst h;simp[Env.more]
 ·by_cases aB:id=aF
  ·subst aB
   simp only[aX,if_true,bC]at h;subst h;refine⟨.inr rfl,⟨?_,.inl hU⟩,?_,fun aM b' aJ hg=> ?_⟩
   ·simp only[Env.more,if_true,ar5,if_false];exact heap_alloc_new W _
   ·simp only[Env.more,if_true];exact hG.lim _ (cE _)
   ·simp only[aX,aJ,if_false]at hg
    have:=hG.eL aM (hG.ok aM b' hg).1;simp only[Env.more,aJ,if_true,if_false];omega
  ·simp only[aX,aB,if_false]at h
   obtain⟨h1,h2⟩:=hG.ok id b h;have bG:=hG.eL id h1;refine⟨.inl h1,h2.mono hv h1 (Below.heap_alloc W _ _ bG) rfl fun aM b' aJ hg he=> ?_⟩
   by_cases vS:aM=aF
   ·subst vS;simp only[Env.more,if_true]at he;omega
   ·simp only[aX,vS,if_false]at hg
    simp only[Env.more,vS,if_false]at he;exact⟨b',hg,he,rfl,fun h=>h⟩
 ·have:=RV.ptr (E:=E.more aF W.heap.size 0) (W:=W.alloc (.mapIter (some (E.ι id)) es.length #[] es.length)) aF 0 0 (.inr rfl)
  simpa[Env.more]using this
theorem bQ6{d:TypeDesc}{x:Operand}{id m n i:Nat}{seen:List Nat}{es:List (Value×AV)}{k:Value}{a:AV}(hx:g x=some (.ptr id 0 0))(hg:G id=some (.iter m n (seen++[i])))(hm:G m=some (.map es))
  (hn:es.length=n) (he:es[i]? =some (k,a)) (hk:tS d k=true):eM P g G aF ⟨dst,.entry x,ty,pos,after,guard⟩ (.aU [X9 k,a]) G:=
 .still fun E W ρ hG aZ=>by
   have gQ:=aZ x _ hx;generalize cJ:ρ x=vx at gQ;cases gQ;obtain⟨⟨ms,clock,h1,h2,h3,h4⟩,_,_⟩:=(hG.ok m _ hm).2;obtain⟨⟨h5,h7⟩,_,_⟩:=(hG.ok id _ hg).2;have iE:clock=n:=by rw[h2.2.1,h3,hn]
   subst iE;obtain⟨en,lC,mX,sN⟩:=h4 i k a he;have hb:en.born=i:=h2.2.2 i en lC;have nQ:en∈ms.toList:=by rw[I8];exact I9 lC
   have hf:ms.find? (·.born==i)=some en:=by rw[<-Array.find?_toList,<-hb];exact find_born en ms.toList h2.1.2.1 nQ
   have HD:(seen++[i]).toArray.back? =some i:=by simp
   refine⟨.tuple #[en.key,en.val],?_,.aU _ _ rfl fun j y v hy hv=> ?_⟩
   ·simp only[execOp,cJ,CN,zN]
    rw[Sem.run_bind];simp only[Instr.entry,getObj,Sem.run_bind,Sem.run,h5,Result.andThen,h1,HD,bne_self_eq_false,mG,if_false,hf];rfl
   ·rcases j with _|_|j
    ·simp at hy hv;subst hy;subst hv;rw[mX];exact at3 hk
    ·simp at hy hv;subst hy;subst hv;exact sN
    ·simp at hy
theorem run_next_any{W:World}{r bm n clock:Nat}{seen:List Nat}{ms:Array MapEntry}{ty:TypeId}(hr:W.heap[r]? =some (.mapIter (some bm) n seen.toArray n))(hb:W.heap[bm]? =some (.map ms clock))(hs:Oc ms clock)(hn:ms.size=n):
  ((∀i,i<n->i∈seen)/\(Instr.next (.pointer (some ⟨r,0,none⟩)) false ty).run P W= .ok (.tuple #[.bool false]) W)\/
  ∃i e,i<n/\i∉seen/\ms[i]? =some e/\∃w1,(w1=W\/w1=W.drew)/\(Instr.next (.pointer (some ⟨r,0,none⟩)) false ty).run P W= .ok (.tuple #[.bool true,e.key,e.val]) {w1 with heap:=w1.heap.setIfInBounds r (.mapIter (some bm) n (seen++[i]).toArray n)}:=by
 have iE:clock=n:=by rw[hs.2.1,hn]
 subst iE;have Ou:∀e∈ms.toList,e.born<clock:=fun e he=>hs.1.1 e he
 simp only[Instr.next,getObj,Sem.run_bind,Sem.run,hr,hb,Result.andThen,next_test_false seen.toArray ms clock clock Ou (cE _),mG,if_false]
 have nQ:∀x∈(Array.filter (fun e=> !seen.toArray.contains e.born) ms).toList,x∈ms.toList/\x.born∉seen:=fun x hx=>by
  simp at hx;exact⟨I8.2 hx.1,hx.2⟩
 have eR:∀x∈ms.toList,x.born∉seen->x∈(Array.filter (fun e=> !seen.toArray.contains e.born) ms).toList:=fun x hx h=>by
  simp;exact⟨I8.1 hx,h⟩
 generalize Array.filter (fun e=> !seen.toArray.contains e.born) ms=L at nQ eR⊢
 have e1:L.filter (fun x=>decide (x.born<clock))=L:=Array.filter_eq_self.2 (fun x hx=>by simpa using Ou x (nQ x (by simpa using hx)).1)
 have e2:L.filter (fun x=>decide (x.born>=clock))= #[]:=by
  rw[Array.filter_eq_empty_iff];intro x hx;have:=Ou x (nQ x (by simpa using hx)).1
  simp;omega
 simp only[e1,e2,Array.append_empty];by_cases h0:L.size=0
 ·left
  have:L= #[]:=cp9 h0;subst this;refine⟨fun i hi=> ?_,by simp[choose,Sem.run,Question.forced]⟩
  apply aG9;intro VO;have hg:ms[i]? =some ms[i]:=G5 (by omega)
  have A4:=hs.2.2 i _ hg;have:=eR ms[i] (by simp) (by rw[A4];exact VO)
  simp at this
 ·right
  have aJ:L.isEmpty=false:=by simp[Array.isEmpty,h0]
  simp only[aJ,mG,if_false,Array.empty_append,Array.size_map]
  have ZV:∃(j:Nat) (w1:World),j<L.size/\(w1=W\/w1=W.drew)/\(choose (Question.mapNext L.size)).run P W= .ok j w1:=by
   by_cases hf:L.size<=1
   ·exact⟨0,W,by omega,.inl rfl,by simp[choose,Sem.run,Question.forced,hf]⟩
   ·exact⟨_,W.drew,zO _ (by omega),.inr rfl,by
     simp only[choose,Sem.run,Question.forced,decide_eq_true_eq,hf,if_false,Question.cut]
     rfl⟩
  obtain⟨j,w1,hj,FI,dA⟩:=ZV;obtain⟨h5,h6⟩:=nQ L[j] (by simp)
  obtain⟨i,hi⟩:=FY.1 h5;rw[vD]at hi;have A4:=hs.2.2 i _ hi;have E4:i<clock:=by rw[<-hn];exact(jG.1 hi).1
  have GR:w1.heap[r]? =some (.mapIter (some bm) clock seen.toArray clock):=by rcases FI with rfl|rfl<;>exact hr
  refine⟨i,L[j],E4,by rw[<-A4];exact h6,hi,w1,FI,?_⟩
  simp only[dA,Z4,G5 hj,oU,Sem.run_bind,Result.andThen,A4];simp only[setObj,Sem.run,GR];simp
end
end Go.AL
namespace Go.AL
open Go.RowKit
section
variable {P : Program} {g : Operand -> Option AV} {G : Nat -> Option aI} {aF : Nat} {dst : Option Tmp} {ty : TypeId} {pos : String} {after : Array Edge} {guard : Option (Nat × Bool)}
theorem bQ7{a0:Option Addr}{t e:TypeId}{k:Nat}{x y:Operand}{b:AV}{rd:List Nat}(ht:fG P t=some (e,k))(hx:g x=some (.c (.slice a0 0 0)))(hy:g y=some b)(hb:rowsOf G b=some ([],rd)):
  eM P g G aF ⟨dst,.call ⟨.builtin .append,#[x,y],#[t,t]⟩,ty,pos,after,guard⟩ (.c (.slice a0 0 0)) G:=
 .still fun E W ρ hG aZ=>by
   have gQ:=aZ x _ hx;have nJ:=aZ y _ hy;generalize cJ:ρ x=vx at gQ;generalize lE:ρ y=vy at nJ;obtain⟨X7,n2,AG,rfl,oP,_,_⟩:=QN hG nJ hb;simp at oP;subst oP;cases gQ;refine⟨_,?_,.c _ rfl⟩;rw[AR];simp only[builtin,BF,gJ,tK,cJ,lE];rw[Sem.run_bind,Om ht _ _ _ _ _ _ (cE _)];rfl
theorem bQ8{a0:Option Addr}{t e:TypeId}{k nZ:Nat}{zs:List AV}{x y:Operand}{bA:List (List AV)}{b:AV}{rd:List Nat}(ht:fG P t=some (e,k))(hz:fT P e=some zs)(CE:zs.length=k)(rC:qQ P e=some nZ)
  (hx:g x=some (.c (.slice a0 0 0))) (hy:g y=some b) (hb:rowsOf G b=some (bA,rd)) (aJ:bA≠[]) (h1:bA.all (fun r=>r.length==k&&r.all AV.one)=true)
  (MN:bA.length<=9223372036854775807) (DG:bA.length*nZ<=140737488355328):
  eM P g G aF ⟨dst,.call ⟨.builtin .append,#[x,y],#[t,t]⟩,ty,pos,after,guard⟩ (.own aF 0 bA.length) (aX G [(aF,some (.cells e k bA true true))]):=fun E W ρ hG gR aZ=>by
 have gQ:=aZ x _ hx;have nJ:=aZ y _ hy;generalize cJ:ρ x=vx at gQ;generalize lE:ρ y=vy at nJ;cases gQ;obtain⟨hu,hk⟩:=x9 ht;obtain⟨i,z,hi,vA,yC⟩:=JK hz;have iH:=Du hi hk;have FG:i.bytes=nZ:=by simp[qQ,hi]at rC;exact rC
 have h8:z.cells.size=k:=by have:=(yC E W).1;simp at this;omega
 obtain⟨b2,p2,AG,fB,news,vR,xN,sI,FJ⟩:=PH hG nJ hb aJ h1;subst fB;have IB:0<bA.length:=O2.2 aJ;have DK:∀(j:Nat) u,news[j]? =some u->W.cell? ((⟨b2,p2,none⟩:Addr).add j)=some u:=fun j u hu=>by rw[Addr.add_lit];exact xN j u hu
 have hr:(Builtin.append_ #[t,t] ty #[.slice a0 0 0,.slice (some ⟨b2,p2,none⟩) bA.length AG]).run P W= .ok (.slice (some ⟨W.heap.size,0,none⟩) bA.length (grownCap W bA.length 0 e)) (W.drew.alloc (.cells (news.toArray++Builtin.zeroCells z.cells (grownCap W bA.length 0 e-bA.length)) e)):=by
  cases a0 with
  |none=>exact run_append_nil (P:=P) W t ty e i z hu hi vA ⟨b2,p2,none⟩ bA.length AG news (by rw[iH];exact vR) DK IB (by omega) (by rw[FG];omega)
  |some a1=>
   have h:=run_append_grow (P:=P) W t ty e i z hu hi vA a1 0 0 [] (by simp) (fun j u hu=>by simp at hu) ⟨b2,p2,none⟩ bA.length AG news (by rw[iH];exact vR) DK (by omega) (by simp;omega) (growslice_fits (by omega) (by rw[FG];simpa using DG))
   simpa using h
 have sZ:=grownCap_ge W bA.length 0 e
 have FH:(news.toArray++Builtin.zeroCells z.cells (grownCap W bA.length 0 e-bA.length)).size=grownCap W bA.length 0 e*k:=by
  simp only[Tv,TL,vR,size_zeroCells,h8,<-oW];congr 1;omega
 have hmul:bA.length*k<=grownCap W bA.length 0 e*k:=nN k sZ;have JN:=hG.drew
 have FI:=JN.alloc gR e (news.toArray++Builtin.zeroCells z.cells (grownCap W bA.length 0 e-bA.length)) k bA true true (Dv h1) (by omega) (fun i j row x h5 h6=>by
  obtain⟨v,h7,h9⟩:=FJ i j row x h5 h6;refine⟨v,?_,h9.mono (bE.drew E W)⟩;have:i*k+j<news.length:=(dV.1 h7).1
  rw[TP (by simpa using this)];simpa using h7)
 have hv:=(bE.drew E W).trans (bE.alloc JN gR (.cells (news.toArray++Builtin.zeroCells z.cells (grownCap W bA.length 0 e-bA.length)) e) k);refine⟨_,.slice (some ⟨W.heap.size,0,none⟩) bA.length (grownCap W bA.length 0 e),_,.inl ?_,hv,FI,?_,fun id h=>h.imp (fun h=>h) (fun e=>⟨e,by simp[aX]⟩)⟩
 ·rw[AR]
  simp only[builtin,BF,gJ,tK,cJ,lE];rw[Sem.run_bind,hr];rfl
 ·have:=RV.own (E:=E.more aF W.drew.heap.size k) (W:=W.drew.alloc (.cells (news.toArray++Builtin.zeroCells z.cells (grownCap W bA.length 0 e-bA.length)) e)) aF 0 bA.length (grownCap W bA.length 0 e) (.inr rfl) sZ
   ⟨_,e,(0,0),by simp only[Env.more,if_true];exact heap_alloc_new W.drew _,by simp only[Env.more,if_true];rw[FH];simp⟩
  simpa[Env.more]using this
theorem bQ9{t e:TypeId}{k nZ:Nat}{zs:List AV}{x y:Operand}{kl kc:IntKind}{l c:Int}(ht:fG P t=some (e,k))(hz:fT P e=some zs)(CE:zs.length=k)(rC:qQ P e=some nZ)
  (hx:g x=some (.c (.int kl l))) (hy:g y=some (.c (.int kc c))) (h0:0<=l) (eC:l<=c) (MN:c<=9223372036854775807) (DG:(nZ:Int)*c<=281474976710656):
  eM P g G aF ⟨dst,.makeSlice t x y,ty,pos,after,guard⟩ (.own aF 0 l.toNat) (aX G [(aF,some (.cells e k (List.replicate l.toNat zs) true true))]):=fun E W ρ hG gR aZ=>by
 have gQ:=aZ x _ hx;have nJ:=aZ y _ hy;generalize cJ:ρ x=vx at gQ;generalize lE:ρ y=vy at nJ;cases gQ;cases nJ;obtain⟨hu,hk⟩:=x9 ht;obtain⟨i,z,hi,vA,yC⟩:=JK hz;have iH:=Du hi hk;have FG:i.bytes=nZ:=by simp[qQ,hi]at rC;exact rC
 have h8:z.cells.size=k:=by have:=(yC E W).1;simp at this;omega
 have hr:=run_make (P:=P) W t e i z hu hi vA kl kc l c h0 eC (by rw[FG];exact DG) MN
 rw[iH]at hr;have hmul:l.toNat*k<=c.toNat*k:=nN k (by omega)
 have bH:∀(i:Nat) row,(List.replicate l.toNat zs)[i]? =some row->i<l.toNat/\row=zs:=fun i row hr=>by
  rw[O8]at hr;split at hr
  ·rename_i h;injection hr with hr;exact⟨h,hr.symm⟩
  ·cases hr
 have FI:=hG.alloc gR e (madeCells z.cells (c.toNat*k)) k (List.replicate l.toNat zs) true true (fun i row hr=>by rw[(bH i row hr).2];exact CE) (by rw[size_madeCells];simpa using hmul) (fun i j row x h5 h6=>by
  obtain⟨h9,rfl⟩:=bH i row h5;obtain⟨v,h7,dY⟩:=(yC E W).get h6;have hj:j<k:=by rw[<-CE];exact(dV.1 h6).1
  have bG:=yA h9 hj;refine⟨v,?_,dY⟩;have J7:(i*k+j) % k=j:=by rw[Z3,aH0];exact wC hj
  have DN:j<z.cells.size:=by omega
  have hv:z.cells[j]? =some v:=by simpa using h7
  have rX:i*k+j<c.toNat*k:=by omega
  unfold madeCells
  rw[Z4,aH1,if_pos rX,oU,h8,J7,getElem!_def,hv])
 refine⟨_,.slice (some ⟨W.heap.size,0,none⟩) l.toNat c.toNat,_,.inl ?_,bE.alloc hG gR (.cells (madeCells z.cells (c.toNat*k)) e) k,FI,?_,fun id h=>h.imp (fun h=>h) (fun e=>⟨e,by simp[aX]⟩)⟩
 ·simp only[execOp,cJ,lE]
  rw[Sem.run_bind,hr];rfl
 ·have:=RV.own (E:=E.more aF W.heap.size k) (W:=W.alloc (.cells (madeCells z.cells (c.toNat*k)) e)) aF 0 l.toNat c.toNat (.inr rfl) (by omega)
   ⟨_,e,(0,0),by simp only[Env.more,if_true];exact heap_alloc_new W _,by simp only[Env.more,if_true];rw[size_madeCells];simp⟩
  simpa[Env.more]using this
theorem bR0{x:Operand}{id i o:Nat}(hx:g x=some (.ptr id i o)):eM P g G aF ⟨dst,.nilCheck x,ty,pos,after,guard⟩ (.ptr id i o) G:=
 .still fun E W ρ hG aZ=>by
   have gQ:=aZ x _ hx;generalize cJ:ρ x=vx at gQ;refine⟨vx,?_,gQ⟩;cases gQ;simp[execOp,cJ]
theorem bR1{x:Operand}{rows:List (List AV)}{i o:Nat}(hx:g x=some (.dD rows i o)):eM P g G aF ⟨dst,.nilCheck x,ty,pos,after,guard⟩ (.dD rows i o) G:=
 .still fun E W ρ hG aZ=>by
   have gQ:=aZ x _ hx;generalize cJ:ρ x=vx at gQ;refine⟨vx,?_,gQ⟩;cases gQ;simp[execOp,cJ]
end
def dZ(g:Operand->Option AV):List Operand->Option (List AV)
 |[]=>some []
 |x::r=>match g x,dZ g r with
  |some a,some l=>some (a::l)
  |_,_=>none
theorem xA{E:Env}{W:World}{g:Operand->Option AV}{ρ:Operand->Value}(aZ:∀x b,g x=some b->RV E W b (ρ x)):∀(xs:List Operand) (as:List AV),dZ g xs=some as->bX E W as (xs.map ρ)
 |[],as,h=>by simp only[dZ,bC]at h;subst h;exact .nil
 |x::r,as,h=>by
  simp only[dZ]at h;split at h
  ·rename_i a l ha hl
   injection h with h
   subst h;exact .cons (aZ x a ha) (xA aZ r l hl)
  ·cases h
theorem bR2{P:Program}{g:Operand->Option AV}{G:Nat->Option aI}{aF:Nat}{dst:Option Tmp}{ty:TypeId}{pos:String}{after:Array Edge}{guard:Option (Nat×Bool)}{fn:Fn}{first captured:Array Operand}{fs cs:List AV}
  (hf:dZ g first.toList=some fs) (hc:dZ g captured.toList=some cs):eM P g G aF ⟨dst,.makeFunc fn first captured,ty,pos,after,guard⟩ (.fn fn fs cs) G:=
 .still fun E W ρ hG aZ=>by
   have h1:=xA aZ _ _ hf;have h2:=xA aZ _ _ hc;exact⟨.func fn (first.map ρ) (captured.map ρ),by simp[execOp,Instr.makeFunc],.fn fn fs cs _ _ (by simpa using h1.1) (by simpa using h2.1) (fun i x v hx hv=>h1.2 i x v hx (by simpa using hv)) (fun i x v hx hv=>h2.2 i x v hx (by simpa using hv))⟩
abbrev kJ:=AV×List (Nat×Option aI)×List Nat
section
variable (P : Program) (g : Operand -> Option AV) (G : Nat -> Option aI) (aF : Nat)
def Ov(b p q:Option AV):Option kJ:=
 match b with
 |some (.c (.bool b))=>match p,q with
  |some (.c (.bool p)),some (.c (.bool q))=>some (.c (.bool (cond b p q)),[],[])
  |_,_=>match b with
   |true=>p.map fun a=>(a,[],[])
   |false=>q.map fun a=>(a,[],[])
 |_=>none
def GK:Value->Bool
 | .slice none n c=>n==0&&c==0
 |_=>false
def Ow(op:BinOp)(t:TypeId)(x:AV)(b:Value):Option kJ:=
 match GK b with
 |true=>match fG P t,X8 x with
  |some _,some r=>(FK op r).map fun v=>(.c v,[],[])
  |_,_=>none
 |false=>match x with
  | .c a=>(MI P op t a b).map fun v=>(.c v,[],[])
  |_=>none
def Ox(op:BinOp)(t:TypeId):Option AV->Option AV->Option kJ
 |some x,some (.c b)=>Ow P op t x b
 |some (.agg xs),some (.agg ys)=>match EL P t (.agg xs) (.agg ys)with
  |some r=>(FK op r).map fun v=>(.c v,[],[])
  |none=>none
 |_,_=>none
def Oy:UnOp->Option AV->Option kJ
 | .not,some (.c (.bool b))=>some (.c (.bool (!b)),[],[])
 | .neg,some (.c (.int k n))=>some (.c (.int k (k.wrap (0-n))),[],[])
 | .xor,some (.c (.int k n))=>some (.c (.int k (bits .xor k (if k.signed then-1 else k.max) n)),[],[])
 |_,_=>none
def Oz(src t:TypeId):Option AV->Option kJ
 |some (.c (.int _ n))=>match xF P src,xF P t with
  |some _,some kd=>some (.c (.int kd (kd.wrap n)),[],[])
  |_,_=>none
 |_=>none
def Kb:List AV->Option Int
 |[.c (.int .u8 n)]=>some n
 |_=>none
def IW:List (List AV)->Option (List Int)
 |[]=>some []
 |r::rs=>match Kb r,IW rs with
  |some n,some l=>some (n::l)
  |_,_=>none
def LA(l:List Int):ByteArray:=l.foldl (fun r n=>r.push (UInt8.ofNat n.toNat)) ByteArray.empty
def Ec(src t:TypeId)(a:Option AV):Option kJ:=
 match oX P t isString with
 |true=>match fG P src,a.bind (rowsOf G)with
  |some (e,1),some (rows,rd)=>match xF P e,IW rows with
   |some .u8,some l=>some (.c (.string (LA l)),[],rd)
   |_,_=>none
  |_,_=>none
 |false=>none
def QT(src t:TypeId):Option AV->Option kJ
 |some (.c (.int k n))=>Oz P src t (some (.c (.int k n)))
 |a=>Ec P G src t a
def Pb(t:TypeId):Option AV->Option kJ
 |some (.snap rows)=>match sO P t with
  |some (n,_,k)=>if k=1/\0<n/\n<=rows.length/\rows.all (fun r=>r.length==1)=true then some (.dD [(rows.take n).flatten] 0 0,[],[])else none
  |none=>none
 |_=>none
def Pc(t:TypeId):Option AV->Option kJ
 |some (.c (.slice _ _ c))=>match fG P t with
  |some _=>some (.c (.int .i64 c),[],[])
  |none=>none
 |_=>none
def Pd(t t':TypeId):Option AV->Option AV->Option kJ
 |some (.c (.slice none 0 0)),some (.c (.int _ n))=>match fG P t,xF P t' with
  |some (e,k),some _=>match fT P e,qQ P e with
   |some zs,some nZ=>if zs.length=k/\0<k/\0<n/\n<=9223372036854775807/\n*nZ<=281474976710656 then some (.own aF 0 n.toNat,[(aF,some (.cells e k (List.replicate n.toNat zs) true true))],[])else none
   |_,_=>none
  |_,_=>none
 |_,_=>none
def Pe(i:Nat):Option AV->Option kJ
 |some (.aU xs)=>(xs[i]?).map fun a=>(a,[],[])
 |_=>none
def Pf(t:TypeId)(f:Nat):Option AV->Option kJ
 |some (.agg xs)=>match dQ P t f with
  |some (off,_,ft)=>(tT P ft xs off).map fun a=>(a,[],[])
  |none=>none
 |_=>none
def Pg(t:TypeId)(f:Nat):Option AV->Option kJ
 |some (.ptr id i o)=>match dQ P t f with
  |some (off,k,_)=>if k≠0 then some (.ptr id i (o+off),[],[])else none
  |none=>none
 |some (.dD rows i o)=>match dQ P t f with
  |some (off,k,_)=>if k≠0 then some (.dD rows i (o+off),[],[])else none
  |none=>none
 |_=>none
def QU(t:TypeId):Option AV->Option kJ
 |some p=>match deref G p with
  |some (row,o,rd)=>(tT P t row o).map fun a=>(a,[],rd)
  |none=>none
 |none=>none
def QV(t:TypeId):Option AV->Option AV->Option kJ
 |some (.ptr id i o),some a=>match G id with
  |some (.cells e s rows true ap)=>match rows[i]?,dX P t with
   |some row,some k=>if a.cells.length=k/\o+k<=row.length/\a.cells.all AV.one=true then some (.c undef,[(id,some (.cells e s (rows.set i (x8 row o a.cells)) true ap))],[id])else none
   |_,_=>none
  |_=>none
 |_,_=>none
def QW(t:TypeId):Option AV->Option AV->Option kJ
 |some (.own id off len),some (.c (.int _ i))=>match fG P t,G id with
  |some (_,k),some (.cells _ k' _ _ _)=>if k=k'/\0<=i/\i<len then some (.ptr id (off+i.toNat) 0,[],[id])else none
  |_,_=>none
 |some (.snap rows),some (.c (.int _ i))=>match fG P t,rows[i.toNat]? with
  |some (_,k),some row=>if 0<=i/\row.length=k then some (.dD rows i.toNat 0,[],[])else none
  |_,_=>none
 |some (.ptr id r o),some (.c (.int _ i))=>match sO P t with
  |some (n,_,k)=>if 0<=i/\i<n then some (.ptr id r (o+i.toNat*k),[],[])else none
  |none=>none
 |some (.dD rows r o),some (.c (.int _ i))=>match sO P t with
  |some (n,_,k)=>if 0<=i/\i<n then some (.dD rows r (o+i.toNat*k),[],[])else none
  |none=>none
 |_,_=>none
def Ph(t:TypeId):Option AV->Option AV->Option kJ
 |some (.agg xs),some (.c (.int _ i))=>match sO P t with
  |some (n,e,k)=>if 0<=i/\i<n then(tT P e xs (i.toNat*k)).map fun a=>(a,[],[])else none
  |none=>none
 |some (.c (.string s)),some (.c (.int _ i))=>if oX P t isString=true/\0<=i then(s[i.toNat]?).map fun b=>(.c (.int .u8 b.toNat),[],[])else none
 |_,_=>none
def QX(t:TypeId)(l h:Nat->Option Int):Option AV->Option kJ
 |some (.c (.slice none 0 0))=>match fG P t,l 0,h 0 with
  |some _,some 0,some 0=>some (.c (.slice none 0 0),[],[])
  |_,_,_=>none
 |some (.snap rows)=>match fG P t,l rows.length,h rows.length with
  |some (_,k),some l,some h=>if 0<=l/\l<=h/\h<=rows.length/\rows.all (fun r=>r.length==k)=true then some (.snap ((rows.drop l.toNat).take (h-l).toNat),[],[])else none
  |_,_,_=>none
 |some (.own id off len)=>match fG P t,G id,l len,h len with
  |some (_,k),some (.cells _ k' _ _ _),some l,some h=>if k=k'/\0<=l/\l<=h/\h<=len then some (.own id (off+l.toNat) (h-l).toNat,[],[id])else none
  |_,_,_,_=>none
 |some (.ptr id i o)=>match sO P t,G id with
  |some (n,_,1),some (.cells _ _ rows _ _)=>match rows[i]?,l n,h n with
   |some row,some l,some h=>if o+n<=row.length/\0<=l/\l<=h/\h<=n/\l<n then some (.sub id i (o+l.toNat) (h-l).toNat,[],[id])else none
   |_,_,_=>none
  |_,_=>none
 |some (.dD rows i o)=>match sO P t,rows[i]? with
  |some (n,_,1),some row=>match l n,h n with
   |some l,some h=>if o+n<=row.length/\0<=l/\l<=h/\h<=n/\l<n then some (.snap (((row.drop (o+l.toNat)).take (h-l).toNat).map fun x=> [x]),[],[])else none
   |_,_=>none
  |_,_=>none
 |_=>none
def QY(t:TypeId)(l h m:Nat->Option Int):Option AV->Option kJ
 |some (.snap rows)=>match fG P t,l rows.length,h rows.length,m rows.length with
  |some (_,k),some l,some h,some m=>if 0<=l/\l<=h/\h<=m/\m<=rows.length/\rows.all (fun r=>r.length==k)=true then some (.snap ((rows.drop l.toNat).take (h-l).toNat),[],[])else none
  |_,_,_,_=>none
 |some (.own id off len)=>match fG P t,G id,l len,h len,m len with
  |some (_,k),some (.cells _ k' _ _ _),some l,some h,some m=>if k=k'/\0<=l/\l<=h/\h<=m/\m<=len then some (.own id (off+l.toNat) (h-l).toNat,[],[id])else none
  |_,_,_,_,_=>none
 |_=>none
def QZ(t:TypeId)(ok:Bool):Option AV->Option AV->Option kJ
 |some (.omap id),some xa=>match E5 xa,G id,zP P t with
  |some kv,some (.map es),some (_,e,d)=>match CS P e with
   |some z=>if tS d kv=true/\xO d es=true then some (if ok=true then .aU [(rI kv es).getD z,.c (.bool (rI kv es).isSome)]else(rI kv es).getD z,[],[id])else none
   |none=>none
  |_,_,_=>none
 |_,_=>none
def R3(t:TypeId):Option AV->Option AV->Option AV->Option kJ
 |some (.omap id),some xa,some a=>match E5 xa,G id,zP P t with
  |some kv,some (.map es),some (_,_,d)=>if tS d kv=true/\xO d es=true then some (.c undef,[(id,some (.map (tR kv a es)))],[id])else none
  |_,_,_=>none
 |_,_,_=>none
def R4(t:TypeId):Option AV->Option kJ
 |some (.omap id)=>match G id,zP P t with
  |some (.map es),some _=>some (.ptr aF 0 0,[(aF,some (.iter id es.length []))],[id])
  |_,_=>none
 |_=>none
def XA(k:Value):Bool:=match k with
 | .agg cs=>tS (.array cs.toList.length 0) k
 | .bool _=>true
 | .int _ _=>true
 | .string _=>true
 |_=>false
def R5:Option AV->Option kJ
 |some (.ptr id 0 0)=>match G id with
  |some (.iter m n seen)=>match seen.getLast?,G m with
   |some i,some (.map es)=>match es[i]? with
    |some (k,a)=>if es.length=n/\XA k=true then some (.aU [X9 k,a],[],[id,m])else none
    |none=>none
   |_,_=>none
  |_=>none
 |_=>none
def R6(t:TypeId):Option AV->Option kJ
 |some (.omap id)=>match G id,zP P t with
  |some (.map es),some _=>some (.c (.int .i64 es.length),[],[id])
  |_,_=>none
 |some (.c (.string s))=>if oX P t isString=true then some (.c (.int .i64 s.size),[],[])else none
 |some a=>match fG P t,X5 a with
  |some _,some n=>some (.c (.int .i64 n),[],[])
  |_,_=>none
 |none=>none
def XB(f:Int->Int->Int):Option AV->Option AV->Option kJ
 |some (.c (.int k a)),some (.c (.int _ b))=>some (.c (.int k (f a b)),[],[])
 |_,_=>none
def R7(t:TypeId):Option AV->Option AV->Option kJ
 |some (.own id 0 n),some b=>match G id,rowsOf G b,fG P t with
  |some (.cells e k rows w true),some (bA,rd),some (e',k')=>match fT P e,qQ P e with
   |some zs,some nZ=>if e'=e/\k'=k/\zs.length=k/\n=rows.length/\bA.all (fun r=>r.length==k&&r.all AV.one)=true/\n+bA.length<=9223372036854775807/\(n+bA.length)*nZ<=140737488355328
    then some (.own aF 0 (n+bA.length),[(id,CF e k rows w),(aF,some (.cells e k (rows++bA) w true))],id::rd)else none
   |_,_=>none
  |_,_,_=>none
 |some (.c (.slice a0 0 0)),some b=>match rowsOf G b,fG P t with
  |some (bA,rd),some (e,k)=>
   if bA.isEmpty then some (.c (.slice a0 0 0),[],rd)else
   match fT P e,qQ P e with
   |some zs,some nZ=>if zs.length=k/\bA.all (fun r=>r.length==k&&r.all AV.one)=true/\bA.length<=9223372036854775807/\bA.length*nZ<=140737488355328
    then some (.own aF 0 bA.length,[(aF,some (.cells e k bA true true))],rd)else none
   |_,_=>none
  |_,_=>none
 |_,_=>none
def R8(t:TypeId):Option AV->Option AV->Option kJ
 |some (.own id off len),some b=>match G id,rowsOf G b,fG P t with
  |some (.cells e k rows true ap),some (bA,rd),some (e',k')=>if e'=e/\k'=k/\off+len<=rows.length/\bA.all (fun r=>r.length==k&&r.all AV.one)=true
   then some (.c (.int .i64 (Nat.min bA.length len)),[(id,some (.cells e k (rows.take off++bA.take (Nat.min bA.length len)++rows.drop (off+Nat.min bA.length len)) true ap))],id::rd)else none
  |_,_,_=>none
 |some (.sub id i o len),some b=>match G id,rowsOf G b,fG P t with
  |some (.cells e s rows true ap),some (bA,rd),some (_,1)=>match rows[i]? with
   |some row=>if o+len<=row.length/\bA.all (fun r=>r.length==1&&r.all AV.one)=true
    then some (.c (.int .i64 (Nat.min bA.length len)),[(id,some (.cells e s (rows.set i (x8 row o (bA.take (Nat.min bA.length len)).flatten)) true ap))],id::rd)else none
   |none=>none
  |_,_,_=>none
 |_,_=>none
def Pj(t:TypeId):Option AV->Option AV->Option kJ
 |some (.c (.int _ l)),some (.c (.int _ c))=>match fG P t with
  |some (e,k)=>match fT P e,qQ P e with
   |some zs,some nZ=>if zs.length=k/\0<=l/\l<=c/\c<=9223372036854775807/\(nZ:Int)*c<=281474976710656
    then some (.own aF 0 l.toNat,[(aF,some (.cells e k (List.replicate l.toNat zs) true true))],[])else none
   |_,_=>none
  |none=>none
 |_,_=>none
def Ed(b:Builtin)(as:List (Option AV))(ts:List TypeId):Option kJ:=
 match b,as,ts with
 | .len,[a],[t]=>R6 P G t a
 | .max,[a,b],_=>XB (fun a b=>if b>a then b else a) a b
 | .min,[a,b],_=>XB (fun a b=>if b<a then b else a) a b
 | .append,[a,b],[t,t']=>if t=t' then R7 P G aF t a b else Pd P aF t t' a b
 | .cap,[a],[t]=>Pc P t a
 | .copy,[a,b],[t,_]=>R8 P G t a b
 |_,_,_=>none
def Pk(t:TypeId)(x:Option AV):Option kJ:=
 match oX P t zQ,x.bind E5 with
 |true,some v=>some (.c (.iface t v),[],[])
 |_,_=>none
def XD(t:TypeId)(ok:Bool):Option kJ:=
 match ok,CS P t with
 |true,some z=>some (.aU [z,.c (.bool false)],[],[])
 |_,_=>none
def Pl(t:TypeId)(ok:Bool):Option AV->Option kJ
 |some (.c (.iface t' v))=>match oX P t zQ with
  |true=>if t'=t then(CA v).map fun a=>(cond ok (.aU [a,.c (.bool true)]) a,[],[])else XD P t ok
  |false=>none
 |some (.c .nilIface)=>match oX P t zQ with
  |true=>XD P t ok
  |false=>none
 |_=>none
def res(o:Oper):Option kJ:=
 match o.op with
 | .move x=>(g x).map fun a=>(a,[],[])
 | .assign x=>(g x).map fun a=>(a,[],[])
 | .pick c x y=>Ov (g c) (g x) (g y)
 | .binOp op t x y _=>Ox P op t (g x) (g y)
 | .unOp op _ x=>Oy op (g x)
 | .convert src t x=>QT P G src t (g x)
 | .sliceToArrayPointer t x=>Pb P t (g x)
 | .extract x i=>Pe i (g x)
 | .field t x f=>Pf P t f (g x)
 | .fieldAddr t x f=>Pg P t f (g x)
 | .load t x=>QU P G t (g x)
 | .store t x y=>QV P G t (g x) (g y)
 | .indexAddr t x y=>QW P G t (g x) (g y)
 | .index t x y=>Ph P t (g x) (g y)
 | .slice t x lo (some hi) (some mx)=>QY P G t (fun _=>iW g 0 lo) (fun n=>iW g n (some hi)) (fun n=>iW g n (some mx)) (g x)
 | .slice t x lo hi none=>QX P G t (fun _=>iW g 0 lo) (fun n=>iW g n hi) (g x)
 | .alloc t=>(fT P t).map fun zs=>(.ptr aF 0 0,[(aF,some (.cells t zs.length [zs] true false))],[])
 | .box t x=>(g x).map fun a=>(.ptr aF 0 0,[(aF,some (.cells t a.cells.length [a.cells] true false))],[])
 | .build t ps=>match fT P t,nF P t,CD g ps.toList with
   |some zs,true,some as=>(HK (eT P t) zs as).map fun ys=>(.agg ys,[],[])
   |_,_,_=>none
 | .buildSlice t len ps=>match fG P t,CD g ps.toList with
   |some (e,k),some as=>match fT P e with
    |some zs=>if zs.length=k/\len*k<=16777216 then(HK (fun i=>some (i*k,k)) (List.replicate len zs).flatten as).map fun ys=>(.own aF 0 len,[(aF,some (.cells e k (chunk k len ys) true true))],[])else none
    |none=>none
   |_,_=>none
 | .makeSlice t l c=>Pj P aF t (g l) (g c)
 | .makeMap _ none=>some (.omap aF,[(aF,some (.map []))],[])
 | .range t x=>R4 P G aF t (g x)
 | .entry x=>R5 G (g x)
 | .lookup t m x ok=>QZ P G t ok (g m) (g x)
 | .mapUpdate t m x y=>R3 P G t (g m) (g x) (g y)
 | .makeFunc fn first captured=>match dZ g first.toList,dZ g captured.toList with
   |some fs,some cs=>some (.fn fn fs cs,[],[])
   |_,_=>none
 | .makeInterface t x=>Pk P t (g x)
 | .typeAssert x _ t ok=>Pl P t ok (g x)
 | .nilCheck x=>match g x with
   |some (.ptr id i o)=>some (.ptr id i o,[],[])
   |some (.dD rows i o)=>some (.dD rows i o,[],[])
   |_=>none
 | .call ⟨.builtin b,as,ts⟩=>Ed P G aF b (as.toList.map g) ts.toList
 |_=>none
end
end Go.AL
namespace Go.AL
open Go.RowKit
theorem RC.at4{E:Env}{W:World}{G:Nat->Option aI}(hG:RC E W G){id:Nat}{elem:TypeId}{s:Nat}{rows:List (List AV)}{a:Bool}(hg:G id=some (.cells elem s rows true a))
  {cur dN:Array Value} {fH:List (List AV)} (cK:W.heap[E.ι id]? =some (.cells cur elem (0,0))) (z7:dN.size=cur.size) (hl:fH.length=rows.length) (hr:∀(i:Nat) row,fH[i]? =some row->row.length=s)
  (hc:∀(i j:Nat) row x,fH[i]? =some row->row[j]? =some x->∃v,dN[i*s+j]? =some v/\RV E W x v):
  bE E W E (W.setRow (E.ι id) dN)/\RC E (W.setRow (E.ι id) dN) (aX G [(id,some (.cells elem s fH true a))]):=by
 obtain⟨hU,dP,hlen,⟨DY,lF,qV,eX⟩,hw,ha⟩:=hG.ok id _ hg;obtain⟨hL,hd⟩:=hw rfl;rw[cK]at lF;cases lF;have hv:=bE.setRow hG hU cK z7 (fun k hk=>by omega)
 refine⟨hv,⟨fun b hb=>hG.lim b (by simpa using hb),fun aM h=>by simpa using hG.eL aM h,fun aM b h=> ?_⟩⟩
 by_cases aB:aM=id
 ·subst aB
  simp only[aX,if_true,bC]at h;subst h;refine⟨hU,dP,hr,⟨dN,setRow_heap W _ cur dN elem (0,0) cK,by rw[hl,z7];exact qV,fun i' j fP x h1 h2=> ?_⟩,fun _=>⟨hL,fun dI dJ aJ cL=> ?_⟩,fun MF=> ?_⟩
  ·obtain⟨v,h5,h6⟩:=hc i' j fP x h1 h2
   exact⟨v,h5,h6.mono hv⟩
  ·simp only[aX,aJ,if_false]at cL
   exact hd dI dJ aJ cL
  ·obtain⟨h8,h9⟩:=ha MF
   refine⟨by rw[hL];omega,fun dI dJ aJ cL he=> ?_⟩
   simp only[aX,aJ,if_false]at cL;exact absurd he (hd dI dJ aJ cL)
 ·simp only[aX,aB,if_false]at h
  obtain⟨h2,h3⟩:=hG.ok aM b h;have cY:E.ι aM≠E.ι id:=hd aM b aB h;refine⟨h2,h3.mono hv h2 (setRow_other W _ _ dN cY) rfl fun dI dJ aJ cL he=> ?_⟩
  by_cases JJ:dI=id
  ·subst JJ;exact absurd he.symm cY
  ·simp only[aX,JJ,if_false]at cL
   exact⟨dJ,cL,he,rfl,fun h=>h⟩
theorem Pm{G:Nat->Option aI}{id:Nat}{b:Option aI}(h:G id=b):aX G [(id,b)]=G:=by
 funext k
 simp only[aX];split
 ·rename_i hk;subst hk;exact h.symm
 ·rfl
section
variable {P : Program} {g : Operand -> Option AV} {G : Nat -> Option aI} {aF : Nat} {dst : Option Tmp} {ty : TypeId} {pos : String} {after : Array Edge} {guard : Option (Nat × Bool)}
theorem at5{ρ:Operand->Value}{E:Env}{W:World}(aZ:∀x b,g x=some b->RV E W b (ρ x)){t e:TypeId}{n k:Nat}(hu:P.underlying t=some (.array n e))(hk:(P.info? e).map (·.size)=some k)(a:Addr){lo hi:Option Operand}{l h:Int}
  (hl:iW g 0 lo=some l) (hh:iW g n hi=some h) (h0:0<=l) (h1:l<=h) (h2:h<=n) (h3:l<n):
  (Instr.sliceAt t (.pointer (some a)) (lo.map ρ) (hi.map ρ) none).run P W= .ok (.slice (some (a.add (l.toNat*k))) (h-l).toNat (n-l.toNat)) W:=by
 have aJ:¬n=l.toNat:=by omega
 have e1:h.toNat-l.toNat=(h-l).toNat:=by omega
 rcases MK aZ hl with⟨rfl,rfl⟩|⟨kl,qU⟩<;>rcases MK aZ hh with⟨rfl,rfl⟩|⟨kh,HL⟩
 ·have:¬n=0:=by omega
  simp[Instr.sliceAt,run_underlying hu,Instr.sliceBounds,run_sizeOf hk,Instr.sureAddr,this]
 ·have:¬n=0:=by omega
  simp[Instr.sliceAt,run_underlying hu,Instr.sliceBounds,run_sizeOf hk,Instr.sureAddr,HL,Instr.sliceBound,asIntOf,h1,h2,this]
 ·simp[Instr.sliceAt,run_underlying hu,Instr.sliceBounds,run_sizeOf hk,Instr.sureAddr,qU,Instr.sliceBound,asIntOf,h0,h1,aJ]
  omega
 ·have h4:0<=h:=by omega
  have h5:l<=max h 0:=by omega
  simp[Instr.sliceAt,run_underlying hu,Instr.sliceBounds,run_sizeOf hk,Instr.sureAddr,qU,HL,Instr.sliceBound,asIntOf,h0,h1,h2,h4,h5,aJ];omega
theorem bR3{t e e':TypeId}{n s:Nat}{x:Operand}{id i o:Nat}{rows:List (List AV)}{row:List AV}{w ap:Bool}{lo hi:Option Operand}{l h:Int}(ht:sO P t=some (n,e,1))(hx:g x=some (.ptr id i o))(hg:G id=some (.cells e' s rows w ap))(bH:rows[i]? =some row)(hon:o+n<=row.length)
  (hl:iW g 0 lo=some l) (hh:iW g n hi=some h) (h0:0<=l) (h1:l<=h) (h2:h<=n) (h3:l<n):
  eM P g G aF ⟨dst,.slice t x lo hi none,ty,pos,after,guard⟩ (.sub id i (o+l.toNat) (h-l).toNat) G:=
 .still fun E W ρ hG aZ=>by
   obtain⟨hu,hk⟩:=X4 ht;have h4:=aZ x _ hx;generalize cJ:ρ x=vx at h4;obtain⟨hU,dP,hlen,⟨cur,cK,qV,_⟩,_,_⟩:=hG.ok id _ hg;have EY:i<rows.length:=(dV.1 bH).1;have hls:=hlen i row bH
   have hmul:i*s+s<=rows.length*s:=by
    have:=nN s (show i+1<=rows.length from EY)
    rw[vG]at this;exact this
   cases h4 with
   |ptr _ _ _ aB=>
    refine⟨_,by simp only[execOp,cJ,KH];rw[Sem.run_bind,at5 aZ hu hk _ hl hh h0 h1 h2 h3];rfl,?_⟩
    have:=RV.sub (E:=E) (W:=W) id i (o+l.toNat) (h-l).toNat (n-l.toNat) aB (by omega) ⟨cur,e',(0,0),cK,by rw[dP];omega⟩
    simpa[Addr.add_lit,s9]using this
theorem bR6{t e:TypeId}{n:Nat}{x:Operand}{i o:Nat}{rows:List (List AV)}{row:List AV}{lo hi:Option Operand}{l h:Int}(ht:sO P t=some (n,e,1))(hx:g x=some (.dD rows i o))(bH:rows[i]? =some row)(hon:o+n<=row.length)
  (hl:iW g 0 lo=some l) (hh:iW g n hi=some h) (h0:0<=l) (h1:l<=h) (h2:h<=n) (h3:l<n):
  eM P g G aF ⟨dst,.slice t x lo hi none,ty,pos,after,guard⟩ (.snap (((row.drop (o+l.toNat)).take (h-l).toNat).map fun x=> [x])) G:=
 .still fun E W ρ hG aZ=>by
   obtain⟨hu,hk⟩:=X4 ht;have h4:=aZ x _ hx;generalize cJ:ρ x=vx at h4;have EY:i<rows.length:=(dV.1 bH).1;cases h4 with
   |dD _ _ _ b off s vs hs hL hc hr=>
    have hls:=hs i row bH
    have hmul:i*s+s<=rows.length*s:=by
     have:=nN s (show i+1<=rows.length from EY)
     rw[vG]at this;exact this
    have hlen:(((row.drop (o+l.toNat)).take (h-l).toNat).map fun x=> [x]).length=(h-l).toNat:=by
     rw[l4,cU,eF];omega
    refine⟨_,by simp only[execOp,cJ,KH];rw[Sem.run_bind,at5 aZ hu hk _ hl hh h0 h1 h2 h3];rfl,?_⟩
    have bU:∀(i' j:Nat) (r:List AV) (y:AV),(((row.drop (o+l.toNat)).take (h-l).toNat).map fun x=> [x])[i']? =some r->r[j]? =some y->j=0/\row[o+l.toNat+i']? =some y:=by
     intro i' j r y h5 h6;rw[gE,gU]at h5;split at h5
     ·rw[mF]at h5
      cases h7:row[o+l.toNat+i']? with
      |none=>rw[h7]at h5;cases h5
      |some z=>
       rw[h7]at h5;simp only[oU,bC]at h5;subst h5;cases j with
       |zero=>exact⟨rfl,h6⟩
       |succ j=>simp at h6
     ·cases h5
    have:=RV.snap (E:=E) (W:=W) (((row.drop (o+l.toNat)).take (h-l).toNat).map fun x=> [x]) b (off+(i*s+o)+l.toNat) 1 (h-l).toNat (n-l.toNat) (fun i' _=>vs i (o+l.toNat+i')) hlen.symm (by omega)
     (fun i' r h5=>by
       rw[gE]at h5;cases h7:((row.drop (o+l.toNat)).take (h-l).toNat)[i']? with
       |none=>rw[h7]at h5;cases h5
       |some z=>rw[h7]at h5;simp only[oU,bC]at h5;subst h5;rfl)
     (by rw[hlen];omega)
     (fun i' j r y h5 h6=>by
       obtain⟨rfl,h7⟩:=bU i' j r y h5 h6;have:=hc i (o+l.toNat+i') row y bH h7
       rw[<-this];congr 2;omega)
     (fun i' j r y h5 h6=>by
       obtain⟨rfl,h7⟩:=bU i' j r y h5 h6
       exact hr i (o+l.toNat+i') row y bH h7)
    simpa[Addr.add_lit,s9]using this
theorem at6{W W':World}{dT sT ty elem:TypeId}{k:Nat}{d:Addr}{dLen dCap sLen sCap:Nat}{a:Addr}{cs:List Value}(hu:P.underlying dT=some (.slice elem))(hk:(P.info? elem).map (·.size)=some k)(hn:cs.length=Nat.min sLen dLen*k)
  (Ju:∀j v,cs[j]? =some v->W.cell? (a.add j)=some v) (eG:(storeCells d cs 0).run P W= .ok () W'):
  (Builtin.copy_ #[dT,sT] ty #[.slice (some d) dLen dCap,.slice (some a) sLen sCap]).run P W= .ok (goInt (Nat.min sLen dLen:Nat)) W':=by
 have hl:=run_loadCells_list (P:=P) W a cs Ju;cases hq:P.info? elem with
 |none=>simp[hq]at hk
 |some i=>
  have hi:i.size=k:=by simpa[hq]using hk
  simp[Builtin.copy_,run_underlying hu,Builtin.lenOf,Builtin.firstCells,sizeOf,typeInfo,hq,hi];rw[<-hn,hl];simp[eG]
theorem at7{E:Env}{W:World}{bA:List (List AV)}{k n:Nat}{news:List Value}(hl:news.length=bA.length*k)(hn:n<=bA.length)(hc:∀(i j:Nat) row x,bA[i]? =some row->row[j]? =some x->∃u,news[i*k+j]? =some u/\RV E W x u)(hk:∀(i:Nat) row,bA[i]? =some row->row.length=k):
  (news.take (n*k)).length=n*k/\∀(i j:Nat) row x,i<n->bA[i]? =some row->row[j]? =some x->∃u,(news.take (n*k))[i*k+j]? =some u/\RV E W x u:=by
 have h1:n*k<=bA.length*k:=nN k hn;refine⟨by simp;omega,fun i j row x hi hr hx=> ?_⟩
 obtain⟨u,h2,h3⟩:=hc i j row x hr hx;have hj:j<k:=by rw[<-hk i row hr];exact(dV.1 hx).1
 have:=yA hi hj;exact⟨u,by rw[gU,if_pos this];exact h2,h3⟩
theorem bR7{t t' e:TypeId}{k:Nat}{x y:Operand}{id off len:Nat}{rows bA:List (List AV)}{ap:Bool}{b:AV}{rd:List Nat}(ht:fG P t=some (e,k))(hx:g x=some (.own id off len))(hg:G id=some (.cells e k rows true ap))(hn:off+len<=rows.length)(hy:g y=some b)(hb:rowsOf G b=some (bA,rd))
  (h1:bA.all (fun r=>r.length==k&&r.all AV.one)=true):
  eM P g G aF ⟨dst,.call ⟨.builtin .copy,#[x,y],#[t,t']⟩,ty,pos,after,guard⟩ (.c (.int .i64 (Nat.min bA.length len))) (aX G [(id,some (.cells e k (rows.take off++bA.take (Nat.min bA.length len)++rows.drop (off+Nat.min bA.length len)) true ap))]):=fun E W ρ hG gR aZ=>by
 have gQ:=aZ x _ hx;have nJ:=aZ y _ hy;generalize cJ:ρ x=vx at gQ;generalize lE:ρ y=vy at nJ;obtain⟨hu,hk⟩:=x9 ht;obtain⟨hU,kZ,hlen,⟨cur,cK,qV,eX⟩,hw,ha⟩:=hG.ok id _ hg
 have dA:∀(r:Result Value),(Builtin.copy_ #[t,t'] ty #[vx,vy]).run P W=r->(execOp ρ ⟨dst,.call ⟨.builtin .copy,#[x,y],#[t,t']⟩,ty,pos,after,guard⟩).run P W=r.andThen fun v w'=> .ok (.value v) w':=by
  intro r hr;rw[AR];simp only[builtin,BF,gJ,tK,cJ,lE];rw[Sem.run_bind,hr];rfl
 have iX:∀(i:Nat) row,bA[i]? =some row->row.length=k:=Dv h1;obtain⟨X7,n2,AG,fB,oP,bR8,_⟩:=QN hG nJ hb
 have au0:Nat.min bA.length len=0->∀(d:Option Addr) (dc:Nat),(Builtin.copy_ #[t,t'] ty #[.slice d len dc,vy]).run P W= .ok (goInt 0) W:=fun h0 d dc=>by
  subst fB;subst oP;cases hq:P.info? e with
  |none=>simp[dX,hq]at hk
  |some i=>
   have hl:∀(x:Addr),(loadCells x 0).run P W= .ok #[] W:=fun x=>by simpa using run_loadCells_list (P:=P) W x [] (by simp)
   have HN:bA.length.min len=0:=h0;cases d<;>cases X7<;>simp[Builtin.copy_,run_underlying hu,Builtin.lenOf,Builtin.firstCells,sizeOf,typeInfo,hq,HN,storeCells,hl]
 by_cases h0:Nat.min bA.length len=0
 ·rw[h0]
  have CC:aX G [(id,some (.cells e k (rows.take off++bA.take 0++rows.drop (off+0)) true ap))]=G:=Pm (by rw[hg];simp)
  rw[CC];cases gQ with
  |mW _ _ a aB=>exact⟨W,_,E,.inl (by rw[dA _ (au0 h0 a 0)];rfl),bE.refl E W,hG,.c _ rfl,fun _ h=> .inl h⟩
  |own _ _ _ cap aB eC dP=>exact⟨W,_,E,.inl (by rw[dA _ (au0 h0 _ cap)];rfl),bE.refl E W,hG,.c _ rfl,fun _ h=> .inl h⟩
 ·have aJ:bA≠[]:=fun h=>h0 (by subst h;exact Nat.zero_min _)
  have XE:len≠0:=fun h=>h0 (by subst h;exact Nat.min_zero _)
  have VG:Nat.min bA.length len<=bA.length:=Nat.min_le_left _ _;have VH:Nat.min bA.length len<=len:=aH2 _ _;generalize hm:Nat.min bA.length len=m at*;cases gQ with
  |mW _ _ a aB=>exact absurd rfl XE
  |own _ _ _ cap aB eC dP=>
   obtain⟨bb,pp,Pn,lR,news,vR,xN,sI,FJ⟩:=PH hG nJ hb aJ h1;obtain⟨iE,wN⟩:=at7 vR VG FJ iX;have hmul:(off+m)*k<=rows.length*k:=nN k (by omega)
   rw[oW]at hmul;generalize uM:news.take (m*k)=cs at iE wN;have XF:∀v∈cs,v.oneCell'=true:=fun v hv=>sI v (by rw[<-uM]at hv;exact oS hv)
   have eG:=run_storeCells_at P (E.ι id) (off*k) e cs 0 cur W cK (by omega) XF
   simp only[zN]at eG;generalize yB:(cur.toList.take (off*k)++cs++cur.toList.drop (off*k+cs.length)).toArray=dN at eG;have z7:dN.size=cur.size:=by subst yB;simp;omega
   have hold:∀q,q<cur.size->(q<off*k\/off*k+m*k<=q)->dN[q]? =cur[q]? :=fun q hq oH=>by
    subst yB;rw[wE];rcases oH with oH|oH
    ·rw[fF,kG (by simp;omega),gU,if_pos oH];simp
    ·rw[k7 (by simp;omega),mF];simp;congr 1;omega
   have nP:∀q,q<m*k->dN[off*k+q]? =cs[q]? :=fun q hq=>by
    subst yB;rw[wE,fF,k7 (by simp;omega),kG (by simp;omega)]
    congr 1;simp;omega
   have iR:(rows.take off++bA.take m++rows.drop (off+m)).length=rows.length:=by simp;omega
   have bH:∀(i:Nat) row,(rows.take off++bA.take m++rows.drop (off+m))[i]? =some row->(i<rows.length/\((i<off\/off+m<=i)/\rows[i]? =some row))\/(off<=i/\i<off+m/\bA[i-off]? =some row):=fun i row hr=>by
    by_cases h3:i<off
    ·rw[fF,kG (by simp;omega),gU,if_pos h3]at hr
     exact .inl ⟨by omega,.inl h3,hr⟩
    ·by_cases h4:i<off+m
     ·rw[fF,k7 (by simp;omega),kG (by simp;omega),gU]at hr
      have he:i-(rows.take off).length=i-off:=by simp;omega
      rw[he,if_pos (by omega)]at hr
      exact .inr ⟨by omega,h4,hr⟩
     ·rw[k7 (by simp;omega),mF]at hr
      have he:off+m+(i-(rows.take off++bA.take m).length)=i:=by simp;omega
      rw[he]at hr;exact .inl ⟨(dV.1 hr).1,.inr (by omega),hr⟩
   obtain⟨hv,XG⟩:=hG.at4 hg cK z7 iR (fun i row hr=>by
    rcases bH i row hr with⟨_,_,h⟩|⟨_,_,h⟩
    ·exact hlen i row h
    ·exact iX _ row h) (fun i j row x hr kY=>by
    rcases bH i row hr with⟨hi,h3,h⟩|⟨h3,h4,h⟩
    ·obtain⟨v,h5,h6⟩:=eX i j row x h kY
     refine⟨v,?_,h6⟩;rw[<-h5];have hj:j<k:=by rw[<-hlen i row h];exact(dV.1 kY).1
     refine hold _ (jG.1 h5).1 ?_;rcases h3 with h3|h3
     ·exact .inl (yA h3 hj)
     ·right
      have:=nN k h3;rw[oW]at this;omega
    ·obtain⟨v,h5,h6⟩:=wN _ j row x (by omega) h kY
     refine⟨v,?_,h6⟩;rw[<-h5];have hj:j<k:=by rw[<-iX _ row h];exact(dV.1 kY).1
     rw[<-nP _ (yA (by omega) hj)]
     congr 1;have:i*k=off*k+(i-off)*k:=by rw[<-oW];congr 1;omega
     omega)
   subst lR
   have FM:=at6 (P:=P) (W:=W) (W':=W.setRow (E.ι id) dN) (dT:=t) (sT:=t') (ty:=ty) (d:=⟨E.ι id,off*k,none⟩) (dLen:=len) (dCap:=cap) (sLen:=bA.length) (sCap:=Pn) (a:=⟨bb,pp,none⟩) (cs:=cs) hu hk (by rw[hm];exact iE)
    (fun j v hj=>by rw[Addr.add_lit];exact xN j v (by rw[<-uM]at hj;rw[gU]at hj;split at hj<;>first|exact hj|cases hj)) eG
   rw[hm]at FM;rw[<-kZ]at FM;exact⟨_,_,E,.inl (by rw[dA _ FM];rfl),hv,XG,.c _ rfl,fun _ h=> .inl h⟩
theorem bR9{bA:List (List AV)}(h:∀(i:Nat) row,bA[i]? =some row->row.length=1):∃l:List AV,bA=l.map fun x=> [x]:=by
 induction bA with
 |nil=>exact⟨[],rfl⟩
 |cons r rs ih=>
  obtain⟨l,hl⟩:=ih fun i row hr=>h (i+1) row (by simpa using hr)
  have h0:=h 0 r rfl
  match r,h0 with
  |[x],_=>exact⟨x::l,by rw[hl];rfl⟩
theorem bS0(l:List AV):(l.map fun x=> [x]).flatten=l:=by
 induction l with
 |nil=>rfl
 |cons x r ih=>simp only[gJ,Z2,ih];rfl
theorem bS1{t t' e e':TypeId}{s:Nat}{x y:Operand}{id i o len:Nat}{rows bA:List (List AV)}{row:List AV}{ap:Bool}{b:AV}{rd:List Nat}(ht:fG P t=some (e,1))(hx:g x=some (.sub id i o len))(hg:G id=some (.cells e' s rows true ap))(bH:rows[i]? =some row)(hn:o+len<=row.length)(hy:g y=some b)(hb:rowsOf G b=some (bA,rd))
  (h1:bA.all (fun r=>r.length==1&&r.all AV.one)=true):
  eM P g G aF ⟨dst,.call ⟨.builtin .copy,#[x,y],#[t,t']⟩,ty,pos,after,guard⟩ (.c (.int .i64 (Nat.min bA.length len))) (aX G [(id,some (.cells e' s (rows.set i (x8 row o (bA.take (Nat.min bA.length len)).flatten)) true ap))]):=fun E W ρ hG gR aZ=>by
 have gQ:=aZ x _ hx;have nJ:=aZ y _ hy;generalize cJ:ρ x=vx at gQ;generalize lE:ρ y=vy at nJ;obtain⟨hu,hk⟩:=x9 ht;obtain⟨hU,kZ,hlen,⟨cur,cK,qV,eX⟩,hw,ha⟩:=hG.ok id _ hg
 have dA:∀(r:Result Value),(Builtin.copy_ #[t,t'] ty #[vx,vy]).run P W=r->(execOp ρ ⟨dst,.call ⟨.builtin .copy,#[x,y],#[t,t']⟩,ty,pos,after,guard⟩).run P W=r.andThen fun v w'=> .ok (.value v) w':=by
  intro r hr;rw[AR];simp only[builtin,BF,gJ,tK,cJ,lE];rw[Sem.run_bind,hr];rfl
 have iX:∀(i:Nat) row,bA[i]? =some row->row.length=1:=Dv h1;obtain⟨X7,n2,AG,fB,oP,bR8,_⟩:=QN hG nJ hb;have hi:i<rows.length:=(dV.1 bH).1;have bS2:x8 row o []=row:=by unfold x8;simp
 cases gQ with
 |sub _ _ _ _ cap aB eC dP=>
  by_cases h0:Nat.min bA.length len=0
  ·rw[h0]
   have mJ:rows.set i row=rows:=by
    apply BE;intro q;by_cases hq:q=i
    ·subst hq;rw[YZ hi];exact bH.symm
    ·rw[O6 (mQ hq)]
   have CC:aX G [(id,some (.cells e' s (rows.set i (x8 row o (bA.take 0).flatten)) true ap))]=G:=Pm (by rw[hg];simp[bS2,mJ])
   rw[CC]
   have hz:(Builtin.copy_ #[t,t'] ty #[.slice (some ⟨E.ι id,i*E.sz id+o,none⟩) len cap,vy]).run P W= .ok (goInt 0) W:=by
    subst fB;subst oP;cases hq:P.info? e with
    |none=>simp[dX,hq]at hk
    |some j=>
     have hl:∀(x:Addr),(loadCells x 0).run P W= .ok #[] W:=fun x=>by simpa using run_loadCells_list (P:=P) W x [] (by simp)
     have HN:bA.length.min len=0:=h0;cases X7<;>simp[Builtin.copy_,run_underlying hu,Builtin.lenOf,Builtin.firstCells,sizeOf,typeInfo,hq,HN,storeCells,hl]
   exact⟨W,_,E,.inl (by rw[dA _ hz];rfl),bE.refl E W,hG,.c _ rfl,fun _ h=> .inl h⟩
  ·have aJ:bA≠[]:=fun h=>h0 (by subst h;exact Nat.zero_min _)
   have VG:Nat.min bA.length len<=bA.length:=Nat.min_le_left _ _;have VH:Nat.min bA.length len<=len:=aH2 _ _;generalize hm:Nat.min bA.length len=m at*;obtain⟨bb,pp,Pn,lR,news,vR,xN,sI,FJ⟩:=PH hG nJ hb aJ h1;obtain⟨iE,wN⟩:=at7 vR VG FJ iX;generalize uM:news.take (m*1)=cs at iE wN;have XF:∀v∈cs,v.oneCell'=true:=fun v hv=>sI v (by rw[<-uM]at hv;exact oS hv)
   obtain⟨l,hl⟩:=bR9 iX;have oI:(bA.take m).flatten=l.take m:=by rw[hl,<-TH,bS0]
   have zA:bA.length=l.length:=by rw[hl];simp
   rw[oI]
   have Ho:bX E W (l.take m) cs:=⟨by simp;omega,fun q x v hq hv=>by
    rw[gU]at hq;split at hq
    ·rename_i hqm
     obtain⟨u,h3,h4⟩:=wN q 0 [x] x hqm (by rw[hl,gE,hq];rfl) rfl
     have e1:q*1+0=q:=by omega
     rw[e1,hv]at h3;injection h3 with h3;subst h3;exact h4
    ·cases hq⟩
   have rP:o+(l.take m).length<=row.length:=by have:=List.length_take_le m l;omega
   obtain⟨dN,eG,hv,XG⟩:=hG.write hg bH Ho rP XF (P:=P);subst lR
   have FM:=at6 (P:=P) (W:=W) (W':=W.setRow (E.ι id) dN) (dT:=t) (sT:=t') (ty:=ty) (d:=⟨E.ι id,i*s+o,none⟩) (dLen:=len) (dCap:=cap) (sLen:=bA.length) (sCap:=Pn) (a:=⟨bb,pp,none⟩) (cs:=cs) hu hk (by rw[hm];exact iE)
    (fun j v hj=>by rw[Addr.add_lit];exact xN j v (by rw[<-uM]at hj;rw[gU]at hj;split at hj<;>first|exact hj|cases hj)) eG
   rw[hm]at FM;rw[<-kZ]at FM;exact⟨_,_,E,.inl (by rw[dA _ FM];rfl),hv,XG,.c _ rfl,fun _ h=> .inl h⟩
theorem bS4{t e:TypeId}{k:Nat}{x:Operand}{id off len:Nat}{e':TypeId}{rows:List (List AV)}{w ap:Bool}{lo:Option Operand}{hi mx:Operand}{l h m:Int}(ht:fG P t=some (e,k))(hx:g x=some (.own id off len))(hg:G id=some (.cells e' k rows w ap))
  (hl:iW g 0 lo=some l) (hh:iW g len (some hi)=some h) (hm:iW g len (some mx)=some m) (h0:0<=l) (h1:l<=h) (h2:h<=m) (h3:m<=len):
  eM P g G aF ⟨dst,.slice t x lo (some hi) (some mx),ty,pos,after,guard⟩ (.own id (off+l.toNat) (h-l).toNat) G:=
 .still fun E W ρ hG aZ=>by
   have h4:=aZ x _ hx;generalize cJ:ρ x=vx at h4;have dP:E.sz id=k:=(hG.ok id _ hg).2.1;cases h4 with
   |own _ _ _ cap aB eC hs=>
    refine⟨_,by simp only[execOp,cJ,oU];rw[Sem.run_bind,Dy aZ ht _ len cap hl hh hm h0 h1 h2 (by omega)];rfl,?_⟩
    by_cases hc:m=l
    ·rw[if_pos hc]
     have e1:(h-l).toNat=0:=by omega
     have e2:(m-l).toNat=0:=by omega
     rw[e1,e2];exact .mW _ _ _ aB
    ·rw[if_neg hc]
     obtain⟨cur,e2,f,h5,h6⟩:=hs;have hmul:(off+l.toNat+(m-l).toNat)*E.sz id<=(off+cap)*E.sz id:=nN _ (by omega)
     have:=RV.own (E:=E) (W:=W) id (off+l.toNat) (h-l).toNat (m-l).toNat aB (by omega) ⟨cur,e2,f,h5,by omega⟩
     rw[dP]at this⊢;simpa[Addr.add_lit,oW]using this
   |mW _ _ a aB=>
    refine⟨_,by simp only[execOp,cJ,oU];rw[Sem.run_bind,Dy aZ ht _ 0 0 hl (show iW g ((0:Nat):Int) (some hi)=some h from hh) (show iW g ((0:Nat):Int) (some mx)=some m from hm) h0 h1 h2 (by omega)];rfl,?_⟩
    have e1:(h-l).toNat=0:=by omega
    have e2:(m-l).toNat=0:=by omega
    rw[if_pos (by omega),e1,e2]
    exact .mW _ _ _ aB
end
end Go.AL
namespace Go.AL
open Go.RowKit
theorem bS5{P:Program}{op:BinOp}{t:TypeId}{a b v:Value}(h:MI P op t a b=some v):AQ v=false:=by
 unfold MI at h;split at h
 ·unfold Dn at h
  split at h
  ·unfold MG at h
   split at h<;>simp only[bC,reduceCtorEq]at h
   subst h;rfl
  ·unfold MG at h
   split at h<;>simp only[bC,reduceCtorEq]at h
   subst h;rfl
  ·split at h
   ·unfold Dm at h
    split at h<;>(try (split at h))<;>simp only[bC,reduceCtorEq]at h<;>(try subst h)<;>simp_all [AQ]
   ·cases h
 ·split at h
  ·split at h<;>simp only[bC,reduceCtorEq]at h<;>subst h<;>rfl
  ·cases h
 ·split at h<;>simp only[bC,reduceCtorEq]at h<;>subst h<;>rfl
 ·split at h
  ·exact ap9 h
  ·cases h
 ·split at h
  ·exact ap9 h
  ·cases h
 ·cases h
theorem au1{k:Value}(h:XA k=true):∃d,tS d k=true:=by
 unfold XA at h;split at h
 ·exact⟨_,h⟩
 ·exact⟨.bool,rfl⟩
 ·rename_i q n;exact⟨.int q,by simp[tS]⟩
 ·exact⟨.string,rfl⟩
 ·cases h
theorem map_some{α β:Type}{x:Option α}{f:α->β}{b:β}(h:x.map f=some b):∃a,x=some a/\f a=b:=by
 cases x with
 |none=>simp at h
 |some a=>exact⟨a,rfl,by simpa using h⟩
section
variable {P : Program} {g : Operand -> Option AV} {G : Nat -> Option aI} {aF : Nat}
theorem bS6{dst:Option Tmp}{ty:TypeId}{pos:String}{after:Array Edge}{guard:Option (Nat×Bool)}{t:TypeId}{x:Operand}{a:AV}{v:Value}(ht:oX P t zQ=true)(hx:g x=some a)(hv:E5 a=some v):
  eM P g G aF ⟨dst,.makeInterface t x,ty,pos,after,guard⟩ (.c (.iface t v)) G:=
 .still fun E W ρ hG aZ=>by
   have h1:=Ot hv (aZ x _ hx);obtain⟨d,hu,hd⟩:=MH ht;refine⟨.iface t v,?_,.c _ rfl⟩;cases d<;>simp only[zQ,mG]at hd<;>simp[execOp,Instr.makeInterface,run_underlying hu,h1]
theorem au2{t:TypeId}{ok:Bool}{x:kJ}(h:XD P t ok=some x):ok=true/\∃z,CS P t=some z/\x=(.aU [z,.c (.bool false)],[],[]):=by
 unfold XD at h;split at h
 ·rename_i z hz;injection h with h;exact⟨rfl,z,hz,h.symm⟩
 ·cases h
theorem Po{E:Env}{W:World}{a b:AV}{v u:Value}(h1:RV E W a v)(h2:RV E W b u):RV E W (.aU [a,b]) (.tuple #[v,u]):=
 .aU _ _ rfl fun i x y hx hy=>by
   rcases i with _|_|i
   ·simp at hx hy;subst hx;subst hy;exact h1
   ·simp at hx hy;subst hx;subst hy;exact h2
   ·simp at hx
theorem bS7{dst:Option Tmp}{ty:TypeId}{pos:String}{after:Array Edge}{guard:Option (Nat×Bool)}{t xt:TypeId}{x:Operand}{a:AV}{v:Value}{ok:Bool}(ht:oX P t zQ=true)(hx:g x=some (.c (.iface t v)))(hv:CA v=some a):
  eM P g G aF ⟨dst,.typeAssert x xt t ok,ty,pos,after,guard⟩ (cond ok (.aU [a,.c (.bool true)]) a) G:=
 .still fun E W ρ hG aZ=>by
   have h1:=aZ x _ hx;generalize cJ:ρ x=vx at h1;cases h1;obtain⟨d,hu,hd⟩:=MH ht;refine⟨if ok then .tuple #[v,.bool true]else v,?_,?_⟩
   ·cases d<;>simp only[zQ,mG]at hd<;>simp[execOp,Instr.typeAssert,run_underlying hu,cJ]
   ·cases ok
    ·exact RV.CA hv
    ·exact Po (RV.CA hv) (.c _ rfl)
theorem bS8{dst:Option Tmp}{ty:TypeId}{pos:String}{after:Array Edge}{guard:Option (Nat×Bool)}{t xt t':TypeId}{x:Operand}{z:AV}{v:Value}(ht:oX P t zQ=true)(hx:g x=some (.c (.iface t' v)))(aJ:¬t'=t)(hz:CS P t=some z):
  eM P g G aF ⟨dst,.typeAssert x xt t true,ty,pos,after,guard⟩ (.aU [z,.c (.bool false)]) G:=
 .still fun E W ρ hG aZ=>by
   have h1:=aZ x _ hx;generalize cJ:ρ x=vx at h1;cases h1;obtain⟨d,hu,hd⟩:=MH ht;obtain⟨u,h2,h3⟩:=On hz;refine⟨.tuple #[u,.bool false],?_,Po (h3 E W) (.c _ rfl)⟩;cases d<;>simp only[zQ,mG]at hd<;>simp[execOp,Instr.typeAssert,run_underlying hu,cJ,aJ,h2]
theorem bS9{dst:Option Tmp}{ty:TypeId}{pos:String}{after:Array Edge}{guard:Option (Nat×Bool)}{t xt:TypeId}{x:Operand}{z:AV}(ht:oX P t zQ=true)(hx:g x=some (.c .nilIface))(hz:CS P t=some z):
  eM P g G aF ⟨dst,.typeAssert x xt t true,ty,pos,after,guard⟩ (.aU [z,.c (.bool false)]) G:=
 .still fun E W ρ hG aZ=>by
   have h1:=aZ x _ hx;generalize cJ:ρ x=vx at h1;cases h1;obtain⟨d,hu,hd⟩:=MH ht;obtain⟨u,h2,h3⟩:=On hz;refine⟨.tuple #[u,.bool false],?_,Po (h3 E W) (.c _ rfl)⟩;cases d<;>simp only[zQ,mG]at hd<;>simp[execOp,Instr.typeAssert,run_underlying hu,cJ,h2]
theorem au3:∀{rows:List (List AV)} {l:List Int},IW rows=some l->rows.length=l.length/\∀(j:Nat) n,l[j]? =some n->rows[j]? =some [.c (.int .u8 n)]
 |[],l,h=>by
  simp only[IW,bC]at h;subst h;exact⟨rfl,fun j n h=>by simp at h⟩
 |r::rs,l,h=>by
  simp only[IW]at h;split at h
  ·rename_i n l' h1 h2
   simp only[bC]at h;subst h;have ih:=au3 h2;refine⟨by simp[ih.1],fun j m hj=> ?_⟩
   cases j with
   |zero=>
    simp at hj;subst hj;unfold Kb at h1;split at h1
    ·simp only[bC]at h1;subst h1;rfl
    ·cases h1
   |succ j=>simpa using ih.2 j m (by simpa using hj)
  ·cases h
theorem bT0{dst:Option Tmp}{ty:TypeId}{pos:String}{after:Array Edge}{guard:Option (Nat×Bool)}{src t e:TypeId}{x:Operand}{b:AV}{rows:List (List AV)}{rd:List Nat}{l:List Int}(hs:fG P src=some (e,1))(he:xF P e=some .u8)(hd:oX P t isString=true)(hx:g x=some b)(hb:rowsOf G b=some (rows,rd))(hl:IW rows=some l):
  eM P g G aF ⟨dst,.convert src t x,ty,pos,after,guard⟩ (.c (.string (LA l))) G:=
 .still fun E W ρ hG aZ=>by
   have h1:=aZ x _ hx;obtain⟨base,n,cap,hv,hn,qK,hr⟩:=QN hG h1 hb;obtain⟨hu,_⟩:=x9 hs;have hue:=Dq he;obtain⟨hlen,bU⟩:=au3 hl;obtain⟨d,hud,hdd⟩:=MH hd
   have bT4:P.underlying t=some .string:=by
    cases d<;>first|exact hud|simp[isString]at hdd
   have bT5:(Conv.bytesToString (.slice base n cap)).run P W= .ok (.string (LA l)) W:=by
    cases base with
    |none=>
     have h0:rows=[]:=by
      cases rows with
      |nil=>rfl
      |cons r rs=>obtain⟨_,_,_,h2,_⟩:=hr (by simp);cases h2
     subst h0;have:l=[]:=jQ (by simpa using hlen.symm)
     subst this;rfl
    |some a=>
     refine run_bytesToString W a n cap l ?_
     have hc:∀j v,(l.map (Value.int .u8))[j]? =some v->W.cell? (a.add j)=some v:=fun j v hj=>by
      rw[gE]at hj;obtain⟨m,hm,rfl⟩:=map_some hj;have bH:=bU j m hm;have aJ:rows≠[]:=fun h=>by subst h;simp at bH
      obtain⟨b',p,s,h2,h3,h4⟩:=hr aJ;injection h2 with h2
      subst h2;have AP:s=1:=(h3 j _ bH).symm;subst AP;obtain⟨u,h5,h6⟩:=h4 j 0 _ _ bH rfl;cases h6;rw[Addr.add_lit];simpa using h5
     have:=run_loadCells_list (P:=P) W a (l.map (Value.int .u8)) hc;rw[l4,<-hlen,<-hn]at this;exact this
   refine⟨_,?_,.c _ rfl⟩;simp only[execOp,hv];rw[Sem.run_bind,run_convert_bytes_string W src t e base n cap hu hue bT4,bT5];rfl
theorem au4:∀(rows:List (List AV)) (n j:Nat) (x:AV),(∀r∈rows,r.length=1)->((rows.take n).flatten)[j]? =some x->∃row,rows[j]? =some row/\row[0]? =some x
 |[],n,j,x,_,h=>by simp at h
 |r::rows,0,j,x,h,h2=>by simp at h2
 |r::rows,n+1,j,x,h,h2=>by
  obtain⟨y,rfl⟩:∃y,r=[y]:=List.length_eq_one_iff.1 (h r (by simp))
  cases j with
  |zero=>simp at h2;exact⟨[y],rfl,by simp[h2]⟩
  |succ j=>
   simp only[G4,Z2,Gb,vE]at h2;obtain⟨row,h3,h4⟩:=au4 rows n j x (fun r hr=>h r (by simp[hr])) h2
   exact⟨row,by simpa using h3,h4⟩
theorem au5:∀(rows:List (List AV)) (n:Nat),(∀r∈rows,r.length=1)->n<=rows.length->((rows.take n).flatten).length=n
 |[],n,_,h=>by simp at h;subst h;rfl
 |r::rows,0,_,_=>by simp
 |r::rows,n+1,h,h2=>by
  rw[G4,Z2,bP,h r (by simp),au5 rows n (fun r hr=>h r (by simp[hr])) (by simpa using h2)]
  omega
theorem bT6{t e:TypeId}{n k:Nat}(ht:sO P t=some (n,e,k))(a:Option Addr)(len cap:Nat)(hl:n<=len)(w:World):(Instr.arrayAt t (.slice a len cap)).run P w= .ok (.pointer a) w:=by
 obtain⟨hu,_⟩:=X4 ht;have:¬len<n:=by omega
 simp[Instr.arrayAt,run_underlying hu,this]
theorem bT7{dst:Option Tmp}{ty:TypeId}{pos:String}{after:Array Edge}{guard:Option (Nat×Bool)}{t e:TypeId}{n:Nat}{x:Operand}{rows:List (List AV)}(ht:sO P t=some (n,e,1))(h0:0<n)(hl:n<=rows.length)(h1:∀r∈rows,r.length=1)(hx:g x=some (.snap rows)):
  eM P g G aF ⟨dst,.sliceToArrayPointer t x,ty,pos,after,guard⟩ (.dD [(rows.take n).flatten] 0 0) G:=
 .still fun E W ρ hG aZ=>by
   have h2:=aZ x _ hx;generalize cJ:ρ x=vx at h2;cases h2 with
   |snap _ b off s m cap vs hn qK hs hL hc Oj=>
    subst hn
    have AP:s=1:=by
     cases rows with
     |nil=>simp at hl;omega
     |cons r rs=>rw[<-hs 0 r rfl];exact h1 r (by simp)
    subst AP;refine⟨_,by simp only[execOp,cJ];rw[Sem.run_bind,bT6 ht _ _ _ hl];rfl,?_⟩
    have bH:∀(i j:Nat) row x,[(rows.take n).flatten][i]? =some row->row[j]? =some x->i=0/\∃r,rows[j]? =some r/\r[0]? =some x:=fun i j row x hi hj=>by
     cases i with
     |zero=>
      simp at hi;subst hi;exact⟨rfl,au4 rows n j x h1 hj⟩
     |succ i=>simp at hi
    have:=RV.dD (E:=E) (W:=W) [(rows.take n).flatten] 0 0 b off n (fun _ j=>vs j 0)
     (fun i row hi=>by
       cases i with
       |zero=>simp at hi;subst hi;exact au5 rows n h1 hl
       |succ i=>simp at hi)
     (by simp only[dK,fJ];omega)
     (fun i j row x hi hj=>by
       obtain⟨rfl,r,h3,h4⟩:=bH i j row x hi hj;have:=hc j 0 r x h3 h4
       simpa using this)
     (fun i j row x hi hj=>by
       obtain⟨rfl,r,h3,h4⟩:=bH i j row x hi hj
       exact Oj j 0 r x h3 h4)
    simpa using this
   |lV a cap=>simp at hl;omega
theorem bT8{dst:Option Tmp}{ty:TypeId}{pos:String}{after:Array Edge}{guard:Option (Nat×Bool)}{t e:TypeId}{k:Nat}{x:Operand}{lo hi:Option Operand}(ht:fG P t=some (e,k))(hx:g x=some (.c (.slice none 0 0)))(hl:iW g 0 lo=some 0)(hh:iW g ((0:Nat):Int) hi=some 0):
  eM P g G aF ⟨dst,.slice t x lo hi none,ty,pos,after,guard⟩ (.c (.slice none 0 0)) G:=
 .still fun E W ρ hG aZ=>by
   have h3:=aZ x _ hx;generalize cJ:ρ x=vx at h3;cases h3;exact⟨_,by simp only[execOp,cJ,KH];rw[Sem.run_bind,X6 aZ ht none 0 0 hl hh (by decide) (by decide) (by decide)];rfl,.c _ rfl⟩
theorem bT9{dst:Option Tmp}{ty:TypeId}{pos:String}{after:Array Edge}{guard:Option (Nat×Bool)}{t e:TypeId}{k n c:Nat}{x:Operand}{a:Option Addr}(ht:fG P t=some (e,k))(hx:g x=some (.c (.slice a n c))):
  eM P g G aF ⟨dst,.call ⟨.builtin .cap,#[x],#[t]⟩,ty,pos,after,guard⟩ (.c (.int .i64 c)) G:=
 .still fun E W ρ hG aZ=>by
   have h2:=aZ x _ hx;generalize cJ:ρ x=vx at h2;cases h2;obtain⟨hu,_⟩:=x9 ht;refine⟨_,?_,.c _ rfl⟩;rw[AR];simp only[builtin,BF,gJ,tK,cJ];simp[Builtin.cap_,run_underlying hu,goInt]
theorem bU0{dst:Option Tmp}{ty:TypeId}{pos:String}{after:Array Edge}{guard:Option (Nat×Bool)}{t tn e:TypeId}{k nZ:Nat}{kq kn:IntKind}{n:Int}{zs:List AV}{x y:Operand}(ht:fG P t=some (e,k))(VI:xF P tn=some kn)(hz:fT P e=some zs)(CE:zs.length=k)(rS:0<k)(rC:qQ P e=some nZ)
  (hx:g x=some (.c (.slice none 0 0))) (hy:g y=some (.c (.int kq n))) (h0:0<n) (MN:n<=9223372036854775807) (DG:n*nZ<=281474976710656):
  eM P g G aF ⟨dst,.call ⟨.builtin .append,#[x,y],#[t,tn]⟩,ty,pos,after,guard⟩ (.own aF 0 n.toNat) (aX G [(aF,some (.cells e k (List.replicate n.toNat zs) true true))]):=fun E W ρ hG gR aZ=>by
 have gQ:=aZ x _ hx;have nJ:=aZ y _ hy;generalize cJ:ρ x=vx at gQ;generalize lE:ρ y=vy at nJ;cases gQ;cases nJ;obtain⟨hu,hk⟩:=x9 ht;obtain⟨i,z,hi,vA,yC⟩:=JK hz;have iH:=Du hi hk;have FG:i.bytes=nZ:=by simp[qQ,hi]at rC;exact rC
 have h8:z.cells.size=k:=by have:=(yC E W).1;simp at this;omega
 obtain⟨m,rfl⟩:=BA (by omega:0<=n)
 simp only[mE]
 have h48:m*i.bytes<=281474976710656:=by
  rw[FG]
  have h9:((m*nZ:Nat):Int)<=281474976710656:=by
   push_cast
   exact DG
  omega
 have hr:=Lib.run_append_nil_zeros (P:=P) W t tn ty e i z kq kn hu (Dq VI) hi vA m (by omega) (by omega) MN h48
 have sZ:=grownCap_ge W m 0 e
 have FH:(Builtin.zeroCells z.cells m++Builtin.zeroCells z.cells (grownCap W m 0 e-m)).size=grownCap W m 0 e*k:=by
  simp only[Tv,size_zeroCells,h8,<-oW];congr 1;omega
 have hmul:m*k<=grownCap W m 0 e*k:=nN k sZ
 have bH:∀(i:Nat) row,(List.replicate m zs)[i]? =some row->i<m/\row=zs:=fun i row hr=>by
  rw[O8]at hr;split at hr
  ·rename_i h;injection hr with hr;exact⟨h,hr.symm⟩
  ·cases hr
 have JN:=hG.drew
 have FI:=JN.alloc gR e (Builtin.zeroCells z.cells m++Builtin.zeroCells z.cells (grownCap W m 0 e-m)) k (List.replicate m zs) true true (fun i row hr=>by rw[(bH i row hr).2];exact CE) (by rw[FH];simpa using hmul) (fun i j row x h5 h6=>by
  obtain⟨h9,rfl⟩:=bH i row h5;obtain⟨v,h7,dY⟩:=(yC E W).get h6;have hj:j<k:=by rw[<-CE];exact(dV.1 h6).1
  have bG:=yA h9 hj;refine⟨v,?_,dY.mono (bE.drew E W)⟩;have J7:(i*k+j) % k=j:=by rw[Z3,aH0];exact wC hj
  have hv:z.cells[j]? =some v:=by simpa using h7
  rw[TP (by rw[size_zeroCells,h8];exact bG)]
  unfold Builtin.zeroCells
  rw[Z4,aH1,if_pos (by rw[h8];exact bG),oU,h8,J7,getElem!_def,hv])
 have hv:=(bE.drew E W).trans (bE.alloc JN gR (.cells (Builtin.zeroCells z.cells m++Builtin.zeroCells z.cells (grownCap W m 0 e-m)) e) k);refine⟨_,.slice (some ⟨W.heap.size,0,none⟩) m (grownCap W m 0 e),_,.inl ?_,hv,FI,?_,fun id h=>h.imp (fun h=>h) (fun e=>⟨e,by simp[aX]⟩)⟩
 ·rw[AR]
  simp only[builtin,BF,gJ,tK,cJ,lE];rw[Sem.run_bind,hr];rfl
 ·have:=RV.own (E:=E.more aF W.drew.heap.size k) (W:=W.drew.alloc (.cells (Builtin.zeroCells z.cells m++Builtin.zeroCells z.cells (grownCap W m 0 e-m)) e)) aF 0 m (grownCap W m 0 e) (.inr rfl) sZ
   ⟨_,e,(0,0),by simp only[Env.more,if_true];exact heap_alloc_new W.drew _,by simp only[Env.more,if_true];rw[FH];simp⟩
  simpa[Env.more]using this
theorem au6{o:Oper}{a:AV}{wr:List (Nat×Option aI)}{rd:List Nat}(h:res P g G aF o=some (a,wr,rd)):eM P g G aF o a (aX G wr):=by
 obtain⟨dst,op,ty,pos,after,guard⟩:=o;unfold res at h;split at h
 ·rename_i x he
  simp only at he;subst he;obtain⟨b,h1,h2⟩:=map_some h;simp only[cD]at h2;obtain⟨rfl,rfl,rfl⟩:=h2;exact bK4 h1
 ·rename_i x he
  simp only at he;subst he;obtain⟨b,h1,h2⟩:=map_some h;simp only[cD]at h2;obtain⟨rfl,rfl,rfl⟩:=h2;exact bK5 h1
 ·rename_i c x y he
  simp only at he;subst he;unfold Ov at h;split at h
  ·rename_i b hb
   split at h
   ·rename_i p q hp hq
    simp only[bC,cD]at h;obtain⟨rfl,rfl,rfl⟩:=h;exact bK6 hb hp hq
   ·split at h
    ·obtain⟨d,h1,h2⟩:=map_some h
     simp only[cD]at h2;obtain⟨rfl,rfl,rfl⟩:=h2;exact Dp hb (fun _=>h1) (fun h=>by cases h)
    ·obtain⟨d,h1,h2⟩:=map_some h
     simp only[cD]at h2;obtain⟨rfl,rfl,rfl⟩:=h2;exact Dp hb (fun h=>by cases h) (fun _=>h1)
  ·cases h
 ·rename_i op' t x y yt he
  simp only at he;subst he;unfold Ox at h;split at h
  ·rename_i a' b' hx hy
   unfold Ow at h;split at h
   ·rename_i OT
    split at h
    ·rename_i ek r ht hr
     obtain⟨d,h1,h2⟩:=map_some h;simp only[cD]at h2;obtain⟨rfl,rfl,rfl⟩:=h2
     have hb:b'= .slice none 0 0:=by
      unfold GK at OT;split at OT
      ·simp only[k6,beq_iff_eq]at OT
       obtain⟨rfl,rfl⟩:=OT;rfl
      ·cases OT
     subst hb;exact bP3 (e:=ek.1) (k:=ek.2) ht hx hy hr h1
    ·cases h
   ·split at h
    ·obtain⟨d,h1,h2⟩:=map_some h
     simp only[cD]at h2;obtain⟨rfl,rfl,rfl⟩:=h2;exact bK7 hx hy h1 (bS5 h1)
    ·cases h
  ·rename_i xs ys hx hy
   split at h
   ·rename_i r hr
    obtain⟨d,h1,h2⟩:=map_some h;simp only[cD]at h2;obtain⟨rfl,rfl,rfl⟩:=h2;exact bO9 hx hy hr h1
   ·cases h
  ·cases h
 ·rename_i op' t x he
  simp only at he;subst he;unfold Oy at h;split at h
  ·rename_i b hx
   simp only[bC,cD]at h;obtain⟨rfl,rfl,rfl⟩:=h;exact bK8 hx
  ·rename_i k n hx
   simp only[bC,cD]at h;obtain⟨rfl,rfl,rfl⟩:=h;exact bK9 hx
  ·rename_i k n hx
   simp only[bC,cD]at h;obtain⟨rfl,rfl,rfl⟩:=h;exact bL0 hx
  ·cases h
 ·rename_i src t x he
  simp only at he;subst he;unfold QT at h;split at h
  ·rename_i k n hx
   unfold Oz at h;simp only[]at h;split at h
   ·rename_i ks kd h1 h2
    simp only[bC,cD]at h;obtain⟨rfl,rfl,rfl⟩:=h;exact bL1 hx (by rw[h1];rfl) h2
   ·cases h
  ·unfold Ec at h
   split at h
   ·rename_i hd
    split at h
    ·rename_i e rows AU hs hb
     split at h
     ·rename_i l he hl
      simp only[bC,cD]at h;obtain⟨rfl,rfl,rfl⟩:=h;cases Pp:g x with
      |none=>rw[Pp]at hb;cases hb
      |some b=>rw[Pp]at hb;exact bT0 hs he hd Pp hb hl
     ·cases h
    ·cases h
   ·cases h
 ·rename_i t x he
  simp only at he;subst he;unfold Pb at h;split at h
  ·rename_i rows hx
   split at h
   ·rename_i n e k ht
    split at h
    ·rename_i hc
     obtain⟨rfl,h1,h2,h3⟩:=hc;simp only[bC,cD]at h;obtain⟨rfl,rfl,rfl⟩:=h;exact bT7 ht h1 h2 (fun r hr=>by simpa using gK.1 h3 r hr) hx
    ·cases h
   ·cases h
  ·cases h
 ·rename_i x i he
  simp only at he;subst he;unfold Pe at h;split at h
  ·rename_i xs hx
   obtain⟨d,h1,h2⟩:=map_some h;simp only[cD]at h2;obtain⟨rfl,rfl,rfl⟩:=h2;exact bL2 hx h1
  ·cases h
 ·rename_i t x f he
  simp only at he;subst he;unfold Pf at h;split at h
  ·rename_i xs hx
   split at h
   ·rename_i off k ft hf
    obtain⟨d,h1,h2⟩:=map_some h;simp only[cD]at h2;obtain⟨rfl,rfl,rfl⟩:=h2;exact bL3 hx hf h1
   ·cases h
  ·cases h
 ·rename_i t x f he
  simp only at he;subst he;unfold Pg at h;split at h
  ·rename_i id i o hx
   split at h
   ·rename_i off k ft hf
    split at h
    ·rename_i hk
     simp only[bC,cD]at h;obtain⟨rfl,rfl,rfl⟩:=h;exact bL4 hx hf hk
    ·cases h
   ·cases h
  ·rename_i rows i o hx
   split at h
   ·rename_i off k ft hf
    split at h
    ·rename_i hk
     simp only[bC,cD]at h;obtain⟨rfl,rfl,rfl⟩:=h;exact bL5 hx hf hk
    ·cases h
   ·cases h
  ·cases h
 ·rename_i t x he
  simp only at he;subst he;unfold QU at h;split at h
  ·rename_i p hx
   split at h
   ·rename_i row o AU hd
    obtain⟨d,h1,h2⟩:=map_some h;simp only[cD]at h2;obtain⟨rfl,rfl,rfl⟩:=h2;exact bL6 hx hd h1
   ·cases h
  ·cases h
 ·rename_i t x y he
  simp only at he;subst he;unfold QV at h;split at h
  ·rename_i id i o a' hx hy
   split at h
   ·rename_i e s rows ap hg
    split at h
    ·rename_i row k hr hk
     split at h
     ·rename_i hc
      simp only[bC,cD]at h;obtain⟨rfl,rfl,rfl⟩:=h;exact bL7 hx hg hr hy hk hc.1 hc.2.1 hc.2.2
     ·cases h
    ·cases h
   ·cases h
  ·cases h
 ·rename_i t x y he
  simp only at he;subst he;unfold QW at h;split at h
  ·rename_i id off len ik i hx hy
   split at h
   ·rename_i e k e' k' rows w ap ht hg
    split at h
    ·rename_i hc
     obtain⟨rfl,h0,h1⟩:=hc;simp only[bC,cD]at h;obtain⟨rfl,rfl,rfl⟩:=h;exact bM6 ht hx hy hg h0 h1
    ·cases h
   ·cases h
  ·rename_i rows ik i hx hy
   split at h
   ·rename_i e k row ht hr
    split at h
    ·rename_i hc
     simp only[bC,cD]at h;obtain⟨rfl,rfl,rfl⟩:=h;exact bM7 ht hx hy hc.1 hr hc.2
    ·cases h
   ·cases h
  ·rename_i id r o ik i hx hy
   split at h
   ·rename_i n e k ht
    split at h
    ·rename_i hc
     simp only[bC,cD]at h;obtain⟨rfl,rfl,rfl⟩:=h;exact bM8 ht hx hy hc.1 hc.2
    ·cases h
   ·cases h
  ·rename_i rows r o ik i hx hy
   split at h
   ·rename_i n e k ht
    split at h
    ·rename_i hc
     simp only[bC,cD]at h;obtain⟨rfl,rfl,rfl⟩:=h;exact bM9 ht hx hy hc.1 hc.2
    ·cases h
   ·cases h
  ·cases h
 ·rename_i t x y he
  simp only at he;subst he;unfold Ph at h;split at h
  ·rename_i xs ik i hx hy
   split at h
   ·rename_i n e k ht
    split at h
    ·rename_i hc
     obtain⟨d,h1,h2⟩:=map_some h;simp only[cD]at h2;obtain⟨rfl,rfl,rfl⟩:=h2;exact bN0 ht hx hy hc.1 hc.2 h1
    ·cases h
   ·cases h
  ·rename_i s ik i hx hy
   split at h
   ·rename_i hc
    obtain⟨d,h1,h2⟩:=map_some h;simp only[cD]at h2;obtain⟨rfl,rfl,rfl⟩:=h2;exact bN1 hc.1 hx hy hc.2 h1
   ·cases h
  ·cases h
 ·rename_i t x lo hi mx he
  simp only at he;subst he;unfold QY at h;split at h
  ·rename_i rows hx
   split at h
   ·rename_i e k l hh m ht hl u5 hm
    split at h
    ·rename_i hc
     simp only[bC,cD]at h;obtain⟨rfl,rfl,rfl⟩:=h;exact bP4 ht hx hl u5 hm hc.1 hc.2.1 hc.2.2.1 hc.2.2.2.1 hc.2.2.2.2
    ·cases h
   ·cases h
  ·rename_i id off len hx
   split at h
   ·rename_i e k e' k' rows w ap l hh m ht hg hl u5 hm
    split at h
    ·rename_i hc
     obtain⟨rfl,hc⟩:=hc;simp only[bC,cD]at h;obtain⟨rfl,rfl,rfl⟩:=h;exact bS4 ht hx hg hl u5 hm hc.1 hc.2.1 hc.2.2.1 hc.2.2.2
    ·cases h
   ·cases h
  ·cases h
 ·rename_i t x lo hi he
  simp only at he;subst he;unfold QX at h;split at h
  ·rename_i hx
   split at h
   ·rename_i q ht hl u5
    simp only[bC,cD]at h;obtain⟨rfl,rfl,rfl⟩:=h;exact bT8 (e:=q.1) (k:=q.2) ht hx hl u5
   ·cases h
  ·rename_i rows hx
   split at h
   ·rename_i e k l hh ht hl u5
    split at h
    ·rename_i hc
     simp only[bC,cD]at h;obtain⟨rfl,rfl,rfl⟩:=h;exact bN8 ht hx hl u5 hc.1 hc.2.1 hc.2.2.1 hc.2.2.2
    ·cases h
   ·cases h
  ·rename_i id off len hx
   split at h
   ·rename_i e k e' k' rows w ap l hh ht hg hl u5
    split at h
    ·rename_i hc
     obtain⟨rfl,hc⟩:=hc;simp only[bC,cD]at h;obtain⟨rfl,rfl,rfl⟩:=h;exact bN9 ht hx hg hl u5 hc.1 hc.2.1 hc.2.2
    ·cases h
   ·cases h
  ·rename_i id i o hx
   split at h
   ·rename_i n e e' k' rows w ap ht hg
    split at h
    ·rename_i row l hh bH hl u5
     split at h
     ·rename_i hc
      simp only[bC,cD]at h;obtain⟨rfl,rfl,rfl⟩:=h;exact bR3 ht hx hg bH hc.1 hl u5 hc.2.1 hc.2.2.1 hc.2.2.2.1 hc.2.2.2.2
     ·cases h
    ·cases h
   ·cases h
  ·rename_i rows i o hx
   split at h
   ·rename_i n e row ht bH
    split at h
    ·rename_i l hh hl u5
     split at h
     ·rename_i hc
      simp only[bC,cD]at h;obtain⟨rfl,rfl,rfl⟩:=h;exact bR6 ht hx bH hc.1 hl u5 hc.2.1 hc.2.2.1 hc.2.2.2.1 hc.2.2.2.2
     ·cases h
    ·cases h
   ·cases h
  ·cases h
 ·rename_i t he
  simp only at he;subst he;obtain⟨d,h1,h2⟩:=map_some h;simp only[cD]at h2;obtain⟨rfl,rfl,rfl⟩:=h2;exact bM1 h1
 ·rename_i t x he
  simp only at he;subst he;obtain⟨d,h1,h2⟩:=map_some h;simp only[cD]at h2;obtain⟨rfl,rfl,rfl⟩:=h2;exact bM2 h1
 ·rename_i t ps he
  simp only at he;subst he;split at h
  ·rename_i zs as hz hb hp
   obtain⟨d,h1,h2⟩:=map_some h;simp only[cD]at h2;obtain⟨rfl,rfl,rfl⟩:=h2;exact bM3 hz hb hp h1
  ·cases h
 ·rename_i t len ps he
  simp only at he;subst he;split at h
  ·rename_i e k as ht hp
   split at h
   ·rename_i zs hz
    split at h
    ·rename_i hc
     obtain⟨d,h1,h2⟩:=map_some h;simp only[cD]at h2;obtain⟨rfl,rfl,rfl⟩:=h2;exact bM5 ht hz hc.1 hc.2 hp h1
    ·cases h
   ·cases h
  ·cases h
 ·rename_i t l c he
  simp only at he;subst he;unfold Pj at h;split at h
  ·rename_i kl l' kc c' hx hy
   split at h
   ·rename_i e k ht
    split at h
    ·rename_i zs nZ hz rC
     split at h
     ·rename_i hc
      simp only[bC,cD]at h;obtain⟨rfl,rfl,rfl⟩:=h;exact bQ9 ht hz hc.1 rC hx hy hc.2.1 hc.2.2.1 hc.2.2.2.1 hc.2.2.2.2
     ·cases h
    ·cases h
   ·cases h
  ·cases h
 ·rename_i t he
  simp only at he;subst he;simp only[bC,cD]at h;obtain⟨rfl,rfl,rfl⟩:=h;exact bQ4
 ·rename_i t x he
  simp only at he;subst he;unfold R4 at h;split at h
  ·rename_i id hm
   split at h
   ·rename_i es p hg ht
    simp only[bC,cD]at h;obtain⟨rfl,rfl,rfl⟩:=h;obtain⟨kt,e,d⟩:=p;exact bQ5 ht hm hg
   ·cases h
  ·cases h
 ·rename_i x he
  simp only at he;subst he;unfold R5 at h;split at h
  ·rename_i id hx
   split at h
   ·rename_i m n seen hg
    split at h
    ·rename_i i es hs hm
     split at h
     ·rename_i k a' FL
      split at h
      ·rename_i hc
       simp only[bC,cD]at h;obtain⟨rfl,rfl,rfl⟩:=h;obtain⟨d,hd⟩:=au1 hc.2
       obtain⟨s0,rfl⟩:∃s0,seen=s0++[i]:=by
        rw[List.getLast?_eq_some_iff]at hs;exact hs
       exact bQ6 hx hg hm hc.1 FL hd
      ·cases h
     ·cases h
    ·cases h
   ·cases h
  ·cases h
 ·rename_i t m x ok he
  simp only at he;subst he;unfold QZ at h;split at h
  ·rename_i id xa hm hx
   split at h
   ·rename_i kv es kt e d MT hg ht
    split at h
    ·rename_i z hz
     split at h
     ·rename_i hc
      simp only[bC,cD]at h;obtain⟨rfl,rfl,rfl⟩:=h;exact bP9 ht hz hm hg hx MT hc.1 hc.2
     ·cases h
    ·cases h
   ·cases h
  ·cases h
 ·rename_i t m x y he
  simp only at he;subst he;unfold R3 at h;split at h
  ·rename_i id xa a' hm hx hy
   split at h
   ·rename_i kv es kt e d MT hg ht
    split at h
    ·rename_i hc
     simp only[bC,cD]at h;obtain⟨rfl,rfl,rfl⟩:=h;exact bQ2 ht hm hg hx MT hy hc.1 hc.2
    ·cases h
   ·cases h
  ·cases h
 ·rename_i fn first captured he
  simp only at he;subst he;split at h
  ·rename_i fs cs hf hc
   simp only[bC,cD]at h;obtain⟨rfl,rfl,rfl⟩:=h;exact bR2 hf hc
  ·cases h
 ·rename_i t x he
  simp only at he;subst he;unfold Pk at h;split at h
  ·rename_i v ht hv
   simp only[bC,cD]at h;obtain⟨rfl,rfl,rfl⟩:=h;cases hx:g x with
   |none=>simp[hx]at hv
   |some a=>exact bS6 ht hx (by simpa[hx]using hv)
  ·cases h
 ·rename_i x xt t ok he
  simp only at he;subst he;unfold Pl at h;split at h
  ·rename_i t' v hx
   split at h
   ·rename_i ht
    split at h
    ·rename_i hte
     subst hte;obtain⟨d,h1,h2⟩:=map_some h;simp only[cD]at h2;obtain⟨rfl,rfl,rfl⟩:=h2;exact bS7 ht hx h1
    ·rename_i aJ
     obtain⟨rfl,z,hz,h2⟩:=au2 h;simp only[cD]at h2;obtain⟨rfl,rfl,rfl⟩:=h2;exact bS8 ht hx aJ hz
   ·cases h
  ·rename_i hx
   split at h
   ·rename_i ht
    obtain⟨rfl,z,hz,h2⟩:=au2 h;simp only[cD]at h2;obtain⟨rfl,rfl,rfl⟩:=h2;exact bS9 ht hx hz
   ·cases h
  ·cases h
 ·rename_i x he
  simp only at he;subst he;split at h
  ·rename_i id i o hx
   simp only[bC,cD]at h;obtain⟨rfl,rfl,rfl⟩:=h;exact bR0 hx
  ·rename_i rows i o hx
   simp only[bC,cD]at h;obtain⟨rfl,rfl,rfl⟩:=h;exact bR1 hx
  ·cases h
 ·rename_i b as ts he
  simp only at he;subst he;obtain⟨as⟩:=as;obtain⟨ts⟩:=ts;unfold Ed at h;split at h
  ·rename_i a' t h1 h2
   simp only at h1 h2
   obtain⟨x,rfl,hx⟩:∃x,as=[x]/\g x=a':=by
    cases as with
    |nil=>simp at h1
    |cons x r=>cases r<;>simp_all
   subst h2;unfold R6 at h;split at h
   ·rename_i id
    split at h
    ·rename_i es q hg ht
     obtain⟨kt,e,d⟩:=q;simp only[bC,cD]at h;obtain⟨rfl,rfl,rfl⟩:=h;exact bQ0 ht hx hg
    ·cases h
   ·rename_i s
    split at h
    ·rename_i hc
     simp only[bC,cD]at h;obtain⟨rfl,rfl,rfl⟩:=h;exact bN5 hc hx
    ·cases h
   ·rename_i b' _
    split at h
    ·rename_i q n ht hn
     obtain⟨e,k⟩:=q;simp only[bC,cD]at h;obtain⟨rfl,rfl,rfl⟩:=h;exact bN4 ht hx hn
    ·cases h
   ·cases h
  ·rename_i _ a' b' h1
   simp only at h1
   obtain⟨x,y,rfl,hx,hy⟩:∃x y,as=[x,y]/\g x=a'/\g y=b':=by
    cases as with
    |nil=>simp at h1
    |cons x r=>cases r with
     |nil=>simp at h1
     |cons y r=>cases r with
      |nil=>simp at h1;exact⟨x,y,rfl,h1.1,h1.2⟩
      |cons z r=>simp at h1
   unfold XB at h;split at h
   ·simp only[bC,cD]at h
    obtain⟨rfl,rfl,rfl⟩:=h;exact bN6 hx hy
   ·cases h
  ·rename_i _ a' b' h1
   simp only at h1
   obtain⟨x,y,rfl,hx,hy⟩:∃x y,as=[x,y]/\g x=a'/\g y=b':=by
    cases as with
    |nil=>simp at h1
    |cons x r=>cases r with
     |nil=>simp at h1
     |cons y r=>cases r with
      |nil=>simp at h1;exact⟨x,y,rfl,h1.1,h1.2⟩
      |cons z r=>simp at h1
   unfold XB at h;split at h
   ·simp only[bC,cD]at h
    obtain⟨rfl,rfl,rfl⟩:=h;exact bN7 hx hy
   ·cases h
  ·rename_i a' b' t t' h1 h2
   simp only at h1 h2
   obtain⟨x,y,rfl,hx,hy⟩:∃x y,as=[x,y]/\g x=a'/\g y=b':=by
    cases as with
    |nil=>simp at h1
    |cons x r=>cases r with
     |nil=>simp at h1
     |cons y r=>cases r with
      |nil=>simp at h1;exact⟨x,y,rfl,h1.1,h1.2⟩
      |cons z r=>simp at h1
   subst h2;split at h
   ·rename_i ht
    subst ht;unfold R7 at h;split at h
    ·rename_i id n b
     split at h
     ·rename_i e k rows w bA AU e' k' hg hb ht
      split at h
      ·rename_i zs nZ hz rC
       split at h
       ·rename_i hc
        obtain⟨rfl,rfl,h3,h4,h5,h6,h7⟩:=hc;simp only[bC,cD]at h;obtain⟨rfl,rfl,rfl⟩:=h;exact bO7 ht hz h3 rC hx hg h4 hy hb h5 h6 h7
       ·cases h
      ·cases h
     ·cases h
    ·rename_i b
     split at h
     ·rename_i bA AU e k hb ht
      split at h
      ·rename_i IJ
       simp only[bC,cD]at h;obtain⟨rfl,rfl,rfl⟩:=h;have:bA=[]:=by simpa using IJ
       subst this;exact bQ7 ht hx hy hb
      ·rename_i IJ
       split at h
       ·rename_i zs nZ hz rC
        split at h
        ·rename_i hc
         obtain⟨h3,h4,h5,h6⟩:=hc;simp only[bC,cD]at h;obtain⟨rfl,rfl,rfl⟩:=h;exact bQ8 ht hz h3 rC hx hy hb (by simpa using IJ) h4 h5 h6
        ·cases h
       ·cases h
     ·cases h
    ·cases h
   ·unfold Pd at h
    split at h
    ·rename_i k n
     split at h
     ·rename_i e k' kn ht VI
      split at h
      ·rename_i zs nZ hz rC
       split at h
       ·rename_i hc
        obtain⟨h3,h4,h5,h6,h7⟩:=hc;simp only[bC,cD]at h;obtain⟨rfl,rfl,rfl⟩:=h;exact bU0 ht VI hz h3 h4 rC hx hy h5 h6 h7
       ·cases h
      ·cases h
     ·cases h
    ·cases h
  ·rename_i a' t h1 h2
   simp only at h1 h2
   obtain⟨x,rfl,hx⟩:∃x,as=[x]/\g x=a':=by
    cases as with
    |nil=>simp at h1
    |cons x r=>cases r<;>simp_all
   subst h2;unfold Pc at h;split at h
   ·split at h
    ·rename_i q ht
     simp only[bC,cD]at h;obtain⟨rfl,rfl,rfl⟩:=h;exact bT9 (e:=q.1) (k:=q.2) ht hx
    ·cases h
   ·cases h
  ·rename_i _ a' b' t t' h1 h2
   simp only at h1 h2
   obtain⟨x,y,rfl,hx,hy⟩:∃x y,as=[x,y]/\g x=a'/\g y=b':=by
    cases as with
    |nil=>simp at h1
    |cons x r=>cases r with
     |nil=>simp at h1
     |cons y r=>cases r with
      |nil=>simp at h1;exact⟨x,y,rfl,h1.1,h1.2⟩
      |cons z r=>simp at h1
   subst h2;unfold R8 at h;split at h
   ·rename_i id off len b
    split at h
    ·rename_i e k rows ap bA AU e' k' hg hb ht
     split at h
     ·rename_i hc
      obtain⟨rfl,rfl,h3,h4⟩:=hc;simp only[bC,cD]at h;obtain⟨rfl,rfl,rfl⟩:=h;exact bR7 ht hx hg h3 hy hb h4
     ·cases h
    ·cases h
   ·rename_i id i o len b
    split at h
    ·rename_i e s rows ap bA AU e' hg hb ht
     split at h
     ·rename_i row bH
      split at h
      ·rename_i hc
       simp only[bC,cD]at h;obtain⟨rfl,rfl,rfl⟩:=h;exact bS1 ht hx hg bH hc.1 hy hb hc.2
      ·cases h
     ·cases h
    ·cases h
   ·cases h
  ·cases h
 ·cases h
end
end Go.AL
